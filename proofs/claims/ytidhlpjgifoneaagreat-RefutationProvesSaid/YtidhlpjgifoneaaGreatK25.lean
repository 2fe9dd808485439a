/- What some functions compute, over plain values. -/
import Derived.Test.YtidhlpjgifoneaaGreatK24
set_option linter.unusedVariables false
set_option linter.unusedSimpArgs false
set_option maxRecDepth 100000
set_option maxHeartbeats 8000000
namespace Go.Proofs.YtidhlpjgifoneaaGreat
open Go.RowKit
noncomputable section
instance y1m {n a0 a1 a2 a3 a4}:CI E0 (z9z n a0 a1 a2 a3 a4) false 160 [.ref [aI a0.fa.fVars,aI a0.fa.fScopes,.sl 1 (a0.fa.fStates.map z0p),.sl 17 (a0.fa.fEdges.map z0w),.mapv (List.map (zdj z19 z02) (a0.fheld))],z01 a1,z0w a2,zcp a3,z02 a4] (fun r=>.tup [z01 r.1,.bool (r.2)]):=⟨fun {r} hF=>by
 unfold z9z at hF
 refine cw Tryz.func160 ?_
 repeat' first
  |refine AW.jI hF (fun v hF=>?_) fun hF=>?_
  |refine AW.regO hF fun hF=>?_
  |refine AW.stepU [1] ?_;conv=>whnf
  |refine z14.o hF (fun hF=>?_) fun hF=>?_
  |refine z14.t ?_
  |refine z1q.oR hF (fun r=>r) z08 zmd rfl (fun a h=>ztm h) (fun a hF=>?_)
  |refine zar.I hF (fun a hF=>?_) rfl rfl fun _=>Or.inr rfl
  |refine z1q.oR hF (fun r=>r) (fun q=>AV.sl 5 (List.map z02 q)) (fun _=>AV.row 0) rfl (fun a h=>y1u h) (fun a hF=>?_)
  |refine zes.o (fun q=>AV.sl 5 (List.map z02 q)) hF fun x hF=>?_
  |refine z1q.oR hF (fun r=>r) z02 (fun _=>AV.row 0) rfl (fun a h=>y1t h) (fun a hF=>?_)
  |refine zk3.oA hF fun l hF=>?_
  |refine zqo.o hF (fun m hF=>?_)
  |refine OpX.str z02 hF rfl rfl rfl rfl rfl rfl rfl rfl rfl rfl rfl (fun l hF=>?_)
  |refine zar.oM (z7a 96 hF) [(100000,7),(200001,52)] [(260000,97000000),(100000,7)] _ _ zcs zfh [52] (fun a h=>zdm.up (zm3 h)) (z0x Tryz.func193 rfl rfl) rfl rfl rfl ⟨⟨rfl,rfl⟩,⟨⟨rfl,rfl⟩,trivial⟩⟩ (fun a=>⟨rfl,rfl,rfl,rfl,rfl,rfl,rfl,rfl⟩) (fun a hF=>?_)
  |refine z1q.oR hF (fun r=>r) z0b (fun _=>AV.row 0) rfl (fun a h=>zqh h) (fun a hF=>?_)
  |refine z1q.I hF fun a hF=>?_
  |refine zes.oD hF z40 (fun x hF=>?_)
  |refine zar.o hF y7o (fun a h=>Con.sub (by repeat' first|exact Sub.nil _|exact Sub.refl _|refine Sub.agg ?_|refine Sub.tup ?_|refine Sub.fn ?_|exact zaf.nil|refine zaf.cons ?_ ?_|refine Sub.sl _ ?_|exact zhc.nil|refine zhc.cons ?_ ?_) (zwc.h h)) (fun _=>Or.inr rfl) (fun a hF=>?_)
  |exact ⟨_,hF,LeX.a []⟩
  |refine z8f.I hF (LeX.a []) fun m v hF=>?_
  |refine OpX.nckR rfl rfl rfl rfl ?_
  |refine zes.A hF fun x hF=>?_
  |refine And.intro ⟨by kernel_rfl,by kernel_rfl⟩ ?_
  |exact zei.oB hF⟩
def zi0 (yl_l:Nat)(yl_T:Array Value)(m4:z03)(m3:z00)(m2:z0m)(x1:z0i)(b:Int×(List z00)×(List z06)):AS:=⟨[(0,.yld yl_l yl_T [.any,.any,.any,.any,.any,.any,.any,.any,.ptr 100000 0,.ptr 100001 0]),(1,.ptr 100002 0),(2,.ptr 100003 0),(3,.ptr 100004 0),(5,.ptr 5 0),(39,.sl 17 (m2.fa.fEdges.map z0w)),(40,aI (((m2.fa.fEdges.map z0w).length:Int))),(41,aI (b.1))],[(100000,.box 57 [.row 33000001]),(100001,.box 50 [.row 33000003]),(100002,.box 137 [.ref [aI (m2.fa.fVars),aI (m2.fa.fScopes),.sl 1 (m2.fa.fStates.map z0p),.sl 17 (m2.fa.fEdges.map z0w),.mapv (List.map (zdj z19 z02) (m2.fheld))]]),(100003,.box 60 [aI (m3.fState),.sl 4 (m3.fBindings.map z0b),.sl 2 (m3.fStarts.map z08)]),(100004,.box 71 [aI (m4.fSource),aI (m4.fSeq),aI (m4.fType),aI (m4.fTime),.sl 3 (m4.fValues.map z09)]),(5,.box 220 [.sl 1 (List.map (fun q=>AV.sl 5 (List.map z02 q)) (x1.fVars))]),(33000001,.row 60 3 (b.2.1.map z01)),(33000003,.row 44 1 (b.2.2.map z0c))]⟩
theorem zhx {n yl_l yl_R yl_T m4 m3 m2 x1 b}:ypl (E0y yl_l yl_R 4) 67 (z1l n m4 m3 m2 x1 b) (zi0 yl_l yl_T m4 m3 m2 x1):=LoopA.oT fun _=>rfl
def zhz (yl_l:Nat)(yl_T:Array Value)(m4:z03)(m3:z00)(m2:z0m)(x1:z0i)(b:Int×(List z00)×(List z06)):AS:=⟨[(0,.yld yl_l yl_T [.any,.any,.any,.any,.any,.any,.any,.any,.ptr 100000 0,.ptr 100001 0]),(1,.ptr 100002 0),(2,.ptr 100003 0),(3,.ptr 100004 0),(5,.ptr 5 0),(39,.sl 17 (m2.fa.fEdges.map z0w)),(40,aI (((m2.fa.fEdges.map z0w).length:Int))),(41,aI (b.1))],[(100000,.box 57 [.row 200000]),(100001,.box 50 [.row 200001]),(100002,.box 137 [.ref [aI (m2.fa.fVars),aI (m2.fa.fScopes),.sl 1 (m2.fa.fStates.map z0p),.sl 17 (m2.fa.fEdges.map z0w),.mapv (List.map (zdj z19 z02) (m2.fheld))]]),(100003,.box 60 [aI (m3.fState),.sl 4 (m3.fBindings.map z0b),.sl 2 (m3.fStarts.map z08)]),(100004,.box 71 [aI (m4.fSource),aI (m4.fSeq),aI (m4.fType),aI (m4.fTime),.sl 3 (m4.fValues.map z09)]),(5,.box 220 [.sl 1 (List.map (fun q=>AV.sl 5 (List.map z02 q)) (x1.fVars))]),(200000,.row 60 3 (b.2.1.map z01)),(200001,.row 44 1 (b.2.2.map z0c))]⟩
theorem zhw {n yl_l yl_R yl_T m4 m3 m2 x1 b}:ypl (E0y yl_l yl_R 4) 67 (z1k n m4 m3 m2 x1 b) (zhz yl_l yl_T m4 m3 m2 x1):=LoopA.oT fun _=>rfl
def ziv (m0:(List z00))(m1:(List z06))(m2:z0m)(m3:z00)(m4:z03):List (Nat×Ent):=[(100000,.box 57 [.row 200000]),(200000,.row 60 3 (m0.map z01)),(100001,.box 50 [.row 200001]),(200001,.row 44 1 (m1.map z0c)),(100002,.box 137 [.ref [aI m2.fa.fVars,aI m2.fa.fScopes,.sl 1 (m2.fa.fStates.map z0p),.sl 17 (m2.fa.fEdges.map z0w),.mapv (List.map (zdj z19 z02) (m2.fheld))]]),(100003,.box 60 (z11 m3)),(100004,.box 71 (z16 m4))]
def z74 (r:(List z00)×(List z06)×z0m×z00×z03):List (Nat×Ent):=[(100000,.box 57 [.row 250000]),(250000,.row 60 3 (r.1.map z01)),(100001,.box 50 [.row 250001]),(250001,.row 44 1 (r.2.1.map z0c)),(100002,.box 137 [.ref [aI r.2.2.1.fa.fVars,aI r.2.2.1.fa.fScopes,.sl 1 (r.2.2.1.fa.fStates.map z0p),.sl 17 (r.2.2.1.fa.fEdges.map z0w),.mapv (List.map (zdj z19 z02) (r.2.2.1.fheld))]]),(100003,.box 60 (z11 r.2.2.2.1)),(100004,.box 71 (z16 r.2.2.2.2))]
def zc6 (r:(List z00)×(List z06)×z0m×z00×z03):AV:=.tup []
def zg1 (yl_l:Nat)(yl_T:Array Value)(r:(List z00)×(List z06)×z0m×z00×z03):AS:=⟨[(0,.yld yl_l yl_T [.any,.any,.any,.any,.any,.any,.any,.any,.ptr 100000 0,.ptr 100001 0]),(1,.ptr 100002 0),(2,.ptr 100003 0),(3,.ptr 100004 0)],z74 r⟩
theorem zia {n m0 m1 m2 m3 m4 r}(hF:z78 n m0 m1 m2 m3 m4=some r)(yl_l:Nat)(yl_R:Obj)(yl_T:Array Value)(hY:∀ {n:Nat} {a0:z00} {m0:(List z00)} {m1:(List z06)} {r:(List z00)×(List z06)},z7q n a0 m0 m1=some r->zdm E0.P (some (yl_l,yl_R)) (fun vs cs w R=>cs=yl_T->ys4 E0.P yl_l vs cs w R) [z01 a0] [.any,.any,.any,.any,.any,.any,.any,.any,.ptr 100000 0,.ptr 100001 0] (zkf m0 m1) (.bool true) (z4v r)):zdm E0.P (some (yl_l,yl_R)) (zpe E0.P 156 0) [.yld yl_l yl_T [.any,.any,.any,.any,.any,.any,.any,.any,.ptr 100000 0,.ptr 100001 0],.ptr 100002 0,.ptr 100003 0,.ptr 100004 0] [] (ziv m0 m1 m2 m3 m4) (zc6 r) (z74 r):=by
 unfold z78 at hF
 refine zdm.walk (E:=(E0y yl_l yl_R 4)) (caps:=[]) _ Tryz.func156 rfl rfl rfl rfl rfl ?_
 repeat' first
  |refine AW.step ?_;conv=>whnf
  |refine z14.o hF (fun hF=>?_) fun hF=>?_
  |refine z14.f ?_
  |refine z1q.I hF fun a hF=>?_
  |refine OpX.nckR rfl rfl rfl rfl ?_
  |refine zes.A hF fun x hF=>?_
  |refine zar.I hF (fun a hF=>?_) rfl rfl fun _=>Or.inr rfl
  |refine yps.oM (z7a 32 hF) [(100000,100000),(200000,200000),(100001,100001),(200001,200001)] [(100000,100000),(250000,33000001),(100001,100001),(250001,33000003)] _ _ _ z4v (fun _=>AV.bool true) [200000,200001] (fun a h=>hY h) rfl rfl rfl rfl rfl ⟨⟨rfl,rfl⟩,⟨⟨rfl,rfl⟩,⟨⟨rfl,rfl⟩,⟨⟨rfl,rfl⟩,trivial⟩⟩⟩⟩ (fun a=>⟨rfl,rfl,rfl,rfl,rfl,rfl,rfl,rfl⟩) (fun a hF=>?_)
  |refine GX.o (res:=zc6) (meF:=z74) hF ?_;exact GX.mk (zg1 yl_l yl_T _) (LeX.a [(250000,33000001),(250001,33000003)]) rfl _ rfl (by repeat' first|exact Sub.nil _|exact Sub.refl _|refine Sub.agg ?_|refine Sub.tup ?_|refine Sub.fn ?_|exact zaf.nil|refine zaf.cons ?_ ?_|refine Sub.sl _ ?_|exact zhc.nil|refine zhc.cons ?_ ?_) [100000,100001] ⟨Or.inl ⟨0,0,8,_,_,_,_,_,_,rfl,rfl,rfl,rfl,rfl⟩,⟨Or.inl ⟨0,0,9,_,_,_,_,_,_,rfl,rfl,rfl,rfl,rfl⟩,trivial⟩⟩ rfl
  |exact ⟨_,hF,LeX.a []⟩
  |refine yps.oM (z7a 63 hF) [(100000,100000),(200000,33000001),(100001,100001),(200001,33000003)] [(100000,100000),(250000,64000001),(100001,100001),(250001,64000003)] _ _ _ z4v (fun _=>AV.bool true) [33000001,33000003] (fun a h=>hY h) rfl rfl rfl rfl rfl ⟨⟨rfl,rfl⟩,⟨⟨rfl,rfl⟩,⟨⟨rfl,rfl⟩,⟨⟨rfl,rfl⟩,trivial⟩⟩⟩⟩ (fun a=>⟨rfl,rfl,rfl,rfl,rfl,rfl,rfl,rfl⟩) (fun a hF=>?_)
  |exact ⟨_,hF,LeX.a [(33000001,64000001),(33000003,64000003)]⟩
  |refine zhx hF (LeX.a []) (fun m v hF=>?_);unfold z1l at hF
  |refine GX.o (res:=zc6) (meF:=z74) hF ?_;exact GX.mk (zg1 yl_l yl_T _) (LeX.a [(250000,200000),(250001,200001)]) rfl _ rfl (by repeat' first|exact Sub.nil _|exact Sub.refl _|refine Sub.agg ?_|refine Sub.tup ?_|refine Sub.fn ?_|exact zaf.nil|refine zaf.cons ?_ ?_|refine Sub.sl _ ?_|exact zhc.nil|refine zhc.cons ?_ ?_) [100000,100001] ⟨Or.inl ⟨0,0,8,_,_,_,_,_,_,rfl,rfl,rfl,rfl,rfl⟩,⟨Or.inl ⟨0,0,9,_,_,_,_,_,_,rfl,rfl,rfl,rfl,rfl⟩,trivial⟩⟩ rfl
  |refine yps.oM (z7a 63 hF) [(100000,100000),(200000,200000),(100001,100001),(200001,200001)] [(100000,100000),(250000,64000001),(100001,100001),(250001,64000003)] _ _ _ z4v (fun _=>AV.bool true) [200000,200001] (fun a h=>hY h) rfl rfl rfl rfl rfl ⟨⟨rfl,rfl⟩,⟨⟨rfl,rfl⟩,⟨⟨rfl,rfl⟩,⟨⟨rfl,rfl⟩,trivial⟩⟩⟩⟩ (fun a=>⟨rfl,rfl,rfl,rfl,rfl,rfl,rfl,rfl⟩) (fun a hF=>?_)
  |exact ⟨_,hF,LeX.a [(200000,64000001),(200001,64000003)]⟩
  |refine zhw hF (LeX.a []) (fun m v hF=>?_);unfold z1k at hF
  |refine And.intro ⟨by kernel_rfl,by kernel_rfl⟩ ?_
instance ya2 {n a0 a1}:CI E0 (zci n a0 a1) true 130 [z0c a0,z0c a1,.ref [.fn 92 []]] (fun r=>.bool (r)):=by unfold zci;exact CI.w [] Tryz.func130
@[reducible,instance] def zr6 {n d c}:=li (z2r n d c) (fun b=>⟨[(0,.row 200000),(1,.fn 130 [.ref [.fn 92 []]]),(5,aI b.1),(6,.der (.sub 1 (d)) 200000),(7,aI b.2.1)],[(200000,.row 44 1 (b.2.2.map z0c))]⟩) fun _ _=>z2r.eq_2 ..
@[reducible,instance] def zr7 {n m0 b}:=li (z4f n m0 b) (fun c=>⟨[(0,.row 200000),(1,.fn 130 [.ref [.fn 92 []]]),(5,aI c)],[(200000,.row 44 1 (m0.map z0c))]⟩) fun _ _=>z4f.eq_2 ..
def zk2 (m0:(List z06)):List (Nat×Ent):=[(200000,.row 44 1 (m0.map z0c))]
def z96 (r:(List z06)):List (Nat×Ent):=[(260000,.row 44 1 (r.map z0c))]
def zbc (r:(List z06)):AV:=.row 260000
def zgy (r:(List z06)):AS:=⟨[(4,.row 260000)],z96 r⟩
theorem zj8 {n m0 r}(hF:z9a n m0=some r):zdm E0.P none (zpe E0.P 129 0) [.row 200000,.fn 130 [.ref [.fn 92 []]]] [] (zk2 m0) (zbc r) (z96 r):=by
 unfold z9a at hF
 refine zdm.walk (E:=(E0p 2)) (caps:=[]) _ Tryz.func129 rfl rfl rfl rfl rfl ?_
 repeat' first
  |refine AW.step ?_;conv=>whnf
  |refine z14.o hF (fun hF=>?_) fun hF=>?_
  |exact GX.A (res:=zbc) (meF:=z96) hF zgy (h1:=LeX.a [(260000,200000)])
  |refine zqo.o hF (fun m hF=>?_)
  |refine yev.o z0c hF (fun x hF=>?_)
  |refine z1q.I hF fun a hF=>?_
  |refine OpX.sub hF rfl rfl rfl rfl rfl rfl rfl rfl rfl rfl (fun m hF=>?_)
  |refine OpX.clr z0c hF rfl rfl rfl rfl rfl rfl rfl rfl rfl rfl rfl (by first|exact zaf.refl _|(repeat' first|exact zaf.nil|refine zaf.cons ?_ ?_|exact Sub.refl _|exact Sub.nil _|refine Sub.agg ?_)) (fun l hF=>?_)
  |refine y3v.o z0c hF (fun l hF=>?_)
  |exact GX.A (res:=zbc) (meF:=z96) hF zgy (h1:=LeX.a [(260000,64)])
  |refine OpX.lns hF rfl rfl rfl rfl rfl rfl rfl (fun hF=>?_)
  |refine OpX.ixs hF rfl rfl rfl rfl rfl rfl rfl rfl rfl rfl (fun m hF=>?_)
  |refine ynd.o z0c hF (fun x=>rfl) (fun x=>(by first|exact zaf.refl _|(repeat' first|exact zaf.nil|refine zaf.cons ?_ ?_|exact Sub.refl _|exact Sub.nil _|refine Sub.agg ?_))) (fun l hF=>?_)
  |exact ⟨_,hF,LeX.a []⟩
  |refine z8f.I hF (LeX.a []) fun m v hF=>?_
  |refine And.intro ⟨by kernel_rfl,by kernel_rfl⟩ ?_
  |refine EqX.A ?_
def zq0 (m0:(List z06)):List (Nat×Ent):=[(200000,.row 44 1 (m0.map z0c))]
def zf0 (r:(List z06)):List (Nat×Ent):=[(260000,.row 44 1 (r.map z0c))]
def zgp (r:(List z06)):AV:=.row 260000
def zpy (r:(List z06)):AS:=⟨[(4,.row 260000)],zf0 r⟩
theorem zj9 {n m0 r}(hF:zb6 n m0=some r):zdm E0.P none (zpe E0.P 91 0) [.row 200000,.fn 92 []] [] (zq0 m0) (zgp r) (zf0 r):=by
 unfold zb6 at hF
 refine zdm.walk (E:=(E0p 2)) (caps:=[]) _ Tryz.func91 rfl rfl rfl rfl rfl ?_
 repeat' first
  |refine AW.frbO hF 3 rfl rfl (fun hF=>?_)
  |refine AW.regO hF fun hF=>?_
  |refine AW.stepU [2] ?_;conv=>whnf
  |refine zar.oI hF 200000 (fun r=>r) z0c (fun _=>AV.tup []) rfl (fun a h=>(y28.env rfl (ydc h))) rfl rfl rfl (fun a hF=>?_)
  |refine zar.oM (z7a 10 hF) [(200000,200000)] [(260000,11000000)] _ _ z96 zbc [200000] (fun a h=>zdm.up (zj8 h)) (z0x Tryz.func129 rfl rfl) rfl rfl rfl ⟨⟨rfl,rfl⟩,trivial⟩ (fun a=>⟨rfl,rfl,rfl,rfl,rfl,rfl,rfl,rfl⟩) (fun a hF=>?_)
  |exact GX.A (res:=zgp) (meF:=zf0) hF zpy (h1:=LeX.a [(260000,11000000)])
@[reducible,instance] def zxk {n a2 a1 a0 c}:=li (z7p n a2 a1 a0 c) (fun b=>⟨[(0,.ref [aI a0.fa.fVars,aI a0.fa.fScopes,.sl 1 (a0.fa.fStates.map z0p),.sl 17 (a0.fa.fEdges.map z0w),.mapv (List.map (zdj z19 z02) (a0.fheld))]),(5,.ptr 5 0),(8,.ptr 8 0),(9,.ptr 9 0),(13,.sl 3 (a1.map z01)),(14,aI (((a1.map z01).length:Int))),(15,aI b.1)],[(5,.box 71 (z16 a2)),(8,.box 57 [.row 811000001]),(9,.box 50 [.row 811000003]),(811000001,.row 60 3 (b.2.1.map z01)),(811000003,.row 44 1 (b.2.2.map z0c))]⟩) fun _ _=>z7p.eq_2 ..
instance y1n {n a0 a1 a2}:CI E0 (z5f n a0 a1 a2) false 85 [.ref [aI a0.fa.fVars,aI a0.fa.fScopes,.sl 1 (a0.fa.fStates.map z0p),.sl 17 (a0.fa.fEdges.map z0w),.mapv (List.map (zdj z19 z02) (a0.fheld))],.sl 3 (a1.map z01),z02 a2] (fun r=>.tup [.sl 3 (r.1.map z01),.sl 1 (r.2.map z0c)]):=⟨fun {r} hF=>by
 unfold z5f at hF
 refine Con.walkM (E:=E0r) _ Tryz.func85 rfl (z0x Tryz.func85 rfl rfl) rfl (Or.inl rfl) ?_ rfl rfl rfl
 repeat' first
  |refine AW.step ?_;conv=>whnf
  |refine z14.o hF (fun hF=>?_) fun hF=>?_
  |refine zar.oM (z7a 39 hF) [(200000,811000001)] [(260000,40000000)] _ _ zib zjv [811000001] (fun a h=>zdm.up (znk h)) (z0x Tryz.func121 rfl rfl) rfl rfl rfl ⟨⟨rfl,rfl⟩,trivial⟩ (fun a=>⟨rfl,rfl,rfl,rfl,rfl,rfl,rfl,rfl⟩) (fun a hF=>?_)
  |refine zar.oM (z7a 41 hF) [(200000,811000003)] [(260000,42000000)] _ _ zf0 zgp [811000003] (fun a h=>zdm.up (zj9 h)) (z0x Tryz.func91 rfl rfl) rfl rfl rfl ⟨⟨rfl,rfl⟩,trivial⟩ (fun a=>⟨rfl,rfl,rfl,rfl,rfl,rfl,rfl,rfl⟩) (fun a hF=>?_)
  |refine zes.A hF fun x hF=>?_
  |refine z1q.oM (z7a 22 hF) [] [(3,23000000),(4,23000001),(5,23000002)] _ _ zdo zg6 [] (fun a h=>zdm.up (zku h)) (z0x Tryz.func120 rfl rfl) rfl rfl rfl trivial (fun a=>⟨rfl,rfl,rfl,rfl,rfl,rfl,rfl,rfl⟩) (fun a hF=>?_)
  |refine zk3.oA hF fun l hF=>?_
  |refine BX.o (meF:=z4v) hF ?_;exact BX.mk (zh9 _) (LeX.a [(250000,200000),(250001,32)]) rfl rfl
  |refine BX.o (meF:=z4v) hF ?_;exact BX.mk (zh9 _) (LeX.a [(250000,36),(250001,200001)]) rfl rfl
  |refine ysc.oM (z7a 810 hF) [(100000,8),(100001,9),(100002,23000000),(100003,23000001),(100004,23000002),(200000,811000001),(200001,811000003)] [(100000,8),(250000,811500001),(100001,9),(250001,811500003),(100002,23000000),(100003,23000001),(100004,23000002)] _ _ _ z74 [811000001,811000003] (fun x h l D fn T hT=>zia h l _ T (fun hF=>zdm.round (E:=E0p 10) rfl rfl rfl rfl rfl rfl ?_ l D fn T hT)) (z0x Tryz.func156 rfl rfl) rfl rfl rfl rfl rfl ⟨⟨rfl,rfl⟩,⟨⟨rfl,rfl⟩,trivial⟩⟩ ⟨⟨rfl,rfl⟩,⟨⟨rfl,rfl⟩,⟨⟨rfl,rfl⟩,⟨⟨rfl,rfl⟩,⟨⟨rfl,rfl⟩,⟨⟨rfl,rfl⟩,⟨⟨rfl,rfl⟩,trivial⟩⟩⟩⟩⟩⟩⟩ (fun a=>⟨rfl,rfl,rfl,rfl,rfl,rfl,rfl,rfl⟩) (fun a hF=>?_)
  |exact ⟨_,hF,LeX.a [(811000001,811500001),(811000003,811500003)]⟩
  |refine z8f.I hF ?_ fun m v hF=>?_
  |exact LeX.trans (LeX.adoptC 8 0 811000001 60 3 57 _ rfl rfl rfl) (LeX.trans (LeX.adoptC 9 0 811000003 44 1 50 _ rfl rfl rfl) (LeX.a []))
  |refine And.intro ⟨by kernel_rfl,by kernel_rfl⟩ ?_
  |exact zei.oB hF⟩
@[reducible,instance] def yex {n b}:=jf (zdk n b) (fun c=>⟨[(17,.sl 3 (b.1.map z01)),(18,.sl 1 (b.2.map z0c)),(64,.bool (c))],[]⟩) fun _=>zdk.eq_1 ..
end
open Go.RowKit
noncomputable section
@[reducible,instance] def yew {n a3 a2 x2 b}:=li (zh3 n a3 a2 x2 b) (fun c=>⟨[(2,.sl 3 (a2.map z01)),(7,.ptr 7 0),(11,.ref [aI x2.fa.fVars,aI x2.fa.fScopes,.sl 1 (x2.fa.fStates.map z0p),.sl 17 (x2.fa.fEdges.map z0w),.mapv (List.map (zdj z19 z02) (x2.fheld))]),(31,.sl 3 (a2.map z01)),(32,aI (((a2.map z01).length:Int))),(33,aI c)],[(7,.box 71 (z16 a3))]⟩) fun _ _=>zh3.eq_2 ..
instance yii {n a0 a1 a2 a3}:CI E0 (zix n a0 a1 a2 a3) false 71 [z0n a0,.sl 5 (a1.map z02),.sl 3 (a2.map z01),z02 a3] (fun r=>.tup [.sl 3 (r.1.map z01),.sl 1 (r.2.1.map z0c),aI r.2.2]):=⟨fun {r} hF=>by
 unfold zix at hF
 refine cw Tryz.func71 ?_
 repeat' first
  |refine AW.jI hF (fun v hF=>?_) fun hF=>?_
  |refine AW.regO hF fun hF=>?_
  |refine AW.stepU [17] ?_;conv=>whnf
  |refine z14.o hF (fun hF=>?_) fun hF=>?_
  |refine z1q.oP hF zbq (fun u=>.tup [.nilp,aI (u.2)]) (fun u y=>.tup [.ref [aI (y.fa.fVars),aI (y.fa.fScopes),.sl 1 (y.fa.fStates.map z0p),.sl 17 (y.fa.fEdges.map z0w),.mapv (List.map (zdj z19 z02) (y.fheld))],aI (u.2)]) (fun u h=>by simp only [zbq,h,zbb]) (fun u y h=>by simp only [zbq,h,zbb]) (fun a h=>ziq.h h) (fun a hF=>?_) (fun a y hF=>?_)
  |(cases hF;done)
  |refine z1q.I hF fun a hF=>?_
  |exact ⟨_,hF,LeX.a []⟩
  |refine zes.A hF fun x hF=>?_
  |refine z8f.I hF (LeX.a []) fun m v hF=>?_
  |exact zei.oB hF⟩
@[reducible,instance] def y8n {n a0 b}:=li (zfk n a0 b) (fun c=>⟨[(3,.row 7023),(6,.sl 3 (a0.map z01)),(7,aI (((a0.map z01).length:Int))),(8,aI c.1)],[(7023,.row 60 3 (c.2.map z01))]⟩) fun _ _=>zfk.eq_2 ..
instance ycw {n a0}:CI E0 (zh4 n a0) false 38 [.sl 3 (a0.map z01)] (fun r=>.sl 3 (r.map z01)):=⟨fun {r} hF=>by
 unfold zh4 at hF
 refine cw Tryz.func38 ?_
 repeat' first
  |refine AW.step ?_;conv=>whnf
  |refine z14.o hF (fun hF=>?_) fun hF=>?_
  |refine z14.t ?_
  |refine z14.f ?_
  |refine zes.A hF fun x hF=>?_
  |refine z1q.o hF (fun q=>AV.sl 4 (List.map z0b q)) (fun a h=>yac h) (fun a hF=>?_)
  |refine z1q.o hF (fun q=>AV.sl 2 (List.map z08 q)) (fun a h=>yab h) (fun a hF=>?_)
  |refine zk3.oA hF fun l hF=>?_
  |exact ⟨_,hF,LeX.a [(7023,23)]⟩
  |refine z8f.I hF ?_ fun m v hF=>?_
  |exact LeX.trans (LeX.adopt 3 7023 60 3 rfl rfl) (LeX.a [])
  |refine And.intro ⟨by kernel_rfl,by kernel_rfl⟩ ?_
  |refine EqX.A ?_
  |exact zei.oB hF⟩
@[reducible,instance] def y7s {n a1 a0 b}:=li (zev n a1 a0 b) (fun c=>⟨[(1,.sl 5 (a1.map z02)),(2,.fn 38 []),(3,.ptr 3 0),(8,.row 7016),(17,.sl 5 (a1.map z02)),(18,aI (((a1.map z02).length:Int))),(19,aI c.1)],[(3,.box 25 (z0g a0)),(7016,.row 57 1 (List.map (fun q=>AV.sl 3 (List.map z01 q)) (c.2)))]⟩) fun _ _=>zev.eq_2 ..
instance ya5 {n a0 a1}:CI E0 (zi3 n a0 a1) false 37 [z0n a0,.sl 5 (a1.map z02),.fn 38 []] (fun r=>.tup [.sl 1 (List.map (fun q=>AV.sl 3 (List.map z01 q)) (r.1)),aI r.2]):=⟨fun {r} hF=>by
 unfold zi3 at hF
 refine Con.env (E:=E0b) rfl rfl ?_
 refine Con.walk _ Tryz.func37 rfl (z0x Tryz.func37 rfl rfl) rfl (Or.inl rfl) ?_
 repeat' first
  |refine AW.step ?_;conv=>whnf
  |refine z14.o hF (fun hF=>?_) fun hF=>?_
  |refine z14.t ?_
  |refine z14.f ?_
  |refine z1q.I hF fun a hF=>?_
  |refine OpX.bldS z01 hF rfl rfl rfl rfl rfl rfl rfl rfl rfl rfl rfl rfl rfl rfl (fun l hF=>?_)
  |refine OpX.bldR (fun q=>AV.sl 3 (List.map z01 q)) hF rfl rfl rfl rfl rfl rfl rfl rfl rfl rfl rfl rfl rfl rfl rfl rfl (by first|exact ziz.refl _|(repeat' first|exact ziz.nil|refine ziz.cons ?_ ?_|exact zaf.nil|refine zaf.cons ?_ ?_|exact Sub.refl _|exact Sub.nil _)) rfl (fun l hF=>?_)
  |refine OpX.bld (fun q=>AV.sl 3 (List.map z01 q)) hF rfl rfl rfl rfl rfl rfl rfl rfl rfl rfl rfl rfl rfl rfl rfl rfl (fun l hF=>?_)
  |refine zes.A hF fun x hF=>?_
  |refine y3v.o z02 hF (fun l hF=>?_)
  |refine zqo.o hF (fun m hF=>?_)
  |refine yev.o (fun q=>AV.sl 3 (List.map z01 q)) hF (fun x hF=>?_)
  |refine OpX.bldS (fun q=>AV.sl 3 (List.map z01 q)) hF rfl rfl rfl rfl rfl rfl rfl rfl rfl rfl rfl rfl rfl rfl (fun l hF=>?_)
  |refine zk3.oA hF fun l hF=>?_
  |exact ⟨_,hF,LeX.a [(7016,51)]⟩
  |refine z8f.I hF ?_ fun m v hF=>?_
  |exact LeX.a [(7016,16)]
  |refine And.intro ⟨by kernel_rfl,by kernel_rfl⟩ ?_
  |refine EqX.A ?_
  |exact zei.oB hF⟩
instance y84 {n a0 a1}:CI E0 (zhm n a0 a1) false 13 [z0n a0,.sl 5 (a1.map z02)] (fun r=>.tup [.agg [.sl 1 (List.map (fun q=>AV.sl 3 (List.map z01 q)) (r.1.fSets))],aI r.2]):=by unfold zhm;exact CI.w [] Tryz.func13
@[reducible,instance] def ymi {n a1 x2 b d c}:=jf (zfa n a1 x2 b d c) (fun e=>⟨[(7,.ref [aI x2.fa.fVars,aI x2.fa.fScopes,.sl 1 (x2.fa.fStates.map z0p),.sl 17 (x2.fa.fEdges.map z0w),.mapv (List.map (zdj z19 z02) (x2.fheld))]),(10,.row 7058),(13,.sl 3 (c.1.map z01)),(14,.sl 1 (c.2.map z0c)),(26,.sl 5 (a1.map z02)),(27,aI (((a1.map z02).length:Int))),(28,aI b.2.1),(54,.bool (e))],[(7058,.row 44 1 (b.2.2.map z0c))]⟩) fun _=>zfa.eq_1 ..
@[reducible,instance] def ymh {n a1 x2 c}:=li (ze0 n a1 x2 c) (fun b=>⟨[(7,.ref [aI x2.fa.fVars,aI x2.fa.fScopes,.sl 1 (x2.fa.fStates.map z0p),.sl 17 (x2.fa.fEdges.map z0w),.mapv (List.map (zdj z19 z02) (x2.fheld))]),(9,.sl 3 (b.1.map z01)),(10,.row 7058),(26,.sl 5 (a1.map z02)),(27,aI (((a1.map z02).length:Int))),(28,aI b.2.1)],[(7058,.row 44 1 (b.2.2.map z0c))]⟩) fun _ _=>ze0.eq_2 ..
instance ypa {n a0 a1}:CI E0 (zms n a0 a1) false 56 [z0n a0,.sl 5 (a1.map z02)] (fun r=>.tup [.sl 3 (r.1.map z01),.sl 1 (r.2.1.map z0c),aI r.2.2]):=⟨fun {r} hF=>by
 unfold zms at hF
 refine cw Tryz.func56 ?_
 repeat' first
  |refine AW.jI hF (fun v hF=>?_) fun hF=>?_
  |refine AW.regO hF fun hF=>?_
  |refine AW.stepU [10] ?_;conv=>whnf
  |refine z14.o hF (fun hF=>?_) fun hF=>?_
  |refine z14.t ?_
  |refine z1q.oP hF zbq (fun u=>.tup [.nilp,aI (u.2)]) (fun u y=>.tup [.ref [aI (y.fa.fVars),aI (y.fa.fScopes),.sl 1 (y.fa.fStates.map z0p),.sl 17 (y.fa.fEdges.map z0w),.mapv (List.map (zdj z19 z02) (y.fheld))],aI (u.2)]) (fun u h=>by simp only [zbq,h,zbb]) (fun u y h=>by simp only [zbq,h,zbb]) (fun a h=>ziq.h h) (fun a hF=>?_) (fun a y hF=>?_)
  |refine z1q.I hF fun a hF=>?_
  |(cases hF;done)
  |refine zar.oM (z7a 62 hF) [(200000,7058)] [(260000,63000000)] _ _ zf0 zgp [7058] (fun a h=>zdm.up (zj9 h)) (z0x Tryz.func91 rfl rfl) rfl rfl rfl ⟨⟨rfl,rfl⟩,trivial⟩ (fun a=>⟨rfl,rfl,rfl,rfl,rfl,rfl,rfl,rfl⟩) (fun a hF=>?_)
  |refine zes.A hF fun x hF=>?_
  |refine zk3.oA hF fun l hF=>?_
  |exact ⟨_,hF,LeX.a [(7058,58)]⟩
  |exact ⟨_,hF,LeX.a []⟩
  |refine z8f.I hF ?_ fun m v hF=>?_
  |exact LeX.trans (LeX.adopt 10 7058 44 1 rfl rfl) (LeX.a [])
  |exact zei.oB hF⟩
instance yih {n a0 a1}:CI E0 (zgq n a0 a1) false 23 [z0n a0,.sl 5 (a1.map z02)] (fun r=>.tup [.sl 1 (r.1.map z0c),aI r.2]):=by unfold zgq;exact CI.w [] Tryz.func23
def zp9 (a0:z0s)(m0:(Bool×Bool×Bool×Bool×Bool×Bool×Bool×Bool×Bool×Bool×Bool×Bool×Bool×Bool×Bool×Bool)):List (Nat×Ent):=[(100000,.box 212 [.bool (m0.1),.bool (m0.2.1),.bool (m0.2.2.1),.bool (m0.2.2.2.1),.bool (m0.2.2.2.2.1),.bool (m0.2.2.2.2.2.1),.bool (m0.2.2.2.2.2.2.1),.bool (m0.2.2.2.2.2.2.2.1),.bool (m0.2.2.2.2.2.2.2.2.1),.bool (m0.2.2.2.2.2.2.2.2.2.1),.bool (m0.2.2.2.2.2.2.2.2.2.2.1),.bool (m0.2.2.2.2.2.2.2.2.2.2.2.1),.bool (m0.2.2.2.2.2.2.2.2.2.2.2.2.1),.bool (m0.2.2.2.2.2.2.2.2.2.2.2.2.2.1),.bool (m0.2.2.2.2.2.2.2.2.2.2.2.2.2.2.1),.bool (m0.2.2.2.2.2.2.2.2.2.2.2.2.2.2.2)])]
def zdp (r:Int×(Bool×Bool×Bool×Bool×Bool×Bool×Bool×Bool×Bool×Bool×Bool×Bool×Bool×Bool×Bool×Bool)):List (Nat×Ent):=[(100000,.box 212 [.bool (r.2.1),.bool (r.2.2.1),.bool (r.2.2.2.1),.bool (r.2.2.2.2.1),.bool (r.2.2.2.2.2.1),.bool (r.2.2.2.2.2.2.1),.bool (r.2.2.2.2.2.2.2.1),.bool (r.2.2.2.2.2.2.2.2.1),.bool (r.2.2.2.2.2.2.2.2.2.1),.bool (r.2.2.2.2.2.2.2.2.2.2.1),.bool (r.2.2.2.2.2.2.2.2.2.2.2.1),.bool (r.2.2.2.2.2.2.2.2.2.2.2.2.1),.bool (r.2.2.2.2.2.2.2.2.2.2.2.2.2.1),.bool (r.2.2.2.2.2.2.2.2.2.2.2.2.2.2.1),.bool (r.2.2.2.2.2.2.2.2.2.2.2.2.2.2.2.1),.bool (r.2.2.2.2.2.2.2.2.2.2.2.2.2.2.2.2)])]
def zg2 (r:Int×(Bool×Bool×Bool×Bool×Bool×Bool×Bool×Bool×Bool×Bool×Bool×Bool×Bool×Bool×Bool×Bool)):AV:=aI (r.1)
def zp6 (r:Int×(Bool×Bool×Bool×Bool×Bool×Bool×Bool×Bool×Bool×Bool×Bool×Bool×Bool×Bool×Bool×Bool)):AS:=⟨[(3,aI r.1),(1,.ptr 100000 0)],zdp r⟩
theorem zil {n a0 m0 r}(hF:ze3 n a0 m0=some r):zdm E0.P none (zpe E0.P 152 0) [z0l a0,.ptr 100000 0] [] (zp9 a0 m0) (zg2 r) (zdp r):=by
 unfold ze3 at hF
 refine zdm.walk (E:=(E0p 2)) (caps:=[]) _ Tryz.func152 rfl rfl rfl rfl rfl ?_
 repeat' first
  |refine AW.step ?_;conv=>whnf
  |refine z14.o hF (fun hF=>?_) fun hF=>?_
  |refine z14.t ?_
  |refine z14.f ?_
  |refine z1q.I hF fun a hF=>?_
  |refine zqo.oS hF rfl (fun hF=>?_) (fun hF=>?_)
  |(cases hF;done)
  |exact GX.A (res:=zg2) (meF:=zdp) hF zp6
  |refine And.intro ⟨by kernel_rfl,by kernel_rfl⟩ ?_
  |refine EqX.A ?_
@[reducible,instance] def y7z {n c a0 d}:=li (zal n c a0 d) (fun b=>⟨[(1,.fn 152 [.ptr 100000 0]),(16,.sl 8 (a0.fArgs.map idA)),(17,aI (((a0.fArgs.map idA).length:Int))),(18,aI b.1)],[(100000,.box 212 [.bool (b.2.1),.bool (b.2.2.1),.bool (b.2.2.2.1),.bool (b.2.2.2.2.1),.bool (b.2.2.2.2.2.1),.bool (b.2.2.2.2.2.2.1),.bool (b.2.2.2.2.2.2.2.1),.bool (b.2.2.2.2.2.2.2.2.1),.bool (b.2.2.2.2.2.2.2.2.2.1),.bool (b.2.2.2.2.2.2.2.2.2.2.1),.bool (b.2.2.2.2.2.2.2.2.2.2.2.1),.bool (b.2.2.2.2.2.2.2.2.2.2.2.2.1),.bool (b.2.2.2.2.2.2.2.2.2.2.2.2.2.1),.bool (b.2.2.2.2.2.2.2.2.2.2.2.2.2.2.1),.bool (b.2.2.2.2.2.2.2.2.2.2.2.2.2.2.2.1),.bool (b.2.2.2.2.2.2.2.2.2.2.2.2.2.2.2.2)])]⟩) fun _ _=>zal.eq_2 ..
def zq1 (a0:z0s)(m0:(Bool×Bool×Bool×Bool×Bool×Bool×Bool×Bool×Bool×Bool×Bool×Bool×Bool×Bool×Bool×Bool)):List (Nat×Ent):=[(100000,.box 212 [.bool (m0.1),.bool (m0.2.1),.bool (m0.2.2.1),.bool (m0.2.2.2.1),.bool (m0.2.2.2.2.1),.bool (m0.2.2.2.2.2.1),.bool (m0.2.2.2.2.2.2.1),.bool (m0.2.2.2.2.2.2.2.1),.bool (m0.2.2.2.2.2.2.2.2.1),.bool (m0.2.2.2.2.2.2.2.2.2.1),.bool (m0.2.2.2.2.2.2.2.2.2.2.1),.bool (m0.2.2.2.2.2.2.2.2.2.2.2.1),.bool (m0.2.2.2.2.2.2.2.2.2.2.2.2.1),.bool (m0.2.2.2.2.2.2.2.2.2.2.2.2.2.1),.bool (m0.2.2.2.2.2.2.2.2.2.2.2.2.2.2.1),.bool (m0.2.2.2.2.2.2.2.2.2.2.2.2.2.2.2)])]
def zb3 (r:Int×(Bool×Bool×Bool×Bool×Bool×Bool×Bool×Bool×Bool×Bool×Bool×Bool×Bool×Bool×Bool×Bool)):List (Nat×Ent):=[(100000,.box 212 [.bool (r.2.1),.bool (r.2.2.1),.bool (r.2.2.2.1),.bool (r.2.2.2.2.1),.bool (r.2.2.2.2.2.1),.bool (r.2.2.2.2.2.2.1),.bool (r.2.2.2.2.2.2.2.1),.bool (r.2.2.2.2.2.2.2.2.1),.bool (r.2.2.2.2.2.2.2.2.2.1),.bool (r.2.2.2.2.2.2.2.2.2.2.1),.bool (r.2.2.2.2.2.2.2.2.2.2.2.1),.bool (r.2.2.2.2.2.2.2.2.2.2.2.2.1),.bool (r.2.2.2.2.2.2.2.2.2.2.2.2.2.1),.bool (r.2.2.2.2.2.2.2.2.2.2.2.2.2.2.1),.bool (r.2.2.2.2.2.2.2.2.2.2.2.2.2.2.2.1),.bool (r.2.2.2.2.2.2.2.2.2.2.2.2.2.2.2.2)])]
def zcf (r:Int×(Bool×Bool×Bool×Bool×Bool×Bool×Bool×Bool×Bool×Bool×Bool×Bool×Bool×Bool×Bool×Bool)):AV:=aI (r.1)
def zpz (r:Int×(Bool×Bool×Bool×Bool×Bool×Bool×Bool×Bool×Bool×Bool×Bool×Bool×Bool×Bool×Bool×Bool)):AS:=⟨[(4,aI r.1),(1,.fn 152 [.ptr 100000 0])],zb3 r⟩
theorem zjb {n a0 m0 r}(hF:za2 n a0 m0=some r):zdm E0.P none (zpe E0.P 151 0) [z0l a0,.fn 152 [.ptr 100000 0]] [] (zq1 a0 m0) (zcf r) (zb3 r):=by
 induction n generalizing a0 m0 r
 case zero=>cases hF
 case succ n ih =>
 unfold za2 at hF
 refine zdm.walk (E:=(E0p 2)) (caps:=[]) _ Tryz.func151 rfl rfl rfl rfl rfl ?_
 repeat' first
  |refine AW.step ?_;conv=>whnf
  |refine z14.o hF (fun hF=>?_) fun hF=>?_
  |refine z14.t ?_
  |refine z14.f ?_
  |refine zar.oM (z7a 11 hF) [(100000,100000)] [(100000,100000)] _ _ zdp zg2 [] (fun a h=>zdm.up (zil h)) (z0x Tryz.func152 rfl rfl) rfl rfl rfl ⟨⟨rfl,rfl⟩,trivial⟩ (fun a=>⟨rfl,rfl,rfl,rfl,rfl,rfl,rfl,rfl⟩) (fun a hF=>?_)
  |refine z1q.oM (z7a 11 hF) [(100000,100000)] [(100000,100000)] _ _ zdp zg2 [] (fun a h=>zdm.up (zil h)) (z0x Tryz.func152 rfl rfl) rfl rfl rfl ⟨⟨rfl,rfl⟩,trivial⟩ (fun a=>⟨rfl,rfl,rfl,rfl,rfl,rfl,rfl,rfl⟩) (fun a hF=>?_)
  |refine GX.o (res:=zcf) (meF:=zb3) hF ?_;exact GX.mk (zpz _) (LeX.a []) rfl _ rfl (by repeat' first|exact Sub.nil _|exact Sub.refl _|refine Sub.agg ?_|refine Sub.tup ?_|refine Sub.fn ?_|exact zaf.nil|refine zaf.cons ?_ ?_|refine Sub.sl _ ?_|exact zhc.nil|refine zhc.cons ?_ ?_) [100000] ⟨Or.inr ⟨1,0,_,_,_,_,_,Nat.le_of_ble_eq_true rfl,rfl,rfl,rfl,rfl,rfl⟩,trivial⟩ rfl
  |refine zes.oD hF z40 (fun x hF=>?_)
  |refine zar.oM (z7a 24 hF) [(100000,100000)] [(100000,100000)] _ _ zb3 zcf [] (fun a h=>zdm.up (ih h)) (z0x Tryz.func151 rfl rfl) rfl rfl rfl ⟨⟨rfl,rfl⟩,trivial⟩ (fun a=>⟨rfl,rfl,rfl,rfl,rfl,rfl,rfl,rfl⟩) (fun a hF=>?_)
  |refine z1q.oM (z7a 24 hF) [(100000,100000)] [(100000,100000)] _ _ zb3 zcf [] (fun a h=>zdm.up (ih h)) (z0x Tryz.func151 rfl rfl) rfl rfl rfl ⟨⟨rfl,rfl⟩,trivial⟩ (fun a=>⟨rfl,rfl,rfl,rfl,rfl,rfl,rfl,rfl⟩) (fun a hF=>?_)
  |exact ⟨_,hF,LeX.a []⟩
  |refine z8f.I hF (LeX.a []) fun m v hF=>?_
  |refine And.intro ⟨by kernel_rfl,by kernel_rfl⟩ ?_
  |refine EqX.A ?_
@[reducible,instance] def y9x {n x1 b}:=li (z0f n x1 b) (fun c=>⟨[(4,.row 7019),(10,.agg [.bool (x1.2.1),.bool (x1.2.2.1),.bool (x1.2.2.2.1),.bool (x1.2.2.2.2.1),.bool (x1.2.2.2.2.2.1),.bool (x1.2.2.2.2.2.2.1),.bool (x1.2.2.2.2.2.2.2.1),.bool (x1.2.2.2.2.2.2.2.2.1),.bool (x1.2.2.2.2.2.2.2.2.2.1),.bool (x1.2.2.2.2.2.2.2.2.2.2.1),.bool (x1.2.2.2.2.2.2.2.2.2.2.2.1),.bool (x1.2.2.2.2.2.2.2.2.2.2.2.2.1),.bool (x1.2.2.2.2.2.2.2.2.2.2.2.2.2.1),.bool (x1.2.2.2.2.2.2.2.2.2.2.2.2.2.2.1),.bool (x1.2.2.2.2.2.2.2.2.2.2.2.2.2.2.2.1),.bool (x1.2.2.2.2.2.2.2.2.2.2.2.2.2.2.2.2)]),(11,aI c.1)],[(7019,.row 3 1 (c.2.map aI))]⟩) fun _ _=>z0f.eq_2 ..
instance ycy {n a0}:CI E0 (zdl n a0) false 112 [z0l a0] (fun r=>.sl 1 (r.map aI)):=⟨fun {r} hF=>by
 unfold zdl at hF
 refine cw Tryz.func112 ?_
 repeat' first
  |refine AW.regO hF fun hF=>?_
  |refine AW.stepU [7] ?_;conv=>whnf
  |refine z14.o hF (fun hF=>?_) fun hF=>?_
  |refine z14.t ?_
  |refine z14.f ?_
  |refine zar.oM (z7a 9 hF) [(100000,3)] [(100000,3)] _ _ zb3 zcf [] (fun a h=>zdm.up (zjb h)) (z0x Tryz.func151 rfl rfl) rfl rfl rfl ⟨⟨rfl,rfl⟩,trivial⟩ (fun a=>⟨rfl,rfl,rfl,rfl,rfl,rfl,rfl,rfl⟩) (fun a hF=>?_)
  |refine z1q.oM (z7a 9 hF) [(100000,3)] [(100000,3)] _ _ zb3 zcf [] (fun a h=>zdm.up (zjb h)) (z0x Tryz.func151 rfl rfl) rfl rfl rfl ⟨⟨rfl,rfl⟩,trivial⟩ (fun a=>⟨rfl,rfl,rfl,rfl,rfl,rfl,rfl,rfl⟩) (fun a hF=>?_)
  |refine zqo.oS hF rfl (fun hF=>?_) (fun hF=>?_)
  |(cases hF;done)
  |refine zk3.oA hF fun l hF=>?_
  |exact ⟨_,hF,LeX.a [(7019,19)]⟩
  |exact ⟨_,hF,LeX.a []⟩
  |refine z8f.I hF ?_ fun m v hF=>?_
  |exact LeX.trans (LeX.adopt 4 7019 3 1 rfl rfl) (LeX.a [])
  |refine And.intro ⟨by kernel_rfl,by kernel_rfl⟩ ?_
  |refine EqX.A ?_
  |exact zei.oB hF⟩
@[reducible,instance] def zui {n m0n a1 a0 c d e}:=li (z5r n m0n a1 a0 c d e) (fun b=>⟨[(0,aI a0),(2,.ptr 100000 0),(9,.sl 8 (a1.map idA)),(10,aI (((a1.map idA).length:Int))),(11,aI c.1),(16,.sl 1 (d.map aI)),(17,aI (((d.map aI).length:Int))),(18,aI b.1)],[(100000,.box 130 [.cont (m0n) 200000]),(200000,.are 136 (b.2).1 (List.map (enO aI AV.bool) (b.2).2))]⟩) fun _ _=>z5r.eq_2 ..
@[reducible,instance] def zuj {n m0n a1 a0 c}:=li (z3n n m0n a1 a0 c) (fun b=>⟨[(0,aI a0),(2,.ptr 100000 0),(9,.sl 8 (a1.map idA)),(10,aI (((a1.map idA).length:Int))),(11,aI b.1)],[(100000,.box 130 [.cont (m0n) 200000]),(200000,.are 136 (b.2).1 (List.map (enO aI AV.bool) (b.2).2))]⟩) fun _ _=>z3n.eq_2 ..
def zl7 (a0:Int)(a1:(List AV))(m0n:Nat)(m0:(Ars (List (Int×Bool)))):List (Nat×Ent):=[(100000,.box 130 [.cont (m0n) 200000]),(200000,.are 136 (m0).1 (List.map (enO aI AV.bool) (m0).2))]
def za7 (r:Nat×(Ars (List (Int×Bool)))):List (Nat×Ent):=[(100000,.box 130 [.cont (r.1) 270000]),(270000,.are 136 (r.2).1 (List.map (enO aI AV.bool) (r.2).2))]
def zc7 (r:Nat×(Ars (List (Int×Bool)))):AV:=.tup []
def zl5 (r:Nat×(Ars (List (Int×Bool)))):AS:=⟨[(2,.ptr 100000 0)],za7 r⟩
end
end Go.Proofs.YtidhlpjgifoneaaGreat
