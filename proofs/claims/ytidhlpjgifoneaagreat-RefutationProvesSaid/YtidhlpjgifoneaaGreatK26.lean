/- What some functions compute, over plain values. -/
import Derived.Test.YtidhlpjgifoneaaGreatK25
set_option linter.unusedVariables false
set_option linter.unusedSimpArgs false
set_option maxRecDepth 100000
set_option maxHeartbeats 8000000
namespace Go.Proofs.YtidhlpjgifoneaaGreat
open Go.RowKit List
noncomputable section
theorem zgx {n a0 a1 m0n m0 r}(hF:zcb n a0 a1 m0n m0=some r):zdm E0.P none (zpe E0.P 111 0) [aI a0,.sl 8 (a1.map idA),.ptr 100000 0] [] (zl7 a0 a1 m0n m0) (zc7 r) (za7 r):=by
 unfold zcb at hF
 refine zdm.walk (E:=(E0p 3)) (caps:=[]) _ Tryz.func111 rfl rfl rfl rfl rfl ?_
 repeat' first
  |refine AW.step ?_;conv=>whnf
  |refine z14.o hF (fun hF=>?_) fun hF=>?_
  |refine z14.t ?_
  |refine z14.f ?_
  |exact GX.A (res:=zc7) (meF:=za7) hF zl5 (h1:=LeX.a [(270000,200000)])
  |refine zes.oD hF z40 (fun x hF=>?_)
  |refine z1q.I hF fun a hF=>?_
  |exact ⟨_,hF,LeX.a []⟩
  |refine zes.A hF fun x hF=>?_
  |refine OpX.ixc hF rfl rfl rfl rfl rfl rfl rfl rfl (fun hF=>?_)
  |refine OpX.aob hF rfl rfl rfl rfl rfl rfl rfl (fun j hF=>?_)
  |refine OpX.aup AV.bool hF (Or.inl rfl) rfl rfl rfl rfl rfl rfl rfl rfl rfl (by first|rfl|kernel_rfl) rfl rfl (fun l hF=>?_)
  |refine z8f.I hF (LeX.a []) fun m v hF=>?_
  |refine And.intro ⟨by kernel_rfl,by kernel_rfl⟩ ?_
  |refine EqX.A ?_
set_option maxHeartbeats 400000 in
theorem y73 (l:List (Cel 8))(S:Nat->Prop)(v:Value)(w:World)(h:Sl w S 8 zfy v l)(hl:l.length<=1000000000) :
  Calls Tryz.prog 113 #[v] w (zqn 111 8 zfy l w):=by
 have eok:EOk Tryz.prog 107 111 8 88 (zfy (n:=8)):=yn1 (sz:=8) (zna 107 _ rfl) rfl (zna 111 _ rfl) (by omega) rfl
 obtain ⟨A,c,rfl,hc,_⟩:=h.form
 have hq:=fun (W:World)=>Lib.run_eql_slice_nil W 107 111 A l.length c 0 0 Tryz.underlying107
 have H:=zun h
 cases A with
 |none =>
  have h0:l=[]:=h.none_nil
  subst h0
  clear h H hl hc
  simp only [length_nil,Option.isNone_none] at hq ⊢
  go_enter Tryz.func113,Tryz.ntmps113
  go_wp2
  go_ret
  exact ⟨none,0,rfl,Own.nil_,by go_grown⟩
 |some ad =>
  clear h
  go_enter Tryz.func113,Tryz.ntmps113
  go_wp2_with (at_builtin;refine zaq rfl _ _ rfl eok rfl Own.made_ rfl (H.out.alloc _) (by simp;omega) (by omega) (by simp) ?_;intro A' c' w1 ho hg _)
  go_ret
  exact ⟨A',c',rfl,ho,(Own.made_ (sz:=8) (enc:=zfy (n:=8))).grown ((Below.refl _ _).alloc (Nat.le_refl _) _) (Nat.le_refl _) (by simp) hg⟩
theorem zp2 {n a r}(hF:zbm n a=some r):zpb E0 113 [.sl 8 (List.map idA a)] 111 8 (List.map idA r) (.row 0):=zjc rfl (z0x Tryz.func113 rfl rfl) y73 hF
@[reducible,instance] def zpi {n m1 m0n a0 c d e}:=li (z36 n m1 m0n a0 c d e) (fun b=>⟨[(0,aI a0),(2,.ptr 100000 0),(9,.row 200001),(10,aI (((m1.map idA).length:Int))),(11,aI c.1),(16,.sl 1 (d.map aI)),(17,aI (((d.map aI).length:Int))),(18,aI b.1)],[(100000,.box 130 [.cont (m0n) 200000]),(200000,.are 136 (b.2).1 (List.map (enO aI AV.bool) (b.2).2)),(200001,.row 111 8 (m1.map idA))]⟩) fun _ _=>z36.eq_2 ..
@[reducible,instance] def zpj {n m1 m0n a0 c}:=li (z1z n m1 m0n a0 c) (fun b=>⟨[(0,aI a0),(2,.ptr 100000 0),(9,.row 200001),(10,aI (((m1.map idA).length:Int))),(11,aI b.1)],[(100000,.box 130 [.cont (m0n) 200000]),(200000,.are 136 (b.2).1 (List.map (enO aI AV.bool) (b.2).2)),(200001,.row 111 8 (m1.map idA))]⟩) fun _ _=>z1z.eq_2 ..
def ziw (a0:Int)(m0n:Nat)(m0:(Ars (List (Int×Bool))))(m1:(List AV)):List (Nat×Ent):=[(100000,.box 130 [.cont (m0n) 200000]),(200000,.are 136 (m0).1 (List.map (enO aI AV.bool) (m0).2)),(200001,.row 111 8 (m1.map idA))]
def z75 (r:Nat×(Ars (List (Int×Bool)))):List (Nat×Ent):=[(100000,.box 130 [.cont (r.1) 270000]),(270000,.are 136 (r.2).1 (List.map (enO aI AV.bool) (r.2).2))]
def za4 (r:Nat×(Ars (List (Int×Bool)))):AV:=.tup []
def zit (r:Nat×(Ars (List (Int×Bool)))):AS:=⟨[(2,.ptr 100000 0)],z75 r⟩
theorem zf9 {n a0 m0n m0 m1 r}(hF:za6 n a0 m0n m0 m1=some r):zdm E0.P none (zpe E0.P 111 0) [aI a0,.row 200001,.ptr 100000 0] [] (ziw a0 m0n m0 m1) (za4 r) (z75 r):=by
 unfold za6 at hF
 refine zdm.walk (E:=(E0p 3)) (caps:=[]) _ Tryz.func111 rfl rfl rfl rfl rfl ?_
 repeat' first
  |refine AW.step ?_;conv=>whnf
  |refine z14.o hF (fun hF=>?_) fun hF=>?_
  |refine z14.t ?_
  |refine z14.f ?_
  |exact GX.A (res:=za4) (meF:=z75) hF zit (h1:=LeX.a [(270000,200000)])
  |refine zqo.o hF (fun m hF=>?_)
  |refine yev.oD hF z40 (fun x hF=>?_)
  |refine z1q.I hF fun a hF=>?_
  |exact ⟨_,hF,LeX.a []⟩
  |refine zes.A hF fun x hF=>?_
  |refine OpX.ixc hF rfl rfl rfl rfl rfl rfl rfl rfl (fun hF=>?_)
  |refine OpX.aob hF rfl rfl rfl rfl rfl rfl rfl (fun j hF=>?_)
  |refine OpX.aup AV.bool hF (Or.inl rfl) rfl rfl rfl rfl rfl rfl rfl rfl rfl (by first|rfl|kernel_rfl) rfl rfl (fun l hF=>?_)
  |refine z8f.I hF (LeX.a []) fun m v hF=>?_
  |refine And.intro ⟨by kernel_rfl,by kernel_rfl⟩ ?_
  |refine EqX.A ?_
theorem yrm (a b:Int):eqK (aI a) (aI b)=some (decide (a=b)):=by simp [eqK,eq1,aI,zje]
@[reducible,instance] def zuh {n b a1 x6 d}:=li (z5q n b a1 x6 d) (fun c=>⟨[(1,aI a1),(2,.ptr 100000 0),(3,.ptr 100001 0),(4,.ptr 100002 0),(23,.sl 1 (x6.map aI)),(24,aI (((x6.map aI).length:Int))),(25,aI c.1)],[(100000,.box 130 [.cont (c.2.1) 200000]),(100001,.box 175 [.sl 1 (List.map (fun q=>AV.sl 1 (List.map aI q)) (c.2.2.1))]),(100002,.box 177 [.fn 114 [.ptr 100000 0,.ptr 100001 0,.ptr 100002 0]]),(200000,.are 136 (c.2.2.2).1 (List.map (enO aI AV.bool) (c.2.2.2).2))]⟩) fun _ _=>z5q.eq_2 ..
def zl6 (a0:Int)(a1:Int)(m0n:Nat)(m0:(Ars (List (Int×Bool))))(m1:(List (List Int))):List (Nat×Ent):=[(100000,.box 130 [.cont (m0n) 200000]),(200000,.are 136 (m0).1 (List.map (enO aI AV.bool) (m0).2)),(100001,.box 175 [.sl 1 (List.map (fun q=>AV.sl 1 (List.map aI q)) (m1))]),(100002,.box 177 [.fn 114 [.ptr 100000 0,.ptr 100001 0,.ptr 100002 0]])]
def z5u (r:Nat×(Ars (List (Int×Bool)))×(List (List Int))):List (Nat×Ent):=[(100000,.box 130 [.cont (r.1) 270000]),(270000,.are 136 (r.2.1).1 (List.map (enO aI AV.bool) (r.2.1).2)),(100001,.box 175 [.sl 1 (List.map (fun q=>AV.sl 1 (List.map aI q)) (r.2.2))]),(100002,.box 177 [.fn 114 [.ptr 100000 0,.ptr 100001 0,.ptr 100002 0]])]
def z85 (r:Nat×(Ars (List (Int×Bool)))×(List (List Int))):AV:=.tup []
def zl4 (r:Nat×(Ars (List (Int×Bool)))×(List (List Int))):AS:=⟨[(2,.ptr 100000 0),(3,.ptr 100001 0),(4,.ptr 100002 0)],z5u r⟩
theorem zgw {n a0 a1 m0n m0 m1 r}(hF:z3x n a0 a1 m0n m0 m1=some r):zdm E0.P none (zpe E0.P 114 0) [aI a0,aI a1,.ptr 100000 0,.ptr 100001 0,.ptr 100002 0] [] (zl6 a0 a1 m0n m0 m1) (z85 r) (z5u r):=by
 induction n generalizing a0 a1 m0n m0 m1 r
 case zero=>cases hF
 case succ n ih =>
 unfold z3x at hF
 refine zdm.walk (E:=(E0p 5)) (caps:=[]) _ Tryz.func114 rfl rfl rfl rfl rfl ?_
 repeat' first
  |refine AW.step ?_;conv=>whnf
  |refine z14.o hF (fun hF=>?_) fun hF=>?_
  |refine z14.t ?_
  |refine z14.f ?_
  |refine OpX.ixc hF rfl rfl rfl rfl rfl rfl rfl rfl (fun hF=>?_)
  |refine OpX.aob hF rfl rfl rfl rfl rfl rfl rfl (fun j hF=>?_)
  |refine OpX.alk aI AV.bool hF yrm rfl rfl rfl rfl rfl rfl rfl rfl rfl rfl rfl (by first|rfl|kernel_rfl) (by repeat' first|exact Sub.nil _|exact Sub.refl _|refine Sub.agg ?_|refine Sub.tup ?_|refine Sub.fn ?_|exact zaf.nil|refine zaf.cons ?_ ?_|refine Sub.sl _ ?_|exact zhc.nil|refine zhc.cons ?_ ?_) (fun v b hF=>?_)
  |exact GX.A (res:=z85) (meF:=z5u) hF zl4 (h1:=LeX.a [(270000,200000)])
  |refine OpX.aup AV.bool hF (Or.inl rfl) rfl rfl rfl rfl rfl rfl rfl rfl rfl (by first|rfl|kernel_rfl) rfl rfl (fun l hF=>?_)
  |refine zes.o (fun q=>AV.sl 1 (List.map aI q)) hF fun x hF=>?_
  |refine zes.A hF fun x hF=>?_
  |refine zar.oM (z7a 32 hF) [(100000,100000),(100001,100001),(100002,100002),(200000,200000)] [(100000,100000),(270000,33000001),(100001,100001),(100002,100002)] _ _ z5u z85 [200000] (fun a h=>zdm.up (ih h)) (z0x Tryz.func114 rfl rfl) rfl rfl rfl ⟨⟨rfl,rfl⟩,⟨⟨rfl,rfl⟩,⟨⟨rfl,rfl⟩,⟨⟨rfl,rfl⟩,trivial⟩⟩⟩⟩ (fun a=>⟨rfl,rfl,rfl,rfl,rfl,rfl,rfl,rfl⟩) (fun a hF=>?_)
  |refine z1q.oM (z7a 32 hF) [(100000,100000),(100001,100001),(100002,100002),(200000,200000)] [(100000,100000),(270000,33000001),(100001,100001),(100002,100002)] _ _ z5u z85 [200000] (fun a h=>zdm.up (ih h)) (z0x Tryz.func114 rfl rfl) rfl rfl rfl ⟨⟨rfl,rfl⟩,⟨⟨rfl,rfl⟩,⟨⟨rfl,rfl⟩,⟨⟨rfl,rfl⟩,trivial⟩⟩⟩⟩ (fun a=>⟨rfl,rfl,rfl,rfl,rfl,rfl,rfl,rfl⟩) (fun a hF=>?_)
  |exact ⟨_,hF,LeX.a [(200000,33000001)]⟩
  |refine z8f.I hF (LeX.a []) fun m v hF=>?_
  |refine And.intro ⟨by kernel_rfl,by kernel_rfl⟩ ?_
  |refine EqX.A ?_
@[reducible,instance] def zxm {n b d e}:=li (z7s n b d e) (fun c=>⟨[(12,.ptr 12 0),(14,.ptr 14 0),(15,aI d.1),(104,.sl 1 (List.map (fun q=>AV.mapv (List.map (zdj aI AV.bool) q)) ((zuu b)))),(105,aI ((((List.map (fun q=>AV.mapv (List.map (zdj aI AV.bool) q)) ((zuu b))).length:Nat):Int))),(106,aI d.1),(112,.ptr 112 0)],[(12,.box 130 [.cont (c.1) 7092]),(14,.box 177 [.fn 114 [.ptr 12 0,.ptr 9 0,.ptr 14 0]]),(9,.box 175 [.sl 1 (List.map (fun q=>AV.sl 1 (List.map aI q)) (c.2.1))]),(112,.it (List.map (zdj aI AV.bool) (c.2.2.1))),(7092,.are 136 (c.2.2.2).1 (List.map (enO aI AV.bool) (c.2.2.2).2))]⟩) fun _ _=>z7s.eq_2 ..
@[reducible,instance] def zxn {n b d}:=li (z2g n b d) (fun c=>⟨[(12,.ptr 12 0),(14,.ptr 14 0),(104,.sl 1 (List.map (fun q=>AV.mapv (List.map (zdj aI AV.bool) q)) ((zuu b)))),(105,aI ((((List.map (fun q=>AV.mapv (List.map (zdj aI AV.bool) q)) ((zuu b))).length:Nat):Int))),(106,aI c.1)],[(12,.box 130 [.cont (c.2.1) 7092]),(14,.box 177 [.fn 114 [.ptr 12 0,.ptr 9 0,.ptr 14 0]]),(9,.box 175 [.sl 1 (List.map (fun q=>AV.sl 1 (List.map aI q)) (c.2.2.1))]),(7092,.are 136 (c.2.2.2).1 (List.map (enO aI AV.bool) (c.2.2.2).2))]⟩) fun _ _=>z2g.eq_2 ..
@[reducible,instance] def zxo {n h c b d f g}:=li (z3e n h c b d f g) (fun e=>⟨[(3,.ptr 3 0),(9,.ptr 9 0),(12,.ptr 12 0),(94,aI (((f:Nat):Int))),(95,aI e.1)],[(3,.box 130 [.cont (c) 7021]),(7021,.are 136 (b).1 (List.map (enO aI AV.bool) (b).2)),(9,.box 175 [.cont (h) 53]),(53,.nest 112 (List.map (enR aI 3 1) (d))),(12,.box 130 [.cont (f) 92]),(92,.are 136 (e.2).1 (List.map (enO aI AV.bool) (e.2).2))]⟩) fun _ _=>z3e.eq_2 ..
@[reducible,instance] def zxp {n a0 d c}:=li (z2h n a0 d c) (fun b=>⟨[(1,.ptr 1 0),(3,.ptr 3 0),(4,.fn 111 [.ptr 3 0]),(9,.ptr 9 0),(55,.sl 17 (a0.fEdges.map z0w)),(56,aI (((a0.fEdges.map z0w).length:Int))),(57,aI b.1)],[(1,.box 25 (z0g a0)),(3,.box 130 [.cont (b.2.1) 7021]),(9,.box 175 [.cont (d) 53]),(53,.nest 112 (List.map (enR aI 3 1) (b.2.2.1))),(7021,.are 136 (b.2.2.2).1 (List.map (enO aI AV.bool) (b.2.2.2).2))]⟩) fun _ _=>z2h.eq_2 ..
@[reducible,instance] def zxl {n a0 c d e}:=li (z7r n a0 c d e) (fun b=>⟨[(1,.ptr 1 0),(3,.ptr 3 0),(4,.fn 111 [.ptr 3 0]),(5,aI c.1),(24,.sl 1 (a0.fStates.map z0p)),(25,aI (((a0.fStates.map z0p).length:Int))),(26,aI c.1),(36,.sl 11 (d.fGuards.map z0t)),(37,aI (((d.fGuards.map z0t).length:Int))),(38,aI b.1)],[(1,.box 25 (z0g a0)),(3,.box 130 [.cont (b.2.1) 7021]),(7021,.are 136 (b.2.2).1 (List.map (enO aI AV.bool) (b.2.2).2))]⟩) fun _ _=>z7r.eq_2 ..
@[reducible,instance] def zxq {n a0 c}:=li (z5a n a0 c) (fun b=>⟨[(1,.ptr 1 0),(3,.ptr 3 0),(4,.fn 111 [.ptr 3 0]),(24,.sl 1 (a0.fStates.map z0p)),(25,aI (((a0.fStates.map z0p).length:Int))),(26,aI b.1)],[(1,.box 25 (z0g a0)),(3,.box 130 [.cont (b.2.1) 7021]),(7021,.are 136 (b.2.2).1 (List.map (enO aI AV.bool) (b.2.2).2))]⟩) fun _ _=>z5a.eq_2 ..
instance y1o {n a0}:CI E0 (zbk n a0) false 76 [z0n a0] (fun r=>.sl 1 (List.map (fun q=>AV.mapv (List.map (zdj aI AV.bool) q)) (r))):=⟨fun {r} hF=>by
 unfold zbk at hF
 refine cw Tryz.func76 ?_
 repeat' first
  |refine AW.areO aI AV.bool hF 21 rfl (fun hF=>?_)
  |refine AW.nstO (er:=aI) 3 1 hF 53 rfl (fun hF=>?_)
  |refine AW.areO aI AV.bool hF 92 rfl (fun hF=>?_)
  |refine AW.frrO (ety:=3) (sz:=1) aI hF 53 rfl (fun hF=>?_)
  |refine AW.frcO aI AV.bool hF 7021 rfl (fun hF=>?_)
  |refine AW.frcO aI AV.bool hF 7092 rfl (fun hF=>?_)
  |refine AW.pckO (zdj aI AV.bool) hF 112 rfl (fun x s hF=>?_)
  |refine AW.regO hF fun hF=>?_
  |refine AW.frzO hF 53 rfl (fun hF=>?_)
  |refine AW.frzO hF 7021 rfl (fun hF=>?_)
  |refine AW.frzO hF 7092 rfl (fun hF=>?_)
  |refine AW.stepU [28,29,37,18,34,22,14,2] ?_;conv=>whnf
  |refine z14.o hF (fun hF=>?_) fun hF=>?_
  |refine z14.t ?_
  |refine z14.f ?_
  |refine yet.om hF (fun m hF=>?_)
  |refine yet.on hF (fun m hF=>?_)
  |refine OpX.lnc rfl rfl rfl rfl rfl rfl ?_
  |refine zes.o (fun q=>AV.mapv (List.map (zdj aI AV.bool) q)) hF fun x hF=>?_
  |refine OpX.rng rfl rfl rfl rfl rfl rfl rfl rfl ?_
  |exact ⟨_,hF,LeX.a []⟩
  |refine OpX.nxt (zdj aI AV.bool) hF rfl rfl rfl rfl rfl (fun hF=>?_) (fun hF=>?_)
  |refine OpX.ent rfl rfl rfl rfl rfl ?_
  |refine zar.oM (z7a 120 hF) [(100000,12),(100001,9),(100002,14),(200000,7092)] [(100000,12),(270000,121000001),(100001,9),(100002,14)] _ _ z5u z85 [7092] (fun a h=>zdm.up (zgw h)) (z0x Tryz.func114 rfl rfl) rfl rfl rfl ⟨⟨rfl,rfl⟩,⟨⟨rfl,rfl⟩,⟨⟨rfl,rfl⟩,⟨⟨rfl,rfl⟩,trivial⟩⟩⟩⟩ (fun a=>⟨rfl,rfl,rfl,rfl,rfl,rfl,rfl,rfl⟩) (fun a hF=>?_)
  |refine z1q.oM (z7a 120 hF) [(100000,12),(100001,9),(100002,14),(200000,7092)] [(100000,12),(270000,121000001),(100001,9),(100002,14)] _ _ z5u z85 [7092] (fun a h=>zdm.up (zgw h)) (z0x Tryz.func114 rfl rfl) rfl rfl rfl ⟨⟨rfl,rfl⟩,⟨⟨rfl,rfl⟩,⟨⟨rfl,rfl⟩,⟨⟨rfl,rfl⟩,trivial⟩⟩⟩⟩ (fun a=>⟨rfl,rfl,rfl,rfl,rfl,rfl,rfl,rfl⟩) (fun a hF=>?_)
  |exact ⟨_,hF,LeX.trans (LeX.itc 112 rfl) (LeX.a [(7092,121000001)])⟩
  |refine z8f.I hF ?_ fun m v hF=>?_
  |exact LeX.a []
  |exact LeX.a [(7092,92)]
  |refine OpX.ixc hF rfl rfl rfl rfl rfl rfl rfl rfl (fun hF=>?_)
  |refine OpX.ast aI AV.bool hF rfl rfl rfl rfl rfl rfl rfl rfl rfl rfl rfl (fun m hF=>?_)
  |refine zes.A hF fun x hF=>?_
  |refine z1q.oR hF (fun r=>r) idA (fun _=>AV.row 0) rfl (fun a h=>zp2 h) (fun a hF=>?_)
  |refine z1q.oR hF (fun r=>r) idA (fun _=>AV.row 0) rfl (fun a h=>zpb.sub (by repeat' first|exact Sub.nil _|exact Sub.refl _|refine Sub.agg ?_|refine Sub.tup ?_|refine Sub.fn ?_|exact zaf.nil|refine zaf.cons ?_ ?_|refine Sub.sl _ ?_|exact zhc.nil|refine zhc.cons ?_ ?_) (zp2 h)) (fun a hF=>?_)
  |refine zk3.oA hF fun l hF=>?_
  |refine zar.oM (z7a 71 hF) [(100000,3),(200001,70),(200000,7021)] [(100000,3),(270000,72000001)] _ _ z75 za4 [70,7021] (fun a h=>zdm.up (zf9 h)) (z0x Tryz.func111 rfl rfl) rfl rfl rfl ⟨⟨rfl,rfl⟩,⟨⟨rfl,rfl⟩,⟨⟨rfl,rfl⟩,trivial⟩⟩⟩ (fun a=>⟨rfl,rfl,rfl,rfl,rfl,rfl,rfl,rfl⟩) (fun a hF=>?_)
  |refine z1q.oM (z7a 71 hF) [(100000,3),(200001,70),(200000,7021)] [(100000,3),(270000,72000001)] _ _ z75 za4 [70,7021] (fun a h=>zdm.up (zf9 h)) (z0x Tryz.func111 rfl rfl) rfl rfl rfl ⟨⟨rfl,rfl⟩,⟨⟨rfl,rfl⟩,⟨⟨rfl,rfl⟩,trivial⟩⟩⟩ (fun a=>⟨rfl,rfl,rfl,rfl,rfl,rfl,rfl,rfl⟩) (fun a hF=>?_)
  |refine OpX.ntk aI hF rfl rfl rfl rfl rfl rfl rfl rfl rfl rfl (fun q hF=>?_)
  |refine OpX.npt aI hF rfl rfl rfl rfl rfl rfl rfl rfl rfl rfl rfl (fun l hF=>?_)
  |exact ⟨_,hF,LeX.a [(7021,72000001)]⟩
  |refine zar.oM (z7a 47 hF) [(100000,3),(200000,7021)] [(100000,3),(270000,48000001)] _ _ za7 zc7 [7021] (fun a h=>zdm.up (zgx h)) (z0x Tryz.func111 rfl rfl) rfl rfl rfl ⟨⟨rfl,rfl⟩,⟨⟨rfl,rfl⟩,trivial⟩⟩ (fun a=>⟨rfl,rfl,rfl,rfl,rfl,rfl,rfl,rfl⟩) (fun a hF=>?_)
  |refine z1q.oM (z7a 47 hF) [(100000,3),(200000,7021)] [(100000,3),(270000,48000001)] _ _ za7 zc7 [7021] (fun a h=>zdm.up (zgx h)) (z0x Tryz.func111 rfl rfl) rfl rfl rfl ⟨⟨rfl,rfl⟩,⟨⟨rfl,rfl⟩,trivial⟩⟩ (fun a=>⟨rfl,rfl,rfl,rfl,rfl,rfl,rfl,rfl⟩) (fun a hF=>?_)
  |exact ⟨_,hF,LeX.a [(7021,48000001)]⟩
  |exact LeX.a [(7021,21)]
  |refine And.intro ⟨by kernel_rfl,by kernel_rfl⟩ ?_
  |refine EqX.A ?_
  |exact zei.oB hF⟩
def zml (a0:z07):List (Nat×Ent):=[]
def z7w (r:(List (List (Int×Bool)))):List (Nat×Ent):=[(3,.box 130 [.sl 1 (List.map (fun q=>AV.mapv (List.map (zdj aI AV.bool) q)) (r))])]
def z9l (r:(List (List (Int×Bool)))):AV:=.fn 77 [.ptr 3 0]
def zm7 (r:(List (List (Int×Bool)))):AS:=⟨[(2,.fn 77 [.ptr 3 0])],z7w r⟩
theorem zc4 {n a0 r}(hF:za0 n a0=some r):zdm E0.P none (zpe E0.P 44 0) [z0n a0] [] (zml a0) (z9l r) (z7w r):=by
 unfold za0 at hF
 refine zdm.walk (E:=(E0p 1)) (caps:=[]) _ Tryz.func44 rfl rfl rfl rfl rfl ?_
 repeat' first
  |refine AW.step ?_;conv=>whnf
  |refine z14.o hF (fun hF=>?_) fun hF=>?_
  |refine z14.t ?_
  |refine z14.f ?_
  |refine z1q.I hF fun a hF=>?_
  |exact GX.A (res:=z9l) (meF:=z7w) hF zm7
  |refine And.intro ⟨by kernel_rfl,by kernel_rfl⟩ ?_
  |refine EqX.A ?_
@[reducible,instance] def zrb {n}:=jf (z2t n) (fun b=>⟨[(4,.bool (b))],[]⟩) fun _=>z2t.eq_1 ..
end
open Go.RowKit
noncomputable section
instance ztj {n a0 a1}:CI E0 (z9c n a0 a1) true 79 [z08 a0,z08 a1] (fun r=>.bool (r)):=by unfold z9c;exact CI.w [1] Tryz.func79
@[reducible,instance] def y44 {n a1 a0 b}:=li (z9w n a1 a0 b) (fun c=>⟨[(1,.sl 2 (a1.map z08)),(2,.fn 79 []),(15,.sl 2 (a0.map z08)),(16,aI (((a0.map z08).length:Int))),(17,aI c)],[]⟩) fun _ _=>z9w.eq_2 ..
instance y82 {n a0 a1}:CI E0 (zdy n a0 a1) true 78 [.sl 2 (a0.map z08),.sl 2 (a1.map z08),.fn 79 []] (fun r=>.bool (r)):=by unfold zdy;exact CI.w [] Tryz.func78
@[reducible,instance] def y7u {n a1 a0 b}:=li (z8l n a1 a0 b) (fun c=>⟨[(1,.mapv (List.map (zdj aI AV.bool) (a1))),(5,.row 7022),(9,.sl 4 (a0.fBindings.map z0b)),(10,aI (((a0.fBindings.map z0b).length:Int))),(11,aI c.1)],[(7022,.row 76 4 (c.2.map z0b))]⟩) fun _ _=>z8l.eq_2 ..
instance ya7 {n a0 a1}:CI E0 (zck n a0 a1) false 81 [z01 a0,.mapv (List.map (zdj aI AV.bool) (a1))] (fun r=>.sl 4 (r.map z0b)):=⟨fun {r} hF=>by
 unfold zck at hF
 refine cw Tryz.func81 ?_
 repeat' first
  |refine AW.regO hF fun hF=>?_
  |refine AW.stepU [5] ?_;conv=>whnf
  |refine z14.o hF (fun hF=>?_) fun hF=>?_
  |refine z14.t ?_
  |refine z14.f ?_
  |refine zes.A hF fun x hF=>?_
  |refine OpX.lkv aI AV.bool hF yrm rfl rfl rfl rfl rfl rfl rfl rfl rfl rfl (by first|rfl|kernel_rfl) (by repeat' first|exact Sub.nil _|exact Sub.refl _|refine Sub.agg ?_|refine Sub.tup ?_|refine Sub.fn ?_|exact zaf.nil|refine zaf.cons ?_ ?_|refine Sub.sl _ ?_|exact zhc.nil|refine zhc.cons ?_ ?_) (fun v b hF=>?_)
  |refine zk3.oA hF fun l hF=>?_
  |exact ⟨_,hF,LeX.a [(7022,22)]⟩
  |exact ⟨_,hF,LeX.a []⟩
  |refine z8f.I hF ?_ fun m v hF=>?_
  |exact LeX.trans (LeX.adopt 5 7022 76 4 rfl rfl) (LeX.a [])
  |refine And.intro ⟨by kernel_rfl,by kernel_rfl⟩ ?_
  |refine EqX.A ?_
  |exact zei.oB hF⟩
@[reducible,instance] def ydf {n a1 a0 b}:=li (zch n a1 a0 b) (fun c=>⟨[(0,.sl 4 (a0.map z0b)),(1,.sl 4 (a1.map z0b)),(12,aI (((a0.map z0b).length:Int))),(13,aI c)],[]⟩) fun _ _=>zch.eq_2 ..
instance yf2 {n a0 a1}:CI E0 (zfr n a0 a1) true 80 [.sl 4 (a0.map z0b),.sl 4 (a1.map z0b)] (fun r=>.bool (r)):=by unfold zfr;exact CI.w [] Tryz.func80
@[reducible,instance] def zuk {n}:=jf (z2n n) (fun b=>⟨[(5,.bool (b))],[]⟩) fun _=>z2n.eq_1 ..
instance zw9 {n a0 a1 a2}:CI E0 (z67 n a0 a1 a2) true 77 [z01 a0,z01 a1,.ref [.sl 1 (List.map (fun q=>AV.mapv (List.map (zdj aI AV.bool) q)) (a2))]] (fun r=>.bool (r)):=⟨fun {r} hF=>by
 unfold z67 at hF
 refine cw Tryz.func77 ?_
 repeat' first
  |refine AW.jI hF (fun v hF=>?_) fun hF=>?_
  |refine AW.regO hF fun hF=>?_
  |refine AW.stepU [1] ?_;conv=>whnf
  |refine z14.o hF (fun hF=>?_) fun hF=>?_
  |refine z14.t ?_
  |refine z14.f ?_
  |refine z1q.I hF fun a hF=>?_
  |refine zes.o (fun q=>AV.mapv (List.map (zdj aI AV.bool) q)) hF fun x hF=>?_
  |exact ⟨_,hF,LeX.a []⟩
  |refine And.intro ⟨by kernel_rfl,by kernel_rfl⟩ ?_
  |refine EqX.A ?_
  |exact zei.oB hF⟩
@[reducible,instance] def zvi {n d a0 b g c e f}:=jf (z33 n d a0 b g c e f) (fun h=>⟨[(0,.sl 3 (a0.map z01)),(1,.fn 77 [.ref [.sl 1 (List.map (fun q=>AV.mapv (List.map (zdj aI AV.bool) q)) (d))]]),(5,.row 7053),(6,aI b.1),(7,.ptr 7 0),(8,aI ((-1))),(9,aI c),(11,.sl 3 (a0.map z01)),(12,aI (((a0.map z01).length:Int))),(13,aI b.1),(18,.sl 3 (a0.map z01)),(19,aI (((a0.map z01).length:Int))),(20,aI c),(45,.bool (h))],[(7,.box 60 (z11 g)),(7053,.row 60 3 (b.2.map z01))]⟩) fun _=>z33.eq_1 ..
@[reducible,instance] def zvg {n c a0 b e d}:=li (z32 n c a0 b e d) (fun f=>⟨[(0,.sl 3 (a0.map z01)),(1,.fn 77 [.ref [.sl 1 (List.map (fun q=>AV.mapv (List.map (zdj aI AV.bool) q)) (c))]]),(5,.row 7053),(6,aI b.1),(7,.ptr 7 0),(8,aI ((-1))),(11,.sl 3 (a0.map z01)),(12,aI (((a0.map z01).length:Int))),(13,aI b.1),(18,.sl 3 (a0.map z01)),(19,aI (((a0.map z01).length:Int))),(20,aI f)],[(7,.box 60 (z11 e)),(7053,.row 60 3 (b.2.map z01))]⟩) fun _ _=>z32.eq_2 ..
@[reducible,instance] def zvh {n b a0 c}:=li (z9b n b a0 c) (fun d=>⟨[(0,.sl 3 (a0.map z01)),(1,.fn 77 [.ref [.sl 1 (List.map (fun q=>AV.mapv (List.map (zdj aI AV.bool) q)) (b))]]),(5,.row 7053),(11,.sl 3 (a0.map z01)),(12,aI (((a0.map z01).length:Int))),(13,aI d.1)],[(7053,.row 60 3 (d.2.map z01))]⟩) fun _ _=>z9b.eq_2 ..
instance zyz {n a0 b}:CI E0 (zg0 n a0 b) false 53 [.sl 3 (a0.map z01),.fn 77 [.ref [.sl 1 (List.map (fun q=>AV.mapv (List.map (zdj aI AV.bool) q)) (b))]]] (fun r=>.sl 3 (r.map z01)):=⟨fun {r} hF=>by
 unfold zg0 at hF
 refine cw Tryz.func53 ?_
 repeat' first
  |refine AW.jI hF (fun v hF=>?_) fun hF=>?_
  |refine AW.regO hF fun hF=>?_
  |refine AW.stepU [9,12] ?_;conv=>whnf
  |refine z14.o hF (fun hF=>?_) fun hF=>?_
  |refine z14.t ?_
  |refine z14.f ?_
  |refine zes.A hF fun x hF=>?_
  |refine zk3.oA hF fun l hF=>?_
  |exact ⟨_,hF,LeX.a [(7053,53)]⟩
  |exact ⟨_,hF,LeX.a []⟩
  |refine z1q.I hF fun a hF=>?_
  |refine z8f.I hF ?_ fun m v hF=>?_
  |exact LeX.a []
  |exact LeX.trans (LeX.adopt 5 7053 60 3 rfl rfl) (LeX.a [])
  |refine And.intro ⟨by kernel_rfl,by kernel_rfl⟩ ?_
  |refine EqX.A ?_
  |exact zei.oB hF⟩
instance y1r {n a0 a1bc0}:CI E0 (zgi n a0 a1bc0) false 52 [.sl 3 (a0.map z01),.ref [.fn 77 [.ref [.sl 1 (List.map (fun q=>AV.mapv (List.map (zdj aI AV.bool) q)) (a1bc0))]]]] (fun r=>.sl 3 (r.map z01)):=by unfold zgi;exact CI.w [] Tryz.func52
@[reducible,instance] def zvf {n a2c0bc0 a1 a0 b}:=li (zbd n a2c0bc0 a1 a0 b) (fun c=>⟨[(1,.sl 5 (a1.map z02)),(2,.fn 52 [.ref [.fn 77 [.ref [.sl 1 (List.map (fun q=>AV.mapv (List.map (zdj aI AV.bool) q)) (a2c0bc0))]]]]),(3,.ptr 3 0),(8,.row 7016),(17,.sl 5 (a1.map z02)),(18,aI (((a1.map z02).length:Int))),(19,aI c.1)],[(3,.box 25 (z0g a0)),(7016,.row 57 1 (List.map (fun q=>AV.sl 3 (List.map z01 q)) (c.2)))]⟩) fun _ _=>zbd.eq_2 ..
instance zyy {n a0 a1 a2c0bc0}:CI E0 (zfz n a0 a1 a2c0bc0) false 37 [z0n a0,.sl 5 (a1.map z02),.fn 52 [.ref [.fn 77 [.ref [.sl 1 (List.map (fun q=>AV.mapv (List.map (zdj aI AV.bool) q)) (a2c0bc0))]]]]] (fun r=>.tup [.sl 1 (List.map (fun q=>AV.sl 3 (List.map z01 q)) (r.1)),aI r.2]):=⟨fun {r} hF=>by
 unfold zfz at hF
 refine Con.env (E:=E0b) rfl rfl ?_
 refine Con.walk _ Tryz.func37 rfl (z0x Tryz.func37 rfl rfl) rfl (Or.inl rfl) ?_
 repeat' first
  |refine AW.step ?_;conv=>whnf
  |refine z14.o hF (fun hF=>?_) fun hF=>?_
  |refine z14.t ?_
  |refine z14.f ?_
  |refine z1q.I hF fun a hF=>?_
  |refine OpX.bldS z01 hF rfl rfl rfl rfl rfl rfl rfl rfl rfl rfl rfl rfl rfl rfl (fun l hF=>?_)
  |refine OpX.bldR (fun q=>AV.sl 3 (List.map z01 q)) hF rfl rfl rfl rfl rfl rfl rfl rfl rfl rfl rfl rfl rfl rfl rfl rfl (by first|exact ziz.refl _|(repeat' first|exact ziz.nil|refine ziz.cons ?_ ?_|exact zaf.nil|refine zaf.cons ?_ ?_|exact Sub.refl _|exact Sub.nil _)) rfl (fun l hF=>?_)
  |refine OpX.bld (fun q=>AV.sl 3 (List.map z01 q)) hF rfl rfl rfl rfl rfl rfl rfl rfl rfl rfl rfl rfl rfl rfl rfl rfl (fun l hF=>?_)
  |refine zes.A hF fun x hF=>?_
  |refine y3v.o z02 hF (fun l hF=>?_)
  |refine zqo.o hF (fun m hF=>?_)
  |refine yev.o (fun q=>AV.sl 3 (List.map z01 q)) hF (fun x hF=>?_)
  |refine OpX.bldS (fun q=>AV.sl 3 (List.map z01 q)) hF rfl rfl rfl rfl rfl rfl rfl rfl rfl rfl rfl rfl rfl rfl (fun l hF=>?_)
  |refine zk3.oA hF fun l hF=>?_
  |exact ⟨_,hF,LeX.a [(7016,51)]⟩
  |refine z8f.I hF ?_ fun m v hF=>?_
  |exact LeX.a [(7016,16)]
  |refine And.intro ⟨by kernel_rfl,by kernel_rfl⟩ ?_
  |refine EqX.A ?_
  |exact zei.oB hF⟩
instance y6n {n a0 a1}:CI E0 (zfl n a0 a1) false 19 [z0n a0,.sl 5 (a1.map z02)] (fun r=>.tup [aI r.1,z0c r.2.1,.agg [.sl 1 (List.map (fun q=>AV.sl 3 (List.map z01 q)) (r.2.2.1.fSets))],aI r.2.2.2]):=⟨fun {r} hF=>by
 unfold zfl at hF
 refine cw Tryz.func19 ?_
 repeat' first
  |refine AW.frbO hF 43000000 rfl rfl (fun hF=>?_)
  |refine AW.frb0 43000000 rfl rfl ?_
  |refine AW.frbO hF 11 rfl rfl (fun hF=>?_)
  |refine AW.frb0 11 rfl rfl ?_
  |refine AW.regO hF fun hF=>?_
  |refine AW.frzO hF 43000000 rfl (fun hF=>?_)
  |refine AW.frzO hF 11 rfl (fun hF=>?_)
  |refine AW.stepU [10] ?_;conv=>whnf
  |refine z14.o hF (fun hF=>?_) fun hF=>?_
  |refine z14.t ?_
  |refine z14.f ?_
  |refine z1q.I hF fun a hF=>?_
  |refine zes.A hF fun x hF=>?_
  |refine zar.oM (z7a 42 hF) [] [(3,43000000)] _ _ z7w z9l [] (fun a h=>zdm.up (zc4 h)) (z0x Tryz.func44 rfl rfl) rfl rfl rfl trivial (fun a=>⟨rfl,rfl,rfl,rfl,rfl,rfl,rfl,rfl⟩) (fun a hF=>?_)
  |refine z1q.oM (z7a 42 hF) [] [(3,43000000)] _ _ z7w z9l [] (fun a h=>zdm.up (zc4 h)) (z0x Tryz.func44 rfl rfl) rfl rfl rfl trivial (fun a=>⟨rfl,rfl,rfl,rfl,rfl,rfl,rfl,rfl⟩) (fun a hF=>?_)
  |refine And.intro ⟨by kernel_rfl,by kernel_rfl⟩ ?_
  |refine EqX.A ?_
  |exact zei.oB hF⟩
set_option maxHeartbeats 400000 in
theorem yam (l:List (Cel 1))(S:Nat->Prop)(v:Value)(w:World)(h:Sl w S 1 zfy v l)(hl:l.length<=1000000000) :
  Calls Tryz.prog 35 #[v] w (zqn 57 1 zfy l w):=by
 have eok:EOk Tryz.prog 29 57 1 24 (zfy (n:=1)):=yn1 (sz:=1) (zna 29 _ rfl) rfl (zna 57 _ rfl) (by omega) rfl
 obtain ⟨A,c,rfl,hc,_⟩:=h.form
 have hq:=fun (W:World)=>Lib.run_eql_slice_nil W 29 57 A l.length c 0 0 Tryz.underlying29
 have H:=zun h
 cases A with
 |none =>
  have h0:l=[]:=h.none_nil
  subst h0
  clear h H hl hc
  simp only [length_nil,Option.isNone_none] at hq ⊢
  go_enter Tryz.func35,Tryz.ntmps35
  go_wp2
  go_ret
  exact ⟨none,0,rfl,Own.nil_,by go_grown⟩
 |some ad =>
  clear h
  go_enter Tryz.func35,Tryz.ntmps35
  go_wp2_with (at_builtin;refine zaq rfl _ _ rfl eok rfl Own.made_ rfl (H.out.alloc _) (by simp;omega) (by omega) (by simp) ?_;intro A' c' w1 ho hg _)
  go_ret
  exact ⟨A',c',rfl,ho,(Own.made_ (sz:=1) (enc:=zfy (n:=1))).grown ((Below.refl _ _).alloc (Nat.le_refl _) _) (Nat.le_refl _) (by simp) hg⟩
theorem zqi {n a r}(hF:zbm n a=some r):zpb E0 35 [.sl 1 (List.map (fun q=>AV.sl 3 (List.map z01 q)) a)] 57 1 (List.map (fun q=>AV.sl 3 (List.map z01 q)) r) (.row 0):=zjc rfl (z0x Tryz.func35 rfl rfl) yam hF
instance ylz {n a0 a1 a2}:CI E0 (zjj n a0 a1 a2) true 74 [z0n a0,.sl 5 (a1.map z02),z01 a2] aI:=⟨fun {r} hF=>by
 unfold zjj at hF
 refine cw Tryz.func74 ?_
 repeat' first
  |refine AW.step ?_;conv=>whnf
  |refine z14.o hF (fun hF=>?_) fun hF=>?_
  |refine z1q.oP hF zbq (fun u=>.tup [.nilp,aI (u.2)]) (fun u y=>.tup [.ref [aI (y.fa.fVars),aI (y.fa.fScopes),.sl 1 (y.fa.fStates.map z0p),.sl 17 (y.fa.fEdges.map z0w),.mapv (List.map (zdj z19 z02) (y.fheld))],aI (u.2)]) (fun u h=>by simp only [zbq,h,zbb]) (fun u y h=>by simp only [zbq,h,zbb]) (fun a h=>ziq.h h) (fun a hF=>?_) (fun a y hF=>?_)
  |(cases hF;done)
  |refine z1q.I hF fun a hF=>?_
  |exact zei.oB hF⟩
@[reducible,instance] def y30 {n a1 a0 b}:=li (z92 n a1 a0 b) (fun c=>⟨[(0,.sl 2 (a0.map z08)),(1,.sl 2 (a1.map z08)),(12,aI (((a0.map z08).length:Int))),(13,aI c)],[]⟩) fun _ _=>z92.eq_2 ..
instance y6k {n a0 a1}:CI E0 (zd3 n a0 a1) true 150 [.sl 2 (a0.map z08),.sl 2 (a1.map z08)] (fun r=>.bool (r)):=by unfold zd3;exact CI.w [] Tryz.func150
@[reducible,instance] def y7t {n}:=jf (z6m n) (fun b=>⟨[(4,.bool (b))],[]⟩) fun _=>z6m.eq_1 ..
instance ya6 {n a0 a1}:CI E0 (zf3 n a0 a1) true 110 [z01 a0,z01 a1] (fun r=>.bool (r)):=by unfold zf3;exact CI.w [1] Tryz.func110
@[reducible,instance] def y07 {n a0 x1}:=jf (z2u n a0 x1) (fun b=>⟨[(2,.ptr 2 0),(5,.sl 3 (x1.1.map z01)),(14,.bool (b))],[(2,.box 60 (z11 a0))]⟩) fun _=>z2u.eq_1 ..
end
open Go.RowKit
noncomputable section
instance y3s {n a0 a1}:CI E0 (zc1 n a0 a1) true 75 [z01 a0,z01 a1] aI:=by unfold zc1;exact CI.w [2] Tryz.func75
@[reducible,instance] def y7x {n a2 a1 a0 b c d e}:=jf (z8m n a2 a1 a0 b c d e) (fun f=>⟨[(1,.sl 5 (a1.map z02)),(3,.ptr 3 0),(7,aI b),(8,.sl 3 (c.map z01)),(20,.sl 1 (List.map (fun q=>AV.sl 3 (List.map z01 q)) (a2.fSets))),(21,aI ((((List.map (fun q=>AV.sl 3 (List.map z01 q)) (a2.fSets)).length:Nat):Int))),(22,aI b),(30,.sl 3 (c.map z01)),(31,aI (((c.map z01).length:Int))),(32,aI d),(57,.bool (f))],[(3,.box 25 (z0g a0))]⟩) fun _=>z8m.eq_1 ..
@[reducible,instance] def y7v {n a2 a1 a0 b c d}:=li (z1r n a2 a1 a0 b c d) (fun e=>⟨[(1,.sl 5 (a1.map z02)),(3,.ptr 3 0),(7,aI b),(8,.sl 3 (c.map z01)),(20,.sl 1 (List.map (fun q=>AV.sl 3 (List.map z01 q)) (a2.fSets))),(21,aI ((((List.map (fun q=>AV.sl 3 (List.map z01 q)) (a2.fSets)).length:Nat):Int))),(22,aI b),(30,.sl 3 (c.map z01)),(31,aI (((c.map z01).length:Int))),(32,aI e)],[(3,.box 25 (z0g a0))]⟩) fun _ _=>z1r.eq_2 ..
@[reducible,instance] def y7w {n a2 a1 a0 b}:=li (zak n a2 a1 a0 b) (fun c=>⟨[(1,.sl 5 (a1.map z02)),(3,.ptr 3 0),(20,.sl 1 (List.map (fun q=>AV.sl 3 (List.map z01 q)) (a2.fSets))),(21,aI ((((List.map (fun q=>AV.sl 3 (List.map z01 q)) (a2.fSets)).length:Nat):Int))),(22,aI c)],[(3,.box 25 (z0g a0))]⟩) fun _ _=>zak.eq_2 ..
instance ya8 {n a0 a1 a2}:CI E0 (zcl n a0 a1 a2) true 43 [z0n a0,.sl 5 (a1.map z02),.agg [.sl 1 (List.map (fun q=>AV.sl 3 (List.map z01 q)) (a2.fSets))]] aI:=⟨fun {r} hF=>by
 unfold zcl at hF
 refine cw Tryz.func43 ?_
 repeat' first
  |refine AW.jI hF (fun v hF=>?_) fun hF=>?_
  |refine AW.regO hF fun hF=>?_
  |refine AW.stepU [14] ?_;conv=>whnf
  |refine z14.o hF (fun hF=>?_) fun hF=>?_
  |refine z14.t ?_
  |refine z14.f ?_
  |refine zes.o (fun q=>AV.sl 3 (List.map z01 q)) hF fun x hF=>?_
  |exact ⟨_,hF,LeX.a []⟩
  |refine zes.A hF fun x hF=>?_
  |refine y3v.o z02 hF (fun l hF=>?_)
  |refine z1q.I hF fun a hF=>?_
  |refine z8f.I hF (LeX.a []) fun m v hF=>?_
  |refine And.intro ⟨by kernel_rfl,by kernel_rfl⟩ ?_
  |refine EqX.A ?_
  |exact zei.oB hF⟩
instance zwa {n a0 a1bc0 a2}:CI E0 (zcc n a0 a1bc0 a2) true 46 [z01 a0,.ref [.fn 77 [.ref [.sl 1 (List.map (fun q=>AV.mapv (List.map (zdj aI AV.bool) q)) (a1bc0))]]],.ref (z11 a2)] (fun r=>.bool (r)):=by unfold zcc;exact CI.w [] Tryz.func46
@[reducible,instance] def zub {n b a1c0bc0 a0 c}:=li (z3l n b a1c0bc0 a0 c) (fun d=>⟨[(0,.sl 3 (a0.map z01)),(1,.fn 46 [.ref [.fn 77 [.ref [.sl 1 (List.map (fun q=>AV.mapv (List.map (zdj aI AV.bool) q)) (a1c0bc0))]]],.ref (z11 b)]),(7,aI (((a0.map z01).length:Int))),(8,aI d)],[]⟩) fun _ _=>z3l.eq_2 ..
instance zw2 {n a0 a1c0bc0 b}:CI E0 (zca n a0 a1c0bc0 b) true 59 [.sl 3 (a0.map z01),.fn 46 [.ref [.fn 77 [.ref [.sl 1 (List.map (fun q=>AV.mapv (List.map (zdj aI AV.bool) q)) (a1c0bc0))]]],.ref (z11 b)]] aI:=by unfold zca;exact CI.w [] Tryz.func59
instance zro {n a0 a1c0bc0 b}:CI E0 (zas n a0 a1c0bc0 b) true 27 [.sl 3 (a0.map z01),.fn 46 [.ref [.fn 77 [.ref [.sl 1 (List.map (fun q=>AV.mapv (List.map (zdj aI AV.bool) q)) (a1c0bc0))]]],.ref (z11 b)]] (fun r=>.bool (r)):=by unfold zas;exact CI.w [] Tryz.func27
instance y1q {n a0 a1 a2bc0}:CI E0 (za1 n a0 a1 a2bc0) true 45 [.sl 3 (a0.map z01),z01 a1,.ref [.fn 77 [.ref [.sl 1 (List.map (fun q=>AV.mapv (List.map (zdj aI AV.bool) q)) (a2bc0))]]]] (fun r=>.bool (r)):=⟨fun {r} hF=>by
 unfold za1 at hF
 refine cw Tryz.func45 ?_
 repeat' first
  |refine AW.step ?_;conv=>whnf
  |refine z14.o hF (fun hF=>?_) fun hF=>?_
  |refine z14.t ?_
  |refine z14.f ?_
  |refine zar.I hF (fun a hF=>?_) rfl rfl fun _=>Or.inr rfl
  |refine And.intro ⟨by kernel_rfl,by kernel_rfl⟩ ?_
  |refine EqX.A ?_
  |exact zei.oB hF⟩
instance yn5 {n a0 a1 a2 a3}:CI E0 (zkg n a0 a1 a2 a3) false 48 [z0n a0,.sl 5 (a1.map z02),z01 a2,z02 a3] (fun r=>.tup [.sl 3 (r.1.map z01),.sl 1 (r.2.1.map z0c),aI r.2.2]):=⟨fun {r} hF=>by
 unfold zkg at hF
 refine cw Tryz.func48 ?_
 repeat' first
  |refine AW.step ?_;conv=>whnf
  |refine z14.o hF (fun hF=>?_) fun hF=>?_
  |refine z14.t ?_
  |refine z14.f ?_
  |refine z1q.oP hF zbq (fun u=>.tup [.nilp,aI (u.2)]) (fun u y=>.tup [.ref [aI (y.fa.fVars),aI (y.fa.fScopes),.sl 1 (y.fa.fStates.map z0p),.sl 17 (y.fa.fEdges.map z0w),.mapv (List.map (zdj z19 z02) (y.fheld))],aI (u.2)]) (fun u h=>by simp only [zbq,h,zbb]) (fun u y h=>by simp only [zbq,h,zbb]) (fun a h=>ziq.h h) (fun a hF=>?_) (fun a y hF=>?_)
  |(cases hF;done)
  |refine z1q.I hF fun a hF=>?_
  |refine And.intro ⟨by kernel_rfl,by kernel_rfl⟩ ?_
  |refine EqX.A ?_
  |exact zei.oB hF⟩
instance y1p {n a0 a1bc0bc0 a2 a3}:CI E0 (ze1 n a0 a1bc0bc0 a2 a3) true 49 [z01 a0,.ref [.fn 45 [.ref [.fn 77 [.ref [.sl 1 (List.map (fun q=>AV.mapv (List.map (zdj aI AV.bool) q)) (a1bc0bc0))]]]]],.ref [.sl 1 (List.map (fun q=>AV.sl 3 (List.map z01 q)) (a2.fSets))],.ref [aI a3]] (fun r=>.bool (r)):=⟨fun {r} hF=>by
 unfold ze1 at hF
 refine cw Tryz.func49 ?_
 repeat' first
  |refine AW.step ?_;conv=>whnf
  |refine z14.o hF (fun hF=>?_) fun hF=>?_
  |refine z14.t ?_
  |refine z14.f ?_
  |refine zes.o (fun q=>AV.sl 3 (List.map z01 q)) hF fun x hF=>?_
  |refine z1q.I hF fun a hF=>?_
  |refine And.intro ⟨by kernel_rfl,by kernel_rfl⟩ ?_
  |refine EqX.A ?_
  |exact zei.oB hF⟩
@[reducible,instance] def zua {n b c a1c0bc0bc0 a0 d}:=li (z3k n b c a1c0bc0bc0 a0 d) (fun e=>⟨[(0,.sl 3 (a0.map z01)),(1,.fn 49 [.ref [.fn 45 [.ref [.fn 77 [.ref [.sl 1 (List.map (fun q=>AV.mapv (List.map (zdj aI AV.bool) q)) (a1c0bc0bc0))]]]]],.ref [.sl 1 (List.map (fun q=>AV.sl 3 (List.map z01 q)) (c.fSets))],.ref [aI b]]),(7,aI (((a0.map z01).length:Int))),(8,aI e)],[]⟩) fun _ _=>z3k.eq_2 ..
instance zw1 {n a0 a1c0bc0bc0 b c}:CI E0 (zc9 n a0 a1c0bc0bc0 b c) true 59 [.sl 3 (a0.map z01),.fn 49 [.ref [.fn 45 [.ref [.fn 77 [.ref [.sl 1 (List.map (fun q=>AV.mapv (List.map (zdj aI AV.bool) q)) (a1c0bc0bc0))]]]]],.ref [.sl 1 (List.map (fun q=>AV.sl 3 (List.map z01 q)) (b.fSets))],.ref [aI c]]] aI:=by unfold zc9;exact CI.w [] Tryz.func59
instance zrn {n a0 a1c0bc0bc0 b c}:CI E0 (z8g n a0 a1c0bc0bc0 b c) true 27 [.sl 3 (a0.map z01),.fn 49 [.ref [.fn 45 [.ref [.fn 77 [.ref [.sl 1 (List.map (fun q=>AV.mapv (List.map (zdj aI AV.bool) q)) (a1c0bc0bc0))]]]]],.ref [.sl 1 (List.map (fun q=>AV.sl 3 (List.map z01 q)) (b.fSets))],.ref [aI c]]] (fun r=>.bool (r)):=by unfold z8g;exact CI.w [] Tryz.func27
@[reducible,instance] def y37 {n a2 a1 a0 b f c d e}:=jf (z4r n a2 a1 a0 b f c d e) (fun g=>⟨[(1,.sl 5 (a1.map z02)),(3,.ptr 3 0),(5,.ptr 5 0),(10,.ref [.fn 45 [.ref [.fn 77 [.ref [.sl 1 (List.map (fun q=>AV.mapv (List.map (zdj aI AV.bool) q)) (b.1))]]]]]),(11,.ptr 11 0),(12,.ptr 12 0),(42,.sl 5 (a1.map z02)),(43,aI (((a1.map z02).length:Int))),(44,aI b.2),(53,.sl 3 (c.map z01)),(54,aI (((c.map z01).length:Int))),(55,aI d),(81,.bool (g))],[(3,.box 25 (z0g a0)),(5,.box 31 [.sl 1 (List.map (fun q=>AV.sl 3 (List.map z01 q)) (a2.fSets))]),(11,.box 3 [aI b.2]),(12,.box 71 (z16 f))]⟩) fun _=>z4r.eq_1 ..
@[reducible,instance] def y35 {n a2 a1 a0 b e c d}:=li (z3a n a2 a1 a0 b e c d) (fun f=>⟨[(1,.sl 5 (a1.map z02)),(3,.ptr 3 0),(5,.ptr 5 0),(10,.ref [.fn 45 [.ref [.fn 77 [.ref [.sl 1 (List.map (fun q=>AV.mapv (List.map (zdj aI AV.bool) q)) (b.1))]]]]]),(11,.ptr 11 0),(12,.ptr 12 0),(42,.sl 5 (a1.map z02)),(43,aI (((a1.map z02).length:Int))),(44,aI b.2),(53,.sl 3 (c.map z01)),(54,aI (((c.map z01).length:Int))),(55,aI f)],[(3,.box 25 (z0g a0)),(5,.box 31 [.sl 1 (List.map (fun q=>AV.sl 3 (List.map z01 q)) (a2.fSets))]),(11,.box 3 [aI b.2]),(12,.box 71 (z16 e))]⟩) fun _ _=>z3a.eq_2 ..
@[reducible,instance] def y36 {n a2 a1 a0 b}:=li (z4q n a2 a1 a0 b) (fun c=>⟨[(1,.sl 5 (a1.map z02)),(3,.ptr 3 0),(5,.ptr 5 0),(10,.ref [.fn 45 [.ref [.fn 77 [.ref [.sl 1 (List.map (fun q=>AV.mapv (List.map (zdj aI AV.bool) q)) (c.1))]]]]]),(42,.sl 5 (a1.map z02)),(43,aI (((a1.map z02).length:Int))),(44,aI c.2)],[(3,.box 25 (z0g a0)),(5,.box 31 [.sl 1 (List.map (fun q=>AV.sl 3 (List.map z01 q)) (a2.fSets))])]⟩) fun _ _=>z4q.eq_2 ..
instance y6m {n a0 a1 a2}:CI E0 (z68 n a0 a1 a2) true 17 [z0n a0,.sl 5 (a1.map z02),.agg [.sl 1 (List.map (fun q=>AV.sl 3 (List.map z01 q)) (a2.fSets))]] aI:=⟨fun {r} hF=>by
 unfold z68 at hF
 refine cw Tryz.func17 ?_
 repeat' first
  |refine AW.frbO hF 33000000 rfl rfl (fun hF=>?_)
  |refine AW.frb0 33000000 rfl rfl ?_
  |refine AW.frbO hF 9 rfl rfl (fun hF=>?_)
  |refine AW.frb0 9 rfl rfl ?_
  |refine AW.jI hF (fun v hF=>?_) fun hF=>?_
  |refine AW.regO hF fun hF=>?_
  |refine AW.frzO hF 33000000 rfl (fun hF=>?_)
  |refine AW.frzO hF 9 rfl (fun hF=>?_)
  |refine AW.frzO hF 10 rfl (fun hF=>?_)
  |refine AW.stepU [9,18] ?_;conv=>whnf
  |refine z14.o hF (fun hF=>?_) fun hF=>?_
  |refine z14.t ?_
  |refine z14.f ?_
  |refine z1q.I hF fun a hF=>?_
  |refine zar.oM (z7a 32 hF) [] [(3,33000000)] _ _ z7w z9l [] (fun a h=>zdm.up (zc4 h)) (z0x Tryz.func44 rfl rfl) rfl rfl rfl trivial (fun a=>⟨rfl,rfl,rfl,rfl,rfl,rfl,rfl,rfl⟩) (fun a hF=>?_)
  |refine z1q.oM (z7a 32 hF) [] [(3,33000000)] _ _ z7w z9l [] (fun a h=>zdm.up (zc4 h)) (z0x Tryz.func44 rfl rfl) rfl rfl rfl trivial (fun a=>⟨rfl,rfl,rfl,rfl,rfl,rfl,rfl,rfl⟩) (fun a hF=>?_)
  |refine zes.o (fun q=>AV.sl 3 (List.map z01 q)) hF fun x hF=>?_
  |refine zes.A hF fun x hF=>?_
  |exact ⟨_,hF,LeX.a []⟩
  |refine y3v.o z02 hF (fun l hF=>?_)
  |refine zar.I hF (fun a hF=>?_) rfl rfl fun _=>Or.inr rfl
  |refine z8f.I hF ?_ fun m v hF=>?_
  |exact LeX.a []
  |exact LeX.trans (LeX.frb 10 rfl rfl) (LeX.a [])
  |refine And.intro ⟨by kernel_rfl,by kernel_rfl⟩ ?_
  |refine EqX.A ?_
  |exact zei.oB hF⟩
@[reducible,instance] def zxd {n}:=jf (z7n n) (fun b=>⟨[(0,.bool (b))],[]⟩) fun _=>z7n.eq_1 ..
@[reducible,instance] def zxe {n b c}:=jf (z58 n b c) (fun d=>⟨[(1,.sl 5 (b.map z02)),(6,.ptr 6 0),(118,.bool (d))],[(6,.box 31 [.sl 1 (List.map (fun q=>AV.sl 3 (List.map z01 q)) (c))])]⟩) fun _=>z58.eq_1 ..
@[reducible,instance] def zxc {n x1 x4 x7 x9 b c}:=jf (z7m n x1 x4 x7 x9 b c) (fun d=>⟨[(1,.sl 5 (x1.map z02)),(2,.ptr 2 0),(6,.ptr 6 0),(9,.ptr 9 0),(71,aI ((((List.map (fun q=>AV.sl 3 (List.map z01 q)) (x4.1.fSets)).length:Nat):Int))),(72,aI b),(95,.bool (d))],[(2,.box 31 [.sl 1 (List.map (fun q=>AV.sl 3 (List.map z01 q)) (x4.1.fSets))]),(6,.box 31 [.sl 1 (List.map (fun q=>AV.sl 3 (List.map z01 q)) (x7.2.2.1.fSets))]),(9,.box 44 (zeh x9.2.1))]⟩) fun _=>z7m.eq_1 ..
end
end Go.Proofs.YtidhlpjgifoneaaGreat
