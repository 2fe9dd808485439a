/- What some functions compute, over plain values. -/
import Derived.Test.YtidhlpjgifoneaaGreatK26
set_option linter.unusedVariables false
set_option linter.unusedSimpArgs false
set_option maxRecDepth 100000
set_option maxHeartbeats 8000000
namespace Go.Proofs.YtidhlpjgifoneaaGreat
open Go.RowKit List
noncomputable section
abbrev zis {n a m0n f c d e}:=li (z8r n a m0n f c d e) (fun b=>⟨[(0,aI f),(2,.ptr 100000 0),(9,.row 200001),(10,aI (((a.map idA).length:Int))),(11,aI c.1),(16,.sl 1 (d.map aI)),(17,aI (((d.map aI).length:Int))),(18,aI b.1)],[(100000,.box 130 [.cont (m0n) 200000]),(200000,.are 136 (b.2).1 (List.map (enO aI AV.bool) (b.2).2)),(200001,.row 111 8 (a.map idA))]⟩) fun _ _=>z8r.eq_2 ..
abbrev zit {n a m0n d c}:=li (z8s n a m0n d c) (fun b=>⟨[(0,aI d),(2,.ptr 100000 0),(9,.row 200001),(10,aI (((a.map idA).length:Int))),(11,aI b.1)],[(100000,.box 130 [.cont (m0n) 200000]),(200000,.are 136 (b.2).1 (List.map (enO aI AV.bool) (b.2).2)),(200001,.row 111 8 (a.map idA))]⟩) fun _ _=>z8s.eq_2 ..
abbrev zla {n b e a d}:=li (zb3 n b e a d) (fun c=>⟨[(1,aI e),(2,.ptr 100000 0),(3,.ptr 100001 0),(4,.ptr 100002 0),(23,.sl 1 (a.map aI)),(24,aI (((a.map aI).length:Int))),(25,aI c.1)],[(100000,.box 130 [.cont (c.2.1) 200000]),(100001,.box 175 [.sl 1 (List.map (fun q=>AV.sl 1 (List.map aI q)) (c.2.2.1))]),(100002,.box 177 [.fn 114 [.ptr 100000 0,.ptr 100001 0,.ptr 100002 0]]),(200000,.are 136 (c.2.2.2).1 (List.map (enO aI AV.bool) (c.2.2.2).2))]⟩) fun _ _=>zb3.eq_2 ..
abbrev znz {n b d e}:=li (zc5 n b d e) (fun c=>⟨[(12,.ptr 12 0),(14,.ptr 14 0),(15,aI d.1),(104,.sl 1 (List.map (fun q=>AV.mapv (List.map (encM aI AV.bool) q)) ((aval b)))),(105,aI ((((List.map (fun q=>AV.mapv (List.map (encM aI AV.bool) q)) ((aval b))).length:Nat):Int))),(106,aI d.1),(112,.ptr 112 0)],[(12,.box 130 [.cont (c.1) 7092]),(14,.box 177 [.fn 114 [.ptr 12 0,.ptr 9 0,.ptr 14 0]]),(9,.box 175 [.sl 1 (List.map (fun q=>AV.sl 1 (List.map aI q)) (c.2.1))]),(112,.it (List.map (encM aI AV.bool) (c.2.2.1))),(7092,.are 136 (c.2.2.2).1 (List.map (enO aI AV.bool) (c.2.2.2).2))]⟩) fun _ _=>zc5.eq_2 ..
abbrev zo0 {n b d}:=li (zc6 n b d) (fun c=>⟨[(12,.ptr 12 0),(14,.ptr 14 0),(104,.sl 1 (List.map (fun q=>AV.mapv (List.map (encM aI AV.bool) q)) ((aval b)))),(105,aI ((((List.map (fun q=>AV.mapv (List.map (encM aI AV.bool) q)) ((aval b))).length:Nat):Int))),(106,aI c.1)],[(12,.box 130 [.cont (c.2.1) 7092]),(14,.box 177 [.fn 114 [.ptr 12 0,.ptr 9 0,.ptr 14 0]]),(9,.box 175 [.sl 1 (List.map (fun q=>AV.sl 1 (List.map aI q)) (c.2.2.1))]),(7092,.are 136 (c.2.2.2).1 (List.map (enO aI AV.bool) (c.2.2.2).2))]⟩) fun _ _=>zc6.eq_2 ..
abbrev zo1 {n h c b d f g}:=li (zc7 n h c b d f g) (fun e=>⟨[(3,.ptr 3 0),(9,.ptr 9 0),(12,.ptr 12 0),(94,aI (((f:Nat):Int))),(95,aI e.1)],[(3,.box 130 [.cont (c) 7021]),(7021,.are 136 (b).1 (List.map (enO aI AV.bool) (b).2)),(9,.box 175 [.cont (h) 53]),(53,.nest 112 (List.map (enR aI 3 1) (d))),(12,.box 130 [.cont (f) 92]),(92,.are 136 (e.2).1 (List.map (enO aI AV.bool) (e.2).2))]⟩) fun _ _=>zc7.eq_2 ..
abbrev zo2 {n a d c}:=li (za9 n a d c) (fun b=>⟨[(1,.ptr 1 0),(3,.ptr 3 0),(4,.fn 111 [.ptr 3 0]),(9,.ptr 9 0),(55,.sl 17 (a.fEdges.map z0v)),(56,aI (((a.fEdges.map z0v).length:Int))),(57,aI b.1)],[(1,.box 25 (z0d a)),(3,.box 130 [.cont (b.2.1) 7021]),(9,.box 175 [.cont (d) 53]),(53,.nest 112 (List.map (enR aI 3 1) (b.2.2.1))),(7021,.are 136 (b.2.2.2).1 (List.map (enO aI AV.bool) (b.2.2.2).2))]⟩) fun _ _=>za9.eq_2 ..
abbrev zny {n a c d e}:=li (zc4 n a c d e) (fun b=>⟨[(1,.ptr 1 0),(3,.ptr 3 0),(4,.fn 111 [.ptr 3 0]),(5,aI c.1),(24,.sl 1 (a.fStates.map z0s)),(25,aI (((a.fStates.map z0s).length:Int))),(26,aI c.1),(36,.sl 11 (d.fGuards.map z0u)),(37,aI (((d.fGuards.map z0u).length:Int))),(38,aI b.1)],[(1,.box 25 (z0d a)),(3,.box 130 [.cont (b.2.1) 7021]),(7021,.are 136 (b.2.2).1 (List.map (enO aI AV.bool) (b.2.2).2))]⟩) fun _ _=>zc4.eq_2 ..
abbrev zo3 {n a c}:=li (zc8 n a c) (fun b=>⟨[(1,.ptr 1 0),(3,.ptr 3 0),(4,.fn 111 [.ptr 3 0]),(24,.sl 1 (a.fStates.map z0s)),(25,aI (((a.fStates.map z0s).length:Int))),(26,aI b.1)],[(1,.box 25 (z0d a)),(3,.box 130 [.cont (b.2.1) 7021]),(7021,.are 136 (b.2.2).1 (List.map (enO aI AV.bool) (b.2.2).2))]⟩) fun _ _=>zc8.eq_2 ..
abbrev zjt {n}:=jf (z4c n) (fun b=>⟨[(4,.bool (b))],[]⟩) fun _=>z4c.eq_1 ..
attribute [instance] zis zit zla znz zo0 zo1 zo2 zny zo3 zjt
theorem zhp {n d c m0n e r}(b:zfw n d c m0n e=some r):ConG E0.P none (CalF E0.P 111 0) [aI d,.sl 8 (c.map idA),.ptr 100000 0] [] (zpw d c m0n e) (zco r) (zag r):=by
 unfold zfw at b;refine ConG.walk (E:=(E0p 3)) (caps:=[]) _ Tryz.func111 rfl rfl rfl rfl rfl ?_;repeat' first
  |refine AW.step ?_;conv=>whnf
  |refine z10.o b (fun b=>?_) fun b=>?_
  |refine z10.t ?_
  |refine z10.f ?_
  |exact GX.A (res:=zco) (meF:=zag) b zpu (h1:=LeX.a [(270000,200000)])
  |refine IdxX.oD b z2q (fun x b=>?_)
  |refine z1h.I b fun a b=>?_
  |exact ⟨_,b,LeX.a []⟩
  |refine IdxX.A b fun x b=>?_
  |refine OpX.ixc b rfl rfl rfl rfl rfl rfl rfl rfl (fun b=>?_)
  |refine OpX.aob b rfl rfl rfl rfl rfl rfl rfl (fun j b=>?_)
  |refine OpX.aup AV.bool b (Or.inl rfl) rfl rfl rfl rfl rfl rfl rfl rfl rfl (by first|rfl|kernel_rfl) rfl rfl (fun l b=>?_)
  |refine z63.I b (LeX.a []) fun m v b=>?_
  |refine AndA ?_
  |refine EqX.A ?_
set_option maxHeartbeats 400000 in
theorem y9z (l:List (Cel 8))(S:Nat->Prop)(v:Value)(w:World)(h:Sl w S 8 encC v l)(d:l.length<=1000000000) :
  Calls Tryz.prog 113 #[v] w (zxw 111 8 encC l w):=by
 have eok:EOk Tryz.prog 107 111 8 88 (encC (n:=8)):=eokC (sz:=8) (ztj 107 _ rfl) rfl (ztj 111 _ rfl) (by omega) rfl;obtain ⟨A,c,rfl,f,_⟩:=h.form;have a:=fun (W:World)=>Lib.run_eql_slice_nil W 107 111 A l.length c 0 0 Tryz.underlying107
 have H:=hide h;cases A with
 |none =>
  have g:l=[]:=h.none_nil;subst g;clear h H d f;simp only [length_nil,Option.isNone_none] at a ⊢
  go_enter Tryz.func113,Tryz.ntmps113
  go_wp2
  go_ret
  exact ⟨none,0,rfl,Own.nil_,by go_grown⟩
 |some ad =>
  clear h
  go_enter Tryz.func113,Tryz.ntmps113
  go_wp2_with (at_builtin;refine zb0 rfl _ _ rfl eok rfl Own.made_ rfl (H.out.alloc _) (by simp;omega) (by omega) (by simp) ?_;intro A' i j b e _)
  go_ret
  exact ⟨A',i,rfl,b,(Own.made_ (sz:=8) (enc:=encC (n:=8))).grown ((Below.refl _ _).alloc (Nat.le_refl _) _) (Nat.le_refl _) (by simp) e⟩
theorem zw1 {n a r}(b:zct n a=some r):ConT E0 113 [.sl 8 (List.map idA a)] 111 8 (List.map idA r) (.row 0):=zki rfl (z0q Tryz.func113 rfl rfl) y9z b
def zk0 (c:Int)(m0n:Nat)(a:(Ars (List (Int×Bool))))(b:(List AV)):List (Nat×Ent):=[(100000,.box 130 [.cont (m0n) 200000]),(200000,.are 136 (a).1 (List.map (enO aI AV.bool) (a).2)),(200001,.row 111 8 (b.map idA))]
def z7f (r:Nat×(Ars (List (Int×Bool)))):List (Nat×Ent):=[(100000,.box 130 [.cont (r.1) 270000]),(270000,.are 136 (r.2).1 (List.map (enO aI AV.bool) (r.2).2))]
def zac (r:Nat×(Ars (List (Int×Bool)))):AV:=.tup []
def zjx (r:Nat×(Ars (List (Int×Bool)))):AS:=⟨[(2,.ptr 100000 0)],z7f r⟩
theorem zfo {n c m0n e d r}(b:zcr n c m0n e d=some r):ConG E0.P none (CalF E0.P 111 0) [aI c,.row 200001,.ptr 100000 0] [] (zk0 c m0n e d) (zac r) (z7f r):=by
 unfold zcr at b;refine ConG.walk (E:=(E0p 3)) (caps:=[]) _ Tryz.func111 rfl rfl rfl rfl rfl ?_;repeat' first
  |refine AW.step ?_;conv=>whnf
  |refine z10.o b (fun b=>?_) fun b=>?_
  |refine z10.t ?_
  |refine z10.f ?_
  |exact GX.A (res:=zac) (meF:=z7f) b zjx (h1:=LeX.a [(270000,200000)])
  |refine NatX.o b (fun m b=>?_)
  |refine EltX.oD b z2q (fun x b=>?_)
  |refine z1h.I b fun a b=>?_
  |exact ⟨_,b,LeX.a []⟩
  |refine IdxX.A b fun x b=>?_
  |refine OpX.ixc b rfl rfl rfl rfl rfl rfl rfl rfl (fun b=>?_)
  |refine OpX.aob b rfl rfl rfl rfl rfl rfl rfl (fun j b=>?_)
  |refine OpX.aup AV.bool b (Or.inl rfl) rfl rfl rfl rfl rfl rfl rfl rfl rfl (by first|rfl|kernel_rfl) rfl rfl (fun l b=>?_)
  |refine z63.I b (LeX.a []) fun m v b=>?_
  |refine AndA ?_
  |refine EqX.A ?_
theorem yr4 (a b:Int):eqK (aI a) (aI b)=some (decide (a=b)):=by simp [eqK,eq1,aI,zkk]
def zpv (d:Int)(c:Int)(m0n:Nat)(a:(Ars (List (Int×Bool))))(b:(List (List Int))):List (Nat×Ent):=[(100000,.box 130 [.cont (m0n) 200000]),(200000,.are 136 (a).1 (List.map (enO aI AV.bool) (a).2)),(100001,.box 175 [.sl 1 (List.map (fun q=>AV.sl 1 (List.map aI q)) (b))]),(100002,.box 177 [.fn 114 [.ptr 100000 0,.ptr 100001 0,.ptr 100002 0]])]
def z5l (r:Nat×(Ars (List (Int×Bool)))×(List (List Int))):List (Nat×Ent):=[(100000,.box 130 [.cont (r.1) 270000]),(270000,.are 136 (r.2.1).1 (List.map (enO aI AV.bool) (r.2.1).2)),(100001,.box 175 [.sl 1 (List.map (fun q=>AV.sl 1 (List.map aI q)) (r.2.2))]),(100002,.box 177 [.fn 114 [.ptr 100000 0,.ptr 100001 0,.ptr 100002 0]])]
def z8h (r:Nat×(Ars (List (Int×Bool)))×(List (List Int))):AV:=.tup []
def zpt (r:Nat×(Ars (List (Int×Bool)))×(List (List Int))):AS:=⟨[(2,.ptr 100000 0),(3,.ptr 100001 0),(4,.ptr 100002 0)],z5l r⟩
theorem zho {n e d m0n g f r}(c:zcq n e d m0n g f=some r):ConG E0.P none (CalF E0.P 114 0) [aI e,aI d,.ptr 100000 0,.ptr 100001 0,.ptr 100002 0] [] (zpv e d m0n g f) (z8h r) (z5l r):=by
 induction n generalizing e d m0n g f r
 case zero=>cases c
 case succ n i =>
 unfold zcq at c;refine ConG.walk (E:=(E0p 5)) (caps:=[]) _ Tryz.func114 rfl rfl rfl rfl rfl ?_;repeat' first
  |refine AW.step ?_;conv=>whnf
  |refine z10.o c (fun c=>?_) fun c=>?_
  |refine z10.t ?_
  |refine z10.f ?_
  |refine OpX.ixc c rfl rfl rfl rfl rfl rfl rfl rfl (fun c=>?_)
  |refine OpX.aob c rfl rfl rfl rfl rfl rfl rfl (fun j c=>?_)
  |refine OpX.alk aI AV.bool c yr4 rfl rfl rfl rfl rfl rfl rfl rfl rfl rfl rfl (by first|rfl|kernel_rfl) (by repeat' first|exact Sub.nil _|exact Sub.refl _|refine Sub.agg ?_|refine Sub.tup ?_|refine Sub.fn ?_|exact SubL.nil|refine SubL.cons ?_ ?_|refine Sub.sl _ ?_|exact SubE.nil|refine SubE.cons ?_ ?_) (fun v b c=>?_)
  |exact GX.A (res:=z8h) (meF:=z5l) c zpt (h1:=LeX.a [(270000,200000)])
  |refine OpX.aup AV.bool c (Or.inl rfl) rfl rfl rfl rfl rfl rfl rfl rfl rfl (by first|rfl|kernel_rfl) rfl rfl (fun l c=>?_)
  |refine IdxX.o (fun q=>AV.sl 1 (List.map aI q)) c fun x c=>?_
  |refine IdxX.A c fun x c=>?_
  |refine zab.oM (z3d 32 c) [(100000,100000),(100001,100001),(100002,100002),(200000,200000)] [(100000,100000),(270000,33000001),(100001,100001),(100002,100002)] _ _ z5l z8h [200000] (fun a h=>ConG.up (i h)) (z0q Tryz.func114 rfl rfl) rfl rfl rfl ⟨⟨rfl,rfl⟩,⟨⟨rfl,rfl⟩,⟨⟨rfl,rfl⟩,⟨⟨rfl,rfl⟩,trivial⟩⟩⟩⟩ (fun a=>⟨rfl,rfl,rfl,rfl,rfl,rfl,rfl,rfl⟩) (fun a c=>?_)
  |refine z1h.oM (z3d 32 c) [(100000,100000),(100001,100001),(100002,100002),(200000,200000)] [(100000,100000),(270000,33000001),(100001,100001),(100002,100002)] _ _ z5l z8h [200000] (fun a h=>ConG.up (i h)) (z0q Tryz.func114 rfl rfl) rfl rfl rfl ⟨⟨rfl,rfl⟩,⟨⟨rfl,rfl⟩,⟨⟨rfl,rfl⟩,⟨⟨rfl,rfl⟩,trivial⟩⟩⟩⟩ (fun a=>⟨rfl,rfl,rfl,rfl,rfl,rfl,rfl,rfl⟩) (fun a c=>?_)
  |exact ⟨_,c,LeX.a [(200000,33000001)]⟩
  |refine z63.I c (LeX.a []) fun m v c=>?_
  |refine AndA ?_
  |refine EqX.A ?_
instance y5p {n c}:CI E0 (zh4 n c) false 76 [z0m c] (fun r=>.sl 1 (List.map (fun q=>AV.mapv (List.map (encM aI AV.bool) q)) (r))):=⟨fun {r} b=>by
 unfold zh4 at b;refine cw Tryz.func76 ?_;repeat' first
  |refine AW.areO aI AV.bool b 21 rfl (fun b=>?_)
  |refine AW.nstO (er:=aI) 3 1 b 53 rfl (fun b=>?_)
  |refine AW.areO aI AV.bool b 92 rfl (fun b=>?_)
  |refine AW.frrO (ety:=3) (sz:=1) aI b 53 rfl (fun b=>?_)
  |refine AW.frcO aI AV.bool b 7021 rfl (fun b=>?_)
  |refine AW.frcO aI AV.bool b 7092 rfl (fun b=>?_)
  |refine AW.pckO (encM aI AV.bool) b 112 rfl (fun x s b=>?_)
  |refine AW.regO b fun b=>?_
  |refine AW.frzO b 53 rfl (fun b=>?_)
  |refine AW.frzO b 7021 rfl (fun b=>?_)
  |refine AW.frzO b 7092 rfl (fun b=>?_)
  |refine AW.stepU [28,29,37,18,34,22,14,2] ?_;conv=>whnf
  |refine z10.o b (fun b=>?_) fun b=>?_
  |refine z10.t ?_
  |refine z10.f ?_
  |refine MakX.om b (fun m b=>?_)
  |refine MakX.on b (fun m b=>?_)
  |refine OpX.lnc rfl rfl rfl rfl rfl rfl ?_
  |refine IdxX.o (fun q=>AV.mapv (List.map (encM aI AV.bool) q)) b fun x b=>?_
  |refine OpX.rng rfl rfl rfl rfl rfl rfl rfl rfl ?_
  |exact ⟨_,b,LeX.a []⟩
  |refine OpX.nxt (encM aI AV.bool) b rfl rfl rfl rfl rfl (fun b=>?_) (fun b=>?_)
  |refine OpX.ent rfl rfl rfl rfl rfl ?_
  |refine zab.oM (z3d 120 b) [(100000,12),(100001,9),(100002,14),(200000,7092)] [(100000,12),(270000,121000001),(100001,9),(100002,14)] _ _ z5l z8h [7092] (fun a h=>ConG.up (zho h)) (z0q Tryz.func114 rfl rfl) rfl rfl rfl ⟨⟨rfl,rfl⟩,⟨⟨rfl,rfl⟩,⟨⟨rfl,rfl⟩,⟨⟨rfl,rfl⟩,trivial⟩⟩⟩⟩ (fun a=>⟨rfl,rfl,rfl,rfl,rfl,rfl,rfl,rfl⟩) (fun a b=>?_)
  |refine z1h.oM (z3d 120 b) [(100000,12),(100001,9),(100002,14),(200000,7092)] [(100000,12),(270000,121000001),(100001,9),(100002,14)] _ _ z5l z8h [7092] (fun a h=>ConG.up (zho h)) (z0q Tryz.func114 rfl rfl) rfl rfl rfl ⟨⟨rfl,rfl⟩,⟨⟨rfl,rfl⟩,⟨⟨rfl,rfl⟩,⟨⟨rfl,rfl⟩,trivial⟩⟩⟩⟩ (fun a=>⟨rfl,rfl,rfl,rfl,rfl,rfl,rfl,rfl⟩) (fun a b=>?_)
  |exact ⟨_,b,LeX.trans (LeX.itc 112 rfl) (LeX.a [(7092,121000001)])⟩
  |refine z63.I b ?_ fun m v b=>?_
  |exact LeX.a []
  |exact LeX.a [(7092,92)]
  |refine OpX.ixc b rfl rfl rfl rfl rfl rfl rfl rfl (fun b=>?_)
  |refine OpX.ast aI AV.bool b rfl rfl rfl rfl rfl rfl rfl rfl rfl rfl rfl (fun m b=>?_)
  |refine IdxX.A b fun x b=>?_
  |refine z1h.oR b (fun r=>r) idA (fun _=>AV.row 0) rfl (fun a h=>zw1 h) (fun a b=>?_)
  |refine z1h.oR b (fun r=>r) idA (fun _=>AV.row 0) rfl (fun a h=>ConT.sub (by repeat' first|exact Sub.nil _|exact Sub.refl _|refine Sub.agg ?_|refine Sub.tup ?_|refine Sub.fn ?_|exact SubL.nil|refine SubL.cons ?_ ?_|refine Sub.sl _ ?_|exact SubE.nil|refine SubE.cons ?_ ?_) (zw1 h)) (fun a b=>?_)
  |refine AppX.oA b fun l b=>?_
  |refine zab.oM (z3d 71 b) [(100000,3),(200001,70),(200000,7021)] [(100000,3),(270000,72000001)] _ _ z7f zac [70,7021] (fun a h=>ConG.up (zfo h)) (z0q Tryz.func111 rfl rfl) rfl rfl rfl ⟨⟨rfl,rfl⟩,⟨⟨rfl,rfl⟩,⟨⟨rfl,rfl⟩,trivial⟩⟩⟩ (fun a=>⟨rfl,rfl,rfl,rfl,rfl,rfl,rfl,rfl⟩) (fun a b=>?_)
  |refine z1h.oM (z3d 71 b) [(100000,3),(200001,70),(200000,7021)] [(100000,3),(270000,72000001)] _ _ z7f zac [70,7021] (fun a h=>ConG.up (zfo h)) (z0q Tryz.func111 rfl rfl) rfl rfl rfl ⟨⟨rfl,rfl⟩,⟨⟨rfl,rfl⟩,⟨⟨rfl,rfl⟩,trivial⟩⟩⟩ (fun a=>⟨rfl,rfl,rfl,rfl,rfl,rfl,rfl,rfl⟩) (fun a b=>?_)
  |refine OpX.ntk aI b rfl rfl rfl rfl rfl rfl rfl rfl rfl rfl (fun q b=>?_)
  |refine OpX.npt aI b rfl rfl rfl rfl rfl rfl rfl rfl rfl rfl rfl (fun l b=>?_)
  |exact ⟨_,b,LeX.a [(7021,72000001)]⟩
  |refine zab.oM (z3d 47 b) [(100000,3),(200000,7021)] [(100000,3),(270000,48000001)] _ _ zag zco [7021] (fun a h=>ConG.up (zhp h)) (z0q Tryz.func111 rfl rfl) rfl rfl rfl ⟨⟨rfl,rfl⟩,⟨⟨rfl,rfl⟩,trivial⟩⟩ (fun a=>⟨rfl,rfl,rfl,rfl,rfl,rfl,rfl,rfl⟩) (fun a b=>?_)
  |refine z1h.oM (z3d 47 b) [(100000,3),(200000,7021)] [(100000,3),(270000,48000001)] _ _ zag zco [7021] (fun a h=>ConG.up (zhp h)) (z0q Tryz.func111 rfl rfl) rfl rfl rfl ⟨⟨rfl,rfl⟩,⟨⟨rfl,rfl⟩,trivial⟩⟩ (fun a=>⟨rfl,rfl,rfl,rfl,rfl,rfl,rfl,rfl⟩) (fun a b=>?_)
  |exact ⟨_,b,LeX.a [(7021,48000001)]⟩
  |exact LeX.a [(7021,21)]
  |refine AndA ?_
  |refine EqX.A ?_
  |exact RetX.oB b⟩
def zsv (a:z07):List (Nat×Ent):=[]
def z85 (r:(List (List (Int×Bool)))):List (Nat×Ent):=[(3,.box 130 [.sl 1 (List.map (fun q=>AV.mapv (List.map (encM aI AV.bool) q)) (r))])]
def z9w (r:(List (List (Int×Bool)))):AV:=.fn 77 [.ptr 3 0]
def zsg (r:(List (List (Int×Bool)))):AS:=⟨[(2,.fn 77 [.ptr 3 0])],z85 r⟩
theorem zcl {n c r}(b:zeh n c=some r):ConG E0.P none (CalF E0.P 44 0) [z0m c] [] (zsv c) (z9w r) (z85 r):=by
 unfold zeh at b;refine ConG.walk (E:=(E0p 1)) (caps:=[]) _ Tryz.func44 rfl rfl rfl rfl rfl ?_;repeat' first
  |refine AW.step ?_;conv=>whnf
  |refine z10.o b (fun b=>?_) fun b=>?_
  |refine z10.t ?_
  |refine z10.f ?_
  |refine z1h.I b fun a b=>?_
  |exact GX.A (res:=z9w) (meF:=z85) b zsg
  |refine AndA ?_
  |refine EqX.A ?_
end
noncomputable section
abbrev zrk {n d a b}:=li (zef n d a b) (fun c=>⟨[(1,.sl 2 (d.map z08)),(2,.fn 79 []),(15,.sl 2 (a.map z08)),(16,aI (((a.map z08).length:Int))),(17,aI c)],[]⟩) fun _ _=>zef.eq_2 ..
abbrev ztn {n d a b}:=li (zck n d a b) (fun c=>⟨[(1,.mapv (List.map (encM aI AV.bool) (d))),(5,.row 7022),(9,.sl 4 (a.fBindings.map z0b)),(10,aI (((a.fBindings.map z0b).length:Int))),(11,aI c.1)],[(7022,.row 76 4 (c.2.map z0b))]⟩) fun _ _=>zck.eq_2 ..
abbrev zwg {n d a b}:=li (zhe n d a b) (fun c=>⟨[(0,.sl 4 (a.map z0b)),(1,.sl 4 (d.map z0b)),(12,aI (((a.map z0b).length:Int))),(13,aI c)],[]⟩) fun _ _=>zhe.eq_2 ..
abbrev zld {n}:=jf (z3l n) (fun b=>⟨[(5,.bool (b))],[]⟩) fun _=>z3l.eq_1 ..
abbrev zmj {n d a b g c e f}:=jf (z31 n d a b g c e f) (fun h=>⟨[(0,.sl 3 (a.map z01)),(1,.fn 77 [.ref [.sl 1 (List.map (fun q=>AV.mapv (List.map (encM aI AV.bool) q)) (d))]]),(5,.row 7053),(6,aI b.1),(7,.ptr 7 0),(8,aI ((-1))),(9,aI c),(11,.sl 3 (a.map z01)),(12,aI (((a.map z01).length:Int))),(13,aI b.1),(18,.sl 3 (a.map z01)),(19,aI (((a.map z01).length:Int))),(20,aI c),(45,.bool (h))],[(7,.box 60 (z0x g)),(7053,.row 60 3 (b.2.map z01))]⟩) fun _=>z31.eq_1 ..
abbrev zmh {n c a b e d}:=li (z30 n c a b e d) (fun f=>⟨[(0,.sl 3 (a.map z01)),(1,.fn 77 [.ref [.sl 1 (List.map (fun q=>AV.mapv (List.map (encM aI AV.bool) q)) (c))]]),(5,.row 7053),(6,aI b.1),(7,.ptr 7 0),(8,aI ((-1))),(11,.sl 3 (a.map z01)),(12,aI (((a.map z01).length:Int))),(13,aI b.1),(18,.sl 3 (a.map z01)),(19,aI (((a.map z01).length:Int))),(20,aI f)],[(7,.box 60 (z0x e)),(7053,.row 60 3 (b.2.map z01))]⟩) fun _ _=>z30.eq_2 ..
abbrev zmi {n b a c}:=li (z9m n b a c) (fun d=>⟨[(0,.sl 3 (a.map z01)),(1,.fn 77 [.ref [.sl 1 (List.map (fun q=>AV.mapv (List.map (encM aI AV.bool) q)) (b))]]),(5,.row 7053),(11,.sl 3 (a.map z01)),(12,aI (((a.map z01).length:Int))),(13,aI d.1)],[(7053,.row 60 3 (d.2.map z01))]⟩) fun _ _=>z9m.eq_2 ..
abbrev zmg {n a2c0bc0 a d b}:=li (zbq n a2c0bc0 a d b) (fun c=>⟨[(1,.sl 5 (a.map z02)),(2,.fn 52 [.ref [.fn 77 [.ref [.sl 1 (List.map (fun q=>AV.mapv (List.map (encM aI AV.bool) q)) (a2c0bc0))]]]]),(3,.ptr 3 0),(8,.row 7016),(17,.sl 5 (a.map z02)),(18,aI (((a.map z02).length:Int))),(19,aI c.1)],[(3,.box 25 (z0d d)),(7016,.row 57 1 (List.map (fun q=>AV.sl 3 (List.map z01 q)) (c.2)))]⟩) fun _ _=>zbq.eq_2 ..
abbrev zqs {n d a b}:=li (zdy n d a b) (fun c=>⟨[(0,.sl 2 (a.map z08)),(1,.sl 2 (d.map z08)),(12,aI (((a.map z08).length:Int))),(13,aI c)],[]⟩) fun _ _=>zdy.eq_2 ..
abbrev ztm {n}:=jf (z8x n) (fun b=>⟨[(4,.bool (b))],[]⟩) fun _=>z8x.eq_1 ..
abbrev zpb {n c a}:=jf (z8t n c a) (fun b=>⟨[(2,.ptr 2 0),(5,.sl 3 (a.1.map z01)),(14,.bool (b))],[(2,.box 60 (z0x c))]⟩) fun _=>z8t.eq_1 ..
attribute [instance] zrk ztn zwg zld zmj zmh zmi zmg zqs ztm zpb
instance y0l {n b a}:CI E0 (zez n b a) true 79 [z08 b,z08 a] (fun r=>.bool (r)):=by unfold zez;exact CI.w [1] Tryz.func79
instance yah {n b a}:CI E0 (zid n b a) true 78 [.sl 2 (b.map z08),.sl 2 (a.map z08),.fn 79 []] (fun r=>.bool (r)):=by unfold zid;exact CI.w [] Tryz.func78
instance ycg {n d c}:CI E0 (zhf n d c) false 81 [z01 d,.mapv (List.map (encM aI AV.bool) (c))] (fun r=>.sl 4 (r.map z0b)):=⟨fun {r} a=>by
 unfold zhf at a;refine cw Tryz.func81 ?_;repeat' first
  |refine AW.regO a fun a=>?_
  |refine AW.stepU [5] ?_;conv=>whnf
  |refine z10.o a (fun a=>?_) fun a=>?_
  |refine z10.t ?_
  |refine z10.f ?_
  |refine IdxX.A a fun x a=>?_
  |refine OpX.lkv aI AV.bool a yr4 rfl rfl rfl rfl rfl rfl rfl rfl rfl rfl (by first|rfl|kernel_rfl) (by repeat' first|exact Sub.nil _|exact Sub.refl _|refine Sub.agg ?_|refine Sub.tup ?_|refine Sub.fn ?_|exact SubL.nil|refine SubL.cons ?_ ?_|refine Sub.sl _ ?_|exact SubE.nil|refine SubE.cons ?_ ?_) (fun v b a=>?_)
  |refine AppX.oA a fun l a=>?_
  |exact ⟨_,a,LeX.a [(7022,22)]⟩
  |exact ⟨_,a,LeX.a []⟩
  |refine z63.I a ?_ fun m v a=>?_
  |exact LeX.trans (LeX.adopt 5 7022 76 4 rfl rfl) (LeX.a [])
  |refine AndA ?_
  |refine EqX.A ?_
  |exact RetX.oB a⟩
instance ygt {n b a}:CI E0 (zj6 n b a) true 80 [.sl 4 (b.map z0b),.sl 4 (a.map z0b)] (fun r=>.bool (r)):=by unfold zj6;exact CI.w [] Tryz.func80
instance y25 {n e d c}:CI E0 (zam n e d c) true 77 [z01 e,z01 d,.ref [.sl 1 (List.map (fun q=>AV.mapv (List.map (encM aI AV.bool) q)) (c))]] (fun r=>.bool (r)):=⟨fun {r} b=>by
 unfold zam at b;refine cw Tryz.func77 ?_;repeat' first
  |refine AW.jI b (fun v b=>?_) fun b=>?_
  |refine AW.regO b fun b=>?_
  |refine AW.stepU [1] ?_;conv=>whnf
  |refine z10.o b (fun b=>?_) fun b=>?_
  |refine z10.t ?_
  |refine z10.f ?_
  |refine z1h.I b fun a b=>?_
  |refine IdxX.o (fun q=>AV.mapv (List.map (encM aI AV.bool) q)) b fun x b=>?_
  |exact ⟨_,b,LeX.a []⟩
  |refine AndA ?_
  |refine EqX.A ?_
  |exact RetX.oB b⟩
instance y3q {n d b}:CI E0 (zgd n d b) false 53 [.sl 3 (d.map z01),.fn 77 [.ref [.sl 1 (List.map (fun q=>AV.mapv (List.map (encM aI AV.bool) q)) (b))]]] (fun r=>.sl 3 (r.map z01)):=⟨fun {r} c=>by
 unfold zgd at c;refine cw Tryz.func53 ?_;repeat' first
  |refine AW.jI c (fun v c=>?_) fun c=>?_
  |refine AW.regO c fun c=>?_
  |refine AW.stepU [9,12] ?_;conv=>whnf
  |refine z10.o c (fun c=>?_) fun c=>?_
  |refine z10.t ?_
  |refine z10.f ?_
  |refine IdxX.A c fun x c=>?_
  |refine AppX.oA c fun l c=>?_
  |exact ⟨_,c,LeX.a [(7053,53)]⟩
  |exact ⟨_,c,LeX.a []⟩
  |refine z1h.I c fun a c=>?_
  |refine z63.I c ?_ fun m v c=>?_
  |exact LeX.a []
  |exact LeX.trans (LeX.adopt 5 7053 60 3 rfl rfl) (LeX.a [])
  |refine AndA ?_
  |refine EqX.A ?_
  |exact RetX.oB c⟩
instance y5s {n a a1bc0}:CI E0 (zh6 n a a1bc0) false 52 [.sl 3 (a.map z01),.ref [.fn 77 [.ref [.sl 1 (List.map (fun q=>AV.mapv (List.map (encM aI AV.bool) q)) (a1bc0))]]]] (fun r=>.sl 3 (r.map z01)):=by unfold zh6;exact CI.w [] Tryz.func52
instance y3p {n d c a2c0bc0}:CI E0 (zgc n d c a2c0bc0) false 37 [z0m d,.sl 5 (c.map z02),.fn 52 [.ref [.fn 77 [.ref [.sl 1 (List.map (fun q=>AV.mapv (List.map (encM aI AV.bool) q)) (a2c0bc0))]]]]] (fun r=>.tup [.sl 1 (List.map (fun q=>AV.sl 3 (List.map z01 q)) (r.1)),aI r.2]):=⟨fun {r} b=>by
 unfold zgc at b;refine Con.env (E:=E0b) rfl rfl ?_;refine Con.walk _ Tryz.func37 rfl (z0q Tryz.func37 rfl rfl) rfl (Or.inl rfl) ?_;repeat' first
  |refine AW.step ?_;conv=>whnf
  |refine z10.o b (fun b=>?_) fun b=>?_
  |refine z10.t ?_
  |refine z10.f ?_
  |refine z1h.I b fun a b=>?_
  |refine OpX.bldS z01 b rfl rfl rfl rfl rfl rfl rfl rfl rfl rfl rfl rfl rfl rfl (fun l b=>?_)
  |refine OpX.bldR (fun q=>AV.sl 3 (List.map z01 q)) b rfl rfl rfl rfl rfl rfl rfl rfl rfl rfl rfl rfl rfl rfl rfl rfl (by first|exact SubR.refl _|(repeat' first|exact SubR.nil|refine SubR.cons ?_ ?_|exact SubL.nil|refine SubL.cons ?_ ?_|exact Sub.refl _|exact Sub.nil _)) rfl (fun l b=>?_)
  |refine OpX.bld (fun q=>AV.sl 3 (List.map z01 q)) b rfl rfl rfl rfl rfl rfl rfl rfl rfl rfl rfl rfl rfl rfl rfl rfl (fun l b=>?_)
  |refine IdxX.A b fun x b=>?_
  |refine SlsX.o z02 b (fun l b=>?_)
  |refine NatX.o b (fun m b=>?_)
  |refine EltX.o (fun q=>AV.sl 3 (List.map z01 q)) b (fun x b=>?_)
  |refine OpX.bldS (fun q=>AV.sl 3 (List.map z01 q)) b rfl rfl rfl rfl rfl rfl rfl rfl rfl rfl rfl rfl rfl rfl (fun l b=>?_)
  |refine AppX.oA b fun l b=>?_
  |exact ⟨_,b,LeX.a [(7016,51)]⟩
  |refine z63.I b ?_ fun m v b=>?_
  |exact LeX.a [(7016,16)]
  |refine AndA ?_
  |refine EqX.A ?_
  |exact RetX.oB b⟩
instance y9j {n d c}:CI E0 (zfz n d c) false 19 [z0m d,.sl 5 (c.map z02)] (fun r=>.tup [aI r.1,z0c r.2.1,.agg [.sl 1 (List.map (fun q=>AV.sl 3 (List.map z01 q)) (r.2.2.1.fSets))],aI r.2.2.2]):=⟨fun {r} b=>by
 unfold zfz at b;refine cw Tryz.func19 ?_;repeat' first
  |refine AW.frbO b 43000000 rfl rfl (fun b=>?_)
  |refine AW.frb0 43000000 rfl rfl ?_
  |refine AW.frbO b 11 rfl rfl (fun b=>?_)
  |refine AW.frb0 11 rfl rfl ?_
  |refine AW.regO b fun b=>?_
  |refine AW.frzO b 43000000 rfl (fun b=>?_)
  |refine AW.frzO b 11 rfl (fun b=>?_)
  |refine AW.stepU [10] ?_;conv=>whnf
  |refine z10.o b (fun b=>?_) fun b=>?_
  |refine z10.t ?_
  |refine z10.f ?_
  |refine z1h.I b fun a b=>?_
  |refine IdxX.A b fun x b=>?_
  |refine zab.oM (z3d 42 b) [] [(3,43000000)] _ _ z85 z9w [] (fun a h=>ConG.up (zcl h)) (z0q Tryz.func44 rfl rfl) rfl rfl rfl trivial (fun a=>⟨rfl,rfl,rfl,rfl,rfl,rfl,rfl,rfl⟩) (fun a b=>?_)
  |refine z1h.oM (z3d 42 b) [] [(3,43000000)] _ _ z85 z9w [] (fun a h=>ConG.up (zcl h)) (z0q Tryz.func44 rfl rfl) rfl rfl rfl trivial (fun a=>⟨rfl,rfl,rfl,rfl,rfl,rfl,rfl,rfl⟩) (fun a b=>?_)
  |refine AndA ?_
  |refine EqX.A ?_
  |exact RetX.oB b⟩
set_option maxHeartbeats 400000 in
theorem ycw (l:List (Cel 1))(S:Nat->Prop)(v:Value)(w:World)(h:Sl w S 1 encC v l)(d:l.length<=1000000000) :
  Calls Tryz.prog 35 #[v] w (zxw 57 1 encC l w):=by
 have eok:EOk Tryz.prog 29 57 1 24 (encC (n:=1)):=eokC (sz:=1) (ztj 29 _ rfl) rfl (ztj 57 _ rfl) (by omega) rfl;obtain ⟨A,c,rfl,f,_⟩:=h.form;have a:=fun (W:World)=>Lib.run_eql_slice_nil W 29 57 A l.length c 0 0 Tryz.underlying29
 have H:=hide h;cases A with
 |none =>
  have g:l=[]:=h.none_nil;subst g;clear h H d f;simp only [length_nil,Option.isNone_none] at a ⊢
  go_enter Tryz.func35,Tryz.ntmps35
  go_wp2
  go_ret
  exact ⟨none,0,rfl,Own.nil_,by go_grown⟩
 |some ad =>
  clear h
  go_enter Tryz.func35,Tryz.ntmps35
  go_wp2_with (at_builtin;refine zb0 rfl _ _ rfl eok rfl Own.made_ rfl (H.out.alloc _) (by simp;omega) (by omega) (by simp) ?_;intro A' i j b e _)
  go_ret
  exact ⟨A',i,rfl,b,(Own.made_ (sz:=1) (enc:=encC (n:=1))).grown ((Below.refl _ _).alloc (Nat.le_refl _) _) (Nat.le_refl _) (by simp) e⟩
theorem zxs {n a r}(b:zct n a=some r):ConT E0 35 [.sl 1 (List.map (fun q=>AV.sl 3 (List.map z01 q)) a)] 57 1 (List.map (fun q=>AV.sl 3 (List.map z01 q)) r) (.row 0):=zki rfl (z0q Tryz.func35 rfl rfl) ycw b
instance ylw {n e d c}:CI E0 (zv8 n e d c) true 74 [z0m e,.sl 5 (d.map z02),z01 c] aI:=⟨fun {r} b=>by
 unfold zv8 at b;refine cw Tryz.func74 ?_;repeat' first
  |refine AW.step ?_;conv=>whnf
  |refine z10.o b (fun b=>?_) fun b=>?_
  |refine z1h.oP b zca (fun u=>.tup [.nilp,aI (u.2)]) (fun u y=>.tup [.ref [aI (y.fa.fVars),aI (y.fa.fScopes),.sl 1 (y.fa.fStates.map z0s),.sl 17 (y.fa.fEdges.map z0v),.mapv (List.map (encM z14 z02) (y.fheld))],aI (u.2)]) (fun u h=>by simp only [zca,h,zbo]) (fun u y h=>by simp only [zca,h,zbo]) (fun a h=>zjv.h h) (fun a b=>?_) (fun a y b=>?_)
  |(cases b;done)
  |refine z1h.I b fun a b=>?_
  |exact RetX.oB b⟩
instance y9g {n b a}:CI E0 (zi1 n b a) true 150 [.sl 2 (b.map z08),.sl 2 (a.map z08)] (fun r=>.bool (r)):=by unfold zi1;exact CI.w [] Tryz.func150
instance ycf {n b a}:CI E0 (zj0 n b a) true 110 [z01 b,z01 a] (fun r=>.bool (r)):=by unfold zj0;exact CI.w [1] Tryz.func110
end
noncomputable section
abbrev zts {n a g h b c d e}:=jf (zaw n a g h b c d e) (fun f=>⟨[(1,.sl 5 (g.map z02)),(3,.ptr 3 0),(7,aI b),(8,.sl 3 (c.map z01)),(20,.sl 1 (List.map (fun q=>AV.sl 3 (List.map z01 q)) (a.fSets))),(21,aI ((((List.map (fun q=>AV.sl 3 (List.map z01 q)) (a.fSets)).length:Nat):Int))),(22,aI b),(30,.sl 3 (c.map z01)),(31,aI (((c.map z01).length:Int))),(32,aI d),(57,.bool (f))],[(3,.box 25 (z0d h))]⟩) fun _=>zaw.eq_1 ..
abbrev zto {n a f g b c d}:=li (zav n a f g b c d) (fun e=>⟨[(1,.sl 5 (f.map z02)),(3,.ptr 3 0),(7,aI b),(8,.sl 3 (c.map z01)),(20,.sl 1 (List.map (fun q=>AV.sl 3 (List.map z01 q)) (a.fSets))),(21,aI ((((List.map (fun q=>AV.sl 3 (List.map z01 q)) (a.fSets)).length:Nat):Int))),(22,aI b),(30,.sl 3 (c.map z01)),(31,aI (((c.map z01).length:Int))),(32,aI e)],[(3,.box 25 (z0d g))]⟩) fun _ _=>zav.eq_2 ..
abbrev ztp {n a d e b}:=li (zf8 n a d e b) (fun c=>⟨[(1,.sl 5 (d.map z02)),(3,.ptr 3 0),(20,.sl 1 (List.map (fun q=>AV.sl 3 (List.map z01 q)) (a.fSets))),(21,aI ((((List.map (fun q=>AV.sl 3 (List.map z01 q)) (a.fSets)).length:Nat):Int))),(22,aI c)],[(3,.box 25 (z0d e))]⟩) fun _ _=>zf8.eq_2 ..
abbrev zl4 {n b a1c0bc0 a c}:=li (zb2 n b a1c0bc0 a c) (fun d=>⟨[(0,.sl 3 (a.map z01)),(1,.fn 46 [.ref [.fn 77 [.ref [.sl 1 (List.map (fun q=>AV.mapv (List.map (encM aI AV.bool) q)) (a1c0bc0))]]],.ref (z0x b)]),(7,aI (((a.map z01).length:Int))),(8,aI d)],[]⟩) fun _ _=>zb2.eq_2 ..
abbrev zl3 {n b c a1c0bc0bc0 a d}:=li (zb1 n b c a1c0bc0bc0 a d) (fun e=>⟨[(0,.sl 3 (a.map z01)),(1,.fn 49 [.ref [.fn 45 [.ref [.fn 77 [.ref [.sl 1 (List.map (fun q=>AV.mapv (List.map (encM aI AV.bool) q)) (a1c0bc0bc0))]]]]],.ref [.sl 1 (List.map (fun q=>AV.sl 3 (List.map z01 q)) (c.fSets))],.ref [aI b]]),(7,aI (((a.map z01).length:Int))),(8,aI e)],[]⟩) fun _ _=>zb1.eq_2 ..
abbrev zqz {n h a i b f c d e}:=jf (z7a n h a i b f c d e) (fun g=>⟨[(1,.sl 5 (a.map z02)),(3,.ptr 3 0),(5,.ptr 5 0),(10,.ref [.fn 45 [.ref [.fn 77 [.ref [.sl 1 (List.map (fun q=>AV.mapv (List.map (encM aI AV.bool) q)) (b.1))]]]]]),(11,.ptr 11 0),(12,.ptr 12 0),(42,.sl 5 (a.map z02)),(43,aI (((a.map z02).length:Int))),(44,aI b.2),(53,.sl 3 (c.map z01)),(54,aI (((c.map z01).length:Int))),(55,aI d),(81,.bool (g))],[(3,.box 25 (z0d i)),(5,.box 31 [.sl 1 (List.map (fun q=>AV.sl 3 (List.map z01 q)) (h.fSets))]),(11,.box 3 [aI b.2]),(12,.box 71 (z19 f))]⟩) fun _=>z7a.eq_1 ..
abbrev zqx {n g a h b e c d}:=li (z79 n g a h b e c d) (fun f=>⟨[(1,.sl 5 (a.map z02)),(3,.ptr 3 0),(5,.ptr 5 0),(10,.ref [.fn 45 [.ref [.fn 77 [.ref [.sl 1 (List.map (fun q=>AV.mapv (List.map (encM aI AV.bool) q)) (b.1))]]]]]),(11,.ptr 11 0),(12,.ptr 12 0),(42,.sl 5 (a.map z02)),(43,aI (((a.map z02).length:Int))),(44,aI b.2),(53,.sl 3 (c.map z01)),(54,aI (((c.map z01).length:Int))),(55,aI f)],[(3,.box 25 (z0d h)),(5,.box 31 [.sl 1 (List.map (fun q=>AV.sl 3 (List.map z01 q)) (g.fSets))]),(11,.box 3 [aI b.2]),(12,.box 71 (z19 e))]⟩) fun _ _=>z79.eq_2 ..
abbrev zqy {n d a e b}:=li (zdz n d a e b) (fun c=>⟨[(1,.sl 5 (a.map z02)),(3,.ptr 3 0),(5,.ptr 5 0),(10,.ref [.fn 45 [.ref [.fn 77 [.ref [.sl 1 (List.map (fun q=>AV.mapv (List.map (encM aI AV.bool) q)) (c.1))]]]]]),(42,.sl 5 (a.map z02)),(43,aI (((a.map z02).length:Int))),(44,aI c.2)],[(3,.box 25 (z0d e)),(5,.box 31 [.sl 1 (List.map (fun q=>AV.sl 3 (List.map z01 q)) (d.fSets))])]⟩) fun _ _=>zdz.eq_2 ..
abbrev znq {n}:=jf (z7w n) (fun b=>⟨[(0,.bool (b))],[]⟩) fun _=>z7w.eq_1 ..
abbrev znr {n b c}:=jf (z4y n b c) (fun d=>⟨[(1,.sl 5 (b.map z02)),(6,.ptr 6 0),(118,.bool (d))],[(6,.box 31 [.sl 1 (List.map (fun q=>AV.sl 3 (List.map z01 q)) (c))])]⟩) fun _=>z4y.eq_1 ..
abbrev znp {n g a f e b c}:=jf (z7v n g a f e b c) (fun d=>⟨[(1,.sl 5 (g.map z02)),(2,.ptr 2 0),(6,.ptr 6 0),(9,.ptr 9 0),(71,aI ((((List.map (fun q=>AV.sl 3 (List.map z01 q)) (a.1.fSets)).length:Nat):Int))),(72,aI b),(95,.bool (d))],[(2,.box 31 [.sl 1 (List.map (fun q=>AV.sl 3 (List.map z01 q)) (a.1.fSets))]),(6,.box 31 [.sl 1 (List.map (fun q=>AV.sl 3 (List.map z01 q)) (f.2.2.1.fSets))]),(9,.box 44 (zew e.2.1))]⟩) fun _=>z7v.eq_1 ..
attribute [instance] zts zto ztp zl4 zl3 zqz zqx zqy znq znr znp
instance y6z {n b a}:CI E0 (zhj n b a) true 75 [z01 b,z01 a] aI:=by unfold zhj;exact CI.w [2] Tryz.func75
instance ych {n e d c}:CI E0 (zj1 n e d c) true 43 [z0m e,.sl 5 (d.map z02),.agg [.sl 1 (List.map (fun q=>AV.sl 3 (List.map z01 q)) (c.fSets))]] aI:=⟨fun {r} b=>by
 unfold zj1 at b;refine cw Tryz.func43 ?_;repeat' first
  |refine AW.jI b (fun v b=>?_) fun b=>?_
  |refine AW.regO b fun b=>?_
  |refine AW.stepU [14] ?_;conv=>whnf
  |refine z10.o b (fun b=>?_) fun b=>?_
  |refine z10.t ?_
  |refine z10.f ?_
  |refine IdxX.o (fun q=>AV.sl 3 (List.map z01 q)) b fun x b=>?_
  |exact ⟨_,b,LeX.a []⟩
  |refine IdxX.A b fun x b=>?_
  |refine SlsX.o z02 b (fun l b=>?_)
  |refine z1h.I b fun a b=>?_
  |refine z63.I b (LeX.a []) fun m v b=>?_
  |refine AndA ?_
  |refine EqX.A ?_
  |exact RetX.oB b⟩
instance y26 {n b a1bc0 a}:CI E0 (zfx n b a1bc0 a) true 46 [z01 b,.ref [.fn 77 [.ref [.sl 1 (List.map (fun q=>AV.mapv (List.map (encM aI AV.bool) q)) (a1bc0))]]],.ref (z0x a)] (fun r=>.bool (r)):=by unfold zfx;exact CI.w [] Tryz.func46
instance y1y {n a a1c0bc0 b}:CI E0 (zfu n a a1c0bc0 b) true 59 [.sl 3 (a.map z01),.fn 46 [.ref [.fn 77 [.ref [.sl 1 (List.map (fun q=>AV.mapv (List.map (encM aI AV.bool) q)) (a1c0bc0))]]],.ref (z0x b)]] aI:=by unfold zfu;exact CI.w [] Tryz.func59
instance zyo {n a a1c0bc0 b}:CI E0 (ze3 n a a1c0bc0 b) true 27 [.sl 3 (a.map z01),.fn 46 [.ref [.fn 77 [.ref [.sl 1 (List.map (fun q=>AV.mapv (List.map (encM aI AV.bool) q)) (a1c0bc0))]]],.ref (z0x b)]] (fun r=>.bool (r)):=by unfold ze3;exact CI.w [] Tryz.func27
instance y5r {n d c a2bc0}:CI E0 (zei n d c a2bc0) true 45 [.sl 3 (d.map z01),z01 c,.ref [.fn 77 [.ref [.sl 1 (List.map (fun q=>AV.mapv (List.map (encM aI AV.bool) q)) (a2bc0))]]]] (fun r=>.bool (r)):=⟨fun {r} b=>by
 unfold zei at b;refine cw Tryz.func45 ?_;repeat' first
  |refine AW.step ?_;conv=>whnf
  |refine z10.o b (fun b=>?_) fun b=>?_
  |refine z10.t ?_
  |refine z10.f ?_
  |refine zab.I b (fun a b=>?_) rfl rfl fun _=>Or.inr rfl
  |refine AndA ?_
  |refine EqX.A ?_
  |exact RetX.oB b⟩
instance yn8 {n f e d c}:CI E0 (zxa n f e d c) false 48 [z0m f,.sl 5 (e.map z02),z01 d,z02 c] (fun r=>.tup [.sl 3 (r.1.map z01),.sl 1 (r.2.1.map z0c),aI r.2.2]):=⟨fun {r} b=>by
 unfold zxa at b;refine cw Tryz.func48 ?_;repeat' first
  |refine AW.step ?_;conv=>whnf
  |refine z10.o b (fun b=>?_) fun b=>?_
  |refine z10.t ?_
  |refine z10.f ?_
  |refine z1h.oP b zca (fun u=>.tup [.nilp,aI (u.2)]) (fun u y=>.tup [.ref [aI (y.fa.fVars),aI (y.fa.fScopes),.sl 1 (y.fa.fStates.map z0s),.sl 17 (y.fa.fEdges.map z0v),.mapv (List.map (encM z14 z02) (y.fheld))],aI (u.2)]) (fun u h=>by simp only [zca,h,zbo]) (fun u y h=>by simp only [zca,h,zbo]) (fun a h=>zjv.h h) (fun a b=>?_) (fun a y b=>?_)
  |(cases b;done)
  |refine z1h.I b fun a b=>?_
  |refine AndA ?_
  |refine EqX.A ?_
  |exact RetX.oB b⟩
instance y5q {n e a1bc0bc0 d c}:CI E0 (zh5 n e a1bc0bc0 d c) true 49 [z01 e,.ref [.fn 45 [.ref [.fn 77 [.ref [.sl 1 (List.map (fun q=>AV.mapv (List.map (encM aI AV.bool) q)) (a1bc0bc0))]]]]],.ref [.sl 1 (List.map (fun q=>AV.sl 3 (List.map z01 q)) (d.fSets))],.ref [aI c]] (fun r=>.bool (r)):=⟨fun {r} b=>by
 unfold zh5 at b;refine cw Tryz.func49 ?_;repeat' first
  |refine AW.step ?_;conv=>whnf
  |refine z10.o b (fun b=>?_) fun b=>?_
  |refine z10.t ?_
  |refine z10.f ?_
  |refine IdxX.o (fun q=>AV.sl 3 (List.map z01 q)) b fun x b=>?_
  |refine z1h.I b fun a b=>?_
  |refine AndA ?_
  |refine EqX.A ?_
  |exact RetX.oB b⟩
instance y1x {n a a1c0bc0bc0 b c}:CI E0 (zft n a a1c0bc0bc0 b c) true 59 [.sl 3 (a.map z01),.fn 49 [.ref [.fn 45 [.ref [.fn 77 [.ref [.sl 1 (List.map (fun q=>AV.mapv (List.map (encM aI AV.bool) q)) (a1c0bc0bc0))]]]]],.ref [.sl 1 (List.map (fun q=>AV.sl 3 (List.map z01 q)) (b.fSets))],.ref [aI c]]] aI:=by unfold zft;exact CI.w [] Tryz.func59
instance zyn {n a a1c0bc0bc0 b c}:CI E0 (ze2 n a a1c0bc0bc0 b c) true 27 [.sl 3 (a.map z01),.fn 49 [.ref [.fn 45 [.ref [.fn 77 [.ref [.sl 1 (List.map (fun q=>AV.mapv (List.map (encM aI AV.bool) q)) (a1c0bc0bc0))]]]]],.ref [.sl 1 (List.map (fun q=>AV.sl 3 (List.map z01 q)) (b.fSets))],.ref [aI c]]] (fun r=>.bool (r)):=by unfold ze2;exact CI.w [] Tryz.func27
instance y9i {n e d c}:CI E0 (zfy n e d c) true 17 [z0m e,.sl 5 (d.map z02),.agg [.sl 1 (List.map (fun q=>AV.sl 3 (List.map z01 q)) (c.fSets))]] aI:=⟨fun {r} b=>by
 unfold zfy at b;refine cw Tryz.func17 ?_;repeat' first
  |refine AW.frbO b 33000000 rfl rfl (fun b=>?_)
  |refine AW.frb0 33000000 rfl rfl ?_
  |refine AW.frbO b 9 rfl rfl (fun b=>?_)
  |refine AW.frb0 9 rfl rfl ?_
  |refine AW.jI b (fun v b=>?_) fun b=>?_
  |refine AW.regO b fun b=>?_
  |refine AW.frzO b 33000000 rfl (fun b=>?_)
  |refine AW.frzO b 9 rfl (fun b=>?_)
  |refine AW.frzO b 10 rfl (fun b=>?_)
  |refine AW.stepU [9,18] ?_;conv=>whnf
  |refine z10.o b (fun b=>?_) fun b=>?_
  |refine z10.t ?_
  |refine z10.f ?_
  |refine z1h.I b fun a b=>?_
  |refine zab.oM (z3d 32 b) [] [(3,33000000)] _ _ z85 z9w [] (fun a h=>ConG.up (zcl h)) (z0q Tryz.func44 rfl rfl) rfl rfl rfl trivial (fun a=>⟨rfl,rfl,rfl,rfl,rfl,rfl,rfl,rfl⟩) (fun a b=>?_)
  |refine z1h.oM (z3d 32 b) [] [(3,33000000)] _ _ z85 z9w [] (fun a h=>ConG.up (zcl h)) (z0q Tryz.func44 rfl rfl) rfl rfl rfl trivial (fun a=>⟨rfl,rfl,rfl,rfl,rfl,rfl,rfl,rfl⟩) (fun a b=>?_)
  |refine IdxX.o (fun q=>AV.sl 3 (List.map z01 q)) b fun x b=>?_
  |refine IdxX.A b fun x b=>?_
  |exact ⟨_,b,LeX.a []⟩
  |refine SlsX.o z02 b (fun l b=>?_)
  |refine zab.I b (fun a b=>?_) rfl rfl fun _=>Or.inr rfl
  |refine z63.I b ?_ fun m v b=>?_
  |exact LeX.a []
  |exact LeX.trans (LeX.frb 10 rfl rfl) (LeX.a [])
  |refine AndA ?_
  |refine EqX.A ?_
  |exact RetX.oB b⟩
end
end Go.Proofs.YtidhlpjgifoneaaGreat
