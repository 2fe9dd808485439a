/- What some functions compute, over plain values. -/
import Derived.Test.YtidhlpjgifoneaaGreatK25
set_option linter.unusedVariables false
set_option linter.unusedSimpArgs false
set_option maxRecDepth 100000
set_option maxHeartbeats 8000000
namespace Go.Proofs.YtidhlpjgifoneaaGreat
open Go.RowKit List
noncomputable section
abbrev zpq {n a1 a0 b}:=li (z9v n a1 a0 b) (fun c=>⟨[(1,.sl 2 (a1.map z09)),(2,.fn 79 []),(15,.sl 2 (a0.map z09)),(16,aI (((a0.map z09).length:Int))),(17,aI c)],[]⟩) fun _ _=>z9v.eq_2 ..
abbrev zrm {n a1 a0 b}:=li (z8n n a1 a0 b) (fun c=>⟨[(1,.mapv (List.map (encM aI AV.bool) (a1))),(5,.row 7022),(9,.sl 4 (a0.fBindings.map z0b)),(10,aI (((a0.fBindings.map z0b).length:Int))),(11,aI c.1)],[(7022,.row 76 4 (c.2.map z0b))]⟩) fun _ _=>z8n.eq_2 ..
abbrev zud {n a1 a0 b}:=li (zcl n a1 a0 b) (fun c=>⟨[(0,.sl 4 (a0.map z0b)),(1,.sl 4 (a1.map z0b)),(12,aI (((a0.map z0b).length:Int))),(13,aI c)],[]⟩) fun _ _=>zcl.eq_2 ..
abbrev zka {n}:=jf (z2n n) (fun b=>⟨[(5,.bool (b))],[]⟩) fun _=>z2n.eq_1 ..
abbrev zl7 {n d a0 b g c e f}:=jf (z23 n d a0 b g c e f) (fun h=>⟨[(0,.sl 3 (a0.map z01)),(1,.fn 77 [.ref [.sl 1 (List.map (fun q=>AV.mapv (List.map (encM aI AV.bool) q)) (d))]]),(5,.row 7053),(6,aI b.1),(7,.ptr 7 0),(8,aI ((-1))),(9,aI c),(11,.sl 3 (a0.map z01)),(12,aI (((a0.map z01).length:Int))),(13,aI b.1),(18,.sl 3 (a0.map z01)),(19,aI (((a0.map z01).length:Int))),(20,aI c),(45,.bool (h))],[(7,.box 60 (z10 g)),(7053,.row 60 3 (b.2.map z01))]⟩) fun _=>z23.eq_1 ..
abbrev zl5 {n c a0 b e d}:=li (z1p n c a0 b e d) (fun f=>⟨[(0,.sl 3 (a0.map z01)),(1,.fn 77 [.ref [.sl 1 (List.map (fun q=>AV.mapv (List.map (encM aI AV.bool) q)) (c))]]),(5,.row 7053),(6,aI b.1),(7,.ptr 7 0),(8,aI ((-1))),(11,.sl 3 (a0.map z01)),(12,aI (((a0.map z01).length:Int))),(13,aI b.1),(18,.sl 3 (a0.map z01)),(19,aI (((a0.map z01).length:Int))),(20,aI f)],[(7,.box 60 (z10 e)),(7053,.row 60 3 (b.2.map z01))]⟩) fun _ _=>z1p.eq_2 ..
abbrev zl6 {n b a0 c}:=li (z21 n b a0 c) (fun d=>⟨[(0,.sl 3 (a0.map z01)),(1,.fn 77 [.ref [.sl 1 (List.map (fun q=>AV.mapv (List.map (encM aI AV.bool) q)) (b))]]),(5,.row 7053),(11,.sl 3 (a0.map z01)),(12,aI (((a0.map z01).length:Int))),(13,aI d.1)],[(7053,.row 60 3 (d.2.map z01))]⟩) fun _ _=>z21.eq_2 ..
abbrev zl4 {n a2c0bc0 a1 a0 b}:=li (z6g n a2c0bc0 a1 a0 b) (fun c=>⟨[(1,.sl 5 (a1.map z02)),(2,.fn 52 [.ref [.fn 77 [.ref [.sl 1 (List.map (fun q=>AV.mapv (List.map (encM aI AV.bool) q)) (a2c0bc0))]]]]),(3,.ptr 3 0),(8,.row 7016),(17,.sl 5 (a1.map z02)),(18,aI (((a1.map z02).length:Int))),(19,aI c.1)],[(3,.box 25 (z0g a0)),(7016,.row 57 1 (List.map (fun q=>AV.sl 3 (List.map z01 q)) (c.2)))]⟩) fun _ _=>z6g.eq_2 ..
abbrev zp6 {n a1 a0 b}:=li (z94 n a1 a0 b) (fun c=>⟨[(0,.sl 2 (a0.map z09)),(1,.sl 2 (a1.map z09)),(12,aI (((a0.map z09).length:Int))),(13,aI c)],[]⟩) fun _ _=>z94.eq_2 ..
abbrev zrl {n}:=jf (z6k n) (fun b=>⟨[(4,.bool (b))],[]⟩) fun _=>z6k.eq_1 ..
abbrev znu {n a0 x1}:=jf (z2v n a0 x1) (fun b=>⟨[(2,.ptr 2 0),(5,.sl 3 (x1.1.map z01)),(14,.bool (b))],[(2,.box 60 (z10 a0))]⟩) fun _=>z2v.eq_1 ..
attribute [instance] zpq zrm zud zka zl7 zl5 zl6 zl4 zp6 zrl znu
instance zyr {n a0 a1}:CI E0 (z9d n a0 a1) true 79 [z09 a0,z09 a1] (fun r=>.bool (r)):=by unfold z9d;exact CI.w [1] Tryz.func79
instance y8r {n a0 a1}:CI E0 (zdx n a0 a1) true 78 [.sl 2 (a0.map z09),.sl 2 (a1.map z09),.fn 79 []] (fun r=>.bool (r)):=by unfold zdx;exact CI.w [] Tryz.func78
instance yan {n a0 a1}:CI E0 (zco n a0 a1) false 81 [z01 a0,.mapv (List.map (encM aI AV.bool) (a1))] (fun r=>.sl 4 (r.map z0b)):=⟨fun {r} hF=>by
 unfold zco at hF
 refine cw Tryz.func81 ?_
 repeat' first
  |refine AW.regO hF fun hF=>?_
  |refine AW.stepU [5] ?_;conv=>whnf
  |refine z14.o hF (fun hF=>?_) fun hF=>?_
  |refine z14.t ?_
  |refine z14.f ?_
  |refine IdxX.A hF fun x hF=>?_
  |refine OpX.lkv aI AV.bool hF yqj rfl rfl rfl rfl rfl rfl rfl rfl rfl rfl (by first|rfl|kernel_rfl) (by repeat' first|exact Sub.nil _|exact Sub.refl _|refine Sub.agg ?_|refine Sub.tup ?_|refine Sub.fn ?_|exact SubL.nil|refine SubL.cons ?_ ?_|refine Sub.sl _ ?_|exact SubE.nil|refine SubE.cons ?_ ?_) (fun v b hF=>?_)
  |refine AppX.oA hF fun l hF=>?_
  |exact ⟨_,hF,LeX.a [(7022,22)]⟩
  |exact ⟨_,hF,LeX.a []⟩
  |refine z8h.I hF ?_ fun m v hF=>?_
  |exact LeX.trans (LeX.adopt 5 7022 76 4 rfl rfl) (LeX.a [])
  |refine AndA ?_
  |refine EqX.A ?_
  |exact RetX.oB hF⟩
instance yf6 {n a0 a1}:CI E0 (zfm n a0 a1) true 80 [.sl 4 (a0.map z0b),.sl 4 (a1.map z0b)] (fun r=>.bool (r)):=by unfold zfm;exact CI.w [] Tryz.func80
instance y09 {n a0 a1 a2}:CI E0 (z63 n a0 a1 a2) true 77 [z01 a0,z01 a1,.ref [.sl 1 (List.map (fun q=>AV.mapv (List.map (encM aI AV.bool) q)) (a2))]] (fun r=>.bool (r)):=⟨fun {r} hF=>by
 unfold z63 at hF
 refine cw Tryz.func77 ?_
 repeat' first
  |refine AW.jI hF (fun v hF=>?_) fun hF=>?_
  |refine AW.regO hF fun hF=>?_
  |refine AW.stepU [1] ?_;conv=>whnf
  |refine z14.o hF (fun hF=>?_) fun hF=>?_
  |refine z14.t ?_
  |refine z14.f ?_
  |refine z1n.I hF fun a hF=>?_
  |refine IdxX.o (fun q=>AV.mapv (List.map (encM aI AV.bool) q)) hF fun x hF=>?_
  |exact ⟨_,hF,LeX.a []⟩
  |refine AndA ?_
  |refine EqX.A ?_
  |exact RetX.oB hF⟩
instance y1v {n a0 b}:CI E0 (zb1 n a0 b) false 53 [.sl 3 (a0.map z01),.fn 77 [.ref [.sl 1 (List.map (fun q=>AV.mapv (List.map (encM aI AV.bool) q)) (b))]]] (fun r=>.sl 3 (r.map z01)):=⟨fun {r} hF=>by
 unfold zb1 at hF
 refine cw Tryz.func53 ?_
 repeat' first
  |refine AW.jI hF (fun v hF=>?_) fun hF=>?_
  |refine AW.regO hF fun hF=>?_
  |refine AW.stepU [9,12] ?_;conv=>whnf
  |refine z14.o hF (fun hF=>?_) fun hF=>?_
  |refine z14.t ?_
  |refine z14.f ?_
  |refine IdxX.A hF fun x hF=>?_
  |refine AppX.oA hF fun l hF=>?_
  |exact ⟨_,hF,LeX.a [(7053,53)]⟩
  |exact ⟨_,hF,LeX.a []⟩
  |refine z1n.I hF fun a hF=>?_
  |refine z8h.I hF ?_ fun m v hF=>?_
  |exact LeX.a []
  |exact LeX.trans (LeX.adopt 5 7053 60 3 rfl rfl) (LeX.a [])
  |refine AndA ?_
  |refine EqX.A ?_
  |exact RetX.oB hF⟩
instance y40 {n a0 a1bc0}:CI E0 (ze1 n a0 a1bc0) false 52 [.sl 3 (a0.map z01),.ref [.fn 77 [.ref [.sl 1 (List.map (fun q=>AV.mapv (List.map (encM aI AV.bool) q)) (a1bc0))]]]] (fun r=>.sl 3 (r.map z01)):=by unfold ze1;exact CI.w [] Tryz.func52
instance y1u {n a0 a1 a2c0bc0}:CI E0 (zb0 n a0 a1 a2c0bc0) false 37 [z0n a0,.sl 5 (a1.map z02),.fn 52 [.ref [.fn 77 [.ref [.sl 1 (List.map (fun q=>AV.mapv (List.map (encM aI AV.bool) q)) (a2c0bc0))]]]]] (fun r=>.tup [.sl 1 (List.map (fun q=>AV.sl 3 (List.map z01 q)) (r.1)),aI r.2]):=⟨fun {r} hF=>by
 unfold zb0 at hF
 refine Con.env (E:=E0b) rfl rfl ?_
 refine Con.walk _ Tryz.func37 rfl (z0y Tryz.func37 rfl rfl) rfl (Or.inl rfl) ?_
 repeat' first
  |refine AW.step ?_;conv=>whnf
  |refine z14.o hF (fun hF=>?_) fun hF=>?_
  |refine z14.t ?_
  |refine z14.f ?_
  |refine z1n.I hF fun a hF=>?_
  |refine OpX.bldS z01 hF rfl rfl rfl rfl rfl rfl rfl rfl rfl rfl rfl rfl rfl rfl (fun l hF=>?_)
  |refine OpX.bldR (fun q=>AV.sl 3 (List.map z01 q)) hF rfl rfl rfl rfl rfl rfl rfl rfl rfl rfl rfl rfl rfl rfl rfl rfl (by first|exact SubR.refl _|(repeat' first|exact SubR.nil|refine SubR.cons ?_ ?_|exact SubL.nil|refine SubL.cons ?_ ?_|exact Sub.refl _|exact Sub.nil _)) rfl (fun l hF=>?_)
  |refine OpX.bld (fun q=>AV.sl 3 (List.map z01 q)) hF rfl rfl rfl rfl rfl rfl rfl rfl rfl rfl rfl rfl rfl rfl rfl rfl (fun l hF=>?_)
  |refine IdxX.A hF fun x hF=>?_
  |refine SlsX.o z02 hF (fun l hF=>?_)
  |refine NatX.o hF (fun m hF=>?_)
  |refine EltX.o (fun q=>AV.sl 3 (List.map z01 q)) hF (fun x hF=>?_)
  |refine OpX.bldS (fun q=>AV.sl 3 (List.map z01 q)) hF rfl rfl rfl rfl rfl rfl rfl rfl rfl rfl rfl rfl rfl rfl (fun l hF=>?_)
  |refine AppX.oA hF fun l hF=>?_
  |exact ⟨_,hF,LeX.a [(7016,51)]⟩
  |refine z8h.I hF ?_ fun m v hF=>?_
  |exact LeX.a [(7016,16)]
  |refine AndA ?_
  |refine EqX.A ?_
  |exact RetX.oB hF⟩
instance y7t {n a0 a1}:CI E0 (z81 n a0 a1) false 19 [z0n a0,.sl 5 (a1.map z02)] (fun r=>.tup [aI r.1,z0d r.2.1,.agg [.sl 1 (List.map (fun q=>AV.sl 3 (List.map z01 q)) (r.2.2.1.fSets))],aI r.2.2.2]):=⟨fun {r} hF=>by
 unfold z81 at hF
 refine cw Tryz.func19 ?_
 repeat' first
  |refine AW.frbO hF 43000000 rfl rfl (fun hF=>?_)
  |refine AW.frb0 43000000 rfl rfl ?_
  |refine AW.frbO hF 11 rfl rfl (fun hF=>?_)
  |refine AW.frb0 11 rfl rfl ?_
  |refine AW.regO hF fun hF=>?_
  |refine AW.frzO hF 43000000 rfl (fun hF=>?_)
  |refine AW.frzO hF 11 rfl (fun hF=>?_)
  |refine AW.stepU [10] ?_;conv=>whnf
  |refine z14.o hF (fun hF=>?_) fun hF=>?_
  |refine z14.t ?_
  |refine z14.f ?_
  |refine z1n.I hF fun a hF=>?_
  |refine IdxX.A hF fun x hF=>?_
  |refine zap.oM (z75 42 hF) [] [(3,43000000)] _ _ z7v z9l [] (fun a h=>ConG.up (zc6 h)) (z0y Tryz.func44 rfl rfl) rfl rfl rfl trivial (fun a=>⟨rfl,rfl,rfl,rfl,rfl,rfl,rfl,rfl⟩) (fun a hF=>?_)
  |refine z1n.oM (z75 42 hF) [] [(3,43000000)] _ _ z7v z9l [] (fun a h=>ConG.up (zc6 h)) (z0y Tryz.func44 rfl rfl) rfl rfl rfl trivial (fun a=>⟨rfl,rfl,rfl,rfl,rfl,rfl,rfl,rfl⟩) (fun a hF=>?_)
  |refine AndA ?_
  |refine EqX.A ?_
  |exact RetX.oB hF⟩
set_option maxHeartbeats 400000 in
theorem yb4 (l:List (Cel 1))(S:Nat->Prop)(v:Value)(w:World)(h:Sl w S 1 encC v l)(hl:l.length<=1000000000) :
  Calls Tryz.prog 35 #[v] w (zvs 57 1 encC l w):=by
 have eok:EOk Tryz.prog 29 57 1 24 (encC (n:=1)):=eokC (sz:=1) (zri 29 _ rfl) rfl (zri 57 _ rfl) (by omega) rfl
 obtain ⟨A,c,rfl,hc,_⟩:=h.form
 have hq:=fun (W:World)=>Lib.run_eql_slice_nil W 29 57 A l.length c 0 0 Tryz.underlying29
 have H:=hide h
 cases A with
 |none =>
  have h0:l=[]:=h.none_nil
  subst h0
  clear h H hl hc
  simp only [length_nil,Option.isNone_none] at hq ⊢
  go_enter Tryz.func35,Tryz.ntmps35
  go_wp2
  go_ret
  exact ⟨none,0,rfl,Own.nil_,by go_grown⟩
 |some ad =>
  clear h
  go_enter Tryz.func35,Tryz.ntmps35
  go_wp2_with (at_builtin;refine zan rfl _ _ rfl eok rfl Own.made_ rfl (H.out.alloc _) (by simp;omega) (by omega) (by simp) ?_;intro A' c' w1 ho hg _)
  go_ret
  exact ⟨A',c',rfl,ho,(Own.made_ (sz:=1) (enc:=encC (n:=1))).grown ((Below.refl _ _).alloc (Nat.le_refl _) _) (Nat.le_refl _) (by simp) hg⟩
theorem zvp {n a r}(hF:zao n a=some r):ConT E0 35 [.sl 1 (List.map (fun q=>AV.sl 3 (List.map z01 q)) a)] 57 1 (List.map (fun q=>AV.sl 3 (List.map z01 q)) r) (.row 0):=zjd rfl (z0y Tryz.func35 rfl rfl) yb4 hF
instance yl0 {n a0 a1 a2}:CI E0 (zjk n a0 a1 a2) true 74 [z0n a0,.sl 5 (a1.map z02),z01 a2] aI:=⟨fun {r} hF=>by
 unfold zjk at hF
 refine cw Tryz.func74 ?_
 repeat' first
  |refine AW.step ?_;conv=>whnf
  |refine z14.o hF (fun hF=>?_) fun hF=>?_
  |refine z1n.oP hF zbs (fun u=>.tup [.nilp,aI (u.2)]) (fun u y=>.tup [.ref [aI (y.fa.fVars),aI (y.fa.fScopes),.sl 1 (y.fa.fStates.map z0p),.sl 17 (y.fa.fEdges.map z0w),.mapv (List.map (encM z1c z02) (y.fheld))],aI (u.2)]) (fun u h=>by simp only [zbs,h,zbd]) (fun u y h=>by simp only [zbs,h,zbd]) (fun a h=>zil.h h) (fun a hF=>?_) (fun a y hF=>?_)
  |(cases hF;done)
  |refine z1n.I hF fun a hF=>?_
  |exact RetX.oB hF⟩
instance y7q {n a0 a1}:CI E0 (zd5 n a0 a1) true 150 [.sl 2 (a0.map z09),.sl 2 (a1.map z09)] (fun r=>.bool (r)):=by unfold zd5;exact CI.w [] Tryz.func150
instance yam {n a0 a1}:CI E0 (zf2 n a0 a1) true 110 [z01 a0,z01 a1] (fun r=>.bool (r)):=by unfold zf2;exact CI.w [1] Tryz.func110
end
noncomputable section
abbrev zrq {n a2 a1 a0 b c d e}:=jf (z8o n a2 a1 a0 b c d e) (fun f=>⟨[(1,.sl 5 (a1.map z02)),(3,.ptr 3 0),(7,aI b),(8,.sl 3 (c.map z01)),(20,.sl 1 (List.map (fun q=>AV.sl 3 (List.map z01 q)) (a2.fSets))),(21,aI ((((List.map (fun q=>AV.sl 3 (List.map z01 q)) (a2.fSets)).length:Nat):Int))),(22,aI b),(30,.sl 3 (c.map z01)),(31,aI (((c.map z01).length:Int))),(32,aI d),(57,.bool (f))],[(3,.box 25 (z0g a0))]⟩) fun _=>z8o.eq_1 ..
abbrev zro {n a2 a1 a0 b c d}:=li (z6l n a2 a1 a0 b c d) (fun e=>⟨[(1,.sl 5 (a1.map z02)),(3,.ptr 3 0),(7,aI b),(8,.sl 3 (c.map z01)),(20,.sl 1 (List.map (fun q=>AV.sl 3 (List.map z01 q)) (a2.fSets))),(21,aI ((((List.map (fun q=>AV.sl 3 (List.map z01 q)) (a2.fSets)).length:Nat):Int))),(22,aI b),(30,.sl 3 (c.map z01)),(31,aI (((c.map z01).length:Int))),(32,aI e)],[(3,.box 25 (z0g a0))]⟩) fun _ _=>z6l.eq_2 ..
abbrev zrp {n a2 a1 a0 b}:=li (zah n a2 a1 a0 b) (fun c=>⟨[(1,.sl 5 (a1.map z02)),(3,.ptr 3 0),(20,.sl 1 (List.map (fun q=>AV.sl 3 (List.map z01 q)) (a2.fSets))),(21,aI ((((List.map (fun q=>AV.sl 3 (List.map z01 q)) (a2.fSets)).length:Nat):Int))),(22,aI c)],[(3,.box 25 (z0g a0))]⟩) fun _ _=>zah.eq_2 ..
abbrev zk1 {n b a1c0bc0 a0 c}:=li (z3j n b a1c0bc0 a0 c) (fun d=>⟨[(0,.sl 3 (a0.map z01)),(1,.fn 46 [.ref [.fn 77 [.ref [.sl 1 (List.map (fun q=>AV.mapv (List.map (encM aI AV.bool) q)) (a1c0bc0))]]],.ref (z10 b)]),(7,aI (((a0.map z01).length:Int))),(8,aI d)],[]⟩) fun _ _=>z3j.eq_2 ..
abbrev zk0 {n b c a1c0bc0bc0 a0 d}:=li (z3i n b c a1c0bc0bc0 a0 d) (fun e=>⟨[(0,.sl 3 (a0.map z01)),(1,.fn 49 [.ref [.fn 45 [.ref [.fn 77 [.ref [.sl 1 (List.map (fun q=>AV.mapv (List.map (encM aI AV.bool) q)) (a1c0bc0bc0))]]]]],.ref [.sl 1 (List.map (fun q=>AV.sl 3 (List.map z01 q)) (c.fSets))],.ref [aI b]]),(7,aI (((a0.map z01).length:Int))),(8,aI e)],[]⟩) fun _ _=>z3i.eq_2 ..
abbrev zpd {n a2 a1 a0 b f c d e}:=jf (z4j n a2 a1 a0 b f c d e) (fun g=>⟨[(1,.sl 5 (a1.map z02)),(3,.ptr 3 0),(5,.ptr 5 0),(10,.ref [.fn 45 [.ref [.fn 77 [.ref [.sl 1 (List.map (fun q=>AV.mapv (List.map (encM aI AV.bool) q)) (b.1))]]]]]),(11,.ptr 11 0),(12,.ptr 12 0),(42,.sl 5 (a1.map z02)),(43,aI (((a1.map z02).length:Int))),(44,aI b.2),(53,.sl 3 (c.map z01)),(54,aI (((c.map z01).length:Int))),(55,aI d),(81,.bool (g))],[(3,.box 25 (z0g a0)),(5,.box 31 [.sl 1 (List.map (fun q=>AV.sl 3 (List.map z01 q)) (a2.fSets))]),(11,.box 3 [aI b.2]),(12,.box 71 (z16 f))]⟩) fun _=>z4j.eq_1 ..
abbrev zpb {n a2 a1 a0 b e c d}:=li (z38 n a2 a1 a0 b e c d) (fun f=>⟨[(1,.sl 5 (a1.map z02)),(3,.ptr 3 0),(5,.ptr 5 0),(10,.ref [.fn 45 [.ref [.fn 77 [.ref [.sl 1 (List.map (fun q=>AV.mapv (List.map (encM aI AV.bool) q)) (b.1))]]]]]),(11,.ptr 11 0),(12,.ptr 12 0),(42,.sl 5 (a1.map z02)),(43,aI (((a1.map z02).length:Int))),(44,aI b.2),(53,.sl 3 (c.map z01)),(54,aI (((c.map z01).length:Int))),(55,aI f)],[(3,.box 25 (z0g a0)),(5,.box 31 [.sl 1 (List.map (fun q=>AV.sl 3 (List.map z01 q)) (a2.fSets))]),(11,.box 3 [aI b.2]),(12,.box 71 (z16 e))]⟩) fun _ _=>z38.eq_2 ..
abbrev zpc {n a2 a1 a0 b}:=li (z4i n a2 a1 a0 b) (fun c=>⟨[(1,.sl 5 (a1.map z02)),(3,.ptr 3 0),(5,.ptr 5 0),(10,.ref [.fn 45 [.ref [.fn 77 [.ref [.sl 1 (List.map (fun q=>AV.mapv (List.map (encM aI AV.bool) q)) (c.1))]]]]]),(42,.sl 5 (a1.map z02)),(43,aI (((a1.map z02).length:Int))),(44,aI c.2)],[(3,.box 25 (z0g a0)),(5,.box 31 [.sl 1 (List.map (fun q=>AV.sl 3 (List.map z01 q)) (a2.fSets))])]⟩) fun _ _=>z4i.eq_2 ..
abbrev zma {n}:=jf (z7k n) (fun b=>⟨[(0,.bool (b))],[]⟩) fun _=>z7k.eq_1 ..
abbrev zmb {n b c}:=jf (z4w n b c) (fun d=>⟨[(1,.sl 5 (b.map z02)),(6,.ptr 6 0),(118,.bool (d))],[(6,.box 31 [.sl 1 (List.map (fun q=>AV.sl 3 (List.map z01 q)) (c))])]⟩) fun _=>z4w.eq_1 ..
abbrev zm9 {n x1 x4 x7 x9 b c}:=jf (z7j n x1 x4 x7 x9 b c) (fun d=>⟨[(1,.sl 5 (x1.map z02)),(2,.ptr 2 0),(6,.ptr 6 0),(9,.ptr 9 0),(71,aI ((((List.map (fun q=>AV.sl 3 (List.map z01 q)) (x4.1.fSets)).length:Nat):Int))),(72,aI b),(95,.bool (d))],[(2,.box 31 [.sl 1 (List.map (fun q=>AV.sl 3 (List.map z01 q)) (x4.1.fSets))]),(6,.box 31 [.sl 1 (List.map (fun q=>AV.sl 3 (List.map z01 q)) (x7.2.2.1.fSets))]),(9,.box 44 (zef x9.2.1))]⟩) fun _=>z7j.eq_1 ..
attribute [instance] zrq zro zrp zk1 zk0 zpd zpb zpc zma zmb zm9
instance y54 {n a0 a1}:CI E0 (zc5 n a0 a1) true 75 [z01 a0,z01 a1] aI:=by unfold zc5;exact CI.w [2] Tryz.func75
instance yao {n a0 a1 a2}:CI E0 (zcp n a0 a1 a2) true 43 [z0n a0,.sl 5 (a1.map z02),.agg [.sl 1 (List.map (fun q=>AV.sl 3 (List.map z01 q)) (a2.fSets))]] aI:=⟨fun {r} hF=>by
 unfold zcp at hF
 refine cw Tryz.func43 ?_
 repeat' first
  |refine AW.jI hF (fun v hF=>?_) fun hF=>?_
  |refine AW.regO hF fun hF=>?_
  |refine AW.stepU [14] ?_;conv=>whnf
  |refine z14.o hF (fun hF=>?_) fun hF=>?_
  |refine z14.t ?_
  |refine z14.f ?_
  |refine IdxX.o (fun q=>AV.sl 3 (List.map z01 q)) hF fun x hF=>?_
  |exact ⟨_,hF,LeX.a []⟩
  |refine IdxX.A hF fun x hF=>?_
  |refine SlsX.o z02 hF (fun l hF=>?_)
  |refine z1n.I hF fun a hF=>?_
  |refine z8h.I hF (LeX.a []) fun m v hF=>?_
  |refine AndA ?_
  |refine EqX.A ?_
  |exact RetX.oB hF⟩
instance y0a {n a0 a1bc0 a2}:CI E0 (zce n a0 a1bc0 a2) true 46 [z01 a0,.ref [.fn 77 [.ref [.sl 1 (List.map (fun q=>AV.mapv (List.map (encM aI AV.bool) q)) (a1bc0))]]],.ref (z10 a2)] (fun r=>.bool (r)):=by unfold zce;exact CI.w [] Tryz.func46
instance y02 {n a0 a1c0bc0 b}:CI E0 (zcc n a0 a1c0bc0 b) true 59 [.sl 3 (a0.map z01),.fn 46 [.ref [.fn 77 [.ref [.sl 1 (List.map (fun q=>AV.mapv (List.map (encM aI AV.bool) q)) (a1c0bc0))]]],.ref (z10 b)]] aI:=by unfold zcc;exact CI.w [] Tryz.func59
instance zwu {n a0 a1c0bc0 b}:CI E0 (zaq n a0 a1c0bc0 b) true 27 [.sl 3 (a0.map z01),.fn 46 [.ref [.fn 77 [.ref [.sl 1 (List.map (fun q=>AV.mapv (List.map (encM aI AV.bool) q)) (a1c0bc0))]]],.ref (z10 b)]] (fun r=>.bool (r)):=by unfold zaq;exact CI.w [] Tryz.func27
instance y3z {n a0 a1 a2bc0}:CI E0 (z9z n a0 a1 a2bc0) true 45 [.sl 3 (a0.map z01),z01 a1,.ref [.fn 77 [.ref [.sl 1 (List.map (fun q=>AV.mapv (List.map (encM aI AV.bool) q)) (a2bc0))]]]] (fun r=>.bool (r)):=⟨fun {r} hF=>by
 unfold z9z at hF
 refine cw Tryz.func45 ?_
 repeat' first
  |refine AW.step ?_;conv=>whnf
  |refine z14.o hF (fun hF=>?_) fun hF=>?_
  |refine z14.t ?_
  |refine z14.f ?_
  |refine zap.I hF (fun a hF=>?_) rfl rfl fun _=>Or.inr rfl
  |refine AndA ?_
  |refine EqX.A ?_
  |exact RetX.oB hF⟩
instance ym6 {n a0 a1 a2 a3}:CI E0 (zmx n a0 a1 a2 a3) false 48 [z0n a0,.sl 5 (a1.map z02),z01 a2,z02 a3] (fun r=>.tup [.sl 3 (r.1.map z01),.sl 1 (r.2.1.map z0d),aI r.2.2]):=⟨fun {r} hF=>by
 unfold zmx at hF
 refine cw Tryz.func48 ?_
 repeat' first
  |refine AW.step ?_;conv=>whnf
  |refine z14.o hF (fun hF=>?_) fun hF=>?_
  |refine z14.t ?_
  |refine z14.f ?_
  |refine z1n.oP hF zbs (fun u=>.tup [.nilp,aI (u.2)]) (fun u y=>.tup [.ref [aI (y.fa.fVars),aI (y.fa.fScopes),.sl 1 (y.fa.fStates.map z0p),.sl 17 (y.fa.fEdges.map z0w),.mapv (List.map (encM z1c z02) (y.fheld))],aI (u.2)]) (fun u h=>by simp only [zbs,h,zbd]) (fun u y h=>by simp only [zbs,h,zbd]) (fun a h=>zil.h h) (fun a hF=>?_) (fun a y hF=>?_)
  |(cases hF;done)
  |refine z1n.I hF fun a hF=>?_
  |refine AndA ?_
  |refine EqX.A ?_
  |exact RetX.oB hF⟩
instance y3y {n a0 a1bc0bc0 a2 a3}:CI E0 (ze0 n a0 a1bc0bc0 a2 a3) true 49 [z01 a0,.ref [.fn 45 [.ref [.fn 77 [.ref [.sl 1 (List.map (fun q=>AV.mapv (List.map (encM aI AV.bool) q)) (a1bc0bc0))]]]]],.ref [.sl 1 (List.map (fun q=>AV.sl 3 (List.map z01 q)) (a2.fSets))],.ref [aI a3]] (fun r=>.bool (r)):=⟨fun {r} hF=>by
 unfold ze0 at hF
 refine cw Tryz.func49 ?_
 repeat' first
  |refine AW.step ?_;conv=>whnf
  |refine z14.o hF (fun hF=>?_) fun hF=>?_
  |refine z14.t ?_
  |refine z14.f ?_
  |refine IdxX.o (fun q=>AV.sl 3 (List.map z01 q)) hF fun x hF=>?_
  |refine z1n.I hF fun a hF=>?_
  |refine AndA ?_
  |refine EqX.A ?_
  |exact RetX.oB hF⟩
instance y01 {n a0 a1c0bc0bc0 b c}:CI E0 (zcb n a0 a1c0bc0bc0 b c) true 59 [.sl 3 (a0.map z01),.fn 49 [.ref [.fn 45 [.ref [.fn 77 [.ref [.sl 1 (List.map (fun q=>AV.mapv (List.map (encM aI AV.bool) q)) (a1c0bc0bc0))]]]]],.ref [.sl 1 (List.map (fun q=>AV.sl 3 (List.map z01 q)) (b.fSets))],.ref [aI c]]] aI:=by unfold zcb;exact CI.w [] Tryz.func59
instance zwt {n a0 a1c0bc0bc0 b c}:CI E0 (z8i n a0 a1c0bc0bc0 b c) true 27 [.sl 3 (a0.map z01),.fn 49 [.ref [.fn 45 [.ref [.fn 77 [.ref [.sl 1 (List.map (fun q=>AV.mapv (List.map (encM aI AV.bool) q)) (a1c0bc0bc0))]]]]],.ref [.sl 1 (List.map (fun q=>AV.sl 3 (List.map z01 q)) (b.fSets))],.ref [aI c]]] (fun r=>.bool (r)):=by unfold z8i;exact CI.w [] Tryz.func27
instance y7s {n a0 a1 a2}:CI E0 (z80 n a0 a1 a2) true 17 [z0n a0,.sl 5 (a1.map z02),.agg [.sl 1 (List.map (fun q=>AV.sl 3 (List.map z01 q)) (a2.fSets))]] aI:=⟨fun {r} hF=>by
 unfold z80 at hF
 refine cw Tryz.func17 ?_
 repeat' first
  |refine AW.frbO hF 33000000 rfl rfl (fun hF=>?_)
  |refine AW.frb0 33000000 rfl rfl ?_
  |refine AW.frbO hF 9 rfl rfl (fun hF=>?_)
  |refine AW.frb0 9 rfl rfl ?_
  |refine AW.jI hF (fun v hF=>?_) fun hF=>?_
  |refine AW.regO hF fun hF=>?_
  |refine AW.frzO hF 33000000 rfl (fun hF=>?_)
  |refine AW.frzO hF 9 rfl (fun hF=>?_)
  |refine AW.frzO hF 10 rfl (fun hF=>?_)
  |refine AW.stepU [9,18] ?_;conv=>whnf
  |refine z14.o hF (fun hF=>?_) fun hF=>?_
  |refine z14.t ?_
  |refine z14.f ?_
  |refine z1n.I hF fun a hF=>?_
  |refine zap.oM (z75 32 hF) [] [(3,33000000)] _ _ z7v z9l [] (fun a h=>ConG.up (zc6 h)) (z0y Tryz.func44 rfl rfl) rfl rfl rfl trivial (fun a=>⟨rfl,rfl,rfl,rfl,rfl,rfl,rfl,rfl⟩) (fun a hF=>?_)
  |refine z1n.oM (z75 32 hF) [] [(3,33000000)] _ _ z7v z9l [] (fun a h=>ConG.up (zc6 h)) (z0y Tryz.func44 rfl rfl) rfl rfl rfl trivial (fun a=>⟨rfl,rfl,rfl,rfl,rfl,rfl,rfl,rfl⟩) (fun a hF=>?_)
  |refine IdxX.o (fun q=>AV.sl 3 (List.map z01 q)) hF fun x hF=>?_
  |refine IdxX.A hF fun x hF=>?_
  |exact ⟨_,hF,LeX.a []⟩
  |refine SlsX.o z02 hF (fun l hF=>?_)
  |refine zap.I hF (fun a hF=>?_) rfl rfl fun _=>Or.inr rfl
  |refine z8h.I hF ?_ fun m v hF=>?_
  |exact LeX.a []
  |exact LeX.trans (LeX.frb 10 rfl rfl) (LeX.a [])
  |refine AndA ?_
  |refine EqX.A ?_
  |exact RetX.oB hF⟩
end
noncomputable section
abbrev zm8 {n x1 x4 x7 x9 b}:=li (z7i n x1 x4 x7 x9 b) (fun c=>⟨[(1,.sl 5 (x1.map z02)),(2,.ptr 2 0),(6,.ptr 6 0),(9,.ptr 9 0),(71,aI ((((List.map (fun q=>AV.sl 3 (List.map z01 q)) (x4.1.fSets)).length:Nat):Int))),(72,aI c)],[(2,.box 31 [.sl 1 (List.map (fun q=>AV.sl 3 (List.map z01 q)) (x4.1.fSets))]),(6,.box 31 [.sl 1 (List.map (fun q=>AV.sl 3 (List.map z01 q)) (x7.2.2.1.fSets))]),(9,.box 44 (zef x9.2.1))]⟩) fun _ _=>z7i.eq_2 ..
abbrev zmc {n x1 x4 x7 x9}:=jf (z2e n x1 x4 x7 x9) (fun b=>⟨[(1,.sl 5 (x1.map z02)),(2,.ptr 2 0),(6,.ptr 6 0),(9,.ptr 9 0),(68,.bool (b))],[(2,.box 31 [.sl 1 (List.map (fun q=>AV.sl 3 (List.map z01 q)) (x4.1.fSets))]),(6,.box 31 [.sl 1 (List.map (fun q=>AV.sl 3 (List.map z01 q)) (x7.2.2.1.fSets))]),(9,.box 44 (zef x9.2.1))]⟩) fun _=>z2e.eq_1 ..
abbrev zn1 {n a1 a0 b}:=li (z8a n a1 a0 b) (fun c=>⟨[(0,.sl 3 (a0.map z01)),(1,.sl 3 (a1.map z01)),(5,aI c)],[]⟩) fun _ _=>z8a.eq_2 ..
abbrev zmz {n a1 a0 b}:=li (z88 n a1 a0 b) (fun c=>⟨[(2,.ptr 2 0),(3,.ptr 3 0),(5,aI c)],[(2,.box 31 [.sl 1 (List.map (fun q=>AV.sl 3 (List.map z01 q)) (a0.fSets))]),(3,.box 31 [.sl 1 (List.map (fun q=>AV.sl 3 (List.map z01 q)) (a1.fSets))])]⟩) fun _ _=>z88.eq_2 ..
abbrev zgw {n}:=jf (z1b n) (fun b=>⟨[(6,.bool (b))],[]⟩) fun _=>z1b.eq_1 ..
abbrev zgx {n a2 a1 a0 x3 x5}:=jf (z11 n a2 a1 a0 x3 x5) (fun b=>⟨[(1,.sl 5 (a1.map z02)),(3,.ptr 3 0),(7,aI ((((IntKind.wrap .i64 a2)).tmod (IntKind.wrap .i64 (((a1.map z02).length:Int)+1))))),(8,aI x3.1),(10,.ptr 10 0),(14,.ptr 14 0),(59,.bool (b))],[(3,.box 25 (z0g a0)),(10,.box 31 [.sl 1 (List.map (fun q=>AV.sl 3 (List.map z01 q)) (x3.2.2.1.fSets))]),(14,.box 31 [.sl 1 (List.map (fun q=>AV.sl 3 (List.map z01 q)) (x5.2.2.1.fSets))])]⟩) fun _=>z11.eq_1 ..
attribute [instance] zm8 zmc    zn1 zmz zgw zgx     
instance y3s {n}:CI E0 (z7y n) true 12 [] (fun r=>.bool (r)):=⟨fun {r} hF=>by
 unfold z7y at hF
 refine Con.env (E:=E0b) rfl rfl ?_
 refine Con.walk _ Tryz.func12 rfl (z0y Tryz.func12 rfl rfl) rfl (Or.inr rfl) ?_
 repeat' first
  |refine AW.jI hF (fun v hF=>?_) fun hF=>?_
  |refine AW.regO hF fun hF=>?_
  |refine AW.frzO hF 18 rfl (fun hF=>?_)
  |refine AW.stepU [2,5,10,13,17] ?_;conv=>whnf
  |refine z14.o hF (fun hF=>?_) fun hF=>?_
  |refine z14.t ?_
  |refine z14.f ?_
  |refine OpX.bldR z02 hF rfl rfl rfl rfl rfl rfl rfl rfl rfl rfl rfl rfl rfl rfl rfl rfl (by first|exact SubR.refl _|(repeat' first|exact SubR.nil|refine SubR.cons ?_ ?_|exact SubL.nil|refine SubL.cons ?_ ?_|exact Sub.refl _|exact Sub.nil _)) rfl (fun l hF=>?_)
  |refine OpX.bld z02 hF rfl rfl rfl rfl rfl rfl rfl rfl rfl rfl rfl rfl rfl rfl rfl rfl (fun l hF=>?_)
  |refine z1n.I hF fun a hF=>?_
  |refine SlsX.o z02 hF (fun l hF=>?_)
  |refine z1n.oR hF (fun r=>r) (fun q=>AV.sl 3 (List.map z01 q)) (fun _=>AV.row 0) rfl (fun a h=>ConT.env rfl (zvp h)) (fun a hF=>?_)
  |refine z1n.oR hF (fun r=>r) (fun q=>AV.sl 3 (List.map z01 q)) (fun _=>AV.row 0) rfl (fun a h=>ConT.sub (by repeat' first|exact Sub.nil _|exact Sub.refl _|refine Sub.agg ?_|refine Sub.tup ?_|refine Sub.fn ?_|exact SubL.nil|refine SubL.cons ?_ ?_|refine Sub.sl _ ?_|exact SubE.nil|refine SubE.cons ?_ ?_) (ConT.env rfl (zvp h))) (fun a hF=>?_)
  |refine NatX.o hF (fun m hF=>?_)
  |refine EltX.o (fun q=>AV.sl 3 (List.map z01 q)) hF (fun x hF=>?_)
  |refine SlsX.o z01 hF (fun l hF=>?_)
  |refine SetX.o (fun q=>AV.sl 3 (List.map z01 q)) hF (fun x=>rfl) (fun x=>(by first|exact SubL.refl _|(repeat' first|exact SubL.nil|refine SubL.cons ?_ ?_|exact Sub.refl _|exact Sub.nil _|refine Sub.agg ?_))) (fun l hF=>?_)
  |refine zap.I hF (fun a hF=>?_) rfl rfl fun _=>Or.inr rfl
  |exact ⟨_,hF,LeX.a []⟩
  |refine IdxX.A hF fun x hF=>?_
  |refine IdxX.o (fun q=>AV.sl 3 (List.map z01 q)) hF fun x hF=>?_
  |refine z8h.I hF (LeX.a []) fun m v hF=>?_
  |refine AndA ?_
  |refine EqX.A ?_
  |exact RetX.oB hF⟩
instance y4p {n a0 a1}:CI E0 (zbx n a0 a1) true 41 [.sl 3 (a0.map z01),.sl 3 (a1.map z01)] (fun r=>.bool (r)):=by unfold zbx;exact CI.w [] Tryz.func41
instance y4l {n a0 a1}:CI E0 (zbv n a0 a1) true 15 [.agg [.sl 1 (List.map (fun q=>AV.sl 3 (List.map z01 q)) (a0.fSets))],.agg [.sl 1 (List.map (fun q=>AV.sl 3 (List.map z01 q)) (a1.fSets))]] (fun r=>.bool (r)):=⟨fun {r} hF=>by
 unfold zbv at hF
 refine cw Tryz.func15 ?_
 repeat' first
  |refine AW.step ?_;conv=>whnf
  |refine z14.o hF (fun hF=>?_) fun hF=>?_
  |refine z14.t ?_
  |refine z14.f ?_
  |refine IdxX.o (fun q=>AV.sl 3 (List.map z01 q)) hF fun x hF=>?_
  |refine z1n.I hF fun a hF=>?_
  |exact ⟨_,hF,LeX.a []⟩
  |refine z8h.I hF (LeX.a []) fun m v hF=>?_
  |refine AndA ?_
  |refine EqX.A ?_
  |exact RetX.oB hF⟩
theorem zh2 {n a0 a1 a2 r}(hF:z7r n a0 a1 a2=some r):Con E0 true 8 [z0n a0,.sl 5 (a1.map z02),.int .u8 (a2)] (.bool (r)):=by
 unfold z7r at hF
 refine cw Tryz.func8 ?_
 repeat' first
  |refine AW.jI hF (fun v hF=>?_) fun hF=>?_
  |refine AW.regO hF fun hF=>?_
  |refine AW.stepU [6,13] ?_;conv=>whnf
  |refine z14.o hF (fun hF=>?_) fun hF=>?_
  |refine z14.t ?_
  |refine z14.f ?_
  |refine z1n.I hF fun a hF=>?_
  |refine NzX.o hF (fun hF=>?_)
  |refine SlsX.o z02 hF (fun l hF=>?_)
  |refine SlsX.o (fun q=>AV.sl 3 (List.map z01 q)) hF (fun l hF=>?_)
  |exact ⟨_,hF,LeX.a []⟩
  |refine AndA ?_
  |refine EqX.A ?_
  |exact RetX.oB hF
end
noncomputable section
end
section
variable {α:Type} {c:α->α->Int}
theorem TO.asym (h:TO c){a b:α}(k:c a b<0):¬c b a<0:=by have:=h.neg a b;omega
theorem TO.lt_ne (h:TO c){a b:α}(k:c a b<0):a≠b:=fun e=>by subst e;exact h.irr _ k
def Str (c:α->α->Int)(l:List α):Prop:=l.Pairwise (fun x y=>c x y<0)
theorem Str.uniq (h:TO c):∀ {l m:List α},Str c l->Str c m->(∀ x,x∈l ↔ x∈m)->l=m
 |[],[],_,_,_=>rfl
 |[],y::m,_,_,hm=>by have:=(hm y).2 (by simp);simp at this
 |x::l,[],_,_,hm=>by have:=(hm x).1 (by simp);simp at this
 |x::l,y::m,h1,h2,hm=>by
  obtain ⟨a1,a2⟩:=pairwise_cons.1 h1
  obtain ⟨b1,b2⟩:=pairwise_cons.1 h2
  have hxy:x=y:=by
   rcases mem_cons.1 ((hm x).1 (by simp)) with e|e
   ·exact e
   ·rcases mem_cons.1 ((hm y).2 (by simp)) with e'|e'
    ·exact e'.symm
    ·exact absurd (a1 y e') (h.asym (b1 x e))
  subst hxy
  congr 1
  refine Str.uniq h a2 b2 (fun z=>⟨fun hz=>?_,fun hz=>?_⟩)
  ·rcases mem_cons.1 ((hm z).1 (mem_cons_of_mem _ hz)) with e|e
   ·exact absurd e.symm (h.lt_ne (a1 z hz))
   ·exact e
  ·rcases mem_cons.1 ((hm z).2 (mem_cons_of_mem _ hz)) with e|e
   ·exact absurd e.symm (h.lt_ne (b1 z hz))
   ·exact e
def insU (c:α->α->Int)(x:α):List α->List α
 |[]=>[x]
 |y::l=>if c y x<0 then y::insU c x l else if c y x=0 then y::l else x::y::l
theorem ztf (h:TO c)(x z:α):∀ l:List α,z∈insU c x l ↔ z=x\/z∈l
 |[]=>by simp [insU]
 |y::l=>by
  unfold insU
  split
  ·simp only [mem_cons,ztf h x z l]
   constructor
   ·rintro (h|h|h)<;>simp [h]
   ·rintro (h|h|h)<;>simp [h]
  ·split
   ·rename_i e
    have:=(h.zero _ _).1 e
    subst this
    simp only [mem_cons]
    constructor
    ·intro k;exact Or.inr k
    ·rintro (k|k)
     ·exact Or.inl k
     ·exact k
   ·simp only [mem_cons]
theorem yd0 (h:TO c)(x:α):∀ l:List α,Str c l->Str c (insU c x l)
 |[],_=>by simp [insU,Str]
 |y::l,hl=>by
  obtain ⟨h1,h2⟩:=pairwise_cons.1 hl
  unfold insU
  split
  ·rename_i k
   refine pairwise_cons.2 ⟨fun z hz=>?_,yd0 h x l h2⟩
   rcases (ztf h x z l).1 hz with e|e
   ·rw [e];exact k
   ·exact h1 z e
  ·split
   ·exact hl
   ·rename_i k1 k2
    have k3:c x y<0:=by have:=h.neg y x;have:=h.one y x;omega
    refine pairwise_cons.2 ⟨fun z hz=>?_,hl⟩
    rcases mem_cons.1 hz with e|e
    ·rw [e];exact k3
    ·exact h.trans _ _ _ k3 (h1 z e)
theorem znw (c:α->α->Int)(x:α):∀ l:List α,(insU c x l).length<=l.length+1
 |[]=>by simp [insU]
 |y::l=>by
  unfold insU
  have:=znw c x l
  split
  ·simp only [length_cons];omega
  ·split<;>simp only [length_cons]<;>omega
theorem y72 (c:α->α->Int)(x:α):∀ l:List α,l.length<=(insU c x l).length
 |[]=>by simp [insU]
 |y::l=>by
  unfold insU
  have:=y72 c x l
  split
  ·simp only [length_cons];omega
  ·split<;>simp only [length_cons]<;>omega
def puts (c:α->α->Int)(s:List α)(l:List α):List α:=l.foldl (fun s x=>insU c x s) s
def setL (c:α->α->Int)(l:List α):List α:=puts c [] l
theorem zh5 (s:List α)(x:α)(l:List α):puts c s (x::l)=puts c (insU c x s) l:=rfl
theorem zj3 (s l m:List α):puts c s (l++m)=puts c (puts c s l) m:=by simp [puts,foldl_append]
theorem zkh (h:TO c)(z:α):∀ (l s:List α),z∈puts c s l ↔ z∈s\/z∈l
 |[],s=>by simp [puts]
 |x::l,s=>by
  rw [zh5,zkh h z l,ztf h]
  simp only [mem_cons]
  constructor
  ·rintro ((k|k)|k)<;>simp [k]
  ·rintro (k|k|k)<;>simp [k]
theorem zwg (h:TO c):∀ (l s:List α),Str c s->Str c (puts c s l)
 |[],_,hs=>hs
 |x::l,s,hs=>by rw [zh5];exact zwg h l _ (yd0 h x s hs)
theorem zwh:∀ (l s:List α),(puts c s l).length<=s.length+l.length
 |[],s=>by simp [puts]
 |x::l,s=>by
  rw [zh5]
  have:=zwh l (insU c x s)
  have:=znw c x s
  simp only [length_cons];omega
theorem y5m:∀ (l s:List α),s.length<=(puts c s l).length
 |[],s=>by simp [puts]
 |x::l,s=>by
  rw [zh5]
  have:=y5m l (insU c x s)
  have:=y72 c x s
  omega
theorem zgs (h:TO c)(z:α)(l:List α):z∈setL c l ↔ z∈l:=by unfold setL;rw [zkh h];simp
theorem zkf (h:TO c)(l:List α):Str c (setL c l):=zwg h l [] (by simp [Str])
theorem zwe (l:List α):(setL c l).length<=l.length:=by have:=zwh (c:=c) l [];simpa [setL] using this
theorem yfs (h:TO c){l m:List α}(hm:∀ x,x∈l ↔ x∈m):setL c l=setL c m:=Str.uniq h (zkf h l) (zkf h m) (fun x=>by rw [zgs h,zgs h,hm])
theorem y93 (h:TO c){l:List α}(hl:Str c l):setL c l=l:=Str.uniq h (zkf h l) hl (fun x=>zgs h x l)
variable [DecidableEq α]
def ddA (p:α):List α->List α
 |[]=>[]
 |y::l=>if y=p then ddA p l else y::ddA y l
def dd:List α->List α
 |[]=>[]
 |x::l=>x::ddA x l
theorem y35 (p z:α):∀ l:List α,ddA p (l++[z])=ddA p l++(if z=(p::l).getLast (by simp) then [] else [z])
 |[]=>by by_cases h:z=p<;>simp [ddA,h]
 |y::l=>by
  have e:(p::y::l).getLast (by simp)=(y::l).getLast (by simp):=by rw [getLast_cons (by simp)]
  simp only [cons_append,ddA]
  rw [e]
  by_cases h:y=p
  ·subst h
   rw [if_pos rfl,if_pos rfl,y35 y z l]
  ·rw [if_neg h,if_neg h,y35 y z l]
   rfl
theorem zq1 (l:List α)(z:α)(h:l≠[]):dd (l++[z])=dd l++(if z=l.getLast h then [] else [z]):=by
 cases l with
 |nil=>exact absurd rfl h
 |cons x l =>
  show x::ddA x (l++[z])=_
  rw [y35]
  rfl
theorem yaf (x:α):∀ (l:List α) (p:α),x∈ddA p l\/x=p ↔ x∈l\/x=p
 |[],p=>by simp [ddA]
 |y::l,p=>by
  unfold ddA
  split
  ·rename_i h
   subst h
   rw [yaf x l y]
   simp only [mem_cons]
   constructor
   ·rintro (k|k)<;>simp [k]
   ·rintro ((k|k)|k)<;>simp [k]
  ·have:=yaf x l y
   simp only [mem_cons]
   constructor
   ·rintro ((k|k)|k)
    ·exact Or.inl (Or.inl k)
    ·rcases this.1 (Or.inl k) with q|q
     ·exact Or.inl (Or.inr q)
     ·exact Or.inl (Or.inl q)
    ·exact Or.inr k
   ·rintro ((k|k)|k)
    ·exact Or.inl (Or.inl k)
    ·rcases this.2 (Or.inl k) with q|q
     ·exact Or.inl (Or.inr q)
     ·exact Or.inl (Or.inl q)
    ·exact Or.inr k
theorem yqm (x:α)(l:List α):x∈dd l ↔ x∈l:=by
 cases l with
 |nil=>simp [dd]
 |cons y l =>
  simp only [dd,mem_cons]
  have:=yaf x l y
  constructor
  ·rintro (k|k)
   ·exact Or.inl k
   ·rcases this.1 (Or.inl k) with q|q
    ·exact Or.inr q
    ·exact Or.inl q
  ·rintro (k|k)
   ·exact Or.inl k
   ·rcases this.2 (Or.inl k) with q|q
    ·exact Or.inr q
    ·exact Or.inl q
theorem yae (h:TO c):∀ (l:List α) (p:α),(p::l).Pairwise (fun x y=>ltOf c y x=false)->Str c (p::ddA p l)
 |[],p,_=>by simp [ddA,Str]
 |y::l,p,hl=>by
  obtain ⟨h1,h2⟩:=pairwise_cons.1 hl
  have hle:∀ z,z∈y::l->¬c z p<0:=fun z hz=>of_decide_eq_false (h1 z hz)
  unfold ddA
  split
  ·rename_i e
   refine yae h l p (pairwise_cons.2 ⟨fun z hz=>h1 z (mem_cons_of_mem _ hz),(pairwise_cons.1 h2).2⟩)
  ·rename_i e
   have ih:=yae h l y h2
   have hpy:c p y<0:=by
    rcases h.tri p y with k|k|k
    ·exact k
    ·exact absurd k.symm e
    ·exact absurd k (hle y (by simp))
   refine pairwise_cons.2 ⟨fun z hz=>?_,ih⟩
   rcases mem_cons.1 hz with k|k
   ·rw [k];exact hpy
   ·exact h.trans _ _ _ hpy ((pairwise_cons.1 ih).1 z k)
theorem yi5 (h:TO c)(l:List α):dd (zvv c l)=setL c l:=by
 have hs:=zpo h.swo l
 refine Str.uniq h ?_ (zkf h l) (fun x=>by rw [yqm,zgs h];exact (zhk c l).mem_iff)
 cases hq:zvv c l with
 |nil=>simp [dd,Str]
 |cons x q=>rw [hq] at hs;exact yae h q x hs
end
end Go.Proofs.YtidhlpjgifoneaaGreat
