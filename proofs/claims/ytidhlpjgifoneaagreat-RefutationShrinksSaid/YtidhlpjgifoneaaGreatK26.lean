/- What some functions compute, over plain values. -/
import Derived.Test.YtidhlpjgifoneaaGreatK25
set_option linter.unusedVariables false
set_option linter.unusedSimpArgs false
set_option maxRecDepth 100000
set_option maxHeartbeats 8000000
namespace Go.Proofs.YtidhlpjgifoneaaGreat
open Go.RowKit List
noncomputable section
abbrev zq9 {n a1 a0 b}:=li (za2 n a1 a0 b) (fun c=>⟨[(1,.sl 2 (a1.map z09)),(2,.fn 79 []),(15,.sl 2 (a0.map z09)),(16,aI (((a0.map z09).length:Int))),(17,aI c)],[]⟩) fun _ _=>za2.eq_2 ..
abbrev zs7 {n a1 a0 b}:=li (z8u n a1 a0 b) (fun c=>⟨[(1,.mapv (List.map (encM aI AV.bool) (a1))),(5,.row 7022),(9,.sl 4 (a0.fBindings.map z0b)),(10,aI (((a0.fBindings.map z0b).length:Int))),(11,aI c.1)],[(7022,.row 76 4 (c.2.map z0b))]⟩) fun _ _=>z8u.eq_2 ..
abbrev zuv {n a1 a0 b}:=li (zct n a1 a0 b) (fun c=>⟨[(0,.sl 4 (a0.map z0b)),(1,.sl 4 (a1.map z0b)),(12,aI (((a0.map z0b).length:Int))),(13,aI c)],[]⟩) fun _ _=>zct.eq_2 ..
abbrev zkl {n}:=jf (z2p n) (fun b=>⟨[(5,.bool (b))],[]⟩) fun _=>z2p.eq_1 ..
abbrev zlj {n d a0 b g c e f}:=jf (z26 n d a0 b g c e f) (fun h=>⟨[(0,.sl 3 (a0.map z01)),(1,.fn 77 [.ref [.sl 1 (List.map (fun q=>AV.mapv (List.map (encM aI AV.bool) q)) (d))]]),(5,.row 7053),(6,aI b.1),(7,.ptr 7 0),(8,aI ((-1))),(9,aI c),(11,.sl 3 (a0.map z01)),(12,aI (((a0.map z01).length:Int))),(13,aI b.1),(18,.sl 3 (a0.map z01)),(19,aI (((a0.map z01).length:Int))),(20,aI c),(45,.bool (h))],[(7,.box 60 (z10 g)),(7053,.row 60 3 (b.2.map z01))]⟩) fun _=>z26.eq_1 ..
abbrev zlh {n c a0 b e d}:=li (z1q n c a0 b e d) (fun f=>⟨[(0,.sl 3 (a0.map z01)),(1,.fn 77 [.ref [.sl 1 (List.map (fun q=>AV.mapv (List.map (encM aI AV.bool) q)) (c))]]),(5,.row 7053),(6,aI b.1),(7,.ptr 7 0),(8,aI ((-1))),(11,.sl 3 (a0.map z01)),(12,aI (((a0.map z01).length:Int))),(13,aI b.1),(18,.sl 3 (a0.map z01)),(19,aI (((a0.map z01).length:Int))),(20,aI f)],[(7,.box 60 (z10 e)),(7053,.row 60 3 (b.2.map z01))]⟩) fun _ _=>z1q.eq_2 ..
abbrev zli {n b a0 c}:=li (z24 n b a0 c) (fun d=>⟨[(0,.sl 3 (a0.map z01)),(1,.fn 77 [.ref [.sl 1 (List.map (fun q=>AV.mapv (List.map (encM aI AV.bool) q)) (b))]]),(5,.row 7053),(11,.sl 3 (a0.map z01)),(12,aI (((a0.map z01).length:Int))),(13,aI d.1)],[(7053,.row 60 3 (d.2.map z01))]⟩) fun _ _=>z24.eq_2 ..
abbrev zlg {n a2c0bc0 a1 a0 b}:=li (zbm n a2c0bc0 a1 a0 b) (fun c=>⟨[(1,.sl 5 (a1.map z02)),(2,.fn 52 [.ref [.fn 77 [.ref [.sl 1 (List.map (fun q=>AV.mapv (List.map (encM aI AV.bool) q)) (a2c0bc0))]]]]),(3,.ptr 3 0),(8,.row 7016),(17,.sl 5 (a1.map z02)),(18,aI (((a1.map z02).length:Int))),(19,aI c.1)],[(3,.box 25 (z0g a0)),(7016,.row 57 1 (List.map (fun q=>AV.sl 3 (List.map z01 q)) (c.2)))]⟩) fun _ _=>zbm.eq_2 ..
abbrev zpo {n a1 a0 b}:=li (z9b n a1 a0 b) (fun c=>⟨[(0,.sl 2 (a0.map z09)),(1,.sl 2 (a1.map z09)),(12,aI (((a0.map z09).length:Int))),(13,aI c)],[]⟩) fun _ _=>z9b.eq_2 ..
abbrev zs6 {n}:=jf (z6r n) (fun b=>⟨[(4,.bool (b))],[]⟩) fun _=>z6r.eq_1 ..
abbrev zo9 {n a0 x1}:=jf (z2x n a0 x1) (fun b=>⟨[(2,.ptr 2 0),(5,.sl 3 (x1.1.map z01)),(14,.bool (b))],[(2,.box 60 (z10 a0))]⟩) fun _=>z2x.eq_1 ..
attribute [instance] zq9 zs7 zuv zkl zlj zlh zli zlg zpo zs6 zo9
instance zzf {n a0 a1}:CI E0 (z9l n a0 a1) true 79 [z09 a0,z09 a1] (fun r=>.bool (r)):=by unfold z9l;exact CI.w [1] Tryz.func79
instance y9b {n a0 a1}:CI E0 (ze6 n a0 a1) true 78 [.sl 2 (a0.map z09),.sl 2 (a1.map z09),.fn 79 []] (fun r=>.bool (r)):=by unfold ze6;exact CI.w [] Tryz.func78
instance yba {n a0 a1}:CI E0 (zcx n a0 a1) false 81 [z01 a0,.mapv (List.map (encM aI AV.bool) (a1))] (fun r=>.sl 4 (r.map z0b)):=⟨fun {r} hF=>by
 unfold zcx at hF
 refine cw Tryz.func81 ?_
 repeat' first
  |refine AW.regO hF fun hF=>?_
  |refine AW.stepU [5] ?_;conv=>whnf
  |refine z12.o hF (fun hF=>?_) fun hF=>?_
  |refine z12.t ?_
  |refine z12.f ?_
  |refine IdxX.A hF fun x hF=>?_
  |refine OpX.lkv aI AV.bool hF yrb rfl rfl rfl rfl rfl rfl rfl rfl rfl rfl (by first|rfl|kernel_rfl) (by repeat' first|exact Sub.nil _|exact Sub.refl _|refine Sub.agg ?_|refine Sub.tup ?_|refine Sub.fn ?_|exact SubL.nil|refine SubL.cons ?_ ?_|refine Sub.sl _ ?_|exact SubE.nil|refine SubE.cons ?_ ?_) (fun v b hF=>?_)
  |refine AppX.oA hF fun l hF=>?_
  |exact ⟨_,hF,LeX.a [(7022,22)]⟩
  |exact ⟨_,hF,LeX.a []⟩
  |refine z7z.I hF ?_ fun m v hF=>?_
  |exact LeX.trans (LeX.adopt 5 7022 76 4 rfl rfl) (LeX.a [])
  |refine AndA ?_
  |refine EqX.A ?_
  |exact RetX.oB hF⟩
instance yfw {n a0 a1}:CI E0 (zft n a0 a1) true 80 [.sl 4 (a0.map z0b),.sl 4 (a1.map z0b)] (fun r=>.bool (r)):=by unfold zft;exact CI.w [] Tryz.func80
instance y12 {n a0 a1 a2}:CI E0 (z6a n a0 a1 a2) true 77 [z01 a0,z01 a1,.ref [.sl 1 (List.map (fun q=>AV.mapv (List.map (encM aI AV.bool) q)) (a2))]] (fun r=>.bool (r)):=⟨fun {r} hF=>by
 unfold z6a at hF
 refine cw Tryz.func77 ?_
 repeat' first
  |refine AW.jI hF (fun v hF=>?_) fun hF=>?_
  |refine AW.regO hF fun hF=>?_
  |refine AW.stepU [1] ?_;conv=>whnf
  |refine z12.o hF (fun hF=>?_) fun hF=>?_
  |refine z12.t ?_
  |refine z12.f ?_
  |refine z1l.I hF fun a hF=>?_
  |refine IdxX.o (fun q=>AV.mapv (List.map (encM aI AV.bool) q)) hF fun x hF=>?_
  |exact ⟨_,hF,LeX.a []⟩
  |refine AndA ?_
  |refine EqX.A ?_
  |exact RetX.oB hF⟩
instance y2m {n a0 b}:CI E0 (z9c n a0 b) false 53 [.sl 3 (a0.map z01),.fn 77 [.ref [.sl 1 (List.map (fun q=>AV.mapv (List.map (encM aI AV.bool) q)) (b))]]] (fun r=>.sl 3 (r.map z01)):=⟨fun {r} hF=>by
 unfold z9c at hF
 refine cw Tryz.func53 ?_
 repeat' first
  |refine AW.jI hF (fun v hF=>?_) fun hF=>?_
  |refine AW.regO hF fun hF=>?_
  |refine AW.stepU [9,12] ?_;conv=>whnf
  |refine z12.o hF (fun hF=>?_) fun hF=>?_
  |refine z12.t ?_
  |refine z12.f ?_
  |refine IdxX.A hF fun x hF=>?_
  |refine AppX.oA hF fun l hF=>?_
  |exact ⟨_,hF,LeX.a [(7053,53)]⟩
  |exact ⟨_,hF,LeX.a []⟩
  |refine z1l.I hF fun a hF=>?_
  |refine z7z.I hF ?_ fun m v hF=>?_
  |exact LeX.a []
  |exact LeX.trans (LeX.adopt 5 7053 60 3 rfl rfl) (LeX.a [])
  |refine AndA ?_
  |refine EqX.A ?_
  |exact RetX.oB hF⟩
instance y4n {n a0 a1bc0}:CI E0 (zgm n a0 a1bc0) false 52 [.sl 3 (a0.map z01),.ref [.fn 77 [.ref [.sl 1 (List.map (fun q=>AV.mapv (List.map (encM aI AV.bool) q)) (a1bc0))]]]] (fun r=>.sl 3 (r.map z01)):=by unfold zgm;exact CI.w [] Tryz.func52
instance y2j {n a0 a1 a2c0bc0}:CI E0 (zg0 n a0 a1 a2c0bc0) false 37 [z0o a0,.sl 5 (a1.map z02),.fn 52 [.ref [.fn 77 [.ref [.sl 1 (List.map (fun q=>AV.mapv (List.map (encM aI AV.bool) q)) (a2c0bc0))]]]]] (fun r=>.tup [.sl 1 (List.map (fun q=>AV.sl 3 (List.map z01 q)) (r.1)),aI r.2]):=⟨fun {r} hF=>by
 unfold zg0 at hF
 refine Con.env (E:=E0b) rfl rfl ?_
 refine Con.walk _ Tryz.func37 rfl (z0x Tryz.func37 rfl rfl) rfl (Or.inl rfl) ?_
 repeat' first
  |refine AW.step ?_;conv=>whnf
  |refine z12.o hF (fun hF=>?_) fun hF=>?_
  |refine z12.t ?_
  |refine z12.f ?_
  |refine z1l.I hF fun a hF=>?_
  |refine OpX.bldS z01 hF rfl rfl rfl rfl rfl rfl rfl rfl rfl rfl rfl rfl rfl rfl (fun l hF=>?_)
  |refine OpX.bldR (fun q=>AV.sl 3 (List.map z01 q)) hF rfl rfl rfl rfl rfl rfl rfl rfl rfl rfl rfl rfl rfl rfl rfl rfl (by first|exact SubR.refl _|(repeat' first|exact SubR.nil|refine SubR.cons ?_ ?_|exact SubL.nil|refine SubL.cons ?_ ?_|exact Sub.refl _|exact Sub.nil _)) rfl (fun l hF=>?_)
  |refine OpX.bld (fun q=>AV.sl 3 (List.map z01 q)) hF rfl rfl rfl rfl rfl rfl rfl rfl rfl rfl rfl rfl rfl rfl rfl rfl (fun l hF=>?_)
  |refine IdxX.A hF fun x hF=>?_
  |refine SlsX.o z02 hF (fun l hF=>?_)
  |refine NatX.o hF (fun m hF=>?_)
  |refine EltX.o (fun q=>AV.sl 3 (List.map z01 q)) hF (fun x hF=>?_)
  |refine OpX.bldS (fun q=>AV.sl 3 (List.map z01 q)) hF rfl rfl rfl rfl rfl rfl rfl rfl rfl rfl rfl rfl rfl rfl (fun l hF=>?_)
  |refine AppX.oA hF fun l hF=>?_
  |exact ⟨_,hF,LeX.a [(7016,51)]⟩
  |refine z7z.I hF ?_ fun m v hF=>?_
  |exact LeX.a [(7016,16)]
  |refine AndA ?_
  |refine EqX.A ?_
  |exact RetX.oB hF⟩
instance y8e {n a0 a1}:CI E0 (zfn n a0 a1) false 19 [z0o a0,.sl 5 (a1.map z02)] (fun r=>.tup [aI r.1,z0d r.2.1,.agg [.sl 1 (List.map (fun q=>AV.sl 3 (List.map z01 q)) (r.2.2.1.fSets))],aI r.2.2.2]):=⟨fun {r} hF=>by
 unfold zfn at hF
 refine cw Tryz.func19 ?_
 repeat' first
  |refine AW.frbO hF 43000000 rfl rfl (fun hF=>?_)
  |refine AW.frb0 43000000 rfl rfl ?_
  |refine AW.frbO hF 11 rfl rfl (fun hF=>?_)
  |refine AW.frb0 11 rfl rfl ?_
  |refine AW.regO hF fun hF=>?_
  |refine AW.frzO hF 43000000 rfl (fun hF=>?_)
  |refine AW.frzO hF 11 rfl (fun hF=>?_)
  |refine AW.stepU [10] ?_;conv=>whnf
  |refine z12.o hF (fun hF=>?_) fun hF=>?_
  |refine z12.t ?_
  |refine z12.f ?_
  |refine z1l.I hF fun a hF=>?_
  |refine IdxX.A hF fun x hF=>?_
  |refine zak.oM (z6d 42 hF) [] [(3,43000000)] _ _ z3q z5b [] (fun a h=>ConG.up (z8b h)) (z0x Tryz.func44 rfl rfl) rfl rfl rfl trivial (fun a=>⟨rfl,rfl,rfl,rfl,rfl,rfl,rfl,rfl⟩) (fun a hF=>?_)
  |refine z1l.oM (z6d 42 hF) [] [(3,43000000)] _ _ z3q z5b [] (fun a h=>ConG.up (z8b h)) (z0x Tryz.func44 rfl rfl) rfl rfl rfl trivial (fun a=>⟨rfl,rfl,rfl,rfl,rfl,rfl,rfl,rfl⟩) (fun a hF=>?_)
  |refine AndA ?_
  |refine EqX.A ?_
  |exact RetX.oB hF⟩
set_option maxHeartbeats 400000 in
theorem ybq (l:List (Cel 1))(S:Nat->Prop)(v:Value)(w:World)(h:Sl w S 1 encC v l)(hl:l.length<=1000000000) :
  Calls Tryz.prog 35 #[v] w (zwe 57 1 encC l w):=by
 have eok:EOk Tryz.prog 29 57 1 24 (encC (n:=1)):=eokC (sz:=1) (zs2 29 _ rfl) rfl (zs2 57 _ rfl) (by omega) rfl
 obtain ⟨A,c,rfl,hc,_⟩:=h.form
 have hq:=fun (W:World)=>Lib.run_eql_slice_nil W 29 57 A l.length c 0 0 Tryz.underlying29
 have H:=hide h
 cases A with
 |none =>
  have h0:l=[]:=h.none_nil
  subst h0
  clear h H hl hc
  simp only [length_nil,Option.isNone_none] at hq ⊢
  go_enter Tryz.func35,Tryz.ntmps35
  go_wp2
  go_ret
  exact ⟨none,0,rfl,Own.nil_,by go_grown⟩
 |some ad =>
  clear h
  go_enter Tryz.func35,Tryz.ntmps35
  go_wp2_with (at_builtin;refine zax rfl _ _ rfl eok rfl Own.made_ rfl (H.out.alloc _) (by simp;omega) (by omega) (by simp) ?_;intro A' c' w1 ho hg _)
  go_ret
  exact ⟨A',c',rfl,ho,(Own.made_ (sz:=1) (enc:=encC (n:=1))).grown ((Below.refl _ _).alloc (Nat.le_refl _) _) (Nat.le_refl _) (by simp) hg⟩
theorem zwb {n a r}(hF:zay n a=some r):ConT E0 35 [.sl 1 (List.map (fun q=>AV.sl 3 (List.map z01 q)) a)] 57 1 (List.map (fun q=>AV.sl 3 (List.map z01 q)) r) (.row 0):=zjn rfl (z0x Tryz.func35 rfl rfl) ybq hF
instance ylr {n a0 a1 a2}:CI E0 (zju n a0 a1 a2) true 74 [z0o a0,.sl 5 (a1.map z02),z01 a2] aI:=⟨fun {r} hF=>by
 unfold zju at hF
 refine cw Tryz.func74 ?_
 repeat' first
  |refine AW.step ?_;conv=>whnf
  |refine z12.o hF (fun hF=>?_) fun hF=>?_
  |refine z1l.oP hF zc0 (fun u=>.tup [.nilp,aI (u.2)]) (fun u y=>.tup [.ref [aI (y.fa.fVars),aI (y.fa.fScopes),.sl 1 (y.fa.fStates.map z0q),.sl 17 (y.fa.fEdges.map z0w),.mapv (List.map (encM z1b z02) (y.fheld))],aI (u.2)]) (fun u h=>by simp only [zc0,h,zbj]) (fun u y h=>by simp only [zc0,h,zbj]) (fun a h=>ziy.h h) (fun a hF=>?_) (fun a y hF=>?_)
  |(cases hF;done)
  |refine z1l.I hF fun a hF=>?_
  |exact RetX.oB hF⟩
instance y8a {n a0 a1}:CI E0 (zde n a0 a1) true 150 [.sl 2 (a0.map z09),.sl 2 (a1.map z09)] (fun r=>.bool (r)):=by unfold zde;exact CI.w [] Tryz.func150
instance yb9 {n a0 a1}:CI E0 (zf8 n a0 a1) true 110 [z01 a0,z01 a1] (fun r=>.bool (r)):=by unfold zf8;exact CI.w [1] Tryz.func110
end
noncomputable section
abbrev zsa {n a2 a1 a0 b c d e}:=jf (z8v n a2 a1 a0 b c d e) (fun f=>⟨[(1,.sl 5 (a1.map z02)),(3,.ptr 3 0),(7,aI b),(8,.sl 3 (c.map z01)),(20,.sl 1 (List.map (fun q=>AV.sl 3 (List.map z01 q)) (a2.fSets))),(21,aI ((((List.map (fun q=>AV.sl 3 (List.map z01 q)) (a2.fSets)).length:Nat):Int))),(22,aI b),(30,.sl 3 (c.map z01)),(31,aI (((c.map z01).length:Int))),(32,aI d),(57,.bool (f))],[(3,.box 25 (z0g a0))]⟩) fun _=>z8v.eq_1 ..
abbrev zs8 {n a2 a1 a0 b c d}:=li (z6s n a2 a1 a0 b c d) (fun e=>⟨[(1,.sl 5 (a1.map z02)),(3,.ptr 3 0),(7,aI b),(8,.sl 3 (c.map z01)),(20,.sl 1 (List.map (fun q=>AV.sl 3 (List.map z01 q)) (a2.fSets))),(21,aI ((((List.map (fun q=>AV.sl 3 (List.map z01 q)) (a2.fSets)).length:Nat):Int))),(22,aI b),(30,.sl 3 (c.map z01)),(31,aI (((c.map z01).length:Int))),(32,aI e)],[(3,.box 25 (z0g a0))]⟩) fun _ _=>z6s.eq_2 ..
abbrev zs9 {n a2 a1 a0 b}:=li (zar n a2 a1 a0 b) (fun c=>⟨[(1,.sl 5 (a1.map z02)),(3,.ptr 3 0),(20,.sl 1 (List.map (fun q=>AV.sl 3 (List.map z01 q)) (a2.fSets))),(21,aI ((((List.map (fun q=>AV.sl 3 (List.map z01 q)) (a2.fSets)).length:Nat):Int))),(22,aI c)],[(3,.box 25 (z0g a0))]⟩) fun _ _=>zar.eq_2 ..
abbrev zkc {n b a1c0bc0 a0 c}:=li (z3n n b a1c0bc0 a0 c) (fun d=>⟨[(0,.sl 3 (a0.map z01)),(1,.fn 46 [.ref [.fn 77 [.ref [.sl 1 (List.map (fun q=>AV.mapv (List.map (encM aI AV.bool) q)) (a1c0bc0))]]],.ref (z10 b)]),(7,aI (((a0.map z01).length:Int))),(8,aI d)],[]⟩) fun _ _=>z3n.eq_2 ..
abbrev zkb {n b c a1c0bc0bc0 a0 d}:=li (z3m n b c a1c0bc0bc0 a0 d) (fun e=>⟨[(0,.sl 3 (a0.map z01)),(1,.fn 49 [.ref [.fn 45 [.ref [.fn 77 [.ref [.sl 1 (List.map (fun q=>AV.mapv (List.map (encM aI AV.bool) q)) (a1c0bc0bc0))]]]]],.ref [.sl 1 (List.map (fun q=>AV.sl 3 (List.map z01 q)) (c.fSets))],.ref [aI b]]),(7,aI (((a0.map z01).length:Int))),(8,aI e)],[]⟩) fun _ _=>z3m.eq_2 ..
abbrev zpv {n a2 a1 a0 b f c d e}:=jf (z4q n a2 a1 a0 b f c d e) (fun g=>⟨[(1,.sl 5 (a1.map z02)),(3,.ptr 3 0),(5,.ptr 5 0),(10,.ref [.fn 45 [.ref [.fn 77 [.ref [.sl 1 (List.map (fun q=>AV.mapv (List.map (encM aI AV.bool) q)) (b.1))]]]]]),(11,.ptr 11 0),(12,.ptr 12 0),(42,.sl 5 (a1.map z02)),(43,aI (((a1.map z02).length:Int))),(44,aI b.2),(53,.sl 3 (c.map z01)),(54,aI (((c.map z01).length:Int))),(55,aI d),(81,.bool (g))],[(3,.box 25 (z0g a0)),(5,.box 31 [.sl 1 (List.map (fun q=>AV.sl 3 (List.map z01 q)) (a2.fSets))]),(11,.box 3 [aI b.2]),(12,.box 71 (z16 f))]⟩) fun _=>z4q.eq_1 ..
abbrev zpt {n a2 a1 a0 b e c d}:=li (z3c n a2 a1 a0 b e c d) (fun f=>⟨[(1,.sl 5 (a1.map z02)),(3,.ptr 3 0),(5,.ptr 5 0),(10,.ref [.fn 45 [.ref [.fn 77 [.ref [.sl 1 (List.map (fun q=>AV.mapv (List.map (encM aI AV.bool) q)) (b.1))]]]]]),(11,.ptr 11 0),(12,.ptr 12 0),(42,.sl 5 (a1.map z02)),(43,aI (((a1.map z02).length:Int))),(44,aI b.2),(53,.sl 3 (c.map z01)),(54,aI (((c.map z01).length:Int))),(55,aI f)],[(3,.box 25 (z0g a0)),(5,.box 31 [.sl 1 (List.map (fun q=>AV.sl 3 (List.map z01 q)) (a2.fSets))]),(11,.box 3 [aI b.2]),(12,.box 71 (z16 e))]⟩) fun _ _=>z3c.eq_2 ..
abbrev zpu {n a2 a1 a0 b}:=li (z4p n a2 a1 a0 b) (fun c=>⟨[(1,.sl 5 (a1.map z02)),(3,.ptr 3 0),(5,.ptr 5 0),(10,.ref [.fn 45 [.ref [.fn 77 [.ref [.sl 1 (List.map (fun q=>AV.mapv (List.map (encM aI AV.bool) q)) (c.1))]]]]]),(42,.sl 5 (a1.map z02)),(43,aI (((a1.map z02).length:Int))),(44,aI c.2)],[(3,.box 25 (z0g a0)),(5,.box 31 [.sl 1 (List.map (fun q=>AV.sl 3 (List.map z01 q)) (a2.fSets))])]⟩) fun _ _=>z4p.eq_2 ..
abbrev zmm {n}:=jf (z7r n) (fun b=>⟨[(0,.bool (b))],[]⟩) fun _=>z7r.eq_1 ..
abbrev zmn {n b c}:=jf (z56 n b c) (fun d=>⟨[(1,.sl 5 (b.map z02)),(6,.ptr 6 0),(118,.bool (d))],[(6,.box 31 [.sl 1 (List.map (fun q=>AV.sl 3 (List.map z01 q)) (c))])]⟩) fun _=>z56.eq_1 ..
abbrev zml {n x1 x4 x7 x9 b c}:=jf (z7q n x1 x4 x7 x9 b c) (fun d=>⟨[(1,.sl 5 (x1.map z02)),(2,.ptr 2 0),(6,.ptr 6 0),(9,.ptr 9 0),(71,aI ((((List.map (fun q=>AV.sl 3 (List.map z01 q)) (x4.1.fSets)).length:Nat):Int))),(72,aI b),(95,.bool (d))],[(2,.box 31 [.sl 1 (List.map (fun q=>AV.sl 3 (List.map z01 q)) (x4.1.fSets))]),(6,.box 31 [.sl 1 (List.map (fun q=>AV.sl 3 (List.map z01 q)) (x7.2.2.1.fSets))]),(9,.box 44 (zel x9.2.1))]⟩) fun _=>z7q.eq_1 ..
attribute [instance] zsa zs8 zs9 zkc zkb zpv zpt zpu zmm zmn zml
instance y5t {n a0 a1}:CI E0 (zce n a0 a1) true 75 [z01 a0,z01 a1] aI:=by unfold zce;exact CI.w [2] Tryz.func75
instance ybb {n a0 a1 a2}:CI E0 (zcy n a0 a1 a2) true 43 [z0o a0,.sl 5 (a1.map z02),.agg [.sl 1 (List.map (fun q=>AV.sl 3 (List.map z01 q)) (a2.fSets))]] aI:=⟨fun {r} hF=>by
 unfold zcy at hF
 refine cw Tryz.func43 ?_
 repeat' first
  |refine AW.jI hF (fun v hF=>?_) fun hF=>?_
  |refine AW.regO hF fun hF=>?_
  |refine AW.stepU [14] ?_;conv=>whnf
  |refine z12.o hF (fun hF=>?_) fun hF=>?_
  |refine z12.t ?_
  |refine z12.f ?_
  |refine IdxX.o (fun q=>AV.sl 3 (List.map z01 q)) hF fun x hF=>?_
  |exact ⟨_,hF,LeX.a []⟩
  |refine IdxX.A hF fun x hF=>?_
  |refine SlsX.o z02 hF (fun l hF=>?_)
  |refine z1l.I hF fun a hF=>?_
  |refine z7z.I hF (LeX.a []) fun m v hF=>?_
  |refine AndA ?_
  |refine EqX.A ?_
  |exact RetX.oB hF⟩
instance y13 {n a0 a1bc0 a2}:CI E0 (zcn n a0 a1bc0 a2) true 46 [z01 a0,.ref [.fn 77 [.ref [.sl 1 (List.map (fun q=>AV.mapv (List.map (encM aI AV.bool) q)) (a1bc0))]]],.ref (z10 a2)] (fun r=>.bool (r)):=by unfold zcn;exact CI.w [] Tryz.func46
instance y0u {n a0 a1c0bc0 b}:CI E0 (zcl n a0 a1c0bc0 b) true 59 [.sl 3 (a0.map z01),.fn 46 [.ref [.fn 77 [.ref [.sl 1 (List.map (fun q=>AV.mapv (List.map (encM aI AV.bool) q)) (a1c0bc0))]]],.ref (z10 b)]] aI:=by unfold zcl;exact CI.w [] Tryz.func59
instance zxf {n a0 a1c0bc0 b}:CI E0 (zaz n a0 a1c0bc0 b) true 27 [.sl 3 (a0.map z01),.fn 46 [.ref [.fn 77 [.ref [.sl 1 (List.map (fun q=>AV.mapv (List.map (encM aI AV.bool) q)) (a1c0bc0))]]],.ref (z10 b)]] (fun r=>.bool (r)):=by unfold zaz;exact CI.w [] Tryz.func27
instance y4m {n a0 a1 a2bc0}:CI E0 (za6 n a0 a1 a2bc0) true 45 [.sl 3 (a0.map z01),z01 a1,.ref [.fn 77 [.ref [.sl 1 (List.map (fun q=>AV.mapv (List.map (encM aI AV.bool) q)) (a2bc0))]]]] (fun r=>.bool (r)):=⟨fun {r} hF=>by
 unfold za6 at hF
 refine cw Tryz.func45 ?_
 repeat' first
  |refine AW.step ?_;conv=>whnf
  |refine z12.o hF (fun hF=>?_) fun hF=>?_
  |refine z12.t ?_
  |refine z12.f ?_
  |refine zak.I hF (fun a hF=>?_) rfl rfl fun _=>Or.inr rfl
  |refine AndA ?_
  |refine EqX.A ?_
  |exact RetX.oB hF⟩
instance ymz {n a0 a1 a2 a3}:CI E0 (znb n a0 a1 a2 a3) false 48 [z0o a0,.sl 5 (a1.map z02),z01 a2,z02 a3] (fun r=>.tup [.sl 3 (r.1.map z01),.sl 1 (r.2.1.map z0d),aI r.2.2]):=⟨fun {r} hF=>by
 unfold znb at hF
 refine cw Tryz.func48 ?_
 repeat' first
  |refine AW.step ?_;conv=>whnf
  |refine z12.o hF (fun hF=>?_) fun hF=>?_
  |refine z12.t ?_
  |refine z12.f ?_
  |refine z1l.oP hF zc0 (fun u=>.tup [.nilp,aI (u.2)]) (fun u y=>.tup [.ref [aI (y.fa.fVars),aI (y.fa.fScopes),.sl 1 (y.fa.fStates.map z0q),.sl 17 (y.fa.fEdges.map z0w),.mapv (List.map (encM z1b z02) (y.fheld))],aI (u.2)]) (fun u h=>by simp only [zc0,h,zbj]) (fun u y h=>by simp only [zc0,h,zbj]) (fun a h=>ziy.h h) (fun a hF=>?_) (fun a y hF=>?_)
  |(cases hF;done)
  |refine z1l.I hF fun a hF=>?_
  |refine AndA ?_
  |refine EqX.A ?_
  |exact RetX.oB hF⟩
instance y4l {n a0 a1bc0bc0 a2 a3}:CI E0 (ze8 n a0 a1bc0bc0 a2 a3) true 49 [z01 a0,.ref [.fn 45 [.ref [.fn 77 [.ref [.sl 1 (List.map (fun q=>AV.mapv (List.map (encM aI AV.bool) q)) (a1bc0bc0))]]]]],.ref [.sl 1 (List.map (fun q=>AV.sl 3 (List.map z01 q)) (a2.fSets))],.ref [aI a3]] (fun r=>.bool (r)):=⟨fun {r} hF=>by
 unfold ze8 at hF
 refine cw Tryz.func49 ?_
 repeat' first
  |refine AW.step ?_;conv=>whnf
  |refine z12.o hF (fun hF=>?_) fun hF=>?_
  |refine z12.t ?_
  |refine z12.f ?_
  |refine IdxX.o (fun q=>AV.sl 3 (List.map z01 q)) hF fun x hF=>?_
  |refine z1l.I hF fun a hF=>?_
  |refine AndA ?_
  |refine EqX.A ?_
  |exact RetX.oB hF⟩
instance y0t {n a0 a1c0bc0bc0 b c}:CI E0 (zck n a0 a1c0bc0bc0 b c) true 59 [.sl 3 (a0.map z01),.fn 49 [.ref [.fn 45 [.ref [.fn 77 [.ref [.sl 1 (List.map (fun q=>AV.mapv (List.map (encM aI AV.bool) q)) (a1c0bc0bc0))]]]]],.ref [.sl 1 (List.map (fun q=>AV.sl 3 (List.map z01 q)) (b.fSets))],.ref [aI c]]] aI:=by unfold zck;exact CI.w [] Tryz.func59
instance zxe {n a0 a1c0bc0bc0 b c}:CI E0 (z8p n a0 a1c0bc0bc0 b c) true 27 [.sl 3 (a0.map z01),.fn 49 [.ref [.fn 45 [.ref [.fn 77 [.ref [.sl 1 (List.map (fun q=>AV.mapv (List.map (encM aI AV.bool) q)) (a1c0bc0bc0))]]]]],.ref [.sl 1 (List.map (fun q=>AV.sl 3 (List.map z01 q)) (b.fSets))],.ref [aI c]]] (fun r=>.bool (r)):=by unfold z8p;exact CI.w [] Tryz.func27
instance y8c {n a0 a1 a2}:CI E0 (z3a n a0 a1 a2) true 17 [z0o a0,.sl 5 (a1.map z02),.agg [.sl 1 (List.map (fun q=>AV.sl 3 (List.map z01 q)) (a2.fSets))]] aI:=⟨fun {r} hF=>by
 unfold z3a at hF
 refine cw Tryz.func17 ?_
 repeat' first
  |refine AW.frbO hF 33000000 rfl rfl (fun hF=>?_)
  |refine AW.frb0 33000000 rfl rfl ?_
  |refine AW.frbO hF 9 rfl rfl (fun hF=>?_)
  |refine AW.frb0 9 rfl rfl ?_
  |refine AW.jI hF (fun v hF=>?_) fun hF=>?_
  |refine AW.regO hF fun hF=>?_
  |refine AW.frzO hF 33000000 rfl (fun hF=>?_)
  |refine AW.frzO hF 9 rfl (fun hF=>?_)
  |refine AW.frzO hF 10 rfl (fun hF=>?_)
  |refine AW.stepU [9,18] ?_;conv=>whnf
  |refine z12.o hF (fun hF=>?_) fun hF=>?_
  |refine z12.t ?_
  |refine z12.f ?_
  |refine z1l.I hF fun a hF=>?_
  |refine zak.oM (z6d 32 hF) [] [(3,33000000)] _ _ z3q z5b [] (fun a h=>ConG.up (z8b h)) (z0x Tryz.func44 rfl rfl) rfl rfl rfl trivial (fun a=>⟨rfl,rfl,rfl,rfl,rfl,rfl,rfl,rfl⟩) (fun a hF=>?_)
  |refine z1l.oM (z6d 32 hF) [] [(3,33000000)] _ _ z3q z5b [] (fun a h=>ConG.up (z8b h)) (z0x Tryz.func44 rfl rfl) rfl rfl rfl trivial (fun a=>⟨rfl,rfl,rfl,rfl,rfl,rfl,rfl,rfl⟩) (fun a hF=>?_)
  |refine IdxX.o (fun q=>AV.sl 3 (List.map z01 q)) hF fun x hF=>?_
  |refine IdxX.A hF fun x hF=>?_
  |exact ⟨_,hF,LeX.a []⟩
  |refine SlsX.o z02 hF (fun l hF=>?_)
  |refine zak.I hF (fun a hF=>?_) rfl rfl fun _=>Or.inr rfl
  |refine z7z.I hF ?_ fun m v hF=>?_
  |exact LeX.a []
  |exact LeX.trans (LeX.frb 10 rfl rfl) (LeX.a [])
  |refine AndA ?_
  |refine EqX.A ?_
  |exact RetX.oB hF⟩
end
noncomputable section
abbrev zmk {n x1 x4 x7 x9 b}:=li (z7p n x1 x4 x7 x9 b) (fun c=>⟨[(1,.sl 5 (x1.map z02)),(2,.ptr 2 0),(6,.ptr 6 0),(9,.ptr 9 0),(71,aI ((((List.map (fun q=>AV.sl 3 (List.map z01 q)) (x4.1.fSets)).length:Nat):Int))),(72,aI c)],[(2,.box 31 [.sl 1 (List.map (fun q=>AV.sl 3 (List.map z01 q)) (x4.1.fSets))]),(6,.box 31 [.sl 1 (List.map (fun q=>AV.sl 3 (List.map z01 q)) (x7.2.2.1.fSets))]),(9,.box 44 (zel x9.2.1))]⟩) fun _ _=>z7p.eq_2 ..
abbrev zmo {n x1 x4 x7 x9}:=jf (z2g n x1 x4 x7 x9) (fun b=>⟨[(1,.sl 5 (x1.map z02)),(2,.ptr 2 0),(6,.ptr 6 0),(9,.ptr 9 0),(68,.bool (b))],[(2,.box 31 [.sl 1 (List.map (fun q=>AV.sl 3 (List.map z01 q)) (x4.1.fSets))]),(6,.box 31 [.sl 1 (List.map (fun q=>AV.sl 3 (List.map z01 q)) (x7.2.2.1.fSets))]),(9,.box 44 (zel x9.2.1))]⟩) fun _=>z2g.eq_1 ..
abbrev znf {n a1 a0 b}:=li (z8f n a1 a0 b) (fun c=>⟨[(0,.sl 3 (a0.map z01)),(1,.sl 3 (a1.map z01)),(5,aI c)],[]⟩) fun _ _=>z8f.eq_2 ..
abbrev znd {n a1 a0 b}:=li (z8d n a1 a0 b) (fun c=>⟨[(2,.ptr 2 0),(3,.ptr 3 0),(5,aI c)],[(2,.box 31 [.sl 1 (List.map (fun q=>AV.sl 3 (List.map z01 q)) (a0.fSets))]),(3,.box 31 [.sl 1 (List.map (fun q=>AV.sl 3 (List.map z01 q)) (a1.fSets))])]⟩) fun _ _=>z8d.eq_2 ..
abbrev zn0 {n a2 x2 b}:=li (z7x n a2 x2 b) (fun c=>⟨[(6,.ptr 6 0),(9,.fn 77 [.ref [.sl 1 (List.map (fun q=>AV.mapv (List.map (encM aI AV.bool) q)) (x2))]]),(10,.ptr 10 0),(24,.sl 1 (List.map (fun q=>AV.sl 3 (List.map z01 q)) (a2.fSets))),(25,aI ((((List.map (fun q=>AV.sl 3 (List.map z01 q)) (a2.fSets)).length:Nat):Int))),(26,aI c.1)],[(6,.box 31 [.nils]),(10,.box 31 [.row 7037]),(7037,.row 57 1 (List.map (fun q=>AV.sl 3 (List.map z01 q)) (c.2)))]⟩) fun _ _=>z7x.eq_2 ..
abbrev zny {n a0 b}:=li (z8j n a0 b) (fun c=>⟨[(3,aI c.1),(7,.sl 1 (List.map (fun q=>AV.sl 3 (List.map z01 q)) (a0.fSets))),(8,aI ((((List.map (fun q=>AV.sl 3 (List.map z01 q)) (a0.fSets)).length:Nat):Int))),(9,aI c.2)],[]⟩) fun _ _=>z8j.eq_2 ..
abbrev zka {n b a0 c}:=li (z3l n b a0 c) (fun d=>⟨[(0,.sl 3 (a0.map z01)),(1,.fn 28 [.ref (z10 b)]),(7,aI (((a0.map z01).length:Int))),(8,aI d)],[]⟩) fun _ _=>z3l.eq_2 ..
abbrev zgz {n}:=jf (z1j n) (fun b=>⟨[(4,.bool (b))],[]⟩) fun _=>z1j.eq_1 ..
abbrev zgw {n b c d}:=li (z1x n b c d) (fun e=>⟨[(5,.ptr 5 0),(11,aI b.2.2.1),(83,.sl 1 (List.map (fun q=>AV.sl 3 (List.map z01 q)) (b.1))),(84,aI b.2.1),(85,aI b.2.2.1),(90,.sl 3 (c.map z01)),(91,aI (((c.map z01).length:Int))),(92,aI e)],[(5,.box 31 [.sl 1 (List.map (fun q=>AV.sl 3 (List.map z01 q)) (b.2.2.2))])]⟩) fun _ _=>z1x.eq_2 ..
attribute [instance] zmk zmo    znf znd   zn0 zny zka zgz zgw
instance y4g {n}:CI E0 (z83 n) true 12 [] (fun r=>.bool (r)):=⟨fun {r} hF=>by
 unfold z83 at hF
 refine Con.env (E:=E0b) rfl rfl ?_
 refine Con.walk _ Tryz.func12 rfl (z0x Tryz.func12 rfl rfl) rfl (Or.inr rfl) ?_
 repeat' first
  |refine AW.jI hF (fun v hF=>?_) fun hF=>?_
  |refine AW.regO hF fun hF=>?_
  |refine AW.frzO hF 18 rfl (fun hF=>?_)
  |refine AW.stepU [2,5,10,13,17] ?_;conv=>whnf
  |refine z12.o hF (fun hF=>?_) fun hF=>?_
  |refine z12.t ?_
  |refine z12.f ?_
  |refine OpX.bldR z02 hF rfl rfl rfl rfl rfl rfl rfl rfl rfl rfl rfl rfl rfl rfl rfl rfl (by first|exact SubR.refl _|(repeat' first|exact SubR.nil|refine SubR.cons ?_ ?_|exact SubL.nil|refine SubL.cons ?_ ?_|exact Sub.refl _|exact Sub.nil _)) rfl (fun l hF=>?_)
  |refine OpX.bld z02 hF rfl rfl rfl rfl rfl rfl rfl rfl rfl rfl rfl rfl rfl rfl rfl rfl (fun l hF=>?_)
  |refine z1l.I hF fun a hF=>?_
  |refine SlsX.o z02 hF (fun l hF=>?_)
  |refine z1l.oR hF (fun r=>r) (fun q=>AV.sl 3 (List.map z01 q)) (fun _=>AV.row 0) rfl (fun a h=>ConT.env rfl (zwb h)) (fun a hF=>?_)
  |refine z1l.oR hF (fun r=>r) (fun q=>AV.sl 3 (List.map z01 q)) (fun _=>AV.row 0) rfl (fun a h=>ConT.sub (by repeat' first|exact Sub.nil _|exact Sub.refl _|refine Sub.agg ?_|refine Sub.tup ?_|refine Sub.fn ?_|exact SubL.nil|refine SubL.cons ?_ ?_|refine Sub.sl _ ?_|exact SubE.nil|refine SubE.cons ?_ ?_) (ConT.env rfl (zwb h))) (fun a hF=>?_)
  |refine NatX.o hF (fun m hF=>?_)
  |refine EltX.o (fun q=>AV.sl 3 (List.map z01 q)) hF (fun x hF=>?_)
  |refine SlsX.o z01 hF (fun l hF=>?_)
  |refine SetX.o (fun q=>AV.sl 3 (List.map z01 q)) hF (fun x=>rfl) (fun x=>(by first|exact SubL.refl _|(repeat' first|exact SubL.nil|refine SubL.cons ?_ ?_|exact Sub.refl _|exact Sub.nil _|refine Sub.agg ?_))) (fun l hF=>?_)
  |refine zak.I hF (fun a hF=>?_) rfl rfl fun _=>Or.inr rfl
  |exact ⟨_,hF,LeX.a []⟩
  |refine IdxX.A hF fun x hF=>?_
  |refine IdxX.o (fun q=>AV.sl 3 (List.map z01 q)) hF fun x hF=>?_
  |refine z7z.I hF (LeX.a []) fun m v hF=>?_
  |refine AndA ?_
  |refine EqX.A ?_
  |exact RetX.oB hF⟩
instance y5d {n a0 a1}:CI E0 (zc6 n a0 a1) true 41 [.sl 3 (a0.map z01),.sl 3 (a1.map z01)] (fun r=>.bool (r)):=by unfold zc6;exact CI.w [] Tryz.func41
instance y59 {n a0 a1}:CI E0 (zc4 n a0 a1) true 15 [.agg [.sl 1 (List.map (fun q=>AV.sl 3 (List.map z01 q)) (a0.fSets))],.agg [.sl 1 (List.map (fun q=>AV.sl 3 (List.map z01 q)) (a1.fSets))]] (fun r=>.bool (r)):=⟨fun {r} hF=>by
 unfold zc4 at hF
 refine cw Tryz.func15 ?_
 repeat' first
  |refine AW.step ?_;conv=>whnf
  |refine z12.o hF (fun hF=>?_) fun hF=>?_
  |refine z12.t ?_
  |refine z12.f ?_
  |refine IdxX.o (fun q=>AV.sl 3 (List.map z01 q)) hF fun x hF=>?_
  |refine z1l.I hF fun a hF=>?_
  |exact ⟨_,hF,LeX.a []⟩
  |refine z7z.I hF (LeX.a []) fun m v hF=>?_
  |refine AndA ?_
  |refine EqX.A ?_
  |exact RetX.oB hF⟩
instance y4o {n a0 a1 a2}:CI E0 (z85 n a0 a1 a2) false 24 [z0o a0,.sl 5 (a1.map z02),.agg [.sl 1 (List.map (fun q=>AV.sl 3 (List.map z01 q)) (a2.fSets))]] (fun r=>.tup [.agg [.sl 1 (List.map (fun q=>AV.sl 3 (List.map z01 q)) (r.1.fSets))],aI r.2]):=⟨fun {r} hF=>by
 unfold z85 at hF
 refine cw Tryz.func24 ?_
 repeat' first
  |refine AW.regO hF fun hF=>?_
  |refine AW.frzO hF 23000000 rfl (fun hF=>?_)
  |refine AW.stepU [9] ?_;conv=>whnf
  |refine z12.o hF (fun hF=>?_) fun hF=>?_
  |refine z12.t ?_
  |refine z12.f ?_
  |refine z1l.I hF fun a hF=>?_
  |refine zak.oM (z6d 22 hF) [] [(3,23000000)] _ _ z3q z5b [] (fun a h=>ConG.up (z8b h)) (z0x Tryz.func44 rfl rfl) rfl rfl rfl trivial (fun a=>⟨rfl,rfl,rfl,rfl,rfl,rfl,rfl,rfl⟩) (fun a hF=>?_)
  |refine z1l.oM (z6d 22 hF) [] [(3,23000000)] _ _ z3q z5b [] (fun a h=>ConG.up (z8b h)) (z0x Tryz.func44 rfl rfl) rfl rfl rfl trivial (fun a=>⟨rfl,rfl,rfl,rfl,rfl,rfl,rfl,rfl⟩) (fun a hF=>?_)
  |refine IdxX.o (fun q=>AV.sl 3 (List.map z01 q)) hF fun x hF=>?_
  |refine AppX.oA hF fun l hF=>?_
  |exact ⟨_,hF,LeX.a [(7037,37)]⟩
  |refine z7z.I hF ?_ fun m v hF=>?_
  |exact LeX.trans (LeX.frb 23000000 rfl rfl) (LeX.trans (LeX.adoptC 10 0 7037 57 1 31 _ rfl rfl rfl) (LeX.a []))
  |refine AndA ?_
  |refine EqX.A ?_
  |exact RetX.oB hF⟩
instance y5p {n a0}:CI E0 (zao n a0) true 26 [.agg [.sl 1 (List.map (fun q=>AV.sl 3 (List.map z01 q)) (a0.fSets))]] aI:=⟨fun {r} hF=>by
 unfold zao at hF
 refine cw Tryz.func26 ?_
 repeat' first
  |refine AW.step ?_;conv=>whnf
  |refine z12.o hF (fun hF=>?_) fun hF=>?_
  |refine z12.t ?_
  |refine z12.f ?_
  |refine IdxX.o (fun q=>AV.sl 3 (List.map z01 q)) hF fun x hF=>?_
  |exact ⟨_,hF,LeX.a []⟩
  |refine z7z.I hF (LeX.a []) fun m v hF=>?_
  |refine AndA ?_
  |refine EqX.A ?_
  |exact RetX.oB hF⟩
def zhf (r:Bool):AV:=.bool (r)
theorem zgv {n a0 a1 r}(hF:z62 n a0 a1=some r):Con E0 true 28 [z01 a0,.ref (z10 a1)] (.bool (r)):=by
 unfold z62 at hF
 refine cw Tryz.func28 ?_
 repeat' first
  |refine AW.step ?_;conv=>whnf
  |refine z12.o hF (fun hF=>?_) fun hF=>?_
  |refine z12.t ?_
  |refine z12.f ?_
  |refine z1l.I hF fun a hF=>?_
  |refine AndA ?_
  |refine EqX.A ?_
  |exact RetX.oB hF
instance y0s {n a0 b}:CI E0 (zcj n a0 b) true 59 [.sl 3 (a0.map z01),.fn 28 [.ref (z10 b)]] aI:=⟨fun {r} hF=>by
 unfold zcj at hF
 refine cw Tryz.func59 ?_
 repeat' first
  |refine AW.step ?_;conv=>whnf
  |refine z12.o hF (fun hF=>?_) fun hF=>?_
  |refine z12.t ?_
  |refine z12.f ?_
  |refine IdxX.A hF fun x hF=>?_
  |refine z1l.o hF zhf (fun a h=>zgv h) (fun a hF=>?_)
  |exact ⟨_,hF,LeX.a []⟩
  |refine z7z.I hF (LeX.a []) fun m v hF=>?_
  |refine AndA ?_
  |refine EqX.A ?_
  |exact RetX.oB hF⟩
instance zxd {n a0 b}:CI E0 (z8o n a0 b) true 27 [.sl 3 (a0.map z01),.fn 28 [.ref (z10 b)]] (fun r=>.bool (r)):=by unfold z8o;exact CI.w [] Tryz.func27
end
noncomputable section
abbrev zgx {n c}:=li (z1i n c) (fun b=>⟨[(5,.ptr 5 0),(83,.sl 1 (List.map (fun q=>AV.sl 3 (List.map z01 q)) (b.1))),(84,aI b.2.1),(85,aI b.2.2.1)],[(5,.box 31 [.sl 1 (List.map (fun q=>AV.sl 3 (List.map z01 q)) (b.2.2.2))])]⟩) fun _ _=>z1i.eq_2 ..
abbrev zgy {n x3 x7}:=jf (z0z n x3 x7) (fun b=>⟨[(5,.ptr 5 0),(7,.ptr 7 0),(81,.bool (b))],[(5,.box 31 [.sl 1 (List.map (fun q=>AV.sl 3 (List.map z01 q)) (x3.1.fSets))]),(7,.box 31 [.sl 1 (List.map (fun q=>AV.sl 3 (List.map z01 q)) (x7.1.fSets))])]⟩) fun _=>z0z.eq_1 ..
attribute [instance] zgx zgy       
theorem zhe {n a0 a1 r}(hF:z7c n a0 a1=some r):Con E0 true 10 [z0o a0,.sl 5 (a1.map z02)] (.bool (r)):=by
 unfold z7c at hF
 refine cw Tryz.func10 ?_
 repeat' first
  |refine AW.jI hF (fun v hF=>?_) fun hF=>?_
  |refine AW.regO hF fun hF=>?_
  |refine AW.stepU [5,8] ?_;conv=>whnf
  |refine z12.o hF (fun hF=>?_) fun hF=>?_
  |refine z12.t ?_
  |refine z12.f ?_
  |refine z1l.I hF fun a hF=>?_
  |exact ⟨_,hF,LeX.a []⟩
  |refine IdxX.o (fun q=>AV.sl 3 (List.map z01 q)) hF fun x hF=>?_
  |refine IdxX.A hF fun x hF=>?_
  |refine zak.I hF (fun a hF=>?_) rfl rfl fun _=>Or.inr rfl
  |refine z7z.I hF (LeX.a []) fun m v hF=>?_
  |refine AndA ?_
  |refine EqX.A ?_
  |exact RetX.oB hF
end
section
variable {α:Type} {c:α->α->Int}
theorem TO.asym (h:TO c){a b:α}(k:c a b<0):¬c b a<0:=by have:=h.neg a b;omega
theorem TO.lt_ne (h:TO c){a b:α}(k:c a b<0):a≠b:=fun e=>by subst e;exact h.irr _ k
def Str (c:α->α->Int)(l:List α):Prop:=l.Pairwise (fun x y=>c x y<0)
theorem Str.uniq (h:TO c):∀ {l m:List α},Str c l->Str c m->(∀ x,x∈l ↔ x∈m)->l=m
 |[],[],_,_,_=>rfl
 |[],y::m,_,_,hm=>by have:=(hm y).2 (by simp);simp at this
 |x::l,[],_,_,hm=>by have:=(hm x).1 (by simp);simp at this
 |x::l,y::m,h1,h2,hm=>by
  obtain ⟨a1,a2⟩:=pairwise_cons.1 h1
  obtain ⟨b1,b2⟩:=pairwise_cons.1 h2
  have hxy:x=y:=by
   rcases mem_cons.1 ((hm x).1 (by simp)) with e|e
   ·exact e
   ·rcases mem_cons.1 ((hm y).2 (by simp)) with e'|e'
    ·exact e'.symm
    ·exact absurd (a1 y e') (h.asym (b1 x e))
  subst hxy
  congr 1
  refine Str.uniq h a2 b2 (fun z=>⟨fun hz=>?_,fun hz=>?_⟩)
  ·rcases mem_cons.1 ((hm z).1 (mem_cons_of_mem _ hz)) with e|e
   ·exact absurd e.symm (h.lt_ne (a1 z hz))
   ·exact e
  ·rcases mem_cons.1 ((hm z).2 (mem_cons_of_mem _ hz)) with e|e
   ·exact absurd e.symm (h.lt_ne (b1 z hz))
   ·exact e
def insU (c:α->α->Int)(x:α):List α->List α
 |[]=>[x]
 |y::l=>if c y x<0 then y::insU c x l else if c y x=0 then y::l else x::y::l
theorem zty (h:TO c)(x z:α):∀ l:List α,z∈insU c x l ↔ z=x\/z∈l
 |[]=>by simp [insU]
 |y::l=>by
  unfold insU
  split
  ·simp only [mem_cons,zty h x z l]
   constructor
   ·rintro (h|h|h)<;>simp [h]
   ·rintro (h|h|h)<;>simp [h]
  ·split
   ·rename_i e
    have:=(h.zero _ _).1 e
    subst this
    simp only [mem_cons]
    constructor
    ·intro k;exact Or.inr k
    ·rintro (k|k)
     ·exact Or.inl k
     ·exact k
   ·simp only [mem_cons]
theorem ydr (h:TO c)(x:α):∀ l:List α,Str c l->Str c (insU c x l)
 |[],_=>by simp [insU,Str]
 |y::l,hl=>by
  obtain ⟨h1,h2⟩:=pairwise_cons.1 hl
  unfold insU
  split
  ·rename_i k
   refine pairwise_cons.2 ⟨fun z hz=>?_,ydr h x l h2⟩
   rcases (zty h x z l).1 hz with e|e
   ·rw [e];exact k
   ·exact h1 z e
  ·split
   ·exact hl
   ·rename_i k1 k2
    have k3:c x y<0:=by have:=h.neg y x;have:=h.one y x;omega
    refine pairwise_cons.2 ⟨fun z hz=>?_,hl⟩
    rcases mem_cons.1 hz with e|e
    ·rw [e];exact k3
    ·exact h.trans _ _ _ k3 (h1 z e)
theorem zod (c:α->α->Int)(x:α):∀ l:List α,(insU c x l).length<=l.length+1
 |[]=>by simp [insU]
 |y::l=>by
  unfold insU
  have:=zod c x l
  split
  ·simp only [length_cons];omega
  ·split<;>simp only [length_cons]<;>omega
def puts (c:α->α->Int)(s:List α)(l:List α):List α:=l.foldl (fun s x=>insU c x s) s
def setL (c:α->α->Int)(l:List α):List α:=puts c [] l
theorem zia (s:List α)(x:α)(l:List α):puts c s (x::l)=puts c (insU c x s) l:=rfl
theorem zob (s l m:List α):puts c s (l++m)=puts c (puts c s l) m:=by simp [puts,foldl_append]
theorem zrp (h:TO c)(z:α):∀ (l s:List α),z∈puts c s l ↔ z∈s\/z∈l
 |[],s=>by simp [puts]
 |x::l,s=>by
  rw [zia,zrp h z l,zty h]
  simp only [mem_cons]
  constructor
  ·rintro ((k|k)|k)<;>simp [k]
  ·rintro (k|k|k)<;>simp [k]
theorem ych (h:TO c):∀ (l s:List α),Str c s->Str c (puts c s l)
 |[],_,hs=>hs
 |x::l,s,hs=>by rw [zia];exact ych h l _ (ydr h x s hs)
theorem zx0:∀ (l s:List α),(puts c s l).length<=s.length+l.length
 |[],s=>by simp [puts]
 |x::l,s=>by
  rw [zia]
  have:=zx0 l (insU c x s)
  have:=zod c x s
  simp only [length_cons];omega
theorem zh9 (h:TO c)(z:α)(l:List α):z∈setL c l ↔ z∈l:=by unfold setL;rw [zrp h];simp
theorem zo3 (h:TO c)(l:List α):Str c (setL c l):=ych h l [] (by simp [Str])
theorem zwx (l:List α):(setL c l).length<=l.length:=by have:=zx0 (c:=c) l [];simpa [setL] using this
theorem ygf (h:TO c){l m:List α}(hm:∀ x,x∈l ↔ x∈m):setL c l=setL c m:=Str.uniq h (zo3 h l) (zo3 h m) (fun x=>by rw [zh9 h,zh9 h,hm])
theorem y9n (h:TO c){l:List α}(hl:Str c l):setL c l=l:=Str.uniq h (zo3 h l) hl (fun x=>zh9 h x l)
variable [DecidableEq α]
def ddA (p:α):List α->List α
 |[]=>[]
 |y::l=>if y=p then ddA p l else y::ddA y l
def dd:List α->List α
 |[]=>[]
 |x::l=>x::ddA x l
theorem y3s (p z:α):∀ l:List α,ddA p (l++[z])=ddA p l++(if z=(p::l).getLast (by simp) then [] else [z])
 |[]=>by by_cases h:z=p<;>simp [ddA,h]
 |y::l=>by
  have e:(p::y::l).getLast (by simp)=(y::l).getLast (by simp):=by rw [getLast_cons (by simp)]
  simp only [cons_append,ddA]
  rw [e]
  by_cases h:y=p
  ·subst h
   rw [if_pos rfl,if_pos rfl,y3s y z l]
  ·rw [if_neg h,if_neg h,y3s y z l]
   rfl
theorem zqk (l:List α)(z:α)(h:l≠[]):dd (l++[z])=dd l++(if z=l.getLast h then [] else [z]):=by
 cases l with
 |nil=>exact absurd rfl h
 |cons x l =>
  show x::ddA x (l++[z])=_
  rw [y3s]
  rfl
theorem yb3 (x:α):∀ (l:List α) (p:α),x∈ddA p l\/x=p ↔ x∈l\/x=p
 |[],p=>by simp [ddA]
 |y::l,p=>by
  unfold ddA
  split
  ·rename_i h
   subst h
   rw [yb3 x l y]
   simp only [mem_cons]
   constructor
   ·rintro (k|k)<;>simp [k]
   ·rintro ((k|k)|k)<;>simp [k]
  ·have:=yb3 x l y
   simp only [mem_cons]
   constructor
   ·rintro ((k|k)|k)
    ·exact Or.inl (Or.inl k)
    ·rcases this.1 (Or.inl k) with q|q
     ·exact Or.inl (Or.inr q)
     ·exact Or.inl (Or.inl q)
    ·exact Or.inr k
   ·rintro ((k|k)|k)
    ·exact Or.inl (Or.inl k)
    ·rcases this.2 (Or.inl k) with q|q
     ·exact Or.inl (Or.inr q)
     ·exact Or.inl (Or.inl q)
    ·exact Or.inr k
theorem yre (x:α)(l:List α):x∈dd l ↔ x∈l:=by
 cases l with
 |nil=>simp [dd]
 |cons y l =>
  simp only [dd,mem_cons]
  have:=yb3 x l y
  constructor
  ·rintro (k|k)
   ·exact Or.inl k
   ·rcases this.1 (Or.inl k) with q|q
    ·exact Or.inr q
    ·exact Or.inl q
  ·rintro (k|k)
   ·exact Or.inl k
   ·rcases this.2 (Or.inl k) with q|q
    ·exact Or.inr q
    ·exact Or.inl q
theorem yb2 (h:TO c):∀ (l:List α) (p:α),(p::l).Pairwise (fun x y=>ltOf c y x=false)->Str c (p::ddA p l)
 |[],p,_=>by simp [ddA,Str]
 |y::l,p,hl=>by
  obtain ⟨h1,h2⟩:=pairwise_cons.1 hl
  have hle:∀ z,z∈y::l->¬c z p<0:=fun z hz=>of_decide_eq_false (h1 z hz)
  unfold ddA
  split
  ·rename_i e
   refine yb2 h l p (pairwise_cons.2 ⟨fun z hz=>h1 z (mem_cons_of_mem _ hz),(pairwise_cons.1 h2).2⟩)
  ·rename_i e
   have ih:=yb2 h l y h2
   have hpy:c p y<0:=by
    rcases h.tri p y with k|k|k
    ·exact k
    ·exact absurd k.symm e
    ·exact absurd k (hle y (by simp))
   refine pairwise_cons.2 ⟨fun z hz=>?_,ih⟩
   rcases mem_cons.1 hz with k|k
   ·rw [k];exact hpy
   ·exact h.trans _ _ _ hpy ((pairwise_cons.1 ih).1 z k)
theorem yiv (h:TO c)(l:List α):dd (zwh c l)=setL c l:=by
 have hs:=zq7 h.swo l
 refine Str.uniq h ?_ (zo3 h l) (fun x=>by rw [yre,zh9 h];exact (zhx c l).mem_iff)
 cases hq:zwh c l with
 |nil=>simp [dd,Str]
 |cons x q=>rw [hq] at hs;exact yb2 h q x hs
end
end Go.Proofs.YtidhlpjgifoneaaGreat
