/- What some functions compute, over plain values. -/
import Derived.Test.YtidhlpjgifoneaaGreatK27
set_option linter.unusedVariables false
set_option linter.unusedSimpArgs false
set_option maxRecDepth 100000
set_option maxHeartbeats 8000000
namespace Go.Proofs.YtidhlpjgifoneaaGreat
open Go.RowKit List
noncomputable section
abbrev z83 {n d a b}:=li (Ql n d a b) (fun c=>⟨[(1,.sl 2 (d.map Ae)),(2,.fn 79 []),(15,.sl 2 (a.map Ae)),(16,aI (((a.map Ae).length:Int))),(17,aI c)],[]⟩) fun _ _=>Ql.eq_2 ..
abbrev z9c {n d a b}:=li (Lx n d a b) (fun c=>⟨[(1,.mapv (List.map (encM aI AV.bool) (d))),(5,.row 7022),(9,.sl 4 (a.fBindings.map Aq)),(10,aI (((a.fBindings.map Aq).length:Int))),(11,aI c.1)],[(7022,.row 76 4 (c.2.map Aq))]⟩) fun _ _=>Lx.eq_2 ..
abbrev zb3 {n d a b}:=li (R9 n d a b) (fun c=>⟨[(0,.sl 4 (a.map Aq)),(1,.sl 4 (d.map Aq)),(12,aI (((a.map Aq).length:Int))),(13,aI c)],[]⟩) fun _ _=>R9.eq_2 ..
abbrev z2k {n}:=jf (Hv n) (fun b=>⟨[(5,.bool (b))],[]⟩) fun _=>Hv.eq_1 ..
abbrev z3l {n d a b g c e f}:=jf (Gg n d a b g c e f) (fun h=>⟨[(0,.sl 3 (a.map A4)),(1,.fn 77 [.ref [.sl 1 (List.map (fun q=>AV.mapv (List.map (encM aI AV.bool) q)) (d))]]),(5,.row 7053),(6,aI b.1),(7,.ptr 7 0),(8,aI ((-1))),(9,aI c),(11,.sl 3 (a.map A4)),(12,aI (((a.map A4).length:Int))),(13,aI b.1),(18,.sl 3 (a.map A4)),(19,aI (((a.map A4).length:Int))),(20,aI c),(45,.bool (h))],[(7,.box 60 (Bi g)),(7053,.row 60 3 (b.2.map A4))]⟩) fun _=>Gg.eq_1 ..
abbrev z3j {n c a b e d}:=li (Fm n c a b e d) (fun f=>⟨[(0,.sl 3 (a.map A4)),(1,.fn 77 [.ref [.sl 1 (List.map (fun q=>AV.mapv (List.map (encM aI AV.bool) q)) (c))]]),(5,.row 7053),(6,aI b.1),(7,.ptr 7 0),(8,aI ((-1))),(11,.sl 3 (a.map A4)),(12,aI (((a.map A4).length:Int))),(13,aI b.1),(18,.sl 3 (a.map A4)),(19,aI (((a.map A4).length:Int))),(20,aI f)],[(7,.box 60 (Bi e)),(7053,.row 60 3 (b.2.map A4))]⟩) fun _ _=>Fm.eq_2 ..
abbrev z3k {n b a c}:=li (Gf n b a c) (fun d=>⟨[(0,.sl 3 (a.map A4)),(1,.fn 77 [.ref [.sl 1 (List.map (fun q=>AV.mapv (List.map (encM aI AV.bool) q)) (b))]]),(5,.row 7053),(11,.sl 3 (a.map A4)),(12,aI (((a.map A4).length:Int))),(13,aI d.1)],[(7053,.row 60 3 (d.2.map A4))]⟩) fun _ _=>Gf.eq_2 ..
abbrev z3i {n a2c0bc0 a d b}:=li (Ov n a2c0bc0 a d b) (fun c=>⟨[(1,.sl 5 (a.map A7)),(2,.fn 52 [.ref [.fn 77 [.ref [.sl 1 (List.map (fun q=>AV.mapv (List.map (encM aI AV.bool) q)) (a2c0bc0))]]]]),(3,.ptr 3 0),(8,.row 7016),(17,.sl 5 (a.map A7)),(18,aI (((a.map A7).length:Int))),(19,aI c.1)],[(3,.box 25 (Ba d)),(7016,.row 57 1 (List.map (fun q=>AV.sl 3 (List.map A4 q)) (c.2)))]⟩) fun _ _=>Ov.eq_2 ..
abbrev z7g {n d a b}:=li (X1 n d a b) (fun c=>⟨[(0,.sl 2 (a.map Ae)),(1,.sl 2 (d.map Ae)),(12,aI (((a.map Ae).length:Int))),(13,aI c)],[]⟩) fun _ _=>X1.eq_2 ..
abbrev z9b {n}:=jf (Lw n) (fun b=>⟨[(4,.bool (b))],[]⟩) fun _=>Lw.eq_1 ..
abbrev z6a {n c a}:=jf (Pv n c a) (fun b=>⟨[(2,.ptr 2 0),(5,.sl 3 (a.1.map A4)),(14,.bool (b))],[(2,.box 60 (Bi c))]⟩) fun _=>Pv.eq_1 ..
attribute [instance] z83 z9c zb3 z2k z3l z3j z3k z3i z7g z9b z6a
instance ze0 {n b a}:CI E0 (T9 n b a) true 79 [Ae b,Ae a] (fun r=>.bool (r)):=by unfold T9;exact CI.w [1] Tryz.func79
instance zn7 {n b a}:CI E0 (Uw n b a) true 78 [.sl 2 (b.map Ae),.sl 2 (a.map Ae),.fn 79 []] (fun r=>.bool (r)):=by unfold Uw;exact CI.w [] Tryz.func78
instance zp4 {n d c}:CI E0 (Rc n d c) false 81 [A4 d,.mapv (List.map (encM aI AV.bool) (c))] (fun r=>.sl 4 (r.map Aq)):=⟨fun {r} a=>by
 unfold Rc at a;refine cw Tryz.func81 ?_;repeat' first
  |refine AW.regO a fun a=>?_
  |refine AW.stepU [5] ?_;conv=>whnf
  |refine A9.o a (fun a=>?_) fun a=>?_
  |refine A9.t ?_
  |refine A9.f ?_
  |refine IdxX.A a fun x a=>?_
  |refine OpX.lkv aI AV.bool a y4y rfl rfl rfl rfl rfl rfl rfl rfl rfl rfl (by first|rfl|kernel_rfl) (by repeat' first|exact Sub.nil _|exact Sub.refl _|refine Sub.agg ?_|refine Sub.tup ?_|refine Sub.fn ?_|exact SubL.nil|refine SubL.cons ?_ ?_|refine Sub.sl _ ?_|exact SubE.nil|refine SubE.cons ?_ ?_) (fun v b a=>?_)
  |refine AppX.oA a fun l a=>?_
  |exact ⟨_,a,LeX.a [(7022,22)]⟩
  |exact ⟨_,a,LeX.a []⟩
  |refine Ax.I a ?_ fun m v a=>?_
  |exact LeX.trans (LeX.adopt 5 7022 76 4 rfl rfl) (LeX.a [])
  |refine AndA ?_
  |refine EqX.A ?_
  |exact RetX.oB a⟩
instance zt6 {n b a}:CI E0 (Ro n b a) true 80 [.sl 4 (b.map Aq),.sl 4 (a.map Aq)] (fun r=>.bool (r)):=by unfold Ro;exact CI.w [] Tryz.func80
instance zfg {n e d c}:CI E0 (Kz n e d c) true 77 [A4 e,A4 d,.ref [.sl 1 (List.map (fun q=>AV.mapv (List.map (encM aI AV.bool) q)) (c))]] (fun r=>.bool (r)):=⟨fun {r} b=>by
 unfold Kz at b;refine cw Tryz.func77 ?_;repeat' first
  |refine AW.jI b (fun v b=>?_) fun b=>?_
  |refine AW.regO b fun b=>?_
  |refine AW.stepU [1] ?_;conv=>whnf
  |refine A9.o b (fun b=>?_) fun b=>?_
  |refine A9.t ?_
  |refine A9.f ?_
  |refine Ad.I b fun a b=>?_
  |refine IdxX.o (fun q=>AV.mapv (List.map (encM aI AV.bool) q)) b fun x b=>?_
  |exact ⟨_,b,LeX.a []⟩
  |refine AndA ?_
  |refine EqX.A ?_
  |exact RetX.oB b⟩
instance zh2 {n d b}:CI E0 (Tu n d b) false 53 [.sl 3 (d.map A4),.fn 77 [.ref [.sl 1 (List.map (fun q=>AV.mapv (List.map (encM aI AV.bool) q)) (b))]]] (fun r=>.sl 3 (r.map A4)):=⟨fun {r} c=>by
 unfold Tu at c;refine cw Tryz.func53 ?_;repeat' first
  |refine AW.jI c (fun v c=>?_) fun c=>?_
  |refine AW.regO c fun c=>?_
  |refine AW.stepU [9,12] ?_;conv=>whnf
  |refine A9.o c (fun c=>?_) fun c=>?_
  |refine A9.t ?_
  |refine A9.f ?_
  |refine IdxX.A c fun x c=>?_
  |refine AppX.oA c fun l c=>?_
  |exact ⟨_,c,LeX.a [(7053,53)]⟩
  |exact ⟨_,c,LeX.a []⟩
  |refine Ad.I c fun a c=>?_
  |refine Ax.I c ?_ fun m v c=>?_
  |exact LeX.a []
  |exact LeX.trans (LeX.adopt 5 7053 60 3 rfl rfl) (LeX.a [])
  |refine AndA ?_
  |refine EqX.A ?_
  |exact RetX.oB c⟩
instance ziq {n a a1bc0}:CI E0 (Xc n a a1bc0) false 52 [.sl 3 (a.map A4),.ref [.fn 77 [.ref [.sl 1 (List.map (fun q=>AV.mapv (List.map (encM aI AV.bool) q)) (a1bc0))]]]] (fun r=>.sl 3 (r.map A4)):=by unfold Xc;exact CI.w [] Tryz.func52
instance zh1 {n d c a2c0bc0}:CI E0 (Tt n d c a2c0bc0) false 37 [Bm d,.sl 5 (c.map A7),.fn 52 [.ref [.fn 77 [.ref [.sl 1 (List.map (fun q=>AV.mapv (List.map (encM aI AV.bool) q)) (a2c0bc0))]]]]] (fun r=>.tup [.sl 1 (List.map (fun q=>AV.sl 3 (List.map A4 q)) (r.1)),aI r.2]):=⟨fun {r} b=>by
 unfold Tt at b;refine Con.env (E:=E0b) rfl rfl ?_;refine Con.walk _ Tryz.func37 rfl (Aw Tryz.func37 rfl rfl) rfl (Or.inl rfl) ?_;repeat' first
  |refine AW.step ?_;conv=>whnf
  |refine A9.o b (fun b=>?_) fun b=>?_
  |refine A9.t ?_
  |refine A9.f ?_
  |refine Ad.I b fun a b=>?_
  |refine OpX.bldS A4 b rfl rfl rfl rfl rfl rfl rfl rfl rfl rfl rfl rfl rfl rfl (fun l b=>?_)
  |refine OpX.bldR (fun q=>AV.sl 3 (List.map A4 q)) b rfl rfl rfl rfl rfl rfl rfl rfl rfl rfl rfl rfl rfl rfl rfl rfl (by first|exact SubR.refl _|(repeat' first|exact SubR.nil|refine SubR.cons ?_ ?_|exact SubL.nil|refine SubL.cons ?_ ?_|exact Sub.refl _|exact Sub.nil _)) rfl (fun l b=>?_)
  |refine OpX.bld (fun q=>AV.sl 3 (List.map A4 q)) b rfl rfl rfl rfl rfl rfl rfl rfl rfl rfl rfl rfl rfl rfl rfl rfl (fun l b=>?_)
  |refine IdxX.A b fun x b=>?_
  |refine SlsX.o A7 b (fun l b=>?_)
  |refine NatX.o b (fun m b=>?_)
  |refine EltX.o (fun q=>AV.sl 3 (List.map A4 q)) b (fun x b=>?_)
  |refine OpX.bldS (fun q=>AV.sl 3 (List.map A4 q)) b rfl rfl rfl rfl rfl rfl rfl rfl rfl rfl rfl rfl rfl rfl (fun l b=>?_)
  |refine AppX.oA b fun l b=>?_
  |exact ⟨_,b,LeX.a [(7016,51)]⟩
  |refine Ax.I b ?_ fun m v b=>?_
  |exact LeX.a [(7016,16)]
  |refine AndA ?_
  |refine EqX.A ?_
  |exact RetX.oB b⟩
instance zmc {n d c}:CI E0 (Eh n d c) false 19 [Bm d,.sl 5 (c.map A7)] (fun r=>.tup [aI r.1,Ap r.2.1,.agg [.sl 1 (List.map (fun q=>AV.sl 3 (List.map A4 q)) (r.2.2.1.fSets))],aI r.2.2.2]):=⟨fun {r} b=>by
 unfold Eh at b;refine cw Tryz.func19 ?_;repeat' first
  |refine AW.frbO b 43000000 rfl rfl (fun b=>?_)
  |refine AW.frb0 43000000 rfl rfl ?_
  |refine AW.frbO b 11 rfl rfl (fun b=>?_)
  |refine AW.frb0 11 rfl rfl ?_
  |refine AW.regO b fun b=>?_
  |refine AW.frzO b 43000000 rfl (fun b=>?_)
  |refine AW.frzO b 11 rfl (fun b=>?_)
  |refine AW.stepU [10] ?_;conv=>whnf
  |refine A9.o b (fun b=>?_) fun b=>?_
  |refine A9.t ?_
  |refine A9.f ?_
  |refine Ad.I b fun a b=>?_
  |refine IdxX.A b fun x b=>?_
  |refine B7.oM (Bj 42 b) [] [(3,43000000)] _ _ Ll Qc [] (fun a h=>ConG.up (Wx h)) (Aw Tryz.func44 rfl rfl) rfl rfl rfl trivial (fun a=>⟨rfl,rfl,rfl,rfl,rfl,rfl,rfl,rfl⟩) (fun a b=>?_)
  |refine Ad.oM (Bj 42 b) [] [(3,43000000)] _ _ Ll Qc [] (fun a h=>ConG.up (Wx h)) (Aw Tryz.func44 rfl rfl) rfl rfl rfl trivial (fun a=>⟨rfl,rfl,rfl,rfl,rfl,rfl,rfl,rfl⟩) (fun a b=>?_)
  |refine AndA ?_
  |refine EqX.A ?_
  |exact RetX.oB b⟩
set_option maxHeartbeats 400000 in
theorem zpl (l:List (Cel 1))(S:Nat->Prop)(v:Value)(w:World)(h:Sl w S 1 encC v l)(d:l.length<=1000000000) :
  Calls Tryz.prog 35 #[v] w (Jg 57 1 encC l w):=by
 have eok:EOk Tryz.prog 29 57 1 24 (encC (n:=1)):=eokC (sz:=1) (De 29 _ rfl) rfl (De 57 _ rfl) (by omega) rfl;obtain ⟨A,c,rfl,f,_⟩:=h.form;have a:=fun (W:World)=>Lib.run_eql_slice_nil W 29 57 A l.length c 0 0 Tryz.underlying29
 have H:=hide h;cases A with
 |none =>
  have g:l=[]:=h.none_nil;subst g;clear h H d f;simp only [length_nil,Option.isNone_none] at a ⊢
  go_enter Tryz.func35,Tryz.ntmps35
  go_wp2
  go_ret
  exact ⟨none,0,rfl,Own.nil_,by go_grown⟩
 |some ad =>
  clear h
  go_enter Tryz.func35,Tryz.ntmps35
  go_wp2_with (at_builtin;refine Iy rfl _ _ rfl eok rfl Own.made_ rfl (H.out.alloc _) (by simp;omega) (by omega) (by simp) ?_;intro A' i w1 b e _)
  go_ret
  exact ⟨A',i,rfl,b,(Own.made_ (sz:=1) (enc:=encC (n:=1))).grown ((Below.refl _ _).alloc (Nat.le_refl _) _) (Nat.le_refl _) (by simp) e⟩
theorem zbz {n a r}(b:Ce n a=some r):ConT E0 35 [.sl 1 (List.map (fun q=>AV.sl 3 (List.map A4 q)) a)] 57 1 (List.map (fun q=>AV.sl 3 (List.map A4 q)) r) (.row 0):=N4 rfl (Aw Tryz.func35 rfl rfl) zpl b
instance zzd {n e d c}:CI E0 (zai n e d c) true 74 [Bm e,.sl 5 (d.map A7),A4 c] aI:=⟨fun {r} b=>by
 unfold zai at b;refine cw Tryz.func74 ?_;repeat' first
  |refine AW.step ?_;conv=>whnf
  |refine A9.o b (fun b=>?_) fun b=>?_
  |refine Ad.oP b Ei (fun u=>.tup [.nilp,aI (u.2)]) (fun u y=>.tup [.ref [aI (y.fa.fVars),aI (y.fa.fScopes),.sl 1 (y.fa.fStates.map Bb),.sl 17 (y.fa.fEdges.map B5),.mapv (List.map (encM Bf A7) (y.fheld))],aI (u.2)]) (fun u h=>by simp only [Ei,h,G4]) (fun u y h=>by simp only [Ei,h,G4]) (fun a h=>Y3.h h) (fun a b=>?_) (fun a y b=>?_)
  |(cases b;done)
  |refine Ad.I b fun a b=>?_
  |exact RetX.oB b⟩
instance zm9 {n b a}:CI E0 (z0n n b a) true 150 [.sl 2 (b.map Ae),.sl 2 (a.map Ae)] (fun r=>.bool (r)):=by unfold z0n;exact CI.w [] Tryz.func150
instance zp3 {n b a}:CI E0 (z11 n b a) true 110 [A4 b,A4 a] (fun r=>.bool (r)):=by unfold z11;exact CI.w [1] Tryz.func110
end
noncomputable section
abbrev z9f {n a g h b c d e}:=jf (Qw n a g h b c d e) (fun f=>⟨[(1,.sl 5 (g.map A7)),(3,.ptr 3 0),(7,aI b),(8,.sl 3 (c.map A4)),(20,.sl 1 (List.map (fun q=>AV.sl 3 (List.map A4 q)) (a.fSets))),(21,aI ((((List.map (fun q=>AV.sl 3 (List.map A4 q)) (a.fSets)).length:Nat):Int))),(22,aI b),(30,.sl 3 (c.map A4)),(31,aI (((c.map A4).length:Int))),(32,aI d),(57,.bool (f))],[(3,.box 25 (Ba h))]⟩) fun _=>Qw.eq_1 ..
abbrev z9d {n a f g b c d}:=li (Qv n a f g b c d) (fun e=>⟨[(1,.sl 5 (f.map A7)),(3,.ptr 3 0),(7,aI b),(8,.sl 3 (c.map A4)),(20,.sl 1 (List.map (fun q=>AV.sl 3 (List.map A4 q)) (a.fSets))),(21,aI ((((List.map (fun q=>AV.sl 3 (List.map A4 q)) (a.fSets)).length:Nat):Int))),(22,aI b),(30,.sl 3 (c.map A4)),(31,aI (((c.map A4).length:Int))),(32,aI e)],[(3,.box 25 (Ba g))]⟩) fun _ _=>Qv.eq_2 ..
abbrev z9e {n a d e b}:=li (Xo n a d e b) (fun c=>⟨[(1,.sl 5 (d.map A7)),(3,.ptr 3 0),(20,.sl 1 (List.map (fun q=>AV.sl 3 (List.map A4 q)) (a.fSets))),(21,aI ((((List.map (fun q=>AV.sl 3 (List.map A4 q)) (a.fSets)).length:Nat):Int))),(22,aI c)],[(3,.box 25 (Ba e))]⟩) fun _ _=>Xo.eq_2 ..
abbrev z2b {n b a1c0bc0 a c}:=li (Wu n b a1c0bc0 a c) (fun d=>⟨[(0,.sl 3 (a.map A4)),(1,.fn 46 [.ref [.fn 77 [.ref [.sl 1 (List.map (fun q=>AV.mapv (List.map (encM aI AV.bool) q)) (a1c0bc0))]]],.ref (Bi b)]),(7,aI (((a.map A4).length:Int))),(8,aI d)],[]⟩) fun _ _=>Wu.eq_2 ..
abbrev z2a {n b c a1c0bc0bc0 a d}:=li (Wt n b c a1c0bc0bc0 a d) (fun e=>⟨[(0,.sl 3 (a.map A4)),(1,.fn 49 [.ref [.fn 45 [.ref [.fn 77 [.ref [.sl 1 (List.map (fun q=>AV.mapv (List.map (encM aI AV.bool) q)) (a1c0bc0bc0))]]]]],.ref [.sl 1 (List.map (fun q=>AV.sl 3 (List.map A4 q)) (c.fSets))],.ref [aI b]]),(7,aI (((a.map A4).length:Int))),(8,aI e)],[]⟩) fun _ _=>Wt.eq_2 ..
abbrev z7n {n h a i b f c d e}:=jf (Li n h a i b f c d e) (fun g=>⟨[(1,.sl 5 (a.map A7)),(3,.ptr 3 0),(5,.ptr 5 0),(10,.ref [.fn 45 [.ref [.fn 77 [.ref [.sl 1 (List.map (fun q=>AV.mapv (List.map (encM aI AV.bool) q)) (b.1))]]]]]),(11,.ptr 11 0),(12,.ptr 12 0),(42,.sl 5 (a.map A7)),(43,aI (((a.map A7).length:Int))),(44,aI b.2),(53,.sl 3 (c.map A4)),(54,aI (((c.map A4).length:Int))),(55,aI d),(81,.bool (g))],[(3,.box 25 (Ba i)),(5,.box 31 [.sl 1 (List.map (fun q=>AV.sl 3 (List.map A4 q)) (h.fSets))]),(11,.box 3 [aI b.2]),(12,.box 71 (Bu f))]⟩) fun _=>Li.eq_1 ..
abbrev z7l {n g a h b e c d}:=li (Lh n g a h b e c d) (fun f=>⟨[(1,.sl 5 (a.map A7)),(3,.ptr 3 0),(5,.ptr 5 0),(10,.ref [.fn 45 [.ref [.fn 77 [.ref [.sl 1 (List.map (fun q=>AV.mapv (List.map (encM aI AV.bool) q)) (b.1))]]]]]),(11,.ptr 11 0),(12,.ptr 12 0),(42,.sl 5 (a.map A7)),(43,aI (((a.map A7).length:Int))),(44,aI b.2),(53,.sl 3 (c.map A4)),(54,aI (((c.map A4).length:Int))),(55,aI f)],[(3,.box 25 (Ba h)),(5,.box 31 [.sl 1 (List.map (fun q=>AV.sl 3 (List.map A4 q)) (g.fSets))]),(11,.box 3 [aI b.2]),(12,.box 71 (Bu e))]⟩) fun _ _=>Lh.eq_2 ..
abbrev z7m {n d a e b}:=li (X2 n d a e b) (fun c=>⟨[(1,.sl 5 (a.map A7)),(3,.ptr 3 0),(5,.ptr 5 0),(10,.ref [.fn 45 [.ref [.fn 77 [.ref [.sl 1 (List.map (fun q=>AV.mapv (List.map (encM aI AV.bool) q)) (c.1))]]]]]),(42,.sl 5 (a.map A7)),(43,aI (((a.map A7).length:Int))),(44,aI c.2)],[(3,.box 25 (Ba e)),(5,.box 31 [.sl 1 (List.map (fun q=>AV.sl 3 (List.map A4 q)) (d.fSets))])]⟩) fun _ _=>X2.eq_2 ..
abbrev z4u {n}:=jf (Pc n) (fun b=>⟨[(0,.bool (b))],[]⟩) fun _=>Pc.eq_1 ..
abbrev z4v {n b c}:=jf (Kh n b c) (fun d=>⟨[(1,.sl 5 (b.map A7)),(6,.ptr 6 0),(118,.bool (d))],[(6,.box 31 [.sl 1 (List.map (fun q=>AV.sl 3 (List.map A4 q)) (c))])]⟩) fun _=>Kh.eq_1 ..
abbrev z4t {n g a f e b c}:=jf (Pb n g a f e b c) (fun d=>⟨[(1,.sl 5 (g.map A7)),(2,.ptr 2 0),(6,.ptr 6 0),(9,.ptr 9 0),(71,aI ((((List.map (fun q=>AV.sl 3 (List.map A4 q)) (a.1.fSets)).length:Nat):Int))),(72,aI b),(95,.bool (d))],[(2,.box 31 [.sl 1 (List.map (fun q=>AV.sl 3 (List.map A4 q)) (a.1.fSets))]),(6,.box 31 [.sl 1 (List.map (fun q=>AV.sl 3 (List.map A4 q)) (f.2.2.1.fSets))]),(9,.box 44 (G5 e.2.1))]⟩) fun _=>Pb.eq_1 ..
attribute [instance] z9f z9d z9e z2b z2a z7n z7l z7m z4u z4v z4t
instance zjm {n b a}:CI E0 (z0i n b a) true 75 [A4 b,A4 a] aI:=by unfold z0i;exact CI.w [2] Tryz.func75
instance zp5 {n e d c}:CI E0 (z12 n e d c) true 43 [Bm e,.sl 5 (d.map A7),.agg [.sl 1 (List.map (fun q=>AV.sl 3 (List.map A4 q)) (c.fSets))]] aI:=⟨fun {r} b=>by
 unfold z12 at b;refine cw Tryz.func43 ?_;repeat' first
  |refine AW.jI b (fun v b=>?_) fun b=>?_
  |refine AW.regO b fun b=>?_
  |refine AW.stepU [14] ?_;conv=>whnf
  |refine A9.o b (fun b=>?_) fun b=>?_
  |refine A9.t ?_
  |refine A9.f ?_
  |refine IdxX.o (fun q=>AV.sl 3 (List.map A4 q)) b fun x b=>?_
  |exact ⟨_,b,LeX.a []⟩
  |refine IdxX.A b fun x b=>?_
  |refine SlsX.o A7 b (fun l b=>?_)
  |refine Ad.I b fun a b=>?_
  |refine Ax.I b (LeX.a []) fun m v b=>?_
  |refine AndA ?_
  |refine EqX.A ?_
  |exact RetX.oB b⟩
instance zfh {n b a1bc0 a}:CI E0 (z07 n b a1bc0 a) true 46 [A4 b,.ref [.fn 77 [.ref [.sl 1 (List.map (fun q=>AV.mapv (List.map (encM aI AV.bool) q)) (a1bc0))]]],.ref (Bi a)] (fun r=>.bool (r)):=by unfold z07;exact CI.w [] Tryz.func46
instance zf9 {n a a1c0bc0 b}:CI E0 (z06 n a a1c0bc0 b) true 59 [.sl 3 (a.map A4),.fn 46 [.ref [.fn 77 [.ref [.sl 1 (List.map (fun q=>AV.mapv (List.map (encM aI AV.bool) q)) (a1c0bc0))]]],.ref (Bi b)]] aI:=by unfold z06;exact CI.w [] Tryz.func59
instance zc8 {n a a1c0bc0 b}:CI E0 (z03 n a a1c0bc0 b) true 27 [.sl 3 (a.map A4),.fn 46 [.ref [.fn 77 [.ref [.sl 1 (List.map (fun q=>AV.mapv (List.map (encM aI AV.bool) q)) (a1c0bc0))]]],.ref (Bi b)]] (fun r=>.bool (r)):=by unfold z03;exact CI.w [] Tryz.func27
instance zio {n d c a2bc0}:CI E0 (Xb n d c a2bc0) true 45 [.sl 3 (d.map A4),A4 c,.ref [.fn 77 [.ref [.sl 1 (List.map (fun q=>AV.mapv (List.map (encM aI AV.bool) q)) (a2bc0))]]]] (fun r=>.bool (r)):=⟨fun {r} b=>by
 unfold Xb at b;refine cw Tryz.func45 ?_;repeat' first
  |refine AW.step ?_;conv=>whnf
  |refine A9.o b (fun b=>?_) fun b=>?_
  |refine A9.t ?_
  |refine A9.f ?_
  |refine B7.I b (fun a b=>?_) rfl rfl fun _=>Or.inr rfl
  |refine AndA ?_
  |refine EqX.A ?_
  |exact RetX.oB b⟩
instance y0n {n f e d c}:CI E0 (zbl n f e d c) false 48 [Bm f,.sl 5 (e.map A7),A4 d,A7 c] (fun r=>.tup [.sl 3 (r.1.map A4),.sl 1 (r.2.1.map Ap),aI r.2.2]):=⟨fun {r} b=>by
 unfold zbl at b;refine cw Tryz.func48 ?_;repeat' first
  |refine AW.step ?_;conv=>whnf
  |refine A9.o b (fun b=>?_) fun b=>?_
  |refine A9.t ?_
  |refine A9.f ?_
  |refine Ad.oP b Ei (fun u=>.tup [.nilp,aI (u.2)]) (fun u y=>.tup [.ref [aI (y.fa.fVars),aI (y.fa.fScopes),.sl 1 (y.fa.fStates.map Bb),.sl 17 (y.fa.fEdges.map B5),.mapv (List.map (encM Bf A7) (y.fheld))],aI (u.2)]) (fun u h=>by simp only [Ei,h,G4]) (fun u y h=>by simp only [Ei,h,G4]) (fun a h=>Y3.h h) (fun a b=>?_) (fun a y b=>?_)
  |(cases b;done)
  |refine Ad.I b fun a b=>?_
  |refine AndA ?_
  |refine EqX.A ?_
  |exact RetX.oB b⟩
instance zin {n e a1bc0bc0 d c}:CI E0 (z0f n e a1bc0bc0 d c) true 49 [A4 e,.ref [.fn 45 [.ref [.fn 77 [.ref [.sl 1 (List.map (fun q=>AV.mapv (List.map (encM aI AV.bool) q)) (a1bc0bc0))]]]]],.ref [.sl 1 (List.map (fun q=>AV.sl 3 (List.map A4 q)) (d.fSets))],.ref [aI c]] (fun r=>.bool (r)):=⟨fun {r} b=>by
 unfold z0f at b;refine cw Tryz.func49 ?_;repeat' first
  |refine AW.step ?_;conv=>whnf
  |refine A9.o b (fun b=>?_) fun b=>?_
  |refine A9.t ?_
  |refine A9.f ?_
  |refine IdxX.o (fun q=>AV.sl 3 (List.map A4 q)) b fun x b=>?_
  |refine Ad.I b fun a b=>?_
  |refine AndA ?_
  |refine EqX.A ?_
  |exact RetX.oB b⟩
instance zf8 {n a a1c0bc0bc0 b c}:CI E0 (z05 n a a1c0bc0bc0 b c) true 59 [.sl 3 (a.map A4),.fn 49 [.ref [.fn 45 [.ref [.fn 77 [.ref [.sl 1 (List.map (fun q=>AV.mapv (List.map (encM aI AV.bool) q)) (a1c0bc0bc0))]]]]],.ref [.sl 1 (List.map (fun q=>AV.sl 3 (List.map A4 q)) (b.fSets))],.ref [aI c]]] aI:=by unfold z05;exact CI.w [] Tryz.func59
instance zc7 {n a a1c0bc0bc0 b c}:CI E0 (z02 n a a1c0bc0bc0 b c) true 27 [.sl 3 (a.map A4),.fn 49 [.ref [.fn 45 [.ref [.fn 77 [.ref [.sl 1 (List.map (fun q=>AV.mapv (List.map (encM aI AV.bool) q)) (a1c0bc0bc0))]]]]],.ref [.sl 1 (List.map (fun q=>AV.sl 3 (List.map A4 q)) (b.fSets))],.ref [aI c]]] (fun r=>.bool (r)):=by unfold z02;exact CI.w [] Tryz.func27
instance zmb {n e d c}:CI E0 (Xr n e d c) true 17 [Bm e,.sl 5 (d.map A7),.agg [.sl 1 (List.map (fun q=>AV.sl 3 (List.map A4 q)) (c.fSets))]] aI:=⟨fun {r} b=>by
 unfold Xr at b;refine cw Tryz.func17 ?_;repeat' first
  |refine AW.frbO b 33000000 rfl rfl (fun b=>?_)
  |refine AW.frb0 33000000 rfl rfl ?_
  |refine AW.frbO b 9 rfl rfl (fun b=>?_)
  |refine AW.frb0 9 rfl rfl ?_
  |refine AW.jI b (fun v b=>?_) fun b=>?_
  |refine AW.regO b fun b=>?_
  |refine AW.frzO b 33000000 rfl (fun b=>?_)
  |refine AW.frzO b 9 rfl (fun b=>?_)
  |refine AW.frzO b 10 rfl (fun b=>?_)
  |refine AW.stepU [9,18] ?_;conv=>whnf
  |refine A9.o b (fun b=>?_) fun b=>?_
  |refine A9.t ?_
  |refine A9.f ?_
  |refine Ad.I b fun a b=>?_
  |refine B7.oM (Bj 32 b) [] [(3,33000000)] _ _ Ll Qc [] (fun a h=>ConG.up (Wx h)) (Aw Tryz.func44 rfl rfl) rfl rfl rfl trivial (fun a=>⟨rfl,rfl,rfl,rfl,rfl,rfl,rfl,rfl⟩) (fun a b=>?_)
  |refine Ad.oM (Bj 32 b) [] [(3,33000000)] _ _ Ll Qc [] (fun a h=>ConG.up (Wx h)) (Aw Tryz.func44 rfl rfl) rfl rfl rfl trivial (fun a=>⟨rfl,rfl,rfl,rfl,rfl,rfl,rfl,rfl⟩) (fun a b=>?_)
  |refine IdxX.o (fun q=>AV.sl 3 (List.map A4 q)) b fun x b=>?_
  |refine IdxX.A b fun x b=>?_
  |exact ⟨_,b,LeX.a []⟩
  |refine SlsX.o A7 b (fun l b=>?_)
  |refine B7.I b (fun a b=>?_) rfl rfl fun _=>Or.inr rfl
  |refine Ax.I b ?_ fun m v b=>?_
  |exact LeX.a []
  |exact LeX.trans (LeX.frb 10 rfl rfl) (LeX.a [])
  |refine AndA ?_
  |refine EqX.A ?_
  |exact RetX.oB b⟩
end
noncomputable section
abbrev z4s {n f a e d b}:=li (Pa n f a e d b) (fun c=>⟨[(1,.sl 5 (f.map A7)),(2,.ptr 2 0),(6,.ptr 6 0),(9,.ptr 9 0),(71,aI ((((List.map (fun q=>AV.sl 3 (List.map A4 q)) (a.1.fSets)).length:Nat):Int))),(72,aI c)],[(2,.box 31 [.sl 1 (List.map (fun q=>AV.sl 3 (List.map A4 q)) (a.1.fSets))]),(6,.box 31 [.sl 1 (List.map (fun q=>AV.sl 3 (List.map A4 q)) (e.2.2.1.fSets))]),(9,.box 44 (G5 d.2.1))]⟩) fun _ _=>Pa.eq_2 ..
abbrev z4w {n e d c a}:=jf (Gn n e d c a) (fun b=>⟨[(1,.sl 5 (e.map A7)),(2,.ptr 2 0),(6,.ptr 6 0),(9,.ptr 9 0),(68,.bool (b))],[(2,.box 31 [.sl 1 (List.map (fun q=>AV.sl 3 (List.map A4 q)) (d.1.fSets))]),(6,.box 31 [.sl 1 (List.map (fun q=>AV.sl 3 (List.map A4 q)) (c.2.2.1.fSets))]),(9,.box 44 (G5 a.2.1))]⟩) fun _=>Gn.eq_1 ..
abbrev z5j {n a d b}:=li (Pn n a d b) (fun c=>⟨[(0,.sl 3 (d.map A4)),(1,.sl 3 (a.map A4)),(5,aI c)],[]⟩) fun _ _=>Pn.eq_2 ..
abbrev z5h {n a d b}:=li (Pk n a d b) (fun c=>⟨[(2,.ptr 2 0),(3,.ptr 3 0),(5,aI c)],[(2,.box 31 [.sl 1 (List.map (fun q=>AV.sl 3 (List.map A4 q)) (d.fSets))]),(3,.box 31 [.sl 1 (List.map (fun q=>AV.sl 3 (List.map A4 q)) (a.fSets))])]⟩) fun _ _=>Pk.eq_2 ..
attribute [instance] z4s z4w    z5j z5h       
instance zii {n}:CI E0 (Lr n) true 12 [] (fun r=>.bool (r)):=⟨fun {r} b=>by
 unfold Lr at b;refine Con.env (E:=E0b) rfl rfl ?_;refine Con.walk _ Tryz.func12 rfl (Aw Tryz.func12 rfl rfl) rfl (Or.inr rfl) ?_;repeat' first
  |refine AW.jI b (fun v b=>?_) fun b=>?_
  |refine AW.regO b fun b=>?_
  |refine AW.frzO b 18 rfl (fun b=>?_)
  |refine AW.stepU [2,5,10,13,17] ?_;conv=>whnf
  |refine A9.o b (fun b=>?_) fun b=>?_
  |refine A9.t ?_
  |refine A9.f ?_
  |refine OpX.bldR A7 b rfl rfl rfl rfl rfl rfl rfl rfl rfl rfl rfl rfl rfl rfl rfl rfl (by first|exact SubR.refl _|(repeat' first|exact SubR.nil|refine SubR.cons ?_ ?_|exact SubL.nil|refine SubL.cons ?_ ?_|exact Sub.refl _|exact Sub.nil _)) rfl (fun l b=>?_)
  |refine OpX.bld A7 b rfl rfl rfl rfl rfl rfl rfl rfl rfl rfl rfl rfl rfl rfl rfl rfl (fun l b=>?_)
  |refine Ad.I b fun a b=>?_
  |refine SlsX.o A7 b (fun l b=>?_)
  |refine Ad.oR b (fun r=>r) (fun q=>AV.sl 3 (List.map A4 q)) (fun _=>AV.row 0) rfl (fun a h=>ConT.env rfl (zbz h)) (fun a b=>?_)
  |refine Ad.oR b (fun r=>r) (fun q=>AV.sl 3 (List.map A4 q)) (fun _=>AV.row 0) rfl (fun a h=>ConT.sub (by repeat' first|exact Sub.nil _|exact Sub.refl _|refine Sub.agg ?_|refine Sub.tup ?_|refine Sub.fn ?_|exact SubL.nil|refine SubL.cons ?_ ?_|refine Sub.sl _ ?_|exact SubE.nil|refine SubE.cons ?_ ?_) (ConT.env rfl (zbz h))) (fun a b=>?_)
  |refine NatX.o b (fun m b=>?_)
  |refine EltX.o (fun q=>AV.sl 3 (List.map A4 q)) b (fun x b=>?_)
  |refine SlsX.o A4 b (fun l b=>?_)
  |refine SetX.o (fun q=>AV.sl 3 (List.map A4 q)) b (fun x=>rfl) (fun x=>(by first|exact SubL.refl _|(repeat' first|exact SubL.nil|refine SubL.cons ?_ ?_|exact Sub.refl _|exact Sub.nil _|refine Sub.agg ?_))) (fun l b=>?_)
  |refine B7.I b (fun a b=>?_) rfl rfl fun _=>Or.inr rfl
  |exact ⟨_,b,LeX.a []⟩
  |refine IdxX.A b fun x b=>?_
  |refine IdxX.o (fun q=>AV.sl 3 (List.map A4 q)) b fun x b=>?_
  |refine Ax.I b (LeX.a []) fun m v b=>?_
  |refine AndA ?_
  |refine EqX.A ?_
  |exact RetX.oB b⟩
instance zj8 {n b a}:CI E0 (U4 n b a) true 41 [.sl 3 (b.map A4),.sl 3 (a.map A4)] (fun r=>.bool (r)):=by unfold U4;exact CI.w [] Tryz.func41
instance zj4 {n d c}:CI E0 (Iq n d c) true 15 [.agg [.sl 1 (List.map (fun q=>AV.sl 3 (List.map A4 q)) (d.fSets))],.agg [.sl 1 (List.map (fun q=>AV.sl 3 (List.map A4 q)) (c.fSets))]] (fun r=>.bool (r)):=⟨fun {r} b=>by
 unfold Iq at b;refine cw Tryz.func15 ?_;repeat' first
  |refine AW.step ?_;conv=>whnf
  |refine A9.o b (fun b=>?_) fun b=>?_
  |refine A9.t ?_
  |refine A9.f ?_
  |refine IdxX.o (fun q=>AV.sl 3 (List.map A4 q)) b fun x b=>?_
  |refine Ad.I b fun a b=>?_
  |exact ⟨_,b,LeX.a []⟩
  |refine Ax.I b (LeX.a []) fun m v b=>?_
  |refine AndA ?_
  |refine EqX.A ?_
  |exact RetX.oB b⟩
end
noncomputable section
end
end Go.Proofs.YtidhlpjgifoneaaGreat
