/- What some functions compute, over plain values. -/
import Derived.Test.YtidhlpjgifoneaaGreatK27
set_option linter.unusedVariables false
set_option linter.unusedSimpArgs false
set_option maxRecDepth 100000
set_option maxHeartbeats 8000000
namespace Go.Proofs.YtidhlpjgifoneaaGreat
open Go.RowKit List
open RetX renaming oB->aA
open LeX renaming a->aB,trans->aR
open AW renaming stepU->aC,regO->aD,frzO->aG,step->aM,frbO->aT,frb0->aU,jI->aX
open EqX renaming A->aE
open Tryz renaming func44->aF,func35->aJ,ntmps35->aW,func37->aY,func59->aZ,func27->bA,func12->bB
open IdxX renaming A->aH,o->aP
open CI renaming w->aK
open Aa renaming o->aL,t->aN,f->aO
noncomputable section
abbrev z8e {n d a b}:=li (R3 n d a b) (fun c=>⟨[(1,.sl 2 (d.map Ad)),(2,.fn 79 []),(15,.sl 2 (a.map Ad)),(16,aI (((a.map Ad).length:Int))),(17,aI c)],[]⟩) fun _ _=>R3.eq_2 ..
abbrev z9m {n d a b}:=li (Md n d a b) (fun c=>⟨[(1,.mapv (List.map (encM aI AV.bool) (d))),(5,.row 7022),(9,.sl 4 (a.fBindings.map Ar)),(10,aI (((a.fBindings.map Ar).length:Int))),(11,aI c.1)],[(7022,.row 76 4 (c.2.map Ar))]⟩) fun _ _=>Md.eq_2 ..
abbrev zbc {n d a b}:=li (Rr n d a b) (fun c=>⟨[(0,.sl 4 (a.map Ar)),(1,.sl 4 (d.map Ar)),(12,aI (((a.map Ar).length:Int))),(13,aI c)],[]⟩) fun _ _=>Rr.eq_2 ..
abbrev z2j {n}:=jf (Hw n) (fun b=>⟨[(5,.bool (b))],[]⟩) fun _=>Hw.eq_1 ..
abbrev z3p {n d a b g c e f}:=jf (I3 n d a b g c e f) (fun h=>⟨[(0,.sl 3 (a.map A4)),(1,.fn 77 [.ref [.sl 1 (List.map (fun q=>AV.mapv (List.map (encM aI AV.bool) q)) (d))]]),(5,.row 7053),(6,aI b.1),(7,.ptr 7 0),(8,aI ((-1))),(9,aI c),(11,.sl 3 (a.map A4)),(12,aI (((a.map A4).length:Int))),(13,aI b.1),(18,.sl 3 (a.map A4)),(19,aI (((a.map A4).length:Int))),(20,aI c),(45,.bool (h))],[(7,.box 60 (Bi g)),(7053,.row 60 3 (b.2.map A4))]⟩) fun _=>I3.eq_1 ..
abbrev z3n {n c a b e d}:=li (I2 n c a b e d) (fun f=>⟨[(0,.sl 3 (a.map A4)),(1,.fn 77 [.ref [.sl 1 (List.map (fun q=>AV.mapv (List.map (encM aI AV.bool) q)) (c))]]),(5,.row 7053),(6,aI b.1),(7,.ptr 7 0),(8,aI ((-1))),(11,.sl 3 (a.map A4)),(12,aI (((a.map A4).length:Int))),(13,aI b.1),(18,.sl 3 (a.map A4)),(19,aI (((a.map A4).length:Int))),(20,aI f)],[(7,.box 60 (Bi e)),(7053,.row 60 3 (b.2.map A4))]⟩) fun _ _=>I2.eq_2 ..
abbrev z3o {n b a c}:=li (Tk n b a c) (fun d=>⟨[(0,.sl 3 (a.map A4)),(1,.fn 77 [.ref [.sl 1 (List.map (fun q=>AV.mapv (List.map (encM aI AV.bool) q)) (b))]]),(5,.row 7053),(11,.sl 3 (a.map A4)),(12,aI (((a.map A4).length:Int))),(13,aI d.1)],[(7053,.row 60 3 (d.2.map A4))]⟩) fun _ _=>Tk.eq_2 ..
abbrev z3m {n a2c0bc0 a d b}:=li (Xh n a2c0bc0 a d b) (fun c=>⟨[(1,.sl 5 (a.map A7)),(2,.fn 52 [.ref [.fn 77 [.ref [.sl 1 (List.map (fun q=>AV.mapv (List.map (encM aI AV.bool) q)) (a2c0bc0))]]]]),(3,.ptr 3 0),(8,.row 7016),(17,.sl 5 (a.map A7)),(18,aI (((a.map A7).length:Int))),(19,aI c.1)],[(3,.box 25 (B3 d)),(7016,.row 57 1 (List.map (fun q=>AV.sl 3 (List.map A4 q)) (c.2)))]⟩) fun _ _=>Xh.eq_2 ..
abbrev z7o {n d a b}:=li (Qq n d a b) (fun c=>⟨[(0,.sl 2 (a.map Ad)),(1,.sl 2 (d.map Ad)),(12,aI (((a.map Ad).length:Int))),(13,aI c)],[]⟩) fun _ _=>Qq.eq_2 ..
abbrev z9l {n}:=jf (Iy n) (fun b=>⟨[(4,.bool (b))],[]⟩) fun _=>Iy.eq_1 ..
abbrev z6c {n c a}:=jf (Gv n c a) (fun b=>⟨[(2,.ptr 2 0),(5,.sl 3 (a.1.map A4)),(14,.bool (b))],[(2,.box 60 (Bi c))]⟩) fun _=>Gv.eq_1 ..
attribute [instance] z8e z9m zbc z2j z3p z3n z3o z3m z7o z9l z6c
instance zea {n b a}:CI E0 (Tl n b a) true 79 [Ad b,Ad a] (fun r=>.bool (r)):=by unfold Tl;exact aK [1] Tryz.func79
instance znx {n b a}:CI E0 (V9 n b a) true 78 [.sl 2 (b.map Ad),.sl 2 (a.map Ad),.fn 79 []] (fun r=>.bool (r)):=by unfold V9;exact aK [] Tryz.func78
instance zps {n d c}:CI E0 (Rv n d c) false 81 [A4 d,.mapv (List.map (encM aI AV.bool) (c))] (fun r=>.sl 4 (r.map Ar)):=⟨fun {r} a=>by
 unfold Rv at a;refine cw Tryz.func81 ?_;repeat' first
  |refine aD a fun a=>?_
  |refine aC [5] ?_;conv=>whnf
  |refine aL a (fun a=>?_) fun a=>?_
  |refine aN ?_
  |refine aO ?_
  |refine aH a fun x a=>?_
  |refine OpX.lkv aI AV.bool a y6c rfl rfl rfl rfl rfl rfl rfl rfl rfl rfl (by first|rfl|kernel_rfl) (by repeat' first|exact Sub.nil _|exact Sub.refl _|refine Sub.agg ?_|refine Sub.tup ?_|refine Sub.fn ?_|exact SubL.nil|refine SubL.cons ?_ ?_|refine Sub.sl _ ?_|exact SubE.nil|refine SubE.cons ?_ ?_) (fun v b a=>?_)
  |refine AppX.oA a fun l a=>?_
  |exact ⟨_,a,aB [(7022,22)]⟩
  |exact ⟨_,a,aB []⟩
  |refine Az.I a ?_ fun m v a=>?_
  |exact aR (LeX.adopt 5 7022 76 4 rfl rfl) (aB [])
  |refine AndA ?_
  |refine aE ?_
  |exact aA a⟩
instance zuc {n b a}:CI E0 (S5 n b a) true 80 [.sl 4 (b.map Ar),.sl 4 (a.map Ar)] (fun r=>.bool (r)):=by unfold S5;exact aK [] Tryz.func80
instance zft {n e d c}:CI E0 (Lh n e d c) true 77 [A4 e,A4 d,.ref [.sl 1 (List.map (fun q=>AV.mapv (List.map (encM aI AV.bool) q)) (c))]] (fun r=>.bool (r)):=⟨fun {r} b=>by
 unfold Lh at b;refine cw Tryz.func77 ?_;repeat' first
  |refine aX b (fun v b=>?_) fun b=>?_
  |refine aD b fun b=>?_
  |refine aC [1] ?_;conv=>whnf
  |refine aL b (fun b=>?_) fun b=>?_
  |refine aN ?_
  |refine aO ?_
  |refine Af.I b fun a b=>?_
  |refine aP (fun q=>AV.mapv (List.map (encM aI AV.bool) q)) b fun x b=>?_
  |exact ⟨_,b,aB []⟩
  |refine AndA ?_
  |refine aE ?_
  |exact aA b⟩
instance zhh {n d b}:CI E0 (z04 n d b) false 53 [.sl 3 (d.map A4),.fn 77 [.ref [.sl 1 (List.map (fun q=>AV.mapv (List.map (encM aI AV.bool) q)) (b))]]] (fun r=>.sl 3 (r.map A4)):=⟨fun {r} c=>by
 unfold z04 at c;refine cw Tryz.func53 ?_;repeat' first
  |refine aX c (fun v c=>?_) fun c=>?_
  |refine aD c fun c=>?_
  |refine aC [9,12] ?_;conv=>whnf
  |refine aL c (fun c=>?_) fun c=>?_
  |refine aN ?_
  |refine aO ?_
  |refine aH c fun x c=>?_
  |refine AppX.oA c fun l c=>?_
  |exact ⟨_,c,aB [(7053,53)]⟩
  |exact ⟨_,c,aB []⟩
  |refine Af.I c fun a c=>?_
  |refine Az.I c ?_ fun m v c=>?_
  |exact aB []
  |exact aR (LeX.adopt 5 7053 60 3 rfl rfl) (aB [])
  |refine AndA ?_
  |refine aE ?_
  |exact aA c⟩
instance zjf {n a a1bc0}:CI E0 (z0c n a a1bc0) false 52 [.sl 3 (a.map A4),.ref [.fn 77 [.ref [.sl 1 (List.map (fun q=>AV.mapv (List.map (encM aI AV.bool) q)) (a1bc0))]]]] (fun r=>.sl 3 (r.map A4)):=by unfold z0c;exact aK [] Tryz.func52
instance zhg {n d c a2c0bc0}:CI E0 (z03 n d c a2c0bc0) false 37 [Bl d,.sl 5 (c.map A7),.fn 52 [.ref [.fn 77 [.ref [.sl 1 (List.map (fun q=>AV.mapv (List.map (encM aI AV.bool) q)) (a2c0bc0))]]]]] (fun r=>.tup [.sl 1 (List.map (fun q=>AV.sl 3 (List.map A4 q)) (r.1)),aI r.2]):=⟨fun {r} b=>by
 unfold z03 at b;refine Con.env (E:=E0b) rfl rfl ?_;refine Con.walk _ aY rfl (Ay aY rfl rfl) rfl (Or.inl rfl) ?_;repeat' first
  |refine aM ?_;conv=>whnf
  |refine aL b (fun b=>?_) fun b=>?_
  |refine aN ?_
  |refine aO ?_
  |refine Af.I b fun a b=>?_
  |refine OpX.bldS A4 b rfl rfl rfl rfl rfl rfl rfl rfl rfl rfl rfl rfl rfl rfl (fun l b=>?_)
  |refine OpX.bldR (fun q=>AV.sl 3 (List.map A4 q)) b rfl rfl rfl rfl rfl rfl rfl rfl rfl rfl rfl rfl rfl rfl rfl rfl (by first|exact SubR.refl _|(repeat' first|exact SubR.nil|refine SubR.cons ?_ ?_|exact SubL.nil|refine SubL.cons ?_ ?_|exact Sub.refl _|exact Sub.nil _)) rfl (fun l b=>?_)
  |refine OpX.bld (fun q=>AV.sl 3 (List.map A4 q)) b rfl rfl rfl rfl rfl rfl rfl rfl rfl rfl rfl rfl rfl rfl rfl rfl (fun l b=>?_)
  |refine aH b fun x b=>?_
  |refine SlsX.o A7 b (fun l b=>?_)
  |refine NatX.o b (fun m b=>?_)
  |refine EltX.o (fun q=>AV.sl 3 (List.map A4 q)) b (fun x b=>?_)
  |refine OpX.bldS (fun q=>AV.sl 3 (List.map A4 q)) b rfl rfl rfl rfl rfl rfl rfl rfl rfl rfl rfl rfl rfl rfl (fun l b=>?_)
  |refine AppX.oA b fun l b=>?_
  |exact ⟨_,b,aB [(7016,51)]⟩
  |refine Az.I b ?_ fun m v b=>?_
  |exact aB [(7016,16)]
  |refine AndA ?_
  |refine aE ?_
  |exact aA b⟩
instance zn2 {n d c}:CI E0 (Ye n d c) false 19 [Bl d,.sl 5 (c.map A7)] (fun r=>.tup [aI r.1,Au r.2.1,.agg [.sl 1 (List.map (fun q=>AV.sl 3 (List.map A4 q)) (r.2.2.1.fSets))],aI r.2.2.2]):=⟨fun {r} b=>by
 unfold Ye at b;refine cw Tryz.func19 ?_;repeat' first
  |refine aT b 43000000 rfl rfl (fun b=>?_)
  |refine aU 43000000 rfl rfl ?_
  |refine aT b 11 rfl rfl (fun b=>?_)
  |refine aU 11 rfl rfl ?_
  |refine aD b fun b=>?_
  |refine aG b 43000000 rfl (fun b=>?_)
  |refine aG b 11 rfl (fun b=>?_)
  |refine aC [10] ?_;conv=>whnf
  |refine aL b (fun b=>?_) fun b=>?_
  |refine aN ?_
  |refine aO ?_
  |refine Af.I b fun a b=>?_
  |refine aH b fun x b=>?_
  |refine B8.oM (Bo 42 b) [] [(3,43000000)] _ _ M1 Qt [] (fun a h=>ConG.up (Xl h)) (Ay aF rfl rfl) rfl rfl rfl trivial (fun a=>⟨rfl,rfl,rfl,rfl,rfl,rfl,rfl,rfl⟩) (fun a b=>?_)
  |refine Af.oM (Bo 42 b) [] [(3,43000000)] _ _ M1 Qt [] (fun a h=>ConG.up (Xl h)) (Ay aF rfl rfl) rfl rfl rfl trivial (fun a=>⟨rfl,rfl,rfl,rfl,rfl,rfl,rfl,rfl⟩) (fun a b=>?_)
  |refine AndA ?_
  |refine aE ?_
  |exact aA b⟩
set_option maxHeartbeats 400000 in
theorem zq8 (l:List (Cel 1))(S:Nat->Prop)(v:Value)(w:World)(h:Sl w S 1 encC v l)(d:l.length<=1000000000) :
  Calls Tryz.prog 35 #[v] w (Js 57 1 encC l w):=by
 have eok:EOk Tryz.prog 29 57 1 24 (encC (n:=1)):=eokC (sz:=1) (Dc 29 _ rfl) rfl (Dc 57 _ rfl) (by omega) rfl;obtain ⟨A,c,rfl,f,_⟩:=h.form;have a:=fun (W:World)=>Lib.run_eql_slice_nil W 29 57 A l.length c 0 0 Tryz.underlying29
 have H:=hide h;cases A with
 |none =>
  have g:l=[]:=h.none_nil;subst g;clear h H d f;simp only [length_nil,Option.isNone_none] at a ⊢
  go_enter aJ,aW
  go_wp2
  go_ret
  exact ⟨none,0,rfl,Own.nil_,by go_grown⟩
 |some ad =>
  clear h
  go_enter aJ,aW
  go_wp2_with (at_builtin;refine J6 rfl _ _ rfl eok rfl Own.made_ rfl (H.out.alloc _) (by simp;omega) (by omega) (by simp) ?_;intro A' i w1 b e _)
  go_ret
  exact ⟨A',i,rfl,b,(Own.made_ (sz:=1) (enc:=encC (n:=1))).grown ((Below.refl _ _).alloc (Nat.le_refl _) _) (Nat.le_refl _) (by simp) e⟩
theorem zc8 {n a r}(b:Cg n a=some r):ConT E0 35 [.sl 1 (List.map (fun q=>AV.sl 3 (List.map A4 q)) a)] 57 1 (List.map (fun q=>AV.sl 3 (List.map A4 q)) r) (.row 0):=Nk rfl (Ay aJ rfl rfl) zq8 b
instance y0t {n e d c}:CI E0 (Nf n e d c) true 74 [Bl e,.sl 5 (d.map A7),A4 c] aI:=⟨fun {r} b=>by
 unfold Nf at b;refine cw Tryz.func74 ?_;repeat' first
  |refine aM ?_;conv=>whnf
  |refine aL b (fun b=>?_) fun b=>?_
  |refine Af.oP b Ei (fun u=>.tup [.nilp,aI (u.2)]) (fun u y=>.tup [.ref [aI (y.fa.fVars),aI (y.fa.fScopes),.sl 1 (y.fa.fStates.map Ba),.sl 17 (y.fa.fEdges.map B6),.mapv (List.map (encM Be A7) (y.fheld))],aI (u.2)]) (fun u h=>by simp only [Ei,h,G2]) (fun u y h=>by simp only [Ei,h,G2]) (fun a h=>Ys.h h) (fun a b=>?_) (fun a y b=>?_)
  |(cases b;done)
  |refine Af.I b fun a b=>?_
  |exact aA b⟩
instance zmz {n b a}:CI E0 (Uw n b a) true 150 [.sl 2 (b.map Ad),.sl 2 (a.map Ad)] (fun r=>.bool (r)):=by unfold Uw;exact aK [] Tryz.func150
instance zpr {n b a}:CI E0 (Vj n b a) true 110 [A4 b,A4 a] (fun r=>.bool (r)):=by unfold Vj;exact aK [1] Tryz.func110
end
noncomputable section
abbrev z9p {n a g h b c d e}:=jf (J0 n a g h b c d e) (fun f=>⟨[(1,.sl 5 (g.map A7)),(3,.ptr 3 0),(7,aI b),(8,.sl 3 (c.map A4)),(20,.sl 1 (List.map (fun q=>AV.sl 3 (List.map A4 q)) (a.fSets))),(21,aI ((((List.map (fun q=>AV.sl 3 (List.map A4 q)) (a.fSets)).length:Nat):Int))),(22,aI b),(30,.sl 3 (c.map A4)),(31,aI (((c.map A4).length:Int))),(32,aI d),(57,.bool (f))],[(3,.box 25 (B3 h))]⟩) fun _=>J0.eq_1 ..
abbrev z9n {n a f g b c d}:=li (Dh n a f g b c d) (fun e=>⟨[(1,.sl 5 (f.map A7)),(3,.ptr 3 0),(7,aI b),(8,.sl 3 (c.map A4)),(20,.sl 1 (List.map (fun q=>AV.sl 3 (List.map A4 q)) (a.fSets))),(21,aI ((((List.map (fun q=>AV.sl 3 (List.map A4 q)) (a.fSets)).length:Nat):Int))),(22,aI b),(30,.sl 3 (c.map A4)),(31,aI (((c.map A4).length:Int))),(32,aI e)],[(3,.box 25 (B3 g))]⟩) fun _ _=>Dh.eq_2 ..
abbrev z9o {n a d e b}:=li (Iz n a d e b) (fun c=>⟨[(1,.sl 5 (d.map A7)),(3,.ptr 3 0),(20,.sl 1 (List.map (fun q=>AV.sl 3 (List.map A4 q)) (a.fSets))),(21,aI ((((List.map (fun q=>AV.sl 3 (List.map A4 q)) (a.fSets)).length:Nat):Int))),(22,aI c)],[(3,.box 25 (B3 e))]⟩) fun _ _=>Iz.eq_2 ..
abbrev z2a {n b a1c0bc0 a c}:=li (K9 n b a1c0bc0 a c) (fun d=>⟨[(0,.sl 3 (a.map A4)),(1,.fn 46 [.ref [.fn 77 [.ref [.sl 1 (List.map (fun q=>AV.mapv (List.map (encM aI AV.bool) q)) (a1c0bc0))]]],.ref (Bi b)]),(7,aI (((a.map A4).length:Int))),(8,aI d)],[]⟩) fun _ _=>K9.eq_2 ..
abbrev z29 {n b c a1c0bc0bc0 a d}:=li (K8 n b c a1c0bc0bc0 a d) (fun e=>⟨[(0,.sl 3 (a.map A4)),(1,.fn 49 [.ref [.fn 45 [.ref [.fn 77 [.ref [.sl 1 (List.map (fun q=>AV.mapv (List.map (encM aI AV.bool) q)) (a1c0bc0bc0))]]]]],.ref [.sl 1 (List.map (fun q=>AV.sl 3 (List.map A4 q)) (c.fSets))],.ref [aI b]]),(7,aI (((a.map A4).length:Int))),(8,aI e)],[]⟩) fun _ _=>K8.eq_2 ..
abbrev z7w {n h a i b f c d e}:=jf (Iq n h a i b f c d e) (fun g=>⟨[(1,.sl 5 (a.map A7)),(3,.ptr 3 0),(5,.ptr 5 0),(10,.ref [.fn 45 [.ref [.fn 77 [.ref [.sl 1 (List.map (fun q=>AV.mapv (List.map (encM aI AV.bool) q)) (b.1))]]]]]),(11,.ptr 11 0),(12,.ptr 12 0),(42,.sl 5 (a.map A7)),(43,aI (((a.map A7).length:Int))),(44,aI b.2),(53,.sl 3 (c.map A4)),(54,aI (((c.map A4).length:Int))),(55,aI d),(81,.bool (g))],[(3,.box 25 (B3 i)),(5,.box 31 [.sl 1 (List.map (fun q=>AV.sl 3 (List.map A4 q)) (h.fSets))]),(11,.box 3 [aI b.2]),(12,.box 71 (Bw f))]⟩) fun _=>Iq.eq_1 ..
abbrev z7u {n g a h b e c d}:=li (Gz n g a h b e c d) (fun f=>⟨[(1,.sl 5 (a.map A7)),(3,.ptr 3 0),(5,.ptr 5 0),(10,.ref [.fn 45 [.ref [.fn 77 [.ref [.sl 1 (List.map (fun q=>AV.mapv (List.map (encM aI AV.bool) q)) (b.1))]]]]]),(11,.ptr 11 0),(12,.ptr 12 0),(42,.sl 5 (a.map A7)),(43,aI (((a.map A7).length:Int))),(44,aI b.2),(53,.sl 3 (c.map A4)),(54,aI (((c.map A4).length:Int))),(55,aI f)],[(3,.box 25 (B3 h)),(5,.box 31 [.sl 1 (List.map (fun q=>AV.sl 3 (List.map A4 q)) (g.fSets))]),(11,.box 3 [aI b.2]),(12,.box 71 (Bw e))]⟩) fun _ _=>Gz.eq_2 ..
abbrev z7v {n d a e b}:=li (Ip n d a e b) (fun c=>⟨[(1,.sl 5 (a.map A7)),(3,.ptr 3 0),(5,.ptr 5 0),(10,.ref [.fn 45 [.ref [.fn 77 [.ref [.sl 1 (List.map (fun q=>AV.mapv (List.map (encM aI AV.bool) q)) (c.1))]]]]]),(42,.sl 5 (a.map A7)),(43,aI (((a.map A7).length:Int))),(44,aI c.2)],[(3,.box 25 (B3 e)),(5,.box 31 [.sl 1 (List.map (fun q=>AV.sl 3 (List.map A4 q)) (d.fSets))])]⟩) fun _ _=>Ip.eq_2 ..
abbrev z4y {n}:=jf (Pw n) (fun b=>⟨[(0,.bool (b))],[]⟩) fun _=>Pw.eq_1 ..
abbrev z4z {n b c}:=jf (L1 n b c) (fun d=>⟨[(1,.sl 5 (b.map A7)),(6,.ptr 6 0),(118,.bool (d))],[(6,.box 31 [.sl 1 (List.map (fun q=>AV.sl 3 (List.map A4 q)) (c))])]⟩) fun _=>L1.eq_1 ..
abbrev z4x {n g a f e b c}:=jf (Pv n g a f e b c) (fun d=>⟨[(1,.sl 5 (g.map A7)),(2,.ptr 2 0),(6,.ptr 6 0),(9,.ptr 9 0),(71,aI ((((List.map (fun q=>AV.sl 3 (List.map A4 q)) (a.1.fSets)).length:Nat):Int))),(72,aI b),(95,.bool (d))],[(2,.box 31 [.sl 1 (List.map (fun q=>AV.sl 3 (List.map A4 q)) (a.1.fSets))]),(6,.box 31 [.sl 1 (List.map (fun q=>AV.sl 3 (List.map A4 q)) (f.2.2.1.fSets))]),(9,.box 44 (G3 e.2.1))]⟩) fun _=>Pv.eq_1 ..
attribute [instance] z9p z9n z9o z2a z29 z7w z7u z7v z4y z4z z4x
instance zkd {n b a}:CI E0 (Ui n b a) true 75 [A4 b,A4 a] aI:=by unfold Ui;exact aK [2] Tryz.func75
instance zpt {n e d c}:CI E0 (J4 n e d c) true 43 [Bl e,.sl 5 (d.map A7),.agg [.sl 1 (List.map (fun q=>AV.sl 3 (List.map A4 q)) (c.fSets))]] aI:=⟨fun {r} b=>by
 unfold J4 at b;refine cw Tryz.func43 ?_;repeat' first
  |refine aX b (fun v b=>?_) fun b=>?_
  |refine aD b fun b=>?_
  |refine aC [14] ?_;conv=>whnf
  |refine aL b (fun b=>?_) fun b=>?_
  |refine aN ?_
  |refine aO ?_
  |refine aP (fun q=>AV.sl 3 (List.map A4 q)) b fun x b=>?_
  |exact ⟨_,b,aB []⟩
  |refine aH b fun x b=>?_
  |refine SlsX.o A7 b (fun l b=>?_)
  |refine Af.I b fun a b=>?_
  |refine Az.I b (aB []) fun m v b=>?_
  |refine AndA ?_
  |refine aE ?_
  |exact aA b⟩
instance zfu {n b a1bc0 a}:CI E0 (Xq n b a1bc0 a) true 46 [A4 b,.ref [.fn 77 [.ref [.sl 1 (List.map (fun q=>AV.mapv (List.map (encM aI AV.bool) q)) (a1bc0))]]],.ref (Bi a)] (fun r=>.bool (r)):=by unfold Xq;exact aK [] Tryz.func46
instance zfm {n a a1c0bc0 b}:CI E0 (Xo n a a1c0bc0 b) true 59 [.sl 3 (a.map A4),.fn 46 [.ref [.fn 77 [.ref [.sl 1 (List.map (fun q=>AV.mapv (List.map (encM aI AV.bool) q)) (a1c0bc0))]]],.ref (Bi b)]] aI:=by unfold Xo;exact aK [] aZ
instance zci {n a a1c0bc0 b}:CI E0 (Xf n a a1c0bc0 b) true 27 [.sl 3 (a.map A4),.fn 46 [.ref [.fn 77 [.ref [.sl 1 (List.map (fun q=>AV.mapv (List.map (encM aI AV.bool) q)) (a1c0bc0))]]],.ref (Bi b)]] (fun r=>.bool (r)):=by unfold Xf;exact aK [] bA
instance zje {n d c a2bc0}:CI E0 (R7 n d c a2bc0) true 45 [.sl 3 (d.map A4),A4 c,.ref [.fn 77 [.ref [.sl 1 (List.map (fun q=>AV.mapv (List.map (encM aI AV.bool) q)) (a2bc0))]]]] (fun r=>.bool (r)):=⟨fun {r} b=>by
 unfold R7 at b;refine cw Tryz.func45 ?_;repeat' first
  |refine aM ?_;conv=>whnf
  |refine aL b (fun b=>?_) fun b=>?_
  |refine aN ?_
  |refine aO ?_
  |refine B8.I b (fun a b=>?_) rfl rfl fun _=>Or.inr rfl
  |refine AndA ?_
  |refine aE ?_
  |exact aA b⟩
instance y22 {n f e d c}:CI E0 (Wk n f e d c) false 48 [Bl f,.sl 5 (e.map A7),A4 d,A7 c] (fun r=>.tup [.sl 3 (r.1.map A4),.sl 1 (r.2.1.map Au),aI r.2.2]):=⟨fun {r} b=>by
 unfold Wk at b;refine cw Tryz.func48 ?_;repeat' first
  |refine aM ?_;conv=>whnf
  |refine aL b (fun b=>?_) fun b=>?_
  |refine aN ?_
  |refine aO ?_
  |refine Af.oP b Ei (fun u=>.tup [.nilp,aI (u.2)]) (fun u y=>.tup [.ref [aI (y.fa.fVars),aI (y.fa.fScopes),.sl 1 (y.fa.fStates.map Ba),.sl 17 (y.fa.fEdges.map B6),.mapv (List.map (encM Be A7) (y.fheld))],aI (u.2)]) (fun u h=>by simp only [Ei,h,G2]) (fun u y h=>by simp only [Ei,h,G2]) (fun a h=>Ys.h h) (fun a b=>?_) (fun a y b=>?_)
  |(cases b;done)
  |refine Af.I b fun a b=>?_
  |refine AndA ?_
  |refine aE ?_
  |exact aA b⟩
instance zjd {n e a1bc0bc0 d c}:CI E0 (Y1 n e a1bc0bc0 d c) true 49 [A4 e,.ref [.fn 45 [.ref [.fn 77 [.ref [.sl 1 (List.map (fun q=>AV.mapv (List.map (encM aI AV.bool) q)) (a1bc0bc0))]]]]],.ref [.sl 1 (List.map (fun q=>AV.sl 3 (List.map A4 q)) (d.fSets))],.ref [aI c]] (fun r=>.bool (r)):=⟨fun {r} b=>by
 unfold Y1 at b;refine cw Tryz.func49 ?_;repeat' first
  |refine aM ?_;conv=>whnf
  |refine aL b (fun b=>?_) fun b=>?_
  |refine aN ?_
  |refine aO ?_
  |refine aP (fun q=>AV.sl 3 (List.map A4 q)) b fun x b=>?_
  |refine Af.I b fun a b=>?_
  |refine AndA ?_
  |refine aE ?_
  |exact aA b⟩
instance zfl {n a a1c0bc0bc0 b c}:CI E0 (Xn n a a1c0bc0bc0 b c) true 59 [.sl 3 (a.map A4),.fn 49 [.ref [.fn 45 [.ref [.fn 77 [.ref [.sl 1 (List.map (fun q=>AV.mapv (List.map (encM aI AV.bool) q)) (a1c0bc0bc0))]]]]],.ref [.sl 1 (List.map (fun q=>AV.sl 3 (List.map A4 q)) (b.fSets))],.ref [aI c]]] aI:=by unfold Xn;exact aK [] aZ
instance zch {n a a1c0bc0bc0 b c}:CI E0 (Ta n a a1c0bc0bc0 b c) true 27 [.sl 3 (a.map A4),.fn 49 [.ref [.fn 45 [.ref [.fn 77 [.ref [.sl 1 (List.map (fun q=>AV.mapv (List.map (encM aI AV.bool) q)) (a1c0bc0bc0))]]]]],.ref [.sl 1 (List.map (fun q=>AV.sl 3 (List.map A4 q)) (b.fSets))],.ref [aI c]]] (fun r=>.bool (r)):=by unfold Ta;exact aK [] bA
instance zn1 {n e d c}:CI E0 (E4 n e d c) true 17 [Bl e,.sl 5 (d.map A7),.agg [.sl 1 (List.map (fun q=>AV.sl 3 (List.map A4 q)) (c.fSets))]] aI:=⟨fun {r} b=>by
 unfold E4 at b;refine cw Tryz.func17 ?_;repeat' first
  |refine aT b 33000000 rfl rfl (fun b=>?_)
  |refine aU 33000000 rfl rfl ?_
  |refine aT b 9 rfl rfl (fun b=>?_)
  |refine aU 9 rfl rfl ?_
  |refine aX b (fun v b=>?_) fun b=>?_
  |refine aD b fun b=>?_
  |refine aG b 33000000 rfl (fun b=>?_)
  |refine aG b 9 rfl (fun b=>?_)
  |refine aG b 10 rfl (fun b=>?_)
  |refine aC [9,18] ?_;conv=>whnf
  |refine aL b (fun b=>?_) fun b=>?_
  |refine aN ?_
  |refine aO ?_
  |refine Af.I b fun a b=>?_
  |refine B8.oM (Bo 32 b) [] [(3,33000000)] _ _ M1 Qt [] (fun a h=>ConG.up (Xl h)) (Ay aF rfl rfl) rfl rfl rfl trivial (fun a=>⟨rfl,rfl,rfl,rfl,rfl,rfl,rfl,rfl⟩) (fun a b=>?_)
  |refine Af.oM (Bo 32 b) [] [(3,33000000)] _ _ M1 Qt [] (fun a h=>ConG.up (Xl h)) (Ay aF rfl rfl) rfl rfl rfl trivial (fun a=>⟨rfl,rfl,rfl,rfl,rfl,rfl,rfl,rfl⟩) (fun a b=>?_)
  |refine aP (fun q=>AV.sl 3 (List.map A4 q)) b fun x b=>?_
  |refine aH b fun x b=>?_
  |exact ⟨_,b,aB []⟩
  |refine SlsX.o A7 b (fun l b=>?_)
  |refine B8.I b (fun a b=>?_) rfl rfl fun _=>Or.inr rfl
  |refine Az.I b ?_ fun m v b=>?_
  |exact aB []
  |exact aR (LeX.frb 10 rfl rfl) (aB [])
  |refine AndA ?_
  |refine aE ?_
  |exact aA b⟩
end
noncomputable section
abbrev z4w {n f a e d b}:=li (Pu n f a e d b) (fun c=>⟨[(1,.sl 5 (f.map A7)),(2,.ptr 2 0),(6,.ptr 6 0),(9,.ptr 9 0),(71,aI ((((List.map (fun q=>AV.sl 3 (List.map A4 q)) (a.1.fSets)).length:Nat):Int))),(72,aI c)],[(2,.box 31 [.sl 1 (List.map (fun q=>AV.sl 3 (List.map A4 q)) (a.1.fSets))]),(6,.box 31 [.sl 1 (List.map (fun q=>AV.sl 3 (List.map A4 q)) (e.2.2.1.fSets))]),(9,.box 44 (G3 d.2.1))]⟩) fun _ _=>Pu.eq_2 ..
abbrev z51 {n e d c a}:=jf (Gn n e d c a) (fun b=>⟨[(1,.sl 5 (e.map A7)),(2,.ptr 2 0),(6,.ptr 6 0),(9,.ptr 9 0),(68,.bool (b))],[(2,.box 31 [.sl 1 (List.map (fun q=>AV.sl 3 (List.map A4 q)) (d.1.fSets))]),(6,.box 31 [.sl 1 (List.map (fun q=>AV.sl 3 (List.map A4 q)) (c.2.2.1.fSets))]),(9,.box 44 (G3 a.2.1))]⟩) fun _=>Gn.eq_1 ..
attribute [instance] z4w z51            
instance zj8 {n}:CI E0 (R1 n) true 12 [] (fun r=>.bool (r)):=⟨fun {r} b=>by
 unfold R1 at b;refine Con.env (E:=E0b) rfl rfl ?_;refine Con.walk _ bB rfl (Ay bB rfl rfl) rfl (Or.inr rfl) ?_;repeat' first
  |refine aX b (fun v b=>?_) fun b=>?_
  |refine aD b fun b=>?_
  |refine aG b 18 rfl (fun b=>?_)
  |refine aC [2,5,10,13,17] ?_;conv=>whnf
  |refine aL b (fun b=>?_) fun b=>?_
  |refine aN ?_
  |refine aO ?_
  |refine OpX.bldR A7 b rfl rfl rfl rfl rfl rfl rfl rfl rfl rfl rfl rfl rfl rfl rfl rfl (by first|exact SubR.refl _|(repeat' first|exact SubR.nil|refine SubR.cons ?_ ?_|exact SubL.nil|refine SubL.cons ?_ ?_|exact Sub.refl _|exact Sub.nil _)) rfl (fun l b=>?_)
  |refine OpX.bld A7 b rfl rfl rfl rfl rfl rfl rfl rfl rfl rfl rfl rfl rfl rfl rfl rfl (fun l b=>?_)
  |refine Af.I b fun a b=>?_
  |refine SlsX.o A7 b (fun l b=>?_)
  |refine Af.oR b (fun r=>r) (fun q=>AV.sl 3 (List.map A4 q)) (fun _=>AV.row 0) rfl (fun a h=>ConT.env rfl (zc8 h)) (fun a b=>?_)
  |refine Af.oR b (fun r=>r) (fun q=>AV.sl 3 (List.map A4 q)) (fun _=>AV.row 0) rfl (fun a h=>ConT.sub (by repeat' first|exact Sub.nil _|exact Sub.refl _|refine Sub.agg ?_|refine Sub.tup ?_|refine Sub.fn ?_|exact SubL.nil|refine SubL.cons ?_ ?_|refine Sub.sl _ ?_|exact SubE.nil|refine SubE.cons ?_ ?_) (ConT.env rfl (zc8 h))) (fun a b=>?_)
  |refine NatX.o b (fun m b=>?_)
  |refine EltX.o (fun q=>AV.sl 3 (List.map A4 q)) b (fun x b=>?_)
  |refine SlsX.o A4 b (fun l b=>?_)
  |refine SetX.o (fun q=>AV.sl 3 (List.map A4 q)) b (fun x=>rfl) (fun x=>(by first|exact SubL.refl _|(repeat' first|exact SubL.nil|refine SubL.cons ?_ ?_|exact Sub.refl _|exact Sub.nil _|refine Sub.agg ?_))) (fun l b=>?_)
  |refine B8.I b (fun a b=>?_) rfl rfl fun _=>Or.inr rfl
  |exact ⟨_,b,aB []⟩
  |refine aH b fun x b=>?_
  |refine aP (fun q=>AV.sl 3 (List.map A4 q)) b fun x b=>?_
  |refine Az.I b (aB []) fun m v b=>?_
  |refine AndA ?_
  |refine aE ?_
  |exact aA b⟩
end
noncomputable section
abbrev z74 {n a b c}:=jf (Lq n a b c) (fun d=>⟨[(0,.sl 3 (a.map A4)),(3,aI b),(29,.bool (d))],[]⟩) fun _=>Lq.eq_1 ..
abbrev z75 {n a b c d}:=jf (Lr n a b c d) (fun e=>⟨[(0,.sl 3 (a.map A4)),(3,aI b),(11,.bool (e))],[]⟩) fun _=>Lr.eq_1 ..
abbrev z73 {n a b}:=li (Ij n a b) (fun c=>⟨[(0,.sl 3 (a.map A4)),(3,aI c)],[]⟩) fun _ _=>Ij.eq_2 ..
abbrev z6v {n a b c d}:=jf (Lm n a b c d) (fun e=>⟨[(1,.ptr 1 0),(3,aI b),(12,.bool (e))],[(1,.box 31 [.sl 1 (List.map (fun q=>AV.sl 3 (List.map A4 q)) (a.fSets))])]⟩) fun _=>Lm.eq_1 ..
abbrev z6u {n a b}:=li (Ig n a b) (fun c=>⟨[(1,.ptr 1 0),(3,aI c)],[(1,.box 31 [.sl 1 (List.map (fun q=>AV.sl 3 (List.map A4 q)) (a.fSets))])]⟩) fun _ _=>Ig.eq_2 ..
attribute [instance]   z74 z75 z73 z6v z6u  
instance zmo {n a}:CI E0 (Uo n a) true 42 [.sl 3 (a.map A4)] (fun r=>.bool (r)):=by unfold Uo;exact aK [2,4] Tryz.func42
instance zmk {n c}:CI E0 (Um n c) true 16 [.agg [.sl 1 (List.map (fun q=>AV.sl 3 (List.map A4 q)) (c.fSets))]] (fun r=>.bool (r)):=⟨fun {r} b=>by
 unfold Um at b;refine cw Tryz.func16 ?_;repeat' first
  |refine aX b (fun v b=>?_) fun b=>?_
  |refine aD b fun b=>?_
  |refine aC [2] ?_;conv=>whnf
  |refine aL b (fun b=>?_) fun b=>?_
  |refine aN ?_
  |refine aO ?_
  |refine aP (fun q=>AV.sl 3 (List.map A4 q)) b fun x b=>?_
  |refine Af.I b fun a b=>?_
  |exact ⟨_,b,aB []⟩
  |refine Az.I b (aB []) fun m v b=>?_
  |refine AndA ?_
  |refine aE ?_
  |exact aA b⟩
end
end Go.Proofs.YtidhlpjgifoneaaGreat
