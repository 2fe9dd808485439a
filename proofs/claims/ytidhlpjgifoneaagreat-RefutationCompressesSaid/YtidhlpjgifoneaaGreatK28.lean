/- What some functions compute, over plain values. -/
import Derived.Test.YtidhlpjgifoneaaGreatK27
set_option linter.unusedVariables false
set_option linter.unusedSimpArgs false
set_option maxRecDepth 100000
set_option maxHeartbeats 8000000
namespace Go.Proofs.YtidhlpjgifoneaaGreat
open Go.RowKit List
open RetX renaming oB->aA
open LeX renaming a->aB,trans->aG
open AW renaming stepU->aC,regO->aE,frzO->aH,step->aL,frbO->aV,frb0->aW,jI->aZ
open Tryz renaming func44->aD,func35->aR,ntmps35->aX,func37->bA,func59->bB,func27->bC,func12->bD
open EqX renaming A->aF
open IdxX renaming o->aJ,A->aQ
open Aa renaming o->aK,t->aO,f->aP
open ConG renaming up->aM
open CI renaming w->aN
open Af renaming I->aS
noncomputable section
abbrev z8k {n d a b}:=li (Rm n d a b) (fun c=>⟨[(1,.sl 2 (d.map Ae)),(2,.fn 79 []),(15,.sl 2 (a.map Ae)),(16,aI (((a.map Ae).length:Int))),(17,aI c)],[]⟩) fun _ _=>Rm.eq_2 ..
abbrev z9s {n d a b}:=li (Mq n d a b) (fun c=>⟨[(1,.mapv (List.map (encM aI AV.bool) (d))),(5,.row 7022),(9,.sl 4 (a.fBindings.map Ar)),(10,aI (((a.fBindings.map Ar).length:Int))),(11,aI c.1)],[(7022,.row 76 4 (c.2.map Ar))]⟩) fun _ _=>Mq.eq_2 ..
abbrev zbj {n d a b}:=li (Sa n d a b) (fun c=>⟨[(0,.sl 4 (a.map Ar)),(1,.sl 4 (d.map Ar)),(12,aI (((a.map Ar).length:Int))),(13,aI c)],[]⟩) fun _ _=>Sa.eq_2 ..
abbrev z2k {n}:=jf (I5 n) (fun b=>⟨[(5,.bool (b))],[]⟩) fun _=>I5.eq_1 ..
abbrev z3s {n d a b g c e f}:=jf (Gl n d a b g c e f) (fun h=>⟨[(0,.sl 3 (a.map A4)),(1,.fn 77 [.ref [.sl 1 (List.map (fun q=>AV.mapv (List.map (encM aI AV.bool) q)) (d))]]),(5,.row 7053),(6,aI b.1),(7,.ptr 7 0),(8,aI ((-1))),(9,aI c),(11,.sl 3 (a.map A4)),(12,aI (((a.map A4).length:Int))),(13,aI b.1),(18,.sl 3 (a.map A4)),(19,aI (((a.map A4).length:Int))),(20,aI c),(45,.bool (h))],[(7,.box 60 (Bl g)),(7053,.row 60 3 (b.2.map A4))]⟩) fun _=>Gl.eq_1 ..
abbrev z3q {n c a b e d}:=li (Fp n c a b e d) (fun f=>⟨[(0,.sl 3 (a.map A4)),(1,.fn 77 [.ref [.sl 1 (List.map (fun q=>AV.mapv (List.map (encM aI AV.bool) q)) (c))]]),(5,.row 7053),(6,aI b.1),(7,.ptr 7 0),(8,aI ((-1))),(11,.sl 3 (a.map A4)),(12,aI (((a.map A4).length:Int))),(13,aI b.1),(18,.sl 3 (a.map A4)),(19,aI (((a.map A4).length:Int))),(20,aI f)],[(7,.box 60 (Bl e)),(7053,.row 60 3 (b.2.map A4))]⟩) fun _ _=>Fp.eq_2 ..
abbrev z3r {n b a c}:=li (Gk n b a c) (fun d=>⟨[(0,.sl 3 (a.map A4)),(1,.fn 77 [.ref [.sl 1 (List.map (fun q=>AV.mapv (List.map (encM aI AV.bool) q)) (b))]]),(5,.row 7053),(11,.sl 3 (a.map A4)),(12,aI (((a.map A4).length:Int))),(13,aI d.1)],[(7053,.row 60 3 (d.2.map A4))]⟩) fun _ _=>Gk.eq_2 ..
abbrev z3p {n a2c0bc0 a d b}:=li (Xz n a2c0bc0 a d b) (fun c=>⟨[(1,.sl 5 (a.map A6)),(2,.fn 52 [.ref [.fn 77 [.ref [.sl 1 (List.map (fun q=>AV.mapv (List.map (encM aI AV.bool) q)) (a2c0bc0))]]]]),(3,.ptr 3 0),(8,.row 7016),(17,.sl 5 (a.map A6)),(18,aI (((a.map A6).length:Int))),(19,aI c.1)],[(3,.box 25 (B4 d)),(7016,.row 57 1 (List.map (fun q=>AV.sl 3 (List.map A4 q)) (c.2)))]⟩) fun _ _=>Xz.eq_2 ..
abbrev z7v {n d a b}:=li (R8 n d a b) (fun c=>⟨[(0,.sl 2 (a.map Ae)),(1,.sl 2 (d.map Ae)),(12,aI (((a.map Ae).length:Int))),(13,aI c)],[]⟩) fun _ _=>R8.eq_2 ..
abbrev z9r {n}:=jf (J8 n) (fun b=>⟨[(4,.bool (b))],[]⟩) fun _=>J8.eq_1 ..
abbrev z6i {n c a}:=jf (H0 n c a) (fun b=>⟨[(2,.ptr 2 0),(5,.sl 3 (a.1.map A4)),(14,.bool (b))],[(2,.box 60 (Bl c))]⟩) fun _=>H0.eq_1 ..
attribute [instance] z8k z9s zbj z2k z3s z3q z3r z3p z7v z9r z6i
instance zey {n b a}:CI E0 (U5 n b a) true 79 [Ae b,Ae a] (fun r=>.bool (r)):=by unfold U5;exact aN [1] Tryz.func79
instance zp0 {n b a}:CI E0 (Vr n b a) true 78 [.sl 2 (b.map Ae),.sl 2 (a.map Ae),.fn 79 []] (fun r=>.bool (r)):=by unfold Vr;exact aN [] Tryz.func78
instance zqv {n d c}:CI E0 (Sf n d c) false 81 [A4 d,.mapv (List.map (encM aI AV.bool) (c))] (fun r=>.sl 4 (r.map Ar)):=⟨fun {r} a=>by
 unfold Sf at a;refine cw Tryz.func81 ?_;repeat' first
  |refine aE a fun a=>?_
  |refine aC [5] ?_;conv=>whnf
  |refine aK a (fun a=>?_) fun a=>?_
  |refine aO ?_
  |refine aP ?_
  |refine aQ a fun x a=>?_
  |refine OpX.lkv aI AV.bool a y7n rfl rfl rfl rfl rfl rfl rfl rfl rfl rfl (by first|rfl|kernel_rfl) (by repeat' first|exact Sub.nil _|exact Sub.refl _|refine Sub.agg ?_|refine Sub.tup ?_|refine Sub.fn ?_|exact SubL.nil|refine SubL.cons ?_ ?_|refine Sub.sl _ ?_|exact SubE.nil|refine SubE.cons ?_ ?_) (fun v b a=>?_)
  |refine AppX.oA a fun l a=>?_
  |exact ⟨_,a,aB [(7022,22)]⟩
  |exact ⟨_,a,aB []⟩
  |refine Ax.I a ?_ fun m v a=>?_
  |exact aG (LeX.adopt 5 7022 76 4 rfl rfl) (aB [])
  |refine AndA ?_
  |refine aF ?_
  |exact aA a⟩
instance zvn {n b a}:CI E0 (Sr n b a) true 80 [.sl 4 (b.map Ar),.sl 4 (a.map Ar)] (fun r=>.bool (r)):=by unfold Sr;exact aN [] Tryz.func80
instance zgh {n e d c}:CI E0 (Lq n e d c) true 77 [A4 e,A4 d,.ref [.sl 1 (List.map (fun q=>AV.mapv (List.map (encM aI AV.bool) q)) (c))]] (fun r=>.bool (r)):=⟨fun {r} b=>by
 unfold Lq at b;refine cw Tryz.func77 ?_;repeat' first
  |refine aZ b (fun v b=>?_) fun b=>?_
  |refine aE b fun b=>?_
  |refine aC [1] ?_;conv=>whnf
  |refine aK b (fun b=>?_) fun b=>?_
  |refine aO ?_
  |refine aP ?_
  |refine aS b fun a b=>?_
  |refine aJ (fun q=>AV.mapv (List.map (encM aI AV.bool) q)) b fun x b=>?_
  |exact ⟨_,b,aB []⟩
  |refine AndA ?_
  |refine aF ?_
  |exact aA b⟩
instance zi7 {n d b}:CI E0 (R9 n d b) false 53 [.sl 3 (d.map A4),.fn 77 [.ref [.sl 1 (List.map (fun q=>AV.mapv (List.map (encM aI AV.bool) q)) (b))]]] (fun r=>.sl 3 (r.map A4)):=⟨fun {r} c=>by
 unfold R9 at c;refine cw Tryz.func53 ?_;repeat' first
  |refine aZ c (fun v c=>?_) fun c=>?_
  |refine aE c fun c=>?_
  |refine aC [9,12] ?_;conv=>whnf
  |refine aK c (fun c=>?_) fun c=>?_
  |refine aO ?_
  |refine aP ?_
  |refine aQ c fun x c=>?_
  |refine AppX.oA c fun l c=>?_
  |exact ⟨_,c,aB [(7053,53)]⟩
  |exact ⟨_,c,aB []⟩
  |refine aS c fun a c=>?_
  |refine Ax.I c ?_ fun m v c=>?_
  |exact aB []
  |exact aG (LeX.adopt 5 7053 60 3 rfl rfl) (aB [])
  |refine AndA ?_
  |refine aF ?_
  |exact aA c⟩
instance zka {n a a1bc0}:CI E0 (z0e n a a1bc0) false 52 [.sl 3 (a.map A4),.ref [.fn 77 [.ref [.sl 1 (List.map (fun q=>AV.mapv (List.map (encM aI AV.bool) q)) (a1bc0))]]]] (fun r=>.sl 3 (r.map A4)):=by unfold z0e;exact aN [] Tryz.func52
instance zi6 {n d c a2c0bc0}:CI E0 (z04 n d c a2c0bc0) false 37 [Bj d,.sl 5 (c.map A6),.fn 52 [.ref [.fn 77 [.ref [.sl 1 (List.map (fun q=>AV.mapv (List.map (encM aI AV.bool) q)) (a2c0bc0))]]]]] (fun r=>.tup [.sl 1 (List.map (fun q=>AV.sl 3 (List.map A4 q)) (r.1)),aI r.2]):=⟨fun {r} b=>by
 unfold z04 at b;refine Con.env (E:=E0b) rfl rfl ?_;refine Con.walk _ bA rfl (B0 bA rfl rfl) rfl (Or.inl rfl) ?_;repeat' first
  |refine aL ?_;conv=>whnf
  |refine aK b (fun b=>?_) fun b=>?_
  |refine aO ?_
  |refine aP ?_
  |refine aS b fun a b=>?_
  |refine OpX.bldS A4 b rfl rfl rfl rfl rfl rfl rfl rfl rfl rfl rfl rfl rfl rfl (fun l b=>?_)
  |refine OpX.bldR (fun q=>AV.sl 3 (List.map A4 q)) b rfl rfl rfl rfl rfl rfl rfl rfl rfl rfl rfl rfl rfl rfl rfl rfl (by first|exact SubR.refl _|(repeat' first|exact SubR.nil|refine SubR.cons ?_ ?_|exact SubL.nil|refine SubL.cons ?_ ?_|exact Sub.refl _|exact Sub.nil _)) rfl (fun l b=>?_)
  |refine OpX.bld (fun q=>AV.sl 3 (List.map A4 q)) b rfl rfl rfl rfl rfl rfl rfl rfl rfl rfl rfl rfl rfl rfl rfl rfl (fun l b=>?_)
  |refine aQ b fun x b=>?_
  |refine SlsX.o A6 b (fun l b=>?_)
  |refine NatX.o b (fun m b=>?_)
  |refine EltX.o (fun q=>AV.sl 3 (List.map A4 q)) b (fun x b=>?_)
  |refine OpX.bldS (fun q=>AV.sl 3 (List.map A4 q)) b rfl rfl rfl rfl rfl rfl rfl rfl rfl rfl rfl rfl rfl rfl (fun l b=>?_)
  |refine AppX.oA b fun l b=>?_
  |exact ⟨_,b,aB [(7016,51)]⟩
  |refine Ax.I b ?_ fun m v b=>?_
  |exact aB [(7016,16)]
  |refine AndA ?_
  |refine aF ?_
  |exact aA b⟩
instance zo4 {n d c}:CI E0 (Yv n d c) false 19 [Bj d,.sl 5 (c.map A6)] (fun r=>.tup [aI r.1,Au r.2.1,.agg [.sl 1 (List.map (fun q=>AV.sl 3 (List.map A4 q)) (r.2.2.1.fSets))],aI r.2.2.2]):=⟨fun {r} b=>by
 unfold Yv at b;refine cw Tryz.func19 ?_;repeat' first
  |refine aV b 43000000 rfl rfl (fun b=>?_)
  |refine aW 43000000 rfl rfl ?_
  |refine aV b 11 rfl rfl (fun b=>?_)
  |refine aW 11 rfl rfl ?_
  |refine aE b fun b=>?_
  |refine aH b 43000000 rfl (fun b=>?_)
  |refine aH b 11 rfl (fun b=>?_)
  |refine aC [10] ?_;conv=>whnf
  |refine aK b (fun b=>?_) fun b=>?_
  |refine aO ?_
  |refine aP ?_
  |refine aS b fun a b=>?_
  |refine aQ b fun x b=>?_
  |refine B9.oM (Bm 42 b) [] [(3,43000000)] _ _ H8 J2 [] (fun a h=>aM (Qh h)) (B0 aD rfl rfl) rfl rfl rfl trivial (fun a=>⟨rfl,rfl,rfl,rfl,rfl,rfl,rfl,rfl⟩) (fun a b=>?_)
  |refine Af.oM (Bm 42 b) [] [(3,43000000)] _ _ H8 J2 [] (fun a h=>aM (Qh h)) (B0 aD rfl rfl) rfl rfl rfl trivial (fun a=>⟨rfl,rfl,rfl,rfl,rfl,rfl,rfl,rfl⟩) (fun a b=>?_)
  |refine AndA ?_
  |refine aF ?_
  |exact aA b⟩
set_option maxHeartbeats 400000 in
theorem zrb (l:List (Cel 1))(S:Nat->Prop)(v:Value)(w:World)(h:Sl w S 1 encC v l)(d:l.length<=1000000000) :
  Calls Tryz.prog 35 #[v] w (K2 57 1 encC l w):=by
 have eok:EOk Tryz.prog 29 57 1 24 (encC (n:=1)):=eokC (sz:=1) (Dd 29 _ rfl) rfl (Dd 57 _ rfl) (by omega) rfl;obtain ⟨A,c,rfl,f,_⟩:=h.form;have a:=fun (W:World)=>Lib.run_eql_slice_nil W 29 57 A l.length c 0 0 Tryz.underlying29
 have H:=hide h;cases A with
 |none =>
  have g:l=[]:=h.none_nil;subst g;clear h H d f;simp only [length_nil,Option.isNone_none] at a ⊢
  go_enter aR,aX
  go_wp2
  go_ret
  exact ⟨none,0,rfl,Own.nil_,by go_grown⟩
 |some ad =>
  clear h
  go_enter aR,aX
  go_wp2_with (at_builtin;refine Jg rfl _ _ rfl eok rfl Own.made_ rfl (H.out.alloc _) (by simp;omega) (by omega) (by simp) ?_;intro A' i w1 b e _)
  go_ret
  exact ⟨A',i,rfl,b,(Own.made_ (sz:=1) (enc:=encC (n:=1))).grown ((Below.refl _ _).alloc (Nat.le_refl _) _) (Nat.le_refl _) (by simp) e⟩
theorem zcf {n a r}(b:Cc n a=some r):ConT E0 35 [.sl 1 (List.map (fun q=>AV.sl 3 (List.map A4 q)) a)] 57 1 (List.map (fun q=>AV.sl 3 (List.map A4 q)) r) (.row 0):=Ny rfl (B0 aR rfl rfl) zrb b
instance y22 {n e d c}:CI E0 (Ns n e d c) true 74 [Bj e,.sl 5 (d.map A6),A4 c] aI:=⟨fun {r} b=>by
 unfold Ns at b;refine cw Tryz.func74 ?_;repeat' first
  |refine aL ?_;conv=>whnf
  |refine aK b (fun b=>?_) fun b=>?_
  |refine Af.oP b Ej (fun u=>.tup [.nilp,aI (u.2)]) (fun u y=>.tup [.ref [aI (y.fa.fVars),aI (y.fa.fScopes),.sl 1 (y.fa.fStates.map Bb),.sl 17 (y.fa.fEdges.map B7),.mapv (List.map (encM Bf A6) (y.fheld))],aI (u.2)]) (fun u h=>by simp only [Ej,h,G5]) (fun u y h=>by simp only [Ej,h,G5]) (fun a h=>Z8.h h) (fun a b=>?_) (fun a y b=>?_)
  |(cases b;done)
  |refine aS b fun a b=>?_
  |exact aA b⟩
instance zo1 {n b a}:CI E0 (Ve n b a) true 150 [.sl 2 (b.map Ae),.sl 2 (a.map Ae)] (fun r=>.bool (r)):=by unfold Ve;exact aN [] Tryz.func150
instance zqu {n b a}:CI E0 (W0 n b a) true 110 [A4 b,A4 a] (fun r=>.bool (r)):=by unfold W0;exact aN [1] Tryz.func110
end
noncomputable section
abbrev z9v {n a g h b c d e}:=jf (Ja n a g h b c d e) (fun f=>⟨[(1,.sl 5 (g.map A6)),(3,.ptr 3 0),(7,aI b),(8,.sl 3 (c.map A4)),(20,.sl 1 (List.map (fun q=>AV.sl 3 (List.map A4 q)) (a.fSets))),(21,aI ((((List.map (fun q=>AV.sl 3 (List.map A4 q)) (a.fSets)).length:Nat):Int))),(22,aI b),(30,.sl 3 (c.map A4)),(31,aI (((c.map A4).length:Int))),(32,aI d),(57,.bool (f))],[(3,.box 25 (B4 h))]⟩) fun _=>Ja.eq_1 ..
abbrev z9t {n a f g b c d}:=li (Di n a f g b c d) (fun e=>⟨[(1,.sl 5 (f.map A6)),(3,.ptr 3 0),(7,aI b),(8,.sl 3 (c.map A4)),(20,.sl 1 (List.map (fun q=>AV.sl 3 (List.map A4 q)) (a.fSets))),(21,aI ((((List.map (fun q=>AV.sl 3 (List.map A4 q)) (a.fSets)).length:Nat):Int))),(22,aI b),(30,.sl 3 (c.map A4)),(31,aI (((c.map A4).length:Int))),(32,aI e)],[(3,.box 25 (B4 g))]⟩) fun _ _=>Di.eq_2 ..
abbrev z9u {n a d e b}:=li (J9 n a d e b) (fun c=>⟨[(1,.sl 5 (d.map A6)),(3,.ptr 3 0),(20,.sl 1 (List.map (fun q=>AV.sl 3 (List.map A4 q)) (a.fSets))),(21,aI ((((List.map (fun q=>AV.sl 3 (List.map A4 q)) (a.fSets)).length:Nat):Int))),(22,aI c)],[(3,.box 25 (B4 e))]⟩) fun _ _=>J9.eq_2 ..
abbrev z2b {n b a1c0bc0 a c}:=li (Ki n b a1c0bc0 a c) (fun d=>⟨[(0,.sl 3 (a.map A4)),(1,.fn 46 [.ref [.fn 77 [.ref [.sl 1 (List.map (fun q=>AV.mapv (List.map (encM aI AV.bool) q)) (a1c0bc0))]]],.ref (Bl b)]),(7,aI (((a.map A4).length:Int))),(8,aI d)],[]⟩) fun _ _=>Ki.eq_2 ..
abbrev z2a {n b c a1c0bc0bc0 a d}:=li (Kh n b c a1c0bc0bc0 a d) (fun e=>⟨[(0,.sl 3 (a.map A4)),(1,.fn 49 [.ref [.fn 45 [.ref [.fn 77 [.ref [.sl 1 (List.map (fun q=>AV.mapv (List.map (encM aI AV.bool) q)) (a1c0bc0bc0))]]]]],.ref [.sl 1 (List.map (fun q=>AV.sl 3 (List.map A4 q)) (c.fSets))],.ref [aI b]]),(7,aI (((a.map A4).length:Int))),(8,aI e)],[]⟩) fun _ _=>Kh.eq_2 ..
abbrev z82 {n h a i b f c d e}:=jf (J1 n h a i b f c d e) (fun g=>⟨[(1,.sl 5 (a.map A6)),(3,.ptr 3 0),(5,.ptr 5 0),(10,.ref [.fn 45 [.ref [.fn 77 [.ref [.sl 1 (List.map (fun q=>AV.mapv (List.map (encM aI AV.bool) q)) (b.1))]]]]]),(11,.ptr 11 0),(12,.ptr 12 0),(42,.sl 5 (a.map A6)),(43,aI (((a.map A6).length:Int))),(44,aI b.2),(53,.sl 3 (c.map A4)),(54,aI (((c.map A4).length:Int))),(55,aI d),(81,.bool (g))],[(3,.box 25 (B4 i)),(5,.box 31 [.sl 1 (List.map (fun q=>AV.sl 3 (List.map A4 q)) (h.fSets))]),(11,.box 3 [aI b.2]),(12,.box 71 (Bx f))]⟩) fun _=>J1.eq_1 ..
abbrev z80 {n g a h b e c d}:=li (H6 n g a h b e c d) (fun f=>⟨[(1,.sl 5 (a.map A6)),(3,.ptr 3 0),(5,.ptr 5 0),(10,.ref [.fn 45 [.ref [.fn 77 [.ref [.sl 1 (List.map (fun q=>AV.mapv (List.map (encM aI AV.bool) q)) (b.1))]]]]]),(11,.ptr 11 0),(12,.ptr 12 0),(42,.sl 5 (a.map A6)),(43,aI (((a.map A6).length:Int))),(44,aI b.2),(53,.sl 3 (c.map A4)),(54,aI (((c.map A4).length:Int))),(55,aI f)],[(3,.box 25 (B4 h)),(5,.box 31 [.sl 1 (List.map (fun q=>AV.sl 3 (List.map A4 q)) (g.fSets))]),(11,.box 3 [aI b.2]),(12,.box 71 (Bx e))]⟩) fun _ _=>H6.eq_2 ..
abbrev z81 {n d a e b}:=li (J0 n d a e b) (fun c=>⟨[(1,.sl 5 (a.map A6)),(3,.ptr 3 0),(5,.ptr 5 0),(10,.ref [.fn 45 [.ref [.fn 77 [.ref [.sl 1 (List.map (fun q=>AV.mapv (List.map (encM aI AV.bool) q)) (c.1))]]]]]),(42,.sl 5 (a.map A6)),(43,aI (((a.map A6).length:Int))),(44,aI c.2)],[(3,.box 25 (B4 e)),(5,.box 31 [.sl 1 (List.map (fun q=>AV.sl 3 (List.map A4 q)) (d.fSets))])]⟩) fun _ _=>J0.eq_2 ..
abbrev z52 {n}:=jf (Q9 n) (fun b=>⟨[(0,.bool (b))],[]⟩) fun _=>Q9.eq_1 ..
abbrev z54 {n b c}:=jf (Lb n b c) (fun d=>⟨[(1,.sl 5 (b.map A6)),(6,.ptr 6 0),(118,.bool (d))],[(6,.box 31 [.sl 1 (List.map (fun q=>AV.sl 3 (List.map A4 q)) (c))])]⟩) fun _=>Lb.eq_1 ..
abbrev z51 {n g a f e b c}:=jf (Q8 n g a f e b c) (fun d=>⟨[(1,.sl 5 (g.map A6)),(2,.ptr 2 0),(6,.ptr 6 0),(9,.ptr 9 0),(71,aI ((((List.map (fun q=>AV.sl 3 (List.map A4 q)) (a.1.fSets)).length:Nat):Int))),(72,aI b),(95,.bool (d))],[(2,.box 31 [.sl 1 (List.map (fun q=>AV.sl 3 (List.map A4 q)) (a.1.fSets))]),(6,.box 31 [.sl 1 (List.map (fun q=>AV.sl 3 (List.map A4 q)) (f.2.2.1.fSets))]),(9,.box 44 (G6 e.2.1))]⟩) fun _=>Q8.eq_1 ..
attribute [instance] z9v z9t z9u z2b z2a z82 z80 z81 z52 z54 z51
instance zlb {n b a}:CI E0 (V1 n b a) true 75 [A4 b,A4 a] aI:=by unfold V1;exact aN [2] Tryz.func75
instance zqw {n e d c}:CI E0 (Je n e d c) true 43 [Bj e,.sl 5 (d.map A6),.agg [.sl 1 (List.map (fun q=>AV.sl 3 (List.map A4 q)) (c.fSets))]] aI:=⟨fun {r} b=>by
 unfold Je at b;refine cw Tryz.func43 ?_;repeat' first
  |refine aZ b (fun v b=>?_) fun b=>?_
  |refine aE b fun b=>?_
  |refine aC [14] ?_;conv=>whnf
  |refine aK b (fun b=>?_) fun b=>?_
  |refine aO ?_
  |refine aP ?_
  |refine aJ (fun q=>AV.sl 3 (List.map A4 q)) b fun x b=>?_
  |exact ⟨_,b,aB []⟩
  |refine aQ b fun x b=>?_
  |refine SlsX.o A6 b (fun l b=>?_)
  |refine aS b fun a b=>?_
  |refine Ax.I b (aB []) fun m v b=>?_
  |refine AndA ?_
  |refine aF ?_
  |exact aA b⟩
instance zgi {n b a1bc0 a}:CI E0 (Y8 n b a1bc0 a) true 46 [A4 b,.ref [.fn 77 [.ref [.sl 1 (List.map (fun q=>AV.mapv (List.map (encM aI AV.bool) q)) (a1bc0))]]],.ref (Bl a)] (fun r=>.bool (r)):=by unfold Y8;exact aN [] Tryz.func46
instance zga {n a a1c0bc0 b}:CI E0 (Y6 n a a1c0bc0 b) true 59 [.sl 3 (a.map A4),.fn 46 [.ref [.fn 77 [.ref [.sl 1 (List.map (fun q=>AV.mapv (List.map (encM aI AV.bool) q)) (a1c0bc0))]]],.ref (Bl b)]] aI:=by unfold Y6;exact aN [] bB
instance zd2 {n a a1c0bc0 b}:CI E0 (Xx n a a1c0bc0 b) true 27 [.sl 3 (a.map A4),.fn 46 [.ref [.fn 77 [.ref [.sl 1 (List.map (fun q=>AV.mapv (List.map (encM aI AV.bool) q)) (a1c0bc0))]]],.ref (Bl b)]] (fun r=>.bool (r)):=by unfold Xx;exact aN [] bC
instance zk9 {n d c a2bc0}:CI E0 (Rp n d c a2bc0) true 45 [.sl 3 (d.map A4),A4 c,.ref [.fn 77 [.ref [.sl 1 (List.map (fun q=>AV.mapv (List.map (encM aI AV.bool) q)) (a2bc0))]]]] (fun r=>.bool (r)):=⟨fun {r} b=>by
 unfold Rp at b;refine cw Tryz.func45 ?_;repeat' first
  |refine aL ?_;conv=>whnf
  |refine aK b (fun b=>?_) fun b=>?_
  |refine aO ?_
  |refine aP ?_
  |refine B9.I b (fun a b=>?_) rfl rfl fun _=>Or.inr rfl
  |refine AndA ?_
  |refine aF ?_
  |exact aA b⟩
instance y3d {n f e d c}:CI E0 (X1 n f e d c) false 48 [Bj f,.sl 5 (e.map A6),A4 d,A6 c] (fun r=>.tup [.sl 3 (r.1.map A4),.sl 1 (r.2.1.map Au),aI r.2.2]):=⟨fun {r} b=>by
 unfold X1 at b;refine cw Tryz.func48 ?_;repeat' first
  |refine aL ?_;conv=>whnf
  |refine aK b (fun b=>?_) fun b=>?_
  |refine aO ?_
  |refine aP ?_
  |refine Af.oP b Ej (fun u=>.tup [.nilp,aI (u.2)]) (fun u y=>.tup [.ref [aI (y.fa.fVars),aI (y.fa.fScopes),.sl 1 (y.fa.fStates.map Bb),.sl 17 (y.fa.fEdges.map B7),.mapv (List.map (encM Bf A6) (y.fheld))],aI (u.2)]) (fun u h=>by simp only [Ej,h,G5]) (fun u y h=>by simp only [Ej,h,G5]) (fun a h=>Z8.h h) (fun a b=>?_) (fun a y b=>?_)
  |(cases b;done)
  |refine aS b fun a b=>?_
  |refine AndA ?_
  |refine aF ?_
  |exact aA b⟩
instance zk8 {n e a1bc0bc0 d c}:CI E0 (Yj n e a1bc0bc0 d c) true 49 [A4 e,.ref [.fn 45 [.ref [.fn 77 [.ref [.sl 1 (List.map (fun q=>AV.mapv (List.map (encM aI AV.bool) q)) (a1bc0bc0))]]]]],.ref [.sl 1 (List.map (fun q=>AV.sl 3 (List.map A4 q)) (d.fSets))],.ref [aI c]] (fun r=>.bool (r)):=⟨fun {r} b=>by
 unfold Yj at b;refine cw Tryz.func49 ?_;repeat' first
  |refine aL ?_;conv=>whnf
  |refine aK b (fun b=>?_) fun b=>?_
  |refine aO ?_
  |refine aP ?_
  |refine aJ (fun q=>AV.sl 3 (List.map A4 q)) b fun x b=>?_
  |refine aS b fun a b=>?_
  |refine AndA ?_
  |refine aF ?_
  |exact aA b⟩
instance zg9 {n a a1c0bc0bc0 b c}:CI E0 (Y5 n a a1c0bc0bc0 b c) true 59 [.sl 3 (a.map A4),.fn 49 [.ref [.fn 45 [.ref [.fn 77 [.ref [.sl 1 (List.map (fun q=>AV.mapv (List.map (encM aI AV.bool) q)) (a1c0bc0bc0))]]]]],.ref [.sl 1 (List.map (fun q=>AV.sl 3 (List.map A4 q)) (b.fSets))],.ref [aI c]]] aI:=by unfold Y5;exact aN [] bB
instance zd1 {n a a1c0bc0bc0 b c}:CI E0 (Tw n a a1c0bc0bc0 b c) true 27 [.sl 3 (a.map A4),.fn 49 [.ref [.fn 45 [.ref [.fn 77 [.ref [.sl 1 (List.map (fun q=>AV.mapv (List.map (encM aI AV.bool) q)) (a1c0bc0bc0))]]]]],.ref [.sl 1 (List.map (fun q=>AV.sl 3 (List.map A4 q)) (b.fSets))],.ref [aI c]]] (fun r=>.bool (r)):=by unfold Tw;exact aN [] bC
instance zo3 {n e d c}:CI E0 (Dj n e d c) true 17 [Bj e,.sl 5 (d.map A6),.agg [.sl 1 (List.map (fun q=>AV.sl 3 (List.map A4 q)) (c.fSets))]] aI:=⟨fun {r} b=>by
 unfold Dj at b;refine cw Tryz.func17 ?_;repeat' first
  |refine aV b 33000000 rfl rfl (fun b=>?_)
  |refine aW 33000000 rfl rfl ?_
  |refine aV b 9 rfl rfl (fun b=>?_)
  |refine aW 9 rfl rfl ?_
  |refine aZ b (fun v b=>?_) fun b=>?_
  |refine aE b fun b=>?_
  |refine aH b 33000000 rfl (fun b=>?_)
  |refine aH b 9 rfl (fun b=>?_)
  |refine aH b 10 rfl (fun b=>?_)
  |refine aC [9,18] ?_;conv=>whnf
  |refine aK b (fun b=>?_) fun b=>?_
  |refine aO ?_
  |refine aP ?_
  |refine aS b fun a b=>?_
  |refine B9.oM (Bm 32 b) [] [(3,33000000)] _ _ H8 J2 [] (fun a h=>aM (Qh h)) (B0 aD rfl rfl) rfl rfl rfl trivial (fun a=>⟨rfl,rfl,rfl,rfl,rfl,rfl,rfl,rfl⟩) (fun a b=>?_)
  |refine Af.oM (Bm 32 b) [] [(3,33000000)] _ _ H8 J2 [] (fun a h=>aM (Qh h)) (B0 aD rfl rfl) rfl rfl rfl trivial (fun a=>⟨rfl,rfl,rfl,rfl,rfl,rfl,rfl,rfl⟩) (fun a b=>?_)
  |refine aJ (fun q=>AV.sl 3 (List.map A4 q)) b fun x b=>?_
  |refine aQ b fun x b=>?_
  |exact ⟨_,b,aB []⟩
  |refine SlsX.o A6 b (fun l b=>?_)
  |refine B9.I b (fun a b=>?_) rfl rfl fun _=>Or.inr rfl
  |refine Ax.I b ?_ fun m v b=>?_
  |exact aB []
  |exact aG (LeX.frb 10 rfl rfl) (aB [])
  |refine AndA ?_
  |refine aF ?_
  |exact aA b⟩
end
noncomputable section
abbrev z4z {n f a e d b}:=li (Q7 n f a e d b) (fun c=>⟨[(1,.sl 5 (f.map A6)),(2,.ptr 2 0),(6,.ptr 6 0),(9,.ptr 9 0),(71,aI ((((List.map (fun q=>AV.sl 3 (List.map A4 q)) (a.1.fSets)).length:Nat):Int))),(72,aI c)],[(2,.box 31 [.sl 1 (List.map (fun q=>AV.sl 3 (List.map A4 q)) (a.1.fSets))]),(6,.box 31 [.sl 1 (List.map (fun q=>AV.sl 3 (List.map A4 q)) (e.2.2.1.fSets))]),(9,.box 44 (G6 d.2.1))]⟩) fun _ _=>Q7.eq_2 ..
abbrev z56 {n e d c a}:=jf (Gt n e d c a) (fun b=>⟨[(1,.sl 5 (e.map A6)),(2,.ptr 2 0),(6,.ptr 6 0),(9,.ptr 9 0),(68,.bool (b))],[(2,.box 31 [.sl 1 (List.map (fun q=>AV.sl 3 (List.map A4 q)) (d.1.fSets))]),(6,.box 31 [.sl 1 (List.map (fun q=>AV.sl 3 (List.map A4 q)) (c.2.2.1.fSets))]),(9,.box 44 (G6 a.2.1))]⟩) fun _=>Gt.eq_1 ..
abbrev z5r {n a d b}:=li (Qn n a d b) (fun c=>⟨[(0,.sl 3 (d.map A4)),(1,.sl 3 (a.map A4)),(5,aI c)],[]⟩) fun _ _=>Qn.eq_2 ..
abbrev z5p {n a d b}:=li (Ql n a d b) (fun c=>⟨[(2,.ptr 2 0),(3,.ptr 3 0),(5,aI c)],[(2,.box 31 [.sl 1 (List.map (fun q=>AV.sl 3 (List.map A4 q)) (d.fSets))]),(3,.box 31 [.sl 1 (List.map (fun q=>AV.sl 3 (List.map A4 q)) (a.fSets))])]⟩) fun _ _=>Ql.eq_2 ..
abbrev z5g {n a d b}:=li (Qf n a d b) (fun c=>⟨[(6,.ptr 6 0),(9,.fn 77 [.ref [.sl 1 (List.map (fun q=>AV.mapv (List.map (encM aI AV.bool) q)) (d))]]),(10,.ptr 10 0),(24,.sl 1 (List.map (fun q=>AV.sl 3 (List.map A4 q)) (a.fSets))),(25,aI ((((List.map (fun q=>AV.sl 3 (List.map A4 q)) (a.fSets)).length:Nat):Int))),(26,aI c.1)],[(6,.box 31 [.nils]),(10,.box 31 [.row 7037]),(7037,.row 57 1 (List.map (fun q=>AV.sl 3 (List.map A4 q)) (c.2)))]⟩) fun _ _=>Qf.eq_2 ..
attribute [instance] z4z z56    z5r z5p   z5g    
instance zk3 {n}:CI E0 (Rk n) true 12 [] (fun r=>.bool (r)):=⟨fun {r} b=>by
 unfold Rk at b;refine Con.env (E:=E0b) rfl rfl ?_;refine Con.walk _ bD rfl (B0 bD rfl rfl) rfl (Or.inr rfl) ?_;repeat' first
  |refine aZ b (fun v b=>?_) fun b=>?_
  |refine aE b fun b=>?_
  |refine aH b 18 rfl (fun b=>?_)
  |refine aC [2,5,10,13,17] ?_;conv=>whnf
  |refine aK b (fun b=>?_) fun b=>?_
  |refine aO ?_
  |refine aP ?_
  |refine OpX.bldR A6 b rfl rfl rfl rfl rfl rfl rfl rfl rfl rfl rfl rfl rfl rfl rfl rfl (by first|exact SubR.refl _|(repeat' first|exact SubR.nil|refine SubR.cons ?_ ?_|exact SubL.nil|refine SubL.cons ?_ ?_|exact Sub.refl _|exact Sub.nil _)) rfl (fun l b=>?_)
  |refine OpX.bld A6 b rfl rfl rfl rfl rfl rfl rfl rfl rfl rfl rfl rfl rfl rfl rfl rfl (fun l b=>?_)
  |refine aS b fun a b=>?_
  |refine SlsX.o A6 b (fun l b=>?_)
  |refine Af.oR b (fun r=>r) (fun q=>AV.sl 3 (List.map A4 q)) (fun _=>AV.row 0) rfl (fun a h=>ConT.env rfl (zcf h)) (fun a b=>?_)
  |refine Af.oR b (fun r=>r) (fun q=>AV.sl 3 (List.map A4 q)) (fun _=>AV.row 0) rfl (fun a h=>ConT.sub (by repeat' first|exact Sub.nil _|exact Sub.refl _|refine Sub.agg ?_|refine Sub.tup ?_|refine Sub.fn ?_|exact SubL.nil|refine SubL.cons ?_ ?_|refine Sub.sl _ ?_|exact SubE.nil|refine SubE.cons ?_ ?_) (ConT.env rfl (zcf h))) (fun a b=>?_)
  |refine NatX.o b (fun m b=>?_)
  |refine EltX.o (fun q=>AV.sl 3 (List.map A4 q)) b (fun x b=>?_)
  |refine SlsX.o A4 b (fun l b=>?_)
  |refine SetX.o (fun q=>AV.sl 3 (List.map A4 q)) b (fun x=>rfl) (fun x=>(by first|exact SubL.refl _|(repeat' first|exact SubL.nil|refine SubL.cons ?_ ?_|exact Sub.refl _|exact Sub.nil _|refine Sub.agg ?_))) (fun l b=>?_)
  |refine B9.I b (fun a b=>?_) rfl rfl fun _=>Or.inr rfl
  |exact ⟨_,b,aB []⟩
  |refine aQ b fun x b=>?_
  |refine aJ (fun q=>AV.sl 3 (List.map A4 q)) b fun x b=>?_
  |refine Ax.I b (aB []) fun m v b=>?_
  |refine AndA ?_
  |refine aF ?_
  |exact aA b⟩
instance zkx {n b a}:CI E0 (Uw n b a) true 41 [.sl 3 (b.map A4),.sl 3 (a.map A4)] (fun r=>.bool (r)):=by unfold Uw;exact aN [] Tryz.func41
instance zkt {n d c}:CI E0 (Mn n d c) true 15 [.agg [.sl 1 (List.map (fun q=>AV.sl 3 (List.map A4 q)) (d.fSets))],.agg [.sl 1 (List.map (fun q=>AV.sl 3 (List.map A4 q)) (c.fSets))]] (fun r=>.bool (r)):=⟨fun {r} b=>by
 unfold Mn at b;refine cw Tryz.func15 ?_;repeat' first
  |refine aL ?_;conv=>whnf
  |refine aK b (fun b=>?_) fun b=>?_
  |refine aO ?_
  |refine aP ?_
  |refine aJ (fun q=>AV.sl 3 (List.map A4 q)) b fun x b=>?_
  |refine aS b fun a b=>?_
  |exact ⟨_,b,aB []⟩
  |refine Ax.I b (aB []) fun m v b=>?_
  |refine AndA ?_
  |refine aF ?_
  |exact aA b⟩
instance zkb {n e d c}:CI E0 (Mi n e d c) false 24 [Bj e,.sl 5 (d.map A6),.agg [.sl 1 (List.map (fun q=>AV.sl 3 (List.map A4 q)) (c.fSets))]] (fun r=>.tup [.agg [.sl 1 (List.map (fun q=>AV.sl 3 (List.map A4 q)) (r.1.fSets))],aI r.2]):=⟨fun {r} b=>by
 unfold Mi at b;refine cw Tryz.func24 ?_;repeat' first
  |refine aE b fun b=>?_
  |refine aH b 23000000 rfl (fun b=>?_)
  |refine aC [9] ?_;conv=>whnf
  |refine aK b (fun b=>?_) fun b=>?_
  |refine aO ?_
  |refine aP ?_
  |refine aS b fun a b=>?_
  |refine B9.oM (Bm 22 b) [] [(3,23000000)] _ _ H8 J2 [] (fun a h=>aM (Qh h)) (B0 aD rfl rfl) rfl rfl rfl trivial (fun a=>⟨rfl,rfl,rfl,rfl,rfl,rfl,rfl,rfl⟩) (fun a b=>?_)
  |refine Af.oM (Bm 22 b) [] [(3,23000000)] _ _ H8 J2 [] (fun a h=>aM (Qh h)) (B0 aD rfl rfl) rfl rfl rfl trivial (fun a=>⟨rfl,rfl,rfl,rfl,rfl,rfl,rfl,rfl⟩) (fun a b=>?_)
  |refine aJ (fun q=>AV.sl 3 (List.map A4 q)) b fun x b=>?_
  |refine AppX.oA b fun l b=>?_
  |exact ⟨_,b,aB [(7037,37)]⟩
  |refine Ax.I b ?_ fun m v b=>?_
  |exact aG (LeX.frb 23000000 rfl rfl) (aG (LeX.adoptC 10 0 7037 57 1 31 _ rfl rfl rfl) (aB []))
  |refine AndA ?_
  |refine aF ?_
  |exact aA b⟩
end
noncomputable section
abbrev z7c {n a b c}:=jf (Lz n a b c) (fun d=>⟨[(0,.sl 3 (a.map A4)),(3,aI b),(29,.bool (d))],[]⟩) fun _=>Lz.eq_1 ..
abbrev z7d {n a b c d}:=jf (M0 n a b c d) (fun e=>⟨[(0,.sl 3 (a.map A4)),(3,aI b),(11,.bool (e))],[]⟩) fun _=>M0.eq_1 ..
abbrev z7b {n a b}:=li (Iv n a b) (fun c=>⟨[(0,.sl 3 (a.map A4)),(3,aI c)],[]⟩) fun _ _=>Iv.eq_2 ..
abbrev z72 {n a b c d}:=jf (Lu n a b c d) (fun e=>⟨[(1,.ptr 1 0),(3,aI b),(12,.bool (e))],[(1,.box 31 [.sl 1 (List.map (fun q=>AV.sl 3 (List.map A4 q)) (a.fSets))])]⟩) fun _=>Lu.eq_1 ..
abbrev z71 {n a b}:=li (Iq n a b) (fun c=>⟨[(1,.ptr 1 0),(3,aI c)],[(1,.box 31 [.sl 1 (List.map (fun q=>AV.sl 3 (List.map A4 q)) (a.fSets))])]⟩) fun _ _=>Iq.eq_2 ..
attribute [instance]   z7c z7d z7b z72 z71  
instance znq {n a}:CI E0 (V7 n a) true 42 [.sl 3 (a.map A4)] (fun r=>.bool (r)):=by unfold V7;exact aN [2,4] Tryz.func42
instance znm {n c}:CI E0 (V5 n c) true 16 [.agg [.sl 1 (List.map (fun q=>AV.sl 3 (List.map A4 q)) (c.fSets))]] (fun r=>.bool (r)):=⟨fun {r} b=>by
 unfold V5 at b;refine cw Tryz.func16 ?_;repeat' first
  |refine aZ b (fun v b=>?_) fun b=>?_
  |refine aE b fun b=>?_
  |refine aC [2] ?_;conv=>whnf
  |refine aK b (fun b=>?_) fun b=>?_
  |refine aO ?_
  |refine aP ?_
  |refine aJ (fun q=>AV.sl 3 (List.map A4 q)) b fun x b=>?_
  |refine aS b fun a b=>?_
  |exact ⟨_,b,aB []⟩
  |refine Ax.I b (aB []) fun m v b=>?_
  |refine AndA ?_
  |refine aF ?_
  |exact aA b⟩
end
end Go.Proofs.YtidhlpjgifoneaaGreat
