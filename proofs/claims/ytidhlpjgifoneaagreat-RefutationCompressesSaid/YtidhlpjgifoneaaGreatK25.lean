/- What some functions compute, over plain values. -/
import Derived.Test.YtidhlpjgifoneaaGreatK24
set_option linter.unusedVariables false
set_option linter.unusedSimpArgs false
set_option maxRecDepth 100000
set_option maxHeartbeats 8000000
namespace Go.Proofs.YtidhlpjgifoneaaGreat
open Go.RowKit
open LeX renaming a->aA,trans->aL,adopt->aM,pa->aP
open RetX renaming oB->aB
open AW renaming stepU->aC,regO->aE,step->aJ,jI->aR
open IdxX renaming A->aD
open CI renaming w->aF
open AppX renaming oA->aG
open Aa renaming o->aH
open Ax renaming I->aK
open Af renaming I->aN
noncomputable section
abbrev z4y {n a b}:=li (Gs n a b) (fun c=>⟨[(0,.sl 5 (a.map A6)),(3,aI c)],[]⟩) fun _ _=>Gs.eq_2 ..
abbrev z4g {n a d b}:=li (Q2 n a d b) (fun c=>⟨[(0,.sl 5 (d.map A6)),(3,.ptr 3 0),(4,.ptr 4 0),(6,aI c)],[(3,.box 74 (zzh a)),(4,.box 71 [aI 0,aI 0,aI 0,aI 0,.nils])]⟩) fun _ _=>Q2.eq_2 ..
abbrev z4h {n d e f a b}:=li (Ft n d e f a b) (fun c=>⟨[(0,.sl 5 (f.map A6)),(1,aI e),(2,.sl 4 (d.map Ar)),(6,.ptr 6 0),(7,.ptr 7 0),(8,aI c.1)],[(6,.box 220 [.nils]),(7,.box 220 [.cont (a) 13]),(13,.nest 26 (List.map (enR A6 71 5) (c.2)))]⟩) fun _ _=>Ft.eq_2 ..
abbrev z1h {n}:=jf (Kc n) (fun b=>⟨[(6,.bool (b))],[]⟩) fun _=>Kc.eq_1 ..
abbrev z48 {n e d a b}:=li (Py n e d a b) (fun c=>⟨[(7,.ptr 7 0),(9,.ptr 9 0),(10,.sl 11 (a.fGuards.map Be)),(11,aI c)],[(7,.box 71 (Bx e)),(9,.box 220 (Dl d))]⟩) fun _ _=>Py.eq_2 ..
abbrev z5u {n a d b}:=li (Lh n a d b) (fun c=>⟨[(1,aI a),(2,.ptr 2 0),(5,.row 7029),(6,aI c.1)],[(2,.box 25 (B4 d)),(7029,.row 115 17 (c.2.map B7))]⟩) fun _ _=>Lh.eq_2 ..
abbrev z73 {n a d b}:=li (Qw n a d b) (fun c=>⟨[(0,.sl 1 (d.map aI)),(1,aI a),(5,aI c)],[]⟩) fun _ _=>Qw.eq_2 ..
abbrev z34 {n a d b}:=li (Kr n a d b) (fun c=>⟨[(0,.sl 2 (d.map Ae)),(1,aI a),(5,.row 7026),(6,aI c.1)],[(7026,.row 102 2 (c.2.map Ae))]⟩) fun _ _=>Kr.eq_2 ..
abbrev z33 {n f g a b c d}:=jf (Kq n f g a b c d) (fun e=>⟨[(0,.sl 2 (a.map Ae)),(1,aI g),(2,aI f),(7,.row 7031),(8,aI b.1),(24,.bool (e))],[(7031,.row 102 2 (b.2.map Ae))]⟩) fun _=>Kq.eq_1 ..
abbrev z32 {n d e a b}:=li (I8 n d e a b) (fun c=>⟨[(0,.sl 2 (a.map Ae)),(1,aI e),(2,aI d),(7,.row 7031),(8,aI c.1)],[(7031,.row 102 2 (c.2.map Ae))]⟩) fun _ _=>I8.eq_2 ..
abbrev z5q {n a d e b}:=li (Qm n a d e b) (fun c=>⟨[(0,.sl 2 (e.map Ae)),(2,aI a),(4,.ptr 4 0),(7,aI c)],[(4,.box 209 (Ze d))]⟩) fun _ _=>Qm.eq_2 ..
abbrev z1w {n a b c}:=li (Oz n a b c) (fun d=>⟨[(8,.ptr 8 0),(10,.ptr 10 0),(15,.ptr 15 0),(20,aI d.1)],[(8,.box 115 (C7 a)),(10,.box 60 [aI 0,.nils,.nils]),(15,.box 60 [aI a.fTo,.sl 4 (b.map Ar),.sl 2 (d.2.map Ae)])]⟩) fun _ _=>Oz.eq_2 ..
abbrev z1x {n a b c d e}:=li (P0 n a b c d e) (fun f=>⟨[(8,.ptr 8 0),(10,.ptr 10 0),(15,.ptr 15 0),(18,.ptr 18 0),(19,aI f)],[(8,.box 115 (C7 a)),(10,.box 60 [aI 0,.nils,.nils]),(15,.box 60 [aI a.fTo,.sl 4 (c.map Ar),.sl 2 (b.map Ae)]),(18,.box 220 (Dl d))]⟩) fun _ _=>P0.eq_2 ..
abbrev z1y {n e a f g b c}:=li (P1 n e a f g b c) (fun d=>⟨[(1,.sl 5 (g.map A6)),(7,.ptr 7 0),(8,.ptr 8 0),(9,.ptr 9 0),(10,.ptr 10 0),(15,.ptr 15 0),(17,aI d)],[(7,.box 60 (Bl f)),(8,.box 115 (C7 a)),(9,.box 71 (Bx e)),(10,.box 60 [aI 0,.nils,.nils]),(15,.box 60 [aI a.fTo,.nils,.sl 2 (b.map Ae)])]⟩) fun _ _=>P1.eq_2 ..
attribute [instance] z4y z4g z4h z1h z48 z5u z73 z34 z33 z32 z5q z1w z1x z1y
instance zk1 {n a}:CI E0 (Rj n a) true 64 [.sl 5 (a.map A6)] aI:=by unfold Rj;exact aF [] Tryz.func64
instance zkw {n b a}:CI E0 (Hd n b a) true 32 [Bj b,.sl 5 (a.map A6)] aI:=by unfold Hd;exact aF [] Tryz.func32
instance zjk {n}:CI E0 (Rc n) false 65 [] A4:=by unfold Rc;exact aF [] Tryz.func65
instance zjo {n b a}:CI E0 (Me n b a) false 166 [.sl 5 (b.map A6),Bf a] (fun r=>.tup [A6 r.1,.bool (r.2)]):=by unfold Me;exact aF [] Tryz.func166
instance zjp {n e d c}:CI E0 (Yh n e d c) false 196 [.sl 5 (e.map A6),aI d,.sl 4 (c.map Ar)] Dk:=⟨fun {r} b=>by
 unfold Yh at b;refine cw Tryz.func196 ?_;repeat' first
  |refine AW.nstO (er:=A6) 71 5 b 13 rfl (fun b=>?_)
  |refine AW.frrO (ety:=71) (sz:=5) A6 b 13 rfl (fun b=>?_)
  |refine aE b fun b=>?_
  |refine aC [9,7,2] ?_;conv=>whnf
  |refine aH b (fun b=>?_) fun b=>?_
  |refine Aa.f ?_
  |refine MakX.on b (fun m b=>?_)
  |refine aD b fun x b=>?_
  |refine aN b fun a b=>?_
  |refine OpX.ixc b rfl rfl rfl rfl rfl rfl rfl rfl (fun b=>?_)
  |refine OpX.ntk A6 b rfl rfl rfl rfl rfl rfl rfl rfl rfl rfl (fun q b=>?_)
  |refine aG b fun l b=>?_
  |refine OpX.npt A6 b rfl rfl rfl rfl rfl rfl rfl rfl rfl rfl rfl (fun l b=>?_)
  |exact ⟨_,b,aA []⟩
  |refine aK b (aA []) fun m v b=>?_
  |refine AndA ?_
  |refine EqX.A ?_
  |exact aB b⟩
def zax (r:Aq):AV:=.agg [.sl 1 (List.map (fun q=>AV.sl 5 (List.map A6 q)) (r.fVars))]
instance z8s {n b a}:CI E0 (Mu n b a) false 167 [.sl 5 (b.map A6),A4 a] Dk:=by unfold Mu;exact aF [] Tryz.func167
instance zfe {n c b a}:CI E0 (Px n c b a) true 168 [Be c,Dk b,A6 a] (fun r=>.bool (r)):=by unfold Px;exact aF [1] Tryz.func168
instance zjj {n d c b a}:CI E0 (Uo n d c b a) true 125 [Bj d,.sl 5 (c.map A6),A4 b,A6 a] (fun r=>.bool (r)):=by unfold Uo;exact aF [] Tryz.func125
instance zkz {n c b}:CI E0 (J7 n c b) false 126 [Bj c,aI b] (fun r=>.sl 17 (r.map B7)):=⟨fun {r} a=>by
 unfold J7 at a;refine cw Tryz.func126 ?_;repeat' first
  |refine aE a fun a=>?_
  |refine aC [5] ?_;conv=>whnf
  |refine aH a (fun a=>?_) fun a=>?_
  |refine aD a fun x a=>?_
  |refine aG a fun l a=>?_
  |exact ⟨_,a,aA [(7029,29)]⟩
  |exact ⟨_,a,aA []⟩
  |refine aK a ?_ fun m v a=>?_
  |exact aL (aM 5 7029 115 17 rfl rfl) (aA [])
  |exact aB a⟩
instance znn {n b a}:CI E0 (V6 n b a) true 169 [.sl 1 (b.map aI),aI a] (fun r=>.bool (r)):=by unfold V6;exact aF [] Tryz.func169
instance zhv {n c b}:CI E0 (Qx n c b) false 173 [.sl 2 (c.map Ae),aI b] (fun r=>.sl 2 (r.map Ae)):=⟨fun {r} a=>by
 unfold Qx at a;refine cw Tryz.func173 ?_;repeat' first
  |refine aE a fun a=>?_
  |refine aC [5] ?_;conv=>whnf
  |refine aH a (fun a=>?_) fun a=>?_
  |refine aD a fun x a=>?_
  |refine aG a fun l a=>?_
  |exact ⟨_,a,aA [(7026,26)]⟩
  |exact ⟨_,a,aA []⟩
  |refine aK a ?_ fun m v a=>?_
  |exact aL (aM 5 7026 102 2 rfl rfl) (aA [])
  |exact aB a⟩
instance zhu {n e d c}:CI E0 (Uf n e d c) false 171 [.sl 2 (e.map Ae),aI d,aI c] (fun r=>.sl 2 (r.map Ae)):=⟨fun {r} b=>by
 unfold Uf at b;refine cw Tryz.func171 ?_;repeat' first
  |refine aR b (fun v b=>?_) fun b=>?_
  |refine aE b fun b=>?_
  |refine aC [4] ?_;conv=>whnf
  |refine aH b (fun b=>?_) fun b=>?_
  |refine aN b fun a b=>?_
  |refine aG b fun l b=>?_
  |refine SlsX.o Ae b (fun l b=>?_)
  |refine aD b fun x b=>?_
  |exact ⟨_,b,aA [(7031,31)]⟩
  |exact ⟨_,b,aA []⟩
  |refine aK b ?_ fun m v b=>?_
  |exact aL (aM 7 7031 102 2 rfl rfl) (aA [])
  |exact aB b⟩
instance zkv {n c b a}:CI E0 (Uv n c b a) true 172 [.sl 2 (c.map Ae),Ce b,aI a] (fun r=>.bool (r)):=by unfold Uv;exact aF [] Tryz.func172
end
noncomputable section
abbrev z1z {n d a e f b}:=li (P2 n d a e f b) (fun c=>⟨[(1,.sl 5 (f.map A6)),(7,.ptr 7 0),(8,.ptr 8 0),(9,.ptr 9 0),(10,.ptr 10 0),(15,.ptr 15 0),(16,aI c.1)],[(7,.box 60 (Bl e)),(8,.box 115 (C7 a)),(9,.box 71 (Bx d)),(10,.box 60 [aI 0,.nils,.nils]),(15,.box 60 [aI a.fTo,.nils,.sl 2 (c.2.map Ae)])]⟩) fun _ _=>P2.eq_2 ..
abbrev z23 {n a c d e}:=jf (Ef n a c d e) (fun b=>⟨[(1,.sl 5 (e.map A6)),(7,.ptr 7 0),(8,.ptr 8 0),(9,.ptr 9 0),(10,.ptr 10 0),(70,.bool (b))],[(7,.box 60 (Bl d)),(8,.box 115 (C7 c)),(9,.box 71 (Bx a)),(10,.box 60 [aI 0,.nils,.nils])]⟩) fun _=>Ef.eq_1 ..
abbrev z21 {n f g h i e a b c}:=jf (Ke n f g h i e a b c) (fun d=>⟨[(1,.sl 5 (i.map A6)),(7,.ptr 7 0),(8,.ptr 8 0),(9,.ptr 9 0),(10,.ptr 10 0),(12,.ptr 12 0),(13,.sl 11 (a.fGuards.map Be)),(14,aI b),(54,.bool (d))],[(7,.box 60 (Bl h)),(8,.box 115 (C7 g)),(9,.box 71 (Bx f)),(10,.box 60 [aI 0,.nils,.nils]),(12,.box 220 (Dl e))]⟩) fun _=>Ke.eq_1 ..
abbrev z20 {n e f g h d a b}:=li (I1 n e f g h d a b) (fun c=>⟨[(1,.sl 5 (h.map A6)),(7,.ptr 7 0),(8,.ptr 8 0),(9,.ptr 9 0),(10,.ptr 10 0),(12,.ptr 12 0),(13,.sl 11 (a.fGuards.map Be)),(14,aI c)],[(7,.box 60 (Bl g)),(8,.box 115 (C7 f)),(9,.box 71 (Bx e)),(10,.box 60 [aI 0,.nils,.nils]),(12,.box 220 (Dl d))]⟩) fun _ _=>I1.eq_2 ..
abbrev z7p {n a d b}:=jf (M4 n a d b) (fun c=>⟨[(0,.sl 1 (d.map Au)),(3,.ptr 3 0),(5,aI b),(34,.bool (c))],[(3,.box 44 (G6 a))]⟩) fun _=>M4.eq_1 ..
abbrev z7o {n a f b c d}:=jf (M3 n a f b c d) (fun e=>⟨[(0,.sl 1 (f.map Au)),(3,.ptr 3 0),(5,aI b),(19,.bool (e))],[(3,.box 44 (G6 a))]⟩) fun _=>M3.eq_1 ..
abbrev z7n {n a d b}:=li (Iy n a d b) (fun c=>⟨[(0,.sl 1 (d.map Au)),(3,.ptr 3 0),(5,aI c)],[(3,.box 44 (G6 a))]⟩) fun _ _=>Iy.eq_2 ..
abbrev z79 {n d e f g a c}:=li (Iu n d e f g a c) (fun b=>⟨[(1,.sl 5 (f.map A6)),(4,.ptr 4 0),(6,.ptr 6 0),(7,.ptr 7 0),(10,.sl 3 (b.1.map A4)),(11,.sl 1 (b.2.1.map Au)),(12,.sl 17 (a.map B7)),(13,aI b.2.2)],[(4,.box 25 (B4 g)),(6,.box 60 (Bl e)),(7,.box 71 (Bx d))]⟩) fun _ _=>Iu.eq_2 ..
abbrev z7a {n a c d e}:=jt (Ly n a c d e) (fun b=>⟨[(1,.sl 5 (d.map A6)),(4,.ptr 4 0),(6,.ptr 6 0),(7,.ptr 7 0),(10,.sl 3 (b.map A4)),(11,.nils)],[(4,.box 25 (B4 e)),(6,.box 60 (Bl c)),(7,.box 71 (Bx a))]⟩) fun _=>Ly.eq_1 ..
abbrev z7e {n a g h i d b c e}:=li (Qz n a g h i d b c e) (fun f=>⟨[(1,.sl 5 (h.map A6)),(2,.sl 3 (g.map A4)),(4,.ptr 4 0),(7,.ptr 7 0),(10,.sl 3 (b.map A4)),(11,.sl 1 (f.1.map Au)),(12,aI d.2.2),(14,.sl 1 (c.map Au)),(16,aI f.2)],[(4,.box 25 (B4 i)),(7,.box 71 (Bx a))]⟩) fun _ _=>Qz.eq_2 ..
abbrev z7f {n a f g h b c d}:=li (R0 n a f g h b c d) (fun e=>⟨[(1,.sl 5 (g.map A6)),(2,.sl 3 (f.map A4)),(4,.ptr 4 0),(7,.ptr 7 0),(10,.sl 3 (e.1.map A4)),(11,.sl 1 (b.2.1.map Au)),(12,aI b.2.2),(13,.sl 3 (c.1.map A4)),(14,.sl 1 (c.2.map Au)),(15,aI e.2)],[(4,.box 25 (B4 h)),(7,.box 71 (Bx a))]⟩) fun _ _=>R0.eq_2 ..
abbrev z7g {n a d e f c}:=li (R1 n a d e f c) (fun b=>⟨[(1,.sl 5 (e.map A6)),(2,.sl 3 (d.map A4)),(4,.ptr 4 0),(7,.ptr 7 0),(10,.sl 3 (b.1.map A4)),(11,.sl 1 (b.2.1.map Au)),(12,aI b.2.2)],[(4,.box 25 (B4 f)),(7,.box 71 (Bx a))]⟩) fun _ _=>R1.eq_2 ..
attribute [instance] z1z z23 z21 z20 z7p z7o z7n z79 z7a z7e z7f z7g
instance zg5 {n g f e d c}:CI E0 (Lg n g f e d c) false 127 [Bj g,.sl 5 (f.map A6),A4 e,B7 d,A6 c] (fun r=>.tup [A4 r.1,.bool (r.2)]):=⟨fun {r} b=>by
 unfold Lg at b;refine Con.env (E:=E0b) rfl rfl ?_;refine Con.walk _ Tryz.func127 rfl (B0 Tryz.func127 rfl rfl) rfl (Or.inl rfl) ?_;repeat' first
  |refine aR b (fun v b=>?_) fun b=>?_
  |refine aE b fun b=>?_
  |refine AW.frzO b 125 rfl (fun b=>?_)
  |refine aC [21,6,8] ?_;conv=>whnf
  |refine aH b (fun b=>?_) fun b=>?_
  |refine aN b fun a b=>?_
  |refine aD b fun x b=>?_
  |refine AppX.oA0 b fun l b=>?_
  |refine OpX.bldS Ar b rfl rfl rfl rfl rfl rfl rfl rfl rfl rfl rfl rfl rfl rfl (fun l b=>?_)
  |refine aG b fun l b=>?_
  |refine OpX.bldR A6 b rfl rfl rfl rfl rfl rfl rfl rfl rfl rfl rfl rfl rfl rfl rfl rfl (by first|exact SubR.refl _|(repeat' first|exact SubR.nil|refine SubR.cons ?_ ?_|exact SubL.nil|refine SubL.cons ?_ ?_|exact Sub.refl _|exact Sub.nil _)) rfl (fun l b=>?_)
  |refine B9.oE b 130 zax rfl (fun a h=>Con.env rfl rfl (z8s.h h)) rfl rfl (fun a b=>?_)
  |exact ⟨_,b,aA []⟩
  |refine aK b (aA []) fun m v b=>?_
  |refine IdxX.oD b D4 (fun x b=>?_)
  |refine Af.S b fun a b=>?_
  |refine AndA ?_
  |exact aB b⟩
instance znv {n d c}:CI E0 (Mv n d c) false 67 [.sl 1 (d.map Au),Au c] (fun r=>.sl 1 (r.map Au)):=⟨fun {r} b=>by
 unfold Mv at b;refine cw Tryz.func67 ?_;repeat' first
  |refine aR b (fun v b=>?_) fun b=>?_
  |refine aE b fun b=>?_
  |refine aC [2,4] ?_;conv=>whnf
  |refine aH b (fun b=>?_) fun b=>?_
  |refine SlsX.o Au b (fun l b=>?_)
  |refine AppX.oA0 b fun l b=>?_
  |refine aG b fun l b=>?_
  |refine aD b fun x b=>?_
  |refine aN b fun a b=>?_
  |exact ⟨_,b,aA []⟩
  |refine aK b (aA []) fun m v b=>?_
  |refine AndA ?_
  |exact aB b⟩
instance znp {n f e d c}:CI E0 (Mt n f e d c) false 88 [Bj f,.sl 5 (e.map A6),A4 d,A6 c] (fun r=>.tup [.sl 3 (r.1.map A4),.sl 1 (r.2.map Au)]):=⟨fun {r} b=>by
 unfold Mt at b;refine cw Tryz.func88 ?_;repeat' first
  |refine AW.jI2 b (fun v b=>?_) fun b=>?_
  |refine aE b fun b=>?_
  |refine aC [3,11] ?_;conv=>whnf
  |refine aH b (fun b=>?_) fun b=>?_
  |refine aN b fun a b=>?_
  |refine aD b fun x b=>?_
  |exact ⟨_,b,aA []⟩
  |refine aK b ?_ fun m v b=>?_
  |exact aP 11 (aA [])
  |refine Af.S b fun a b=>?_
  |exact ⟨_,b,aP 10 (aA [])⟩
  |refine AndA ?_
  |exact aB b⟩
instance znr {n f e d c}:CI E0 (S1 n f e d c) false 66 [Bj f,.sl 5 (e.map A6),.sl 3 (d.map A4),A6 c] (fun r=>.tup [.sl 3 (r.1.map A4),.sl 1 (r.2.map Au)]):=⟨fun {r} b=>by
 unfold S1 at b;refine cw Tryz.func66 ?_;repeat' first
  |refine aJ ?_;conv=>whnf
  |refine aH b (fun b=>?_) fun b=>?_
  |refine aD b fun x b=>?_
  |refine aN b fun a b=>?_
  |exact ⟨_,b,aA []⟩
  |refine aK b ?_ fun m v b=>?_
  |exact aA []
  |exact aP 10 (aP 11 (aA []))
  |refine AndA ?_
  |exact aB b⟩
end
noncomputable section
abbrev z37 {n a g h d e b c}:=jf (Ks n a g h d e b c) (fun f=>⟨[(1,.sl 5 (g.map A6)),(2,aI a),(3,.ptr 3 0),(10,.sl 1 (b.map Au)),(11,aI d.2.2),(12,.sl 3 (c.map A4)),(55,.bool (f))],[(3,.box 25 (B4 h))]⟩) fun _=>Ks.eq_1 ..
abbrev z35 {n a f g b c d}:=li (Pe n a f g b c d) (fun e=>⟨[(1,.sl 5 (f.map A6)),(2,aI a),(3,.ptr 3 0),(10,.sl 1 (e.1.map Au)),(11,aI b.2.2),(12,.sl 3 (c.1.map A4)),(13,.sl 1 (c.2.map Au)),(14,aI e.2)],[(3,.box 25 (B4 g))]⟩) fun _ _=>Pe.eq_2 ..
abbrev z36 {n a d e c}:=li (I9 n a d e c) (fun b=>⟨[(1,.sl 5 (d.map A6)),(2,aI a),(3,.ptr 3 0),(9,.sl 3 (b.1.map A4)),(10,.sl 1 (b.2.1.map Au)),(11,aI b.2.2)],[(3,.box 25 (B4 e))]⟩) fun _ _=>I9.eq_2 ..
abbrev z47 {n a c}:=jf (L2 n a c) (fun b=>⟨[(1,.sl 5 (a.map A6)),(2,.ptr 2 0),(15,.bool (b))],[(2,.box 25 (B4 c))]⟩) fun _=>L2.eq_1 ..
abbrev zbh {n a b}:=li (N3 n a b) (fun c=>⟨[(0,.sl 5 (a.map A6)),(3,.row 9),(10,.sl 5 (a.map A6)),(11,aI (((a.map A6).length:Int))),(12,aI c.1)],[(9,.mp (List.map (encM N1 AV.bool) (c.2)))]⟩) fun _ _=>N3.eq_2 ..
abbrev zfl {n d a b}:=li (Su n d a b) (fun c=>⟨[(8,.ptr 24 0),(25,.sl 5 (d.map A6)),(26,aI (((d.map A6).length:Int))),(27,aI c.1)],[(24,.box 180 [aI a.fVars,aI a.fScopes,.sl 1 (a.fStates.map Bb),.sl 17 (a.fEdges.map B7),.row 22]),(22,.mp (List.map (encM Bf A6) (c.2)))]⟩) fun _ _=>Su.eq_2 ..
abbrev z6g {n e a b c}:=jf (Gz n e a b c) (fun d=>⟨[(0,.ref [aI a.fa.fVars,aI a.fa.fScopes,.sl 1 (a.fa.fStates.map Bb),.sl 17 (a.fa.fEdges.map B7),.mapv (List.map (encM Bf A6) (a.fheld))]),(3,.ptr 3 0),(84,.sl 2 (e.fStarts.map Ae)),(85,aI (((e.fStarts.map Ae).length:Int))),(86,aI b),(115,.bool (d))],[(3,.box 60 (Bl e))]⟩) fun _=>Gz.eq_1 ..
abbrev z6h {n f a b c e}:=jf (F4 n f a b c e) (fun d=>⟨[(0,.ref [aI a.fa.fVars,aI a.fa.fScopes,.sl 1 (a.fa.fStates.map Bb),.sl 17 (a.fa.fEdges.map B7),.mapv (List.map (encM Bf A6) (a.fheld))]),(3,.ptr 3 0),(9,aI b),(10,.ptr 10 0),(84,.sl 2 (f.fStarts.map Ae)),(85,aI (((f.fStarts.map Ae).length:Int))),(86,aI b),(91,.bool (d))],[(3,.box 60 (Bl f)),(10,.box 102 (zau e))]⟩) fun _=>F4.eq_1 ..
abbrev z7x {n d a b}:=li (Dh n d a b) (fun c=>⟨[(0,.ref [aI a.fa.fVars,aI a.fa.fScopes,.sl 1 (a.fa.fStates.map Bb),.sl 17 (a.fa.fEdges.map B7),.mapv (List.map (encM Bf A6) (a.fheld))]),(3,.ptr 3 0),(84,.sl 2 (d.fStarts.map Ae)),(85,aI (((d.fStarts.map Ae).length:Int))),(86,aI c)],[(3,.box 60 (Bl d))]⟩) fun _ _=>Dh.eq_2 ..
abbrev z6e {n f a b c e}:=jf (Gx n f a b c e) (fun d=>⟨[(0,.ref [aI a.fa.fVars,aI a.fa.fScopes,.sl 1 (a.fa.fStates.map Bb),.sl 17 (a.fa.fEdges.map B7),.mapv (List.map (encM Bf A6) (a.fheld))]),(3,.ptr 3 0),(8,.bool (e)),(32,.sl 4 (f.fBindings.map Ar)),(33,aI (((f.fBindings.map Ar).length:Int))),(34,aI b),(63,.bool (d))],[(3,.box 60 (Bl f))]⟩) fun _=>Gx.eq_1 ..
abbrev z6f {n g a b c e f}:=jf (Gy n g a b c e f) (fun d=>⟨[(0,.ref [aI a.fa.fVars,aI a.fa.fScopes,.sl 1 (a.fa.fStates.map Bb),.sl 17 (a.fa.fEdges.map B7),.mapv (List.map (encM Bf A6) (a.fheld))]),(3,.ptr 3 0),(5,aI b),(6,.ptr 6 0),(8,.bool (f)),(32,.sl 4 (g.fBindings.map Ar)),(33,aI (((g.fBindings.map Ar).length:Int))),(34,aI b),(49,.bool (d))],[(3,.box 60 (Bl g)),(6,.box 76 (zkm e))]⟩) fun _=>Gy.eq_1 ..
abbrev z7y {n d a b}:=li (E6 n d a b) (fun c=>⟨[(0,.ref [aI a.fa.fVars,aI a.fa.fScopes,.sl 1 (a.fa.fStates.map Bb),.sl 17 (a.fa.fEdges.map B7),.mapv (List.map (encM Bf A6) (a.fheld))]),(3,.ptr 3 0),(32,.sl 4 (d.fBindings.map Ar)),(33,aI (((d.fBindings.map Ar).length:Int))),(34,aI c)],[(3,.box 60 (Bl d))]⟩) fun _ _=>E6.eq_2 ..
abbrev z7z {n c a}:=jf (H5 n c a) (fun b=>⟨[(0,.ref [aI a.fa.fVars,aI a.fa.fScopes,.sl 1 (a.fa.fStates.map Bb),.sl 17 (a.fa.fEdges.map B7),.mapv (List.map (encM Bf A6) (a.fheld))]),(3,.ptr 3 0),(11,.bool (b))],[(3,.box 60 (Bl c))]⟩) fun _=>H5.eq_1 ..
attribute [instance] z37 z35 z36 z47  zbh zfl z6g z6h z7x z6e z6f z7y z7z
instance zhw {n e d c}:CI E0 (Ug n e d c) false 33 [Bj e,.sl 5 (d.map A6),aI c] (fun r=>.tup [.sl 3 (r.1.map A4),.sl 1 (r.2.1.map Au),.bool (r.2.2)]):=⟨fun {r} b=>by
 unfold Ug at b;refine cw Tryz.func33 ?_;repeat' first
  |refine aR b (fun v b=>?_) fun b=>?_
  |refine aE b fun b=>?_
  |refine aC [11] ?_;conv=>whnf
  |refine aH b (fun b=>?_) fun b=>?_
  |refine aN b fun a b=>?_
  |refine aD b fun x b=>?_
  |exact ⟨_,b,aA []⟩
  |refine aK b ?_ fun m v b=>?_
  |exact aA []
  |exact aP 10 (aA [])
  |refine AndA ?_
  |exact aB b⟩
instance zji {n b a}:CI E0 (Md n b a) true 11 [Bj b,.sl 5 (a.map A6)] (fun r=>.bool (r)):=by unfold Md;exact aF [1] Tryz.func11
instance zku {n b a}:CI E0 (F5 n b a) true 39 [Bj b,.sl 5 (a.map A6)] aI:=by unfold F5;exact aF [] Tryz.func39
instance zl9 {n}:CI E0 (Mo n) false 34 [] Bj:=⟨fun {r} b=>by
 unfold Mo at b;refine cw Tryz.func34 ?_;repeat' first
  |refine aJ ?_;conv=>whnf
  |refine aH b (fun b=>?_) fun b=>?_
  |refine Aa.t ?_
  |refine Aa.f ?_
  |refine aN b fun a b=>?_
  |refine MakX.o Bb b (by first|exact SubL.refl _|(repeat' first|exact SubL.nil|refine SubL.cons ?_ ?_|exact Sub.refl _|exact Sub.nil _|refine Sub.agg ?_)) (fun l b=>?_)
  |refine AndA ?_
  |refine EqX.A ?_
  |exact aB b⟩
instance zv7 {n a}:CI E0 (Wa n a) true 106 [A6 a] (fun r=>.bool (r)):=by unfold Wa;exact aF [] Tryz.func106
instance y29 {n a}:CI E0 (Wt n a) true 148 [A6 a] Bf:=by unfold Wt;exact aF [] Tryz.func148
instance zvb {n b a}:CI E0 (Wc n b a) true 107 [A6 b,A6 a] aI:=by unfold Wc;exact aF [] Tryz.func107
instance y21 {n a}:CI E0 (Nr n a) true 108 [A6 a] N1:=by unfold Nr;exact aF [] Tryz.func108
theorem zyr (a b:Jd):eqK (N1 a) (N1 b)=some (decide (a=b)):=by cases a;cases b;simp [N1,eqK,eqL,eq1,aI,Nz]
instance zvl {n d}:CI E0 (Sq n d) true 70 [.sl 5 (d.map A6)] aI:=⟨fun {r} c=>by
 unfold Sq at c;refine cw Tryz.func70 ?_;repeat' first
  |refine aJ ?_;conv=>whnf
  |refine aH c (fun c=>?_) fun c=>?_
  |refine Aa.f ?_
  |refine aD c fun x c=>?_
  |refine aN c fun a c=>?_
  |refine LkX.o N1 AV.bool c (by first|rfl|kernel_rfl) zyr (by repeat' first|exact Sub.nil _|exact Sub.refl _|refine Sub.agg ?_|refine Sub.tup ?_|refine Sub.fn ?_|exact SubL.nil|refine SubL.cons ?_ ?_|refine Sub.sl _ ?_|exact SubE.nil|refine SubE.cons ?_ ?_) (fun v b c=>?_)
  |refine UpX.o N1 AV.bool c (by first|rfl|kernel_rfl) zyr (by repeat' first|exact Sub.nil _|exact Sub.refl _|refine Sub.agg ?_|refine Sub.tup ?_|refine Sub.fn ?_|exact SubL.nil|refine SubL.cons ?_ ?_|refine Sub.sl _ ?_|exact SubE.nil|refine SubE.cons ?_ ?_) (fun l c=>?_)
  |exact ⟨_,c,aA []⟩
  |refine aK c (aA []) fun m v c=>?_
  |refine AndA ?_
  |exact aB c⟩
instance zp1 {n b a}:CI E0 (F7 n b a) true 36 [Bj b,.sl 5 (a.map A6)] aI:=by unfold F7;exact aF [] Tryz.func36
instance y23 {n}:CI E0 (Jm n) false 47 [] A4:=by unfold Jm;exact aF [] Tryz.func47
theorem zyq (a b:Bh):eqK (Bf a) (Bf b)=some (decide (a=b)):=by cases a;cases b;simp [Bf,eqK,eqL,eq1,aI,Nz]
def G5:Option Ba->AV |none=>.nilp |some x=>.ref [aI (x.fa.fVars),aI (x.fa.fScopes),.sl 1 (x.fa.fStates.map Bb),.sl 17 (x.fa.fEdges.map B7),.mapv (List.map (encM Bf A6) (x.fheld))]
def Ej (r:(Option Ba)×Int):AV:=.tup [G5 (r.1),aI (r.2)]
instance Z8 {n d c}:CI E0 (G8 n d c) false 82 [Bj d,.sl 5 (c.map A6)] (fun r=>.tup [G5 (r.1),aI r.2]):=⟨fun {r} b=>by
 unfold G8 at b;refine cw Tryz.func82 ?_;repeat' first
  |refine aJ ?_;conv=>whnf
  |refine aH b (fun b=>?_) fun b=>?_
  |refine aN b fun a b=>?_
  |refine aD b fun x b=>?_
  |refine OpX.nckP rfl rfl rfl rfl rfl ?_
  |refine UpX.o Bf A6 b (by first|rfl|kernel_rfl) zyq (by repeat' first|exact Sub.nil _|exact Sub.refl _|refine Sub.agg ?_|refine Sub.tup ?_|refine Sub.fn ?_|exact SubL.nil|refine SubL.cons ?_ ?_|refine Sub.sl _ ?_|exact SubE.nil|refine SubE.cons ?_ ?_) (fun l b=>?_)
  |exact ⟨_,b,aA []⟩
  |refine aK b (aA []) fun m v b=>?_
  |refine AndA ?_
  |exact aB b⟩
end
noncomputable section
abbrev z9p {n d a e b}:=li (Rv n d a e b) (fun c=>⟨[(0,.ref [aI a.fa.fVars,aI a.fa.fScopes,.sl 1 (a.fa.fStates.map Bb),.sl 17 (a.fa.fEdges.map B7),.mapv (List.map (encM Bf A6) (a.fheld))]),(4,.ptr 4 0),(5,.ptr 5 0),(15,.sl 4 (d.map Ar)),(16,aI (((d.map Ar).length:Int))),(17,aI c.1)],[(4,.box 220 [.nils]),(5,.box 220 [.cont (e) 13]),(13,.nest 26 (List.map (enR A6 71 5) (c.2)))]⟩) fun _ _=>Rv.eq_2 ..
abbrev z1n {n a a0f2 a0f1 a0f0}:=jf (Kd n a a0f2 a0f1 a0f0) (fun b=>⟨[(1,aI a),(2,.ptr 2 0),(14,.bool (b))],[(2,.box 293 [.sl 1 (List.map (fun q=>AV.sl 5 (List.map A6 q)) (a0f0.fVars)),aI a0f1,aI a0f2.fSource,aI a0f2.fSeq,aI a0f2.fType,aI a0f2.fTime,.sl 3 (a0f2.fValues.map Ag),.mapv [(aI 5,.fn 254 [.ref [.fn 253 []]]),(aI 6,.fn 255 [.ref [.fn 253 []]]),(aI 7,.fn 256 []),(aI 8,.fn 257 []),(aI 10,.fn 258 []),(aI 11,.fn 259 []),(aI 12,.fn 260 [])]])]⟩) fun _=>Kd.eq_1 ..
abbrev z2l {n d a b}:=li (P9 n d a b) (fun c=>⟨[(3,.ptr 3 0),(4,.ptr 4 0),(6,.row 7034),(14,.sl 5 (a.map A6)),(15,aI (((a.map A6).length:Int))),(16,aI c.1)],[(3,.box 111 (Cm d)),(4,.box 109 [aI 0,aI 0,.str (ByteArray.empty)]),(7034,.row 109 3 (c.2.map Ag))]⟩) fun _ _=>P9.eq_2 ..
abbrev z3t {n a}:=jt (Ky n a) (fun b=>⟨[(4,.ptr 4 0),(8,.ptr 8 0),(9,aI b)],[(4,.box 109 [aI 0,aI 0,.str (ByteArray.empty)]),(8,.box 109 (Cg a.1))]⟩) fun _=>Ky.eq_1 ..
abbrev z3u {n a}:=jt (Kz n a) (fun b=>⟨[(3,.ptr 3 0),(4,.ptr 4 0),(7,.ptr 7 0)],[(3,.box 111 (Cm a)),(4,.box 109 [aI 0,aI 0,.str (ByteArray.empty)]),(7,.box 71 [aI b.1,aI b.2.1,aI b.2.2.1,aI b.2.2.2.1,.sl 3 (b.2.2.2.2.map Ag)])]⟩) fun _=>Kz.eq_1 ..
abbrev zb8 {n a f b c d}:=jt (Jc n a f b c d) (fun e=>⟨[(0,aI f),(1,.sl 1 (a.map aI)),(6,aI d),(7,.bool (true)),(8,.sl 1 (a.map aI)),(9,aI (((a.map aI).length:Int))),(10,aI b),(14,aI f),(22,.bool (e))],[]⟩) fun _=>Jc.eq_1 ..
abbrev zba {n a f b c d}:=jt (Hh n a f b c d) (fun e=>⟨[(0,aI f),(1,.sl 1 (a.map aI)),(6,aI d),(7,.bool (true)),(8,.sl 1 (a.map aI)),(9,aI (((a.map aI).length:Int))),(10,aI b),(14,aI f),(15,.bool (e))],[]⟩) fun _=>Hh.eq_1 ..
abbrev zb7 {n a d b}:=li (G4 n a d b) (fun c=>⟨[(0,aI d),(1,.sl 1 (a.map aI)),(8,.sl 1 (a.map aI)),(9,aI (((a.map aI).length:Int))),(10,aI c)],[]⟩) fun _ _=>G4.eq_2 ..
abbrev z84 {n}:=jf (M9 n) (fun b=>⟨[(4,.ptr 4 0)],[(4,.box 109 [aI b.1,aI b.2.1,.str (b.2.2)])]⟩) fun _=>M9.eq_1 ..
attribute [instance] z9p z1n z2l z3t z3u zb8 zba zb7 z84
instance zo2 {n d e}:CI E0 (Ei n d e) true 83 [.ref [aI d.fa.fVars,aI d.fa.fScopes,.sl 1 (d.fa.fStates.map Bb),.sl 17 (d.fa.fEdges.map B7),.mapv (List.map (encM Bf A6) (d.fheld))],A4 e] aI:=⟨fun {r} c=>by
 unfold Ei at c;refine cw Tryz.func83 ?_;repeat' first
  |refine aR c (fun v c=>?_) fun c=>?_
  |refine aE c fun c=>?_
  |refine aC [1,9,11,19,21] ?_;conv=>whnf
  |refine aH c (fun c=>?_) fun c=>?_
  |refine Aa.t ?_
  |refine aD c fun x c=>?_
  |exact ⟨_,c,aA []⟩
  |refine OpX.nckR rfl rfl rfl rfl ?_
  |refine aK c (aA []) fun m v c=>?_
  |refine OpX.lkv Bf A6 c zyq rfl rfl rfl rfl rfl rfl rfl rfl rfl rfl (by first|rfl|kernel_rfl) (by repeat' first|exact Sub.nil _|exact Sub.refl _|refine Sub.agg ?_|refine Sub.tup ?_|refine Sub.fn ?_|exact SubL.nil|refine SubL.cons ?_ ?_|refine Sub.sl _ ?_|exact SubE.nil|refine SubE.cons ?_ ?_) (fun v b c=>?_)
  |refine aN c fun a c=>?_
  |refine AndA ?_
  |exact aB c⟩
def z9h (c:Ba)(b:A0)(a:A8):List (Nat×Ent):=[]
def Yb (r:Ba×A0×A8):List (Nat×Ent):=[(3,.box 137 [.ref [aI r.1.fa.fVars,aI r.1.fa.fScopes,.sl 1 (r.1.fa.fStates.map Bb),.sl 17 (r.1.fa.fEdges.map B7),.mapv (List.map (encM Bf A6) (r.1.fheld))]]),(4,.box 60 (Bl r.2.1)),(5,.box 71 (Bx r.2.2))]
def z08 (r:Ba×A0×A8):AV:=.fn 156 [.ptr 3 0,.ptr 4 0,.ptr 5 0]
def z95 (r:Ba×A0×A8):AS:=⟨[(6,.fn 156 [.ptr 3 0,.ptr 4 0,.ptr 5 0])],Yb r⟩
theorem z6k {n a c b r}(d:Yi n a c b=some r):ConG E0.P none (CalF E0.P 120 0) [.ref [aI a.fa.fVars,aI a.fa.fScopes,.sl 1 (a.fa.fStates.map Bb),.sl 17 (a.fa.fEdges.map B7),.mapv (List.map (encM Bf A6) (a.fheld))],A4 c,A6 b] [] (z9h a c b) (z08 r) (Yb r):=by
 unfold Yi at d;refine ConG.walk (E:=(E0p 3)) (caps:=[]) _ Tryz.func120 rfl rfl rfl rfl rfl ?_;repeat' first
  |refine aJ ?_;conv=>whnf
  |exact GX.A (res:=z08) (meF:=Yb) d z95
def z5l (b:(List A0))(a:(List Ac)):List (Nat×Ent):=[(100000,.box 57 [.row 200000]),(200000,.row 60 3 (b.map A4)),(100001,.box 50 [.row 200001]),(200001,.row 44 1 (a.map Au))]
def L0 (r:(List A0)×(List Ac)):List (Nat×Ent):=[(100000,.box 57 [.row 250000]),(250000,.row 60 3 (r.1.map A4)),(100001,.box 50 [.row 250001]),(250001,.row 44 1 (r.2.map Au))]
def z0l (r:(List A0)×(List Ac)):AS:=⟨[(8,.ptr 100000 0),(9,.ptr 100001 0)],L0 r⟩
instance zqs {n c d}:CI E0 (Vy n c d) false 157 [.ref [aI c.fa.fVars,aI c.fa.fScopes,.sl 1 (c.fa.fStates.map Bb),.sl 17 (c.fa.fEdges.map B7),.mapv (List.map (encM Bf A6) (c.fheld))],.sl 4 (d.map Ar)] Dk:=⟨fun {r} a=>by
 unfold Vy at a;refine cw Tryz.func157 ?_;repeat' first
  |refine AW.nstO (er:=A6) 71 5 a 13 rfl (fun a=>?_)
  |refine AW.frrO (ety:=71) (sz:=5) A6 a 13 rfl (fun a=>?_)
  |refine aE a fun a=>?_
  |refine aC [7,2] ?_;conv=>whnf
  |refine aH a (fun a=>?_) fun a=>?_
  |refine OpX.nckR rfl rfl rfl rfl ?_
  |refine MakX.on a (fun m a=>?_)
  |refine aD a fun x a=>?_
  |refine OpX.ixc a rfl rfl rfl rfl rfl rfl rfl rfl (fun a=>?_)
  |refine OpX.ntk A6 a rfl rfl rfl rfl rfl rfl rfl rfl rfl rfl (fun q a=>?_)
  |refine OpX.lkv Bf A6 a zyq rfl rfl rfl rfl rfl rfl rfl rfl rfl rfl (by first|rfl|kernel_rfl) (by repeat' first|exact Sub.nil _|exact Sub.refl _|refine Sub.agg ?_|refine Sub.tup ?_|refine Sub.fn ?_|exact SubL.nil|refine SubL.cons ?_ ?_|refine Sub.sl _ ?_|exact SubE.nil|refine SubE.cons ?_ ?_) (fun v b a=>?_)
  |refine aG a fun l a=>?_
  |refine OpX.npt A6 a rfl rfl rfl rfl rfl rfl rfl rfl rfl rfl rfl (fun l a=>?_)
  |exact ⟨_,a,aA []⟩
  |refine aK a (aA []) fun m v a=>?_
  |refine AndA ?_
  |refine EqX.A ?_
  |exact aB a⟩
theorem zaq:Con E0 false 240 [] (.mapv [(aI 5,.fn 254 [.ref [.fn 253 []]]),(aI 6,.fn 255 [.ref [.fn 253 []]]),(aI 7,.fn 256 []),(aI 8,.fn 257 []),(aI 10,.fn 258 []),(aI 11,.fn 259 []),(aI 12,.fn 260 [])]):=by
 refine Con.walk _ Tryz.func240 rfl (B0 Tryz.func240 rfl rfl) rfl (Or.inl rfl) ?_;repeat' first
  |refine AW.frb0 1 rfl rfl ?_
  |refine AW.into ?_
  |refine aC [2] ?_;conv=>whnf
  |refine UpX.mk _ _ (by first|rfl|kernel_rfl) (by first|rfl|kernel_rfl) (SubM.refl _) ?_
  |exact RetX.mk rfl
instance zfi {n a0f0 a0f1 a0f2 b}:CI E0 (Qg n a0f0 a0f1 a0f2 b) false 269 [.agg [.sl 1 (List.map (fun q=>AV.sl 5 (List.map A6 q)) (a0f0.fVars)),aI a0f1,aI a0f2.fSource,aI a0f2.fSeq,aI a0f2.fType,aI a0f2.fTime,.sl 3 (a0f2.fValues.map Ag),.mapv [(aI 5,.fn 254 [.ref [.fn 253 []]]),(aI 6,.fn 255 [.ref [.fn 253 []]]),(aI 7,.fn 256 []),(aI 8,.fn 257 []),(aI 10,.fn 258 []),(aI 11,.fn 259 []),(aI 12,.fn 260 [])]],aI b] (fun r=>.sl 5 (r.map A6)):=⟨fun {r} a=>by
 unfold Qg at a;refine cw Tryz.func269 ?_;repeat' first
  |refine aR a (fun v a=>?_) fun a=>?_
  |refine aE a fun a=>?_
  |refine aC [1] ?_;conv=>whnf
  |refine aH a (fun a=>?_) fun a=>?_
  |refine IdxX.o (fun q=>AV.sl 5 (List.map A6 q)) a fun x a=>?_
  |exact ⟨_,a,aA []⟩
  |exact aB a⟩
instance y04 {n b a}:CI E0 (Nq n b a) true 271 [A6 b,aI a] (fun r=>.tup [Ag r.1,aI r.2]):=by unfold Nq;exact aF [] Tryz.func271
instance zgj {n a0f0 a0f1 a0f2 c}:CI E0 (Y9 n a0f0 a0f1 a0f2 c) true 270 [.agg [.sl 1 (List.map (fun q=>AV.sl 5 (List.map A6 q)) (a0f0.fVars)),aI a0f1,aI a0f2.fSource,aI a0f2.fSeq,aI a0f2.fType,aI a0f2.fTime,.sl 3 (a0f2.fValues.map Ag),.mapv [(aI 5,.fn 254 [.ref [.fn 253 []]]),(aI 6,.fn 255 [.ref [.fn 253 []]]),(aI 7,.fn 256 []),(aI 8,.fn 257 []),(aI 10,.fn 258 []),(aI 11,.fn 259 []),(aI 12,.fn 260 [])]],Av c] (fun r=>.tup [Ag r.1,aI r.2]):=⟨fun {r} b=>by
 unfold Y9 at b;refine cw Tryz.func270 ?_;repeat' first
  |refine aJ ?_;conv=>whnf
  |refine aH b (fun b=>?_) fun b=>?_
  |refine aN b fun a b=>?_
  |refine B9.I b (fun a b=>?_) rfl rfl fun _=>Or.inr rfl
  |refine aD b fun x b=>?_
  |refine aG b fun l b=>?_
  |exact ⟨_,b,aA [(7034,34)]⟩
  |refine aK b ?_ fun m v b=>?_
  |exact aL (aM 6 7034 109 3 rfl rfl) (aA [])
  |exact aB b⟩
instance zi8 {n a0f0 a0f1 a0f2 a}:CI E0 (Ra n a0f0 a0f1 a0f2 a) true 261 [.agg [.sl 1 (List.map (fun q=>AV.sl 5 (List.map A6 q)) (a0f0.fVars)),aI a0f1,aI a0f2.fSource,aI a0f2.fSeq,aI a0f2.fType,aI a0f2.fTime,.sl 3 (a0f2.fValues.map Ag),.mapv [(aI 5,.fn 254 [.ref [.fn 253 []]]),(aI 6,.fn 255 [.ref [.fn 253 []]]),(aI 7,.fn 256 []),(aI 8,.fn 257 []),(aI 10,.fn 258 []),(aI 11,.fn 259 []),(aI 12,.fn 260 [])]],Av a] (fun r=>.tup [Ag r.1,aI r.2]):=by unfold Ra;exact aF [10,17] Tryz.func261
instance zva {n b a}:CI E0 (Z4 n b a) true 262 [aI b,.sl 1 (a.map aI)] aI:=by unfold Z4;exact aF [6,7,8,11,12,15] Tryz.func262
instance zzw {n a}:CI E0 (Zc n a) true 242 [.bool (a)] Ag:=by unfold Zc;exact aF [] Tryz.func242
instance y26 {n a}:CI E0 (Dw n a) true 214 [.bool (a)] Ag:=by unfold Dw;exact aF [] Tryz.func214
instance zoc {n a}:CI E0 (Vn n a) true 253 [aI a] Ag:=by unfold Vn;exact aF [] Tryz.func253
instance zob {n b a}:CI E0 (Vm n b a) true 254 [aI b,aI a,.ref [.fn 253 []]] Ag:=by unfold Vm;exact aF [] Tryz.func254
instance zoa {n b a}:CI E0 (Vl n b a) true 255 [aI b,aI a,.ref [.fn 253 []]] Ag:=by unfold Vl;exact aF [] Tryz.func255
instance zo9 {n b a}:CI E0 (Vk n b a) true 256 [aI b,aI a] Ag:=by unfold Vk;exact aF [] Tryz.func256
instance zo8 {n b a}:CI E0 (Vj n b a) true 257 [aI b,aI a] Ag:=by unfold Vj;exact aF [] Tryz.func257
end
end Go.Proofs.YtidhlpjgifoneaaGreat
