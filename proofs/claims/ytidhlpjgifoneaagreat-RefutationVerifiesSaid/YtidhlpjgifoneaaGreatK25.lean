/- What some functions compute, over plain values. -/
import Derived.Test.YtidhlpjgifoneaaGreatK24
set_option linter.unusedVariables false
set_option linter.unusedSimpArgs false
set_option maxRecDepth 100000
set_option maxHeartbeats 8000000
namespace Go.Proofs.YtidhlpjgifoneaaGreat
open Go.RowKit
open LeX renaming a->aA,trans->aL,adopt->aM,pa->aP
open RetX renaming oB->aB
open AW renaming stepU->aC,regO->aE,step->aJ,jI->aR
open IdxX renaming A->aD
open CI renaming w->aF
open AppX renaming oA->aG
open Aa renaming o->aH
open Az renaming I->aK
open Af renaming I->aN
noncomputable section
abbrev z4v {n a b}:=li (Gm n a b) (fun c=>⟨[(0,.sl 5 (a.map A7)),(3,aI c)],[]⟩) fun _ _=>Gm.eq_2 ..
abbrev z4d {n a d b}:=li (Pn n a d b) (fun c=>⟨[(0,.sl 5 (d.map A7)),(3,.ptr 3 0),(4,.ptr 4 0),(6,aI c)],[(3,.box 74 (zya a)),(4,.box 71 [aI 0,aI 0,aI 0,aI 0,.nils])]⟩) fun _ _=>Pn.eq_2 ..
abbrev z4e {n d e f a b}:=li (Fn n d e f a b) (fun c=>⟨[(0,.sl 5 (f.map A7)),(1,aI e),(2,.sl 4 (d.map Ar)),(6,.ptr 6 0),(7,.ptr 7 0),(8,aI c.1)],[(6,.box 220 [.nils]),(7,.box 220 [.cont (a) 13]),(13,.nest 26 (List.map (enR A7 71 5) (c.2)))]⟩) fun _ _=>Fn.eq_2 ..
abbrev z1g {n}:=jf (K3 n) (fun b=>⟨[(6,.bool (b))],[]⟩) fun _=>K3.eq_1 ..
abbrev z43 {n e d a b}:=li (Pi n e d a b) (fun c=>⟨[(7,.ptr 7 0),(9,.ptr 9 0),(10,.sl 11 (a.fGuards.map Bc)),(11,aI c)],[(7,.box 71 (Bw e)),(9,.box 220 (Dj d))]⟩) fun _ _=>Pi.eq_2 ..
abbrev z5o {n a d b}:=li (L7 n a d b) (fun c=>⟨[(1,aI a),(2,.ptr 2 0),(5,.row 7029),(6,aI c.1)],[(2,.box 25 (B3 d)),(7029,.row 115 17 (c.2.map B6))]⟩) fun _ _=>L7.eq_2 ..
abbrev z6w {n a d b}:=li (Qe n a d b) (fun c=>⟨[(0,.sl 1 (d.map aI)),(1,aI a),(5,aI c)],[]⟩) fun _ _=>Qe.eq_2 ..
abbrev z31 {n a d b}:=li (Kh n a d b) (fun c=>⟨[(0,.sl 2 (d.map Ad)),(1,aI a),(5,.row 7026),(6,aI c.1)],[(7026,.row 102 2 (c.2.map Ad))]⟩) fun _ _=>Kh.eq_2 ..
abbrev z30 {n f g a b c d}:=jf (Kg n f g a b c d) (fun e=>⟨[(0,.sl 2 (a.map Ad)),(1,aI g),(2,aI f),(7,.row 7031),(8,aI b.1),(24,.bool (e))],[(7031,.row 102 2 (b.2.map Ad))]⟩) fun _=>Kg.eq_1 ..
abbrev z2z {n d e a b}:=li (Hz n d e a b) (fun c=>⟨[(0,.sl 2 (a.map Ad)),(1,aI e),(2,aI d),(7,.row 7031),(8,aI c.1)],[(7031,.row 102 2 (c.2.map Ad))]⟩) fun _ _=>Hz.eq_2 ..
abbrev z5l {n a d e b}:=li (Q6 n a d e b) (fun c=>⟨[(0,.sl 2 (e.map Ad)),(2,aI a),(4,.ptr 4 0),(7,aI c)],[(4,.box 209 (Yy d))]⟩) fun _ _=>Q6.eq_2 ..
abbrev z1v {n a b c}:=li (Oi n a b c) (fun d=>⟨[(8,.ptr 8 0),(10,.ptr 10 0),(15,.ptr 15 0),(20,aI d.1)],[(8,.box 115 (C7 a)),(10,.box 60 [aI 0,.nils,.nils]),(15,.box 60 [aI a.fTo,.sl 4 (b.map Ar),.sl 2 (d.2.map Ad)])]⟩) fun _ _=>Oi.eq_2 ..
abbrev z1w {n a b c d e}:=li (Oj n a b c d e) (fun f=>⟨[(8,.ptr 8 0),(10,.ptr 10 0),(15,.ptr 15 0),(18,.ptr 18 0),(19,aI f)],[(8,.box 115 (C7 a)),(10,.box 60 [aI 0,.nils,.nils]),(15,.box 60 [aI a.fTo,.sl 4 (c.map Ar),.sl 2 (b.map Ad)]),(18,.box 220 (Dj d))]⟩) fun _ _=>Oj.eq_2 ..
abbrev z1x {n e a f g b c}:=li (Ok n e a f g b c) (fun d=>⟨[(1,.sl 5 (g.map A7)),(7,.ptr 7 0),(8,.ptr 8 0),(9,.ptr 9 0),(10,.ptr 10 0),(15,.ptr 15 0),(17,aI d)],[(7,.box 60 (Bi f)),(8,.box 115 (C7 a)),(9,.box 71 (Bw e)),(10,.box 60 [aI 0,.nils,.nils]),(15,.box 60 [aI a.fTo,.nils,.sl 2 (b.map Ad)])]⟩) fun _ _=>Ok.eq_2 ..
attribute [instance] z4v z4d z4e z1g z43 z5o z6w z31 z30 z2z z5l z1v z1w z1x
instance zj6 {n a}:CI E0 (R0 n a) true 64 [.sl 5 (a.map A7)] aI:=by unfold R0;exact aF [] Tryz.func64
instance zjz {n b a}:CI E0 (H6 n b a) true 32 [Bl b,.sl 5 (a.map A7)] aI:=by unfold H6;exact aF [] Tryz.func32
instance zio {n}:CI E0 (Qv n) false 65 [] A4:=by unfold Qv;exact aF [] Tryz.func65
instance zit {n b a}:CI E0 (M4 n b a) false 166 [.sl 5 (b.map A7),Be a] (fun r=>.tup [A7 r.1,.bool (r.2)]):=by unfold M4;exact aF [] Tryz.func166
instance ziu {n e d c}:CI E0 (Xz n e d c) false 196 [.sl 5 (e.map A7),aI d,.sl 4 (c.map Ar)] Di:=⟨fun {r} b=>by
 unfold Xz at b;refine cw Tryz.func196 ?_;repeat' first
  |refine AW.nstO (er:=A7) 71 5 b 13 rfl (fun b=>?_)
  |refine AW.frrO (ety:=71) (sz:=5) A7 b 13 rfl (fun b=>?_)
  |refine aE b fun b=>?_
  |refine aC [9,7,2] ?_;conv=>whnf
  |refine aH b (fun b=>?_) fun b=>?_
  |refine Aa.f ?_
  |refine MakX.on b (fun m b=>?_)
  |refine aD b fun x b=>?_
  |refine aN b fun a b=>?_
  |refine OpX.ixc b rfl rfl rfl rfl rfl rfl rfl rfl (fun b=>?_)
  |refine OpX.ntk A7 b rfl rfl rfl rfl rfl rfl rfl rfl rfl rfl (fun q b=>?_)
  |refine aG b fun l b=>?_
  |refine OpX.npt A7 b rfl rfl rfl rfl rfl rfl rfl rfl rfl rfl rfl (fun l b=>?_)
  |exact ⟨_,b,aA []⟩
  |refine aK b (aA []) fun m v b=>?_
  |refine AndA ?_
  |refine EqX.A ?_
  |exact aB b⟩
def zao (r:Ao):AV:=.agg [.sl 1 (List.map (fun q=>AV.sl 5 (List.map A7 q)) (r.fVars))]
instance z8m {n b a}:CI E0 (Mh n b a) false 167 [.sl 5 (b.map A7),A4 a] Di:=by unfold Mh;exact aF [] Tryz.func167
instance zep {n c b a}:CI E0 (Ph n c b a) true 168 [Bc c,Di b,A7 a] (fun r=>.bool (r)):=by unfold Ph;exact aF [1] Tryz.func168
instance zin {n d c b a}:CI E0 (U7 n d c b a) true 125 [Bl d,.sl 5 (c.map A7),A4 b,A7 a] (fun r=>.bool (r)):=by unfold U7;exact aF [] Tryz.func125
instance zk1 {n c b}:CI E0 (Ix n c b) false 126 [Bl c,aI b] (fun r=>.sl 17 (r.map B6)):=⟨fun {r} a=>by
 unfold Ix at a;refine cw Tryz.func126 ?_;repeat' first
  |refine aE a fun a=>?_
  |refine aC [5] ?_;conv=>whnf
  |refine aH a (fun a=>?_) fun a=>?_
  |refine aD a fun x a=>?_
  |refine aG a fun l a=>?_
  |exact ⟨_,a,aA [(7029,29)]⟩
  |exact ⟨_,a,aA []⟩
  |refine aK a ?_ fun m v a=>?_
  |exact aL (aM 5 7029 115 17 rfl rfl) (aA [])
  |exact aB a⟩
instance zml {n b a}:CI E0 (Un n b a) true 169 [.sl 1 (b.map aI),aI a] (fun r=>.bool (r)):=by unfold Un;exact aF [] Tryz.func169
instance zh5 {n c b}:CI E0 (Qf n c b) false 173 [.sl 2 (c.map Ad),aI b] (fun r=>.sl 2 (r.map Ad)):=⟨fun {r} a=>by
 unfold Qf at a;refine cw Tryz.func173 ?_;repeat' first
  |refine aE a fun a=>?_
  |refine aC [5] ?_;conv=>whnf
  |refine aH a (fun a=>?_) fun a=>?_
  |refine aD a fun x a=>?_
  |refine aG a fun l a=>?_
  |exact ⟨_,a,aA [(7026,26)]⟩
  |exact ⟨_,a,aA []⟩
  |refine aK a ?_ fun m v a=>?_
  |exact aL (aM 5 7026 102 2 rfl rfl) (aA [])
  |exact aB a⟩
instance zh4 {n e d c}:CI E0 (Ty n e d c) false 171 [.sl 2 (e.map Ad),aI d,aI c] (fun r=>.sl 2 (r.map Ad)):=⟨fun {r} b=>by
 unfold Ty at b;refine cw Tryz.func171 ?_;repeat' first
  |refine aR b (fun v b=>?_) fun b=>?_
  |refine aE b fun b=>?_
  |refine aC [4] ?_;conv=>whnf
  |refine aH b (fun b=>?_) fun b=>?_
  |refine aN b fun a b=>?_
  |refine aG b fun l b=>?_
  |refine SlsX.o Ad b (fun l b=>?_)
  |refine aD b fun x b=>?_
  |exact ⟨_,b,aA [(7031,31)]⟩
  |exact ⟨_,b,aA []⟩
  |refine aK b ?_ fun m v b=>?_
  |exact aL (aM 7 7031 102 2 rfl rfl) (aA [])
  |exact aB b⟩
instance zjy {n c b a}:CI E0 (Ud n c b a) true 172 [.sl 2 (c.map Ad),Cc b,aI a] (fun r=>.bool (r)):=by unfold Ud;exact aF [] Tryz.func172
end
noncomputable section
abbrev z1y {n d a e f b}:=li (Ol n d a e f b) (fun c=>⟨[(1,.sl 5 (f.map A7)),(7,.ptr 7 0),(8,.ptr 8 0),(9,.ptr 9 0),(10,.ptr 10 0),(15,.ptr 15 0),(16,aI c.1)],[(7,.box 60 (Bi e)),(8,.box 115 (C7 a)),(9,.box 71 (Bw d)),(10,.box 60 [aI 0,.nils,.nils]),(15,.box 60 [aI a.fTo,.nils,.sl 2 (c.2.map Ad)])]⟩) fun _ _=>Ol.eq_2 ..
abbrev z21 {n a c d e}:=jf (Ee n a c d e) (fun b=>⟨[(1,.sl 5 (e.map A7)),(7,.ptr 7 0),(8,.ptr 8 0),(9,.ptr 9 0),(10,.ptr 10 0),(70,.bool (b))],[(7,.box 60 (Bi d)),(8,.box 115 (C7 c)),(9,.box 71 (Bw a)),(10,.box 60 [aI 0,.nils,.nils])]⟩) fun _=>Ee.eq_1 ..
abbrev z20 {n f g h i e a b c}:=jf (K5 n f g h i e a b c) (fun d=>⟨[(1,.sl 5 (i.map A7)),(7,.ptr 7 0),(8,.ptr 8 0),(9,.ptr 9 0),(10,.ptr 10 0),(12,.ptr 12 0),(13,.sl 11 (a.fGuards.map Bc)),(14,aI b),(54,.bool (d))],[(7,.box 60 (Bi h)),(8,.box 115 (C7 g)),(9,.box 71 (Bw f)),(10,.box 60 [aI 0,.nils,.nils]),(12,.box 220 (Dj e))]⟩) fun _=>K5.eq_1 ..
abbrev z1z {n e f g h d a b}:=li (Hs n e f g h d a b) (fun c=>⟨[(1,.sl 5 (h.map A7)),(7,.ptr 7 0),(8,.ptr 8 0),(9,.ptr 9 0),(10,.ptr 10 0),(12,.ptr 12 0),(13,.sl 11 (a.fGuards.map Bc)),(14,aI c)],[(7,.box 60 (Bi g)),(8,.box 115 (C7 f)),(9,.box 71 (Bw e)),(10,.box 60 [aI 0,.nils,.nils]),(12,.box 220 (Dj d))]⟩) fun _ _=>Hs.eq_2 ..
abbrev z7j {n a d b}:=jf (Lv n a d b) (fun c=>⟨[(0,.sl 1 (d.map Au)),(3,.ptr 3 0),(5,aI b),(34,.bool (c))],[(3,.box 44 (G3 a))]⟩) fun _=>Lv.eq_1 ..
abbrev z7i {n a f b c d}:=jf (Lu n a f b c d) (fun e=>⟨[(0,.sl 1 (f.map Au)),(3,.ptr 3 0),(5,aI b),(19,.bool (e))],[(3,.box 44 (G3 a))]⟩) fun _=>Lu.eq_1 ..
abbrev z7h {n a d b}:=li (Im n a d b) (fun c=>⟨[(0,.sl 1 (d.map Au)),(3,.ptr 3 0),(5,aI c)],[(3,.box 44 (G3 a))]⟩) fun _ _=>Im.eq_2 ..
abbrev z71 {n d e f g a c}:=li (Ii n d e f g a c) (fun b=>⟨[(1,.sl 5 (f.map A7)),(4,.ptr 4 0),(6,.ptr 6 0),(7,.ptr 7 0),(10,.sl 3 (b.1.map A4)),(11,.sl 1 (b.2.1.map Au)),(12,.sl 17 (a.map B6)),(13,aI b.2.2)],[(4,.box 25 (B3 g)),(6,.box 60 (Bi e)),(7,.box 71 (Bw d))]⟩) fun _ _=>Ii.eq_2 ..
abbrev z72 {n a c d e}:=jt (Lp n a c d e) (fun b=>⟨[(1,.sl 5 (d.map A7)),(4,.ptr 4 0),(6,.ptr 6 0),(7,.ptr 7 0),(10,.sl 3 (b.map A4)),(11,.nils)],[(4,.box 25 (B3 e)),(6,.box 60 (Bi c)),(7,.box 71 (Bw a))]⟩) fun _=>Lp.eq_1 ..
abbrev z78 {n a g h i d b c e}:=li (Qh n a g h i d b c e) (fun f=>⟨[(1,.sl 5 (h.map A7)),(2,.sl 3 (g.map A4)),(4,.ptr 4 0),(7,.ptr 7 0),(10,.sl 3 (b.map A4)),(11,.sl 1 (f.1.map Au)),(12,aI d.2.2),(14,.sl 1 (c.map Au)),(16,aI f.2)],[(4,.box 25 (B3 i)),(7,.box 71 (Bw a))]⟩) fun _ _=>Qh.eq_2 ..
abbrev z79 {n a f g h b c d}:=li (Qi n a f g h b c d) (fun e=>⟨[(1,.sl 5 (g.map A7)),(2,.sl 3 (f.map A4)),(4,.ptr 4 0),(7,.ptr 7 0),(10,.sl 3 (e.1.map A4)),(11,.sl 1 (b.2.1.map Au)),(12,aI b.2.2),(13,.sl 3 (c.1.map A4)),(14,.sl 1 (c.2.map Au)),(15,aI e.2)],[(4,.box 25 (B3 h)),(7,.box 71 (Bw a))]⟩) fun _ _=>Qi.eq_2 ..
abbrev z7a {n a d e f c}:=li (Qj n a d e f c) (fun b=>⟨[(1,.sl 5 (e.map A7)),(2,.sl 3 (d.map A4)),(4,.ptr 4 0),(7,.ptr 7 0),(10,.sl 3 (b.1.map A4)),(11,.sl 1 (b.2.1.map Au)),(12,aI b.2.2)],[(4,.box 25 (B3 f)),(7,.box 71 (Bw a))]⟩) fun _ _=>Qj.eq_2 ..
attribute [instance] z1y z21 z20 z1z z7j z7i z7h z71 z72 z78 z79 z7a
instance zfh {n g f e d c}:CI E0 (L5 n g f e d c) false 127 [Bl g,.sl 5 (f.map A7),A4 e,B6 d,A7 c] (fun r=>.tup [A4 r.1,.bool (r.2)]):=⟨fun {r} b=>by
 unfold L5 at b;refine Con.env (E:=E0b) rfl rfl ?_;refine Con.walk _ Tryz.func127 rfl (Ay Tryz.func127 rfl rfl) rfl (Or.inl rfl) ?_;repeat' first
  |refine aR b (fun v b=>?_) fun b=>?_
  |refine aE b fun b=>?_
  |refine AW.frzO b 125 rfl (fun b=>?_)
  |refine aC [21,6,8] ?_;conv=>whnf
  |refine aH b (fun b=>?_) fun b=>?_
  |refine aN b fun a b=>?_
  |refine aD b fun x b=>?_
  |refine AppX.oA0 b fun l b=>?_
  |refine OpX.bldS Ar b rfl rfl rfl rfl rfl rfl rfl rfl rfl rfl rfl rfl rfl rfl (fun l b=>?_)
  |refine aG b fun l b=>?_
  |refine OpX.bldR A7 b rfl rfl rfl rfl rfl rfl rfl rfl rfl rfl rfl rfl rfl rfl rfl rfl (by first|exact SubR.refl _|(repeat' first|exact SubR.nil|refine SubR.cons ?_ ?_|exact SubL.nil|refine SubL.cons ?_ ?_|exact Sub.refl _|exact Sub.nil _)) rfl (fun l b=>?_)
  |refine B8.oE b 130 zao rfl (fun a h=>Con.env rfl rfl (z8m.h h)) rfl rfl (fun a b=>?_)
  |exact ⟨_,b,aA []⟩
  |refine aK b (aA []) fun m v b=>?_
  |refine IdxX.oD b D4 (fun x b=>?_)
  |refine Af.S b fun a b=>?_
  |refine AndA ?_
  |exact aB b⟩
instance zmt {n d c}:CI E0 (Mi n d c) false 67 [.sl 1 (d.map Au),Au c] (fun r=>.sl 1 (r.map Au)):=⟨fun {r} b=>by
 unfold Mi at b;refine cw Tryz.func67 ?_;repeat' first
  |refine aR b (fun v b=>?_) fun b=>?_
  |refine aE b fun b=>?_
  |refine aC [2,4] ?_;conv=>whnf
  |refine aH b (fun b=>?_) fun b=>?_
  |refine SlsX.o Au b (fun l b=>?_)
  |refine AppX.oA0 b fun l b=>?_
  |refine aG b fun l b=>?_
  |refine aD b fun x b=>?_
  |refine aN b fun a b=>?_
  |exact ⟨_,b,aA []⟩
  |refine aK b (aA []) fun m v b=>?_
  |refine AndA ?_
  |exact aB b⟩
instance zmn {n f e d c}:CI E0 (Mg n f e d c) false 88 [Bl f,.sl 5 (e.map A7),A4 d,A7 c] (fun r=>.tup [.sl 3 (r.1.map A4),.sl 1 (r.2.map Au)]):=⟨fun {r} b=>by
 unfold Mg at b;refine cw Tryz.func88 ?_;repeat' first
  |refine AW.jI2 b (fun v b=>?_) fun b=>?_
  |refine aE b fun b=>?_
  |refine aC [3,11] ?_;conv=>whnf
  |refine aH b (fun b=>?_) fun b=>?_
  |refine aN b fun a b=>?_
  |refine aD b fun x b=>?_
  |exact ⟨_,b,aA []⟩
  |refine aK b ?_ fun m v b=>?_
  |exact aP 11 (aA [])
  |refine Af.S b fun a b=>?_
  |exact ⟨_,b,aP 10 (aA [])⟩
  |refine AndA ?_
  |exact aB b⟩
instance zmp {n f e d c}:CI E0 (Up n f e d c) false 66 [Bl f,.sl 5 (e.map A7),.sl 3 (d.map A4),A7 c] (fun r=>.tup [.sl 3 (r.1.map A4),.sl 1 (r.2.map Au)]):=⟨fun {r} b=>by
 unfold Up at b;refine cw Tryz.func66 ?_;repeat' first
  |refine aJ ?_;conv=>whnf
  |refine aH b (fun b=>?_) fun b=>?_
  |refine aD b fun x b=>?_
  |refine aN b fun a b=>?_
  |exact ⟨_,b,aA []⟩
  |refine aK b ?_ fun m v b=>?_
  |exact aA []
  |exact aP 10 (aP 11 (aA []))
  |refine AndA ?_
  |exact aB b⟩
end
noncomputable section
abbrev z34 {n a g h d e b c}:=jf (Ki n a g h d e b c) (fun f=>⟨[(1,.sl 5 (g.map A7)),(2,aI a),(3,.ptr 3 0),(10,.sl 1 (b.map Au)),(11,aI d.2.2),(12,.sl 3 (c.map A4)),(55,.bool (f))],[(3,.box 25 (B3 h))]⟩) fun _=>Ki.eq_1 ..
abbrev z32 {n a f g b c d}:=li (P1 n a f g b c d) (fun e=>⟨[(1,.sl 5 (f.map A7)),(2,aI a),(3,.ptr 3 0),(10,.sl 1 (e.1.map Au)),(11,aI b.2.2),(12,.sl 3 (c.1.map A4)),(13,.sl 1 (c.2.map Au)),(14,aI e.2)],[(3,.box 25 (B3 g))]⟩) fun _ _=>P1.eq_2 ..
abbrev z33 {n a d e c}:=li (I0 n a d e c) (fun b=>⟨[(1,.sl 5 (d.map A7)),(2,aI a),(3,.ptr 3 0),(9,.sl 3 (b.1.map A4)),(10,.sl 1 (b.2.1.map Au)),(11,aI b.2.2)],[(3,.box 25 (B3 e))]⟩) fun _ _=>I0.eq_2 ..
abbrev z42 {n a c}:=jf (Ks n a c) (fun b=>⟨[(1,.sl 5 (a.map A7)),(2,.ptr 2 0),(15,.bool (b))],[(2,.box 25 (B3 c))]⟩) fun _=>Ks.eq_1 ..
abbrev zba {n a b}:=li (Mr n a b) (fun c=>⟨[(0,.sl 5 (a.map A7)),(3,.row 9),(10,.sl 5 (a.map A7)),(11,aI (((a.map A7).length:Int))),(12,aI c.1)],[(9,.mp (List.map (encM Mo AV.bool) (c.2)))]⟩) fun _ _=>Mr.eq_2 ..
abbrev zex {n d a b}:=li (S7 n d a b) (fun c=>⟨[(8,.ptr 24 0),(25,.sl 5 (d.map A7)),(26,aI (((d.map A7).length:Int))),(27,aI c.1)],[(24,.box 180 [aI a.fVars,aI a.fScopes,.sl 1 (a.fStates.map Ba),.sl 17 (a.fEdges.map B6),.row 22]),(22,.mp (List.map (encM Be A7) (c.2)))]⟩) fun _ _=>S7.eq_2 ..
abbrev z6a {n e a b c}:=jf (Gu n e a b c) (fun d=>⟨[(0,.ref [aI a.fa.fVars,aI a.fa.fScopes,.sl 1 (a.fa.fStates.map Ba),.sl 17 (a.fa.fEdges.map B6),.mapv (List.map (encM Be A7) (a.fheld))]),(3,.ptr 3 0),(84,.sl 2 (e.fStarts.map Ad)),(85,aI (((e.fStarts.map Ad).length:Int))),(86,aI b),(115,.bool (d))],[(3,.box 60 (Bi e))]⟩) fun _=>Gu.eq_1 ..
abbrev z6b {n f a b c e}:=jf (Ez n f a b c e) (fun d=>⟨[(0,.ref [aI a.fa.fVars,aI a.fa.fScopes,.sl 1 (a.fa.fStates.map Ba),.sl 17 (a.fa.fEdges.map B6),.mapv (List.map (encM Be A7) (a.fheld))]),(3,.ptr 3 0),(9,aI b),(10,.ptr 10 0),(84,.sl 2 (f.fStarts.map Ad)),(85,aI (((f.fStarts.map Ad).length:Int))),(86,aI b),(91,.bool (d))],[(3,.box 60 (Bi f)),(10,.box 102 (zal e))]⟩) fun _=>Ez.eq_1 ..
abbrev z7r {n d a b}:=li (Dg n d a b) (fun c=>⟨[(0,.ref [aI a.fa.fVars,aI a.fa.fScopes,.sl 1 (a.fa.fStates.map Ba),.sl 17 (a.fa.fEdges.map B6),.mapv (List.map (encM Be A7) (a.fheld))]),(3,.ptr 3 0),(84,.sl 2 (d.fStarts.map Ad)),(85,aI (((d.fStarts.map Ad).length:Int))),(86,aI c)],[(3,.box 60 (Bi d))]⟩) fun _ _=>Dg.eq_2 ..
abbrev z68 {n f a b c e}:=jf (Gs n f a b c e) (fun d=>⟨[(0,.ref [aI a.fa.fVars,aI a.fa.fScopes,.sl 1 (a.fa.fStates.map Ba),.sl 17 (a.fa.fEdges.map B6),.mapv (List.map (encM Be A7) (a.fheld))]),(3,.ptr 3 0),(8,.bool (e)),(32,.sl 4 (f.fBindings.map Ar)),(33,aI (((f.fBindings.map Ar).length:Int))),(34,aI b),(63,.bool (d))],[(3,.box 60 (Bi f))]⟩) fun _=>Gs.eq_1 ..
abbrev z69 {n g a b c e f}:=jf (Gt n g a b c e f) (fun d=>⟨[(0,.ref [aI a.fa.fVars,aI a.fa.fScopes,.sl 1 (a.fa.fStates.map Ba),.sl 17 (a.fa.fEdges.map B6),.mapv (List.map (encM Be A7) (a.fheld))]),(3,.ptr 3 0),(5,aI b),(6,.ptr 6 0),(8,.bool (f)),(32,.sl 4 (g.fBindings.map Ar)),(33,aI (((g.fBindings.map Ar).length:Int))),(34,aI b),(49,.bool (d))],[(3,.box 60 (Bi g)),(6,.box 76 (zjq e))]⟩) fun _=>Gt.eq_1 ..
abbrev z7s {n d a b}:=li (E3 n d a b) (fun c=>⟨[(0,.ref [aI a.fa.fVars,aI a.fa.fScopes,.sl 1 (a.fa.fStates.map Ba),.sl 17 (a.fa.fEdges.map B6),.mapv (List.map (encM Be A7) (a.fheld))]),(3,.ptr 3 0),(32,.sl 4 (d.fBindings.map Ar)),(33,aI (((d.fBindings.map Ar).length:Int))),(34,aI c)],[(3,.box 60 (Bi d))]⟩) fun _ _=>E3.eq_2 ..
abbrev z7t {n c a}:=jf (Gy n c a) (fun b=>⟨[(0,.ref [aI a.fa.fVars,aI a.fa.fScopes,.sl 1 (a.fa.fStates.map Ba),.sl 17 (a.fa.fEdges.map B6),.mapv (List.map (encM Be A7) (a.fheld))]),(3,.ptr 3 0),(11,.bool (b))],[(3,.box 60 (Bi c))]⟩) fun _=>Gy.eq_1 ..
attribute [instance] z34 z32 z33 z42  zba zex z6a z6b z7r z68 z69 z7s z7t
instance zh6 {n e d c}:CI E0 (Tz n e d c) false 33 [Bl e,.sl 5 (d.map A7),aI c] (fun r=>.tup [.sl 3 (r.1.map A4),.sl 1 (r.2.1.map Au),.bool (r.2.2)]):=⟨fun {r} b=>by
 unfold Tz at b;refine cw Tryz.func33 ?_;repeat' first
  |refine aR b (fun v b=>?_) fun b=>?_
  |refine aE b fun b=>?_
  |refine aC [11] ?_;conv=>whnf
  |refine aH b (fun b=>?_) fun b=>?_
  |refine aN b fun a b=>?_
  |refine aD b fun x b=>?_
  |exact ⟨_,b,aA []⟩
  |refine aK b ?_ fun m v b=>?_
  |exact aA []
  |exact aP 10 (aA [])
  |refine AndA ?_
  |exact aB b⟩
instance zim {n b a}:CI E0 (M3 n b a) true 11 [Bl b,.sl 5 (a.map A7)] (fun r=>.bool (r)):=by unfold M3;exact aF [1] Tryz.func11
instance zjx {n b a}:CI E0 (Fy n b a) true 39 [Bl b,.sl 5 (a.map A7)] aI:=by unfold Fy;exact aF [] Tryz.func39
instance zkb {n}:CI E0 (Mc n) false 34 [] Bl:=⟨fun {r} b=>by
 unfold Mc at b;refine cw Tryz.func34 ?_;repeat' first
  |refine aJ ?_;conv=>whnf
  |refine aH b (fun b=>?_) fun b=>?_
  |refine Aa.t ?_
  |refine Aa.f ?_
  |refine aN b fun a b=>?_
  |refine MakX.o Ba b (by first|exact SubL.refl _|(repeat' first|exact SubL.nil|refine SubL.cons ?_ ?_|exact Sub.refl _|exact Sub.nil _|refine Sub.agg ?_)) (fun l b=>?_)
  |refine AndA ?_
  |refine EqX.A ?_
  |exact aB b⟩
instance ztw {n a}:CI E0 (Vr n a) true 106 [A7 a] (fun r=>.bool (r)):=by unfold Vr;exact aF [] Tryz.func106
instance y12 {n a}:CI E0 (Wc n a) true 148 [A7 a] Be:=by unfold Wc;exact aF [] Tryz.func148
instance zu1 {n b a}:CI E0 (Vt n b a) true 107 [A7 b,A7 a] aI:=by unfold Vt;exact aF [] Tryz.func107
instance y0s {n a}:CI E0 (Nd n a) true 108 [A7 a] Mo:=by unfold Nd;exact aF [] Tryz.func108
theorem zxk (a b:J3):eqK (Mo a) (Mo b)=some (decide (a=b)):=by cases a;cases b;simp [Mo,eqK,eqL,eq1,aI,Nl]
instance zua {n d}:CI E0 (S4 n d) true 70 [.sl 5 (d.map A7)] aI:=⟨fun {r} c=>by
 unfold S4 at c;refine cw Tryz.func70 ?_;repeat' first
  |refine aJ ?_;conv=>whnf
  |refine aH c (fun c=>?_) fun c=>?_
  |refine Aa.f ?_
  |refine aD c fun x c=>?_
  |refine aN c fun a c=>?_
  |refine LkX.o Mo AV.bool c (by first|rfl|kernel_rfl) zxk (by repeat' first|exact Sub.nil _|exact Sub.refl _|refine Sub.agg ?_|refine Sub.tup ?_|refine Sub.fn ?_|exact SubL.nil|refine SubL.cons ?_ ?_|refine Sub.sl _ ?_|exact SubE.nil|refine SubE.cons ?_ ?_) (fun v b c=>?_)
  |refine UpX.o Mo AV.bool c (by first|rfl|kernel_rfl) zxk (by repeat' first|exact Sub.nil _|exact Sub.refl _|refine Sub.agg ?_|refine Sub.tup ?_|refine Sub.fn ?_|exact SubL.nil|refine SubL.cons ?_ ?_|refine Sub.sl _ ?_|exact SubE.nil|refine SubE.cons ?_ ?_) (fun l c=>?_)
  |exact ⟨_,c,aA []⟩
  |refine aK c (aA []) fun m v c=>?_
  |refine AndA ?_
  |exact aB c⟩
instance zny {n b a}:CI E0 (F4 n b a) true 36 [Bl b,.sl 5 (a.map A7)] aI:=by unfold F4;exact aF [] Tryz.func36
instance y0u {n}:CI E0 (Jc n) false 47 [] A4:=by unfold Jc;exact aF [] Tryz.func47
theorem zxj (a b:Bg):eqK (Be a) (Be b)=some (decide (a=b)):=by cases a;cases b;simp [Be,eqK,eqL,eq1,aI,Nl]
def G2:Option B9->AV |none=>.nilp |some x=>.ref [aI (x.fa.fVars),aI (x.fa.fScopes),.sl 1 (x.fa.fStates.map Ba),.sl 17 (x.fa.fEdges.map B6),.mapv (List.map (encM Be A7) (x.fheld))]
def Ei (r:(Option B9)×Int):AV:=.tup [G2 (r.1),aI (r.2)]
instance Ys {n d c}:CI E0 (G5 n d c) false 82 [Bl d,.sl 5 (c.map A7)] (fun r=>.tup [G2 (r.1),aI r.2]):=⟨fun {r} b=>by
 unfold G5 at b;refine cw Tryz.func82 ?_;repeat' first
  |refine aJ ?_;conv=>whnf
  |refine aH b (fun b=>?_) fun b=>?_
  |refine aN b fun a b=>?_
  |refine aD b fun x b=>?_
  |refine OpX.nckP rfl rfl rfl rfl rfl ?_
  |refine UpX.o Be A7 b (by first|rfl|kernel_rfl) zxj (by repeat' first|exact Sub.nil _|exact Sub.refl _|refine Sub.agg ?_|refine Sub.tup ?_|refine Sub.fn ?_|exact SubL.nil|refine SubL.cons ?_ ?_|refine Sub.sl _ ?_|exact SubE.nil|refine SubE.cons ?_ ?_) (fun l b=>?_)
  |exact ⟨_,b,aA []⟩
  |refine aK b (aA []) fun m v b=>?_
  |refine AndA ?_
  |exact aB b⟩
end
noncomputable section
abbrev z9j {n d a e b}:=li (Re n d a e b) (fun c=>⟨[(0,.ref [aI a.fa.fVars,aI a.fa.fScopes,.sl 1 (a.fa.fStates.map Ba),.sl 17 (a.fa.fEdges.map B6),.mapv (List.map (encM Be A7) (a.fheld))]),(4,.ptr 4 0),(5,.ptr 5 0),(15,.sl 4 (d.map Ar)),(16,aI (((d.map Ar).length:Int))),(17,aI c.1)],[(4,.box 220 [.nils]),(5,.box 220 [.cont (e) 13]),(13,.nest 26 (List.map (enR A7 71 5) (c.2)))]⟩) fun _ _=>Re.eq_2 ..
abbrev z1m {n a a0f2 a0f1 a0f0}:=jf (K4 n a a0f2 a0f1 a0f0) (fun b=>⟨[(1,aI a),(2,.ptr 2 0),(14,.bool (b))],[(2,.box 293 [.sl 1 (List.map (fun q=>AV.sl 5 (List.map A7 q)) (a0f0.fVars)),aI a0f1,aI a0f2.fSource,aI a0f2.fSeq,aI a0f2.fType,aI a0f2.fTime,.sl 3 (a0f2.fValues.map Ag),.mapv [(aI 5,.fn 254 [.ref [.fn 253 []]]),(aI 6,.fn 255 [.ref [.fn 253 []]]),(aI 7,.fn 256 []),(aI 8,.fn 257 []),(aI 10,.fn 258 []),(aI 11,.fn 259 []),(aI 12,.fn 260 [])]])]⟩) fun _=>K4.eq_1 ..
abbrev z2k {n d a b}:=li (Ow n d a b) (fun c=>⟨[(3,.ptr 3 0),(4,.ptr 4 0),(6,.row 7034),(14,.sl 5 (a.map A7)),(15,aI (((a.map A7).length:Int))),(16,aI c.1)],[(3,.box 111 (Cm d)),(4,.box 109 [aI 0,aI 0,.str (ByteArray.empty)]),(7034,.row 109 3 (c.2.map Ag))]⟩) fun _ _=>Ow.eq_2 ..
abbrev z3q {n a}:=jt (Kp n a) (fun b=>⟨[(4,.ptr 4 0),(8,.ptr 8 0),(9,aI b)],[(4,.box 109 [aI 0,aI 0,.str (ByteArray.empty)]),(8,.box 109 (Cd a.1))]⟩) fun _=>Kp.eq_1 ..
abbrev z3r {n a}:=jt (Kq n a) (fun b=>⟨[(3,.ptr 3 0),(4,.ptr 4 0),(7,.ptr 7 0)],[(3,.box 111 (Cm a)),(4,.box 109 [aI 0,aI 0,.str (ByteArray.empty)]),(7,.box 71 [aI b.1,aI b.2.1,aI b.2.2.1,aI b.2.2.2.1,.sl 3 (b.2.2.2.2.map Ag)])]⟩) fun _=>Kq.eq_1 ..
abbrev zb1 {n a f b c d}:=jt (J2 n a f b c d) (fun e=>⟨[(0,aI f),(1,.sl 1 (a.map aI)),(6,aI d),(7,.bool (true)),(8,.sl 1 (a.map aI)),(9,aI (((a.map aI).length:Int))),(10,aI b),(14,aI f),(22,.bool (e))],[]⟩) fun _=>J2.eq_1 ..
abbrev zb2 {n a f b c d}:=jt (Ha n a f b c d) (fun e=>⟨[(0,aI f),(1,.sl 1 (a.map aI)),(6,aI d),(7,.bool (true)),(8,.sl 1 (a.map aI)),(9,aI (((a.map aI).length:Int))),(10,aI b),(14,aI f),(15,.bool (e))],[]⟩) fun _=>Ha.eq_1 ..
abbrev zb0 {n a d b}:=li (G1 n a d b) (fun c=>⟨[(0,aI d),(1,.sl 1 (a.map aI)),(8,.sl 1 (a.map aI)),(9,aI (((a.map aI).length:Int))),(10,aI c)],[]⟩) fun _ _=>G1.eq_2 ..
abbrev z7y {n}:=jf (M0 n) (fun b=>⟨[(4,.ptr 4 0)],[(4,.box 109 [aI b.1,aI b.2.1,.str (b.2.2)])]⟩) fun _=>M0.eq_1 ..
attribute [instance] z9j z1m z2k z3q z3r zb1 zb2 zb0 z7y
instance zn0 {n d e}:CI E0 (Eh n d e) true 83 [.ref [aI d.fa.fVars,aI d.fa.fScopes,.sl 1 (d.fa.fStates.map Ba),.sl 17 (d.fa.fEdges.map B6),.mapv (List.map (encM Be A7) (d.fheld))],A4 e] aI:=⟨fun {r} c=>by
 unfold Eh at c;refine cw Tryz.func83 ?_;repeat' first
  |refine aR c (fun v c=>?_) fun c=>?_
  |refine aE c fun c=>?_
  |refine aC [1,9,11,19,21] ?_;conv=>whnf
  |refine aH c (fun c=>?_) fun c=>?_
  |refine Aa.t ?_
  |refine aD c fun x c=>?_
  |exact ⟨_,c,aA []⟩
  |refine OpX.nckR rfl rfl rfl rfl ?_
  |refine aK c (aA []) fun m v c=>?_
  |refine OpX.lkv Be A7 c zxj rfl rfl rfl rfl rfl rfl rfl rfl rfl rfl (by first|rfl|kernel_rfl) (by repeat' first|exact Sub.nil _|exact Sub.refl _|refine Sub.agg ?_|refine Sub.tup ?_|refine Sub.fn ?_|exact SubL.nil|refine SubL.cons ?_ ?_|refine Sub.sl _ ?_|exact SubE.nil|refine SubE.cons ?_ ?_) (fun v b c=>?_)
  |refine aN c fun a c=>?_
  |refine AndA ?_
  |exact aB c⟩
def z9a (c:B9)(b:A0)(a:A8):List (Nat×Ent):=[]
def Xt (r:B9×A0×A8):List (Nat×Ent):=[(3,.box 137 [.ref [aI r.1.fa.fVars,aI r.1.fa.fScopes,.sl 1 (r.1.fa.fStates.map Ba),.sl 17 (r.1.fa.fEdges.map B6),.mapv (List.map (encM Be A7) (r.1.fheld))]]),(4,.box 60 (Bi r.2.1)),(5,.box 71 (Bw r.2.2))]
def z06 (r:B9×A0×A8):AV:=.fn 156 [.ptr 3 0,.ptr 4 0,.ptr 5 0]
def z8z (r:B9×A0×A8):AS:=⟨[(6,.fn 156 [.ptr 3 0,.ptr 4 0,.ptr 5 0])],Xt r⟩
theorem z6e {n a c b r}(d:Y0 n a c b=some r):ConG E0.P none (CalF E0.P 120 0) [.ref [aI a.fa.fVars,aI a.fa.fScopes,.sl 1 (a.fa.fStates.map Ba),.sl 17 (a.fa.fEdges.map B6),.mapv (List.map (encM Be A7) (a.fheld))],A4 c,A7 b] [] (z9a a c b) (z06 r) (Xt r):=by
 unfold Y0 at d;refine ConG.walk (E:=(E0p 3)) (caps:=[]) _ Tryz.func120 rfl rfl rfl rfl rfl ?_;repeat' first
  |refine aJ ?_;conv=>whnf
  |exact GX.A (res:=z06) (meF:=Xt) d z8z
def z5h (b:(List A0))(a:(List Ac)):List (Nat×Ent):=[(100000,.box 57 [.row 200000]),(200000,.row 60 3 (b.map A4)),(100001,.box 50 [.row 200001]),(200001,.row 44 1 (a.map Au))]
def Kr (r:(List A0)×(List Ac)):List (Nat×Ent):=[(100000,.box 57 [.row 250000]),(250000,.row 60 3 (r.1.map A4)),(100001,.box 50 [.row 250001]),(250001,.row 44 1 (r.2.map Au))]
def z0l (r:(List A0)×(List Ac)):AS:=⟨[(8,.ptr 100000 0),(9,.ptr 100001 0)],Kr r⟩
instance zpp {n c d}:CI E0 (Vh n c d) false 157 [.ref [aI c.fa.fVars,aI c.fa.fScopes,.sl 1 (c.fa.fStates.map Ba),.sl 17 (c.fa.fEdges.map B6),.mapv (List.map (encM Be A7) (c.fheld))],.sl 4 (d.map Ar)] Di:=⟨fun {r} a=>by
 unfold Vh at a;refine cw Tryz.func157 ?_;repeat' first
  |refine AW.nstO (er:=A7) 71 5 a 13 rfl (fun a=>?_)
  |refine AW.frrO (ety:=71) (sz:=5) A7 a 13 rfl (fun a=>?_)
  |refine aE a fun a=>?_
  |refine aC [7,2] ?_;conv=>whnf
  |refine aH a (fun a=>?_) fun a=>?_
  |refine OpX.nckR rfl rfl rfl rfl ?_
  |refine MakX.on a (fun m a=>?_)
  |refine aD a fun x a=>?_
  |refine OpX.ixc a rfl rfl rfl rfl rfl rfl rfl rfl (fun a=>?_)
  |refine OpX.ntk A7 a rfl rfl rfl rfl rfl rfl rfl rfl rfl rfl (fun q a=>?_)
  |refine OpX.lkv Be A7 a zxj rfl rfl rfl rfl rfl rfl rfl rfl rfl rfl (by first|rfl|kernel_rfl) (by repeat' first|exact Sub.nil _|exact Sub.refl _|refine Sub.agg ?_|refine Sub.tup ?_|refine Sub.fn ?_|exact SubL.nil|refine SubL.cons ?_ ?_|refine Sub.sl _ ?_|exact SubE.nil|refine SubE.cons ?_ ?_) (fun v b a=>?_)
  |refine aG a fun l a=>?_
  |refine OpX.npt A7 a rfl rfl rfl rfl rfl rfl rfl rfl rfl rfl rfl (fun l a=>?_)
  |exact ⟨_,a,aA []⟩
  |refine aK a (aA []) fun m v a=>?_
  |refine AndA ?_
  |refine EqX.A ?_
  |exact aB a⟩
theorem zak:Con E0 false 240 [] (.mapv [(aI 5,.fn 254 [.ref [.fn 253 []]]),(aI 6,.fn 255 [.ref [.fn 253 []]]),(aI 7,.fn 256 []),(aI 8,.fn 257 []),(aI 10,.fn 258 []),(aI 11,.fn 259 []),(aI 12,.fn 260 [])]):=by
 refine Con.walk _ Tryz.func240 rfl (Ay Tryz.func240 rfl rfl) rfl (Or.inl rfl) ?_;repeat' first
  |refine AW.frb0 1 rfl rfl ?_
  |refine AW.into ?_
  |refine aC [2] ?_;conv=>whnf
  |refine UpX.mk _ _ (by first|rfl|kernel_rfl) (by first|rfl|kernel_rfl) (SubM.refl _) ?_
  |exact RetX.mk rfl
instance zet {n a0f0 a0f1 a0f2 b}:CI E0 (Q2 n a0f0 a0f1 a0f2 b) false 269 [.agg [.sl 1 (List.map (fun q=>AV.sl 5 (List.map A7 q)) (a0f0.fVars)),aI a0f1,aI a0f2.fSource,aI a0f2.fSeq,aI a0f2.fType,aI a0f2.fTime,.sl 3 (a0f2.fValues.map Ag),.mapv [(aI 5,.fn 254 [.ref [.fn 253 []]]),(aI 6,.fn 255 [.ref [.fn 253 []]]),(aI 7,.fn 256 []),(aI 8,.fn 257 []),(aI 10,.fn 258 []),(aI 11,.fn 259 []),(aI 12,.fn 260 [])]],aI b] (fun r=>.sl 5 (r.map A7)):=⟨fun {r} a=>by
 unfold Q2 at a;refine cw Tryz.func269 ?_;repeat' first
  |refine aR a (fun v a=>?_) fun a=>?_
  |refine aE a fun a=>?_
  |refine aC [1] ?_;conv=>whnf
  |refine aH a (fun a=>?_) fun a=>?_
  |refine IdxX.o (fun q=>AV.sl 5 (List.map A7 q)) a fun x a=>?_
  |exact ⟨_,a,aA []⟩
  |exact aB a⟩
instance zyw {n b a}:CI E0 (Nc n b a) true 271 [A7 b,aI a] (fun r=>.tup [Ag r.1,aI r.2]):=by unfold Nc;exact aF [] Tryz.func271
instance zfv {n a0f0 a0f1 a0f2 c}:CI E0 (Xr n a0f0 a0f1 a0f2 c) true 270 [.agg [.sl 1 (List.map (fun q=>AV.sl 5 (List.map A7 q)) (a0f0.fVars)),aI a0f1,aI a0f2.fSource,aI a0f2.fSeq,aI a0f2.fType,aI a0f2.fTime,.sl 3 (a0f2.fValues.map Ag),.mapv [(aI 5,.fn 254 [.ref [.fn 253 []]]),(aI 6,.fn 255 [.ref [.fn 253 []]]),(aI 7,.fn 256 []),(aI 8,.fn 257 []),(aI 10,.fn 258 []),(aI 11,.fn 259 []),(aI 12,.fn 260 [])]],Av c] (fun r=>.tup [Ag r.1,aI r.2]):=⟨fun {r} b=>by
 unfold Xr at b;refine cw Tryz.func270 ?_;repeat' first
  |refine aJ ?_;conv=>whnf
  |refine aH b (fun b=>?_) fun b=>?_
  |refine aN b fun a b=>?_
  |refine B8.I b (fun a b=>?_) rfl rfl fun _=>Or.inr rfl
  |refine aD b fun x b=>?_
  |refine aG b fun l b=>?_
  |exact ⟨_,b,aA [(7034,34)]⟩
  |refine aK b ?_ fun m v b=>?_
  |exact aL (aM 6 7034 109 3 rfl rfl) (aA [])
  |exact aB b⟩
instance zhi {n a0f0 a0f1 a0f2 a}:CI E0 (Qr n a0f0 a0f1 a0f2 a) true 261 [.agg [.sl 1 (List.map (fun q=>AV.sl 5 (List.map A7 q)) (a0f0.fVars)),aI a0f1,aI a0f2.fSource,aI a0f2.fSeq,aI a0f2.fType,aI a0f2.fTime,.sl 3 (a0f2.fValues.map Ag),.mapv [(aI 5,.fn 254 [.ref [.fn 253 []]]),(aI 6,.fn 255 [.ref [.fn 253 []]]),(aI 7,.fn 256 []),(aI 8,.fn 257 []),(aI 10,.fn 258 []),(aI 11,.fn 259 []),(aI 12,.fn 260 [])]],Av a] (fun r=>.tup [Ag r.1,aI r.2]):=by unfold Qr;exact aF [10,17] Tryz.func261
instance ztz {n b a}:CI E0 (Yo n b a) true 262 [aI b,.sl 1 (a.map aI)] aI:=by unfold Yo;exact aF [6,7,8,11,12,15] Tryz.func262
instance zyo {n a}:CI E0 (Yw n a) true 242 [.bool (a)] Ag:=by unfold Yw;exact aF [] Tryz.func242
instance y0z {n a}:CI E0 (Ds n a) true 214 [.bool (a)] Ag:=by unfold Ds;exact aF [] Tryz.func214
instance zna {n a}:CI E0 (V5 n a) true 253 [aI a] Ag:=by unfold V5;exact aF [] Tryz.func253
instance zn9 {n b a}:CI E0 (V4 n b a) true 254 [aI b,aI a,.ref [.fn 253 []]] Ag:=by unfold V4;exact aF [] Tryz.func254
instance zn8 {n b a}:CI E0 (V3 n b a) true 255 [aI b,aI a,.ref [.fn 253 []]] Ag:=by unfold V3;exact aF [] Tryz.func255
instance zn7 {n b a}:CI E0 (V2 n b a) true 256 [aI b,aI a] Ag:=by unfold V2;exact aF [] Tryz.func256
instance zn6 {n b a}:CI E0 (V1 n b a) true 257 [aI b,aI a] Ag:=by unfold V1;exact aF [] Tryz.func257
end
end Go.Proofs.YtidhlpjgifoneaaGreat
