/- What some functions compute, over plain values. -/
import Derived.Test.YtidhlpjgifoneaaGreatK24
set_option linter.unusedVariables false
set_option linter.unusedSimpArgs false
set_option maxRecDepth 100000
set_option maxHeartbeats 8000000
namespace Go.Proofs.YtidhlpjgifoneaaGreat
open Go.RowKit
noncomputable section
abbrev z4r {n a b}:=li (Gm n a b) (fun c=>⟨[(0,.sl 5 (a.map A7)),(3,aI c)],[]⟩) fun _ _=>Gm.eq_2 ..
abbrev z49 {n a d b}:=li (P5 n a d b) (fun c=>⟨[(0,.sl 5 (d.map A7)),(3,.ptr 3 0),(4,.ptr 4 0),(6,aI c)],[(3,.box 74 (zww a)),(4,.box 71 [aI 0,aI 0,aI 0,aI 0,.nils])]⟩) fun _ _=>P5.eq_2 ..
abbrev z4a {n d e f a b}:=li (Fo n d e f a b) (fun c=>⟨[(0,.sl 5 (f.map A7)),(1,aI e),(2,.sl 4 (d.map Aq)),(6,.ptr 6 0),(7,.ptr 7 0),(8,aI c.1)],[(6,.box 220 [.nils]),(7,.box 220 [.cont (a) 13]),(13,.nest 26 (List.map (enR A7 71 5) (c.2)))]⟩) fun _ _=>Fo.eq_2 ..
abbrev z1i {n}:=jf (Jo n) (fun b=>⟨[(6,.bool (b))],[]⟩) fun _=>Jo.eq_1 ..
abbrev z3z {n e d a b}:=li (P1 n e d a b) (fun c=>⟨[(7,.ptr 7 0),(9,.ptr 9 0),(10,.sl 11 (a.fGuards.map Bc)),(11,aI c)],[(7,.box 71 (Bu e)),(9,.box 220 (Dj d))]⟩) fun _ _=>P1.eq_2 ..
abbrev z5m {n a d b}:=li (Ko n a d b) (fun c=>⟨[(1,aI a),(2,.ptr 2 0),(5,.row 7029),(6,aI c.1)],[(2,.box 25 (Ba d)),(7029,.row 115 17 (c.2.map B5))]⟩) fun _ _=>Ko.eq_2 ..
abbrev z6r {n a d b}:=li (Pz n a d b) (fun c=>⟨[(0,.sl 1 (d.map aI)),(1,aI a),(5,aI c)],[]⟩) fun _ _=>Pz.eq_2 ..
abbrev z2y {n a d b}:=li (Jz n a d b) (fun c=>⟨[(0,.sl 2 (d.map Ae)),(1,aI a),(5,.row 7026),(6,aI c.1)],[(7026,.row 102 2 (c.2.map Ae))]⟩) fun _ _=>Jz.eq_2 ..
abbrev z2x {n f g a b c d}:=jf (Jy n f g a b c d) (fun e=>⟨[(0,.sl 2 (a.map Ae)),(1,aI g),(2,aI f),(7,.row 7031),(8,aI b.1),(24,.bool (e))],[(7031,.row 102 2 (b.2.map Ae))]⟩) fun _=>Jy.eq_1 ..
abbrev z2w {n d e a b}:=li (Hy n d e a b) (fun c=>⟨[(0,.sl 2 (a.map Ae)),(1,aI e),(2,aI d),(7,.row 7031),(8,aI c.1)],[(7031,.row 102 2 (c.2.map Ae))]⟩) fun _ _=>Hy.eq_2 ..
abbrev z5i {n a d e b}:=li (Pm n a d e b) (fun c=>⟨[(0,.sl 2 (e.map Ae)),(2,aI a),(4,.ptr 4 0),(7,aI c)],[(4,.box 209 (Y7 d))]⟩) fun _ _=>Pm.eq_2 ..
abbrev z1w {n a b c}:=li (O2 n a b c) (fun d=>⟨[(8,.ptr 8 0),(10,.ptr 10 0),(15,.ptr 15 0),(20,aI d.1)],[(8,.box 115 (C6 a)),(10,.box 60 [aI 0,.nils,.nils]),(15,.box 60 [aI a.fTo,.sl 4 (b.map Aq),.sl 2 (d.2.map Ae)])]⟩) fun _ _=>O2.eq_2 ..
abbrev z1x {n a b c d e}:=li (O3 n a b c d e) (fun f=>⟨[(8,.ptr 8 0),(10,.ptr 10 0),(15,.ptr 15 0),(18,.ptr 18 0),(19,aI f)],[(8,.box 115 (C6 a)),(10,.box 60 [aI 0,.nils,.nils]),(15,.box 60 [aI a.fTo,.sl 4 (c.map Aq),.sl 2 (b.map Ae)]),(18,.box 220 (Dj d))]⟩) fun _ _=>O3.eq_2 ..
abbrev z1y {n e a f g b c}:=li (O4 n e a f g b c) (fun d=>⟨[(1,.sl 5 (g.map A7)),(7,.ptr 7 0),(8,.ptr 8 0),(9,.ptr 9 0),(10,.ptr 10 0),(15,.ptr 15 0),(17,aI d)],[(7,.box 60 (Bi f)),(8,.box 115 (C6 a)),(9,.box 71 (Bu e)),(10,.box 60 [aI 0,.nils,.nils]),(15,.box 60 [aI a.fTo,.nils,.sl 2 (b.map Ae)])]⟩) fun _ _=>O4.eq_2 ..
attribute [instance] z4r z49 z4a z1i z3z z5m z6r z2y z2x z2w z5i z1w z1x z1y
instance zig {n a}:CI E0 (Qj n a) true 64 [.sl 5 (a.map A7)] aI:=by unfold Qj;exact CI.w [] Tryz.func64
instance zj7 {n b a}:CI E0 (Eg n b a) true 32 [Bm b,.sl 5 (a.map A7)] aI:=by unfold Eg;exact CI.w [] Tryz.func32
instance zhz {n}:CI E0 (Qd n) false 65 [] A4:=by unfold Qd;exact CI.w [] Tryz.func65
instance zi3 {n b a}:CI E0 (Ty n b a) false 166 [.sl 5 (b.map A7),Bf a] (fun r=>.tup [A7 r.1,.bool (r.2)]):=by unfold Ty;exact CI.w [] Tryz.func166
instance zi4 {n e d c}:CI E0 (X9 n e d c) false 196 [.sl 5 (e.map A7),aI d,.sl 4 (c.map Aq)] Di:=⟨fun {r} b=>by
 unfold X9 at b;refine cw Tryz.func196 ?_;repeat' first
  |refine AW.nstO (er:=A7) 71 5 b 13 rfl (fun b=>?_)
  |refine AW.frrO (ety:=71) (sz:=5) A7 b 13 rfl (fun b=>?_)
  |refine AW.regO b fun b=>?_
  |refine AW.stepU [9,7,2] ?_;conv=>whnf
  |refine A9.o b (fun b=>?_) fun b=>?_
  |refine A9.f ?_
  |refine MakX.on b (fun m b=>?_)
  |refine IdxX.A b fun x b=>?_
  |refine Ad.I b fun a b=>?_
  |refine OpX.ixc b rfl rfl rfl rfl rfl rfl rfl rfl (fun b=>?_)
  |refine OpX.ntk A7 b rfl rfl rfl rfl rfl rfl rfl rfl rfl rfl (fun q b=>?_)
  |refine AppX.oA b fun l b=>?_
  |refine OpX.npt A7 b rfl rfl rfl rfl rfl rfl rfl rfl rfl rfl rfl (fun l b=>?_)
  |exact ⟨_,b,LeX.a []⟩
  |refine Ax.I b (LeX.a []) fun m v b=>?_
  |refine AndA ?_
  |refine EqX.A ?_
  |exact RetX.oB b⟩
def zag (r:Ao):AV:=.agg [.sl 1 (List.map (fun q=>AV.sl 5 (List.map A7 q)) (r.fVars))]
instance z8e {n b a}:CI E0 (M0 n b a) false 167 [.sl 5 (b.map A7),A4 a] Di:=by unfold M0;exact CI.w [] Tryz.func167
instance zed {n c b a}:CI E0 (P0 n c b a) true 168 [Bc c,Di b,A7 a] (fun r=>.bool (r)):=by unfold P0;exact CI.w [1] Tryz.func168
instance zhy {n d c b a}:CI E0 (Tw n d c b a) true 125 [Bm d,.sl 5 (c.map A7),A4 b,A7 a] (fun r=>.bool (r)):=by unfold Tw;exact CI.w [] Tryz.func125
instance zja {n c b}:CI E0 (Ir n c b) false 126 [Bm c,aI b] (fun r=>.sl 17 (r.map B5)):=⟨fun {r} a=>by
 unfold Ir at a;refine cw Tryz.func126 ?_;repeat' first
  |refine AW.regO a fun a=>?_
  |refine AW.stepU [5] ?_;conv=>whnf
  |refine A9.o a (fun a=>?_) fun a=>?_
  |refine IdxX.A a fun x a=>?_
  |refine AppX.oA a fun l a=>?_
  |exact ⟨_,a,LeX.a [(7029,29)]⟩
  |exact ⟨_,a,LeX.a []⟩
  |refine Ax.I a ?_ fun m v a=>?_
  |exact LeX.trans (LeX.adopt 5 7029 115 17 rfl rfl) (LeX.a [])
  |exact RetX.oB a⟩
instance zlv {n b a}:CI E0 (Uc n b a) true 169 [.sl 1 (b.map aI),aI a] (fun r=>.bool (r)):=by unfold Uc;exact CI.w [] Tryz.func169
instance zgr {n c b}:CI E0 (Q0 n c b) false 173 [.sl 2 (c.map Ae),aI b] (fun r=>.sl 2 (r.map Ae)):=⟨fun {r} a=>by
 unfold Q0 at a;refine cw Tryz.func173 ?_;repeat' first
  |refine AW.regO a fun a=>?_
  |refine AW.stepU [5] ?_;conv=>whnf
  |refine A9.o a (fun a=>?_) fun a=>?_
  |refine IdxX.A a fun x a=>?_
  |refine AppX.oA a fun l a=>?_
  |exact ⟨_,a,LeX.a [(7026,26)]⟩
  |exact ⟨_,a,LeX.a []⟩
  |refine Ax.I a ?_ fun m v a=>?_
  |exact LeX.trans (LeX.adopt 5 7026 102 2 rfl rfl) (LeX.a [])
  |exact RetX.oB a⟩
instance zgq {n e d c}:CI E0 (Tk n e d c) false 171 [.sl 2 (e.map Ae),aI d,aI c] (fun r=>.sl 2 (r.map Ae)):=⟨fun {r} b=>by
 unfold Tk at b;refine cw Tryz.func171 ?_;repeat' first
  |refine AW.jI b (fun v b=>?_) fun b=>?_
  |refine AW.regO b fun b=>?_
  |refine AW.stepU [4] ?_;conv=>whnf
  |refine A9.o b (fun b=>?_) fun b=>?_
  |refine Ad.I b fun a b=>?_
  |refine AppX.oA b fun l b=>?_
  |refine SlsX.o Ae b (fun l b=>?_)
  |refine IdxX.A b fun x b=>?_
  |exact ⟨_,b,LeX.a [(7031,31)]⟩
  |exact ⟨_,b,LeX.a []⟩
  |refine Ax.I b ?_ fun m v b=>?_
  |exact LeX.trans (LeX.adopt 7 7031 102 2 rfl rfl) (LeX.a [])
  |exact RetX.oB b⟩
instance zj6 {n c b a}:CI E0 (U3 n c b a) true 172 [.sl 2 (c.map Ae),Cc b,aI a] (fun r=>.bool (r)):=by unfold U3;exact CI.w [] Tryz.func172
end
noncomputable section
abbrev z1z {n d a e f b}:=li (O5 n d a e f b) (fun c=>⟨[(1,.sl 5 (f.map A7)),(7,.ptr 7 0),(8,.ptr 8 0),(9,.ptr 9 0),(10,.ptr 10 0),(15,.ptr 15 0),(16,aI c.1)],[(7,.box 60 (Bi e)),(8,.box 115 (C6 a)),(9,.box 71 (Bu d)),(10,.box 60 [aI 0,.nils,.nils]),(15,.box 60 [aI a.fTo,.nils,.sl 2 (c.2.map Ae)])]⟩) fun _ _=>O5.eq_2 ..
abbrev z23 {n a c d e}:=jf (Ec n a c d e) (fun b=>⟨[(1,.sl 5 (e.map A7)),(7,.ptr 7 0),(8,.ptr 8 0),(9,.ptr 9 0),(10,.ptr 10 0),(70,.bool (b))],[(7,.box 60 (Bi d)),(8,.box 115 (C6 c)),(9,.box 71 (Bu a)),(10,.box 60 [aI 0,.nils,.nils])]⟩) fun _=>Ec.eq_1 ..
abbrev z21 {n f g h i e a b c}:=jf (Jq n f g h i e a b c) (fun d=>⟨[(1,.sl 5 (i.map A7)),(7,.ptr 7 0),(8,.ptr 8 0),(9,.ptr 9 0),(10,.ptr 10 0),(12,.ptr 12 0),(13,.sl 11 (a.fGuards.map Bc)),(14,aI b),(54,.bool (d))],[(7,.box 60 (Bi h)),(8,.box 115 (C6 g)),(9,.box 71 (Bu f)),(10,.box 60 [aI 0,.nils,.nils]),(12,.box 220 (Dj e))]⟩) fun _=>Jq.eq_1 ..
abbrev z20 {n e f g h d a b}:=li (Hr n e f g h d a b) (fun c=>⟨[(1,.sl 5 (h.map A7)),(7,.ptr 7 0),(8,.ptr 8 0),(9,.ptr 9 0),(10,.ptr 10 0),(12,.ptr 12 0),(13,.sl 11 (a.fGuards.map Bc)),(14,aI c)],[(7,.box 60 (Bi g)),(8,.box 115 (C6 f)),(9,.box 71 (Bu e)),(10,.box 60 [aI 0,.nils,.nils]),(12,.box 220 (Dj d))]⟩) fun _ _=>Hr.eq_2 ..
abbrev z7b {n a d b}:=jf (Lb n a d b) (fun c=>⟨[(0,.sl 1 (d.map Ap)),(3,.ptr 3 0),(5,aI b),(34,.bool (c))],[(3,.box 44 (G5 a))]⟩) fun _=>Lb.eq_1 ..
abbrev z7a {n a f b c d}:=jf (La n a f b c d) (fun e=>⟨[(0,.sl 1 (f.map Ap)),(3,.ptr 3 0),(5,aI b),(19,.bool (e))],[(3,.box 44 (G5 a))]⟩) fun _=>La.eq_1 ..
abbrev z79 {n a d b}:=li (Ii n a d b) (fun c=>⟨[(0,.sl 1 (d.map Ap)),(3,.ptr 3 0),(5,aI c)],[(3,.box 44 (G5 a))]⟩) fun _ _=>Ii.eq_2 ..
abbrev z6v {n d e f g a c}:=li (Ie n d e f g a c) (fun b=>⟨[(1,.sl 5 (f.map A7)),(4,.ptr 4 0),(6,.ptr 6 0),(7,.ptr 7 0),(10,.sl 3 (b.1.map A4)),(11,.sl 1 (b.2.1.map Ap)),(12,.sl 17 (a.map B5)),(13,aI b.2.2)],[(4,.box 25 (Ba g)),(6,.box 60 (Bi e)),(7,.box 71 (Bu d))]⟩) fun _ _=>Ie.eq_2 ..
abbrev z6w {n a c d e}:=jt (L7 n a c d e) (fun b=>⟨[(1,.sl 5 (d.map A7)),(4,.ptr 4 0),(6,.ptr 6 0),(7,.ptr 7 0),(10,.sl 3 (b.map A4)),(11,.nils)],[(4,.box 25 (Ba e)),(6,.box 60 (Bi c)),(7,.box 71 (Bu a))]⟩) fun _=>L7.eq_1 ..
abbrev z6x {n a g h i d b c e}:=li (Q1 n a g h i d b c e) (fun f=>⟨[(1,.sl 5 (h.map A7)),(2,.sl 3 (g.map A4)),(4,.ptr 4 0),(7,.ptr 7 0),(10,.sl 3 (b.map A4)),(11,.sl 1 (f.1.map Ap)),(12,aI d.2.2),(14,.sl 1 (c.map Ap)),(16,aI f.2)],[(4,.box 25 (Ba i)),(7,.box 71 (Bu a))]⟩) fun _ _=>Q1.eq_2 ..
abbrev z6y {n a f g h b c d}:=li (Q2 n a f g h b c d) (fun e=>⟨[(1,.sl 5 (g.map A7)),(2,.sl 3 (f.map A4)),(4,.ptr 4 0),(7,.ptr 7 0),(10,.sl 3 (e.1.map A4)),(11,.sl 1 (b.2.1.map Ap)),(12,aI b.2.2),(13,.sl 3 (c.1.map A4)),(14,.sl 1 (c.2.map Ap)),(15,aI e.2)],[(4,.box 25 (Ba h)),(7,.box 71 (Bu a))]⟩) fun _ _=>Q2.eq_2 ..
abbrev z6z {n a d e f c}:=li (Q3 n a d e f c) (fun b=>⟨[(1,.sl 5 (e.map A7)),(2,.sl 3 (d.map A4)),(4,.ptr 4 0),(7,.ptr 7 0),(10,.sl 3 (b.1.map A4)),(11,.sl 1 (b.2.1.map Ap)),(12,aI b.2.2)],[(4,.box 25 (Ba f)),(7,.box 71 (Bu a))]⟩) fun _ _=>Q3.eq_2 ..
attribute [instance] z1z z23 z21 z20 z7b z7a z79 z6v z6w z6x z6y z6z
instance zf4 {n g f e d c}:CI E0 (Kl n g f e d c) false 127 [Bm g,.sl 5 (f.map A7),A4 e,B5 d,A7 c] (fun r=>.tup [A4 r.1,.bool (r.2)]):=⟨fun {r} b=>by
 unfold Kl at b;refine Con.env (E:=E0b) rfl rfl ?_;refine Con.walk _ Tryz.func127 rfl (Aw Tryz.func127 rfl rfl) rfl (Or.inl rfl) ?_;repeat' first
  |refine AW.jI b (fun v b=>?_) fun b=>?_
  |refine AW.regO b fun b=>?_
  |refine AW.frzO b 125 rfl (fun b=>?_)
  |refine AW.stepU [21,6,8] ?_;conv=>whnf
  |refine A9.o b (fun b=>?_) fun b=>?_
  |refine Ad.I b fun a b=>?_
  |refine IdxX.A b fun x b=>?_
  |refine AppX.oA0 b fun l b=>?_
  |refine OpX.bldS Aq b rfl rfl rfl rfl rfl rfl rfl rfl rfl rfl rfl rfl rfl rfl (fun l b=>?_)
  |refine AppX.oA b fun l b=>?_
  |refine OpX.bldR A7 b rfl rfl rfl rfl rfl rfl rfl rfl rfl rfl rfl rfl rfl rfl rfl rfl (by first|exact SubR.refl _|(repeat' first|exact SubR.nil|refine SubR.cons ?_ ?_|exact SubL.nil|refine SubL.cons ?_ ?_|exact Sub.refl _|exact Sub.nil _)) rfl (fun l b=>?_)
  |refine B7.oE b 130 zag rfl (fun a h=>Con.env rfl rfl (z8e.h h)) rfl rfl (fun a b=>?_)
  |exact ⟨_,b,LeX.a []⟩
  |refine Ax.I b (LeX.a []) fun m v b=>?_
  |refine IdxX.oD b D6 (fun x b=>?_)
  |refine Ad.S b fun a b=>?_
  |refine AndA ?_
  |exact RetX.oB b⟩
instance zm3 {n d c}:CI E0 (M2 n d c) false 67 [.sl 1 (d.map Ap),Ap c] (fun r=>.sl 1 (r.map Ap)):=⟨fun {r} b=>by
 unfold M2 at b;refine cw Tryz.func67 ?_;repeat' first
  |refine AW.jI b (fun v b=>?_) fun b=>?_
  |refine AW.regO b fun b=>?_
  |refine AW.stepU [2,4] ?_;conv=>whnf
  |refine A9.o b (fun b=>?_) fun b=>?_
  |refine SlsX.o Ap b (fun l b=>?_)
  |refine AppX.oA0 b fun l b=>?_
  |refine AppX.oA b fun l b=>?_
  |refine IdxX.A b fun x b=>?_
  |refine Ad.I b fun a b=>?_
  |exact ⟨_,b,LeX.a []⟩
  |refine Ax.I b (LeX.a []) fun m v b=>?_
  |refine AndA ?_
  |exact RetX.oB b⟩
instance zly {n f e d c}:CI E0 (Ud n f e d c) false 88 [Bm f,.sl 5 (e.map A7),A4 d,A7 c] (fun r=>.tup [.sl 3 (r.1.map A4),.sl 1 (r.2.map Ap)]):=⟨fun {r} b=>by
 unfold Ud at b;refine cw Tryz.func88 ?_;repeat' first
  |refine AW.jI2 b (fun v b=>?_) fun b=>?_
  |refine AW.regO b fun b=>?_
  |refine AW.stepU [3,11] ?_;conv=>whnf
  |refine A9.o b (fun b=>?_) fun b=>?_
  |refine Ad.I b fun a b=>?_
  |refine IdxX.A b fun x b=>?_
  |exact ⟨_,b,LeX.a []⟩
  |refine Ax.I b ?_ fun m v b=>?_
  |exact LeX.pa 11 (LeX.a [])
  |refine Ad.S b fun a b=>?_
  |exact ⟨_,b,LeX.pa 10 (LeX.a [])⟩
  |refine AndA ?_
  |exact RetX.oB b⟩
instance zlz {n f e d c}:CI E0 (M1 n f e d c) false 66 [Bm f,.sl 5 (e.map A7),.sl 3 (d.map A4),A7 c] (fun r=>.tup [.sl 3 (r.1.map A4),.sl 1 (r.2.map Ap)]):=⟨fun {r} b=>by
 unfold M1 at b;refine cw Tryz.func66 ?_;repeat' first
  |refine AW.step ?_;conv=>whnf
  |refine A9.o b (fun b=>?_) fun b=>?_
  |refine IdxX.A b fun x b=>?_
  |refine Ad.I b fun a b=>?_
  |exact ⟨_,b,LeX.a []⟩
  |refine Ax.I b ?_ fun m v b=>?_
  |exact LeX.a []
  |exact LeX.pa 10 (LeX.pa 11 (LeX.a []))
  |refine AndA ?_
  |exact RetX.oB b⟩
end
noncomputable section
abbrev z31 {n a g h d e b c}:=jf (K0 n a g h d e b c) (fun f=>⟨[(1,.sl 5 (g.map A7)),(2,aI a),(3,.ptr 3 0),(10,.sl 1 (b.map Ap)),(11,aI d.2.2),(12,.sl 3 (c.map A4)),(55,.bool (f))],[(3,.box 25 (Ba h))]⟩) fun _=>K0.eq_1 ..
abbrev z2z {n a f g b c d}:=li (Oe n a f g b c d) (fun e=>⟨[(1,.sl 5 (f.map A7)),(2,aI a),(3,.ptr 3 0),(10,.sl 1 (e.1.map Ap)),(11,aI b.2.2),(12,.sl 3 (c.1.map A4)),(13,.sl 1 (c.2.map Ap)),(14,aI e.2)],[(3,.box 25 (Ba g))]⟩) fun _ _=>Oe.eq_2 ..
abbrev z30 {n a d e c}:=li (Hz n a d e c) (fun b=>⟨[(1,.sl 5 (d.map A7)),(2,aI a),(3,.ptr 3 0),(9,.sl 3 (b.1.map A4)),(10,.sl 1 (b.2.1.map Ap)),(11,aI b.2.2)],[(3,.box 25 (Ba e))]⟩) fun _ _=>Hz.eq_2 ..
abbrev z3y {n a c}:=jf (K8 n a c) (fun b=>⟨[(1,.sl 5 (a.map A7)),(2,.ptr 2 0),(15,.bool (b))],[(2,.box 25 (Ba c))]⟩) fun _=>K8.eq_1 ..
abbrev zb1 {n a b}:=li (M9 n a b) (fun c=>⟨[(0,.sl 5 (a.map A7)),(3,.row 9),(10,.sl 5 (a.map A7)),(11,aI (((a.map A7).length:Int))),(12,aI c.1)],[(9,.mp (List.map (encM M7 AV.bool) (c.2)))]⟩) fun _ _=>M9.eq_2 ..
abbrev zek {n d a b}:=li (Rq n d a b) (fun c=>⟨[(8,.ptr 24 0),(25,.sl 5 (d.map A7)),(26,aI (((d.map A7).length:Int))),(27,aI c.1)],[(24,.box 180 [aI a.fVars,aI a.fScopes,.sl 1 (a.fStates.map Bb),.sl 17 (a.fEdges.map B5),.row 22]),(22,.mp (List.map (encM Bf A7) (c.2)))]⟩) fun _ _=>Rq.eq_2 ..
abbrev z68 {n e a b c}:=jf (Ky n e a b c) (fun d=>⟨[(0,.ref [aI a.fa.fVars,aI a.fa.fScopes,.sl 1 (a.fa.fStates.map Bb),.sl 17 (a.fa.fEdges.map B5),.mapv (List.map (encM Bf A7) (a.fheld))]),(3,.ptr 3 0),(84,.sl 2 (e.fStarts.map Ae)),(85,aI (((e.fStarts.map Ae).length:Int))),(86,aI b),(115,.bool (d))],[(3,.box 60 (Bi e))]⟩) fun _=>Ky.eq_1 ..
abbrev z69 {n f a b c e}:=jf (Gt n f a b c e) (fun d=>⟨[(0,.ref [aI a.fa.fVars,aI a.fa.fScopes,.sl 1 (a.fa.fStates.map Bb),.sl 17 (a.fa.fEdges.map B5),.mapv (List.map (encM Bf A7) (a.fheld))]),(3,.ptr 3 0),(9,aI b),(10,.ptr 10 0),(84,.sl 2 (f.fStarts.map Ae)),(85,aI (((f.fStarts.map Ae).length:Int))),(86,aI b),(91,.bool (d))],[(3,.box 60 (Bi f)),(10,.box 102 (zad e))]⟩) fun _=>Gt.eq_1 ..
abbrev z7i {n d a b}:=li (Fv n d a b) (fun c=>⟨[(0,.ref [aI a.fa.fVars,aI a.fa.fScopes,.sl 1 (a.fa.fStates.map Bb),.sl 17 (a.fa.fEdges.map B5),.mapv (List.map (encM Bf A7) (a.fheld))]),(3,.ptr 3 0),(84,.sl 2 (d.fStarts.map Ae)),(85,aI (((d.fStarts.map Ae).length:Int))),(86,aI c)],[(3,.box 60 (Bi d))]⟩) fun _ _=>Fv.eq_2 ..
abbrev z65 {n f a b c e}:=jf (Kw n f a b c e) (fun d=>⟨[(0,.ref [aI a.fa.fVars,aI a.fa.fScopes,.sl 1 (a.fa.fStates.map Bb),.sl 17 (a.fa.fEdges.map B5),.mapv (List.map (encM Bf A7) (a.fheld))]),(3,.ptr 3 0),(8,.bool (e)),(32,.sl 4 (f.fBindings.map Aq)),(33,aI (((f.fBindings.map Aq).length:Int))),(34,aI b),(63,.bool (d))],[(3,.box 60 (Bi f))]⟩) fun _=>Kw.eq_1 ..
abbrev z67 {n g a b c e f}:=jf (Kx n g a b c e f) (fun d=>⟨[(0,.ref [aI a.fa.fVars,aI a.fa.fScopes,.sl 1 (a.fa.fStates.map Bb),.sl 17 (a.fa.fEdges.map B5),.mapv (List.map (encM Bf A7) (a.fheld))]),(3,.ptr 3 0),(5,aI b),(6,.ptr 6 0),(8,.bool (f)),(32,.sl 4 (g.fBindings.map Aq)),(33,aI (((g.fBindings.map Aq).length:Int))),(34,aI b),(49,.bool (d))],[(3,.box 60 (Bi g)),(6,.box 76 (ziz e))]⟩) fun _=>Kx.eq_1 ..
abbrev z7j {n d a b}:=li (Ik n d a b) (fun c=>⟨[(0,.ref [aI a.fa.fVars,aI a.fa.fScopes,.sl 1 (a.fa.fStates.map Bb),.sl 17 (a.fa.fEdges.map B5),.mapv (List.map (encM Bf A7) (a.fheld))]),(3,.ptr 3 0),(32,.sl 4 (d.fBindings.map Aq)),(33,aI (((d.fBindings.map Aq).length:Int))),(34,aI c)],[(3,.box 60 (Bi d))]⟩) fun _ _=>Ik.eq_2 ..
abbrev z7k {n c a}:=jf (Lg n c a) (fun b=>⟨[(0,.ref [aI a.fa.fVars,aI a.fa.fScopes,.sl 1 (a.fa.fStates.map Bb),.sl 17 (a.fa.fEdges.map B5),.mapv (List.map (encM Bf A7) (a.fheld))]),(3,.ptr 3 0),(11,.bool (b))],[(3,.box 60 (Bi c))]⟩) fun _=>Lg.eq_1 ..
attribute [instance] z31 z2z z30 z3y  zb1 zek z68 z69 z7i z65 z67 z7j z7k
instance zgs {n e d c}:CI E0 (L4 n e d c) false 33 [Bm e,.sl 5 (d.map A7),aI c] (fun r=>.tup [.sl 3 (r.1.map A4),.sl 1 (r.2.1.map Ap),.bool (r.2.2)]):=⟨fun {r} b=>by
 unfold L4 at b;refine cw Tryz.func33 ?_;repeat' first
  |refine AW.jI b (fun v b=>?_) fun b=>?_
  |refine AW.regO b fun b=>?_
  |refine AW.stepU [11] ?_;conv=>whnf
  |refine A9.o b (fun b=>?_) fun b=>?_
  |refine Ad.I b fun a b=>?_
  |refine IdxX.A b fun x b=>?_
  |exact ⟨_,b,LeX.a []⟩
  |refine Ax.I b ?_ fun m v b=>?_
  |exact LeX.a []
  |exact LeX.pa 10 (LeX.a [])
  |refine AndA ?_
  |exact RetX.oB b⟩
instance zhx {n b a}:CI E0 (Lo n b a) true 11 [Bm b,.sl 5 (a.map A7)] (fun r=>.bool (r)):=by unfold Lo;exact CI.w [1] Tryz.func11
instance zj5 {n b a}:CI E0 (E3 n b a) true 39 [Bm b,.sl 5 (a.map A7)] aI:=by unfold E3;exact CI.w [] Tryz.func39
instance zjk {n}:CI E0 (Lv n) false 34 [] Bm:=⟨fun {r} b=>by
 unfold Lv at b;refine cw Tryz.func34 ?_;repeat' first
  |refine AW.step ?_;conv=>whnf
  |refine A9.o b (fun b=>?_) fun b=>?_
  |refine A9.t ?_
  |refine A9.f ?_
  |refine Ad.I b fun a b=>?_
  |refine MakX.o Bb b (by first|exact SubL.refl _|(repeat' first|exact SubL.nil|refine SubL.cons ?_ ?_|exact Sub.refl _|exact Sub.nil _|refine Sub.agg ?_)) (fun l b=>?_)
  |refine AndA ?_
  |refine EqX.A ?_
  |exact RetX.oB b⟩
instance zss {n a}:CI E0 (Vd n a) true 106 [A7 a] (fun r=>.bool (r)):=by unfold Vd;exact CI.w [] Tryz.func106
instance zzk {n a}:CI E0 (Vy n a) true 148 [A7 a] Bf:=by unfold Vy;exact CI.w [] Tryz.func148
instance zsw {n b a}:CI E0 (Vf n b a) true 107 [A7 b,A7 a] aI:=by unfold Vf;exact CI.w [] Tryz.func107
instance zzc {n a}:CI E0 (My n a) true 108 [A7 a] M7:=by unfold My;exact CI.w [] Tryz.func108
theorem zw9 (a b:Iw):eqK (M7 a) (M7 b)=some (decide (a=b)):=by cases a;cases b;simp [M7,eqK,eqL,eq1,aI,N5]
instance zt4 {n d}:CI E0 (Rn n d) true 70 [.sl 5 (d.map A7)] aI:=⟨fun {r} c=>by
 unfold Rn at c;refine cw Tryz.func70 ?_;repeat' first
  |refine AW.step ?_;conv=>whnf
  |refine A9.o c (fun c=>?_) fun c=>?_
  |refine A9.f ?_
  |refine IdxX.A c fun x c=>?_
  |refine Ad.I c fun a c=>?_
  |refine LkX.o M7 AV.bool c (by first|rfl|kernel_rfl) zw9 (by repeat' first|exact Sub.nil _|exact Sub.refl _|refine Sub.agg ?_|refine Sub.tup ?_|refine Sub.fn ?_|exact SubL.nil|refine SubL.cons ?_ ?_|refine Sub.sl _ ?_|exact SubE.nil|refine SubE.cons ?_ ?_) (fun v b c=>?_)
  |refine UpX.o M7 AV.bool c (by first|rfl|kernel_rfl) zw9 (by repeat' first|exact Sub.nil _|exact Sub.refl _|refine Sub.agg ?_|refine Sub.tup ?_|refine Sub.fn ?_|exact SubL.nil|refine SubL.cons ?_ ?_|refine Sub.sl _ ?_|exact SubE.nil|refine SubE.cons ?_ ?_) (fun l c=>?_)
  |exact ⟨_,c,LeX.a []⟩
  |refine Ax.I c (LeX.a []) fun m v c=>?_
  |refine AndA ?_
  |exact RetX.oB c⟩
instance zn8 {n b a}:CI E0 (Ez n b a) true 36 [Bm b,.sl 5 (a.map A7)] aI:=by unfold Ez;exact CI.w [] Tryz.func36
instance zze {n}:CI E0 (Hc n) false 47 [] A4:=by unfold Hc;exact CI.w [] Tryz.func47
theorem zw7 (a b:Bg):eqK (Bf a) (Bf b)=some (decide (a=b)):=by cases a;cases b;simp [Bf,eqK,eqL,eq1,aI,N5]
def G4:Option B9->AV |none=>.nilp |some x=>.ref [aI (x.fa.fVars),aI (x.fa.fScopes),.sl 1 (x.fa.fStates.map Bb),.sl 17 (x.fa.fEdges.map B5),.mapv (List.map (encM Bf A7) (x.fheld))]
def Ei (r:(Option B9)×Int):AV:=.tup [G4 (r.1),aI (r.2)]
instance Y3 {n d c}:CI E0 (G6 n d c) false 82 [Bm d,.sl 5 (c.map A7)] (fun r=>.tup [G4 (r.1),aI r.2]):=⟨fun {r} b=>by
 unfold G6 at b;refine cw Tryz.func82 ?_;repeat' first
  |refine AW.step ?_;conv=>whnf
  |refine A9.o b (fun b=>?_) fun b=>?_
  |refine Ad.I b fun a b=>?_
  |refine IdxX.A b fun x b=>?_
  |refine OpX.nckP rfl rfl rfl rfl rfl ?_
  |refine UpX.o Bf A7 b (by first|rfl|kernel_rfl) zw7 (by repeat' first|exact Sub.nil _|exact Sub.refl _|refine Sub.agg ?_|refine Sub.tup ?_|refine Sub.fn ?_|exact SubL.nil|refine SubL.cons ?_ ?_|refine Sub.sl _ ?_|exact SubE.nil|refine SubE.cons ?_ ?_) (fun l b=>?_)
  |exact ⟨_,b,LeX.a []⟩
  |refine Ax.I b (LeX.a []) fun m v b=>?_
  |refine AndA ?_
  |exact RetX.oB b⟩
end
noncomputable section
abbrev z99 {n d a e b}:=li (Qu n d a e b) (fun c=>⟨[(0,.ref [aI a.fa.fVars,aI a.fa.fScopes,.sl 1 (a.fa.fStates.map Bb),.sl 17 (a.fa.fEdges.map B5),.mapv (List.map (encM Bf A7) (a.fheld))]),(4,.ptr 4 0),(5,.ptr 5 0),(15,.sl 4 (d.map Aq)),(16,aI (((d.map Aq).length:Int))),(17,aI c.1)],[(4,.box 220 [.nils]),(5,.box 220 [.cont (e) 13]),(13,.nest 26 (List.map (enR A7 71 5) (c.2)))]⟩) fun _ _=>Qu.eq_2 ..
abbrev z1o {n a a0f2 a0f1 a0f0}:=jf (Jp n a a0f2 a0f1 a0f0) (fun b=>⟨[(1,aI a),(2,.ptr 2 0),(14,.bool (b))],[(2,.box 293 [.sl 1 (List.map (fun q=>AV.sl 5 (List.map A7 q)) (a0f0.fVars)),aI a0f1,aI a0f2.fSource,aI a0f2.fSeq,aI a0f2.fType,aI a0f2.fTime,.sl 3 (a0f2.fValues.map Af),.mapv [(aI 5,.fn 254 [.ref [.fn 253 []]]),(aI 6,.fn 255 [.ref [.fn 253 []]]),(aI 7,.fn 256 []),(aI 8,.fn 257 []),(aI 10,.fn 258 []),(aI 11,.fn 259 []),(aI 12,.fn 260 [])]])]⟩) fun _=>Jp.eq_1 ..
abbrev z2l {n d a b}:=li (Oc n d a b) (fun c=>⟨[(3,.ptr 3 0),(4,.ptr 4 0),(6,.row 7034),(14,.sl 5 (a.map A7)),(15,aI (((a.map A7).length:Int))),(16,aI c.1)],[(3,.box 111 (Cm d)),(4,.box 109 [aI 0,aI 0,.str (ByteArray.empty)]),(7034,.row 109 3 (c.2.map Af))]⟩) fun _ _=>Oc.eq_2 ..
abbrev z3m {n a}:=jt (K5 n a) (fun b=>⟨[(4,.ptr 4 0),(8,.ptr 8 0),(9,aI b)],[(4,.box 109 [aI 0,aI 0,.str (ByteArray.empty)]),(8,.box 109 (Cd a.1))]⟩) fun _=>K5.eq_1 ..
abbrev z3n {n a}:=jt (K6 n a) (fun b=>⟨[(3,.ptr 3 0),(4,.ptr 4 0),(7,.ptr 7 0)],[(3,.box 111 (Cm a)),(4,.box 109 [aI 0,aI 0,.str (ByteArray.empty)]),(7,.box 71 [aI b.1,aI b.2.1,aI b.2.2.1,aI b.2.2.2.1,.sl 3 (b.2.2.2.2.map Af)])]⟩) fun _=>K6.eq_1 ..
abbrev zar {n a f b c d}:=jt (Iv n a f b c d) (fun e=>⟨[(0,aI f),(1,.sl 1 (a.map aI)),(6,aI d),(7,.bool (true)),(8,.sl 1 (a.map aI)),(9,aI (((a.map aI).length:Int))),(10,aI b),(14,aI f),(22,.bool (e))],[]⟩) fun _=>Iv.eq_1 ..
abbrev zau {n a f b c d}:=jt (H6 n a f b c d) (fun e=>⟨[(0,aI f),(1,.sl 1 (a.map aI)),(6,aI d),(7,.bool (true)),(8,.sl 1 (a.map aI)),(9,aI (((a.map aI).length:Int))),(10,aI b),(14,aI f),(15,.bool (e))],[]⟩) fun _=>H6.eq_1 ..
abbrev zaq {n a d b}:=li (G3 n a d b) (fun c=>⟨[(0,aI d),(1,.sl 1 (a.map aI)),(8,.sl 1 (a.map aI)),(9,aI (((a.map aI).length:Int))),(10,aI c)],[]⟩) fun _ _=>G3.eq_2 ..
abbrev z7p {n}:=jf (Lk n) (fun b=>⟨[(4,.ptr 4 0)],[(4,.box 109 [aI b.1,aI b.2.1,.str (b.2.2)])]⟩) fun _=>Lk.eq_1 ..
attribute [instance] z99 z1o z2l z3m z3n zar zau zaq z7p
instance zma {n d e}:CI E0 (H4 n d e) true 83 [.ref [aI d.fa.fVars,aI d.fa.fScopes,.sl 1 (d.fa.fStates.map Bb),.sl 17 (d.fa.fEdges.map B5),.mapv (List.map (encM Bf A7) (d.fheld))],A4 e] aI:=⟨fun {r} c=>by
 unfold H4 at c;refine cw Tryz.func83 ?_;repeat' first
  |refine AW.jI c (fun v c=>?_) fun c=>?_
  |refine AW.regO c fun c=>?_
  |refine AW.stepU [1,9,11,19,21] ?_;conv=>whnf
  |refine A9.o c (fun c=>?_) fun c=>?_
  |refine A9.t ?_
  |refine IdxX.A c fun x c=>?_
  |exact ⟨_,c,LeX.a []⟩
  |refine OpX.nckR rfl rfl rfl rfl ?_
  |refine Ax.I c (LeX.a []) fun m v c=>?_
  |refine OpX.lkv Bf A7 c zw7 rfl rfl rfl rfl rfl rfl rfl rfl rfl rfl (by first|rfl|kernel_rfl) (by repeat' first|exact Sub.nil _|exact Sub.refl _|refine Sub.agg ?_|refine Sub.tup ?_|refine Sub.fn ?_|exact SubL.nil|refine SubL.cons ?_ ?_|refine Sub.sl _ ?_|exact SubE.nil|refine SubE.cons ?_ ?_) (fun v b c=>?_)
  |refine Ad.I c fun a c=>?_
  |refine AndA ?_
  |exact RetX.oB c⟩
def z92 (c:B9)(b:A0)(a:A8):List (Nat×Ent):=[]
def X3 (r:B9×A0×A8):List (Nat×Ent):=[(3,.box 137 [.ref [aI r.1.fa.fVars,aI r.1.fa.fScopes,.sl 1 (r.1.fa.fStates.map Bb),.sl 17 (r.1.fa.fEdges.map B5),.mapv (List.map (encM Bf A7) (r.1.fheld))]]),(4,.box 60 (Bi r.2.1)),(5,.box 71 (Bu r.2.2))]
def z09 (r:B9×A0×A8):AV:=.fn 156 [.ptr 3 0,.ptr 4 0,.ptr 5 0]
def z8q (r:B9×A0×A8):AS:=⟨[(6,.fn 156 [.ptr 3 0,.ptr 4 0,.ptr 5 0])],X3 r⟩
theorem z6c {n a c b r}(d:Xa n a c b=some r):ConG E0.P none (CalF E0.P 120 0) [.ref [aI a.fa.fVars,aI a.fa.fScopes,.sl 1 (a.fa.fStates.map Bb),.sl 17 (a.fa.fEdges.map B5),.mapv (List.map (encM Bf A7) (a.fheld))],A4 c,A7 b] [] (z92 a c b) (z09 r) (X3 r):=by
 unfold Xa at d;refine ConG.walk (E:=(E0p 3)) (caps:=[]) _ Tryz.func120 rfl rfl rfl rfl rfl ?_;repeat' first
  |refine AW.step ?_;conv=>whnf
  |exact GX.A (res:=z09) (meF:=X3) d z8q
def z5d (b:(List A0))(a:(List Ab)):List (Nat×Ent):=[(100000,.box 57 [.row 200000]),(200000,.row 60 3 (b.map A4)),(100001,.box 50 [.row 200001]),(200001,.row 44 1 (a.map Ap))]
def K7 (r:(List A0)×(List Ab)):List (Nat×Ent):=[(100000,.box 57 [.row 250000]),(250000,.row 60 3 (r.1.map A4)),(100001,.box 50 [.row 250001]),(250001,.row 44 1 (r.2.map Ap))]
def z0p (r:(List A0)×(List Ab)):AS:=⟨[(8,.ptr 100000 0),(9,.ptr 100001 0)],K7 r⟩
instance zp1 {n c d}:CI E0 (V3 n c d) false 157 [.ref [aI c.fa.fVars,aI c.fa.fScopes,.sl 1 (c.fa.fStates.map Bb),.sl 17 (c.fa.fEdges.map B5),.mapv (List.map (encM Bf A7) (c.fheld))],.sl 4 (d.map Aq)] Di:=⟨fun {r} a=>by
 unfold V3 at a;refine cw Tryz.func157 ?_;repeat' first
  |refine AW.nstO (er:=A7) 71 5 a 13 rfl (fun a=>?_)
  |refine AW.frrO (ety:=71) (sz:=5) A7 a 13 rfl (fun a=>?_)
  |refine AW.regO a fun a=>?_
  |refine AW.stepU [7,2] ?_;conv=>whnf
  |refine A9.o a (fun a=>?_) fun a=>?_
  |refine OpX.nckR rfl rfl rfl rfl ?_
  |refine MakX.on a (fun m a=>?_)
  |refine IdxX.A a fun x a=>?_
  |refine OpX.ixc a rfl rfl rfl rfl rfl rfl rfl rfl (fun a=>?_)
  |refine OpX.ntk A7 a rfl rfl rfl rfl rfl rfl rfl rfl rfl rfl (fun q a=>?_)
  |refine OpX.lkv Bf A7 a zw7 rfl rfl rfl rfl rfl rfl rfl rfl rfl rfl (by first|rfl|kernel_rfl) (by repeat' first|exact Sub.nil _|exact Sub.refl _|refine Sub.agg ?_|refine Sub.tup ?_|refine Sub.fn ?_|exact SubL.nil|refine SubL.cons ?_ ?_|refine Sub.sl _ ?_|exact SubE.nil|refine SubE.cons ?_ ?_) (fun v b a=>?_)
  |refine AppX.oA a fun l a=>?_
  |refine OpX.npt A7 a rfl rfl rfl rfl rfl rfl rfl rfl rfl rfl rfl (fun l a=>?_)
  |exact ⟨_,a,LeX.a []⟩
  |refine Ax.I a (LeX.a []) fun m v a=>?_
  |refine AndA ?_
  |refine EqX.A ?_
  |exact RetX.oB a⟩
theorem zab:Con E0 false 240 [] (.mapv [(aI 5,.fn 254 [.ref [.fn 253 []]]),(aI 6,.fn 255 [.ref [.fn 253 []]]),(aI 7,.fn 256 []),(aI 8,.fn 257 []),(aI 10,.fn 258 []),(aI 11,.fn 259 []),(aI 12,.fn 260 [])]):=by
 refine Con.walk _ Tryz.func240 rfl (Aw Tryz.func240 rfl rfl) rfl (Or.inl rfl) ?_;repeat' first
  |refine AW.frb0 1 rfl rfl ?_
  |refine AW.into ?_
  |refine AW.stepU [2] ?_;conv=>whnf
  |refine UpX.mk _ _ (by first|rfl|kernel_rfl) (by first|rfl|kernel_rfl) (SubM.refl _) ?_
  |exact RetX.mk rfl
instance zeh {n a0f0 a0f1 a0f2 b}:CI E0 (Pi n a0f0 a0f1 a0f2 b) false 269 [.agg [.sl 1 (List.map (fun q=>AV.sl 5 (List.map A7 q)) (a0f0.fVars)),aI a0f1,aI a0f2.fSource,aI a0f2.fSeq,aI a0f2.fType,aI a0f2.fTime,.sl 3 (a0f2.fValues.map Af),.mapv [(aI 5,.fn 254 [.ref [.fn 253 []]]),(aI 6,.fn 255 [.ref [.fn 253 []]]),(aI 7,.fn 256 []),(aI 8,.fn 257 []),(aI 10,.fn 258 []),(aI 11,.fn 259 []),(aI 12,.fn 260 [])]],aI b] (fun r=>.sl 5 (r.map A7)):=⟨fun {r} a=>by
 unfold Pi at a;refine cw Tryz.func269 ?_;repeat' first
  |refine AW.jI a (fun v a=>?_) fun a=>?_
  |refine AW.regO a fun a=>?_
  |refine AW.stepU [1] ?_;conv=>whnf
  |refine A9.o a (fun a=>?_) fun a=>?_
  |refine IdxX.o (fun q=>AV.sl 5 (List.map A7 q)) a fun x a=>?_
  |exact ⟨_,a,LeX.a []⟩
  |exact RetX.oB a⟩
instance zxl {n b a}:CI E0 (Mx n b a) true 271 [A7 b,aI a] (fun r=>.tup [Af r.1,aI r.2]):=by unfold Mx;exact CI.w [] Tryz.func271
instance zfi {n a0f0 a0f1 a0f2 c}:CI E0 (X0 n a0f0 a0f1 a0f2 c) true 270 [.agg [.sl 1 (List.map (fun q=>AV.sl 5 (List.map A7 q)) (a0f0.fVars)),aI a0f1,aI a0f2.fSource,aI a0f2.fSeq,aI a0f2.fType,aI a0f2.fTime,.sl 3 (a0f2.fValues.map Af),.mapv [(aI 5,.fn 254 [.ref [.fn 253 []]]),(aI 6,.fn 255 [.ref [.fn 253 []]]),(aI 7,.fn 256 []),(aI 8,.fn 257 []),(aI 10,.fn 258 []),(aI 11,.fn 259 []),(aI 12,.fn 260 [])]],Ar c] (fun r=>.tup [Af r.1,aI r.2]):=⟨fun {r} b=>by
 unfold X0 at b;refine cw Tryz.func270 ?_;repeat' first
  |refine AW.step ?_;conv=>whnf
  |refine A9.o b (fun b=>?_) fun b=>?_
  |refine Ad.I b fun a b=>?_
  |refine B7.I b (fun a b=>?_) rfl rfl fun _=>Or.inr rfl
  |refine IdxX.A b fun x b=>?_
  |refine AppX.oA b fun l b=>?_
  |exact ⟨_,b,LeX.a [(7034,34)]⟩
  |refine Ax.I b ?_ fun m v b=>?_
  |exact LeX.trans (LeX.adopt 6 7034 109 3 rfl rfl) (LeX.a [])
  |exact RetX.oB b⟩
instance zh3 {n a0f0 a0f1 a0f2 a}:CI E0 (Qa n a0f0 a0f1 a0f2 a) true 261 [.agg [.sl 1 (List.map (fun q=>AV.sl 5 (List.map A7 q)) (a0f0.fVars)),aI a0f1,aI a0f2.fSource,aI a0f2.fSeq,aI a0f2.fType,aI a0f2.fTime,.sl 3 (a0f2.fValues.map Af),.mapv [(aI 5,.fn 254 [.ref [.fn 253 []]]),(aI 6,.fn 255 [.ref [.fn 253 []]]),(aI 7,.fn 256 []),(aI 8,.fn 257 []),(aI 10,.fn 258 []),(aI 11,.fn 259 []),(aI 12,.fn 260 [])]],Ar a] (fun r=>.tup [Af r.1,aI r.2]):=by unfold Qa;exact CI.w [10,17] Tryz.func261
instance zsv {n b a}:CI E0 (Xz n b a) true 262 [aI b,.sl 1 (a.map aI)] aI:=by unfold Xz;exact CI.w [6,7,8,11,12,15] Tryz.func262
instance zxd {n a}:CI E0 (Y6 n a) true 242 [.bool (a)] Af:=by unfold Y6;exact CI.w [] Tryz.func242
instance zzh {n a}:CI E0 (Dr n a) true 214 [.bool (a)] Af:=by unfold Dr;exact CI.w [] Tryz.func214
instance zmk {n a}:CI E0 (Ur n a) true 253 [aI a] Af:=by unfold Ur;exact CI.w [] Tryz.func253
instance zmj {n b a}:CI E0 (Uq n b a) true 254 [aI b,aI a,.ref [.fn 253 []]] Af:=by unfold Uq;exact CI.w [] Tryz.func254
instance zmi {n b a}:CI E0 (Up n b a) true 255 [aI b,aI a,.ref [.fn 253 []]] Af:=by unfold Up;exact CI.w [] Tryz.func255
instance zmh {n b a}:CI E0 (Uo n b a) true 256 [aI b,aI a] Af:=by unfold Uo;exact CI.w [] Tryz.func256
instance zmg {n b a}:CI E0 (Un n b a) true 257 [aI b,aI a] Af:=by unfold Un;exact CI.w [] Tryz.func257
end
end Go.Proofs.YtidhlpjgifoneaaGreat
