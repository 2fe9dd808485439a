/- What some functions compute, over plain values. -/
import Derived.Test.YtidhlpjgifoneaaGreatK24
set_option linter.unusedVariables false
set_option linter.unusedSimpArgs false
set_option maxRecDepth 100000
set_option maxHeartbeats 8000000
namespace Go.Proofs.YtidhlpjgifoneaaGreat
open Go.RowKit List
noncomputable section
abbrev zku {n d a e f b}:=li (z5e n d a e f b) (fun c=>⟨[(1,.sl 5 (f.map z02)),(7,.ptr 7 0),(8,.ptr 8 0),(9,.ptr 9 0),(10,.ptr 10 0),(15,.ptr 15 0),(16,aI c.1)],[(7,.box 60 (z0x e)),(8,.box 115 (z1z a)),(9,.box 71 (z19 d)),(10,.box 60 [aI 0,.nils,.nils]),(15,.box 60 [aI a.fTo,.nils,.sl 2 (c.2.map z08)])]⟩) fun _ _=>z5e.eq_2 ..
abbrev zkx {n a c d e}:=jf (z1b n a c d e) (fun b=>⟨[(1,.sl 5 (e.map z02)),(7,.ptr 7 0),(8,.ptr 8 0),(9,.ptr 9 0),(10,.ptr 10 0),(70,.bool (b))],[(7,.box 60 (z0x d)),(8,.box 115 (z1z c)),(9,.box 71 (z19 a)),(10,.box 60 [aI 0,.nils,.nils])]⟩) fun _=>z1b.eq_1 ..
abbrev zkw {n f g h i e a b c}:=jf (z3h n f g h i e a b c) (fun d=>⟨[(1,.sl 5 (i.map z02)),(7,.ptr 7 0),(8,.ptr 8 0),(9,.ptr 9 0),(10,.ptr 10 0),(12,.ptr 12 0),(13,.sl 11 (a.fGuards.map z0u)),(14,aI b),(54,.bool (d))],[(7,.box 60 (z0x h)),(8,.box 115 (z1z g)),(9,.box 71 (z19 f)),(10,.box 60 [aI 0,.nils,.nils]),(12,.box 220 (zd7 e))]⟩) fun _=>z3h.eq_1 ..
abbrev zkv {n e f g h d a b}:=li (z2g n e f g h d a b) (fun c=>⟨[(1,.sl 5 (h.map z02)),(7,.ptr 7 0),(8,.ptr 8 0),(9,.ptr 9 0),(10,.ptr 10 0),(12,.ptr 12 0),(13,.sl 11 (a.fGuards.map z0u)),(14,aI c)],[(7,.box 60 (z0x g)),(8,.box 115 (z1z f)),(9,.box 71 (z19 e)),(10,.box 60 [aI 0,.nils,.nils]),(12,.box 220 (zd7 d))]⟩) fun _ _=>z2g.eq_2 ..
abbrev zqn {n a d b}:=jf (z72 n a d b) (fun c=>⟨[(0,.sl 1 (d.map z0c)),(3,.ptr 3 0),(5,aI b),(34,.bool (c))],[(3,.box 44 (zew a))]⟩) fun _=>z72.eq_1 ..
abbrev zqm {n a f b c d}:=jf (z71 n a f b c d) (fun e=>⟨[(0,.sl 1 (f.map z0c)),(3,.ptr 3 0),(5,aI b),(19,.bool (e))],[(3,.box 44 (zew a))]⟩) fun _=>z71.eq_1 ..
abbrev zql {n a d b}:=li (z4i n a d b) (fun c=>⟨[(0,.sl 1 (d.map z0c)),(3,.ptr 3 0),(5,aI c)],[(3,.box 44 (zew a))]⟩) fun _ _=>z4i.eq_2 ..
abbrev zqa {n d e f g a c}:=li (z4f n d e f g a c) (fun b=>⟨[(1,.sl 5 (f.map z02)),(4,.ptr 4 0),(6,.ptr 6 0),(7,.ptr 7 0),(10,.sl 3 (b.1.map z01)),(11,.sl 1 (b.2.1.map z0c)),(12,.sl 17 (a.map z0v)),(13,aI b.2.2)],[(4,.box 25 (z0d g)),(6,.box 60 (z0x e)),(7,.box 71 (z19 d))]⟩) fun _ _=>z4f.eq_2 ..
abbrev zqb {n a c d e}:=jt (z6x n a c d e) (fun b=>⟨[(1,.sl 5 (d.map z02)),(4,.ptr 4 0),(6,.ptr 6 0),(7,.ptr 7 0),(10,.sl 3 (b.map z01)),(11,.nils)],[(4,.box 25 (z0d e)),(6,.box 60 (z0x c)),(7,.box 71 (z19 a))]⟩) fun _=>z6x.eq_1 ..
abbrev zqc {n a g h i d b c e}:=li (z94 n a g h i d b c e) (fun f=>⟨[(1,.sl 5 (h.map z02)),(2,.sl 3 (g.map z01)),(4,.ptr 4 0),(7,.ptr 7 0),(10,.sl 3 (b.map z01)),(11,.sl 1 (f.1.map z0c)),(12,aI d.2.2),(14,.sl 1 (c.map z0c)),(16,aI f.2)],[(4,.box 25 (z0d i)),(7,.box 71 (z19 a))]⟩) fun _ _=>z94.eq_2 ..
abbrev zqd {n a f g h b c d}:=li (z95 n a f g h b c d) (fun e=>⟨[(1,.sl 5 (g.map z02)),(2,.sl 3 (f.map z01)),(4,.ptr 4 0),(7,.ptr 7 0),(10,.sl 3 (e.1.map z01)),(11,.sl 1 (b.2.1.map z0c)),(12,aI b.2.2),(13,.sl 3 (c.1.map z01)),(14,.sl 1 (c.2.map z0c)),(15,aI e.2)],[(4,.box 25 (z0d h)),(7,.box 71 (z19 a))]⟩) fun _ _=>z95.eq_2 ..
abbrev zqe {n a d e f c}:=li (z96 n a d e f c) (fun b=>⟨[(1,.sl 5 (e.map z02)),(2,.sl 3 (d.map z01)),(4,.ptr 4 0),(7,.ptr 7 0),(10,.sl 3 (b.1.map z01)),(11,.sl 1 (b.2.1.map z0c)),(12,aI b.2.2)],[(4,.box 25 (z0d f)),(7,.box 71 (z19 a))]⟩) fun _ _=>z96.eq_2 ..
attribute [instance] zku zkx zkw zkv zqn zqm zql zqa zqb zqc zqd zqe
instance y1t {n g f e d c}:CI E0 (z5n n g f e d c) false 127 [z0m g,.sl 5 (f.map z02),z01 e,z0v d,z02 c] (fun r=>.tup [z01 r.1,.bool (r.2)]):=⟨fun {r} b=>by
 unfold z5n at b;refine Con.env (E:=E0b) rfl rfl ?_;refine Con.walk _ Tryz.func127 rfl (z0q Tryz.func127 rfl rfl) rfl (Or.inl rfl) ?_;repeat' first
  |refine AW.jI b (fun v b=>?_) fun b=>?_
  |refine AW.regO b fun b=>?_
  |refine AW.frzO b 125 rfl (fun b=>?_)
  |refine AW.stepU [21,6,8] ?_;conv=>whnf
  |refine z10.o b (fun b=>?_) fun b=>?_
  |refine z1h.I b fun a b=>?_
  |refine IdxX.A b fun x b=>?_
  |refine AppX.oA0 b fun l b=>?_
  |refine OpX.bldS z0b b rfl rfl rfl rfl rfl rfl rfl rfl rfl rfl rfl rfl rfl rfl (fun l b=>?_)
  |refine AppX.oA b fun l b=>?_
  |refine OpX.bldR z02 b rfl rfl rfl rfl rfl rfl rfl rfl rfl rfl rfl rfl rfl rfl rfl rfl (by first|exact SubR.refl _|(repeat' first|exact SubR.nil|refine SubR.cons ?_ ?_|exact SubL.nil|refine SubL.cons ?_ ?_|exact Sub.refl _|exact Sub.nil _)) rfl (fun l b=>?_)
  |refine zab.oE b 130 zv5 rfl (fun a h=>Con.env rfl rfl (zrz.h h)) rfl rfl (fun a b=>?_)
  |exact ⟨_,b,LeX.a []⟩
  |refine z63.I b (LeX.a []) fun m v b=>?_
  |refine IdxX.oD b z2q (fun x b=>?_)
  |refine z1h.S b fun a b=>?_
  |refine AndA ?_
  |exact RetX.oB b⟩
instance y9a {n d c}:CI E0 (z9q n d c) false 67 [.sl 1 (d.map z0c),z0c c] (fun r=>.sl 1 (r.map z0c)):=⟨fun {r} b=>by
 unfold z9q at b;refine cw Tryz.func67 ?_;repeat' first
  |refine AW.jI b (fun v b=>?_) fun b=>?_
  |refine AW.regO b fun b=>?_
  |refine AW.stepU [2,4] ?_;conv=>whnf
  |refine z10.o b (fun b=>?_) fun b=>?_
  |refine SlsX.o z0c b (fun l b=>?_)
  |refine AppX.oA0 b fun l b=>?_
  |refine AppX.oA b fun l b=>?_
  |refine IdxX.A b fun x b=>?_
  |refine z1h.I b fun a b=>?_
  |exact ⟨_,b,LeX.a []⟩
  |refine z63.I b (LeX.a []) fun m v b=>?_
  |refine AndA ?_
  |exact RetX.oB b⟩
instance y95 {n f e d c}:CI E0 (zdd n f e d c) false 88 [z0m f,.sl 5 (e.map z02),z01 d,z02 c] (fun r=>.tup [.sl 3 (r.1.map z01),.sl 1 (r.2.map z0c)]):=⟨fun {r} b=>by
 unfold zdd at b;refine cw Tryz.func88 ?_;repeat' first
  |refine AW.jI2 b (fun v b=>?_) fun b=>?_
  |refine AW.regO b fun b=>?_
  |refine AW.stepU [3,11] ?_;conv=>whnf
  |refine z10.o b (fun b=>?_) fun b=>?_
  |refine z1h.I b fun a b=>?_
  |refine IdxX.A b fun x b=>?_
  |exact ⟨_,b,LeX.a []⟩
  |refine z63.I b ?_ fun m v b=>?_
  |exact LeX.pa 11 (LeX.a [])
  |refine z1h.S b fun a b=>?_
  |exact ⟨_,b,LeX.pa 10 (LeX.a [])⟩
  |refine AndA ?_
  |exact RetX.oB b⟩
instance y96 {n f e d c}:CI E0 (z9p n f e d c) false 66 [z0m f,.sl 5 (e.map z02),.sl 3 (d.map z01),z02 c] (fun r=>.tup [.sl 3 (r.1.map z01),.sl 1 (r.2.map z0c)]):=⟨fun {r} b=>by
 unfold z9p at b;refine cw Tryz.func66 ?_;repeat' first
  |refine AW.step ?_;conv=>whnf
  |refine z10.o b (fun b=>?_) fun b=>?_
  |refine IdxX.A b fun x b=>?_
  |refine z1h.I b fun a b=>?_
  |exact ⟨_,b,LeX.a []⟩
  |refine z63.I b ?_ fun m v b=>?_
  |exact LeX.a []
  |exact LeX.pa 10 (LeX.pa 11 (LeX.a []))
  |refine AndA ?_
  |exact RetX.oB b⟩
end
noncomputable section
abbrev zm0 {n a g h d e b c}:=jf (z3z n a g h d e b c) (fun f=>⟨[(1,.sl 5 (g.map z02)),(2,aI a),(3,.ptr 3 0),(10,.sl 1 (b.map z0c)),(11,aI d.2.2),(12,.sl 3 (c.map z01)),(55,.bool (f))],[(3,.box 25 (z0d h))]⟩) fun _=>z3z.eq_1 ..
abbrev zly {n a f g b c d}:=li (z6b n a f g b c d) (fun e=>⟨[(1,.sl 5 (f.map z02)),(2,aI a),(3,.ptr 3 0),(10,.sl 1 (e.1.map z0c)),(11,aI b.2.2),(12,.sl 3 (c.1.map z01)),(13,.sl 1 (c.2.map z0c)),(14,aI e.2)],[(3,.box 25 (z0d g))]⟩) fun _ _=>z6b.eq_2 ..
abbrev zlz {n a d e c}:=li (z2u n a d e c) (fun b=>⟨[(1,.sl 5 (d.map z02)),(2,aI a),(3,.ptr 3 0),(9,.sl 3 (b.1.map z01)),(10,.sl 1 (b.2.1.map z0c)),(11,aI b.2.2)],[(3,.box 25 (z0d e))]⟩) fun _ _=>z2u.eq_2 ..
abbrev zmw {n a c}:=jf (z4p n a c) (fun b=>⟨[(1,.sl 5 (a.map z02)),(2,.ptr 2 0),(15,.bool (b))],[(2,.box 25 (z0d c))]⟩) fun _=>z4p.eq_1 ..
abbrev zwd {n a b}:=li (zbh n a b) (fun c=>⟨[(0,.sl 5 (a.map z02)),(3,.row 9),(10,.sl 5 (a.map z02)),(11,aI (((a.map z02).length:Int))),(12,aI c.1)],[(9,.mp (List.map (encM zbf AV.bool) (c.2)))]⟩) fun _ _=>zbh.eq_2 ..
abbrev y1a {n d a b}:=li (zg6 n d a b) (fun c=>⟨[(8,.ptr 24 0),(25,.sl 5 (d.map z02)),(26,aI (((d.map z02).length:Int))),(27,aI c.1)],[(24,.box 180 [aI a.fVars,aI a.fScopes,.sl 1 (a.fStates.map z0s),.sl 17 (a.fEdges.map z0v),.row 22]),(22,.mp (List.map (encM z14 z02) (c.2)))]⟩) fun _ _=>zg6.eq_2 ..
abbrev zp8 {n e a b c}:=jf (z60 n e a b c) (fun d=>⟨[(0,.ref [aI a.fa.fVars,aI a.fa.fScopes,.sl 1 (a.fa.fStates.map z0s),.sl 17 (a.fa.fEdges.map z0v),.mapv (List.map (encM z14 z02) (a.fheld))]),(3,.ptr 3 0),(84,.sl 2 (e.fStarts.map z08)),(85,aI (((e.fStarts.map z08).length:Int))),(86,aI b),(115,.bool (d))],[(3,.box 60 (z0x e))]⟩) fun _=>z60.eq_1 ..
abbrev zp9 {n f a b c e}:=jf (z2p n f a b c e) (fun d=>⟨[(0,.ref [aI a.fa.fVars,aI a.fa.fScopes,.sl 1 (a.fa.fStates.map z0s),.sl 17 (a.fa.fEdges.map z0v),.mapv (List.map (encM z14 z02) (a.fheld))]),(3,.ptr 3 0),(9,aI b),(10,.ptr 10 0),(84,.sl 2 (f.fStarts.map z08)),(85,aI (((f.fStarts.map z08).length:Int))),(86,aI b),(91,.bool (d))],[(3,.box 60 (z0x f)),(10,.box 102 (zuy e))]⟩) fun _=>z2p.eq_1 ..
abbrev zqu {n d a b}:=li (z2f n d a b) (fun c=>⟨[(0,.ref [aI a.fa.fVars,aI a.fa.fScopes,.sl 1 (a.fa.fStates.map z0s),.sl 17 (a.fa.fEdges.map z0v),.mapv (List.map (encM z14 z02) (a.fheld))]),(3,.ptr 3 0),(84,.sl 2 (d.fStarts.map z08)),(85,aI (((d.fStarts.map z08).length:Int))),(86,aI c)],[(3,.box 60 (z0x d))]⟩) fun _ _=>z2f.eq_2 ..
abbrev zp6 {n f a b c e}:=jf (z5y n f a b c e) (fun d=>⟨[(0,.ref [aI a.fa.fVars,aI a.fa.fScopes,.sl 1 (a.fa.fStates.map z0s),.sl 17 (a.fa.fEdges.map z0v),.mapv (List.map (encM z14 z02) (a.fheld))]),(3,.ptr 3 0),(8,.bool (e)),(32,.sl 4 (f.fBindings.map z0b)),(33,aI (((f.fBindings.map z0b).length:Int))),(34,aI b),(63,.bool (d))],[(3,.box 60 (z0x f))]⟩) fun _=>z5y.eq_1 ..
abbrev zp7 {n g a b c e f}:=jf (z5z n g a b c e f) (fun d=>⟨[(0,.ref [aI a.fa.fVars,aI a.fa.fScopes,.sl 1 (a.fa.fStates.map z0s),.sl 17 (a.fa.fEdges.map z0v),.mapv (List.map (encM z14 z02) (a.fheld))]),(3,.ptr 3 0),(5,aI b),(6,.ptr 6 0),(8,.bool (f)),(32,.sl 4 (g.fBindings.map z0b)),(33,aI (((g.fBindings.map z0b).length:Int))),(34,aI b),(49,.bool (d))],[(3,.box 60 (z0x g)),(6,.box 76 (y65 e))]⟩) fun _=>z5z.eq_1 ..
abbrev zqv {n d a b}:=li (z4k n d a b) (fun c=>⟨[(0,.ref [aI a.fa.fVars,aI a.fa.fScopes,.sl 1 (a.fa.fStates.map z0s),.sl 17 (a.fa.fEdges.map z0v),.mapv (List.map (encM z14 z02) (a.fheld))]),(3,.ptr 3 0),(32,.sl 4 (d.fBindings.map z0b)),(33,aI (((d.fBindings.map z0b).length:Int))),(34,aI c)],[(3,.box 60 (z0x d))]⟩) fun _ _=>z4k.eq_2 ..
abbrev zqw {n c a}:=jf (z78 n c a) (fun b=>⟨[(0,.ref [aI a.fa.fVars,aI a.fa.fScopes,.sl 1 (a.fa.fStates.map z0s),.sl 17 (a.fa.fEdges.map z0v),.mapv (List.map (encM z14 z02) (a.fheld))]),(3,.ptr 3 0),(11,.bool (b))],[(3,.box 60 (z0x c))]⟩) fun _=>z78.eq_1 ..
attribute [instance] zm0 zly zlz zmw  zwd y1a zp8 zp9 zqu zp6 zp7 zqv zqw
instance y3g {n e d c}:CI E0 (zb8 n e d c) false 33 [z0m e,.sl 5 (d.map z02),aI c] (fun r=>.tup [.sl 3 (r.1.map z01),.sl 1 (r.2.1.map z0c),.bool (r.2.2)]):=⟨fun {r} b=>by
 unfold zb8 at b;refine cw Tryz.func33 ?_;repeat' first
  |refine AW.jI b (fun v b=>?_) fun b=>?_
  |refine AW.regO b fun b=>?_
  |refine AW.stepU [11] ?_;conv=>whnf
  |refine z10.o b (fun b=>?_) fun b=>?_
  |refine z1h.I b fun a b=>?_
  |refine IdxX.A b fun x b=>?_
  |exact ⟨_,b,LeX.a []⟩
  |refine z63.I b ?_ fun m v b=>?_
  |exact LeX.a []
  |exact LeX.pa 10 (LeX.a [])
  |refine AndA ?_
  |exact RetX.oB b⟩
instance y50 {n b a}:CI E0 (z87 n b a) true 11 [z0m b,.sl 5 (a.map z02)] (fun r=>.bool (r)):=by unfold z87;exact CI.w [1] Tryz.func11
instance y6h {n b a}:CI E0 (z3e n b a) true 39 [z0m b,.sl 5 (a.map z02)] aI:=by unfold z3e;exact CI.w [] Tryz.func39
instance y6x {n}:CI E0 (z8w n) false 34 [] z0m:=⟨fun {r} b=>by
 unfold z8w at b;refine cw Tryz.func34 ?_;repeat' first
  |refine AW.step ?_;conv=>whnf
  |refine z10.o b (fun b=>?_) fun b=>?_
  |refine z10.t ?_
  |refine z10.f ?_
  |refine z1h.I b fun a b=>?_
  |refine MakX.o z0s b (by first|exact SubL.refl _|(repeat' first|exact SubL.nil|refine SubL.cons ?_ ?_|exact Sub.refl _|exact Sub.nil _|refine Sub.agg ?_)) (fun l b=>?_)
  |refine AndA ?_
  |refine EqX.A ?_
  |exact RetX.oB b⟩
instance yge {n a}:CI E0 (zgx n a) true 106 [z02 a] (fun r=>.bool (r)):=by unfold zgx;exact CI.w [] Tryz.func106
instance ym4 {n a}:CI E0 (zkp n a) true 148 [z02 a] z14:=by unfold zkp;exact CI.w [] Tryz.func148
instance ygj {n b a}:CI E0 (zh8 n b a) true 107 [z02 b,z02 a] aI:=by unfold zh8;exact CI.w [] Tryz.func107
instance ylv {n a}:CI E0 (zi0 n a) true 108 [z02 a] zbf:=by unfold zi0;exact CI.w [] Tryz.func108
theorem yj6 (a b:z9v):eqK (zbf a) (zbf b)=some (decide (a=b)):=by cases a;cases b;simp [zbf,eqK,eqL,eq1,aI,zkk]
instance ygr {n d}:CI E0 (zg4 n d) true 70 [.sl 5 (d.map z02)] aI:=⟨fun {r} c=>by
 unfold zg4 at c;refine cw Tryz.func70 ?_;repeat' first
  |refine AW.step ?_;conv=>whnf
  |refine z10.o c (fun c=>?_) fun c=>?_
  |refine z10.f ?_
  |refine IdxX.A c fun x c=>?_
  |refine z1h.I c fun a c=>?_
  |refine LkX.o zbf AV.bool c (by first|rfl|kernel_rfl) yj6 (by repeat' first|exact Sub.nil _|exact Sub.refl _|refine Sub.agg ?_|refine Sub.tup ?_|refine Sub.fn ?_|exact SubL.nil|refine SubL.cons ?_ ?_|refine Sub.sl _ ?_|exact SubE.nil|refine SubE.cons ?_ ?_) (fun v b c=>?_)
  |refine UpX.o zbf AV.bool c (by first|rfl|kernel_rfl) yj6 (by repeat' first|exact Sub.nil _|exact Sub.refl _|refine Sub.agg ?_|refine Sub.tup ?_|refine Sub.fn ?_|exact SubL.nil|refine SubL.cons ?_ ?_|refine Sub.sl _ ?_|exact SubE.nil|refine SubE.cons ?_ ?_) (fun l c=>?_)
  |exact ⟨_,c,LeX.a []⟩
  |refine z63.I c (LeX.a []) fun m v c=>?_
  |refine AndA ?_
  |exact RetX.oB c⟩
instance yai {n b a}:CI E0 (z3t n b a) true 36 [z0m b,.sl 5 (a.map z02)] aI:=by unfold z3t;exact CI.w [] Tryz.func36
instance ylx {n}:CI E0 (zh3 n) false 47 [] z01:=by unfold zh3;exact CI.w [] Tryz.func47
theorem yj5 (a b:z18):eqK (z14 a) (z14 b)=some (decide (a=b)):=by cases a;cases b;simp [z14,eqK,eqL,eq1,aI,zkk]
def zbo:Option z0l->AV |none=>.nilp |some x=>.ref [aI (x.fa.fVars),aI (x.fa.fScopes),.sl 1 (x.fa.fStates.map z0s),.sl 17 (x.fa.fEdges.map z0v),.mapv (List.map (encM z14 z02) (x.fheld))]
def zca (r:(Option z0l)×Int):AV:=.tup [zbo (r.1),aI (r.2)]
instance zjv {n d c}:CI E0 (zey n d c) false 82 [z0m d,.sl 5 (c.map z02)] (fun r=>.tup [zbo (r.1),aI r.2]):=⟨fun {r} b=>by
 unfold zey at b;refine cw Tryz.func82 ?_;repeat' first
  |refine AW.step ?_;conv=>whnf
  |refine z10.o b (fun b=>?_) fun b=>?_
  |refine z1h.I b fun a b=>?_
  |refine IdxX.A b fun x b=>?_
  |refine OpX.nckP rfl rfl rfl rfl rfl ?_
  |refine UpX.o z14 z02 b (by first|rfl|kernel_rfl) yj5 (by repeat' first|exact Sub.nil _|exact Sub.refl _|refine Sub.agg ?_|refine Sub.tup ?_|refine Sub.fn ?_|exact SubL.nil|refine SubL.cons ?_ ?_|refine Sub.sl _ ?_|exact SubE.nil|refine SubE.cons ?_ ?_) (fun l b=>?_)
  |exact ⟨_,b,LeX.a []⟩
  |refine z63.I b (LeX.a []) fun m v b=>?_
  |refine AndA ?_
  |exact RetX.oB b⟩
end
noncomputable section
abbrev ztk {n d a e b}:=li (zat n d a e b) (fun c=>⟨[(0,.ref [aI a.fa.fVars,aI a.fa.fScopes,.sl 1 (a.fa.fStates.map z0s),.sl 17 (a.fa.fEdges.map z0v),.mapv (List.map (encM z14 z02) (a.fheld))]),(4,.ptr 4 0),(5,.ptr 5 0),(15,.sl 4 (d.map z0b)),(16,aI (((d.map z0b).length:Int))),(17,aI c.1)],[(4,.box 220 [.nils]),(5,.box 220 [.cont (e) 13]),(13,.nest 26 (List.map (enR z02 71 5) (c.2)))]⟩) fun _ _=>zat.eq_2 ..
abbrev zkc {n a a0f2 a0f1 a0f0}:=jf (z35 n a a0f2 a0f1 a0f0) (fun b=>⟨[(1,aI a),(2,.ptr 2 0),(14,.bool (b))],[(2,.box 293 [.sl 1 (List.map (fun q=>AV.sl 5 (List.map z02 q)) (a0f0.fVars)),aI a0f1,aI a0f2.fSource,aI a0f2.fSeq,aI a0f2.fType,aI a0f2.fTime,.sl 3 (a0f2.fValues.map z09),.mapv [(aI 5,.fn 254 [.ref [.fn 253 []]]),(aI 6,.fn 255 [.ref [.fn 253 []]]),(aI 7,.fn 256 []),(aI 8,.fn 257 []),(aI 10,.fn 258 []),(aI 11,.fn 259 []),(aI 12,.fn 260 [])]])]⟩) fun _=>z35.eq_1 ..
abbrev zle {n d a b}:=li (z5j n d a b) (fun c=>⟨[(3,.ptr 3 0),(4,.ptr 4 0),(6,.row 7034),(14,.sl 5 (a.map z02)),(15,aI (((a.map z02).length:Int))),(16,aI c.1)],[(3,.box 111 (z5a d)),(4,.box 109 [aI 0,aI 0,.str (ByteArray.empty)]),(7034,.row 109 3 (c.2.map z09))]⟩) fun _ _=>z5j.eq_2 ..
abbrev zmk {n a}:=jt (z44 n a) (fun b=>⟨[(4,.ptr 4 0),(8,.ptr 8 0),(9,aI b)],[(4,.box 109 [aI 0,aI 0,.str (ByteArray.empty)]),(8,.box 109 (z24 a.1))]⟩) fun _=>z44.eq_1 ..
abbrev zml {n a}:=jt (z47 n a) (fun b=>⟨[(3,.ptr 3 0),(4,.ptr 4 0),(7,.ptr 7 0)],[(3,.box 111 (z5a a)),(4,.box 109 [aI 0,aI 0,.str (ByteArray.empty)]),(7,.box 71 [aI b.1,aI b.2.1,aI b.2.2.1,aI b.2.2.2.1,.sl 3 (b.2.2.2.2.map z09)])]⟩) fun _=>z47.eq_1 ..
abbrev zvy {n a f b c d}:=jt (z8z n a f b c d) (fun e=>⟨[(0,aI f),(1,.sl 1 (a.map aI)),(6,aI d),(7,.bool (true)),(8,.sl 1 (a.map aI)),(9,aI (((a.map aI).length:Int))),(10,aI b),(14,aI f),(22,.bool (e))],[]⟩) fun _=>z8z.eq_1 ..
abbrev zvz {n a f b c d}:=jt (z7h n a f b c d) (fun e=>⟨[(0,aI f),(1,.sl 1 (a.map aI)),(6,aI d),(7,.bool (true)),(8,.sl 1 (a.map aI)),(9,aI (((a.map aI).length:Int))),(10,aI b),(14,aI f),(15,.bool (e))],[]⟩) fun _=>z7h.eq_1 ..
abbrev zvv {n a d b}:=li (z51 n a d b) (fun c=>⟨[(0,aI d),(1,.sl 1 (a.map aI)),(8,.sl 1 (a.map aI)),(9,aI (((a.map aI).length:Int))),(10,aI c)],[]⟩) fun _ _=>z51.eq_2 ..
abbrev zr2 {n}:=jf (z7c n) (fun b=>⟨[(4,.ptr 4 0)],[(4,.box 109 [aI b.1,aI b.2.1,.str (b.2.2)])]⟩) fun _=>z7c.eq_1 ..
attribute [instance] ztk zkc zle zmk zml zvy zvz zvv zr2
instance y9h {n d e}:CI E0 (z61 n d e) true 83 [.ref [aI d.fa.fVars,aI d.fa.fScopes,.sl 1 (d.fa.fStates.map z0s),.sl 17 (d.fa.fEdges.map z0v),.mapv (List.map (encM z14 z02) (d.fheld))],z01 e] aI:=⟨fun {r} c=>by
 unfold z61 at c;refine cw Tryz.func83 ?_;repeat' first
  |refine AW.jI c (fun v c=>?_) fun c=>?_
  |refine AW.regO c fun c=>?_
  |refine AW.stepU [1,9,11,19,21] ?_;conv=>whnf
  |refine z10.o c (fun c=>?_) fun c=>?_
  |refine z10.t ?_
  |refine IdxX.A c fun x c=>?_
  |exact ⟨_,c,LeX.a []⟩
  |refine OpX.nckR rfl rfl rfl rfl ?_
  |refine z63.I c (LeX.a []) fun m v c=>?_
  |refine OpX.lkv z14 z02 c yj5 rfl rfl rfl rfl rfl rfl rfl rfl rfl rfl (by first|rfl|kernel_rfl) (by repeat' first|exact Sub.nil _|exact Sub.refl _|refine Sub.agg ?_|refine Sub.tup ?_|refine Sub.fn ?_|exact SubL.nil|refine SubL.cons ?_ ?_|refine Sub.sl _ ?_|exact SubE.nil|refine SubE.cons ?_ ?_) (fun v b c=>?_)
  |refine z1h.I c fun a c=>?_
  |refine AndA ?_
  |exact RetX.oB c⟩
def zsu (c:z0l)(b:z00)(a:z03):List (Nat×Ent):=[]
def ze6 (r:z0l×z00×z03):List (Nat×Ent):=[(3,.box 137 [.ref [aI r.1.fa.fVars,aI r.1.fa.fScopes,.sl 1 (r.1.fa.fStates.map z0s),.sl 17 (r.1.fa.fEdges.map z0v),.mapv (List.map (encM z14 z02) (r.1.fheld))]]),(4,.box 60 (z0x r.2.1)),(5,.box 71 (z19 r.2.2))]
def zgo (r:z0l×z00×z03):AV:=.fn 156 [.ptr 3 0,.ptr 4 0,.ptr 5 0]
def zsf (r:z0l×z00×z03):AS:=⟨[(6,.fn 156 [.ptr 3 0,.ptr 4 0,.ptr 5 0])],ze6 r⟩
theorem zpj {n a c b r}(d:zeg n a c b=some r):ConG E0.P none (CalF E0.P 120 0) [.ref [aI a.fa.fVars,aI a.fa.fScopes,.sl 1 (a.fa.fStates.map z0s),.sl 17 (a.fa.fEdges.map z0v),.mapv (List.map (encM z14 z02) (a.fheld))],z01 c,z02 b] [] (zsu a c b) (zgo r) (ze6 r):=by
 unfold zeg at d;refine ConG.walk (E:=(E0p 3)) (caps:=[]) _ Tryz.func120 rfl rfl rfl rfl rfl ?_;repeat' first
  |refine AW.step ?_;conv=>whnf
  |exact GX.A (res:=zgo) (meF:=ze6) d zsf
def zoe (b:(List z00))(a:(List z06)):List (Nat×Ent):=[(100000,.box 57 [.row 200000]),(200000,.row 60 3 (b.map z01)),(100001,.box 50 [.row 200001]),(200001,.row 44 1 (a.map z0c))]
def z4o (r:(List z00)×(List z06)):List (Nat×Ent):=[(100000,.box 57 [.row 250000]),(250000,.row 60 3 (r.1.map z01)),(100001,.box 50 [.row 250001]),(250001,.row 44 1 (r.2.map z0c))]
def zi3 (r:(List z00)×(List z06)):AS:=⟨[(8,.ptr 100000 0),(9,.ptr 100001 0)],z4o r⟩
instance ycd {n c d}:CI E0 (zff n c d) false 157 [.ref [aI c.fa.fVars,aI c.fa.fScopes,.sl 1 (c.fa.fStates.map z0s),.sl 17 (c.fa.fEdges.map z0v),.mapv (List.map (encM z14 z02) (c.fheld))],.sl 4 (d.map z0b)] zd6:=⟨fun {r} a=>by
 unfold zff at a;refine cw Tryz.func157 ?_;repeat' first
  |refine AW.nstO (er:=z02) 71 5 a 13 rfl (fun a=>?_)
  |refine AW.frrO (ety:=71) (sz:=5) z02 a 13 rfl (fun a=>?_)
  |refine AW.regO a fun a=>?_
  |refine AW.stepU [7,2] ?_;conv=>whnf
  |refine z10.o a (fun a=>?_) fun a=>?_
  |refine OpX.nckR rfl rfl rfl rfl ?_
  |refine MakX.on a (fun m a=>?_)
  |refine IdxX.A a fun x a=>?_
  |refine OpX.ixc a rfl rfl rfl rfl rfl rfl rfl rfl (fun a=>?_)
  |refine OpX.ntk z02 a rfl rfl rfl rfl rfl rfl rfl rfl rfl rfl (fun q a=>?_)
  |refine OpX.lkv z14 z02 a yj5 rfl rfl rfl rfl rfl rfl rfl rfl rfl rfl (by first|rfl|kernel_rfl) (by repeat' first|exact Sub.nil _|exact Sub.refl _|refine Sub.agg ?_|refine Sub.tup ?_|refine Sub.fn ?_|exact SubL.nil|refine SubL.cons ?_ ?_|refine Sub.sl _ ?_|exact SubE.nil|refine SubE.cons ?_ ?_) (fun v b a=>?_)
  |refine AppX.oA a fun l a=>?_
  |refine OpX.npt z02 a rfl rfl rfl rfl rfl rfl rfl rfl rfl rfl rfl (fun l a=>?_)
  |exact ⟨_,a,LeX.a []⟩
  |refine z63.I a (LeX.a []) fun m v a=>?_
  |refine AndA ?_
  |refine EqX.A ?_
  |exact RetX.oB a⟩
theorem zuv:Con E0 false 240 [] (.mapv [(aI 5,.fn 254 [.ref [.fn 253 []]]),(aI 6,.fn 255 [.ref [.fn 253 []]]),(aI 7,.fn 256 []),(aI 8,.fn 257 []),(aI 10,.fn 258 []),(aI 11,.fn 259 []),(aI 12,.fn 260 [])]):=by
 refine Con.walk _ Tryz.func240 rfl (z0q Tryz.func240 rfl rfl) rfl (Or.inl rfl) ?_;repeat' first
  |refine AW.frb0 1 rfl rfl ?_
  |refine AW.into ?_
  |refine AW.stepU [2] ?_;conv=>whnf
  |refine UpX.mk _ _ (by first|rfl|kernel_rfl) (by first|rfl|kernel_rfl) (SubM.refl _) ?_
  |exact RetX.mk rfl
instance y17 {n a0f0 a0f1 a0f2 b}:CI E0 (z80 n a0f0 a0f1 a0f2 b) false 269 [.agg [.sl 1 (List.map (fun q=>AV.sl 5 (List.map z02 q)) (a0f0.fVars)),aI a0f1,aI a0f2.fSource,aI a0f2.fSeq,aI a0f2.fType,aI a0f2.fTime,.sl 3 (a0f2.fValues.map z09),.mapv [(aI 5,.fn 254 [.ref [.fn 253 []]]),(aI 6,.fn 255 [.ref [.fn 253 []]]),(aI 7,.fn 256 []),(aI 8,.fn 257 []),(aI 10,.fn 258 []),(aI 11,.fn 259 []),(aI 12,.fn 260 [])]],aI b] (fun r=>.sl 5 (r.map z02)):=⟨fun {r} a=>by
 unfold z80 at a;refine cw Tryz.func269 ?_;repeat' first
  |refine AW.jI a (fun v a=>?_) fun a=>?_
  |refine AW.regO a fun a=>?_
  |refine AW.stepU [1] ?_;conv=>whnf
  |refine z10.o a (fun a=>?_) fun a=>?_
  |refine IdxX.o (fun q=>AV.sl 5 (List.map z02 q)) a fun x a=>?_
  |exact ⟨_,a,LeX.a []⟩
  |exact RetX.oB a⟩
instance ykc {n b a}:CI E0 (zh7 n b a) true 271 [z02 b,aI a] (fun r=>.tup [z09 r.1,aI r.2]):=by unfold zh7;exact CI.w [] Tryz.func271
instance y27 {n a0f0 a0f1 a0f2 c}:CI E0 (zcs n a0f0 a0f1 a0f2 c) true 270 [.agg [.sl 1 (List.map (fun q=>AV.sl 5 (List.map z02 q)) (a0f0.fVars)),aI a0f1,aI a0f2.fSource,aI a0f2.fSeq,aI a0f2.fType,aI a0f2.fTime,.sl 3 (a0f2.fValues.map z09),.mapv [(aI 5,.fn 254 [.ref [.fn 253 []]]),(aI 6,.fn 255 [.ref [.fn 253 []]]),(aI 7,.fn 256 []),(aI 8,.fn 257 []),(aI 10,.fn 258 []),(aI 11,.fn 259 []),(aI 12,.fn 260 [])]],z0n c] (fun r=>.tup [z09 r.1,aI r.2]):=⟨fun {r} b=>by
 unfold zcs at b;refine cw Tryz.func270 ?_;repeat' first
  |refine AW.step ?_;conv=>whnf
  |refine z10.o b (fun b=>?_) fun b=>?_
  |refine z1h.I b fun a b=>?_
  |refine zab.I b (fun a b=>?_) rfl rfl fun _=>Or.inr rfl
  |refine IdxX.A b fun x b=>?_
  |refine AppX.oA b fun l b=>?_
  |exact ⟨_,b,LeX.a [(7034,34)]⟩
  |refine z63.I b ?_ fun m v b=>?_
  |exact LeX.trans (LeX.adopt 6 7034 109 3 rfl rfl) (LeX.a [])
  |exact RetX.oB b⟩
instance y3r {n a0f0 a0f1 a0f2 a}:CI E0 (z9d n a0f0 a0f1 a0f2 a) true 261 [.agg [.sl 1 (List.map (fun q=>AV.sl 5 (List.map z02 q)) (a0f0.fVars)),aI a0f1,aI a0f2.fSource,aI a0f2.fSeq,aI a0f2.fType,aI a0f2.fTime,.sl 3 (a0f2.fValues.map z09),.mapv [(aI 5,.fn 254 [.ref [.fn 253 []]]),(aI 6,.fn 255 [.ref [.fn 253 []]]),(aI 7,.fn 256 []),(aI 8,.fn 257 []),(aI 10,.fn 258 []),(aI 11,.fn 259 []),(aI 12,.fn 260 [])]],z0n a] (fun r=>.tup [z09 r.1,aI r.2]):=by unfold z9d;exact CI.w [10,17] Tryz.func261
instance ygi {n b a}:CI E0 (zig n b a) true 262 [aI b,.sl 1 (a.map aI)] aI:=by unfold zig;exact CI.w [6,7,8,11,12,15] Tryz.func262
instance yk4 {n a}:CI E0 (zll n a) true 242 [.bool (a)] z09:=by unfold zll;exact CI.w [] Tryz.func242
instance ym0 {n a}:CI E0 (zan n a) true 214 [.bool (a)] z09:=by unfold zan;exact CI.w [] Tryz.func214
instance y9r {n a}:CI E0 (zdt n a) true 253 [aI a] z09:=by unfold zdt;exact CI.w [] Tryz.func253
instance y9q {n b a}:CI E0 (zds n b a) true 254 [aI b,aI a,.ref [.fn 253 []]] z09:=by unfold zds;exact CI.w [] Tryz.func254
instance y9p {n b a}:CI E0 (zdr n b a) true 255 [aI b,aI a,.ref [.fn 253 []]] z09:=by unfold zdr;exact CI.w [] Tryz.func255
instance y9o {n b a}:CI E0 (zdq n b a) true 256 [aI b,aI a] z09:=by unfold zdq;exact CI.w [] Tryz.func256
instance y9n {n b a}:CI E0 (zdp n b a) true 257 [aI b,aI a] z09:=by unfold zdp;exact CI.w [] Tryz.func257
end
noncomputable section
abbrev zr1 {n}:=jf (z7b n) (fun b=>⟨[(4,.ptr 4 0)],[(4,.box 109 [aI b.1,aI b.2.1,.str (b.2.2)])]⟩) fun _=>z7b.eq_1 ..
abbrev zmm {n b a a0f2 a0f1 a0f0 d}:=li (z6o n b a a0f2 a0f1 a0f0 d) (fun c=>⟨[(2,.ptr 2 0),(3,.ptr 3 0),(4,.ptr 4 0),(6,.row 7042),(7,.row 7047),(23,.sl 8 (a.fArgs.map idA)),(24,aI (((a.fArgs.map idA).length:Int))),(25,aI c.1)],[(2,.box 293 [.sl 1 (List.map (fun q=>AV.sl 5 (List.map z02 q)) (a0f0.fVars)),aI a0f1,aI a0f2.fSource,aI a0f2.fSeq,aI a0f2.fType,aI a0f2.fTime,.sl 3 (a0f2.fValues.map z09),.mapv [(aI 5,.fn 254 [.ref [.fn 253 []]]),(aI 6,.fn 255 [.ref [.fn 253 []]]),(aI 7,.fn 256 []),(aI 8,.fn 257 []),(aI 10,.fn 258 []),(aI 11,.fn 259 []),(aI 12,.fn 260 [])]]),(3,.box 111 (z5a a)),(4,.box 109 [aI 0,aI 0,.str (ByteArray.empty)]),(7042,.row 109 3 (c.2.1.map z09)),(7047,.row 3 1 (c.2.2.map aI))]⟩) fun _ _=>z6o.eq_2 ..
abbrev y0a {n}:=jf (zdv n) (fun b=>⟨[(8,.bool (b))],[]⟩) fun _=>zdv.eq_1 ..
abbrev zwh {n}:=jf (zbi n) (fun b=>⟨[(6,.bool (b))],[]⟩) fun _=>zbi.eq_1 ..
abbrev zl8 {n b c a d}:=li (z5i n b c a d) (fun e=>⟨[(0,.sl 11 (a.map z0u)),(1,.fn 158 [.ref (zd7 c),.ref (z19 b)]),(7,aI (((a.map z0u).length:Int))),(8,aI e)],[]⟩) fun _ _=>z5i.eq_2 ..
abbrev zl9 {n}:=jf (z3k n) (fun b=>⟨[(5,.bool (b))],[]⟩) fun _=>z3k.eq_1 ..
abbrev zl7 {n b c d a e}:=li (z5h n b c d a e) (fun f=>⟨[(0,.sl 11 (a.map z0u)),(1,.fn 188 [.ref (z1z d),.ref (zd7 c),.ref (z19 b)]),(7,aI (((a.map z0u).length:Int))),(8,aI f)],[]⟩) fun _ _=>z5h.eq_2 ..
abbrev zjr {n d a b}:=li (z2o n d a b) (fun c=>⟨[(0,.sl 2 (a.map z08)),(1,aI d),(2,.fn 216 []),(8,aI (((a.map z08).length:Int))),(9,aI c.1),(10,aI c.2)],[]⟩) fun _ _=>z2o.eq_2 ..
abbrev zz0 {n f a b c d}:=jt (zdk n f a b c d) (fun e=>⟨[(2,aI f),(7,.row 7033),(10,aI d.1),(14,.sl 1 (a.map aI)),(15,aI (((a.map aI).length:Int))),(16,aI b.1)],[(7033,.row 102 2 (e.map z08))]⟩) fun _=>zdk.eq_1 ..
attribute [instance] zr1 zmm y0a zwh zl8 zl9 zl7 zjr zz0
instance y9m {n b a}:CI E0 (zdo n b a) true 258 [aI b,aI a] z09:=by unfold zdo;exact CI.w [1] Tryz.func258
instance y9l {n b a}:CI E0 (zdn n b a) true 259 [aI b,aI a] z09:=by unfold zdn;exact CI.w [1] Tryz.func259
instance y9k {n b a}:CI E0 (z9t n b a) true 260 [aI b,aI a] z09:=by unfold z9t;exact CI.w [] Tryz.func260
def zr7 (r:z04×Int):AV:=.tup [.agg [aI (r.1.fKind),aI (r.1.fNum),.str (r.1.fText)],aI (r.2)]
theorem zlg {n a0f0 a0f1 a0f2 c r}(b:z38 n a0f0 a0f1 a0f2 c=some r):Con E0 true 241 [.agg [.sl 1 (List.map (fun q=>AV.sl 5 (List.map z02 q)) (a0f0.fVars)),aI a0f1,aI a0f2.fSource,aI a0f2.fSeq,aI a0f2.fType,aI a0f2.fTime,.sl 3 (a0f2.fValues.map z09),.mapv [(aI 5,.fn 254 [.ref [.fn 253 []]]),(aI 6,.fn 255 [.ref [.fn 253 []]]),(aI 7,.fn 256 []),(aI 8,.fn 257 []),(aI 10,.fn 258 []),(aI 11,.fn 259 []),(aI 12,.fn 260 [])]],z0n c] (.tup [z09 r.1,aI r.2]):=by
 induction n generalizing a0f0 a0f1 a0f2 c r
 case zero=>cases b
 case succ n d =>
 unfold z38 at b;refine cw Tryz.func241 ?_;repeat' first
  |refine AW.step ?_;conv=>whnf
  |refine z10.o b (fun b=>?_) fun b=>?_
  |refine z1h.I b fun a b=>?_
  |refine zab.I b (fun a b=>?_) rfl rfl fun _=>Or.inr rfl
  |refine NatX.o b (fun m b=>?_)
  |refine EltX.o z09 b (fun x b=>?_)
  |refine OpX.lkc rfl rfl rfl rfl rfl rfl rfl rfl rfl rfl (by first|rfl|kernel_rfl) ?_
  |refine LkC.cons b (fun b=>?_) (fun b=>?_)
  |(cases b;done)
  |refine LtX.o b (fun b=>?_)
  |refine IdxX.oD b z2q (fun x b=>?_)
  |refine z1h.o b zr7 (fun a h=>d h) (fun a b=>?_)
  |refine AppX.oA b fun l b=>?_
  |exact ⟨_,b,LeX.a [(7042,42),(7047,47)]⟩
  |refine z63.I b ?_ fun m v b=>?_
  |exact LeX.trans (LeX.adopt 6 7042 109 3 rfl rfl) (LeX.trans (LeX.adopt 7 7047 3 1 rfl rfl) (LeX.a []))
  |refine AndA ?_
  |refine EqX.A ?_
  |exact RetX.oB b
instance y3s {n a0f0 a0f1 a0f2 a}:CI E0 (z38 n a0f0 a0f1 a0f2 a) true 241 [.agg [.sl 1 (List.map (fun q=>AV.sl 5 (List.map z02 q)) (a0f0.fVars)),aI a0f1,aI a0f2.fSource,aI a0f2.fSeq,aI a0f2.fType,aI a0f2.fTime,.sl 3 (a0f2.fValues.map z09),.mapv [(aI 5,.fn 254 [.ref [.fn 253 []]]),(aI 6,.fn 255 [.ref [.fn 253 []]]),(aI 7,.fn 256 []),(aI 8,.fn 257 []),(aI 10,.fn 258 []),(aI 11,.fn 259 []),(aI 12,.fn 260 [])]],z0n a] (fun r=>.tup [z09 r.1,aI r.2]):=⟨zlg⟩
instance ym2 {n f e d c}:CI E0 (zpy n f e d c) true 213 [z0n f,zd6 e,aI d,z02 c] (fun r=>.tup [z09 r.1,aI r.2]):=⟨fun {r} b=>by
 unfold zpy at b;refine cw Tryz.func213 ?_;repeat' first
  |refine AW.step ?_;conv=>whnf
  |refine z10.o b (fun b=>?_) fun b=>?_
  |refine z1h.I b fun a b=>?_
  |refine z1h.mk _ _ zuv ?_
  |refine AndA ?_
  |exact RetX.oB b⟩
def yab (r:Bool):AV:=.bool (r)
instance y28 {n d c b a}:CI E0 (zfp n d c b a) true 187 [z0n d,zd6 c,aI b,z02 a] (fun r=>.bool (r)):=by unfold zfp;exact CI.w [2] Tryz.func187
instance ygu {n c b a}:CI E0 (zg5 n c b a) true 159 [z0u c,zd6 b,z02 a] (fun r=>.bool (r)):=by unfold zg5;exact CI.w [1] Tryz.func159
instance y0k {n c b a}:CI E0 (z43 n c b a) true 158 [z0u c,.ref (zd7 b),.ref (z19 a)] (fun r=>.bool (r)):=by unfold z43;exact CI.w [] Tryz.func158
instance y22 {n a b c}:CI E0 (zal n a b c) true 181 [.sl 11 (a.map z0u),.fn 158 [.ref (zd7 b),.ref (z19 c)]] aI:=by unfold zal;exact CI.w [] Tryz.func181
instance zyq {n a b c}:CI E0 (z8v n a b c) true 141 [.sl 11 (a.map z0u),.fn 158 [.ref (zd7 b),.ref (z19 c)]] (fun r=>.bool (r)):=by unfold z8v;exact CI.w [] Tryz.func141
instance y24 {n d c b a}:CI E0 (z3s n d c b a) true 188 [z0u d,.ref (z1z c),.ref (zd7 b),.ref (z19 a)] (fun r=>.bool (r)):=by unfold z3s;exact CI.w [1] Tryz.func188
instance y21 {n a b c d}:CI E0 (zak n a b c d) true 181 [.sl 11 (a.map z0u),.fn 188 [.ref (z1z b),.ref (zd7 c),.ref (z19 d)]] aI:=by unfold zak;exact CI.w [] Tryz.func181
instance zyp {n a b c d}:CI E0 (z8u n a b c d) true 141 [.sl 11 (a.map z0u),.fn 188 [.ref (z1z b),.ref (zd7 c),.ref (z19 d)]] (fun r=>.bool (r)):=by unfold z8u;exact CI.w [] Tryz.func141
set_option maxHeartbeats 400000 in
theorem ycu (l:List (Cel 2))(S:Nat->Prop)(v:Value)(w:World)(h:Sl w S 2 encC v l)(d:l.length<=1000000000) :
  Calls Tryz.prog 73 #[v] w (zxw 102 2 encC l w):=by
 have eok:EOk Tryz.prog 58 102 2 16 (encC (n:=2)):=eokC (sz:=2) (ztj 58 _ rfl) rfl (ztj 102 _ rfl) (by omega) rfl;obtain ⟨A,c,rfl,f,_⟩:=h.form;have a:=fun (W:World)=>Lib.run_eql_slice_nil W 58 102 A l.length c 0 0 Tryz.underlying58
 have H:=hide h;cases A with
 |none =>
  have g:l=[]:=h.none_nil;subst g;clear h H d f;simp only [length_nil,Option.isNone_none] at a ⊢
  go_enter Tryz.func73,Tryz.ntmps73
  go_wp2
  go_ret
  exact ⟨none,0,rfl,Own.nil_,by go_grown⟩
 |some ad =>
  clear h
  go_enter Tryz.func73,Tryz.ntmps73
  go_wp2_with (at_builtin;refine zb0 rfl _ _ rfl eok rfl Own.made_ rfl (H.out.alloc _) (by simp;omega) (by omega) (by simp) ?_;intro A' i j b e _)
  go_ret
  exact ⟨A',i,rfl,b,(Own.made_ (sz:=2) (enc:=encC (n:=2))).grown ((Below.refl _ _).alloc (Nat.le_refl _) _) (Nat.le_refl _) (by simp) e⟩
theorem zxq {n a r}(b:zct n a=some r):ConT E0 73 [.sl 2 (List.map z08 a)] 102 2 (List.map z08 r) (.row 0):=zki rfl (z0q Tryz.func73 rfl rfl) ycu b
theorem yck {n a r}(b:zct n a=some r):Con E0 false 73 [.sl 2 (List.map z08 a)] (.sl 2 (List.map z08 r)):=(zxq b).close rfl
instance ygv {n b a}:CI E0 (zex n b a) true 216 [z08 b,aI a] aI:=by unfold zex;exact CI.w [] Tryz.func216
instance y0j {n d c}:CI E0 (z6m n d c) true 215 [.sl 2 (d.map z08),aI c,.fn 216 []] (fun r=>.tup [aI r.1,.bool (r.2)]):=⟨fun {r} b=>by
 unfold z6m at b;refine cw Tryz.func215 ?_;repeat' first
  |refine AW.step ?_;conv=>whnf
  |refine z10.o b (fun b=>?_) fun b=>?_
  |refine IdxX.A b fun x b=>?_
  |refine z1h.I b fun a b=>?_
  |exact ⟨_,b,LeX.a []⟩
  |refine ShX.o b (fun b=>?_)
  |refine z63.I b (LeX.a []) fun m v b=>?_
  |exact RetX.oB b⟩
set_option maxRecDepth 100000 in
set_option maxHeartbeats 1600000 in
theorem y4o (l:List (Cel 2))(x:Cel 2)(i:Nat)(base:Nat)(A:Option Addr)(c g off c1:Nat)(w:World)(ho:Own w base 102 2 encC (.slice A l.length c) l)
  (N:Xk w g off (encC x)) (bo:1<=c1) (J:(Value.slice A l.length c).ownBlock≠some g) (hi:i<=l.length) (hl:l.length<=1000000000) (C:base<=w.heap.size) :
  Calls Tryz.prog 217 #[.slice A l.length c,.int .i64 i,.slice (some ⟨g,off,none⟩) 1 c1] w (yk2 102 2 encC base (.slice A l.length c) (l.take i++x::l.drop i) w):=by
 have k:(l.take i++x::l.drop i).length=l.length+1:=by simp;omega
 have d:(encC x).length=2:=x.2.1;have eok:EOk Tryz.prog 58 102 2 16 (encC (n:=2)):=eokC (sz:=2) (ztj 58 _ rfl) rfl (ztj 102 _ rfl) (by omega) rfl;by_cases bh:i=l.length
 ·subst bh;have bd:Hid (Sl w (fun _=>True) 2 encC (.slice (some ⟨g,off,none⟩) 1 c1) [x]):=Sl.one_x bo N;have H:=hide ho;have bg:Hid (l.take l.length++x::l.drop l.length=l++[x]):=by simp [Hid]
  have hc:l.length<=c:=by obtain ⟨_,_,he,h1,_⟩:=ho.val;injection he with _ _ hc;omega
  rw [bg.out];clear ho N J k
  go_enter Tryz.func217,Tryz.ntmps217
  go_wp2_with (at_builtin;refine zb0 (v:=.slice A l.length c) rfl _ _ rfl eok rfl H.out rfl bd.out (by simp;omega) (by omega) C ?_;intro A2 c2 w2 bf o aa)
  all_goals (go_ret;exact ⟨A2,c2,by simp,bf,by cases A<;>exact o,by cases A<;>exact aa⟩)
 ·rcases ho.2 with ⟨hv,h0⟩|⟨h,cn,r,hv,ar,hh,bx,aq,B,m⟩
  ·omega
  injection hv with hA _ bn
  subst hA;subst bn;have bk:h≠g:=fun e=>J (by simp [Value.ownBlock,e])
  have bz:i<l.length:=by omega
  have ad:((l.take i).flatMap encC).length=i*2:=by rw [zuo (sz:=2) (fun y=>y.2.1)];simp;omega
  have L:((l.drop i).flatMap encC).length=(l.length-i)*2:=by rw [zuo (sz:=2) (fun y=>y.2.1)];simp
  have E:(l.take i).flatMap encC++(l.drop i).flatMap encC=l.flatMap encC:=by rw [<-flatMap_append,take_append_drop]
  have p:(l.take i++x::l.drop i).flatMap encC=(l.take i).flatMap encC++encC x++(l.drop i).flatMap encC:=by simp [flatMap_append,flatMap_cons]
  have h2:=yc3 eok.one (l.drop i);have K:=eok.one x;have P:r.toList=(l.take i).flatMap encC++(l.drop i).flatMap encC++r.toList.drop (l.length*2):=by rw [E,<-m,take_append_drop]
  generalize ch:(l.take i).flatMap encC=F1 at *;generalize cg:(l.drop i).flatMap encC=F2 at *;generalize hX:encC x=X at *;have av:(r.toList.drop (l.length*2)).length=c*2-l.length*2:=by simp [B]
  generalize r.toList.drop (l.length*2)=R at *;obtain ⟨r⟩:=r;simp only at P;subst P;generalize hn:l.length=n at *;by_cases V:n+1<=c
  ·have bj:(i:Int)<(n:Int):=by omega
   have f:Blk w h 102 (F1++F2++R).toArray:=hh;have bw:∀ lb cb,(callFunc 243 #[.slice (some ⟨g,off,none⟩) 1 c1,.slice (some ⟨h,(i+1)*2,none⟩) lb cb]).run Tryz.prog w=.ok (.value (.bool false)) w:=fun lb cb=>by
    rw [run_callFunc_extern Tryz.func243 (by kernel_rfl) (by kernel_rfl) (by kernel_rfl) (e:=Extern.SlicesOverlaps.overlaps #[58,58] #[4]) (by kernel_rfl),
     y18 w 58 4 102 Tryz.underlying58 2 (fun _=>by kernel_rfl) ⟨g,off,none⟩ ⟨h,(i+1)*2,none⟩ 1 c1 lb cb (fun e=>bk e.symm) N.shape 102 (F1++F2++R).toArray.size (f.shape) (by rw [size_toArray,length_append,length_append];omega) (f.frozen _) (f.frozen _)]
    rfl
   have bt:=hide f;have bb:=hide N;have bm:Hid (F2.length=Nat.min (n+1-i) (n-i)*2):=by unfold Hid;rw [show Nat.min (n+1-i) (n-i)=n-i from Nat.min_eq_right (by omega)];exact L
   have s:Hid (∀ (W:World),W.heap=w.heap->∀ j u,F2[j]? = some u->W.cell? ((⟨h,i*2,none⟩:Addr).add j)=some u):=fun W hW j u I=>by
    have e:Blk W h 102 (F1++F2++R).toArray:=by unfold Blk;rw [hW];exact f
    rw [Addr.add_lit,e.cell];have hj:=(List.getElem?_eq_some_iff.1 I).1;simp only [getElem?_toArray];rw [append_assoc,getElem?_append_right (by omega),getElem?_append_left (by omega),show i*2+j-F1.length=j by omega];exact I
   have bq:=hide h2;have HL:=hide (And.intro k (And.intro p (And.intro ar B)));have d:=hide d;clear N f hh m J E B ho h2 k p
   go_enter Tryz.func217,Tryz.ntmps217
   go_wp2_with fail
   have T:IntKind.i64.wrap ((i:Int)+1)=(i:Int)+1:=by rw [IntKind.wrap_i64];omega
   have ab:(0:Int)<=(i:Int)+1:=by omega
   have bi:i<=n:=by omega
   have U:((i:Int)+1).toNat=i+1:=by omega
   have aa:¬(c=i+1):=by omega
   have au:(i:Int)<=(n:Int)+1:=by omega
   have cj:¬(c=i):=by omega
   go_region_law (refine zvb rfl _ _ 58 58 rfl 102 2 Tryz.underlying58 (by kernel_rfl) h ((i+1)*2) (n-i) (c-(i+1)) (n+1-i) (c-i) ⟨h,i*2,none⟩ (by simp [Act.eval,Act.put]) (by simp [Act.eval,Act.put]) 102 (F1++F2++R) bt.out F2 bm.out (s.out _ rfl) (by simp;omega) bq.out ?_;intro w1 F Y)
   clear T ab U aa;have az:Hid (Blk w1 h 102 ((F1++F2++R).take (i*2+2)++F2++(F1++F2++R).drop (i*2+2+F2.length)).toArray):=by
    have e:(i+1)*2=i*2+2:=by omega
    rw [e] at F;exact F
   have ac:Hid (∀ j u,X[j]? = some u->w1.cell? ((⟨g,off,none⟩:Addr).add j)=some u):=fun j u I=>by
    have e:Xk w1 g off X:=Xk.grown (w:=w.drew) bb.out Y (by simp;omega);rw [Addr.add_lit];exact e.cell I
   have ap:=hide (ziv Y);have D:=hide K;clear F Y K
   go_wp2_with (refine zrc rfl (.tmp 80) (.tmp 81) 58 58 rfl 102 2 Tryz.underlying58 (by kernel_rfl) h (i*2) (n+1-i) (c-i) 1 c1 ⟨g,off,none⟩ rfl rfl 102 _ az.out X (by rw [show Nat.min 1 (n+1-i)=1 from Nat.min_eq_left (by omega)];exact d.out) ac.out (by have:=d.out;have:=av;simp;omega) D.out ?_;intro w2 M o)
   go_ret
   have a:=HL.out;refine ⟨some ⟨h,0,none⟩,c,by show Ending.returned (.slice (some ⟨h,0,none⟩) (n+1) c)=_;rw [a.1],Own.of_blk M a.2.2.1 (by rw [a.1];exact V) aq (by have:=d.out;have:=av;simp;omega) ?_ (fun y=>y.2.1),zvo ap.out o,Or.inl rfl⟩;rw [a.1,a.2.1,<-zzy F1 F2 R X (i*2) 2 ((n-i)*2) ad L d.out (by omega)];congr 1;omega
  ·have f:Blk w h 102 (F1++F2++R).toArray:=hh;obtain ⟨i0,z,al,ah,af,S,ag⟩:=eok.inf;have ak:i+(n+1-i)=n+1:=by omega
   have aj:(n:Int)+1-(i:Int)=((n+1-i:Nat):Int):=by omega
   have ce:h < w.heap.size:=f.lt;have cd:g<w.heap.size:=N.lt;have O:(Builtin.firstCells i0.size i (.slice (some ⟨h,0,none⟩) i c)).run Tryz.prog w.drew=.ok F1.toArray w.drew:=by
    rw [af];refine run_firstCells_some w.drew 2 i ⟨h,0,none⟩ i c F1 ad (fun j v hj=>?_);have ca:=(List.getElem?_eq_some_iff.1 hj).1;rw [Addr.add_lit];refine (f.cell _).trans ?_;simp only [getElem?_toArray,Nat.zero_add];rw [append_assoc,getElem?_append_left (by omega)];exact hj
   have t:=fun ty=>Lib.run_append_grow_zeros w 58 3 ty 102 i0 z .i64 .i64 eok.und Tryz.underlying3 al ah (some ⟨h,0,none⟩) i c F1 O (n+1-i) (by omega) (by omega) (by omega) (by omega) (by rw [S];omega) (by rw [S,ak];exact growslice_fits (by omega) (by omega))
   rw [ak] at t;obtain ⟨G,hG⟩:∃ G,G=grownCap w (n+1) c 102:=⟨_,rfl⟩;rw [<-hG] at t;have br:n+1<=G:=by rw [hG];exact grownCap_ge w _ _ _
   have Q:G<=maxLen:=by rw [hG];exact grownCap_le_maxLen w (n+1) c 102 (by unfold maxLen;omega)
   obtain ⟨Z,hZ,ck⟩:∃ Z:List Value,F1.toArray++Builtin.zeroCells z.cells (n+1-i)++Builtin.zeroCells z.cells (G-(n+1))=(F1++Z).toArray/\Z.length=(G-i)*2 :=
    ⟨(Builtin.zeroCells z.cells (n+1-i)).toList++(Builtin.zeroCells z.cells (G-(n+1))).toList,by simp [Array.append_assoc],by simp [size_zeroCells,ag];omega⟩
   rw [hZ] at t;obtain ⟨W1,q⟩:∃ W1,W1=w.drew.alloc (.cells (F1++Z).toArray 102):=⟨_,rfl⟩;have bs:Hid (Blk W1 w.heap.size 102 (F1++Z).toArray):=by rw [q];exact Blk.new w.drew _ _
   have ba:Hid (Xk W1 g off X):=by rw [q];exact Xk.alloc (w:=w.drew) N _
   have F:Hid (Blk W1 h 102 (F1++F2++R).toArray):=by rw [q];exact Blk.alloc (w:=w.drew) f _
   have bl:Hid (∀ b,W1.grownBy b (some w.heap.size)->∀ row,w.grownBy b row):=fun b hb row=>by
    rw [q] at hb;exact ziv (zvp hb row)
   have ai:Hid (∀ ty,(Builtin.append_ #[58,3] ty #[.slice (some ⟨h,0,none⟩) i c,.int .i64 ((n:Int)+1-(i:Int))]).run Tryz.prog w=.ok (.slice (some ⟨w.heap.size,0,none⟩) (n+1) G) W1):=fun ty=>by
    rw [aj,q];exact t ty
   have ac:Hid (∀ j u,X[j]? = some u->W1.cell? ((⟨g,off,none⟩:Addr).add j)=some u):=fun j u I=>by
    rw [Addr.add_lit];exact ba.out.cell I
   have HL:=hide (And.intro k (And.intro p (And.intro ar B)));have d:=hide d;have D:=hide K;have bu:=hide h2;have aw:Hid (F2.length=Nat.min (n-i) (n-i)*2):=by unfold Hid;rw [show Nat.min (n-i) (n-i)=n-i from Nat.min_self _];exact L
   have bj:(i:Int)<(n:Int):=by omega
   have cc:(c:Int)<(n:Int)+1:=by omega
   have bi:i<=n:=by omega
   have ci:¬(c=i):=by omega
   have cm:¬(G=i):=by omega
   have bv:¬(G=i+1):=by omega
   have cl:G<=9223372036854775807:=by unfold maxLen at Q;omega
   clear N f hh m J E B ho h2 k p K t O q hZ hG aj af S ag ah al aq
   go_enter Tryz.func217,Tryz.ntmps217
   go_wp2_with (first|(at_builtin;refine Lib.wpList_append_run _ rfl _ _ _ _ rfl _ _ rfl rfl _ _ (ai.out _) ?_)|(refine zrc rfl (.tmp 43) (.tmp 44) 58 58 rfl 102 2 Tryz.underlying58 (by kernel_rfl) w.heap.size (i*2) (n+1-i) (G-i) 1 c1 ⟨g,off,none⟩ rfl rfl 102 _ bs.out X (by rw [show Nat.min 1 (n+1-i)=1 from Nat.min_eq_left (by omega)];exact d.out) ac.out (by have:=d.out;simp;omega) D.out ?_;intro w2 M o))
   have cf:h≠w.heap.size:=by omega
   have s:Hid (∀ j u,F2[j]? = some u->w2.cell? ((⟨h,i*2,none⟩:Addr).add j)=some u):=fun j u I=>by
    have e:Blk w2 h 102 (F1++F2++R).toArray:=F.out.grown o (by simp;omega);rw [Addr.add_lit,e.cell];have hj:=(List.getElem?_eq_some_iff.1 I).1;simp only [getElem?_toArray];rw [append_assoc,getElem?_append_right (by omega),getElem?_append_left (by omega),show i*2+j-F1.length=j by omega];exact I
   have ao:=hide o;have ay:=hide M;have T:IntKind.i64.wrap ((i:Int)+1)=(i:Int)+1:=by rw [IntKind.wrap_i64];omega
   have ab:(0:Int)<=(i:Int)+1:=by omega
   have U:((i:Int)+1).toNat=i+1:=by omega
   have au:(i:Int)<=(n:Int):=by omega
   have bp:(i:Int)+1<=(n:Int)+1:=by omega
   clear o M
   go_region_law (refine zvb rfl _ _ 58 58 rfl 102 2 Tryz.underlying58 (by kernel_rfl) w.heap.size ((i+1)*2) (n-i) (G-(i+1)) (n-i) (c-i) ⟨h,i*2,none⟩ (by simp [Act.eval,Act.put]) (by simp [Act.eval,Act.put]) 102 _ ay.out F2 aw.out s.out (by have:=d.out;simp;omega) bu.out ?_;intro w3 ae an)
   clear T ab U au bp;have ax:Hid (Blk w3 w.heap.size 102 (((F1++Z).take (i*2)++X++(F1++Z).drop (i*2+X.length)).take (i*2+2)++F2++((F1++Z).take (i*2)++X++(F1++Z).drop (i*2+X.length)).drop (i*2+2+F2.length)).toArray):=by
    have e:(i+1)*2=i*2+2:=by omega
    rw [e] at ae;exact ae
   have am:=hide (ziv an);clear ae an
   go_wp2
   go_ret
   have a:=HL.out;have bc:=d.out;refine ⟨some ⟨w.heap.size,0,none⟩,G,by show Ending.returned (.slice (some ⟨w.heap.size,0,none⟩) (n+1) G)=_;rw [a.1],Own.of_blk ax.out C (by rw [a.1];exact br) Q (by simp;omega) ?_ (fun y=>y.2.1),bl.out _ (zvo ao.out am.out) _,Or.inr rfl⟩;rw [a.1,a.2.1,<-y8s F1 F2 Z X (i*2) 2 ((n-i)*2) ad L bc (by omega)];congr 1;omega
theorem y29 {n a v r i}(b:zti n a i v=some r):ConC false E0 217 [.row 0,aI i,.sl 2 (List.map z08 v)] 102 2 (List.map z08 a) 102 2 (List.map z08 r) (.row 0):=ygb rfl (z0q Tryz.func217 rfl rfl) (by omega) y4o b
end
end Go.Proofs.YtidhlpjgifoneaaGreat
