/- What some functions compute, over plain values. -/
import Derived.Test.YtidhlpjgifoneaaGreatK27
set_option linter.unusedVariables false
set_option linter.unusedSimpArgs false
set_option maxRecDepth 100000
set_option maxHeartbeats 8000000
namespace Go.Proofs.YtidhlpjgifoneaaGreat
open Go.RowKit List
noncomputable section
abbrev zno {n f a e d b}:=li (z7u n f a e d b) (fun c=>⟨[(1,.sl 5 (f.map z02)),(2,.ptr 2 0),(6,.ptr 6 0),(9,.ptr 9 0),(71,aI ((((List.map (fun q=>AV.sl 3 (List.map z01 q)) (a.1.fSets)).length:Nat):Int))),(72,aI c)],[(2,.box 31 [.sl 1 (List.map (fun q=>AV.sl 3 (List.map z01 q)) (a.1.fSets))]),(6,.box 31 [.sl 1 (List.map (fun q=>AV.sl 3 (List.map z01 q)) (e.2.2.1.fSets))]),(9,.box 44 (zew d.2.1))]⟩) fun _ _=>z7u.eq_2 ..
abbrev zns {n f e d a}:=jf (z2e n f e d a) (fun b=>⟨[(1,.sl 5 (f.map z02)),(2,.ptr 2 0),(6,.ptr 6 0),(9,.ptr 9 0),(68,.bool (b))],[(2,.box 31 [.sl 1 (List.map (fun q=>AV.sl 3 (List.map z01 q)) (e.1.fSets))]),(6,.box 31 [.sl 1 (List.map (fun q=>AV.sl 3 (List.map z01 q)) (d.2.2.1.fSets))]),(9,.box 44 (zew a.2.1))]⟩) fun _=>z2e.eq_1 ..
abbrev zok {n a d b}:=li (z8k n a d b) (fun c=>⟨[(0,.sl 3 (d.map z01)),(1,.sl 3 (a.map z01)),(5,aI c)],[]⟩) fun _ _=>z8k.eq_2 ..
abbrev zoi {n a d b}:=li (z8i n a d b) (fun c=>⟨[(2,.ptr 2 0),(3,.ptr 3 0),(5,aI c)],[(2,.box 31 [.sl 1 (List.map (fun q=>AV.sl 3 (List.map z01 q)) (d.fSets))]),(3,.box 31 [.sl 1 (List.map (fun q=>AV.sl 3 (List.map z01 q)) (a.fSets))])]⟩) fun _ _=>z8i.eq_2 ..
attribute [instance] zno zns    zok zoi       
instance y5l {n}:CI E0 (z8a n) true 12 [] (fun r=>.bool (r)):=⟨fun {r} b=>by
 unfold z8a at b;refine Con.env (E:=E0b) rfl rfl ?_;refine Con.walk _ Tryz.func12 rfl (z0q Tryz.func12 rfl rfl) rfl (Or.inr rfl) ?_;repeat' first
  |refine AW.jI b (fun v b=>?_) fun b=>?_
  |refine AW.regO b fun b=>?_
  |refine AW.frzO b 18 rfl (fun b=>?_)
  |refine AW.stepU [2,5,10,13,17] ?_;conv=>whnf
  |refine z10.o b (fun b=>?_) fun b=>?_
  |refine z10.t ?_
  |refine z10.f ?_
  |refine OpX.bldR z02 b rfl rfl rfl rfl rfl rfl rfl rfl rfl rfl rfl rfl rfl rfl rfl rfl (by first|exact SubR.refl _|(repeat' first|exact SubR.nil|refine SubR.cons ?_ ?_|exact SubL.nil|refine SubL.cons ?_ ?_|exact Sub.refl _|exact Sub.nil _)) rfl (fun l b=>?_)
  |refine OpX.bld z02 b rfl rfl rfl rfl rfl rfl rfl rfl rfl rfl rfl rfl rfl rfl rfl rfl (fun l b=>?_)
  |refine z1h.I b fun a b=>?_
  |refine SlsX.o z02 b (fun l b=>?_)
  |refine z1h.oR b (fun r=>r) (fun q=>AV.sl 3 (List.map z01 q)) (fun _=>AV.row 0) rfl (fun a h=>ConT.env rfl (zxs h)) (fun a b=>?_)
  |refine z1h.oR b (fun r=>r) (fun q=>AV.sl 3 (List.map z01 q)) (fun _=>AV.row 0) rfl (fun a h=>ConT.sub (by repeat' first|exact Sub.nil _|exact Sub.refl _|refine Sub.agg ?_|refine Sub.tup ?_|refine Sub.fn ?_|exact SubL.nil|refine SubL.cons ?_ ?_|refine Sub.sl _ ?_|exact SubE.nil|refine SubE.cons ?_ ?_) (ConT.env rfl (zxs h))) (fun a b=>?_)
  |refine NatX.o b (fun m b=>?_)
  |refine EltX.o (fun q=>AV.sl 3 (List.map z01 q)) b (fun x b=>?_)
  |refine SlsX.o z01 b (fun l b=>?_)
  |refine SetX.o (fun q=>AV.sl 3 (List.map z01 q)) b (fun x=>rfl) (fun x=>(by first|exact SubL.refl _|(repeat' first|exact SubL.nil|refine SubL.cons ?_ ?_|exact Sub.refl _|exact Sub.nil _|refine Sub.agg ?_))) (fun l b=>?_)
  |refine zab.I b (fun a b=>?_) rfl rfl fun _=>Or.inr rfl
  |exact ⟨_,b,LeX.a []⟩
  |refine IdxX.A b fun x b=>?_
  |refine IdxX.o (fun q=>AV.sl 3 (List.map z01 q)) b fun x b=>?_
  |refine z63.I b (LeX.a []) fun m v b=>?_
  |refine AndA ?_
  |refine EqX.A ?_
  |exact RetX.oB b⟩
instance y6k {n b a}:CI E0 (zcf n b a) true 41 [.sl 3 (b.map z01),.sl 3 (a.map z01)] (fun r=>.bool (r)):=by unfold zcf;exact CI.w [] Tryz.func41
instance y6g {n e d}:CI E0 (z6p n e d) true 15 [.agg [.sl 1 (List.map (fun q=>AV.sl 3 (List.map z01 q)) (e.fSets))],.agg [.sl 1 (List.map (fun q=>AV.sl 3 (List.map z01 q)) (d.fSets))]] (fun r=>.bool (r)):=⟨fun {r} b=>by
 unfold z6p at b;refine cw Tryz.func15 ?_;repeat' first
  |refine AW.step ?_;conv=>whnf
  |refine z10.o b (fun b=>?_) fun b=>?_
  |refine z10.t ?_
  |refine z10.f ?_
  |refine IdxX.o (fun q=>AV.sl 3 (List.map z01 q)) b fun x b=>?_
  |refine z1h.I b fun a b=>?_
  |exact ⟨_,b,LeX.a []⟩
  |refine z63.I b (LeX.a []) fun m v b=>?_
  |refine AndA ?_
  |refine EqX.A ?_
  |exact RetX.oB b⟩
end
noncomputable section
end
noncomputable section
abbrev zm9 {n b a c}:=li (z13 n b a c) (fun d=>⟨[(1,.row 200000),(2,.ptr 2 0),(6,aI d.1)],[(2,.box 111 (z5a a)),(200000,.row 4 1 (d.2.map AV.bool))]⟩) fun _ _=>z13.eq_2 ..
abbrev zm8 {n b a c}:=li (z6g n b a c) (fun d=>⟨[(1,.row 200000),(2,.ptr 2 0),(6,aI d.1)],[(2,.box 111 (z5a a)),(200000,.row 4 1 (d.2.map AV.bool))]⟩) fun _ _=>z6g.eq_2 ..
abbrev zm7 {n b a c}:=li (z6f n b a c) (fun d=>⟨[(1,.row 200000),(2,.ptr 2 0),(6,aI d.1)],[(2,.box 111 (z5a a)),(200000,.row 4 1 (d.2.map AV.bool))]⟩) fun _ _=>z6f.eq_2 ..
abbrev zm6 {n b a c}:=li (z6e n b a c) (fun d=>⟨[(1,.row 200000),(2,.ptr 2 0),(6,aI d.1)],[(2,.box 111 (z5a a)),(200000,.row 4 1 (d.2.map AV.bool))]⟩) fun _ _=>z6e.eq_2 ..
abbrev zjn {n a b}:=li (z1y n a b) (fun c=>⟨[(3,.row 6),(4,.row 7023),(5,aI c.1)],[(6,.row 4 1 (a.map AV.bool)),(7023,.row 3 1 (c.2.map aI))]⟩) fun _ _=>z1y.eq_2 ..
abbrev zlm {n a b}:=li (z64 n a b) (fun c=>⟨[(1,.row 200000),(4,.sl 1 (a.map aI)),(5,aI c.1)],[(200000,.row 4 1 (c.2.map AV.bool))]⟩) fun _ _=>z64.eq_2 ..
abbrev zq3 {n b c}:=li (z91 n b c) (fun d=>⟨[(5,.row 11),(8,.sl 17 (b.1.map z0v)),(9,aI b.2.1),(10,aI d.1)],[(11,.row 4 1 (d.2.map AV.bool))]⟩) fun _ _=>z91.eq_2 ..
abbrev zq4 {n c}:=li (z37 n c) (fun b=>⟨[(5,.row 11),(8,.sl 17 (b.1.map z0v)),(9,aI b.2.1)],[(11,.row 4 1 (b.2.2.map AV.bool))]⟩) fun _ _=>z37.eq_2 ..
abbrev zq5 {n d e a b}:=li (z6t n d e a b) (fun c=>⟨[(1,aI d),(2,.ptr 2 0),(5,.row 11),(6,.sl 11 (a.fGuards.map z0u)),(7,aI c.1)],[(2,.box 25 (z0d e)),(11,.row 4 1 (c.2.map AV.bool))]⟩) fun _ _=>z6t.eq_2 ..
abbrev zlp {n a b d e f c g h}:=jf (z2s n a b d e f c g h) (fun j=>⟨[(1,.ptr 1 0),(3,.cont (b) 7003),(5,aI d.1),(6,aI e.1),(7,.ptr 7 0),(8,aI c.1),(47,.bool (j))],[(1,.box 25 (z0d a)),(7003,.are 150 (c.2).1 (List.map (enQ AV.bool 4) (c.2).2)),(7,.box 115 (z1z f))]⟩) fun _=>z2s.eq_1 ..
abbrev zms {n a b d e f g}:=li (z1f n a b d e f g) (fun c=>⟨[(1,.ptr 1 0),(3,.cont (b) 7003),(5,aI d.1),(6,aI e.1),(7,.ptr 7 0),(8,aI c.1)],[(1,.box 25 (z0d a)),(7003,.are 150 (c.2).1 (List.map (enQ AV.bool 4) (c.2).2)),(7,.box 115 (z1z f))]⟩) fun _ _=>z1f.eq_2 ..
abbrev zmt {n a b d e}:=li (z28 n a b d e) (fun c=>⟨[(1,.ptr 1 0),(3,.cont (b) 7003),(5,aI d.1),(6,aI c.1)],[(1,.box 25 (z0d a)),(7003,.are 150 (c.2).1 (List.map (enQ AV.bool 4) (c.2).2))]⟩) fun _ _=>z28.eq_2 ..
abbrev zmu {n a b d}:=li (z3b n a b d) (fun c=>⟨[(1,.ptr 1 0),(3,.cont (b) 7003),(5,aI c.1)],[(1,.box 25 (z0d a)),(7003,.are 150 (c.2).1 (List.map (enQ AV.bool 4) (c.2).2))]⟩) fun _ _=>z3b.eq_2 ..
abbrev zmv {n a c}:=li (z7j n a c) (fun b=>⟨[(1,.ptr 1 0),(3,.cont (b.1) 7003),(4,aI b.2.1)],[(1,.box 25 (z0d a)),(7003,.are 150 (b.2.2).1 (List.map (enQ AV.bool 4) (b.2.2).2))]⟩) fun _ _=>z7j.eq_2 ..
abbrev zrf {n a d b}:=li (zbs n a d b) (fun c=>⟨[(1,aI a),(2,.ptr 2 0),(5,.row 7030),(6,aI c.1)],[(2,.box 60 (z0x d)),(7030,.row 74 3 (c.2.map z14))]⟩) fun _ _=>zbs.eq_2 ..
attribute [instance] zm9 zm8 zm7 zm6 zjn zlm zq3 zq4 zq5 zlp zms zmt zmu zmv zrf
def zr9 (b:z0k)(a:(List Bool)):List (Nat×Ent):=[(200000,.row 4 1 (a.map AV.bool))]
def z6s (r:(List Bool)):List (Nat×Ent):=[(200000,.row 4 1 (r.map AV.bool))]
def z90 (r:(List Bool)):AV:=.tup []
def zr6 (r:(List Bool)):AS:=⟨[(1,.row 200000)],z6s r⟩
theorem zi2 {n d e r}(b:z1i n d e=some r):ConG E0.P none (CalF E0.P 208 0) [z0n d,.row 200000] [] (zr9 d e) (z90 r) (z6s r):=by
 induction n generalizing d e r
 case zero=>cases b
 case succ n f =>
 unfold z1i at b;refine ConG.walk (E:=(E0p 2)) (caps:=[]) _ Tryz.func208 rfl rfl rfl rfl rfl ?_;repeat' first
  |refine AW.step ?_;conv=>whnf
  |refine z10.o b (fun b=>?_) fun b=>?_
  |refine z10.t ?_
  |refine z10.f ?_
  |refine z1h.I b fun a b=>?_
  |refine NatX.o b (fun m b=>?_)
  |refine SetX.o AV.bool b (fun x=>rfl) (fun x=>(by first|exact SubL.refl _|(repeat' first|exact SubL.nil|refine SubL.cons ?_ ?_|exact Sub.refl _|exact Sub.nil _|refine Sub.agg ?_))) (fun l b=>?_)
  |exact GX.A (res:=z90) (meF:=z6s) b zr6
  |refine IdxX.oD b z2q (fun x b=>?_)
  |refine zab.oM (z3d 43 b) [(200000,200000)] [(200000,200000)] _ _ z6s z90 [] (fun a h=>ConG.up (f h)) (z0q Tryz.func208 rfl rfl) rfl rfl rfl ⟨⟨rfl,rfl⟩,trivial⟩ (fun a=>⟨rfl,rfl,rfl,rfl,rfl,rfl,rfl,rfl⟩) (fun a b=>?_)
  |refine z1h.oM (z3d 43 b) [(200000,200000)] [(200000,200000)] _ _ z6s z90 [] (fun a h=>ConG.up (f h)) (z0q Tryz.func208 rfl rfl) rfl rfl rfl ⟨⟨rfl,rfl⟩,trivial⟩ (fun a=>⟨rfl,rfl,rfl,rfl,rfl,rfl,rfl,rfl⟩) (fun a b=>?_)
  |exact ⟨_,b,LeX.a []⟩
  |refine z63.I b (LeX.a []) fun m v b=>?_
  |refine AndA ?_
  |refine EqX.A ?_
instance y0f {n d}:CI E0 (z9h n d) false 177 [z0n d] (fun r=>.sl 1 (r.map aI)):=⟨fun {r} b=>by
 unfold z9h at b;refine cw Tryz.func177 ?_;repeat' first
  |refine AW.regO b fun b=>?_
  |refine AW.stepU [7] ?_;conv=>whnf
  |refine z10.o b (fun b=>?_) fun b=>?_
  |refine z10.t ?_
  |refine z10.f ?_
  |refine MakX.o AV.bool b (by first|exact SubL.refl _|(repeat' first|exact SubL.nil|refine SubL.cons ?_ ?_|exact Sub.refl _|exact Sub.nil _|refine Sub.agg ?_)) (fun l b=>?_)
  |refine zab.oM (z3d 9 b) [(200000,6)] [(200000,6)] _ _ z6s z90 [] (fun a h=>ConG.up (zi2 h)) (z0q Tryz.func208 rfl rfl) rfl rfl rfl ⟨⟨rfl,rfl⟩,trivial⟩ (fun a=>⟨rfl,rfl,rfl,rfl,rfl,rfl,rfl,rfl⟩) (fun a b=>?_)
  |refine z1h.oM (z3d 9 b) [(200000,6)] [(200000,6)] _ _ z6s z90 [] (fun a h=>ConG.up (zi2 h)) (z0q Tryz.func208 rfl rfl) rfl rfl rfl ⟨⟨rfl,rfl⟩,trivial⟩ (fun a=>⟨rfl,rfl,rfl,rfl,rfl,rfl,rfl,rfl⟩) (fun a b=>?_)
  |refine NatX.o b (fun m b=>?_)
  |refine EltX.o AV.bool b (fun x b=>?_)
  |refine AppX.oA b fun l b=>?_
  |exact ⟨_,b,LeX.a [(7023,23)]⟩
  |exact ⟨_,b,LeX.a []⟩
  |refine z63.I b ?_ fun m v b=>?_
  |exact LeX.trans (LeX.adopt 4 7023 3 1 rfl rfl) (LeX.a [])
  |refine AndA ?_
  |refine EqX.A ?_
  |exact RetX.oB b⟩
def zr8 (b:z0k)(a:(List Bool)):List (Nat×Ent):=[(200000,.row 4 1 (a.map AV.bool))]
def z36 (r:(List Bool)):List (Nat×Ent):=[(200000,.row 4 1 (r.map AV.bool))]
def z4d (r:(List Bool)):AV:=.tup []
def zr5 (r:(List Bool)):AS:=⟨[(1,.row 200000)],z36 r⟩
theorem z7i {n d e r}(b:z6u n d e=some r):ConG E0.P none (CalF E0.P 136 0) [z0n d,.row 200000] [] (zr8 d e) (z4d r) (z36 r):=by
 unfold z6u at b;refine ConG.walk (E:=(E0p 2)) (caps:=[]) _ Tryz.func136 rfl rfl rfl rfl rfl ?_;repeat' first
  |refine AW.step ?_;conv=>whnf
  |refine z10.o b (fun b=>?_) fun b=>?_
  |refine z10.t ?_
  |refine z10.f ?_
  |refine z1h.I b fun a b=>?_
  |exact GX.A (res:=z4d) (meF:=z36) b zr5
  |refine IdxX.A b fun x b=>?_
  |refine NatX.o b (fun m b=>?_)
  |refine SetX.o AV.bool b (fun x=>rfl) (fun x=>(by first|exact SubL.refl _|(repeat' first|exact SubL.nil|refine SubL.cons ?_ ?_|exact Sub.refl _|exact Sub.nil _|refine Sub.agg ?_))) (fun l b=>?_)
  |exact ⟨_,b,LeX.a []⟩
  |refine z63.I b (LeX.a []) fun m v b=>?_
  |refine AndA ?_
  |refine EqX.A ?_
def zd8 (r:(List Bool)):AV:=.row 0
theorem zik {n e d r}(b:zdb n e d=some r):ConT E0 93 [z0m e,aI d] 4 1 (r.map AV.bool) (zd8 r):=by
 unfold zdb at b;refine ConT.walk _ Tryz.func93 rfl (z0q Tryz.func93 rfl rfl) rfl rfl ?_;repeat' first
  |refine AW.step ?_;conv=>whnf
  |refine z10.o b (fun b=>?_) fun b=>?_
  |refine z10.t ?_
  |refine z10.f ?_
  |refine MakX.o AV.bool b (by first|exact SubL.refl _|(repeat' first|exact SubL.nil|refine SubL.cons ?_ ?_|exact Sub.refl _|exact Sub.nil _|refine Sub.agg ?_)) (fun l b=>?_)
  |refine IdxX.A b fun x b=>?_
  |refine z1h.I b fun a b=>?_
  |refine zab.oM (z3d 46 b) [(200000,11)] [(200000,11)] _ _ z36 z4d [] (fun a h=>ConG.up (z7i h)) (z0q Tryz.func136 rfl rfl) rfl rfl rfl ⟨⟨rfl,rfl⟩,trivial⟩ (fun a=>⟨rfl,rfl,rfl,rfl,rfl,rfl,rfl,rfl⟩) (fun a b=>?_)
  |refine z1h.oM (z3d 46 b) [(200000,11)] [(200000,11)] _ _ z36 z4d [] (fun a h=>ConG.up (z7i h)) (z0q Tryz.func136 rfl rfl) rfl rfl rfl ⟨⟨rfl,rfl⟩,trivial⟩ (fun a=>⟨rfl,rfl,rfl,rfl,rfl,rfl,rfl,rfl⟩) (fun a b=>?_)
  |exact ⟨_,b,LeX.a []⟩
  |refine IdxX.oD b z2q (fun x b=>?_)
  |refine zab.oM (z3d 66 b) [(200000,11)] [(200000,11)] _ _ z36 z4d [] (fun a h=>ConG.up (z7i h)) (z0q Tryz.func136 rfl rfl) rfl rfl rfl ⟨⟨rfl,rfl⟩,trivial⟩ (fun a=>⟨rfl,rfl,rfl,rfl,rfl,rfl,rfl,rfl⟩) (fun a b=>?_)
  |refine z1h.oM (z3d 66 b) [(200000,11)] [(200000,11)] _ _ z36 z4d [] (fun a h=>ConG.up (z7i h)) (z0q Tryz.func136 rfl rfl) rfl rfl rfl ⟨⟨rfl,rfl⟩,trivial⟩ (fun a=>⟨rfl,rfl,rfl,rfl,rfl,rfl,rfl,rfl⟩) (fun a b=>?_)
  |refine z63.I b (LeX.a []) fun m v b=>?_
  |refine zab.oM (z3d 30 b) [(200000,11)] [(200000,11)] _ _ z36 z4d [] (fun a h=>ConG.up (z7i h)) (z0q Tryz.func136 rfl rfl) rfl rfl rfl ⟨⟨rfl,rfl⟩,trivial⟩ (fun a=>⟨rfl,rfl,rfl,rfl,rfl,rfl,rfl,rfl⟩) (fun a b=>?_)
  |refine z1h.oM (z3d 30 b) [(200000,11)] [(200000,11)] _ _ z36 z4d [] (fun a h=>ConG.up (z7i h)) (z0q Tryz.func136 rfl rfl) rfl rfl rfl ⟨⟨rfl,rfl⟩,trivial⟩ (fun a=>⟨rfl,rfl,rfl,rfl,rfl,rfl,rfl,rfl⟩) (fun a b=>?_)
  |refine AndA ?_
  |refine EqX.A ?_
  |refine TX.o (rl:=fun r=>r.map AV.bool) (res:=zd8) b ?_;exact TX.mk _ 11 (LeX.refl _ _ _) _ rfl rfl (by repeat' first|exact Sub.nil _|exact Sub.refl _|refine Sub.agg ?_|refine Sub.tup ?_|refine Sub.fn ?_|exact SubL.nil|refine SubL.cons ?_ ?_|refine Sub.sl _ ?_|exact SubE.nil|refine SubE.cons ?_ ?_)
  |refine TX.o (rl:=fun r=>r.map AV.bool) (res:=zd8) b ?_;exact TX.mk _ 9000 (LeX.adopt 4 9000 4 1 rfl rfl) _ rfl rfl (by repeat' first|exact Sub.nil _|exact Sub.refl _|refine Sub.agg ?_|refine Sub.tup ?_|refine Sub.fn ?_|exact SubL.nil|refine SubL.cons ?_ ?_|refine Sub.sl _ ?_|exact SubE.nil|refine SubE.cons ?_ ?_)
instance y4y {n d}:CI E0 (z86 n d) false 57 [z0m d] (fun r=>.sl 1 (List.map (fun q=>AV.sl 1 (List.map AV.bool q)) (r))):=⟨fun {r} b=>by
 unfold z86 at b;refine cw Tryz.func57 ?_;repeat' first
  |refine AW.arzO (ty:=150) AV.bool b 3 7003 4 rfl rfl rfl (fun b=>?_)
  |refine AW.frqO AV.bool b 7003 rfl (fun b=>?_)
  |refine AW.jI b (fun v b=>?_) fun b=>?_
  |refine AW.regO b fun b=>?_
  |refine AW.frzO b 7003 rfl (fun b=>?_)
  |refine AW.stepU [17,14,16,2] ?_;conv=>whnf
  |refine z10.o b (fun b=>?_) fun b=>?_
  |refine z10.t ?_
  |refine z10.f ?_
  |exact ⟨_,b,LeX.a []⟩
  |refine IdxX.A b fun x b=>?_
  |refine OpX.ixc b rfl rfl rfl rfl rfl rfl rfl rfl (fun b=>?_)
  |refine OpX.aob b rfl rfl rfl rfl rfl rfl rfl (fun j b=>?_)
  |refine OpX.aix AV.bool b rfl rfl rfl rfl rfl rfl rfl rfl rfl (fun k b=>?_)
  |refine OpX.ald AV.bool b rfl rfl rfl rfl rfl rfl rfl (fun _=>rfl) (fun v b=>?_)
  |refine OpX.asr AV.bool b rfl rfl rfl rfl rfl rfl rfl rfl rfl rfl rfl rfl rfl (fun m b=>?_)
  |refine z63.I b (LeX.a []) fun m v b=>?_
  |refine z1h.oR b (fun r=>r) AV.bool zd8 rfl (fun a h=>zik h) (fun a b=>?_)
  |refine z1h.oR b (fun r=>r) AV.bool zd8 rfl (fun a h=>ConT.sub (by repeat' first|exact Sub.nil _|exact Sub.refl _|refine Sub.agg ?_|refine Sub.tup ?_|refine Sub.fn ?_|exact SubL.nil|refine SubL.cons ?_ ?_|refine Sub.sl _ ?_|exact SubE.nil|refine SubE.cons ?_ ?_) (zik h)) (fun a b=>?_)
  |refine OpX.bla AV.bool rfl rfl rfl rfl rfl rfl rfl rfl rfl rfl ?_
  |refine OpX.aap AV.bool b rfl rfl rfl rfl rfl rfl rfl rfl rfl rfl rfl rfl rfl rfl rfl rfl rfl rfl (fun m b=>?_)
  |exact ⟨_,b,LeX.a [(7003,21)]⟩
  |refine AndA ?_
  |refine EqX.A ?_
  |exact RetX.oB b⟩
end
noncomputable section
abbrev zmr {n d a b}:=li (zc1 n d a b) (fun c=>⟨[(7,.sl 3 (d.map z14)),(8,.sl 3 (a.map z14)),(9,aI c)],[]⟩) fun _ _=>zc1.eq_2 ..
abbrev zlt {n a e f b c}:=jf (z69 n a e f b c) (fun d=>⟨[(0,.sl 1 (List.map (fun q=>AV.sl 1 (List.map AV.bool q)) (f))),(4,.ptr 4 0),(5,.ptr 5 0),(8,aI b),(76,.bool (d))],[(4,.box 60 (z0x e)),(5,.box 60 (z0x a))]⟩) fun _=>z69.eq_1 ..
abbrev zlq {n a d e b}:=li (z65 n a d e b) (fun c=>⟨[(0,.sl 1 (List.map (fun q=>AV.sl 1 (List.map AV.bool q)) (e))),(4,.ptr 4 0),(5,.ptr 5 0),(8,aI c)],[(4,.box 60 (z0x d)),(5,.box 60 (z0x a))]⟩) fun _ _=>z65.eq_2 ..
abbrev zls {n a e f b c}:=jf (z68 n a e f b c) (fun d=>⟨[(0,.sl 1 (List.map (fun q=>AV.sl 1 (List.map AV.bool q)) (f))),(4,.ptr 4 0),(5,.ptr 5 0),(7,aI b),(57,.bool (d))],[(4,.box 60 (z0x e)),(5,.box 60 (z0x a))]⟩) fun _=>z68.eq_1 ..
abbrev zlr {n a d e b}:=li (z67 n a d e b) (fun c=>⟨[(0,.sl 1 (List.map (fun q=>AV.sl 1 (List.map AV.bool q)) (e))),(4,.ptr 4 0),(5,.ptr 5 0),(7,aI c)],[(4,.box 60 (z0x d)),(5,.box 60 (z0x a))]⟩) fun _ _=>z67.eq_2 ..
abbrev zlu {n a d e}:=jf (z6a n a d e) (fun b=>⟨[(0,.sl 1 (List.map (fun q=>AV.sl 1 (List.map AV.bool q)) (e))),(4,.ptr 4 0),(5,.ptr 5 0),(22,.bool (b))],[(4,.box 60 (z0x d)),(5,.box 60 (z0x a))]⟩) fun _=>z6a.eq_1 ..
abbrev zln {n a e b c}:=li (z2r n a e b c) (fun d=>⟨[(0,.sl 1 (List.map (fun q=>AV.sl 1 (List.map AV.bool q)) (e))),(1,.sl 3 (a.map z01)),(5,.row 7061),(6,aI b.1),(7,.bool (d.1)),(8,aI d.2)],[(7061,.row 60 3 (b.2.map z01))]⟩) fun _ _=>z2r.eq_2 ..
abbrev zlo {n a d b}:=li (z9g n a d b) (fun c=>⟨[(0,.sl 1 (List.map (fun q=>AV.sl 1 (List.map AV.bool q)) (d))),(1,.sl 3 (a.map z01)),(5,.row 7061),(6,aI c.1)],[(7061,.row 60 3 (c.2.map z01))]⟩) fun _ _=>z9g.eq_2 ..
abbrev zog {n e f g a b c}:=jt (z3m n e f g a b c) (fun d=>⟨[(1,.sl 5 (f.map z02)),(2,.bool (e)),(3,.ptr 3 0),(8,.sl 1 (List.map (fun q=>AV.sl 1 (List.map AV.bool q)) (a))),(9,.row 7017),(10,aI b.1),(11,.sl 3 (d.map z01))],[(3,.box 25 (z0d g)),(7017,.row 57 1 (List.map (fun q=>AV.sl 3 (List.map z01 q)) (b.2)))]⟩) fun _=>z3m.eq_1 ..
abbrev zoh {n f g h a b d c}:=jf (z5m n f g h a b d c) (fun e=>⟨[(1,.sl 5 (g.map z02)),(2,.bool (f)),(3,.ptr 3 0),(8,.sl 1 (List.map (fun q=>AV.sl 1 (List.map AV.bool q)) (a))),(9,.row 7017),(10,aI b.1),(11,.sl 3 (c.1.map z01)),(12,.sl 1 (c.2.map z0c)),(45,.bool (e))],[(3,.box 25 (z0d h)),(7017,.row 57 1 (List.map (fun q=>AV.sl 3 (List.map z01 q)) (b.2)))]⟩) fun _=>z5m.eq_1 ..
abbrev zof {n d e f a b}:=li (z2l n d e f a b) (fun c=>⟨[(1,.sl 5 (e.map z02)),(2,.bool (d)),(3,.ptr 3 0),(8,.sl 1 (List.map (fun q=>AV.sl 1 (List.map AV.bool q)) (a))),(9,.row 7017),(10,aI c.1)],[(3,.box 25 (z0d f)),(7017,.row 57 1 (List.map (fun q=>AV.sl 3 (List.map z01 q)) (c.2)))]⟩) fun _ _=>z2l.eq_2 ..
abbrev zhz {n}:=jf (z0y n) (fun b=>⟨[(4,.bool (b))],[]⟩) fun _=>z0y.eq_1 ..
attribute [instance] zmr zlt zlq zls zlr zlu zln zlo zog zoh zof zhz   
instance yae {n d b}:CI E0 (zgi n d b) false 178 [z01 d,aI b] (fun r=>.sl 3 (r.map z14)):=⟨fun {r} a=>by
 unfold zgi at a;refine cw Tryz.func178 ?_;repeat' first
  |refine AW.regO a fun a=>?_
  |refine AW.stepU [5] ?_;conv=>whnf
  |refine z10.o a (fun a=>?_) fun a=>?_
  |refine z10.t ?_
  |refine z10.f ?_
  |refine IdxX.A a fun x a=>?_
  |refine AppX.oA a fun l a=>?_
  |exact ⟨_,a,LeX.a [(7030,30)]⟩
  |exact ⟨_,a,LeX.a []⟩
  |refine z63.I a ?_ fun m v a=>?_
  |exact LeX.trans (LeX.adopt 5 7030 74 3 rfl rfl) (LeX.a [])
  |refine AndA ?_
  |refine EqX.A ?_
  |exact RetX.oB a⟩
instance y4x {n d b a}:CI E0 (zgw n d b a) true 137 [z01 d,z01 b,aI a] (fun r=>.bool (r)):=by unfold zgw;exact CI.w [] Tryz.func137
instance y3d {n f e d}:CI E0 (zdx n f e d) true 94 [.sl 1 (List.map (fun q=>AV.sl 1 (List.map AV.bool q)) (f)),z01 e,z01 d] (fun r=>.bool (r)):=⟨fun {r} b=>by
 unfold zdx at b;refine cw Tryz.func94 ?_;repeat' first
  |refine AW.jI b (fun v b=>?_) fun b=>?_
  |refine AW.regO b fun b=>?_
  |refine AW.stepU [1,6,11] ?_;conv=>whnf
  |refine z10.o b (fun b=>?_) fun b=>?_
  |refine z10.t ?_
  |refine z10.f ?_
  |exact ⟨_,b,LeX.a []⟩
  |refine IdxX.o (fun q=>AV.sl 1 (List.map AV.bool q)) b fun x b=>?_
  |refine IdxX.A b fun x b=>?_
  |refine z1h.I b fun a b=>?_
  |refine z63.I b (LeX.a []) fun m v b=>?_
  |refine AndA ?_
  |refine EqX.A ?_
  |exact RetX.oB b⟩
instance y3c {n e d}:CI E0 (zb6 n e d) false 58 [.sl 1 (List.map (fun q=>AV.sl 1 (List.map AV.bool q)) (e)),.sl 3 (d.map z01)] (fun r=>.sl 3 (r.map z01)):=⟨fun {r} b=>by
 unfold zb6 at b;refine cw Tryz.func58 ?_;repeat' first
  |refine AW.regO b fun b=>?_
  |refine AW.stepU [9,11] ?_;conv=>whnf
  |refine z10.o b (fun b=>?_) fun b=>?_
  |refine z10.t ?_
  |refine z10.f ?_
  |refine IdxX.A b fun x b=>?_
  |refine AppX.oA b fun l b=>?_
  |exact ⟨_,b,LeX.a [(7061,61)]⟩
  |exact ⟨_,b,LeX.a []⟩
  |refine z1h.I b fun a b=>?_
  |refine z63.I b ?_ fun m v b=>?_
  |exact LeX.a []
  |exact LeX.trans (LeX.adopt 5 7061 60 3 rfl rfl) (LeX.a [])
  |refine AndA ?_
  |refine EqX.A ?_
  |exact RetX.oB b⟩
instance y6f {n f e d}:CI E0 (zcd n f e d) false 40 [z0m f,.sl 5 (e.map z02),.bool (d)] (fun r=>.tup [.sl 1 (List.map (fun q=>AV.sl 3 (List.map z01 q)) (r.1)),aI r.2]):=⟨fun {r} b=>by
 unfold zcd at b;refine Con.env (E:=E0b) rfl rfl ?_;refine Con.walk _ Tryz.func40 rfl (z0q Tryz.func40 rfl rfl) rfl (Or.inl rfl) ?_;repeat' first
  |refine AW.jI2 b (fun v b=>?_) fun b=>?_
  |refine AW.jI b (fun v b=>?_) fun b=>?_
  |refine AW.regO b fun b=>?_
  |refine AW.stepU [7,11] ?_;conv=>whnf
  |refine z10.o b (fun b=>?_) fun b=>?_
  |refine z10.t ?_
  |refine z10.f ?_
  |refine z1h.I b fun a b=>?_
  |refine OpX.bldS z01 b rfl rfl rfl rfl rfl rfl rfl rfl rfl rfl rfl rfl rfl rfl (fun l b=>?_)
  |refine OpX.bldR (fun q=>AV.sl 3 (List.map z01 q)) b rfl rfl rfl rfl rfl rfl rfl rfl rfl rfl rfl rfl rfl rfl rfl rfl (by first|exact SubR.refl _|(repeat' first|exact SubR.nil|refine SubR.cons ?_ ?_|exact SubL.nil|refine SubL.cons ?_ ?_|exact Sub.refl _|exact Sub.nil _)) rfl (fun l b=>?_)
  |refine OpX.bld (fun q=>AV.sl 3 (List.map z01 q)) b rfl rfl rfl rfl rfl rfl rfl rfl rfl rfl rfl rfl rfl rfl rfl rfl (fun l b=>?_)
  |refine NatX.o b (fun m b=>?_)
  |refine EltX.o (fun q=>AV.sl 3 (List.map z01 q)) b (fun x b=>?_)
  |refine IdxX.A b fun x b=>?_
  |refine OpX.bldS (fun q=>AV.sl 3 (List.map z01 q)) b rfl rfl rfl rfl rfl rfl rfl rfl rfl rfl rfl rfl rfl rfl (fun l b=>?_)
  |refine AppX.oA b fun l b=>?_
  |exact ⟨_,b,LeX.a [(7017,56)]⟩
  |exact ⟨_,b,LeX.a []⟩
  |refine z63.I b ?_ fun m v b=>?_
  |exact LeX.a [(7017,17)]
  |refine AndA ?_
  |refine EqX.A ?_
  |exact RetX.oB b⟩
instance y4z {n b a}:CI E0 (z54 n b a) false 14 [z0m b,.sl 5 (a.map z02)] (fun r=>.tup [.agg [.sl 1 (List.map (fun q=>AV.sl 3 (List.map z01 q)) (r.1.fSets))],aI r.2]):=by unfold z54;exact CI.w [] Tryz.func14
theorem zi5 {n e d r}(b:z82 n e d=some r):Con E0 true 3 [z0m e,.sl 5 (d.map z02)] (.bool (r)):=by
 unfold z82 at b;refine cw Tryz.func3 ?_;repeat' first
  |refine AW.jI b (fun v b=>?_) fun b=>?_
  |refine AW.regO b fun b=>?_
  |refine AW.stepU [5] ?_;conv=>whnf
  |refine z10.o b (fun b=>?_) fun b=>?_
  |refine z10.t ?_
  |refine z10.f ?_
  |refine z1h.I b fun a b=>?_
  |exact ⟨_,b,LeX.a []⟩
  |refine AndA ?_
  |refine EqX.A ?_
  |exact RetX.oB b
end
section
variable {α:Type} {c:α->α->Int}
theorem TO.asym (h:TO c){a b:α}(k:c a b<0):¬c b a<0:=by have:=h.neg a b;omega
theorem TO.lt_ne (h:TO c){a b:α}(k:c a b<0):a≠b:=fun e=>by subst e;exact h.irr _ k
def Str (c:α->α->Int)(l:List α):Prop:=l.Pairwise (fun x y=>c x y<0)
theorem Str.uniq (h:TO c):∀ {l m:List α},Str c l->Str c m->(∀ x,x∈l ↔ x∈m)->l=m
 |[],[],_,_,_=>rfl
 |[],y::m,_,_,hm=>by have:=(hm y).2 (by simp);simp at this
 |x::l,[],_,_,hm=>by have:=(hm x).1 (by simp);simp at this
 |x::l,y::m,h1,i,hm=>by
  obtain ⟨g,k⟩:=pairwise_cons.1 h1;obtain ⟨f,j⟩:=pairwise_cons.1 i;have b:x=y:=by
   rcases mem_cons.1 ((hm x).1 (by simp)) with e|e
   ·exact e
   ·rcases mem_cons.1 ((hm y).2 (by simp)) with d|d
    ·exact d.symm
    ·exact absurd (g y d) (h.asym (f x e))
  subst b;congr 1;refine Str.uniq h k j (fun z=>⟨fun a=>?_,fun a=>?_⟩)
  ·rcases mem_cons.1 ((hm z).1 (mem_cons_of_mem _ a)) with e|e
   ·exact absurd e.symm (h.lt_ne (g z a))
   ·exact e
  ·rcases mem_cons.1 ((hm z).2 (mem_cons_of_mem _ a)) with e|e
   ·exact absurd e.symm (h.lt_ne (f z a))
   ·exact e
def insU (c:α->α->Int)(x:α):List α->List α
 |[]=>[x]
 |y::l=>if c y x<0 then y::insU c x l else if c y x=0 then y::l else x::y::l
theorem zvl (h:TO c)(x z:α):∀ l:List α,z∈insU c x l ↔ z=x\/z∈l
 |[]=>by simp [insU]
 |y::l=>by
  unfold insU;split
  ·simp only [mem_cons,zvl h x z l];constructor
   ·rintro (h|h|h)<;>simp [h]
   ·rintro (h|h|h)<;>simp [h]
  ·split
   ·rename_i e;have:=(h.zero _ _).1 e;subst this;simp only [mem_cons];constructor
    ·intro k;exact Or.inr k
    ·rintro (k|k)
     ·exact Or.inl k
     ·exact k
   ·simp only [mem_cons]
theorem yej (h:TO c)(x:α):∀ l:List α,Str c l->Str c (insU c x l)
 |[],_=>by simp [insU,Str]
 |y::l,b=>by
  obtain ⟨h1,f⟩:=pairwise_cons.1 b;unfold insU;split
  ·rename_i k;refine pairwise_cons.2 ⟨fun z a=>?_,yej h x l f⟩;rcases (zvl h x z l).1 a with e|e
   ·rw [e];exact k
   ·exact h1 z e
  ·split
   ·exact b
   ·rename_i i g;have d:c x y<0:=by have:=h.neg y x;have:=h.one y x;omega
    refine pairwise_cons.2 ⟨fun z a=>?_,b⟩;rcases mem_cons.1 a with e|e
    ·rw [e];exact d
    ·exact h.trans _ _ _ d (h1 z e)
theorem zpe (c:α->α->Int)(x:α):∀ l:List α,(insU c x l).length<=l.length+1
 |[]=>by simp [insU]
 |y::l=>by
  unfold insU;have:=zpe c x l;split
  ·simp only [length_cons];omega
  ·split<;>simp only [length_cons]<;>omega
def puts (c:α->α->Int)(s:List α)(l:List α):List α:=l.foldl (fun s x=>insU c x s) s
def setL (c:α->α->Int)(l:List α):List α:=puts c [] l
theorem zj8 (s:List α)(x:α)(l:List α):puts c s (x::l)=puts c (insU c x s) l:=rfl
theorem zpc (s l m:List α):puts c s (l++m)=puts c (puts c s l) m:=by simp [puts,foldl_append]
theorem zt7 (h:TO c)(z:α):∀ (l s:List α),z∈puts c s l ↔ z∈s\/z∈l
 |[],s=>by simp [puts]
 |x::l,s=>by
  rw [zj8,zt7 h z l,zvl h];simp only [mem_cons];constructor
  ·rintro ((k|k)|k)<;>simp [k]
  ·rintro (k|k|k)<;>simp [k]
theorem ydm (h:TO c):∀ (l s:List α),Str c s->Str c (puts c s l)
 |[],_,a=>a
 |x::l,s,a=>by rw [zj8];exact ydm h l _ (yej h x s a)
theorem zye:∀ (l s:List α),(puts c s l).length<=s.length+l.length
 |[],s=>by simp [puts]
 |x::l,s=>by
  rw [zj8];have:=zye l (insU c x s);have:=zpe c x s;simp only [length_cons];omega
theorem zi7 (h:TO c)(z:α)(l:List α):z∈setL c l ↔ z∈l:=by unfold setL;rw [zt7 h];simp
theorem zvc (h:TO c)(l:List α):Str c (setL c l):=ydm h l [] (by simp [Str])
theorem y42 (l:List α):(setL c l).length<=l.length:=by have:=zye (c:=c) l [];simpa [setL] using this
theorem ynj (h:TO c){l m:List α}(hm:∀ x,x∈l ↔ x∈m):setL c l=setL c m:=Str.uniq h (zvc h l) (zvc h m) (fun x=>by rw [zi7 h,zi7 h,hm])
variable [DecidableEq α]
def ddA (p:α):List α->List α
 |[]=>[]
 |y::l=>if y=p then ddA p l else y::ddA y l
def dd:List α->List α |[]=>[] |x::l=>x::ddA x l
theorem y4v (p z:α):∀ l:List α,ddA p (l++[z])=ddA p l++(if z=(p::l).getLast (by simp) then [] else [z])
 |[]=>by by_cases h:z=p<;>simp [ddA,h]
 |y::l=>by
  have e:(p::y::l).getLast (by simp)=(y::l).getLast (by simp):=by rw [getLast_cons (by simp)]
  simp only [cons_append,ddA];rw [e];by_cases h:y=p
  ·subst h;rw [if_pos rfl,if_pos rfl,y4v y z l]
  ·rw [if_neg h,if_neg h,y4v y z l];rfl
theorem zry (l:List α)(z:α)(h:l≠[]):dd (l++[z])=dd l++(if z=l.getLast h then [] else [z]):=by
 cases l with
 |nil=>exact absurd rfl h
 |cons x l =>
  show x::ddA x (l++[z])=_;rw [y4v];rfl
theorem yc9 (x:α):∀ (l:List α) (p:α),x∈ddA p l\/x=p ↔ x∈l\/x=p
 |[],p=>by simp [ddA]
 |y::l,p=>by
  unfold ddA;split
  ·rename_i h;subst h;rw [yc9 x l y];simp only [mem_cons];constructor
   ·rintro (k|k)<;>simp [k]
   ·rintro ((k|k)|k)<;>simp [k]
  ·have:=yc9 x l y;simp only [mem_cons];constructor
   ·rintro ((k|k)|k)
    ·exact Or.inl (Or.inl k)
    ·rcases this.1 (Or.inl k) with q|q
     ·exact Or.inl (Or.inr q)
     ·exact Or.inl (Or.inl q)
    ·exact Or.inr k
   ·rintro ((k|k)|k)
    ·exact Or.inl (Or.inl k)
    ·rcases this.2 (Or.inl k) with q|q
     ·exact Or.inl (Or.inr q)
     ·exact Or.inl (Or.inl q)
    ·exact Or.inr k
theorem yr5 (x:α)(l:List α):x∈dd l ↔ x∈l:=by
 cases l with
 |nil=>simp [dd]
 |cons y l =>
  simp only [dd,mem_cons];have:=yc9 x l y;constructor
  ·rintro (k|k)
   ·exact Or.inl k
   ·rcases this.1 (Or.inl k) with q|q
    ·exact Or.inr q
    ·exact Or.inl q
  ·rintro (k|k)
   ·exact Or.inl k
   ·rcases this.2 (Or.inl k) with q|q
    ·exact Or.inr q
    ·exact Or.inl q
theorem yc8 (h:TO c):∀ (l:List α) (p:α),(p::l).Pairwise (fun x y=>ltOf c y x=false)->Str c (p::ddA p l)
 |[],p,_=>by simp [ddA,Str]
 |y::l,p,i=>by
  obtain ⟨h1,g⟩:=pairwise_cons.1 i;have d:∀ z,z∈y::l->¬c z p<0:=fun z a=>of_decide_eq_false (h1 z a)
  unfold ddA;split
  ·rename_i e;refine yc8 h l p (pairwise_cons.2 ⟨fun z a=>h1 z (mem_cons_of_mem _ a),(pairwise_cons.1 g).2⟩)
  ·rename_i e;have f:=yc8 h l y g;have b:c p y<0:=by
    rcases h.tri p y with k|k|k
    ·exact k
    ·exact absurd k.symm e
    ·exact absurd k (d y (by simp))
   refine pairwise_cons.2 ⟨fun z a=>?_,f⟩;rcases mem_cons.1 a with k|k
   ·rw [k];exact b
   ·exact h.trans _ _ _ b ((pairwise_cons.1 f).1 z k)
theorem yja (h:TO c)(l:List α):dd (zxz c l)=setL c l:=by
 have a:=zrh h.swo l;refine Str.uniq h ?_ (zvc h l) (fun x=>by rw [yr5,zi7 h];exact (zio c l).mem_iff);cases b:zxz c l with
 |nil=>simp [dd,Str]
 |cons x q=>rw [b] at a;exact yc8 h q x a
end
end Go.Proofs.YtidhlpjgifoneaaGreat
