/- What some functions compute, over plain values. -/
import Derived.Test.YtidhlpjgifoneaaGreatK28
set_option linter.unusedVariables false
set_option linter.unusedSimpArgs false
set_option maxRecDepth 100000
set_option maxHeartbeats 8000000
namespace Go.Proofs.YtidhlpjgifoneaaGreat
open Go.RowKit List
noncomputable section
abbrev z3b {n b a c}:=li (Dm n b a c) (fun d=>⟨[(1,.row 200000),(2,.ptr 2 0),(6,aI d.1)],[(2,.box 111 (Cm a)),(200000,.row 4 1 (d.2.map AV.bool))]⟩) fun _ _=>Dm.eq_2 ..
abbrev z3a {n b a c}:=li (Ok n b a c) (fun d=>⟨[(1,.row 200000),(2,.ptr 2 0),(6,aI d.1)],[(2,.box 111 (Cm a)),(200000,.row 4 1 (d.2.map AV.bool))]⟩) fun _ _=>Ok.eq_2 ..
abbrev z38 {n b a c}:=li (Oj n b a c) (fun d=>⟨[(1,.row 200000),(2,.ptr 2 0),(6,aI d.1)],[(2,.box 111 (Cm a)),(200000,.row 4 1 (d.2.map AV.bool))]⟩) fun _ _=>Oj.eq_2 ..
abbrev z37 {n b a c}:=li (Oi n b a c) (fun d=>⟨[(1,.row 200000),(2,.ptr 2 0),(6,aI d.1)],[(2,.box 111 (Cm a)),(200000,.row 4 1 (d.2.map AV.bool))]⟩) fun _ _=>Oi.eq_2 ..
abbrev z17 {n a b}:=li (Hp n a b) (fun c=>⟨[(3,.row 6),(4,.row 7023),(5,aI c.1)],[(6,.row 4 1 (a.map AV.bool)),(7023,.row 3 1 (c.2.map aI))]⟩) fun _ _=>Hp.eq_2 ..
abbrev z2n {n a b}:=li (Od n a b) (fun c=>⟨[(1,.row 200000),(4,.sl 1 (a.map aI)),(5,aI c.1)],[(200000,.row 4 1 (c.2.map AV.bool))]⟩) fun _ _=>Od.eq_2 ..
abbrev z6n {n b c}:=li (Px n b c) (fun d=>⟨[(5,.row 11),(8,.sl 17 (b.1.map B5)),(9,aI b.2.1),(10,aI d.1)],[(11,.row 4 1 (d.2.map AV.bool))]⟩) fun _ _=>Px.eq_2 ..
abbrev z6o {n c}:=li (Gv n c) (fun b=>⟨[(5,.row 11),(8,.sl 17 (b.1.map B5)),(9,aI b.2.1)],[(11,.row 4 1 (b.2.2.map AV.bool))]⟩) fun _ _=>Gv.eq_2 ..
abbrev z6p {n d e a b}:=li (L1 n d e a b) (fun c=>⟨[(1,aI d),(2,.ptr 2 0),(5,.row 11),(6,.sl 11 (a.fGuards.map Bc)),(7,aI c.1)],[(2,.box 25 (Ba e)),(11,.row 4 1 (c.2.map AV.bool))]⟩) fun _ _=>L1.eq_2 ..
abbrev z2q {n a b d e f c g h}:=jf (Hw n a b d e f c g h) (fun j=>⟨[(1,.ptr 1 0),(3,.cont (b) 7003),(5,aI d.1),(6,aI e.1),(7,.ptr 7 0),(8,aI c.1),(47,.bool (j))],[(1,.box 25 (Ba a)),(7003,.are 150 (c.2).1 (List.map (enQ AV.bool 4) (c.2).2)),(7,.box 115 (C6 f))]⟩) fun _=>Hw.eq_1 ..
abbrev z3u {n a b d e f g}:=li (Ee n a b d e f g) (fun c=>⟨[(1,.ptr 1 0),(3,.cont (b) 7003),(5,aI d.1),(6,aI e.1),(7,.ptr 7 0),(8,aI c.1)],[(1,.box 25 (Ba a)),(7003,.are 150 (c.2).1 (List.map (enQ AV.bool 4) (c.2).2)),(7,.box 115 (C6 f))]⟩) fun _ _=>Ee.eq_2 ..
abbrev z3v {n a b d e}:=li (Gh n a b d e) (fun c=>⟨[(1,.ptr 1 0),(3,.cont (b) 7003),(5,aI d.1),(6,aI c.1)],[(1,.box 25 (Ba a)),(7003,.are 150 (c.2).1 (List.map (enQ AV.bool 4) (c.2).2))]⟩) fun _ _=>Gh.eq_2 ..
abbrev z3w {n a b d}:=li (I1 n a b d) (fun c=>⟨[(1,.ptr 1 0),(3,.cont (b) 7003),(5,aI c.1)],[(1,.box 25 (Ba a)),(7003,.are 150 (c.2).1 (List.map (enQ AV.bool 4) (c.2).2))]⟩) fun _ _=>I1.eq_2 ..
abbrev z3x {n a c}:=li (Oz n a c) (fun b=>⟨[(1,.ptr 1 0),(3,.cont (b.1) 7003),(4,aI b.2.1)],[(1,.box 25 (Ba a)),(7003,.are 150 (b.2.2).1 (List.map (enQ AV.bool 4) (b.2.2).2))]⟩) fun _ _=>Oz.eq_2 ..
abbrev z7z {n a d b}:=li (Lm n a d b) (fun c=>⟨[(1,aI a),(2,.ptr 2 0),(5,.row 7030),(6,aI c.1)],[(2,.box 60 (Bi d)),(7030,.row 74 3 (c.2.map Bf))]⟩) fun _ _=>Lm.eq_2 ..
attribute [instance] z3b z3a z38 z37 z17 z2n z6n z6o z6p z2q z3u z3v z3w z3x z7z
def z7x (b:Ay)(a:(List Bool)):List (Nat×Ent):=[(200000,.row 4 1 (a.map AV.bool))]
def L0 (r:(List Bool)):List (Nat×Ent):=[(200000,.row 4 1 (r.map AV.bool))]
def Pw (r:(List Bool)):AV:=.tup []
def z7u (r:(List Bool)):AS:=⟨[(1,.row 200000)],L0 r⟩
theorem z0o {n d e r}(b:E2 n d e=some r):ConG E0.P none (CalF E0.P 208 0) [Ar d,.row 200000] [] (z7x d e) (Pw r) (L0 r):=by
 induction n generalizing d e r
 case zero=>cases b
 case succ n f =>
 unfold E2 at b;refine ConG.walk (E:=(E0p 2)) (caps:=[]) _ Tryz.func208 rfl rfl rfl rfl rfl ?_;repeat' first
  |refine AW.step ?_;conv=>whnf
  |refine A9.o b (fun b=>?_) fun b=>?_
  |refine A9.t ?_
  |refine A9.f ?_
  |refine Ad.I b fun a b=>?_
  |refine NatX.o b (fun m b=>?_)
  |refine SetX.o AV.bool b (fun x=>rfl) (fun x=>(by first|exact SubL.refl _|(repeat' first|exact SubL.nil|refine SubL.cons ?_ ?_|exact Sub.refl _|exact Sub.nil _|refine Sub.agg ?_))) (fun l b=>?_)
  |exact GX.A (res:=Pw) (meF:=L0) b z7u
  |refine IdxX.oD b D6 (fun x b=>?_)
  |refine B7.oM (Bj 43 b) [(200000,200000)] [(200000,200000)] _ _ L0 Pw [] (fun a h=>ConG.up (f h)) (Aw Tryz.func208 rfl rfl) rfl rfl rfl ⟨⟨rfl,rfl⟩,trivial⟩ (fun a=>⟨rfl,rfl,rfl,rfl,rfl,rfl,rfl,rfl⟩) (fun a b=>?_)
  |refine Ad.oM (Bj 43 b) [(200000,200000)] [(200000,200000)] _ _ L0 Pw [] (fun a h=>ConG.up (f h)) (Aw Tryz.func208 rfl rfl) rfl rfl rfl ⟨⟨rfl,rfl⟩,trivial⟩ (fun a=>⟨rfl,rfl,rfl,rfl,rfl,rfl,rfl,rfl⟩) (fun a b=>?_)
  |exact ⟨_,b,LeX.a []⟩
  |refine Ax.I b (LeX.a []) fun m v b=>?_
  |refine AndA ?_
  |refine EqX.A ?_
instance zdu {n d}:CI E0 (T4 n d) false 177 [Ar d] (fun r=>.sl 1 (r.map aI)):=⟨fun {r} b=>by
 unfold T4 at b;refine cw Tryz.func177 ?_;repeat' first
  |refine AW.regO b fun b=>?_
  |refine AW.stepU [7] ?_;conv=>whnf
  |refine A9.o b (fun b=>?_) fun b=>?_
  |refine A9.t ?_
  |refine A9.f ?_
  |refine MakX.o AV.bool b (by first|exact SubL.refl _|(repeat' first|exact SubL.nil|refine SubL.cons ?_ ?_|exact Sub.refl _|exact Sub.nil _|refine Sub.agg ?_)) (fun l b=>?_)
  |refine B7.oM (Bj 9 b) [(200000,6)] [(200000,6)] _ _ L0 Pw [] (fun a h=>ConG.up (z0o h)) (Aw Tryz.func208 rfl rfl) rfl rfl rfl ⟨⟨rfl,rfl⟩,trivial⟩ (fun a=>⟨rfl,rfl,rfl,rfl,rfl,rfl,rfl,rfl⟩) (fun a b=>?_)
  |refine Ad.oM (Bj 9 b) [(200000,6)] [(200000,6)] _ _ L0 Pw [] (fun a h=>ConG.up (z0o h)) (Aw Tryz.func208 rfl rfl) rfl rfl rfl ⟨⟨rfl,rfl⟩,trivial⟩ (fun a=>⟨rfl,rfl,rfl,rfl,rfl,rfl,rfl,rfl⟩) (fun a b=>?_)
  |refine NatX.o b (fun m b=>?_)
  |refine EltX.o AV.bool b (fun x b=>?_)
  |refine AppX.oA b fun l b=>?_
  |exact ⟨_,b,LeX.a [(7023,23)]⟩
  |exact ⟨_,b,LeX.a []⟩
  |refine Ax.I b ?_ fun m v b=>?_
  |exact LeX.trans (LeX.adopt 4 7023 3 1 rfl rfl) (LeX.a [])
  |refine AndA ?_
  |refine EqX.A ?_
  |exact RetX.oB b⟩
def z7w (b:Ay)(a:(List Bool)):List (Nat×Ent):=[(200000,.row 4 1 (a.map AV.bool))]
def Gu (r:(List Bool)):List (Nat×Ent):=[(200000,.row 4 1 (r.map AV.bool))]
def Ia (r:(List Bool)):AV:=.tup []
def z7t (r:(List Bool)):AS:=⟨[(1,.row 200000)],Gu r⟩
theorem Ox {n d e r}(b:L2 n d e=some r):ConG E0.P none (CalF E0.P 136 0) [Ar d,.row 200000] [] (z7w d e) (Ia r) (Gu r):=by
 unfold L2 at b;refine ConG.walk (E:=(E0p 2)) (caps:=[]) _ Tryz.func136 rfl rfl rfl rfl rfl ?_;repeat' first
  |refine AW.step ?_;conv=>whnf
  |refine A9.o b (fun b=>?_) fun b=>?_
  |refine A9.t ?_
  |refine A9.f ?_
  |refine Ad.I b fun a b=>?_
  |exact GX.A (res:=Ia) (meF:=Gu) b z7t
  |refine IdxX.A b fun x b=>?_
  |refine NatX.o b (fun m b=>?_)
  |refine SetX.o AV.bool b (fun x=>rfl) (fun x=>(by first|exact SubL.refl _|(repeat' first|exact SubL.nil|refine SubL.cons ?_ ?_|exact Sub.refl _|exact Sub.nil _|refine Sub.agg ?_))) (fun l b=>?_)
  |exact ⟨_,b,LeX.a []⟩
  |refine Ax.I b (LeX.a []) fun m v b=>?_
  |refine AndA ?_
  |refine EqX.A ?_
def U9 (r:(List Bool)):AV:=.row 0
theorem z0r {n e d r}(b:Ub n e d=some r):ConT E0 93 [Bm e,aI d] 4 1 (r.map AV.bool) (U9 r):=by
 unfold Ub at b;refine ConT.walk _ Tryz.func93 rfl (Aw Tryz.func93 rfl rfl) rfl rfl ?_;repeat' first
  |refine AW.step ?_;conv=>whnf
  |refine A9.o b (fun b=>?_) fun b=>?_
  |refine A9.t ?_
  |refine A9.f ?_
  |refine MakX.o AV.bool b (by first|exact SubL.refl _|(repeat' first|exact SubL.nil|refine SubL.cons ?_ ?_|exact Sub.refl _|exact Sub.nil _|refine Sub.agg ?_)) (fun l b=>?_)
  |refine IdxX.A b fun x b=>?_
  |refine Ad.I b fun a b=>?_
  |refine B7.oM (Bj 46 b) [(200000,11)] [(200000,11)] _ _ Gu Ia [] (fun a h=>ConG.up (Ox h)) (Aw Tryz.func136 rfl rfl) rfl rfl rfl ⟨⟨rfl,rfl⟩,trivial⟩ (fun a=>⟨rfl,rfl,rfl,rfl,rfl,rfl,rfl,rfl⟩) (fun a b=>?_)
  |refine Ad.oM (Bj 46 b) [(200000,11)] [(200000,11)] _ _ Gu Ia [] (fun a h=>ConG.up (Ox h)) (Aw Tryz.func136 rfl rfl) rfl rfl rfl ⟨⟨rfl,rfl⟩,trivial⟩ (fun a=>⟨rfl,rfl,rfl,rfl,rfl,rfl,rfl,rfl⟩) (fun a b=>?_)
  |exact ⟨_,b,LeX.a []⟩
  |refine IdxX.oD b D6 (fun x b=>?_)
  |refine B7.oM (Bj 66 b) [(200000,11)] [(200000,11)] _ _ Gu Ia [] (fun a h=>ConG.up (Ox h)) (Aw Tryz.func136 rfl rfl) rfl rfl rfl ⟨⟨rfl,rfl⟩,trivial⟩ (fun a=>⟨rfl,rfl,rfl,rfl,rfl,rfl,rfl,rfl⟩) (fun a b=>?_)
  |refine Ad.oM (Bj 66 b) [(200000,11)] [(200000,11)] _ _ Gu Ia [] (fun a h=>ConG.up (Ox h)) (Aw Tryz.func136 rfl rfl) rfl rfl rfl ⟨⟨rfl,rfl⟩,trivial⟩ (fun a=>⟨rfl,rfl,rfl,rfl,rfl,rfl,rfl,rfl⟩) (fun a b=>?_)
  |refine Ax.I b (LeX.a []) fun m v b=>?_
  |refine B7.oM (Bj 30 b) [(200000,11)] [(200000,11)] _ _ Gu Ia [] (fun a h=>ConG.up (Ox h)) (Aw Tryz.func136 rfl rfl) rfl rfl rfl ⟨⟨rfl,rfl⟩,trivial⟩ (fun a=>⟨rfl,rfl,rfl,rfl,rfl,rfl,rfl,rfl⟩) (fun a b=>?_)
  |refine Ad.oM (Bj 30 b) [(200000,11)] [(200000,11)] _ _ Gu Ia [] (fun a h=>ConG.up (Ox h)) (Aw Tryz.func136 rfl rfl) rfl rfl rfl ⟨⟨rfl,rfl⟩,trivial⟩ (fun a=>⟨rfl,rfl,rfl,rfl,rfl,rfl,rfl,rfl⟩) (fun a b=>?_)
  |refine AndA ?_
  |refine EqX.A ?_
  |refine TX.o (rl:=fun r=>r.map AV.bool) (res:=U9) b ?_;exact TX.mk _ 11 (LeX.refl _ _ _) _ rfl rfl (by repeat' first|exact Sub.nil _|exact Sub.refl _|refine Sub.agg ?_|refine Sub.tup ?_|refine Sub.fn ?_|exact SubL.nil|refine SubL.cons ?_ ?_|refine Sub.sl _ ?_|exact SubE.nil|refine SubE.cons ?_ ?_)
  |refine TX.o (rl:=fun r=>r.map AV.bool) (res:=U9) b ?_;exact TX.mk _ 9000 (LeX.adopt 4 9000 4 1 rfl rfl) _ rfl rfl (by repeat' first|exact Sub.nil _|exact Sub.refl _|refine Sub.agg ?_|refine Sub.tup ?_|refine Sub.fn ?_|exact SubL.nil|refine SubL.cons ?_ ?_|refine Sub.sl _ ?_|exact SubE.nil|refine SubE.cons ?_ ?_)
instance zhw {n d}:CI E0 (Ln n d) false 57 [Bm d] (fun r=>.sl 1 (List.map (fun q=>AV.sl 1 (List.map AV.bool q)) (r))):=⟨fun {r} b=>by
 unfold Ln at b;refine cw Tryz.func57 ?_;repeat' first
  |refine AW.arzO (ty:=150) AV.bool b 3 7003 4 rfl rfl rfl (fun b=>?_)
  |refine AW.frqO AV.bool b 7003 rfl (fun b=>?_)
  |refine AW.jI b (fun v b=>?_) fun b=>?_
  |refine AW.regO b fun b=>?_
  |refine AW.frzO b 7003 rfl (fun b=>?_)
  |refine AW.stepU [17,14,16,2] ?_;conv=>whnf
  |refine A9.o b (fun b=>?_) fun b=>?_
  |refine A9.t ?_
  |refine A9.f ?_
  |exact ⟨_,b,LeX.a []⟩
  |refine IdxX.A b fun x b=>?_
  |refine OpX.ixc b rfl rfl rfl rfl rfl rfl rfl rfl (fun b=>?_)
  |refine OpX.aob b rfl rfl rfl rfl rfl rfl rfl (fun j b=>?_)
  |refine OpX.aix AV.bool b rfl rfl rfl rfl rfl rfl rfl rfl rfl (fun k b=>?_)
  |refine OpX.ald AV.bool b rfl rfl rfl rfl rfl rfl rfl (fun _=>rfl) (fun v b=>?_)
  |refine OpX.asr AV.bool b rfl rfl rfl rfl rfl rfl rfl rfl rfl rfl rfl rfl rfl (fun m b=>?_)
  |refine Ax.I b (LeX.a []) fun m v b=>?_
  |refine Ad.oR b (fun r=>r) AV.bool U9 rfl (fun a h=>z0r h) (fun a b=>?_)
  |refine Ad.oR b (fun r=>r) AV.bool U9 rfl (fun a h=>ConT.sub (by repeat' first|exact Sub.nil _|exact Sub.refl _|refine Sub.agg ?_|refine Sub.tup ?_|refine Sub.fn ?_|exact SubL.nil|refine SubL.cons ?_ ?_|refine Sub.sl _ ?_|exact SubE.nil|refine SubE.cons ?_ ?_) (z0r h)) (fun a b=>?_)
  |refine OpX.bla AV.bool rfl rfl rfl rfl rfl rfl rfl rfl rfl rfl ?_
  |refine OpX.aap AV.bool b rfl rfl rfl rfl rfl rfl rfl rfl rfl rfl rfl rfl rfl rfl rfl rfl rfl rfl (fun m b=>?_)
  |exact ⟨_,b,LeX.a [(7003,21)]⟩
  |refine AndA ?_
  |refine EqX.A ?_
  |exact RetX.oB b⟩
end
noncomputable section
abbrev z3t {n d a b}:=li (Oy n d a b) (fun c=>⟨[(7,.sl 3 (d.map Bf)),(8,.sl 3 (a.map Bf)),(9,aI c)],[]⟩) fun _ _=>Oy.eq_2 ..
abbrev z2u {n a e f b c}:=jf (Jw n a e f b c) (fun d=>⟨[(0,.sl 1 (List.map (fun q=>AV.sl 1 (List.map AV.bool q)) (f))),(4,.ptr 4 0),(5,.ptr 5 0),(8,aI b),(76,.bool (d))],[(4,.box 60 (Bi e)),(5,.box 60 (Bi a))]⟩) fun _=>Jw.eq_1 ..
abbrev z2r {n a d e b}:=li (Ge n a d e b) (fun c=>⟨[(0,.sl 1 (List.map (fun q=>AV.sl 1 (List.map AV.bool q)) (e))),(4,.ptr 4 0),(5,.ptr 5 0),(8,aI c)],[(4,.box 60 (Bi d)),(5,.box 60 (Bi a))]⟩) fun _ _=>Ge.eq_2 ..
abbrev z2t {n a e f b c}:=jf (Jv n a e f b c) (fun d=>⟨[(0,.sl 1 (List.map (fun q=>AV.sl 1 (List.map AV.bool q)) (f))),(4,.ptr 4 0),(5,.ptr 5 0),(7,aI b),(57,.bool (d))],[(4,.box 60 (Bi e)),(5,.box 60 (Bi a))]⟩) fun _=>Jv.eq_1 ..
abbrev z2s {n a d e b}:=li (Hx n a d e b) (fun c=>⟨[(0,.sl 1 (List.map (fun q=>AV.sl 1 (List.map AV.bool q)) (e))),(4,.ptr 4 0),(5,.ptr 5 0),(7,aI c)],[(4,.box 60 (Bi d)),(5,.box 60 (Bi a))]⟩) fun _ _=>Hx.eq_2 ..
abbrev z2v {n a d e}:=jf (Jx n a d e) (fun b=>⟨[(0,.sl 1 (List.map (fun q=>AV.sl 1 (List.map AV.bool q)) (e))),(4,.ptr 4 0),(5,.ptr 5 0),(22,.bool (b))],[(4,.box 60 (Bi d)),(5,.box 60 (Bi a))]⟩) fun _=>Jx.eq_1 ..
abbrev z2o {n a e b c}:=li (Fk n a e b c) (fun d=>⟨[(0,.sl 1 (List.map (fun q=>AV.sl 1 (List.map AV.bool q)) (e))),(1,.sl 3 (a.map A4)),(5,.row 7061),(6,aI b.1),(7,.bool (d.1)),(8,aI d.2)],[(7061,.row 60 3 (b.2.map A4))]⟩) fun _ _=>Fk.eq_2 ..
abbrev z2p {n a d b}:=li (Gc n a d b) (fun c=>⟨[(0,.sl 1 (List.map (fun q=>AV.sl 1 (List.map AV.bool q)) (d))),(1,.sl 3 (a.map A4)),(5,.row 7061),(6,aI c.1)],[(7061,.row 60 3 (c.2.map A4))]⟩) fun _ _=>Gc.eq_2 ..
abbrev z5f {n e f g a b c}:=jt (I4 n e f g a b c) (fun d=>⟨[(1,.sl 5 (f.map A7)),(2,.bool (e)),(3,.ptr 3 0),(8,.sl 1 (List.map (fun q=>AV.sl 1 (List.map AV.bool q)) (a))),(9,.row 7017),(10,aI b.1),(11,.sl 3 (d.map A4))],[(3,.box 25 (Ba g)),(7017,.row 57 1 (List.map (fun q=>AV.sl 3 (List.map A4 q)) (b.2)))]⟩) fun _=>I4.eq_1 ..
abbrev z5g {n f g h a b d c}:=jf (Kk n f g h a b d c) (fun e=>⟨[(1,.sl 5 (g.map A7)),(2,.bool (f)),(3,.ptr 3 0),(8,.sl 1 (List.map (fun q=>AV.sl 1 (List.map AV.bool q)) (a))),(9,.row 7017),(10,aI b.1),(11,.sl 3 (c.1.map A4)),(12,.sl 1 (c.2.map Ap)),(45,.bool (e))],[(3,.box 25 (Ba h)),(7017,.row 57 1 (List.map (fun q=>AV.sl 3 (List.map A4 q)) (b.2)))]⟩) fun _=>Kk.eq_1 ..
abbrev z5e {n d e f a b}:=li (Gr n d e f a b) (fun c=>⟨[(1,.sl 5 (e.map A7)),(2,.bool (d)),(3,.ptr 3 0),(8,.sl 1 (List.map (fun q=>AV.sl 1 (List.map AV.bool q)) (a))),(9,.row 7017),(10,aI c.1)],[(3,.box 25 (Ba f)),(7017,.row 57 1 (List.map (fun q=>AV.sl 3 (List.map A4 q)) (c.2)))]⟩) fun _ _=>Gr.eq_2 ..
attribute [instance] z3t z2u z2r z2t z2s z2v z2o z2p z5f z5g z5e    
instance zn4 {n d b}:CI E0 (R4 n d b) false 178 [A4 d,aI b] (fun r=>.sl 3 (r.map Bf)):=⟨fun {r} a=>by
 unfold R4 at a;refine cw Tryz.func178 ?_;repeat' first
  |refine AW.regO a fun a=>?_
  |refine AW.stepU [5] ?_;conv=>whnf
  |refine A9.o a (fun a=>?_) fun a=>?_
  |refine A9.t ?_
  |refine A9.f ?_
  |refine IdxX.A a fun x a=>?_
  |refine AppX.oA a fun l a=>?_
  |exact ⟨_,a,LeX.a [(7030,30)]⟩
  |exact ⟨_,a,LeX.a []⟩
  |refine Ax.I a ?_ fun m v a=>?_
  |exact LeX.trans (LeX.adopt 5 7030 74 3 rfl rfl) (LeX.a [])
  |refine AndA ?_
  |refine EqX.A ?_
  |exact RetX.oB a⟩
instance zhv {n d b a}:CI E0 (Tv n d b a) true 137 [A4 d,A4 b,aI a] (fun r=>.bool (r)):=by unfold Tv;exact CI.w [] Tryz.func137
instance zgp {n f e d}:CI E0 (Py n f e d) true 94 [.sl 1 (List.map (fun q=>AV.sl 1 (List.map AV.bool q)) (f)),A4 e,A4 d] (fun r=>.bool (r)):=⟨fun {r} b=>by
 unfold Py at b;refine cw Tryz.func94 ?_;repeat' first
  |refine AW.jI b (fun v b=>?_) fun b=>?_
  |refine AW.regO b fun b=>?_
  |refine AW.stepU [1,6,11] ?_;conv=>whnf
  |refine A9.o b (fun b=>?_) fun b=>?_
  |refine A9.t ?_
  |refine A9.f ?_
  |exact ⟨_,b,LeX.a []⟩
  |refine IdxX.o (fun q=>AV.sl 1 (List.map AV.bool q)) b fun x b=>?_
  |refine IdxX.A b fun x b=>?_
  |refine Ad.I b fun a b=>?_
  |refine Ax.I b (LeX.a []) fun m v b=>?_
  |refine AndA ?_
  |refine EqX.A ?_
  |exact RetX.oB b⟩
instance zgm {n e d}:CI E0 (L3 n e d) false 58 [.sl 1 (List.map (fun q=>AV.sl 1 (List.map AV.bool q)) (e)),.sl 3 (d.map A4)] (fun r=>.sl 3 (r.map A4)):=⟨fun {r} b=>by
 unfold L3 at b;refine cw Tryz.func58 ?_;repeat' first
  |refine AW.regO b fun b=>?_
  |refine AW.stepU [9,11] ?_;conv=>whnf
  |refine A9.o b (fun b=>?_) fun b=>?_
  |refine A9.t ?_
  |refine A9.f ?_
  |refine IdxX.A b fun x b=>?_
  |refine AppX.oA b fun l b=>?_
  |exact ⟨_,b,LeX.a [(7061,61)]⟩
  |exact ⟨_,b,LeX.a []⟩
  |refine Ad.I b fun a b=>?_
  |refine Ax.I b ?_ fun m v b=>?_
  |exact LeX.a []
  |exact LeX.trans (LeX.adopt 5 7061 60 3 rfl rfl) (LeX.a [])
  |refine AndA ?_
  |refine EqX.A ?_
  |exact RetX.oB b⟩
instance zj3 {n f e d}:CI E0 (U2 n f e d) false 40 [Bm f,.sl 5 (e.map A7),.bool (d)] (fun r=>.tup [.sl 1 (List.map (fun q=>AV.sl 3 (List.map A4 q)) (r.1)),aI r.2]):=⟨fun {r} b=>by
 unfold U2 at b;refine Con.env (E:=E0b) rfl rfl ?_;refine Con.walk _ Tryz.func40 rfl (Aw Tryz.func40 rfl rfl) rfl (Or.inl rfl) ?_;repeat' first
  |refine AW.jI2 b (fun v b=>?_) fun b=>?_
  |refine AW.jI b (fun v b=>?_) fun b=>?_
  |refine AW.regO b fun b=>?_
  |refine AW.stepU [7,11] ?_;conv=>whnf
  |refine A9.o b (fun b=>?_) fun b=>?_
  |refine A9.t ?_
  |refine A9.f ?_
  |refine Ad.I b fun a b=>?_
  |refine OpX.bldS A4 b rfl rfl rfl rfl rfl rfl rfl rfl rfl rfl rfl rfl rfl rfl (fun l b=>?_)
  |refine OpX.bldR (fun q=>AV.sl 3 (List.map A4 q)) b rfl rfl rfl rfl rfl rfl rfl rfl rfl rfl rfl rfl rfl rfl rfl rfl (by first|exact SubR.refl _|(repeat' first|exact SubR.nil|refine SubR.cons ?_ ?_|exact SubL.nil|refine SubL.cons ?_ ?_|exact Sub.refl _|exact Sub.nil _)) rfl (fun l b=>?_)
  |refine OpX.bld (fun q=>AV.sl 3 (List.map A4 q)) b rfl rfl rfl rfl rfl rfl rfl rfl rfl rfl rfl rfl rfl rfl rfl rfl (fun l b=>?_)
  |refine NatX.o b (fun m b=>?_)
  |refine EltX.o (fun q=>AV.sl 3 (List.map A4 q)) b (fun x b=>?_)
  |refine IdxX.A b fun x b=>?_
  |refine OpX.bldS (fun q=>AV.sl 3 (List.map A4 q)) b rfl rfl rfl rfl rfl rfl rfl rfl rfl rfl rfl rfl rfl rfl (fun l b=>?_)
  |refine AppX.oA b fun l b=>?_
  |exact ⟨_,b,LeX.a [(7017,56)]⟩
  |exact ⟨_,b,LeX.a []⟩
  |refine Ax.I b ?_ fun m v b=>?_
  |exact LeX.a [(7017,17)]
  |refine AndA ?_
  |refine EqX.A ?_
  |exact RetX.oB b⟩
end
noncomputable section
abbrev z0g {n}:=jf (Dc n) (fun b=>⟨[(4,.bool (b))],[]⟩) fun _=>Dc.eq_1 ..
attribute [instance]              z0g
instance zlw {n b a}:CI E0 (Xq n b a) false 89 [Bm b,.sl 5 (a.map A7)] (fun r=>.tup [.sl 3 (r.1.map A4),.sl 1 (r.2.1.map Ap),aI r.2.2]):=by unfold Xq;exact CI.w [] Tryz.func89
instance zf3 {n b a}:CI E0 (Td n b a) false 54 [Bm b,.sl 5 (a.map A7)] (fun r=>.tup [.sl 1 (r.1.map Ap),aI r.2]):=by unfold Td;exact CI.w [] Tryz.func54
instance zgo {n b a}:CI E0 (Ib n b a) false 20 [Bm b,.sl 5 (a.map A7)] (fun r=>.tup [aI r.1,Ap r.2.1,.agg [.sl 1 (List.map (fun q=>AV.sl 3 (List.map A4 q)) (r.2.2.1.fSets))],aI r.2.2.2]):=by unfold Ib;exact CI.w [] Tryz.func20
theorem z0h {n e d r}(b:Wp n e d=some r):Con E0 true 5 [Bm e,.sl 5 (d.map A7)] (.bool (r)):=by
 unfold Wp at b;refine cw Tryz.func5 ?_;repeat' first
  |refine AW.jI b (fun v b=>?_) fun b=>?_
  |refine AW.regO b fun b=>?_
  |refine AW.stepU [5] ?_;conv=>whnf
  |refine A9.o b (fun b=>?_) fun b=>?_
  |refine A9.t ?_
  |refine A9.f ?_
  |refine Ad.I b fun a b=>?_
  |exact ⟨_,b,LeX.a []⟩
  |refine AndA ?_
  |refine EqX.A ?_
  |exact RetX.oB b
end
section
variable {α:Type} {c:α->α->Int}
theorem TO.asym (h:TO c){a b:α}(k:c a b<0):¬c b a<0:=by have:=h.neg a b;omega
theorem TO.lt_ne (h:TO c){a b:α}(k:c a b<0):a≠b:=fun e=>by subst e;exact h.irr _ k
def Str (c:α->α->Int)(l:List α):Prop:=l.Pairwise (fun x y=>c x y<0)
theorem Str.uniq (h:TO c):∀ {l m:List α},Str c l->Str c m->(∀ x,x∈l ↔ x∈m)->l=m
 |[],[],_,_,_=>rfl
 |[],y::m,_,_,hm=>by have:=(hm y).2 (by simp);simp at this
 |x::l,[],_,_,hm=>by have:=(hm x).1 (by simp);simp at this
 |x::l,y::m,h1,i,hm=>by
  obtain ⟨g,k⟩:=pairwise_cons.1 h1;obtain ⟨f,j⟩:=pairwise_cons.1 i;have b:x=y:=by
   rcases mem_cons.1 ((hm x).1 (by simp)) with e|e
   ·exact e
   ·rcases mem_cons.1 ((hm y).2 (by simp)) with d|d
    ·exact d.symm
    ·exact absurd (g y d) (h.asym (f x e))
  subst b;congr 1;refine Str.uniq h k j (fun z=>⟨fun a=>?_,fun a=>?_⟩)
  ·rcases mem_cons.1 ((hm z).1 (mem_cons_of_mem _ a)) with e|e
   ·exact absurd e.symm (h.lt_ne (g z a))
   ·exact e
  ·rcases mem_cons.1 ((hm z).2 (mem_cons_of_mem _ a)) with e|e
   ·exact absurd e.symm (h.lt_ne (f z a))
   ·exact e
def insU (c:α->α->Int)(x:α):List α->List α
 |[]=>[x]
 |y::l=>if c y x<0 then y::insU c x l else if c y x=0 then y::l else x::y::l
theorem Wd (h:TO c)(x z:α):∀ l:List α,z∈insU c x l ↔ z=x\/z∈l
 |[]=>by simp [insU]
 |y::l=>by
  unfold insU;split
  ·simp only [mem_cons,Wd h x z l];constructor
   ·rintro (h|h|h)<;>simp [h]
   ·rintro (h|h|h)<;>simp [h]
  ·split
   ·rename_i e;have:=(h.zero _ _).1 e;subst this;simp only [mem_cons];constructor
    ·intro k;exact Or.inr k
    ·rintro (k|k)
     ·exact Or.inl k
     ·exact k
   ·simp only [mem_cons]
theorem zr7 (h:TO c)(x:α):∀ l:List α,Str c l->Str c (insU c x l)
 |[],_=>by simp [insU,Str]
 |y::l,b=>by
  obtain ⟨h1,f⟩:=pairwise_cons.1 b;unfold insU;split
  ·rename_i k;refine pairwise_cons.2 ⟨fun z a=>?_,zr7 h x l f⟩;rcases (Wd h x z l).1 a with e|e
   ·rw [e];exact k
   ·exact h1 z e
  ·split
   ·exact b
   ·rename_i i g;have d:c x y<0:=by have:=h.neg y x;have:=h.one y x;omega
    refine pairwise_cons.2 ⟨fun z a=>?_,b⟩;rcases mem_cons.1 a with e|e
    ·rw [e];exact d
    ·exact h.trans _ _ _ d (h1 z e)
theorem Nb (c:α->α->Int)(x:α):∀ l:List α,(insU c x l).length<=l.length+1
 |[]=>by simp [insU]
 |y::l=>by
  unfold insU;have:=Nb c x l;split
  ·simp only [length_cons];omega
  ·split<;>simp only [length_cons]<;>omega
theorem zll (c:α->α->Int)(x:α):∀ l:List α,l.length<=(insU c x l).length
 |[]=>by simp [insU]
 |y::l=>by
  unfold insU;have:=zll c x l;split
  ·simp only [length_cons];omega
  ·split<;>simp only [length_cons]<;>omega
def puts (c:α->α->Int)(s:List α)(l:List α):List α:=l.foldl (fun s x=>insU c x s) s
def setL (c:α->α->Int)(l:List α):List α:=puts c [] l
theorem Hh (s:List α)(x:α)(l:List α):puts c s (x::l)=puts c (insU c x s) l:=rfl
theorem Vv (s l m:List α):puts c s (l++m)=puts c (puts c s l) m:=by simp [puts,foldl_append]
theorem J6 (h:TO c)(z:α):∀ (l s:List α),z∈puts c s l ↔ z∈s\/z∈l
 |[],s=>by simp [puts]
 |x::l,s=>by
  rw [Hh,J6 h z l,Wd h];simp only [mem_cons];constructor
  ·rintro ((k|k)|k)<;>simp [k]
  ·rintro (k|k|k)<;>simp [k]
theorem Yx (h:TO c):∀ (l s:List α),Str c s->Str c (puts c s l)
 |[],_,a=>a
 |x::l,s,a=>by rw [Hh];exact Yx h l _ (zr7 h x s a)
theorem Yy:∀ (l s:List α),(puts c s l).length<=s.length+l.length
 |[],s=>by simp [puts]
 |x::l,s=>by
  rw [Hh];have:=Yy l (insU c x s);have:=Nb c x s;simp only [length_cons];omega
theorem zk7:∀ (l s:List α),s.length<=(puts c s l).length
 |[],s=>by simp [puts]
 |x::l,s=>by
  rw [Hh];have:=zk7 l (insU c x s);have:=zll c x s;omega
theorem F9 (h:TO c)(z:α)(l:List α):z∈setL c l ↔ z∈l:=by unfold setL;rw [J6 h];simp
theorem N8 (h:TO c)(l:List α):Str c (setL c l):=Yx h l [] (by simp [Str])
theorem zh7 (l:List α):(setL c l).length<=l.length:=by have:=Yy (c:=c) l [];simpa [setL] using this
theorem y10 (h:TO c){l m:List α}(hm:∀ x,x∈l ↔ x∈m):setL c l=setL c m:=Str.uniq h (N8 h l) (N8 h m) (fun x=>by rw [F9 h,F9 h,hm])
variable [DecidableEq α]
def ddA (p:α):List α->List α
 |[]=>[]
 |y::l=>if y=p then ddA p l else y::ddA y l
def dd:List α->List α |[]=>[] |x::l=>x::ddA x l
theorem zht (p z:α):∀ l:List α,ddA p (l++[z])=ddA p l++(if z=(p::l).getLast (by simp) then [] else [z])
 |[]=>by by_cases h:z=p<;>simp [ddA,h]
 |y::l=>by
  have e:(p::y::l).getLast (by simp)=(y::l).getLast (by simp):=by rw [getLast_cons (by simp)]
  simp only [cons_append,ddA];rw [e];by_cases h:y=p
  ·subst h;rw [if_pos rfl,if_pos rfl,zht y z l]
  ·rw [if_neg h,if_neg h,zht y z l];rfl
theorem Ja (l:List α)(z:α)(h:l≠[]):dd (l++[z])=dd l++(if z=l.getLast h then [] else [z]):=by
 cases l with
 |nil=>exact absurd rfl h
 |cons x l =>
  show x::ddA x (l++[z])=_;rw [zht];rfl
theorem zox (x:α):∀ (l:List α) (p:α),x∈ddA p l\/x=p ↔ x∈l\/x=p
 |[],p=>by simp [ddA]
 |y::l,p=>by
  unfold ddA;split
  ·rename_i h;subst h;rw [zox x l y];simp only [mem_cons];constructor
   ·rintro (k|k)<;>simp [k]
   ·rintro ((k|k)|k)<;>simp [k]
  ·have:=zox x l y;simp only [mem_cons];constructor
   ·rintro ((k|k)|k)
    ·exact Or.inl (Or.inl k)
    ·rcases this.1 (Or.inl k) with q|q
     ·exact Or.inl (Or.inr q)
     ·exact Or.inl (Or.inl q)
    ·exact Or.inr k
   ·rintro ((k|k)|k)
    ·exact Or.inl (Or.inl k)
    ·rcases this.2 (Or.inl k) with q|q
     ·exact Or.inl (Or.inr q)
     ·exact Or.inl (Or.inl q)
    ·exact Or.inr k
theorem y50 (x:α)(l:List α):x∈dd l ↔ x∈l:=by
 cases l with
 |nil=>simp [dd]
 |cons y l =>
  simp only [dd,mem_cons];have:=zox x l y;constructor
  ·rintro (k|k)
   ·exact Or.inl k
   ·rcases this.1 (Or.inl k) with q|q
    ·exact Or.inr q
    ·exact Or.inl q
  ·rintro (k|k)
   ·exact Or.inl k
   ·rcases this.2 (Or.inl k) with q|q
    ·exact Or.inr q
    ·exact Or.inl q
theorem zow (h:TO c):∀ (l:List α) (p:α),(p::l).Pairwise (fun x y=>ltOf c y x=false)->Str c (p::ddA p l)
 |[],p,_=>by simp [ddA,Str]
 |y::l,p,i=>by
  obtain ⟨h1,g⟩:=pairwise_cons.1 i;have d:∀ z,z∈y::l->¬c z p<0:=fun z a=>of_decide_eq_false (h1 z a)
  unfold ddA;split
  ·rename_i e;refine zow h l p (pairwise_cons.2 ⟨fun z a=>h1 z (mem_cons_of_mem _ a),(pairwise_cons.1 g).2⟩)
  ·rename_i e;have f:=zow h l y g;have b:c p y<0:=by
    rcases h.tri p y with k|k|k
    ·exact k
    ·exact absurd k.symm e
    ·exact absurd k (d y (by simp))
   refine pairwise_cons.2 ⟨fun z a=>?_,f⟩;rcases mem_cons.1 a with k|k
   ·rw [k];exact b
   ·exact h.trans _ _ _ b ((pairwise_cons.1 f).1 z k)
theorem zwc (h:TO c)(l:List α):dd (Ep c l)=setL c l:=by
 have a:=z81 h.swo l;refine Str.uniq h ?_ (N8 h l) (fun x=>by rw [y50,F9 h];exact (Mz c l).mem_iff);cases b:Ep c l with
 |nil=>simp [dd,Str]
 |cons x q=>rw [b] at a;exact zow h q x a
end
abbrev Va:=Aa
abbrev Ev:=A8
abbrev Exn:=Ay
abbrev be:ByteArray:=ByteArray.empty
abbrev va0:Va:=⟨0,0,ByteArray.empty⟩
def vcP (v:Va):Int :=
 if v.fKind<0 then 1 else if 2<v.fKind then 1 else if v.fKind=2 then (if v.fNum=0 then (if 64<v.fText.size then 13 else 0) else 3) else
 if v.fText=be then (if v.fKind=1 then (if v.fNum<0 then 2 else if 1<v.fNum then 2 else 0) else if v.fNum < -1099511627776 then 2 else if 1099511627776<v.fNum then 2 else 0) else 3
theorem zya (n:Nat)(v:Va):Gy n v=some (vcP v):=by
 unfold Gy vcP;simp only [A5,Al,N5];grind
theorem zpm {α a:Type}(p:Prop)[Decidable p](x y:Option α)(k:α->Option a):bnd (if p then x else y) k=if p then bnd x k else bnd y k:=by split<;>rfl
theorem p_vc (n:Nat)(v:Va):H8 n v=some (vcP v):=by
 obtain ⟨k,x,t⟩:=v;unfold H8 Mu vcP;simp only [A5,Al,N5];by_cases f:k=0
 ·subst f;by_cases a:t=be
  ·subst a;have b:be.size=0:=rfl;simp [b,A3,zpm];grind
  ·simp [a]
 ·by_cases e:k=1
  ·subst e;by_cases a:t=be
   ·subst a;have b:be.size=0:=rfl;simp [b,A3,zpm];grind
   ·simp [a]
  ·by_cases d:k=2
   ·subst d;simp [A3,zpm];grind
   grind
theorem y3d (x y:Va):(decide (x.fKind=y.fKind) && (decide (x.fNum=y.fNum) && ((x.fText.toList == y.fText.toList) && true)))=decide (x=y):=by
 cases x;cases y;simp [N5]
theorem Z9 (x:Va):(decide (x.fKind=0) && (decide (x.fNum=0) && ((x.fText.toList == ByteArray.empty.toList) && true)))=decide (x=va0):=y3d x va0
def arP (op:Int):Int:=if op<0 then -1 else if 12<op then -1 else if op<5 then 0 else if op=12 then 1 else 2
theorem zye (n:Nat)(op:Int):Tz n op=some (arP op):=by
 unfold Tz arP;simp only [B3,Am,Fp,Ef,A5,Au,decide_eq_true_eq];by_cases h1:op<0
 ·simp [h1,show op≠0 by omega,show op≠1 by omega,show op≠2 by omega,show op≠3 by omega,show op≠4 by omega,show op≠5 by omega,show op≠6 by omega,show op≠7 by omega,show op≠8 by omega,show op≠9 by omega,show op≠10 by omega,show op≠11 by omega,show op≠12 by omega]
 ·by_cases a:12<op
  ·simp [h1,a,show op≠0 by omega,show op≠1 by omega,show op≠2 by omega,show op≠3 by omega,show op≠4 by omega,show op≠5 by omega,show op≠6 by omega,show op≠7 by omega,show op≠8 by omega,show op≠9 by omega,show op≠10 by omega,show op≠11 by omega,show op≠12 by omega]
  ·have:op=0\/op=1\/op=2\/op=3\/op=4\/op=5\/op=6\/op=7\/op=8\/op=9\/op=10\/op=11\/op=12:=by omega
   rcases this with rfl|rfl|rfl|rfl|rfl|rfl|rfl|rfl|rfl|rfl|rfl|rfl|rfl<;>rfl
theorem y1t (n:Nat)(op:Int):Vt n op=some (if op<0 then (0,false) else if 12<op then (0,false) else (arP op,true)):=by
 unfold Vt arP;simp only [B3,Am,Ml,A5,Au,decide_eq_true_eq,if_true];grind
def usV (op:Int):Bool:=decide (op=1) || decide (op=2) || decide (op=3) || decide (op=4)
def usF (op:Int):Bool:=decide (op=1) || decide (op=4)
theorem zue (n:Nat)(op:Int):Qq n op=some (usV op,usF op):=by
 unfold Qq;simp only [B3,Am,Kr,I5,A5,Au,decide_eq_true_eq,if_true];by_cases h1:op=1
 ·subst h1;rfl
 ·by_cases d:op=2
  ·subst d;rfl
  ·by_cases b:op=3
   ·subst b;rfl
   ·by_cases a:op=4
    ·subst a;rfl
    ·simp [usV,usF,h1,d,b,a]
theorem zzy (n:Nat)(op:Int):Rv n op=some (usV op,usF op):=by
 unfold Rv;simp only [B3,Am,Mq,Mo,A5,Au,decide_eq_true_eq,if_true];by_cases h1:op=1
 ·subst h1;rfl
 ·by_cases d:op=2
  ·subst d;rfl
  ·by_cases b:op=3
   ·subst b;rfl
   ·by_cases a:op=4
    ·subst a;rfl
    ·simp [usV,usF,h1,d,b,a]
def suP (k:Int)(v:Va):Bool:=decide (v.fKind=0) || decide (k=4) || decide (k=5)
theorem y1d (n:Nat)(k:Int)(v:Va):Vs n k v=some (suP k v):=by
 unfold Vs;simp only [B3,Am,J1,A5];by_cases h1:v.fKind=0
 ·simp [suP,h1]
 ·by_cases a:k=4
  ·simp [suP,h1,a]
  ·simp [suP,h1,a]
theorem zhd (n:Nat)(k:Int)(v:Va):Lq n k v=some (decide (k=0) || suP k v):=by
 unfold Lq;simp only [B3,Am,Gk,A5];by_cases h1:v.fKind=0
 ·simp [suP,h1]
 ·by_cases b:k=4
  ·by_cases a:k=0
   ·simp [suP,h1,b,a]
   ·simp [suP,h1,b]
  ·by_cases a:k=0
   ·simp [suP,h1,b,a]
   ·simp [suP,h1,b,a]
def ndP (e:Exn):Int :=
 if arP e.fOp<0 then 1 else if (e.fArgs.length:Int)≠arP e.fOp then 15 else
 if (usV e.fOp && (decide (e.fVar<0) || decide (16<=e.fVar))) || (usF e.fOp && (decide (e.fField<0) || decide (8<=e.fField))) then 2 else
 if decide (e.fOp=4) && (decide (e.fKind<1) || decide (5<e.fKind)) then 1 else
 if (decide (e.fOp=4) || decide (e.fOp=0)) && !decide (vcP e.fValue=0) then vcP e.fValue else
 if decide (e.fOp=4) && (!(suP e.fKind e.fValue) || (decide (e.fKind=1) && !decide (e.fValue=va0))) then 9 else
 if (!(usV e.fOp) && !decide (e.fVar=0)) || (!(usF e.fOp) && !decide (e.fField=0)) || (!decide (e.fOp=4) && !decide (e.fKind=0)) || (!(decide (e.fOp=4) || decide (e.fOp=0)) && !decide (e.fValue=va0)) then 3 else 0
theorem zrw (op:Int)(h:¬arP op<0):op=0\/op=1\/op=2\/op=3\/op=4\/(usV op=false/\usF op=false/\op≠0/\op≠4):=by
 unfold arP at h;by_cases d:op=0
 ·exact Or.inl d
 by_cases h1:op=1
 ·exact Or.inr (Or.inl h1)
 by_cases b:op=2
 ·exact Or.inr (Or.inr (Or.inl b))
 by_cases e:op=3
 ·omega
 by_cases a:op=4
 ·omega
 exact Or.inr (Or.inr (Or.inr (Or.inr (Or.inr ⟨by simp [usV,h1,b,e,a],by simp [usF,h1,a],d,a⟩))))
theorem us0:usV 0=false/\usF 0=false:=by decide
theorem us1:usV 1=true/\usF 1=true:=by decide
theorem us2:usV 2=true/\usF 2=false:=by decide
theorem us3:usV 3=true/\usF 3=false:=by decide
theorem us4:usV 4=true/\usF 4=true:=by decide
theorem y1f (n:Nat)(e:Exn):U6 n e=some (ndP e):=by
 unfold U6;rw [zye,A3,zue];simp only [A3,length_map,A5,Al,zya,zhd,B3,Am,E1,I6,Kt,Ks,Gs,C9,Z9];unfold ndP;by_cases a:arP e.fOp<0
 ·rw [if_pos a,if_pos a]
 rw [if_neg a,if_neg a];by_cases b:(e.fArgs.length:Int)=arP e.fOp;rotate_left
 ·rw [if_neg b,if_pos b]
 rw [if_pos b,if_neg (show ¬((e.fArgs.length:Int)≠arP e.fOp) from fun h=>h b)];have d:=zrw e.fOp a;obtain ⟨op,args,var,field,kind,val⟩:=e;simp only at *;clear b a;rcases d with rfl|rfl|rfl|rfl|rfl|⟨h1,i,g,f⟩
 ·simp [us0,Au];grind
 ·simp [us1,Au];grind
 ·simp [us2,Au];grind
 ·simp [us3,Au];grind
 ·simp [us4,Au];grind
 ·simp [h1,i,g,f,Au];grind
end Go.Proofs.YtidhlpjgifoneaaGreat
