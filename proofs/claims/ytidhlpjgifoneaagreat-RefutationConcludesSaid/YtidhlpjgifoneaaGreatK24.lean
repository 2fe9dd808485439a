/- What some functions compute, over plain values. -/
import Derived.Test.YtidhlpjgifoneaaGreatK23
set_option linter.unusedVariables false
set_option linter.unusedSimpArgs false
set_option maxRecDepth 100000
set_option maxHeartbeats 8000000
namespace Go.Proofs.YtidhlpjgifoneaaGreat
open Go.RowKit List
noncomputable section
abbrev z82 {n b a c}:=li (Qk n b a c) (fun d=>⟨[(0,.sl 11 (a.map Bc)),(1,.fn 142 [.ref (Vw b)]),(7,aI (((a.map Bc).length:Int))),(8,aI d)],[]⟩) fun _ _=>Qk.eq_2 ..
abbrev z8m {n a f b c d}:=jf (Ip n a f b c d) (fun e=>⟨[(1,.sl 11 (a.map Bc)),(2,.ptr 2 0),(5,aI b),(6,.ptr 6 0),(11,.sl 11 (a.map Bc)),(12,aI (((a.map Bc).length:Int))),(13,aI b),(18,.bool (e))],[(2,.box 25 (Ba f)),(6,.box 154 (Vw d))]⟩) fun _=>Ip.eq_1 ..
abbrev z8l {n a d b}:=li (G1 n a d b) (fun c=>⟨[(1,.sl 11 (a.map Bc)),(2,.ptr 2 0),(11,.sl 11 (a.map Bc)),(12,aI (((a.map Bc).length:Int))),(13,aI c)],[(2,.box 25 (Ba d))]⟩) fun _ _=>G1.eq_2 ..
abbrev z7s {n a b}:=li (Qb n a b) (fun c=>⟨[(3,.row 7016),(6,.sl 2 (a.map Cc)),(7,aI (((a.map Cc).length:Int))),(8,aI c.1)],[(7016,.row 3 1 (c.2.map aI))]⟩) fun _ _=>Qb.eq_2 ..
abbrev zb2 {n d a b}:=li (R8 n d a b) (fun c=>⟨[(0,.sl 1 (a.map aI)),(1,aI d),(7,aI (((a.map aI).length:Int))),(8,aI c)],[]⟩) fun _ _=>R8.eq_2 ..
abbrev z8j {n a f c b d}:=li (Gz n a f c b d) (fun e=>⟨[(2,.ptr 2 0),(6,.sl 1 (b.map aI)),(9,.sl 1 (List.map (fun q=>AV.sl 1 (List.map aI q)) (a))),(10,aI ((((List.map (fun q=>AV.sl 1 (List.map aI q)) (a)).length:Nat):Int))),(11,aI c),(15,.sl 1 (b.map aI)),(16,aI (((b.map aI).length:Int))),(17,aI e)],[(2,.box 25 (Ba f))]⟩) fun _ _=>Gz.eq_2 ..
abbrev z8k {n a d b}:=li (Io n a d b) (fun c=>⟨[(2,.ptr 2 0),(9,.sl 1 (List.map (fun q=>AV.sl 1 (List.map aI q)) (a))),(10,aI ((((List.map (fun q=>AV.sl 1 (List.map aI q)) (a)).length:Nat):Int))),(11,aI c)],[(2,.box 25 (Ba d))]⟩) fun _ _=>Io.eq_2 ..
abbrev z8n {n}:=jf (Lt n) (fun b=>⟨[(2,.bool (b))],[]⟩) fun _=>Lt.eq_1 ..
abbrev z3g {n a b}:=li (Oo n a b) (fun c=>⟨[(0,.sl 2 (a.map Cc)),(1,.fn 147 []),(7,aI (((a.map Cc).length:Int))),(8,aI c)],[]⟩) fun _ _=>Oo.eq_2 ..
attribute [instance] z82 z8m z8l z7s zb2 z8j z8k z8n z3g
instance zjn {n b a}:CI E0 (Qy n b a) true 142 [Bc b,.ref (Vw a)] (fun r=>.bool (r)):=by unfold Qy;exact CI.w [] Tryz.func142
instance zn6 {n a b}:CI E0 (Uv n a b) true 181 [.sl 11 (a.map Bc),.fn 142 [.ref (Vw b)]] aI:=by unfold Uv;exact CI.w [] Tryz.func181
instance zij {n a b}:CI E0 (Qm n a b) true 141 [.sl 11 (a.map Bc),.fn 142 [.ref (Vw b)]] (fun r=>.bool (r)):=by unfold Qm;exact CI.w [] Tryz.func141
instance znc {n d c}:CI E0 (Uz n d c) true 104 [Bm d,.sl 11 (c.map Bc)] aI:=⟨fun {r} b=>by
 unfold Uz at b;refine cw Tryz.func104 ?_;repeat' first
  |refine AW.jI b (fun v b=>?_) fun b=>?_
  |refine AW.regO b fun b=>?_
  |refine AW.stepU [6] ?_;conv=>whnf
  |refine A9.o b (fun b=>?_) fun b=>?_
  |refine A9.t ?_
  |refine IdxX.A b fun x b=>?_
  |refine SlsX.o Bc b (fun l b=>?_)
  |refine B7.I b (fun a b=>?_) rfl rfl fun _=>Or.inr rfl
  |refine Ad.I b fun a b=>?_
  |exact ⟨_,b,LeX.a []⟩
  |refine Ax.I b (LeX.a []) fun m v b=>?_
  |exact RetX.oB b⟩
instance zml {n b}:CI E0 (R2 n b) false 145 [.sl 2 (b.map Cc)] (fun r=>.sl 1 (r.map aI)):=⟨fun {r} a=>by
 unfold R2 at a;refine cw Tryz.func145 ?_;repeat' first
  |refine AW.step ?_;conv=>whnf
  |refine A9.o a (fun a=>?_) fun a=>?_
  |refine IdxX.A a fun x a=>?_
  |refine AppX.oA a fun l a=>?_
  |exact ⟨_,a,LeX.a [(7016,16)]⟩
  |refine Ax.I a ?_ fun m v a=>?_
  |exact LeX.trans (LeX.adopt 3 7016 3 1 rfl rfl) (LeX.a [])
  |exact RetX.oB a⟩
instance zt5 {n b a}:CI E0 (Y1 n b a) true 212 [.sl 1 (b.map aI),aI a] aI:=by unfold Y1;exact CI.w [] Tryz.func212
instance zoy {n b a}:CI E0 (H7 n b a) true 184 [.sl 1 (b.map aI),aI a] (fun r=>.bool (r)):=by unfold H7;exact CI.w [] Tryz.func184
instance znb {n d c}:CI E0 (Uy n d c) true 144 [Bm d,.sl 1 (List.map (fun q=>AV.sl 1 (List.map aI q)) (c))] aI:=⟨fun {r} b=>by
 unfold Uy at b;refine cw Tryz.func144 ?_;repeat' first
  |refine AW.step ?_;conv=>whnf
  |refine A9.o b (fun b=>?_) fun b=>?_
  |refine IdxX.o (fun q=>AV.sl 1 (List.map aI q)) b fun x b=>?_
  |exact ⟨_,b,LeX.a []⟩
  |refine IdxX.A b fun x b=>?_
  |refine Ad.I b fun a b=>?_
  |refine SlsX.o aI b (fun l b=>?_)
  |refine Ax.I b (LeX.a []) fun m v b=>?_
  |exact RetX.oB b⟩
instance znd {n a}:CI E0 (M6 n a) true 147 [Cc a] (fun r=>.bool (r)):=by unfold M6;exact CI.w [1] Tryz.func147
instance zh0 {n a}:CI E0 (Tq n a) true 185 [.sl 2 (a.map Cc),.fn 147 []] aI:=by unfold Tq;exact CI.w [] Tryz.func185
instance zdx {n a}:CI E0 (Oq n a) true 146 [.sl 2 (a.map Cc),.fn 147 []] (fun r=>.bool (r)):=by unfold Oq;exact CI.w [] Tryz.func146
end
noncomputable section
abbrev zae {n a d b}:=li (R3 n a d b) (fun c=>⟨[(3,.ptr 3 0),(4,.ptr 4 0),(63,.sl 8 (a.fChecks.map idA)),(64,aI (((a.fChecks.map idA).length:Int))),(65,aI c)],[(3,.box 25 (Ba d)),(4,.box 115 (C6 a))]⟩) fun _ _=>R3.eq_2 ..
abbrev zaf {n a c d}:=jf (E4 n a c d) (fun b=>⟨[(2,aI a),(3,.ptr 3 0),(4,.ptr 4 0),(12,.bool (b))],[(3,.box 25 (Ba d)),(4,.box 115 (C6 c))]⟩) fun _=>E4.eq_1 ..
abbrev z9j {n a b}:=li (Qz n a b) (fun c=>⟨[(1,.ptr 1 0),(6,aI c.1),(62,.sl 17 (a.fEdges.map B5)),(63,aI (((a.fEdges.map B5).length:Int))),(64,aI c.2)],[(1,.box 25 (Ba a))]⟩) fun _ _=>Qz.eq_2 ..
abbrev z9k {n a b}:=li (R0 n a b) (fun c=>⟨[(1,.ptr 1 0),(47,.sl 1 (a.fStates.map Bb)),(48,aI (((a.fStates.map Bb).length:Int))),(49,aI c)],[(1,.box 25 (Ba a))]⟩) fun _ _=>R0.eq_2 ..
abbrev z9l {n a}:=jf (G2 n a) (fun b=>⟨[(1,.ptr 1 0),(29,.bool (b))],[(1,.box 25 (Ba a))]⟩) fun _=>G2.eq_1 ..
abbrev z9m {n a}:=jf (Ey n a) (fun b=>⟨[(1,.ptr 1 0),(10,.bool (b))],[(1,.box 25 (Ba a))]⟩) fun _=>Ey.eq_1 ..
abbrev z61 {n}:=jf (I7 n) (fun b=>⟨[(2,.bool (b))],[]⟩) fun _=>I7.eq_1 ..
abbrev z4m {n}:=jf (Gl n) (fun b=>⟨[(58,.bool (b))],[]⟩) fun _=>Gl.eq_1 ..
abbrev z4l {n}:=jf (Ke n) (fun b=>⟨[(70,.bool (b))],[]⟩) fun _=>Ke.eq_1 ..
abbrev z4n {n a}:=jf (Kf n a) (fun b=>⟨[(1,.ptr 1 0),(23,.bool (b))],[(1,.box 313 (V1 a))]⟩) fun _=>Kf.eq_1 ..
abbrev z4o {n a}:=jf (Kg n a) (fun b=>⟨[(1,.ptr 1 0),(15,.bool (b))],[(1,.box 313 (V1 a))]⟩) fun _=>Kg.eq_1 ..
abbrev z7d {n a}:=jt (Ij n a) (fun b=>⟨[(4,.ptr 4 0),(8,.ptr 8 0)],[(4,.box 313 [aI 0,aI 0,aI 0,aI 0,.str (ByteArray.empty)]),(8,.box 313 [aI a.fKind,aI ((IntKind.wrap .i64 (a.fCount+1))),aI b.1,aI b.2.1,.str (b.2.2)])]⟩) fun _=>Ij.eq_1 ..
abbrev z3d {n a c}:=jf (K3 n a c) (fun b=>⟨[(2,.ptr 2 0),(3,.ptr 3 0),(4,.ptr 4 0),(35,.bool (b))],[(2,.box 313 (V1 c)),(3,.box 109 (Cd a)),(4,.box 109 [aI 0,aI 0,.str (ByteArray.empty)])]⟩) fun _=>K3.eq_1 ..
abbrev z80 {n a d c}:=li (Qg n a d c) (fun b=>⟨[(1,.sl 3 (d.map Af)),(5,.ptr 5 0),(6,.ptr 6 0),(8,.ptr 8 0),(9,aI b.1)],[(5,.box 109 (Cd a)),(6,.box 109 [aI 0,aI 0,.str (ByteArray.empty)]),(8,.box 313 [aI b.2.1,aI b.2.2.1,aI b.2.2.2.1,aI b.2.2.2.2.1,.str (b.2.2.2.2.2)])]⟩) fun _ _=>Qg.eq_2 ..
attribute [instance] zae zaf z9j z9k z9l z9m z61 z4m z4l z4n z4o z7d z3d z80
instance zrp {n e d c}:CI E0 (V9 n e d c) true 105 [Bm e,B5 d,aI c] aI:=⟨fun {r} b=>by
 unfold V9 at b;refine cw Tryz.func105 ?_;repeat' first
  |refine AW.jI b (fun v b=>?_) fun b=>?_
  |refine AW.regO b fun b=>?_
  |refine AW.stepU [1] ?_;conv=>whnf
  |refine A9.o b (fun b=>?_) fun b=>?_
  |refine A9.t ?_
  |refine Ad.I b fun a b=>?_
  |refine IdxX.oD b D6 (fun x b=>?_)
  |exact ⟨_,b,LeX.a []⟩
  |refine Ax.I b (LeX.a []) fun m v b=>?_
  |refine AndA ?_
  |exact RetX.oB b⟩
instance zpb {n a}:CI E0 (Md n a) true 69 [Bm a] aI:=by unfold Md;exact CI.w [1,3] Tryz.func69
instance zji {n a}:CI E0 (Qs n a) true 273 [aI a] (fun r=>.bool (r)):=by unfold Qs;exact CI.w [1] Tryz.func273
instance zie {n a}:CI E0 (Qh n a) true 277 [E5 a] aI:=by unfold Qh;exact CI.w [3,5,11,14] Tryz.func277
instance zic {n b a}:CI E0 (Qf n b a) true 278 [aI b,Af a] aI:=by unfold Qf;exact CI.w [] Tryz.func278
instance zf7 {n c b a}:CI E0 (Te n c b a) true 279 [aI c,Af b,Af a] Af:=by unfold Te;exact CI.w [] Tryz.func279
instance zm5 {n b a}:CI E0 (Ug n b a) true 274 [E5 b,Af a] (fun r=>.tup [E5 r.1,aI r.2]):=by unfold Ug;exact CI.w [10,12] Tryz.func274
instance zgw {n b a}:CI E0 (Q7 n b a) true 275 [E5 b,Af a] (fun r=>.tup [Af r.1,aI r.2]):=by unfold Q7;exact CI.w [9] Tryz.func275
end
noncomputable section
abbrev z3c {n a c}:=jf (K2 n a c) (fun b=>⟨[(1,aI a),(2,.ptr 2 0),(13,.bool (b))],[(2,.box 220 (Dj c))]⟩) fun _=>K2.eq_1 ..
abbrev z5t {n d a b}:=li (Pp n d a b) (fun c=>⟨[(4,.ptr 4 0),(8,.ptr 8 0),(10,.row 7063),(11,.sl 5 (a.map A7)),(12,aI c.1)],[(4,.box 111 (Cm d)),(8,.box 109 [aI 0,aI 0,.str (ByteArray.empty)]),(7063,.row 109 3 (c.2.map Af))]⟩) fun _ _=>Pp.eq_2 ..
abbrev z1l {n}:=jt (Hq n) (fun b=>⟨[(9,.bool (b))],[]⟩) fun _=>Hq.eq_1 ..
abbrev z1m {n a}:=jt (Gb n a) (fun b=>⟨[(3,aI a),(4,.bool (b))],[]⟩) fun _=>Gb.eq_1 ..
abbrev z1k {n a e b c}:=jf (Fj n a e b c) (fun d=>⟨[(0,aI e),(1,.sl 1 (a.map aI)),(5,aI b),(38,.bool (d))],[]⟩) fun _=>Fj.eq_1 ..
abbrev z1j {n a d b}:=li (Ew n a d b) (fun c=>⟨[(0,aI d),(1,.sl 1 (a.map aI)),(5,aI c)],[]⟩) fun _ _=>Ew.eq_2 ..
abbrev z4f {n}:=jf (Kb n) (fun b=>⟨[(4,.ptr 4 0)],[(4,.box 109 [aI b.1,aI b.2.1,.str (b.2.2)])]⟩) fun _=>Kb.eq_1 ..
abbrev z4e {n}:=jf (Ka n) (fun b=>⟨[(4,.ptr 4 0)],[(4,.box 109 [aI b.1,aI b.2.1,.str (b.2.2)])]⟩) fun _=>Ka.eq_1 ..
abbrev z60 {n b a e f g d}:=li (Pq n b a e f g d) (fun c=>⟨[(2,aI e),(4,.ptr 4 0),(5,.ptr 5 0),(7,.ptr 7 0),(8,.ptr 8 0),(10,.row 7053),(11,.row 7058),(12,aI c.1)],[(4,.box 111 (Cm g)),(5,.box 220 (Dj f)),(7,.box 71 (Bu a)),(8,.box 109 [aI 0,aI 0,.str (ByteArray.empty)]),(7053,.row 109 3 (c.2.1.map Af)),(7058,.row 3 1 (c.2.2.map aI))]⟩) fun _ _=>Pq.eq_2 ..
abbrev z4g {n}:=jf (Kc n) (fun b=>⟨[(8,.bool (b))],[]⟩) fun _=>Kc.eq_1 ..
attribute [instance] z3c z5t z1l z1m z1k z1j z4f z4e z60 z4g
instance zn5 {n c b a}:CI E0 (R5 n c b a) true 266 [aI c,.sl 3 (b.map Af),Af a] (fun r=>.tup [Af r.1,aI r.2]):=by unfold R5;exact CI.w [] Tryz.func266
instance zgv {n c b}:CI E0 (Ld n c b) false 265 [Di c,aI b] (fun r=>.sl 5 (r.map A7)):=⟨fun {r} a=>by
 unfold Ld at a;refine cw Tryz.func265 ?_;repeat' first
  |refine AW.jI a (fun v a=>?_) fun a=>?_
  |refine AW.regO a fun a=>?_
  |refine AW.stepU [1] ?_;conv=>whnf
  |refine A9.o a (fun a=>?_) fun a=>?_
  |refine IdxX.o (fun q=>AV.sl 5 (List.map A7 q)) a fun x a=>?_
  |exact ⟨_,a,LeX.a []⟩
  |exact RetX.oB a⟩
instance zje {n d c b a}:CI E0 (Xl n d c b a) false 267 [Di d,aI c,aI b,A7 a] (fun r=>.tup [A7 r.1,.bool (r.2)]):=by unfold Xl;exact CI.w [] Tryz.func267
instance zjc {n f e d c}:CI E0 (Qr n f e d c) true 248 [Ar f,Di e,aI d,A7 c] (fun r=>.tup [Af r.1,aI r.2]):=⟨fun {r} b=>by
 unfold Qr at b;refine cw Tryz.func248 ?_;repeat' first
  |refine AW.step ?_;conv=>whnf
  |refine A9.o b (fun b=>?_) fun b=>?_
  |refine Ad.I b fun a b=>?_
  |refine B7.I b (fun a b=>?_) rfl rfl fun _=>Or.inr rfl
  |refine IdxX.A b fun x b=>?_
  |refine AppX.oA b fun l b=>?_
  |exact ⟨_,b,LeX.a [(7063,63)]⟩
  |refine Ax.I b ?_ fun m v b=>?_
  |exact LeX.trans (LeX.adopt 10 7063 109 3 rfl rfl) (LeX.a [])
  |refine AndA ?_
  |exact RetX.oB b⟩
instance zef {n a}:CI E0 (Ta n a) true 268 [aI a] aI:=by unfold Ta;exact CI.w [2,3,4,7,8] Tryz.func268
instance zee {n b a}:CI E0 (Ww n b a) true 249 [aI b,.sl 1 (a.map aI)] aI:=by unfold Ww;exact CI.w [5] Tryz.func249
instance zjg {n a}:CI E0 (Dp n a) true 68 [.bool (a)] Af:=by unfold Dp;exact CI.w [] Tryz.func68
instance zi7 {n b a}:CI E0 (Lp n b a) true 250 [aI b,.sl 3 (a.map Af)] Af:=by unfold Lp;exact CI.w [13,15] Tryz.func250
def z9q (r:Aa×Int):AV:=.tup [.agg [aI (r.1.fKind),aI (r.1.fNum),.str (r.1.fText)],aI (r.2)]
theorem z59 {n f e d c r}(b:H0 n f e d c=some r):Con E0 true 228 [Ar f,Di e,aI d,A7 c] (.tup [Af r.1,aI r.2]):=by
 induction n generalizing f e d c r
 case zero=>cases b
 case succ n g =>
 unfold H0 at b;refine cw Tryz.func228 ?_;repeat' first
  |refine AW.step ?_;conv=>whnf
  |refine A9.o b (fun b=>?_) fun b=>?_
  |refine Ad.I b fun a b=>?_
  |refine B7.I b (fun a b=>?_) rfl rfl fun _=>Or.inr rfl
  |refine IdxX.oD b D6 (fun x b=>?_)
  |refine Ad.o b z9q (fun a h=>g h) (fun a b=>?_)
  |refine AppX.oA b fun l b=>?_
  |exact ⟨_,b,LeX.a [(7053,53),(7058,58)]⟩
  |refine Ax.I b ?_ fun m v b=>?_
  |exact LeX.trans (LeX.adopt 10 7053 109 3 rfl rfl) (LeX.trans (LeX.adopt 11 7058 3 1 rfl rfl) (LeX.a []))
  |refine AndA ?_
  |exact RetX.oB b
instance zjf {n d c b a}:CI E0 (H0 n d c b a) true 228 [Ar d,Di c,aI b,A7 a] (fun r=>.tup [Af r.1,aI r.2]):=⟨z59⟩
instance zjh {n d c b a}:CI E0 (Xm n d c b a) true 197 [Ar d,Di c,aI b,A7 a] (fun r=>.tup [Af r.1,aI r.2]):=by unfold Xm;exact CI.w [] Tryz.func197
end
noncomputable section
abbrev z29 {n a f b c d}:=jf (Js n a f b c d) (fun e=>⟨[(2,.ptr 2 0),(3,.ptr 3 0),(5,aI b),(18,.bool (e))],[(2,.box 44 (G5 f)),(3,.box 44 (G5 a))]⟩) fun _=>Js.eq_1 ..
abbrev z28 {n a d b}:=li (Hu n a d b) (fun c=>⟨[(2,.ptr 2 0),(3,.ptr 3 0),(5,aI c)],[(2,.box 44 (G5 d)),(3,.box 44 (G5 a))]⟩) fun _ _=>Hu.eq_2 ..
abbrev z26 {n a g b c d e}:=jf (Ht n a g b c d e) (fun f=>⟨[(2,.ptr 2 0),(3,.ptr 3 0),(6,aI b),(7,.ptr 7 0),(8,.ptr 8 0),(71,.bool (f))],[(2,.box 60 (Bi g)),(3,.box 60 (Bi a)),(7,.box 102 (zad d)),(8,.box 102 (zad e))]⟩) fun _=>Ht.eq_1 ..
abbrev z27 {n a f b c d}:=jf (Jr n a f b c d) (fun e=>⟨[(2,.ptr 2 0),(3,.ptr 3 0),(6,aI b),(40,.bool (e))],[(2,.box 60 (Bi f)),(3,.box 60 (Bi a))]⟩) fun _=>Jr.eq_1 ..
abbrev z24 {n a d b}:=li (Hs n a d b) (fun c=>⟨[(2,.ptr 2 0),(3,.ptr 3 0),(6,aI c)],[(2,.box 60 (Bi d)),(3,.box 60 (Bi a))]⟩) fun _ _=>Hs.eq_2 ..
abbrev z6u {n a d b}:=jf (L6 n a d b) (fun c=>⟨[(0,.sl 3 (d.map A4)),(3,.ptr 3 0),(5,aI b),(34,.bool (c))],[(3,.box 60 (Bi a))]⟩) fun _=>L6.eq_1 ..
abbrev z6t {n a f b c d}:=jf (L5 n a f b c d) (fun e=>⟨[(0,.sl 3 (f.map A4)),(3,.ptr 3 0),(5,aI b),(19,.bool (e))],[(3,.box 60 (Bi a))]⟩) fun _=>L5.eq_1 ..
abbrev z6s {n a d b}:=li (Ic n a d b) (fun c=>⟨[(0,.sl 3 (d.map A4)),(3,.ptr 3 0),(5,aI c)],[(3,.box 60 (Bi a))]⟩) fun _ _=>Ic.eq_2 ..
abbrev z9o {n}:=jf (Iu n) (fun b=>⟨[(2,.bool (b))],[]⟩) fun _=>Iu.eq_1 ..
abbrev z9n {n}:=jf (H3 n) (fun b=>⟨[(4,.bool (b))],[]⟩) fun _=>H3.eq_1 ..
attribute [instance] z29 z28 z26 z27 z24 z6u z6t z6s z9o z9n
instance zi8 {n d c b a}:CI E0 (Fw n d c b a) true 170 [Ar d,Di c,aI b,A7 a] (fun r=>.bool (r)):=by unfold Fw;exact CI.w [2] Tryz.func170
instance zif {n b a}:CI E0 (Qi n b a) true 90 [Bf b,Bf a] aI:=by unfold Qi;exact CI.w [] Tryz.func90
instance zi2 {n b a}:CI E0 (Tx n b a) true 55 [Aq b,Aq a] aI:=by unfold Tx;exact CI.w [] Tryz.func55
instance zf6 {n b a}:CI E0 (Fu n b a) true 21 [Ap b,Ap a] aI:=by unfold Fu;exact CI.w [2] Tryz.func21
instance zf5 {n b a}:CI E0 (Km n b a) true 29 [A4 b,A4 a] aI:=by unfold Km;exact CI.w [9,12] Tryz.func29
instance zlx {n d c}:CI E0 (Lz n d c) false 103 [.sl 3 (d.map A4),A4 c] (fun r=>.sl 3 (r.map A4)):=⟨fun {r} b=>by
 unfold Lz at b;refine cw Tryz.func103 ?_;repeat' first
  |refine AW.jI b (fun v b=>?_) fun b=>?_
  |refine AW.regO b fun b=>?_
  |refine AW.stepU [2,4] ?_;conv=>whnf
  |refine A9.o b (fun b=>?_) fun b=>?_
  |refine SlsX.o A4 b (fun l b=>?_)
  |refine AppX.oA0 b fun l b=>?_
  |refine AppX.oA b fun l b=>?_
  |refine IdxX.A b fun x b=>?_
  |refine Ad.I b fun a b=>?_
  |exact ⟨_,b,LeX.a []⟩
  |refine Ax.I b (LeX.a []) fun m v b=>?_
  |refine AndA ?_
  |exact RetX.oB b⟩
instance zpf {n a}:CI E0 (Rg n a) true 280 [aI a] (fun r=>.bool (r)):=by unfold Rg;exact CI.w [1] Tryz.func280
instance zpe {n b a}:CI E0 (Re n b a) true 287 [aI b,Af a] (fun r=>.bool (r)):=by unfold Re;exact CI.w [1] Tryz.func287
instance zpc {n b a}:CI E0 (Me n b a) true 281 [aI b,Af a] aI:=by unfold Me;exact CI.w [] Tryz.func281
instance zne {n b a}:CI E0 (Xt n b a) true 285 [aI b,Af a] Af:=by unfold Xt;exact CI.w [] Tryz.func285
instance zir {n}:CI E0 (Xi n) true 290 [] Af:=by unfold Xi;exact CI.w [] Tryz.func290
def z98 (b:Aa)(a:Aa):List (Nat×Ent):=[(100000,.box 109 (Cd b)),(100001,.box 109 (Cd a))]
def X8 (r:Aa×Aa×Aa):List (Nat×Ent):=[(2,.box 109 (Cd r.1)),(100000,.box 109 (Cd r.2.1)),(100001,.box 109 (Cd r.2.2))]
def z0e (r:Aa×Aa×Aa):AV:=.agg [aI (r.1.fKind),aI (r.1.fNum),.str (r.1.fText)]
def z8x (r:Aa×Aa×Aa):AS:=⟨[(2,.ptr 2 0),(0,.ptr 100000 0),(1,.ptr 100001 0)],X8 r⟩
end
noncomputable section
abbrev z8o {n c a d}:=li (Qp n c a d) (fun b=>⟨[(2,.fn 283 [.ref [aI c]]),(3,.ptr 3 0),(6,.ptr 6 0),(9,.sl 3 (a.map Af)),(10,aI (((a.map Af).length:Int))),(11,aI b.1)],[(3,.box 313 [aI b.2.1,aI b.2.2.1,aI b.2.2.2.1,aI b.2.2.2.2.1,.str (b.2.2.2.2.2)]),(6,.box 313 [aI 0,aI 0,aI 0,aI 0,.str (ByteArray.empty)])]⟩) fun _ _=>Qp.eq_2 ..
abbrev z9p {n a}:=jf (Ly n a) (fun b=>⟨[(1,.ptr 1 0),(10,.bool (b))],[(1,.box 313 (V1 a))]⟩) fun _=>Ly.eq_1 ..
abbrev z8p {n a c}:=jf (Lu n a c) (fun b=>⟨[(2,.ptr 2 0),(3,.ptr 3 0),(4,.ptr 4 0),(29,.bool (b))],[(2,.box 313 (V1 c)),(3,.box 109 (Cd a)),(4,.box 109 [aI 0,aI 0,.str (ByteArray.empty)])]⟩) fun _=>Lu.eq_1 ..
abbrev zbe {n d a e b}:=li (Rh n d a e b) (fun c=>⟨[(1,.sl 3 (a.map Af)),(3,.ptr 3 0),(5,.ptr 5 0),(6,.ptr 6 0),(22,.sl 3 (a.map Af)),(23,aI (((a.map Af).length:Int))),(24,aI c)],[(3,.box 3 [aI e]),(5,.box 109 (Cd d)),(6,.box 109 [aI 0,aI 0,.str (ByteArray.empty)])]⟩) fun _ _=>Rh.eq_2 ..
attribute [instance] z8o z9p z8p zbe
theorem z6h {n b a r}(c:Xh n b a=some r):ConG E0.P none (CalF E0.P 291 0) [.ptr 100000 0,.ptr 100001 0] [] (z98 b a) (z0e r) (X8 r):=by
 unfold Xh at c;refine ConG.walk (E:=(E0p 2)) (caps:=[]) _ Tryz.func291 rfl rfl rfl rfl rfl ?_;repeat' first
  |refine AW.step ?_;conv=>whnf
  |exact GX.A (res:=z0e) (meF:=X8) c z8x
def z97 (b:Aa)(a:Aa):List (Nat×Ent):=[(100000,.box 109 (Cd b)),(100001,.box 109 (Cd a))]
def X7 (r:Aa×Aa×Aa):List (Nat×Ent):=[(2,.box 109 (Cd r.1)),(100000,.box 109 (Cd r.2.1)),(100001,.box 109 (Cd r.2.2))]
def z0d (r:Aa×Aa×Aa):AV:=.agg [aI (r.1.fKind),aI (r.1.fNum),.str (r.1.fText)]
def z8w (r:Aa×Aa×Aa):AS:=⟨[(2,.ptr 2 0),(0,.ptr 100000 0),(1,.ptr 100001 0)],X7 r⟩
theorem z6g {n b a r}(c:Xg n b a=some r):ConG E0.P none (CalF E0.P 292 0) [.ptr 100000 0,.ptr 100001 0] [] (z97 b a) (z0d r) (X7 r):=by
 unfold Xg at c;refine ConG.walk (E:=(E0p 2)) (caps:=[]) _ Tryz.func292 rfl rfl rfl rfl rfl ?_;repeat' first
  |refine AW.step ?_;conv=>whnf
  |exact GX.A (res:=z0d) (meF:=X7) c z8w
def z96 (b:Aa)(a:Aa):List (Nat×Ent):=[(100000,.box 109 (Cd b)),(100001,.box 109 (Cd a))]
def X6 (r:Aa×Aa×Aa):List (Nat×Ent):=[(2,.box 109 (Cd r.1)),(100000,.box 109 (Cd r.2.1)),(100001,.box 109 (Cd r.2.2))]
def z0c (r:Aa×Aa×Aa):AV:=.agg [aI (r.1.fKind),aI (r.1.fNum),.str (r.1.fText)]
def z8u (r:Aa×Aa×Aa):AS:=⟨[(2,.ptr 2 0),(0,.ptr 100000 0),(1,.ptr 100001 0)],X6 r⟩
theorem z6f {n b a r}(c:Xf n b a=some r):ConG E0.P none (CalF E0.P 293 0) [.ptr 100000 0,.ptr 100001 0] [] (z96 b a) (z0c r) (X6 r):=by
 unfold Xf at c;refine ConG.walk (E:=(E0p 2)) (caps:=[]) _ Tryz.func293 rfl rfl rfl rfl rfl ?_;repeat' first
  |refine AW.step ?_;conv=>whnf
  |exact GX.A (res:=z0c) (meF:=X6) c z8u
def z95 (a:Aa):List (Nat×Ent):=[(100000,.box 109 (Cd a))]
def X5 (r:Aa×Aa):List (Nat×Ent):=[(1,.box 109 (Cd r.1)),(100000,.box 109 (Cd r.2))]
def z0b (r:Aa×Aa):AV:=.agg [aI (r.1.fKind),aI (r.1.fNum),.str (r.1.fText)]
def z8t (r:Aa×Aa):AS:=⟨[(1,.ptr 1 0),(0,.ptr 100000 0)],X5 r⟩
theorem z6e {n a r}(b:Xe n a=some r):ConG E0.P none (CalF E0.P 294 0) [.ptr 100000 0] [] (z95 a) (z0b r) (X5 r):=by
 unfold Xe at b;refine ConG.walk (E:=(E0p 1)) (caps:=[]) _ Tryz.func294 rfl rfl rfl rfl rfl ?_;repeat' first
  |refine AW.step ?_;conv=>whnf
  |exact GX.A (res:=z0b) (meF:=X5) b z8t
def z94 (a:Aa):List (Nat×Ent):=[(100000,.box 109 (Cd a))]
def X4 (r:Aa×Aa):List (Nat×Ent):=[(1,.box 109 (Cd r.1)),(100000,.box 109 (Cd r.2))]
def z0a (r:Aa×Aa):AV:=.agg [aI (r.1.fKind),aI (r.1.fNum),.str (r.1.fText)]
def z8s (r:Aa×Aa):AS:=⟨[(1,.ptr 1 0),(0,.ptr 100000 0)],X4 r⟩
theorem z6d {n a r}(b:Xd n a=some r):ConG E0.P none (CalF E0.P 295 0) [.ptr 100000 0] [] (z94 a) (z0a r) (X4 r):=by
 unfold Xd at b;refine ConG.walk (E:=(E0p 1)) (caps:=[]) _ Tryz.func295 rfl rfl rfl rfl rfl ?_;repeat' first
  |refine AW.step ?_;conv=>whnf
  |exact GX.A (res:=z0a) (meF:=X4) b z8s
instance zmm {n e d c}:CI E0 (Ut n e d c) true 288 [aI e,Af d,Af c] Af:=⟨fun {r} b=>by
 unfold Ut at b;refine cw Tryz.func288 ?_;repeat' first
  |refine AW.step ?_;conv=>whnf
  |refine NatX.oS b rfl (fun b=>?_) (fun b=>?_)
  |(cases b;done)
  |refine Ad.I b fun a b=>?_
  |refine B7.oM (Bj 15 b) [(100000,4),(100001,5)] [(2,16000000),(100000,4),(100001,5)] _ _ X8 z0e [] (fun a h=>ConG.up (z6h h)) (Aw Tryz.func291 rfl rfl) rfl rfl rfl ⟨⟨rfl,rfl⟩,⟨⟨rfl,rfl⟩,trivial⟩⟩ (fun a=>⟨rfl,rfl,rfl,rfl,rfl,rfl,rfl,rfl⟩) (fun a b=>?_)
  |refine B7.oM (Bj 15 b) [(100000,4),(100001,5)] [(2,16000000),(100000,4),(100001,5)] _ _ X7 z0d [] (fun a h=>ConG.up (z6g h)) (Aw Tryz.func292 rfl rfl) rfl rfl rfl ⟨⟨rfl,rfl⟩,⟨⟨rfl,rfl⟩,trivial⟩⟩ (fun a=>⟨rfl,rfl,rfl,rfl,rfl,rfl,rfl,rfl⟩) (fun a b=>?_)
  |refine B7.oM (Bj 15 b) [(100000,4),(100001,5)] [(2,16000000),(100000,4),(100001,5)] _ _ X6 z0c [] (fun a h=>ConG.up (z6f h)) (Aw Tryz.func293 rfl rfl) rfl rfl rfl ⟨⟨rfl,rfl⟩,⟨⟨rfl,rfl⟩,trivial⟩⟩ (fun a=>⟨rfl,rfl,rfl,rfl,rfl,rfl,rfl,rfl⟩) (fun a b=>?_)
  |refine B7.oM (Bj 15 b) [(100000,4)] [(1,16000000),(100000,4)] _ _ X5 z0b [] (fun a h=>ConG.up (z6e h)) (Aw Tryz.func294 rfl rfl) rfl rfl rfl ⟨⟨rfl,rfl⟩,trivial⟩ (fun a=>⟨rfl,rfl,rfl,rfl,rfl,rfl,rfl,rfl⟩) (fun a b=>?_)
  |refine B7.oM (Bj 15 b) [(100000,5)] [(1,16000000),(100000,5)] _ _ X4 z0a [] (fun a h=>ConG.up (z6d h)) (Aw Tryz.func295 rfl rfl) rfl rfl rfl ⟨⟨rfl,rfl⟩,trivial⟩ (fun a=>⟨rfl,rfl,rfl,rfl,rfl,rfl,rfl,rfl⟩) (fun a b=>?_)
  |exact RetX.oB b⟩
instance znf {n b a}:CI E0 (Xu n b a) true 284 [E5 b,E5 a] E5:=by unfold Xu;exact CI.w [] Tryz.func284
instance zrq {n c b a}:CI E0 (Xx n c b a) true 283 [E5 c,Af b,.ref [aI a]] E5:=by unfold Xx;exact CI.w [] Tryz.func283
instance zng {n c a b}:CI E0 (V0 n c a b) true 282 [E5 c,.sl 3 (a.map Af),.fn 283 [.ref [aI b]]] E5:=by unfold V0;exact CI.w [] Tryz.func282
instance zpg {n a}:CI E0 (V7 n a) true 289 [E5 a] aI:=by unfold V7;exact CI.w [3,7,9,11,6] Tryz.func289
instance znh {n b a}:CI E0 (R6 n b a) true 286 [E5 b,Af a] (fun r=>.tup [Af r.1,aI r.2]):=by unfold R6;exact CI.w [9] Tryz.func286
instance zta {n e d c}:CI E0 (Rs n e d c) true 276 [aI e,.sl 3 (d.map Af),Af c] (fun r=>.tup [Af r.1,aI r.2]):=⟨fun {r} b=>by
 unfold Rs at b;refine cw Tryz.func276 ?_;repeat' first
  |refine AW.step ?_;conv=>whnf
  |refine A9.o b (fun b=>?_) fun b=>?_
  |refine Ad.I b fun a b=>?_
  |refine B7.I b (fun a b=>?_) rfl rfl fun _=>Or.inr rfl
  |refine IdxX.A b fun x b=>?_
  |exact ⟨_,b,LeX.a []⟩
  |refine Ax.I b (LeX.a []) fun m v b=>?_
  |exact RetX.oB b⟩
instance zzl {n a}:CI E0 (Vz n a) true 176 [aI a] (fun r=>.bool (r)):=by unfold Vz;exact CI.w [] Tryz.func176
instance zwj {n b a}:CI E0 (D0 n b a) true 135 [aI b,aI a] aI:=by unfold D0;exact CI.w [] Tryz.func135
end
noncomputable section
abbrev zph {n a b}:=li (Rw n a b) (fun c=>⟨[(3,aI 0),(6,.sl 1 (a.map aI)),(7,aI (((a.map aI).length:Int))),(8,aI c)],[]⟩) fun _ _=>Rw.eq_2 ..
abbrev z62 {n d a b}:=li (Pr n d a b) (fun c=>⟨[(0,.sl 4 (a.map Aq)),(1,.sl 4 (d.map Aq)),(2,.fn 132 []),(11,.sl 4 (a.map Aq)),(12,aI (((a.map Aq).length:Int))),(13,aI c)],[]⟩) fun _ _=>Pr.eq_2 ..
abbrev z1n {n d a b}:=li (O1 n d a b) (fun c=>⟨[(0,.sl 2 (a.map Ae)),(1,.sl 2 (d.map Ae)),(2,.fn 165 []),(11,.sl 2 (a.map Ae)),(12,aI (((a.map Ae).length:Int))),(13,aI c)],[]⟩) fun _ _=>O1.eq_2 ..
abbrev zce {n}:=jf (F4 n) (fun b=>⟨[(2,.bool (b))],[]⟩) fun _=>F4.eq_1 ..
abbrev z3e {n b a c}:=li (Ol n b a c) (fun d=>⟨[(0,.sl 4 (a.map Aq)),(1,.fn 155 [.ref (Bu b)]),(7,aI (((a.map Aq).length:Int))),(8,aI d)],[]⟩) fun _ _=>Ol.eq_2 ..
abbrev z3f {n b a c}:=li (Om n b a c) (fun d=>⟨[(0,.sl 3 (a.map A4)),(1,.fn 118 [.ref (Bu b)]),(7,aI (((a.map A4).length:Int))),(8,aI d)],[]⟩) fun _ _=>Om.eq_2 ..
attribute [instance] zph z62 z1n zce z3e z3f
instance y39 {n a}:CI E0 (Ek n a) true 133 [.sl 1 (a.map aI)] aI:=by unfold Ek;exact CI.w [] Tryz.func133
instance zxi {n b a}:CI E0 (Vr n b a) true 134 [Bf b,Bf a] aI:=by unfold Vr;exact CI.w [] Tryz.func134
instance zp6 {n b a}:CI E0 (V6 n b a) true 132 [Aq b,Aq a] aI:=by unfold V6;exact CI.w [] Tryz.func132
instance zjl {n b a}:CI E0 (U7 n b a) true 131 [.sl 4 (b.map Aq),.sl 4 (a.map Aq),.fn 132 []] aI:=by unfold U7;exact CI.w [] Tryz.func131
instance zsu {n b a}:CI E0 (Rl n b a) true 92 [Ap b,Ap a] aI:=by unfold Rl;exact CI.w [] Tryz.func92
instance zst {n b a}:CI E0 (Ve n b a) true 165 [Ae b,Ae a] aI:=by unfold Ve;exact CI.w [] Tryz.func165
instance zeg {n b a}:CI E0 (Tb n b a) true 164 [.sl 2 (b.map Ae),.sl 2 (a.map Ae),.fn 165 []] aI:=by unfold Tb;exact CI.w [] Tryz.func164
instance zwf {n b a}:CI E0 (Vi n b a) true 122 [A4 b,A4 a] aI:=by unfold Vi;exact CI.w [] Tryz.func122
instance zxe {n a}:CI E0 (Vo n a) true 117 [A7 a] (fun r=>.bool (r)):=by unfold Vo;exact CI.w [1] Tryz.func117
instance y2v {n a}:CI E0 (J5 n a) true 115 [A7 a] Bf:=by unfold J5;exact CI.w [] Tryz.func115
instance y0k {n b a}:CI E0 (N1 n b a) true 116 [Bf b,Bf a] aI:=by unfold N1;exact CI.w [] Tryz.func116
instance zxf {n b a}:CI E0 (Mv n b a) true 155 [Aq b,.ref (Bu a)] (fun r=>.bool (r)):=by unfold Mv;exact CI.w [] Tryz.func155
instance zgy {n a b}:CI E0 (Tn n a b) true 186 [.sl 4 (a.map Aq),.fn 155 [.ref (Bu b)]] aI:=by unfold Tn;exact CI.w [] Tryz.func186
instance zdv {n a b}:CI E0 (T5 n a b) true 154 [.sl 4 (a.map Aq),.fn 155 [.ref (Bu b)]] (fun r=>.bool (r)):=by unfold T5;exact CI.w [] Tryz.func154
instance y0l {n d c}:CI E0 (Yi n d c) true 119 [A4 d,A7 c] (fun r=>.bool (r)):=⟨fun {r} b=>by
 unfold Yi at b;refine cw Tryz.func119 ?_;repeat' first
  |refine AW.step ?_;conv=>whnf
  |refine B7.I b (fun a b=>?_) rfl rfl fun _=>Or.inr rfl
  |exact RetX.oB b⟩
instance zxh {n b a}:CI E0 (Mw n b a) true 118 [A4 b,.ref (Bu a)] (fun r=>.bool (r)):=by unfold Mw;exact CI.w [] Tryz.func118
instance zgz {n a b}:CI E0 (Tp n a b) true 59 [.sl 3 (a.map A4),.fn 118 [.ref (Bu b)]] aI:=by unfold Tp;exact CI.w [] Tryz.func59
instance zdw {n a b}:CI E0 (T6 n a b) true 27 [.sl 3 (a.map A4),.fn 118 [.ref (Bu b)]] (fun r=>.bool (r)):=by unfold T6;exact CI.w [] Tryz.func27
instance y0m {n d c}:CI E0 (N2 n d c) true 84 [.sl 3 (d.map A4),A7 c] aI:=⟨fun {r} b=>by
 unfold N2 at b;refine cw Tryz.func84 ?_;repeat' first
  |refine AW.step ?_;conv=>whnf
  |refine A9.o b (fun b=>?_) fun b=>?_
  |refine Ad.I b fun a b=>?_
  |refine B7.I b (fun a b=>?_) rfl rfl fun _=>Or.inr rfl
  |exact RetX.oB b⟩
end
noncomputable section
abbrev z63 {n d c}:=li (Ku n d c) (fun b=>⟨[(0,.row 200000),(1,.fn 163 [.ref [.fn 122 []]]),(5,aI b.1),(6,.der (.sub 3 (d)) 200000),(7,aI b.2.1)],[(200000,.row 60 3 (b.2.2.map A4))]⟩) fun _ _=>Ku.eq_2 ..
abbrev z64 {n a b}:=li (Pu n a b) (fun c=>⟨[(0,.row 200000),(1,.fn 163 [.ref [.fn 122 []]]),(5,aI c)],[(200000,.row 60 3 (a.map A4))]⟩) fun _ _=>Pu.eq_2 ..
abbrev z7c {n}:=jf (Lc n) (fun b=>⟨[(2,.bool (b))],[]⟩) fun _=>Lc.eq_1 ..
abbrev z72 {n a b}:=li (Q5 n a b) (fun c=>⟨[(0,.sl 11 (a.map Bc)),(3,aI c)],[]⟩) fun _ _=>Q5.eq_2 ..
abbrev z78 {n}:=jf (L9 n) (fun b=>⟨[(2,.bool (b))],[]⟩) fun _=>L9.eq_1 ..
abbrev z73 {n a b d c}:=li (Q6 n a b d c) (fun e=>⟨[(1,.ptr 1 0),(4,aI b),(5,.ptr 5 0),(6,aI e)],[(1,.box 25 (Ba a)),(5,.box 115 (C6 d))]⟩) fun _ _=>Q6.eq_2 ..
abbrev z5p {n a b c e}:=jf (Ex n a b c e) (fun d=>⟨[(1,.ptr 1 0),(4,aI b),(5,.ptr 5 0),(105,.bool (d))],[(1,.box 25 (Ba a)),(5,.box 115 (C6 e))]⟩) fun _=>Ex.eq_1 ..
abbrev z5q {n a b c d}:=jf (Kq n a b c d) (fun e=>⟨[(1,.ptr 1 0),(4,aI b),(64,.bool (e))],[(1,.box 25 (Ba a))]⟩) fun _=>Kq.eq_1 ..
abbrev z74 {n a b}:=li (Ig n a b) (fun c=>⟨[(1,.ptr 1 0),(4,aI c)],[(1,.box 25 (Ba a))]⟩) fun _ _=>Ig.eq_2 ..
abbrev z5n {n a b c}:=jf (Ft n a b c) (fun d=>⟨[(1,.ptr 1 0),(3,aI b),(55,.bool (d))],[(1,.box 25 (Ba a))]⟩) fun _=>Ft.eq_1 ..
abbrev z5o {n a b c d}:=jf (Kp n a b c d) (fun e=>⟨[(1,.ptr 1 0),(3,aI b),(15,.bool (e))],[(1,.box 25 (Ba a))]⟩) fun _=>Kp.eq_1 ..
abbrev z75 {n a b}:=li (Ih n a b) (fun c=>⟨[(1,.ptr 1 0),(3,aI c)],[(1,.box 25 (Ba a))]⟩) fun _ _=>Ih.eq_2 ..
abbrev z7f {n a b}:=li (Q9 n a b) (fun c=>⟨[(0,.sl 3 (a.map Af)),(3,aI c)],[]⟩) fun _ _=>Q9.eq_2 ..
abbrev z7e {n a b}:=li (Q8 n a b) (fun c=>⟨[(0,.sl 5 (a.map A7)),(3,aI c)],[]⟩) fun _ _=>Q8.eq_2 ..
abbrev z4q {n a b c}:=li (P9 n a b c) (fun d=>⟨[(0,.sl 5 (a.map A7)),(3,aI b),(4,aI d)],[]⟩) fun _ _=>P9.eq_2 ..
abbrev z4p {n a b c}:=li (P8 n a b c) (fun d=>⟨[(0,.sl 5 (a.map A7)),(3,aI b),(4,aI d)],[]⟩) fun _ _=>P8.eq_2 ..
attribute [instance] z63 z64 z7c z72 z78 z73 z5p z5q z74 z5n z5o z75 z7f z7e z4q z4p
set_option maxHeartbeats 400000 in
theorem zmr (l:List (Cel 3))(S:Nat->Prop)(v:Value)(w:World)(h:Sl w S 3 encC v l)(d:l.length<=1000000000) :
  Calls Tryz.prog 149 #[v] w (Jg 60 3 encC l w):=by
 have eok:EOk Tryz.prog 57 60 3 56 (encC (n:=3)):=eokC (sz:=3) (De 57 _ rfl) rfl (De 60 _ rfl) (by omega) rfl;obtain ⟨A,c,rfl,f,_⟩:=h.form;have a:=fun (W:World)=>Lib.run_eql_slice_nil W 57 60 A l.length c 0 0 Tryz.underlying57
 have H:=hide h;cases A with
 |none =>
  have g:l=[]:=h.none_nil;subst g;clear h H d f;simp only [length_nil,Option.isNone_none] at a ⊢
  go_enter Tryz.func149,Tryz.ntmps149
  go_wp2
  go_ret
  exact ⟨none,0,rfl,Own.nil_,by go_grown⟩
 |some ad =>
  clear h
  go_enter Tryz.func149,Tryz.ntmps149
  go_wp2_with (at_builtin;refine Iy rfl _ _ rfl eok rfl Own.made_ rfl (H.out.alloc _) (by simp;omega) (by omega) (by simp) ?_;intro A' i w1 b e _)
  go_ret
  exact ⟨A',i,rfl,b,(Own.made_ (sz:=3) (enc:=encC (n:=3))).grown ((Below.refl _ _).alloc (Nat.le_refl _) _) (Nat.le_refl _) (by simp) e⟩
theorem ziu {n a r}(b:Ce n a=some r):ConT E0 149 [.sl 3 (List.map A4 a)] 60 3 (List.map A4 r) (.row 0):=N4 rfl (Aw Tryz.func149 rfl rfl) zmr b
instance zp0 {n b a}:CI E0 (Rb n b a) true 163 [A4 b,A4 a,.ref [.fn 122 []]] (fun r=>.bool (r)):=by unfold Rb;exact CI.w [] Tryz.func163
def z9r (a:(List A0)):List (Nat×Ent):=[(200000,.row 60 3 (a.map A4))]
def U1 (r:(List A0)):List (Nat×Ent):=[(260000,.row 60 3 (r.map A4))]
def Xj (r:(List A0)):AV:=.row 260000
def z16 (r:(List A0)):AS:=⟨[(4,.row 260000)],U1 r⟩
theorem z7r {n c r}(b:U8 n c=some r):ConG E0.P none (CalF E0.P 162 0) [.row 200000,.fn 163 [.ref [.fn 122 []]]] [] (z9r c) (Xj r) (U1 r):=by
 unfold U8 at b;refine ConG.walk (E:=(E0p 2)) (caps:=[]) _ Tryz.func162 rfl rfl rfl rfl rfl ?_;repeat' first
  |refine AW.step ?_;conv=>whnf
  |refine A9.o b (fun b=>?_) fun b=>?_
  |exact GX.A (res:=Xj) (meF:=U1) b z16 (h1:=LeX.a [(260000,200000)])
  |refine NatX.o b (fun m b=>?_)
  |refine EltX.o A4 b (fun x b=>?_)
  |refine Ad.I b fun a b=>?_
  |refine OpX.sub b rfl rfl rfl rfl rfl rfl rfl rfl rfl rfl (fun m b=>?_)
  |refine OpX.clr A4 b rfl rfl rfl rfl rfl rfl rfl rfl rfl rfl rfl (by first|exact SubL.refl _|(repeat' first|exact SubL.nil|refine SubL.cons ?_ ?_|exact Sub.refl _|exact Sub.nil _|refine Sub.agg ?_)) (fun l b=>?_)
  |refine SlsX.o A4 b (fun l b=>?_)
  |exact GX.A (res:=Xj) (meF:=U1) b z16 (h1:=LeX.a [(260000,64)])
  |refine OpX.lns b rfl rfl rfl rfl rfl rfl rfl (fun b=>?_)
  |refine OpX.ixs b rfl rfl rfl rfl rfl rfl rfl rfl rfl rfl (fun m b=>?_)
  |refine SetX.o A4 b (fun x=>rfl) (fun x=>(by first|exact SubL.refl _|(repeat' first|exact SubL.nil|refine SubL.cons ?_ ?_|exact Sub.refl _|exact Sub.nil _|refine Sub.agg ?_))) (fun l b=>?_)
  |exact ⟨_,b,LeX.a []⟩
  |refine Ax.I b (LeX.a []) fun m v b=>?_
  |refine AndA ?_
  |refine EqX.A ?_
def zn3 (a:(List A0)):List (Nat×Ent):=[(200000,.row 60 3 (a.map A4))]
def Vn (r:(List A0)):List (Nat×Ent):=[(260000,.row 60 3 (r.map A4))]
def Y5 (r:(List A0)):AV:=.row 260000
def zn0 (r:(List A0)):AS:=⟨[(4,.row 260000)],Vn r⟩
theorem z9w {n c r}(b:Ru n c=some r):ConG E0.P none (CalF E0.P 121 0) [.row 200000,.fn 122 []] [] (zn3 c) (Y5 r) (Vn r):=by
 unfold Ru at b;refine ConG.walk (E:=(E0p 2)) (caps:=[]) _ Tryz.func121 rfl rfl rfl rfl rfl ?_;repeat' first
  |refine AW.frbO b 3 rfl rfl (fun b=>?_)
  |refine AW.regO b fun b=>?_
  |refine AW.stepU [2] ?_;conv=>whnf
  |refine B7.oI b 200000 (fun r=>r) A4 (fun _=>AV.tup []) rfl (fun a h=>(ConC.env rfl (zs1 h))) rfl rfl rfl (fun a b=>?_)
  |refine B7.oM (Bj 10 b) [(200000,200000)] [(260000,11000000)] _ _ U1 Xj [200000] (fun a h=>ConG.up (z7r h)) (Aw Tryz.func162 rfl rfl) rfl rfl rfl ⟨⟨rfl,rfl⟩,trivial⟩ (fun a=>⟨rfl,rfl,rfl,rfl,rfl,rfl,rfl,rfl⟩) (fun a b=>?_)
  |exact GX.A (res:=Y5) (meF:=Vn) b zn0 (h1:=LeX.a [(260000,11000000)])
instance y0o {n c}:CI E0 (zbm n c) false 109 [.sl 3 (c.map A4)] (fun r=>.tup [.sl 3 (r.1.map A4),aI r.2]):=⟨fun {r} b=>by
 unfold zbm at b;refine cw Tryz.func109 ?_;repeat' first
  |refine AW.step ?_;conv=>whnf
  |refine A9.o b (fun b=>?_) fun b=>?_
  |refine Ad.oR b (fun r=>r) A4 (fun _=>AV.row 0) rfl (fun a h=>ziu h) (fun a b=>?_)
  |refine B7.oM (Bj 7 b) [(200000,6)] [(260000,8000000)] _ _ Vn Y5 [6] (fun a h=>ConG.up (z9w h)) (Aw Tryz.func121 rfl rfl) rfl rfl rfl ⟨⟨rfl,rfl⟩,trivial⟩ (fun a=>⟨rfl,rfl,rfl,rfl,rfl,rfl,rfl,rfl⟩) (fun a b=>?_)
  |exact RetX.oB b⟩
instance zm4 {n a}:CI E0 (M3 n a) true 61 [Ar a] (fun r=>.bool (r)):=by unfold M3;exact CI.w [1] Tryz.func61
instance zm1 {n a}:CI E0 (Ue n a) true 60 [.sl 11 (a.map Bc)] (fun r=>.bool (r)):=by unfold Ue;exact CI.w [] Tryz.func60
instance zm2 {n c}:CI E0 (Uf n c) true 30 [Bm c] (fun r=>.bool (r)):=⟨fun {r} b=>by
 unfold Uf at b;refine cw Tryz.func30 ?_;repeat' first
  |refine AW.jI b (fun v b=>?_) fun b=>?_
  |refine AW.regO b fun b=>?_
  |refine AW.stepU [2,4,7,10,17] ?_;conv=>whnf
  |refine A9.o b (fun b=>?_) fun b=>?_
  |refine A9.t ?_
  |refine A9.f ?_
  |exact ⟨_,b,LeX.a []⟩
  |refine IdxX.A b fun x b=>?_
  |refine IdxX.oD b D6 (fun x b=>?_)
  |refine Ad.I b fun a b=>?_
  |refine Ax.I b (LeX.a []) fun m v b=>?_
  |exact RetX.oB b⟩
instance zm8 {n a}:CI E0 (Ui n a) true 62 [.sl 3 (a.map Af)] (fun r=>.bool (r)):=by unfold Ui;exact CI.w [] Tryz.func62
instance zm7 {n a}:CI E0 (Uh n a) true 31 [.sl 5 (a.map A7)] (fun r=>.bool (r)):=by unfold Uh;exact CI.w [] Tryz.func31
instance zgx {n a}:CI E0 (Tm n a) true 100 [A7 a] (fun r=>.bool (r)):=by unfold Tm;exact CI.w [] Tryz.func100
instance zm6 {n a}:CI E0 (M4 n a) true 101 [A7 a] Bf:=by unfold M4;exact CI.w [] Tryz.func101
instance zjj {n b a}:CI E0 (Qt n b a) true 102 [A7 b,A7 a] (fun r=>.bool (r)):=by unfold Qt;exact CI.w [] Tryz.func102
end
end Go.Proofs.YtidhlpjgifoneaaGreat
