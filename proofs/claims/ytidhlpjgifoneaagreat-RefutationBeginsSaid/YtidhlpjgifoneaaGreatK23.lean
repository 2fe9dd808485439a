/- What some functions compute, over plain values. -/
import Derived.Test.YtidhlpjgifoneaaGreatK22
import Derived.Test.YtidhlpjgifoneaaGreatK21
set_option linter.unusedVariables false
set_option linter.unusedSimpArgs false
set_option maxRecDepth 100000
set_option maxHeartbeats 8000000
namespace Go.Proofs.YtidhlpjgifoneaaGreat
open Go.RowKit List
noncomputable section
abbrev yb0 {n a0 b}:=li (zhw n a0 b) (fun c=>⟨[(3,aI 0),(6,.sl 1 (a0.map aI)),(7,aI (((a0.map aI).length:Int))),(8,aI c)],[]⟩) fun _ _=>zhw.eq_2 ..
abbrev znm {n a1 a0 b}:=li (z8f n a1 a0 b) (fun c=>⟨[(0,.sl 4 (a0.map z0b)),(1,.sl 4 (a1.map z0b)),(2,.fn 132 []),(11,.sl 4 (a0.map z0b)),(12,aI (((a0.map z0b).length:Int))),(13,aI c)],[]⟩) fun _ _=>z8f.eq_2 ..
abbrev zj0 {n a1 a0 b}:=li (z4x n a1 a0 b) (fun c=>⟨[(0,.sl 2 (a0.map z09)),(1,.sl 2 (a1.map z09)),(2,.fn 165 []),(11,.sl 2 (a0.map z09)),(12,aI (((a0.map z09).length:Int))),(13,aI c)],[]⟩) fun _ _=>z4x.eq_2 ..
abbrev zx5 {n}:=jf (z7z n) (fun b=>⟨[(2,.bool (b))],[]⟩) fun _=>z7z.eq_1 ..
abbrev zkz {n b a0 c}:=li (z6a n b a0 c) (fun d=>⟨[(0,.sl 4 (a0.map z0b)),(1,.fn 155 [.ref (z16 b)]),(7,aI (((a0.map z0b).length:Int))),(8,aI d)],[]⟩) fun _ _=>z6a.eq_2 ..
abbrev zl0 {n b a0 c}:=li (z6b n b a0 c) (fun d=>⟨[(0,.sl 3 (a0.map z01)),(1,.fn 118 [.ref (z16 b)]),(7,aI (((a0.map z01).length:Int))),(8,aI d)],[]⟩) fun _ _=>z6b.eq_2 ..
attribute [instance] yb0 znm zj0 zx5 zkz zl0
instance yow {n a0}:CI E0 (zgu n a0) true 133 [.sl 1 (a0.map aI)] aI:=by unfold zgu;exact CI.w [] Tryz.func133
instance yj9 {n a0 a1}:CI E0 (zi8 n a0 a1) true 134 [z1c a0,z1c a1] aI:=by unfold zi8;exact CI.w [] Tryz.func134
instance yap {n a0 a1}:CI E0 (zf4 n a0 a1) true 132 [z0b a0,z0b a1] aI:=by unfold zf4;exact CI.w [] Tryz.func132
instance y53 {n a0 a1}:CI E0 (zc3 n a0 a1) true 131 [.sl 4 (a0.map z0b),.sl 4 (a1.map z0b),.fn 132 []] aI:=by unfold zc3;exact CI.w [] Tryz.func131
instance yeu {n a0 a1}:CI E0 (zf5 n a0 a1) true 92 [z0d a0,z0d a1] aI:=by unfold zf5;exact CI.w [] Tryz.func92
instance yet {n a0 a1}:CI E0 (zga n a0 a1) true 165 [z09 a0,z09 a1] aI:=by unfold zga;exact CI.w [] Tryz.func165
instance zza {n a0 a1}:CI E0 (z9x n a0 a1) true 164 [.sl 2 (a0.map z09),.sl 2 (a1.map z09),.fn 165 []] aI:=by unfold z9x;exact CI.w [] Tryz.func164
instance yi8 {n a0 a1}:CI E0 (zhb n a0 a1) true 122 [z01 a0,z01 a1] aI:=by unfold zhb;exact CI.w [] Tryz.func122
instance yj4 {n a0}:CI E0 (zi5 n a0) true 117 [z02 a0] (fun r=>.bool (r)):=by unfold zi5;exact CI.w [1] Tryz.func117
instance yoi {n a0}:CI E0 (zi4 n a0) true 115 [z02 a0] z1c:=by unfold zi4;exact CI.w [] Tryz.func115
instance ym2 {n a0 a1}:CI E0 (zhs n a0 a1) true 116 [z1c a0,z1c a1] aI:=by unfold zhs;exact CI.w [] Tryz.func116
instance yj5 {n a0 a1}:CI E0 (zg8 n a0 a1) true 155 [z0b a0,.ref (z16 a1)] (fun r=>.bool (r)):=by unfold zg8;exact CI.w [] Tryz.func155
instance y1r {n a0 b}:CI E0 (zaw n a0 b) true 186 [.sl 4 (a0.map z0b),.fn 155 [.ref (z16 b)]] aI:=by unfold zaw;exact CI.w [] Tryz.func186
instance zym {n a0 b}:CI E0 (z99 n a0 b) true 154 [.sl 4 (a0.map z0b),.fn 155 [.ref (z16 b)]] (fun r=>.bool (r)):=by unfold z99;exact CI.w [] Tryz.func154
instance ym4 {n a0 a1}:CI E0 (zrg n a0 a1) true 119 [z01 a0,z02 a1] (fun r=>.bool (r)):=⟨fun {r} hF=>by
 unfold zrg at hF
 refine cw Tryz.func119 ?_
 repeat' first
  |refine AW.step ?_;conv=>whnf
  |refine zap.I hF (fun a hF=>?_) rfl rfl fun _=>Or.inr rfl
  |exact RetX.oB hF⟩
instance yj8 {n a0 a1}:CI E0 (zg9 n a0 a1) true 118 [z01 a0,.ref (z16 a1)] (fun r=>.bool (r)):=by unfold zg9;exact CI.w [] Tryz.func118
instance y1s {n a0 b}:CI E0 (zax n a0 b) true 59 [.sl 3 (a0.map z01),.fn 118 [.ref (z16 b)]] aI:=by unfold zax;exact CI.w [] Tryz.func59
instance zyn {n a0 b}:CI E0 (z9a n a0 b) true 27 [.sl 3 (a0.map z01),.fn 118 [.ref (z16 b)]] (fun r=>.bool (r)):=by unfold z9a;exact CI.w [] Tryz.func27
instance ym5 {n a0 a1}:CI E0 (zht n a0 a1) true 84 [.sl 3 (a0.map z01),z02 a1] aI:=⟨fun {r} hF=>by
 unfold zht at hF
 refine cw Tryz.func84 ?_
 repeat' first
  |refine AW.step ?_;conv=>whnf
  |refine z14.o hF (fun hF=>?_) fun hF=>?_
  |refine z1n.I hF fun a hF=>?_
  |refine zap.I hF (fun a hF=>?_) rfl rfl fun _=>Or.inr rfl
  |exact RetX.oB hF⟩
end
noncomputable section
abbrev znn {n d c}:=li (z5x n d c) (fun b=>⟨[(0,.row 200000),(1,.fn 163 [.ref [.fn 122 []]]),(5,aI b.1),(6,.der (.sub 3 (d)) 200000),(7,aI b.2.1)],[(200000,.row 60 3 (b.2.2.map z01))]⟩) fun _ _=>z5x.eq_2 ..
abbrev zno {n m0 b}:=li (z8g n m0 b) (fun c=>⟨[(0,.row 200000),(1,.fn 163 [.ref [.fn 122 []]]),(5,aI c)],[(200000,.row 60 3 (m0.map z01))]⟩) fun _ _=>z8g.eq_2 ..
abbrev zp2 {n}:=jf (z6u n) (fun b=>⟨[(2,.bool (b))],[]⟩) fun _=>z6u.eq_1 ..
abbrev zou {n a0 b}:=li (z8z n a0 b) (fun c=>⟨[(0,.sl 11 (a0.map z0u)),(3,aI c)],[]⟩) fun _ _=>z8z.eq_2 ..
abbrev zoy {n}:=jf (z6r n) (fun b=>⟨[(2,.bool (b))],[]⟩) fun _=>z6r.eq_1 ..
abbrev zov {n a0 b d c}:=li (z90 n a0 b d c) (fun e=>⟨[(1,.ptr 1 0),(4,aI b),(5,.ptr 5 0),(6,aI e)],[(1,.box 25 (z0g a0)),(5,.box 115 (z28 d))]⟩) fun _ _=>z90.eq_2 ..
abbrev zn7 {n a0 b c e}:=jf (z1q n a0 b c e) (fun d=>⟨[(1,.ptr 1 0),(4,aI b),(5,.ptr 5 0),(105,.bool (d))],[(1,.box 25 (z0g a0)),(5,.box 115 (z28 e))]⟩) fun _=>z1q.eq_1 ..
abbrev zn8 {n a0 b c d}:=jf (z5r n a0 b c d) (fun e=>⟨[(1,.ptr 1 0),(4,aI b),(64,.bool (e))],[(1,.box 25 (z0g a0))]⟩) fun _=>z5r.eq_1 ..
abbrev zow {n a0 b}:=li (z4d n a0 b) (fun c=>⟨[(1,.ptr 1 0),(4,aI c)],[(1,.box 25 (z0g a0))]⟩) fun _ _=>z4d.eq_2 ..
abbrev zn5 {n a0 b c}:=jf (z20 n a0 b c) (fun d=>⟨[(1,.ptr 1 0),(3,aI b),(55,.bool (d))],[(1,.box 25 (z0g a0))]⟩) fun _=>z20.eq_1 ..
abbrev zn6 {n a0 b c d}:=jf (z5q n a0 b c d) (fun e=>⟨[(1,.ptr 1 0),(3,aI b),(15,.bool (e))],[(1,.box 25 (z0g a0))]⟩) fun _=>z5q.eq_1 ..
abbrev zox {n a0 b}:=li (z4e n a0 b) (fun c=>⟨[(1,.ptr 1 0),(3,aI c)],[(1,.box 25 (z0g a0))]⟩) fun _ _=>z4e.eq_2 ..
abbrev zp5 {n a0 b}:=li (z93 n a0 b) (fun c=>⟨[(0,.sl 3 (a0.map z08)),(3,aI c)],[]⟩) fun _ _=>z93.eq_2 ..
abbrev zp4 {n a0 b}:=li (z92 n a0 b) (fun c=>⟨[(0,.sl 5 (a0.map z02)),(3,aI c)],[]⟩) fun _ _=>z92.eq_2 ..
abbrev zm6 {n a0 b c}:=li (z7h n a0 b c) (fun d=>⟨[(0,.sl 5 (a0.map z02)),(3,aI b),(4,aI d)],[]⟩) fun _ _=>z7h.eq_2 ..
abbrev zm5 {n a0 b c}:=li (z7g n a0 b c) (fun d=>⟨[(0,.sl 5 (a0.map z02)),(3,aI b),(4,aI d)],[]⟩) fun _ _=>z7g.eq_2 ..
attribute [instance] znn zno zp2 zou zoy zov zn7 zn8 zow zn5 zn6 zox zp5 zp4 zm6 zm5
set_option maxHeartbeats 400000 in
theorem y88 (l:List (Cel 3))(S:Nat->Prop)(v:Value)(w:World)(h:Sl w S 3 encC v l)(hl:l.length<=1000000000) :
  Calls Tryz.prog 149 #[v] w (zvs 60 3 encC l w):=by
 have eok:EOk Tryz.prog 57 60 3 56 (encC (n:=3)):=eokC (sz:=3) (zri 57 _ rfl) rfl (zri 60 _ rfl) (by omega) rfl
 obtain ⟨A,c,rfl,hc,_⟩:=h.form
 have hq:=fun (W:World)=>Lib.run_eql_slice_nil W 57 60 A l.length c 0 0 Tryz.underlying57
 have H:=hide h
 cases A with
 |none =>
  have h0:l=[]:=h.none_nil
  subst h0
  clear h H hl hc
  simp only [length_nil,Option.isNone_none] at hq ⊢
  go_enter Tryz.func149,Tryz.ntmps149
  go_wp2
  go_ret
  exact ⟨none,0,rfl,Own.nil_,by go_grown⟩
 |some ad =>
  clear h
  go_enter Tryz.func149,Tryz.ntmps149
  go_wp2_with (at_builtin;refine zan rfl _ _ rfl eok rfl Own.made_ rfl (H.out.alloc _) (by simp;omega) (by omega) (by simp) ?_;intro A' c' w1 ho hg _)
  go_ret
  exact ⟨A',c',rfl,ho,(Own.made_ (sz:=3) (enc:=encC (n:=3))).grown ((Below.refl _ _).alloc (Nat.le_refl _) _) (Nat.le_refl _) (by simp) hg⟩
theorem y44 {n a r}(hF:zao n a=some r):ConT E0 149 [.sl 3 (List.map z01 a)] 60 3 (List.map z01 r) (.row 0):=zjd rfl (z0y Tryz.func149 rfl rfl) y88 hF
instance yai {n a0 a1}:CI E0 (zcn n a0 a1) true 163 [z01 a0,z01 a1,.ref [.fn 122 []]] (fun r=>.bool (r)):=by unfold zcn;exact CI.w [] Tryz.func163
def zs2 (m0:(List z00)):List (Nat×Ent):=[(200000,.row 60 3 (m0.map z01))]
def zbu (r:(List z00)):List (Nat×Ent):=[(260000,.row 60 3 (r.map z01))]
def zep (r:(List z00)):AV:=.row 260000
def zid (r:(List z00)):AS:=⟨[(4,.row 260000)],zbu r⟩
theorem zph {n m0 r}(hF:zc4 n m0=some r):ConG E0.P none (CalF E0.P 162 0) [.row 200000,.fn 163 [.ref [.fn 122 []]]] [] (zs2 m0) (zep r) (zbu r):=by
 unfold zc4 at hF
 refine ConG.walk (E:=(E0p 2)) (caps:=[]) _ Tryz.func162 rfl rfl rfl rfl rfl ?_
 repeat' first
  |refine AW.step ?_;conv=>whnf
  |refine z14.o hF (fun hF=>?_) fun hF=>?_
  |exact GX.A (res:=zep) (meF:=zbu) hF zid (h1:=LeX.a [(260000,200000)])
  |refine NatX.o hF (fun m hF=>?_)
  |refine EltX.o z01 hF (fun x hF=>?_)
  |refine z1n.I hF fun a hF=>?_
  |refine OpX.sub hF rfl rfl rfl rfl rfl rfl rfl rfl rfl rfl (fun m hF=>?_)
  |refine OpX.clr z01 hF rfl rfl rfl rfl rfl rfl rfl rfl rfl rfl rfl (by first|exact SubL.refl _|(repeat' first|exact SubL.nil|refine SubL.cons ?_ ?_|exact Sub.refl _|exact Sub.nil _|refine Sub.agg ?_)) (fun l hF=>?_)
  |refine SlsX.o z01 hF (fun l hF=>?_)
  |exact GX.A (res:=zep) (meF:=zbu) hF zid (h1:=LeX.a [(260000,64)])
  |refine OpX.lns hF rfl rfl rfl rfl rfl rfl rfl (fun hF=>?_)
  |refine OpX.ixs hF rfl rfl rfl rfl rfl rfl rfl rfl rfl rfl (fun m hF=>?_)
  |refine SetX.o z01 hF (fun x=>rfl) (fun x=>(by first|exact SubL.refl _|(repeat' first|exact SubL.nil|refine SubL.cons ?_ ?_|exact Sub.refl _|exact Sub.nil _|refine Sub.agg ?_))) (fun l hF=>?_)
  |exact ⟨_,hF,LeX.a []⟩
  |refine z8h.I hF (LeX.a []) fun m v hF=>?_
  |refine AndA ?_
  |refine EqX.A ?_
def y8n (m0:(List z00)):List (Nat×Ent):=[(200000,.row 60 3 (m0.map z01))]
def zi3 (r:(List z00)):List (Nat×Ent):=[(260000,.row 60 3 (r.map z01))]
def zkk (r:(List z00)):AV:=.row 260000
def y8j (r:(List z00)):AS:=⟨[(4,.row 260000)],zi3 r⟩
theorem zs8 {n m0 r}(hF:zh1 n m0=some r):ConG E0.P none (CalF E0.P 121 0) [.row 200000,.fn 122 []] [] (y8n m0) (zkk r) (zi3 r):=by
 unfold zh1 at hF
 refine ConG.walk (E:=(E0p 2)) (caps:=[]) _ Tryz.func121 rfl rfl rfl rfl rfl ?_
 repeat' first
  |refine AW.frbO hF 3 rfl rfl (fun hF=>?_)
  |refine AW.regO hF fun hF=>?_
  |refine AW.stepU [2] ?_;conv=>whnf
  |refine zap.oI hF 200000 (fun r=>r) z01 (fun _=>AV.tup []) rfl (fun a h=>(ConC.env rfl (ye0 h))) rfl rfl rfl (fun a hF=>?_)
  |refine zap.oM (z75 10 hF) [(200000,200000)] [(260000,11000000)] _ _ zbu zep [200000] (fun a h=>ConG.up (zph h)) (z0y Tryz.func162 rfl rfl) rfl rfl rfl ⟨⟨rfl,rfl⟩,trivial⟩ (fun a=>⟨rfl,rfl,rfl,rfl,rfl,rfl,rfl,rfl⟩) (fun a hF=>?_)
  |exact GX.A (res:=zkk) (meF:=zi3) hF y8j (h1:=LeX.a [(260000,11000000)])
instance ym7 {n a0}:CI E0 (zmy n a0) false 109 [.sl 3 (a0.map z01)] (fun r=>.tup [.sl 3 (r.1.map z01),aI r.2]):=⟨fun {r} hF=>by
 unfold zmy at hF
 refine cw Tryz.func109 ?_
 repeat' first
  |refine AW.step ?_;conv=>whnf
  |refine z14.o hF (fun hF=>?_) fun hF=>?_
  |refine z1n.oR hF (fun r=>r) z01 (fun _=>AV.row 0) rfl (fun a h=>y44 h) (fun a hF=>?_)
  |refine zap.oM (z75 7 hF) [(200000,6)] [(260000,8000000)] _ _ zi3 zkk [6] (fun a h=>ConG.up (zs8 h)) (z0y Tryz.func121 rfl rfl) rfl rfl rfl ⟨⟨rfl,rfl⟩,trivial⟩ (fun a=>⟨rfl,rfl,rfl,rfl,rfl,rfl,rfl,rfl⟩) (fun a hF=>?_)
  |exact RetX.oB hF⟩
instance y7l {n a0}:CI E0 (z9h n a0) true 61 [z0l a0] (fun r=>.bool (r)):=by unfold z9h;exact CI.w [1] Tryz.func61
instance y7i {n a0}:CI E0 (zd0 n a0) true 60 [.sl 11 (a0.map z0u)] (fun r=>.bool (r)):=by unfold zd0;exact CI.w [] Tryz.func60
instance y7j {n a0}:CI E0 (zd1 n a0) true 30 [z0n a0] (fun r=>.bool (r)):=⟨fun {r} hF=>by
 unfold zd1 at hF
 refine cw Tryz.func30 ?_
 repeat' first
  |refine AW.jI hF (fun v hF=>?_) fun hF=>?_
  |refine AW.regO hF fun hF=>?_
  |refine AW.stepU [2,4,7,10,17] ?_;conv=>whnf
  |refine z14.o hF (fun hF=>?_) fun hF=>?_
  |refine z14.t ?_
  |refine z14.f ?_
  |exact ⟨_,hF,LeX.a []⟩
  |refine IdxX.A hF fun x hF=>?_
  |refine IdxX.oD hF z3v (fun x hF=>?_)
  |refine z1n.I hF fun a hF=>?_
  |refine z8h.I hF (LeX.a []) fun m v hF=>?_
  |exact RetX.oB hF⟩
instance y7p {n a0}:CI E0 (zd4 n a0) true 62 [.sl 3 (a0.map z08)] (fun r=>.bool (r)):=by unfold zd4;exact CI.w [] Tryz.func62
instance y7o {n a0}:CI E0 (zd3 n a0) true 31 [.sl 5 (a0.map z02)] (fun r=>.bool (r)):=by unfold zd3;exact CI.w [] Tryz.func31
instance y1q {n a0}:CI E0 (zav n a0) true 100 [z02 a0] (fun r=>.bool (r)):=by unfold zav;exact CI.w [] Tryz.func100
instance y7n {n a0}:CI E0 (z9i n a0) true 101 [z02 a0] z1c:=by unfold z9i;exact CI.w [] Tryz.func101
instance y50 {n a0 a1}:CI E0 (zaf n a0 a1) true 102 [z02 a0,z02 a1] (fun r=>.bool (r)):=by unfold zaf;exact CI.w [] Tryz.func102
end
noncomputable section
abbrev zm7 {n a0 b}:=li (z2d n a0 b) (fun c=>⟨[(0,.sl 5 (a0.map z02)),(3,aI c)],[]⟩) fun _ _=>z2d.eq_2 ..
abbrev zlp {n a1 a0 b}:=li (z7d n a1 a0 b) (fun c=>⟨[(0,.sl 5 (a0.map z02)),(3,.ptr 3 0),(4,.ptr 4 0),(6,aI c)],[(3,.box 74 (yim a1)),(4,.box 71 [aI 0,aI 0,aI 0,aI 0,.nils])]⟩) fun _ _=>z7d.eq_2 ..
abbrev zlq {n a2 a1 a0 x1 b}:=li (z1u n a2 a1 a0 x1 b) (fun c=>⟨[(0,.sl 5 (a0.map z02)),(1,aI a1),(2,.sl 4 (a2.map z0b)),(6,.ptr 6 0),(7,.ptr 7 0),(8,aI c.1)],[(6,.box 220 [.nils]),(7,.box 220 [.cont (x1) 13]),(13,.nest 26 (List.map (enR z02 71 5) (c.2)))]⟩) fun _ _=>z1u.eq_2 ..
abbrev ziu {n}:=jf (z36 n) (fun b=>⟨[(6,.bool (b))],[]⟩) fun _=>z36.eq_1 ..
abbrev zlh {n a3 x1 x2 b}:=li (z79 n a3 x1 x2 b) (fun c=>⟨[(7,.ptr 7 0),(9,.ptr 9 0),(10,.sl 11 (x2.fGuards.map z0u)),(11,aI c)],[(7,.box 71 (z16 a3)),(9,.box 220 (zcv x1))]⟩) fun _ _=>z79.eq_2 ..
abbrev zn4 {n a1 a0 b}:=li (z5p n a1 a0 b) (fun c=>⟨[(1,aI a1),(2,.ptr 2 0),(5,.row 7029),(6,aI c.1)],[(2,.box 25 (z0g a0)),(7029,.row 115 17 (c.2.map z0w))]⟩) fun _ _=>z5p.eq_2 ..
abbrev zok {n a1 a0 b}:=li (z8t n a1 a0 b) (fun c=>⟨[(0,.sl 1 (a0.map aI)),(1,aI a1),(5,aI c)],[]⟩) fun _ _=>z8t.eq_2 ..
abbrev zko {n a1 a0 b}:=li (z3x n a1 a0 b) (fun c=>⟨[(0,.sl 2 (a0.map z09)),(1,aI a1),(5,.row 7026),(6,aI c.1)],[(7026,.row 102 2 (c.2.map z09))]⟩) fun _ _=>z3x.eq_2 ..
abbrev zkn {n a2 a1 x1 b c d}:=jf (z3w n a2 a1 x1 b c d) (fun e=>⟨[(0,.sl 2 (x1.map z09)),(1,aI a1),(2,aI a2),(7,.row 7031),(8,aI b.1),(24,.bool (e))],[(7031,.row 102 2 (b.2.map z09))]⟩) fun _=>z3w.eq_1 ..
abbrev zkm {n a2 a1 x1 b}:=li (z2w n a2 a1 x1 b) (fun c=>⟨[(0,.sl 2 (x1.map z09)),(1,aI a1),(2,aI a2),(7,.row 7031),(8,aI c.1)],[(7031,.row 102 2 (c.2.map z09))]⟩) fun _ _=>z2w.eq_2 ..
abbrev zn0 {n a2 a1 a0 b}:=li (z89 n a2 a1 a0 b) (fun c=>⟨[(0,.sl 2 (a0.map z09)),(2,aI a2),(4,.ptr 4 0),(7,aI c)],[(4,.box 209 (zo8 a1))]⟩) fun _ _=>z89.eq_2 ..
abbrev zjo {n a3 b c}:=li (z5a n a3 b c) (fun d=>⟨[(8,.ptr 8 0),(10,.ptr 10 0),(15,.ptr 15 0),(20,aI d.1)],[(8,.box 115 (z28 a3)),(10,.box 60 [aI 0,.nils,.nils]),(15,.box 60 [aI a3.fTo,.sl 4 (b.map z0b),.sl 2 (d.2.map z09)])]⟩) fun _ _=>z5a.eq_2 ..
abbrev zjp {n a3 b c d e}:=li (z5b n a3 b c d e) (fun f=>⟨[(8,.ptr 8 0),(10,.ptr 10 0),(15,.ptr 15 0),(18,.ptr 18 0),(19,aI f)],[(8,.box 115 (z28 a3)),(10,.box 60 [aI 0,.nils,.nils]),(15,.box 60 [aI a3.fTo,.sl 4 (c.map z0b),.sl 2 (b.map z09)]),(18,.box 220 (zcv d))]⟩) fun _ _=>z5b.eq_2 ..
abbrev zjq {n a4 a3 a2 a1 b c}:=li (z5c n a4 a3 a2 a1 b c) (fun d=>⟨[(1,.sl 5 (a1.map z02)),(7,.ptr 7 0),(8,.ptr 8 0),(9,.ptr 9 0),(10,.ptr 10 0),(15,.ptr 15 0),(17,aI d)],[(7,.box 60 (z10 a2)),(8,.box 115 (z28 a3)),(9,.box 71 (z16 a4)),(10,.box 60 [aI 0,.nils,.nils]),(15,.box 60 [aI a3.fTo,.nils,.sl 2 (b.map z09)])]⟩) fun _ _=>z5c.eq_2 ..
attribute [instance] zm7 zlp zlq ziu zlh zn4 zok zko zkn zkm zn0 zjo zjp zjq
instance y3q {n a0}:CI E0 (z9t n a0) true 64 [.sl 5 (a0.map z02)] aI:=by unfold z9t;exact CI.w [] Tryz.func64
instance y4o {n a0 a1}:CI E0 (z2o n a0 a1) true 32 [z0n a0,.sl 5 (a1.map z02)] aI:=by unfold z2o;exact CI.w [] Tryz.func32
instance y39 {n}:CI E0 (zdu n) false 65 [] z01:=by unfold zdu;exact CI.w [] Tryz.func65
instance y3d {n a0 a1}:CI E0 (zbi n a0 a1) false 166 [.sl 5 (a0.map z02),z1c a1] (fun r=>.tup [z02 r.1,.bool (r.2)]):=by unfold zbi;exact CI.w [] Tryz.func166
instance y3e {n a0 a1 a2}:CI E0 (zdv n a0 a1 a2) false 196 [.sl 5 (a0.map z02),aI a1,.sl 4 (a2.map z0b)] zct:=⟨fun {r} hF=>by
 unfold zdv at hF
 refine cw Tryz.func196 ?_
 repeat' first
  |refine AW.nstO (er:=z02) 71 5 hF 13 rfl (fun hF=>?_)
  |refine AW.frrO (ety:=71) (sz:=5) z02 hF 13 rfl (fun hF=>?_)
  |refine AW.regO hF fun hF=>?_
  |refine AW.stepU [9,7,2] ?_;conv=>whnf
  |refine z14.o hF (fun hF=>?_) fun hF=>?_
  |refine z14.f ?_
  |refine MakX.on hF (fun m hF=>?_)
  |refine IdxX.A hF fun x hF=>?_
  |refine z1n.I hF fun a hF=>?_
  |refine OpX.ixc hF rfl rfl rfl rfl rfl rfl rfl rfl (fun hF=>?_)
  |refine OpX.ntk z02 hF rfl rfl rfl rfl rfl rfl rfl rfl rfl rfl (fun q hF=>?_)
  |refine AppX.oA hF fun l hF=>?_
  |refine OpX.npt z02 hF rfl rfl rfl rfl rfl rfl rfl rfl rfl rfl rfl (fun l hF=>?_)
  |exact ⟨_,hF,LeX.a []⟩
  |refine z8h.I hF (LeX.a []) fun m v hF=>?_
  |refine AndA ?_
  |refine EqX.A ?_
  |exact RetX.oB hF⟩
def zt2 (r:z0i):AV:=.agg [.sl 1 (List.map (fun q=>AV.sl 5 (List.map z02 q)) (r.fVars))]
instance zq2 {n a0 a1}:CI E0 (z9f n a0 a1) false 167 [.sl 5 (a0.map z02),z01 a1] zct:=by unfold z9f;exact CI.w [] Tryz.func167
instance zz6 {n a0 a1 a2}:CI E0 (z78 n a0 a1 a2) true 168 [z0u a0,zct a1,z02 a2] (fun r=>.bool (r)):=by unfold z78;exact CI.w [1] Tryz.func168
instance y38 {n a0 a1 a2 a3}:CI E0 (zbg n a0 a1 a2 a3) true 125 [z0n a0,.sl 5 (a1.map z02),z01 a2,z02 a3] (fun r=>.bool (r)):=by unfold zbg;exact CI.w [] Tryz.func125
instance y4r {n a0 a1}:CI E0 (zbz n a0 a1) false 126 [z0n a0,aI a1] (fun r=>.sl 17 (r.map z0w)):=⟨fun {r} hF=>by
 unfold zbz at hF
 refine cw Tryz.func126 ?_
 repeat' first
  |refine AW.regO hF fun hF=>?_
  |refine AW.stepU [5] ?_;conv=>whnf
  |refine z14.o hF (fun hF=>?_) fun hF=>?_
  |refine IdxX.A hF fun x hF=>?_
  |refine AppX.oA hF fun l hF=>?_
  |exact ⟨_,hF,LeX.a [(7029,29)]⟩
  |exact ⟨_,hF,LeX.a []⟩
  |refine z8h.I hF ?_ fun m v hF=>?_
  |exact LeX.trans (LeX.adopt 5 7029 115 17 rfl rfl) (LeX.a [])
  |exact RetX.oB hF⟩
instance y7d {n a0 a1}:CI E0 (zcx n a0 a1) true 169 [.sl 1 (a0.map aI),aI a1] (fun r=>.bool (r)):=by unfold zcx;exact CI.w [] Tryz.func169
instance y1k {n a0 a1}:CI E0 (z8u n a0 a1) false 173 [.sl 2 (a0.map z09),aI a1] (fun r=>.sl 2 (r.map z09)):=⟨fun {r} hF=>by
 unfold z8u at hF
 refine cw Tryz.func173 ?_
 repeat' first
  |refine AW.regO hF fun hF=>?_
  |refine AW.stepU [5] ?_;conv=>whnf
  |refine z14.o hF (fun hF=>?_) fun hF=>?_
  |refine IdxX.A hF fun x hF=>?_
  |refine AppX.oA hF fun l hF=>?_
  |exact ⟨_,hF,LeX.a [(7026,26)]⟩
  |exact ⟨_,hF,LeX.a []⟩
  |refine z8h.I hF ?_ fun m v hF=>?_
  |exact LeX.trans (LeX.adopt 5 7026 102 2 rfl rfl) (LeX.a [])
  |exact RetX.oB hF⟩
instance y1j {n a0 a1 a2}:CI E0 (zas n a0 a1 a2) false 171 [.sl 2 (a0.map z09),aI a1,aI a2] (fun r=>.sl 2 (r.map z09)):=⟨fun {r} hF=>by
 unfold zas at hF
 refine cw Tryz.func171 ?_
 repeat' first
  |refine AW.jI hF (fun v hF=>?_) fun hF=>?_
  |refine AW.regO hF fun hF=>?_
  |refine AW.stepU [4] ?_;conv=>whnf
  |refine z14.o hF (fun hF=>?_) fun hF=>?_
  |refine z1n.I hF fun a hF=>?_
  |refine AppX.oA hF fun l hF=>?_
  |refine SlsX.o z09 hF (fun l hF=>?_)
  |refine IdxX.A hF fun x hF=>?_
  |exact ⟨_,hF,LeX.a [(7031,31)]⟩
  |exact ⟨_,hF,LeX.a []⟩
  |refine z8h.I hF ?_ fun m v hF=>?_
  |exact LeX.trans (LeX.adopt 7 7031 102 2 rfl rfl) (LeX.a [])
  |exact RetX.oB hF⟩
instance y4n {n a0 a1 a2}:CI E0 (zbw n a0 a1 a2) true 172 [.sl 2 (a0.map z09),z24 a1,aI a2] (fun r=>.bool (r)):=by unfold zbw;exact CI.w [] Tryz.func172
end
noncomputable section
abbrev zjr {n a4 a3 a2 a1 b}:=li (z5d n a4 a3 a2 a1 b) (fun c=>⟨[(1,.sl 5 (a1.map z02)),(7,.ptr 7 0),(8,.ptr 8 0),(9,.ptr 9 0),(10,.ptr 10 0),(15,.ptr 15 0),(16,aI c.1)],[(7,.box 60 (z10 a2)),(8,.box 115 (z28 a3)),(9,.box 71 (z16 a4)),(10,.box 60 [aI 0,.nils,.nils]),(15,.box 60 [aI a3.fTo,.nils,.sl 2 (c.2.map z09)])]⟩) fun _ _=>z5d.eq_2 ..
abbrev zju {n a4 a3 a2 a1}:=jf (z18 n a4 a3 a2 a1) (fun b=>⟨[(1,.sl 5 (a1.map z02)),(7,.ptr 7 0),(8,.ptr 8 0),(9,.ptr 9 0),(10,.ptr 10 0),(70,.bool (b))],[(7,.box 60 (z10 a2)),(8,.box 115 (z28 a3)),(9,.box 71 (z16 a4)),(10,.box 60 [aI 0,.nils,.nils])]⟩) fun _=>z18.eq_1 ..
abbrev zjt {n a4 a3 a2 a1 x1 x2 b c}:=jf (z3f n a4 a3 a2 a1 x1 x2 b c) (fun d=>⟨[(1,.sl 5 (a1.map z02)),(7,.ptr 7 0),(8,.ptr 8 0),(9,.ptr 9 0),(10,.ptr 10 0),(12,.ptr 12 0),(13,.sl 11 (x2.fGuards.map z0u)),(14,aI b),(54,.bool (d))],[(7,.box 60 (z10 a2)),(8,.box 115 (z28 a3)),(9,.box 71 (z16 a4)),(10,.box 60 [aI 0,.nils,.nils]),(12,.box 220 (zcv x1))]⟩) fun _=>z3f.eq_1 ..
abbrev zjs {n a4 a3 a2 a1 x1 x2 b}:=li (z2j n a4 a3 a2 a1 x1 x2 b) (fun c=>⟨[(1,.sl 5 (a1.map z02)),(7,.ptr 7 0),(8,.ptr 8 0),(9,.ptr 9 0),(10,.ptr 10 0),(12,.ptr 12 0),(13,.sl 11 (x2.fGuards.map z0u)),(14,aI c)],[(7,.box 60 (z10 a2)),(8,.box 115 (z28 a3)),(9,.box 71 (z16 a4)),(10,.box 60 [aI 0,.nils,.nils]),(12,.box 220 (zcv x1))]⟩) fun _ _=>z2j.eq_2 ..
abbrev zp1 {n a1 a0 b}:=jf (z6t n a1 a0 b) (fun c=>⟨[(0,.sl 1 (a0.map z0d)),(3,.ptr 3 0),(5,aI b),(34,.bool (c))],[(3,.box 44 (zef a1))]⟩) fun _=>z6t.eq_1 ..
abbrev zp0 {n a1 a0 b c d}:=jf (z6s n a1 a0 b c d) (fun e=>⟨[(0,.sl 1 (a0.map z0d)),(3,.ptr 3 0),(5,aI b),(19,.bool (e))],[(3,.box 44 (zef a1))]⟩) fun _=>z6s.eq_1 ..
abbrev zoz {n a1 a0 b}:=li (z4f n a1 a0 b) (fun c=>⟨[(0,.sl 1 (a0.map z0d)),(3,.ptr 3 0),(5,aI c)],[(3,.box 44 (zef a1))]⟩) fun _ _=>z4f.eq_2 ..
abbrev zoo {n a3 a2 a1 a0 x4 c}:=li (z4c n a3 a2 a1 a0 x4 c) (fun b=>⟨[(1,.sl 5 (a1.map z02)),(4,.ptr 4 0),(6,.ptr 6 0),(7,.ptr 7 0),(10,.sl 3 (b.1.map z01)),(11,.sl 1 (b.2.1.map z0d)),(12,.sl 17 (x4.map z0w)),(13,aI b.2.2)],[(4,.box 25 (z0g a0)),(6,.box 60 (z10 a2)),(7,.box 71 (z16 a3))]⟩) fun _ _=>z4c.eq_2 ..
abbrev zop {n a3 a2 a1 a0}:=jt (z6p n a3 a2 a1 a0) (fun b=>⟨[(1,.sl 5 (a1.map z02)),(4,.ptr 4 0),(6,.ptr 6 0),(7,.ptr 7 0),(10,.sl 3 (b.map z01)),(11,.nils)],[(4,.box 25 (z0g a0)),(6,.box 60 (z10 a2)),(7,.box 71 (z16 a3))]⟩) fun _=>z6p.eq_1 ..
abbrev zoq {n a3 a2 a1 a0 d b c e}:=li (z8v n a3 a2 a1 a0 d b c e) (fun f=>⟨[(1,.sl 5 (a1.map z02)),(2,.sl 3 (a2.map z01)),(4,.ptr 4 0),(7,.ptr 7 0),(10,.sl 3 (b.map z01)),(11,.sl 1 (f.1.map z0d)),(12,aI d.2.2),(14,.sl 1 (c.map z0d)),(16,aI f.2)],[(4,.box 25 (z0g a0)),(7,.box 71 (z16 a3))]⟩) fun _ _=>z8v.eq_2 ..
abbrev zor {n a3 a2 a1 a0 b c d}:=li (z8w n a3 a2 a1 a0 b c d) (fun e=>⟨[(1,.sl 5 (a1.map z02)),(2,.sl 3 (a2.map z01)),(4,.ptr 4 0),(7,.ptr 7 0),(10,.sl 3 (e.1.map z01)),(11,.sl 1 (b.2.1.map z0d)),(12,aI b.2.2),(13,.sl 3 (c.1.map z01)),(14,.sl 1 (c.2.map z0d)),(15,aI e.2)],[(4,.box 25 (z0g a0)),(7,.box 71 (z16 a3))]⟩) fun _ _=>z8w.eq_2 ..
abbrev zos {n a3 a2 a1 a0 c}:=li (z8x n a3 a2 a1 a0 c) (fun b=>⟨[(1,.sl 5 (a1.map z02)),(2,.sl 3 (a2.map z01)),(4,.ptr 4 0),(7,.ptr 7 0),(10,.sl 3 (b.1.map z01)),(11,.sl 1 (b.2.1.map z0d)),(12,aI b.2.2)],[(4,.box 25 (z0g a0)),(7,.box 71 (z16 a3))]⟩) fun _ _=>z8x.eq_2 ..
attribute [instance] zjr zju zjt zjs zp1 zp0 zoz zoo zop zoq zor zos
instance zzx {n a0 a1 a2 a3 a4}:CI E0 (z5n n a0 a1 a2 a3 a4) false 127 [z0n a0,.sl 5 (a1.map z02),z01 a2,z0w a3,z02 a4] (fun r=>.tup [z01 r.1,.bool (r.2)]):=⟨fun {r} hF=>by
 unfold z5n at hF
 refine Con.env (E:=E0b) rfl rfl ?_
 refine Con.walk _ Tryz.func127 rfl (z0y Tryz.func127 rfl rfl) rfl (Or.inl rfl) ?_
 repeat' first
  |refine AW.jI hF (fun v hF=>?_) fun hF=>?_
  |refine AW.regO hF fun hF=>?_
  |refine AW.frzO hF 125 rfl (fun hF=>?_)
  |refine AW.stepU [21,6,8] ?_;conv=>whnf
  |refine z14.o hF (fun hF=>?_) fun hF=>?_
  |refine z1n.I hF fun a hF=>?_
  |refine IdxX.A hF fun x hF=>?_
  |refine AppX.oA0 hF fun l hF=>?_
  |refine OpX.bldS z0b hF rfl rfl rfl rfl rfl rfl rfl rfl rfl rfl rfl rfl rfl rfl (fun l hF=>?_)
  |refine AppX.oA hF fun l hF=>?_
  |refine OpX.bldR z02 hF rfl rfl rfl rfl rfl rfl rfl rfl rfl rfl rfl rfl rfl rfl rfl rfl (by first|exact SubR.refl _|(repeat' first|exact SubR.nil|refine SubR.cons ?_ ?_|exact SubL.nil|refine SubL.cons ?_ ?_|exact Sub.refl _|exact Sub.nil _)) rfl (fun l hF=>?_)
  |refine zap.oE hF 130 zt2 rfl (fun a h=>Con.env rfl rfl (zq2.h h)) rfl rfl (fun a hF=>?_)
  |exact ⟨_,hF,LeX.a []⟩
  |refine z8h.I hF (LeX.a []) fun m v hF=>?_
  |refine IdxX.oD hF z3v (fun x hF=>?_)
  |refine z1n.S hF fun a hF=>?_
  |refine AndA ?_
  |exact RetX.oB hF⟩
instance y7k {n a0 a1}:CI E0 (z9g n a0 a1) false 67 [.sl 1 (a0.map z0d),z0d a1] (fun r=>.sl 1 (r.map z0d)):=⟨fun {r} hF=>by
 unfold z9g at hF
 refine cw Tryz.func67 ?_
 repeat' first
  |refine AW.jI hF (fun v hF=>?_) fun hF=>?_
  |refine AW.regO hF fun hF=>?_
  |refine AW.stepU [2,4] ?_;conv=>whnf
  |refine z14.o hF (fun hF=>?_) fun hF=>?_
  |refine SlsX.o z0d hF (fun l hF=>?_)
  |refine AppX.oA0 hF fun l hF=>?_
  |refine AppX.oA hF fun l hF=>?_
  |refine IdxX.A hF fun x hF=>?_
  |refine z1n.I hF fun a hF=>?_
  |exact ⟨_,hF,LeX.a []⟩
  |refine z8h.I hF (LeX.a []) fun m v hF=>?_
  |refine AndA ?_
  |exact RetX.oB hF⟩
instance y7f {n a0 a1 a2 a3}:CI E0 (zcy n a0 a1 a2 a3) false 88 [z0n a0,.sl 5 (a1.map z02),z01 a2,z02 a3] (fun r=>.tup [.sl 3 (r.1.map z01),.sl 1 (r.2.map z0d)]):=⟨fun {r} hF=>by
 unfold zcy at hF
 refine cw Tryz.func88 ?_
 repeat' first
  |refine AW.jI2 hF (fun v hF=>?_) fun hF=>?_
  |refine AW.regO hF fun hF=>?_
  |refine AW.stepU [3,11] ?_;conv=>whnf
  |refine z14.o hF (fun hF=>?_) fun hF=>?_
  |refine z1n.I hF fun a hF=>?_
  |refine IdxX.A hF fun x hF=>?_
  |exact ⟨_,hF,LeX.a []⟩
  |refine z8h.I hF ?_ fun m v hF=>?_
  |exact LeX.pa 11 (LeX.a [])
  |refine z1n.S hF fun a hF=>?_
  |exact ⟨_,hF,LeX.pa 10 (LeX.a [])⟩
  |refine AndA ?_
  |exact RetX.oB hF⟩
instance y7g {n a0 a1 a2 a3}:CI E0 (zcz n a0 a1 a2 a3) false 66 [z0n a0,.sl 5 (a1.map z02),.sl 3 (a2.map z01),z02 a3] (fun r=>.tup [.sl 3 (r.1.map z01),.sl 1 (r.2.map z0d)]):=⟨fun {r} hF=>by
 unfold zcz at hF
 refine cw Tryz.func66 ?_
 repeat' first
  |refine AW.step ?_;conv=>whnf
  |refine z14.o hF (fun hF=>?_) fun hF=>?_
  |refine IdxX.A hF fun x hF=>?_
  |refine z1n.I hF fun a hF=>?_
  |exact ⟨_,hF,LeX.a []⟩
  |refine z8h.I hF ?_ fun m v hF=>?_
  |exact LeX.a []
  |exact LeX.pa 10 (LeX.pa 11 (LeX.a []))
  |refine AndA ?_
  |exact RetX.oB hF⟩
end
noncomputable section
abbrev zkr {n a2 a1 a0 d e b c}:=jf (z3y n a2 a1 a0 d e b c) (fun f=>⟨[(1,.sl 5 (a1.map z02)),(2,aI a2),(3,.ptr 3 0),(10,.sl 1 (b.map z0d)),(11,aI d.2.2),(12,.sl 3 (c.map z01)),(55,.bool (f))],[(3,.box 25 (z0g a0))]⟩) fun _=>z3y.eq_1 ..
abbrev zkp {n a2 a1 a0 b c d}:=li (z67 n a2 a1 a0 b c d) (fun e=>⟨[(1,.sl 5 (a1.map z02)),(2,aI a2),(3,.ptr 3 0),(10,.sl 1 (e.1.map z0d)),(11,aI b.2.2),(12,.sl 3 (c.1.map z01)),(13,.sl 1 (c.2.map z0d)),(14,aI e.2)],[(3,.box 25 (z0g a0))]⟩) fun _ _=>z67.eq_2 ..
abbrev zkq {n a2 a1 a0 c}:=li (z2x n a2 a1 a0 c) (fun b=>⟨[(1,.sl 5 (a1.map z02)),(2,aI a2),(3,.ptr 3 0),(9,.sl 3 (b.1.map z01)),(10,.sl 1 (b.2.1.map z0d)),(11,aI b.2.2)],[(3,.box 25 (z0g a0))]⟩) fun _ _=>z2x.eq_2 ..
abbrev zlg {n a1 a0}:=jf (z4n n a1 a0) (fun b=>⟨[(1,.sl 5 (a1.map z02)),(2,.ptr 2 0),(15,.bool (b))],[(2,.box 25 (z0g a0))]⟩) fun _=>z4n.eq_1 ..
abbrev znk {n}:=jf (z5w n) (fun b=>⟨[(4,.bool (b))],[]⟩) fun _=>z5w.eq_1 ..
abbrev zu8 {n a0 b}:=li (zb4 n a0 b) (fun c=>⟨[(0,.sl 5 (a0.map z02)),(3,.row 9),(10,.sl 5 (a0.map z02)),(11,aI (((a0.map z02).length:Int))),(12,aI c.1)],[(9,.mp (List.map (encM zb2 AV.bool) (c.2)))]⟩) fun _ _=>zb4.eq_2 ..
abbrev zze {n a1 a0 b}:=li (zfo n a1 a0 b) (fun c=>⟨[(8,.ptr 24 0),(25,.sl 5 (a1.map z02)),(26,aI (((a1.map z02).length:Int))),(27,aI c.1)],[(24,.box 180 [aI a0.fVars,aI a0.fScopes,.sl 1 (a0.fStates.map z0p),.sl 17 (a0.fEdges.map z0w),.row 22]),(22,.mp (List.map (encM z1c z02) (c.2)))]⟩) fun _ _=>zfo.eq_2 ..
abbrev znr {n a1 a0 b c}:=jf (z61 n a1 a0 b c) (fun d=>⟨[(0,.ref [aI a0.fa.fVars,aI a0.fa.fScopes,.sl 1 (a0.fa.fStates.map z0p),.sl 17 (a0.fa.fEdges.map z0w),.mapv (List.map (encM z1c z02) (a0.fheld))]),(3,.ptr 3 0),(84,.sl 2 (a1.fStarts.map z09)),(85,aI (((a1.fStarts.map z09).length:Int))),(86,aI b),(115,.bool (d))],[(3,.box 60 (z10 a1))]⟩) fun _=>z61.eq_1 ..
abbrev zns {n a1 a0 b c e}:=jf (z2t n a1 a0 b c e) (fun d=>⟨[(0,.ref [aI a0.fa.fVars,aI a0.fa.fScopes,.sl 1 (a0.fa.fStates.map z0p),.sl 17 (a0.fa.fEdges.map z0w),.mapv (List.map (encM z1c z02) (a0.fheld))]),(3,.ptr 3 0),(9,aI b),(10,.ptr 10 0),(84,.sl 2 (a1.fStarts.map z09)),(85,aI (((a1.fStarts.map z09).length:Int))),(86,aI b),(91,.bool (d))],[(3,.box 60 (z10 a1)),(10,.box 102 (zsw e))]⟩) fun _=>z2t.eq_1 ..
abbrev zp8 {n a1 a0 b}:=li (z2h n a1 a0 b) (fun c=>⟨[(0,.ref [aI a0.fa.fVars,aI a0.fa.fScopes,.sl 1 (a0.fa.fStates.map z0p),.sl 17 (a0.fa.fEdges.map z0w),.mapv (List.map (encM z1c z02) (a0.fheld))]),(3,.ptr 3 0),(84,.sl 2 (a1.fStarts.map z09)),(85,aI (((a1.fStarts.map z09).length:Int))),(86,aI c)],[(3,.box 60 (z10 a1))]⟩) fun _ _=>z2h.eq_2 ..
abbrev znp {n a1 a0 b c e}:=jf (z5z n a1 a0 b c e) (fun d=>⟨[(0,.ref [aI a0.fa.fVars,aI a0.fa.fScopes,.sl 1 (a0.fa.fStates.map z0p),.sl 17 (a0.fa.fEdges.map z0w),.mapv (List.map (encM z1c z02) (a0.fheld))]),(3,.ptr 3 0),(8,.bool (e)),(32,.sl 4 (a1.fBindings.map z0b)),(33,aI (((a1.fBindings.map z0b).length:Int))),(34,aI b),(63,.bool (d))],[(3,.box 60 (z10 a1))]⟩) fun _=>z5z.eq_1 ..
abbrev znq {n a1 a0 b c e f}:=jf (z60 n a1 a0 b c e f) (fun d=>⟨[(0,.ref [aI a0.fa.fVars,aI a0.fa.fScopes,.sl 1 (a0.fa.fStates.map z0p),.sl 17 (a0.fa.fEdges.map z0w),.mapv (List.map (encM z1c z02) (a0.fheld))]),(3,.ptr 3 0),(5,aI b),(6,.ptr 6 0),(8,.bool (f)),(32,.sl 4 (a1.fBindings.map z0b)),(33,aI (((a1.fBindings.map z0b).length:Int))),(34,aI b),(49,.bool (d))],[(3,.box 60 (z10 a1)),(6,.box 76 (y4e e))]⟩) fun _=>z60.eq_1 ..
abbrev zp9 {n a1 a0 b}:=li (z4h n a1 a0 b) (fun c=>⟨[(0,.ref [aI a0.fa.fVars,aI a0.fa.fScopes,.sl 1 (a0.fa.fStates.map z0p),.sl 17 (a0.fa.fEdges.map z0w),.mapv (List.map (encM z1c z02) (a0.fheld))]),(3,.ptr 3 0),(32,.sl 4 (a1.fBindings.map z0b)),(33,aI (((a1.fBindings.map z0b).length:Int))),(34,aI c)],[(3,.box 60 (z10 a1))]⟩) fun _ _=>z4h.eq_2 ..
abbrev zpa {n a1 a0}:=jf (z6x n a1 a0) (fun b=>⟨[(0,.ref [aI a0.fa.fVars,aI a0.fa.fScopes,.sl 1 (a0.fa.fStates.map z0p),.sl 17 (a0.fa.fEdges.map z0w),.mapv (List.map (encM z1c z02) (a0.fheld))]),(3,.ptr 3 0),(11,.bool (b))],[(3,.box 60 (z10 a1))]⟩) fun _=>z6x.eq_1 ..
attribute [instance] zkr zkp zkq zlg znk zu8 zze znr zns zp8 znp znq zp9 zpa
instance y1l {n a0 a1 a2}:CI E0 (zat n a0 a1 a2) false 33 [z0n a0,.sl 5 (a1.map z02),aI a2] (fun r=>.tup [.sl 3 (r.1.map z01),.sl 1 (r.2.1.map z0d),.bool (r.2.2)]):=⟨fun {r} hF=>by
 unfold zat at hF
 refine cw Tryz.func33 ?_
 repeat' first
  |refine AW.jI hF (fun v hF=>?_) fun hF=>?_
  |refine AW.regO hF fun hF=>?_
  |refine AW.stepU [11] ?_;conv=>whnf
  |refine z14.o hF (fun hF=>?_) fun hF=>?_
  |refine z1n.I hF fun a hF=>?_
  |refine IdxX.A hF fun x hF=>?_
  |exact ⟨_,hF,LeX.a []⟩
  |refine z8h.I hF ?_ fun m v hF=>?_
  |exact LeX.a []
  |exact LeX.pa 10 (LeX.a [])
  |refine AndA ?_
  |exact RetX.oB hF⟩
instance y37 {n a0 a1}:CI E0 (z9m n a0 a1) true 11 [z0n a0,.sl 5 (a1.map z02)] (fun r=>.bool (r)):=by unfold z9m;exact CI.w [1] Tryz.func11
instance y4m {n a0 a1}:CI E0 (z6j n a0 a1) true 39 [z0n a0,.sl 5 (a1.map z02)] aI:=by unfold z6j;exact CI.w [] Tryz.func39
instance y52 {n a0 a1}:CI E0 (zc2 n a0 a1) true 22 [z0n a0,.sl 5 (a1.map z02)] (fun r=>.bool (r)):=by unfold zc2;exact CI.w [1] Tryz.func22
instance y51 {n}:CI E0 (z8m n) false 34 [] z0n:=⟨fun {r} hF=>by
 unfold z8m at hF
 refine cw Tryz.func34 ?_
 repeat' first
  |refine AW.step ?_;conv=>whnf
  |refine z14.o hF (fun hF=>?_) fun hF=>?_
  |refine z14.t ?_
  |refine z14.f ?_
  |refine z1n.I hF fun a hF=>?_
  |refine MakX.o z0p hF (by first|exact SubL.refl _|(repeat' first|exact SubL.nil|refine SubL.cons ?_ ?_|exact Sub.refl _|exact Sub.nil _|refine Sub.agg ?_)) (fun l hF=>?_)
  |refine AndA ?_
  |refine EqX.A ?_
  |exact RetX.oB hF⟩
instance yer {n a0}:CI E0 (zg7 n a0) true 106 [z02 a0] (fun r=>.bool (r)):=by unfold zg7;exact CI.w [] Tryz.func106
instance yl7 {n a0}:CI E0 (zjm n a0) true 148 [z02 a0] z1c:=by unfold zjm;exact CI.w [] Tryz.func148
instance yew {n a0 a1}:CI E0 (zgc n a0 a1) true 107 [z02 a0,z02 a1] aI:=by unfold zgc;exact CI.w [] Tryz.func107
instance ykz {n a0}:CI E0 (zgz n a0) true 108 [z02 a0] zb2:=by unfold zgz;exact CI.w [] Tryz.func108
theorem yi2 (a b:z9k):eqK (zb2 a) (zb2 b)=some (decide (a=b)):=by cases a;cases b;simp [zb2,eqK,eqL,eq1,aI,zjf]
instance yf4 {n a0}:CI E0 (zfl n a0) true 70 [.sl 5 (a0.map z02)] aI:=⟨fun {r} hF=>by
 unfold zfl at hF
 refine cw Tryz.func70 ?_
 repeat' first
  |refine AW.step ?_;conv=>whnf
  |refine z14.o hF (fun hF=>?_) fun hF=>?_
  |refine z14.f ?_
  |refine IdxX.A hF fun x hF=>?_
  |refine z1n.I hF fun a hF=>?_
  |refine LkX.o zb2 AV.bool hF (by first|rfl|kernel_rfl) yi2 (by repeat' first|exact Sub.nil _|exact Sub.refl _|refine Sub.agg ?_|refine Sub.tup ?_|refine Sub.fn ?_|exact SubL.nil|refine SubL.cons ?_ ?_|refine Sub.sl _ ?_|exact SubE.nil|refine SubE.cons ?_ ?_) (fun v b hF=>?_)
  |refine UpX.o zb2 AV.bool hF (by first|rfl|kernel_rfl) yi2 (by repeat' first|exact Sub.nil _|exact Sub.refl _|refine Sub.agg ?_|refine Sub.tup ?_|refine Sub.fn ?_|exact SubL.nil|refine SubL.cons ?_ ?_|refine Sub.sl _ ?_|exact SubE.nil|refine SubE.cons ?_ ?_) (fun l hF=>?_)
  |exact ⟨_,hF,LeX.a []⟩
  |refine z8h.I hF (LeX.a []) fun m v hF=>?_
  |refine AndA ?_
  |exact RetX.oB hF⟩
instance y8s {n a0 a1}:CI E0 (z8q n a0 a1) true 36 [z0n a0,.sl 5 (a1.map z02)] aI:=by unfold z8q;exact CI.w [] Tryz.func36
instance yl1 {n}:CI E0 (zej n) false 47 [] z01:=by unfold zej;exact CI.w [] Tryz.func47
theorem yi1 (a b:z1g):eqK (z1c a) (z1c b)=some (decide (a=b)):=by cases a;cases b;simp [z1c,eqK,eqL,eq1,aI,zjf]
def zbd:Option z0m->AV
 |none=>.nilp
 |some x=>.ref [aI (x.fa.fVars),aI (x.fa.fScopes),.sl 1 (x.fa.fStates.map z0p),.sl 17 (x.fa.fEdges.map z0w),.mapv (List.map (encM z1c z02) (x.fheld))]
def zbs (r:(Option z0m)×Int):AV:=.tup [zbd (r.1),aI (r.2)]
instance zil {n a0 a1}:CI E0 (zei n a0 a1) false 82 [z0n a0,.sl 5 (a1.map z02)] (fun r=>.tup [zbd (r.1),aI r.2]):=⟨fun {r} hF=>by
 unfold zei at hF
 refine cw Tryz.func82 ?_
 repeat' first
  |refine AW.step ?_;conv=>whnf
  |refine z14.o hF (fun hF=>?_) fun hF=>?_
  |refine z1n.I hF fun a hF=>?_
  |refine IdxX.A hF fun x hF=>?_
  |refine OpX.nckP rfl rfl rfl rfl rfl ?_
  |refine UpX.o z1c z02 hF (by first|rfl|kernel_rfl) yi1 (by repeat' first|exact Sub.nil _|exact Sub.refl _|refine Sub.agg ?_|refine Sub.tup ?_|refine Sub.fn ?_|exact SubL.nil|refine SubL.cons ?_ ?_|refine Sub.sl _ ?_|exact SubE.nil|refine SubE.cons ?_ ?_) (fun l hF=>?_)
  |exact ⟨_,hF,LeX.a []⟩
  |refine z8h.I hF (LeX.a []) fun m v hF=>?_
  |refine AndA ?_
  |exact RetX.oB hF⟩
end
end Go.Proofs.YtidhlpjgifoneaaGreat
