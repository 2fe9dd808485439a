/- What some functions compute, over plain values. -/
import Derived.Test.YtidhlpjgifoneaaGreatK22
import Derived.Test.YtidhlpjgifoneaaGreatK21
set_option linter.unusedVariables false
set_option linter.unusedSimpArgs false
set_option maxRecDepth 100000
set_option maxHeartbeats 8000000
namespace Go.Proofs.YtidhlpjgifoneaaGreat
open Go.RowKit List
noncomputable section
abbrev ya6 {n a0 b}:=li (zhv n a0 b) (fun c=>⟨[(3,aI 0),(6,.sl 1 (a0.map aI)),(7,aI (((a0.map aI).length:Int))),(8,aI c)],[]⟩) fun _ _=>zhv.eq_2 ..
abbrev znh {n a1 a0 b}:=li (z8e n a1 a0 b) (fun c=>⟨[(0,.sl 4 (a0.map z0b)),(1,.sl 4 (a1.map z0b)),(2,.fn 132 []),(11,.sl 4 (a0.map z0b)),(12,aI (((a0.map z0b).length:Int))),(13,aI c)],[]⟩) fun _ _=>z8e.eq_2 ..
abbrev ziw {n a1 a0 b}:=li (z54 n a1 a0 b) (fun c=>⟨[(0,.sl 2 (a0.map z09)),(1,.sl 2 (a1.map z09)),(2,.fn 165 []),(11,.sl 2 (a0.map z09)),(12,aI (((a0.map z09).length:Int))),(13,aI c)],[]⟩) fun _ _=>z54.eq_2 ..
abbrev zwt {n}:=jf (z81 n) (fun b=>⟨[(2,.bool (b))],[]⟩) fun _=>z81.eq_1 ..
abbrev zkx {n b a0 c}:=li (z6c n b a0 c) (fun d=>⟨[(0,.sl 4 (a0.map z0b)),(1,.fn 155 [.ref (z16 b)]),(7,aI (((a0.map z0b).length:Int))),(8,aI d)],[]⟩) fun _ _=>z6c.eq_2 ..
abbrev zky {n b a0 c}:=li (z6d n b a0 c) (fun d=>⟨[(0,.sl 3 (a0.map z01)),(1,.fn 118 [.ref (z16 b)]),(7,aI (((a0.map z01).length:Int))),(8,aI d)],[]⟩) fun _ _=>z6d.eq_2 ..
attribute [instance] ya6 znh ziw zwt zkx zky
instance ync {n a0}:CI E0 (zgw n a0) true 133 [.sl 1 (a0.map aI)] aI:=by unfold zgw;exact CI.w [] Tryz.func133
instance yi4 {n a0 a1}:CI E0 (zi6 n a0 a1) true 134 [z1e a0,z1e a1] aI:=by unfold zi6;exact CI.w [] Tryz.func134
instance y9v {n a0 a1}:CI E0 (zf3 n a0 a1) true 132 [z0b a0,z0b a1] aI:=by unfold zf3;exact CI.w [] Tryz.func132
instance y4h {n a0 a1}:CI E0 (zc3 n a0 a1) true 131 [.sl 4 (a0.map z0b),.sl 4 (a1.map z0b),.fn 132 []] aI:=by unfold zc3;exact CI.w [] Tryz.func131
instance ydy {n a0 a1}:CI E0 (zf4 n a0 a1) true 92 [z0c a0,z0c a1] aI:=by unfold zf4;exact CI.w [] Tryz.func92
instance ydx {n a0 a1}:CI E0 (zg7 n a0 a1) true 165 [z09 a0,z09 a1] aI:=by unfold zg7;exact CI.w [] Tryz.func165
instance zyx {n a0 a1}:CI E0 (z9x n a0 a1) true 164 [.sl 2 (a0.map z09),.sl 2 (a1.map z09),.fn 165 []] aI:=by unfold z9x;exact CI.w [] Tryz.func164
instance yh4 {n a0 a1}:CI E0 (zhc n a0 a1) true 122 [z01 a0,z01 a1] aI:=by unfold zhc;exact CI.w [] Tryz.func122
instance yi0 {n a0}:CI E0 (zi3 n a0) true 117 [z02 a0] (fun r=>.bool (r)):=by unfold zi3;exact CI.w [1] Tryz.func117
instance yn1 {n a0}:CI E0 (zi2 n a0) true 115 [z02 a0] z1e:=by unfold zi2;exact CI.w [] Tryz.func115
instance yku {n a0 a1}:CI E0 (zhs n a0 a1) true 116 [z1e a0,z1e a1] aI:=by unfold zhs;exact CI.w [] Tryz.func116
instance yi1 {n a0 a1}:CI E0 (zg5 n a0 a1) true 155 [z0b a0,.ref (z16 a1)] (fun r=>.bool (r)):=by unfold zg5;exact CI.w [] Tryz.func155
instance y19 {n a0 b}:CI E0 (zaz n a0 b) true 186 [.sl 4 (a0.map z0b),.fn 155 [.ref (z16 b)]] aI:=by unfold zaz;exact CI.w [] Tryz.func186
instance zy7 {n a0 b}:CI E0 (z99 n a0 b) true 154 [.sl 4 (a0.map z0b),.fn 155 [.ref (z16 b)]] (fun r=>.bool (r)):=by unfold z99;exact CI.w [] Tryz.func154
instance ykv {n a0 a1}:CI E0 (zrb n a0 a1) true 119 [z01 a0,z02 a1] (fun r=>.bool (r)):=⟨fun {r} hF=>by
 unfold zrb at hF
 refine cw Tryz.func119 ?_
 repeat' first
  |refine AW.step ?_;conv=>whnf
  |refine zaq.I hF (fun a hF=>?_) rfl rfl fun _=>Or.inr rfl
  |exact RetX.oB hF⟩
instance yi3 {n a0 a1}:CI E0 (zg6 n a0 a1) true 118 [z01 a0,.ref (z16 a1)] (fun r=>.bool (r)):=by unfold zg6;exact CI.w [] Tryz.func118
instance y1a {n a0 b}:CI E0 (zb0 n a0 b) true 59 [.sl 3 (a0.map z01),.fn 118 [.ref (z16 b)]] aI:=by unfold zb0;exact CI.w [] Tryz.func59
instance zy8 {n a0 b}:CI E0 (z9a n a0 b) true 27 [.sl 3 (a0.map z01),.fn 118 [.ref (z16 b)]] (fun r=>.bool (r)):=by unfold z9a;exact CI.w [] Tryz.func27
instance ykw {n a0 a1}:CI E0 (zht n a0 a1) true 84 [.sl 3 (a0.map z01),z02 a1] aI:=⟨fun {r} hF=>by
 unfold zht at hF
 refine cw Tryz.func84 ?_
 repeat' first
  |refine AW.step ?_;conv=>whnf
  |refine z17.o hF (fun hF=>?_) fun hF=>?_
  |refine z1n.I hF fun a hF=>?_
  |refine zaq.I hF (fun a hF=>?_) rfl rfl fun _=>Or.inr rfl
  |exact RetX.oB hF⟩
end
noncomputable section
abbrev zni {n d c}:=li (z5y n d c) (fun b=>⟨[(0,.row 200000),(1,.fn 163 [.ref [.fn 122 []]]),(5,aI b.1),(6,.der (.sub 3 (d)) 200000),(7,aI b.2.1)],[(200000,.row 60 3 (b.2.2.map z01))]⟩) fun _ _=>z5y.eq_2 ..
abbrev znj {n m0 b}:=li (z8f n m0 b) (fun c=>⟨[(0,.row 200000),(1,.fn 163 [.ref [.fn 122 []]]),(5,aI c)],[(200000,.row 60 3 (m0.map z01))]⟩) fun _ _=>z8f.eq_2 ..
abbrev zoy {n}:=jf (z6v n) (fun b=>⟨[(2,.bool (b))],[]⟩) fun _=>z6v.eq_1 ..
abbrev zoq {n a0 b}:=li (z8z n a0 b) (fun c=>⟨[(0,.sl 11 (a0.map z0t)),(3,aI c)],[]⟩) fun _ _=>z8z.eq_2 ..
abbrev zou {n}:=jf (z6s n) (fun b=>⟨[(2,.bool (b))],[]⟩) fun _=>z6s.eq_1 ..
abbrev zor {n a0 b d c}:=li (z90 n a0 b d c) (fun e=>⟨[(1,.ptr 1 0),(4,aI b),(5,.ptr 5 0),(6,aI e)],[(1,.box 25 (z0g a0)),(5,.box 115 (z2a d))]⟩) fun _ _=>z90.eq_2 ..
abbrev zn3 {n a0 b c e}:=jf (z1r n a0 b c e) (fun d=>⟨[(1,.ptr 1 0),(4,aI b),(5,.ptr 5 0),(105,.bool (d))],[(1,.box 25 (z0g a0)),(5,.box 115 (z2a e))]⟩) fun _=>z1r.eq_1 ..
abbrev zn4 {n a0 b c d}:=jf (z5u n a0 b c d) (fun e=>⟨[(1,.ptr 1 0),(4,aI b),(64,.bool (e))],[(1,.box 25 (z0g a0))]⟩) fun _=>z5u.eq_1 ..
abbrev zos {n a0 b}:=li (z4i n a0 b) (fun c=>⟨[(1,.ptr 1 0),(4,aI c)],[(1,.box 25 (z0g a0))]⟩) fun _ _=>z4i.eq_2 ..
abbrev zn1 {n a0 b c}:=jf (z21 n a0 b c) (fun d=>⟨[(1,.ptr 1 0),(3,aI b),(55,.bool (d))],[(1,.box 25 (z0g a0))]⟩) fun _=>z21.eq_1 ..
abbrev zn2 {n a0 b c d}:=jf (z5t n a0 b c d) (fun e=>⟨[(1,.ptr 1 0),(3,aI b),(15,.bool (e))],[(1,.box 25 (z0g a0))]⟩) fun _=>z5t.eq_1 ..
abbrev zot {n a0 b}:=li (z4j n a0 b) (fun c=>⟨[(1,.ptr 1 0),(3,aI c)],[(1,.box 25 (z0g a0))]⟩) fun _ _=>z4j.eq_2 ..
abbrev zp1 {n a0 b}:=li (z93 n a0 b) (fun c=>⟨[(0,.sl 3 (a0.map z08)),(3,aI c)],[]⟩) fun _ _=>z93.eq_2 ..
abbrev zp0 {n a0 b}:=li (z92 n a0 b) (fun c=>⟨[(0,.sl 5 (a0.map z02)),(3,aI c)],[]⟩) fun _ _=>z92.eq_2 ..
abbrev zm4 {n a0 b c}:=li (z7j n a0 b c) (fun d=>⟨[(0,.sl 5 (a0.map z02)),(3,aI b),(4,aI d)],[]⟩) fun _ _=>z7j.eq_2 ..
abbrev zm3 {n a0 b c}:=li (z7i n a0 b c) (fun d=>⟨[(0,.sl 5 (a0.map z02)),(3,aI b),(4,aI d)],[]⟩) fun _ _=>z7i.eq_2 ..
attribute [instance] zni znj zoy zoq zou zor zn3 zn4 zos zn1 zn2 zot zp1 zp0 zm4 zm3
set_option maxHeartbeats 400000 in
theorem y7i (l:List (Cel 3))(S:Nat->Prop)(v:Value)(w:World)(h:Sl w S 3 encC v l)(hl:l.length<=1000000000) :
  Calls Tryz.prog 149 #[v] w (zvn 60 3 encC l w):=by
 have eok:EOk Tryz.prog 57 60 3 56 (encC (n:=3)):=eokC (sz:=3) (zre 57 _ rfl) rfl (zre 60 _ rfl) (by omega) rfl
 obtain ⟨A,c,rfl,hc,_⟩:=h.form
 have hq:=fun (W:World)=>Lib.run_eql_slice_nil W 57 60 A l.length c 0 0 Tryz.underlying57
 have H:=hide h
 cases A with
 |none =>
  have h0:l=[]:=h.none_nil
  subst h0
  clear h H hl hc
  simp only [length_nil,Option.isNone_none] at hq ⊢
  go_enter Tryz.func149,Tryz.ntmps149
  go_wp2
  go_ret
  exact ⟨none,0,rfl,Own.nil_,by go_grown⟩
 |some ad =>
  clear h
  go_enter Tryz.func149,Tryz.ntmps149
  go_wp2_with (at_builtin;refine zao rfl _ _ rfl eok rfl Own.made_ rfl (H.out.alloc _) (by simp;omega) (by omega) (by simp) ?_;intro A' c' w1 ho hg _)
  go_ret
  exact ⟨A',c',rfl,ho,(Own.made_ (sz:=3) (enc:=encC (n:=3))).grown ((Below.refl _ _).alloc (Nat.le_refl _) _) (Nat.le_refl _) (by simp) hg⟩
theorem y3i {n a r}(hF:zap n a=some r):ConT E0 149 [.sl 3 (List.map z01 a)] 60 3 (List.map z01 r) (.row 0):=zja rfl (z0x Tryz.func149 rfl rfl) y7i hF
instance y9p {n a0 a1}:CI E0 (zcn n a0 a1) true 163 [z01 a0,z01 a1,.ref [.fn 122 []]] (fun r=>.bool (r)):=by unfold zcn;exact CI.w [] Tryz.func163
def zrz (m0:(List z00)):List (Nat×Ent):=[(200000,.row 60 3 (m0.map z01))]
def zbx (r:(List z00)):List (Nat×Ent):=[(260000,.row 60 3 (r.map z01))]
def zeo (r:(List z00)):AV:=.row 260000
def zia (r:(List z00)):AS:=⟨[(4,.row 260000)],zbx r⟩
theorem zpe {n m0 r}(hF:zc4 n m0=some r):ConG E0.P none (CalF E0.P 162 0) [.row 200000,.fn 163 [.ref [.fn 122 []]]] [] (zrz m0) (zeo r) (zbx r):=by
 unfold zc4 at hF
 refine ConG.walk (E:=(E0p 2)) (caps:=[]) _ Tryz.func162 rfl rfl rfl rfl rfl ?_
 repeat' first
  |refine AW.step ?_;conv=>whnf
  |refine z17.o hF (fun hF=>?_) fun hF=>?_
  |exact GX.A (res:=zeo) (meF:=zbx) hF zia (h1:=LeX.a [(260000,200000)])
  |refine NatX.o hF (fun m hF=>?_)
  |refine EltX.o z01 hF (fun x hF=>?_)
  |refine z1n.I hF fun a hF=>?_
  |refine OpX.sub hF rfl rfl rfl rfl rfl rfl rfl rfl rfl rfl (fun m hF=>?_)
  |refine OpX.clr z01 hF rfl rfl rfl rfl rfl rfl rfl rfl rfl rfl rfl (by first|exact SubL.refl _|(repeat' first|exact SubL.nil|refine SubL.cons ?_ ?_|exact Sub.refl _|exact Sub.nil _|refine Sub.agg ?_)) (fun l hF=>?_)
  |refine SlsX.o z01 hF (fun l hF=>?_)
  |exact GX.A (res:=zeo) (meF:=zbx) hF zia (h1:=LeX.a [(260000,64)])
  |refine OpX.lns hF rfl rfl rfl rfl rfl rfl rfl (fun hF=>?_)
  |refine OpX.ixs hF rfl rfl rfl rfl rfl rfl rfl rfl rfl rfl (fun m hF=>?_)
  |refine SetX.o z01 hF (fun x=>rfl) (fun x=>(by first|exact SubL.refl _|(repeat' first|exact SubL.nil|refine SubL.cons ?_ ?_|exact Sub.refl _|exact Sub.nil _|refine Sub.agg ?_))) (fun l hF=>?_)
  |exact ⟨_,hF,LeX.a []⟩
  |refine z8k.I hF (LeX.a []) fun m v hF=>?_
  |refine AndA ?_
  |refine EqX.A ?_
def y7w (m0:(List z00)):List (Nat×Ent):=[(200000,.row 60 3 (m0.map z01))]
def zi1 (r:(List z00)):List (Nat×Ent):=[(260000,.row 60 3 (r.map z01))]
def zki (r:(List z00)):AV:=.row 260000
def y7s (r:(List z00)):AS:=⟨[(4,.row 260000)],zi1 r⟩
theorem zs4 {n m0 r}(hF:zh3 n m0=some r):ConG E0.P none (CalF E0.P 121 0) [.row 200000,.fn 122 []] [] (y7w m0) (zki r) (zi1 r):=by
 unfold zh3 at hF
 refine ConG.walk (E:=(E0p 2)) (caps:=[]) _ Tryz.func121 rfl rfl rfl rfl rfl ?_
 repeat' first
  |refine AW.frbO hF 3 rfl rfl (fun hF=>?_)
  |refine AW.regO hF fun hF=>?_
  |refine AW.stepU [2] ?_;conv=>whnf
  |refine zaq.oI hF 200000 (fun r=>r) z01 (fun _=>AV.tup []) rfl (fun a h=>(ConC.env rfl (yd5 h))) rfl rfl rfl (fun a hF=>?_)
  |refine zaq.oM (z79 10 hF) [(200000,200000)] [(260000,11000000)] _ _ zbx zeo [200000] (fun a h=>ConG.up (zpe h)) (z0x Tryz.func162 rfl rfl) rfl rfl rfl ⟨⟨rfl,rfl⟩,trivial⟩ (fun a=>⟨rfl,rfl,rfl,rfl,rfl,rfl,rfl,rfl⟩) (fun a hF=>?_)
  |exact GX.A (res:=zki) (meF:=zi1) hF y7s (h1:=LeX.a [(260000,11000000)])
instance yky {n a0}:CI E0 (zmw n a0) false 109 [.sl 3 (a0.map z01)] (fun r=>.tup [.sl 3 (r.1.map z01),aI r.2]):=⟨fun {r} hF=>by
 unfold zmw at hF
 refine cw Tryz.func109 ?_
 repeat' first
  |refine AW.step ?_;conv=>whnf
  |refine z17.o hF (fun hF=>?_) fun hF=>?_
  |refine z1n.oR hF (fun r=>r) z01 (fun _=>AV.row 0) rfl (fun a h=>y3i h) (fun a hF=>?_)
  |refine zaq.oM (z79 7 hF) [(200000,6)] [(260000,8000000)] _ _ zi1 zki [6] (fun a h=>ConG.up (zs4 h)) (z0x Tryz.func121 rfl rfl) rfl rfl rfl ⟨⟨rfl,rfl⟩,trivial⟩ (fun a=>⟨rfl,rfl,rfl,rfl,rfl,rfl,rfl,rfl⟩) (fun a hF=>?_)
  |exact RetX.oB hF⟩
instance y6v {n a0}:CI E0 (z9h n a0) true 61 [z0l a0] (fun r=>.bool (r)):=by unfold z9h;exact CI.w [1] Tryz.func61
instance y6s {n a0}:CI E0 (zd0 n a0) true 60 [.sl 11 (a0.map z0t)] (fun r=>.bool (r)):=by unfold zd0;exact CI.w [] Tryz.func60
instance y6t {n a0}:CI E0 (zd1 n a0) true 30 [z0n a0] (fun r=>.bool (r)):=⟨fun {r} hF=>by
 unfold zd1 at hF
 refine cw Tryz.func30 ?_
 repeat' first
  |refine AW.jI hF (fun v hF=>?_) fun hF=>?_
  |refine AW.regO hF fun hF=>?_
  |refine AW.stepU [2,4,7,10,17] ?_;conv=>whnf
  |refine z17.o hF (fun hF=>?_) fun hF=>?_
  |refine z17.t ?_
  |refine z17.f ?_
  |exact ⟨_,hF,LeX.a []⟩
  |refine IdxX.A hF fun x hF=>?_
  |refine IdxX.oD hF z40 (fun x hF=>?_)
  |refine z1n.I hF fun a hF=>?_
  |refine z8k.I hF (LeX.a []) fun m v hF=>?_
  |exact RetX.oB hF⟩
instance y6z {n a0}:CI E0 (zd4 n a0) true 62 [.sl 3 (a0.map z08)] (fun r=>.bool (r)):=by unfold zd4;exact CI.w [] Tryz.func62
instance y6y {n a0}:CI E0 (zd3 n a0) true 31 [.sl 5 (a0.map z02)] (fun r=>.bool (r)):=by unfold zd3;exact CI.w [] Tryz.func31
instance y18 {n a0}:CI E0 (zay n a0) true 100 [z02 a0] (fun r=>.bool (r)):=by unfold zay;exact CI.w [] Tryz.func100
instance y6x {n a0}:CI E0 (z9i n a0) true 101 [z02 a0] z1e:=by unfold z9i;exact CI.w [] Tryz.func101
instance y4e {n a0 a1}:CI E0 (zaf n a0 a1) true 102 [z02 a0,z02 a1] (fun r=>.bool (r)):=by unfold zaf;exact CI.w [] Tryz.func102
end
noncomputable section
abbrev zm5 {n a0 b}:=li (z2f n a0 b) (fun c=>⟨[(0,.sl 5 (a0.map z02)),(3,aI c)],[]⟩) fun _ _=>z2f.eq_2 ..
abbrev zln {n a1 a0 b}:=li (z7f n a1 a0 b) (fun c=>⟨[(0,.sl 5 (a0.map z02)),(3,.ptr 3 0),(4,.ptr 4 0),(6,aI c)],[(3,.box 74 (yhk a1)),(4,.box 71 [aI 0,aI 0,aI 0,aI 0,.nils])]⟩) fun _ _=>z7f.eq_2 ..
abbrev zlo {n a2 a1 a0 x1 b}:=li (z1v n a2 a1 a0 x1 b) (fun c=>⟨[(0,.sl 5 (a0.map z02)),(1,aI a1),(2,.sl 4 (a2.map z0b)),(6,.ptr 6 0),(7,.ptr 7 0),(8,aI c.1)],[(6,.box 220 [.nils]),(7,.box 220 [.cont (x1) 13]),(13,.nest 26 (List.map (enR z02 71 5) (c.2)))]⟩) fun _ _=>z1v.eq_2 ..
abbrev zir {n}:=jf (z3a n) (fun b=>⟨[(6,.bool (b))],[]⟩) fun _=>z3a.eq_1 ..
abbrev zlf {n a3 x1 x2 b}:=li (z7b n a3 x1 x2 b) (fun c=>⟨[(7,.ptr 7 0),(9,.ptr 9 0),(10,.sl 11 (x2.fGuards.map z0t)),(11,aI c)],[(7,.box 71 (z16 a3)),(9,.box 220 (zcv x1))]⟩) fun _ _=>z7b.eq_2 ..
abbrev zn0 {n a1 a0 b}:=li (z5s n a1 a0 b) (fun c=>⟨[(1,aI a1),(2,.ptr 2 0),(5,.row 7029),(6,aI c.1)],[(2,.box 25 (z0g a0)),(7029,.row 115 17 (c.2.map z0v))]⟩) fun _ _=>z5s.eq_2 ..
abbrev zog {n a1 a0 b}:=li (z8t n a1 a0 b) (fun c=>⟨[(0,.sl 1 (a0.map aI)),(1,aI a1),(5,aI c)],[]⟩) fun _ _=>z8t.eq_2 ..
abbrev zkm {n a1 a0 b}:=li (z42 n a1 a0 b) (fun c=>⟨[(0,.sl 2 (a0.map z09)),(1,aI a1),(5,.row 7026),(6,aI c.1)],[(7026,.row 102 2 (c.2.map z09))]⟩) fun _ _=>z42.eq_2 ..
abbrev zkl {n a2 a1 x1 b c d}:=jf (z41 n a2 a1 x1 b c d) (fun e=>⟨[(0,.sl 2 (x1.map z09)),(1,aI a1),(2,aI a2),(7,.row 7031),(8,aI b.1),(24,.bool (e))],[(7031,.row 102 2 (b.2.map z09))]⟩) fun _=>z41.eq_1 ..
abbrev zkk {n a2 a1 x1 b}:=li (z2z n a2 a1 x1 b) (fun c=>⟨[(0,.sl 2 (x1.map z09)),(1,aI a1),(2,aI a2),(7,.row 7031),(8,aI c.1)],[(7031,.row 102 2 (c.2.map z09))]⟩) fun _ _=>z2z.eq_2 ..
abbrev zmx {n a2 a1 a0 b}:=li (z88 n a2 a1 a0 b) (fun c=>⟨[(0,.sl 2 (a0.map z09)),(2,aI a2),(4,.ptr 4 0),(7,aI c)],[(4,.box 209 (zo4 a1))]⟩) fun _ _=>z88.eq_2 ..
abbrev zjl {n a3 b c}:=li (z5e n a3 b c) (fun d=>⟨[(8,.ptr 8 0),(10,.ptr 10 0),(15,.ptr 15 0),(20,aI d.1)],[(8,.box 115 (z2a a3)),(10,.box 60 [aI 0,.nils,.nils]),(15,.box 60 [aI a3.fTo,.sl 4 (b.map z0b),.sl 2 (d.2.map z09)])]⟩) fun _ _=>z5e.eq_2 ..
abbrev zjm {n a3 b c d e}:=li (z5f n a3 b c d e) (fun f=>⟨[(8,.ptr 8 0),(10,.ptr 10 0),(15,.ptr 15 0),(18,.ptr 18 0),(19,aI f)],[(8,.box 115 (z2a a3)),(10,.box 60 [aI 0,.nils,.nils]),(15,.box 60 [aI a3.fTo,.sl 4 (c.map z0b),.sl 2 (b.map z09)]),(18,.box 220 (zcv d))]⟩) fun _ _=>z5f.eq_2 ..
abbrev zjn {n a4 a3 a2 a1 b c}:=li (z5g n a4 a3 a2 a1 b c) (fun d=>⟨[(1,.sl 5 (a1.map z02)),(7,.ptr 7 0),(8,.ptr 8 0),(9,.ptr 9 0),(10,.ptr 10 0),(15,.ptr 15 0),(17,aI d)],[(7,.box 60 (z12 a2)),(8,.box 115 (z2a a3)),(9,.box 71 (z16 a4)),(10,.box 60 [aI 0,.nils,.nils]),(15,.box 60 [aI a3.fTo,.nils,.sl 2 (b.map z09)])]⟩) fun _ _=>z5g.eq_2 ..
attribute [instance] zm5 zln zlo zir zlf zn0 zog zkm zkl zkk zmx zjl zjm zjn
instance y35 {n a0}:CI E0 (z9t n a0) true 64 [.sl 5 (a0.map z02)] aI:=by unfold z9t;exact CI.w [] Tryz.func64
instance y43 {n a0 a1}:CI E0 (z2q n a0 a1) true 32 [z0n a0,.sl 5 (a1.map z02)] aI:=by unfold z2q;exact CI.w [] Tryz.func32
instance y2o {n}:CI E0 (zdv n) false 65 [] z01:=by unfold zdv;exact CI.w [] Tryz.func65
instance y2s {n a0 a1}:CI E0 (zbk n a0 a1) false 166 [.sl 5 (a0.map z02),z1e a1] (fun r=>.tup [z02 r.1,.bool (r.2)]):=by unfold zbk;exact CI.w [] Tryz.func166
instance y2t {n a0 a1 a2}:CI E0 (zdw n a0 a1 a2) false 196 [.sl 5 (a0.map z02),aI a1,.sl 4 (a2.map z0b)] zcs:=⟨fun {r} hF=>by
 unfold zdw at hF
 refine cw Tryz.func196 ?_
 repeat' first
  |refine AW.nstO (er:=z02) 71 5 hF 13 rfl (fun hF=>?_)
  |refine AW.frrO (ety:=71) (sz:=5) z02 hF 13 rfl (fun hF=>?_)
  |refine AW.regO hF fun hF=>?_
  |refine AW.stepU [9,7,2] ?_;conv=>whnf
  |refine z17.o hF (fun hF=>?_) fun hF=>?_
  |refine z17.f ?_
  |refine MakX.on hF (fun m hF=>?_)
  |refine IdxX.A hF fun x hF=>?_
  |refine z1n.I hF fun a hF=>?_
  |refine OpX.ixc hF rfl rfl rfl rfl rfl rfl rfl rfl (fun hF=>?_)
  |refine OpX.ntk z02 hF rfl rfl rfl rfl rfl rfl rfl rfl rfl rfl (fun q hF=>?_)
  |refine AppX.oA hF fun l hF=>?_
  |refine OpX.npt z02 hF rfl rfl rfl rfl rfl rfl rfl rfl rfl rfl rfl (fun l hF=>?_)
  |exact ⟨_,hF,LeX.a []⟩
  |refine z8k.I hF (LeX.a []) fun m v hF=>?_
  |refine AndA ?_
  |refine EqX.A ?_
  |exact RetX.oB hF⟩
def zt0 (r:z0i):AV:=.agg [.sl 1 (List.map (fun q=>AV.sl 5 (List.map z02 q)) (r.fVars))]
instance zq0 {n a0 a1}:CI E0 (z9f n a0 a1) false 167 [.sl 5 (a0.map z02),z01 a1] zcs:=by unfold z9f;exact CI.w [] Tryz.func167
instance zyu {n a0 a1 a2}:CI E0 (z7a n a0 a1 a2) true 168 [z0t a0,zcs a1,z02 a2] (fun r=>.bool (r)):=by unfold z7a;exact CI.w [1] Tryz.func168
instance y2n {n a0 a1 a2 a3}:CI E0 (zbi n a0 a1 a2 a3) true 125 [z0n a0,.sl 5 (a1.map z02),z01 a2,z02 a3] (fun r=>.bool (r)):=by unfold zbi;exact CI.w [] Tryz.func125
instance y45 {n a0 a1}:CI E0 (zc0 n a0 a1) false 126 [z0n a0,aI a1] (fun r=>.sl 17 (r.map z0v)):=⟨fun {r} hF=>by
 unfold zc0 at hF
 refine cw Tryz.func126 ?_
 repeat' first
  |refine AW.regO hF fun hF=>?_
  |refine AW.stepU [5] ?_;conv=>whnf
  |refine z17.o hF (fun hF=>?_) fun hF=>?_
  |refine IdxX.A hF fun x hF=>?_
  |refine AppX.oA hF fun l hF=>?_
  |exact ⟨_,hF,LeX.a [(7029,29)]⟩
  |exact ⟨_,hF,LeX.a []⟩
  |refine z8k.I hF ?_ fun m v hF=>?_
  |exact LeX.trans (LeX.adopt 5 7029 115 17 rfl rfl) (LeX.a [])
  |exact RetX.oB hF⟩
instance y6n {n a0 a1}:CI E0 (zcx n a0 a1) true 169 [.sl 1 (a0.map aI),aI a1] (fun r=>.bool (r)):=by unfold zcx;exact CI.w [] Tryz.func169
instance y12 {n a0 a1}:CI E0 (z8u n a0 a1) false 173 [.sl 2 (a0.map z09),aI a1] (fun r=>.sl 2 (r.map z09)):=⟨fun {r} hF=>by
 unfold z8u at hF
 refine cw Tryz.func173 ?_
 repeat' first
  |refine AW.regO hF fun hF=>?_
  |refine AW.stepU [5] ?_;conv=>whnf
  |refine z17.o hF (fun hF=>?_) fun hF=>?_
  |refine IdxX.A hF fun x hF=>?_
  |refine AppX.oA hF fun l hF=>?_
  |exact ⟨_,hF,LeX.a [(7026,26)]⟩
  |exact ⟨_,hF,LeX.a []⟩
  |refine z8k.I hF ?_ fun m v hF=>?_
  |exact LeX.trans (LeX.adopt 5 7026 102 2 rfl rfl) (LeX.a [])
  |exact RetX.oB hF⟩
instance y11 {n a0 a1 a2}:CI E0 (zav n a0 a1 a2) false 171 [.sl 2 (a0.map z09),aI a1,aI a2] (fun r=>.sl 2 (r.map z09)):=⟨fun {r} hF=>by
 unfold zav at hF
 refine cw Tryz.func171 ?_
 repeat' first
  |refine AW.jI hF (fun v hF=>?_) fun hF=>?_
  |refine AW.regO hF fun hF=>?_
  |refine AW.stepU [4] ?_;conv=>whnf
  |refine z17.o hF (fun hF=>?_) fun hF=>?_
  |refine z1n.I hF fun a hF=>?_
  |refine AppX.oA hF fun l hF=>?_
  |refine SlsX.o z09 hF (fun l hF=>?_)
  |refine IdxX.A hF fun x hF=>?_
  |exact ⟨_,hF,LeX.a [(7031,31)]⟩
  |exact ⟨_,hF,LeX.a []⟩
  |refine z8k.I hF ?_ fun m v hF=>?_
  |exact LeX.trans (LeX.adopt 7 7031 102 2 rfl rfl) (LeX.a [])
  |exact RetX.oB hF⟩
instance y42 {n a0 a1 a2}:CI E0 (zby n a0 a1 a2) true 172 [.sl 2 (a0.map z09),z26 a1,aI a2] (fun r=>.bool (r)):=by unfold zby;exact CI.w [] Tryz.func172
end
noncomputable section
abbrev zjo {n a4 a3 a2 a1 b}:=li (z5h n a4 a3 a2 a1 b) (fun c=>⟨[(1,.sl 5 (a1.map z02)),(7,.ptr 7 0),(8,.ptr 8 0),(9,.ptr 9 0),(10,.ptr 10 0),(15,.ptr 15 0),(16,aI c.1)],[(7,.box 60 (z12 a2)),(8,.box 115 (z2a a3)),(9,.box 71 (z16 a4)),(10,.box 60 [aI 0,.nils,.nils]),(15,.box 60 [aI a3.fTo,.nils,.sl 2 (c.2.map z09)])]⟩) fun _ _=>z5h.eq_2 ..
abbrev zjr {n a4 a3 a2 a1}:=jf (z19 n a4 a3 a2 a1) (fun b=>⟨[(1,.sl 5 (a1.map z02)),(7,.ptr 7 0),(8,.ptr 8 0),(9,.ptr 9 0),(10,.ptr 10 0),(70,.bool (b))],[(7,.box 60 (z12 a2)),(8,.box 115 (z2a a3)),(9,.box 71 (z16 a4)),(10,.box 60 [aI 0,.nils,.nils])]⟩) fun _=>z19.eq_1 ..
abbrev zjq {n a4 a3 a2 a1 x1 x2 b c}:=jf (z3j n a4 a3 a2 a1 x1 x2 b c) (fun d=>⟨[(1,.sl 5 (a1.map z02)),(7,.ptr 7 0),(8,.ptr 8 0),(9,.ptr 9 0),(10,.ptr 10 0),(12,.ptr 12 0),(13,.sl 11 (x2.fGuards.map z0t)),(14,aI b),(54,.bool (d))],[(7,.box 60 (z12 a2)),(8,.box 115 (z2a a3)),(9,.box 71 (z16 a4)),(10,.box 60 [aI 0,.nils,.nils]),(12,.box 220 (zcv x1))]⟩) fun _=>z3j.eq_1 ..
abbrev zjp {n a4 a3 a2 a1 x1 x2 b}:=li (z2l n a4 a3 a2 a1 x1 x2 b) (fun c=>⟨[(1,.sl 5 (a1.map z02)),(7,.ptr 7 0),(8,.ptr 8 0),(9,.ptr 9 0),(10,.ptr 10 0),(12,.ptr 12 0),(13,.sl 11 (x2.fGuards.map z0t)),(14,aI c)],[(7,.box 60 (z12 a2)),(8,.box 115 (z2a a3)),(9,.box 71 (z16 a4)),(10,.box 60 [aI 0,.nils,.nils]),(12,.box 220 (zcv x1))]⟩) fun _ _=>z2l.eq_2 ..
abbrev zox {n a1 a0 b}:=jf (z6u n a1 a0 b) (fun c=>⟨[(0,.sl 1 (a0.map z0c)),(3,.ptr 3 0),(5,aI b),(34,.bool (c))],[(3,.box 44 (zcu a1))]⟩) fun _=>z6u.eq_1 ..
abbrev zow {n a1 a0 b c d}:=jf (z6t n a1 a0 b c d) (fun e=>⟨[(0,.sl 1 (a0.map z0c)),(3,.ptr 3 0),(5,aI b),(19,.bool (e))],[(3,.box 44 (zcu a1))]⟩) fun _=>z6t.eq_1 ..
abbrev zov {n a1 a0 b}:=li (z4k n a1 a0 b) (fun c=>⟨[(0,.sl 1 (a0.map z0c)),(3,.ptr 3 0),(5,aI c)],[(3,.box 44 (zcu a1))]⟩) fun _ _=>z4k.eq_2 ..
abbrev zok {n a3 a2 a1 a0 x4 c}:=li (z4h n a3 a2 a1 a0 x4 c) (fun b=>⟨[(1,.sl 5 (a1.map z02)),(4,.ptr 4 0),(6,.ptr 6 0),(7,.ptr 7 0),(10,.sl 3 (b.1.map z01)),(11,.sl 1 (b.2.1.map z0c)),(12,.sl 17 (x4.map z0v)),(13,aI b.2.2)],[(4,.box 25 (z0g a0)),(6,.box 60 (z12 a2)),(7,.box 71 (z16 a3))]⟩) fun _ _=>z4h.eq_2 ..
abbrev zol {n a3 a2 a1 a0}:=jt (z6q n a3 a2 a1 a0) (fun b=>⟨[(1,.sl 5 (a1.map z02)),(4,.ptr 4 0),(6,.ptr 6 0),(7,.ptr 7 0),(10,.sl 3 (b.map z01)),(11,.nils)],[(4,.box 25 (z0g a0)),(6,.box 60 (z12 a2)),(7,.box 71 (z16 a3))]⟩) fun _=>z6q.eq_1 ..
abbrev zom {n a3 a2 a1 a0 d b c e}:=li (z8v n a3 a2 a1 a0 d b c e) (fun f=>⟨[(1,.sl 5 (a1.map z02)),(2,.sl 3 (a2.map z01)),(4,.ptr 4 0),(7,.ptr 7 0),(10,.sl 3 (b.map z01)),(11,.sl 1 (f.1.map z0c)),(12,aI d.2.2),(14,.sl 1 (c.map z0c)),(16,aI f.2)],[(4,.box 25 (z0g a0)),(7,.box 71 (z16 a3))]⟩) fun _ _=>z8v.eq_2 ..
abbrev zon {n a3 a2 a1 a0 b c d}:=li (z8w n a3 a2 a1 a0 b c d) (fun e=>⟨[(1,.sl 5 (a1.map z02)),(2,.sl 3 (a2.map z01)),(4,.ptr 4 0),(7,.ptr 7 0),(10,.sl 3 (e.1.map z01)),(11,.sl 1 (b.2.1.map z0c)),(12,aI b.2.2),(13,.sl 3 (c.1.map z01)),(14,.sl 1 (c.2.map z0c)),(15,aI e.2)],[(4,.box 25 (z0g a0)),(7,.box 71 (z16 a3))]⟩) fun _ _=>z8w.eq_2 ..
abbrev zoo {n a3 a2 a1 a0 c}:=li (z8x n a3 a2 a1 a0 c) (fun b=>⟨[(1,.sl 5 (a1.map z02)),(2,.sl 3 (a2.map z01)),(4,.ptr 4 0),(7,.ptr 7 0),(10,.sl 3 (b.1.map z01)),(11,.sl 1 (b.2.1.map z0c)),(12,aI b.2.2)],[(4,.box 25 (z0g a0)),(7,.box 71 (z16 a3))]⟩) fun _ _=>z8x.eq_2 ..
attribute [instance] zjo zjr zjq zjp zox zow zov zok zol zom zon zoo
instance zzk {n a0 a1 a2 a3 a4}:CI E0 (z5r n a0 a1 a2 a3 a4) false 127 [z0n a0,.sl 5 (a1.map z02),z01 a2,z0v a3,z02 a4] (fun r=>.tup [z01 r.1,.bool (r.2)]):=⟨fun {r} hF=>by
 unfold z5r at hF
 refine Con.env (E:=E0b) rfl rfl ?_
 refine Con.walk _ Tryz.func127 rfl (z0x Tryz.func127 rfl rfl) rfl (Or.inl rfl) ?_
 repeat' first
  |refine AW.jI hF (fun v hF=>?_) fun hF=>?_
  |refine AW.regO hF fun hF=>?_
  |refine AW.frzO hF 125 rfl (fun hF=>?_)
  |refine AW.stepU [21,6,8] ?_;conv=>whnf
  |refine z17.o hF (fun hF=>?_) fun hF=>?_
  |refine z1n.I hF fun a hF=>?_
  |refine IdxX.A hF fun x hF=>?_
  |refine AppX.oA0 hF fun l hF=>?_
  |refine OpX.bldS z0b hF rfl rfl rfl rfl rfl rfl rfl rfl rfl rfl rfl rfl rfl rfl (fun l hF=>?_)
  |refine AppX.oA hF fun l hF=>?_
  |refine OpX.bldR z02 hF rfl rfl rfl rfl rfl rfl rfl rfl rfl rfl rfl rfl rfl rfl rfl rfl (by first|exact SubR.refl _|(repeat' first|exact SubR.nil|refine SubR.cons ?_ ?_|exact SubL.nil|refine SubL.cons ?_ ?_|exact Sub.refl _|exact Sub.nil _)) rfl (fun l hF=>?_)
  |refine zaq.oE hF 130 zt0 rfl (fun a h=>Con.env rfl rfl (zq0.h h)) rfl rfl (fun a hF=>?_)
  |exact ⟨_,hF,LeX.a []⟩
  |refine z8k.I hF (LeX.a []) fun m v hF=>?_
  |refine IdxX.oD hF z40 (fun x hF=>?_)
  |refine z1n.S hF fun a hF=>?_
  |refine AndA ?_
  |exact RetX.oB hF⟩
instance y6u {n a0 a1}:CI E0 (z9g n a0 a1) false 67 [.sl 1 (a0.map z0c),z0c a1] (fun r=>.sl 1 (r.map z0c)):=⟨fun {r} hF=>by
 unfold z9g at hF
 refine cw Tryz.func67 ?_
 repeat' first
  |refine AW.jI hF (fun v hF=>?_) fun hF=>?_
  |refine AW.regO hF fun hF=>?_
  |refine AW.stepU [2,4] ?_;conv=>whnf
  |refine z17.o hF (fun hF=>?_) fun hF=>?_
  |refine SlsX.o z0c hF (fun l hF=>?_)
  |refine AppX.oA0 hF fun l hF=>?_
  |refine AppX.oA hF fun l hF=>?_
  |refine IdxX.A hF fun x hF=>?_
  |refine z1n.I hF fun a hF=>?_
  |exact ⟨_,hF,LeX.a []⟩
  |refine z8k.I hF (LeX.a []) fun m v hF=>?_
  |refine AndA ?_
  |exact RetX.oB hF⟩
instance y6p {n a0 a1 a2 a3}:CI E0 (zcy n a0 a1 a2 a3) false 88 [z0n a0,.sl 5 (a1.map z02),z01 a2,z02 a3] (fun r=>.tup [.sl 3 (r.1.map z01),.sl 1 (r.2.map z0c)]):=⟨fun {r} hF=>by
 unfold zcy at hF
 refine cw Tryz.func88 ?_
 repeat' first
  |refine AW.jI2 hF (fun v hF=>?_) fun hF=>?_
  |refine AW.regO hF fun hF=>?_
  |refine AW.stepU [3,11] ?_;conv=>whnf
  |refine z17.o hF (fun hF=>?_) fun hF=>?_
  |refine z1n.I hF fun a hF=>?_
  |refine IdxX.A hF fun x hF=>?_
  |exact ⟨_,hF,LeX.a []⟩
  |refine z8k.I hF ?_ fun m v hF=>?_
  |exact LeX.pa 11 (LeX.a [])
  |refine z1n.S hF fun a hF=>?_
  |exact ⟨_,hF,LeX.pa 10 (LeX.a [])⟩
  |refine AndA ?_
  |exact RetX.oB hF⟩
instance y6q {n a0 a1 a2 a3}:CI E0 (zcz n a0 a1 a2 a3) false 66 [z0n a0,.sl 5 (a1.map z02),.sl 3 (a2.map z01),z02 a3] (fun r=>.tup [.sl 3 (r.1.map z01),.sl 1 (r.2.map z0c)]):=⟨fun {r} hF=>by
 unfold zcz at hF
 refine cw Tryz.func66 ?_
 repeat' first
  |refine AW.step ?_;conv=>whnf
  |refine z17.o hF (fun hF=>?_) fun hF=>?_
  |refine IdxX.A hF fun x hF=>?_
  |refine z1n.I hF fun a hF=>?_
  |exact ⟨_,hF,LeX.a []⟩
  |refine z8k.I hF ?_ fun m v hF=>?_
  |exact LeX.a []
  |exact LeX.pa 10 (LeX.pa 11 (LeX.a []))
  |refine AndA ?_
  |exact RetX.oB hF⟩
end
noncomputable section
abbrev zkp {n a2 a1 a0 d e b c}:=jf (z43 n a2 a1 a0 d e b c) (fun f=>⟨[(1,.sl 5 (a1.map z02)),(2,aI a2),(3,.ptr 3 0),(10,.sl 1 (b.map z0c)),(11,aI d.2.2),(12,.sl 3 (c.map z01)),(55,.bool (f))],[(3,.box 25 (z0g a0))]⟩) fun _=>z43.eq_1 ..
abbrev zkn {n a2 a1 a0 b c d}:=li (z69 n a2 a1 a0 b c d) (fun e=>⟨[(1,.sl 5 (a1.map z02)),(2,aI a2),(3,.ptr 3 0),(10,.sl 1 (e.1.map z0c)),(11,aI b.2.2),(12,.sl 3 (c.1.map z01)),(13,.sl 1 (c.2.map z0c)),(14,aI e.2)],[(3,.box 25 (z0g a0))]⟩) fun _ _=>z69.eq_2 ..
abbrev zko {n a2 a1 a0 c}:=li (z30 n a2 a1 a0 c) (fun b=>⟨[(1,.sl 5 (a1.map z02)),(2,aI a2),(3,.ptr 3 0),(9,.sl 3 (b.1.map z01)),(10,.sl 1 (b.2.1.map z0c)),(11,aI b.2.2)],[(3,.box 25 (z0g a0))]⟩) fun _ _=>z30.eq_2 ..
abbrev zle {n a1 a0}:=jf (z4s n a1 a0) (fun b=>⟨[(1,.sl 5 (a1.map z02)),(2,.ptr 2 0),(15,.bool (b))],[(2,.box 25 (z0g a0))]⟩) fun _=>z4s.eq_1 ..
abbrev zng {n}:=jf (z3v n) (fun b=>⟨[(4,.bool (b))],[]⟩) fun _=>z3v.eq_1 ..
abbrev zu7 {n a0 b}:=li (zb7 n a0 b) (fun c=>⟨[(0,.sl 5 (a0.map z02)),(3,.row 9),(10,.sl 5 (a0.map z02)),(11,aI (((a0.map z02).length:Int))),(12,aI c.1)],[(9,.mp (List.map (encM zb5 AV.bool) (c.2)))]⟩) fun _ _=>zb7.eq_2 ..
abbrev zz1 {n a1 a0 b}:=li (zfm n a1 a0 b) (fun c=>⟨[(8,.ptr 24 0),(25,.sl 5 (a1.map z02)),(26,aI (((a1.map z02).length:Int))),(27,aI c.1)],[(24,.box 180 [aI a0.fVars,aI a0.fScopes,.sl 1 (a0.fStates.map z0p),.sl 17 (a0.fEdges.map z0v),.row 22]),(22,.mp (List.map (encM z1e z02) (c.2)))]⟩) fun _ _=>zfm.eq_2 ..
abbrev znm {n a1 a0 b c}:=jf (z62 n a1 a0 b c) (fun d=>⟨[(0,.ref [aI a0.fa.fVars,aI a0.fa.fScopes,.sl 1 (a0.fa.fStates.map z0p),.sl 17 (a0.fa.fEdges.map z0v),.mapv (List.map (encM z1e z02) (a0.fheld))]),(3,.ptr 3 0),(84,.sl 2 (a1.fStarts.map z09)),(85,aI (((a1.fStarts.map z09).length:Int))),(86,aI b),(115,.bool (d))],[(3,.box 60 (z12 a1))]⟩) fun _=>z62.eq_1 ..
abbrev znn {n a1 a0 b c e}:=jf (z2w n a1 a0 b c e) (fun d=>⟨[(0,.ref [aI a0.fa.fVars,aI a0.fa.fScopes,.sl 1 (a0.fa.fStates.map z0p),.sl 17 (a0.fa.fEdges.map z0v),.mapv (List.map (encM z1e z02) (a0.fheld))]),(3,.ptr 3 0),(9,aI b),(10,.ptr 10 0),(84,.sl 2 (a1.fStarts.map z09)),(85,aI (((a1.fStarts.map z09).length:Int))),(86,aI b),(91,.bool (d))],[(3,.box 60 (z12 a1)),(10,.box 102 (zsu e))]⟩) fun _=>z2w.eq_1 ..
abbrev zp4 {n a1 a0 b}:=li (z2j n a1 a0 b) (fun c=>⟨[(0,.ref [aI a0.fa.fVars,aI a0.fa.fScopes,.sl 1 (a0.fa.fStates.map z0p),.sl 17 (a0.fa.fEdges.map z0v),.mapv (List.map (encM z1e z02) (a0.fheld))]),(3,.ptr 3 0),(84,.sl 2 (a1.fStarts.map z09)),(85,aI (((a1.fStarts.map z09).length:Int))),(86,aI c)],[(3,.box 60 (z12 a1))]⟩) fun _ _=>z2j.eq_2 ..
abbrev znk {n a1 a0 b c e}:=jf (z60 n a1 a0 b c e) (fun d=>⟨[(0,.ref [aI a0.fa.fVars,aI a0.fa.fScopes,.sl 1 (a0.fa.fStates.map z0p),.sl 17 (a0.fa.fEdges.map z0v),.mapv (List.map (encM z1e z02) (a0.fheld))]),(3,.ptr 3 0),(8,.bool (e)),(32,.sl 4 (a1.fBindings.map z0b)),(33,aI (((a1.fBindings.map z0b).length:Int))),(34,aI b),(63,.bool (d))],[(3,.box 60 (z12 a1))]⟩) fun _=>z60.eq_1 ..
abbrev znl {n a1 a0 b c e f}:=jf (z61 n a1 a0 b c e f) (fun d=>⟨[(0,.ref [aI a0.fa.fVars,aI a0.fa.fScopes,.sl 1 (a0.fa.fStates.map z0p),.sl 17 (a0.fa.fEdges.map z0v),.mapv (List.map (encM z1e z02) (a0.fheld))]),(3,.ptr 3 0),(5,aI b),(6,.ptr 6 0),(8,.bool (f)),(32,.sl 4 (a1.fBindings.map z0b)),(33,aI (((a1.fBindings.map z0b).length:Int))),(34,aI b),(49,.bool (d))],[(3,.box 60 (z12 a1)),(6,.box 76 (y3r e))]⟩) fun _=>z61.eq_1 ..
abbrev zp5 {n a1 a0 b}:=li (z4m n a1 a0 b) (fun c=>⟨[(0,.ref [aI a0.fa.fVars,aI a0.fa.fScopes,.sl 1 (a0.fa.fStates.map z0p),.sl 17 (a0.fa.fEdges.map z0v),.mapv (List.map (encM z1e z02) (a0.fheld))]),(3,.ptr 3 0),(32,.sl 4 (a1.fBindings.map z0b)),(33,aI (((a1.fBindings.map z0b).length:Int))),(34,aI c)],[(3,.box 60 (z12 a1))]⟩) fun _ _=>z4m.eq_2 ..
abbrev zp6 {n a1 a0}:=jf (z6y n a1 a0) (fun b=>⟨[(0,.ref [aI a0.fa.fVars,aI a0.fa.fScopes,.sl 1 (a0.fa.fStates.map z0p),.sl 17 (a0.fa.fEdges.map z0v),.mapv (List.map (encM z1e z02) (a0.fheld))]),(3,.ptr 3 0),(11,.bool (b))],[(3,.box 60 (z12 a1))]⟩) fun _=>z6y.eq_1 ..
attribute [instance] zkp zkn zko zle zng zu7 zz1 znm znn zp4 znk znl zp5 zp6
instance y13 {n a0 a1 a2}:CI E0 (zaw n a0 a1 a2) false 33 [z0n a0,.sl 5 (a1.map z02),aI a2] (fun r=>.tup [.sl 3 (r.1.map z01),.sl 1 (r.2.1.map z0c),.bool (r.2.2)]):=⟨fun {r} hF=>by
 unfold zaw at hF
 refine cw Tryz.func33 ?_
 repeat' first
  |refine AW.jI hF (fun v hF=>?_) fun hF=>?_
  |refine AW.regO hF fun hF=>?_
  |refine AW.stepU [11] ?_;conv=>whnf
  |refine z17.o hF (fun hF=>?_) fun hF=>?_
  |refine z1n.I hF fun a hF=>?_
  |refine IdxX.A hF fun x hF=>?_
  |exact ⟨_,hF,LeX.a []⟩
  |refine z8k.I hF ?_ fun m v hF=>?_
  |exact LeX.a []
  |exact LeX.pa 10 (LeX.a [])
  |refine AndA ?_
  |exact RetX.oB hF⟩
instance y2m {n a0 a1}:CI E0 (z7x n a0 a1) true 11 [z0n a0,.sl 5 (a1.map z02)] (fun r=>.bool (r)):=by unfold z7x;exact CI.w [1] Tryz.func11
instance y41 {n a0 a1}:CI E0 (z3h n a0 a1) true 39 [z0n a0,.sl 5 (a1.map z02)] aI:=by unfold z3h;exact CI.w [] Tryz.func39
instance y4g {n a0 a1}:CI E0 (z8m n a0 a1) true 22 [z0n a0,.sl 5 (a1.map z02)] (fun r=>.bool (r)):=by unfold z8m;exact CI.w [1] Tryz.func22
instance y4f {n}:CI E0 (z8l n) false 34 [] z0n:=⟨fun {r} hF=>by
 unfold z8l at hF
 refine cw Tryz.func34 ?_
 repeat' first
  |refine AW.step ?_;conv=>whnf
  |refine z17.o hF (fun hF=>?_) fun hF=>?_
  |refine z17.t ?_
  |refine z17.f ?_
  |refine z1n.I hF fun a hF=>?_
  |refine MakX.o z0p hF (by first|exact SubL.refl _|(repeat' first|exact SubL.nil|refine SubL.cons ?_ ?_|exact Sub.refl _|exact Sub.nil _|refine Sub.agg ?_)) (fun l hF=>?_)
  |refine AndA ?_
  |refine EqX.A ?_
  |exact RetX.oB hF⟩
instance ydw {n a0}:CI E0 (zg4 n a0) true 106 [z02 a0] (fun r=>.bool (r)):=by unfold zg4;exact CI.w [] Tryz.func106
instance yk3 {n a0}:CI E0 (zjj n a0) true 148 [z02 a0] z1e:=by unfold zjj;exact CI.w [] Tryz.func148
instance ye0 {n a0 a1}:CI E0 (zg9 n a0 a1) true 107 [z02 a0,z02 a1] aI:=by unfold zg9;exact CI.w [] Tryz.func107
instance yjv {n a0}:CI E0 (zh1 n a0) true 108 [z02 a0] zb5:=by unfold zh1;exact CI.w [] Tryz.func108
theorem ygy (a b:z9l):eqK (zb5 a) (zb5 b)=some (decide (a=b)):=by cases a;cases b;simp [zb5,eqK,eqL,eq1,aI,zjc]
instance ye6 {n a0}:CI E0 (zfj n a0) true 70 [.sl 5 (a0.map z02)] aI:=⟨fun {r} hF=>by
 unfold zfj at hF
 refine cw Tryz.func70 ?_
 repeat' first
  |refine AW.step ?_;conv=>whnf
  |refine z17.o hF (fun hF=>?_) fun hF=>?_
  |refine z17.f ?_
  |refine IdxX.A hF fun x hF=>?_
  |refine z1n.I hF fun a hF=>?_
  |refine LkX.o zb5 AV.bool hF (by first|rfl|kernel_rfl) ygy (by repeat' first|exact Sub.nil _|exact Sub.refl _|refine Sub.agg ?_|refine Sub.tup ?_|refine Sub.fn ?_|exact SubL.nil|refine SubL.cons ?_ ?_|refine Sub.sl _ ?_|exact SubE.nil|refine SubE.cons ?_ ?_) (fun v b hF=>?_)
  |refine UpX.o zb5 AV.bool hF (by first|rfl|kernel_rfl) ygy (by repeat' first|exact Sub.nil _|exact Sub.refl _|refine Sub.agg ?_|refine Sub.tup ?_|refine Sub.fn ?_|exact SubL.nil|refine SubL.cons ?_ ?_|refine Sub.sl _ ?_|exact SubE.nil|refine SubE.cons ?_ ?_) (fun l hF=>?_)
  |exact ⟨_,hF,LeX.a []⟩
  |refine z8k.I hF (LeX.a []) fun m v hF=>?_
  |refine AndA ?_
  |exact RetX.oB hF⟩
instance y81 {n a0 a1}:CI E0 (z8q n a0 a1) true 36 [z0n a0,.sl 5 (a1.map z02)] aI:=by unfold z8q;exact CI.w [] Tryz.func36
instance yjx {n}:CI E0 (zd9 n) false 47 [] z01:=by unfold zd9;exact CI.w [] Tryz.func47
theorem ygx (a b:z1h):eqK (z1e a) (z1e b)=some (decide (a=b)):=by cases a;cases b;simp [z1e,eqK,eqL,eq1,aI,zjc]
def zbg:Option z0m->AV
 |none=>.nilp
 |some x=>.ref [aI (x.fa.fVars),aI (x.fa.fScopes),.sl 1 (x.fa.fStates.map z0p),.sl 17 (x.fa.fEdges.map z0v),.mapv (List.map (encM z1e z02) (x.fheld))]
def zbv (r:(Option z0m)×Int):AV:=.tup [zbg (r.1),aI (r.2)]
instance zii {n a0 a1}:CI E0 (zei n a0 a1) false 82 [z0n a0,.sl 5 (a1.map z02)] (fun r=>.tup [zbg (r.1),aI r.2]):=⟨fun {r} hF=>by
 unfold zei at hF
 refine cw Tryz.func82 ?_
 repeat' first
  |refine AW.step ?_;conv=>whnf
  |refine z17.o hF (fun hF=>?_) fun hF=>?_
  |refine z1n.I hF fun a hF=>?_
  |refine IdxX.A hF fun x hF=>?_
  |refine OpX.nckP rfl rfl rfl rfl rfl ?_
  |refine UpX.o z1e z02 hF (by first|rfl|kernel_rfl) ygx (by repeat' first|exact Sub.nil _|exact Sub.refl _|refine Sub.agg ?_|refine Sub.tup ?_|refine Sub.fn ?_|exact SubL.nil|refine SubL.cons ?_ ?_|refine Sub.sl _ ?_|exact SubE.nil|refine SubE.cons ?_ ?_) (fun l hF=>?_)
  |exact ⟨_,hF,LeX.a []⟩
  |refine z8k.I hF (LeX.a []) fun m v hF=>?_
  |refine AndA ?_
  |exact RetX.oB hF⟩
end
end Go.Proofs.YtidhlpjgifoneaaGreat
