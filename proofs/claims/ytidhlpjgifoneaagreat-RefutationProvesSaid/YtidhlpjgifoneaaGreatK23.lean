/- What some functions compute, over plain values. -/
import Derived.Test.YtidhlpjgifoneaaGreatK22
import Derived.Test.YtidhlpjgifoneaaGreatK21
set_option linter.unusedVariables false
set_option linter.unusedSimpArgs false
set_option maxRecDepth 100000
set_option maxHeartbeats 8000000
namespace Go.Proofs.YtidhlpjgifoneaaGreat
open Go.RowKit List
noncomputable section
@[reducible,instance] def ypd {n a0 b}:=li (zi5 n a0 b) (fun c=>⟨[(3,aI 0),(6,.sl 1 (a0.map aI)),(7,aI (((a0.map aI).length:Int))),(8,aI c)],[]⟩) fun _ _=>zi5.eq_2 ..
instance ypq {n a0}:CI E0 (zh5 n a0) true 133 [.sl 1 (a0.map aI)] aI:=by unfold zh5;exact CI.w [] Tryz.func133
instance yjt {n a0 a1}:CI E0 (zig n a0 a1) true 134 [z19 a0,z19 a1] aI:=by unfold zig;exact CI.w [] Tryz.func134
instance ya9 {n a0 a1}:CI E0 (zf5 n a0 a1) true 132 [z0b a0,z0b a1] aI:=by unfold zf5;exact CI.w [] Tryz.func132
@[reducible,instance] def zzz {n a1 a0 b}:=li (z8c n a1 a0 b) (fun c=>⟨[(0,.sl 4 (a0.map z0b)),(1,.sl 4 (a1.map z0b)),(2,.fn 132 []),(11,.sl 4 (a0.map z0b)),(12,aI (((a0.map z0b).length:Int))),(13,aI c)],[]⟩) fun _ _=>z8c.eq_2 ..
instance y3r {n a0 a1}:CI E0 (zbz n a0 a1) true 131 [.sl 4 (a0.map z0b),.sl 4 (a1.map z0b),.fn 132 []] aI:=by unfold zbz;exact CI.w [] Tryz.func131
instance yee {n a0 a1}:CI E0 (zf6 n a0 a1) true 92 [z0c a0,z0c a1] aI:=by unfold zf6;exact CI.w [] Tryz.func92
instance yed {n a0 a1}:CI E0 (zgh n a0 a1) true 165 [z08 a0,z08 a1] aI:=by unfold zgh;exact CI.w [] Tryz.func165
@[reducible,instance] def zs4 {n a1 a0 b}:=li (z59 n a1 a0 b) (fun c=>⟨[(0,.sl 2 (a0.map z08)),(1,.sl 2 (a1.map z08)),(2,.fn 165 []),(11,.sl 2 (a0.map z08)),(12,aI (((a0.map z08).length:Int))),(13,aI c)],[]⟩) fun _ _=>z59.eq_2 ..
instance zus {n a0 a1}:CI E0 (z9y n a0 a1) true 164 [.sl 2 (a0.map z08),.sl 2 (a1.map z08),.fn 165 []] aI:=by unfold z9y;exact CI.w [] Tryz.func164
instance yig {n a0 a1}:CI E0 (zhl n a0 a1) true 122 [z01 a0,z01 a1] aI:=by unfold zhl;exact CI.w [] Tryz.func122
@[reducible,instance] def yfm {n}:=jf (z7z n) (fun b=>⟨[(2,.bool (b))],[]⟩) fun _=>z7z.eq_1 ..
instance yjp {n a0}:CI E0 (zid n a0) true 117 [z02 a0] (fun r=>.bool (r)):=by unfold zid;exact CI.w [1] Tryz.func117
instance yp9 {n a0}:CI E0 (zic n a0) true 115 [z02 a0] z19:=by unfold zic;exact CI.w [] Tryz.func115
instance yn2 {n a0 a1}:CI E0 (zi1 n a0 a1) true 116 [z19 a0,z19 a1] aI:=by unfold zi1;exact CI.w [] Tryz.func116
instance yjq {n a0 a1}:CI E0 (zgf n a0 a1) true 155 [z0b a0,.ref (z16 a1)] (fun r=>.bool (r)):=by unfold zgf;exact CI.w [] Tryz.func155
@[reducible,instance] def zv9 {n b a0 c}:=li (z6d n b a0 c) (fun d=>⟨[(0,.sl 4 (a0.map z0b)),(1,.fn 155 [.ref (z16 b)]),(7,aI (((a0.map z0b).length:Int))),(8,aI d)],[]⟩) fun _ _=>z6d.eq_2 ..
instance zyv {n a0 b}:CI E0 (zay n a0 b) true 186 [.sl 4 (a0.map z0b),.fn 155 [.ref (z16 b)]] aI:=by unfold zay;exact CI.w [] Tryz.func186
instance zte {n a0 b}:CI E0 (z97 n a0 b) true 154 [.sl 4 (a0.map z0b),.fn 155 [.ref (z16 b)]] (fun r=>.bool (r)):=by unfold z97;exact CI.w [] Tryz.func154
instance yn3 {n a0 a1}:CI E0 (zn8 n a0 a1) true 119 [z01 a0,z02 a1] (fun r=>.bool (r)):=⟨fun {r} hF=>by
 unfold zn8 at hF
 refine cw Tryz.func119 ?_
 repeat' first
  |refine AW.step ?_;conv=>whnf
  |refine zar.I hF (fun a hF=>?_) rfl rfl fun _=>Or.inr rfl
  |exact zei.oB hF⟩
instance yjs {n a0 a1}:CI E0 (zgg n a0 a1) true 118 [z01 a0,.ref (z16 a1)] (fun r=>.bool (r)):=by unfold zgg;exact CI.w [] Tryz.func118
@[reducible,instance] def zva {n b a0 c}:=li (z6e n b a0 c) (fun d=>⟨[(0,.sl 3 (a0.map z01)),(1,.fn 118 [.ref (z16 b)]),(7,aI (((a0.map z01).length:Int))),(8,aI d)],[]⟩) fun _ _=>z6e.eq_2 ..
instance zyw {n a0 b}:CI E0 (zaz n a0 b) true 59 [.sl 3 (a0.map z01),.fn 118 [.ref (z16 b)]] aI:=by unfold zaz;exact CI.w [] Tryz.func59
instance ztf {n a0 b}:CI E0 (z98 n a0 b) true 27 [.sl 3 (a0.map z01),.fn 118 [.ref (z16 b)]] (fun r=>.bool (r)):=by unfold z98;exact CI.w [] Tryz.func27
instance yn4 {n a0 a1}:CI E0 (zi2 n a0 a1) true 84 [.sl 3 (a0.map z01),z02 a1] aI:=⟨fun {r} hF=>by
 unfold zi2 at hF
 refine cw Tryz.func84 ?_
 repeat' first
  |refine AW.step ?_;conv=>whnf
  |refine z14.o hF (fun hF=>?_) fun hF=>?_
  |refine z1q.I hF fun a hF=>?_
  |refine zar.I hF (fun a hF=>?_) rfl rfl fun _=>Or.inr rfl
  |exact zei.oB hF⟩
end
open Go.RowKit
noncomputable section
set_option maxHeartbeats 400000 in
theorem y72 (l:List (Cel 3))(S:Nat->Prop)(v:Value)(w:World)(h:Sl w S 3 zfy v l)(hl:l.length<=1000000000) :
  Calls Tryz.prog 149 #[v] w (zqn 60 3 zfy l w):=by
 have eok:EOk Tryz.prog 57 60 3 56 (zfy (n:=3)):=yn1 (sz:=3) (zna 57 _ rfl) rfl (zna 60 _ rfl) (by omega) rfl
 obtain ⟨A,c,rfl,hc,_⟩:=h.form
 have hq:=fun (W:World)=>Lib.run_eql_slice_nil W 57 60 A l.length c 0 0 Tryz.underlying57
 have H:=zun h
 cases A with
 |none =>
  have h0:l=[]:=h.none_nil
  subst h0
  clear h H hl hc
  simp only [length_nil,Option.isNone_none] at hq ⊢
  go_enter Tryz.func149,Tryz.ntmps149
  go_wp2
  go_ret
  exact ⟨none,0,rfl,Own.nil_,by go_grown⟩
 |some ad =>
  clear h
  go_enter Tryz.func149,Tryz.ntmps149
  go_wp2_with (at_builtin;refine zaq rfl _ _ rfl eok rfl Own.made_ rfl (H.out.alloc _) (by simp;omega) (by omega) (by simp) ?_;intro A' c' w1 ho hg _)
  go_ret
  exact ⟨A',c',rfl,ho,(Own.made_ (sz:=3) (enc:=zfy (n:=3))).grown ((Below.refl _ _).alloc (Nat.le_refl _) _) (Nat.le_refl _) (by simp) hg⟩
theorem y1v {n a r}(hF:zbm n a=some r):zpb E0 149 [.sl 3 (List.map z01 a)] 60 3 (List.map z01 r) (.row 0):=zjc rfl (z0x Tryz.func149 rfl rfl) y72 hF
instance ya3 {n a0 a1}:CI E0 (zcj n a0 a1) true 163 [z01 a0,z01 a1,.ref [.fn 122 []]] (fun r=>.bool (r)):=by unfold zcj;exact CI.w [] Tryz.func163
@[reducible,instance] def y00 {n d c}:=li (z64 n d c) (fun b=>⟨[(0,.row 200000),(1,.fn 163 [.ref [.fn 122 []]]),(5,aI b.1),(6,.der (.sub 3 (d)) 200000),(7,aI b.2.1)],[(200000,.row 60 3 (b.2.2.map z01))]⟩) fun _ _=>z64.eq_2 ..
@[reducible,instance] def y01 {n m0 b}:=li (z8d n m0 b) (fun c=>⟨[(0,.row 200000),(1,.fn 163 [.ref [.fn 122 []]]),(5,aI c)],[(200000,.row 60 3 (m0.map z01))]⟩) fun _ _=>z8d.eq_2 ..
def znf (m0:(List z00)):List (Nat×Ent):=[(200000,.row 60 3 (m0.map z01))]
def zbs (r:(List z00)):List (Nat×Ent):=[(260000,.row 60 3 (r.map z01))]
def zer (r:(List z00)):AV:=.row 260000
def zim (r:(List z00)):AS:=⟨[(4,.row 260000)],zbs r⟩
theorem zlg {n m0 r}(hF:zc0 n m0=some r):zdm E0.P none (zpe E0.P 162 0) [.row 200000,.fn 163 [.ref [.fn 122 []]]] [] (znf m0) (zer r) (zbs r):=by
 unfold zc0 at hF
 refine zdm.walk (E:=(E0p 2)) (caps:=[]) _ Tryz.func162 rfl rfl rfl rfl rfl ?_
 repeat' first
  |refine AW.step ?_;conv=>whnf
  |refine z14.o hF (fun hF=>?_) fun hF=>?_
  |exact GX.A (res:=zer) (meF:=zbs) hF zim (h1:=LeX.a [(260000,200000)])
  |refine zqo.o hF (fun m hF=>?_)
  |refine yev.o z01 hF (fun x hF=>?_)
  |refine z1q.I hF fun a hF=>?_
  |refine OpX.sub hF rfl rfl rfl rfl rfl rfl rfl rfl rfl rfl (fun m hF=>?_)
  |refine OpX.clr z01 hF rfl rfl rfl rfl rfl rfl rfl rfl rfl rfl rfl (by first|exact zaf.refl _|(repeat' first|exact zaf.nil|refine zaf.cons ?_ ?_|exact Sub.refl _|exact Sub.nil _|refine Sub.agg ?_)) (fun l hF=>?_)
  |refine y3v.o z01 hF (fun l hF=>?_)
  |exact GX.A (res:=zer) (meF:=zbs) hF zim (h1:=LeX.a [(260000,64)])
  |refine OpX.lns hF rfl rfl rfl rfl rfl rfl rfl (fun hF=>?_)
  |refine OpX.ixs hF rfl rfl rfl rfl rfl rfl rfl rfl rfl rfl (fun m hF=>?_)
  |refine ynd.o z01 hF (fun x=>rfl) (fun x=>(by first|exact zaf.refl _|(repeat' first|exact zaf.nil|refine zaf.cons ?_ ?_|exact Sub.refl _|exact Sub.nil _|refine Sub.agg ?_))) (fun l hF=>?_)
  |exact ⟨_,hF,LeX.a []⟩
  |refine z8f.I hF (LeX.a []) fun m v hF=>?_
  |refine And.intro ⟨by kernel_rfl,by kernel_rfl⟩ ?_
  |refine EqX.A ?_
def y7p (m0:(List z00)):List (Nat×Ent):=[(200000,.row 60 3 (m0.map z01))]
def zib (r:(List z00)):List (Nat×Ent):=[(260000,.row 60 3 (r.map z01))]
def zjv (r:(List z00)):AV:=.row 260000
def y7k (r:(List z00)):AS:=⟨[(4,.row 260000)],zib r⟩
theorem znk {n m0 r}(hF:zha n m0=some r):zdm E0.P none (zpe E0.P 121 0) [.row 200000,.fn 122 []] [] (y7p m0) (zjv r) (zib r):=by
 unfold zha at hF
 refine zdm.walk (E:=(E0p 2)) (caps:=[]) _ Tryz.func121 rfl rfl rfl rfl rfl ?_
 repeat' first
  |refine AW.frbO hF 3 rfl rfl (fun hF=>?_)
  |refine AW.regO hF fun hF=>?_
  |refine AW.stepU [2] ?_;conv=>whnf
  |refine zar.oI hF 200000 (fun r=>r) z01 (fun _=>AV.tup []) rfl (fun a h=>(y28.env rfl (ydd h))) rfl rfl rfl (fun a hF=>?_)
  |refine zar.oM (z7a 10 hF) [(200000,200000)] [(260000,11000000)] _ _ zbs zer [200000] (fun a h=>zdm.up (zlg h)) (z0x Tryz.func162 rfl rfl) rfl rfl rfl ⟨⟨rfl,rfl⟩,trivial⟩ (fun a=>⟨rfl,rfl,rfl,rfl,rfl,rfl,rfl,rfl⟩) (fun a hF=>?_)
  |exact GX.A (res:=zjv) (meF:=zib) hF y7k (h1:=LeX.a [(260000,11000000)])
instance yn6 {n a0}:CI E0 (zkh n a0) false 109 [.sl 3 (a0.map z01)] (fun r=>.tup [.sl 3 (r.1.map z01),aI r.2]):=⟨fun {r} hF=>by
 unfold zkh at hF
 refine cw Tryz.func109 ?_
 repeat' first
  |refine AW.step ?_;conv=>whnf
  |refine z14.o hF (fun hF=>?_) fun hF=>?_
  |refine z1q.oR hF (fun r=>r) z01 (fun _=>AV.row 0) rfl (fun a h=>y1v h) (fun a hF=>?_)
  |refine zar.oM (z7a 7 hF) [(200000,6)] [(260000,8000000)] _ _ zib zjv [6] (fun a h=>zdm.up (znk h)) (z0x Tryz.func121 rfl rfl) rfl rfl rfl ⟨⟨rfl,rfl⟩,trivial⟩ (fun a=>⟨rfl,rfl,rfl,rfl,rfl,rfl,rfl,rfl⟩) (fun a hF=>?_)
  |exact zei.oB hF⟩
@[reducible,instance] def y2w {n}:=jf (z6y n) (fun b=>⟨[(2,.bool (b))],[]⟩) fun _=>z6y.eq_1 ..
instance y6f {n a0}:CI E0 (z9h n a0) true 61 [z0l a0] (fun r=>.bool (r)):=by unfold z9h;exact CI.w [1] Tryz.func61
@[reducible,instance] def y2o {n a0 b}:=li (z8x n a0 b) (fun c=>⟨[(0,.sl 11 (a0.map z0t)),(3,aI c)],[]⟩) fun _ _=>z8x.eq_2 ..
instance y6c {n a0}:CI E0 (zcy n a0) true 60 [.sl 11 (a0.map z0t)] (fun r=>.bool (r)):=by unfold zcy;exact CI.w [] Tryz.func60
@[reducible,instance] def y2s {n}:=jf (z6v n) (fun b=>⟨[(2,.bool (b))],[]⟩) fun _=>z6v.eq_1 ..
@[reducible,instance] def y2p {n a0 b d c}:=li (z8y n a0 b d c) (fun e=>⟨[(1,.ptr 1 0),(4,aI b),(5,.ptr 5 0),(6,aI e)],[(1,.box 25 (z0g a0)),(5,.box 115 (z29 d))]⟩) fun _ _=>z8y.eq_2 ..
@[reducible,instance] def zzi {n a0 b c e}:=jf (z1o n a0 b c e) (fun d=>⟨[(1,.ptr 1 0),(4,aI b),(5,.ptr 5 0),(105,.bool (d))],[(1,.box 25 (z0g a0)),(5,.box 115 (z29 e))]⟩) fun _=>z1o.eq_1 ..
@[reducible,instance] def zzj {n a0 b c d}:=jf (z5y n a0 b c d) (fun e=>⟨[(1,.ptr 1 0),(4,aI b),(64,.bool (e))],[(1,.box 25 (z0g a0))]⟩) fun _=>z5y.eq_1 ..
@[reducible,instance] def y2q {n a0 b}:=li (z4l n a0 b) (fun c=>⟨[(1,.ptr 1 0),(4,aI c)],[(1,.box 25 (z0g a0))]⟩) fun _ _=>z4l.eq_2 ..
@[reducible,instance] def zzg {n a0 b c}:=jf (z21 n a0 b c) (fun d=>⟨[(1,.ptr 1 0),(3,aI b),(55,.bool (d))],[(1,.box 25 (z0g a0))]⟩) fun _=>z21.eq_1 ..
@[reducible,instance] def zzh {n a0 b c d}:=jf (z5x n a0 b c d) (fun e=>⟨[(1,.ptr 1 0),(3,aI b),(15,.bool (e))],[(1,.box 25 (z0g a0))]⟩) fun _=>z5x.eq_1 ..
@[reducible,instance] def y2r {n a0 b}:=li (z4m n a0 b) (fun c=>⟨[(1,.ptr 1 0),(3,aI c)],[(1,.box 25 (z0g a0))]⟩) fun _ _=>z4m.eq_2 ..
instance y6d {n a0}:CI E0 (zcz n a0) true 30 [z0n a0] (fun r=>.bool (r)):=⟨fun {r} hF=>by
 unfold zcz at hF
 refine cw Tryz.func30 ?_
 repeat' first
  |refine AW.jI hF (fun v hF=>?_) fun hF=>?_
  |refine AW.regO hF fun hF=>?_
  |refine AW.stepU [2,4,7,10,17] ?_;conv=>whnf
  |refine z14.o hF (fun hF=>?_) fun hF=>?_
  |refine z14.t ?_
  |refine z14.f ?_
  |exact ⟨_,hF,LeX.a []⟩
  |refine zes.A hF fun x hF=>?_
  |refine zes.oD hF z40 (fun x hF=>?_)
  |refine z1q.I hF fun a hF=>?_
  |refine z8f.I hF (LeX.a []) fun m v hF=>?_
  |exact zei.oB hF⟩
@[reducible,instance] def y2z {n a0 b}:=li (z91 n a0 b) (fun c=>⟨[(0,.sl 3 (a0.map z09)),(3,aI c)],[]⟩) fun _ _=>z91.eq_2 ..
instance y6j {n a0}:CI E0 (zd2 n a0) true 62 [.sl 3 (a0.map z09)] (fun r=>.bool (r)):=by unfold zd2;exact CI.w [] Tryz.func62
@[reducible,instance] def y2y {n a0 b}:=li (z90 n a0 b) (fun c=>⟨[(0,.sl 5 (a0.map z02)),(3,aI c)],[]⟩) fun _ _=>z90.eq_2 ..
instance y6i {n a0}:CI E0 (zd1 n a0) true 31 [.sl 5 (a0.map z02)] (fun r=>.bool (r)):=by unfold zd1;exact CI.w [] Tryz.func31
instance zyu {n a0}:CI E0 (zax n a0) true 100 [z02 a0] (fun r=>.bool (r)):=by unfold zax;exact CI.w [] Tryz.func100
instance y6h {n a0}:CI E0 (z9i n a0) true 101 [z02 a0] z19:=by unfold z9i;exact CI.w [] Tryz.func101
instance y3o {n a0 a1}:CI E0 (zai n a0 a1) true 102 [z02 a0,z02 a1] (fun r=>.bool (r)):=by unfold zai;exact CI.w [] Tryz.func102
@[reducible,instance] def zx9 {n a0 b c}:=li (z7k n a0 b c) (fun d=>⟨[(0,.sl 5 (a0.map z02)),(3,aI b),(4,aI d)],[]⟩) fun _ _=>z7k.eq_2 ..
@[reducible,instance] def zx8 {n a0 b c}:=li (z7j n a0 b c) (fun d=>⟨[(0,.sl 5 (a0.map z02)),(3,aI b),(4,aI d)],[]⟩) fun _ _=>z7j.eq_2 ..
end
open Go.RowKit
noncomputable section
@[reducible,instance] def zxa {n a0 b}:=li (z2e n a0 b) (fun c=>⟨[(0,.sl 5 (a0.map z02)),(3,aI c)],[]⟩) fun _ _=>z2e.eq_2 ..
instance y1i {n a0}:CI E0 (z9t n a0) true 64 [.sl 5 (a0.map z02)] aI:=by unfold z9t;exact CI.w [] Tryz.func64
instance y3d {n a0 a1}:CI E0 (z2o n a0 a1) true 32 [z0n a0,.sl 5 (a1.map z02)] aI:=by unfold z2o;exact CI.w [] Tryz.func32
instance y12 {n}:CI E0 (zdv n) false 65 [] z01:=by unfold zdv;exact CI.w [] Tryz.func65
@[reducible,instance] def zws {n a1 a0 b}:=li (z7g n a1 a0 b) (fun c=>⟨[(0,.sl 5 (a0.map z02)),(3,.ptr 3 0),(4,.ptr 4 0),(6,aI c)],[(3,.box 74 (yiv a1)),(4,.box 71 [aI 0,aI 0,aI 0,aI 0,.nils])]⟩) fun _ _=>z7g.eq_2 ..
instance y16 {n a0 a1}:CI E0 (zbg n a0 a1) false 166 [.sl 5 (a0.map z02),z19 a1] (fun r=>.tup [z02 r.1,.bool (r.2)]):=by unfold zbg;exact CI.w [] Tryz.func166
@[reducible,instance] def zwt {n a2 a1 a0 x1 b}:=li (z1v n a2 a1 a0 x1 b) (fun c=>⟨[(0,.sl 5 (a0.map z02)),(1,aI a1),(2,.sl 4 (a2.map z0b)),(6,.ptr 6 0),(7,.ptr 7 0),(8,aI c.1)],[(6,.box 220 [.nils]),(7,.box 220 [.cont (x1) 13]),(13,.nest 26 (List.map (enR z02 71 5) (c.2)))]⟩) fun _ _=>z1v.eq_2 ..
instance y17 {n a0 a1 a2}:CI E0 (zdw n a0 a1 a2) false 196 [.sl 5 (a0.map z02),aI a1,.sl 4 (a2.map z0b)] zcp:=⟨fun {r} hF=>by
 unfold zdw at hF
 refine cw Tryz.func196 ?_
 repeat' first
  |refine AW.nstO (er:=z02) 71 5 hF 13 rfl (fun hF=>?_)
  |refine AW.frrO (ety:=71) (sz:=5) z02 hF 13 rfl (fun hF=>?_)
  |refine AW.regO hF fun hF=>?_
  |refine AW.stepU [9,7,2] ?_;conv=>whnf
  |refine z14.o hF (fun hF=>?_) fun hF=>?_
  |refine z14.f ?_
  |refine yet.on hF (fun m hF=>?_)
  |refine zes.A hF fun x hF=>?_
  |refine z1q.I hF fun a hF=>?_
  |refine OpX.ixc hF rfl rfl rfl rfl rfl rfl rfl rfl (fun hF=>?_)
  |refine OpX.ntk z02 hF rfl rfl rfl rfl rfl rfl rfl rfl rfl rfl (fun q hF=>?_)
  |refine zk3.oA hF fun l hF=>?_
  |refine OpX.npt z02 hF rfl rfl rfl rfl rfl rfl rfl rfl rfl rfl rfl (fun l hF=>?_)
  |exact ⟨_,hF,LeX.a []⟩
  |refine z8f.I hF (LeX.a []) fun m v hF=>?_
  |refine And.intro ⟨by kernel_rfl,by kernel_rfl⟩ ?_
  |refine EqX.A ?_
  |exact zei.oB hF⟩
def zoe (r:z0i):AV:=.agg [.sl 1 (List.map (fun q=>AV.sl 5 (List.map z02 q)) (r.fVars))]
instance zm2 {n a0 a1}:CI E0 (z9f n a0 a1) false 167 [.sl 5 (a0.map z02),z01 a1] zcp:=by unfold z9f;exact CI.w [] Tryz.func167
@[reducible,instance] def zrw {n}:=jf (z37 n) (fun b=>⟨[(6,.bool (b))],[]⟩) fun _=>z37.eq_1 ..
instance zup {n a0 a1 a2}:CI E0 (z7b n a0 a1 a2) true 168 [z0t a0,zcp a1,z02 a2] (fun r=>.bool (r)):=by unfold z7b;exact CI.w [1] Tryz.func168
@[reducible,instance] def zwk {n a3 x1 x2 b}:=li (z7c n a3 x1 x2 b) (fun c=>⟨[(7,.ptr 7 0),(9,.ptr 9 0),(10,.sl 11 (x2.fGuards.map z0t)),(11,aI c)],[(7,.box 71 (z16 a3)),(9,.box 220 (zcr x1))]⟩) fun _ _=>z7c.eq_2 ..
instance y11 {n a0 a1 a2 a3}:CI E0 (zbe n a0 a1 a2 a3) true 125 [z0n a0,.sl 5 (a1.map z02),z01 a2,z02 a3] (fun r=>.bool (r)):=by unfold zbe;exact CI.w [] Tryz.func125
@[reducible,instance] def zzf {n a1 a0 b}:=li (z5w n a1 a0 b) (fun c=>⟨[(1,aI a1),(2,.ptr 2 0),(5,.row 7029),(6,aI c.1)],[(2,.box 25 (z0g a0)),(7029,.row 115 17 (c.2.map z0w))]⟩) fun _ _=>z5w.eq_2 ..
instance y3f {n a0 a1}:CI E0 (zbv n a0 a1) false 126 [z0n a0,aI a1] (fun r=>.sl 17 (r.map z0w)):=⟨fun {r} hF=>by
 unfold zbv at hF
 refine cw Tryz.func126 ?_
 repeat' first
  |refine AW.regO hF fun hF=>?_
  |refine AW.stepU [5] ?_;conv=>whnf
  |refine z14.o hF (fun hF=>?_) fun hF=>?_
  |refine zes.A hF fun x hF=>?_
  |refine zk3.oA hF fun l hF=>?_
  |exact ⟨_,hF,LeX.a [(7029,29)]⟩
  |exact ⟨_,hF,LeX.a []⟩
  |refine z8f.I hF ?_ fun m v hF=>?_
  |exact LeX.trans (LeX.adopt 5 7029 115 17 rfl rfl) (LeX.a [])
  |exact zei.oB hF⟩
@[reducible,instance] def y2b {n a1 a0 b}:=li (z8r n a1 a0 b) (fun c=>⟨[(0,.sl 1 (a0.map aI)),(1,aI a1),(5,aI c)],[]⟩) fun _ _=>z8r.eq_2 ..
instance y67 {n a0 a1}:CI E0 (zcu n a0 a1) true 169 [.sl 1 (a0.map aI),aI a1] (fun r=>.bool (r)):=by unfold zcu;exact CI.w [] Tryz.func169
@[reducible,instance] def zux {n a1 a0 b}:=li (z42 n a1 a0 b) (fun c=>⟨[(0,.sl 2 (a0.map z08)),(1,aI a1),(5,.row 7026),(6,aI c.1)],[(7026,.row 102 2 (c.2.map z08))]⟩) fun _ _=>z42.eq_2 ..
instance zyo {n a0 a1}:CI E0 (z8s n a0 a1) false 173 [.sl 2 (a0.map z08),aI a1] (fun r=>.sl 2 (r.map z08)):=⟨fun {r} hF=>by
 unfold z8s at hF
 refine cw Tryz.func173 ?_
 repeat' first
  |refine AW.regO hF fun hF=>?_
  |refine AW.stepU [5] ?_;conv=>whnf
  |refine z14.o hF (fun hF=>?_) fun hF=>?_
  |refine zes.A hF fun x hF=>?_
  |refine zk3.oA hF fun l hF=>?_
  |exact ⟨_,hF,LeX.a [(7026,26)]⟩
  |exact ⟨_,hF,LeX.a []⟩
  |refine z8f.I hF ?_ fun m v hF=>?_
  |exact LeX.trans (LeX.adopt 5 7026 102 2 rfl rfl) (LeX.a [])
  |exact zei.oB hF⟩
@[reducible,instance] def zuw {n a2 a1 x1 b c d}:=jf (z41 n a2 a1 x1 b c d) (fun e=>⟨[(0,.sl 2 (x1.map z08)),(1,aI a1),(2,aI a2),(7,.row 7031),(8,aI b.1),(24,.bool (e))],[(7031,.row 102 2 (b.2.map z08))]⟩) fun _=>z41.eq_1 ..
@[reducible,instance] def zuv {n a2 a1 x1 b}:=li (z2v n a2 a1 x1 b) (fun c=>⟨[(0,.sl 2 (x1.map z08)),(1,aI a1),(2,aI a2),(7,.row 7031),(8,aI c.1)],[(7031,.row 102 2 (c.2.map z08))]⟩) fun _ _=>z2v.eq_2 ..
instance zyn {n a0 a1 a2}:CI E0 (zau n a0 a1 a2) false 171 [.sl 2 (a0.map z08),aI a1,aI a2] (fun r=>.sl 2 (r.map z08)):=⟨fun {r} hF=>by
 unfold zau at hF
 refine cw Tryz.func171 ?_
 repeat' first
  |refine AW.jI hF (fun v hF=>?_) fun hF=>?_
  |refine AW.regO hF fun hF=>?_
  |refine AW.stepU [4] ?_;conv=>whnf
  |refine z14.o hF (fun hF=>?_) fun hF=>?_
  |refine z1q.I hF fun a hF=>?_
  |refine zk3.oA hF fun l hF=>?_
  |refine y3v.o z08 hF (fun l hF=>?_)
  |refine zes.A hF fun x hF=>?_
  |exact ⟨_,hF,LeX.a [(7031,31)]⟩
  |exact ⟨_,hF,LeX.a []⟩
  |refine z8f.I hF ?_ fun m v hF=>?_
  |exact LeX.trans (LeX.adopt 7 7031 102 2 rfl rfl) (LeX.a [])
  |exact zei.oB hF⟩
@[reducible,instance] def zzc {n a2 a1 a0 b}:=li (z86 n a2 a1 a0 b) (fun c=>⟨[(0,.sl 2 (a0.map z08)),(2,aI a2),(4,.ptr 4 0),(7,aI c)],[(4,.box 209 (zl1 a1))]⟩) fun _ _=>z86.eq_2 ..
instance y3c {n a0 a1 a2}:CI E0 (zbt n a0 a1 a2) true 172 [.sl 2 (a0.map z08),z26 a1,aI a2] (fun r=>.bool (r)):=by unfold zbt;exact CI.w [] Tryz.func172
@[reducible,instance] def zty {n a3 b c}:=li (z5i n a3 b c) (fun d=>⟨[(8,.ptr 8 0),(10,.ptr 10 0),(15,.ptr 15 0),(20,aI d.1)],[(8,.box 115 (z29 a3)),(10,.box 60 [aI 0,.nils,.nils]),(15,.box 60 [aI a3.fTo,.sl 4 (b.map z0b),.sl 2 (d.2.map z08)])]⟩) fun _ _=>z5i.eq_2 ..
@[reducible,instance] def ztz {n a3 b c d e}:=li (z5j n a3 b c d e) (fun f=>⟨[(8,.ptr 8 0),(10,.ptr 10 0),(15,.ptr 15 0),(18,.ptr 18 0),(19,aI f)],[(8,.box 115 (z29 a3)),(10,.box 60 [aI 0,.nils,.nils]),(15,.box 60 [aI a3.fTo,.sl 4 (c.map z0b),.sl 2 (b.map z08)]),(18,.box 220 (zcr d))]⟩) fun _ _=>z5j.eq_2 ..
@[reducible,instance] def zu0 {n a4 a3 a2 a1 b c}:=li (z5k n a4 a3 a2 a1 b c) (fun d=>⟨[(1,.sl 5 (a1.map z02)),(7,.ptr 7 0),(8,.ptr 8 0),(9,.ptr 9 0),(10,.ptr 10 0),(15,.ptr 15 0),(17,aI d)],[(7,.box 60 (z11 a2)),(8,.box 115 (z29 a3)),(9,.box 71 (z16 a4)),(10,.box 60 [aI 0,.nils,.nils]),(15,.box 60 [aI a3.fTo,.nils,.sl 2 (b.map z08)])]⟩) fun _ _=>z5k.eq_2 ..
end
open Go.RowKit
noncomputable section
@[reducible,instance] def zu1 {n a4 a3 a2 a1 b}:=li (z5l n a4 a3 a2 a1 b) (fun c=>⟨[(1,.sl 5 (a1.map z02)),(7,.ptr 7 0),(8,.ptr 8 0),(9,.ptr 9 0),(10,.ptr 10 0),(15,.ptr 15 0),(16,aI c.1)],[(7,.box 60 (z11 a2)),(8,.box 115 (z29 a3)),(9,.box 71 (z16 a4)),(10,.box 60 [aI 0,.nils,.nils]),(15,.box 60 [aI a3.fTo,.nils,.sl 2 (c.2.map z08)])]⟩) fun _ _=>z5l.eq_2 ..
@[reducible,instance] def zu4 {n a4 a3 a2 a1}:=jf (z18 n a4 a3 a2 a1) (fun b=>⟨[(1,.sl 5 (a1.map z02)),(7,.ptr 7 0),(8,.ptr 8 0),(9,.ptr 9 0),(10,.ptr 10 0),(70,.bool (b))],[(7,.box 60 (z11 a2)),(8,.box 115 (z29 a3)),(9,.box 71 (z16 a4)),(10,.box 60 [aI 0,.nils,.nils])]⟩) fun _=>z18.eq_1 ..
@[reducible,instance] def zu3 {n a4 a3 a2 a1 x1 x2 b c}:=jf (z3h n a4 a3 a2 a1 x1 x2 b c) (fun d=>⟨[(1,.sl 5 (a1.map z02)),(7,.ptr 7 0),(8,.ptr 8 0),(9,.ptr 9 0),(10,.ptr 10 0),(12,.ptr 12 0),(13,.sl 11 (x2.fGuards.map z0t)),(14,aI b),(54,.bool (d))],[(7,.box 60 (z11 a2)),(8,.box 115 (z29 a3)),(9,.box 71 (z16 a4)),(10,.box 60 [aI 0,.nils,.nils]),(12,.box 220 (zcr x1))]⟩) fun _=>z3h.eq_1 ..
@[reducible,instance] def zu2 {n a4 a3 a2 a1 x1 x2 b}:=li (z2j n a4 a3 a2 a1 x1 x2 b) (fun c=>⟨[(1,.sl 5 (a1.map z02)),(7,.ptr 7 0),(8,.ptr 8 0),(9,.ptr 9 0),(10,.ptr 10 0),(12,.ptr 12 0),(13,.sl 11 (x2.fGuards.map z0t)),(14,aI c)],[(7,.box 60 (z11 a2)),(8,.box 115 (z29 a3)),(9,.box 71 (z16 a4)),(10,.box 60 [aI 0,.nils,.nils]),(12,.box 220 (zcr x1))]⟩) fun _ _=>z2j.eq_2 ..
instance zvx {n a0 a1 a2 a3 a4}:CI E0 (z5v n a0 a1 a2 a3 a4) false 127 [z0n a0,.sl 5 (a1.map z02),z01 a2,z0w a3,z02 a4] (fun r=>.tup [z01 r.1,.bool (r.2)]):=⟨fun {r} hF=>by
 unfold z5v at hF
 refine Con.env (E:=E0b) rfl rfl ?_
 refine Con.walk _ Tryz.func127 rfl (z0x Tryz.func127 rfl rfl) rfl (Or.inl rfl) ?_
 repeat' first
  |refine AW.jI hF (fun v hF=>?_) fun hF=>?_
  |refine AW.regO hF fun hF=>?_
  |refine AW.frzO hF 125 rfl (fun hF=>?_)
  |refine AW.stepU [21,6,8] ?_;conv=>whnf
  |refine z14.o hF (fun hF=>?_) fun hF=>?_
  |refine z1q.I hF fun a hF=>?_
  |refine zes.A hF fun x hF=>?_
  |refine zk3.oA0 hF fun l hF=>?_
  |refine OpX.bldS z0b hF rfl rfl rfl rfl rfl rfl rfl rfl rfl rfl rfl rfl rfl rfl (fun l hF=>?_)
  |refine zk3.oA hF fun l hF=>?_
  |refine OpX.bldR z02 hF rfl rfl rfl rfl rfl rfl rfl rfl rfl rfl rfl rfl rfl rfl rfl rfl (by first|exact ziz.refl _|(repeat' first|exact ziz.nil|refine ziz.cons ?_ ?_|exact zaf.nil|refine zaf.cons ?_ ?_|exact Sub.refl _|exact Sub.nil _)) rfl (fun l hF=>?_)
  |refine zar.oE hF 130 zoe rfl (fun a h=>Con.env rfl rfl (zm2.h h)) rfl rfl (fun a hF=>?_)
  |exact ⟨_,hF,LeX.a []⟩
  |refine z8f.I hF (LeX.a []) fun m v hF=>?_
  |refine zes.oD hF z40 (fun x hF=>?_)
  |refine z1q.o hF zmf (fun a h=>Con.sub (by repeat' first|exact Sub.nil _|exact Sub.refl _|refine Sub.agg ?_|refine Sub.tup ?_|refine Sub.fn ?_|exact zaf.nil|refine zaf.cons ?_ ?_|refine Sub.sl _ ?_|exact zhc.nil|refine zhc.cons ?_ ?_) (Con.env rfl rfl (zkt.h h))) (fun a hF=>?_)
  |refine And.intro ⟨by kernel_rfl,by kernel_rfl⟩ ?_
  |exact zei.oB hF⟩
@[reducible,instance] def y2v {n a1 a0 b}:=jf (z6x n a1 a0 b) (fun c=>⟨[(0,.sl 1 (a0.map z0c)),(3,.ptr 3 0),(5,aI b),(34,.bool (c))],[(3,.box 44 (zeh a1))]⟩) fun _=>z6x.eq_1 ..
@[reducible,instance] def y2u {n a1 a0 b c d}:=jf (z6w n a1 a0 b c d) (fun e=>⟨[(0,.sl 1 (a0.map z0c)),(3,.ptr 3 0),(5,aI b),(19,.bool (e))],[(3,.box 44 (zeh a1))]⟩) fun _=>z6w.eq_1 ..
@[reducible,instance] def y2t {n a1 a0 b}:=li (z4n n a1 a0 b) (fun c=>⟨[(0,.sl 1 (a0.map z0c)),(3,.ptr 3 0),(5,aI c)],[(3,.box 44 (zeh a1))]⟩) fun _ _=>z4n.eq_2 ..
instance y6e {n a0 a1}:CI E0 (z9g n a0 a1) false 67 [.sl 1 (a0.map z0c),z0c a1] (fun r=>.sl 1 (r.map z0c)):=⟨fun {r} hF=>by
 unfold z9g at hF
 refine cw Tryz.func67 ?_
 repeat' first
  |refine AW.jI hF (fun v hF=>?_) fun hF=>?_
  |refine AW.regO hF fun hF=>?_
  |refine AW.stepU [2,4] ?_;conv=>whnf
  |refine z14.o hF (fun hF=>?_) fun hF=>?_
  |refine y3v.o z0c hF (fun l hF=>?_)
  |refine zk3.oA0 hF fun l hF=>?_
  |refine zk3.oA hF fun l hF=>?_
  |refine zes.A hF fun x hF=>?_
  |refine z1q.I hF fun a hF=>?_
  |exact ⟨_,hF,LeX.a []⟩
  |refine z8f.I hF (LeX.a []) fun m v hF=>?_
  |refine And.intro ⟨by kernel_rfl,by kernel_rfl⟩ ?_
  |exact zei.oB hF⟩
@[reducible,instance] def y2f {n a3 a2 a1 a0 x4 c}:=li (z4j n a3 a2 a1 a0 x4 c) (fun b=>⟨[(1,.sl 5 (a1.map z02)),(4,.ptr 4 0),(6,.ptr 6 0),(7,.ptr 7 0),(10,.sl 3 (b.1.map z01)),(11,.sl 1 (b.2.1.map z0c)),(12,.sl 17 (x4.map z0w)),(13,aI b.2.2)],[(4,.box 25 (z0g a0)),(6,.box 60 (z11 a2)),(7,.box 71 (z16 a3))]⟩) fun _ _=>z4j.eq_2 ..
@[reducible,instance] def y2g {n a3 a2 a1 a0}:=jt (z6r n a3 a2 a1 a0) (fun b=>⟨[(1,.sl 5 (a1.map z02)),(4,.ptr 4 0),(6,.ptr 6 0),(7,.ptr 7 0),(10,.sl 3 (b.map z01)),(11,.nils)],[(4,.box 25 (z0g a0)),(6,.box 60 (z11 a2)),(7,.box 71 (z16 a3))]⟩) fun _=>z6r.eq_1 ..
instance y68 {n a0 a1 a2 a3}:CI E0 (zcv n a0 a1 a2 a3) false 88 [z0n a0,.sl 5 (a1.map z02),z01 a2,z02 a3] (fun r=>.tup [.sl 3 (r.1.map z01),.sl 1 (r.2.map z0c)]):=⟨fun {r} hF=>by
 unfold zcv at hF
 refine cw Tryz.func88 ?_
 repeat' first
  |refine AW.jI2 hF (fun v hF=>?_) fun hF=>?_
  |refine AW.regO hF fun hF=>?_
  |refine AW.stepU [3,11] ?_;conv=>whnf
  |refine z14.o hF (fun hF=>?_) fun hF=>?_
  |refine z1q.I hF fun a hF=>?_
  |refine zes.A hF fun x hF=>?_
  |exact ⟨_,hF,LeX.a []⟩
  |refine z8f.I hF ?_ fun m v hF=>?_
  |exact LeX.trans (LeX.put 11 _ (by repeat' first|exact Sub.nil _|exact Sub.refl _|refine Sub.agg ?_|refine Sub.tup ?_|refine Sub.fn ?_|exact zaf.nil|refine zaf.cons ?_ ?_|refine Sub.sl _ ?_|exact zhc.nil|refine zhc.cons ?_ ?_)) (LeX.of [] rfl ⟨⟨rfl,rfl⟩,⟨rfl,rfl⟩,⟨rfl,rfl⟩,⟨rfl,rfl⟩,⟨rfl,rfl⟩,⟨rfl,rfl⟩,⟨rfl,rfl⟩,⟨rfl,rfl⟩,trivial⟩ ⟨⟨rfl,rfl⟩,⟨rfl,rfl⟩,⟨rfl,rfl⟩,trivial⟩)
  |refine z1q.o hF zod (fun a h=>Con.sub (by repeat' first|exact Sub.nil _|exact Sub.refl _|refine Sub.agg ?_|refine Sub.tup ?_|refine Sub.fn ?_|exact zaf.nil|refine zaf.cons ?_ ?_|refine Sub.sl _ ?_|exact zhc.nil|refine zhc.cons ?_ ?_) (zm1.h h)) (fun a hF=>?_)
  |exact ⟨_,hF,LeX.trans (LeX.put 10 _ (by repeat' first|exact Sub.nil _|exact Sub.refl _|refine Sub.agg ?_|refine Sub.tup ?_|refine Sub.fn ?_|exact zaf.nil|refine zaf.cons ?_ ?_|refine Sub.sl _ ?_|exact zhc.nil|refine zhc.cons ?_ ?_)) (LeX.of [] rfl ⟨⟨rfl,rfl⟩,⟨rfl,rfl⟩,⟨rfl,rfl⟩,⟨rfl,rfl⟩,⟨rfl,rfl⟩,⟨rfl,rfl⟩,trivial⟩ ⟨⟨rfl,rfl⟩,⟨rfl,rfl⟩,⟨rfl,rfl⟩,trivial⟩)⟩
  |refine And.intro ⟨by kernel_rfl,by kernel_rfl⟩ ?_
  |exact zei.oB hF⟩
@[reducible,instance] def y2k {n a3 a2 a1 a0 d b c e}:=li (z8t n a3 a2 a1 a0 d b c e) (fun f=>⟨[(1,.sl 5 (a1.map z02)),(2,.sl 3 (a2.map z01)),(4,.ptr 4 0),(7,.ptr 7 0),(10,.sl 3 (b.map z01)),(11,.sl 1 (f.1.map z0c)),(12,aI d.2.2),(14,.sl 1 (c.map z0c)),(16,aI f.2)],[(4,.box 25 (z0g a0)),(7,.box 71 (z16 a3))]⟩) fun _ _=>z8t.eq_2 ..
@[reducible,instance] def y2l {n a3 a2 a1 a0 b c d}:=li (z8u n a3 a2 a1 a0 b c d) (fun e=>⟨[(1,.sl 5 (a1.map z02)),(2,.sl 3 (a2.map z01)),(4,.ptr 4 0),(7,.ptr 7 0),(10,.sl 3 (e.1.map z01)),(11,.sl 1 (b.2.1.map z0c)),(12,aI b.2.2),(13,.sl 3 (c.1.map z01)),(14,.sl 1 (c.2.map z0c)),(15,aI e.2)],[(4,.box 25 (z0g a0)),(7,.box 71 (z16 a3))]⟩) fun _ _=>z8u.eq_2 ..
@[reducible,instance] def y2m {n a3 a2 a1 a0 c}:=li (z8v n a3 a2 a1 a0 c) (fun b=>⟨[(1,.sl 5 (a1.map z02)),(2,.sl 3 (a2.map z01)),(4,.ptr 4 0),(7,.ptr 7 0),(10,.sl 3 (b.1.map z01)),(11,.sl 1 (b.2.1.map z0c)),(12,aI b.2.2)],[(4,.box 25 (z0g a0)),(7,.box 71 (z16 a3))]⟩) fun _ _=>z8v.eq_2 ..
instance y6a {n a0 a1 a2 a3}:CI E0 (zcx n a0 a1 a2 a3) false 66 [z0n a0,.sl 5 (a1.map z02),.sl 3 (a2.map z01),z02 a3] (fun r=>.tup [.sl 3 (r.1.map z01),.sl 1 (r.2.map z0c)]):=⟨fun {r} hF=>by
 unfold zcx at hF
 refine cw Tryz.func66 ?_
 repeat' first
  |refine AW.step ?_;conv=>whnf
  |refine z14.o hF (fun hF=>?_) fun hF=>?_
  |refine zes.A hF fun x hF=>?_
  |refine z1q.I hF fun a hF=>?_
  |exact ⟨_,hF,LeX.a []⟩
  |refine z8f.I hF ?_ fun m v hF=>?_
  |exact LeX.a []
  |exact LeX.trans (LeX.put 10 _ (by repeat' first|exact Sub.nil _|exact Sub.refl _|refine Sub.agg ?_|refine Sub.tup ?_|refine Sub.fn ?_|exact zaf.nil|refine zaf.cons ?_ ?_|refine Sub.sl _ ?_|exact zhc.nil|refine zhc.cons ?_ ?_)) (LeX.trans (LeX.put 11 _ (by repeat' first|exact Sub.nil _|exact Sub.refl _|refine Sub.agg ?_|refine Sub.tup ?_|refine Sub.fn ?_|exact zaf.nil|refine zaf.cons ?_ ?_|refine Sub.sl _ ?_|exact zhc.nil|refine zhc.cons ?_ ?_)) (LeX.of [] rfl ⟨⟨rfl,rfl⟩,⟨rfl,rfl⟩,⟨rfl,rfl⟩,⟨rfl,rfl⟩,⟨rfl,rfl⟩,⟨rfl,rfl⟩,⟨rfl,rfl⟩,trivial⟩ ⟨⟨rfl,rfl⟩,⟨rfl,rfl⟩,trivial⟩))
  |refine And.intro ⟨by kernel_rfl,by kernel_rfl⟩ ?_
  |exact zei.oB hF⟩
end
open Go.RowKit
noncomputable section
@[reducible,instance] def zv0 {n a2 a1 a0 d e b c}:=jf (z43 n a2 a1 a0 d e b c) (fun f=>⟨[(1,.sl 5 (a1.map z02)),(2,aI a2),(3,.ptr 3 0),(10,.sl 1 (b.map z0c)),(11,aI d.2.2),(12,.sl 3 (c.map z01)),(55,.bool (f))],[(3,.box 25 (z0g a0))]⟩) fun _=>z43.eq_1 ..
@[reducible,instance] def zuy {n a2 a1 a0 b c d}:=li (z6a n a2 a1 a0 b c d) (fun e=>⟨[(1,.sl 5 (a1.map z02)),(2,aI a2),(3,.ptr 3 0),(10,.sl 1 (e.1.map z0c)),(11,aI b.2.2),(12,.sl 3 (c.1.map z01)),(13,.sl 1 (c.2.map z0c)),(14,aI e.2)],[(3,.box 25 (z0g a0))]⟩) fun _ _=>z6a.eq_2 ..
@[reducible,instance] def zuz {n a2 a1 a0 c}:=li (z2w n a2 a1 a0 c) (fun b=>⟨[(1,.sl 5 (a1.map z02)),(2,aI a2),(3,.ptr 3 0),(9,.sl 3 (b.1.map z01)),(10,.sl 1 (b.2.1.map z0c)),(11,aI b.2.2)],[(3,.box 25 (z0g a0))]⟩) fun _ _=>z2w.eq_2 ..
instance zyp {n a0 a1 a2}:CI E0 (zav n a0 a1 a2) false 33 [z0n a0,.sl 5 (a1.map z02),aI a2] (fun r=>.tup [.sl 3 (r.1.map z01),.sl 1 (r.2.1.map z0c),.bool (r.2.2)]):=⟨fun {r} hF=>by
 unfold zav at hF
 refine cw Tryz.func33 ?_
 repeat' first
  |refine AW.jI hF (fun v hF=>?_) fun hF=>?_
  |refine AW.regO hF fun hF=>?_
  |refine AW.stepU [11] ?_;conv=>whnf
  |refine z14.o hF (fun hF=>?_) fun hF=>?_
  |refine z1q.I hF fun a hF=>?_
  |refine zes.A hF fun x hF=>?_
  |exact ⟨_,hF,LeX.a []⟩
  |refine z8f.I hF ?_ fun m v hF=>?_
  |exact LeX.a []
  |exact LeX.trans (LeX.put 10 _ (by repeat' first|exact Sub.nil _|exact Sub.refl _|refine Sub.agg ?_|refine Sub.tup ?_|refine Sub.fn ?_|exact zaf.nil|refine zaf.cons ?_ ?_|refine Sub.sl _ ?_|exact zhc.nil|refine zhc.cons ?_ ?_)) (LeX.of [] rfl ⟨⟨rfl,rfl⟩,⟨rfl,rfl⟩,⟨rfl,rfl⟩,⟨rfl,rfl⟩,⟨rfl,rfl⟩,⟨rfl,rfl⟩,trivial⟩ ⟨⟨rfl,rfl⟩,trivial⟩)
  |refine And.intro ⟨by kernel_rfl,by kernel_rfl⟩ ?_
  |exact zei.oB hF⟩
@[reducible,instance] def zwj {n a1 a0}:=jf (z4w n a1 a0) (fun b=>⟨[(1,.sl 5 (a1.map z02)),(2,.ptr 2 0),(15,.bool (b))],[(2,.box 25 (z0g a0))]⟩) fun _=>z4w.eq_1 ..
instance y10 {n a0 a1}:CI E0 (z9m n a0 a1) true 11 [z0n a0,.sl 5 (a1.map z02)] (fun r=>.bool (r)):=by unfold z9m;exact CI.w [1] Tryz.func11
instance y3b {n a0 a1}:CI E0 (z6l n a0 a1) true 39 [z0n a0,.sl 5 (a1.map z02)] aI:=by unfold z6l;exact CI.w [] Tryz.func39
@[reducible,instance] def zzv {n}:=jf (z63 n) (fun b=>⟨[(4,.bool (b))],[]⟩) fun _=>z63.eq_1 ..
instance y3q {n a0 a1}:CI E0 (zby n a0 a1) true 22 [z0n a0,.sl 5 (a1.map z02)] (fun r=>.bool (r)):=by unfold zby;exact CI.w [1] Tryz.func22
instance y3p {n}:CI E0 (z8k n) false 34 [] z0n:=⟨fun {r} hF=>by
 unfold z8k at hF
 refine cw Tryz.func34 ?_
 repeat' first
  |refine AW.step ?_;conv=>whnf
  |refine z14.o hF (fun hF=>?_) fun hF=>?_
  |refine z14.t ?_
  |refine z14.f ?_
  |refine z1q.I hF fun a hF=>?_
  |refine yet.o z0p hF (by first|exact zaf.refl _|(repeat' first|exact zaf.nil|refine zaf.cons ?_ ?_|exact Sub.refl _|exact Sub.nil _|refine Sub.agg ?_)) (fun l hF=>?_)
  |refine And.intro ⟨by kernel_rfl,by kernel_rfl⟩ ?_
  |refine EqX.A ?_
  |exact zei.oB hF⟩
instance yec {n a0}:CI E0 (zge n a0) true 106 [z02 a0] (fun r=>.bool (r)):=by unfold zge;exact CI.w [] Tryz.func106
instance ym6 {n a0}:CI E0 (zjl n a0) true 148 [z02 a0] z19:=by unfold zjl;exact CI.w [] Tryz.func148
instance yeg {n a0 a1}:CI E0 (zgk n a0 a1) true 107 [z02 a0,z02 a1] aI:=by unfold zgk;exact CI.w [] Tryz.func107
instance yly {n a0}:CI E0 (zh8 n a0) true 108 [z02 a0] zb2:=by unfold zh8;exact CI.w [] Tryz.func108
theorem yi5 (a b:z9k):eqK (zb2 a) (zb2 b)=some (decide (a=b)):=by cases a;cases b;simp [zb2,eqK,eqL,eq1,aI,zje]
@[reducible,instance] def yda {n a0 b}:=li (zb4 n a0 b) (fun c=>⟨[(0,.sl 5 (a0.map z02)),(3,.row 9),(10,.sl 5 (a0.map z02)),(11,aI (((a0.map z02).length:Int))),(12,aI c.1)],[(9,.mp (List.map (zdj zb2 AV.bool) (c.2)))]⟩) fun _ _=>zb4.eq_2 ..
instance yf0 {n a0}:CI E0 (zfq n a0) true 70 [.sl 5 (a0.map z02)] aI:=⟨fun {r} hF=>by
 unfold zfq at hF
 refine cw Tryz.func70 ?_
 repeat' first
  |refine AW.step ?_;conv=>whnf
  |refine z14.o hF (fun hF=>?_) fun hF=>?_
  |refine z14.f ?_
  |refine zes.A hF fun x hF=>?_
  |refine z1q.I hF fun a hF=>?_
  |refine LkX.o zb2 AV.bool hF (by first|rfl|kernel_rfl) yi5 (by repeat' first|exact Sub.nil _|exact Sub.refl _|refine Sub.agg ?_|refine Sub.tup ?_|refine Sub.fn ?_|exact zaf.nil|refine zaf.cons ?_ ?_|refine Sub.sl _ ?_|exact zhc.nil|refine zhc.cons ?_ ?_) (fun v b hF=>?_)
  |refine UpX.o zb2 AV.bool hF (by first|rfl|kernel_rfl) yi5 (by repeat' first|exact Sub.nil _|exact Sub.refl _|refine Sub.agg ?_|refine Sub.tup ?_|refine Sub.fn ?_|exact zaf.nil|refine zaf.cons ?_ ?_|refine Sub.sl _ ?_|exact zhc.nil|refine zhc.cons ?_ ?_) (fun l hF=>?_)
  |exact ⟨_,hF,LeX.a []⟩
  |refine z8f.I hF (LeX.a []) fun m v hF=>?_
  |refine And.intro ⟨by kernel_rfl,by kernel_rfl⟩ ?_
  |exact zei.oB hF⟩
instance y83 {n a0 a1}:CI E0 (z8o n a0 a1) true 36 [z0n a0,.sl 5 (a1.map z02)] aI:=by unfold z8o;exact CI.w [] Tryz.func36
instance ym0 {n}:CI E0 (zfj n) false 47 [] z01:=by unfold zfj;exact CI.w [] Tryz.func47
theorem yi4 (a b:z1g):eqK (z19 a) (z19 b)=some (decide (a=b)):=by cases a;cases b;simp [z19,eqK,eqL,eq1,aI,zje]
def zbb:Option z0m->AV
 |none=>.nilp
 |some x=>.ref [aI (x.fa.fVars),aI (x.fa.fScopes),.sl 1 (x.fa.fStates.map z0p),.sl 17 (x.fa.fEdges.map z0w),.mapv (List.map (zdj z19 z02) (x.fheld))]
@[reducible,instance] def yjc {n a1 a0 b}:=li (zft n a1 a0 b) (fun c=>⟨[(8,.ptr 24 0),(25,.sl 5 (a1.map z02)),(26,aI (((a1.map z02).length:Int))),(27,aI c.1)],[(24,.box 180 [aI a0.fVars,aI a0.fScopes,.sl 1 (a0.fStates.map z0p),.sl 17 (a0.fEdges.map z0w),.row 22]),(22,.mp (List.map (zdj z19 z02) (c.2)))]⟩) fun _ _=>zft.eq_2 ..
def zbq (r:(Option z0m)×Int):AV:=.tup [zbb (r.1),aI (r.2)]
instance ziq {n a0 a1}:CI E0 (zek n a0 a1) false 82 [z0n a0,.sl 5 (a1.map z02)] (fun r=>.tup [zbb (r.1),aI r.2]):=⟨fun {r} hF=>by
 unfold zek at hF
 refine cw Tryz.func82 ?_
 repeat' first
  |refine AW.step ?_;conv=>whnf
  |refine z14.o hF (fun hF=>?_) fun hF=>?_
  |refine z1q.I hF fun a hF=>?_
  |refine zes.A hF fun x hF=>?_
  |refine OpX.nckP rfl rfl rfl rfl rfl ?_
  |refine UpX.o z19 z02 hF (by first|rfl|kernel_rfl) yi4 (by repeat' first|exact Sub.nil _|exact Sub.refl _|refine Sub.agg ?_|refine Sub.tup ?_|refine Sub.fn ?_|exact zaf.nil|refine zaf.cons ?_ ?_|refine Sub.sl _ ?_|exact zhc.nil|refine zhc.cons ?_ ?_) (fun l hF=>?_)
  |exact ⟨_,hF,LeX.a []⟩
  |refine z8f.I hF (LeX.a []) fun m v hF=>?_
  |refine And.intro ⟨by kernel_rfl,by kernel_rfl⟩ ?_
  |exact zei.oB hF⟩
@[reducible,instance] def y04 {n a1 a0 b c}:=jf (z3w n a1 a0 b c) (fun d=>⟨[(0,.ref [aI a0.fa.fVars,aI a0.fa.fScopes,.sl 1 (a0.fa.fStates.map z0p),.sl 17 (a0.fa.fEdges.map z0w),.mapv (List.map (zdj z19 z02) (a0.fheld))]),(3,.ptr 3 0),(84,.sl 2 (a1.fStarts.map z08)),(85,aI (((a1.fStarts.map z08).length:Int))),(86,aI b),(115,.bool (d))],[(3,.box 60 (z11 a1))]⟩) fun _=>z3w.eq_1 ..
@[reducible,instance] def y05 {n a1 a0 b c e}:=jf (z23 n a1 a0 b c e) (fun d=>⟨[(0,.ref [aI a0.fa.fVars,aI a0.fa.fScopes,.sl 1 (a0.fa.fStates.map z0p),.sl 17 (a0.fa.fEdges.map z0w),.mapv (List.map (zdj z19 z02) (a0.fheld))]),(3,.ptr 3 0),(9,aI b),(10,.ptr 10 0),(84,.sl 2 (a1.fStarts.map z08)),(85,aI (((a1.fStarts.map z08).length:Int))),(86,aI b),(91,.bool (d))],[(3,.box 60 (z11 a1)),(10,.box 102 (zo9 e))]⟩) fun _=>z23.eq_1 ..
@[reducible,instance] def y32 {n a1 a0 b}:=li (z1m n a1 a0 b) (fun c=>⟨[(0,.ref [aI a0.fa.fVars,aI a0.fa.fScopes,.sl 1 (a0.fa.fStates.map z0p),.sl 17 (a0.fa.fEdges.map z0w),.mapv (List.map (zdj z19 z02) (a0.fheld))]),(3,.ptr 3 0),(84,.sl 2 (a1.fStarts.map z08)),(85,aI (((a1.fStarts.map z08).length:Int))),(86,aI c)],[(3,.box 60 (z11 a1))]⟩) fun _ _=>z1m.eq_2 ..
@[reducible,instance] def y02 {n a1 a0 b c e}:=jf (z3u n a1 a0 b c e) (fun d=>⟨[(0,.ref [aI a0.fa.fVars,aI a0.fa.fScopes,.sl 1 (a0.fa.fStates.map z0p),.sl 17 (a0.fa.fEdges.map z0w),.mapv (List.map (zdj z19 z02) (a0.fheld))]),(3,.ptr 3 0),(8,.bool (e)),(32,.sl 4 (a1.fBindings.map z0b)),(33,aI (((a1.fBindings.map z0b).length:Int))),(34,aI b),(63,.bool (d))],[(3,.box 60 (z11 a1))]⟩) fun _=>z3u.eq_1 ..
@[reducible,instance] def y03 {n a1 a0 b c e f}:=jf (z3v n a1 a0 b c e f) (fun d=>⟨[(0,.ref [aI a0.fa.fVars,aI a0.fa.fScopes,.sl 1 (a0.fa.fStates.map z0p),.sl 17 (a0.fa.fEdges.map z0w),.mapv (List.map (zdj z19 z02) (a0.fheld))]),(3,.ptr 3 0),(5,aI b),(6,.ptr 6 0),(8,.bool (f)),(32,.sl 4 (a1.fBindings.map z0b)),(33,aI (((a1.fBindings.map z0b).length:Int))),(34,aI b),(49,.bool (d))],[(3,.box 60 (z11 a1)),(6,.box 76 (y21 e))]⟩) fun _=>z3v.eq_1 ..
@[reducible,instance] def y33 {n a1 a0 b}:=li (z2i n a1 a0 b) (fun c=>⟨[(0,.ref [aI a0.fa.fVars,aI a0.fa.fScopes,.sl 1 (a0.fa.fStates.map z0p),.sl 17 (a0.fa.fEdges.map z0w),.mapv (List.map (zdj z19 z02) (a0.fheld))]),(3,.ptr 3 0),(32,.sl 4 (a1.fBindings.map z0b)),(33,aI (((a1.fBindings.map z0b).length:Int))),(34,aI c)],[(3,.box 60 (z11 a1))]⟩) fun _ _=>z2i.eq_2 ..
@[reducible,instance] def y34 {n a1 a0}:=jf (z4p n a1 a0) (fun b=>⟨[(0,.ref [aI a0.fa.fVars,aI a0.fa.fScopes,.sl 1 (a0.fa.fStates.map z0p),.sl 17 (a0.fa.fEdges.map z0w),.mapv (List.map (zdj z19 z02) (a0.fheld))]),(3,.ptr 3 0),(11,.bool (b))],[(3,.box 60 (z11 a1))]⟩) fun _=>z4p.eq_1 ..
end
end Go.Proofs.YtidhlpjgifoneaaGreat
