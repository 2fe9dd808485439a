/- What some functions compute, over plain values. -/
import Derived.Test.YtidhlpjgifoneaaGreatK22
import Derived.Test.YtidhlpjgifoneaaGreatK21
set_option linter.unusedVariables false
set_option linter.unusedSimpArgs false
set_option maxRecDepth 100000
set_option maxHeartbeats 8000000
namespace Go.Proofs.YtidhlpjgifoneaaGreat
open Go.RowKit List
noncomputable section
abbrev ybm {n a0 b}:=li (zi8 n a0 b) (fun c=>⟨[(3,aI 0),(6,.sl 1 (a0.map aI)),(7,aI (((a0.map aI).length:Int))),(8,aI c)],[]⟩) fun _ _=>zi8.eq_2 ..
abbrev zo0 {n a1 a0 b}:=li (z8l n a1 a0 b) (fun c=>⟨[(0,.sl 4 (a0.map z0b)),(1,.sl 4 (a1.map z0b)),(2,.fn 132 []),(11,.sl 4 (a0.map z0b)),(12,aI (((a0.map z0b).length:Int))),(13,aI c)],[]⟩) fun _ _=>z8l.eq_2 ..
abbrev zjb {n a1 a0 b}:=li (z57 n a1 a0 b) (fun c=>⟨[(0,.sl 2 (a0.map z09)),(1,.sl 2 (a1.map z09)),(2,.fn 165 []),(11,.sl 2 (a0.map z09)),(12,aI (((a0.map z09).length:Int))),(13,aI c)],[]⟩) fun _ _=>z57.eq_2 ..
abbrev zxq {n}:=jf (z84 n) (fun b=>⟨[(2,.bool (b))],[]⟩) fun _=>z84.eq_1 ..
abbrev zlb {n b a0 c}:=li (z6i n b a0 c) (fun d=>⟨[(0,.sl 4 (a0.map z0b)),(1,.fn 155 [.ref (z16 b)]),(7,aI (((a0.map z0b).length:Int))),(8,aI d)],[]⟩) fun _ _=>z6i.eq_2 ..
abbrev zlc {n b a0 c}:=li (z6j n b a0 c) (fun d=>⟨[(0,.sl 3 (a0.map z01)),(1,.fn 118 [.ref (z16 b)]),(7,aI (((a0.map z01).length:Int))),(8,aI d)],[]⟩) fun _ _=>z6j.eq_2 ..
attribute [instance] ybm zo0 zjb zxq zlb zlc
instance ypn {n a0}:CI E0 (zhb n a0) true 133 [.sl 1 (a0.map aI)] aI:=by unfold zhb;exact CI.w [] Tryz.func133
instance yk0 {n a0 a1}:CI E0 (zil n a0 a1) true 134 [z1b a0,z1b a1] aI:=by unfold zil;exact CI.w [] Tryz.func134
instance ybc {n a0 a1}:CI E0 (zfa n a0 a1) true 132 [z0b a0,z0b a1] aI:=by unfold zfa;exact CI.w [] Tryz.func132
instance y5s {n a0 a1}:CI E0 (zcc n a0 a1) true 131 [.sl 4 (a0.map z0b),.sl 4 (a1.map z0b),.fn 132 []] aI:=by unfold zcc;exact CI.w [] Tryz.func131
instance yfl {n a0 a1}:CI E0 (zfb n a0 a1) true 92 [z0d a0,z0d a1] aI:=by unfold zfb;exact CI.w [] Tryz.func92
instance yfk {n a0 a1}:CI E0 (zgj n a0 a1) true 165 [z09 a0,z09 a1] aI:=by unfold zgj;exact CI.w [] Tryz.func165
instance zzy {n a0 a1}:CI E0 (za4 n a0 a1) true 164 [.sl 2 (a0.map z09),.sl 2 (a1.map z09),.fn 165 []] aI:=by unfold za4;exact CI.w [] Tryz.func164
instance yiy {n a0 a1}:CI E0 (zhq n a0 a1) true 122 [z01 a0,z01 a1] aI:=by unfold zhq;exact CI.w [] Tryz.func122
instance yjw {n a0}:CI E0 (zii n a0) true 117 [z02 a0] (fun r=>.bool (r)):=by unfold zii;exact CI.w [1] Tryz.func117
instance ypb {n a0}:CI E0 (zih n a0) true 115 [z02 a0] z1b:=by unfold zih;exact CI.w [] Tryz.func115
instance ymw {n a0 a1}:CI E0 (zi5 n a0 a1) true 116 [z1b a0,z1b a1] aI:=by unfold zi5;exact CI.w [] Tryz.func116
instance yjx {n a0 a1}:CI E0 (zgh n a0 a1) true 155 [z0b a0,.ref (z16 a1)] (fun r=>.bool (r)):=by unfold zgh;exact CI.w [] Tryz.func155
instance y2g {n a0 b}:CI E0 (zb5 n a0 b) true 186 [.sl 4 (a0.map z0b),.fn 155 [.ref (z16 b)]] aI:=by unfold zb5;exact CI.w [] Tryz.func186
instance zza {n a0 b}:CI E0 (z9h n a0 b) true 154 [.sl 4 (a0.map z0b),.fn 155 [.ref (z16 b)]] (fun r=>.bool (r)):=by unfold z9h;exact CI.w [] Tryz.func154
instance ymx {n a0 a1}:CI E0 (zs0 n a0 a1) true 119 [z01 a0,z02 a1] (fun r=>.bool (r)):=⟨fun {r} hF=>by
 unfold zs0 at hF
 refine cw Tryz.func119 ?_
 repeat' first
  |refine AW.step ?_;conv=>whnf
  |refine zak.I hF (fun a hF=>?_) rfl rfl fun _=>Or.inr rfl
  |exact RetX.oB hF⟩
instance yjz {n a0 a1}:CI E0 (zgi n a0 a1) true 118 [z01 a0,.ref (z16 a1)] (fun r=>.bool (r)):=by unfold zgi;exact CI.w [] Tryz.func118
instance y2h {n a0 b}:CI E0 (zb6 n a0 b) true 59 [.sl 3 (a0.map z01),.fn 118 [.ref (z16 b)]] aI:=by unfold zb6;exact CI.w [] Tryz.func59
instance zzb {n a0 b}:CI E0 (z9i n a0 b) true 27 [.sl 3 (a0.map z01),.fn 118 [.ref (z16 b)]] (fun r=>.bool (r)):=by unfold z9i;exact CI.w [] Tryz.func27
instance ymy {n a0 a1}:CI E0 (zi6 n a0 a1) true 84 [.sl 3 (a0.map z01),z02 a1] aI:=⟨fun {r} hF=>by
 unfold zi6 at hF
 refine cw Tryz.func84 ?_
 repeat' first
  |refine AW.step ?_;conv=>whnf
  |refine z12.o hF (fun hF=>?_) fun hF=>?_
  |refine z1l.I hF fun a hF=>?_
  |refine zak.I hF (fun a hF=>?_) rfl rfl fun _=>Or.inr rfl
  |exact RetX.oB hF⟩
end
noncomputable section
abbrev zo1 {n d c}:=li (z63 n d c) (fun b=>⟨[(0,.row 200000),(1,.fn 163 [.ref [.fn 122 []]]),(5,aI b.1),(6,.der (.sub 3 (d)) 200000),(7,aI b.2.1)],[(200000,.row 60 3 (b.2.2.map z01))]⟩) fun _ _=>z63.eq_2 ..
abbrev zo2 {n m0 b}:=li (z8m n m0 b) (fun c=>⟨[(0,.row 200000),(1,.fn 163 [.ref [.fn 122 []]]),(5,aI c)],[(200000,.row 60 3 (m0.map z01))]⟩) fun _ _=>z8m.eq_2 ..
abbrev zpk {n}:=jf (z72 n) (fun b=>⟨[(2,.bool (b))],[]⟩) fun _=>z72.eq_1 ..
abbrev zpc {n a0 b}:=li (z96 n a0 b) (fun c=>⟨[(0,.sl 11 (a0.map z0u)),(3,aI c)],[]⟩) fun _ _=>z96.eq_2 ..
abbrev zpg {n}:=jf (z6y n) (fun b=>⟨[(2,.bool (b))],[]⟩) fun _=>z6y.eq_1 ..
abbrev zpd {n a0 b d c}:=li (z97 n a0 b d c) (fun e=>⟨[(1,.ptr 1 0),(4,aI b),(5,.ptr 5 0),(6,aI e)],[(1,.box 25 (z0g a0)),(5,.box 115 (z2a d))]⟩) fun _ _=>z97.eq_2 ..
abbrev znl {n a0 b c e}:=jf (z1r n a0 b c e) (fun d=>⟨[(1,.ptr 1 0),(4,aI b),(5,.ptr 5 0),(105,.bool (d))],[(1,.box 25 (z0g a0)),(5,.box 115 (z2a e))]⟩) fun _=>z1r.eq_1 ..
abbrev znm {n a0 b c d}:=jf (z5w n a0 b c d) (fun e=>⟨[(1,.ptr 1 0),(4,aI b),(64,.bool (e))],[(1,.box 25 (z0g a0))]⟩) fun _=>z5w.eq_1 ..
abbrev zpe {n a0 b}:=li (z4k n a0 b) (fun c=>⟨[(1,.ptr 1 0),(4,aI c)],[(1,.box 25 (z0g a0))]⟩) fun _ _=>z4k.eq_2 ..
abbrev znj {n a0 b c}:=jf (z23 n a0 b c) (fun d=>⟨[(1,.ptr 1 0),(3,aI b),(55,.bool (d))],[(1,.box 25 (z0g a0))]⟩) fun _=>z23.eq_1 ..
abbrev znk {n a0 b c d}:=jf (z5v n a0 b c d) (fun e=>⟨[(1,.ptr 1 0),(3,aI b),(15,.bool (e))],[(1,.box 25 (z0g a0))]⟩) fun _=>z5v.eq_1 ..
abbrev zpf {n a0 b}:=li (z4l n a0 b) (fun c=>⟨[(1,.ptr 1 0),(3,aI c)],[(1,.box 25 (z0g a0))]⟩) fun _ _=>z4l.eq_2 ..
abbrev zpn {n a0 b}:=li (z9a n a0 b) (fun c=>⟨[(0,.sl 3 (a0.map z08)),(3,aI c)],[]⟩) fun _ _=>z9a.eq_2 ..
abbrev zpm {n a0 b}:=li (z99 n a0 b) (fun c=>⟨[(0,.sl 5 (a0.map z02)),(3,aI c)],[]⟩) fun _ _=>z99.eq_2 ..
abbrev zmi {n a0 b c}:=li (z7o n a0 b c) (fun d=>⟨[(0,.sl 5 (a0.map z02)),(3,aI b),(4,aI d)],[]⟩) fun _ _=>z7o.eq_2 ..
abbrev zmh {n a0 b c}:=li (z7n n a0 b c) (fun d=>⟨[(0,.sl 5 (a0.map z02)),(3,aI b),(4,aI d)],[]⟩) fun _ _=>z7n.eq_2 ..
attribute [instance] zo1 zo2 zpk zpc zpg zpd znl znm zpe znj znk zpf zpn zpm zmi zmh
set_option maxHeartbeats 400000 in
theorem y8t (l:List (Cel 3))(S:Nat->Prop)(v:Value)(w:World)(h:Sl w S 3 encC v l)(hl:l.length<=1000000000) :
  Calls Tryz.prog 149 #[v] w (zwe 60 3 encC l w):=by
 have eok:EOk Tryz.prog 57 60 3 56 (encC (n:=3)):=eokC (sz:=3) (zs2 57 _ rfl) rfl (zs2 60 _ rfl) (by omega) rfl
 obtain ⟨A,c,rfl,hc,_⟩:=h.form
 have hq:=fun (W:World)=>Lib.run_eql_slice_nil W 57 60 A l.length c 0 0 Tryz.underlying57
 have H:=hide h
 cases A with
 |none =>
  have h0:l=[]:=h.none_nil
  subst h0
  clear h H hl hc
  simp only [length_nil,Option.isNone_none] at hq ⊢
  go_enter Tryz.func149,Tryz.ntmps149
  go_wp2
  go_ret
  exact ⟨none,0,rfl,Own.nil_,by go_grown⟩
 |some ad =>
  clear h
  go_enter Tryz.func149,Tryz.ntmps149
  go_wp2_with (at_builtin;refine zax rfl _ _ rfl eok rfl Own.made_ rfl (H.out.alloc _) (by simp;omega) (by omega) (by simp) ?_;intro A' c' w1 ho hg _)
  go_ret
  exact ⟨A',c',rfl,ho,(Own.made_ (sz:=3) (enc:=encC (n:=3))).grown ((Below.refl _ _).alloc (Nat.le_refl _) _) (Nat.le_refl _) (by simp) hg⟩
theorem y4s {n a r}(hF:zay n a=some r):ConT E0 149 [.sl 3 (List.map z01 a)] 60 3 (List.map z01 r) (.row 0):=zjn rfl (z0x Tryz.func149 rfl rfl) y8t hF
instance yb6 {n a0 a1}:CI E0 (zcw n a0 a1) true 163 [z01 a0,z01 a1,.ref [.fn 122 []]] (fun r=>.bool (r)):=by unfold zcw;exact CI.w [] Tryz.func163
def zso (m0:(List z00)):List (Nat×Ent):=[(200000,.row 60 3 (m0.map z01))]
def zc3 (r:(List z00)):List (Nat×Ent):=[(260000,.row 60 3 (r.map z01))]
def zeu (r:(List z00)):AV:=.row 260000
def ziq (r:(List z00)):AS:=⟨[(4,.row 260000)],zc3 r⟩
theorem zpz {n m0 r}(hF:zcd n m0=some r):ConG E0.P none (CalF E0.P 162 0) [.row 200000,.fn 163 [.ref [.fn 122 []]]] [] (zso m0) (zeu r) (zc3 r):=by
 unfold zcd at hF
 refine ConG.walk (E:=(E0p 2)) (caps:=[]) _ Tryz.func162 rfl rfl rfl rfl rfl ?_
 repeat' first
  |refine AW.step ?_;conv=>whnf
  |refine z12.o hF (fun hF=>?_) fun hF=>?_
  |exact GX.A (res:=zeu) (meF:=zc3) hF ziq (h1:=LeX.a [(260000,200000)])
  |refine NatX.o hF (fun m hF=>?_)
  |refine EltX.o z01 hF (fun x hF=>?_)
  |refine z1l.I hF fun a hF=>?_
  |refine OpX.sub hF rfl rfl rfl rfl rfl rfl rfl rfl rfl rfl (fun m hF=>?_)
  |refine OpX.clr z01 hF rfl rfl rfl rfl rfl rfl rfl rfl rfl rfl rfl (by first|exact SubL.refl _|(repeat' first|exact SubL.nil|refine SubL.cons ?_ ?_|exact Sub.refl _|exact Sub.nil _|refine Sub.agg ?_)) (fun l hF=>?_)
  |refine SlsX.o z01 hF (fun l hF=>?_)
  |exact GX.A (res:=zeu) (meF:=zc3) hF ziq (h1:=LeX.a [(260000,64)])
  |refine OpX.lns hF rfl rfl rfl rfl rfl rfl rfl (fun hF=>?_)
  |refine OpX.ixs hF rfl rfl rfl rfl rfl rfl rfl rfl rfl rfl (fun m hF=>?_)
  |refine SetX.o z01 hF (fun x=>rfl) (fun x=>(by first|exact SubL.refl _|(repeat' first|exact SubL.nil|refine SubL.cons ?_ ?_|exact Sub.refl _|exact Sub.nil _|refine Sub.agg ?_))) (fun l hF=>?_)
  |exact ⟨_,hF,LeX.a []⟩
  |refine z7z.I hF (LeX.a []) fun m v hF=>?_
  |refine AndA ?_
  |refine EqX.A ?_
def y97 (m0:(List z00)):List (Nat×Ent):=[(200000,.row 60 3 (m0.map z01))]
def zig (r:(List z00)):List (Nat×Ent):=[(260000,.row 60 3 (r.map z01))]
def zkv (r:(List z00)):AV:=.row 260000
def y93 (r:(List z00)):AS:=⟨[(4,.row 260000)],zig r⟩
theorem zsv {n m0 r}(hF:zhi n m0=some r):ConG E0.P none (CalF E0.P 121 0) [.row 200000,.fn 122 []] [] (y97 m0) (zkv r) (zig r):=by
 unfold zhi at hF
 refine ConG.walk (E:=(E0p 2)) (caps:=[]) _ Tryz.func121 rfl rfl rfl rfl rfl ?_
 repeat' first
  |refine AW.frbO hF 3 rfl rfl (fun hF=>?_)
  |refine AW.regO hF fun hF=>?_
  |refine AW.stepU [2] ?_;conv=>whnf
  |refine zak.oI hF 200000 (fun r=>r) z01 (fun _=>AV.tup []) rfl (fun a h=>(ConC.env rfl (yep h))) rfl rfl rfl (fun a hF=>?_)
  |refine zak.oM (z6d 10 hF) [(200000,200000)] [(260000,11000000)] _ _ zc3 zeu [200000] (fun a h=>ConG.up (zpz h)) (z0x Tryz.func162 rfl rfl) rfl rfl rfl ⟨⟨rfl,rfl⟩,trivial⟩ (fun a=>⟨rfl,rfl,rfl,rfl,rfl,rfl,rfl,rfl⟩) (fun a hF=>?_)
  |exact GX.A (res:=zkv) (meF:=zig) hF y93 (h1:=LeX.a [(260000,11000000)])
instance yn0 {n a0}:CI E0 (znc n a0) false 109 [.sl 3 (a0.map z01)] (fun r=>.tup [.sl 3 (r.1.map z01),aI r.2]):=⟨fun {r} hF=>by
 unfold znc at hF
 refine cw Tryz.func109 ?_
 repeat' first
  |refine AW.step ?_;conv=>whnf
  |refine z12.o hF (fun hF=>?_) fun hF=>?_
  |refine z1l.oR hF (fun r=>r) z01 (fun _=>AV.row 0) rfl (fun a h=>y4s h) (fun a hF=>?_)
  |refine zak.oM (z6d 7 hF) [(200000,6)] [(260000,8000000)] _ _ zig zkv [6] (fun a h=>ConG.up (zsv h)) (z0x Tryz.func121 rfl rfl) rfl rfl rfl ⟨⟨rfl,rfl⟩,trivial⟩ (fun a=>⟨rfl,rfl,rfl,rfl,rfl,rfl,rfl,rfl⟩) (fun a hF=>?_)
  |exact RetX.oB hF⟩
instance y85 {n a0}:CI E0 (z9p n a0) true 61 [z0l a0] (fun r=>.bool (r)):=by unfold z9p;exact CI.w [1] Tryz.func61
instance y82 {n a0}:CI E0 (zd9 n a0) true 60 [.sl 11 (a0.map z0u)] (fun r=>.bool (r)):=by unfold zd9;exact CI.w [] Tryz.func60
instance y83 {n a0}:CI E0 (zda n a0) true 30 [z0o a0] (fun r=>.bool (r)):=⟨fun {r} hF=>by
 unfold zda at hF
 refine cw Tryz.func30 ?_
 repeat' first
  |refine AW.jI hF (fun v hF=>?_) fun hF=>?_
  |refine AW.regO hF fun hF=>?_
  |refine AW.stepU [2,4,7,10,17] ?_;conv=>whnf
  |refine z12.o hF (fun hF=>?_) fun hF=>?_
  |refine z12.t ?_
  |refine z12.f ?_
  |exact ⟨_,hF,LeX.a []⟩
  |refine IdxX.A hF fun x hF=>?_
  |refine IdxX.oD hF z42 (fun x hF=>?_)
  |refine z1l.I hF fun a hF=>?_
  |refine z7z.I hF (LeX.a []) fun m v hF=>?_
  |exact RetX.oB hF⟩
instance y89 {n a0}:CI E0 (zdd n a0) true 62 [.sl 3 (a0.map z08)] (fun r=>.bool (r)):=by unfold zdd;exact CI.w [] Tryz.func62
instance y88 {n a0}:CI E0 (zdc n a0) true 31 [.sl 5 (a0.map z02)] (fun r=>.bool (r)):=by unfold zdc;exact CI.w [] Tryz.func31
instance y2f {n a0}:CI E0 (zb4 n a0) true 100 [z02 a0] (fun r=>.bool (r)):=by unfold zb4;exact CI.w [] Tryz.func100
instance y87 {n a0}:CI E0 (z9q n a0) true 101 [z02 a0] z1b:=by unfold z9q;exact CI.w [] Tryz.func101
instance y5o {n a0 a1}:CI E0 (zan n a0 a1) true 102 [z02 a0,z02 a1] (fun r=>.bool (r)):=by unfold zan;exact CI.w [] Tryz.func102
end
noncomputable section
abbrev zmj {n a0 b}:=li (z2f n a0 b) (fun c=>⟨[(0,.sl 5 (a0.map z02)),(3,aI c)],[]⟩) fun _ _=>z2f.eq_2 ..
abbrev zm1 {n a1 a0 b}:=li (z7k n a1 a0 b) (fun c=>⟨[(0,.sl 5 (a0.map z02)),(3,.ptr 3 0),(4,.ptr 4 0),(6,aI c)],[(3,.box 74 (yjf a1)),(4,.box 71 [aI 0,aI 0,aI 0,aI 0,.nils])]⟩) fun _ _=>z7k.eq_2 ..
abbrev zm2 {n a2 a1 a0 x1 b}:=li (z1v n a2 a1 a0 x1 b) (fun c=>⟨[(0,.sl 5 (a0.map z02)),(1,aI a1),(2,.sl 4 (a2.map z0b)),(6,.ptr 6 0),(7,.ptr 7 0),(8,aI c.1)],[(6,.box 220 [.nils]),(7,.box 220 [.cont (x1) 13]),(13,.nest 26 (List.map (enR z02 71 5) (c.2)))]⟩) fun _ _=>z1v.eq_2 ..
abbrev zj6 {n}:=jf (z38 n) (fun b=>⟨[(6,.bool (b))],[]⟩) fun _=>z38.eq_1 ..
abbrev zlt {n a3 x1 x2 b}:=li (z7g n a3 x1 x2 b) (fun c=>⟨[(7,.ptr 7 0),(9,.ptr 9 0),(10,.sl 11 (x2.fGuards.map z0u)),(11,aI c)],[(7,.box 71 (z16 a3)),(9,.box 220 (zd4 x1))]⟩) fun _ _=>z7g.eq_2 ..
abbrev zni {n a1 a0 b}:=li (z5u n a1 a0 b) (fun c=>⟨[(1,aI a1),(2,.ptr 2 0),(5,.row 7029),(6,aI c.1)],[(2,.box 25 (z0g a0)),(7029,.row 115 17 (c.2.map z0w))]⟩) fun _ _=>z5u.eq_2 ..
abbrev zp2 {n a1 a0 b}:=li (z90 n a1 a0 b) (fun c=>⟨[(0,.sl 1 (a0.map aI)),(1,aI a1),(5,aI c)],[]⟩) fun _ _=>z90.eq_2 ..
abbrev zl0 {n a1 a0 b}:=li (z44 n a1 a0 b) (fun c=>⟨[(0,.sl 2 (a0.map z09)),(1,aI a1),(5,.row 7026),(6,aI c.1)],[(7026,.row 102 2 (c.2.map z09))]⟩) fun _ _=>z44.eq_2 ..
abbrev zkz {n a2 a1 x1 b c d}:=jf (z43 n a2 a1 x1 b c d) (fun e=>⟨[(0,.sl 2 (x1.map z09)),(1,aI a1),(2,aI a2),(7,.row 7031),(8,aI b.1),(24,.bool (e))],[(7031,.row 102 2 (b.2.map z09))]⟩) fun _=>z43.eq_1 ..
abbrev zky {n a2 a1 x1 b}:=li (z2y n a2 a1 x1 b) (fun c=>⟨[(0,.sl 2 (x1.map z09)),(1,aI a1),(2,aI a2),(7,.row 7031),(8,aI c.1)],[(7031,.row 102 2 (c.2.map z09))]⟩) fun _ _=>z2y.eq_2 ..
abbrev zne {n a2 a1 a0 b}:=li (z8e n a2 a1 a0 b) (fun c=>⟨[(0,.sl 2 (a0.map z09)),(2,aI a2),(4,.ptr 4 0),(7,aI c)],[(4,.box 209 (zop a1))]⟩) fun _ _=>z8e.eq_2 ..
abbrev zjy {n a3 b c}:=li (z5g n a3 b c) (fun d=>⟨[(8,.ptr 8 0),(10,.ptr 10 0),(15,.ptr 15 0),(20,aI d.1)],[(8,.box 115 (z2a a3)),(10,.box 60 [aI 0,.nils,.nils]),(15,.box 60 [aI a3.fTo,.sl 4 (b.map z0b),.sl 2 (d.2.map z09)])]⟩) fun _ _=>z5g.eq_2 ..
abbrev zjz {n a3 b c d e}:=li (z5h n a3 b c d e) (fun f=>⟨[(8,.ptr 8 0),(10,.ptr 10 0),(15,.ptr 15 0),(18,.ptr 18 0),(19,aI f)],[(8,.box 115 (z2a a3)),(10,.box 60 [aI 0,.nils,.nils]),(15,.box 60 [aI a3.fTo,.sl 4 (c.map z0b),.sl 2 (b.map z09)]),(18,.box 220 (zd4 d))]⟩) fun _ _=>z5h.eq_2 ..
abbrev zk0 {n a4 a3 a2 a1 b c}:=li (z5i n a4 a3 a2 a1 b c) (fun d=>⟨[(1,.sl 5 (a1.map z02)),(7,.ptr 7 0),(8,.ptr 8 0),(9,.ptr 9 0),(10,.ptr 10 0),(15,.ptr 15 0),(17,aI d)],[(7,.box 60 (z10 a2)),(8,.box 115 (z2a a3)),(9,.box 71 (z16 a4)),(10,.box 60 [aI 0,.nils,.nils]),(15,.box 60 [aI a3.fTo,.nils,.sl 2 (b.map z09)])]⟩) fun _ _=>z5i.eq_2 ..
attribute [instance] zmj zm1 zm2 zj6 zlt zni zp2 zl0 zkz zky zne zjy zjz zk0
instance y4e {n a0}:CI E0 (za0 n a0) true 64 [.sl 5 (a0.map z02)] aI:=by unfold za0;exact CI.w [] Tryz.func64
instance y5c {n a0 a1}:CI E0 (z2q n a0 a1) true 32 [z0o a0,.sl 5 (a1.map z02)] aI:=by unfold z2q;exact CI.w [] Tryz.func32
instance y3w {n}:CI E0 (ze3 n) false 65 [] z01:=by unfold ze3;exact CI.w [] Tryz.func65
instance y40 {n a0 a1}:CI E0 (zbp n a0 a1) false 166 [.sl 5 (a0.map z02),z1b a1] (fun r=>.tup [z02 r.1,.bool (r.2)]):=by unfold zbp;exact CI.w [] Tryz.func166
instance y41 {n a0 a1 a2}:CI E0 (ze4 n a0 a1 a2) false 196 [.sl 5 (a0.map z02),aI a1,.sl 4 (a2.map z0b)] zd2:=⟨fun {r} hF=>by
 unfold ze4 at hF
 refine cw Tryz.func196 ?_
 repeat' first
  |refine AW.nstO (er:=z02) 71 5 hF 13 rfl (fun hF=>?_)
  |refine AW.frrO (ety:=71) (sz:=5) z02 hF 13 rfl (fun hF=>?_)
  |refine AW.regO hF fun hF=>?_
  |refine AW.stepU [9,7,2] ?_;conv=>whnf
  |refine z12.o hF (fun hF=>?_) fun hF=>?_
  |refine z12.f ?_
  |refine MakX.on hF (fun m hF=>?_)
  |refine IdxX.A hF fun x hF=>?_
  |refine z1l.I hF fun a hF=>?_
  |refine OpX.ixc hF rfl rfl rfl rfl rfl rfl rfl rfl (fun hF=>?_)
  |refine OpX.ntk z02 hF rfl rfl rfl rfl rfl rfl rfl rfl rfl rfl (fun q hF=>?_)
  |refine AppX.oA hF fun l hF=>?_
  |refine OpX.npt z02 hF rfl rfl rfl rfl rfl rfl rfl rfl rfl rfl rfl (fun l hF=>?_)
  |exact ⟨_,hF,LeX.a []⟩
  |refine z7z.I hF (LeX.a []) fun m v hF=>?_
  |refine AndA ?_
  |refine EqX.A ?_
  |exact RetX.oB hF⟩
def ztk (r:z0i):AV:=.agg [.sl 1 (List.map (fun q=>AV.sl 5 (List.map z02 q)) (r.fVars))]
instance zql {n a0 a1}:CI E0 (z9n n a0 a1) false 167 [.sl 5 (a0.map z02),z01 a1] zd2:=by unfold z9n;exact CI.w [] Tryz.func167
instance zzv {n a0 a1 a2}:CI E0 (z7f n a0 a1 a2) true 168 [z0u a0,zd2 a1,z02 a2] (fun r=>.bool (r)):=by unfold z7f;exact CI.w [1] Tryz.func168
instance y3v {n a0 a1 a2 a3}:CI E0 (zbn n a0 a1 a2 a3) true 125 [z0o a0,.sl 5 (a1.map z02),z01 a2,z02 a3] (fun r=>.bool (r)):=by unfold zbn;exact CI.w [] Tryz.func125
instance y5f {n a0 a1}:CI E0 (zc8 n a0 a1) false 126 [z0o a0,aI a1] (fun r=>.sl 17 (r.map z0w)):=⟨fun {r} hF=>by
 unfold zc8 at hF
 refine cw Tryz.func126 ?_
 repeat' first
  |refine AW.regO hF fun hF=>?_
  |refine AW.stepU [5] ?_;conv=>whnf
  |refine z12.o hF (fun hF=>?_) fun hF=>?_
  |refine IdxX.A hF fun x hF=>?_
  |refine AppX.oA hF fun l hF=>?_
  |exact ⟨_,hF,LeX.a [(7029,29)]⟩
  |exact ⟨_,hF,LeX.a []⟩
  |refine z7z.I hF ?_ fun m v hF=>?_
  |exact LeX.trans (LeX.adopt 5 7029 115 17 rfl rfl) (LeX.a [])
  |exact RetX.oB hF⟩
instance y7x {n a0 a1}:CI E0 (zd6 n a0 a1) true 169 [.sl 1 (a0.map aI),aI a1] (fun r=>.bool (r)):=by unfold zd6;exact CI.w [] Tryz.func169
instance y28 {n a0 a1}:CI E0 (z91 n a0 a1) false 173 [.sl 2 (a0.map z09),aI a1] (fun r=>.sl 2 (r.map z09)):=⟨fun {r} hF=>by
 unfold z91 at hF
 refine cw Tryz.func173 ?_
 repeat' first
  |refine AW.regO hF fun hF=>?_
  |refine AW.stepU [5] ?_;conv=>whnf
  |refine z12.o hF (fun hF=>?_) fun hF=>?_
  |refine IdxX.A hF fun x hF=>?_
  |refine AppX.oA hF fun l hF=>?_
  |exact ⟨_,hF,LeX.a [(7026,26)]⟩
  |exact ⟨_,hF,LeX.a []⟩
  |refine z7z.I hF ?_ fun m v hF=>?_
  |exact LeX.trans (LeX.adopt 5 7026 102 2 rfl rfl) (LeX.a [])
  |exact RetX.oB hF⟩
instance y27 {n a0 a1 a2}:CI E0 (zb1 n a0 a1 a2) false 171 [.sl 2 (a0.map z09),aI a1,aI a2] (fun r=>.sl 2 (r.map z09)):=⟨fun {r} hF=>by
 unfold zb1 at hF
 refine cw Tryz.func171 ?_
 repeat' first
  |refine AW.jI hF (fun v hF=>?_) fun hF=>?_
  |refine AW.regO hF fun hF=>?_
  |refine AW.stepU [4] ?_;conv=>whnf
  |refine z12.o hF (fun hF=>?_) fun hF=>?_
  |refine z1l.I hF fun a hF=>?_
  |refine AppX.oA hF fun l hF=>?_
  |refine SlsX.o z09 hF (fun l hF=>?_)
  |refine IdxX.A hF fun x hF=>?_
  |exact ⟨_,hF,LeX.a [(7031,31)]⟩
  |exact ⟨_,hF,LeX.a []⟩
  |refine z7z.I hF ?_ fun m v hF=>?_
  |exact LeX.trans (LeX.adopt 7 7031 102 2 rfl rfl) (LeX.a [])
  |exact RetX.oB hF⟩
instance y5b {n a0 a1 a2}:CI E0 (zc5 n a0 a1 a2) true 172 [.sl 2 (a0.map z09),z27 a1,aI a2] (fun r=>.bool (r)):=by unfold zc5;exact CI.w [] Tryz.func172
end
noncomputable section
abbrev zk1 {n a4 a3 a2 a1 b}:=li (z5j n a4 a3 a2 a1 b) (fun c=>⟨[(1,.sl 5 (a1.map z02)),(7,.ptr 7 0),(8,.ptr 8 0),(9,.ptr 9 0),(10,.ptr 10 0),(15,.ptr 15 0),(16,aI c.1)],[(7,.box 60 (z10 a2)),(8,.box 115 (z2a a3)),(9,.box 71 (z16 a4)),(10,.box 60 [aI 0,.nils,.nils]),(15,.box 60 [aI a3.fTo,.nils,.sl 2 (c.2.map z09)])]⟩) fun _ _=>z5j.eq_2 ..
abbrev zk4 {n a4 a3 a2 a1}:=jf (z18 n a4 a3 a2 a1) (fun b=>⟨[(1,.sl 5 (a1.map z02)),(7,.ptr 7 0),(8,.ptr 8 0),(9,.ptr 9 0),(10,.ptr 10 0),(70,.bool (b))],[(7,.box 60 (z10 a2)),(8,.box 115 (z2a a3)),(9,.box 71 (z16 a4)),(10,.box 60 [aI 0,.nils,.nils])]⟩) fun _=>z18.eq_1 ..
abbrev zk3 {n a4 a3 a2 a1 x1 x2 b c}:=jf (z3i n a4 a3 a2 a1 x1 x2 b c) (fun d=>⟨[(1,.sl 5 (a1.map z02)),(7,.ptr 7 0),(8,.ptr 8 0),(9,.ptr 9 0),(10,.ptr 10 0),(12,.ptr 12 0),(13,.sl 11 (x2.fGuards.map z0u)),(14,aI b),(54,.bool (d))],[(7,.box 60 (z10 a2)),(8,.box 115 (z2a a3)),(9,.box 71 (z16 a4)),(10,.box 60 [aI 0,.nils,.nils]),(12,.box 220 (zd4 x1))]⟩) fun _=>z3i.eq_1 ..
abbrev zk2 {n a4 a3 a2 a1 x1 x2 b}:=li (z2l n a4 a3 a2 a1 x1 x2 b) (fun c=>⟨[(1,.sl 5 (a1.map z02)),(7,.ptr 7 0),(8,.ptr 8 0),(9,.ptr 9 0),(10,.ptr 10 0),(12,.ptr 12 0),(13,.sl 11 (x2.fGuards.map z0u)),(14,aI c)],[(7,.box 60 (z10 a2)),(8,.box 115 (z2a a3)),(9,.box 71 (z16 a4)),(10,.box 60 [aI 0,.nils,.nils]),(12,.box 220 (zd4 x1))]⟩) fun _ _=>z2l.eq_2 ..
abbrev zpj {n a1 a0 b}:=jf (z71 n a1 a0 b) (fun c=>⟨[(0,.sl 1 (a0.map z0d)),(3,.ptr 3 0),(5,aI b),(34,.bool (c))],[(3,.box 44 (zel a1))]⟩) fun _=>z71.eq_1 ..
abbrev zpi {n a1 a0 b c d}:=jf (z6z n a1 a0 b c d) (fun e=>⟨[(0,.sl 1 (a0.map z0d)),(3,.ptr 3 0),(5,aI b),(19,.bool (e))],[(3,.box 44 (zel a1))]⟩) fun _=>z6z.eq_1 ..
abbrev zph {n a1 a0 b}:=li (z4m n a1 a0 b) (fun c=>⟨[(0,.sl 1 (a0.map z0d)),(3,.ptr 3 0),(5,aI c)],[(3,.box 44 (zel a1))]⟩) fun _ _=>z4m.eq_2 ..
abbrev zp6 {n a3 a2 a1 a0 x4 c}:=li (z4j n a3 a2 a1 a0 x4 c) (fun b=>⟨[(1,.sl 5 (a1.map z02)),(4,.ptr 4 0),(6,.ptr 6 0),(7,.ptr 7 0),(10,.sl 3 (b.1.map z01)),(11,.sl 1 (b.2.1.map z0d)),(12,.sl 17 (x4.map z0w)),(13,aI b.2.2)],[(4,.box 25 (z0g a0)),(6,.box 60 (z10 a2)),(7,.box 71 (z16 a3))]⟩) fun _ _=>z4j.eq_2 ..
abbrev zp7 {n a3 a2 a1 a0}:=jt (z6w n a3 a2 a1 a0) (fun b=>⟨[(1,.sl 5 (a1.map z02)),(4,.ptr 4 0),(6,.ptr 6 0),(7,.ptr 7 0),(10,.sl 3 (b.map z01)),(11,.nils)],[(4,.box 25 (z0g a0)),(6,.box 60 (z10 a2)),(7,.box 71 (z16 a3))]⟩) fun _=>z6w.eq_1 ..
abbrev zp8 {n a3 a2 a1 a0 d b c e}:=li (z92 n a3 a2 a1 a0 d b c e) (fun f=>⟨[(1,.sl 5 (a1.map z02)),(2,.sl 3 (a2.map z01)),(4,.ptr 4 0),(7,.ptr 7 0),(10,.sl 3 (b.map z01)),(11,.sl 1 (f.1.map z0d)),(12,aI d.2.2),(14,.sl 1 (c.map z0d)),(16,aI f.2)],[(4,.box 25 (z0g a0)),(7,.box 71 (z16 a3))]⟩) fun _ _=>z92.eq_2 ..
abbrev zp9 {n a3 a2 a1 a0 b c d}:=li (z93 n a3 a2 a1 a0 b c d) (fun e=>⟨[(1,.sl 5 (a1.map z02)),(2,.sl 3 (a2.map z01)),(4,.ptr 4 0),(7,.ptr 7 0),(10,.sl 3 (e.1.map z01)),(11,.sl 1 (b.2.1.map z0d)),(12,aI b.2.2),(13,.sl 3 (c.1.map z01)),(14,.sl 1 (c.2.map z0d)),(15,aI e.2)],[(4,.box 25 (z0g a0)),(7,.box 71 (z16 a3))]⟩) fun _ _=>z93.eq_2 ..
abbrev zpa {n a3 a2 a1 a0 c}:=li (z94 n a3 a2 a1 a0 c) (fun b=>⟨[(1,.sl 5 (a1.map z02)),(2,.sl 3 (a2.map z01)),(4,.ptr 4 0),(7,.ptr 7 0),(10,.sl 3 (b.1.map z01)),(11,.sl 1 (b.2.1.map z0d)),(12,aI b.2.2)],[(4,.box 25 (z0g a0)),(7,.box 71 (z16 a3))]⟩) fun _ _=>z94.eq_2 ..
attribute [instance] zk1 zk4 zk3 zk2 zpj zpi zph zp6 zp7 zp8 zp9 zpa
instance y0o {n a0 a1 a2 a3 a4}:CI E0 (z5t n a0 a1 a2 a3 a4) false 127 [z0o a0,.sl 5 (a1.map z02),z01 a2,z0w a3,z02 a4] (fun r=>.tup [z01 r.1,.bool (r.2)]):=⟨fun {r} hF=>by
 unfold z5t at hF
 refine Con.env (E:=E0b) rfl rfl ?_
 refine Con.walk _ Tryz.func127 rfl (z0x Tryz.func127 rfl rfl) rfl (Or.inl rfl) ?_
 repeat' first
  |refine AW.jI hF (fun v hF=>?_) fun hF=>?_
  |refine AW.regO hF fun hF=>?_
  |refine AW.frzO hF 125 rfl (fun hF=>?_)
  |refine AW.stepU [21,6,8] ?_;conv=>whnf
  |refine z12.o hF (fun hF=>?_) fun hF=>?_
  |refine z1l.I hF fun a hF=>?_
  |refine IdxX.A hF fun x hF=>?_
  |refine AppX.oA0 hF fun l hF=>?_
  |refine OpX.bldS z0b hF rfl rfl rfl rfl rfl rfl rfl rfl rfl rfl rfl rfl rfl rfl (fun l hF=>?_)
  |refine AppX.oA hF fun l hF=>?_
  |refine OpX.bldR z02 hF rfl rfl rfl rfl rfl rfl rfl rfl rfl rfl rfl rfl rfl rfl rfl rfl (by first|exact SubR.refl _|(repeat' first|exact SubR.nil|refine SubR.cons ?_ ?_|exact SubL.nil|refine SubL.cons ?_ ?_|exact Sub.refl _|exact Sub.nil _)) rfl (fun l hF=>?_)
  |refine zak.oE hF 130 ztk rfl (fun a h=>Con.env rfl rfl (zql.h h)) rfl rfl (fun a hF=>?_)
  |exact ⟨_,hF,LeX.a []⟩
  |refine z7z.I hF (LeX.a []) fun m v hF=>?_
  |refine IdxX.oD hF z42 (fun x hF=>?_)
  |refine z1l.S hF fun a hF=>?_
  |refine AndA ?_
  |exact RetX.oB hF⟩
instance y84 {n a0 a1}:CI E0 (z9o n a0 a1) false 67 [.sl 1 (a0.map z0d),z0d a1] (fun r=>.sl 1 (r.map z0d)):=⟨fun {r} hF=>by
 unfold z9o at hF
 refine cw Tryz.func67 ?_
 repeat' first
  |refine AW.jI hF (fun v hF=>?_) fun hF=>?_
  |refine AW.regO hF fun hF=>?_
  |refine AW.stepU [2,4] ?_;conv=>whnf
  |refine z12.o hF (fun hF=>?_) fun hF=>?_
  |refine SlsX.o z0d hF (fun l hF=>?_)
  |refine AppX.oA0 hF fun l hF=>?_
  |refine AppX.oA hF fun l hF=>?_
  |refine IdxX.A hF fun x hF=>?_
  |refine z1l.I hF fun a hF=>?_
  |exact ⟨_,hF,LeX.a []⟩
  |refine z7z.I hF (LeX.a []) fun m v hF=>?_
  |refine AndA ?_
  |exact RetX.oB hF⟩
instance y7z {n a0 a1 a2 a3}:CI E0 (zd7 n a0 a1 a2 a3) false 88 [z0o a0,.sl 5 (a1.map z02),z01 a2,z02 a3] (fun r=>.tup [.sl 3 (r.1.map z01),.sl 1 (r.2.map z0d)]):=⟨fun {r} hF=>by
 unfold zd7 at hF
 refine cw Tryz.func88 ?_
 repeat' first
  |refine AW.jI2 hF (fun v hF=>?_) fun hF=>?_
  |refine AW.regO hF fun hF=>?_
  |refine AW.stepU [3,11] ?_;conv=>whnf
  |refine z12.o hF (fun hF=>?_) fun hF=>?_
  |refine z1l.I hF fun a hF=>?_
  |refine IdxX.A hF fun x hF=>?_
  |exact ⟨_,hF,LeX.a []⟩
  |refine z7z.I hF ?_ fun m v hF=>?_
  |exact LeX.pa 11 (LeX.a [])
  |refine z1l.S hF fun a hF=>?_
  |exact ⟨_,hF,LeX.pa 10 (LeX.a [])⟩
  |refine AndA ?_
  |exact RetX.oB hF⟩
instance y80 {n a0 a1 a2 a3}:CI E0 (zd8 n a0 a1 a2 a3) false 66 [z0o a0,.sl 5 (a1.map z02),.sl 3 (a2.map z01),z02 a3] (fun r=>.tup [.sl 3 (r.1.map z01),.sl 1 (r.2.map z0d)]):=⟨fun {r} hF=>by
 unfold zd8 at hF
 refine cw Tryz.func66 ?_
 repeat' first
  |refine AW.step ?_;conv=>whnf
  |refine z12.o hF (fun hF=>?_) fun hF=>?_
  |refine IdxX.A hF fun x hF=>?_
  |refine z1l.I hF fun a hF=>?_
  |exact ⟨_,hF,LeX.a []⟩
  |refine z7z.I hF ?_ fun m v hF=>?_
  |exact LeX.a []
  |exact LeX.pa 10 (LeX.pa 11 (LeX.a []))
  |refine AndA ?_
  |exact RetX.oB hF⟩
end
noncomputable section
abbrev zl3 {n a2 a1 a0 d e b c}:=jf (z47 n a2 a1 a0 d e b c) (fun f=>⟨[(1,.sl 5 (a1.map z02)),(2,aI a2),(3,.ptr 3 0),(10,.sl 1 (b.map z0d)),(11,aI d.2.2),(12,.sl 3 (c.map z01)),(55,.bool (f))],[(3,.box 25 (z0g a0))]⟩) fun _=>z47.eq_1 ..
abbrev zl1 {n a2 a1 a0 b c d}:=li (z6f n a2 a1 a0 b c d) (fun e=>⟨[(1,.sl 5 (a1.map z02)),(2,aI a2),(3,.ptr 3 0),(10,.sl 1 (e.1.map z0d)),(11,aI b.2.2),(12,.sl 3 (c.1.map z01)),(13,.sl 1 (c.2.map z0d)),(14,aI e.2)],[(3,.box 25 (z0g a0))]⟩) fun _ _=>z6f.eq_2 ..
abbrev zl2 {n a2 a1 a0 c}:=li (z2z n a2 a1 a0 c) (fun b=>⟨[(1,.sl 5 (a1.map z02)),(2,aI a2),(3,.ptr 3 0),(9,.sl 3 (b.1.map z01)),(10,.sl 1 (b.2.1.map z0d)),(11,aI b.2.2)],[(3,.box 25 (z0g a0))]⟩) fun _ _=>z2z.eq_2 ..
abbrev zls {n a1 a0}:=jf (z4u n a1 a0) (fun b=>⟨[(1,.sl 5 (a1.map z02)),(2,.ptr 2 0),(15,.bool (b))],[(2,.box 25 (z0g a0))]⟩) fun _=>z4u.eq_1 ..
abbrev znz {n}:=jf (z61 n) (fun b=>⟨[(4,.bool (b))],[]⟩) fun _=>z61.eq_1 ..
abbrev zus {n a0 b}:=li (zbb n a0 b) (fun c=>⟨[(0,.sl 5 (a0.map z02)),(3,.row 9),(10,.sl 5 (a0.map z02)),(11,aI (((a0.map z02).length:Int))),(12,aI c.1)],[(9,.mp (List.map (encM zb9 AV.bool) (c.2)))]⟩) fun _ _=>zbb.eq_2 ..
abbrev y02 {n a1 a0 b}:=li (zfv n a1 a0 b) (fun c=>⟨[(8,.ptr 24 0),(25,.sl 5 (a1.map z02)),(26,aI (((a1.map z02).length:Int))),(27,aI c.1)],[(24,.box 180 [aI a0.fVars,aI a0.fScopes,.sl 1 (a0.fStates.map z0q),.sl 17 (a0.fEdges.map z0w),.row 22]),(22,.mp (List.map (encM z1b z02) (c.2)))]⟩) fun _ _=>zfv.eq_2 ..
abbrev zo6 {n a1 a0 b c}:=jf (z68 n a1 a0 b c) (fun d=>⟨[(0,.ref [aI a0.fa.fVars,aI a0.fa.fScopes,.sl 1 (a0.fa.fStates.map z0q),.sl 17 (a0.fa.fEdges.map z0w),.mapv (List.map (encM z1b z02) (a0.fheld))]),(3,.ptr 3 0),(84,.sl 2 (a1.fStarts.map z09)),(85,aI (((a1.fStarts.map z09).length:Int))),(86,aI b),(115,.bool (d))],[(3,.box 60 (z10 a1))]⟩) fun _=>z68.eq_1 ..
abbrev zo7 {n a1 a0 b c e}:=jf (z2v n a1 a0 b c e) (fun d=>⟨[(0,.ref [aI a0.fa.fVars,aI a0.fa.fScopes,.sl 1 (a0.fa.fStates.map z0q),.sl 17 (a0.fa.fEdges.map z0w),.mapv (List.map (encM z1b z02) (a0.fheld))]),(3,.ptr 3 0),(9,aI b),(10,.ptr 10 0),(84,.sl 2 (a1.fStarts.map z09)),(85,aI (((a1.fStarts.map z09).length:Int))),(86,aI b),(91,.bool (d))],[(3,.box 60 (z10 a1)),(10,.box 102 (ztg e))]⟩) fun _=>z2v.eq_1 ..
abbrev zpq {n a1 a0 b}:=li (z2j n a1 a0 b) (fun c=>⟨[(0,.ref [aI a0.fa.fVars,aI a0.fa.fScopes,.sl 1 (a0.fa.fStates.map z0q),.sl 17 (a0.fa.fEdges.map z0w),.mapv (List.map (encM z1b z02) (a0.fheld))]),(3,.ptr 3 0),(84,.sl 2 (a1.fStarts.map z09)),(85,aI (((a1.fStarts.map z09).length:Int))),(86,aI c)],[(3,.box 60 (z10 a1))]⟩) fun _ _=>z2j.eq_2 ..
abbrev zo4 {n a1 a0 b c e}:=jf (z65 n a1 a0 b c e) (fun d=>⟨[(0,.ref [aI a0.fa.fVars,aI a0.fa.fScopes,.sl 1 (a0.fa.fStates.map z0q),.sl 17 (a0.fa.fEdges.map z0w),.mapv (List.map (encM z1b z02) (a0.fheld))]),(3,.ptr 3 0),(8,.bool (e)),(32,.sl 4 (a1.fBindings.map z0b)),(33,aI (((a1.fBindings.map z0b).length:Int))),(34,aI b),(63,.bool (d))],[(3,.box 60 (z10 a1))]⟩) fun _=>z65.eq_1 ..
abbrev zo5 {n a1 a0 b c e f}:=jf (z67 n a1 a0 b c e f) (fun d=>⟨[(0,.ref [aI a0.fa.fVars,aI a0.fa.fScopes,.sl 1 (a0.fa.fStates.map z0q),.sl 17 (a0.fa.fEdges.map z0w),.mapv (List.map (encM z1b z02) (a0.fheld))]),(3,.ptr 3 0),(5,aI b),(6,.ptr 6 0),(8,.bool (f)),(32,.sl 4 (a1.fBindings.map z0b)),(33,aI (((a1.fBindings.map z0b).length:Int))),(34,aI b),(49,.bool (d))],[(3,.box 60 (z10 a1)),(6,.box 76 (y52 e))]⟩) fun _=>z67.eq_1 ..
abbrev zpr {n a1 a0 b}:=li (z4o n a1 a0 b) (fun c=>⟨[(0,.ref [aI a0.fa.fVars,aI a0.fa.fScopes,.sl 1 (a0.fa.fStates.map z0q),.sl 17 (a0.fa.fEdges.map z0w),.mapv (List.map (encM z1b z02) (a0.fheld))]),(3,.ptr 3 0),(32,.sl 4 (a1.fBindings.map z0b)),(33,aI (((a1.fBindings.map z0b).length:Int))),(34,aI c)],[(3,.box 60 (z10 a1))]⟩) fun _ _=>z4o.eq_2 ..
abbrev zps {n a1 a0}:=jf (z75 n a1 a0) (fun b=>⟨[(0,.ref [aI a0.fa.fVars,aI a0.fa.fScopes,.sl 1 (a0.fa.fStates.map z0q),.sl 17 (a0.fa.fEdges.map z0w),.mapv (List.map (encM z1b z02) (a0.fheld))]),(3,.ptr 3 0),(11,.bool (b))],[(3,.box 60 (z10 a1))]⟩) fun _=>z75.eq_1 ..
attribute [instance] zl3 zl1 zl2 zls znz zus y02 zo6 zo7 zpq zo4 zo5 zpr zps
instance y29 {n a0 a1 a2}:CI E0 (zb2 n a0 a1 a2) false 33 [z0o a0,.sl 5 (a1.map z02),aI a2] (fun r=>.tup [.sl 3 (r.1.map z01),.sl 1 (r.2.1.map z0d),.bool (r.2.2)]):=⟨fun {r} hF=>by
 unfold zb2 at hF
 refine cw Tryz.func33 ?_
 repeat' first
  |refine AW.jI hF (fun v hF=>?_) fun hF=>?_
  |refine AW.regO hF fun hF=>?_
  |refine AW.stepU [11] ?_;conv=>whnf
  |refine z12.o hF (fun hF=>?_) fun hF=>?_
  |refine z1l.I hF fun a hF=>?_
  |refine IdxX.A hF fun x hF=>?_
  |exact ⟨_,hF,LeX.a []⟩
  |refine z7z.I hF ?_ fun m v hF=>?_
  |exact LeX.a []
  |exact LeX.pa 10 (LeX.a [])
  |refine AndA ?_
  |exact RetX.oB hF⟩
instance y3t {n a0 a1}:CI E0 (z9t n a0 a1) true 11 [z0o a0,.sl 5 (a1.map z02)] (fun r=>.bool (r)):=by unfold z9t;exact CI.w [1] Tryz.func11
instance y5a {n a0 a1}:CI E0 (z6q n a0 a1) true 39 [z0o a0,.sl 5 (a1.map z02)] aI:=by unfold z6q;exact CI.w [] Tryz.func39
instance y5r {n a0 a1}:CI E0 (zcb n a0 a1) true 22 [z0o a0,.sl 5 (a1.map z02)] (fun r=>.bool (r)):=by unfold zcb;exact CI.w [1] Tryz.func22
instance y5q {n}:CI E0 (z8t n) false 34 [] z0o:=⟨fun {r} hF=>by
 unfold z8t at hF
 refine cw Tryz.func34 ?_
 repeat' first
  |refine AW.step ?_;conv=>whnf
  |refine z12.o hF (fun hF=>?_) fun hF=>?_
  |refine z12.t ?_
  |refine z12.f ?_
  |refine z1l.I hF fun a hF=>?_
  |refine MakX.o z0q hF (by first|exact SubL.refl _|(repeat' first|exact SubL.nil|refine SubL.cons ?_ ?_|exact Sub.refl _|exact Sub.nil _|refine Sub.agg ?_)) (fun l hF=>?_)
  |refine AndA ?_
  |refine EqX.A ?_
  |exact RetX.oB hF⟩
instance yfj {n a0}:CI E0 (zgg n a0) true 106 [z02 a0] (fun r=>.bool (r)):=by unfold zgg;exact CI.w [] Tryz.func106
instance yly {n a0}:CI E0 (zjw n a0) true 148 [z02 a0] z1b:=by unfold zjw;exact CI.w [] Tryz.func148
instance yfn {n a0 a1}:CI E0 (zgo n a0 a1) true 107 [z02 a0,z02 a1] aI:=by unfold zgo;exact CI.w [] Tryz.func107
instance ylq {n a0}:CI E0 (zhg n a0) true 108 [z02 a0] zb9:=by unfold zhg;exact CI.w [] Tryz.func108
theorem yis (a b:z9s):eqK (zb9 a) (zb9 b)=some (decide (a=b)):=by cases a;cases b;simp [zb9,eqK,eqL,eq1,aI,zjp]
instance yfu {n a0}:CI E0 (zfs n a0) true 70 [.sl 5 (a0.map z02)] aI:=⟨fun {r} hF=>by
 unfold zfs at hF
 refine cw Tryz.func70 ?_
 repeat' first
  |refine AW.step ?_;conv=>whnf
  |refine z12.o hF (fun hF=>?_) fun hF=>?_
  |refine z12.f ?_
  |refine IdxX.A hF fun x hF=>?_
  |refine z1l.I hF fun a hF=>?_
  |refine LkX.o zb9 AV.bool hF (by first|rfl|kernel_rfl) yis (by repeat' first|exact Sub.nil _|exact Sub.refl _|refine Sub.agg ?_|refine Sub.tup ?_|refine Sub.fn ?_|exact SubL.nil|refine SubL.cons ?_ ?_|refine Sub.sl _ ?_|exact SubE.nil|refine SubE.cons ?_ ?_) (fun v b hF=>?_)
  |refine UpX.o zb9 AV.bool hF (by first|rfl|kernel_rfl) yis (by repeat' first|exact Sub.nil _|exact Sub.refl _|refine Sub.agg ?_|refine Sub.tup ?_|refine Sub.fn ?_|exact SubL.nil|refine SubL.cons ?_ ?_|refine Sub.sl _ ?_|exact SubE.nil|refine SubE.cons ?_ ?_) (fun l hF=>?_)
  |exact ⟨_,hF,LeX.a []⟩
  |refine z7z.I hF (LeX.a []) fun m v hF=>?_
  |refine AndA ?_
  |exact RetX.oB hF⟩
instance y9c {n a0 a1}:CI E0 (z8x n a0 a1) true 36 [z0o a0,.sl 5 (a1.map z02)] aI:=by unfold z8x;exact CI.w [] Tryz.func36
instance yls {n}:CI E0 (zfl n) false 47 [] z01:=by unfold zfl;exact CI.w [] Tryz.func47
theorem yir (a b:z1f):eqK (z1b a) (z1b b)=some (decide (a=b)):=by cases a;cases b;simp [z1b,eqK,eqL,eq1,aI,zjp]
def zbj:Option z0m->AV
 |none=>.nilp
 |some x=>.ref [aI (x.fa.fVars),aI (x.fa.fScopes),.sl 1 (x.fa.fStates.map z0q),.sl 17 (x.fa.fEdges.map z0w),.mapv (List.map (encM z1b z02) (x.fheld))]
def zc0 (r:(Option z0m)×Int):AV:=.tup [zbj (r.1),aI (r.2)]
instance ziy {n a0 a1}:CI E0 (zeo n a0 a1) false 82 [z0o a0,.sl 5 (a1.map z02)] (fun r=>.tup [zbj (r.1),aI r.2]):=⟨fun {r} hF=>by
 unfold zeo at hF
 refine cw Tryz.func82 ?_
 repeat' first
  |refine AW.step ?_;conv=>whnf
  |refine z12.o hF (fun hF=>?_) fun hF=>?_
  |refine z1l.I hF fun a hF=>?_
  |refine IdxX.A hF fun x hF=>?_
  |refine OpX.nckP rfl rfl rfl rfl rfl ?_
  |refine UpX.o z1b z02 hF (by first|rfl|kernel_rfl) yir (by repeat' first|exact Sub.nil _|exact Sub.refl _|refine Sub.agg ?_|refine Sub.tup ?_|refine Sub.fn ?_|exact SubL.nil|refine SubL.cons ?_ ?_|refine Sub.sl _ ?_|exact SubE.nil|refine SubE.cons ?_ ?_) (fun l hF=>?_)
  |exact ⟨_,hF,LeX.a []⟩
  |refine z7z.I hF (LeX.a []) fun m v hF=>?_
  |refine AndA ?_
  |exact RetX.oB hF⟩
end
end Go.Proofs.YtidhlpjgifoneaaGreat
