/- What some functions compute, over plain values. -/
import Derived.Test.YtidhlpjgifoneaaGreatK25
set_option linter.unusedVariables false
set_option linter.unusedSimpArgs false
set_option maxRecDepth 100000
set_option maxHeartbeats 8000000
namespace Go.Proofs.YtidhlpjgifoneaaGreat
open Go.RowKit List
noncomputable section
abbrev zyz {n d a b}:=li (zbx n d a b) (fun c=>⟨[(2,aI d),(7,.row 7013),(14,.sl 1 (a.map aI)),(15,aI (((a.map aI).length:Int))),(16,aI c.1)],[(7013,.row 102 2 (c.2.map z08))]⟩) fun _ _=>zbx.eq_2 ..
abbrev zl6 {n b a c}:=li (z5g n b a c) (fun d=>⟨[(0,.sl 2 (a.map z08)),(1,.fn 219 [.ref (zpp b)]),(7,aI (((a.map z08).length:Int))),(8,aI d)],[]⟩) fun _ _=>z5g.eq_2 ..
abbrev zz3 {n e a f b c}:=jf (zdl n e a f b c) (fun d=>⟨[(0,.sl 2 (f.map z08)),(2,aI e),(10,.sl 2 (a.map z23)),(11,aI (((a.map z23).length:Int))),(12,aI b),(32,.bool (d))],[]⟩) fun _=>zdl.eq_1 ..
abbrev zz1 {n d a e b}:=li (zby n d a e b) (fun c=>⟨[(0,.sl 2 (e.map z08)),(2,aI d),(10,.sl 2 (a.map z23)),(11,aI (((a.map z23).length:Int))),(12,aI c)],[]⟩) fun _ _=>zby.eq_2 ..
abbrev zl5 {n b a c}:=li (z5f n b a c) (fun d=>⟨[(0,.sl 2 (a.map z08)),(1,.fn 194 [.ref (z1z b)]),(7,aI (((a.map z08).length:Int))),(8,aI d)],[]⟩) fun _ _=>z5f.eq_2 ..
abbrev zqt {n c}:=li (z75 n c) (fun b=>⟨[(0,.row 200001),(1,.fn 194 [.ptr 100000 0]),(5,aI b.1),(6,aI b.2.1)],[(100000,.box 115 [aI b.2.2.1,aI b.2.2.2.1,aI b.2.2.2.2.1,aI b.2.2.2.2.2.1,aI b.2.2.2.2.2.2.1,.sl 8 (b.2.2.2.2.2.2.2.1.map idA),aI b.2.2.2.2.2.2.2.2.1,aI b.2.2.2.2.2.2.2.2.2.1,aI b.2.2.2.2.2.2.2.2.2.2.1,aI b.2.2.2.2.2.2.2.2.2.2.2.1,aI b.2.2.2.2.2.2.2.2.2.2.2.2.1,.str (b.2.2.2.2.2.2.2.2.2.2.2.2.2.1),.sl 1 (b.2.2.2.2.2.2.2.2.2.2.2.2.2.2.1.map aI),.sl 1 (b.2.2.2.2.2.2.2.2.2.2.2.2.2.2.2.1.map aI),.sl 8 (b.2.2.2.2.2.2.2.2.2.2.2.2.2.2.2.2.1.map idA),.sl 2 (b.2.2.2.2.2.2.2.2.2.2.2.2.2.2.2.2.2.1.map z23),.sl 1 (b.2.2.2.2.2.2.2.2.2.2.2.2.2.2.2.2.2.2.1.map aI)]),(200001,.row 102 2 (b.2.2.2.2.2.2.2.2.2.2.2.2.2.2.2.2.2.2.2.map z08))]⟩) fun _ _=>z75.eq_2 ..
abbrev znv {n f a g e c b}:=li (z7x n f a g e c b) (fun d=>⟨[(6,.ptr 6 0),(7,.ptr 7 0),(9,.ptr 9 0),(10,.ptr 10 0),(12,.row 52),(13,.ptr 13 0),(81,.sl 8 (a.fChecks.map idA)),(82,aI (((a.fChecks.map idA).length:Int))),(83,aI d)],[(6,.box 60 (z0x g)),(7,.box 115 (z1z a)),(9,.box 71 (z19 f)),(10,.box 60 [aI 0,.nils,.nils]),(13,.box 220 [.row 63]),(52,.row 102 2 (e.map z08)),(63,.row 26 1 (List.map (fun q=>AV.sl 5 (List.map z02 q)) (c)))]⟩) fun _ _=>z7x.eq_2 ..
abbrev znw {n a c d e}:=jf (z1x n a c d e) (fun b=>⟨[(6,.ptr 6 0),(7,.ptr 7 0),(8,.ptr 8 0),(9,.ptr 9 0),(10,.ptr 10 0),(44,.bool (b))],[(6,.box 60 (z0x e)),(7,.box 115 (z1z d)),(8,.box 220 (zd7 c)),(9,.box 71 (z19 a)),(10,.box 60 [aI 0,.nils,.nils])]⟩) fun _=>z1x.eq_1 ..
attribute [instance] zyz zl6 zz3 zz1 zl5 zqt znv znw
def zsn (r:(List z0a)):AV:=.row 0
theorem y0o {n e d c r}(b:zjg n e d c=some r):ConT E0 189 [.sl 2 (e.map z08),.sl 1 (d.map aI),aI c] 102 2 (r.map z08) (zsn r):=by
 unfold zjg at b;refine ConT.walk _ Tryz.func189 rfl (z0q Tryz.func189 rfl rfl) rfl rfl ?_;repeat' first
  |refine AW.jI2 b (fun v b=>?_) fun b=>?_
  |refine AW.regO b fun b=>?_
  |refine AW.stepU [6] ?_;conv=>whnf
  |refine z10.o b (fun b=>?_) fun b=>?_
  |refine z1h.oR b (fun r=>r) z08 (fun _=>AV.row 0) rfl (fun a h=>zxq h) (fun a b=>?_)
  |refine IdxX.A b fun x b=>?_
  |refine zab.I b (fun a b=>?_) rfl rfl fun _=>Or.inr rfl
  |refine NatX.o b (fun m b=>?_)
  |refine LtX.o b (fun b=>?_)
  |refine SetX.o z08 b (fun x=>rfl) (fun x=>(by first|exact SubL.refl _|(repeat' first|exact SubL.nil|refine SubL.cons ?_ ?_|exact Sub.refl _|exact Sub.nil _|refine Sub.agg ?_))) (fun l b=>?_)
  |exact ⟨_,b,LeX.a [(7013,7033)]⟩
  |refine zab.oC b 7013 (fun r=>r) z08 (fun _=>AV.row 0) rfl (fun a h=>y29 h) rfl rfl rfl rfl rfl rfl (fun a b=>?_)
  |exact ⟨_,b,LeX.a [(7033,33)]⟩
  |exact ⟨_,b,LeX.a [(7033,7013)]⟩
  |refine z63.I b ?_ fun m v b=>?_
  |exact LeX.a [(7013,13)]
  |refine TX.o (rl:=fun r=>r.map z08) (res:=zsn) b ?_;exact TX.mk _ 7013 (LeX.refl _ _ _) _ rfl rfl (by repeat' first|exact Sub.nil _|exact Sub.refl _|refine Sub.agg ?_|refine Sub.tup ?_|refine Sub.fn ?_|exact SubL.nil|refine SubL.cons ?_ ?_|refine Sub.sl _ ?_|exact SubE.nil|refine SubE.cons ?_ ?_)
instance ygw {n b a}:CI E0 (zhs n b a) true 219 [z08 b,.ref (zpp a)] (fun r=>.bool (r)):=by unfold zhs;exact CI.w [] Tryz.func219
instance y20 {n a b}:CI E0 (zaj n a b) true 218 [.sl 2 (a.map z08),.fn 219 [.ref (zpp b)]] aI:=by unfold zaj;exact CI.w [] Tryz.func218
instance yk7 {n e d c}:CI E0 (zjh n e d c) true 190 [.sl 2 (e.map z08),.sl 2 (d.map z23),aI c] (fun r=>.bool (r)):=⟨fun {r} b=>by
 unfold zjh at b;refine cw Tryz.func190 ?_;repeat' first
  |refine AW.jI b (fun v b=>?_) fun b=>?_
  |refine AW.regO b fun b=>?_
  |refine AW.stepU [5] ?_;conv=>whnf
  |refine z10.o b (fun b=>?_) fun b=>?_
  |refine IdxX.A b fun x b=>?_
  |refine zab.I b (fun a b=>?_) rfl rfl fun _=>Or.inr rfl
  |exact ⟨_,b,LeX.a []⟩
  |refine z63.I b (LeX.a []) fun m v b=>?_
  |refine AndA ?_
  |exact RetX.oB b⟩
set_option maxHeartbeats 400000 in
theorem y9x (l:List (Cel 1))(S:Nat->Prop)(v:Value)(w:World)(h:Sl w S 1 encC v l)(d:l.length<=1000000000) :
  Calls Tryz.prog 191 #[v] w (zxw 26 1 encC l w):=by
 have eok:EOk Tryz.prog 218 26 1 24 (encC (n:=1)):=eokC (sz:=1) (ztj 218 _ rfl) rfl (ztj 26 _ rfl) (by omega) rfl;obtain ⟨A,c,rfl,f,_⟩:=h.form;have a:=fun (W:World)=>Lib.run_eql_slice_nil W 218 26 A l.length c 0 0 Tryz.underlying218
 have H:=hide h;cases A with
 |none =>
  have g:l=[]:=h.none_nil;subst g;clear h H d f;simp only [length_nil,Option.isNone_none] at a ⊢
  go_enter Tryz.func191,Tryz.ntmps191
  go_wp2
  go_ret
  exact ⟨none,0,rfl,Own.nil_,by go_grown⟩
 |some ad =>
  clear h
  go_enter Tryz.func191,Tryz.ntmps191
  go_wp2_with (at_builtin;refine zb0 rfl _ _ rfl eok rfl Own.made_ rfl (H.out.alloc _) (by simp;omega) (by omega) (by simp) ?_;intro A' i j b e _)
  go_ret
  exact ⟨A',i,rfl,b,(Own.made_ (sz:=1) (enc:=encC (n:=1))).grown ((Below.refl _ _).alloc (Nat.le_refl _) _) (Nat.le_refl _) (by simp) e⟩
theorem y5v {n a r}(b:zct n a=some r):ConT E0 191 [.sl 1 (List.map (fun q=>AV.sl 5 (List.map z02 q)) a)] 26 1 (List.map (fun q=>AV.sl 5 (List.map z02 q)) r) (.row 0):=zki rfl (z0q Tryz.func191 rfl rfl) y9x b
set_option maxHeartbeats 400000 in
theorem y9w (l:List (Cel 5))(S:Nat->Prop)(v:Value)(w:World)(h:Sl w S 5 encC v l)(d:l.length<=1000000000) :
  Calls Tryz.prog 192 #[v] w (zxw 71 5 encC l w):=by
 have eok:EOk Tryz.prog 26 71 5 56 (encC (n:=5)):=eokC (sz:=5) (ztj 26 _ rfl) rfl (ztj 71 _ rfl) (by omega) rfl;obtain ⟨A,c,rfl,f,_⟩:=h.form;have a:=fun (W:World)=>Lib.run_eql_slice_nil W 26 71 A l.length c 0 0 Tryz.underlying26
 have H:=hide h;cases A with
 |none =>
  have g:l=[]:=h.none_nil;subst g;clear h H d f;simp only [length_nil,Option.isNone_none] at a ⊢
  go_enter Tryz.func192,Tryz.ntmps192
  go_wp2
  go_ret
  exact ⟨none,0,rfl,Own.nil_,by go_grown⟩
 |some ad =>
  clear h
  go_enter Tryz.func192,Tryz.ntmps192
  go_wp2_with (at_builtin;refine zb0 rfl _ _ rfl eok rfl Own.made_ rfl (H.out.alloc _) (by simp;omega) (by omega) (by simp) ?_;intro A' i j b e _)
  go_ret
  exact ⟨A',i,rfl,b,(Own.made_ (sz:=5) (enc:=encC (n:=5))).grown ((Below.refl _ _).alloc (Nat.le_refl _) _) (Nat.le_refl _) (by simp) e⟩
theorem y5u {n a r}(b:zct n a=some r):ConT E0 192 [.sl 5 (List.map z02 a)] 71 5 (List.map z02 r) (.row 0):=zki rfl (z0q Tryz.func192 rfl rfl) y9w b
instance y23 {n b a}:CI E0 (z5x n b a) true 194 [z08 b,.ref (z1z a)] (fun r=>.bool (r)):=by unfold z5x;exact CI.w [] Tryz.func194
instance y1z {n a b}:CI E0 (zai n a b) true 218 [.sl 2 (a.map z08),.fn 194 [.ref (z1z b)]] aI:=by unfold zai;exact CI.w [] Tryz.func218
def zjy (b:z0a)(a:z0t):List (Nat×Ent):=[(100000,.box 115 (z1z a))]
def zad (r:Bool×z0t):List (Nat×Ent):=[(100000,.box 115 (z1z r.2))]
def zcm (r:Bool×z0t):AV:=.bool (r.1)
def zjw (r:Bool×z0t):AS:=⟨[(3,.bool (r.1)),(1,.ptr 100000 0)],zad r⟩
theorem zjb {n c d r}(b:z4b n c d=some r):ConG E0.P none (CalF E0.P 194 0) [z08 c,.ptr 100000 0] [] (zjy c d) (zcm r) (zad r):=by
 unfold z4b at b;refine ConG.walk (E:=(E0p 2)) (caps:=[]) _ Tryz.func194 rfl rfl rfl rfl rfl ?_;repeat' first
  |refine AW.step ?_;conv=>whnf
  |refine z1h.I b fun a b=>?_
  |exact GX.A (res:=zcm) (meF:=zad) b zjw
def zv7 (b:z0t)(a:(List z0a)):List (Nat×Ent):=[(100000,.box 115 (z1z b)),(200001,.row 102 2 (a.map z08))]
def zda (r:(List z0a)×z0t):List (Nat×Ent):=[(260000,.row 102 2 (r.1.map z08)),(100000,.box 115 (z1z r.2))]
def zfs (r:(List z0a)×z0t):AV:=.row 260000
def zkm (r:(List z0a)×z0t):AS:=⟨[(4,.row 260000),(1,.fn 194 [.ptr 100000 0])],zda r⟩
theorem zs0 {n d c r}(b:zdj n d c=some r):ConG E0.P none (CalF E0.P 193 0) [.row 200001,.fn 194 [.ptr 100000 0]] [] (zv7 d c) (zfs r) (zda r):=by
 unfold zdj at b;refine ConG.walk (E:=(E0p 2)) (caps:=[]) _ Tryz.func193 rfl rfl rfl rfl rfl ?_;repeat' first
  |refine AW.step ?_;conv=>whnf
  |refine z10.o b (fun b=>?_) fun b=>?_
  |refine zab.I b (fun a b=>?_) rfl rfl fun _=>Or.inr rfl
  |refine GX.o (res:=zfs) (meF:=zda) b ?_;exact GX.mk (zkm _) (LeX.a [(260000,200001)]) rfl _ rfl (by repeat' first|exact Sub.nil _|exact Sub.refl _|refine Sub.agg ?_|refine Sub.tup ?_|refine Sub.fn ?_|exact SubL.nil|refine SubL.cons ?_ ?_|refine Sub.sl _ ?_|exact SubE.nil|refine SubE.cons ?_ ?_) [100000] ⟨Or.inr ⟨1,0,_,_,_,_,_,Nat.le_of_ble_eq_true rfl,rfl,rfl,rfl,rfl,rfl⟩,trivial⟩ rfl
  |refine OpX.sub b rfl rfl rfl rfl rfl rfl rfl rfl rfl rfl (fun m b=>?_)
  |refine OpX.clr z08 b rfl rfl rfl rfl rfl rfl rfl rfl rfl rfl rfl (by first|exact SubL.refl _|(repeat' first|exact SubL.nil|refine SubL.cons ?_ ?_|exact Sub.refl _|exact Sub.nil _|refine Sub.agg ?_)) (fun l b=>?_)
  |refine SlsX.o z08 b (fun l b=>?_)
  |refine GX.o (res:=zfs) (meF:=zda) b ?_;exact GX.mk (zkm _) (LeX.a [(260000,41)]) rfl _ rfl (by repeat' first|exact Sub.nil _|exact Sub.refl _|refine Sub.agg ?_|refine Sub.tup ?_|refine Sub.fn ?_|exact SubL.nil|refine SubL.cons ?_ ?_|refine Sub.sl _ ?_|exact SubE.nil|refine SubE.cons ?_ ?_) [100000] ⟨Or.inr ⟨1,0,_,_,_,_,_,Nat.le_of_ble_eq_true rfl,rfl,rfl,rfl,rfl,rfl⟩,trivial⟩ rfl
  |refine NatX.o b (fun m b=>?_)
  |refine EltX.o z08 b (fun x b=>?_)
  |refine zab.oM (z3d 28 b) [(100000,100000)] [(100000,100000)] _ _ zad zcm [] (fun a h=>ConG.up (zjb h)) (z0q Tryz.func194 rfl rfl) rfl rfl rfl ⟨⟨rfl,rfl⟩,trivial⟩ (fun a=>⟨rfl,rfl,rfl,rfl,rfl,rfl,rfl,rfl⟩) (fun a b=>?_)
  |refine SetX.o z08 b (fun x=>rfl) (fun x=>(by first|exact SubL.refl _|(repeat' first|exact SubL.nil|refine SubL.cons ?_ ?_|exact Sub.refl _|exact Sub.nil _|refine Sub.agg ?_))) (fun l b=>?_)
  |exact ⟨_,b,LeX.a []⟩
  |refine z63.I b (LeX.a []) fun m v b=>?_
  |refine EqX.A ?_
set_option maxHeartbeats 400000 in
theorem ycv (l:List (Cel 4))(S:Nat->Prop)(v:Value)(w:World)(h:Sl w S 4 encC v l)(d:l.length<=1000000000) :
  Calls Tryz.prog 72 #[v] w (zxw 76 4 encC l w):=by
 have eok:EOk Tryz.prog 42 76 4 32 (encC (n:=4)):=eokC (sz:=4) (ztj 42 _ rfl) rfl (ztj 76 _ rfl) (by omega) rfl;obtain ⟨A,c,rfl,f,_⟩:=h.form;have a:=fun (W:World)=>Lib.run_eql_slice_nil W 42 76 A l.length c 0 0 Tryz.underlying42
 have H:=hide h;cases A with
 |none =>
  have g:l=[]:=h.none_nil;subst g;clear h H d f;simp only [length_nil,Option.isNone_none] at a ⊢
  go_enter Tryz.func72,Tryz.ntmps72
  go_wp2
  go_ret
  exact ⟨none,0,rfl,Own.nil_,by go_grown⟩
 |some ad =>
  clear h
  go_enter Tryz.func72,Tryz.ntmps72
  go_wp2_with (at_builtin;refine zb0 rfl _ _ rfl eok rfl Own.made_ rfl (H.out.alloc _) (by simp;omega) (by omega) (by simp) ?_;intro A' i j b e _)
  go_ret
  exact ⟨A',i,rfl,b,(Own.made_ (sz:=4) (enc:=encC (n:=4))).grown ((Below.refl _ _).alloc (Nat.le_refl _) _) (Nat.le_refl _) (by simp) e⟩
theorem zxr {n a r}(b:zct n a=some r):ConT E0 72 [.sl 4 (List.map z0b a)] 76 4 (List.map z0b r) (.row 0):=zki rfl (z0q Tryz.func72 rfl rfl) ycv b
theorem ycl {n a r}(b:zct n a=some r):Con E0 false 72 [.sl 4 (List.map z0b a)] (.sl 4 (List.map z0b r)):=(zxr b).close rfl
end
noncomputable section
abbrev zjp {n d c}:=li (z2n n d c) (fun b=>⟨[(0,.row 200000),(1,.fn 130 [.ref [.fn 92 []]]),(5,aI b.1),(6,.der (.sub 1 (d)) 200000),(7,aI b.2.1)],[(200000,.row 44 1 (b.2.2.map z0c))]⟩) fun _ _=>z2n.eq_2 ..
abbrev zjq {n a b}:=li (z4a n a b) (fun c=>⟨[(0,.row 200000),(1,.fn 130 [.ref [.fn 92 []]]),(5,aI c)],[(200000,.row 44 1 (a.map z0c))]⟩) fun _ _=>z4a.eq_2 ..
abbrev znx {n e d a c}:=li (z7y n e d a c) (fun b=>⟨[(0,.ref [aI a.fa.fVars,aI a.fa.fScopes,.sl 1 (a.fa.fStates.map z0s),.sl 17 (a.fa.fEdges.map z0v),.mapv (List.map (encM z14 z02) (a.fheld))]),(5,.ptr 5 0),(8,.ptr 8 0),(9,.ptr 9 0),(13,.sl 3 (d.map z01)),(14,aI (((d.map z01).length:Int))),(15,aI b.1)],[(5,.box 71 (z19 e)),(8,.box 57 [.row 811000001]),(9,.box 50 [.row 811000003]),(811000001,.row 60 3 (b.2.1.map z01)),(811000003,.row 44 1 (b.2.2.map z0c))]⟩) fun _ _=>z7y.eq_2 ..
abbrev zy1 {n b}:=jf (zcb n b) (fun c=>⟨[(17,.sl 3 (b.1.map z01)),(18,.sl 1 (b.2.map z0c)),(64,.bool (c))],[]⟩) fun _=>zcb.eq_1 ..
attribute [instance] zjp zjq znx zy1
instance y5n {n c g f e d}:CI E0 (za8 n c g f e d) false 160 [.ref [aI c.fa.fVars,aI c.fa.fScopes,.sl 1 (c.fa.fStates.map z0s),.sl 17 (c.fa.fEdges.map z0v),.mapv (List.map (encM z14 z02) (c.fheld))],z01 g,z0v f,zd6 e,z02 d] (fun r=>.tup [z01 r.1,.bool (r.2)]):=⟨fun {r} b=>by
 unfold za8 at b;refine cw Tryz.func160 ?_;repeat' first
  |refine AW.jI b (fun v b=>?_) fun b=>?_
  |refine AW.regO b fun b=>?_
  |refine AW.stepU [1] ?_;conv=>whnf
  |refine z10.o b (fun b=>?_) fun b=>?_
  |refine z10.t ?_
  |refine z1h.oR b (fun r=>r) z08 zsn rfl (fun a h=>y0o h) (fun a b=>?_)
  |refine zab.I b (fun a b=>?_) rfl rfl fun _=>Or.inr rfl
  |refine z1h.oR b (fun r=>r) (fun q=>AV.sl 5 (List.map z02 q)) (fun _=>AV.row 0) rfl (fun a h=>y5v h) (fun a b=>?_)
  |refine IdxX.o (fun q=>AV.sl 5 (List.map z02 q)) b fun x b=>?_
  |refine z1h.oR b (fun r=>r) z02 (fun _=>AV.row 0) rfl (fun a h=>y5u h) (fun a b=>?_)
  |refine AppX.oA b fun l b=>?_
  |refine NatX.o b (fun m b=>?_)
  |refine OpX.str z02 b rfl rfl rfl rfl rfl rfl rfl rfl rfl rfl rfl (fun l b=>?_)
  |refine zab.oM (z3d 96 b) [(100000,7),(200001,52)] [(260000,97000000),(100000,7)] _ _ zda zfs [52] (fun a h=>ConG.up (zs0 h)) (z0q Tryz.func193 rfl rfl) rfl rfl rfl ⟨⟨rfl,rfl⟩,⟨⟨rfl,rfl⟩,trivial⟩⟩ (fun a=>⟨rfl,rfl,rfl,rfl,rfl,rfl,rfl,rfl⟩) (fun a b=>?_)
  |refine z1h.oR b (fun r=>r) z0b (fun _=>AV.row 0) rfl (fun a h=>zxr h) (fun a b=>?_)
  |refine z1h.I b fun a b=>?_
  |refine IdxX.oD b z2q (fun x b=>?_)
  |refine zab.o b yab (fun a h=>Con.sub (by repeat' first|exact Sub.nil _|exact Sub.refl _|refine Sub.agg ?_|refine Sub.tup ?_|refine Sub.fn ?_|exact SubL.nil|refine SubL.cons ?_ ?_|refine Sub.sl _ ?_|exact SubE.nil|refine SubE.cons ?_ ?_) (y28.h h)) (fun _=>Or.inr rfl) (fun a b=>?_)
  |exact ⟨_,b,LeX.a []⟩
  |refine z63.I b (LeX.a []) fun m v b=>?_
  |refine OpX.nckR rfl rfl rfl rfl ?_
  |refine IdxX.A b fun x b=>?_
  |refine AndA ?_
  |exact RetX.oB b⟩
def zix (yl_l:Nat)(yl_T:Array Value)(c:z03)(d:z00)(a:z0l)(e:z0h)(b:Int×(List z00)×(List z06)):AS:=⟨[(0,.yld yl_l yl_T [.any,.any,.any,.any,.any,.any,.any,.any,.ptr 100000 0,.ptr 100001 0]),(1,.ptr 100002 0),(2,.ptr 100003 0),(3,.ptr 100004 0),(5,.ptr 5 0),(39,.sl 17 (a.fa.fEdges.map z0v)),(40,aI (((a.fa.fEdges.map z0v).length:Int))),(41,aI (b.1))],[(100000,.box 57 [.row 33000001]),(100001,.box 50 [.row 33000003]),(100002,.box 137 [.ref [aI (a.fa.fVars),aI (a.fa.fScopes),.sl 1 (a.fa.fStates.map z0s),.sl 17 (a.fa.fEdges.map z0v),.mapv (List.map (encM z14 z02) (a.fheld))]]),(100003,.box 60 [aI (d.fState),.sl 4 (d.fBindings.map z0b),.sl 2 (d.fStarts.map z08)]),(100004,.box 71 [aI (c.fSource),aI (c.fSeq),aI (c.fType),aI (c.fTime),.sl 3 (c.fValues.map z09)]),(5,.box 220 [.sl 1 (List.map (fun q=>AV.sl 5 (List.map z02 q)) (e.fVars))]),(33000001,.row 60 3 (b.2.1.map z01)),(33000003,.row 44 1 (b.2.2.map z0c))]⟩
theorem zir {n yl_l yl_R yl_T c d e a b}:ypk (E0y yl_l yl_R 4) 67 (z1o n c d e a b) (zix yl_l yl_T c d e a):=LoopA.oT fun _=>rfl
def ziw (yl_l:Nat)(yl_T:Array Value)(c:z03)(d:z00)(a:z0l)(e:z0h)(b:Int×(List z00)×(List z06)):AS:=⟨[(0,.yld yl_l yl_T [.any,.any,.any,.any,.any,.any,.any,.any,.ptr 100000 0,.ptr 100001 0]),(1,.ptr 100002 0),(2,.ptr 100003 0),(3,.ptr 100004 0),(5,.ptr 5 0),(39,.sl 17 (a.fa.fEdges.map z0v)),(40,aI (((a.fa.fEdges.map z0v).length:Int))),(41,aI (b.1))],[(100000,.box 57 [.row 200000]),(100001,.box 50 [.row 200001]),(100002,.box 137 [.ref [aI (a.fa.fVars),aI (a.fa.fScopes),.sl 1 (a.fa.fStates.map z0s),.sl 17 (a.fa.fEdges.map z0v),.mapv (List.map (encM z14 z02) (a.fheld))]]),(100003,.box 60 [aI (d.fState),.sl 4 (d.fBindings.map z0b),.sl 2 (d.fStarts.map z08)]),(100004,.box 71 [aI (c.fSource),aI (c.fSeq),aI (c.fType),aI (c.fTime),.sl 3 (c.fValues.map z09)]),(5,.box 220 [.sl 1 (List.map (fun q=>AV.sl 5 (List.map z02 q)) (e.fVars))]),(200000,.row 60 3 (b.2.1.map z01)),(200001,.row 44 1 (b.2.2.map z0c))]⟩
theorem ziq {n yl_l yl_R yl_T c d e a b}:ypk (E0y yl_l yl_R 4) 67 (z1n n c d e a b) (ziw yl_l yl_T c d e a):=LoopA.oT fun _=>rfl
def zjz (e:(List z00))(d:(List z06))(a:z0l)(c:z00)(b:z03):List (Nat×Ent):=[(100000,.box 57 [.row 200000]),(200000,.row 60 3 (e.map z01)),(100001,.box 50 [.row 200001]),(200001,.row 44 1 (d.map z0c)),(100002,.box 137 [.ref [aI a.fa.fVars,aI a.fa.fScopes,.sl 1 (a.fa.fStates.map z0s),.sl 17 (a.fa.fEdges.map z0v),.mapv (List.map (encM z14 z02) (a.fheld))]]),(100003,.box 60 (z0x c)),(100004,.box 71 (z19 b))]
def z7e (r:(List z00)×(List z06)×z0l×z00×z03):List (Nat×Ent):=[(100000,.box 57 [.row 250000]),(250000,.row 60 3 (r.1.map z01)),(100001,.box 50 [.row 250001]),(250001,.row 44 1 (r.2.1.map z0c)),(100002,.box 137 [.ref [aI r.2.2.1.fa.fVars,aI r.2.2.1.fa.fScopes,.sl 1 (r.2.2.1.fa.fStates.map z0s),.sl 17 (r.2.2.1.fa.fEdges.map z0v),.mapv (List.map (encM z14 z02) (r.2.2.1.fheld))]]),(100003,.box 60 (z0x r.2.2.2.1)),(100004,.box 71 (z19 r.2.2.2.2))]
def zcn (r:(List z00)×(List z06)×z0l×z00×z03):AV:=.tup []
def zgg (yl_l:Nat)(yl_T:Array Value)(r:(List z00)×(List z06)×z0l×z00×z03):AS:=⟨[(0,.yld yl_l yl_T [.any,.any,.any,.any,.any,.any,.any,.any,.ptr 100000 0,.ptr 100001 0]),(1,.ptr 100002 0),(2,.ptr 100003 0),(3,.ptr 100004 0)],z7e r⟩
theorem zjc {n d c i g f r}(b:z7g n d c i g f=some r)(yl_l:Nat)(yl_R:Obj)(yl_T:Array Value)(e:∀ {n:Nat} {j:z00} {d:(List z00)} {c:(List z06)} {r:(List z00)×(List z06)},z7z n j d c=some r->ConG E0.P (some (yl_l,yl_R)) (fun vs cs w R=>cs=yl_T->CalY E0.P yl_l vs cs w R) [z01 j] [.any,.any,.any,.any,.any,.any,.any,.any,.ptr 100000 0,.ptr 100001 0] (zoe d c) (.bool true) (z4o r)):ConG E0.P (some (yl_l,yl_R)) (CalF E0.P 156 0) [.yld yl_l yl_T [.any,.any,.any,.any,.any,.any,.any,.any,.ptr 100000 0,.ptr 100001 0],.ptr 100002 0,.ptr 100003 0,.ptr 100004 0] [] (zjz d c i g f) (zcn r) (z7e r):=by
 unfold z7g at b;refine ConG.walk (E:=(E0y yl_l yl_R 4)) (caps:=[]) _ Tryz.func156 rfl rfl rfl rfl rfl ?_;repeat' first
  |refine AW.step ?_;conv=>whnf
  |refine z10.o b (fun b=>?_) fun b=>?_
  |refine z10.f ?_
  |refine z1h.I b fun a b=>?_
  |refine OpX.nckR rfl rfl rfl rfl ?_
  |refine IdxX.A b fun x b=>?_
  |refine zab.I b (fun a b=>?_) rfl rfl fun _=>Or.inr rfl
  |refine YldX.oM (z3d 32 b) [(100000,100000),(200000,200000),(100001,100001),(200001,200001)] [(100000,100000),(250000,33000001),(100001,100001),(250001,33000003)] _ _ _ z4o (fun _=>AV.bool true) [200000,200001] (fun a h=>e h) rfl rfl rfl rfl rfl ⟨⟨rfl,rfl⟩,⟨⟨rfl,rfl⟩,⟨⟨rfl,rfl⟩,⟨⟨rfl,rfl⟩,trivial⟩⟩⟩⟩ (fun a=>⟨rfl,rfl,rfl,rfl,rfl,rfl,rfl,rfl⟩) (fun a b=>?_)
  |refine GX.o (res:=zcn) (meF:=z7e) b ?_;exact GX.mk (zgg yl_l yl_T _) (LeX.a [(250000,33000001),(250001,33000003)]) rfl _ rfl (by repeat' first|exact Sub.nil _|exact Sub.refl _|refine Sub.agg ?_|refine Sub.tup ?_|refine Sub.fn ?_|exact SubL.nil|refine SubL.cons ?_ ?_|refine Sub.sl _ ?_|exact SubE.nil|refine SubE.cons ?_ ?_) [100000,100001] ⟨Or.inl ⟨0,0,8,_,_,_,_,_,_,rfl,rfl,rfl,rfl,rfl⟩,⟨Or.inl ⟨0,0,9,_,_,_,_,_,_,rfl,rfl,rfl,rfl,rfl⟩,trivial⟩⟩ rfl
  |exact ⟨_,b,LeX.a []⟩
  |refine YldX.oM (z3d 63 b) [(100000,100000),(200000,33000001),(100001,100001),(200001,33000003)] [(100000,100000),(250000,64000001),(100001,100001),(250001,64000003)] _ _ _ z4o (fun _=>AV.bool true) [33000001,33000003] (fun a h=>e h) rfl rfl rfl rfl rfl ⟨⟨rfl,rfl⟩,⟨⟨rfl,rfl⟩,⟨⟨rfl,rfl⟩,⟨⟨rfl,rfl⟩,trivial⟩⟩⟩⟩ (fun a=>⟨rfl,rfl,rfl,rfl,rfl,rfl,rfl,rfl⟩) (fun a b=>?_)
  |exact ⟨_,b,LeX.a [(33000001,64000001),(33000003,64000003)]⟩
  |refine zir b (LeX.a []) (fun m v b=>?_);unfold z1o at b
  |refine GX.o (res:=zcn) (meF:=z7e) b ?_;exact GX.mk (zgg yl_l yl_T _) (LeX.a [(250000,200000),(250001,200001)]) rfl _ rfl (by repeat' first|exact Sub.nil _|exact Sub.refl _|refine Sub.agg ?_|refine Sub.tup ?_|refine Sub.fn ?_|exact SubL.nil|refine SubL.cons ?_ ?_|refine Sub.sl _ ?_|exact SubE.nil|refine SubE.cons ?_ ?_) [100000,100001] ⟨Or.inl ⟨0,0,8,_,_,_,_,_,_,rfl,rfl,rfl,rfl,rfl⟩,⟨Or.inl ⟨0,0,9,_,_,_,_,_,_,rfl,rfl,rfl,rfl,rfl⟩,trivial⟩⟩ rfl
  |refine YldX.oM (z3d 63 b) [(100000,100000),(200000,200000),(100001,100001),(200001,200001)] [(100000,100000),(250000,64000001),(100001,100001),(250001,64000003)] _ _ _ z4o (fun _=>AV.bool true) [200000,200001] (fun a h=>e h) rfl rfl rfl rfl rfl ⟨⟨rfl,rfl⟩,⟨⟨rfl,rfl⟩,⟨⟨rfl,rfl⟩,⟨⟨rfl,rfl⟩,trivial⟩⟩⟩⟩ (fun a=>⟨rfl,rfl,rfl,rfl,rfl,rfl,rfl,rfl⟩) (fun a b=>?_)
  |exact ⟨_,b,LeX.a [(200000,64000001),(200001,64000003)]⟩
  |refine ziq b (LeX.a []) (fun m v b=>?_);unfold z1n at b
  |refine AndA ?_
instance ycb {n b a}:CI E0 (zcz n b a) true 130 [z0c b,z0c a,.ref [.fn 92 []]] (fun r=>.bool (r)):=by unfold zcz;exact CI.w [] Tryz.func130
def zmq (a:(List z06)):List (Nat×Ent):=[(200000,.row 44 1 (a.map z0c))]
def z9f (r:(List z06)):List (Nat×Ent):=[(260000,.row 44 1 (r.map z0c))]
def zbp (r:(List z06)):AV:=.row 260000
def zhq (r:(List z06)):AS:=⟨[(4,.row 260000)],z9f r⟩
theorem zke {n c r}(b:z9l n c=some r):ConG E0.P none (CalF E0.P 129 0) [.row 200000,.fn 130 [.ref [.fn 92 []]]] [] (zmq c) (zbp r) (z9f r):=by
 unfold z9l at b;refine ConG.walk (E:=(E0p 2)) (caps:=[]) _ Tryz.func129 rfl rfl rfl rfl rfl ?_;repeat' first
  |refine AW.step ?_;conv=>whnf
  |refine z10.o b (fun b=>?_) fun b=>?_
  |exact GX.A (res:=zbp) (meF:=z9f) b zhq (h1:=LeX.a [(260000,200000)])
  |refine NatX.o b (fun m b=>?_)
  |refine EltX.o z0c b (fun x b=>?_)
  |refine z1h.I b fun a b=>?_
  |refine OpX.sub b rfl rfl rfl rfl rfl rfl rfl rfl rfl rfl (fun m b=>?_)
  |refine OpX.clr z0c b rfl rfl rfl rfl rfl rfl rfl rfl rfl rfl rfl (by first|exact SubL.refl _|(repeat' first|exact SubL.nil|refine SubL.cons ?_ ?_|exact Sub.refl _|exact Sub.nil _|refine Sub.agg ?_)) (fun l b=>?_)
  |refine SlsX.o z0c b (fun l b=>?_)
  |exact GX.A (res:=zbp) (meF:=z9f) b zhq (h1:=LeX.a [(260000,64)])
  |refine OpX.lns b rfl rfl rfl rfl rfl rfl rfl (fun b=>?_)
  |refine OpX.ixs b rfl rfl rfl rfl rfl rfl rfl rfl rfl rfl (fun m b=>?_)
  |refine SetX.o z0c b (fun x=>rfl) (fun x=>(by first|exact SubL.refl _|(repeat' first|exact SubL.nil|refine SubL.cons ?_ ?_|exact Sub.refl _|exact Sub.nil _|refine Sub.agg ?_))) (fun l b=>?_)
  |exact ⟨_,b,LeX.a []⟩
  |refine z63.I b (LeX.a []) fun m v b=>?_
  |refine AndA ?_
  |refine EqX.A ?_
def zx7 (a:(List z06)):List (Nat×Ent):=[(200000,.row 44 1 (a.map z0c))]
def zfe (r:(List z06)):List (Nat×Ent):=[(260000,.row 44 1 (r.map z0c))]
def zhd (r:(List z06)):AV:=.row 260000
def zx5 (r:(List z06)):AS:=⟨[(4,.row 260000)],zfe r⟩
theorem zkf {n c r}(b:zd0 n c=some r):ConG E0.P none (CalF E0.P 91 0) [.row 200000,.fn 92 []] [] (zx7 c) (zhd r) (zfe r):=by
 unfold zd0 at b;refine ConG.walk (E:=(E0p 2)) (caps:=[]) _ Tryz.func91 rfl rfl rfl rfl rfl ?_;repeat' first
  |refine AW.frbO b 3 rfl rfl (fun b=>?_)
  |refine AW.regO b fun b=>?_
  |refine AW.stepU [2] ?_;conv=>whnf
  |refine zab.oI b 200000 (fun r=>r) z0c (fun _=>AV.tup []) rfl (fun a h=>(ConC.env rfl (yfj h))) rfl rfl rfl (fun a b=>?_)
  |refine zab.oM (z3d 10 b) [(200000,200000)] [(260000,11000000)] _ _ z9f zbp [200000] (fun a h=>ConG.up (zke h)) (z0q Tryz.func129 rfl rfl) rfl rfl rfl ⟨⟨rfl,rfl⟩,trivial⟩ (fun a=>⟨rfl,rfl,rfl,rfl,rfl,rfl,rfl,rfl⟩) (fun a b=>?_)
  |exact GX.A (res:=zhd) (meF:=zfe) b zx5 (h1:=LeX.a [(260000,11000000)])
instance y5o {n c e d}:CI E0 (z57 n c e d) false 85 [.ref [aI c.fa.fVars,aI c.fa.fScopes,.sl 1 (c.fa.fStates.map z0s),.sl 17 (c.fa.fEdges.map z0v),.mapv (List.map (encM z14 z02) (c.fheld))],.sl 3 (e.map z01),z02 d] (fun r=>.tup [.sl 3 (r.1.map z01),.sl 1 (r.2.map z0c)]):=⟨fun {r} b=>by
 unfold z57 at b;refine Con.walkM (E:=E0r) _ Tryz.func85 rfl (z0q Tryz.func85 rfl rfl) rfl (Or.inl rfl) ?_ rfl rfl rfl;repeat' first
  |refine AW.step ?_;conv=>whnf
  |refine z10.o b (fun b=>?_) fun b=>?_
  |refine zab.oM (z3d 39 b) [(200000,811000001)] [(260000,40000000)] _ _ zjd zlk [811000001] (fun a h=>ConG.up (zud h)) (z0q Tryz.func121 rfl rfl) rfl rfl rfl ⟨⟨rfl,rfl⟩,trivial⟩ (fun a=>⟨rfl,rfl,rfl,rfl,rfl,rfl,rfl,rfl⟩) (fun a b=>?_)
  |refine zab.oM (z3d 41 b) [(200000,811000003)] [(260000,42000000)] _ _ zfe zhd [811000003] (fun a h=>ConG.up (zkf h)) (z0q Tryz.func91 rfl rfl) rfl rfl rfl ⟨⟨rfl,rfl⟩,trivial⟩ (fun a=>⟨rfl,rfl,rfl,rfl,rfl,rfl,rfl,rfl⟩) (fun a b=>?_)
  |refine IdxX.A b fun x b=>?_
  |refine z1h.oM (z3d 22 b) [] [(3,23000000),(4,23000001),(5,23000002)] _ _ ze6 zgo [] (fun a h=>ConG.up (zpj h)) (z0q Tryz.func120 rfl rfl) rfl rfl rfl trivial (fun a=>⟨rfl,rfl,rfl,rfl,rfl,rfl,rfl,rfl⟩) (fun a b=>?_)
  |refine AppX.oA b fun l b=>?_
  |refine BX.o (meF:=z4o) b ?_;exact BX.mk (zi3 _) (LeX.a [(250000,200000),(250001,32)]) rfl rfl
  |refine BX.o (meF:=z4o) b ?_;exact BX.mk (zi3 _) (LeX.a [(250000,36),(250001,200001)]) rfl rfl
  |refine RngX.oM (z3d 810 b) [(100000,8),(100001,9),(100002,23000000),(100003,23000001),(100004,23000002),(200000,811000001),(200001,811000003)] [(100000,8),(250000,811500001),(100001,9),(250001,811500003),(100002,23000000),(100003,23000001),(100004,23000002)] _ _ _ z7e [811000001,811000003] (fun x h l D fn T f=>zjc h l _ T (fun b=>ConG.round (E:=E0p 10) rfl rfl rfl rfl rfl rfl ?_ l D fn T f)) (z0q Tryz.func156 rfl rfl) rfl rfl rfl rfl rfl ⟨⟨rfl,rfl⟩,⟨⟨rfl,rfl⟩,trivial⟩⟩ ⟨⟨rfl,rfl⟩,⟨⟨rfl,rfl⟩,⟨⟨rfl,rfl⟩,⟨⟨rfl,rfl⟩,⟨⟨rfl,rfl⟩,⟨⟨rfl,rfl⟩,⟨⟨rfl,rfl⟩,trivial⟩⟩⟩⟩⟩⟩⟩ (fun a=>⟨rfl,rfl,rfl,rfl,rfl,rfl,rfl,rfl⟩) (fun a b=>?_)
  |exact ⟨_,b,LeX.a [(811000001,811500001),(811000003,811500003)]⟩
  |refine z63.I b ?_ fun m v b=>?_
  |exact LeX.trans (LeX.adoptC 8 0 811000001 60 3 57 _ rfl rfl rfl) (LeX.trans (LeX.adoptC 9 0 811000003 44 1 50 _ rfl rfl rfl) (LeX.a []))
  |refine AndA ?_
  |exact RetX.oB b⟩
end
noncomputable section
abbrev zy0 {n e d a b}:=li (ze4 n e d a b) (fun c=>⟨[(2,.sl 3 (d.map z01)),(7,.ptr 7 0),(11,.ref [aI a.fa.fVars,aI a.fa.fScopes,.sl 1 (a.fa.fStates.map z0s),.sl 17 (a.fa.fEdges.map z0v),.mapv (List.map (encM z14 z02) (a.fheld))]),(31,.sl 3 (d.map z01)),(32,aI (((d.map z01).length:Int))),(33,aI c)],[(7,.box 71 (z19 e))]⟩) fun _ _=>ze4.eq_2 ..
abbrev zul {n a b}:=li (zbj n a b) (fun c=>⟨[(3,.row 7023),(6,.sl 3 (a.map z01)),(7,aI (((a.map z01).length:Int))),(8,aI c.1)],[(7023,.row 60 3 (c.2.map z01))]⟩) fun _ _=>zbj.eq_2 ..
abbrev ztl {n a d b}:=li (zau n a d b) (fun c=>⟨[(1,.sl 5 (a.map z02)),(2,.fn 38 []),(3,.ptr 3 0),(8,.row 7016),(17,.sl 5 (a.map z02)),(18,aI (((a.map z02).length:Int))),(19,aI c.1)],[(3,.box 25 (z0d d)),(7016,.row 57 1 (List.map (fun q=>AV.sl 3 (List.map z01 q)) (c.2)))]⟩) fun _ _=>zau.eq_2 ..
abbrev y7b {n f a b d c}:=jf (zh2 n f a b d c) (fun e=>⟨[(7,.ref [aI a.fa.fVars,aI a.fa.fScopes,.sl 1 (a.fa.fStates.map z0s),.sl 17 (a.fa.fEdges.map z0v),.mapv (List.map (encM z14 z02) (a.fheld))]),(10,.row 7058),(13,.sl 3 (c.1.map z01)),(14,.sl 1 (c.2.map z0c)),(26,.sl 5 (f.map z02)),(27,aI (((f.map z02).length:Int))),(28,aI b.2.1),(54,.bool (e))],[(7058,.row 44 1 (b.2.2.map z0c))]⟩) fun _=>zh2.eq_1 ..
abbrev y7a {n d a c}:=li (zh1 n d a c) (fun b=>⟨[(7,.ref [aI a.fa.fVars,aI a.fa.fScopes,.sl 1 (a.fa.fStates.map z0s),.sl 17 (a.fa.fEdges.map z0v),.mapv (List.map (encM z14 z02) (a.fheld))]),(9,.sl 3 (b.1.map z01)),(10,.row 7058),(26,.sl 5 (d.map z02)),(27,aI (((d.map z02).length:Int))),(28,aI b.2.1)],[(7058,.row 44 1 (b.2.2.map z0c))]⟩) fun _ _=>zh1.eq_2 ..
abbrev ztu {n c a d}:=li (zf9 n c a d) (fun b=>⟨[(1,.fn 152 [.ptr 100000 0]),(16,.sl 8 (a.fArgs.map idA)),(17,aI (((a.fArgs.map idA).length:Int))),(18,aI b.1)],[(100000,.box 212 [.bool (b.2.1),.bool (b.2.2.1),.bool (b.2.2.2.1),.bool (b.2.2.2.2.1),.bool (b.2.2.2.2.2.1),.bool (b.2.2.2.2.2.2.1),.bool (b.2.2.2.2.2.2.2.1),.bool (b.2.2.2.2.2.2.2.2.1),.bool (b.2.2.2.2.2.2.2.2.2.1),.bool (b.2.2.2.2.2.2.2.2.2.2.1),.bool (b.2.2.2.2.2.2.2.2.2.2.2.1),.bool (b.2.2.2.2.2.2.2.2.2.2.2.2.1),.bool (b.2.2.2.2.2.2.2.2.2.2.2.2.2.1),.bool (b.2.2.2.2.2.2.2.2.2.2.2.2.2.2.1),.bool (b.2.2.2.2.2.2.2.2.2.2.2.2.2.2.2.1),.bool (b.2.2.2.2.2.2.2.2.2.2.2.2.2.2.2.2)])]⟩) fun _ _=>zf9.eq_2 ..
abbrev zut {n a b}:=li (z0j n a b) (fun c=>⟨[(4,.row 7019),(10,.agg [.bool (a.2.1),.bool (a.2.2.1),.bool (a.2.2.2.1),.bool (a.2.2.2.2.1),.bool (a.2.2.2.2.2.1),.bool (a.2.2.2.2.2.2.1),.bool (a.2.2.2.2.2.2.2.1),.bool (a.2.2.2.2.2.2.2.2.1),.bool (a.2.2.2.2.2.2.2.2.2.1),.bool (a.2.2.2.2.2.2.2.2.2.2.1),.bool (a.2.2.2.2.2.2.2.2.2.2.2.1),.bool (a.2.2.2.2.2.2.2.2.2.2.2.2.1),.bool (a.2.2.2.2.2.2.2.2.2.2.2.2.2.1),.bool (a.2.2.2.2.2.2.2.2.2.2.2.2.2.2.1),.bool (a.2.2.2.2.2.2.2.2.2.2.2.2.2.2.2.1),.bool (a.2.2.2.2.2.2.2.2.2.2.2.2.2.2.2.2)]),(11,aI c.1)],[(7019,.row 3 1 (c.2.map aI))]⟩) fun _ _=>z0j.eq_2 ..
abbrev zlb {n m0n a f c d e}:=li (zb4 n m0n a f c d e) (fun b=>⟨[(0,aI f),(2,.ptr 100000 0),(9,.sl 8 (a.map idA)),(10,aI (((a.map idA).length:Int))),(11,aI c.1),(16,.sl 1 (d.map aI)),(17,aI (((d.map aI).length:Int))),(18,aI b.1)],[(100000,.box 130 [.cont (m0n) 200000]),(200000,.are 136 (b.2).1 (List.map (enO aI AV.bool) (b.2).2))]⟩) fun _ _=>zb4.eq_2 ..
abbrev zlc {n m0n a d c}:=li (zb5 n m0n a d c) (fun b=>⟨[(0,aI d),(2,.ptr 100000 0),(9,.sl 8 (a.map idA)),(10,aI (((a.map idA).length:Int))),(11,aI b.1)],[(100000,.box 130 [.cont (m0n) 200000]),(200000,.are 136 (b.2).1 (List.map (enO aI AV.bool) (b.2).2))]⟩) fun _ _=>zb5.eq_2 ..
attribute [instance] zy0 zul ztl y7b y7a ztu zut zlb zlc
instance yje {n f e d c}:CI E0 (zfv n f e d c) false 71 [z0m f,.sl 5 (e.map z02),.sl 3 (d.map z01),z02 c] (fun r=>.tup [.sl 3 (r.1.map z01),.sl 1 (r.2.1.map z0c),aI r.2.2]):=⟨fun {r} b=>by
 unfold zfv at b;refine cw Tryz.func71 ?_;repeat' first
  |refine AW.jI b (fun v b=>?_) fun b=>?_
  |refine AW.regO b fun b=>?_
  |refine AW.stepU [17] ?_;conv=>whnf
  |refine z10.o b (fun b=>?_) fun b=>?_
  |refine z1h.oP b zca (fun u=>.tup [.nilp,aI (u.2)]) (fun u y=>.tup [.ref [aI (y.fa.fVars),aI (y.fa.fScopes),.sl 1 (y.fa.fStates.map z0s),.sl 17 (y.fa.fEdges.map z0v),.mapv (List.map (encM z14 z02) (y.fheld))],aI (u.2)]) (fun u h=>by simp only [zca,h,zbo]) (fun u y h=>by simp only [zca,h,zbo]) (fun a h=>zjv.h h) (fun a b=>?_) (fun a y b=>?_)
  |(cases b;done)
  |refine z1h.I b fun a b=>?_
  |exact ⟨_,b,LeX.a []⟩
  |refine IdxX.A b fun x b=>?_
  |refine z63.I b (LeX.a []) fun m v b=>?_
  |exact RetX.oB b⟩
instance yez {n c}:CI E0 (ze5 n c) false 38 [.sl 3 (c.map z01)] (fun r=>.sl 3 (r.map z01)):=⟨fun {r} b=>by
 unfold ze5 at b;refine cw Tryz.func38 ?_;repeat' first
  |refine AW.step ?_;conv=>whnf
  |refine z10.o b (fun b=>?_) fun b=>?_
  |refine z10.t ?_
  |refine z10.f ?_
  |refine IdxX.A b fun x b=>?_
  |refine z1h.o b (fun q=>AV.sl 4 (List.map z0b q)) (fun a h=>ycl h) (fun a b=>?_)
  |refine z1h.o b (fun q=>AV.sl 2 (List.map z08 q)) (fun a h=>yck h) (fun a b=>?_)
  |refine AppX.oA b fun l b=>?_
  |exact ⟨_,b,LeX.a [(7023,23)]⟩
  |refine z63.I b ?_ fun m v b=>?_
  |exact LeX.trans (LeX.adopt 3 7023 60 3 rfl rfl) (LeX.a [])
  |refine AndA ?_
  |refine EqX.A ?_
  |exact RetX.oB b⟩
instance yce {n d c}:CI E0 (zfh n d c) false 37 [z0m d,.sl 5 (c.map z02),.fn 38 []] (fun r=>.tup [.sl 1 (List.map (fun q=>AV.sl 3 (List.map z01 q)) (r.1)),aI r.2]):=⟨fun {r} b=>by
 unfold zfh at b;refine Con.env (E:=E0b) rfl rfl ?_;refine Con.walk _ Tryz.func37 rfl (z0q Tryz.func37 rfl rfl) rfl (Or.inl rfl) ?_;repeat' first
  |refine AW.step ?_;conv=>whnf
  |refine z10.o b (fun b=>?_) fun b=>?_
  |refine z10.t ?_
  |refine z10.f ?_
  |refine z1h.I b fun a b=>?_
  |refine OpX.bldS z01 b rfl rfl rfl rfl rfl rfl rfl rfl rfl rfl rfl rfl rfl rfl (fun l b=>?_)
  |refine OpX.bldR (fun q=>AV.sl 3 (List.map z01 q)) b rfl rfl rfl rfl rfl rfl rfl rfl rfl rfl rfl rfl rfl rfl rfl rfl (by first|exact SubR.refl _|(repeat' first|exact SubR.nil|refine SubR.cons ?_ ?_|exact SubL.nil|refine SubL.cons ?_ ?_|exact Sub.refl _|exact Sub.nil _)) rfl (fun l b=>?_)
  |refine OpX.bld (fun q=>AV.sl 3 (List.map z01 q)) b rfl rfl rfl rfl rfl rfl rfl rfl rfl rfl rfl rfl rfl rfl rfl rfl (fun l b=>?_)
  |refine IdxX.A b fun x b=>?_
  |refine SlsX.o z02 b (fun l b=>?_)
  |refine NatX.o b (fun m b=>?_)
  |refine EltX.o (fun q=>AV.sl 3 (List.map z01 q)) b (fun x b=>?_)
  |refine OpX.bldS (fun q=>AV.sl 3 (List.map z01 q)) b rfl rfl rfl rfl rfl rfl rfl rfl rfl rfl rfl rfl rfl rfl (fun l b=>?_)
  |refine AppX.oA b fun l b=>?_
  |exact ⟨_,b,LeX.a [(7016,51)]⟩
  |refine z63.I b ?_ fun m v b=>?_
  |exact LeX.a [(7016,16)]
  |refine AndA ?_
  |refine EqX.A ?_
  |exact RetX.oB b⟩
instance yaj {n b a}:CI E0 (z3u n b a) false 13 [z0m b,.sl 5 (a.map z02)] (fun r=>.tup [.agg [.sl 1 (List.map (fun q=>AV.sl 3 (List.map z01 q)) (r.1.fSets))],aI r.2]):=by unfold z3u;exact CI.w [] Tryz.func13
instance ypc {n d c}:CI E0 (y11 n d c) false 56 [z0m d,.sl 5 (c.map z02)] (fun r=>.tup [.sl 3 (r.1.map z01),.sl 1 (r.2.1.map z0c),aI r.2.2]):=⟨fun {r} b=>by
 unfold y11 at b;refine cw Tryz.func56 ?_;repeat' first
  |refine AW.jI b (fun v b=>?_) fun b=>?_
  |refine AW.regO b fun b=>?_
  |refine AW.stepU [10] ?_;conv=>whnf
  |refine z10.o b (fun b=>?_) fun b=>?_
  |refine z10.t ?_
  |refine z1h.oP b zca (fun u=>.tup [.nilp,aI (u.2)]) (fun u y=>.tup [.ref [aI (y.fa.fVars),aI (y.fa.fScopes),.sl 1 (y.fa.fStates.map z0s),.sl 17 (y.fa.fEdges.map z0v),.mapv (List.map (encM z14 z02) (y.fheld))],aI (u.2)]) (fun u h=>by simp only [zca,h,zbo]) (fun u y h=>by simp only [zca,h,zbo]) (fun a h=>zjv.h h) (fun a b=>?_) (fun a y b=>?_)
  |refine z1h.I b fun a b=>?_
  |(cases b;done)
  |refine zab.oM (z3d 62 b) [(200000,7058)] [(260000,63000000)] _ _ zfe zhd [7058] (fun a h=>ConG.up (zkf h)) (z0q Tryz.func91 rfl rfl) rfl rfl rfl ⟨⟨rfl,rfl⟩,trivial⟩ (fun a=>⟨rfl,rfl,rfl,rfl,rfl,rfl,rfl,rfl⟩) (fun a b=>?_)
  |refine IdxX.A b fun x b=>?_
  |refine AppX.oA b fun l b=>?_
  |exact ⟨_,b,LeX.a [(7058,58)]⟩
  |exact ⟨_,b,LeX.a []⟩
  |refine z63.I b ?_ fun m v b=>?_
  |exact LeX.trans (LeX.adopt 10 7058 44 1 rfl rfl) (LeX.a [])
  |exact RetX.oB b⟩
instance yjd {n b a}:CI E0 (zpx n b a) false 23 [z0m b,.sl 5 (a.map z02)] (fun r=>.tup [.sl 1 (r.1.map z0c),aI r.2]):=by unfold zpx;exact CI.w [] Tryz.func23
def zwb (b:z0k)(a:B16):List (Nat×Ent):=[(100000,.box 212 [.bool (a.1),.bool (a.2.1),.bool (a.2.2.1),.bool (a.2.2.2.1),.bool (a.2.2.2.2.1),.bool (a.2.2.2.2.2.1),.bool (a.2.2.2.2.2.2.1),.bool (a.2.2.2.2.2.2.2.1),.bool (a.2.2.2.2.2.2.2.2.1),.bool (a.2.2.2.2.2.2.2.2.2.1),.bool (a.2.2.2.2.2.2.2.2.2.2.1),.bool (a.2.2.2.2.2.2.2.2.2.2.2.1),.bool (a.2.2.2.2.2.2.2.2.2.2.2.2.1),.bool (a.2.2.2.2.2.2.2.2.2.2.2.2.2.1),.bool (a.2.2.2.2.2.2.2.2.2.2.2.2.2.2.1),.bool (a.2.2.2.2.2.2.2.2.2.2.2.2.2.2.2)])]
def ze7 (r:Int×B16):List (Nat×Ent):=[(100000,.box 212 [.bool (r.2.1),.bool (r.2.2.1),.bool (r.2.2.2.1),.bool (r.2.2.2.2.1),.bool (r.2.2.2.2.2.1),.bool (r.2.2.2.2.2.2.1),.bool (r.2.2.2.2.2.2.2.1),.bool (r.2.2.2.2.2.2.2.2.1),.bool (r.2.2.2.2.2.2.2.2.2.1),.bool (r.2.2.2.2.2.2.2.2.2.2.1),.bool (r.2.2.2.2.2.2.2.2.2.2.2.1),.bool (r.2.2.2.2.2.2.2.2.2.2.2.2.1),.bool (r.2.2.2.2.2.2.2.2.2.2.2.2.2.1),.bool (r.2.2.2.2.2.2.2.2.2.2.2.2.2.2.1),.bool (r.2.2.2.2.2.2.2.2.2.2.2.2.2.2.2.1),.bool (r.2.2.2.2.2.2.2.2.2.2.2.2.2.2.2.2)])]
def zgh (r:Int×(Bool×Bool×Bool×Bool×Bool×Bool×Bool×Bool×Bool×Bool×Bool×Bool×Bool×Bool×Bool×Bool)):AV:=aI (r.1)
def zw6 (r:Int×B16):AS:=⟨[(3,aI r.1),(1,.ptr 100000 0)],ze7 r⟩
theorem zjl {n c d r}(b:zih n c d=some r):ConG E0.P none (CalF E0.P 152 0) [z0n c,.ptr 100000 0] [] (zwb c d) (zgh r) (ze7 r):=by
 unfold zih at b;refine ConG.walk (E:=(E0p 2)) (caps:=[]) _ Tryz.func152 rfl rfl rfl rfl rfl ?_;repeat' first
  |refine AW.step ?_;conv=>whnf
  |refine z10.o b (fun b=>?_) fun b=>?_
  |refine z10.t ?_
  |refine z10.f ?_
  |refine z1h.I b fun a b=>?_
  |refine NatX.oS b rfl (fun b=>?_) (fun b=>?_)
  |(cases b;done)
  |exact GX.A (res:=zgh) (meF:=ze7) b zw6
  |refine AndA ?_
  |refine EqX.A ?_
def zx8 (b:z0k)(a:B16):List (Nat×Ent):=[(100000,.box 212 [.bool (a.1),.bool (a.2.1),.bool (a.2.2.1),.bool (a.2.2.2.1),.bool (a.2.2.2.2.1),.bool (a.2.2.2.2.2.1),.bool (a.2.2.2.2.2.2.1),.bool (a.2.2.2.2.2.2.2.1),.bool (a.2.2.2.2.2.2.2.2.1),.bool (a.2.2.2.2.2.2.2.2.2.1),.bool (a.2.2.2.2.2.2.2.2.2.2.1),.bool (a.2.2.2.2.2.2.2.2.2.2.2.1),.bool (a.2.2.2.2.2.2.2.2.2.2.2.2.1),.bool (a.2.2.2.2.2.2.2.2.2.2.2.2.2.1),.bool (a.2.2.2.2.2.2.2.2.2.2.2.2.2.2.1),.bool (a.2.2.2.2.2.2.2.2.2.2.2.2.2.2.2)])]
def zbg (r:Int×B16):List (Nat×Ent):=[(100000,.box 212 [.bool (r.2.1),.bool (r.2.2.1),.bool (r.2.2.2.1),.bool (r.2.2.2.2.1),.bool (r.2.2.2.2.2.1),.bool (r.2.2.2.2.2.2.1),.bool (r.2.2.2.2.2.2.2.1),.bool (r.2.2.2.2.2.2.2.2.1),.bool (r.2.2.2.2.2.2.2.2.2.1),.bool (r.2.2.2.2.2.2.2.2.2.2.1),.bool (r.2.2.2.2.2.2.2.2.2.2.2.1),.bool (r.2.2.2.2.2.2.2.2.2.2.2.2.1),.bool (r.2.2.2.2.2.2.2.2.2.2.2.2.2.1),.bool (r.2.2.2.2.2.2.2.2.2.2.2.2.2.2.1),.bool (r.2.2.2.2.2.2.2.2.2.2.2.2.2.2.2.1),.bool (r.2.2.2.2.2.2.2.2.2.2.2.2.2.2.2.2)])]
def zcx (r:Int×(Bool×Bool×Bool×Bool×Bool×Bool×Bool×Bool×Bool×Bool×Bool×Bool×Bool×Bool×Bool×Bool)):AV:=aI (r.1)
def zx6 (r:Int×B16):AS:=⟨[(4,aI r.1),(1,.fn 152 [.ptr 100000 0])],zbg r⟩
theorem zkh {n c d r}(b:zhg n c d=some r):ConG E0.P none (CalF E0.P 151 0) [z0n c,.fn 152 [.ptr 100000 0]] [] (zx8 c d) (zcx r) (zbg r):=by
 induction n generalizing c d r
 case zero=>cases b
 case succ n e =>
 unfold zhg at b;refine ConG.walk (E:=(E0p 2)) (caps:=[]) _ Tryz.func151 rfl rfl rfl rfl rfl ?_;repeat' first
  |refine AW.step ?_;conv=>whnf
  |refine z10.o b (fun b=>?_) fun b=>?_
  |refine z10.t ?_
  |refine z10.f ?_
  |refine zab.oM (z3d 11 b) [(100000,100000)] [(100000,100000)] _ _ ze7 zgh [] (fun a h=>ConG.up (zjl h)) (z0q Tryz.func152 rfl rfl) rfl rfl rfl ⟨⟨rfl,rfl⟩,trivial⟩ (fun a=>⟨rfl,rfl,rfl,rfl,rfl,rfl,rfl,rfl⟩) (fun a b=>?_)
  |refine z1h.oM (z3d 11 b) [(100000,100000)] [(100000,100000)] _ _ ze7 zgh [] (fun a h=>ConG.up (zjl h)) (z0q Tryz.func152 rfl rfl) rfl rfl rfl ⟨⟨rfl,rfl⟩,trivial⟩ (fun a=>⟨rfl,rfl,rfl,rfl,rfl,rfl,rfl,rfl⟩) (fun a b=>?_)
  |refine GX.o (res:=zcx) (meF:=zbg) b ?_;exact GX.mk (zx6 _) (LeX.a []) rfl _ rfl (by repeat' first|exact Sub.nil _|exact Sub.refl _|refine Sub.agg ?_|refine Sub.tup ?_|refine Sub.fn ?_|exact SubL.nil|refine SubL.cons ?_ ?_|refine Sub.sl _ ?_|exact SubE.nil|refine SubE.cons ?_ ?_) [100000] ⟨Or.inr ⟨1,0,_,_,_,_,_,Nat.le_of_ble_eq_true rfl,rfl,rfl,rfl,rfl,rfl⟩,trivial⟩ rfl
  |refine IdxX.oD b z2q (fun x b=>?_)
  |refine zab.oM (z3d 24 b) [(100000,100000)] [(100000,100000)] _ _ zbg zcx [] (fun a h=>ConG.up (e h)) (z0q Tryz.func151 rfl rfl) rfl rfl rfl ⟨⟨rfl,rfl⟩,trivial⟩ (fun a=>⟨rfl,rfl,rfl,rfl,rfl,rfl,rfl,rfl⟩) (fun a b=>?_)
  |refine z1h.oM (z3d 24 b) [(100000,100000)] [(100000,100000)] _ _ zbg zcx [] (fun a h=>ConG.up (e h)) (z0q Tryz.func151 rfl rfl) rfl rfl rfl ⟨⟨rfl,rfl⟩,trivial⟩ (fun a=>⟨rfl,rfl,rfl,rfl,rfl,rfl,rfl,rfl⟩) (fun a b=>?_)
  |exact ⟨_,b,LeX.a []⟩
  |refine z63.I b (LeX.a []) fun m v b=>?_
  |refine AndA ?_
  |refine EqX.A ?_
instance yf2 {n c}:CI E0 (zhw n c) false 112 [z0n c] (fun r=>.sl 1 (r.map aI)):=⟨fun {r} b=>by
 unfold zhw at b;refine cw Tryz.func112 ?_;repeat' first
  |refine AW.regO b fun b=>?_
  |refine AW.stepU [7] ?_;conv=>whnf
  |refine z10.o b (fun b=>?_) fun b=>?_
  |refine z10.t ?_
  |refine z10.f ?_
  |refine zab.oM (z3d 9 b) [(100000,3)] [(100000,3)] _ _ zbg zcx [] (fun a h=>ConG.up (zkh h)) (z0q Tryz.func151 rfl rfl) rfl rfl rfl ⟨⟨rfl,rfl⟩,trivial⟩ (fun a=>⟨rfl,rfl,rfl,rfl,rfl,rfl,rfl,rfl⟩) (fun a b=>?_)
  |refine z1h.oM (z3d 9 b) [(100000,3)] [(100000,3)] _ _ zbg zcx [] (fun a h=>ConG.up (zkh h)) (z0q Tryz.func151 rfl rfl) rfl rfl rfl ⟨⟨rfl,rfl⟩,trivial⟩ (fun a=>⟨rfl,rfl,rfl,rfl,rfl,rfl,rfl,rfl⟩) (fun a b=>?_)
  |refine NatX.oS b rfl (fun b=>?_) (fun b=>?_)
  |(cases b;done)
  |refine AppX.oA b fun l b=>?_
  |exact ⟨_,b,LeX.a [(7019,19)]⟩
  |exact ⟨_,b,LeX.a []⟩
  |refine z63.I b ?_ fun m v b=>?_
  |exact LeX.trans (LeX.adopt 4 7019 3 1 rfl rfl) (LeX.a [])
  |refine AndA ?_
  |refine EqX.A ?_
  |exact RetX.oB b⟩
def zpw (c:Int)(b:(List AV))(m0n:Nat)(a:(Ars (List (Int×Bool)))):List (Nat×Ent):=[(100000,.box 130 [.cont (m0n) 200000]),(200000,.are 136 (a).1 (List.map (enO aI AV.bool) (a).2))]
def zag (r:Nat×(Ars (List (Int×Bool)))):List (Nat×Ent):=[(100000,.box 130 [.cont (r.1) 270000]),(270000,.are 136 (r.2).1 (List.map (enO aI AV.bool) (r.2).2))]
def zco (r:Nat×(Ars (List (Int×Bool)))):AV:=.tup []
def zpu (r:Nat×(Ars (List (Int×Bool)))):AS:=⟨[(2,.ptr 100000 0)],zag r⟩
end
end Go.Proofs.YtidhlpjgifoneaaGreat
