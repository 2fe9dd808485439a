/- What some functions compute, over plain values. -/
import Derived.Test.YthbogefcfhmpgaaGreatK16
set_option linter.unusedVariables false
set_option linter.unusedSimpArgs false
set_option maxRecDepth 100000
set_option maxHeartbeats 8000000
namespace Go.Proofs.YthbogefcfhmpgaaGreat
open Go.RowKit List
open LeX renaming a->aA,trans->aC,adopt->aG,itc->bZ
open RetX renaming oB->aB
open AW renaming stepU->aD,regO->aE,step->aJ,pckO->bV,jI->cF
open EqX renaming A->aF
open ConG renaming up->aH,walk->bC
open A3 renaming o->aK,t->aP,f->aQ
open Bool renaming not_false->aL,not_true->aO
open Nat renaming le_of_ble_eq_true->aM,le_refl->bA
open IdxX renaming A->aN,oD->bN
open CI renaming w->aR
open AppX renaming oA->aS
open Tryz renaming func237->aT,func109->aU,func105->aY,func187->bF,func188->bG,func189->bH,func263->bI,func107->bJ,prog->bL,ntmps188->bP,ntmps189->bQ,func116->bU,func313->cA,func235->cB,func175->cC
open Or renaming inr->aV,inl->aZ
open Ab renaming I->aW,oM->bT
open Ap renaming I->aX
open SubL renaming refl->bB
open OpX renaming lkv->bE,rng->bW,nxt->bX,ent->bY,nlq->cD
open List renaming map_cons->bK,map_nil->bO
noncomputable section
abbrev z5z {n e f g a b c}:=jt (I4 n e f g a b c) (fun d=>⟨[(3,.sl 1 (List.map (fun q=>AV.mapv (List.map (encM aI AV.bool) q)) (e))),(4,.ptr 4 0),(6,.ptr 6 0),(9,.row 13),(10,aI b.1),(12,.bool (d)),(15,aI g.fScopes),(16,aI b.1)],[(4,.box 119 [.mapv (List.map (encM aI AV.bool) (a.freachable)),.mapv (List.map (encM aI AV.bool) (a.finner))]),(6,.box 149 (Bs f)),(13,.mp (List.map (encM aI AV.bool) (b.2)))]⟩) fun _=>I4.eq_1 ..
abbrev z60 {n f g h a b c d}:=jt (Ko n f g h a b c d) (fun e=>⟨[(3,.sl 1 (List.map (fun q=>AV.mapv (List.map (encM aI AV.bool) q)) (f))),(4,.ptr 4 0),(6,.ptr 6 0),(9,.row 13),(10,aI b.1),(11,.bool (d)),(12,.bool (e)),(15,aI h.fScopes),(16,aI b.1)],[(4,.box 119 [.mapv (List.map (encM aI AV.bool) (a.freachable)),.mapv (List.map (encM aI AV.bool) (a.finner))]),(6,.box 149 (Bs g)),(13,.mp (List.map (encM aI AV.bool) (b.2)))]⟩) fun _=>Ko.eq_1 ..
abbrev z5y {n d e f a b}:=li (Km n d e f a b) (fun c=>⟨[(3,.sl 1 (List.map (fun q=>AV.mapv (List.map (encM aI AV.bool) q)) (d))),(4,.ptr 4 0),(6,.ptr 6 0),(9,.row 13),(15,aI f.fScopes),(16,aI c.1)],[(4,.box 119 [.mapv (List.map (encM aI AV.bool) (a.freachable)),.mapv (List.map (encM aI AV.bool) (a.finner))]),(6,.box 149 (Bs e)),(13,.mp (List.map (encM aI AV.bool) (c.2)))]⟩) fun _ _=>Km.eq_2 ..
abbrev zdv {n a b}:=li (Vu n a b) (fun c=>⟨[(1,.mapv (List.map (encM aI AV.bool) (a))),(5,.row 7),(9,.ptr 9 0)],[(9,.it (List.map (encM aI AV.bool) (c.1))),(7,.mp (List.map (encM aI AV.bool) (c.2)))]⟩) fun _ _=>Vu.eq_2 ..
abbrev z4r {n a f b d c}:=jf (Ke n a f b d c) (fun e=>⟨[(2,.ptr 2 0),(3,.ptr 3 0),(5,.row 15),(8,.bool (b.1)),(10,.ptr 10 0),(40,.sl 17 (a.fEdges.map Ac)),(41,aI (((a.fEdges.map Ac).length:Int))),(42,aI b.2.1),(64,.bool (e))],[(2,.box 119 [.mapv (List.map (encM aI AV.bool) (f.freachable)),.mapv (List.map (encM aI AV.bool) (f.finner))]),(3,.box 26 (B1 a)),(10,.box 149 (Bs c)),(15,.row 112 1 (List.map (fun q=>AV.mapv (List.map (encM aI AV.bool) q)) (b.2.2)))]⟩) fun _=>Ke.eq_1 ..
abbrev z4o {n a d c}:=li (Kd n a d c) (fun b=>⟨[(2,.ptr 2 0),(3,.ptr 3 0),(5,.row 15),(8,.bool (b.1)),(40,.sl 17 (a.fEdges.map Ac)),(41,aI (((a.fEdges.map Ac).length:Int))),(42,aI b.2.1)],[(2,.box 119 [.mapv (List.map (encM aI AV.bool) (d.freachable)),.mapv (List.map (encM aI AV.bool) (d.finner))]),(3,.box 26 (B1 a)),(15,.row 112 1 (List.map (fun q=>AV.mapv (List.map (encM aI AV.bool) q)) (b.2.2)))]⟩) fun _ _=>Kd.eq_2 ..
abbrev z4p {n d a b}:=li (Yb n d a b) (fun c=>⟨[(2,.ptr 2 0),(3,.ptr 3 0),(5,.row 15),(8,.bool (c.1))],[(2,.box 119 [.mapv (List.map (encM aI AV.bool) (a.freachable)),.mapv (List.map (encM aI AV.bool) (a.finner))]),(3,.box 26 (B1 d)),(15,.row 112 1 (List.map (fun q=>AV.mapv (List.map (encM aI AV.bool) q)) (c.2)))]⟩) fun _ _=>Yb.eq_2 ..
abbrev z4n {n a g d b e f}:=li (Ya n a g d b e f) (fun c=>⟨[(2,.ptr 2 0),(3,.ptr 3 0),(5,.cont (d.1) 15),(6,aI b.1),(18,.ptr 18 0),(28,aI a.fScopes),(29,aI c.1)],[(2,.box 119 [.mapv (List.map (encM aI AV.bool) (g.freachable)),.mapv (List.map (encM aI AV.bool) (g.finner))]),(3,.box 26 (B1 a)),(15,.are 112 (c.2).1 (List.map (enO aI AV.bool) (c.2).2)),(18,.itc (encM aI AV.bool b) (List.map (encM aI AV.bool) (e)))]⟩) fun _ _=>Ya.eq_2 ..
abbrev z4q {n d a c}:=li (Yc n d a c) (fun b=>⟨[(2,.ptr 2 0),(3,.ptr 3 0),(5,.cont (b.1) 15),(18,.ptr 18 0)],[(2,.box 119 [.mapv (List.map (encM aI AV.bool) (a.freachable)),.mapv (List.map (encM aI AV.bool) (a.finner))]),(3,.box 26 (B1 d)),(15,.are 112 (b.2.1).1 (List.map (enO aI AV.bool) (b.2.1).2)),(18,.it (List.map (encM aI AV.bool) (b.2.2)))]⟩) fun _ _=>Yc.eq_2 ..
abbrev zbd {n b a c}:=li (Ze n b a c) (fun d=>⟨[(3,.row 7016),(6,.sl 8 (a.map idA)),(7,aI (((a.map idA).length:Int))),(8,aI d.1)],[(7016,.row 146 8 (d.2.map idA))]⟩) fun _ _=>Ze.eq_2 ..
abbrev z4v {n a b}:=li (Yd n a b) (fun c=>⟨[(3,.row 7016),(6,.sl 8 (a.map idA)),(7,aI (((a.map idA).length:Int))),(8,aI c.1)],[(7016,.row 146 8 (c.2.map idA))]⟩) fun _ _=>Yd.eq_2 ..
attribute [instance] z5z z60 z5y zdv z4r z4o z4p z4n z4q zbd z4v
instance zz5 {n d}:CI E0 (z2e n d) false 54 [Bh d] (fun r=>.agg [.mapv (List.map (encM aI AV.bool) (r.freachable)),.mapv (List.map (encM aI AV.bool) (r.finner))]):=⟨fun {r} c=>by
 unfold z2e at c;refine cw Tryz.func54 ?_;repeat' first
  |refine aE c fun c=>?_
  |refine aD [8] ?_;conv=>whnf
  |refine aK c (fun c=>?_) fun c=>?_
  |refine aP ?_
  |refine aQ ?_
  |refine aW c fun a c=>?_
  |refine aN c fun x c=>?_
  |refine bE aI AV.bool c Cz rfl rfl rfl rfl rfl rfl rfl rfl rfl rfl (by first|rfl|kernel_rfl) (.refl _) (fun v b c=>?_)
  |refine UpX.o aI AV.bool c (by first|rfl|kernel_rfl) Cz (.refl _) (fun l c=>?_)
  |exact ⟨_,c,aA []⟩
  |refine aX c (aA []) fun m v c=>?_
  |refine AndA ?_
  |refine aF ?_
  |exact aB c⟩
def z20 (r:(List (Int×Bool))):AV:=.mapv (List.map (encM aI AV.bool) (r))
theorem z68 {n d g f e r}(c:z0o n d g f e=some r):Con E0 true 116 [.agg [.mapv (List.map (encM aI AV.bool) (d.freachable)),.mapv (List.map (encM aI AV.bool) (d.finner))],Bh g,Ac f,.sl 1 (List.map (fun q=>AV.mapv (List.map (encM aI AV.bool) q)) (e))] (z20 r):=by
 unfold z0o at c;refine ConF.walk _ bU rfl (Av bU rfl rfl) rfl ?_;repeat' first
  |refine AW.jI2 c (fun v c=>?_) fun c=>?_
  |refine aE c fun c=>?_
  |refine aD [7,8,9,10,11] ?_;conv=>whnf
  |refine aK c (fun c=>?_) fun c=>?_
  |refine aP ?_
  |refine aQ ?_
  |refine aW c fun a c=>?_
  |refine UpX.o aI AV.bool c (by first|rfl|kernel_rfl) Cz (.refl _) (fun l c=>?_)
  |exact ⟨_,c,aA []⟩
  |refine bE aI AV.bool c Cz rfl rfl rfl rfl rfl rfl rfl rfl rfl rfl (by first|rfl|kernel_rfl) (.refl _) (fun v b c=>?_)
  |refine IdxX.o (fun q=>AV.mapv (List.map (encM aI AV.bool) q)) c fun x c=>?_
  |refine aX c (aA []) fun m v c=>?_
  |refine AndA ?_
  |refine aF ?_
  |refine FX.o (en:=fun r=>List.map (encM aI AV.bool) r) c ?_;exact FX.mk _ 13 (LeX.refl _ _ _) rfl rfl (y22 (fun _=>rfl) (fun _=>rfl)) (aZ rfl)
instance zyg {n d c}:CI E0 (z1u n d c) false 115 [.mapv (List.map (encM aI AV.bool) (d)),.mapv (List.map (encM aI AV.bool) (c))] (fun r=>.mapv (List.map (encM aI AV.bool) (r))):=⟨fun {r} a=>by
 unfold z1u at a;refine cw Tryz.func115 ?_;repeat' first
  |refine AW.frsO AV.bool a 7 rfl (fun a=>?_)
  |refine bV (encM aI AV.bool) a 9 rfl (fun x s a=>?_)
  |refine aE a fun a=>?_
  |refine AW.frzO a 7 rfl (fun a=>?_)
  |refine aD [7,5,4] ?_;conv=>whnf
  |refine aK a (fun a=>?_) fun a=>?_
  |refine aP ?_
  |refine aQ ?_
  |refine bW rfl rfl rfl rfl rfl rfl rfl rfl ?_
  |refine bX (encM aI AV.bool) a rfl rfl rfl rfl rfl (fun a=>?_) (fun a=>?_)
  |refine bY rfl rfl rfl rfl rfl ?_
  |refine bE aI AV.bool a Cz rfl rfl rfl rfl rfl rfl rfl rfl rfl rfl (by first|rfl|kernel_rfl) (.refl _) (fun v b a=>?_)
  |refine UpX.o aI AV.bool a (by first|rfl|kernel_rfl) Cz (.refl _) (fun l a=>?_)
  |exact ⟨_,a,aC (bZ 9 rfl) (aA [])⟩
  |refine aX a (aA []) fun m v a=>?_
  |refine AndA ?_
  |refine aF ?_
  |exact aB a⟩
instance zk2 {n d e}:CI E0 (z0g n d e) false 55 [.agg [.mapv (List.map (encM aI AV.bool) (d.freachable)),.mapv (List.map (encM aI AV.bool) (d.finner))],Bh e] (fun r=>.sl 1 (List.map (fun q=>AV.mapv (List.map (encM aI AV.bool) q)) (r))):=⟨fun {r} c=>by
 unfold z0g at c;refine cw Tryz.func55 ?_;repeat' first
  |refine AW.areO aI AV.bool c 15 rfl (fun c=>?_)
  |refine AW.froO aI AV.bool c 15 rfl (fun c=>?_)
  |refine cF c (fun v c=>?_) fun c=>?_
  |refine bV (encM aI AV.bool) c 18 rfl (fun x s c=>?_)
  |refine aE c fun c=>?_
  |refine aD [17,19,11,4,2] ?_;conv=>whnf
  |refine aK c (fun c=>?_) fun c=>?_
  |refine aP ?_
  |refine aQ ?_
  |refine MakX.om c (fun m c=>?_)
  |refine bW rfl rfl rfl rfl rfl rfl rfl rfl ?_
  |exact ⟨_,c,aC (bZ 18 rfl) (aA [])⟩
  |exact ⟨_,c,aA []⟩
  |refine aN c fun x c=>?_
  |refine NatX.o c (fun m c=>?_)
  |refine EltX.o (fun q=>AV.mapv (List.map (encM aI AV.bool) q)) c (fun x c=>?_)
  |refine B3.o c z20 (fun a h=>z68 h) (fun _=>aZ rfl) (fun a c=>?_)
  |refine aW c fun a c=>?_
  |refine OpX.lnv rfl rfl rfl rfl rfl rfl ?_
  |refine SetX.o (fun q=>AV.mapv (List.map (encM aI AV.bool) q)) c (fun x=>rfl) (fun x=>(by first|exact bB _|(repeat' first|exact SubL.nil|refine SubL.cons ?_ ?_|exact Sub.refl _|exact Sub.nil _|refine Sub.agg ?_))) (fun l c=>?_)
  |refine bE aI AV.bool c Cz rfl rfl rfl rfl rfl rfl rfl rfl rfl rfl (by first|rfl|kernel_rfl) (.refl _) (fun v b c=>?_)
  |refine aX c (aA []) fun m v c=>?_
  |refine bX (encM aI AV.bool) c rfl rfl rfl rfl rfl (fun c=>?_) (fun c=>?_)
  |refine bY rfl rfl rfl rfl rfl ?_
  |refine OpX.ixc c rfl rfl rfl rfl rfl rfl rfl rfl (fun c=>?_)
  |refine OpX.ast aI AV.bool c rfl rfl rfl rfl rfl rfl rfl rfl rfl rfl rfl (fun m c=>?_)
  |refine OpX.aob c rfl rfl rfl rfl rfl rfl rfl (fun j c=>?_)
  |refine OpX.aup AV.bool c (aZ rfl) rfl rfl rfl rfl rfl rfl rfl rfl rfl (by first|rfl|kernel_rfl) rfl rfl (fun l c=>?_)
  |refine AndA ?_
  |refine aF ?_
  |exact aB c⟩
def z56 (r:(List AV)):AV:=.sl 8 (r.map idA)
theorem zcl {n:Nat}{b:B2->Option (B2)}{d:(List AV)}{r:(List AV)}(e:∀ {d:B2} {r:B2},b d=some r->Con E0 false 186 [Ay d] ((Ay r)))(c:z1x n b d=some r):Con E0 false 187 [.sl 8 (d.map idA)] (z56 r):=by
 unfold z1x at c;refine Con.walk _ bF rfl (Av bF rfl rfl) rfl (aZ rfl) ?_;repeat' first
  |refine aJ ?_;conv=>whnf
  |refine aK c (fun c=>?_) fun c=>?_
  |refine aP ?_
  |refine aQ ?_
  |refine bN c D0 (fun x c=>?_)
  |refine Ab.o c (fun r=>.agg [aI (r.fOp),.sl 8 (r.fArgs.map idA),aI (r.fVar),aI (r.fField),aI (r.fKind),aI (r.fValue.fKind),aI (r.fValue.fNum),.str (r.fValue.fText)]) (fun a h=>e h) (fun a c=>?_)
  |refine aS c fun l c=>?_
  |exact ⟨_,c,aA [(7016,16)]⟩
  |refine aX c ?_ fun m v c=>?_
  |exact aC (aG 3 7016 146 8 rfl rfl) (aA [])
  |refine AndA ?_
  |refine aF ?_
  |exact aB c
theorem zaf {n c r}(b:Rk n c=some r):Con E0 false 186 [Ay c] ((Ay r)):=by
 induction n generalizing c r
 case zero=>cases b
 case succ n d =>
 unfold Rk at b;refine cw Tryz.func186 ?_;repeat' first
  |refine aJ ?_;conv=>whnf
  |refine aK b (fun b=>?_) fun b=>?_
  |refine aP ?_
  |refine aQ ?_
  |refine Ab.o b z56 (fun a h=>zcl d h) (fun a b=>?_)
  |refine AndA ?_
  |refine aF ?_
  |exact aB b
instance zsp {n a}:CI E0 (Rk n a) false 186 [Ay a] Ay:=⟨zaf⟩
instance zk6 {n c}:CI E0 (z0i n c) false 187 [.sl 8 (c.map idA)] (fun r=>.sl 8 (r.map idA)):=⟨fun {r} b=>by
 unfold z0i at b;refine cw bF ?_;repeat' first
  |refine aJ ?_;conv=>whnf
  |refine aK b (fun b=>?_) fun b=>?_
  |refine aP ?_
  |refine aQ ?_
  |refine bN b D0 (fun x b=>?_)
  |refine aW b fun a b=>?_
  |refine aS b fun l b=>?_
  |exact ⟨_,b,aA [(7016,16)]⟩
  |refine aX b ?_ fun m v b=>?_
  |exact aC (aG 3 7016 146 8 rfl rfl) (aA [])
  |refine AndA ?_
  |refine aF ?_
  |exact aB b⟩
set_option maxHeartbeats 400000 in
theorem zs1 (l:List (Cel 1))(S:Nat->Prop)(v:Value)(w:World)(h:Sl w S 1 encC v l)(d:l.length<=1000000000) :
  Calls bL 188 #[v] w (Hn 3 1 encC l w):=by
 have eok:EOk bL 43 3 1 8 (encC (n:=1)):=eokC (sz:=1) (D7 43 _ rfl) rfl (D7 3 _ rfl) (by omega) rfl;obtain ⟨A,c,rfl,f,_⟩:=h.form;have a:=fun (W:World)=>Lib.run_eql_slice_nil W 43 3 A l.length c 0 0 Tryz.underlying43
 have H:=hide h;cases A with
 |none =>
  have g:l=[]:=h.none_nil;subst g;clear h H d f;simp only [length_nil,Option.isNone_none] at a ⊢
  go_enter bG,bP
  go_wp2
  go_ret
  exact ⟨none,0,rfl,Own.nil_,by go_grown⟩
 |some ad =>
  clear h
  go_enter bG,bP
  go_wp2_with (at_builtin;refine H8 rfl _ _ rfl eok rfl Own.made_ rfl (H.out.alloc _) (by simp;omega) (by omega) (by simp) ?_;intro A' i w1 b e _)
  go_ret
  exact ⟨A',i,rfl,b,(Own.made_ (sz:=1) (enc:=encC (n:=1))).grown ((Below.refl _ _).alloc (bA _) _) (bA _) (by simp) e⟩
theorem znu {n a r}(b:C4 n a=some r):ConT E0 188 [.sl 1 (List.map aI a)] 3 1 (List.map aI r) (.row 0):=Je rfl (Av bG rfl rfl) zs1 b
theorem zrn {n a r}(b:C4 n a=some r):Con E0 false 188 [.sl 1 (List.map aI a)] (.sl 1 (List.map aI r)):=(znu b).close rfl
end
noncomputable section
abbrev zcn {n d a b}:=li (Zs n d a b) (fun c=>⟨[(2,.ptr 2 0),(7,.row 7037),(23,.sl 1 (a.map aI)),(24,aI (((a.map aI).length:Int))),(25,aI c.1)],[(2,.box 26 (B1 d)),(7037,.row 149 17 (c.2.map Ac))]⟩) fun _ _=>Zs.eq_2 ..
abbrev z4g {n b a c}:=li (Y8 n b a c) (fun d=>⟨[(0,.sl 2 (a.map Bw)),(1,.fn 191 [.ref [aI b]]),(7,aI (((a.map Bw).length:Int))),(8,aI d)],[]⟩) fun _ _=>Y8.eq_2 ..
abbrev zex {n c a}:=jf (Rw n c a) (fun b=>⟨[(2,.ptr 2 0),(6,aI a),(18,.bool (b))],[(2,.box 149 (Bs c))]⟩) fun _=>Rw.eq_1 ..
abbrev zhn {n a b d f e}:=li (Wi n a b d f e) (fun c=>⟨[(0,.sl 17 (a.map Ac)),(6,aI b.1),(7,.bool (b.2.1)),(8,aI d.1),(9,aI c.1),(10,.bool (c.2.1)),(16,.ptr 16 0),(21,.sl 17 (a.map Ac)),(22,aI (((a.map Ac).length:Int))),(23,aI c.2.2)],[(16,.itc (encM aI AV.bool d) (List.map (encM aI AV.bool) (f)))]⟩) fun _ _=>Wi.eq_2 ..
abbrev zho {n a c}:=li (Mr n a c) (fun b=>⟨[(0,.sl 17 (a.map Ac)),(6,aI b.1),(7,.bool (b.2.1)),(16,.ptr 16 0)],[(16,.it (List.map (encM aI AV.bool) (b.2.2)))]⟩) fun _ _=>Mr.eq_2 ..
abbrev zfx {n d a e c}:=li (Wb n d a e c) (fun b=>⟨[(1,.ptr 1 0),(6,.ptr 6 0),(7,.sl 1 (List.map (fun q=>AV.mapv (List.map (encM aI AV.bool) q)) (e))),(8,.row 26),(9,.row 30),(33,aI (((d.fStates.map Ao).length:Int))),(34,aI b.1)],[(1,.box 26 (B1 d)),(6,.box 119 [.mapv (List.map (encM aI AV.bool) (a.freachable)),.mapv (List.map (encM aI AV.bool) (a.finner))]),(26,.row 3 1 (b.2.1.map aI)),(30,.row 4 1 (b.2.2.map AV.bool))]⟩) fun _ _=>Wb.eq_2 ..
abbrev zey {n d a b}:=li (z16 n d a b) (fun c=>⟨[(1,aI d),(6,.sl 1 (a.1.map aI)),(7,.sl 1 (a.2.1.map AV.bool)),(9,aI c.1),(20,.ptr 20 0)],[(20,.it (List.map (encM aI AV.bool) (c.2)))]⟩) fun _ _=>z16.eq_2 ..
abbrev zci {n c a d}:=li (R3 n c a d) (fun b=>⟨[(1,.fn 263 [.ptr 100000 0]),(16,.sl 8 (a.fArgs.map idA)),(17,aI (((a.fArgs.map idA).length:Int))),(18,aI b.1)],[(100000,.box 318 [.bool (b.2.1),.bool (b.2.2.1),.bool (b.2.2.2.1),.bool (b.2.2.2.2.1),.bool (b.2.2.2.2.2.1),.bool (b.2.2.2.2.2.2.1),.bool (b.2.2.2.2.2.2.2.1),.bool (b.2.2.2.2.2.2.2.2.1),.bool (b.2.2.2.2.2.2.2.2.2.1),.bool (b.2.2.2.2.2.2.2.2.2.2.1),.bool (b.2.2.2.2.2.2.2.2.2.2.2.1),.bool (b.2.2.2.2.2.2.2.2.2.2.2.2.1),.bool (b.2.2.2.2.2.2.2.2.2.2.2.2.2.1),.bool (b.2.2.2.2.2.2.2.2.2.2.2.2.2.2.1),.bool (b.2.2.2.2.2.2.2.2.2.2.2.2.2.2.2.1),.bool (b.2.2.2.2.2.2.2.2.2.2.2.2.2.2.2.2)])]⟩) fun _ _=>R3.eq_2 ..
abbrev zda {n a b}:=li (Bv n a b) (fun c=>⟨[(4,.row 7019),(10,.agg [.bool (a.2.1),.bool (a.2.2.1),.bool (a.2.2.2.1),.bool (a.2.2.2.2.1),.bool (a.2.2.2.2.2.1),.bool (a.2.2.2.2.2.2.1),.bool (a.2.2.2.2.2.2.2.1),.bool (a.2.2.2.2.2.2.2.2.1),.bool (a.2.2.2.2.2.2.2.2.2.1),.bool (a.2.2.2.2.2.2.2.2.2.2.1),.bool (a.2.2.2.2.2.2.2.2.2.2.2.1),.bool (a.2.2.2.2.2.2.2.2.2.2.2.2.1),.bool (a.2.2.2.2.2.2.2.2.2.2.2.2.2.1),.bool (a.2.2.2.2.2.2.2.2.2.2.2.2.2.2.1),.bool (a.2.2.2.2.2.2.2.2.2.2.2.2.2.2.2.1),.bool (a.2.2.2.2.2.2.2.2.2.2.2.2.2.2.2.2)]),(11,aI c.1)],[(7019,.row 3 1 (c.2.map aI))]⟩) fun _ _=>Bv.eq_2 ..
attribute [instance] zcn z4g zex zhn zho zfx zey zci zda
set_option maxHeartbeats 400000 in
theorem zs0 (l:List (Cel 2))(S:Nat->Prop)(v:Value)(w:World)(h:Sl w S 2 encC v l)(d:l.length<=1000000000) :
  Calls bL 189 #[v] w (Hn 230 2 encC l w):=by
 have eok:EOk bL 147 230 2 16 (encC (n:=2)):=eokC (sz:=2) (D7 147 _ rfl) rfl (D7 230 _ rfl) (by omega) rfl;obtain ⟨A,c,rfl,f,_⟩:=h.form;have a:=fun (W:World)=>Lib.run_eql_slice_nil W 147 230 A l.length c 0 0 Tryz.underlying147
 have H:=hide h;cases A with
 |none =>
  have g:l=[]:=h.none_nil;subst g;clear h H d f;simp only [length_nil,Option.isNone_none] at a ⊢
  go_enter bH,bQ
  go_wp2
  go_ret
  exact ⟨none,0,rfl,Own.nil_,by go_grown⟩
 |some ad =>
  clear h
  go_enter bH,bQ
  go_wp2_with (at_builtin;refine H8 rfl _ _ rfl eok rfl Own.made_ rfl (H.out.alloc _) (by simp;omega) (by omega) (by simp) ?_;intro A' i w1 b e _)
  go_ret
  exact ⟨A',i,rfl,b,(Own.made_ (sz:=2) (enc:=encC (n:=2))).grown ((Below.refl _ _).alloc (bA _) _) (bA _) (by simp) e⟩
theorem znt {n a r}(b:C4 n a=some r):ConT E0 189 [.sl 2 (List.map Bw a)] 230 2 (List.map Bw r) (.row 0):=Je rfl (Av bH rfl rfl) zs0 b
theorem zrm {n a r}(b:C4 n a=some r):Con E0 false 189 [.sl 2 (List.map Bw a)] (.sl 2 (List.map Bw r)):=(znt b).close rfl
instance zyn {n c}:CI E0 (z3t n c) false 119 [Ac c] Ac:=⟨fun {r} b=>by
 unfold z3t at b;refine cw Tryz.func119 ?_;repeat' first
  |refine aJ ?_;conv=>whnf
  |refine aK b (fun b=>?_) fun b=>?_
  |refine aP ?_
  |refine aQ ?_
  |refine aW b fun a b=>?_
  |refine Ab.o b (fun q=>AV.sl 1 (List.map aI q)) (fun a h=>zrn h) (fun a b=>?_)
  |refine Ab.o b (fun q=>AV.sl 2 (List.map Bw q)) (fun a h=>zrm h) (fun a b=>?_)
  |refine AndA ?_
  |refine aF ?_
  |exact aB b⟩
instance zul {n d c}:CI E0 (z2b n d c) false 56 [Bh d,aI c] (fun r=>.tup [.sl 17 (r.1.map Ac),aI r.2]):=⟨fun {r} b=>by
 unfold z2b at b;refine cw Tryz.func56 ?_;repeat' first
  |refine aJ ?_;conv=>whnf
  |refine aK b (fun b=>?_) fun b=>?_
  |refine aP ?_
  |refine aQ ?_
  |refine aW b fun a b=>?_
  |refine aN b fun x b=>?_
  |refine aS b fun l b=>?_
  |exact ⟨_,b,aA [(7037,37)]⟩
  |refine aX b ?_ fun m v b=>?_
  |exact aC (aG 7 7037 149 17 rfl rfl) (aA [])
  |refine AndA ?_
  |refine aF ?_
  |exact aB b⟩
instance zx2 {n b a}:CI E0 (z2o n b a) true 191 [Bw b,.ref [aI a]] (fun r=>.bool (r)):=by unfold z2o;exact aR [] Tryz.func191
instance zjv {n a b}:CI E0 (z0e n a b) true 190 [.sl 2 (a.map Bw),.fn 191 [.ref [aI b]]] aI:=by unfold z0e;exact aR [] Tryz.func190
instance zz7 {n d c}:CI E0 (z6c n d c) true 120 [Ac d,aI c] (fun r=>.tup [aI r.1,.bool (r.2)]):=⟨fun {r} b=>by
 unfold z6c at b;refine cw Tryz.func120 ?_;repeat' first
  |refine cF b (fun v b=>?_) fun b=>?_
  |refine aE b fun b=>?_
  |refine aD [2] ?_;conv=>whnf
  |refine aK b (fun b=>?_) fun b=>?_
  |refine aP ?_
  |refine aQ ?_
  |refine B3.I b (fun a b=>?_) rfl rfl fun _=>aV rfl
  |refine aN b fun x b=>?_
  |exact ⟨_,b,aA []⟩
  |refine aW b fun a b=>?_
  |refine AndA ?_
  |refine aF ?_
  |exact aB b⟩
instance y3b {n d c}:CI E0 (zby n d c) true 57 [.sl 17 (d.map Ac),.mapv (List.map (encM aI AV.bool) (c))] (fun r=>.tup [aI r.1,.bool (r.2)]):=⟨fun {r} b=>by
 unfold zby at b;refine cw Tryz.func57 ?_;repeat' first
  |refine bV (encM aI AV.bool) b 16 rfl (fun x s b=>?_)
  |refine aE b fun b=>?_
  |refine aD [10,12,4] ?_;conv=>whnf
  |refine aK b (fun b=>?_) fun b=>?_
  |refine aP ?_
  |refine aQ ?_
  |refine bW rfl rfl rfl rfl rfl rfl rfl rfl ?_
  |refine bX (encM aI AV.bool) b rfl rfl rfl rfl rfl (fun b=>?_) (fun b=>?_)
  |refine bY rfl rfl rfl rfl rfl ?_
  |exact ⟨_,b,aC (bZ 16 rfl) (aA [])⟩
  |exact ⟨_,b,aA []⟩
  |refine aN b fun x b=>?_
  |refine aW b fun a b=>?_
  |refine aX b (aA []) fun m v b=>?_
  |refine AndA ?_
  |refine aF ?_
  |exact aB b⟩
instance y2d {n d}:CI E0 (z9a n d) false 15 [Bh d] (fun r=>.tup [.sl 1 (r.1.map aI),.sl 1 (r.2.1.map AV.bool),aI r.2.2]):=⟨fun {r} c=>by
 unfold z9a at c;refine cw Tryz.func15 ?_;repeat' first
  |refine aE c fun c=>?_
  |refine aD [11] ?_;conv=>whnf
  |refine aK c (fun c=>?_) fun c=>?_
  |refine aP ?_
  |refine aQ ?_
  |refine aW c fun a c=>?_
  |refine MakX.o aI c (by first|exact bB _|(repeat' first|exact SubL.nil|refine SubL.cons ?_ ?_|exact Sub.refl _|exact Sub.nil _|refine Sub.agg ?_)) (fun l c=>?_)
  |refine MakX.o AV.bool c (by first|exact bB _|(repeat' first|exact SubL.nil|refine SubL.cons ?_ ?_|exact Sub.refl _|exact Sub.nil _|refine Sub.agg ?_)) (fun l c=>?_)
  |refine NatX.o c (fun m c=>?_)
  |refine SetX.o AV.bool c (fun x=>rfl) (fun x=>(by first|exact bB _|(repeat' first|exact SubL.nil|refine SubL.cons ?_ ?_|exact Sub.refl _|exact Sub.nil _|refine Sub.agg ?_))) (fun l c=>?_)
  |refine bE aI AV.bool c Cz rfl rfl rfl rfl rfl rfl rfl rfl rfl rfl (by first|rfl|kernel_rfl) (.refl _) (fun v b c=>?_)
  |refine IdxX.o (fun q=>AV.mapv (List.map (encM aI AV.bool) q)) c fun x c=>?_
  |refine SetX.o aI c (fun x=>rfl) (fun x=>(by first|exact bB _|(repeat' first|exact SubL.nil|refine SubL.cons ?_ ?_|exact Sub.refl _|exact Sub.nil _|refine Sub.agg ?_))) (fun l c=>?_)
  |exact ⟨_,c,aA []⟩
  |refine aX c (aA []) fun m v c=>?_
  |refine AndA ?_
  |refine aF ?_
  |exact aB c⟩
instance zz8 {n d c}:CI E0 (z2h n d c) true 49 [Bh d,aI c] (fun r=>.tup [aI r.1,.bool (r.2)]):=⟨fun {r} b=>by
 unfold z2h at b;refine cw Tryz.func49 ?_;repeat' first
  |refine bV (encM aI AV.bool) b 20 rfl (fun x s b=>?_)
  |refine aE b fun b=>?_
  |refine aD [5] ?_;conv=>whnf
  |refine aK b (fun b=>?_) fun b=>?_
  |refine aP ?_
  |refine aQ ?_
  |refine aW b fun a b=>?_
  |refine bW rfl rfl rfl rfl rfl rfl rfl rfl ?_
  |refine bX (encM aI AV.bool) b rfl rfl rfl rfl rfl (fun b=>?_) (fun b=>?_)
  |refine bY rfl rfl rfl rfl rfl ?_
  |refine aN b fun x b=>?_
  |exact ⟨_,b,aC (bZ 20 rfl) (aA [])⟩
  |refine aX b (aA []) fun m v b=>?_
  |refine AndA ?_
  |refine aF ?_
  |exact aB b⟩
def zel (b:B2)(a:B16):List (Nat×Ent):=[(100000,.box 318 [.bool (a.1),.bool (a.2.1),.bool (a.2.2.1),.bool (a.2.2.2.1),.bool (a.2.2.2.2.1),.bool (a.2.2.2.2.2.1),.bool (a.2.2.2.2.2.2.1),.bool (a.2.2.2.2.2.2.2.1),.bool (a.2.2.2.2.2.2.2.2.1),.bool (a.2.2.2.2.2.2.2.2.2.1),.bool (a.2.2.2.2.2.2.2.2.2.2.1),.bool (a.2.2.2.2.2.2.2.2.2.2.2.1),.bool (a.2.2.2.2.2.2.2.2.2.2.2.2.1),.bool (a.2.2.2.2.2.2.2.2.2.2.2.2.2.1),.bool (a.2.2.2.2.2.2.2.2.2.2.2.2.2.2.1),.bool (a.2.2.2.2.2.2.2.2.2.2.2.2.2.2.2)])]
def Vr (r:Int×B16):List (Nat×Ent):=[(100000,.box 318 [.bool (r.2.1),.bool (r.2.2.1),.bool (r.2.2.2.1),.bool (r.2.2.2.2.1),.bool (r.2.2.2.2.2.1),.bool (r.2.2.2.2.2.2.1),.bool (r.2.2.2.2.2.2.2.1),.bool (r.2.2.2.2.2.2.2.2.1),.bool (r.2.2.2.2.2.2.2.2.2.1),.bool (r.2.2.2.2.2.2.2.2.2.2.1),.bool (r.2.2.2.2.2.2.2.2.2.2.2.1),.bool (r.2.2.2.2.2.2.2.2.2.2.2.2.1),.bool (r.2.2.2.2.2.2.2.2.2.2.2.2.2.1),.bool (r.2.2.2.2.2.2.2.2.2.2.2.2.2.2.1),.bool (r.2.2.2.2.2.2.2.2.2.2.2.2.2.2.2.1),.bool (r.2.2.2.2.2.2.2.2.2.2.2.2.2.2.2.2)])]
def Zx (r:Int×(Bool×Bool×Bool×Bool×Bool×Bool×Bool×Bool×Bool×Bool×Bool×Bool×Bool×Bool×Bool×Bool)):AV:=aI (r.1)
def zej (r:Int×B16):AS:=⟨[(3,aI r.1),(1,.ptr 100000 0)],Vr r⟩
theorem z2p {n c d r}(b:Vw n c d=some r):ConG E0.P none (CalF E0.P 263 0) [Ay c,.ptr 100000 0] [] (zel c d) (Zx r) (Vr r):=by
 unfold Vw at b;refine bC (E:=(E0p 2)) (caps:=[]) _ bI rfl rfl rfl rfl rfl ?_;repeat' first
  |refine aJ ?_;conv=>whnf
  |refine aK b (fun b=>?_) fun b=>?_
  |refine aP ?_
  |refine aQ ?_
  |refine aW b fun a b=>?_
  |refine NatX.oS b rfl (fun b=>?_) (fun b=>?_)
  |(cases b;done)
  |exact GX.A (res:=Zx) (meF:=Vr) b zej
  |refine AndA ?_
  |refine aF ?_
def zfe (b:B2)(a:B16):List (Nat×Ent):=[(100000,.box 318 [.bool (a.1),.bool (a.2.1),.bool (a.2.2.1),.bool (a.2.2.2.1),.bool (a.2.2.2.2.1),.bool (a.2.2.2.2.2.1),.bool (a.2.2.2.2.2.2.1),.bool (a.2.2.2.2.2.2.2.1),.bool (a.2.2.2.2.2.2.2.2.1),.bool (a.2.2.2.2.2.2.2.2.2.1),.bool (a.2.2.2.2.2.2.2.2.2.2.1),.bool (a.2.2.2.2.2.2.2.2.2.2.2.1),.bool (a.2.2.2.2.2.2.2.2.2.2.2.2.1),.bool (a.2.2.2.2.2.2.2.2.2.2.2.2.2.1),.bool (a.2.2.2.2.2.2.2.2.2.2.2.2.2.2.1),.bool (a.2.2.2.2.2.2.2.2.2.2.2.2.2.2.2)])]
def Md (r:Int×B16):List (Nat×Ent):=[(100000,.box 318 [.bool (r.2.1),.bool (r.2.2.1),.bool (r.2.2.2.1),.bool (r.2.2.2.2.1),.bool (r.2.2.2.2.2.1),.bool (r.2.2.2.2.2.2.1),.bool (r.2.2.2.2.2.2.2.1),.bool (r.2.2.2.2.2.2.2.2.1),.bool (r.2.2.2.2.2.2.2.2.2.1),.bool (r.2.2.2.2.2.2.2.2.2.2.1),.bool (r.2.2.2.2.2.2.2.2.2.2.2.1),.bool (r.2.2.2.2.2.2.2.2.2.2.2.2.1),.bool (r.2.2.2.2.2.2.2.2.2.2.2.2.2.1),.bool (r.2.2.2.2.2.2.2.2.2.2.2.2.2.2.1),.bool (r.2.2.2.2.2.2.2.2.2.2.2.2.2.2.2.1),.bool (r.2.2.2.2.2.2.2.2.2.2.2.2.2.2.2.2)])]
def Rm (r:Int×(Bool×Bool×Bool×Bool×Bool×Bool×Bool×Bool×Bool×Bool×Bool×Bool×Bool×Bool×Bool×Bool)):AV:=aI (r.1)
def zfc (r:Int×B16):AS:=⟨[(4,aI r.1),(1,.fn 263 [.ptr 100000 0])],Md r⟩
theorem z3k {n c d r}(b:J8 n c d=some r):ConG E0.P none (CalF E0.P 237 0) [Ay c,.fn 263 [.ptr 100000 0]] [] (zfe c d) (Rm r) (Md r):=by
 induction n generalizing c d r
 case zero=>cases b
 case succ n e =>
 unfold J8 at b;refine bC (E:=(E0p 2)) (caps:=[]) _ aT rfl rfl rfl rfl rfl ?_;repeat' first
  |refine aJ ?_;conv=>whnf
  |refine aK b (fun b=>?_) fun b=>?_
  |refine aP ?_
  |refine aQ ?_
  |refine B3.oM (Bc 11 b) [(100000,100000)] [(100000,100000)] _ _ Vr Zx [] (fun a h=>aH (z2p h)) (Av bI rfl rfl) rfl rfl rfl ⟨⟨rfl,rfl⟩,trivial⟩ (fun a=>⟨rfl,rfl,rfl,rfl,rfl,rfl,rfl,rfl⟩) (fun a b=>?_)
  |refine bT (Bc 11 b) [(100000,100000)] [(100000,100000)] _ _ Vr Zx [] (fun a h=>aH (z2p h)) (Av bI rfl rfl) rfl rfl rfl ⟨⟨rfl,rfl⟩,trivial⟩ (fun a=>⟨rfl,rfl,rfl,rfl,rfl,rfl,rfl,rfl⟩) (fun a b=>?_)
  |refine GX.o (res:=Rm) (meF:=Md) b ?_;exact GX.mk (zfc _) (aA []) rfl _ rfl (by repeat' first|exact Sub.nil _|exact Sub.refl _|refine Sub.agg ?_|refine Sub.tup ?_|refine Sub.fn ?_|exact SubL.nil|refine SubL.cons ?_ ?_|refine Sub.sl _ ?_|exact SubE.nil|refine SubE.cons ?_ ?_) [100000] ⟨aV ⟨1,0,_,_,_,_,_,aM rfl,rfl,rfl,rfl,rfl,rfl⟩,trivial⟩ rfl
  |refine bN b D0 (fun x b=>?_)
  |refine B3.oM (Bc 24 b) [(100000,100000)] [(100000,100000)] _ _ Md Rm [] (fun a h=>aH (e h)) (Av aT rfl rfl) rfl rfl rfl ⟨⟨rfl,rfl⟩,trivial⟩ (fun a=>⟨rfl,rfl,rfl,rfl,rfl,rfl,rfl,rfl⟩) (fun a b=>?_)
  |refine bT (Bc 24 b) [(100000,100000)] [(100000,100000)] _ _ Md Rm [] (fun a h=>aH (e h)) (Av aT rfl rfl) rfl rfl rfl ⟨⟨rfl,rfl⟩,trivial⟩ (fun a=>⟨rfl,rfl,rfl,rfl,rfl,rfl,rfl,rfl⟩) (fun a b=>?_)
  |exact ⟨_,b,aA []⟩
  |refine aX b (aA []) fun m v b=>?_
  |refine AndA ?_
  |refine aF ?_
end
noncomputable section
abbrev z3f {n a a0f2 a0f1 a0f0}:=jf (K5 n a a0f2 a0f1 a0f0) (fun b=>⟨[(1,aI a),(2,.ptr 2 0),(14,.bool (b))],[(2,.box 359 [.sl 1 (List.map (fun q=>AV.sl 5 (List.map A7 q)) (a0f0.fVars)),aI a0f1,aI a0f2.fSource,aI a0f2.fSeq,aI a0f2.fType,aI a0f2.fTime,.sl 3 (a0f2.fValues.map Af),.mapv [(aI 5,.fn 325 [.ref [.fn 324 []]]),(aI 6,.fn 326 [.ref [.fn 324 []]]),(aI 7,.fn 327 []),(aI 8,.fn 328 []),(aI 10,.fn 329 []),(aI 11,.fn 330 []),(aI 12,.fn 331 [])]])]⟩) fun _=>K5.eq_1 ..
abbrev z4s {n d a b}:=li (Ov n d a b) (fun c=>⟨[(3,.ptr 3 0),(4,.ptr 4 0),(6,.row 7034),(14,.sl 5 (a.map A7)),(15,aI (((a.map A7).length:Int))),(16,aI c.1)],[(3,.box 146 (D2 d)),(4,.box 144 [aI 0,aI 0,.str (ByteArray.empty)]),(7034,.row 144 3 (c.2.map Af))]⟩) fun _ _=>Ov.eq_2 ..
abbrev z61 {n a}:=jt (Kp n a) (fun b=>⟨[(4,.ptr 4 0),(8,.ptr 8 0),(9,aI b)],[(4,.box 144 [aI 0,aI 0,.str (ByteArray.empty)]),(8,.box 144 (Ci a.1))]⟩) fun _=>Kp.eq_1 ..
abbrev z62 {n a}:=jt (Kq n a) (fun b=>⟨[(3,.ptr 3 0),(4,.ptr 4 0),(7,.ptr 7 0)],[(3,.box 146 (D2 a)),(4,.box 144 [aI 0,aI 0,.str (ByteArray.empty)]),(7,.box 37 [aI b.1,aI b.2.1,aI b.2.2.1,aI b.2.2.2.1,.sl 3 (b.2.2.2.2.map Af)])]⟩) fun _=>Kq.eq_1 ..
abbrev ze6 {n a f b c d}:=jt (J4 n a f b c d) (fun e=>⟨[(0,aI f),(1,.sl 1 (a.map aI)),(6,aI d),(7,.bool (true)),(8,.sl 1 (a.map aI)),(9,aI (((a.map aI).length:Int))),(10,aI b),(14,aI f),(22,.bool (e))],[]⟩) fun _=>J4.eq_1 ..
abbrev ze7 {n a f b c d}:=jt (H7 n a f b c d) (fun e=>⟨[(0,aI f),(1,.sl 1 (a.map aI)),(6,aI d),(7,.bool (true)),(8,.sl 1 (a.map aI)),(9,aI (((a.map aI).length:Int))),(10,aI b),(14,aI f),(15,.bool (e))],[]⟩) fun _=>H7.eq_1 ..
abbrev ze5 {n a d b}:=li (G9 n a d b) (fun c=>⟨[(0,aI d),(1,.sl 1 (a.map aI)),(8,.sl 1 (a.map aI)),(9,aI (((a.map aI).length:Int))),(10,aI c)],[]⟩) fun _ _=>G9.eq_2 ..
abbrev zad {n}:=jf (Lt n) (fun b=>⟨[(4,.ptr 4 0)],[(4,.box 144 [aI b.1,aI b.2.1,.str (b.2.2)])]⟩) fun _=>Lt.eq_1 ..
abbrev zac {n}:=jf (Ls n) (fun b=>⟨[(4,.ptr 4 0)],[(4,.box 144 [aI b.1,aI b.2.1,.str (b.2.2)])]⟩) fun _=>Ls.eq_1 ..
abbrev z63 {n b a a0f2 a0f1 a0f0 d}:=li (P8 n b a a0f2 a0f1 a0f0 d) (fun c=>⟨[(2,.ptr 2 0),(3,.ptr 3 0),(4,.ptr 4 0),(6,.row 7042),(7,.row 7047),(23,.sl 8 (a.fArgs.map idA)),(24,aI (((a.fArgs.map idA).length:Int))),(25,aI c.1)],[(2,.box 359 [.sl 1 (List.map (fun q=>AV.sl 5 (List.map A7 q)) (a0f0.fVars)),aI a0f1,aI a0f2.fSource,aI a0f2.fSeq,aI a0f2.fType,aI a0f2.fTime,.sl 3 (a0f2.fValues.map Af),.mapv [(aI 5,.fn 325 [.ref [.fn 324 []]]),(aI 6,.fn 326 [.ref [.fn 324 []]]),(aI 7,.fn 327 []),(aI 8,.fn 328 []),(aI 10,.fn 329 []),(aI 11,.fn 330 []),(aI 12,.fn 331 [])]]),(3,.box 146 (D2 a)),(4,.box 144 [aI 0,aI 0,.str (ByteArray.empty)]),(7042,.row 144 3 (c.2.1.map Af)),(7047,.row 3 1 (c.2.2.map aI))]⟩) fun _ _=>P8.eq_2 ..
attribute [instance] z3f z4s z61 z62 ze6 ze7 ze5 zad zac z63
instance zx4 {n c}:CI E0 (Mm n c) false 211 [Ay c] (fun r=>.sl 1 (r.map aI)):=⟨fun {r} b=>by
 unfold Mm at b;refine cw Tryz.func211 ?_;repeat' first
  |refine aE b fun b=>?_
  |refine aD [7] ?_;conv=>whnf
  |refine aK b (fun b=>?_) fun b=>?_
  |refine aP ?_
  |refine aQ ?_
  |refine B3.oM (Bc 9 b) [(100000,3)] [(100000,3)] _ _ Md Rm [] (fun a h=>aH (z3k h)) (Av aT rfl rfl) rfl rfl rfl ⟨⟨rfl,rfl⟩,trivial⟩ (fun a=>⟨rfl,rfl,rfl,rfl,rfl,rfl,rfl,rfl⟩) (fun a b=>?_)
  |refine bT (Bc 9 b) [(100000,3)] [(100000,3)] _ _ Md Rm [] (fun a h=>aH (z3k h)) (Av aT rfl rfl) rfl rfl rfl ⟨⟨rfl,rfl⟩,trivial⟩ (fun a=>⟨rfl,rfl,rfl,rfl,rfl,rfl,rfl,rfl⟩) (fun a b=>?_)
  |refine NatX.oS b rfl (fun b=>?_) (fun b=>?_)
  |(cases b;done)
  |refine aS b fun l b=>?_
  |exact ⟨_,b,aA [(7019,19)]⟩
  |exact ⟨_,b,aA []⟩
  |refine aX b ?_ fun m v b=>?_
  |exact aC (aG 4 7019 3 1 rfl rfl) (aA [])
  |refine AndA ?_
  |refine aF ?_
  |exact aB b⟩
theorem zde:Con E0 false 313 [] (.mapv [(aI 5,.fn 325 [.ref [.fn 324 []]]),(aI 6,.fn 326 [.ref [.fn 324 []]]),(aI 7,.fn 327 []),(aI 8,.fn 328 []),(aI 10,.fn 329 []),(aI 11,.fn 330 []),(aI 12,.fn 331 [])]):=by
 refine Con.walk _ cA rfl (Av cA rfl rfl) rfl (aZ rfl) ?_;repeat' first
  |refine AW.frb0 1 rfl rfl ?_
  |refine AW.into ?_
  |refine aD [2] ?_;conv=>whnf
  |refine UpX.mk _ _ (by first|rfl|kernel_rfl) (by first|rfl|kernel_rfl) (SubM.refl _) ?_
  |exact RetX.mk rfl
instance ziu {n a0f0 a0f1 a0f2 b}:CI E0 (Ps n a0f0 a0f1 a0f2 b) false 339 [.agg [.sl 1 (List.map (fun q=>AV.sl 5 (List.map A7 q)) (a0f0.fVars)),aI a0f1,aI a0f2.fSource,aI a0f2.fSeq,aI a0f2.fType,aI a0f2.fTime,.sl 3 (a0f2.fValues.map Af),.mapv [(aI 5,.fn 325 [.ref [.fn 324 []]]),(aI 6,.fn 326 [.ref [.fn 324 []]]),(aI 7,.fn 327 []),(aI 8,.fn 328 []),(aI 10,.fn 329 []),(aI 11,.fn 330 []),(aI 12,.fn 331 [])]],aI b] (fun r=>.sl 5 (r.map A7)):=⟨fun {r} a=>by
 unfold Ps at a;refine cw Tryz.func339 ?_;repeat' first
  |refine cF a (fun v a=>?_) fun a=>?_
  |refine aE a fun a=>?_
  |refine aD [1] ?_;conv=>whnf
  |refine aK a (fun a=>?_) fun a=>?_
  |refine IdxX.o (fun q=>AV.sl 5 (List.map A7 q)) a fun x a=>?_
  |exact ⟨_,a,aA []⟩
  |exact aB a⟩
instance y3f {n b a}:CI E0 (N4 n b a) true 341 [A7 b,aI a] (fun r=>.tup [Af r.1,aI r.2]):=by unfold N4;exact aR [] Tryz.func341
instance zk3 {n a0f0 a0f1 a0f2 c}:CI E0 (Yz n a0f0 a0f1 a0f2 c) true 340 [.agg [.sl 1 (List.map (fun q=>AV.sl 5 (List.map A7 q)) (a0f0.fVars)),aI a0f1,aI a0f2.fSource,aI a0f2.fSeq,aI a0f2.fType,aI a0f2.fTime,.sl 3 (a0f2.fValues.map Af),.mapv [(aI 5,.fn 325 [.ref [.fn 324 []]]),(aI 6,.fn 326 [.ref [.fn 324 []]]),(aI 7,.fn 327 []),(aI 8,.fn 328 []),(aI 10,.fn 329 []),(aI 11,.fn 330 []),(aI 12,.fn 331 [])]],Ay c] (fun r=>.tup [Af r.1,aI r.2]):=⟨fun {r} b=>by
 unfold Yz at b;refine cw Tryz.func340 ?_;repeat' first
  |refine aJ ?_;conv=>whnf
  |refine aK b (fun b=>?_) fun b=>?_
  |refine aW b fun a b=>?_
  |refine B3.I b (fun a b=>?_) rfl rfl fun _=>aV rfl
  |refine aN b fun x b=>?_
  |refine aS b fun l b=>?_
  |exact ⟨_,b,aA [(7034,34)]⟩
  |refine aX b ?_ fun m v b=>?_
  |exact aC (aG 6 7034 144 3 rfl rfl) (aA [])
  |exact aB b⟩
instance zlm {n a0f0 a0f1 a0f2 a}:CI E0 (Qi n a0f0 a0f1 a0f2 a) true 332 [.agg [.sl 1 (List.map (fun q=>AV.sl 5 (List.map A7 q)) (a0f0.fVars)),aI a0f1,aI a0f2.fSource,aI a0f2.fSeq,aI a0f2.fType,aI a0f2.fTime,.sl 3 (a0f2.fValues.map Af),.mapv [(aI 5,.fn 325 [.ref [.fn 324 []]]),(aI 6,.fn 326 [.ref [.fn 324 []]]),(aI 7,.fn 327 []),(aI 8,.fn 328 []),(aI 10,.fn 329 []),(aI 11,.fn 330 []),(aI 12,.fn 331 [])]],Ay a] (fun r=>.tup [Af r.1,aI r.2]):=by unfold Qi;exact aR [10,17] Tryz.func332
instance zyk {n b a}:CI E0 (z1v n b a) true 333 [aI b,.sl 1 (a.map aI)] aI:=by unfold z1v;exact aR [6,7,8,11,12,15] Tryz.func333
instance y36 {n a}:CI E0 (z57 n a) true 315 [.bool (a)] Af:=by unfold z57;exact aR [] Tryz.func315
instance y5h {n a}:CI E0 (Dy n a) true 286 [.bool (a)] Af:=by unfold Dy;exact aR [] Tryz.func286
instance zrl {n a}:CI E0 (Vp n a) true 324 [aI a] Af:=by unfold Vp;exact aR [] Tryz.func324
instance zrk {n b a}:CI E0 (Vo n b a) true 325 [aI b,aI a,.ref [.fn 324 []]] Af:=by unfold Vo;exact aR [] Tryz.func325
instance zrj {n b a}:CI E0 (Vn n b a) true 326 [aI b,aI a,.ref [.fn 324 []]] Af:=by unfold Vn;exact aR [] Tryz.func326
instance zri {n b a}:CI E0 (Vm n b a) true 327 [aI b,aI a] Af:=by unfold Vm;exact aR [] Tryz.func327
instance zrh {n b a}:CI E0 (Vl n b a) true 328 [aI b,aI a] Af:=by unfold Vl;exact aR [] Tryz.func328
instance zrg {n b a}:CI E0 (Vk n b a) true 329 [aI b,aI a] Af:=by unfold Vk;exact aR [1] Tryz.func329
instance zrf {n b a}:CI E0 (Vj n b a) true 330 [aI b,aI a] Af:=by unfold Vj;exact aR [1] Tryz.func330
instance zre {n b a}:CI E0 (M8 n b a) true 331 [aI b,aI a] Af:=by unfold M8;exact aR [] Tryz.func331
def zal (r:A9×Int):AV:=.tup [.agg [aI (r.1.fKind),aI (r.1.fNum),.str (r.1.fText)],aI (r.2)]
end
noncomputable section
abbrev zi0 {n}:=jf (Mt n) (fun b=>⟨[(8,.bool (b))],[]⟩) fun _=>Mt.eq_1 ..
abbrev zch {n}:=jf (R2 n) (fun b=>⟨[(2,.bool (b))],[]⟩) fun _=>R2.eq_1 ..
abbrev z5x {n}:=jf (P7 n) (fun b=>⟨[(3,.bool (b))],[]⟩) fun _=>P7.eq_1 ..
abbrev z4c {n b a c}:=li (Y7 n b a c) (fun d=>⟨[(0,.sl 11 (a.map B7)),(1,.fn 234 [.ref (Bs b)]),(7,aI (((a.map B7).length:Int))),(8,aI d)],[]⟩) fun _ _=>Y7.eq_2 ..
abbrev z8n {n d a b}:=li (Yx n d a b) (fun c=>⟨[(2,.ptr 2 0),(3,.ptr 3 0),(33,.sl 2 (d.fLimits.map Bw)),(34,aI (((d.fLimits.map Bw).length:Int))),(35,aI c)],[(2,.box 111 [.sl 2 (a.ftypes.map Bj),aI a.fa.fVars,aI a.fa.fScopes,.sl 1 (a.fa.fStates.map Ao),.sl 17 (a.fa.fEdges.map Ac)]),(3,.box 149 (Bs d))]⟩) fun _ _=>Yx.eq_2 ..
abbrev z8o {n d a b}:=li (Yy n d a b) (fun c=>⟨[(2,.ptr 2 0),(3,.ptr 3 0),(22,.sl 8 (d.fChecks.map idA)),(23,aI (((d.fChecks.map idA).length:Int))),(24,aI c)],[(2,.box 111 [.sl 2 (a.ftypes.map Bj),aI a.fa.fVars,aI a.fa.fScopes,.sl 1 (a.fa.fStates.map Ao),.sl 17 (a.fa.fEdges.map Ac)]),(3,.box 149 (Bs d))]⟩) fun _ _=>Yy.eq_2 ..
abbrev z8p {n c a}:=jf (Q5 n c a) (fun b=>⟨[(2,.ptr 2 0),(3,.ptr 3 0),(20,.bool (b))],[(2,.box 111 [.sl 2 (a.ftypes.map Bj),aI a.fa.fVars,aI a.fa.fScopes,.sl 1 (a.fa.fStates.map Ao),.sl 17 (a.fa.fEdges.map Ac)]),(3,.box 149 (Bs c))]⟩) fun _=>Q5.eq_1 ..
abbrev z7l {n a b}:=li (Pr n a b) (fun c=>⟨[(1,.fn 106 []),(2,.ptr 2 0),(5,.row 7027),(10,.sl 17 (a.fa.fEdges.map Ac)),(11,aI (((a.fa.fEdges.map Ac).length:Int))),(12,aI c.1)],[(2,.box 111 [.sl 2 (a.ftypes.map Bj),aI a.fa.fVars,aI a.fa.fScopes,.sl 1 (a.fa.fStates.map Ao),.sl 17 (a.fa.fEdges.map Ac)]),(7027,.row 149 17 (c.2.map Ac))]⟩) fun _ _=>Pr.eq_2 ..
abbrev z8l {n b d}:=li (Q4 n b d) (fun c=>⟨[(3,.sl 17 (b.1.map Ac)),(4,.row 10),(5,.bool (c.1)),(13,.sl 17 (b.1.map Ac)),(14,aI (((b.1.map Ac).length:Int))),(15,aI c.2.1)],[(10,.mp (List.map (encM aI AV.bool) (c.2.2)))]⟩) fun _ _=>Q4.eq_2 ..
abbrev z8m {n c}:=li (Yv n c) (fun b=>⟨[(3,.sl 17 (b.1.map Ac)),(4,.row 10),(5,.bool (b.2.1))],[(10,.mp (List.map (encM aI AV.bool) (b.2.2)))]⟩) fun _ _=>Yv.eq_2 ..
abbrev z4b {n b a c}:=li (Y6 n b a c) (fun d=>⟨[(0,.sl 11 (a.map B7)),(1,.fn 176 [.ref [aI b]]),(7,aI (((a.map B7).length:Int))),(8,aI d)],[]⟩) fun _ _=>Y6.eq_2 ..
attribute [instance] zi0 zch z5x z4c z8n z8o z8p z7l z8l z8m z4b
theorem z4t {n a0f0 a0f1 a0f2 c r}(b:Gy n a0f0 a0f1 a0f2 c=some r):Con E0 true 314 [.agg [.sl 1 (List.map (fun q=>AV.sl 5 (List.map A7 q)) (a0f0.fVars)),aI a0f1,aI a0f2.fSource,aI a0f2.fSeq,aI a0f2.fType,aI a0f2.fTime,.sl 3 (a0f2.fValues.map Af),.mapv [(aI 5,.fn 325 [.ref [.fn 324 []]]),(aI 6,.fn 326 [.ref [.fn 324 []]]),(aI 7,.fn 327 []),(aI 8,.fn 328 []),(aI 10,.fn 329 []),(aI 11,.fn 330 []),(aI 12,.fn 331 [])]],Ay c] (.tup [Af r.1,aI r.2]):=by
 induction n generalizing a0f0 a0f1 a0f2 c r
 case zero=>cases b
 case succ n d =>
 unfold Gy at b;refine cw Tryz.func314 ?_;repeat' first
  |refine aJ ?_;conv=>whnf
  |refine aK b (fun b=>?_) fun b=>?_
  |refine aW b fun a b=>?_
  |refine B3.I b (fun a b=>?_) rfl rfl fun _=>aV rfl
  |refine NatX.o b (fun m b=>?_)
  |refine EltX.o Af b (fun x b=>?_)
  |refine OpX.lkc rfl rfl rfl rfl rfl rfl rfl rfl rfl rfl (by first|rfl|kernel_rfl) ?_
  |refine LkC.cons b (fun b=>?_) (fun b=>?_)
  |(cases b;done)
  |refine LtX.o b (fun b=>?_)
  |refine bN b D0 (fun x b=>?_)
  |refine Ab.o b zal (fun a h=>d h) (fun a b=>?_)
  |refine aS b fun l b=>?_
  |exact ⟨_,b,aA [(7042,42),(7047,47)]⟩
  |refine aX b ?_ fun m v b=>?_
  |exact aC (aG 6 7042 144 3 rfl rfl) (aC (aG 7 7047 3 1 rfl rfl) (aA []))
  |refine AndA ?_
  |refine aF ?_
  |exact aB b
instance zln {n a0f0 a0f1 a0f2 a}:CI E0 (Gy n a0f0 a0f1 a0f2 a) true 314 [.agg [.sl 1 (List.map (fun q=>AV.sl 5 (List.map A7 q)) (a0f0.fVars)),aI a0f1,aI a0f2.fSource,aI a0f2.fSeq,aI a0f2.fType,aI a0f2.fTime,.sl 3 (a0f2.fValues.map Af),.mapv [(aI 5,.fn 325 [.ref [.fn 324 []]]),(aI 6,.fn 326 [.ref [.fn 324 []]]),(aI 7,.fn 327 []),(aI 8,.fn 328 []),(aI 10,.fn 329 []),(aI 11,.fn 330 []),(aI 12,.fn 331 [])]],Ay a] (fun r=>.tup [Af r.1,aI r.2]):=⟨z4t⟩
instance y5j {n f e d c}:CI E0 (z9b n f e d c) true 285 [Ay f,Dp e,aI d,A7 c] (fun r=>.tup [Af r.1,aI r.2]):=⟨fun {r} b=>by
 unfold z9b at b;refine cw Tryz.func285 ?_;repeat' first
  |refine aJ ?_;conv=>whnf
  |refine aK b (fun b=>?_) fun b=>?_
  |refine aW b fun a b=>?_
  |refine Ab.mk _ _ zde ?_
  |refine AndA ?_
  |exact aB b⟩
def zsd (r:Bool):AV:=.bool (r)
instance zk4 {n d c b a}:CI E0 (Hb n d c b a) true 243 [Ay d,Dp c,aI b,A7 a] (fun r=>.bool (r)):=by unfold Hb;exact aR [2] Tryz.func243
instance zug {n c}:CI E0 (z17 n c) true 233 [Ay c] (fun r=>.bool (r)):=⟨fun {r} b=>by
 unfold z17 at b;refine cw Tryz.func233 ?_;repeat' first
  |refine cF b (fun v b=>?_) fun b=>?_
  |refine aE b fun b=>?_
  |refine aD [1] ?_;conv=>whnf
  |refine aK b (fun b=>?_) fun b=>?_
  |refine aP ?_
  |refine aQ ?_
  |refine aW b fun a b=>?_
  |refine Ab.S b fun a b=>?_
  |exact ⟨_,b,aA []⟩
  |refine AndA ?_
  |refine aF ?_
  |exact aB b⟩
instance zll {n b a}:CI E0 (z0n n b a) true 234 [B7 b,.ref (Bs a)] (fun r=>.bool (r)):=by unfold z0n;exact aR [1] Tryz.func234
instance zjr {n a b}:CI E0 (z0d n a b) true 235 [.sl 11 (a.map B7),.fn 234 [.ref (Bs b)]] aI:=by unfold z0d;exact aR [] cB
instance zgk {n a b}:CI E0 (z04 n a b) true 175 [.sl 11 (a.map B7),.fn 234 [.ref (Bs b)]] (fun r=>.bool (r)):=by unfold z04;exact aR [] cC
instance zoo {n c d}:CI E0 (V4 n c d) true 174 [.agg [.sl 2 (c.ftypes.map Bj),aI c.fa.fVars,aI c.fa.fScopes,.sl 1 (c.fa.fStates.map Ao),.sl 17 (c.fa.fEdges.map Ac)],Ac d] (fun r=>.bool (r)):=⟨fun {r} b=>by
 unfold V4 at b;refine cw Tryz.func174 ?_;repeat' first
  |refine cF b (fun v b=>?_) fun b=>?_
  |refine aE b fun b=>?_
  |refine aD [1] ?_;conv=>whnf
  |refine aK b (fun b=>?_) fun b=>?_
  |refine aP ?_
  |refine aQ ?_
  |refine aN b fun x b=>?_
  |refine B3.I b (fun a b=>?_) rfl rfl fun _=>aV rfl
  |refine aW b fun a b=>?_
  |exact ⟨_,b,aA []⟩
  |refine aX b (aA []) fun m v b=>?_
  |refine bN b D0 (fun x b=>?_)
  |refine AndA ?_
  |refine aF ?_
  |exact aB b⟩
instance zlk {n a}:CI E0 (z0m n a) true 106 [Ac a] (fun r=>.bool (r)):=by unfold z0m;exact aR [] Tryz.func106
instance znm {n c}:CI E0 (z10 n c) false 105 [.agg [.sl 2 (c.ftypes.map Bj),aI c.fa.fVars,aI c.fa.fScopes,.sl 1 (c.fa.fStates.map Ao),.sl 17 (c.fa.fEdges.map Ac)],.fn 106 []] (fun r=>.sl 17 (r.map Ac)):=⟨fun {r} b=>by
 unfold z10 at b;refine cw aY ?_;repeat' first
  |refine aE b fun b=>?_
  |refine aD [5] ?_;conv=>whnf
  |refine aK b (fun b=>?_) fun b=>?_
  |refine aP ?_
  |refine aQ ?_
  |refine aN b fun x b=>?_
  |refine aW b fun a b=>?_
  |refine aS b fun l b=>?_
  |exact ⟨_,b,aA [(7027,27)]⟩
  |exact ⟨_,b,aA []⟩
  |refine aX b ?_ fun m v b=>?_
  |exact aC (aG 5 7027 149 17 rfl rfl) (aA [])
  |refine AndA ?_
  |refine aF ?_
  |exact aB b⟩
instance zon {n d}:CI E0 (Zq n d) false 50 [.agg [.sl 2 (d.ftypes.map Bj),aI d.fa.fVars,aI d.fa.fScopes,.sl 1 (d.fa.fStates.map Ao),.sl 17 (d.fa.fEdges.map Ac)]] (fun r=>.mapv (List.map (encM aI AV.bool) (r))):=⟨fun {r} c=>by
 unfold Zq at c;refine cw Tryz.func50 ?_;repeat' first
  |refine aE c fun c=>?_
  |refine aD [9] ?_;conv=>whnf
  |refine aK c (fun c=>?_) fun c=>?_
  |refine aP ?_
  |refine aQ ?_
  |refine aW c fun a c=>?_
  |refine UpX.o aI AV.bool c (by first|rfl|kernel_rfl) Cz (.refl _) (fun l c=>?_)
  |refine OpX.mde aI AV.bool c Cz rfl rfl rfl rfl rfl rfl rfl rfl rfl (by first|rfl|kernel_rfl) rfl (fun l c=>?_)
  |exact ⟨_,c,aA []⟩
  |refine aN c fun x c=>?_
  |refine LkX.o aI AV.bool c (by first|rfl|kernel_rfl) Cz (.refl _) (fun v b c=>?_)
  |refine aX c (aA []) fun m v c=>?_
  |refine AndA ?_
  |refine aF ?_
  |exact aB c⟩
instance zi9 {n b a}:CI E0 (z07 n b a) true 176 [B7 b,.ref [aI a]] (fun r=>.bool (r)):=by unfold z07;exact aR [] Tryz.func176
instance zjq {n a b}:CI E0 (z0c n a b) true 235 [.sl 11 (a.map B7),.fn 176 [.ref [aI b]]] aI:=by unfold z0c;exact aR [] cB
end
noncomputable section
abbrev z2m {n a c}:=li (Oa n a c) (fun b=>⟨[(1,.fn 107 [.ptr 100000 0,.ptr 100001 0]),(2,.ptr 2 0),(5,.row 7027),(10,.sl 17 (a.fa.fEdges.map Ac)),(11,aI (((a.fa.fEdges.map Ac).length:Int))),(12,aI b.1)],[(100000,.box 111 [.sl 2 (b.2.1.map Bj),aI b.2.2.1,aI b.2.2.2.1,.sl 1 (b.2.2.2.2.1.map Ao),.sl 17 (b.2.2.2.2.2.1.map Ac)]),(100001,.box 3 [aI b.2.2.2.2.2.2.1]),(2,.box 111 [.sl 2 (a.ftypes.map Bj),aI a.fa.fVars,aI a.fa.fScopes,.sl 1 (a.fa.fStates.map Ao),.sl 17 (a.fa.fEdges.map Ac)]),(7027,.row 149 17 (b.2.2.2.2.2.2.2.map Ac))]⟩) fun _ _=>Oa.eq_2 ..
abbrev z5w {n b a e d}:=li (P6 n b a e d) (fun c=>⟨[(0,aI e),(1,.ptr 100000 0),(2,.ptr 100001 0),(3,.ptr 100002 0),(4,.ptr 100003 0),(10,.sl 17 (a.map Ac)),(11,aI (((a.map Ac).length:Int))),(12,aI c.1)],[(100000,.box 24 [.sl 17 (c.2.1.map Ac)]),(100001,.box 113 [.row 200001]),(100002,.box 3 [aI c.2.2.1]),(100003,.box 115 [.fn 109 [.ptr 100000 0,.ptr 100001 0,.ptr 100002 0,.ptr 100003 0]]),(200001,.mp (List.map (encM aI AV.bool) (c.2.2.2)))]⟩) fun _ _=>P6.eq_2 ..
abbrev z5u {n g a b f c d}:=li (Yg n g a b f c d) (fun e=>⟨[(2,.ptr 2 0),(5,.row 7045),(8,.ptr 8 0),(11,.sl 1 (g.map aI)),(12,aI (((g.map aI).length:Int))),(13,aI b.1),(27,.sl 2 (c.fFields.map El)),(28,aI (((c.fFields.map El).length:Int))),(29,aI e.1)],[(2,.box 111 [.sl 2 (a.ftypes.map Bj),aI a.fa.fVars,aI a.fa.fScopes,.sl 1 (a.fa.fStates.map Ao),.sl 17 (a.fa.fEdges.map Ac)]),(8,.box 37 [aI 0,aI b.1,aI f,aI b.1,.row 7039]),(7045,.row 37 5 (b.2.map A7)),(7039,.row 144 3 (e.2.map Af))]⟩) fun _ _=>Yg.eq_2 ..
abbrev z5v {n d a b}:=li (Yh n d a b) (fun c=>⟨[(2,.ptr 2 0),(5,.row 7045),(11,.sl 1 (d.map aI)),(12,aI (((d.map aI).length:Int))),(13,aI c.1)],[(2,.box 111 [.sl 2 (a.ftypes.map Bj),aI a.fa.fVars,aI a.fa.fScopes,.sl 1 (a.fa.fStates.map Ao),.sl 17 (a.fa.fEdges.map Ac)]),(7045,.row 37 5 (c.2.map A7))]⟩) fun _ _=>Yh.eq_2 ..
abbrev zdy {n a e d b}:=li (Vv n a e d b) (fun c=>⟨[(6,.ptr 6 0),(11,.ptr 11 0),(12,.mapv (List.map (encM aI AV.bool) (d))),(39,aI (((a.fStates.map Ao).length:Int))),(40,aI c)],[(6,.box 39 [aI 0,aI 0,.nils,aI 0]),(11,.box 111 [.sl 2 (e.map Bj),aI a.fVars,aI a.fScopes,.sl 1 (a.fStates.map Ao),.sl 17 (a.fEdges.map Ac)])]⟩) fun _ _=>Vv.eq_2 ..
abbrev zem {n a b}:=li (Me n a b) (fun c=>⟨[(0,.sl 5 (a.map A7)),(3,.row 9),(10,.sl 5 (a.map A7)),(11,aI (((a.map A7).length:Int))),(12,aI c.1)],[(9,.mp (List.map (encM Mc AV.bool) (c.2)))]⟩) fun _ _=>Me.eq_2 ..
attribute [instance] z2m z5w z5u z5v zdy zem
instance zgj {n a b}:CI E0 (z03 n a b) true 175 [.sl 11 (a.map B7),.fn 176 [.ref [aI b]]] (fun r=>.bool (r)):=by unfold z03;exact aR [] cC
instance zk1 {n c e d}:CI E0 (U9 n c e d) true 108 [.agg [.sl 2 (c.ftypes.map Bj),aI c.fa.fVars,aI c.fa.fScopes,.sl 1 (c.fa.fStates.map Ao),.sl 17 (c.fa.fEdges.map Ac)],aI e,aI d] (fun r=>.bool (r)):=⟨fun {r} b=>by
 unfold U9 at b;refine cw Tryz.func108 ?_;repeat' first
  |refine aJ ?_;conv=>whnf
  |refine aK b (fun b=>?_) fun b=>?_
  |refine aP ?_
  |refine aQ ?_
  |refine aN b fun x b=>?_
  |refine B3.I b (fun a b=>?_) rfl rfl fun _=>aV rfl
  |refine AndA ?_
  |refine aF ?_
  |exact aB b⟩
def zan (c:Ag)(a:Bg)(b:Int):List (Nat×Ent):=[(100000,.box 111 [.sl 2 (a.ftypes.map Bj),aI a.fa.fVars,aI a.fa.fScopes,.sl 1 (a.fa.fStates.map Ao),.sl 17 (a.fa.fEdges.map Ac)]),(100001,.box 3 [aI b])]
def Ub (r:Bool×Bg×Int):List (Nat×Ent):=[(100000,.box 111 [.sl 2 (r.2.1.ftypes.map Bj),aI r.2.1.fa.fVars,aI r.2.1.fa.fScopes,.sl 1 (r.2.1.fa.fStates.map Ao),.sl 17 (r.2.1.fa.fEdges.map Ac)]),(100001,.box 3 [aI r.2.2])]
def Z0 (r:Bool×Bg×Int):AV:=.bool (r.1)
def zak (r:Bool×Bg×Int):AS:=⟨[(4,.bool (r.1)),(1,.ptr 100000 0),(2,.ptr 100001 0)],Ub r⟩
theorem z1p {n c e d r}(b:z0l n c e d=some r):ConG E0.P none (CalF E0.P 107 0) [Ac c,.ptr 100000 0,.ptr 100001 0] [] (zan c e d) (Z0 r) (Ub r):=by
 unfold z0l at b;refine bC (E:=(E0p 3)) (caps:=[]) _ bJ rfl rfl rfl rfl rfl ?_;repeat' first
  |refine aJ ?_;conv=>whnf
  |refine aK b (fun b=>?_) fun b=>?_
  |refine aP ?_
  |refine aQ ?_
  |refine aW b fun a b=>?_
  |exact GX.A (res:=Z0) (meF:=Ub) b zak
  |refine AndA ?_
  |refine aF ?_
def z4z (c:Bg)(a:Bg)(b:Int):List (Nat×Ent):=[(100000,.box 111 [.sl 2 (a.ftypes.map Bj),aI a.fa.fVars,aI a.fa.fScopes,.sl 1 (a.fa.fStates.map Ao),.sl 17 (a.fa.fEdges.map Ac)]),(100001,.box 3 [aI b])]
def Tm (r:(List Ag)×Bg×Int):List (Nat×Ent):=[(100000,.box 111 [.sl 2 (r.2.1.ftypes.map Bj),aI r.2.1.fa.fVars,aI r.2.1.fa.fScopes,.sl 1 (r.2.1.fa.fStates.map Ao),.sl 17 (r.2.1.fa.fEdges.map Ac)]),(100001,.box 3 [aI r.2.2])]
def Y4 (r:(List Ag)×Bg×Int):AV:=.sl 17 (r.1.map Ac)
def z4x (r:(List Ag)×Bg×Int):AS:=⟨[(4,.sl 17 (r.1.map Ac)),(1,.fn 107 [.ptr 100000 0,.ptr 100001 0])],Tm r⟩
theorem z0r {n c e d r}(b:z06 n c e d=some r):ConG E0.P none (CalF E0.P 105 0) [.agg [.sl 2 (c.ftypes.map Bj),aI c.fa.fVars,aI c.fa.fScopes,.sl 1 (c.fa.fStates.map Ao),.sl 17 (c.fa.fEdges.map Ac)],.fn 107 [.ptr 100000 0,.ptr 100001 0]] [] (z4z c e d) (Y4 r) (Tm r):=by
 unfold z06 at b;refine bC (E:=(E0p 2)) (caps:=[]) _ aY rfl rfl rfl rfl rfl ?_;repeat' first
  |refine aE b fun b=>?_
  |refine AW.frzO b 7027 rfl (fun b=>?_)
  |refine aD [8] ?_;conv=>whnf
  |refine aK b (fun b=>?_) fun b=>?_
  |refine aP ?_
  |refine aQ ?_
  |refine GX.o (res:=Y4) (meF:=Tm) b ?_;exact GX.mk (z4x _) (aA []) rfl _ rfl (by repeat' first|exact Sub.nil _|exact Sub.refl _|refine Sub.agg ?_|refine Sub.tup ?_|refine Sub.fn ?_|exact SubL.nil|refine SubL.cons ?_ ?_|refine Sub.sl _ ?_|exact SubE.nil|refine SubE.cons ?_ ?_) [100000,100001] ⟨aV ⟨1,0,_,_,_,_,_,aM rfl,rfl,rfl,rfl,rfl,rfl⟩,⟨aV ⟨1,1,_,_,_,_,_,aM rfl,rfl,rfl,rfl,rfl,rfl⟩,trivial⟩⟩ rfl
  |refine aN b fun x b=>?_
  |refine aW b fun a b=>?_
  |refine B3.oM (Bc 22 b) [(100000,100000),(100001,100001)] [(100000,100000),(100001,100001)] _ _ Ub Z0 [] (fun a h=>aH (z1p h)) (Av bJ rfl rfl) rfl rfl rfl ⟨⟨rfl,rfl⟩,⟨⟨rfl,rfl⟩,trivial⟩⟩ (fun a=>⟨rfl,rfl,rfl,rfl,rfl,rfl,rfl,rfl⟩) (fun a b=>?_)
  |refine bT (Bc 22 b) [(100000,100000),(100001,100001)] [(100000,100000),(100001,100001)] _ _ Ub Z0 [] (fun a h=>aH (z1p h)) (Av bJ rfl rfl) rfl rfl rfl ⟨⟨rfl,rfl⟩,⟨⟨rfl,rfl⟩,trivial⟩⟩ (fun a=>⟨rfl,rfl,rfl,rfl,rfl,rfl,rfl,rfl⟩) (fun a b=>?_)
  |refine aS b fun l b=>?_
  |exact ⟨_,b,aA [(7027,27)]⟩
  |exact ⟨_,b,aA []⟩
  |refine aX b ?_ fun m v b=>?_
  |exact aC (aG 5 7027 149 17 rfl rfl) (aA [])
  |refine AndA ?_
  |refine aF ?_
def zam (d:Int)(c:(List Ag))(b:(List (Int×Bool)))(a:Int):List (Nat×Ent):=[(100000,.box 24 [.sl 17 (c.map Ac)]),(100001,.box 113 [.row 200001]),(200001,.mp (List.map (encM aI AV.bool) (b))),(100002,.box 3 [aI a]),(100003,.box 115 [.fn 109 [.ptr 100000 0,.ptr 100001 0,.ptr 100002 0,.ptr 100003 0]])]
def Gw (r:(List Int)×(List Ag)×(List (Int×Bool))×Int):List (Nat×Ent):=[(100000,.box 24 [.sl 17 (r.2.1.map Ac)]),(100001,.box 113 [.row 250001]),(250001,.mp (List.map (encM aI AV.bool) (r.2.2.1))),(100002,.box 3 [aI r.2.2.2]),(100003,.box 115 [.fn 109 [.ptr 100000 0,.ptr 100001 0,.ptr 100002 0,.ptr 100003 0]])]
def Ih (r:(List Int)×(List Ag)×(List (Int×Bool))×Int):AV:=nlA 1 (r.1.map aI)
def z0j (r:(List Int)×(List Ag)×(List (Int×Bool))×Int):AS:=⟨[(6,nlA 1 (r.1.map aI)),(1,.ptr 100000 0),(2,.ptr 100001 0),(3,.ptr 100002 0),(4,.ptr 100003 0)],Gw r⟩
theorem z1o {n d i g f r}(c:Z1 n d i g f=some r):ConG E0.P none (CalF E0.P 109 0) [aI d,.ptr 100000 0,.ptr 100001 0,.ptr 100002 0,.ptr 100003 0] [] (zam d i g f) (Ih r) (Gw r):=by
 induction n generalizing d i g f r
 case zero=>cases c
 case succ n j =>
 unfold Z1 at c;refine bC (E:=(E0q 5)) (caps:=[]) _ aU rfl rfl rfl rfl rfl ?_;repeat' first
  |refine aE c fun c=>?_
  |refine aD [10] ?_;conv=>whnf
  |refine aK c (fun c=>?_) fun c=>?_
  |refine aP ?_
  |refine aQ ?_
  |exact GX.A (res:=Ih) (meF:=Gw) c z0j (h1:=aA [(250001,200001)])
  |refine aN c fun x c=>?_
  |exact ⟨_,c,aA []⟩
  |refine LkX.o aI AV.bool c (by first|rfl|kernel_rfl) Cz (.refl _) (fun v b c=>?_)
  |refine OpX.bldR aI c rfl rfl rfl rfl rfl rfl rfl rfl rfl rfl rfl rfl rfl rfl rfl rfl (by first|exact SubR.refl _|(repeat' first|exact SubR.nil|refine SubR.cons ?_ ?_|exact SubL.nil|refine SubL.cons ?_ ?_|exact Sub.refl _|exact Sub.nil _)) rfl (fun l c=>?_)
  |refine OpX.bld aI c rfl rfl rfl rfl rfl rfl rfl rfl rfl rfl rfl rfl rfl rfl rfl rfl (fun l c=>?_)
  |refine GX.o (res:=Ih) (meF:=Gw) c ?_;exact GX.mk (z0j _) (aC (LeX.frzAll 32 3 1 _ rfl) (aA [(250001,200001)])) rfl _ rfl (by repeat' first|exact Sub.nil _|exact Sub.refl _|refine Sub.agg ?_|refine Sub.tup ?_|refine Sub.fn ?_|exact SubL.nil|refine SubL.cons ?_ ?_|refine Sub.sl _ ?_|exact SubE.nil|refine SubE.cons ?_ ?_) [] trivial rfl
  |refine ybt c (fun a t e c=>?_);subst e
  |refine UpX.o aI AV.bool c (by first|rfl|kernel_rfl) Cz (.refl _) (fun l c=>?_)
  |refine B3.oM (Bc 39 c) [(100000,100000),(100001,100001),(100002,100002),(100003,100003),(200001,200001)] [(100000,100000),(100001,100001),(250001,40000002),(100002,100002),(100003,100003)] _ _ Gw Ih [200001] (fun a h=>aH (j h)) (Av aU rfl rfl) rfl rfl rfl ⟨⟨rfl,rfl⟩,⟨⟨rfl,rfl⟩,⟨⟨rfl,rfl⟩,⟨⟨rfl,rfl⟩,⟨⟨rfl,rfl⟩,trivial⟩⟩⟩⟩⟩ (fun a=>⟨rfl,rfl,rfl,rfl,rfl,rfl,rfl,zm9 _ _ _⟩) (fun a c=>?_);rcases a with ⟨_|⟨y,ys⟩,a⟩<;>(try simp only [bO,bK,List.isEmpty_nil,List.isEmpty_cons,aO,aL,Au,Aw,Xp] at c)
  |refine bT (Bc 39 c) [(100000,100000),(100001,100001),(100002,100002),(100003,100003),(200001,200001)] [(100000,100000),(100001,100001),(250001,40000002),(100002,100002),(100003,100003)] _ _ Gw Ih [200001] (fun a h=>aH (j h)) (Av aU rfl rfl) rfl rfl rfl ⟨⟨rfl,rfl⟩,⟨⟨rfl,rfl⟩,⟨⟨rfl,rfl⟩,⟨⟨rfl,rfl⟩,⟨⟨rfl,rfl⟩,trivial⟩⟩⟩⟩⟩ (fun a=>⟨rfl,rfl,rfl,rfl,rfl,rfl,rfl,zm9 _ _ _⟩) (fun a c=>?_);rcases a with ⟨_|⟨y,ys⟩,a⟩<;>(try simp only [bO,bK,List.isEmpty_nil,List.isEmpty_cons,aO,aL,Au,Aw,Xp] at c)
  |refine cD (sz:=1) (l:=[]) (by first|exact aZ rfl|exact aV rfl) rfl rfl rfl rfl rfl rfl rfl rfl ?_
  |refine cD (sz:=1) (l:=_::_) (by first|exact aZ rfl|exact aV rfl) rfl rfl rfl rfl rfl rfl rfl rfl ?_
  |refine aS c fun l c=>?_
  |refine GX.o (res:=Ih) (meF:=Gw) c ?_;exact GX.mk (z0j _) (aC (LeX.frzAll 46 3 1 _ rfl) (aA [(250001,40000002)])) rfl _ rfl (by repeat' first|exact Sub.nil _|exact Sub.refl _|refine Sub.agg ?_|refine Sub.tup ?_|refine Sub.fn ?_|exact SubL.nil|refine SubL.cons ?_ ?_|refine Sub.sl _ ?_|exact SubE.nil|refine SubE.cons ?_ ?_) [] trivial rfl
  |exact ⟨_,c,aA [(200001,40000002)]⟩
  |refine aX c (aA []) fun m v c=>?_
  |refine AndA ?_
  |refine aF ?_
instance zom {n c d}:CI E0 (Zp n c d) false 51 [.agg [.sl 2 (c.ftypes.map Bj),aI c.fa.fVars,aI c.fa.fScopes,.sl 1 (c.fa.fStates.map Ao),.sl 17 (c.fa.fEdges.map Ac)],aI d] (fun r=>nlA 1 (r.map aI)):=⟨fun {r} b=>by
 unfold Zp at b;refine cw Tryz.func51 ?_;repeat' first
  |refine aJ ?_;conv=>whnf
  |refine aK b (fun b=>?_) fun b=>?_
  |refine aP ?_
  |refine aQ ?_
  |refine B3.oM (Bc 10 b) [(100000,2),(100001,3)] [(100000,2),(100001,3)] _ _ Tm Y4 [] (fun a h=>aH (z0r h)) (Av aY rfl rfl) rfl rfl rfl ⟨⟨rfl,rfl⟩,⟨⟨rfl,rfl⟩,trivial⟩⟩ (fun a=>⟨rfl,rfl,rfl,rfl,rfl,rfl,rfl,rfl⟩) (fun a b=>?_)
  |refine bT (Bc 10 b) [(100000,2),(100001,3)] [(100000,2),(100001,3)] _ _ Tm Y4 [] (fun a h=>aH (z0r h)) (Av aY rfl rfl) rfl rfl rfl ⟨⟨rfl,rfl⟩,⟨⟨rfl,rfl⟩,trivial⟩⟩ (fun a=>⟨rfl,rfl,rfl,rfl,rfl,rfl,rfl,rfl⟩) (fun a b=>?_)
  |refine B3.oM (Bc 14 b) [(100000,5),(100001,6),(100002,3),(100003,7),(200001,11)] [(100000,5),(100001,6),(250001,15000002),(100002,3),(100003,7)] _ _ Gw Ih [11] (fun a h=>aH (z1o h)) (Av aU rfl rfl) rfl rfl rfl ⟨⟨rfl,rfl⟩,⟨⟨rfl,rfl⟩,⟨⟨rfl,rfl⟩,⟨⟨rfl,rfl⟩,⟨⟨rfl,rfl⟩,trivial⟩⟩⟩⟩⟩ (fun a=>⟨rfl,rfl,rfl,rfl,rfl,rfl,rfl,zm9 _ _ _⟩) (fun a b=>?_);rcases a with ⟨_|⟨y,ys⟩,a⟩<;>(try simp only [bO,bK,List.isEmpty_nil,List.isEmpty_cons,aO,aL,Au,Aw,Xp] at b)
  |refine bT (Bc 14 b) [(100000,5),(100001,6),(100002,3),(100003,7),(200001,11)] [(100000,5),(100001,6),(250001,15000002),(100002,3),(100003,7)] _ _ Gw Ih [11] (fun a h=>aH (z1o h)) (Av aU rfl rfl) rfl rfl rfl ⟨⟨rfl,rfl⟩,⟨⟨rfl,rfl⟩,⟨⟨rfl,rfl⟩,⟨⟨rfl,rfl⟩,⟨⟨rfl,rfl⟩,trivial⟩⟩⟩⟩⟩ (fun a=>⟨rfl,rfl,rfl,rfl,rfl,rfl,rfl,zm9 _ _ _⟩) (fun a b=>?_);rcases a with ⟨_|⟨y,ys⟩,a⟩<;>(try simp only [bO,bK,List.isEmpty_nil,List.isEmpty_cons,aO,aL,Au,Aw,Xp] at b)
  |refine AndA ?_
  |refine aF ?_
  |exact aB b⟩
instance zlj {n b c}:CI E0 (z0k n b c) false 52 [.agg [.sl 2 (b.ftypes.map Bj),aI b.fa.fVars,aI b.fa.fScopes,.sl 1 (b.fa.fStates.map Ao),.sl 17 (b.fa.fEdges.map Ac)],.sl 1 (c.map aI)] (fun r=>.sl 5 (r.map A7)):=⟨fun {r} a=>by
 unfold z0k at a;refine cw Tryz.func52 ?_;repeat' first
  |refine aE a fun a=>?_
  |refine AW.frzO a 7039 rfl (fun a=>?_)
  |refine aD [11] ?_;conv=>whnf
  |refine aK a (fun a=>?_) fun a=>?_
  |refine aP ?_
  |refine aQ ?_
  |refine aN a fun x a=>?_
  |refine aS a fun l a=>?_
  |exact ⟨_,a,aA [(7045,45)]⟩
  |exact ⟨_,a,aA [(7039,39)]⟩
  |refine aX a ?_ fun m v a=>?_
  |exact aC (LeX.adoptC 8 4 7039 144 3 37 _ rfl rfl rfl) (aA [])
  |exact aC (aG 5 7045 37 5 rfl rfl) (aA [])
  |refine AndA ?_
  |refine aF ?_
  |exact aB a⟩
instance zyi {n f e d}:CI E0 (z3r n f e d) false 14 [.sl 2 (f.map Bj),Bh e,aI d] (fun r=>.tup [.agg [aI r.1.fVerdict,aI r.1.fBound,.sl 5 (r.1.fPrefix.map A7),aI r.1.fPeriod],aI r.2]):=⟨fun {r} c=>by
 unfold z3r at c;refine cw Tryz.func14 ?_;repeat' first
  |refine aE c fun c=>?_
  |refine aD [15] ?_;conv=>whnf
  |refine aK c (fun c=>?_) fun c=>?_
  |refine aP ?_
  |refine aQ ?_
  |refine aW (o:=Zp _ _ _) c fun a c=>?_;rcases a with _|⟨y,ys⟩<;>(try simp only [bO,bK,List.isEmpty_nil,List.isEmpty_cons,aO,aL,Au,Aw,Xp] at c)
  |refine aW c fun a c=>?_
  |refine bE aI AV.bool c Cz rfl rfl rfl rfl rfl rfl rfl rfl rfl rfl (by first|rfl|kernel_rfl) (.refl _) (fun v b c=>?_)
  |exact ⟨_,c,aA []⟩
  |refine cD (sz:=1) (l:=[]) (by first|exact aZ rfl|exact aV rfl) rfl rfl rfl rfl rfl rfl rfl rfl ?_
  |refine cD (sz:=1) (l:=_::_) (by first|exact aZ rfl|exact aV rfl) rfl rfl rfl rfl rfl rfl rfl rfl ?_
  |refine aX c (aA []) fun m v c=>?_
  |refine AndA ?_
  |refine aF ?_
  |exact aB c⟩
instance zyc {n a}:CI E0 (Wg n a) true 192 [A7 a] (fun r=>.bool (r)):=by unfold Wg;exact aR [] Tryz.func192
instance y5k {n a}:CI E0 (Wz n a) true 242 [A7 a] Bm:=by unfold Wz;exact aR [] Tryz.func242
instance zym {n b a}:CI E0 (Wj n b a) true 193 [A7 b,A7 a] aI:=by unfold Wj;exact aR [] Tryz.func193
instance y5b {n a}:CI E0 (N5 n a) true 194 [A7 a] Mc:=by unfold N5;exact aR [] Tryz.func194
theorem y1z (a b:J6):eqK (Mc a) (Mc b)=some (decide (a=b)):=by cases a;cases b;simp [Mc,eqK,eqL,eq1,aI,Jf]
end
end Go.Proofs.YthbogefcfhmpgaaGreat
