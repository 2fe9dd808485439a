/- What some functions compute, over plain values. -/
import Derived.Test.YthbogefcfhmpgaaGreatK17
set_option linter.unusedVariables false
set_option linter.unusedSimpArgs false
set_option maxRecDepth 100000
set_option maxHeartbeats 8000000
namespace Go.Proofs.YthbogefcfhmpgaaGreat
open Go.RowKit List
open LeX renaming a->aA,trans->aC,adopt->aG,itc->bY
open RetX renaming oB->aB
open AW renaming stepU->aD,regO->aE,step->aJ,pckO->bU,jI->cE
open EqX renaming A->aF
open ConG renaming up->aH,walk->bC
open A4 renaming o->aK,t->aP,f->aQ
open Bool renaming not_false->aL,not_true->aO
open Nat renaming le_of_ble_eq_true->aM,le_refl->bA
open IdxX renaming A->aN,oD->bN
open CI renaming w->aR
open AppX renaming oA->aS
open Tryz renaming func237->aT,func109->aU,func105->aY,func187->bF,func188->bG,func189->bH,func263->bI,func107->bJ,prog->bL,ntmps188->bP,ntmps189->bQ,func116->bT,func313->bZ,func235->cA,func175->cB
open Or renaming inr->aV,inl->aZ
open Af renaming I->aW,oM->bS
open Av renaming I->aX
open SubL renaming refl->bB
open OpX renaming lkv->bE,rng->bV,nxt->bW,ent->bX,nlq->cC
open List renaming map_cons->bK,map_nil->bO
noncomputable section
abbrev z2i {n a3 a2 a1 a0 b c}:=jt (Dq n a3 a2 a1 a0 b c) (fun d=>⟨[(3,.sl 1 (List.map (fun q=>AV.mapv (List.map (encM aI AV.bool) q)) (a3))),(4,.ptr 4 0),(6,.ptr 6 0),(9,.row 13),(10,aI b.1),(12,.bool (d)),(15,aI a1.fScopes),(16,aI b.1)],[(4,.box 119 [.mapv (List.map (encM aI AV.bool) (a0.freachable)),.mapv (List.map (encM aI AV.bool) (a0.finner))]),(6,.box 149 (Bq a2)),(13,.mp (List.map (encM aI AV.bool) (b.2)))]⟩) fun _=>Dq.eq_1 ..
abbrev z2j {n a3 a2 a1 a0 b c d}:=jt (E6 n a3 a2 a1 a0 b c d) (fun e=>⟨[(3,.sl 1 (List.map (fun q=>AV.mapv (List.map (encM aI AV.bool) q)) (a3))),(4,.ptr 4 0),(6,.ptr 6 0),(9,.row 13),(10,aI b.1),(11,.bool (d)),(12,.bool (e)),(15,aI a1.fScopes),(16,aI b.1)],[(4,.box 119 [.mapv (List.map (encM aI AV.bool) (a0.freachable)),.mapv (List.map (encM aI AV.bool) (a0.finner))]),(6,.box 149 (Bq a2)),(13,.mp (List.map (encM aI AV.bool) (b.2)))]⟩) fun _=>E6.eq_1 ..
abbrev z2h {n a3 a2 a1 a0 b}:=li (Cl n a3 a2 a1 a0 b) (fun c=>⟨[(3,.sl 1 (List.map (fun q=>AV.mapv (List.map (encM aI AV.bool) q)) (a3))),(4,.ptr 4 0),(6,.ptr 6 0),(9,.row 13),(15,aI a1.fScopes),(16,aI c.1)],[(4,.box 119 [.mapv (List.map (encM aI AV.bool) (a0.freachable)),.mapv (List.map (encM aI AV.bool) (a0.finner))]),(6,.box 149 (Bq a2)),(13,.mp (List.map (encM aI AV.bool) (c.2)))]⟩) fun _ _=>Cl.eq_2 ..
abbrev z90 {n a1 b}:=li (N6 n a1 b) (fun c=>⟨[(1,.mapv (List.map (encM aI AV.bool) (a1))),(5,.row 7),(9,.ptr 9 0)],[(9,.it (List.map (encM aI AV.bool) (c.1))),(7,.mp (List.map (encM aI AV.bool) (c.2)))]⟩) fun _ _=>N6.eq_2 ..
abbrev z1i {n a1 a0 b d c}:=jf (D6 n a1 a0 b d c) (fun e=>⟨[(2,.ptr 2 0),(3,.ptr 3 0),(5,.row 15),(8,.bool (b.1)),(10,.ptr 10 0),(40,.sl 17 (a1.fEdges.map Ab)),(41,aI (((a1.fEdges.map Ab).length:Int))),(42,aI b.2.1),(64,.bool (e))],[(2,.box 119 [.mapv (List.map (encM aI AV.bool) (a0.freachable)),.mapv (List.map (encM aI AV.bool) (a0.finner))]),(3,.box 26 (Ar a1)),(10,.box 149 (Bq c)),(15,.row 112 1 (List.map (fun q=>AV.mapv (List.map (encM aI AV.bool) q)) (b.2.2)))]⟩) fun _=>D6.eq_1 ..
abbrev z1f {n a1 a0 c}:=li (Cq n a1 a0 c) (fun b=>⟨[(2,.ptr 2 0),(3,.ptr 3 0),(5,.row 15),(8,.bool (b.1)),(40,.sl 17 (a1.fEdges.map Ab)),(41,aI (((a1.fEdges.map Ab).length:Int))),(42,aI b.2.1)],[(2,.box 119 [.mapv (List.map (encM aI AV.bool) (a0.freachable)),.mapv (List.map (encM aI AV.bool) (a0.finner))]),(3,.box 26 (Ar a1)),(15,.row 112 1 (List.map (fun q=>AV.mapv (List.map (encM aI AV.bool) q)) (b.2.2)))]⟩) fun _ _=>Cq.eq_2 ..
abbrev z1g {n a1 a0 b}:=li (D5 n a1 a0 b) (fun c=>⟨[(2,.ptr 2 0),(3,.ptr 3 0),(5,.row 15),(8,.bool (c.1))],[(2,.box 119 [.mapv (List.map (encM aI AV.bool) (a0.freachable)),.mapv (List.map (encM aI AV.bool) (a0.finner))]),(3,.box 26 (Ar a1)),(15,.row 112 1 (List.map (fun q=>AV.mapv (List.map (encM aI AV.bool) q)) (c.2)))]⟩) fun _ _=>D5.eq_2 ..
abbrev z1e {n a1 a0 d b e f}:=li (Ox n a1 a0 d b e f) (fun c=>⟨[(2,.ptr 2 0),(3,.ptr 3 0),(5,.cont (d.1) 15),(6,aI b.1),(18,.ptr 18 0),(28,aI a1.fScopes),(29,aI c.1)],[(2,.box 119 [.mapv (List.map (encM aI AV.bool) (a0.freachable)),.mapv (List.map (encM aI AV.bool) (a0.finner))]),(3,.box 26 (Ar a1)),(15,.are 112 (c.2).1 (List.map (enO aI AV.bool) (c.2).2)),(18,.itc (encM aI AV.bool b) (List.map (encM aI AV.bool) (e)))]⟩) fun _ _=>Ox.eq_2 ..
abbrev z1h {n a1 a0 c}:=li (L5 n a1 a0 c) (fun b=>⟨[(2,.ptr 2 0),(3,.ptr 3 0),(5,.cont (b.1) 15),(18,.ptr 18 0)],[(2,.box 119 [.mapv (List.map (encM aI AV.bool) (a0.freachable)),.mapv (List.map (encM aI AV.bool) (a0.finner))]),(3,.box 26 (Ar a1)),(15,.are 112 (b.2.1).1 (List.map (enO aI AV.bool) (b.2.1).2)),(18,.it (List.map (encM aI AV.bool) (b.2.2)))]⟩) fun _ _=>L5.eq_2 ..
abbrev z75 {n b a0 c}:=li (Qh n b a0 c) (fun d=>⟨[(3,.row 7016),(6,.sl 8 (a0.map idA)),(7,aI (((a0.map idA).length:Int))),(8,aI d.1)],[(7016,.row 146 8 (d.2.map idA))]⟩) fun _ _=>Qh.eq_2 ..
abbrev z1m {n a0 b}:=li (Oz n a0 b) (fun c=>⟨[(3,.row 7016),(6,.sl 8 (a0.map idA)),(7,aI (((a0.map idA).length:Int))),(8,aI c.1)],[(7016,.row 146 8 (c.2.map idA))]⟩) fun _ _=>Oz.eq_2 ..
attribute [instance] z2i z2j z2h z90 z1i z1f z1g z1e z1h z75 z1m
instance zpv {n a0}:CI E0 (I6 n a0) false 54 [B2 a0] (fun r=>.agg [.mapv (List.map (encM aI AV.bool) (r.freachable)),.mapv (List.map (encM aI AV.bool) (r.finner))]):=⟨fun {r} hF=>by
 unfold I6 at hF
 refine cw Tryz.func54 ?_
 repeat' first
  |refine aE hF fun hF=>?_
  |refine aD [8] ?_;conv=>whnf
  |refine aK hF (fun hF=>?_) fun hF=>?_
  |refine aP ?_
  |refine aQ ?_
  |refine aW hF fun a hF=>?_
  |refine aN hF fun x hF=>?_
  |refine bE aI AV.bool hF D2 rfl rfl rfl rfl rfl rfl rfl rfl rfl rfl (by first|rfl|kernel_rfl) (by repeat' first|exact Sub.nil _|exact Sub.refl _|refine Sub.agg ?_|refine Sub.tup ?_|refine Sub.fn ?_|exact SubL.nil|refine SubL.cons ?_ ?_|refine Sub.sl _ ?_|exact SubE.nil|refine SubE.cons ?_ ?_) (fun v b hF=>?_)
  |refine UpX.o aI AV.bool hF (by first|rfl|kernel_rfl) D2 (by repeat' first|exact Sub.nil _|exact Sub.refl _|refine Sub.agg ?_|refine Sub.tup ?_|refine Sub.fn ?_|exact SubL.nil|refine SubL.cons ?_ ?_|refine Sub.sl _ ?_|exact SubE.nil|refine SubE.cons ?_ ?_) (fun l hF=>?_)
  |exact ⟨_,hF,aA []⟩
  |refine aX hF (aA []) fun m v hF=>?_
  |refine AndA ?_
  |refine aF ?_
  |exact aB hF⟩
def z0e (r:(List (Int×Bool))):AV:=.mapv (List.map (encM aI AV.bool) (r))
theorem z2r {n a0 a1 a2 a3 r}(hF:Q6 n a0 a1 a2 a3=some r):Con E0 true 116 [.agg [.mapv (List.map (encM aI AV.bool) (a0.freachable)),.mapv (List.map (encM aI AV.bool) (a0.finner))],B2 a1,Ab a2,.sl 1 (List.map (fun q=>AV.mapv (List.map (encM aI AV.bool) q)) (a3))] (z0e r):=by
 unfold Q6 at hF
 refine ConF.walk _ bT rfl (B3 bT rfl rfl) rfl ?_
 repeat' first
  |refine AW.jI2 hF (fun v hF=>?_) fun hF=>?_
  |refine aE hF fun hF=>?_
  |refine aD [7,8,9,10,11] ?_;conv=>whnf
  |refine aK hF (fun hF=>?_) fun hF=>?_
  |refine aP ?_
  |refine aQ ?_
  |refine aW hF fun a hF=>?_
  |refine UpX.o aI AV.bool hF (by first|rfl|kernel_rfl) D2 (by repeat' first|exact Sub.nil _|exact Sub.refl _|refine Sub.agg ?_|refine Sub.tup ?_|refine Sub.fn ?_|exact SubL.nil|refine SubL.cons ?_ ?_|refine Sub.sl _ ?_|exact SubE.nil|refine SubE.cons ?_ ?_) (fun l hF=>?_)
  |exact ⟨_,hF,aA []⟩
  |refine bE aI AV.bool hF D2 rfl rfl rfl rfl rfl rfl rfl rfl rfl rfl (by first|rfl|kernel_rfl) (by repeat' first|exact Sub.nil _|exact Sub.refl _|refine Sub.agg ?_|refine Sub.tup ?_|refine Sub.fn ?_|exact SubL.nil|refine SubL.cons ?_ ?_|refine Sub.sl _ ?_|exact SubE.nil|refine SubE.cons ?_ ?_) (fun v b hF=>?_)
  |refine IdxX.o (fun q=>AV.mapv (List.map (encM aI AV.bool) q)) hF fun x hF=>?_
  |refine aX hF (aA []) fun m v hF=>?_
  |refine AndA ?_
  |refine aF ?_
  |refine FX.o (en:=fun r=>List.map (encM aI AV.bool) r) hF ?_;exact FX.mk _ 13 (LeX.refl _ _ _) rfl rfl (zsq (fun _=>rfl) (fun _=>rfl)) (aZ rfl)
instance zpf {n a0 a1}:CI E0 (Rb n a0 a1) false 115 [.mapv (List.map (encM aI AV.bool) (a0)),.mapv (List.map (encM aI AV.bool) (a1))] (fun r=>.mapv (List.map (encM aI AV.bool) (r))):=⟨fun {r} hF=>by
 unfold Rb at hF
 refine cw Tryz.func115 ?_
 repeat' first
  |refine AW.frsO AV.bool hF 7 rfl (fun hF=>?_)
  |refine bU (encM aI AV.bool) hF 9 rfl (fun x s hF=>?_)
  |refine aE hF fun hF=>?_
  |refine AW.frzO hF 7 rfl (fun hF=>?_)
  |refine aD [7,5,4] ?_;conv=>whnf
  |refine aK hF (fun hF=>?_) fun hF=>?_
  |refine aP ?_
  |refine aQ ?_
  |refine bV rfl rfl rfl rfl rfl rfl rfl rfl ?_
  |refine bW (encM aI AV.bool) hF rfl rfl rfl rfl rfl (fun hF=>?_) (fun hF=>?_)
  |refine bX rfl rfl rfl rfl rfl ?_
  |refine bE aI AV.bool hF D2 rfl rfl rfl rfl rfl rfl rfl rfl rfl rfl (by first|rfl|kernel_rfl) (by repeat' first|exact Sub.nil _|exact Sub.refl _|refine Sub.agg ?_|refine Sub.tup ?_|refine Sub.fn ?_|exact SubL.nil|refine SubL.cons ?_ ?_|refine Sub.sl _ ?_|exact SubE.nil|refine SubE.cons ?_ ?_) (fun v b hF=>?_)
  |refine UpX.o aI AV.bool hF (by first|rfl|kernel_rfl) D2 (by repeat' first|exact Sub.nil _|exact Sub.refl _|refine Sub.agg ?_|refine Sub.tup ?_|refine Sub.fn ?_|exact SubL.nil|refine SubL.cons ?_ ?_|refine Sub.sl _ ?_|exact SubE.nil|refine SubE.cons ?_ ?_) (fun l hF=>?_)
  |exact ⟨_,hF,aC (bY 9 rfl) (aA [])⟩
  |refine aX hF (aA []) fun m v hF=>?_
  |refine AndA ?_
  |refine aF ?_
  |exact aB hF⟩
instance zdv {n a0 a1}:CI E0 (Hj n a0 a1) false 55 [.agg [.mapv (List.map (encM aI AV.bool) (a0.freachable)),.mapv (List.map (encM aI AV.bool) (a0.finner))],B2 a1] (fun r=>.sl 1 (List.map (fun q=>AV.mapv (List.map (encM aI AV.bool) q)) (r))):=⟨fun {r} hF=>by
 unfold Hj at hF
 refine cw Tryz.func55 ?_
 repeat' first
  |refine AW.areO aI AV.bool hF 15 rfl (fun hF=>?_)
  |refine AW.froO aI AV.bool hF 15 rfl (fun hF=>?_)
  |refine cE hF (fun v hF=>?_) fun hF=>?_
  |refine bU (encM aI AV.bool) hF 18 rfl (fun x s hF=>?_)
  |refine aE hF fun hF=>?_
  |refine aD [17,19,11,4,2] ?_;conv=>whnf
  |refine aK hF (fun hF=>?_) fun hF=>?_
  |refine aP ?_
  |refine aQ ?_
  |refine MakX.om hF (fun m hF=>?_)
  |refine bV rfl rfl rfl rfl rfl rfl rfl rfl ?_
  |exact ⟨_,hF,aC (bY 18 rfl) (aA [])⟩
  |exact ⟨_,hF,aA []⟩
  |refine aN hF fun x hF=>?_
  |refine NatX.o hF (fun m hF=>?_)
  |refine EltX.o (fun q=>AV.mapv (List.map (encM aI AV.bool) q)) hF (fun x hF=>?_)
  |refine B4.o hF z0e (fun a h=>z2r h) (fun _=>aZ rfl) (fun a hF=>?_)
  |refine aW hF fun a hF=>?_
  |refine OpX.lnv rfl rfl rfl rfl rfl rfl ?_
  |refine SetX.o (fun q=>AV.mapv (List.map (encM aI AV.bool) q)) hF (fun x=>rfl) (fun x=>(by first|exact bB _|(repeat' first|exact SubL.nil|refine SubL.cons ?_ ?_|exact Sub.refl _|exact Sub.nil _|refine Sub.agg ?_))) (fun l hF=>?_)
  |refine bE aI AV.bool hF D2 rfl rfl rfl rfl rfl rfl rfl rfl rfl rfl (by first|rfl|kernel_rfl) (by repeat' first|exact Sub.nil _|exact Sub.refl _|refine Sub.agg ?_|refine Sub.tup ?_|refine Sub.fn ?_|exact SubL.nil|refine SubL.cons ?_ ?_|refine Sub.sl _ ?_|exact SubE.nil|refine SubE.cons ?_ ?_) (fun v b hF=>?_)
  |refine aX hF (aA []) fun m v hF=>?_
  |refine bW (encM aI AV.bool) hF rfl rfl rfl rfl rfl (fun hF=>?_) (fun hF=>?_)
  |refine bX rfl rfl rfl rfl rfl ?_
  |refine OpX.ixc hF rfl rfl rfl rfl rfl rfl rfl rfl (fun hF=>?_)
  |refine OpX.ast aI AV.bool hF rfl rfl rfl rfl rfl rfl rfl rfl rfl rfl rfl (fun m hF=>?_)
  |refine OpX.aob hF rfl rfl rfl rfl rfl rfl rfl (fun j hF=>?_)
  |refine OpX.aup AV.bool hF (aZ rfl) rfl rfl rfl rfl rfl rfl rfl rfl rfl (by first|rfl|kernel_rfl) rfl rfl (fun l hF=>?_)
  |refine AndA ?_
  |refine aF ?_
  |exact aB hF⟩
def z1r (r:(List AV)):AV:=.sl 8 (r.map idA)
theorem z7s {n:Nat}{b:Ap->Option (Ap)}{a0:(List AV)}{r:(List AV)}(ih:∀ {a0:Ap} {r:Ap},b a0=some r->Con E0 false 186 [Ao a0] ((Ao r)))(hF:Wt n b a0=some r):Con E0 false 187 [.sl 8 (a0.map idA)] (z1r r):=by
 unfold Wt at hF
 refine Con.walk _ bF rfl (B3 bF rfl rfl) rfl (aZ rfl) ?_
 repeat' first
  |refine aJ ?_;conv=>whnf
  |refine aK hF (fun hF=>?_) fun hF=>?_
  |refine aP ?_
  |refine aQ ?_
  |refine bN hF Da (fun x hF=>?_)
  |refine Af.o hF (fun r=>.agg [aI (r.fOp),.sl 8 (r.fArgs.map idA),aI (r.fVar),aI (r.fField),aI (r.fKind),aI (r.fValue.fKind),aI (r.fValue.fNum),.str (r.fValue.fText)]) (fun a h=>ih h) (fun a hF=>?_)
  |refine aS hF fun l hF=>?_
  |exact ⟨_,hF,aA [(7016,16)]⟩
  |refine aX hF ?_ fun m v hF=>?_
  |exact aC (aG 3 7016 146 8 rfl rfl) (aA [])
  |refine AndA ?_
  |refine aF ?_
  |exact aB hF
theorem z6f {n a0 r}(hF:Gn n a0=some r):Con E0 false 186 [Ao a0] ((Ao r)):=by
 induction n generalizing a0 r
 case zero=>cases hF
 case succ n ih =>
 unfold Gn at hF
 refine cw Tryz.func186 ?_
 repeat' first
  |refine aJ ?_;conv=>whnf
  |refine aK hF (fun hF=>?_) fun hF=>?_
  |refine aP ?_
  |refine aQ ?_
  |refine Af.o hF z1r (fun a h=>z7s ih h) (fun a hF=>?_)
  |refine AndA ?_
  |refine aF ?_
  |exact aB hF
instance zkz {n a0}:CI E0 (Gn n a0) false 186 [Ao a0] Ao:=⟨z6f⟩
instance zdy {n a0}:CI E0 (W0 n a0) false 187 [.sl 8 (a0.map idA)] (fun r=>.sl 8 (r.map idA)):=⟨fun {r} hF=>by
 unfold W0 at hF
 refine cw bF ?_
 repeat' first
  |refine aJ ?_;conv=>whnf
  |refine aK hF (fun hF=>?_) fun hF=>?_
  |refine aP ?_
  |refine aQ ?_
  |refine bN hF Da (fun x hF=>?_)
  |refine aW hF fun a hF=>?_
  |refine aS hF fun l hF=>?_
  |exact ⟨_,hF,aA [(7016,16)]⟩
  |refine aX hF ?_ fun m v hF=>?_
  |exact aC (aG 3 7016 146 8 rfl rfl) (aA [])
  |refine AndA ?_
  |refine aF ?_
  |exact aB hF⟩
set_option maxHeartbeats 400000 in
theorem zkf (l:List (Cel 1))(S:Nat->Prop)(v:Value)(w:World)(h:Sl w S 1 encC v l)(hl:l.length<=1000000000) :
  Calls bL 188 #[v] w (zt9 3 1 encC l w):=by
 have eok:EOk bL 43 3 1 8 (encC (n:=1)):=eokC (sz:=1) (Yx 43 _ rfl) rfl (Yx 3 _ rfl) (by omega) rfl
 obtain ⟨A,c,rfl,hc,_⟩:=h.form
 have hq:=fun (W:World)=>Lib.run_eql_slice_nil W 43 3 A l.length c 0 0 Tryz.underlying43
 have H:=hide h
 cases A with
 |none =>
  have h0:l=[]:=h.none_nil
  subst h0
  clear h H hl hc
  simp only [length_nil,Option.isNone_none] at hq ⊢
  go_enter bG,bP
  go_wp2
  go_ret
  exact ⟨none,0,rfl,Own.nil_,by go_grown⟩
 |some ad =>
  clear h
  go_enter bG,bP
  go_wp2_with (at_builtin;refine z5s rfl _ _ rfl eok rfl Own.made_ rfl (H.out.alloc _) (by simp;omega) (by omega) (by simp) ?_;intro A' c' w1 ho hg _)
  go_ret
  exact ⟨A',c',rfl,ho,(Own.made_ (sz:=1) (enc:=encC (n:=1))).grown ((Below.refl _ _).alloc (bA _) _) (bA _) (by simp) hg⟩
theorem zgq {n a r}(hF:Ez n a=some r):ConT E0 188 [.sl 1 (List.map aI a)] 3 1 (List.map aI r) (.row 0):=zkd rfl (B3 bG rfl rfl) zkf hF
theorem zk6 {n a r}(hF:Ez n a=some r):Con E0 false 188 [.sl 1 (List.map aI a)] (.sl 1 (List.map aI r)):=(zgq hF).close rfl
end
noncomputable section
abbrev z7u {n a0 x3 b}:=li (Qt n a0 x3 b) (fun c=>⟨[(2,.ptr 2 0),(7,.row 7037),(23,.sl 1 (x3.map aI)),(24,aI (((x3.map aI).length:Int))),(25,aI c.1)],[(2,.box 26 (Ar a0)),(7037,.row 149 17 (c.2.map Ab))]⟩) fun _ _=>Qt.eq_2 ..
abbrev z1d {n b a0 c}:=li (Ov n b a0 c) (fun d=>⟨[(0,.sl 2 (a0.map Bn)),(1,.fn 191 [.ref [aI b]]),(7,aI (((a0.map Bn).length:Int))),(8,aI d)],[]⟩) fun _ _=>Ov.eq_2 ..
abbrev z9q {n a0 x1}:=jf (Kd n a0 x1) (fun b=>⟨[(2,.ptr 2 0),(6,aI x1),(18,.bool (b))],[(2,.box 149 (Bq a0))]⟩) fun _=>Kd.eq_1 ..
abbrev zby {n a0 b d f e}:=li (Nc n a0 b d f e) (fun c=>⟨[(0,.sl 17 (a0.map Ab)),(6,aI b.1),(7,.bool (b.2.1)),(8,aI d.1),(9,aI c.1),(10,.bool (c.2.1)),(16,.ptr 16 0),(21,.sl 17 (a0.map Ab)),(22,aI (((a0.map Ab).length:Int))),(23,aI c.2.2)],[(16,.itc (encM aI AV.bool d) (List.map (encM aI AV.bool) (f)))]⟩) fun _ _=>Nc.eq_2 ..
abbrev zbz {n a0 c}:=li (I5 n a0 c) (fun b=>⟨[(0,.sl 17 (a0.map Ab)),(6,aI b.1),(7,.bool (b.2.1)),(16,.ptr 16 0)],[(16,.it (List.map (encM aI AV.bool) (b.2.2)))]⟩) fun _ _=>I5.eq_2 ..
abbrev zat {n a0 x2 x3 c}:=li (I4 n a0 x2 x3 c) (fun b=>⟨[(1,.ptr 1 0),(6,.ptr 6 0),(7,.sl 1 (List.map (fun q=>AV.mapv (List.map (encM aI AV.bool) q)) (x3))),(8,.row 26),(9,.row 30),(33,aI (((a0.fStates.map Aq).length:Int))),(34,aI b.1)],[(1,.box 26 (Ar a0)),(6,.box 119 [.mapv (List.map (encM aI AV.bool) (x2.freachable)),.mapv (List.map (encM aI AV.bool) (x2.finner))]),(26,.row 3 1 (b.2.1.map aI)),(30,.row 4 1 (b.2.2.map AV.bool))]⟩) fun _ _=>I4.eq_2 ..
abbrev z9r {n a1 x1 b}:=li (R5 n a1 x1 b) (fun c=>⟨[(1,aI a1),(6,.sl 1 (x1.1.map aI)),(7,.sl 1 (x1.2.1.map AV.bool)),(9,aI c.1),(20,.ptr 20 0)],[(20,.it (List.map (encM aI AV.bool) (c.2)))]⟩) fun _ _=>R5.eq_2 ..
abbrev z7o {n c a0 d}:=li (Qr n c a0 d) (fun b=>⟨[(1,.fn 263 [.ptr 100000 0]),(16,.sl 8 (a0.fArgs.map idA)),(17,aI (((a0.fArgs.map idA).length:Int))),(18,aI b.1)],[(100000,.box 318 [.bool (b.2.1),.bool (b.2.2.1),.bool (b.2.2.2.1),.bool (b.2.2.2.2.1),.bool (b.2.2.2.2.2.1),.bool (b.2.2.2.2.2.2.1),.bool (b.2.2.2.2.2.2.2.1),.bool (b.2.2.2.2.2.2.2.2.1),.bool (b.2.2.2.2.2.2.2.2.2.1),.bool (b.2.2.2.2.2.2.2.2.2.2.1),.bool (b.2.2.2.2.2.2.2.2.2.2.2.1),.bool (b.2.2.2.2.2.2.2.2.2.2.2.2.1),.bool (b.2.2.2.2.2.2.2.2.2.2.2.2.2.1),.bool (b.2.2.2.2.2.2.2.2.2.2.2.2.2.2.1),.bool (b.2.2.2.2.2.2.2.2.2.2.2.2.2.2.2.1),.bool (b.2.2.2.2.2.2.2.2.2.2.2.2.2.2.2.2)])]⟩) fun _ _=>Qr.eq_2 ..
abbrev z8l {n x1 b}:=li (Bb n x1 b) (fun c=>⟨[(4,.row 7019),(10,.agg [.bool (x1.2.1),.bool (x1.2.2.1),.bool (x1.2.2.2.1),.bool (x1.2.2.2.2.1),.bool (x1.2.2.2.2.2.1),.bool (x1.2.2.2.2.2.2.1),.bool (x1.2.2.2.2.2.2.2.1),.bool (x1.2.2.2.2.2.2.2.2.1),.bool (x1.2.2.2.2.2.2.2.2.2.1),.bool (x1.2.2.2.2.2.2.2.2.2.2.1),.bool (x1.2.2.2.2.2.2.2.2.2.2.2.1),.bool (x1.2.2.2.2.2.2.2.2.2.2.2.2.1),.bool (x1.2.2.2.2.2.2.2.2.2.2.2.2.2.1),.bool (x1.2.2.2.2.2.2.2.2.2.2.2.2.2.2.1),.bool (x1.2.2.2.2.2.2.2.2.2.2.2.2.2.2.2.1),.bool (x1.2.2.2.2.2.2.2.2.2.2.2.2.2.2.2.2)]),(11,aI c.1)],[(7019,.row 3 1 (c.2.map aI))]⟩) fun _ _=>Bb.eq_2 ..
attribute [instance] z7u z1d z9q zby zbz zat z9r z7o z8l
set_option maxHeartbeats 400000 in
theorem zke (l:List (Cel 2))(S:Nat->Prop)(v:Value)(w:World)(h:Sl w S 2 encC v l)(hl:l.length<=1000000000) :
  Calls bL 189 #[v] w (zt9 230 2 encC l w):=by
 have eok:EOk bL 147 230 2 16 (encC (n:=2)):=eokC (sz:=2) (Yx 147 _ rfl) rfl (Yx 230 _ rfl) (by omega) rfl
 obtain ⟨A,c,rfl,hc,_⟩:=h.form
 have hq:=fun (W:World)=>Lib.run_eql_slice_nil W 147 230 A l.length c 0 0 Tryz.underlying147
 have H:=hide h
 cases A with
 |none =>
  have h0:l=[]:=h.none_nil
  subst h0
  clear h H hl hc
  simp only [length_nil,Option.isNone_none] at hq ⊢
  go_enter bH,bQ
  go_wp2
  go_ret
  exact ⟨none,0,rfl,Own.nil_,by go_grown⟩
 |some ad =>
  clear h
  go_enter bH,bQ
  go_wp2_with (at_builtin;refine z5s rfl _ _ rfl eok rfl Own.made_ rfl (H.out.alloc _) (by simp;omega) (by omega) (by simp) ?_;intro A' c' w1 ho hg _)
  go_ret
  exact ⟨A',c',rfl,ho,(Own.made_ (sz:=2) (enc:=encC (n:=2))).grown ((Below.refl _ _).alloc (bA _) _) (bA _) (by simp) hg⟩
theorem zgp {n a r}(hF:Ez n a=some r):ConT E0 189 [.sl 2 (List.map Bn a)] 230 2 (List.map Bn r) (.row 0):=zkd rfl (B3 bH rfl rfl) zke hF
theorem zk5 {n a r}(hF:Ez n a=some r):Con E0 false 189 [.sl 2 (List.map Bn a)] (.sl 2 (List.map Bn r)):=(zgp hF).close rfl
instance zpl {n a0}:CI E0 (Uc n a0) false 119 [Ab a0] Ab:=⟨fun {r} hF=>by
 unfold Uc at hF
 refine cw Tryz.func119 ?_
 repeat' first
  |refine aJ ?_;conv=>whnf
  |refine aK hF (fun hF=>?_) fun hF=>?_
  |refine aP ?_
  |refine aQ ?_
  |refine aW hF fun a hF=>?_
  |refine Af.o hF (fun q=>AV.sl 1 (List.map aI q)) (fun a h=>zk6 h) (fun a hF=>?_)
  |refine Af.o hF (fun q=>AV.sl 2 (List.map Bn q)) (fun a h=>zk5 h) (fun a hF=>?_)
  |refine AndA ?_
  |refine aF ?_
  |exact aB hF⟩
instance zmj {n a0 a1}:CI E0 (U6 n a0 a1) false 56 [B2 a0,aI a1] (fun r=>.tup [.sl 17 (r.1.map Ab),aI r.2]):=⟨fun {r} hF=>by
 unfold U6 at hF
 refine cw Tryz.func56 ?_
 repeat' first
  |refine aJ ?_;conv=>whnf
  |refine aK hF (fun hF=>?_) fun hF=>?_
  |refine aP ?_
  |refine aQ ?_
  |refine aW hF fun a hF=>?_
  |refine aN hF fun x hF=>?_
  |refine aS hF fun l hF=>?_
  |exact ⟨_,hF,aA [(7037,37)]⟩
  |refine aX hF ?_ fun m v hF=>?_
  |exact aC (aG 7 7037 149 17 rfl rfl) (aA [])
  |refine AndA ?_
  |refine aF ?_
  |exact aB hF⟩
instance zod {n a0 a1}:CI E0 (Ww n a0 a1) true 191 [Bn a0,.ref [aI a1]] (fun r=>.bool (r)):=by unfold Ww;exact aR [] Tryz.func191
instance zdt {n a0 b}:CI E0 (Sv n a0 b) true 190 [.sl 2 (a0.map Bn),.fn 191 [.ref [aI b]]] aI:=by unfold Sv;exact aR [] Tryz.func190
instance zpx {n a0 a1}:CI E0 (Kj n a0 a1) true 120 [Ab a0,aI a1] (fun r=>.tup [aI r.1,.bool (r.2)]):=⟨fun {r} hF=>by
 unfold Kj at hF
 refine cw Tryz.func120 ?_
 repeat' first
  |refine cE hF (fun v hF=>?_) fun hF=>?_
  |refine aE hF fun hF=>?_
  |refine aD [2] ?_;conv=>whnf
  |refine aK hF (fun hF=>?_) fun hF=>?_
  |refine aP ?_
  |refine aQ ?_
  |refine B4.I hF (fun a hF=>?_) rfl rfl fun _=>aV rfl
  |refine aN hF fun x hF=>?_
  |exact ⟨_,hF,aA []⟩
  |refine aW hF fun a hF=>?_
  |refine AndA ?_
  |refine aF ?_
  |exact aB hF⟩
instance ztc {n a0 a1}:CI E0 (Ug n a0 a1) true 57 [.sl 17 (a0.map Ab),.mapv (List.map (encM aI AV.bool) (a1))] (fun r=>.tup [aI r.1,.bool (r.2)]):=⟨fun {r} hF=>by
 unfold Ug at hF
 refine cw Tryz.func57 ?_
 repeat' first
  |refine bU (encM aI AV.bool) hF 16 rfl (fun x s hF=>?_)
  |refine aE hF fun hF=>?_
  |refine aD [10,12,4] ?_;conv=>whnf
  |refine aK hF (fun hF=>?_) fun hF=>?_
  |refine aP ?_
  |refine aQ ?_
  |refine bV rfl rfl rfl rfl rfl rfl rfl rfl ?_
  |refine bW (encM aI AV.bool) hF rfl rfl rfl rfl rfl (fun hF=>?_) (fun hF=>?_)
  |refine bX rfl rfl rfl rfl rfl ?_
  |exact ⟨_,hF,aC (bY 16 rfl) (aA [])⟩
  |exact ⟨_,hF,aA []⟩
  |refine aN hF fun x hF=>?_
  |refine aW hF fun a hF=>?_
  |refine aX hF (aA []) fun m v hF=>?_
  |refine AndA ?_
  |refine aF ?_
  |exact aB hF⟩
instance zst {n a0}:CI E0 (Nl n a0) false 15 [B2 a0] (fun r=>.tup [.sl 1 (r.1.map aI),.sl 1 (r.2.1.map AV.bool),aI r.2.2]):=⟨fun {r} hF=>by
 unfold Nl at hF
 refine cw Tryz.func15 ?_
 repeat' first
  |refine aE hF fun hF=>?_
  |refine aD [11] ?_;conv=>whnf
  |refine aK hF (fun hF=>?_) fun hF=>?_
  |refine aP ?_
  |refine aQ ?_
  |refine aW hF fun a hF=>?_
  |refine MakX.o aI hF (by first|exact bB _|(repeat' first|exact SubL.nil|refine SubL.cons ?_ ?_|exact Sub.refl _|exact Sub.nil _|refine Sub.agg ?_)) (fun l hF=>?_)
  |refine MakX.o AV.bool hF (by first|exact bB _|(repeat' first|exact SubL.nil|refine SubL.cons ?_ ?_|exact Sub.refl _|exact Sub.nil _|refine Sub.agg ?_)) (fun l hF=>?_)
  |refine NatX.o hF (fun m hF=>?_)
  |refine SetX.o AV.bool hF (fun x=>rfl) (fun x=>(by first|exact bB _|(repeat' first|exact SubL.nil|refine SubL.cons ?_ ?_|exact Sub.refl _|exact Sub.nil _|refine Sub.agg ?_))) (fun l hF=>?_)
  |refine bE aI AV.bool hF D2 rfl rfl rfl rfl rfl rfl rfl rfl rfl rfl (by first|rfl|kernel_rfl) (by repeat' first|exact Sub.nil _|exact Sub.refl _|refine Sub.agg ?_|refine Sub.tup ?_|refine Sub.fn ?_|exact SubL.nil|refine SubL.cons ?_ ?_|refine Sub.sl _ ?_|exact SubE.nil|refine SubE.cons ?_ ?_) (fun v b hF=>?_)
  |refine IdxX.o (fun q=>AV.mapv (List.map (encM aI AV.bool) q)) hF fun x hF=>?_
  |refine SetX.o aI hF (fun x=>rfl) (fun x=>(by first|exact bB _|(repeat' first|exact SubL.nil|refine SubL.cons ?_ ?_|exact Sub.refl _|exact Sub.nil _|refine Sub.agg ?_))) (fun l hF=>?_)
  |exact ⟨_,hF,aA []⟩
  |refine aX hF (aA []) fun m v hF=>?_
  |refine AndA ?_
  |refine aF ?_
  |exact aB hF⟩
instance zpy {n a0 a1}:CI E0 (Gq n a0 a1) true 49 [B2 a0,aI a1] (fun r=>.tup [aI r.1,.bool (r.2)]):=⟨fun {r} hF=>by
 unfold Gq at hF
 refine cw Tryz.func49 ?_
 repeat' first
  |refine bU (encM aI AV.bool) hF 20 rfl (fun x s hF=>?_)
  |refine aE hF fun hF=>?_
  |refine aD [5] ?_;conv=>whnf
  |refine aK hF (fun hF=>?_) fun hF=>?_
  |refine aP ?_
  |refine aQ ?_
  |refine aW hF fun a hF=>?_
  |refine bV rfl rfl rfl rfl rfl rfl rfl rfl ?_
  |refine bW (encM aI AV.bool) hF rfl rfl rfl rfl rfl (fun hF=>?_) (fun hF=>?_)
  |refine bX rfl rfl rfl rfl rfl ?_
  |refine aN hF fun x hF=>?_
  |exact ⟨_,hF,aC (bY 20 rfl) (aA [])⟩
  |refine aX hF (aA []) fun m v hF=>?_
  |refine AndA ?_
  |refine aF ?_
  |exact aB hF⟩
def z9f (a0:Ap)(m0:B16):List (Nat×Ent):=[(100000,.box 318 [.bool (m0.1),.bool (m0.2.1),.bool (m0.2.2.1),.bool (m0.2.2.2.1),.bool (m0.2.2.2.2.1),.bool (m0.2.2.2.2.2.1),.bool (m0.2.2.2.2.2.2.1),.bool (m0.2.2.2.2.2.2.2.1),.bool (m0.2.2.2.2.2.2.2.2.1),.bool (m0.2.2.2.2.2.2.2.2.2.1),.bool (m0.2.2.2.2.2.2.2.2.2.2.1),.bool (m0.2.2.2.2.2.2.2.2.2.2.2.1),.bool (m0.2.2.2.2.2.2.2.2.2.2.2.2.1),.bool (m0.2.2.2.2.2.2.2.2.2.2.2.2.2.1),.bool (m0.2.2.2.2.2.2.2.2.2.2.2.2.2.2.1),.bool (m0.2.2.2.2.2.2.2.2.2.2.2.2.2.2.2)])]
def Tx (r:Int×B16):List (Nat×Ent):=[(100000,.box 318 [.bool (r.2.1),.bool (r.2.2.1),.bool (r.2.2.2.1),.bool (r.2.2.2.2.1),.bool (r.2.2.2.2.2.1),.bool (r.2.2.2.2.2.2.1),.bool (r.2.2.2.2.2.2.2.1),.bool (r.2.2.2.2.2.2.2.2.1),.bool (r.2.2.2.2.2.2.2.2.2.1),.bool (r.2.2.2.2.2.2.2.2.2.2.1),.bool (r.2.2.2.2.2.2.2.2.2.2.2.1),.bool (r.2.2.2.2.2.2.2.2.2.2.2.2.1),.bool (r.2.2.2.2.2.2.2.2.2.2.2.2.2.1),.bool (r.2.2.2.2.2.2.2.2.2.2.2.2.2.2.1),.bool (r.2.2.2.2.2.2.2.2.2.2.2.2.2.2.2.1),.bool (r.2.2.2.2.2.2.2.2.2.2.2.2.2.2.2.2)])]
def Ws (r:Int×(Bool×Bool×Bool×Bool×Bool×Bool×Bool×Bool×Bool×Bool×Bool×Bool×Bool×Bool×Bool×Bool)):AV:=aI (r.1)
def z9e (r:Int×B16):AS:=⟨[(3,aI r.1),(1,.ptr 100000 0)],Tx r⟩
theorem z0j {n a0 m0 r}(hF:Tz n a0 m0=some r):ConG E0.P none (CalF E0.P 263 0) [Ao a0,.ptr 100000 0] [] (z9f a0 m0) (Ws r) (Tx r):=by
 unfold Tz at hF
 refine bC (E:=(E0p 2)) (caps:=[]) _ bI rfl rfl rfl rfl rfl ?_
 repeat' first
  |refine aJ ?_;conv=>whnf
  |refine aK hF (fun hF=>?_) fun hF=>?_
  |refine aP ?_
  |refine aQ ?_
  |refine aW hF fun a hF=>?_
  |refine NatX.oS hF rfl (fun hF=>?_) (fun hF=>?_)
  |(cases hF;done)
  |exact GX.A (res:=Ws) (meF:=Tx) hF z9e
  |refine AndA ?_
  |refine aF ?_
def za6 (a0:Ap)(m0:B16):List (Nat×Ent):=[(100000,.box 318 [.bool (m0.1),.bool (m0.2.1),.bool (m0.2.2.1),.bool (m0.2.2.2.1),.bool (m0.2.2.2.2.1),.bool (m0.2.2.2.2.2.1),.bool (m0.2.2.2.2.2.2.1),.bool (m0.2.2.2.2.2.2.2.1),.bool (m0.2.2.2.2.2.2.2.2.1),.bool (m0.2.2.2.2.2.2.2.2.2.1),.bool (m0.2.2.2.2.2.2.2.2.2.2.1),.bool (m0.2.2.2.2.2.2.2.2.2.2.2.1),.bool (m0.2.2.2.2.2.2.2.2.2.2.2.2.1),.bool (m0.2.2.2.2.2.2.2.2.2.2.2.2.2.1),.bool (m0.2.2.2.2.2.2.2.2.2.2.2.2.2.2.1),.bool (m0.2.2.2.2.2.2.2.2.2.2.2.2.2.2.2)])]
def N9 (r:Int×B16):List (Nat×Ent):=[(100000,.box 318 [.bool (r.2.1),.bool (r.2.2.1),.bool (r.2.2.2.1),.bool (r.2.2.2.2.1),.bool (r.2.2.2.2.2.1),.bool (r.2.2.2.2.2.2.1),.bool (r.2.2.2.2.2.2.2.1),.bool (r.2.2.2.2.2.2.2.2.1),.bool (r.2.2.2.2.2.2.2.2.2.1),.bool (r.2.2.2.2.2.2.2.2.2.2.1),.bool (r.2.2.2.2.2.2.2.2.2.2.2.1),.bool (r.2.2.2.2.2.2.2.2.2.2.2.2.1),.bool (r.2.2.2.2.2.2.2.2.2.2.2.2.2.1),.bool (r.2.2.2.2.2.2.2.2.2.2.2.2.2.2.1),.bool (r.2.2.2.2.2.2.2.2.2.2.2.2.2.2.2.1),.bool (r.2.2.2.2.2.2.2.2.2.2.2.2.2.2.2.2)])]
def R3 (r:Int×(Bool×Bool×Bool×Bool×Bool×Bool×Bool×Bool×Bool×Bool×Bool×Bool×Bool×Bool×Bool×Bool)):AV:=aI (r.1)
def za5 (r:Int×B16):AS:=⟨[(4,aI r.1),(1,.fn 263 [.ptr 100000 0])],N9 r⟩
theorem z0w {n a0 m0 r}(hF:Kf n a0 m0=some r):ConG E0.P none (CalF E0.P 237 0) [Ao a0,.fn 263 [.ptr 100000 0]] [] (za6 a0 m0) (R3 r) (N9 r):=by
 induction n generalizing a0 m0 r
 case zero=>cases hF
 case succ n ih =>
 unfold Kf at hF
 refine bC (E:=(E0p 2)) (caps:=[]) _ aT rfl rfl rfl rfl rfl ?_
 repeat' first
  |refine aJ ?_;conv=>whnf
  |refine aK hF (fun hF=>?_) fun hF=>?_
  |refine aP ?_
  |refine aQ ?_
  |refine B4.oM (B9 11 hF) [(100000,100000)] [(100000,100000)] _ _ Tx Ws [] (fun a h=>aH (z0j h)) (B3 bI rfl rfl) rfl rfl rfl ⟨⟨rfl,rfl⟩,trivial⟩ (fun a=>⟨rfl,rfl,rfl,rfl,rfl,rfl,rfl,rfl⟩) (fun a hF=>?_)
  |refine bS (B9 11 hF) [(100000,100000)] [(100000,100000)] _ _ Tx Ws [] (fun a h=>aH (z0j h)) (B3 bI rfl rfl) rfl rfl rfl ⟨⟨rfl,rfl⟩,trivial⟩ (fun a=>⟨rfl,rfl,rfl,rfl,rfl,rfl,rfl,rfl⟩) (fun a hF=>?_)
  |refine GX.o (res:=R3) (meF:=N9) hF ?_;exact GX.mk (za5 _) (aA []) rfl _ rfl (by repeat' first|exact Sub.nil _|exact Sub.refl _|refine Sub.agg ?_|refine Sub.tup ?_|refine Sub.fn ?_|exact SubL.nil|refine SubL.cons ?_ ?_|refine Sub.sl _ ?_|exact SubE.nil|refine SubE.cons ?_ ?_) [100000] ⟨aV ⟨1,0,_,_,_,_,_,aM rfl,rfl,rfl,rfl,rfl,rfl⟩,trivial⟩ rfl
  |refine bN hF Da (fun x hF=>?_)
  |refine B4.oM (B9 24 hF) [(100000,100000)] [(100000,100000)] _ _ N9 R3 [] (fun a h=>aH (ih h)) (B3 aT rfl rfl) rfl rfl rfl ⟨⟨rfl,rfl⟩,trivial⟩ (fun a=>⟨rfl,rfl,rfl,rfl,rfl,rfl,rfl,rfl⟩) (fun a hF=>?_)
  |refine bS (B9 24 hF) [(100000,100000)] [(100000,100000)] _ _ N9 R3 [] (fun a h=>aH (ih h)) (B3 aT rfl rfl) rfl rfl rfl ⟨⟨rfl,rfl⟩,trivial⟩ (fun a=>⟨rfl,rfl,rfl,rfl,rfl,rfl,rfl,rfl⟩) (fun a hF=>?_)
  |exact ⟨_,hF,aA []⟩
  |refine aX hF (aA []) fun m v hF=>?_
  |refine AndA ?_
  |refine aF ?_
end
noncomputable section
abbrev z0u {n a1 a0f2 a0f1 a0f0}:=jf (Kz n a1 a0f2 a0f1 a0f0) (fun b=>⟨[(1,aI a1),(2,.ptr 2 0),(14,.bool (b))],[(2,.box 359 [.sl 1 (List.map (fun q=>AV.sl 5 (List.map Aj q)) (a0f0.fVars)),aI a0f1,aI a0f2.fSource,aI a0f2.fSeq,aI a0f2.fType,aI a0f2.fTime,.sl 3 (a0f2.fValues.map Ac),.mapv [(aI 5,.fn 325 [.ref [.fn 324 []]]),(aI 6,.fn 326 [.ref [.fn 324 []]]),(aI 7,.fn 327 []),(aI 8,.fn 328 []),(aI 10,.fn 329 []),(aI 11,.fn 330 []),(aI 12,.fn 331 [])]])]⟩) fun _=>Kz.eq_1 ..
abbrev z1j {n a1 x1 b}:=li (Oy n a1 x1 b) (fun c=>⟨[(3,.ptr 3 0),(4,.ptr 4 0),(6,.row 7034),(14,.sl 5 (x1.map Aj)),(15,aI (((x1.map Aj).length:Int))),(16,aI c.1)],[(3,.box 146 (C9 a1)),(4,.box 144 [aI 0,aI 0,.str (ByteArray.empty)]),(7034,.row 144 3 (c.2.map Ac))]⟩) fun _ _=>Oy.eq_2 ..
abbrev z2k {n x9}:=jt (Lh n x9) (fun b=>⟨[(4,.ptr 4 0),(8,.ptr 8 0),(9,aI b)],[(4,.box 144 [aI 0,aI 0,.str (ByteArray.empty)]),(8,.box 144 (C2 x9.1))]⟩) fun _=>Lh.eq_1 ..
abbrev z2l {n a1}:=jt (Li n a1) (fun b=>⟨[(3,.ptr 3 0),(4,.ptr 4 0),(7,.ptr 7 0)],[(3,.box 146 (C9 a1)),(4,.box 144 [aI 0,aI 0,.str (ByteArray.empty)]),(7,.box 37 [aI b.1,aI b.2.1,aI b.2.2.1,aI b.2.2.2.1,.sl 3 (b.2.2.2.2.map Ac)])]⟩) fun _=>Li.eq_1 ..
abbrev z97 {n a1 a0 b c d}:=jt (K7 n a1 a0 b c d) (fun e=>⟨[(0,aI a0),(1,.sl 1 (a1.map aI)),(6,aI d),(7,.bool (true)),(8,.sl 1 (a1.map aI)),(9,aI (((a1.map aI).length:Int))),(10,aI b),(14,aI a0),(22,.bool (e))],[]⟩) fun _=>K7.eq_1 ..
abbrev z98 {n a1 a0 b c d}:=jt (I1 n a1 a0 b c d) (fun e=>⟨[(0,aI a0),(1,.sl 1 (a1.map aI)),(6,aI d),(7,.bool (true)),(8,.sl 1 (a1.map aI)),(9,aI (((a1.map aI).length:Int))),(10,aI b),(14,aI a0),(15,.bool (e))],[]⟩) fun _=>I1.eq_1 ..
abbrev z96 {n a1 a0 b}:=li (Gm n a1 a0 b) (fun c=>⟨[(0,aI a0),(1,.sl 1 (a1.map aI)),(8,.sl 1 (a1.map aI)),(9,aI (((a1.map aI).length:Int))),(10,aI c)],[]⟩) fun _ _=>Gm.eq_2 ..
abbrev z6d {n}:=jf (Ml n) (fun b=>⟨[(4,.ptr 4 0)],[(4,.box 144 [aI b.1,aI b.2.1,.str (b.2.2)])]⟩) fun _=>Ml.eq_1 ..
abbrev z6c {n}:=jf (Mj n) (fun b=>⟨[(4,.ptr 4 0)],[(4,.box 144 [aI b.1,aI b.2.1,.str (b.2.2)])]⟩) fun _=>Mj.eq_1 ..
abbrev z2m {n b a1 a0f2 a0f1 a0f0 d}:=li (Pc n b a1 a0f2 a0f1 a0f0 d) (fun c=>⟨[(2,.ptr 2 0),(3,.ptr 3 0),(4,.ptr 4 0),(6,.row 7042),(7,.row 7047),(23,.sl 8 (a1.fArgs.map idA)),(24,aI (((a1.fArgs.map idA).length:Int))),(25,aI c.1)],[(2,.box 359 [.sl 1 (List.map (fun q=>AV.sl 5 (List.map Aj q)) (a0f0.fVars)),aI a0f1,aI a0f2.fSource,aI a0f2.fSeq,aI a0f2.fType,aI a0f2.fTime,.sl 3 (a0f2.fValues.map Ac),.mapv [(aI 5,.fn 325 [.ref [.fn 324 []]]),(aI 6,.fn 326 [.ref [.fn 324 []]]),(aI 7,.fn 327 []),(aI 8,.fn 328 []),(aI 10,.fn 329 []),(aI 11,.fn 330 []),(aI 12,.fn 331 [])]]),(3,.box 146 (C9 a1)),(4,.box 144 [aI 0,aI 0,.str (ByteArray.empty)]),(7042,.row 144 3 (c.2.1.map Ac)),(7047,.row 3 1 (c.2.2.map aI))]⟩) fun _ _=>Pc.eq_2 ..
attribute [instance] z0u z1j z2k z2l z97 z98 z96 z6d z6c z2m
instance zof {n a0}:CI E0 (U9 n a0) false 211 [Ao a0] (fun r=>.sl 1 (r.map aI)):=⟨fun {r} hF=>by
 unfold U9 at hF
 refine cw Tryz.func211 ?_
 repeat' first
  |refine aE hF fun hF=>?_
  |refine aD [7] ?_;conv=>whnf
  |refine aK hF (fun hF=>?_) fun hF=>?_
  |refine aP ?_
  |refine aQ ?_
  |refine B4.oM (B9 9 hF) [(100000,3)] [(100000,3)] _ _ N9 R3 [] (fun a h=>aH (z0w h)) (B3 aT rfl rfl) rfl rfl rfl ⟨⟨rfl,rfl⟩,trivial⟩ (fun a=>⟨rfl,rfl,rfl,rfl,rfl,rfl,rfl,rfl⟩) (fun a hF=>?_)
  |refine bS (B9 9 hF) [(100000,3)] [(100000,3)] _ _ N9 R3 [] (fun a h=>aH (z0w h)) (B3 aT rfl rfl) rfl rfl rfl ⟨⟨rfl,rfl⟩,trivial⟩ (fun a=>⟨rfl,rfl,rfl,rfl,rfl,rfl,rfl,rfl⟩) (fun a hF=>?_)
  |refine NatX.oS hF rfl (fun hF=>?_) (fun hF=>?_)
  |(cases hF;done)
  |refine aS hF fun l hF=>?_
  |exact ⟨_,hF,aA [(7019,19)]⟩
  |exact ⟨_,hF,aA []⟩
  |refine aX hF ?_ fun m v hF=>?_
  |exact aC (aG 4 7019 3 1 rfl rfl) (aA [])
  |refine AndA ?_
  |refine aF ?_
  |exact aB hF⟩
theorem z8o:Con E0 false 313 [] (.mapv [(aI 5,.fn 325 [.ref [.fn 324 []]]),(aI 6,.fn 326 [.ref [.fn 324 []]]),(aI 7,.fn 327 []),(aI 8,.fn 328 []),(aI 10,.fn 329 []),(aI 11,.fn 330 []),(aI 12,.fn 331 [])]):=by
 refine Con.walk _ bZ rfl (B3 bZ rfl rfl) rfl (aZ rfl) ?_
 repeat' first
  |refine AW.frb0 1 rfl rfl ?_
  |refine AW.into ?_
  |refine aD [2] ?_;conv=>whnf
  |refine UpX.mk _ _ (by first|rfl|kernel_rfl) (by first|rfl|kernel_rfl) (SubM.refl _) ?_
  |exact RetX.mk rfl
instance zcy {n a0f0 a0f1 a0f2 a1}:CI E0 (Pp n a0f0 a0f1 a0f2 a1) false 339 [.agg [.sl 1 (List.map (fun q=>AV.sl 5 (List.map Aj q)) (a0f0.fVars)),aI a0f1,aI a0f2.fSource,aI a0f2.fSeq,aI a0f2.fType,aI a0f2.fTime,.sl 3 (a0f2.fValues.map Ac),.mapv [(aI 5,.fn 325 [.ref [.fn 324 []]]),(aI 6,.fn 326 [.ref [.fn 324 []]]),(aI 7,.fn 327 []),(aI 8,.fn 328 []),(aI 10,.fn 329 []),(aI 11,.fn 330 []),(aI 12,.fn 331 [])]],aI a1] (fun r=>.sl 5 (r.map Aj)):=⟨fun {r} hF=>by
 unfold Pp at hF
 refine cw Tryz.func339 ?_
 repeat' first
  |refine cE hF (fun v hF=>?_) fun hF=>?_
  |refine aE hF fun hF=>?_
  |refine aD [1] ?_;conv=>whnf
  |refine aK hF (fun hF=>?_) fun hF=>?_
  |refine IdxX.o (fun q=>AV.sl 5 (List.map Aj q)) hF fun x hF=>?_
  |exact ⟨_,hF,aA []⟩
  |exact aB hF⟩
instance ztf {n a0 a1}:CI E0 (Nn n a0 a1) true 341 [Aj a0,aI a1] (fun r=>.tup [Ac r.1,aI r.2]):=by unfold Nn;exact aR [] Tryz.func341
instance zdw {n a0f0 a0f1 a0f2 a1}:CI E0 (Vz n a0f0 a0f1 a0f2 a1) true 340 [.agg [.sl 1 (List.map (fun q=>AV.sl 5 (List.map Aj q)) (a0f0.fVars)),aI a0f1,aI a0f2.fSource,aI a0f2.fSeq,aI a0f2.fType,aI a0f2.fTime,.sl 3 (a0f2.fValues.map Ac),.mapv [(aI 5,.fn 325 [.ref [.fn 324 []]]),(aI 6,.fn 326 [.ref [.fn 324 []]]),(aI 7,.fn 327 []),(aI 8,.fn 328 []),(aI 10,.fn 329 []),(aI 11,.fn 330 []),(aI 12,.fn 331 [])]],Ao a1] (fun r=>.tup [Ac r.1,aI r.2]):=⟨fun {r} hF=>by
 unfold Vz at hF
 refine cw Tryz.func340 ?_
 repeat' first
  |refine aJ ?_;conv=>whnf
  |refine aK hF (fun hF=>?_) fun hF=>?_
  |refine aW hF fun a hF=>?_
  |refine B4.I hF (fun a hF=>?_) rfl rfl fun _=>aV rfl
  |refine aN hF fun x hF=>?_
  |refine aS hF fun l hF=>?_
  |exact ⟨_,hF,aA [(7034,34)]⟩
  |refine aX hF ?_ fun m v hF=>?_
  |exact aC (aG 6 7034 144 3 rfl rfl) (aA [])
  |exact aB hF⟩
instance zf4 {n a0f0 a0f1 a0f2 a1}:CI E0 (Q7 n a0f0 a0f1 a0f2 a1) true 332 [.agg [.sl 1 (List.map (fun q=>AV.sl 5 (List.map Aj q)) (a0f0.fVars)),aI a0f1,aI a0f2.fSource,aI a0f2.fSeq,aI a0f2.fType,aI a0f2.fTime,.sl 3 (a0f2.fValues.map Ac),.mapv [(aI 5,.fn 325 [.ref [.fn 324 []]]),(aI 6,.fn 326 [.ref [.fn 324 []]]),(aI 7,.fn 327 []),(aI 8,.fn 328 []),(aI 10,.fn 329 []),(aI 11,.fn 330 []),(aI 12,.fn 331 [])]],Ao a1] (fun r=>.tup [Ac r.1,aI r.2]):=by unfold Q7;exact aR [10,17] Tryz.func332
instance zpi {n a0 a1}:CI E0 (X0 n a0 a1) true 333 [aI a0,.sl 1 (a1.map aI)] aI:=by unfold X0;exact aR [6,7,8,11,12,15] Tryz.func333
instance ztb {n a0}:CI E0 (X7 n a0) true 315 [.bool (a0)] Ac:=by unfold X7;exact aR [] Tryz.func315
instance zv7 {n a0}:CI E0 (Dz n a0) true 286 [.bool (a0)] Ac:=by unfold Dz;exact aR [] Tryz.func286
instance zk4 {n a0}:CI E0 (Tt n a0) true 324 [aI a0] Ac:=by unfold Tt;exact aR [] Tryz.func324
instance zk3 {n a0 a1}:CI E0 (Ts n a0 a1) true 325 [aI a0,aI a1,.ref [.fn 324 []]] Ac:=by unfold Ts;exact aR [] Tryz.func325
instance zk2 {n a0 a1}:CI E0 (Tq n a0 a1) true 326 [aI a0,aI a1,.ref [.fn 324 []]] Ac:=by unfold Tq;exact aR [] Tryz.func326
instance zk1 {n a0 a1}:CI E0 (Tp n a0 a1) true 327 [aI a0,aI a1] Ac:=by unfold Tp;exact aR [] Tryz.func327
instance zk0 {n a0 a1}:CI E0 (Tn n a0 a1) true 328 [aI a0,aI a1] Ac:=by unfold Tn;exact aR [] Tryz.func328
instance zjz {n a0 a1}:CI E0 (Tm n a0 a1) true 329 [aI a0,aI a1] Ac:=by unfold Tm;exact aR [1] Tryz.func329
instance zjy {n a0 a1}:CI E0 (Tl n a0 a1) true 330 [aI a0,aI a1] Ac:=by unfold Tl;exact aR [1] Tryz.func330
instance zjx {n a0 a1}:CI E0 (N5 n a0 a1) true 331 [aI a0,aI a1] Ac:=by unfold N5;exact aR [] Tryz.func331
def z6n (r:A6×Int):AV:=.tup [.agg [aI (r.1.fKind),aI (r.1.fNum),.str (r.1.fText)],aI (r.2)]
end
noncomputable section
abbrev zca {n}:=jf (Nf n) (fun b=>⟨[(8,.bool (b))],[]⟩) fun _=>Nf.eq_1 ..
abbrev z7n {n}:=jf (K3 n) (fun b=>⟨[(2,.bool (b))],[]⟩) fun _=>K3.eq_1 ..
abbrev z2g {n}:=jf (Lg n) (fun b=>⟨[(3,.bool (b))],[]⟩) fun _=>Lg.eq_1 ..
abbrev z1c {n b a0 c}:=li (Iz n b a0 c) (fun d=>⟨[(0,.sl 11 (a0.map B1)),(1,.fn 234 [.ref (Bq b)]),(7,aI (((a0.map B1).length:Int))),(8,aI d)],[]⟩) fun _ _=>Iz.eq_2 ..
abbrev z5e {n a1 a0 b}:=li (Jk n a1 a0 b) (fun c=>⟨[(2,.ptr 2 0),(3,.ptr 3 0),(33,.sl 2 (a1.fLimits.map Bn)),(34,aI (((a1.fLimits.map Bn).length:Int))),(35,aI c)],[(2,.box 111 [.sl 2 (a0.ftypes.map Al),aI a0.fa.fVars,aI a0.fa.fScopes,.sl 1 (a0.fa.fStates.map Aq),.sl 17 (a0.fa.fEdges.map Ab)]),(3,.box 149 (Bq a1))]⟩) fun _ _=>Jk.eq_2 ..
abbrev z5f {n a1 a0 b}:=li (Jl n a1 a0 b) (fun c=>⟨[(2,.ptr 2 0),(3,.ptr 3 0),(22,.sl 8 (a1.fChecks.map idA)),(23,aI (((a1.fChecks.map idA).length:Int))),(24,aI c)],[(2,.box 111 [.sl 2 (a0.ftypes.map Al),aI a0.fa.fVars,aI a0.fa.fScopes,.sl 1 (a0.fa.fStates.map Aq),.sl 17 (a0.fa.fEdges.map Ab)]),(3,.box 149 (Bq a1))]⟩) fun _ _=>Jl.eq_2 ..
abbrev z5g {n a1 a0}:=jf (Gg n a1 a0) (fun b=>⟨[(2,.ptr 2 0),(3,.ptr 3 0),(20,.bool (b))],[(2,.box 111 [.sl 2 (a0.ftypes.map Al),aI a0.fa.fVars,aI a0.fa.fScopes,.sl 1 (a0.fa.fStates.map Aq),.sl 17 (a0.fa.fEdges.map Ab)]),(3,.box 149 (Bq a1))]⟩) fun _=>Gg.eq_1 ..
abbrev z45 {n a0 b}:=li (Jb n a0 b) (fun c=>⟨[(1,.fn 106 []),(2,.ptr 2 0),(5,.row 7027),(10,.sl 17 (a0.fa.fEdges.map Ab)),(11,aI (((a0.fa.fEdges.map Ab).length:Int))),(12,aI c.1)],[(2,.box 111 [.sl 2 (a0.ftypes.map Al),aI a0.fa.fVars,aI a0.fa.fScopes,.sl 1 (a0.fa.fStates.map Aq),.sl 17 (a0.fa.fEdges.map Ab)]),(7027,.row 149 17 (c.2.map Ab))]⟩) fun _ _=>Jb.eq_2 ..
abbrev z5c {n b d}:=li (Fh n b d) (fun c=>⟨[(3,.sl 17 (b.1.map Ab)),(4,.row 10),(5,.bool (c.1)),(13,.sl 17 (b.1.map Ab)),(14,aI (((b.1.map Ab).length:Int))),(15,aI c.2.1)],[(10,.mp (List.map (encM aI AV.bool) (c.2.2)))]⟩) fun _ _=>Fh.eq_2 ..
abbrev z5d {n c}:=li (Gf n c) (fun b=>⟨[(3,.sl 17 (b.1.map Ab)),(4,.row 10),(5,.bool (b.2.1))],[(10,.mp (List.map (encM aI AV.bool) (b.2.2)))]⟩) fun _ _=>Gf.eq_2 ..
abbrev z1b {n b a0 c}:=li (Ou n b a0 c) (fun d=>⟨[(0,.sl 11 (a0.map B1)),(1,.fn 176 [.ref [aI b]]),(7,aI (((a0.map B1).length:Int))),(8,aI d)],[]⟩) fun _ _=>Ou.eq_2 ..
attribute [instance] zca z7n z2g z1c z5e z5f z5g z45 z5c z5d z1b
theorem z1k {n a0f0 a0f1 a0f2 a1 r}(hF:Hn n a0f0 a0f1 a0f2 a1=some r):Con E0 true 314 [.agg [.sl 1 (List.map (fun q=>AV.sl 5 (List.map Aj q)) (a0f0.fVars)),aI a0f1,aI a0f2.fSource,aI a0f2.fSeq,aI a0f2.fType,aI a0f2.fTime,.sl 3 (a0f2.fValues.map Ac),.mapv [(aI 5,.fn 325 [.ref [.fn 324 []]]),(aI 6,.fn 326 [.ref [.fn 324 []]]),(aI 7,.fn 327 []),(aI 8,.fn 328 []),(aI 10,.fn 329 []),(aI 11,.fn 330 []),(aI 12,.fn 331 [])]],Ao a1] (.tup [Ac r.1,aI r.2]):=by
 induction n generalizing a0f0 a0f1 a0f2 a1 r
 case zero=>cases hF
 case succ n ih =>
 unfold Hn at hF
 refine cw Tryz.func314 ?_
 repeat' first
  |refine aJ ?_;conv=>whnf
  |refine aK hF (fun hF=>?_) fun hF=>?_
  |refine aW hF fun a hF=>?_
  |refine B4.I hF (fun a hF=>?_) rfl rfl fun _=>aV rfl
  |refine NatX.o hF (fun m hF=>?_)
  |refine EltX.o Ac hF (fun x hF=>?_)
  |refine OpX.lkc rfl rfl rfl rfl rfl rfl rfl rfl rfl rfl (by first|rfl|kernel_rfl) ?_
  |refine LkC.cons hF (fun hF=>?_) (fun hF=>?_)
  |(cases hF;done)
  |refine LtX.o hF (fun hF=>?_)
  |refine bN hF Da (fun x hF=>?_)
  |refine Af.o hF z6n (fun a h=>ih h) (fun a hF=>?_)
  |refine aS hF fun l hF=>?_
  |exact ⟨_,hF,aA [(7042,42),(7047,47)]⟩
  |refine aX hF ?_ fun m v hF=>?_
  |exact aC (aG 6 7042 144 3 rfl rfl) (aC (aG 7 7047 3 1 rfl rfl) (aA []))
  |refine AndA ?_
  |refine aF ?_
  |exact aB hF
instance zf5 {n a0f0 a0f1 a0f2 a1}:CI E0 (Hn n a0f0 a0f1 a0f2 a1) true 314 [.agg [.sl 1 (List.map (fun q=>AV.sl 5 (List.map Aj q)) (a0f0.fVars)),aI a0f1,aI a0f2.fSource,aI a0f2.fSeq,aI a0f2.fType,aI a0f2.fTime,.sl 3 (a0f2.fValues.map Ac),.mapv [(aI 5,.fn 325 [.ref [.fn 324 []]]),(aI 6,.fn 326 [.ref [.fn 324 []]]),(aI 7,.fn 327 []),(aI 8,.fn 328 []),(aI 10,.fn 329 []),(aI 11,.fn 330 []),(aI 12,.fn 331 [])]],Ao a1] (fun r=>.tup [Ac r.1,aI r.2]):=⟨z1k⟩
instance zv9 {n a0 a1 a2 a3}:CI E0 (Xa n a0 a1 a2 a3) true 285 [Ao a0,Ib a1,aI a2,Aj a3] (fun r=>.tup [Ac r.1,aI r.2]):=⟨fun {r} hF=>by
 unfold Xa at hF
 refine cw Tryz.func285 ?_
 repeat' first
  |refine aJ ?_;conv=>whnf
  |refine aK hF (fun hF=>?_) fun hF=>?_
  |refine aW hF fun a hF=>?_
  |refine Af.mk _ _ z8o ?_
  |refine AndA ?_
  |exact aB hF⟩
instance zth {n a0 a1 a2 a3}:CI E0 (Uj n a0 a1 a2 a3) true 243 [Ao a0,Ib a1,aI a2,Aj a3] (fun r=>.bool (r)):=by unfold Uj;exact aR [2] Tryz.func243
instance zmh {n a0}:CI E0 (Ke n a0) true 233 [Ao a0] (fun r=>.bool (r)):=⟨fun {r} hF=>by
 unfold Ke at hF
 refine cw Tryz.func233 ?_
 repeat' first
  |refine cE hF (fun v hF=>?_) fun hF=>?_
  |refine aE hF fun hF=>?_
  |refine aD [1] ?_;conv=>whnf
  |refine aK hF (fun hF=>?_) fun hF=>?_
  |refine aP ?_
  |refine aQ ?_
  |refine aW hF fun a hF=>?_
  |refine Af.S hF fun a hF=>?_
  |exact ⟨_,hF,aA []⟩
  |refine AndA ?_
  |refine aF ?_
  |exact aB hF⟩
instance zf3 {n a0 a1}:CI E0 (T4 n a0 a1) true 234 [B1 a0,.ref (Bq a1)] (fun r=>.bool (r)):=by unfold T4;exact aR [1] Tryz.func234
instance zds {n a0 b}:CI E0 (Su n a0 b) true 235 [.sl 11 (a0.map B1),.fn 234 [.ref (Bq b)]] aI:=by unfold Su;exact aR [] cA
instance zb4 {n a0 b}:CI E0 (Ow n a0 b) true 175 [.sl 11 (a0.map B1),.fn 234 [.ref (Bq b)]] (fun r=>.bool (r)):=by unfold Ow;exact aR [] cB
instance zhn {n a0 a1}:CI E0 (Gk n a0 a1) true 174 [.agg [.sl 2 (a0.ftypes.map Al),aI a0.fa.fVars,aI a0.fa.fScopes,.sl 1 (a0.fa.fStates.map Aq),.sl 17 (a0.fa.fEdges.map Ab)],Ab a1] (fun r=>.bool (r)):=⟨fun {r} hF=>by
 unfold Gk at hF
 refine cw Tryz.func174 ?_
 repeat' first
  |refine cE hF (fun v hF=>?_) fun hF=>?_
  |refine aE hF fun hF=>?_
  |refine aD [1] ?_;conv=>whnf
  |refine aK hF (fun hF=>?_) fun hF=>?_
  |refine aP ?_
  |refine aQ ?_
  |refine aN hF fun x hF=>?_
  |refine B4.I hF (fun a hF=>?_) rfl rfl fun _=>aV rfl
  |refine aW hF fun a hF=>?_
  |exact ⟨_,hF,aA []⟩
  |refine aX hF (aA []) fun m v hF=>?_
  |refine bN hF Da (fun x hF=>?_)
  |refine AndA ?_
  |refine aF ?_
  |exact aB hF⟩
instance zf2 {n a0}:CI E0 (W8 n a0) true 106 [Ab a0] (fun r=>.bool (r)):=by unfold W8;exact aR [] Tryz.func106
instance zgl {n a0}:CI E0 (T8 n a0) false 105 [.agg [.sl 2 (a0.ftypes.map Al),aI a0.fa.fVars,aI a0.fa.fScopes,.sl 1 (a0.fa.fStates.map Aq),.sl 17 (a0.fa.fEdges.map Ab)],.fn 106 []] (fun r=>.sl 17 (r.map Ab)):=⟨fun {r} hF=>by
 unfold T8 at hF
 refine cw aY ?_
 repeat' first
  |refine aE hF fun hF=>?_
  |refine aD [5] ?_;conv=>whnf
  |refine aK hF (fun hF=>?_) fun hF=>?_
  |refine aP ?_
  |refine aQ ?_
  |refine aN hF fun x hF=>?_
  |refine aW hF fun a hF=>?_
  |refine aS hF fun l hF=>?_
  |exact ⟨_,hF,aA [(7027,27)]⟩
  |exact ⟨_,hF,aA []⟩
  |refine aX hF ?_ fun m v hF=>?_
  |exact aC (aG 5 7027 149 17 rfl rfl) (aA [])
  |refine AndA ?_
  |refine aF ?_
  |exact aB hF⟩
instance zhm {n a0}:CI E0 (Er n a0) false 50 [.agg [.sl 2 (a0.ftypes.map Al),aI a0.fa.fVars,aI a0.fa.fScopes,.sl 1 (a0.fa.fStates.map Aq),.sl 17 (a0.fa.fEdges.map Ab)]] (fun r=>.mapv (List.map (encM aI AV.bool) (r))):=⟨fun {r} hF=>by
 unfold Er at hF
 refine cw Tryz.func50 ?_
 repeat' first
  |refine aE hF fun hF=>?_
  |refine aD [9] ?_;conv=>whnf
  |refine aK hF (fun hF=>?_) fun hF=>?_
  |refine aP ?_
  |refine aQ ?_
  |refine aW hF fun a hF=>?_
  |refine UpX.o aI AV.bool hF (by first|rfl|kernel_rfl) D2 (by repeat' first|exact Sub.nil _|exact Sub.refl _|refine Sub.agg ?_|refine Sub.tup ?_|refine Sub.fn ?_|exact SubL.nil|refine SubL.cons ?_ ?_|refine Sub.sl _ ?_|exact SubE.nil|refine SubE.cons ?_ ?_) (fun l hF=>?_)
  |refine OpX.mde aI AV.bool hF D2 rfl rfl rfl rfl rfl rfl rfl rfl rfl (by first|rfl|kernel_rfl) rfl (fun l hF=>?_)
  |exact ⟨_,hF,aA []⟩
  |refine aN hF fun x hF=>?_
  |refine LkX.o aI AV.bool hF (by first|rfl|kernel_rfl) D2 (by repeat' first|exact Sub.nil _|exact Sub.refl _|refine Sub.agg ?_|refine Sub.tup ?_|refine Sub.fn ?_|exact SubL.nil|refine SubL.cons ?_ ?_|refine Sub.sl _ ?_|exact SubE.nil|refine SubE.cons ?_ ?_) (fun v b hF=>?_)
  |refine aX hF (aA []) fun m v hF=>?_
  |refine AndA ?_
  |refine aF ?_
  |exact aB hF⟩
instance zcg {n a0 a1}:CI E0 (Vp n a0 a1) true 176 [B1 a0,.ref [aI a1]] (fun r=>.bool (r)):=by unfold Vp;exact aR [] Tryz.func176
instance zdr {n a0 b}:CI E0 (Vx n a0 b) true 235 [.sl 11 (a0.map B1),.fn 176 [.ref [aI b]]] aI:=by unfold Vx;exact aR [] cA
end
noncomputable section
abbrev z0i {n a0 c}:=li (Iq n a0 c) (fun b=>⟨[(1,.fn 107 [.ptr 100000 0,.ptr 100001 0]),(2,.ptr 2 0),(5,.row 7027),(10,.sl 17 (a0.fa.fEdges.map Ab)),(11,aI (((a0.fa.fEdges.map Ab).length:Int))),(12,aI b.1)],[(100000,.box 111 [.sl 2 (b.2.1.map Al),aI b.2.2.1,aI b.2.2.2.1,.sl 1 (b.2.2.2.2.1.map Aq),.sl 17 (b.2.2.2.2.2.1.map Ab)]),(100001,.box 3 [aI b.2.2.2.2.2.2.1]),(2,.box 111 [.sl 2 (a0.ftypes.map Al),aI a0.fa.fVars,aI a0.fa.fScopes,.sl 1 (a0.fa.fStates.map Aq),.sl 17 (a0.fa.fEdges.map Ab)]),(7027,.row 149 17 (b.2.2.2.2.2.2.2.map Ab))]⟩) fun _ _=>Iq.eq_2 ..
abbrev z2f {n b m0 a0 d}:=li (J2 n b m0 a0 d) (fun c=>⟨[(0,aI a0),(1,.ptr 100000 0),(2,.ptr 100001 0),(3,.ptr 100002 0),(4,.ptr 100003 0),(10,.sl 17 (m0.map Ab)),(11,aI (((m0.map Ab).length:Int))),(12,aI c.1)],[(100000,.box 24 [.sl 17 (c.2.1.map Ab)]),(100001,.box 113 [.row 200001]),(100002,.box 3 [aI c.2.2.1]),(100003,.box 115 [.fn 109 [.ptr 100000 0,.ptr 100001 0,.ptr 100002 0,.ptr 100003 0]]),(200001,.mp (List.map (encM aI AV.bool) (c.2.2.2)))]⟩) fun _ _=>J2.eq_2 ..
abbrev z2d {n a1 a0 b f c d}:=li (Pa n a1 a0 b f c d) (fun e=>⟨[(2,.ptr 2 0),(5,.row 7045),(8,.ptr 8 0),(11,.sl 1 (a1.map aI)),(12,aI (((a1.map aI).length:Int))),(13,aI b.1),(27,.sl 2 (c.fFields.map C7)),(28,aI (((c.fFields.map C7).length:Int))),(29,aI e.1)],[(2,.box 111 [.sl 2 (a0.ftypes.map Al),aI a0.fa.fVars,aI a0.fa.fScopes,.sl 1 (a0.fa.fStates.map Aq),.sl 17 (a0.fa.fEdges.map Ab)]),(8,.box 37 [aI 0,aI b.1,aI f,aI b.1,.row 7039]),(7045,.row 37 5 (b.2.map Aj)),(7039,.row 144 3 (e.2.map Ac))]⟩) fun _ _=>Pa.eq_2 ..
abbrev z2e {n a1 a0 b}:=li (Pb n a1 a0 b) (fun c=>⟨[(2,.ptr 2 0),(5,.row 7045),(11,.sl 1 (a1.map aI)),(12,aI (((a1.map aI).length:Int))),(13,aI c.1)],[(2,.box 111 [.sl 2 (a0.ftypes.map Al),aI a0.fa.fVars,aI a0.fa.fScopes,.sl 1 (a0.fa.fStates.map Aq),.sl 17 (a0.fa.fEdges.map Ab)]),(7045,.row 37 5 (c.2.map Aj))]⟩) fun _ _=>Pb.eq_2 ..
abbrev z93 {n a1 a0 x3 b}:=li (K6 n a1 a0 x3 b) (fun c=>⟨[(6,.ptr 6 0),(11,.ptr 11 0),(12,.mapv (List.map (encM aI AV.bool) (x3))),(39,aI (((a1.fStates.map Aq).length:Int))),(40,aI c)],[(6,.box 39 [aI 0,aI 0,.nils,aI 0]),(11,.box 111 [.sl 2 (a0.map Al),aI a1.fVars,aI a1.fScopes,.sl 1 (a1.fStates.map Aq),.sl 17 (a1.fEdges.map Ab)])]⟩) fun _ _=>K6.eq_2 ..
abbrev z9g {n a0 b}:=li (U5 n a0 b) (fun c=>⟨[(0,.sl 5 (a0.map Aj)),(3,.row 9),(10,.sl 5 (a0.map Aj)),(11,aI (((a0.map Aj).length:Int))),(12,aI c.1)],[(9,.mp (List.map (encM N8 AV.bool) (c.2)))]⟩) fun _ _=>U5.eq_2 ..
attribute [instance] z0i z2f z2d z2e z93 z9g
instance zb3 {n a0 b}:CI E0 (Vl n a0 b) true 175 [.sl 11 (a0.map B1),.fn 176 [.ref [aI b]]] (fun r=>.bool (r)):=by unfold Vl;exact aR [] cB
instance zdu {n a0 a1 a2}:CI E0 (M9 n a0 a1 a2) true 108 [.agg [.sl 2 (a0.ftypes.map Al),aI a0.fa.fVars,aI a0.fa.fScopes,.sl 1 (a0.fa.fStates.map Aq),.sl 17 (a0.fa.fEdges.map Ab)],aI a1,aI a2] (fun r=>.bool (r)):=⟨fun {r} hF=>by
 unfold M9 at hF
 refine cw Tryz.func108 ?_
 repeat' first
  |refine aJ ?_;conv=>whnf
  |refine aK hF (fun hF=>?_) fun hF=>?_
  |refine aP ?_
  |refine aQ ?_
  |refine aN hF fun x hF=>?_
  |refine B4.I hF (fun a hF=>?_) rfl rfl fun _=>aV rfl
  |refine AndA ?_
  |refine aF ?_
  |exact aB hF⟩
def z6q (a0:Ai)(m0:B0)(m1:Int):List (Nat×Ent):=[(100000,.box 111 [.sl 2 (m0.ftypes.map Al),aI m0.fa.fVars,aI m0.fa.fScopes,.sl 1 (m0.fa.fStates.map Aq),.sl 17 (m0.fa.fEdges.map Ab)]),(100001,.box 3 [aI m1])]
def Sx (r:Bool×B0×Int):List (Nat×Ent):=[(100000,.box 111 [.sl 2 (r.2.1.ftypes.map Al),aI r.2.1.fa.fVars,aI r.2.1.fa.fScopes,.sl 1 (r.2.1.fa.fStates.map Aq),.sl 17 (r.2.1.fa.fEdges.map Ab)]),(100001,.box 3 [aI r.2.2])]
def W3 (r:Bool×B0×Int):AV:=.bool (r.1)
def z6m (r:Bool×B0×Int):AS:=⟨[(4,.bool (r.1)),(1,.ptr 100000 0),(2,.ptr 100001 0)],Sx r⟩
theorem z07 {n a0 m0 m1 r}(hF:Q5 n a0 m0 m1=some r):ConG E0.P none (CalF E0.P 107 0) [Ab a0,.ptr 100000 0,.ptr 100001 0] [] (z6q a0 m0 m1) (W3 r) (Sx r):=by
 unfold Q5 at hF
 refine bC (E:=(E0p 3)) (caps:=[]) _ bJ rfl rfl rfl rfl rfl ?_
 repeat' first
  |refine aJ ?_;conv=>whnf
  |refine aK hF (fun hF=>?_) fun hF=>?_
  |refine aP ?_
  |refine aQ ?_
  |refine aW hF fun a hF=>?_
  |exact GX.A (res:=W3) (meF:=Sx) hF z6m
  |refine AndA ?_
  |refine aF ?_
def z1q (a0:B0)(m0:B0)(m1:Int):List (Nat×Ent):=[(100000,.box 111 [.sl 2 (m0.ftypes.map Al),aI m0.fa.fVars,aI m0.fa.fScopes,.sl 1 (m0.fa.fStates.map Aq),.sl 17 (m0.fa.fEdges.map Ab)]),(100001,.box 3 [aI m1])]
def Sf (r:(List Ai)×B0×Int):List (Nat×Ent):=[(100000,.box 111 [.sl 2 (r.2.1.ftypes.map Al),aI r.2.1.fa.fVars,aI r.2.1.fa.fScopes,.sl 1 (r.2.1.fa.fStates.map Aq),.sl 17 (r.2.1.fa.fEdges.map Ab)]),(100001,.box 3 [aI r.2.2])]
def Vj (r:(List Ai)×B0×Int):AV:=.sl 17 (r.1.map Ab)
def z1o (r:(List Ai)×B0×Int):AS:=⟨[(4,.sl 17 (r.1.map Ab)),(1,.fn 107 [.ptr 100000 0,.ptr 100001 0])],Sf r⟩
theorem z01 {n a0 m0 m1 r}(hF:Sh n a0 m0 m1=some r):ConG E0.P none (CalF E0.P 105 0) [.agg [.sl 2 (a0.ftypes.map Al),aI a0.fa.fVars,aI a0.fa.fScopes,.sl 1 (a0.fa.fStates.map Aq),.sl 17 (a0.fa.fEdges.map Ab)],.fn 107 [.ptr 100000 0,.ptr 100001 0]] [] (z1q a0 m0 m1) (Vj r) (Sf r):=by
 unfold Sh at hF
 refine bC (E:=(E0p 2)) (caps:=[]) _ aY rfl rfl rfl rfl rfl ?_
 repeat' first
  |refine aE hF fun hF=>?_
  |refine AW.frzO hF 7027 rfl (fun hF=>?_)
  |refine aD [8] ?_;conv=>whnf
  |refine aK hF (fun hF=>?_) fun hF=>?_
  |refine aP ?_
  |refine aQ ?_
  |refine GX.o (res:=Vj) (meF:=Sf) hF ?_;exact GX.mk (z1o _) (aA []) rfl _ rfl (by repeat' first|exact Sub.nil _|exact Sub.refl _|refine Sub.agg ?_|refine Sub.tup ?_|refine Sub.fn ?_|exact SubL.nil|refine SubL.cons ?_ ?_|refine Sub.sl _ ?_|exact SubE.nil|refine SubE.cons ?_ ?_) [100000,100001] ⟨aV ⟨1,0,_,_,_,_,_,aM rfl,rfl,rfl,rfl,rfl,rfl⟩,⟨aV ⟨1,1,_,_,_,_,_,aM rfl,rfl,rfl,rfl,rfl,rfl⟩,trivial⟩⟩ rfl
  |refine aN hF fun x hF=>?_
  |refine aW hF fun a hF=>?_
  |refine B4.oM (B9 22 hF) [(100000,100000),(100001,100001)] [(100000,100000),(100001,100001)] _ _ Sx W3 [] (fun a h=>aH (z07 h)) (B3 bJ rfl rfl) rfl rfl rfl ⟨⟨rfl,rfl⟩,⟨⟨rfl,rfl⟩,trivial⟩⟩ (fun a=>⟨rfl,rfl,rfl,rfl,rfl,rfl,rfl,rfl⟩) (fun a hF=>?_)
  |refine bS (B9 22 hF) [(100000,100000),(100001,100001)] [(100000,100000),(100001,100001)] _ _ Sx W3 [] (fun a h=>aH (z07 h)) (B3 bJ rfl rfl) rfl rfl rfl ⟨⟨rfl,rfl⟩,⟨⟨rfl,rfl⟩,trivial⟩⟩ (fun a=>⟨rfl,rfl,rfl,rfl,rfl,rfl,rfl,rfl⟩) (fun a hF=>?_)
  |refine aS hF fun l hF=>?_
  |exact ⟨_,hF,aA [(7027,27)]⟩
  |exact ⟨_,hF,aA []⟩
  |refine aX hF ?_ fun m v hF=>?_
  |exact aC (aG 5 7027 149 17 rfl rfl) (aA [])
  |refine AndA ?_
  |refine aF ?_
def z6p (a0:Int)(m0:(List Ai))(m1:(List (Int×Bool)))(m2:Int):List (Nat×Ent):=[(100000,.box 24 [.sl 17 (m0.map Ab)]),(100001,.box 113 [.row 200001]),(200001,.mp (List.map (encM aI AV.bool) (m1))),(100002,.box 3 [aI m2]),(100003,.box 115 [.fn 109 [.ptr 100000 0,.ptr 100001 0,.ptr 100002 0,.ptr 100003 0]])]
def Hk (r:(List Int)×(List Ai)×(List (Int×Bool))×Int):List (Nat×Ent):=[(100000,.box 24 [.sl 17 (r.2.1.map Ab)]),(100001,.box 113 [.row 250001]),(250001,.mp (List.map (encM aI AV.bool) (r.2.2.1))),(100002,.box 3 [aI r.2.2.2]),(100003,.box 115 [.fn 109 [.ptr 100000 0,.ptr 100001 0,.ptr 100002 0,.ptr 100003 0]])]
def Jm (r:(List Int)×(List Ai)×(List (Int×Bool))×Int):AV:=nlA 1 (r.1.map aI)
def Zb (r:(List Int)×(List Ai)×(List (Int×Bool))×Int):AS:=⟨[(6,nlA 1 (r.1.map aI)),(1,.ptr 100000 0),(2,.ptr 100001 0),(3,.ptr 100002 0),(4,.ptr 100003 0)],Hk r⟩
theorem z06 {n a0 m0 m1 m2 r}(hF:Mi n a0 m0 m1 m2=some r):ConG E0.P none (CalF E0.P 109 0) [aI a0,.ptr 100000 0,.ptr 100001 0,.ptr 100002 0,.ptr 100003 0] [] (z6p a0 m0 m1 m2) (Jm r) (Hk r):=by
 induction n generalizing a0 m0 m1 m2 r
 case zero=>cases hF
 case succ n ih =>
 unfold Mi at hF
 refine bC (E:=(E0q 5)) (caps:=[]) _ aU rfl rfl rfl rfl rfl ?_
 repeat' first
  |refine aE hF fun hF=>?_
  |refine aD [10] ?_;conv=>whnf
  |refine aK hF (fun hF=>?_) fun hF=>?_
  |refine aP ?_
  |refine aQ ?_
  |exact GX.A (res:=Jm) (meF:=Hk) hF Zb (h1:=aA [(250001,200001)])
  |refine aN hF fun x hF=>?_
  |exact ⟨_,hF,aA []⟩
  |refine LkX.o aI AV.bool hF (by first|rfl|kernel_rfl) D2 (by repeat' first|exact Sub.nil _|exact Sub.refl _|refine Sub.agg ?_|refine Sub.tup ?_|refine Sub.fn ?_|exact SubL.nil|refine SubL.cons ?_ ?_|refine Sub.sl _ ?_|exact SubE.nil|refine SubE.cons ?_ ?_) (fun v b hF=>?_)
  |refine OpX.bldR aI hF rfl rfl rfl rfl rfl rfl rfl rfl rfl rfl rfl rfl rfl rfl rfl rfl (by first|exact SubR.refl _|(repeat' first|exact SubR.nil|refine SubR.cons ?_ ?_|exact SubL.nil|refine SubL.cons ?_ ?_|exact Sub.refl _|exact Sub.nil _)) rfl (fun l hF=>?_)
  |refine OpX.bld aI hF rfl rfl rfl rfl rfl rfl rfl rfl rfl rfl rfl rfl rfl rfl rfl rfl (fun l hF=>?_)
  |refine GX.o (res:=Jm) (meF:=Hk) hF ?_;exact GX.mk (Zb _) (aC (LeX.frzAll 32 3 1 _ rfl) (aA [(250001,200001)])) rfl _ rfl (by repeat' first|exact Sub.nil _|exact Sub.refl _|refine Sub.agg ?_|refine Sub.tup ?_|refine Sub.fn ?_|exact SubL.nil|refine SubL.cons ?_ ?_|refine Sub.sl _ ?_|exact SubE.nil|refine SubE.cons ?_ ?_) [] trivial rfl
  |refine y12 hF (fun a t e hF=>?_);subst e
  |refine UpX.o aI AV.bool hF (by first|rfl|kernel_rfl) D2 (by repeat' first|exact Sub.nil _|exact Sub.refl _|refine Sub.agg ?_|refine Sub.tup ?_|refine Sub.fn ?_|exact SubL.nil|refine SubL.cons ?_ ?_|refine Sub.sl _ ?_|exact SubE.nil|refine SubE.cons ?_ ?_) (fun l hF=>?_)
  |refine B4.oM (B9 39 hF) [(100000,100000),(100001,100001),(100002,100002),(100003,100003),(200001,200001)] [(100000,100000),(100001,100001),(250001,40000002),(100002,100002),(100003,100003)] _ _ Hk Jm [200001] (fun a h=>aH (ih h)) (B3 aU rfl rfl) rfl rfl rfl ⟨⟨rfl,rfl⟩,⟨⟨rfl,rfl⟩,⟨⟨rfl,rfl⟩,⟨⟨rfl,rfl⟩,⟨⟨rfl,rfl⟩,trivial⟩⟩⟩⟩⟩ (fun a=>⟨rfl,rfl,rfl,rfl,rfl,rfl,rfl,Yi _ _ _⟩) (fun a hF=>?_);rcases a with ⟨_|⟨y,ys⟩,a⟩<;>(try simp only [bO,bK,List.isEmpty_nil,List.isEmpty_cons,aO,aL,A8,A7,O8] at hF)
  |refine bS (B9 39 hF) [(100000,100000),(100001,100001),(100002,100002),(100003,100003),(200001,200001)] [(100000,100000),(100001,100001),(250001,40000002),(100002,100002),(100003,100003)] _ _ Hk Jm [200001] (fun a h=>aH (ih h)) (B3 aU rfl rfl) rfl rfl rfl ⟨⟨rfl,rfl⟩,⟨⟨rfl,rfl⟩,⟨⟨rfl,rfl⟩,⟨⟨rfl,rfl⟩,⟨⟨rfl,rfl⟩,trivial⟩⟩⟩⟩⟩ (fun a=>⟨rfl,rfl,rfl,rfl,rfl,rfl,rfl,Yi _ _ _⟩) (fun a hF=>?_);rcases a with ⟨_|⟨y,ys⟩,a⟩<;>(try simp only [bO,bK,List.isEmpty_nil,List.isEmpty_cons,aO,aL,A8,A7,O8] at hF)
  |refine cC (sz:=1) (l:=[]) (by first|exact aZ rfl|exact aV rfl) rfl rfl rfl rfl rfl rfl rfl rfl ?_
  |refine cC (sz:=1) (l:=_::_) (by first|exact aZ rfl|exact aV rfl) rfl rfl rfl rfl rfl rfl rfl rfl ?_
  |refine aS hF fun l hF=>?_
  |refine GX.o (res:=Jm) (meF:=Hk) hF ?_;exact GX.mk (Zb _) (aC (LeX.frzAll 46 3 1 _ rfl) (aA [(250001,40000002)])) rfl _ rfl (by repeat' first|exact Sub.nil _|exact Sub.refl _|refine Sub.agg ?_|refine Sub.tup ?_|refine Sub.fn ?_|exact SubL.nil|refine SubL.cons ?_ ?_|refine Sub.sl _ ?_|exact SubE.nil|refine SubE.cons ?_ ?_) [] trivial rfl
  |exact ⟨_,hF,aA [(200001,40000002)]⟩
  |refine aX hF (aA []) fun m v hF=>?_
  |refine AndA ?_
  |refine aF ?_
instance zhl {n a0 a1}:CI E0 (Qq n a0 a1) false 51 [.agg [.sl 2 (a0.ftypes.map Al),aI a0.fa.fVars,aI a0.fa.fScopes,.sl 1 (a0.fa.fStates.map Aq),.sl 17 (a0.fa.fEdges.map Ab)],aI a1] (fun r=>nlA 1 (r.map aI)):=⟨fun {r} hF=>by
 unfold Qq at hF
 refine cw Tryz.func51 ?_
 repeat' first
  |refine aJ ?_;conv=>whnf
  |refine aK hF (fun hF=>?_) fun hF=>?_
  |refine aP ?_
  |refine aQ ?_
  |refine B4.oM (B9 10 hF) [(100000,2),(100001,3)] [(100000,2),(100001,3)] _ _ Sf Vj [] (fun a h=>aH (z01 h)) (B3 aY rfl rfl) rfl rfl rfl ⟨⟨rfl,rfl⟩,⟨⟨rfl,rfl⟩,trivial⟩⟩ (fun a=>⟨rfl,rfl,rfl,rfl,rfl,rfl,rfl,rfl⟩) (fun a hF=>?_)
  |refine bS (B9 10 hF) [(100000,2),(100001,3)] [(100000,2),(100001,3)] _ _ Sf Vj [] (fun a h=>aH (z01 h)) (B3 aY rfl rfl) rfl rfl rfl ⟨⟨rfl,rfl⟩,⟨⟨rfl,rfl⟩,trivial⟩⟩ (fun a=>⟨rfl,rfl,rfl,rfl,rfl,rfl,rfl,rfl⟩) (fun a hF=>?_)
  |refine B4.oM (B9 14 hF) [(100000,5),(100001,6),(100002,3),(100003,7),(200001,11)] [(100000,5),(100001,6),(250001,15000002),(100002,3),(100003,7)] _ _ Hk Jm [11] (fun a h=>aH (z06 h)) (B3 aU rfl rfl) rfl rfl rfl ⟨⟨rfl,rfl⟩,⟨⟨rfl,rfl⟩,⟨⟨rfl,rfl⟩,⟨⟨rfl,rfl⟩,⟨⟨rfl,rfl⟩,trivial⟩⟩⟩⟩⟩ (fun a=>⟨rfl,rfl,rfl,rfl,rfl,rfl,rfl,Yi _ _ _⟩) (fun a hF=>?_);rcases a with ⟨_|⟨y,ys⟩,a⟩<;>(try simp only [bO,bK,List.isEmpty_nil,List.isEmpty_cons,aO,aL,A8,A7,O8] at hF)
  |refine bS (B9 14 hF) [(100000,5),(100001,6),(100002,3),(100003,7),(200001,11)] [(100000,5),(100001,6),(250001,15000002),(100002,3),(100003,7)] _ _ Hk Jm [11] (fun a h=>aH (z06 h)) (B3 aU rfl rfl) rfl rfl rfl ⟨⟨rfl,rfl⟩,⟨⟨rfl,rfl⟩,⟨⟨rfl,rfl⟩,⟨⟨rfl,rfl⟩,⟨⟨rfl,rfl⟩,trivial⟩⟩⟩⟩⟩ (fun a=>⟨rfl,rfl,rfl,rfl,rfl,rfl,rfl,Yi _ _ _⟩) (fun a hF=>?_);rcases a with ⟨_|⟨y,ys⟩,a⟩<;>(try simp only [bO,bK,List.isEmpty_nil,List.isEmpty_cons,aO,aL,A8,A7,O8] at hF)
  |refine AndA ?_
  |refine aF ?_
  |exact aB hF⟩
instance zf1 {n a0 a1}:CI E0 (T3 n a0 a1) false 52 [.agg [.sl 2 (a0.ftypes.map Al),aI a0.fa.fVars,aI a0.fa.fScopes,.sl 1 (a0.fa.fStates.map Aq),.sl 17 (a0.fa.fEdges.map Ab)],.sl 1 (a1.map aI)] (fun r=>.sl 5 (r.map Aj)):=⟨fun {r} hF=>by
 unfold T3 at hF
 refine cw Tryz.func52 ?_
 repeat' first
  |refine aE hF fun hF=>?_
  |refine AW.frzO hF 7039 rfl (fun hF=>?_)
  |refine aD [11] ?_;conv=>whnf
  |refine aK hF (fun hF=>?_) fun hF=>?_
  |refine aP ?_
  |refine aQ ?_
  |refine aN hF fun x hF=>?_
  |refine aS hF fun l hF=>?_
  |exact ⟨_,hF,aA [(7045,45)]⟩
  |exact ⟨_,hF,aA [(7039,39)]⟩
  |refine aX hF ?_ fun m v hF=>?_
  |exact aC (LeX.adoptC 8 4 7039 144 3 37 _ rfl rfl rfl) (aA [])
  |exact aC (aG 5 7045 37 5 rfl rfl) (aA [])
  |refine AndA ?_
  |refine aF ?_
  |exact aB hF⟩
instance zph {n a0 a1 a2}:CI E0 (Eg n a0 a1 a2) false 14 [.sl 2 (a0.map Al),B2 a1,aI a2] (fun r=>.tup [.agg [aI r.1.fVerdict,aI r.1.fBound,.sl 5 (r.1.fPrefix.map Aj),aI r.1.fPeriod],aI r.2]):=⟨fun {r} hF=>by
 unfold Eg at hF
 refine cw Tryz.func14 ?_
 repeat' first
  |refine aE hF fun hF=>?_
  |refine aD [15] ?_;conv=>whnf
  |refine aK hF (fun hF=>?_) fun hF=>?_
  |refine aP ?_
  |refine aQ ?_
  |refine aW (o:=Qq _ _ _) hF fun a hF=>?_;rcases a with _|⟨y,ys⟩<;>(try simp only [bO,bK,List.isEmpty_nil,List.isEmpty_cons,aO,aL,A8,A7,O8] at hF)
  |refine aW hF fun a hF=>?_
  |refine bE aI AV.bool hF D2 rfl rfl rfl rfl rfl rfl rfl rfl rfl rfl (by first|rfl|kernel_rfl) (by repeat' first|exact Sub.nil _|exact Sub.refl _|refine Sub.agg ?_|refine Sub.tup ?_|refine Sub.fn ?_|exact SubL.nil|refine SubL.cons ?_ ?_|refine Sub.sl _ ?_|exact SubE.nil|refine SubE.cons ?_ ?_) (fun v b hF=>?_)
  |exact ⟨_,hF,aA []⟩
  |refine cC (sz:=1) (l:=[]) (by first|exact aZ rfl|exact aV rfl) rfl rfl rfl rfl rfl rfl rfl rfl ?_
  |refine cC (sz:=1) (l:=_::_) (by first|exact aZ rfl|exact aV rfl) rfl rfl rfl rfl rfl rfl rfl rfl ?_
  |refine aX hF (aA []) fun m v hF=>?_
  |refine AndA ?_
  |refine aF ?_
  |exact aB hF⟩
instance zpc {n a0}:CI E0 (Zn n a0) true 192 [Aj a0] (fun r=>.bool (r)):=by unfold Zn;exact aR [] Tryz.func192
instance zva {n a0}:CI E0 (Xb n a0) true 242 [Aj a0] Y0:=by unfold Xb;exact aR [] Tryz.func242
instance zpk {n a0 a1}:CI E0 (Zq n a0 a1) true 193 [Aj a0,Aj a1] aI:=by unfold Zq;exact aR [] Tryz.func193
instance zv3 {n a0}:CI E0 (Rk n a0) true 194 [Aj a0] N8:=by unfold Rk;exact aR [] Tryz.func194
theorem zso (a b:Ka):eqK (N8 a) (N8 b)=some (decide (a=b)):=by cases a;cases b;simp [N8,eqK,eqL,eq1,aI,Km]
end
end Go.Proofs.YthbogefcfhmpgaaGreat
