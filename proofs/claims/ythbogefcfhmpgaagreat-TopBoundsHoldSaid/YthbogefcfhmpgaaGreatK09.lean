/- What some functions compute, over plain values. -/
import Derived.Test.YthbogefcfhmpgaaGreatK08
set_option linter.unusedVariables false
set_option linter.unusedSimpArgs false
set_option maxRecDepth 100000
set_option maxHeartbeats 8000000
namespace Go.Proofs.YthbogefcfhmpgaaGreat
open Go.RowKit List
open LeX renaming a->aA,trans->aF,adopt->aW,itc->bP,pa->dF
open RetX renaming oB->aB
open AW renaming stepU->aC,regO->aE,step->aJ,frzO->bB,jI->bC,frbO->cL
open IdxX renaming A->aD,o->cH,oD->dA
open ConG renaming up->aG,walk->aM
open CI renaming w->aH
open Tryz renaming prog->aK,underlying88->aP,func210->bA,func213->bE,func222->bF,func69->bI,func289->bM,ntmps289->bQ,func144->bT,func247->bW,func248->bX,func250->bY,func143->bZ,func212->cA,func225->cB,func105->cC,func63->cJ,ntmps144->cO,ntmps247->cP,ntmps248->cQ,ntmps143->cR,ntmps212->cS,func123->cU,func235->cV,func175->cW,func245->cX,func290->cY,func249->cZ,func195->dB,func127->dC,func147->dD,func230->dE,func62->dH,func70->dI,func76->dK
open A3 renaming o->aL,f->aX,t->aZ
open AppX renaming oA->aN
open EqX renaming A->aO
open Nat renaming le_refl->aQ,le_of_ble_eq_true->aT,min->bV,min_eq_left->cK
open Au renaming I->aR
open Option renaming isNone_none->aS
open Ab renaming I->aU,oM->bR,oR->cT
open _root_.Go.Proofs.YthbogefcfhmpgaaGreat.Own renaming made_->aV,nil_->bU
open Or renaming inr->aY,inl->bJ
open List renaming getElem?_append_left->bD,getElem?_toArray->bL,length_nil->bN,getElem?_append_right->bO,append_assoc->cD,take_append_drop->cI
open SubL renaming refl->bG
open B5 renaming oM->bH,I->dG
open And renaming intro->bK
open OpX renaming ixc->bS,nckR->cM,bldS->dJ,ntk->dO,lkv->dP,npt->dQ,aob->dS,aup->dU
open NatX renaming o->cF
open SlsX renaming o->cG
noncomputable section
abbrev zlb {n d a b}:=li (Th n d a b) (λc=>⟨[(8,.ptr 24 0),(25,.sl 5 (d.map A5)),(26,aI (((d.map A5).length:Int))),(27,aI c.1)],[(24,.box 204 [aI a.fVars,aI a.fScopes,.sl 1 (a.fStates.map Am),.sl 17 (a.fEdges.map Aa),.row 22]),(22,.mp (List.map (encM Bj A5) (c.2)))]⟩) λ_ _=>Th.eq_2 ..
abbrev zdv {n d a e b}:=li (Sc n d a e b) (λc=>⟨[(0,.ref [aI a.fa.fVars,aI a.fa.fScopes,.sl 1 (a.fa.fStates.map Am),.sl 17 (a.fa.fEdges.map Aa),.mapv (List.map (encM Bj A5) (a.fheld))]),(4,.ptr 4 0),(5,.ptr 5 0),(15,.sl 4 (d.map B0)),(16,aI (((d.map B0).length:Int))),(17,aI c.1)],[(4,.box 271 [.nils]),(5,.box 271 [.cont (e) 13]),(13,.nest 29 (List.map (enR A5 37 5) (c.2)))]⟩) λ_ _=>Sc.eq_2 ..
abbrev zgi {n}:=jf (Nj n) (λb=>⟨[(6,.bool (b))],[]⟩) λ_=>Nj.eq_1 ..
abbrev z5m {n b c a d}:=li (Pu n b c a d) (λe=>⟨[(0,.sl 11 (a.map B9)),(1,.fn 197 [.ref (Dt c),.ref (Bx b)]),(7,aI (((a.map B9).length:Int))),(8,aI e)],[]⟩) λ_ _=>Pu.eq_2 ..
abbrev z5n {n}:=jf (Ky n) (λb=>⟨[(5,.bool (b))],[]⟩) λ_=>Ky.eq_1 ..
abbrev z5k {n b c d a e}:=li (Pr n b c d a e) (λf=>⟨[(0,.sl 11 (a.map B9)),(1,.fn 244 [.ref (Bs d),.ref (Dt c),.ref (Bx b)]),(7,aI (((a.map B9).length:Int))),(8,aI f)],[]⟩) λ_ _=>Pr.eq_2 ..
abbrev z3x {n d a b}:=li (Kr n d a b) (λc=>⟨[(0,.sl 2 (a.map Ai)),(1,aI d),(2,.fn 288 []),(8,aI (((a.map Ai).length:Int))),(9,aI c.1),(10,aI c.2)],[]⟩) λ_ _=>Kr.eq_2 ..
abbrev zix {n f a b c d}:=jt (Nq n f a b c d) (λe=>⟨[(2,aI f),(7,.row 7033),(10,aI d.1),(14,.sl 1 (a.map aI)),(15,aI (((a.map aI).length:Int))),(16,aI b.1)],[(7033,.row 182 2 (e.map Ai))]⟩) λ_=>Nq.eq_1 ..
attribute [instance] zlb zdv zgi z5m z5n z5k z3x zix
instance y0z {n d}:CI E0 (Nv n d) true 121 [.sl 5 (d.map A5)] aI:=⟨λ{r} c=>by
 unfold Nv at c;refine cw Tryz.func121 ?_;repeat' first
  |refine aJ ?_;conv=>whnf
  |refine aL c (λc=>?_) λc=>?_
  |refine aX ?_
  |refine aD c λx c=>?_
  |refine aU c λa c=>?_
  |refine LkX.o Ng AV.bool c (by first|rfl|kernel_rfl) y3o (by repeat' first|exact Sub.nil _|exact Sub.refl _|refine Sub.agg ?_|refine Sub.tup ?_|refine Sub.fn ?_|exact SubL.nil|refine SubL.cons ?_ ?_|refine Sub.sl _ ?_|exact SubE.nil|refine SubE.cons ?_ ?_) (λv b c=>?_)
  |refine UpX.o Ng AV.bool c (by first|rfl|kernel_rfl) y3o (by repeat' first|exact Sub.nil _|exact Sub.refl _|refine Sub.agg ?_|refine Sub.tup ?_|refine Sub.fn ?_|exact SubL.nil|refine SubL.cons ?_ ?_|refine Sub.sl _ ?_|exact SubE.nil|refine SubE.cons ?_ ?_) (λl c=>?_)
  |exact⟨_,c,aA []⟩
  |refine aR c (aA []) λm v c=>?_
  |refine AndA ?_
  |exact aB c⟩
instance zuz {n b a}:CI E0 (z1w n b a) true 68 [Bi b,.sl 5 (a.map A5)] aI:=by unfold z1w;exact aH [] Tryz.func68
theorem zzb (a b:Bh):eqK (Bj a) (Bj b)=some (decide (a=b)):=by cases a;cases b;simp[Bj,eqK,eqL,eq1,aI,I8]
def Gk:Option Bg->AV |none=>.nilp |some x=>.ref [aI (x.fa.fVars),aI (x.fa.fScopes),.sl 1 (x.fa.fStates.map Am),.sl 17 (x.fa.fEdges.map Aa),.mapv (List.map (encM Bj A5) (x.fheld))]
def Eu (r:(Option Bg)×Int):AV:=.tup [Gk (r.1),aI (r.2)]
instance z40 {n d c}:CI E0 (Gm n d c) false 60 [Bi d,.sl 5 (c.map A5)] (λr=>.tup [Gk (r.1),aI r.2]):=⟨λ{r} b=>by
 unfold Gm at b;refine cw Tryz.func60 ?_;repeat' first
  |refine aJ ?_;conv=>whnf
  |refine aL b (λb=>?_) λb=>?_
  |refine aU b λa b=>?_
  |refine aD b λx b=>?_
  |refine OpX.nckP rfl rfl rfl rfl rfl ?_
  |refine UpX.o Bj A5 b (by first|rfl|kernel_rfl) zzb (by repeat' first|exact Sub.nil _|exact Sub.refl _|refine Sub.agg ?_|refine Sub.tup ?_|refine Sub.fn ?_|exact SubL.nil|refine SubL.cons ?_ ?_|refine Sub.sl _ ?_|exact SubE.nil|refine SubE.cons ?_ ?_) (λl b=>?_)
  |exact⟨_,b,aA []⟩
  |refine aR b (aA []) λm v b=>?_
  |refine AndA ?_
  |exact aB b⟩
instance y6u {n}:CI E0 (O8 n) false 61 [] A7:=by unfold O8;exact aH [] Tryz.func61
def zda (c:Bg)(b:A1)(a:A8):List (Nat×Ent):=[]
def z0i (r:Bg×A1×A8):List (Nat×Ent):=[(3,.box 128 [.ref [aI r.1.fa.fVars,aI r.1.fa.fScopes,.sl 1 (r.1.fa.fStates.map Am),.sl 17 (r.1.fa.fEdges.map Aa),.mapv (List.map (encM Bj A5) (r.1.fheld))]]),(4,.box 90 (C1 r.2.1)),(5,.box 37 (Bx r.2.2))]
def z21 (r:Bg×A1×A8):AV:=.fn 195 [.ptr 3 0,.ptr 4 0,.ptr 5 0]
def zcz (r:Bg×A1×A8):AS:=⟨[(6,.fn 195 [.ptr 3 0,.ptr 4 0,.ptr 5 0])],z0i r⟩
theorem zaa {n a c b r}(d:z0s n a c b=some r):ConG E0.P none (CalF E0.P 123 0) [.ref [aI a.fa.fVars,aI a.fa.fScopes,.sl 1 (a.fa.fStates.map Am),.sl 17 (a.fa.fEdges.map Aa),.mapv (List.map (encM Bj A5) (a.fheld))],A7 c,A5 b] [] (zda a c b) (z21 r) (z0i r):=by
 unfold z0s at d;refine aM (E:=(E0p 3)) (caps:=[]) _ cU rfl rfl rfl rfl rfl ?_;repeat' first
  |refine aJ ?_;conv=>whnf
  |exact GX.A (res:=z21) (meF:=z0i) d zcz
def z97 (b:(List A1))(a:(List Ac)):List (Nat×Ent):=[(100000,.box 49 [.row 200000]),(200000,.row 90 3 (b.map A7)),(100001,.box 50 [.row 200001]),(200001,.row 64 1 (a.map B1))]
def Ld (r:(List A1)×(List Ac)):List (Nat×Ent):=[(100000,.box 49 [.row 250000]),(250000,.row 90 3 (r.1.map A7)),(100001,.box 50 [.row 250001]),(250001,.row 64 1 (r.2.map B1))]
def z2x (r:(List A1)×(List Ac)):AS:=⟨[(8,.ptr 100000 0),(9,.ptr 100001 0)],Ld r⟩
instance zwt {n c d}:CI E0 (X9 n c d) false 196 [.ref [aI c.fa.fVars,aI c.fa.fScopes,.sl 1 (c.fa.fStates.map Am),.sl 17 (c.fa.fEdges.map Aa),.mapv (List.map (encM Bj A5) (c.fheld))],.sl 4 (d.map B0)] Ds:=⟨λ{r} a=>by
 unfold X9 at a;refine cw Tryz.func196 ?_;repeat' first
  |refine AW.nstO (er:=A5) 37 5 a 13 rfl (λa=>?_)
  |refine AW.frrO (ety:=37) (sz:=5) A5 a 13 rfl (λa=>?_)
  |refine aE a λa=>?_
  |refine aC [7,2] ?_;conv=>whnf
  |refine aL a (λa=>?_) λa=>?_
  |refine cM rfl rfl rfl rfl ?_
  |refine MakX.on a (λm a=>?_)
  |refine aD a λx a=>?_
  |refine bS a rfl rfl rfl rfl rfl rfl rfl rfl (λa=>?_)
  |refine dO A5 a rfl rfl rfl rfl rfl rfl rfl rfl rfl rfl (λq a=>?_)
  |refine dP Bj A5 a zzb rfl rfl rfl rfl rfl rfl rfl rfl rfl rfl (by first|rfl|kernel_rfl) (by repeat' first|exact Sub.nil _|exact Sub.refl _|refine Sub.agg ?_|refine Sub.tup ?_|refine Sub.fn ?_|exact SubL.nil|refine SubL.cons ?_ ?_|refine Sub.sl _ ?_|exact SubE.nil|refine SubE.cons ?_ ?_) (λv b a=>?_)
  |refine aN a λl a=>?_
  |refine dQ A5 a rfl rfl rfl rfl rfl rfl rfl rfl rfl rfl rfl (λl a=>?_)
  |exact⟨_,a,aA []⟩
  |refine aR a (aA []) λm v a=>?_
  |refine AndA ?_
  |refine aO ?_
  |exact aB a⟩
instance y14 {n c b a}:CI E0 (Tg n c b a) true 198 [B9 c,Ds b,A5 a] (λr=>.bool (r)):=by unfold Tg;exact aH [1] Tryz.func198
instance zkj {n c b a}:CI E0 (L9 n c b a) true 197 [B9 c,.ref (Dt b),.ref (Bx a)] (λr=>.bool (r)):=by unfold L9;exact aH [] Tryz.func197
instance zmb {n a b c}:CI E0 (Vh n a b c) true 235 [.sl 11 (a.map B9),.fn 197 [.ref (Dt b),.ref (Bx c)]] aI:=by unfold Vh;exact aH [] cV
instance zio {n a b c}:CI E0 (Uz n a b c) true 175 [.sl 11 (a.map B9),.fn 197 [.ref (Dt b),.ref (Bx c)]] (λr=>.bool (r)):=by unfold Uz;exact aH [] cW
instance zmd {n d c b a}:CI E0 (Ja n d c b a) true 244 [B9 d,.ref (Bs c),.ref (Dt b),.ref (Bx a)] (λr=>.bool (r)):=by unfold Ja;exact aH [1] Tryz.func244
instance zm9 {n a b c d}:CI E0 (Vg n a b c d) true 235 [.sl 11 (a.map B9),.fn 244 [.ref (Bs b),.ref (Dt c),.ref (Bx d)]] aI:=by unfold Vg;exact aH [] cV
instance zin {n a b c d}:CI E0 (Uy n a b c d) true 175 [.sl 11 (a.map B9),.fn 244 [.ref (Bs b),.ref (Dt c),.ref (Bx d)]] (λr=>.bool (r)):=by unfold Uy;exact aH [] cW
set_option maxHeartbeats 400000 in
theorem zuh (l:List (Cel 2))(S:Nat->Prop)(v:Value)(w:World)(h:Sl w S 2 encC v l)(d:l.length<=1000000000) :
  Calls aK 144 #[v] w (Ic 182 2 encC l w):=by
 have eok:EOk aK 88 182 2 16 (encC (n:=2)):=eokC (sz:=2) (Da 88 _ rfl) rfl (Da 182 _ rfl) Ω rfl;obtain⟨A,c,rfl,f,_⟩:=h.form;have a:=λ(W:World)=>Lib.run_eql_slice_nil W 88 182 A l.length c 0 0 aP
 have H:=hide h;cases A with
 |none =>
  have g:l=[]:=h.none_nil;subst g;clear h H d f;simp only[bN,aS]at a ⊢
  go_enter bT,cO
  go_wp2
  go_ret
  exact⟨none,0,rfl,bU,by go_grown⟩
 |some ad =>
  clear h
  go_enter bT,cO
  go_wp2_with (at_builtin;refine Hv rfl _ _ rfl eok rfl aV rfl (H.out.alloc _) Ψ Ω Δ ?_;intro A' i w1 b e _)
  go_ret
  exact⟨A',i,rfl,b,(aV (sz:=2) (enc:=encC (n:=2))).grown ((Below.refl _ _).alloc (aQ _) _) (aQ _) Δ e⟩
theorem zg5 {n a r}(b:C8 n a=some r):ConT E0 144 [.sl 2 (List.map Ai a)] 182 2 (List.map Ai r) (.row 0):=Kb rfl (Ax bT rfl rfl) zuh b
theorem zu3 {n a r}(b:C8 n a=some r):Con E0 false 144 [.sl 2 (List.map Ai a)] (.sl 2 (List.map Ai r)):=(zg5 b).close rfl
instance y15 {n b a}:CI E0 (Ny n b a) true 288 [Ai b,aI a] aI:=by unfold Ny;exact aH [] Tryz.func288
instance zki {n d c}:CI E0 (Q5 n d c) true 287 [.sl 2 (d.map Ai),aI c,.fn 288 []] (λr=>.tup [aI r.1,.bool (r.2)]):=⟨λ{r} b=>by
 unfold Q5 at b;refine cw Tryz.func287 ?_;repeat' first
  |refine aJ ?_;conv=>whnf
  |refine aL b (λb=>?_) λb=>?_
  |refine aD b λx b=>?_
  |refine aU b λa b=>?_
  |exact⟨_,b,aA []⟩
  |refine ShX.o b (λb=>?_)
  |refine aR b (aA []) λm v b=>?_
  |exact aB b⟩
set_option maxRecDepth 100000 in
set_option maxHeartbeats 1600000 in
theorem zos (l:List (Cel 2))(x:Cel 2)(i:Nat)(base:Nat)(A:Option Addr)(c g off c1:Nat)(w:World)(ho:Own w base 182 2 encC (.slice A l.length c) l)
  (N:Xk w g off (encC x)) (bo:1<=c1) (J:(Value.slice A l.length c).ownBlock≠some g) (hi:i<=l.length) (hl:l.length<=1000000000) (C:base<=w.heap.size) :
  Calls aK 289 #[.slice A l.length c,.int .i64 i,.slice (some ⟨g,off,none⟩) 1 c1] w (y4i 182 2 encC base (.slice A l.length c) (l.take i++x::l.drop i) w):=by
 have k:(l.take i++x::l.drop i).length=l.length+1:=Ψ
 have d:(encC x).length=2:=x.2.1;have eok:EOk aK 88 182 2 16 (encC (n:=2)):=eokC (sz:=2) (Da 88 _ rfl) rfl (Da 182 _ rfl) Ω rfl;by_cases bh:i=l.length
 ·subst bh;have bd:Hid (Sl w (λ_=>True) 2 encC (.slice (some ⟨g,off,none⟩) 1 c1) [x]):=Sl.one_x bo N;have H:=hide ho;have bg:Hid (l.take l.length++x::l.drop l.length=l++[x]):=by simp[Hid]
  have hc:l.length<=c:=by obtain⟨_,_,he,h1,_⟩:=ho.val;injection he with _ _ hc;omega
  rw[bg.out];clear ho N J k
  go_enter bM,bQ
  go_wp2_with (at_builtin;refine Hv (v:=.slice A l.length c) rfl _ _ rfl eok rfl H.out rfl bd.out Ψ Ω C ?_;intro A2 c2 w2 bf o aa)
  all_goals (go_ret;exact⟨A2,c2,Δ,bf,by cases A<;>exact o,by cases A<;>exact aa⟩)
 ·rcases ho.2 with⟨hv,h0⟩|⟨h,cn,r,hv,ar,hh,bx,aq,B,m⟩
  ·omega
  injection hv with hA _ bn
  subst hA;subst bn;have bk:h≠g:=λe=>J (by simp[Value.ownBlock,e])
  have bz:i<l.length:=Ω
  have ad:((l.take i).flatMap encC).length=i*2:=by rw[zev (sz:=2) (λy=>y.2.1)];simp;omega
  have L:((l.drop i).flatMap encC).length=(l.length-i)*2:=by rw[zev (sz:=2) (λy=>y.2.1)];simp
  have E:(l.take i).flatMap encC++(l.drop i).flatMap encC=l.flatMap encC:=by rw[<-flatMap_append,cI]
  have p:(l.take i++x::l.drop i).flatMap encC=(l.take i).flatMap encC++encC x++(l.drop i).flatMap encC:=by simp[flatMap_append,flatMap_cons]
  have h2:=zwk eok.one (l.drop i);have K:=eok.one x;have P:r.toList=(l.take i).flatMap encC++(l.drop i).flatMap encC++r.toList.drop (l.length*2):=by rw[E,<-m,cI]
  generalize ch:(l.take i).flatMap encC=F1 at *;generalize cg:(l.drop i).flatMap encC=F2 at *;generalize hX:encC x=X at *;have av:(r.toList.drop (l.length*2)).length=c*2-l.length*2:=by simp[B]
  generalize r.toList.drop (l.length*2)=R at *;obtain⟨r⟩:=r;simp only at P;subst P;generalize hn:l.length=n at *;by_cases V:n+1<=c
  ·have bj:(i:Int)<(n:Int):=Ω
   have f:Blk w h 182 (F1++F2++R).toArray:=hh;have bw:∀lb cb,(callFunc 316 #[.slice (some ⟨g,off,none⟩) 1 c1,.slice (some ⟨h,(i+1)*2,none⟩) lb cb]).run aK w=.ok (.value (.bool false)) w:=λlb cb=>by
    rw[run_callFunc_extern Tryz.func316 (by kernel_rfl) (by kernel_rfl) (by kernel_rfl) (e:=Extern.SlicesOverlaps.overlaps #[88,88] #[4]) (by kernel_rfl),
     zl9 w 88 4 182 aP 2 (λ_=>by kernel_rfl) ⟨g,off,none⟩ ⟨h,(i+1)*2,none⟩ 1 c1 lb cb (λe=>bk e.symm) N.shape 182 (F1++F2++R).toArray.size (f.shape) (by rw[size_toArray,length_append,length_append];omega) (f.frozen _) (f.frozen _)]
    rfl
   have bt:=hide f;have bb:=hide N;have bm:Hid (F2.length=bV (n+1-i) (n-i)*2):=by unfold Hid;rw[show bV (n+1-i) (n-i)=n-i from Nat.min_eq_right Ω];exact L
   have s:Hid (∀(W:World),W.heap=w.heap->∀j u,F2[j]? = some u->W.cell? ((⟨h,i*2,none⟩:Addr).add j)=some u):=λW hW j u I=>by
    have e:Blk W h 182 (F1++F2++R).toArray:=by unfold Blk;rw[hW];exact f
    rw[Addr.add_lit,e.cell];have hj:=(List.getElem?_eq_some_iff.1 I).1;simp only[bL];rw[cD,bO Ω,bD Ω,show i*2+j-F1.length=j by omega];exact I
   have bq:=hide h2;have HL:=hide (bK k (bK p (bK ar B)));have d:=hide d;clear N f hh m J E B ho h2 k p
   go_enter bM,bQ
   go_wp2_with fail
   have T:IntKind.i64.wrap ((i:Int)+1)=(i:Int)+1:=by rw[IntKind.wrap_i64];omega
   have ab:(0:Int)<=(i:Int)+1:=Ω
   have bi:i<=n:=Ω
   have U:((i:Int)+1).toNat=i+1:=Ω
   have aa:¬(c=i+1):=Ω
   have au:(i:Int)<=(n:Int)+1:=Ω
   have cj:¬(c=i):=Ω
   go_region_law (refine zfc rfl _ _ 88 88 rfl 182 2 aP (by kernel_rfl) h ((i+1)*2) (n-i) (c-(i+1)) (n+1-i) (c-i) ⟨h,i*2,none⟩ (by simp[Act.eval,Act.put]) (by simp[Act.eval,Act.put]) 182 (F1++F2++R) bt.out F2 bm.out (s.out _ rfl) Ψ bq.out ?_;intro w1 F Y)
   clear T ab U aa;have az:Hid (Blk w1 h 182 ((F1++F2++R).take (i*2+2)++F2++(F1++F2++R).drop (i*2+2+F2.length)).toArray):=by
    have e:(i+1)*2=i*2+2:=Ω
    rw[e]at F;exact F
   have ac:Hid (∀j u,X[j]? = some u->w1.cell? ((⟨g,off,none⟩:Addr).add j)=some u):=λj u I=>by
    have e:Xk w1 g off X:=Xk.grown (w:=w.drew) bb.out Y Ψ;rw[Addr.add_lit];exact e.cell I
   have ap:=hide (z37 Y);have D:=hide K;clear F Y K
   go_wp2_with (refine zc6 rfl (.tmp 80) (.tmp 81) 88 88 rfl 182 2 aP (by kernel_rfl) h (i*2) (n+1-i) (c-i) 1 c1 ⟨g,off,none⟩ rfl rfl 182 _ az.out X (by rw[show bV 1 (n+1-i)=1 from cK Ω];exact d.out) ac.out (by have:=d.out;have:=av;simp;omega) D.out ?_;intro w2 M o)
   go_ret
   have a:=HL.out;refine⟨some ⟨h,0,none⟩,c,by show Ending.returned (.slice (some ⟨h,0,none⟩) (n+1) c)=_;rw[a.1],Own.of_blk M a.2.2.1 (by rw[a.1];exact V) aq (by have:=d.out;have:=av;simp;omega) ?_ (λy=>y.2.1),zft ap.out o,bJ rfl⟩;rw[a.1,a.2.1,<-zk1 F1 F2 R X (i*2) 2 ((n-i)*2) ad L d.out Ω];congr 1;omega
  ·have f:Blk w h 182 (F1++F2++R).toArray:=hh;obtain⟨i0,z,al,ah,af,S,ag⟩:=eok.inf;have ak:i+(n+1-i)=n+1:=Ω
   have aj:(n:Int)+1-(i:Int)=((n+1-i:Nat):Int):=Ω
   have ce:h < w.heap.size:=f.lt;have cd:g<w.heap.size:=N.lt;have O:(Builtin.firstCells i0.size i (.slice (some ⟨h,0,none⟩) i c)).run aK w.drew=.ok F1.toArray w.drew:=by
    rw[af];refine run_firstCells_some w.drew 2 i ⟨h,0,none⟩ i c F1 ad (λj v hj=>?_);have ca:=(List.getElem?_eq_some_iff.1 hj).1;rw[Addr.add_lit];refine(f.cell _).trans ?_;simp only[bL,Nat.zero_add];rw[cD,bD Ω];exact hj
   have t:=λty=>Lib.run_append_grow_zeros w 88 3 ty 182 i0 z .i64 .i64 eok.und Tryz.underlying3 al ah (some ⟨h,0,none⟩) i c F1 O (n+1-i) Ω Ω Ω Ω (by rw[S];omega) (by rw[S,ak];exact growslice_fits Ω Ω)
   rw[ak]at t;obtain⟨G,hG⟩:∃G,G=grownCap w (n+1) c 182:=⟨_,rfl⟩;rw[<-hG]at t;have br:n+1<=G:=by rw[hG];exact grownCap_ge w _ _ _
   have Q:G<=maxLen:=by rw[hG];exact grownCap_le_maxLen w (n+1) c 182 (by unfold maxLen;omega)
   obtain⟨Z,hZ,ck⟩:∃Z:List Value,F1.toArray++Builtin.zeroCells z.cells (n+1-i)++Builtin.zeroCells z.cells (G-(n+1))=(F1++Z).toArray/\Z.length=(G-i)*2 :=
    ⟨(Builtin.zeroCells z.cells (n+1-i)).toList++(Builtin.zeroCells z.cells (G-(n+1))).toList,by simp[Array.append_assoc],by simp[size_zeroCells,ag];omega⟩
   rw[hZ]at t;obtain⟨W1,q⟩:∃W1,W1=w.drew.alloc (.cells (F1++Z).toArray 182):=⟨_,rfl⟩;have bs:Hid (Blk W1 w.heap.size 182 (F1++Z).toArray):=by rw[q];exact Blk.new w.drew _ _
   have ba:Hid (Xk W1 g off X):=by rw[q];exact Xk.alloc (w:=w.drew) N _
   have F:Hid (Blk W1 h 182 (F1++F2++R).toArray):=by rw[q];exact Blk.alloc (w:=w.drew) f _
   have bl:Hid (∀b,W1.grownBy b (some w.heap.size)->∀row,w.grownBy b row):=λb hb row=>by
    rw[q]at hb;exact z37 (zfu hb row)
   have ai:Hid (∀ty,(Builtin.append_ #[88,3] ty #[.slice (some ⟨h,0,none⟩) i c,.int .i64 ((n:Int)+1-(i:Int))]).run aK w=.ok (.slice (some ⟨w.heap.size,0,none⟩) (n+1) G) W1):=λty=>by
    rw[aj,q];exact t ty
   have ac:Hid (∀j u,X[j]? = some u->W1.cell? ((⟨g,off,none⟩:Addr).add j)=some u):=λj u I=>by
    rw[Addr.add_lit];exact ba.out.cell I
   have HL:=hide (bK k (bK p (bK ar B)));have d:=hide d;have D:=hide K;have bu:=hide h2;have aw:Hid (F2.length=bV (n-i) (n-i)*2):=by unfold Hid;rw[show bV (n-i) (n-i)=n-i from Nat.min_self _];exact L
   have bj:(i:Int)<(n:Int):=Ω
   have cc:(c:Int)<(n:Int)+1:=Ω
   have bi:i<=n:=Ω
   have ci:¬(c=i):=Ω
   have cm:¬(G=i):=Ω
   have bv:¬(G=i+1):=Ω
   have cl:G<=9223372036854775807:=by unfold maxLen at Q;omega
   clear N f hh m J E B ho h2 k p K t O q hZ hG aj af S ag ah al aq
   go_enter bM,bQ
   go_wp2_with (first|(at_builtin;refine Lib.wpList_append_run _ rfl _ _ _ _ rfl _ _ rfl rfl _ _ (ai.out _) ?_)|(refine zc6 rfl (.tmp 43) (.tmp 44) 88 88 rfl 182 2 aP (by kernel_rfl) w.heap.size (i*2) (n+1-i) (G-i) 1 c1 ⟨g,off,none⟩ rfl rfl 182 _ bs.out X (by rw[show bV 1 (n+1-i)=1 from cK Ω];exact d.out) ac.out (by have:=d.out;simp;omega) D.out ?_;intro w2 M o))
   have cf:h≠w.heap.size:=Ω
   have s:Hid (∀j u,F2[j]? = some u->w2.cell? ((⟨h,i*2,none⟩:Addr).add j)=some u):=λj u I=>by
    have e:Blk w2 h 182 (F1++F2++R).toArray:=F.out.grown o Ψ;rw[Addr.add_lit,e.cell];have hj:=(List.getElem?_eq_some_iff.1 I).1;simp only[bL];rw[cD,bO Ω,bD Ω,show i*2+j-F1.length=j by omega];exact I
   have ao:=hide o;have ay:=hide M;have T:IntKind.i64.wrap ((i:Int)+1)=(i:Int)+1:=by rw[IntKind.wrap_i64];omega
   have ab:(0:Int)<=(i:Int)+1:=Ω
   have U:((i:Int)+1).toNat=i+1:=Ω
   have au:(i:Int)<=(n:Int):=Ω
   have bp:(i:Int)+1<=(n:Int)+1:=Ω
   clear o M
   go_region_law (refine zfc rfl _ _ 88 88 rfl 182 2 aP (by kernel_rfl) w.heap.size ((i+1)*2) (n-i) (G-(i+1)) (n-i) (c-i) ⟨h,i*2,none⟩ (by simp[Act.eval,Act.put]) (by simp[Act.eval,Act.put]) 182 _ ay.out F2 aw.out s.out (by have:=d.out;simp;omega) bu.out ?_;intro w3 ae an)
   clear T ab U au bp;have ax:Hid (Blk w3 w.heap.size 182 (((F1++Z).take (i*2)++X++(F1++Z).drop (i*2+X.length)).take (i*2+2)++F2++((F1++Z).take (i*2)++X++(F1++Z).drop (i*2+X.length)).drop (i*2+2+F2.length)).toArray):=by
    have e:(i+1)*2=i*2+2:=Ω
    rw[e]at ae;exact ae
   have am:=hide (z37 an);clear ae an
   go_wp2
   go_ret
   have a:=HL.out;have bc:=d.out;refine⟨some ⟨w.heap.size,0,none⟩,G,by show Ending.returned (.slice (some ⟨w.heap.size,0,none⟩) (n+1) G)=_;rw[a.1],Own.of_blk ax.out C (by rw[a.1];exact br) Q Ψ ?_ (λy=>y.2.1),bl.out _ (zft ao.out am.out) _,aY rfl⟩;rw[a.1,a.2.1,<-zsz F1 F2 Z X (i*2) 2 ((n-i)*2) ad L bc Ω];congr 1;omega
theorem zmm {n a v r i}(b:U2 n a i v=some r):ConC false E0 289 [.row 0,aI i,.sl 2 (List.map Ai v)] 182 2 (List.map Ai a) 182 2 (List.map Ai r) (.row 0):=y0i rfl (Ax bM rfl rfl) Ω zos b
end
noncomputable section
abbrev ziw {n d a b}:=li (K4 n d a b) (λc=>⟨[(2,aI d),(7,.row 7013),(14,.sl 1 (a.map aI)),(15,aI (((a.map aI).length:Int))),(16,aI c.1)],[(7013,.row 182 2 (c.2.map Ai))]⟩) λ_ _=>K4.eq_2 ..
abbrev z5j {n b a c}:=li (Pq n b a c) (λd=>⟨[(0,.sl 2 (a.map Ai)),(1,.fn 291 [.ref (zah b)]),(7,aI (((a.map Ai).length:Int))),(8,aI d)],[]⟩) λ_ _=>Pq.eq_2 ..
abbrev ziz {n e a f b c}:=jf (Nr n e a f b c) (λd=>⟨[(0,.sl 2 (f.map Ai)),(2,aI e),(10,.sl 2 (a.map Bw)),(11,aI (((a.map Bw).length:Int))),(12,aI b),(32,.bool (d))],[]⟩) λ_=>Nr.eq_1 ..
abbrev ziy {n d a e b}:=li (K5 n d a e b) (λc=>⟨[(0,.sl 2 (e.map Ai)),(2,aI d),(10,.sl 2 (a.map Bw)),(11,aI (((a.map Bw).length:Int))),(12,aI c)],[]⟩) λ_ _=>K5.eq_2 ..
abbrev z5i {n b a c}:=li (Pp n b a c) (λd=>⟨[(0,.sl 2 (a.map Ai)),(1,.fn 250 [.ref (Bs b)]),(7,aI (((a.map Ai).length:Int))),(8,aI d)],[]⟩) λ_ _=>Pp.eq_2 ..
abbrev zbn {n c}:=li (Ml n c) (λb=>⟨[(0,.row 200001),(1,.fn 250 [.ptr 100000 0]),(5,aI b.1),(6,aI b.2.1)],[(100000,.box 149 [aI b.2.2.1,aI b.2.2.2.1,aI b.2.2.2.2.1,aI b.2.2.2.2.2.1,aI b.2.2.2.2.2.2.1,.sl 8 (b.2.2.2.2.2.2.2.1.map idA),aI b.2.2.2.2.2.2.2.2.1,aI b.2.2.2.2.2.2.2.2.2.1,aI b.2.2.2.2.2.2.2.2.2.2.1,aI b.2.2.2.2.2.2.2.2.2.2.2.1,aI b.2.2.2.2.2.2.2.2.2.2.2.2.1,.str (b.2.2.2.2.2.2.2.2.2.2.2.2.2.1),.sl 1 (b.2.2.2.2.2.2.2.2.2.2.2.2.2.2.1.map aI),.sl 1 (b.2.2.2.2.2.2.2.2.2.2.2.2.2.2.2.1.map aI),.sl 8 (b.2.2.2.2.2.2.2.2.2.2.2.2.2.2.2.2.1.map idA),.sl 2 (b.2.2.2.2.2.2.2.2.2.2.2.2.2.2.2.2.2.1.map Bw),.sl 1 (b.2.2.2.2.2.2.2.2.2.2.2.2.2.2.2.2.2.2.1.map aI)]),(200001,.row 182 2 (b.2.2.2.2.2.2.2.2.2.2.2.2.2.2.2.2.2.2.2.map Ai))]⟩) λ_ _=>Ml.eq_2 ..
abbrev z8n {n f a g e c b}:=li (Qm n f a g e c b) (λd=>⟨[(6,.ptr 6 0),(7,.ptr 7 0),(9,.ptr 9 0),(10,.ptr 10 0),(12,.row 52),(13,.ptr 13 0),(81,.sl 8 (a.fChecks.map idA)),(82,aI (((a.fChecks.map idA).length:Int))),(83,aI d)],[(6,.box 90 (C1 g)),(7,.box 149 (Bs a)),(9,.box 37 (Bx f)),(10,.box 90 [aI 0,.nils,.nils]),(13,.box 271 [.row 63]),(52,.row 182 2 (e.map Ai)),(63,.row 29 1 (List.map (λq=>AV.sl 5 (List.map A5 q)) (c)))]⟩) λ_ _=>Qm.eq_2 ..
abbrev z8o {n a c d e}:=jf (G9 n a c d e) (λb=>⟨[(6,.ptr 6 0),(7,.ptr 7 0),(8,.ptr 8 0),(9,.ptr 9 0),(10,.ptr 10 0),(44,.bool (b))],[(6,.box 90 (C1 e)),(7,.box 149 (Bs d)),(8,.box 271 (Dt c)),(9,.box 37 (Bx a)),(10,.box 90 [aI 0,.nils,.nils])]⟩) λ_=>G9.eq_1 ..
attribute [instance] ziw z5j ziz ziy z5i zbn z8n z8o
def zd6 (r:(List Ap)):AV:=.row 0
theorem zkp {n e d c r}(b:Xu n e d c=some r):ConT E0 245 [.sl 2 (e.map Ai),.sl 1 (d.map aI),aI c] 182 2 (r.map Ai) (zd6 r):=by
 unfold Xu at b;refine ConT.walk _ cX rfl (Ax cX rfl rfl) rfl rfl ?_;repeat' first
  |refine AW.jI2 b (λv b=>?_) λb=>?_
  |refine aE b λb=>?_
  |refine aC [6] ?_;conv=>whnf
  |refine aL b (λb=>?_) λb=>?_
  |refine cT b (λr=>r) Ai (λ_=>AV.row 0) rfl (λa h=>zg5 h) (λa b=>?_)
  |refine aD b λx b=>?_
  |refine dG b (λa b=>?_) rfl rfl λ_=>aY rfl
  |refine cF b (λm b=>?_)
  |refine LtX.o b (λb=>?_)
  |refine SetX.o Ai b (λx=>rfl) (λx=>(by first|exact bG _|(repeat' first|exact SubL.nil|refine SubL.cons ?_ ?_|exact Sub.refl _|exact Sub.nil _|refine Sub.agg ?_))) (λl b=>?_)
  |exact⟨_,b,aA [(7013,7033)]⟩
  |refine B5.oC b 7013 (λr=>r) Ai (λ_=>AV.row 0) rfl (λa h=>zmm h) rfl rfl rfl rfl rfl rfl (λa b=>?_)
  |exact⟨_,b,aA [(7033,33)]⟩
  |exact⟨_,b,aA [(7033,7013)]⟩
  |refine aR b ?_ λm v b=>?_
  |exact aA [(7013,13)]
  |refine TX.o (rl:=λr=>r.map Ai) (res:=zd6) b ?_;exact TX.mk _ 7013 (LeX.refl _ _ _) _ rfl rfl (by repeat' first|exact Sub.nil _|exact Sub.refl _|refine Sub.agg ?_|refine Sub.tup ?_|refine Sub.fn ?_|exact SubL.nil|refine SubL.cons ?_ ?_|refine Sub.sl _ ?_|exact SubE.nil|refine SubE.cons ?_ ?_)
instance y16 {n b a}:CI E0 (Xo n b a) true 291 [Ai b,.ref (zah a)] (λr=>.bool (r)):=by unfold Xo;exact aH [] Tryz.func291
instance zm8 {n a b}:CI E0 (Vf n a b) true 290 [.sl 2 (a.map Ai),.fn 291 [.ref (zah b)]] aI:=by unfold Vf;exact aH [] cY
instance y4n {n e d c}:CI E0 (Xv n e d c) true 246 [.sl 2 (e.map Ai),.sl 2 (d.map Bw),aI c] (λr=>.bool (r)):=⟨λ{r} b=>by
 unfold Xv at b;refine cw Tryz.func246 ?_;repeat' first
  |refine bC b (λv b=>?_) λb=>?_
  |refine aE b λb=>?_
  |refine aC [5] ?_;conv=>whnf
  |refine aL b (λb=>?_) λb=>?_
  |refine aD b λx b=>?_
  |refine dG b (λa b=>?_) rfl rfl λ_=>aY rfl
  |exact⟨_,b,aA []⟩
  |refine aR b (aA []) λm v b=>?_
  |refine AndA ?_
  |exact aB b⟩
set_option maxHeartbeats 400000 in
theorem zud (l:List (Cel 1))(S:Nat->Prop)(v:Value)(w:World)(h:Sl w S 1 encC v l)(d:l.length<=1000000000) :
  Calls aK 247 #[v] w (Ic 29 1 encC l w):=by
 have eok:EOk aK 269 29 1 24 (encC (n:=1)):=eokC (sz:=1) (Da 269 _ rfl) rfl (Da 29 _ rfl) Ω rfl;obtain⟨A,c,rfl,f,_⟩:=h.form;have a:=λ(W:World)=>Lib.run_eql_slice_nil W 269 29 A l.length c 0 0 Tryz.underlying269
 have H:=hide h;cases A with
 |none =>
  have g:l=[]:=h.none_nil;subst g;clear h H d f;simp only[bN,aS]at a ⊢
  go_enter bW,cP
  go_wp2
  go_ret
  exact⟨none,0,rfl,bU,by go_grown⟩
 |some ad =>
  clear h
  go_enter bW,cP
  go_wp2_with (at_builtin;refine Hv rfl _ _ rfl eok rfl aV rfl (H.out.alloc _) Ψ Ω Δ ?_;intro A' i w1 b e _)
  go_ret
  exact⟨A',i,rfl,b,(aV (sz:=1) (enc:=encC (n:=1))).grown ((Below.refl _ _).alloc (aQ _) _) (aQ _) Δ e⟩
theorem zq2 {n a r}(b:C8 n a=some r):ConT E0 247 [.sl 1 (List.map (λq=>AV.sl 5 (List.map A5 q)) a)] 29 1 (List.map (λq=>AV.sl 5 (List.map A5 q)) r) (.row 0):=Kb rfl (Ax bW rfl rfl) zud b
set_option maxHeartbeats 400000 in
theorem zuc (l:List (Cel 5))(S:Nat->Prop)(v:Value)(w:World)(h:Sl w S 5 encC v l)(d:l.length<=1000000000) :
  Calls aK 248 #[v] w (Ic 37 5 encC l w):=by
 have eok:EOk aK 29 37 5 56 (encC (n:=5)):=eokC (sz:=5) (Da 29 _ rfl) rfl (Da 37 _ rfl) Ω rfl;obtain⟨A,c,rfl,f,_⟩:=h.form;have a:=λ(W:World)=>Lib.run_eql_slice_nil W 29 37 A l.length c 0 0 Tryz.underlying29
 have H:=hide h;cases A with
 |none =>
  have g:l=[]:=h.none_nil;subst g;clear h H d f;simp only[bN,aS]at a ⊢
  go_enter bX,cQ
  go_wp2
  go_ret
  exact⟨none,0,rfl,bU,by go_grown⟩
 |some ad =>
  clear h
  go_enter bX,cQ
  go_wp2_with (at_builtin;refine Hv rfl _ _ rfl eok rfl aV rfl (H.out.alloc _) Ψ Ω Δ ?_;intro A' i w1 b e _)
  go_ret
  exact⟨A',i,rfl,b,(aV (sz:=5) (enc:=encC (n:=5))).grown ((Below.refl _ _).alloc (aQ _) _) (aQ _) Δ e⟩
theorem zq1 {n a r}(b:C8 n a=some r):ConT E0 248 [.sl 5 (List.map A5 a)] 37 5 (List.map A5 r) (.row 0):=Kb rfl (Ax bX rfl rfl) zuc b
instance zmc {n b a}:CI E0 (M4 n b a) true 250 [Ai b,.ref (Bs a)] (λr=>.bool (r)):=by unfold M4;exact aH [] bY
instance zm7 {n a b}:CI E0 (Ve n a b) true 290 [.sl 2 (a.map Ai),.fn 250 [.ref (Bs b)]] aI:=by unfold Ve;exact aH [] cY
def z43 (b:Ap)(a:Ah):List (Nat×Ent):=[(100000,.box 149 (Bs a))]
def Z1 (r:Bool×Ah):List (Nat×Ent):=[(100000,.box 149 (Bs r.2))]
def z00 (r:Bool×Ah):AV:=.bool (r.1)
def z41 (r:Bool×Ah):AS:=⟨[(3,.bool (r.1)),(1,.ptr 100000 0)],Z1 r⟩
theorem z3l {n c d r}(b:Pb n c d=some r):ConG E0.P none (CalF E0.P 250 0) [Ai c,.ptr 100000 0] [] (z43 c d) (z00 r) (Z1 r):=by
 unfold Pb at b;refine aM (E:=(E0p 2)) (caps:=[]) _ bY rfl rfl rfl rfl rfl ?_;repeat' first
  |refine aJ ?_;conv=>whnf
  |refine aU b λa b=>?_
  |exact GX.A (res:=z00) (meF:=Z1) b z41
def zf7 (b:Ah)(a:(List Ap)):List (Nat×Ent):=[(100000,.box 149 (Bs b)),(200001,.row 182 2 (a.map Ai))]
def Wd (r:(List Ap)×Ah):List (Nat×Ent):=[(260000,.row 182 2 (r.1.map Ai)),(100000,.box 149 (Bs r.2))]
def z1e (r:(List Ap)×Ah):AV:=.row 260000
def z4r (r:(List Ap)×Ah):AS:=⟨[(4,.row 260000),(1,.fn 250 [.ptr 100000 0])],Wd r⟩
theorem zcm {n d c r}(b:Wn n d c=some r):ConG E0.P none (CalF E0.P 249 0) [.row 200001,.fn 250 [.ptr 100000 0]] [] (zf7 d c) (z1e r) (Wd r):=by
 unfold Wn at b;refine aM (E:=(E0p 2)) (caps:=[]) _ cZ rfl rfl rfl rfl rfl ?_;repeat' first
  |refine aJ ?_;conv=>whnf
  |refine aL b (λb=>?_) λb=>?_
  |refine dG b (λa b=>?_) rfl rfl λ_=>aY rfl
  |refine GX.o (res:=z1e) (meF:=Wd) b ?_;exact GX.mk (z4r _) (aA [(260000,200001)]) rfl _ rfl (by repeat' first|exact Sub.nil _|exact Sub.refl _|refine Sub.agg ?_|refine Sub.tup ?_|refine Sub.fn ?_|exact SubL.nil|refine SubL.cons ?_ ?_|refine Sub.sl _ ?_|exact SubE.nil|refine SubE.cons ?_ ?_) [100000] ⟨aY ⟨1,0,_,_,_,_,_,aT rfl,rfl,rfl,rfl,rfl,rfl⟩,trivial⟩ rfl
  |refine OpX.sub b rfl rfl rfl rfl rfl rfl rfl rfl rfl rfl (λm b=>?_)
  |refine OpX.clr Ai b rfl rfl rfl rfl rfl rfl rfl rfl rfl rfl rfl (by first|exact bG _|(repeat' first|exact SubL.nil|refine SubL.cons ?_ ?_|exact Sub.refl _|exact Sub.nil _|refine Sub.agg ?_)) (λl b=>?_)
  |refine cG Ai b (λl b=>?_)
  |refine GX.o (res:=z1e) (meF:=Wd) b ?_;exact GX.mk (z4r _) (aA [(260000,41)]) rfl _ rfl (by repeat' first|exact Sub.nil _|exact Sub.refl _|refine Sub.agg ?_|refine Sub.tup ?_|refine Sub.fn ?_|exact SubL.nil|refine SubL.cons ?_ ?_|refine Sub.sl _ ?_|exact SubE.nil|refine SubE.cons ?_ ?_) [100000] ⟨aY ⟨1,0,_,_,_,_,_,aT rfl,rfl,rfl,rfl,rfl,rfl⟩,trivial⟩ rfl
  |refine cF b (λm b=>?_)
  |refine EltX.o Ai b (λx b=>?_)
  |refine bH (Be 28 b) [(100000,100000)] [(100000,100000)] _ _ Z1 z00 [] (λa h=>aG (z3l h)) (Ax bY rfl rfl) rfl rfl rfl ⟨⟨rfl,rfl⟩,trivial⟩ (λa=>⟨rfl,rfl,rfl,rfl,rfl,rfl,rfl,rfl⟩) (λa b=>?_)
  |refine SetX.o Ai b (λx=>rfl) (λx=>(by first|exact bG _|(repeat' first|exact SubL.nil|refine SubL.cons ?_ ?_|exact Sub.refl _|exact Sub.nil _|refine Sub.agg ?_))) (λl b=>?_)
  |exact⟨_,b,aA []⟩
  |refine aR b (aA []) λm v b=>?_
  |refine aO ?_
set_option maxHeartbeats 400000 in
theorem zui (l:List (Cel 4))(S:Nat->Prop)(v:Value)(w:World)(h:Sl w S 4 encC v l)(d:l.length<=1000000000) :
  Calls aK 143 #[v] w (Ic 93 4 encC l w):=by
 have eok:EOk aK 62 93 4 32 (encC (n:=4)):=eokC (sz:=4) (Da 62 _ rfl) rfl (Da 93 _ rfl) Ω rfl;obtain⟨A,c,rfl,f,_⟩:=h.form;have a:=λ(W:World)=>Lib.run_eql_slice_nil W 62 93 A l.length c 0 0 Tryz.underlying62
 have H:=hide h;cases A with
 |none =>
  have g:l=[]:=h.none_nil;subst g;clear h H d f;simp only[bN,aS]at a ⊢
  go_enter bZ,cR
  go_wp2
  go_ret
  exact⟨none,0,rfl,bU,by go_grown⟩
 |some ad =>
  clear h
  go_enter bZ,cR
  go_wp2_with (at_builtin;refine Hv rfl _ _ rfl eok rfl aV rfl (H.out.alloc _) Ψ Ω Δ ?_;intro A' i w1 b e _)
  go_ret
  exact⟨A',i,rfl,b,(aV (sz:=4) (enc:=encC (n:=4))).grown ((Below.refl _ _).alloc (aQ _) _) (aQ _) Δ e⟩
theorem zg6 {n a r}(b:C8 n a=some r):ConT E0 143 [.sl 4 (List.map B0 a)] 93 4 (List.map B0 r) (.row 0):=Kb rfl (Ax bZ rfl rfl) zui b
theorem zu4 {n a r}(b:C8 n a=some r):Con E0 false 143 [.sl 4 (List.map B0 a)] (.sl 4 (List.map B0 r)):=(zg6 b).close rfl
end
noncomputable section
abbrev z3v {n d c}:=li (Kq n d c) (λb=>⟨[(0,.row 200000),(1,.fn 128 [.ref [.fn 64 []]]),(5,aI b.1),(6,.der (.sub 1 (d)) 200000),(7,aI b.2.1)],[(200000,.row 64 1 (b.2.2.map B1))]⟩) λ_ _=>Kq.eq_2 ..
abbrev z3w {n a b}:=li (Pa n a b) (λc=>⟨[(0,.row 200000),(1,.fn 128 [.ref [.fn 64 []]]),(5,aI c)],[(200000,.row 64 1 (a.map B1))]⟩) λ_ _=>Pa.eq_2 ..
abbrev z8p {n e d a c}:=li (Qn n e d a c) (λb=>⟨[(0,.ref [aI a.fa.fVars,aI a.fa.fScopes,.sl 1 (a.fa.fStates.map Am),.sl 17 (a.fa.fEdges.map Aa),.mapv (List.map (encM Bj A5) (a.fheld))]),(5,.ptr 5 0),(8,.ptr 8 0),(9,.ptr 9 0),(13,.sl 3 (d.map A7)),(14,aI (((d.map A7).length:Int))),(15,aI b.1)],[(5,.box 37 (Bx e)),(8,.box 49 [.row 811000001]),(9,.box 50 [.row 811000003]),(811000001,.row 90 3 (b.2.1.map A7)),(811000003,.row 64 1 (b.2.2.map B1))]⟩) λ_ _=>Qn.eq_2 ..
attribute [instance] z3v z3w z8p
instance zpp {n c g f e d}:CI E0 (S4 n c g f e d) false 199 [.ref [aI c.fa.fVars,aI c.fa.fScopes,.sl 1 (c.fa.fStates.map Am),.sl 17 (c.fa.fEdges.map Aa),.mapv (List.map (encM Bj A5) (c.fheld))],A7 g,Aa f,Ds e,A5 d] (λr=>.tup [A7 r.1,.bool (r.2)]):=⟨λ{r} b=>by
 unfold S4 at b;refine cw Tryz.func199 ?_;repeat' first
  |refine bC b (λv b=>?_) λb=>?_
  |refine aE b λb=>?_
  |refine aC [1] ?_;conv=>whnf
  |refine aL b (λb=>?_) λb=>?_
  |refine aZ ?_
  |refine cT b (λr=>r) Ai zd6 rfl (λa h=>zkp h) (λa b=>?_)
  |refine dG b (λa b=>?_) rfl rfl λ_=>aY rfl
  |refine cT b (λr=>r) (λq=>AV.sl 5 (List.map A5 q)) (λ_=>AV.row 0) rfl (λa h=>zq2 h) (λa b=>?_)
  |refine cH (λq=>AV.sl 5 (List.map A5 q)) b λx b=>?_
  |refine cT b (λr=>r) A5 (λ_=>AV.row 0) rfl (λa h=>zq1 h) (λa b=>?_)
  |refine aN b λl b=>?_
  |refine cF b (λm b=>?_)
  |refine OpX.str A5 b rfl rfl rfl rfl rfl rfl rfl rfl rfl rfl rfl (λl b=>?_)
  |refine bH (Be 96 b) [(100000,7),(200001,52)] [(260000,97000000),(100000,7)] _ _ Wd z1e [52] (λa h=>aG (zcm h)) (Ax cZ rfl rfl) rfl rfl rfl ⟨⟨rfl,rfl⟩,⟨⟨rfl,rfl⟩,trivial⟩⟩ (λa=>⟨rfl,rfl,rfl,rfl,rfl,rfl,rfl,rfl⟩) (λa b=>?_)
  |refine cT b (λr=>r) B0 (λ_=>AV.row 0) rfl (λa h=>zg6 h) (λa b=>?_)
  |refine aU b λa b=>?_
  |refine dA b D2 (λx b=>?_)
  |refine B5.o b zut (λa h=>Con.sub (by repeat' first|exact Sub.nil _|exact Sub.refl _|refine Sub.agg ?_|refine Sub.tup ?_|refine Sub.fn ?_|exact SubL.nil|refine SubL.cons ?_ ?_|refine Sub.sl _ ?_|exact SubE.nil|refine SubE.cons ?_ ?_) (zmj.h h)) (λ_=>aY rfl) (λa b=>?_)
  |exact⟨_,b,aA []⟩
  |refine aR b (aA []) λm v b=>?_
  |refine cM rfl rfl rfl rfl ?_
  |refine aD b λx b=>?_
  |refine AndA ?_
  |exact aB b⟩
def z3a (yl_l:Nat)(yl_T:Array Value)(c:A8)(d:A1)(a:Bg)(e:Av)(b:Int×(List A1)×(List Ac)):AS:=⟨[(0,.yld yl_l yl_T [.any,.any,.any,.any,.any,.any,.any,.any,.ptr 100000 0,.ptr 100001 0]),(1,.ptr 100002 0),(2,.ptr 100003 0),(3,.ptr 100004 0),(5,.ptr 5 0),(39,.sl 17 (a.fa.fEdges.map Aa)),(40,aI (((a.fa.fEdges.map Aa).length:Int))),(41,aI (b.1))],[(100000,.box 49 [.row 33000001]),(100001,.box 50 [.row 33000003]),(100002,.box 128 [.ref [aI (a.fa.fVars),aI (a.fa.fScopes),.sl 1 (a.fa.fStates.map Am),.sl 17 (a.fa.fEdges.map Aa),.mapv (List.map (encM Bj A5) (a.fheld))]]),(100003,.box 90 [aI (d.fState),.sl 4 (d.fBindings.map B0),.sl 2 (d.fStarts.map Ai)]),(100004,.box 37 [aI (c.fSource),aI (c.fSeq),aI (c.fType),aI (c.fTime),.sl 3 (c.fValues.map Ag)]),(5,.box 271 [.sl 1 (List.map (λq=>AV.sl 5 (List.map A5 q)) (e.fVars))]),(33000001,.row 90 3 (b.2.1.map A7)),(33000003,.row 64 1 (b.2.2.map B1))]⟩
theorem z34 {n yl_l yl_R yl_T c d e a b}:yak (E0y yl_l yl_R 4) 67 (Ij n c d e a b) (z3a yl_l yl_T c d e a):=LoopA.oT λ_=>rfl
def z38 (yl_l:Nat)(yl_T:Array Value)(c:A8)(d:A1)(a:Bg)(e:Av)(b:Int×(List A1)×(List Ac)):AS:=⟨[(0,.yld yl_l yl_T [.any,.any,.any,.any,.any,.any,.any,.any,.ptr 100000 0,.ptr 100001 0]),(1,.ptr 100002 0),(2,.ptr 100003 0),(3,.ptr 100004 0),(5,.ptr 5 0),(39,.sl 17 (a.fa.fEdges.map Aa)),(40,aI (((a.fa.fEdges.map Aa).length:Int))),(41,aI (b.1))],[(100000,.box 49 [.row 200000]),(100001,.box 50 [.row 200001]),(100002,.box 128 [.ref [aI (a.fa.fVars),aI (a.fa.fScopes),.sl 1 (a.fa.fStates.map Am),.sl 17 (a.fa.fEdges.map Aa),.mapv (List.map (encM Bj A5) (a.fheld))]]),(100003,.box 90 [aI (d.fState),.sl 4 (d.fBindings.map B0),.sl 2 (d.fStarts.map Ai)]),(100004,.box 37 [aI (c.fSource),aI (c.fSeq),aI (c.fType),aI (c.fTime),.sl 3 (c.fValues.map Ag)]),(5,.box 271 [.sl 1 (List.map (λq=>AV.sl 5 (List.map A5 q)) (e.fVars))]),(200000,.row 90 3 (b.2.1.map A7)),(200001,.row 64 1 (b.2.2.map B1))]⟩
theorem z33 {n yl_l yl_R yl_T c d e a b}:yak (E0y yl_l yl_R 4) 67 (Ii n c d e a b) (z38 yl_l yl_T c d e a):=LoopA.oT λ_=>rfl
def z44 (e:(List A1))(d:(List Ac))(a:Bg)(c:A1)(b:A8):List (Nat×Ent):=[(100000,.box 49 [.row 200000]),(200000,.row 90 3 (e.map A7)),(100001,.box 50 [.row 200001]),(200001,.row 64 1 (d.map B1)),(100002,.box 128 [.ref [aI a.fa.fVars,aI a.fa.fScopes,.sl 1 (a.fa.fStates.map Am),.sl 17 (a.fa.fEdges.map Aa),.mapv (List.map (encM Bj A5) (a.fheld))]]),(100003,.box 90 (C1 c)),(100004,.box 37 (Bx b))]
def Ur (r:(List A1)×(List Ac)×Bg×A1×A8):List (Nat×Ent):=[(100000,.box 49 [.row 250000]),(250000,.row 90 3 (r.1.map A7)),(100001,.box 50 [.row 250001]),(250001,.row 64 1 (r.2.1.map B1)),(100002,.box 128 [.ref [aI r.2.2.1.fa.fVars,aI r.2.2.1.fa.fScopes,.sl 1 (r.2.2.1.fa.fStates.map Am),.sl 17 (r.2.2.1.fa.fEdges.map Aa),.mapv (List.map (encM Bj A5) (r.2.2.1.fheld))]]),(100003,.box 90 (C1 r.2.2.2.1)),(100004,.box 37 (Bx r.2.2.2.2))]
def z01 (r:(List A1)×(List Ac)×Bg×A1×A8):AV:=.tup []
def z1u (yl_l:Nat)(yl_T:Array Value)(r:(List A1)×(List Ac)×Bg×A1×A8):AS:=⟨[(0,.yld yl_l yl_T [.any,.any,.any,.any,.any,.any,.any,.any,.ptr 100000 0,.ptr 100001 0]),(1,.ptr 100002 0),(2,.ptr 100003 0),(3,.ptr 100004 0)],Ur r⟩
theorem z3m {n d c i g f r}(b:Uu n d c i g f=some r)(yl_l:Nat)(yl_R:Obj)(yl_T:Array Value)(e:∀{n:Nat} {j:A1} {d:(List A1)} {c:(List Ac)} {r:(List A1)×(List Ac)},Qo n j d c=some r->ConG E0.P (some (yl_l,yl_R)) (λvs cs w R=>cs=yl_T->CalY E0.P yl_l vs cs w R) [A7 j] [.any,.any,.any,.any,.any,.any,.any,.any,.ptr 100000 0,.ptr 100001 0] (z97 d c) (.bool true) (Ld r)):ConG E0.P (some (yl_l,yl_R)) (CalF E0.P 195 0) [.yld yl_l yl_T [.any,.any,.any,.any,.any,.any,.any,.any,.ptr 100000 0,.ptr 100001 0],.ptr 100002 0,.ptr 100003 0,.ptr 100004 0] [] (z44 d c i g f) (z01 r) (Ur r):=by
 unfold Uu at b;refine aM (E:=(E0y yl_l yl_R 4)) (caps:=[]) _ dB rfl rfl rfl rfl rfl ?_;repeat' first
  |refine aJ ?_;conv=>whnf
  |refine aL b (λb=>?_) λb=>?_
  |refine aX ?_
  |refine aU b λa b=>?_
  |refine cM rfl rfl rfl rfl ?_
  |refine aD b λx b=>?_
  |refine dG b (λa b=>?_) rfl rfl λ_=>aY rfl
  |refine YldX.oM (Be 32 b) [(100000,100000),(200000,200000),(100001,100001),(200001,200001)] [(100000,100000),(250000,33000001),(100001,100001),(250001,33000003)] _ _ _ Ld (λ_=>AV.bool true) [200000,200001] (λa h=>e h) rfl rfl rfl rfl rfl ⟨⟨rfl,rfl⟩,⟨⟨rfl,rfl⟩,⟨⟨rfl,rfl⟩,⟨⟨rfl,rfl⟩,trivial⟩⟩⟩⟩ (λa=>⟨rfl,rfl,rfl,rfl,rfl,rfl,rfl,rfl⟩) (λa b=>?_)
  |refine GX.o (res:=z01) (meF:=Ur) b ?_;exact GX.mk (z1u yl_l yl_T _) (aA [(250000,33000001),(250001,33000003)]) rfl _ rfl (by repeat' first|exact Sub.nil _|exact Sub.refl _|refine Sub.agg ?_|refine Sub.tup ?_|refine Sub.fn ?_|exact SubL.nil|refine SubL.cons ?_ ?_|refine Sub.sl _ ?_|exact SubE.nil|refine SubE.cons ?_ ?_) [100000,100001] ⟨bJ ⟨0,0,8,_,_,_,_,_,_,rfl,rfl,rfl,rfl,rfl⟩,⟨bJ ⟨0,0,9,_,_,_,_,_,_,rfl,rfl,rfl,rfl,rfl⟩,trivial⟩⟩ rfl
  |exact⟨_,b,aA []⟩
  |refine YldX.oM (Be 63 b) [(100000,100000),(200000,33000001),(100001,100001),(200001,33000003)] [(100000,100000),(250000,64000001),(100001,100001),(250001,64000003)] _ _ _ Ld (λ_=>AV.bool true) [33000001,33000003] (λa h=>e h) rfl rfl rfl rfl rfl ⟨⟨rfl,rfl⟩,⟨⟨rfl,rfl⟩,⟨⟨rfl,rfl⟩,⟨⟨rfl,rfl⟩,trivial⟩⟩⟩⟩ (λa=>⟨rfl,rfl,rfl,rfl,rfl,rfl,rfl,rfl⟩) (λa b=>?_)
  |exact⟨_,b,aA [(33000001,64000001),(33000003,64000003)]⟩
  |refine z34 b (aA []) (λm v b=>?_);unfold Ij at b
  |refine GX.o (res:=z01) (meF:=Ur) b ?_;exact GX.mk (z1u yl_l yl_T _) (aA [(250000,200000),(250001,200001)]) rfl _ rfl (by repeat' first|exact Sub.nil _|exact Sub.refl _|refine Sub.agg ?_|refine Sub.tup ?_|refine Sub.fn ?_|exact SubL.nil|refine SubL.cons ?_ ?_|refine Sub.sl _ ?_|exact SubE.nil|refine SubE.cons ?_ ?_) [100000,100001] ⟨bJ ⟨0,0,8,_,_,_,_,_,_,rfl,rfl,rfl,rfl,rfl⟩,⟨bJ ⟨0,0,9,_,_,_,_,_,_,rfl,rfl,rfl,rfl,rfl⟩,trivial⟩⟩ rfl
  |refine YldX.oM (Be 63 b) [(100000,100000),(200000,200000),(100001,100001),(200001,200001)] [(100000,100000),(250000,64000001),(100001,100001),(250001,64000003)] _ _ _ Ld (λ_=>AV.bool true) [200000,200001] (λa h=>e h) rfl rfl rfl rfl rfl ⟨⟨rfl,rfl⟩,⟨⟨rfl,rfl⟩,⟨⟨rfl,rfl⟩,⟨⟨rfl,rfl⟩,trivial⟩⟩⟩⟩ (λa=>⟨rfl,rfl,rfl,rfl,rfl,rfl,rfl,rfl⟩) (λa b=>?_)
  |exact⟨_,b,aA [(200000,64000001),(200001,64000003)]⟩
  |refine z33 b (aA []) (λm v b=>?_);unfold Ii at b
  |refine AndA ?_
instance zwr {n b a}:CI E0 (T2 n b a) true 128 [B1 b,B1 a,.ref [.fn 64 []]] (λr=>.bool (r)):=by unfold T2;exact aH [] Tryz.func128
def z7o (a:(List Ac)):List (Nat×Ent):=[(200000,.row 64 1 (a.map B1))]
def V1 (r:(List Ac)):List (Nat×Ent):=[(260000,.row 64 1 (r.map B1))]
def Zf (r:(List Ac)):AV:=.row 260000
def z2m (r:(List Ac)):AS:=⟨[(4,.row 260000)],V1 r⟩
theorem z4m {n c r}(b:V3 n c=some r):ConG E0.P none (CalF E0.P 127 0) [.row 200000,.fn 128 [.ref [.fn 64 []]]] [] (z7o c) (Zf r) (V1 r):=by
 unfold V3 at b;refine aM (E:=(E0p 2)) (caps:=[]) _ dC rfl rfl rfl rfl rfl ?_;repeat' first
  |refine aJ ?_;conv=>whnf
  |refine aL b (λb=>?_) λb=>?_
  |exact GX.A (res:=Zf) (meF:=V1) b z2m (h1:=aA [(260000,200000)])
  |refine cF b (λm b=>?_)
  |refine EltX.o B1 b (λx b=>?_)
  |refine aU b λa b=>?_
  |refine OpX.sub b rfl rfl rfl rfl rfl rfl rfl rfl rfl rfl (λm b=>?_)
  |refine OpX.clr B1 b rfl rfl rfl rfl rfl rfl rfl rfl rfl rfl rfl (by first|exact bG _|(repeat' first|exact SubL.nil|refine SubL.cons ?_ ?_|exact Sub.refl _|exact Sub.nil _|refine Sub.agg ?_)) (λl b=>?_)
  |refine cG B1 b (λl b=>?_)
  |exact GX.A (res:=Zf) (meF:=V1) b z2m (h1:=aA [(260000,64)])
  |refine OpX.lns b rfl rfl rfl rfl rfl rfl rfl (λb=>?_)
  |refine OpX.ixs b rfl rfl rfl rfl rfl rfl rfl rfl rfl rfl (λm b=>?_)
  |refine SetX.o B1 b (λx=>rfl) (λx=>(by first|exact bG _|(repeat' first|exact SubL.nil|refine SubL.cons ?_ ?_|exact Sub.refl _|exact Sub.nil _|refine Sub.agg ?_))) (λl b=>?_)
  |exact⟨_,b,aA []⟩
  |refine aR b (aA []) λm v b=>?_
  |refine AndA ?_
  |refine aO ?_
def zh1 (a:(List Ac)):List (Nat×Ent):=[(200000,.row 64 1 (a.map B1))]
def X8 (r:(List Ac)):List (Nat×Ent):=[(260000,.row 64 1 (r.map B1))]
def z2e (r:(List Ac)):AV:=.row 260000
def zgz (r:(List Ac)):AS:=⟨[(4,.row 260000)],X8 r⟩
theorem z4n {n c r}(b:Nk n c=some r):ConG E0.P none (CalF E0.P 63 0) [.row 200000,.fn 64 []] [] (zh1 c) (z2e r) (X8 r):=by
 unfold Nk at b;refine aM (E:=(E0p 2)) (caps:=[]) _ cJ rfl rfl rfl rfl rfl ?_;repeat' first
  |refine cL b 3 rfl rfl (λb=>?_)
  |refine aE b λb=>?_
  |refine aC [2] ?_;conv=>whnf
  |refine B5.oI b 200000 (λr=>r) B1 (λ_=>AV.tup []) rfl (λa h=>(ConC.env rfl (zzu h))) rfl rfl rfl (λa b=>?_)
  |refine bH (Be 10 b) [(200000,200000)] [(260000,11000000)] _ _ V1 Zf [200000] (λa h=>aG (z4m h)) (Ax dC rfl rfl) rfl rfl rfl ⟨⟨rfl,rfl⟩,trivial⟩ (λa=>⟨rfl,rfl,rfl,rfl,rfl,rfl,rfl,rfl⟩) (λa b=>?_)
  |exact GX.A (res:=z2e) (meF:=X8) b zgz (h1:=aA [(260000,11000000)])
instance zpq {n c e d}:CI E0 (Mx n c e d) false 62 [.ref [aI c.fa.fVars,aI c.fa.fScopes,.sl 1 (c.fa.fStates.map Am),.sl 17 (c.fa.fEdges.map Aa),.mapv (List.map (encM Bj A5) (c.fheld))],.sl 3 (e.map A7),A5 d] (λr=>.tup [.sl 3 (r.1.map A7),.sl 1 (r.2.map B1)]):=⟨λ{r} b=>by
 unfold Mx at b;refine Con.walkM (E:=E0r) _ dH rfl (Ax dH rfl rfl) rfl (bJ rfl) ?_ rfl rfl rfl;repeat' first
  |refine aJ ?_;conv=>whnf
  |refine aL b (λb=>?_) λb=>?_
  |refine bH (Be 39 b) [(200000,811000001)] [(260000,40000000)] _ _ Xt z6a [811000001] (λa h=>aG (zei h)) (Ax Tryz.func124 rfl rfl) rfl rfl rfl ⟨⟨rfl,rfl⟩,trivial⟩ (λa=>⟨rfl,rfl,rfl,rfl,rfl,rfl,rfl,rfl⟩) (λa b=>?_)
  |refine bH (Be 41 b) [(200000,811000003)] [(260000,42000000)] _ _ X8 z2e [811000003] (λa h=>aG (z4n h)) (Ax cJ rfl rfl) rfl rfl rfl ⟨⟨rfl,rfl⟩,trivial⟩ (λa=>⟨rfl,rfl,rfl,rfl,rfl,rfl,rfl,rfl⟩) (λa b=>?_)
  |refine aD b λx b=>?_
  |refine bR (Be 22 b) [] [(3,23000000),(4,23000001),(5,23000002)] _ _ z0i z21 [] (λa h=>aG (zaa h)) (Ax cU rfl rfl) rfl rfl rfl trivial (λa=>⟨rfl,rfl,rfl,rfl,rfl,rfl,rfl,rfl⟩) (λa b=>?_)
  |refine aN b λl b=>?_
  |refine BX.o (meF:=Ld) b ?_;exact BX.mk (z2x _) (aA [(250000,200000),(250001,32)]) rfl rfl
  |refine BX.o (meF:=Ld) b ?_;exact BX.mk (z2x _) (aA [(250000,36),(250001,200001)]) rfl rfl
  |refine RngX.oM (Be 810 b) [(100000,8),(100001,9),(100002,23000000),(100003,23000001),(100004,23000002),(200000,811000001),(200001,811000003)] [(100000,8),(250000,811500001),(100001,9),(250001,811500003),(100002,23000000),(100003,23000001),(100004,23000002)] _ _ _ Ur [811000001,811000003] (λx h l D fn T f=>z3m h l _ T (λb=>ConG.round (E:=E0p 10) rfl rfl rfl rfl rfl rfl ?_ l D fn T f)) (Ax dB rfl rfl) rfl rfl rfl rfl rfl ⟨⟨rfl,rfl⟩,⟨⟨rfl,rfl⟩,trivial⟩⟩ ⟨⟨rfl,rfl⟩,⟨⟨rfl,rfl⟩,⟨⟨rfl,rfl⟩,⟨⟨rfl,rfl⟩,⟨⟨rfl,rfl⟩,⟨⟨rfl,rfl⟩,⟨⟨rfl,rfl⟩,trivial⟩⟩⟩⟩⟩⟩⟩ (λa=>⟨rfl,rfl,rfl,rfl,rfl,rfl,rfl,rfl⟩) (λa b=>?_)
  |exact⟨_,b,aA [(811000001,811500001),(811000003,811500003)]⟩
  |refine aR b ?_ λm v b=>?_
  |exact aF (LeX.adoptC 8 0 811000001 90 3 49 _ rfl rfl rfl) (aF (LeX.adoptC 9 0 811000003 64 1 50 _ rfl rfl rfl) (aA []))
  |refine AndA ?_
  |exact aB b⟩
end
noncomputable section
abbrev zrd {n f a b d c}:=jf (Ka n f a b d c) (λe=>⟨[(7,.ref [aI a.fa.fVars,aI a.fa.fScopes,.sl 1 (a.fa.fStates.map Am),.sl 17 (a.fa.fEdges.map Aa),.mapv (List.map (encM Bj A5) (a.fheld))]),(10,.row 7058),(13,.sl 3 (c.1.map A7)),(14,.sl 1 (c.2.map B1)),(26,.sl 5 (f.map A5)),(27,aI (((f.map A5).length:Int))),(28,aI b.2.1),(54,.bool (e))],[(7058,.row 64 1 (b.2.2.map B1))]⟩) λ_=>Ka.eq_1 ..
abbrev zrc {n d a c}:=li (Hz n d a c) (λb=>⟨[(7,.ref [aI a.fa.fVars,aI a.fa.fScopes,.sl 1 (a.fa.fStates.map Am),.sl 17 (a.fa.fEdges.map Aa),.mapv (List.map (encM Bj A5) (a.fheld))]),(9,.sl 3 (b.1.map A7)),(10,.row 7058),(26,.sl 5 (d.map A5)),(27,aI (((d.map A5).length:Int))),(28,aI b.2.1)],[(7058,.row 64 1 (b.2.2.map B1))]⟩) λ_ _=>Hz.eq_2 ..
abbrev z5p {n m0n a f c d e}:=li (Zc n m0n a f c d e) (λb=>⟨[(0,aI f),(2,.ptr 100000 0),(9,.sl 8 (a.map idA)),(10,aI (((a.map idA).length:Int))),(11,aI c.1),(16,.sl 1 (d.map aI)),(17,aI (((d.map aI).length:Int))),(18,aI b.1)],[(100000,.box 121 [.cont (m0n) 200000]),(200000,.are 112 (b.2).1 (List.map (enO aI AV.bool) (b.2).2))]⟩) λ_ _=>Zc.eq_2 ..
abbrev z5q {n m0n a d c}:=li (Zd n m0n a d c) (λb=>⟨[(0,aI d),(2,.ptr 100000 0),(9,.sl 8 (a.map idA)),(10,aI (((a.map idA).length:Int))),(11,aI b.1)],[(100000,.box 121 [.cont (m0n) 200000]),(200000,.are 112 (b.2).1 (List.map (enO aI AV.bool) (b.2).2))]⟩) λ_ _=>Zd.eq_2 ..
abbrev z35 {n a m0n f c d e}:=li (Yy n a m0n f c d e) (λb=>⟨[(0,aI f),(2,.ptr 100000 0),(9,.row 200001),(10,aI (((a.map idA).length:Int))),(11,aI c.1),(16,.sl 1 (d.map aI)),(17,aI (((d.map aI).length:Int))),(18,aI b.1)],[(100000,.box 121 [.cont (m0n) 200000]),(200000,.are 112 (b.2).1 (List.map (enO aI AV.bool) (b.2).2)),(200001,.row 146 8 (a.map idA))]⟩) λ_ _=>Yy.eq_2 ..
abbrev z36 {n a m0n d c}:=li (Yz n a m0n d c) (λb=>⟨[(0,aI d),(2,.ptr 100000 0),(9,.row 200001),(10,aI (((a.map idA).length:Int))),(11,aI b.1)],[(100000,.box 121 [.cont (m0n) 200000]),(200000,.are 112 (b.2).1 (List.map (enO aI AV.bool) (b.2).2)),(200001,.row 146 8 (a.map idA))]⟩) λ_ _=>Yz.eq_2 ..
abbrev z5o {n b e a d}:=li (Zb n b e a d) (λc=>⟨[(1,aI e),(2,.ptr 100000 0),(3,.ptr 100001 0),(4,.ptr 100002 0),(23,.sl 1 (a.map aI)),(24,aI (((a.map aI).length:Int))),(25,aI c.1)],[(100000,.box 121 [.cont (c.2.1) 200000]),(100001,.box 173 [.sl 1 (List.map (λq=>AV.sl 1 (List.map aI q)) (c.2.2.1))]),(100002,.box 285 [.fn 213 [.ptr 100000 0,.ptr 100001 0,.ptr 100002 0]]),(200000,.are 112 (c.2.2.2).1 (List.map (enO aI AV.bool) (c.2.2.2).2))]⟩) λ_ _=>Zb.eq_2 ..
abbrev z8s {n b d e}:=li (Zn n b d e) (λc=>⟨[(12,.ptr 12 0),(14,.ptr 14 0),(15,aI d.1),(104,.sl 1 (List.map (λq=>AV.mapv (List.map (encM aI AV.bool) q)) ((aval b)))),(105,aI ((((List.map (λq=>AV.mapv (List.map (encM aI AV.bool) q)) ((aval b))).length:Nat):Int))),(106,aI d.1),(112,.ptr 112 0)],[(12,.box 121 [.cont (c.1) 7092]),(14,.box 285 [.fn 213 [.ptr 12 0,.ptr 9 0,.ptr 14 0]]),(9,.box 173 [.sl 1 (List.map (λq=>AV.sl 1 (List.map aI q)) (c.2.1))]),(112,.it (List.map (encM aI AV.bool) (c.2.2.1))),(7092,.are 112 (c.2.2.2).1 (List.map (enO aI AV.bool) (c.2.2.2).2))]⟩) λ_ _=>Zn.eq_2 ..
abbrev z8t {n b d}:=li (Zo n b d) (λc=>⟨[(12,.ptr 12 0),(14,.ptr 14 0),(104,.sl 1 (List.map (λq=>AV.mapv (List.map (encM aI AV.bool) q)) ((aval b)))),(105,aI ((((List.map (λq=>AV.mapv (List.map (encM aI AV.bool) q)) ((aval b))).length:Nat):Int))),(106,aI c.1)],[(12,.box 121 [.cont (c.2.1) 7092]),(14,.box 285 [.fn 213 [.ptr 12 0,.ptr 9 0,.ptr 14 0]]),(9,.box 173 [.sl 1 (List.map (λq=>AV.sl 1 (List.map aI q)) (c.2.2.1))]),(7092,.are 112 (c.2.2.2).1 (List.map (enO aI AV.bool) (c.2.2.2).2))]⟩) λ_ _=>Zo.eq_2 ..
abbrev z8u {n h c b d f g}:=li (Zp n h c b d f g) (λe=>⟨[(3,.ptr 3 0),(9,.ptr 9 0),(12,.ptr 12 0),(94,aI (((f:Nat):Int))),(95,aI e.1)],[(3,.box 121 [.cont (c) 7021]),(7021,.are 112 (b).1 (List.map (enO aI AV.bool) (b).2)),(9,.box 173 [.cont (h) 53]),(53,.nest 43 (List.map (enR aI 3 1) (d))),(12,.box 121 [.cont (f) 92]),(92,.are 112 (e.2).1 (List.map (enO aI AV.bool) (e.2).2))]⟩) λ_ _=>Zp.eq_2 ..
abbrev z8v {n a d c}:=li (V9 n a d c) (λb=>⟨[(1,.ptr 1 0),(3,.ptr 3 0),(4,.fn 210 [.ptr 3 0]),(9,.ptr 9 0),(55,.sl 17 (a.fEdges.map Aa)),(56,aI (((a.fEdges.map Aa).length:Int))),(57,aI b.1)],[(1,.box 26 (B3 a)),(3,.box 121 [.cont (b.2.1) 7021]),(9,.box 173 [.cont (d) 53]),(53,.nest 43 (List.map (enR aI 3 1) (b.2.2.1))),(7021,.are 112 (b.2.2.2).1 (List.map (enO aI AV.bool) (b.2.2.2).2))]⟩) λ_ _=>V9.eq_2 ..
abbrev z8q {n a c d e}:=li (Zm n a c d e) (λb=>⟨[(1,.ptr 1 0),(3,.ptr 3 0),(4,.fn 210 [.ptr 3 0]),(5,aI c.1),(24,.sl 1 (a.fStates.map Am)),(25,aI (((a.fStates.map Am).length:Int))),(26,aI c.1),(36,.sl 11 (d.fGuards.map B9)),(37,aI (((d.fGuards.map B9).length:Int))),(38,aI b.1)],[(1,.box 26 (B3 a)),(3,.box 121 [.cont (b.2.1) 7021]),(7021,.are 112 (b.2.2).1 (List.map (enO aI AV.bool) (b.2.2).2))]⟩) λ_ _=>Zm.eq_2 ..
abbrev z8w {n a c}:=li (Zq n a c) (λb=>⟨[(1,.ptr 1 0),(3,.ptr 3 0),(4,.fn 210 [.ptr 3 0]),(24,.sl 1 (a.fStates.map Am)),(25,aI (((a.fStates.map Am).length:Int))),(26,aI b.1)],[(1,.box 26 (B3 a)),(3,.box 121 [.cont (b.2.1) 7021]),(7021,.are 112 (b.2.2).1 (List.map (enO aI AV.bool) (b.2.2).2))]⟩) λ_ _=>Zq.eq_2 ..
attribute [instance] zrd zrc z5p z5q z35 z36 z5o z8s z8t z8u z8v z8q z8w
instance yac {n d c}:CI E0 (Oh n d c) false 17 [Bi d,.sl 5 (c.map A5)] (λr=>.tup [.sl 3 (r.1.map A7),.sl 1 (r.2.1.map B1),aI r.2.2]):=⟨λ{r} b=>by
 unfold Oh at b;refine cw Tryz.func17 ?_;repeat' first
  |refine bC b (λv b=>?_) λb=>?_
  |refine aE b λb=>?_
  |refine aC [10] ?_;conv=>whnf
  |refine aL b (λb=>?_) λb=>?_
  |refine aZ ?_
  |refine Ab.oP b Eu (λu=>.tup [.nilp,aI (u.2)]) (λu y=>.tup [.ref [aI (y.fa.fVars),aI (y.fa.fScopes),.sl 1 (y.fa.fStates.map Am),.sl 17 (y.fa.fEdges.map Aa),.mapv (List.map (encM Bj A5) (y.fheld))],aI (u.2)]) (λu h=>by simp only[Eu,h,Gk]) (λu y h=>by simp only[Eu,h,Gk]) (λa h=>z40.h h) (λa b=>?_) (λa y b=>?_)
  |refine aU b λa b=>?_
  |(cases b;done)
  |refine bH (Be 62 b) [(200000,7058)] [(260000,63000000)] _ _ X8 z2e [7058] (λa h=>aG (z4n h)) (Ax cJ rfl rfl) rfl rfl rfl ⟨⟨rfl,rfl⟩,trivial⟩ (λa=>⟨rfl,rfl,rfl,rfl,rfl,rfl,rfl,rfl⟩) (λa b=>?_)
  |refine aD b λx b=>?_
  |refine aN b λl b=>?_
  |exact⟨_,b,aA [(7058,58)]⟩
  |exact⟨_,b,aA []⟩
  |refine aR b ?_ λm v b=>?_
  |exact aF (aW 10 7058 64 1 rfl rfl) (aA [])
  |exact aB b⟩
instance y3w {n b a}:CI E0 (zar n b a) false 21 [Bi b,.sl 5 (a.map A5)] (λr=>.tup [.sl 1 (r.1.map B1),aI r.2]):=by unfold zar;exact aH [] Tryz.func21
def zao (c:Int)(b:(List AV))(m0n:Nat)(a:(Ars (List (Int×Bool)))):List (Nat×Ent):=[(100000,.box 121 [.cont (m0n) 200000]),(200000,.are 112 (a).1 (List.map (enO aI AV.bool) (a).2))]
def Vb (r:Nat×(Ars (List (Int×Bool)))):List (Nat×Ent):=[(100000,.box 121 [.cont (r.1) 270000]),(270000,.are 112 (r.2).1 (List.map (enO aI AV.bool) (r.2).2))]
def Zv (r:Nat×(Ars (List (Int×Bool)))):AV:=.tup []
def zak (r:Nat×(Ars (List (Int×Bool)))):AS:=⟨[(2,.ptr 100000 0)],Vb r⟩
theorem z2k {n d c m0n e r}(b:z1j n d c m0n e=some r):ConG E0.P none (CalF E0.P 210 0) [aI d,.sl 8 (c.map idA),.ptr 100000 0] [] (zao d c m0n e) (Zv r) (Vb r):=by
 unfold z1j at b;refine aM (E:=(E0p 3)) (caps:=[]) _ bA rfl rfl rfl rfl rfl ?_;repeat' first
  |refine aJ ?_;conv=>whnf
  |refine aL b (λb=>?_) λb=>?_
  |refine aZ ?_
  |refine aX ?_
  |exact GX.A (res:=Zv) (meF:=Vb) b zak (h1:=aA [(270000,200000)])
  |refine dA b D2 (λx b=>?_)
  |refine aU b λa b=>?_
  |exact⟨_,b,aA []⟩
  |refine aD b λx b=>?_
  |refine bS b rfl rfl rfl rfl rfl rfl rfl rfl (λb=>?_)
  |refine dS b rfl rfl rfl rfl rfl rfl rfl (λj b=>?_)
  |refine dU AV.bool b (bJ rfl) rfl rfl rfl rfl rfl rfl rfl rfl rfl (by first|rfl|kernel_rfl) rfl rfl (λl b=>?_)
  |refine aR b (aA []) λm v b=>?_
  |refine AndA ?_
  |refine aO ?_
set_option maxHeartbeats 400000 in
theorem zue (l:List (Cel 8))(S:Nat->Prop)(v:Value)(w:World)(h:Sl w S 8 encC v l)(d:l.length<=1000000000) :
  Calls aK 212 #[v] w (Ic 146 8 encC l w):=by
 have eok:EOk aK 142 146 8 88 (encC (n:=8)):=eokC (sz:=8) (Da 142 _ rfl) rfl (Da 146 _ rfl) Ω rfl;obtain⟨A,c,rfl,f,_⟩:=h.form;have a:=λ(W:World)=>Lib.run_eql_slice_nil W 142 146 A l.length c 0 0 Tryz.underlying142
 have H:=hide h;cases A with
 |none =>
  have g:l=[]:=h.none_nil;subst g;clear h H d f;simp only[bN,aS]at a ⊢
  go_enter cA,cS
  go_wp2
  go_ret
  exact⟨none,0,rfl,bU,by go_grown⟩
 |some ad =>
  clear h
  go_enter cA,cS
  go_wp2_with (at_builtin;refine Hv rfl _ _ rfl eok rfl aV rfl (H.out.alloc _) Ψ Ω Δ ?_;intro A' i w1 b e _)
  go_ret
  exact⟨A',i,rfl,b,(aV (sz:=8) (enc:=encC (n:=8))).grown ((Below.refl _ _).alloc (aQ _) _) (aQ _) Δ e⟩
theorem zg4 {n a r}(b:C8 n a=some r):ConT E0 212 [.sl 8 (List.map idA a)] 146 8 (List.map idA r) (.row 0):=Kb rfl (Ax cA rfl rfl) zue b
def z47 (c:Int)(m0n:Nat)(a:(Ars (List (Int×Bool))))(b:(List AV)):List (Nat×Ent):=[(100000,.box 121 [.cont (m0n) 200000]),(200000,.are 112 (a).1 (List.map (enO aI AV.bool) (a).2)),(200001,.row 146 8 (b.map idA))]
def Ut (r:Nat×(Ars (List (Int×Bool)))):List (Nat×Ent):=[(100000,.box 121 [.cont (r.1) 270000]),(270000,.are 112 (r.2).1 (List.map (enO aI AV.bool) (r.2).2))]
def Z0 (r:Nat×(Ars (List (Int×Bool)))):AV:=.tup []
def z42 (r:Nat×(Ars (List (Int×Bool)))):AS:=⟨[(2,.ptr 100000 0)],Ut r⟩
theorem z1d {n c m0n e d r}(b:z04 n c m0n e d=some r):ConG E0.P none (CalF E0.P 210 0) [aI c,.row 200001,.ptr 100000 0] [] (z47 c m0n e d) (Z0 r) (Ut r):=by
 unfold z04 at b;refine aM (E:=(E0p 3)) (caps:=[]) _ bA rfl rfl rfl rfl rfl ?_;repeat' first
  |refine aJ ?_;conv=>whnf
  |refine aL b (λb=>?_) λb=>?_
  |refine aZ ?_
  |refine aX ?_
  |exact GX.A (res:=Z0) (meF:=Ut) b z42 (h1:=aA [(270000,200000)])
  |refine cF b (λm b=>?_)
  |refine EltX.oD b D2 (λx b=>?_)
  |refine aU b λa b=>?_
  |exact⟨_,b,aA []⟩
  |refine aD b λx b=>?_
  |refine bS b rfl rfl rfl rfl rfl rfl rfl rfl (λb=>?_)
  |refine dS b rfl rfl rfl rfl rfl rfl rfl (λj b=>?_)
  |refine dU AV.bool b (bJ rfl) rfl rfl rfl rfl rfl rfl rfl rfl rfl (by first|rfl|kernel_rfl) rfl rfl (λl b=>?_)
  |refine aR b (aA []) λm v b=>?_
  |refine AndA ?_
  |refine aO ?_
def zan (d:Int)(c:Int)(m0n:Nat)(a:(Ars (List (Int×Bool))))(b:(List (List Int))):List (Nat×Ent):=[(100000,.box 121 [.cont (m0n) 200000]),(200000,.are 112 (a).1 (List.map (enO aI AV.bool) (a).2)),(100001,.box 173 [.sl 1 (List.map (λq=>AV.sl 1 (List.map aI q)) (b))]),(100002,.box 285 [.fn 213 [.ptr 100000 0,.ptr 100001 0,.ptr 100002 0]])]
def Lr (r:Nat×(Ars (List (Int×Bool)))×(List (List Int))):List (Nat×Ent):=[(100000,.box 121 [.cont (r.1) 270000]),(270000,.are 112 (r.2.1).1 (List.map (enO aI AV.bool) (r.2.1).2)),(100001,.box 173 [.sl 1 (List.map (λq=>AV.sl 1 (List.map aI q)) (r.2.2))]),(100002,.box 285 [.fn 213 [.ptr 100000 0,.ptr 100001 0,.ptr 100002 0]])]
def Qr (r:Nat×(Ars (List (Int×Bool)))×(List (List Int))):AV:=.tup []
def zaj (r:Nat×(Ars (List (Int×Bool)))×(List (List Int))):AS:=⟨[(2,.ptr 100000 0),(3,.ptr 100001 0),(4,.ptr 100002 0)],Lr r⟩
theorem z2j {n e d m0n g f r}(c:z03 n e d m0n g f=some r):ConG E0.P none (CalF E0.P 213 0) [aI e,aI d,.ptr 100000 0,.ptr 100001 0,.ptr 100002 0] [] (zan e d m0n g f) (Qr r) (Lr r):=by
 induction n generalizing e d m0n g f r
 case zero=>cases c
 case succ n i =>
 unfold z03 at c;refine aM (E:=(E0p 5)) (caps:=[]) _ bE rfl rfl rfl rfl rfl ?_;repeat' first
  |refine aJ ?_;conv=>whnf
  |refine aL c (λc=>?_) λc=>?_
  |refine aZ ?_
  |refine aX ?_
  |refine bS c rfl rfl rfl rfl rfl rfl rfl rfl (λc=>?_)
  |refine dS c rfl rfl rfl rfl rfl rfl rfl (λj c=>?_)
  |refine OpX.alk aI AV.bool c D1 rfl rfl rfl rfl rfl rfl rfl rfl rfl rfl rfl (by first|rfl|kernel_rfl) (by repeat' first|exact Sub.nil _|exact Sub.refl _|refine Sub.agg ?_|refine Sub.tup ?_|refine Sub.fn ?_|exact SubL.nil|refine SubL.cons ?_ ?_|refine Sub.sl _ ?_|exact SubE.nil|refine SubE.cons ?_ ?_) (λv b c=>?_)
  |exact GX.A (res:=Qr) (meF:=Lr) c zaj (h1:=aA [(270000,200000)])
  |refine dU AV.bool c (bJ rfl) rfl rfl rfl rfl rfl rfl rfl rfl rfl (by first|rfl|kernel_rfl) rfl rfl (λl c=>?_)
  |refine cH (λq=>AV.sl 1 (List.map aI q)) c λx c=>?_
  |refine aD c λx c=>?_
  |refine bH (Be 32 c) [(100000,100000),(100001,100001),(100002,100002),(200000,200000)] [(100000,100000),(270000,33000001),(100001,100001),(100002,100002)] _ _ Lr Qr [200000] (λa h=>aG (i h)) (Ax bE rfl rfl) rfl rfl rfl ⟨⟨rfl,rfl⟩,⟨⟨rfl,rfl⟩,⟨⟨rfl,rfl⟩,⟨⟨rfl,rfl⟩,trivial⟩⟩⟩⟩ (λa=>⟨rfl,rfl,rfl,rfl,rfl,rfl,rfl,rfl⟩) (λa c=>?_)
  |refine bR (Be 32 c) [(100000,100000),(100001,100001),(100002,100002),(200000,200000)] [(100000,100000),(270000,33000001),(100001,100001),(100002,100002)] _ _ Lr Qr [200000] (λa h=>aG (i h)) (Ax bE rfl rfl) rfl rfl rfl ⟨⟨rfl,rfl⟩,⟨⟨rfl,rfl⟩,⟨⟨rfl,rfl⟩,⟨⟨rfl,rfl⟩,trivial⟩⟩⟩⟩ (λa=>⟨rfl,rfl,rfl,rfl,rfl,rfl,rfl,rfl⟩) (λa c=>?_)
  |exact⟨_,c,aA [(200000,33000001)]⟩
  |refine aR c (aA []) λm v c=>?_
  |refine AndA ?_
  |refine aO ?_
end
noncomputable section
abbrev za0 {n e a b c}:=jf (R4 n e a b c) (λd=>⟨[(0,.ref [aI a.fa.fVars,aI a.fa.fScopes,.sl 1 (a.fa.fStates.map Am),.sl 17 (a.fa.fEdges.map Aa),.mapv (List.map (encM Bj A5) (a.fheld))]),(3,.ptr 3 0),(84,.sl 2 (e.fStarts.map Ai)),(85,aI (((e.fStarts.map Ai).length:Int))),(86,aI b),(115,.bool (d))],[(3,.box 90 (C1 e))]⟩) λ_=>R4.eq_1 ..
abbrev za1 {n f a b c e}:=jf (Jb n f a b c e) (λd=>⟨[(0,.ref [aI a.fa.fVars,aI a.fa.fScopes,.sl 1 (a.fa.fStates.map Am),.sl 17 (a.fa.fEdges.map Aa),.mapv (List.map (encM Bj A5) (a.fheld))]),(3,.ptr 3 0),(9,aI b),(10,.ptr 10 0),(84,.sl 2 (f.fStarts.map Ai)),(85,aI (((f.fStarts.map Ai).length:Int))),(86,aI b),(91,.bool (d))],[(3,.box 90 (C1 f)),(10,.box 182 (zf2 e))]⟩) λ_=>Jb.eq_1 ..
abbrev zbo {n d a b}:=li (Jm n d a b) (λc=>⟨[(0,.ref [aI a.fa.fVars,aI a.fa.fScopes,.sl 1 (a.fa.fStates.map Am),.sl 17 (a.fa.fEdges.map Aa),.mapv (List.map (encM Bj A5) (a.fheld))]),(3,.ptr 3 0),(84,.sl 2 (d.fStarts.map Ai)),(85,aI (((d.fStarts.map Ai).length:Int))),(86,aI c)],[(3,.box 90 (C1 d))]⟩) λ_ _=>Jm.eq_2 ..
abbrev z9y {n f a b c e}:=jf (R2 n f a b c e) (λd=>⟨[(0,.ref [aI a.fa.fVars,aI a.fa.fScopes,.sl 1 (a.fa.fStates.map Am),.sl 17 (a.fa.fEdges.map Aa),.mapv (List.map (encM Bj A5) (a.fheld))]),(3,.ptr 3 0),(8,.bool (e)),(32,.sl 4 (f.fBindings.map B0)),(33,aI (((f.fBindings.map B0).length:Int))),(34,aI b),(63,.bool (d))],[(3,.box 90 (C1 f))]⟩) λ_=>R2.eq_1 ..
abbrev z9z {n g a b c e f}:=jf (R3 n g a b c e f) (λd=>⟨[(0,.ref [aI a.fa.fVars,aI a.fa.fScopes,.sl 1 (a.fa.fStates.map Am),.sl 17 (a.fa.fEdges.map Aa),.mapv (List.map (encM Bj A5) (a.fheld))]),(3,.ptr 3 0),(5,aI b),(6,.ptr 6 0),(8,.bool (f)),(32,.sl 4 (g.fBindings.map B0)),(33,aI (((g.fBindings.map B0).length:Int))),(34,aI b),(49,.bool (d))],[(3,.box 90 (C1 g)),(6,.box 93 (zqb e))]⟩) λ_=>R3.eq_1 ..
abbrev zbp {n d a b}:=li (Rn n d a b) (λc=>⟨[(0,.ref [aI a.fa.fVars,aI a.fa.fScopes,.sl 1 (a.fa.fStates.map Am),.sl 17 (a.fa.fEdges.map Aa),.mapv (List.map (encM Bj A5) (a.fheld))]),(3,.ptr 3 0),(32,.sl 4 (d.fBindings.map B0)),(33,aI (((d.fBindings.map B0).length:Int))),(34,aI c)],[(3,.box 90 (C1 d))]⟩) λ_ _=>Rn.eq_2 ..
abbrev zbq {n c a}:=jf (Ro n c a) (λb=>⟨[(0,.ref [aI a.fa.fVars,aI a.fa.fScopes,.sl 1 (a.fa.fStates.map Am),.sl 17 (a.fa.fEdges.map Aa),.mapv (List.map (encM Bj A5) (a.fheld))]),(3,.ptr 3 0),(11,.bool (b))],[(3,.box 90 (C1 c))]⟩) λ_=>Ro.eq_1 ..
abbrev zhs {n b}:=jf (T9 n b) (λc=>⟨[(17,.sl 3 (b.1.map A7)),(18,.sl 1 (b.2.map B1)),(64,.bool (c))],[]⟩) λ_=>T9.eq_1 ..
abbrev zhr {n e d a b}:=li (z2o n e d a b) (λc=>⟨[(2,.sl 3 (d.map A7)),(7,.ptr 7 0),(11,.ref [aI a.fa.fVars,aI a.fa.fScopes,.sl 1 (a.fa.fStates.map Am),.sl 17 (a.fa.fEdges.map Aa),.mapv (List.map (encM Bj A5) (a.fheld))]),(31,.sl 3 (d.map A7)),(32,aI (((d.map A7).length:Int))),(33,aI c)],[(7,.box 37 (Bx e))]⟩) λ_ _=>z2o.eq_2 ..
abbrev z3z {n}:=jf (Pc n) (λb=>⟨[(4,.bool (b))],[]⟩) λ_=>Pc.eq_1 ..
abbrev zca {n d a b}:=li (z0r n d a b) (λc=>⟨[(1,.sl 2 (d.map Ai)),(2,.fn 139 []),(15,.sl 2 (a.map Ai)),(16,aI (((a.map Ai).length:Int))),(17,aI c)],[]⟩) λ_ _=>z0r.eq_2 ..
abbrev zdx {n d a b}:=li (Wc n d a b) (λc=>⟨[(1,.mapv (List.map (encM aI AV.bool) (d))),(5,.row 7022),(9,.sl 4 (a.fBindings.map B0)),(10,aI (((a.fBindings.map B0).length:Int))),(11,aI c.1)],[(7022,.row 93 4 (c.2.map B0))]⟩) λ_ _=>Wc.eq_2 ..
attribute [instance] za0 za1 zbo z9y z9z zbp zbq zhs zhr z3z zca zdx
instance zpr {n c}:CI E0 (z29 n c) false 136 [Bi c] (λr=>.sl 1 (List.map (λq=>AV.mapv (List.map (encM aI AV.bool) q)) (r))):=⟨λ{r} b=>by
 unfold z29 at b;refine cw Tryz.func136 ?_;repeat' first
  |refine AW.areO aI AV.bool b 21 rfl (λb=>?_)
  |refine AW.nstO (er:=aI) 3 1 b 53 rfl (λb=>?_)
  |refine AW.areO aI AV.bool b 92 rfl (λb=>?_)
  |refine AW.frrO (ety:=3) (sz:=1) aI b 53 rfl (λb=>?_)
  |refine AW.frcO aI AV.bool b 7021 rfl (λb=>?_)
  |refine AW.frcO aI AV.bool b 7092 rfl (λb=>?_)
  |refine AW.pckO (encM aI AV.bool) b 112 rfl (λx s b=>?_)
  |refine aE b λb=>?_
  |refine bB b 53 rfl (λb=>?_)
  |refine bB b 7021 rfl (λb=>?_)
  |refine bB b 7092 rfl (λb=>?_)
  |refine aC [28,29,37,18,34,22,14,2] ?_;conv=>whnf
  |refine aL b (λb=>?_) λb=>?_
  |refine aZ ?_
  |refine aX ?_
  |refine MakX.om b (λm b=>?_)
  |refine MakX.on b (λm b=>?_)
  |refine OpX.lnc rfl rfl rfl rfl rfl rfl ?_
  |refine cH (λq=>AV.mapv (List.map (encM aI AV.bool) q)) b λx b=>?_
  |refine OpX.rng rfl rfl rfl rfl rfl rfl rfl rfl ?_
  |exact⟨_,b,aF (bP 112 rfl) (aA [])⟩
  |exact⟨_,b,aA []⟩
  |refine OpX.nxt (encM aI AV.bool) b rfl rfl rfl rfl rfl (λb=>?_) (λb=>?_)
  |refine OpX.ent rfl rfl rfl rfl rfl ?_
  |refine bH (Be 120 b) [(100000,12),(100001,9),(100002,14),(200000,7092)] [(100000,12),(270000,121000001),(100001,9),(100002,14)] _ _ Lr Qr [7092] (λa h=>aG (z2j h)) (Ax bE rfl rfl) rfl rfl rfl ⟨⟨rfl,rfl⟩,⟨⟨rfl,rfl⟩,⟨⟨rfl,rfl⟩,⟨⟨rfl,rfl⟩,trivial⟩⟩⟩⟩ (λa=>⟨rfl,rfl,rfl,rfl,rfl,rfl,rfl,rfl⟩) (λa b=>?_)
  |refine bR (Be 120 b) [(100000,12),(100001,9),(100002,14),(200000,7092)] [(100000,12),(270000,121000001),(100001,9),(100002,14)] _ _ Lr Qr [7092] (λa h=>aG (z2j h)) (Ax bE rfl rfl) rfl rfl rfl ⟨⟨rfl,rfl⟩,⟨⟨rfl,rfl⟩,⟨⟨rfl,rfl⟩,⟨⟨rfl,rfl⟩,trivial⟩⟩⟩⟩ (λa=>⟨rfl,rfl,rfl,rfl,rfl,rfl,rfl,rfl⟩) (λa b=>?_)
  |exact⟨_,b,aF (bP 112 rfl) (aA [(7092,121000001)])⟩
  |refine aR b ?_ λm v b=>?_
  |exact aA []
  |exact aA [(7092,92)]
  |refine bS b rfl rfl rfl rfl rfl rfl rfl rfl (λb=>?_)
  |refine OpX.ast aI AV.bool b rfl rfl rfl rfl rfl rfl rfl rfl rfl rfl rfl (λm b=>?_)
  |refine aD b λx b=>?_
  |refine cT b (λr=>r) idA (λ_=>AV.row 0) rfl (λa h=>zg4 h) (λa b=>?_)
  |refine cT b (λr=>r) idA (λ_=>AV.row 0) rfl (λa h=>ConT.sub (by repeat' first|exact Sub.nil _|exact Sub.refl _|refine Sub.agg ?_|refine Sub.tup ?_|refine Sub.fn ?_|exact SubL.nil|refine SubL.cons ?_ ?_|refine Sub.sl _ ?_|exact SubE.nil|refine SubE.cons ?_ ?_) (zg4 h)) (λa b=>?_)
  |refine aN b λl b=>?_
  |refine bH (Be 71 b) [(100000,3),(200001,70),(200000,7021)] [(100000,3),(270000,72000001)] _ _ Ut Z0 [70,7021] (λa h=>aG (z1d h)) (Ax bA rfl rfl) rfl rfl rfl ⟨⟨rfl,rfl⟩,⟨⟨rfl,rfl⟩,⟨⟨rfl,rfl⟩,trivial⟩⟩⟩ (λa=>⟨rfl,rfl,rfl,rfl,rfl,rfl,rfl,rfl⟩) (λa b=>?_)
  |refine bR (Be 71 b) [(100000,3),(200001,70),(200000,7021)] [(100000,3),(270000,72000001)] _ _ Ut Z0 [70,7021] (λa h=>aG (z1d h)) (Ax bA rfl rfl) rfl rfl rfl ⟨⟨rfl,rfl⟩,⟨⟨rfl,rfl⟩,⟨⟨rfl,rfl⟩,trivial⟩⟩⟩ (λa=>⟨rfl,rfl,rfl,rfl,rfl,rfl,rfl,rfl⟩) (λa b=>?_)
  |refine dO aI b rfl rfl rfl rfl rfl rfl rfl rfl rfl rfl (λq b=>?_)
  |refine dQ aI b rfl rfl rfl rfl rfl rfl rfl rfl rfl rfl rfl (λl b=>?_)
  |exact⟨_,b,aF (bP 112 rfl) (aA [(7021,72000001)])⟩
  |exact⟨_,b,aA [(7021,72000001)]⟩
  |refine bH (Be 47 b) [(100000,3),(200000,7021)] [(100000,3),(270000,48000001)] _ _ Vb Zv [7021] (λa h=>aG (z2k h)) (Ax bA rfl rfl) rfl rfl rfl ⟨⟨rfl,rfl⟩,⟨⟨rfl,rfl⟩,trivial⟩⟩ (λa=>⟨rfl,rfl,rfl,rfl,rfl,rfl,rfl,rfl⟩) (λa b=>?_)
  |refine bR (Be 47 b) [(100000,3),(200000,7021)] [(100000,3),(270000,48000001)] _ _ Vb Zv [7021] (λa h=>aG (z2k h)) (Ax bA rfl rfl) rfl rfl rfl ⟨⟨rfl,rfl⟩,⟨⟨rfl,rfl⟩,trivial⟩⟩ (λa=>⟨rfl,rfl,rfl,rfl,rfl,rfl,rfl,rfl⟩) (λa b=>?_)
  |exact⟨_,b,aF (bP 112 rfl) (aA [(7021,48000001)])⟩
  |exact⟨_,b,aA [(7021,48000001)]⟩
  |exact aA [(7021,21)]
  |refine AndA ?_
  |refine aO ?_
  |exact aB b⟩
def zdb (a:Ad):List (Nat×Ent):=[]
def Mu (r:(List (List (Int×Bool)))):List (Nat×Ent):=[(3,.box 121 [.sl 1 (List.map (λq=>AV.mapv (List.map (encM aI AV.bool) q)) (r))])]
def Ru (r:(List (List (Int×Bool)))):AV:=.fn 137 [.ptr 3 0]
def zd0 (r:(List (List (Int×Bool)))):AS:=⟨[(2,.fn 137 [.ptr 3 0])],Mu r⟩
theorem Zu {n c r}(b:z0t n c=some r):ConG E0.P none (CalF E0.P 69 0) [Bi c] [] (zdb c) (Ru r) (Mu r):=by
 unfold z0t at b;refine aM (E:=(E0p 1)) (caps:=[]) _ bI rfl rfl rfl rfl rfl ?_;repeat' first
  |refine aJ ?_;conv=>whnf
  |refine aL b (λb=>?_) λb=>?_
  |refine aZ ?_
  |refine aX ?_
  |refine aU b λa b=>?_
  |exact GX.A (res:=Ru) (meF:=Mu) b zd0
  |refine AndA ?_
  |refine aO ?_
instance ztq {n d e}:CI E0 (Wo n d e) true 96 [.ref [aI d.fa.fVars,aI d.fa.fScopes,.sl 1 (d.fa.fStates.map Am),.sl 17 (d.fa.fEdges.map Aa),.mapv (List.map (encM Bj A5) (d.fheld))],A7 e] aI:=⟨λ{r} c=>by
 unfold Wo at c;refine cw Tryz.func96 ?_;repeat' first
  |refine bC c (λv c=>?_) λc=>?_
  |refine aE c λc=>?_
  |refine aC [1,9,11,19,21] ?_;conv=>whnf
  |refine aL c (λc=>?_) λc=>?_
  |refine aZ ?_
  |refine aD c λx c=>?_
  |exact⟨_,c,aA []⟩
  |refine cM rfl rfl rfl rfl ?_
  |refine aR c (aA []) λm v c=>?_
  |refine dP Bj A5 c zzb rfl rfl rfl rfl rfl rfl rfl rfl rfl rfl (by first|rfl|kernel_rfl) (by repeat' first|exact Sub.nil _|exact Sub.refl _|refine Sub.agg ?_|refine Sub.tup ?_|refine Sub.fn ?_|exact SubL.nil|refine SubL.cons ?_ ?_|refine Sub.sl _ ?_|exact SubE.nil|refine SubE.cons ?_ ?_) (λv b c=>?_)
  |refine aU c λa c=>?_
  |refine AndA ?_
  |exact aB c⟩
instance y3x {n f e d c}:CI E0 (zas n f e d c) false 142 [Bi f,.sl 5 (e.map A5),.sl 3 (d.map A7),A5 c] (λr=>.tup [.sl 3 (r.1.map A7),.sl 1 (r.2.1.map B1),aI r.2.2]):=⟨λ{r} b=>by
 unfold zas at b;refine cw Tryz.func142 ?_;repeat' first
  |refine bC b (λv b=>?_) λb=>?_
  |refine aE b λb=>?_
  |refine aC [17] ?_;conv=>whnf
  |refine aL b (λb=>?_) λb=>?_
  |refine Ab.oP b Eu (λu=>.tup [.nilp,aI (u.2)]) (λu y=>.tup [.ref [aI (y.fa.fVars),aI (y.fa.fScopes),.sl 1 (y.fa.fStates.map Am),.sl 17 (y.fa.fEdges.map Aa),.mapv (List.map (encM Bj A5) (y.fheld))],aI (u.2)]) (λu h=>by simp only[Eu,h,Gk]) (λu y h=>by simp only[Eu,h,Gk]) (λa h=>z40.h h) (λa b=>?_) (λa y b=>?_)
  |(cases b;done)
  |refine aU b λa b=>?_
  |exact⟨_,b,aA []⟩
  |refine aD b λx b=>?_
  |refine aR b (aA []) λm v b=>?_
  |exact aB b⟩
instance zkk {n b a}:CI E0 (z14 n b a) true 139 [Ai b,Ai a] (λr=>.bool (r)):=by unfold z14;exact aH [1] Tryz.func139
instance zux {n b a}:CI E0 (z2y n b a) true 138 [.sl 2 (b.map Ai),.sl 2 (a.map Ai),.fn 139 []] (λr=>.bool (r)):=by unfold z2y;exact aH [] Tryz.func138
instance zwv {n d c}:CI E0 (z2g n d c) false 141 [A7 d,.mapv (List.map (encM aI AV.bool) (c))] (λr=>.sl 4 (r.map B0)):=⟨λ{r} a=>by
 unfold z2g at a;refine cw Tryz.func141 ?_;repeat' first
  |refine aE a λa=>?_
  |refine aC [5] ?_;conv=>whnf
  |refine aL a (λa=>?_) λa=>?_
  |refine aZ ?_
  |refine aX ?_
  |refine aD a λx a=>?_
  |refine dP aI AV.bool a D1 rfl rfl rfl rfl rfl rfl rfl rfl rfl rfl (by first|rfl|kernel_rfl) (by repeat' first|exact Sub.nil _|exact Sub.refl _|refine Sub.agg ?_|refine Sub.tup ?_|refine Sub.fn ?_|exact SubL.nil|refine SubL.cons ?_ ?_|refine Sub.sl _ ?_|exact SubE.nil|refine SubE.cons ?_ ?_) (λv b a=>?_)
  |refine aN a λl a=>?_
  |exact⟨_,a,aA [(7022,22)]⟩
  |exact⟨_,a,aA []⟩
  |refine aR a ?_ λm v a=>?_
  |exact aF (aW 5 7022 93 4 rfl rfl) (aA [])
  |refine AndA ?_
  |refine aO ?_
  |exact aB a⟩
end
noncomputable section
abbrev zge {n d a b}:=li (z2f n d a b) (λc=>⟨[(0,.sl 4 (a.map B0)),(1,.sl 4 (d.map B0)),(12,aI (((a.map B0).length:Int))),(13,aI c)],[]⟩) λ_ _=>z2f.eq_2 ..
abbrev z5r {n}:=jf (Kz n) (λb=>⟨[(5,.bool (b))],[]⟩) λ_=>Kz.eq_1 ..
abbrev z78 {n d a b g c e f}:=jf (J1 n d a b g c e f) (λh=>⟨[(0,.sl 3 (a.map A7)),(1,.fn 137 [.ref [.sl 1 (List.map (λq=>AV.mapv (List.map (encM aI AV.bool) q)) (d))]]),(5,.row 7053),(6,aI b.1),(7,.ptr 7 0),(8,aI ((-1))),(9,aI c),(11,.sl 3 (a.map A7)),(12,aI (((a.map A7).length:Int))),(13,aI b.1),(18,.sl 3 (a.map A7)),(19,aI (((a.map A7).length:Int))),(20,aI c),(45,.bool (h))],[(7,.box 90 (C1 g)),(7053,.row 90 3 (b.2.map A7))]⟩) λ_=>J1.eq_1 ..
abbrev z74 {n c a b e d}:=li (J0 n c a b e d) (λf=>⟨[(0,.sl 3 (a.map A7)),(1,.fn 137 [.ref [.sl 1 (List.map (λq=>AV.mapv (List.map (encM aI AV.bool) q)) (c))]]),(5,.row 7053),(6,aI b.1),(7,.ptr 7 0),(8,aI ((-1))),(11,.sl 3 (a.map A7)),(12,aI (((a.map A7).length:Int))),(13,aI b.1),(18,.sl 3 (a.map A7)),(19,aI (((a.map A7).length:Int))),(20,aI f)],[(7,.box 90 (C1 e)),(7053,.row 90 3 (b.2.map A7))]⟩) λ_ _=>J0.eq_2 ..
abbrev z75 {n b a c}:=li (V4 n b a c) (λd=>⟨[(0,.sl 3 (a.map A7)),(1,.fn 137 [.ref [.sl 1 (List.map (λq=>AV.mapv (List.map (encM aI AV.bool) q)) (b))]]),(5,.row 7053),(11,.sl 3 (a.map A7)),(12,aI (((a.map A7).length:Int))),(13,aI d.1)],[(7053,.row 90 3 (d.2.map A7))]⟩) λ_ _=>V4.eq_2 ..
abbrev zen {n a b}:=li (z1k n a b) (λc=>⟨[(3,.row 7023),(6,.sl 3 (a.map A7)),(7,aI (((a.map A7).length:Int))),(8,aI c.1)],[(7023,.row 90 3 (c.2.map A7))]⟩) λ_ _=>z1k.eq_2 ..
abbrev z73 {n a2c0bc0 a d b}:=li (Zi n a2c0bc0 a d b) (λc=>⟨[(1,.sl 5 (a.map A5)),(2,.fn 71 [.ref [.fn 137 [.ref [.sl 1 (List.map (λq=>AV.mapv (List.map (encM aI AV.bool) q)) (a2c0bc0))]]]]),(3,.ptr 3 0),(8,.row 7016),(17,.sl 5 (a.map A5)),(18,aI (((a.map A5).length:Int))),(19,aI c.1)],[(3,.box 26 (B3 d)),(7016,.row 49 1 (List.map (λq=>AV.sl 3 (List.map A7 q)) (c.2)))]⟩) λ_ _=>Zi.eq_2 ..
abbrev zbm {n d a b}:=li (z0a n d a b) (λc=>⟨[(0,.sl 2 (a.map Ai)),(1,.sl 2 (d.map Ai)),(12,aI (((a.map Ai).length:Int))),(13,aI c)],[]⟩) λ_ _=>z0a.eq_2 ..
abbrev zdw {n}:=jf (N2 n) (λb=>⟨[(4,.bool (b))],[]⟩) λ_=>N2.eq_1 ..
abbrev za2 {n c a}:=jf (R5 n c a) (λb=>⟨[(2,.ptr 2 0),(5,.sl 3 (a.1.map A7)),(14,.bool (b))],[(2,.box 90 (C1 c))]⟩) λ_=>R5.eq_1 ..
abbrev ze0 {n a g h b c d e}:=jf (Se n a g h b c d e) (λf=>⟨[(1,.sl 5 (g.map A5)),(3,.ptr 3 0),(7,aI b),(8,.sl 3 (c.map A7)),(20,.sl 1 (List.map (λq=>AV.sl 3 (List.map A7 q)) (a.fSets))),(21,aI ((((List.map (λq=>AV.sl 3 (List.map A7 q)) (a.fSets)).length:Nat):Int))),(22,aI b),(30,.sl 3 (c.map A7)),(31,aI (((c.map A7).length:Int))),(32,aI d),(57,.bool (f))],[(3,.box 26 (B3 h))]⟩) λ_=>Se.eq_1 ..
abbrev zdy {n a f g b c d}:=li (Sd n a f g b c d) (λe=>⟨[(1,.sl 5 (f.map A5)),(3,.ptr 3 0),(7,aI b),(8,.sl 3 (c.map A7)),(20,.sl 1 (List.map (λq=>AV.sl 3 (List.map A7 q)) (a.fSets))),(21,aI ((((List.map (λq=>AV.sl 3 (List.map A7 q)) (a.fSets)).length:Nat):Int))),(22,aI b),(30,.sl 3 (c.map A7)),(31,aI (((c.map A7).length:Int))),(32,aI e)],[(3,.box 26 (B3 g))]⟩) λ_ _=>Sd.eq_2 ..
abbrev zdz {n a d e b}:=li (z1a n a d e b) (λc=>⟨[(1,.sl 5 (d.map A5)),(3,.ptr 3 0),(20,.sl 1 (List.map (λq=>AV.sl 3 (List.map A7 q)) (a.fSets))),(21,aI ((((List.map (λq=>AV.sl 3 (List.map A7 q)) (a.fSets)).length:Nat):Int))),(22,aI c)],[(3,.box 26 (B3 e))]⟩) λ_ _=>z1a.eq_2 ..
attribute [instance] zge z5r z78 z74 z75 zen z73 zbm zdw za2 ze0 zdy zdz
instance y11 {n b a}:CI E0 (z3e n b a) true 140 [.sl 4 (b.map B0),.sl 4 (a.map B0)] (λr=>.bool (r)):=by unfold z3e;exact aH [] Tryz.func140
instance zme {n e d c}:CI E0 (Vi n e d c) true 137 [A7 e,A7 d,.ref [.sl 1 (List.map (λq=>AV.mapv (List.map (encM aI AV.bool) q)) (c))]] (λr=>.bool (r)):=⟨λ{r} b=>by
 unfold Vi at b;refine cw Tryz.func137 ?_;repeat' first
  |refine bC b (λv b=>?_) λb=>?_
  |refine aE b λb=>?_
  |refine aC [1] ?_;conv=>whnf
  |refine aL b (λb=>?_) λb=>?_
  |refine aZ ?_
  |refine aX ?_
  |refine aU b λa b=>?_
  |refine cH (λq=>AV.mapv (List.map (encM aI AV.bool) q)) b λx b=>?_
  |exact⟨_,b,aA []⟩
  |refine AndA ?_
  |refine aO ?_
  |exact aB b⟩
instance zns {n d b}:CI E0 (z1r n d b) false 73 [.sl 3 (d.map A7),.fn 137 [.ref [.sl 1 (List.map (λq=>AV.mapv (List.map (encM aI AV.bool) q)) (b))]]] (λr=>.sl 3 (r.map A7)):=⟨λ{r} c=>by
 unfold z1r at c;refine cw Tryz.func73 ?_;repeat' first
  |refine bC c (λv c=>?_) λc=>?_
  |refine aE c λc=>?_
  |refine aC [9,12] ?_;conv=>whnf
  |refine aL c (λc=>?_) λc=>?_
  |refine aZ ?_
  |refine aX ?_
  |refine aD c λx c=>?_
  |refine aN c λl c=>?_
  |exact⟨_,c,aA [(7053,53)]⟩
  |exact⟨_,c,aA []⟩
  |refine aU c λa c=>?_
  |refine aR c ?_ λm v c=>?_
  |exact aA []
  |exact aF (aW 5 7053 90 3 rfl rfl) (aA [])
  |refine AndA ?_
  |refine aO ?_
  |exact aB c⟩
instance zzd {n c}:CI E0 (z3r n c) false 72 [.sl 3 (c.map A7)] (λr=>.sl 3 (r.map A7)):=⟨λ{r} b=>by
 unfold z3r at b;refine cw Tryz.func72 ?_;repeat' first
  |refine aJ ?_;conv=>whnf
  |refine aL b (λb=>?_) λb=>?_
  |refine aZ ?_
  |refine aX ?_
  |refine aD b λx b=>?_
  |refine Ab.o b (λq=>AV.sl 4 (List.map B0 q)) (λa h=>zu4 h) (λa b=>?_)
  |refine Ab.o b (λq=>AV.sl 2 (List.map Ai q)) (λa h=>zu3 h) (λa b=>?_)
  |refine aN b λl b=>?_
  |exact⟨_,b,aA [(7023,23)]⟩
  |refine aR b ?_ λm v b=>?_
  |exact aF (aW 3 7023 90 3 rfl rfl) (aA [])
  |refine AndA ?_
  |refine aO ?_
  |exact aB b⟩
instance zpu {n a a1bc0}:CI E0 (z2b n a a1bc0) false 71 [.sl 3 (a.map A7),.ref [.fn 137 [.ref [.sl 1 (List.map (λq=>AV.mapv (List.map (encM aI AV.bool) q)) (a1bc0))]]]] (λr=>.sl 3 (r.map A7)):=by unfold z2b;exact aH [] Tryz.func71
instance znr {n d c a2c0bc0}:CI E0 (z1q n d c a2c0bc0) false 70 [Bi d,.sl 5 (c.map A5),.fn 71 [.ref [.fn 137 [.ref [.sl 1 (List.map (λq=>AV.mapv (List.map (encM aI AV.bool) q)) (a2c0bc0))]]]]] (λr=>.tup [.sl 1 (List.map (λq=>AV.sl 3 (List.map A7 q)) (r.1)),aI r.2]):=⟨λ{r} b=>by
 unfold z1q at b;refine Con.env (E:=E0b) rfl rfl ?_;refine Con.walk _ dI rfl (Ax dI rfl rfl) rfl (bJ rfl) ?_;repeat' first
  |refine aJ ?_;conv=>whnf
  |refine aL b (λb=>?_) λb=>?_
  |refine aZ ?_
  |refine aX ?_
  |refine aU b λa b=>?_
  |refine dJ A7 b rfl rfl rfl rfl rfl rfl rfl rfl rfl rfl rfl rfl rfl rfl (λl b=>?_)
  |refine OpX.bldR (λq=>AV.sl 3 (List.map A7 q)) b rfl rfl rfl rfl rfl rfl rfl rfl rfl rfl rfl rfl rfl rfl rfl rfl (by first|exact SubR.refl _|(repeat' first|exact SubR.nil|refine SubR.cons ?_ ?_|exact SubL.nil|refine SubL.cons ?_ ?_|exact Sub.refl _|exact Sub.nil _)) rfl (λl b=>?_)
  |refine OpX.bld (λq=>AV.sl 3 (List.map A7 q)) b rfl rfl rfl rfl rfl rfl rfl rfl rfl rfl rfl rfl rfl rfl rfl rfl (λl b=>?_)
  |refine aD b λx b=>?_
  |refine cG A5 b (λl b=>?_)
  |refine cF b (λm b=>?_)
  |refine EltX.o (λq=>AV.sl 3 (List.map A7 q)) b (λx b=>?_)
  |refine dJ (λq=>AV.sl 3 (List.map A7 q)) b rfl rfl rfl rfl rfl rfl rfl rfl rfl rfl rfl rfl rfl rfl (λl b=>?_)
  |refine aN b λl b=>?_
  |exact⟨_,b,aA [(7016,51)]⟩
  |refine aR b ?_ λm v b=>?_
  |exact aA [(7016,16)]
  |refine AndA ?_
  |refine aO ?_
  |exact aB b⟩
instance zts {n d c}:CI E0 (z2u n d c) false 22 [Bi d,.sl 5 (c.map A5)] (λr=>.tup [aI r.1,B1 r.2.1,.agg [.sl 1 (List.map (λq=>AV.sl 3 (List.map A7 q)) (r.2.2.1.fSets))],aI r.2.2.2]):=⟨λ{r} b=>by
 unfold z2u at b;refine cw Tryz.func22 ?_;repeat' first
  |refine cL b 43000000 rfl rfl (λb=>?_)
  |refine cL b 11 rfl rfl (λb=>?_)
  |refine aE b λb=>?_
  |refine bB b 43000000 rfl (λb=>?_)
  |refine bB b 11 rfl (λb=>?_)
  |refine aC [10] ?_;conv=>whnf
  |refine aL b (λb=>?_) λb=>?_
  |refine aZ ?_
  |refine aX ?_
  |refine aU b λa b=>?_
  |refine aD b λx b=>?_
  |refine bH (Be 42 b) [] [(3,43000000)] _ _ Mu Ru [] (λa h=>aG (Zu h)) (Ax bI rfl rfl) rfl rfl rfl trivial (λa=>⟨rfl,rfl,rfl,rfl,rfl,rfl,rfl,rfl⟩) (λa b=>?_)
  |refine bR (Be 42 b) [] [(3,43000000)] _ _ Mu Ru [] (λa h=>aG (Zu h)) (Ax bI rfl rfl) rfl rfl rfl trivial (λa=>⟨rfl,rfl,rfl,rfl,rfl,rfl,rfl,rfl⟩) (λa b=>?_)
  |refine AndA ?_
  |refine aO ?_
  |exact aB b⟩
instance y6t {n e d c}:CI E0 (zf9 n e d c) true 145 [Bi e,.sl 5 (d.map A5),A7 c] aI:=⟨λ{r} b=>by
 unfold zf9 at b;refine cw Tryz.func145 ?_;repeat' first
  |refine aJ ?_;conv=>whnf
  |refine aL b (λb=>?_) λb=>?_
  |refine Ab.oP b Eu (λu=>.tup [.nilp,aI (u.2)]) (λu y=>.tup [.ref [aI (y.fa.fVars),aI (y.fa.fScopes),.sl 1 (y.fa.fStates.map Am),.sl 17 (y.fa.fEdges.map Aa),.mapv (List.map (encM Bj A5) (y.fheld))],aI (u.2)]) (λu h=>by simp only[Eu,h,Gk]) (λu y h=>by simp only[Eu,h,Gk]) (λa h=>z40.h h) (λa b=>?_) (λa y b=>?_)
  |(cases b;done)
  |refine aU b λa b=>?_
  |exact aB b⟩
instance ztp {n b a}:CI E0 (z2s n b a) true 266 [.sl 2 (b.map Ai),.sl 2 (a.map Ai)] (λr=>.bool (r)):=by unfold z2s;exact aH [] Tryz.func266
instance zwu {n b a}:CI E0 (z3b n b a) true 215 [A7 b,A7 a] (λr=>.bool (r)):=by unfold z3b;exact aH [1] Tryz.func215
instance zqx {n b a}:CI E0 (z2i n b a) true 146 [A7 b,A7 a] aI:=by unfold z2i;exact aH [2] Tryz.func146
end
noncomputable section
abbrev z5f {n b a1c0bc0 a c}:=li (Z9 n b a1c0bc0 a c) (λd=>⟨[(0,.sl 3 (a.map A7)),(1,.fn 77 [.ref [.fn 137 [.ref [.sl 1 (List.map (λq=>AV.mapv (List.map (encM aI AV.bool) q)) (a1c0bc0))]]],.ref (C1 b)]),(7,aI (((a.map A7).length:Int))),(8,aI d)],[]⟩) λ_ _=>Z9.eq_2 ..
abbrev z5e {n b c a1c0bc0bc0 a d}:=li (Z8 n b c a1c0bc0bc0 a d) (λe=>⟨[(0,.sl 3 (a.map A7)),(1,.fn 78 [.ref [.fn 75 [.ref [.fn 137 [.ref [.sl 1 (List.map (λq=>AV.mapv (List.map (encM aI AV.bool) q)) (a1c0bc0bc0))]]]]],.ref [.sl 1 (List.map (λq=>AV.sl 3 (List.map A7 q)) (c.fSets))],.ref [aI b]]),(7,aI (((a.map A7).length:Int))),(8,aI e)],[]⟩) λ_ _=>Z8.eq_2 ..
abbrev zbt {n h a i b f c d e}:=jf (Mn n h a i b f c d e) (λg=>⟨[(1,.sl 5 (a.map A5)),(3,.ptr 3 0),(5,.ptr 5 0),(10,.ref [.fn 75 [.ref [.fn 137 [.ref [.sl 1 (List.map (λq=>AV.mapv (List.map (encM aI AV.bool) q)) (b.1))]]]]]),(11,.ptr 11 0),(12,.ptr 12 0),(42,.sl 5 (a.map A5)),(43,aI (((a.map A5).length:Int))),(44,aI b.2),(53,.sl 3 (c.map A7)),(54,aI (((c.map A7).length:Int))),(55,aI d),(81,.bool (g))],[(3,.box 26 (B3 i)),(5,.box 57 [.sl 1 (List.map (λq=>AV.sl 3 (List.map A7 q)) (h.fSets))]),(11,.box 3 [aI b.2]),(12,.box 37 (Bx f))]⟩) λ_=>Mn.eq_1 ..
abbrev zbr {n g a h b e c d}:=li (Mm n g a h b e c d) (λf=>⟨[(1,.sl 5 (a.map A5)),(3,.ptr 3 0),(5,.ptr 5 0),(10,.ref [.fn 75 [.ref [.fn 137 [.ref [.sl 1 (List.map (λq=>AV.mapv (List.map (encM aI AV.bool) q)) (b.1))]]]]]),(11,.ptr 11 0),(12,.ptr 12 0),(42,.sl 5 (a.map A5)),(43,aI (((a.map A5).length:Int))),(44,aI b.2),(53,.sl 3 (c.map A7)),(54,aI (((c.map A7).length:Int))),(55,aI f)],[(3,.box 26 (B3 h)),(5,.box 57 [.sl 1 (List.map (λq=>AV.sl 3 (List.map A7 q)) (g.fSets))]),(11,.box 3 [aI b.2]),(12,.box 37 (Bx e))]⟩) λ_ _=>Mm.eq_2 ..
abbrev zbs {n d a e b}:=li (z0b n d a e b) (λc=>⟨[(1,.sl 5 (a.map A5)),(3,.ptr 3 0),(5,.ptr 5 0),(10,.ref [.fn 75 [.ref [.fn 137 [.ref [.sl 1 (List.map (λq=>AV.mapv (List.map (encM aI AV.bool) q)) (c.1))]]]]]),(42,.sl 5 (a.map A5)),(43,aI (((a.map A5).length:Int))),(44,aI c.2)],[(3,.box 26 (B3 e)),(5,.box 57 [.sl 1 (List.map (λq=>AV.sl 3 (List.map A7 q)) (d.fSets))])]⟩) λ_ _=>z0b.eq_2 ..
abbrev zg1 {n}:=jf (Jw n) (λb=>⟨[(12,.bool (b))],[]⟩) λ_=>Jw.eq_1 ..
abbrev zg2 {n a}:=jf (Sx n a) (λb=>⟨[(1,.ptr 1 0),(3,.bool (b))],[(1,.box 37 (Bx a))]⟩) λ_=>Sx.eq_1 ..
abbrev zhy {n a d b}:=li (z2q n a d b) (λc=>⟨[(6,.sl 2 (d.fFields.map D0)),(38,.sl 3 (a.fValues.map Ag)),(39,aI (((a.fValues.map Ag).length:Int))),(40,aI c)],[]⟩) λ_ _=>z2q.eq_2 ..
abbrev zhz {n a c}:=jf (Ta n a c) (λb=>⟨[(0,.sl 2 (c.map B2)),(3,.ptr 3 0),(24,.bool (b))],[(3,.box 37 (Bx a))]⟩) λ_=>Ta.eq_1 ..
abbrev zfj {n}:=jf (Ss n) (λb=>⟨[(31,.bool (b))],[]⟩) λ_=>Ss.eq_1 ..
abbrev zfk {n a}:=jt (Su n a) (λb=>⟨[(1,.ptr 1 0),(3,aI b)],[(1,.box 39 [aI a.fVerdict,aI a.fBound,.sl 5 (a.fPrefix.map A5),aI a.fPeriod])]⟩) λ_=>Su.eq_1 ..
attribute [instance] z5f z5e zbt zbr zbs zg1 zg2 zhy zhz zfj zfk
instance zww {n e d c}:CI E0 (z3c n e d c) true 74 [Bi e,.sl 5 (d.map A5),.agg [.sl 1 (List.map (λq=>AV.sl 3 (List.map A7 q)) (c.fSets))]] aI:=⟨λ{r} b=>by
 unfold z3c at b;refine cw Tryz.func74 ?_;repeat' first
  |refine bC b (λv b=>?_) λb=>?_
  |refine aE b λb=>?_
  |refine aC [14] ?_;conv=>whnf
  |refine aL b (λb=>?_) λb=>?_
  |refine aZ ?_
  |refine aX ?_
  |refine cH (λq=>AV.sl 3 (List.map A7 q)) b λx b=>?_
  |exact⟨_,b,aA []⟩
  |refine aD b λx b=>?_
  |refine cG A5 b (λl b=>?_)
  |refine aU b λa b=>?_
  |refine aR b (aA []) λm v b=>?_
  |refine AndA ?_
  |refine aO ?_
  |exact aB b⟩
instance zmf {n b a1bc0 a}:CI E0 (z1l n b a1bc0 a) true 77 [A7 b,.ref [.fn 137 [.ref [.sl 1 (List.map (λq=>AV.mapv (List.map (encM aI AV.bool) q)) (a1bc0))]]],.ref (C1 a)] (λr=>.bool (r)):=by unfold z1l;exact aH [] Tryz.func77
instance zm4 {n a a1c0bc0 b}:CI E0 (z1i n a a1c0bc0 b) true 147 [.sl 3 (a.map A7),.fn 77 [.ref [.fn 137 [.ref [.sl 1 (List.map (λq=>AV.mapv (List.map (encM aI AV.bool) q)) (a1c0bc0))]]],.ref (C1 b)]] aI:=by unfold z1i;exact aH [] dD
instance zik {n a a1c0bc0 b}:CI E0 (z0g n a a1c0bc0 b) true 76 [.sl 3 (a.map A7),.fn 77 [.ref [.fn 137 [.ref [.sl 1 (List.map (λq=>AV.mapv (List.map (encM aI AV.bool) q)) (a1c0bc0))]]],.ref (C1 b)]] (λr=>.bool (r)):=by unfold z0g;exact aH [] dK
instance zpt {n d c a2bc0}:CI E0 (z0u n d c a2bc0) true 75 [.sl 3 (d.map A7),A7 c,.ref [.fn 137 [.ref [.sl 1 (List.map (λq=>AV.mapv (List.map (encM aI AV.bool) q)) (a2bc0))]]]] (λr=>.bool (r)):=⟨λ{r} b=>by
 unfold z0u at b;refine cw Tryz.func75 ?_;repeat' first
  |refine aJ ?_;conv=>whnf
  |refine aL b (λb=>?_) λb=>?_
  |refine aZ ?_
  |refine aX ?_
  |refine dG b (λa b=>?_) rfl rfl λ_=>aY rfl
  |refine AndA ?_
  |refine aO ?_
  |exact aB b⟩
instance y82 {n f e d c}:CI E0 (zh4 n f e d c) false 40 [Bi f,.sl 5 (e.map A5),A7 d,A5 c] (λr=>.tup [.sl 3 (r.1.map A7),.sl 1 (r.2.1.map B1),aI r.2.2]):=⟨λ{r} b=>by
 unfold zh4 at b;refine cw Tryz.func40 ?_;repeat' first
  |refine aJ ?_;conv=>whnf
  |refine aL b (λb=>?_) λb=>?_
  |refine aZ ?_
  |refine aX ?_
  |refine Ab.oP b Eu (λu=>.tup [.nilp,aI (u.2)]) (λu y=>.tup [.ref [aI (y.fa.fVars),aI (y.fa.fScopes),.sl 1 (y.fa.fStates.map Am),.sl 17 (y.fa.fEdges.map Aa),.mapv (List.map (encM Bj A5) (y.fheld))],aI (u.2)]) (λu h=>by simp only[Eu,h,Gk]) (λu y h=>by simp only[Eu,h,Gk]) (λa h=>z40.h h) (λa b=>?_) (λa y b=>?_)
  |(cases b;done)
  |refine aU b λa b=>?_
  |refine AndA ?_
  |refine aO ?_
  |exact aB b⟩
instance zps {n e a1bc0bc0 d c}:CI E0 (z2a n e a1bc0bc0 d c) true 78 [A7 e,.ref [.fn 75 [.ref [.fn 137 [.ref [.sl 1 (List.map (λq=>AV.mapv (List.map (encM aI AV.bool) q)) (a1bc0bc0))]]]]],.ref [.sl 1 (List.map (λq=>AV.sl 3 (List.map A7 q)) (d.fSets))],.ref [aI c]] (λr=>.bool (r)):=⟨λ{r} b=>by
 unfold z2a at b;refine cw Tryz.func78 ?_;repeat' first
  |refine aJ ?_;conv=>whnf
  |refine aL b (λb=>?_) λb=>?_
  |refine aZ ?_
  |refine aX ?_
  |refine cH (λq=>AV.sl 3 (List.map A7 q)) b λx b=>?_
  |refine aU b λa b=>?_
  |refine AndA ?_
  |refine aO ?_
  |exact aB b⟩
instance zm3 {n a a1c0bc0bc0 b c}:CI E0 (z1h n a a1c0bc0bc0 b c) true 147 [.sl 3 (a.map A7),.fn 78 [.ref [.fn 75 [.ref [.fn 137 [.ref [.sl 1 (List.map (λq=>AV.mapv (List.map (encM aI AV.bool) q)) (a1c0bc0bc0))]]]]],.ref [.sl 1 (List.map (λq=>AV.sl 3 (List.map A7 q)) (b.fSets))],.ref [aI c]]] aI:=by unfold z1h;exact aH [] dD
instance zij {n a a1c0bc0bc0 b c}:CI E0 (z0f n a a1c0bc0bc0 b c) true 76 [.sl 3 (a.map A7),.fn 78 [.ref [.fn 75 [.ref [.fn 137 [.ref [.sl 1 (List.map (λq=>AV.mapv (List.map (encM aI AV.bool) q)) (a1c0bc0bc0))]]]]],.ref [.sl 1 (List.map (λq=>AV.sl 3 (List.map A7 q)) (b.fSets))],.ref [aI c]]] (λr=>.bool (r)):=by unfold z0f;exact aH [] dK
instance ztr {n e d c}:CI E0 (z2t n e d c) true 23 [Bi e,.sl 5 (d.map A5),.agg [.sl 1 (List.map (λq=>AV.sl 3 (List.map A7 q)) (c.fSets))]] aI:=⟨λ{r} b=>by
 unfold z2t at b;refine cw Tryz.func23 ?_;repeat' first
  |refine cL b 33000000 rfl rfl (λb=>?_)
  |refine cL b 9 rfl rfl (λb=>?_)
  |refine bC b (λv b=>?_) λb=>?_
  |refine aE b λb=>?_
  |refine bB b 33000000 rfl (λb=>?_)
  |refine bB b 9 rfl (λb=>?_)
  |refine bB b 10 rfl (λb=>?_)
  |refine aC [9,18] ?_;conv=>whnf
  |refine aL b (λb=>?_) λb=>?_
  |refine aZ ?_
  |refine aX ?_
  |refine aU b λa b=>?_
  |refine bH (Be 32 b) [] [(3,33000000)] _ _ Mu Ru [] (λa h=>aG (Zu h)) (Ax bI rfl rfl) rfl rfl rfl trivial (λa=>⟨rfl,rfl,rfl,rfl,rfl,rfl,rfl,rfl⟩) (λa b=>?_)
  |refine bR (Be 32 b) [] [(3,33000000)] _ _ Mu Ru [] (λa h=>aG (Zu h)) (Ax bI rfl rfl) rfl rfl rfl trivial (λa=>⟨rfl,rfl,rfl,rfl,rfl,rfl,rfl,rfl⟩) (λa b=>?_)
  |refine cH (λq=>AV.sl 3 (List.map A7 q)) b λx b=>?_
  |refine aD b λx b=>?_
  |exact⟨_,b,aA []⟩
  |refine cG A5 b (λl b=>?_)
  |refine dG b (λa b=>?_) rfl rfl λ_=>aY rfl
  |refine aR b ?_ λm v b=>?_
  |exact aA []
  |exact aF (LeX.frb 10 rfl rfl) (aA [])
  |refine AndA ?_
  |refine aO ?_
  |exact aB b⟩
instance y0t {n a}:CI E0 (z4v n a) true 270 [A5 a] aI:=by unfold z4v;exact aH [1,3] Tryz.func270
instance y3z {n b a}:CI E0 (zau n b a) true 221 [.sl 2 (b.map B2),A5 a] aI:=by unfold zau;exact aH [4] Tryz.func221
instance y40 {n b a}:CI E0 (zav n b a) true 162 [.sl 2 (b.map B2),A5 a] aI:=by unfold zav;exact aH [] Tryz.func162
end
noncomputable section
abbrev z5d {n c b a d}:=li (Z7 n c b a d) (λe=>⟨[(0,.sl 1 (a.map aI)),(1,.fn 224 [.ref [.sl 2 (b.ftypes.map B2),aI b.fa.fVars,aI b.fa.fScopes,.sl 1 (b.fa.fStates.map Am),.sl 17 (b.fa.fEdges.map Aa)],.ref [aI c]]),(7,aI (((a.map aI).length:Int))),(8,aI e)],[]⟩) λ_ _=>Z7.eq_2 ..
abbrev z3o {n a c}:=li (P8 n a c) (λb=>⟨[(1,.fn 225 [.ptr 100000 0,.ptr 100001 0]),(2,.ptr 2 0),(5,.row 7027),(10,.sl 17 (a.fa.fEdges.map Aa)),(11,aI (((a.fa.fEdges.map Aa).length:Int))),(12,aI b.1)],[(100000,.box 3 [aI b.2.1]),(100001,.box 113 [.row 200001]),(2,.box 111 [.sl 2 (a.ftypes.map B2),aI a.fa.fVars,aI a.fa.fScopes,.sl 1 (a.fa.fStates.map Am),.sl 17 (a.fa.fEdges.map Aa)]),(7027,.row 149 17 (b.2.2.1.map Aa)),(200001,.mp (List.map (encM aI AV.bool) (b.2.2.2)))]⟩) λ_ _=>P8.eq_2 ..
abbrev z8y {n c}:=li (Zs n c) (λb=>⟨[(5,.fn 222 [.ptr 3 0,.ptr 2 0]),(49,.ptr 49 0)],[(3,.box 43 [.sl 1 (b.1.map aI)]),(2,.box 111 [.sl 2 (b.2.1.map B2),aI b.2.2.1,aI b.2.2.2.1,.sl 1 (b.2.2.2.2.1.map Am),.sl 17 (b.2.2.2.2.2.1.map Aa)]),(49,.it (List.map (encM aI AV.bool) (b.2.2.2.2.2.2)))]⟩) λ_ _=>Zs.eq_2 ..
abbrev z8x {n b d c e}:=li (Zr n b d c e) (λf=>⟨[(2,.ptr 2 0),(5,.fn 222 [.ptr 3 0,.ptr 2 0]),(6,.ptr 6 0),(9,.row 30),(24,.sl 1 (b.2.2.2.2.2.2.map aI)),(25,aI (((b.2.2.2.2.2.2.map aI).length:Int))),(26,aI d.1),(33,.sl 17 (c.1.map Aa)),(34,aI (((c.1.map Aa).length:Int))),(35,aI f.1)],[(2,.box 111 [.sl 2 (b.2.1.map B2),aI b.2.2.1,aI b.2.2.2.1,.sl 1 (b.2.2.2.2.1.map Am),.sl 17 (b.2.2.2.2.2.1.map Aa)]),(3,.box 43 [.sl 1 (b.2.2.2.2.2.2.map aI)]),(6,.box 113 [.row 34000002]),(30,.mp (List.map (encM aI AV.bool) (f.2))),(34000002,.mp (List.map (encM aI AV.bool) (c.2.2)))]⟩) λ_ _=>Zr.eq_2 ..
abbrev z8z {n b c}:=li (Zt n b c) (λd=>⟨[(2,.ptr 2 0),(5,.fn 222 [.ptr 3 0,.ptr 2 0]),(6,.ptr 6 0),(24,.sl 1 (b.2.2.2.2.2.2.map aI)),(25,aI (((b.2.2.2.2.2.2.map aI).length:Int))),(26,aI d.1)],[(2,.box 111 [.sl 2 (b.2.1.map B2),aI b.2.2.1,aI b.2.2.2.1,.sl 1 (b.2.2.2.2.1.map Am),.sl 17 (b.2.2.2.2.2.1.map Aa)]),(3,.box 43 [.sl 1 (b.2.2.2.2.2.2.map aI)]),(6,.box 113 [.row 7022]),(7022,.mp (List.map (encM aI AV.bool) (d.2)))]⟩) λ_ _=>Zt.eq_2 ..
abbrev z90 {n}:=jf (Qp n) (λb=>⟨[(2,.ptr 2 0),(3,.ptr 3 0),(5,.fn 222 [.ptr 3 0,.ptr 2 0]),(21,.bool (b.1))],[(2,.box 111 [.sl 2 (b.2.1.map B2),aI b.2.2.1,aI b.2.2.2.1,.sl 1 (b.2.2.2.2.1.map Am),.sl 17 (b.2.2.2.2.2.1.map Aa)]),(3,.box 43 [.sl 1 (b.2.2.2.2.2.2.map aI)])]⟩) λ_=>Qp.eq_1 ..
abbrev z4i {n e f a b c}:=li (Z3 n e f a b c) (λd=>⟨[(1,aI f),(3,.ptr 3 0),(5,.ptr 5 0),(8,.row 7038),(12,aI d)],[(3,.box 111 [.sl 2 (a.ftypes.map B2),aI a.fa.fVars,aI a.fa.fScopes,.sl 1 (a.fa.fStates.map Am),.sl 17 (a.fa.fEdges.map Aa)]),(5,.box 39 [aI e.fVerdict,aI e.fBound,.sl 5 (e.fPrefix.map A5),aI e.fPeriod]),(7038,.row 3 1 (b.map aI))]⟩) λ_ _=>Z3.eq_2 ..
abbrev z4j {n a e d b}:=li (Z4 n a e d b) (λc=>⟨[(1,aI e),(3,.ptr 3 0),(5,.ptr 5 0),(8,.row 7038),(21,.sl 5 (a.fPrefix.map A5)),(22,aI (((a.fPrefix.map A5).length:Int))),(23,aI c.1)],[(3,.box 111 [.sl 2 (d.ftypes.map B2),aI d.fa.fVars,aI d.fa.fScopes,.sl 1 (d.fa.fStates.map Am),.sl 17 (d.fa.fEdges.map Aa)]),(5,.box 39 [aI a.fVerdict,aI a.fBound,.sl 5 (a.fPrefix.map A5),aI a.fPeriod]),(7038,.row 3 1 (c.2.map aI))]⟩) λ_ _=>Z4.eq_2 ..
abbrev zfm {n}:=jf (Sv n) (λb=>⟨[(45,.bool (b))],[]⟩) λ_=>Sv.eq_1 ..
abbrev zfn {n a c d}:=jf (Sw n a c d) (λb=>⟨[(2,aI c),(5,.ptr 5 0),(7,.ptr 7 0),(31,.bool (b))],[(5,.box 26 (B3 d)),(7,.box 39 [aI a.fVerdict,aI a.fBound,.sl 5 (a.fPrefix.map A5),aI a.fPeriod])]⟩) λ_=>Sw.eq_1 ..
attribute [instance] z5d z3o z8y z8x z8z z90 z4i z4j zfm zfn
instance y0n {n a}:CI E0 (z4t n a) true 163 [.agg [aI a.fVerdict,aI a.fBound,.sl 5 (a.fPrefix.map A5),aI a.fPeriod]] aI:=by unfold z4t;exact aH [3,5] Tryz.func163
instance zkm {n c a b}:CI E0 (z15 n c a b) true 224 [aI c,.ref [.sl 2 (a.ftypes.map B2),aI a.fa.fVars,aI a.fa.fScopes,.sl 1 (a.fa.fStates.map Am),.sl 17 (a.fa.fEdges.map Aa)],.ref [aI b]] (λr=>.bool (r)):=by unfold z15;exact aH [] Tryz.func224
instance zm2 {n a b c}:CI E0 (z1g n a b c) true 272 [.sl 1 (a.map aI),.fn 224 [.ref [.sl 2 (b.ftypes.map B2),aI b.fa.fVars,aI b.fa.fScopes,.sl 1 (b.fa.fStates.map Am),.sl 17 (b.fa.fEdges.map Aa)],.ref [aI c]]] aI:=by unfold z1g;exact aH [] Tryz.func272
instance zii {n a b c}:CI E0 (z0e n a b c) true 223 [.sl 1 (a.map aI),.fn 224 [.ref [.sl 2 (b.ftypes.map B2),aI b.fa.fVars,aI b.fa.fScopes,.sl 1 (b.fa.fStates.map Am),.sl 17 (b.fa.fEdges.map Aa)],.ref [aI c]]] (λr=>.bool (r)):=by unfold z0e;exact aH [] Tryz.func223
def zaq (c:Int)(b:(List Int))(a:Bf):List (Nat×Ent):=[(100000,.box 43 [.sl 1 (b.map aI)]),(100001,.box 111 [.sl 2 (a.ftypes.map B2),aI a.fa.fVars,aI a.fa.fScopes,.sl 1 (a.fa.fStates.map Am),.sl 17 (a.fa.fEdges.map Aa)])]
def Ls (r:Bool×(List Int)×Bf):List (Nat×Ent):=[(100000,.box 43 [.sl 1 (r.2.1.map aI)]),(100001,.box 111 [.sl 2 (r.2.2.ftypes.map B2),aI r.2.2.fa.fVars,aI r.2.2.fa.fScopes,.sl 1 (r.2.2.fa.fStates.map Am),.sl 17 (r.2.2.fa.fEdges.map Aa)])]
def Qs (r:Bool×(List Int)×Bf):AV:=.bool (r.1)
def zam (r:Bool×(List Int)×Bf):AS:=⟨[(4,.bool (r.1)),(1,.ptr 100000 0),(2,.ptr 100001 0)],Ls r⟩
theorem Ze {n c e d r}(b:z05 n c e d=some r):ConG E0.P none (CalF E0.P 222 0) [aI c,.ptr 100000 0,.ptr 100001 0] [] (zaq c e d) (Qs r) (Ls r):=by
 unfold z05 at b;refine aM (E:=(E0p 3)) (caps:=[]) _ bF rfl rfl rfl rfl rfl ?_;repeat' first
  |refine aJ ?_;conv=>whnf
  |refine aL b (λb=>?_) λb=>?_
  |refine aZ ?_
  |refine aX ?_
  |refine dG b (λa b=>?_) rfl rfl λ_=>aY rfl
  |exact GX.A (res:=Qs) (meF:=Ls) b zam
  |refine AndA ?_
  |refine aO ?_
def zap (c:Ah)(b:Int)(a:(List (Int×Bool))):List (Nat×Ent):=[(100000,.box 3 [aI b]),(100001,.box 113 [.row 200001]),(200001,.mp (List.map (encM aI AV.bool) (a)))]
def Vc (r:Bool×Int×(List (Int×Bool))):List (Nat×Ent):=[(100000,.box 3 [aI r.2.1]),(100001,.box 113 [.row 250001]),(250001,.mp (List.map (encM aI AV.bool) (r.2.2)))]
def Zw (r:Bool×Int×(List (Int×Bool))):AV:=.bool (r.1)
def zal (r:Bool×Int×(List (Int×Bool))):AS:=⟨[(4,.bool (r.1)),(1,.ptr 100000 0),(2,.ptr 100001 0)],Vc r⟩
theorem z2l {n c e d r}(a:z1m n c e d=some r):ConG E0.P none (CalF E0.P 225 0) [Aa c,.ptr 100000 0,.ptr 100001 0] [] (zap c e d) (Zw r) (Vc r):=by
 unfold z1m at a;refine aM (E:=(E0p 3)) (caps:=[]) _ cB rfl rfl rfl rfl rfl ?_;repeat' first
  |refine aJ ?_;conv=>whnf
  |refine aL a (λa=>?_) λa=>?_
  |refine aZ ?_
  |refine aX ?_
  |refine LkX.o aI AV.bool a (by first|rfl|kernel_rfl) D1 (by repeat' first|exact Sub.nil _|exact Sub.refl _|refine Sub.agg ?_|refine Sub.tup ?_|refine Sub.fn ?_|exact SubL.nil|refine SubL.cons ?_ ?_|refine Sub.sl _ ?_|exact SubE.nil|refine SubE.cons ?_ ?_) (λv b a=>?_)
  |exact GX.A (res:=Zw) (meF:=Vc) a zal (h1:=aA [(250001,200001)])
  |refine AndA ?_
  |refine aO ?_
def z63 (c:Bf)(b:Int)(a:(List (Int×Bool))):List (Nat×Ent):=[(100000,.box 3 [aI b]),(100001,.box 113 [.row 200001]),(200001,.mp (List.map (encM aI AV.bool) (a)))]
def Uv (r:(List Ah)×Int×(List (Int×Bool))):List (Nat×Ent):=[(100000,.box 3 [aI r.2.1]),(100001,.box 113 [.row 250001]),(250001,.mp (List.map (encM aI AV.bool) (r.2.2)))]
def Z5 (r:(List Ah)×Int×(List (Int×Bool))):AV:=.sl 17 (r.1.map Aa)
def z61 (r:(List Ah)×Int×(List (Int×Bool))):AS:=⟨[(4,.sl 17 (r.1.map Aa)),(1,.fn 225 [.ptr 100000 0,.ptr 100001 0])],Uv r⟩
theorem z1s {n c e d r}(b:z0h n c e d=some r):ConG E0.P none (CalF E0.P 105 0) [.agg [.sl 2 (c.ftypes.map B2),aI c.fa.fVars,aI c.fa.fScopes,.sl 1 (c.fa.fStates.map Am),.sl 17 (c.fa.fEdges.map Aa)],.fn 225 [.ptr 100000 0,.ptr 100001 0]] [] (z63 c e d) (Z5 r) (Uv r):=by
 unfold z0h at b;refine aM (E:=(E0p 2)) (caps:=[]) _ cC rfl rfl rfl rfl rfl ?_;repeat' first
  |refine aE b λb=>?_
  |refine bB b 7027 rfl (λb=>?_)
  |refine aC [8] ?_;conv=>whnf
  |refine aL b (λb=>?_) λb=>?_
  |refine aZ ?_
  |refine aX ?_
  |refine GX.o (res:=Z5) (meF:=Uv) b ?_;exact GX.mk (z61 _) (aA [(250001,200001)]) rfl _ rfl (by repeat' first|exact Sub.nil _|exact Sub.refl _|refine Sub.agg ?_|refine Sub.tup ?_|refine Sub.fn ?_|exact SubL.nil|refine SubL.cons ?_ ?_|refine Sub.sl _ ?_|exact SubE.nil|refine SubE.cons ?_ ?_) [100000,100001] ⟨aY ⟨1,0,_,_,_,_,_,aT rfl,rfl,rfl,rfl,rfl,rfl⟩,⟨aY ⟨1,1,_,_,_,_,_,aT rfl,rfl,rfl,rfl,rfl,rfl⟩,trivial⟩⟩ rfl
  |refine aD b λx b=>?_
  |refine aU b λa b=>?_
  |refine bH (Be 22 b) [(100000,100000),(100001,100001),(200001,200001)] [(100000,100000),(100001,100001),(250001,23000002)] _ _ Vc Zw [200001] (λa h=>aG (z2l h)) (Ax cB rfl rfl) rfl rfl rfl ⟨⟨rfl,rfl⟩,⟨⟨rfl,rfl⟩,⟨⟨rfl,rfl⟩,trivial⟩⟩⟩ (λa=>⟨rfl,rfl,rfl,rfl,rfl,rfl,rfl,rfl⟩) (λa b=>?_)
  |refine bR (Be 22 b) [(100000,100000),(100001,100001),(200001,200001)] [(100000,100000),(100001,100001),(250001,23000002)] _ _ Vc Zw [200001] (λa h=>aG (z2l h)) (Ax cB rfl rfl) rfl rfl rfl ⟨⟨rfl,rfl⟩,⟨⟨rfl,rfl⟩,⟨⟨rfl,rfl⟩,trivial⟩⟩⟩ (λa=>⟨rfl,rfl,rfl,rfl,rfl,rfl,rfl,rfl⟩) (λa b=>?_)
  |refine aN b λl b=>?_
  |exact⟨_,b,aA [(7027,27),(200001,23000002)]⟩
  |exact⟨_,b,aA [(200001,23000002)]⟩
  |exact⟨_,b,aA []⟩
  |refine aR b ?_ λm v b=>?_
  |exact aF (aW 5 7027 149 17 rfl rfl) (aA [])
  |refine AndA ?_
  |refine aO ?_
instance zpv {n c d}:CI E0 (z2c n c d) true 164 [.agg [.sl 2 (c.ftypes.map B2),aI c.fa.fVars,aI c.fa.fScopes,.sl 1 (c.fa.fStates.map Am),.sl 17 (c.fa.fEdges.map Aa)],.sl 1 (d.map aI)] (λr=>.bool (r)):=⟨λ{r} b=>by
 unfold z2c at b;refine cw Tryz.func164 ?_;repeat' first
  |refine AW.frsO AV.bool b 7022 rfl (λb=>?_)
  |refine AW.pckO (encM aI AV.bool) b 49 rfl (λx s b=>?_)
  |refine bC b (λv b=>?_) λb=>?_
  |refine aE b λb=>?_
  |refine bB b 7022 rfl (λb=>?_)
  |refine aC [16,2,18] ?_;conv=>whnf
  |refine aL b (λb=>?_) λb=>?_
  |refine aZ ?_
  |refine aX ?_
  |refine UpX.o aI AV.bool b (by first|rfl|kernel_rfl) D1 (by repeat' first|exact Sub.nil _|exact Sub.refl _|refine Sub.agg ?_|refine Sub.tup ?_|refine Sub.fn ?_|exact SubL.nil|refine SubL.cons ?_ ?_|refine Sub.sl _ ?_|exact SubE.nil|refine SubE.cons ?_ ?_) (λl b=>?_)
  |refine aU b λa b=>?_
  |refine OpX.rng rfl rfl rfl rfl rfl rfl rfl rfl ?_
  |refine OpX.nxt (encM aI AV.bool) b rfl rfl rfl rfl rfl (λb=>?_) (λb=>?_)
  |refine OpX.ent rfl rfl rfl rfl rfl ?_
  |refine bH (Be 56 b) [(100000,3),(100001,2)] [(100000,3),(100001,2)] _ _ Ls Qs [] (λa h=>aG (Ze h)) (Ax bF rfl rfl) rfl rfl rfl ⟨⟨rfl,rfl⟩,⟨⟨rfl,rfl⟩,trivial⟩⟩ (λa=>⟨rfl,rfl,rfl,rfl,rfl,rfl,rfl,rfl⟩) (λa b=>?_)
  |refine bR (Be 56 b) [(100000,3),(100001,2)] [(100000,3),(100001,2)] _ _ Ls Qs [] (λa h=>aG (Ze h)) (Ax bF rfl rfl) rfl rfl rfl ⟨⟨rfl,rfl⟩,⟨⟨rfl,rfl⟩,trivial⟩⟩ (λa=>⟨rfl,rfl,rfl,rfl,rfl,rfl,rfl,rfl⟩) (λa b=>?_)
  |exact⟨_,b,aF (bP 49 rfl) (aA [])⟩
  |refine aR b ?_ λm v b=>?_
  |exact aA []
  |refine aD b λx b=>?_
  |refine bH (Be 33 b) [(100000,8),(100001,6),(200001,7022)] [(100000,8),(100001,6),(250001,34000002)] _ _ Uv Z5 [7022] (λa h=>aG (z1s h)) (Ax cC rfl rfl) rfl rfl rfl ⟨⟨rfl,rfl⟩,⟨⟨rfl,rfl⟩,⟨⟨rfl,rfl⟩,trivial⟩⟩⟩ (λa=>⟨rfl,rfl,rfl,rfl,rfl,rfl,rfl,rfl⟩) (λa b=>?_)
  |refine bR (Be 33 b) [(100000,8),(100001,6),(200001,7022)] [(100000,8),(100001,6),(250001,34000002)] _ _ Uv Z5 [7022] (λa h=>aG (z1s h)) (Ax cC rfl rfl) rfl rfl rfl ⟨⟨rfl,rfl⟩,⟨⟨rfl,rfl⟩,⟨⟨rfl,rfl⟩,trivial⟩⟩⟩ (λa=>⟨rfl,rfl,rfl,rfl,rfl,rfl,rfl,rfl⟩) (λa b=>?_)
  |exact⟨_,b,aF (bP 49 rfl) (aA [(7022,30)])⟩
  |exact⟨_,b,aA [(7022,30)]⟩
  |exact⟨_,b,aF (bP 49 rfl) (aA [])⟩
  |exact⟨_,b,aA []⟩
  |exact aA [(7022,22)]
  |refine bH (Be 19 b) [(100000,3),(100001,2)] [(100000,3),(100001,2)] _ _ Ls Qs [] (λa h=>aG (Ze h)) (Ax bF rfl rfl) rfl rfl rfl ⟨⟨rfl,rfl⟩,⟨⟨rfl,rfl⟩,trivial⟩⟩ (λa=>⟨rfl,rfl,rfl,rfl,rfl,rfl,rfl,rfl⟩) (λa b=>?_)
  |refine bR (Be 19 b) [(100000,3),(100001,2)] [(100000,3),(100001,2)] _ _ Ls Qs [] (λa h=>aG (Ze h)) (Ax bF rfl rfl) rfl rfl rfl ⟨⟨rfl,rfl⟩,⟨⟨rfl,rfl⟩,trivial⟩⟩ (λa=>⟨rfl,rfl,rfl,rfl,rfl,rfl,rfl,rfl⟩) (λa b=>?_)
  |refine AndA ?_
  |refine aO ?_
  |exact aB b⟩
instance zl7 {n c e d}:CI E0 (z1c n c e d) true 94 [.agg [.sl 2 (c.ftypes.map B2),aI c.fa.fVars,aI c.fa.fScopes,.sl 1 (c.fa.fStates.map Am),.sl 17 (c.fa.fEdges.map Aa)],aI e,.agg [aI d.fVerdict,aI d.fBound,.sl 5 (d.fPrefix.map A5),aI d.fPeriod]] aI:=⟨λ{r} b=>by
 unfold z1c at b;refine cw Tryz.func94 ?_;repeat' first
  |refine aJ ?_;conv=>whnf
  |refine aL b (λb=>?_) λb=>?_
  |refine aZ ?_
  |refine aX ?_
  |refine aU b λa b=>?_
  |refine dG b (λa b=>?_) rfl rfl λ_=>aY rfl
  |refine aD b λx b=>?_
  |exact⟨_,b,aA []⟩
  |refine aR b ?_ λm v b=>?_
  |exact aA []
  |refine aN b λl b=>?_
  |exact⟨_,b,aA [(7038,38)]⟩
  |exact aF (aW 8 7038 3 1 rfl rfl) (aA [])
  |refine AndA ?_
  |refine aO ?_
  |exact aB b⟩
end
noncomputable section
abbrev z48 {n}:=jf (Pd n) (λb=>⟨[(0,.bool (b))],[]⟩) λ_=>Pd.eq_1 ..
abbrev z49 {n a c}:=jf (Io n a c) (λb=>⟨[(1,.sl 2 [.agg [.str ((ByteArray.mk #[65])),.nils],.agg [.str ((ByteArray.mk #[66])),.nils]]),(2,.sl 5 [.agg [aI 0,aI 0,aI 0,aI 0,.nils],.agg [aI 0,aI 1,aI 0,aI 1,.nils]]),(3,.ptr 3 0),(7,.ptr 7 0),(43,.bool (b))],[(3,.box 39 [aI a.1.fVerdict,aI a.1.fBound,.sl 5 (a.1.fPrefix.map A5),aI a.1.fPeriod]),(7,.box 57 [.sl 1 (List.map (λq=>AV.sl 3 (List.map A7 q)) (c.2.2.1.fSets))])]⟩) λ_=>Io.eq_1 ..
abbrev zbg {n}:=jf (Mi n) (λb=>⟨[(2,.bool (b))],[]⟩) λ_=>Mi.eq_1 ..
abbrev zb8 {n a b}:=li (Rh n a b) (λc=>⟨[(0,.sl 11 (a.map B9)),(3,aI c)],[]⟩) λ_ _=>Rh.eq_2 ..
abbrev zbc {n}:=jf (Mf n) (λb=>⟨[(2,.bool (b))],[]⟩) λ_=>Mf.eq_1 ..
abbrev zb9 {n a b d c}:=li (Ri n a b d c) (λe=>⟨[(1,.ptr 1 0),(4,aI b),(5,.ptr 5 0),(6,aI e)],[(1,.box 26 (B3 a)),(5,.box 149 (Bs d))]⟩) λ_ _=>Ri.eq_2 ..
abbrev z9f {n a b c e}:=jf (Fd n a b c e) (λd=>⟨[(1,.ptr 1 0),(4,aI b),(5,.ptr 5 0),(105,.bool (d))],[(1,.box 26 (B3 a)),(5,.box 149 (Bs e))]⟩) λ_=>Fd.eq_1 ..
abbrev z9g {n a b c d}:=jf (Lw n a b c d) (λe=>⟨[(1,.ptr 1 0),(4,aI b),(64,.bool (e))],[(1,.box 26 (B3 a))]⟩) λ_=>Lw.eq_1 ..
abbrev zba {n a b}:=li (Jh n a b) (λc=>⟨[(1,.ptr 1 0),(4,aI c)],[(1,.box 26 (B3 a))]⟩) λ_ _=>Jh.eq_2 ..
abbrev z9d {n a b c}:=jf (Ga n a b c) (λd=>⟨[(1,.ptr 1 0),(3,aI b),(55,.bool (d))],[(1,.box 26 (B3 a))]⟩) λ_=>Ga.eq_1 ..
abbrev z9e {n a b c d}:=jf (Lv n a b c d) (λe=>⟨[(1,.ptr 1 0),(3,aI b),(15,.bool (e))],[(1,.box 26 (B3 a))]⟩) λ_=>Lv.eq_1 ..
abbrev zbb {n a b}:=li (Ji n a b) (λc=>⟨[(1,.ptr 1 0),(3,aI c)],[(1,.box 26 (B3 a))]⟩) λ_ _=>Ji.eq_2 ..
abbrev zbl {n a b}:=li (Rm n a b) (λc=>⟨[(0,.sl 3 (a.map Ag)),(3,aI c)],[]⟩) λ_ _=>Rm.eq_2 ..
abbrev zbi {n a b}:=li (Rk n a b) (λc=>⟨[(0,.sl 5 (a.map A5)),(3,aI c)],[]⟩) λ_ _=>Rk.eq_2 ..
abbrev z8h {n a b c}:=li (Qk n a b c) (λd=>⟨[(0,.sl 5 (a.map A5)),(3,aI b),(4,aI d)],[]⟩) λ_ _=>Qk.eq_2 ..
abbrev z8g {n a b c}:=li (Qj n a b c) (λd=>⟨[(0,.sl 5 (a.map A5)),(3,aI b),(4,aI d)],[]⟩) λ_ _=>Qj.eq_2 ..
abbrev z8i {n a b}:=li (H6 n a b) (λc=>⟨[(0,.sl 5 (a.map A5)),(3,aI c)],[]⟩) λ_ _=>H6.eq_2 ..
attribute [instance] z48 z49 zbg zb8 zbc zb9 z9f z9g zba z9d z9e zbb zbl zbi z8h z8g z8i
instance y0p {n d c b a}:CI E0 (z4u n d c b a) true 35 [.sl 2 (d.map B2),Bi c,aI b,.agg [aI a.fVerdict,aI a.fBound,.sl 5 (a.fPrefix.map A5),aI a.fPeriod]] aI:=by unfold z4u;exact aH [6,9] Tryz.func35
instance zl0 {n}:CI E0 (V5 n) true 9 [] (λr=>.bool (r)):=⟨λ{r} b=>by
 unfold V5 at b;refine cw Tryz.func9 ?_;repeat' first
  |refine bC b (λv b=>?_) λb=>?_
  |refine aE b λb=>?_
  |refine aC [5,7] ?_;conv=>whnf
  |refine aL b (λb=>?_) λb=>?_
  |refine aZ ?_
  |refine aX ?_
  |refine aU b λa b=>?_
  |refine Ab.S b λa b=>?_
  |exact⟨_,b,aA []⟩
  |refine AndA ?_
  |refine aO ?_
  |exact aB b⟩
instance ztj {n a}:CI E0 (Na n a) true 81 [Aw a] (λr=>.bool (r)):=by unfold Na;exact aH [1] Tryz.func81
instance ztg {n a}:CI E0 (Wj n a) true 80 [.sl 11 (a.map B9)] (λr=>.bool (r)):=by unfold Wj;exact aH [] Tryz.func80
instance zth {n c}:CI E0 (Sn n c) true 25 [Bi c] (λr=>.bool (r)):=⟨λ{r} b=>by
 unfold Sn at b;refine cw Tryz.func25 ?_;repeat' first
  |refine bC b (λv b=>?_) λb=>?_
  |refine aE b λb=>?_
  |refine aC [2,4,7,10,17] ?_;conv=>whnf
  |refine aL b (λb=>?_) λb=>?_
  |refine aZ ?_
  |refine aX ?_
  |exact⟨_,b,aA []⟩
  |refine aD b λx b=>?_
  |refine dA b D2 (λx b=>?_)
  |refine aU b λa b=>?_
  |refine aR b (aA []) λm v b=>?_
  |exact aB b⟩
instance zto {n a}:CI E0 (Wm n a) true 93 [.sl 3 (a.map Ag)] (λr=>.bool (r)):=by unfold Wm;exact aH [] Tryz.func93
instance ztm {n a}:CI E0 (Wl n a) true 34 [.sl 5 (a.map A5)] (λr=>.bool (r)):=by unfold Wl;exact aH [] Tryz.func34
instance znm {n a}:CI E0 (Vp n a) true 36 [A5 a] (λr=>.bool (r)):=by unfold Vp;exact aH [] Tryz.func36
instance ztl {n a}:CI E0 (Nb n a) true 38 [A5 a] Bj:=by unfold Nb;exact aH [] Tryz.func38
instance zqu {n b a}:CI E0 (S9 n b a) true 45 [A5 b,A5 a] (λr=>.bool (r)):=by unfold S9;exact aH [] Tryz.func45
instance zpk {n a}:CI E0 (Jn n a) true 12 [.sl 5 (a.map A5)] aI:=by unfold Jn;exact aH [] Tryz.func12
instance zqj {n b a}:CI E0 (Hj n b a) true 46 [Bi b,.sl 5 (a.map A5)] aI:=by unfold Hj;exact aH [] Tryz.func46
instance zp3 {n}:CI E0 (z0o n) false 101 [] A7:=by unfold z0o;exact aH [] Tryz.func101
end
noncomputable section
abbrev z80 {n a d b}:=li (Qg n a d b) (λc=>⟨[(0,.sl 5 (d.map A5)),(3,.ptr 3 0),(4,.ptr 4 0),(6,aI c)],[(3,.box 86 (y4a a)),(4,.box 37 [aI 0,aI 0,aI 0,aI 0,.nils])]⟩) λ_ _=>Qg.eq_2 ..
abbrev z81 {n d e f a b}:=li (G7 n d e f a b) (λc=>⟨[(0,.sl 5 (f.map A5)),(1,aI e),(2,.sl 4 (d.map B0)),(6,.ptr 6 0),(7,.ptr 7 0),(8,aI c.1)],[(6,.box 271 [.nils]),(7,.box 271 [.cont (a) 13]),(13,.nest 29 (List.map (enR A5 37 5) (c.2)))]⟩) λ_ _=>G7.eq_2 ..
abbrev z4a {n}:=jf (Ks n) (λb=>⟨[(6,.bool (b))],[]⟩) λ_=>Ks.eq_1 ..
abbrev z7s {n e d a b}:=li (Qc n e d a b) (λc=>⟨[(7,.ptr 7 0),(9,.ptr 9 0),(10,.sl 11 (a.fGuards.map B9)),(11,aI c)],[(7,.box 37 (Bx e)),(9,.box 271 (Dt d))]⟩) λ_ _=>Qc.eq_2 ..
abbrev z9c {n a d b}:=li (Lu n a d b) (λc=>⟨[(1,aI a),(2,.ptr 2 0),(5,.row 7029),(6,aI c.1)],[(2,.box 26 (B3 d)),(7029,.row 149 17 (c.2.map Aa))]⟩) λ_ _=>Lu.eq_2 ..
abbrev zay {n a d b}:=li (R8 n a d b) (λc=>⟨[(0,.sl 1 (d.map aI)),(1,aI a),(5,aI c)],[]⟩) λ_ _=>R8.eq_2 ..
abbrev z6j {n a d b}:=li (L3 n a d b) (λc=>⟨[(0,.sl 2 (d.map Ai)),(1,aI a),(5,.row 7026),(6,aI c.1)],[(7026,.row 182 2 (c.2.map Ai))]⟩) λ_ _=>L3.eq_2 ..
abbrev z6i {n f g a b c d}:=jf (L2 n f g a b c d) (λe=>⟨[(0,.sl 2 (a.map Ai)),(1,aI g),(2,aI f),(7,.row 7031),(8,aI b.1),(24,.bool (e))],[(7031,.row 182 2 (b.2.map Ai))]⟩) λ_=>L2.eq_1 ..
abbrev z6h {n d e a b}:=li (Ix n d e a b) (λc=>⟨[(0,.sl 2 (a.map Ai)),(1,aI e),(2,aI d),(7,.row 7031),(8,aI c.1)],[(7031,.row 182 2 (c.2.map Ai))]⟩) λ_ _=>Ix.eq_2 ..
abbrev z99 {n a d e b}:=li (Qu n a d e b) (λc=>⟨[(0,.sl 2 (e.map Ai)),(2,aI a),(4,.ptr 4 0),(7,aI c)],[(4,.box 230 (zah d))]⟩) λ_ _=>Qu.eq_2 ..
abbrev z4w {n a b c}:=li (Pi n a b c) (λd=>⟨[(8,.ptr 8 0),(10,.ptr 10 0),(15,.ptr 15 0),(20,aI d.1)],[(8,.box 149 (Bs a)),(10,.box 90 [aI 0,.nils,.nils]),(15,.box 90 [aI a.fTo,.sl 4 (b.map B0),.sl 2 (d.2.map Ai)])]⟩) λ_ _=>Pi.eq_2 ..
abbrev z4x {n a b c d e}:=li (Pj n a b c d e) (λf=>⟨[(8,.ptr 8 0),(10,.ptr 10 0),(15,.ptr 15 0),(18,.ptr 18 0),(19,aI f)],[(8,.box 149 (Bs a)),(10,.box 90 [aI 0,.nils,.nils]),(15,.box 90 [aI a.fTo,.sl 4 (c.map B0),.sl 2 (b.map Ai)]),(18,.box 271 (Dt d))]⟩) λ_ _=>Pj.eq_2 ..
abbrev z4y {n e a f g b c}:=li (Pk n e a f g b c) (λd=>⟨[(1,.sl 5 (g.map A5)),(7,.ptr 7 0),(8,.ptr 8 0),(9,.ptr 9 0),(10,.ptr 10 0),(15,.ptr 15 0),(17,aI d)],[(7,.box 90 (C1 f)),(8,.box 149 (Bs a)),(9,.box 37 (Bx e)),(10,.box 90 [aI 0,.nils,.nils]),(15,.box 90 [aI a.fTo,.nils,.sl 2 (b.map Ai)])]⟩) λ_ _=>Pk.eq_2 ..
abbrev z4z {n d a e f b}:=li (Pm n d a e f b) (λc=>⟨[(1,.sl 5 (f.map A5)),(7,.ptr 7 0),(8,.ptr 8 0),(9,.ptr 9 0),(10,.ptr 10 0),(15,.ptr 15 0),(16,aI c.1)],[(7,.box 90 (C1 e)),(8,.box 149 (Bs a)),(9,.box 37 (Bx d)),(10,.box 90 [aI 0,.nils,.nils]),(15,.box 90 [aI a.fTo,.nils,.sl 2 (c.2.map Ai)])]⟩) λ_ _=>Pm.eq_2 ..
abbrev z54 {n a c d e}:=jf (Em n a c d e) (λb=>⟨[(1,.sl 5 (e.map A5)),(7,.ptr 7 0),(8,.ptr 8 0),(9,.ptr 9 0),(10,.ptr 10 0),(70,.bool (b))],[(7,.box 90 (C1 d)),(8,.box 149 (Bs c)),(9,.box 37 (Bx a)),(10,.box 90 [aI 0,.nils,.nils])]⟩) λ_=>Em.eq_1 ..
attribute [instance] z80 z81 z4a z7s z9c zay z6j z6i z6h z99 z4w z4x z4y z4z z54
instance zp7 {n b a}:CI E0 (Vx n b a) false 323 [.sl 5 (b.map A5),Bj a] (λr=>.tup [A5 r.1,.bool (r.2)]):=by unfold Vx;exact aH [] Tryz.func323
instance zp8 {n e d c}:CI E0 (z0p n e d c) false 311 [.sl 5 (e.map A5),aI d,.sl 4 (c.map B0)] Ds:=⟨λ{r} b=>by
 unfold z0p at b;refine cw Tryz.func311 ?_;repeat' first
  |refine AW.nstO (er:=A5) 37 5 b 13 rfl (λb=>?_)
  |refine AW.frrO (ety:=37) (sz:=5) A5 b 13 rfl (λb=>?_)
  |refine aE b λb=>?_
  |refine aC [9,7,2] ?_;conv=>whnf
  |refine aL b (λb=>?_) λb=>?_
  |refine aX ?_
  |refine MakX.on b (λm b=>?_)
  |refine aD b λx b=>?_
  |refine aU b λa b=>?_
  |refine bS b rfl rfl rfl rfl rfl rfl rfl rfl (λb=>?_)
  |refine dO A5 b rfl rfl rfl rfl rfl rfl rfl rfl rfl rfl (λq b=>?_)
  |refine aN b λl b=>?_
  |refine dQ A5 b rfl rfl rfl rfl rfl rfl rfl rfl rfl rfl rfl (λl b=>?_)
  |exact⟨_,b,aA []⟩
  |refine aR b (aA []) λm v b=>?_
  |refine AndA ?_
  |refine aO ?_
  |exact aB b⟩
def zf6 (r:Av):AV:=.agg [.sl 1 (List.map (λq=>AV.sl 5 (List.map A5 q)) (r.fVars))]
instance zcl {n b a}:CI E0 (N8 n b a) false 274 [.sl 5 (b.map A5),A7 a] Ds:=by unfold N8;exact aH [] Tryz.func274
instance zl1 {n c b a}:CI E0 (Qb n c b a) true 275 [B9 c,Ds b,A5 a] (λr=>.bool (r)):=by unfold Qb;exact aH [1] Tryz.func275
instance zp2 {n d c b a}:CI E0 (Vv n d c b a) true 229 [Bi d,.sl 5 (c.map A5),A7 b,A5 a] (λr=>.bool (r)):=by unfold Vv;exact aH [] Tryz.func229
instance zql {n c b}:CI E0 (W7 n c b) false 153 [Bi c,aI b] (λr=>.sl 17 (r.map Aa)):=⟨λ{r} a=>by
 unfold W7 at a;refine cw Tryz.func153 ?_;repeat' first
  |refine aE a λa=>?_
  |refine aC [5] ?_;conv=>whnf
  |refine aL a (λa=>?_) λa=>?_
  |refine aD a λx a=>?_
  |refine aN a λl a=>?_
  |exact⟨_,a,aA [(7029,29)]⟩
  |exact⟨_,a,aA []⟩
  |refine aR a ?_ λm v a=>?_
  |exact aF (aW 5 7029 149 17 rfl rfl) (aA [])
  |exact aB a⟩
instance ztb {n b a}:CI E0 (Wf n b a) true 276 [.sl 1 (b.map aI),aI a] (λr=>.bool (r)):=by unfold Wf;exact aH [] Tryz.func276
instance zne {n c b}:CI E0 (R9 n c b) false 279 [.sl 2 (c.map Ai),aI b] (λr=>.sl 2 (r.map Ai)):=⟨λ{r} a=>by
 unfold R9 at a;refine cw Tryz.func279 ?_;repeat' first
  |refine aE a λa=>?_
  |refine aC [5] ?_;conv=>whnf
  |refine aL a (λa=>?_) λa=>?_
  |refine aD a λx a=>?_
  |refine aN a λl a=>?_
  |exact⟨_,a,aA [(7026,26)]⟩
  |exact⟨_,a,aA []⟩
  |refine aR a ?_ λm v a=>?_
  |exact aF (aW 5 7026 182 2 rfl rfl) (aA [])
  |exact aB a⟩
instance znd {n e d c}:CI E0 (Vm n e d c) false 277 [.sl 2 (e.map Ai),aI d,aI c] (λr=>.sl 2 (r.map Ai)):=⟨λ{r} b=>by
 unfold Vm at b;refine cw Tryz.func277 ?_;repeat' first
  |refine bC b (λv b=>?_) λb=>?_
  |refine aE b λb=>?_
  |refine aC [4] ?_;conv=>whnf
  |refine aL b (λb=>?_) λb=>?_
  |refine aU b λa b=>?_
  |refine aN b λl b=>?_
  |refine cG Ai b (λl b=>?_)
  |refine aD b λx b=>?_
  |exact⟨_,b,aA [(7031,31)]⟩
  |exact⟨_,b,aA []⟩
  |refine aR b ?_ λm v b=>?_
  |exact aF (aW 7 7031 182 2 rfl rfl) (aA [])
  |exact aB b⟩
instance zqi {n c b a}:CI E0 (W5 n c b a) true 278 [.sl 2 (c.map Ai),Bw b,aI a] (λr=>.bool (r)):=by unfold W5;exact aH [] Tryz.func278
end
noncomputable section
abbrev z52 {n f g h i e a b c}:=jf (Ku n f g h i e a b c) (λd=>⟨[(1,.sl 5 (i.map A5)),(7,.ptr 7 0),(8,.ptr 8 0),(9,.ptr 9 0),(10,.ptr 10 0),(12,.ptr 12 0),(13,.sl 11 (a.fGuards.map B9)),(14,aI b),(54,.bool (d))],[(7,.box 90 (C1 h)),(8,.box 149 (Bs g)),(9,.box 37 (Bx f)),(10,.box 90 [aI 0,.nils,.nils]),(12,.box 271 (Dt e))]⟩) λ_=>Ku.eq_1 ..
abbrev z51 {n e f g h d a b}:=li (Iq n e f g h d a b) (λc=>⟨[(1,.sl 5 (h.map A5)),(7,.ptr 7 0),(8,.ptr 8 0),(9,.ptr 9 0),(10,.ptr 10 0),(12,.ptr 12 0),(13,.sl 11 (a.fGuards.map B9)),(14,aI c)],[(7,.box 90 (C1 g)),(8,.box 149 (Bs f)),(9,.box 37 (Bx e)),(10,.box 90 [aI 0,.nils,.nils]),(12,.box 271 (Dt d))]⟩) λ_ _=>Iq.eq_2 ..
abbrev zbf {n a d b}:=jf (Mh n a d b) (λc=>⟨[(0,.sl 1 (d.map B1)),(3,.ptr 3 0),(5,aI b),(34,.bool (c))],[(3,.box 64 (O6 a))]⟩) λ_=>Mh.eq_1 ..
abbrev zbe {n a f b c d}:=jf (Mg n a f b c d) (λe=>⟨[(0,.sl 1 (f.map B1)),(3,.ptr 3 0),(5,aI b),(19,.bool (e))],[(3,.box 64 (O6 a))]⟩) λ_=>Mg.eq_1 ..
abbrev zbd {n a d b}:=li (Jj n a d b) (λc=>⟨[(0,.sl 1 (d.map B1)),(3,.ptr 3 0),(5,aI c)],[(3,.box 64 (O6 a))]⟩) λ_ _=>Jj.eq_2 ..
abbrev zb2 {n d e f g a c}:=li (Jg n d e f g a c) (λb=>⟨[(1,.sl 5 (f.map A5)),(4,.ptr 4 0),(6,.ptr 6 0),(7,.ptr 7 0),(10,.sl 3 (b.1.map A7)),(11,.sl 1 (b.2.1.map B1)),(12,.sl 17 (a.map Aa)),(13,aI b.2.2)],[(4,.box 26 (B3 g)),(6,.box 90 (C1 e)),(7,.box 37 (Bx d))]⟩) λ_ _=>Jg.eq_2 ..
abbrev zb3 {n a c d e}:=jt (Mc n a c d e) (λb=>⟨[(1,.sl 5 (d.map A5)),(4,.ptr 4 0),(6,.ptr 6 0),(7,.ptr 7 0),(10,.sl 3 (b.map A7)),(11,.nils)],[(4,.box 26 (B3 e)),(6,.box 90 (C1 c)),(7,.box 37 (Bx a))]⟩) λ_=>Mc.eq_1 ..
abbrev zb4 {n a g h i d b c e}:=li (Ra n a g h i d b c e) (λf=>⟨[(1,.sl 5 (h.map A5)),(2,.sl 3 (g.map A7)),(4,.ptr 4 0),(7,.ptr 7 0),(10,.sl 3 (b.map A7)),(11,.sl 1 (f.1.map B1)),(12,aI d.2.2),(14,.sl 1 (c.map B1)),(16,aI f.2)],[(4,.box 26 (B3 i)),(7,.box 37 (Bx a))]⟩) λ_ _=>Ra.eq_2 ..
abbrev zb5 {n a f g h b c d}:=li (Rb n a f g h b c d) (λe=>⟨[(1,.sl 5 (g.map A5)),(2,.sl 3 (f.map A7)),(4,.ptr 4 0),(7,.ptr 7 0),(10,.sl 3 (e.1.map A7)),(11,.sl 1 (b.2.1.map B1)),(12,aI b.2.2),(13,.sl 3 (c.1.map A7)),(14,.sl 1 (c.2.map B1)),(15,aI e.2)],[(4,.box 26 (B3 h)),(7,.box 37 (Bx a))]⟩) λ_ _=>Rb.eq_2 ..
abbrev zb6 {n a d e f c}:=li (Re n a d e f c) (λb=>⟨[(1,.sl 5 (e.map A5)),(2,.sl 3 (d.map A7)),(4,.ptr 4 0),(7,.ptr 7 0),(10,.sl 3 (b.1.map A7)),(11,.sl 1 (b.2.1.map B1)),(12,aI b.2.2)],[(4,.box 26 (B3 f)),(7,.box 37 (Bx a))]⟩) λ_ _=>Re.eq_2 ..
abbrev z6n {n a g h d e b c}:=jf (L4 n a g h d e b c) (λf=>⟨[(1,.sl 5 (g.map A5)),(2,aI a),(3,.ptr 3 0),(10,.sl 1 (b.map B1)),(11,aI d.2.2),(12,.sl 3 (c.map A7)),(55,.bool (f))],[(3,.box 26 (B3 h))]⟩) λ_=>L4.eq_1 ..
abbrev z6k {n a f g b c d}:=li (Pz n a f g b c d) (λe=>⟨[(1,.sl 5 (f.map A5)),(2,aI a),(3,.ptr 3 0),(10,.sl 1 (e.1.map B1)),(11,aI b.2.2),(12,.sl 3 (c.1.map A7)),(13,.sl 1 (c.2.map B1)),(14,aI e.2)],[(3,.box 26 (B3 g))]⟩) λ_ _=>Pz.eq_2 ..
abbrev z6m {n a d e c}:=li (Iy n a d e c) (λb=>⟨[(1,.sl 5 (d.map A5)),(2,aI a),(3,.ptr 3 0),(9,.sl 3 (b.1.map A7)),(10,.sl 1 (b.2.1.map B1)),(11,aI b.2.2)],[(3,.box 26 (B3 e))]⟩) λ_ _=>Iy.eq_2 ..
attribute [instance] z52 z51 zbf zbe zbd zb2 zb3 zb4 zb5 zb6 z6n z6k z6m
instance zlx {n g f e d c}:CI E0 (Lt n g f e d c) false 230 [Bi g,.sl 5 (f.map A5),A7 e,Aa d,A5 c] (λr=>.tup [A7 r.1,.bool (r.2)]):=⟨λ{r} b=>by
 unfold Lt at b;refine Con.env (E:=E0b) rfl rfl ?_;refine Con.walk _ dE rfl (Ax dE rfl rfl) rfl (bJ rfl) ?_;repeat' first
  |refine bC b (λv b=>?_) λb=>?_
  |refine aE b λb=>?_
  |refine bB b 125 rfl (λb=>?_)
  |refine aC [21,6,8] ?_;conv=>whnf
  |refine aL b (λb=>?_) λb=>?_
  |refine aU b λa b=>?_
  |refine aD b λx b=>?_
  |refine AppX.oA0 b λl b=>?_
  |refine dJ B0 b rfl rfl rfl rfl rfl rfl rfl rfl rfl rfl rfl rfl rfl rfl (λl b=>?_)
  |refine aN b λl b=>?_
  |refine OpX.bldR A5 b rfl rfl rfl rfl rfl rfl rfl rfl rfl rfl rfl rfl rfl rfl rfl rfl (by first|exact SubR.refl _|(repeat' first|exact SubR.nil|refine SubR.cons ?_ ?_|exact SubL.nil|refine SubL.cons ?_ ?_|exact Sub.refl _|exact Sub.nil _)) rfl (λl b=>?_)
  |refine B5.oE b 130 zf6 rfl (λa h=>Con.env rfl rfl (zcl.h h)) rfl rfl (λa b=>?_)
  |exact⟨_,b,aA []⟩
  |refine aR b (aA []) λm v b=>?_
  |refine dA b D2 (λx b=>?_)
  |refine Ab.S b λa b=>?_
  |refine AndA ?_
  |exact aB b⟩
instance zti {n d c}:CI E0 (N9 n d c) false 103 [.sl 1 (d.map B1),B1 c] (λr=>.sl 1 (r.map B1)):=⟨λ{r} b=>by
 unfold N9 at b;refine cw Tryz.func103 ?_;repeat' first
  |refine bC b (λv b=>?_) λb=>?_
  |refine aE b λb=>?_
  |refine aC [2,4] ?_;conv=>whnf
  |refine aL b (λb=>?_) λb=>?_
  |refine cG B1 b (λl b=>?_)
  |refine AppX.oA0 b λl b=>?_
  |refine aN b λl b=>?_
  |refine aD b λx b=>?_
  |refine aU b λa b=>?_
  |exact⟨_,b,aA []⟩
  |refine aR b (aA []) λm v b=>?_
  |refine AndA ?_
  |exact aB b⟩
instance ztd {n f e d c}:CI E0 (Wg n f e d c) false 171 [Bi f,.sl 5 (e.map A5),A7 d,A5 c] (λr=>.tup [.sl 3 (r.1.map A7),.sl 1 (r.2.map B1)]):=⟨λ{r} b=>by
 unfold Wg at b;refine cw Tryz.func171 ?_;repeat' first
  |refine AW.jI2 b (λv b=>?_) λb=>?_
  |refine aE b λb=>?_
  |refine aC [3,11] ?_;conv=>whnf
  |refine aL b (λb=>?_) λb=>?_
  |refine aU b λa b=>?_
  |refine aD b λx b=>?_
  |exact⟨_,b,aA []⟩
  |refine aR b ?_ λm v b=>?_
  |exact dF 11 (aA [])
  |refine Ab.S b λa b=>?_
  |exact⟨_,b,dF 10 (aA [])⟩
  |refine AndA ?_
  |exact aB b⟩
instance zte {n f e d c}:CI E0 (Wh n f e d c) false 102 [Bi f,.sl 5 (e.map A5),.sl 3 (d.map A7),A5 c] (λr=>.tup [.sl 3 (r.1.map A7),.sl 1 (r.2.map B1)]):=⟨λ{r} b=>by
 unfold Wh at b;refine cw Tryz.func102 ?_;repeat' first
  |refine aJ ?_;conv=>whnf
  |refine aL b (λb=>?_) λb=>?_
  |refine aD b λx b=>?_
  |refine aU b λa b=>?_
  |exact⟨_,b,aA []⟩
  |refine aR b ?_ λm v b=>?_
  |exact aA []
  |exact dF 10 (dF 11 (aA []))
  |refine AndA ?_
  |exact aB b⟩
end
noncomputable section
abbrev z7r {n a c}:=jf (Lh n a c) (λb=>⟨[(1,.sl 5 (a.map A5)),(2,.ptr 2 0),(15,.bool (b))],[(2,.box 26 (B3 c))]⟩) λ_=>Lh.eq_1 ..
attribute [instance] z7r          
instance znf {n e d c}:CI E0 (Vn n e d c) false 47 [Bi e,.sl 5 (d.map A5),aI c] (λr=>.tup [.sl 3 (r.1.map A7),.sl 1 (r.2.1.map B1),.bool (r.2.2)]):=⟨λ{r} b=>by
 unfold Vn at b;refine cw Tryz.func47 ?_;repeat' first
  |refine bC b (λv b=>?_) λb=>?_
  |refine aE b λb=>?_
  |refine aC [11] ?_;conv=>whnf
  |refine aL b (λb=>?_) λb=>?_
  |refine aU b λa b=>?_
  |refine aD b λx b=>?_
  |exact⟨_,b,aA []⟩
  |refine aR b ?_ λm v b=>?_
  |exact aA []
  |exact dF 10 (aA [])
  |refine AndA ?_
  |exact aB b⟩
instance zp1 {n b a}:CI E0 (Rv n b a) true 13 [Bi b,.sl 5 (a.map A5)] (λr=>.bool (r)):=by unfold Rv;exact aH [1] Tryz.func13
end
noncomputable section
abbrev zbk {n a b c}:=jf (Jl n a b c) (λd=>⟨[(0,.sl 2 (a.map B2)),(3,aI b),(25,.bool (d))],[]⟩) λ_=>Jl.eq_1 ..
abbrev zbj {n a b}:=li (He n a b) (λc=>⟨[(0,.sl 2 (a.map B2)),(3,aI c)],[]⟩) λ_ _=>He.eq_2 ..
abbrev zax {n}:=jf (Hd n) (λb=>⟨[(4,.bool (b))],[]⟩) λ_=>Hd.eq_1 ..
attribute [instance] zbk zbj zax         
instance ztn {n a}:CI E0 (z1f n a) true 43 [.sl 2 (a.map B2)] (λr=>.bool (r)):=by unfold z1f;exact aH [4] Tryz.func43
instance zta {n b a}:CI E0 (We n b a) true 10 [.sl 2 (b.map B2),Bi a] (λr=>.bool (r)):=by unfold We;exact aH [1] Tryz.func10
end
noncomputable section
abbrev z59 {n a b c}:=li (Gy n a b c) (λd=>⟨[(1,.ptr 1 0),(3,.row 10),(4,aI b.1),(5,aI d.1)],[(1,.box 26 (B3 a)),(10,.row 4 1 (d.2.map AV.bool))]⟩) λ_ _=>Gy.eq_2 ..
abbrev z5a {n a b}:=li (Kw n a b) (λc=>⟨[(1,.ptr 1 0),(3,.row 10),(4,aI c.1)],[(1,.box 26 (B3 a)),(10,.row 4 1 (c.2.map AV.bool))]⟩) λ_ _=>Kw.eq_2 ..
abbrev z6q {n a b}:=li (L6 n a b) (λc=>⟨[(0,.sl 1 (a.map AV.bool)),(3,.row 7018),(4,aI c.1)],[(7018,.row 3 1 (c.2.map aI))]⟩) λ_ _=>L6.eq_2 ..
abbrev z6w {n}:=jf (Eo n) (λb=>⟨[(2,.bool (b))],[]⟩) λ_=>Eo.eq_1 ..
abbrev z9t {n a b c}:=jf (J9 n a b c) (λd=>⟨[(0,.str (a)),(3,aI b),(40,.bool (d))],[]⟩) λ_=>J9.eq_1 ..
abbrev z9s {n a b}:=li (Ha n a b) (λc=>⟨[(0,.str (a)),(3,aI c)],[]⟩) λ_ _=>Ha.eq_2 ..
abbrev z9u {n a}:=jf (Fe n a) (λb=>⟨[(0,.str (a)),(17,.bool (b))],[]⟩) λ_=>Fe.eq_1 ..
abbrev z4f {n a d b}:=li (Pe n a d b) (λc=>⟨[(1,.str (a)),(2,.ptr 2 0),(5,aI c)],[(2,.box 99 (z69 d))]⟩) λ_ _=>Pe.eq_2 ..
abbrev z8l {n a b c}:=jf (J4 n a b c) (λd=>⟨[(1,.ptr 1 0),(3,aI b),(52,.bool (d))],[(1,.box 99 (z69 a))]⟩) λ_=>J4.eq_1 ..
abbrev z8m {n a b c d}:=jf (H8 n a b c d) (λe=>⟨[(1,.ptr 1 0),(3,aI b),(4,.ptr 4 0),(33,.bool (e))],[(1,.box 99 (z69 a)),(4,.box 164 (zku d))]⟩) λ_=>H8.eq_1 ..
abbrev z8k {n a b}:=li (H7 n a b) (λc=>⟨[(1,.ptr 1 0),(3,aI c)],[(1,.box 99 (z69 a))]⟩) λ_ _=>H7.eq_2 ..
abbrev z8j {n a d b}:=li (Ql n a d b) (λc=>⟨[(0,.sl 2 (d.map B2)),(1,.str (a)),(5,aI c)],[]⟩) λ_ _=>Ql.eq_2 ..
abbrev z4g {n a b}:=li (Pf n a b) (λc=>⟨[(0,.sl 2 (a.map B2)),(3,aI c)],[]⟩) λ_ _=>Pf.eq_2 ..
abbrev z7q {n}:=jf (Lg n) (λb=>⟨[(24,.bool (b))],[]⟩) λ_=>Lg.eq_1 ..
abbrev z6e {n f g h a b c d}:=li (Py n f g h a b c d) (λe=>⟨[(1,.sl 1 (h.map aI)),(2,.sl 1 (g.map AV.bool)),(3,aI f),(9,.row 14),(15,.sl 3 (a.map A7)),(16,aI (((a.map A7).length:Int))),(17,aI b.1),(61,.sl 4 (c.fBindings.map B0)),(62,aI (((c.fBindings.map B0).length:Int))),(63,aI e.1)],[(14,.mp (List.map (encM Bj AV.bool) (e.2)))]⟩) λ_ _=>Py.eq_2 ..
abbrev z6g {n f g h a b c d}:=jf (En n f g h a b c d) (λe=>⟨[(1,.sl 1 (h.map aI)),(2,.sl 1 (g.map AV.bool)),(3,aI f),(9,.row 14),(11,.ptr 11 0),(15,.sl 3 (a.map A7)),(16,aI (((a.map A7).length:Int))),(17,aI b.1),(59,.bool (e))],[(11,.box 90 (C1 d)),(14,.mp (List.map (encM Bj AV.bool) (b.2)))]⟩) λ_=>En.eq_1 ..
abbrev z6f {n d e f a b}:=li (Ef n d e f a b) (λc=>⟨[(1,.sl 1 (f.map aI)),(2,.sl 1 (e.map AV.bool)),(3,aI d),(9,.row 14),(15,.sl 3 (a.map A7)),(16,aI (((a.map A7).length:Int))),(17,aI c.1)],[(14,.mp (List.map (encM Bj AV.bool) (c.2)))]⟩) λ_ _=>Ef.eq_2 ..
abbrev z3h {n g a b c d e}:=jf (Kp n g a b c d e) (λf=>⟨[(1,.sl 5 (g.map A5)),(2,.ptr 2 0),(6,.ptr 6 0),(8,.sl 1 (c.1.map aI)),(9,.sl 1 (c.2.1.map AV.bool)),(13,aI d),(160,.bool (f))],[(2,.box 28 [.sl 2 (a.fTypes.map B2),aI a.fA.fVars,aI a.fA.fScopes,.sl 1 (a.fA.fStates.map Am),.sl 17 (a.fA.fEdges.map Aa),aI a.fRate]),(6,.box 39 [aI b.1.fVerdict,aI b.1.fBound,.sl 5 (b.1.fPrefix.map A5),aI b.1.fPeriod])]⟩) λ_=>Kp.eq_1 ..
attribute [instance] z59 z5a z6q z6w z9t z9s z9u z4f z8l z8m z8k z8j z4g z7q z6e z6g z6f z3h
instance zlz {n b}:CI E0 (Zx n b) false 59 [Bi b] (λr=>.sl 1 (r.map AV.bool)):=⟨λ{r} a=>by
 unfold Zx at a;refine cw Tryz.func59 ?_;repeat' first
  |refine aE a λa=>?_
  |refine aC [9] ?_;conv=>whnf
  |refine aL a (λa=>?_) λa=>?_
  |refine aZ ?_
  |refine aX ?_
  |refine MakX.o AV.bool a (by first|exact bG _|(repeat' first|exact SubL.nil|refine SubL.cons ?_ ?_|exact Sub.refl _|exact Sub.nil _|refine Sub.agg ?_)) (λl a=>?_)
  |exact⟨_,a,aA []⟩
  |refine aD a λx a=>?_
  |refine cF a (λm a=>?_)
  |refine SetX.o AV.bool a (λx=>rfl) (λx=>(by first|exact bG _|(repeat' first|exact SubL.nil|refine SubL.cons ?_ ?_|exact Sub.refl _|exact Sub.nil _|refine Sub.agg ?_))) (λl a=>?_)
  |refine EltX.o AV.bool a (λx a=>?_)
  |refine aR a (aA []) λm v a=>?_
  |refine AndA ?_
  |refine aO ?_
  |exact aB a⟩
instance znh {n b}:CI E0 (z09 n b) false 58 [.sl 1 (b.map AV.bool)] (λr=>.sl 1 (r.map aI)):=⟨λ{r} a=>by
 unfold z09 at a;refine cw Tryz.func58 ?_;repeat' first
  |refine aE a λa=>?_
  |refine aC [5] ?_;conv=>whnf
  |refine aL a (λa=>?_) λa=>?_
  |refine aZ ?_
  |refine aX ?_
  |refine aD a λx a=>?_
  |refine aN a λl a=>?_
  |exact⟨_,a,aA [(7018,18)]⟩
  |exact⟨_,a,aA []⟩
  |refine aR a ?_ λm v a=>?_
  |exact aF (aW 3 7018 3 1 rfl rfl) (aA [])
  |refine AndA ?_
  |refine aO ?_
  |exact aB a⟩
instance znj {n a}:CI E0 (Me n a) false 16 [Bi a] (λr=>.tup [.sl 1 (r.1.map aI),aI r.2]):=by unfold Me;exact aH [] Tryz.func16
instance znn {n a}:CI E0 (Rl n a) true 228 [.int .u8 (a)] (λr=>.bool (r)):=by unfold Rl;exact aH [1] Tryz.func228
instance zqv {n d}:CI E0 (Sa n d) true 169 [.str (d)] (λr=>.bool (r)):=⟨λ{r} c=>by
 unfold Sa at c;refine cw Tryz.func169 ?_;repeat' first
  |refine bC c (λv c=>?_) λc=>?_
  |refine aE c λc=>?_
  |refine aC [1,6] ?_;conv=>whnf
  |refine aL c (λc=>?_) λc=>?_
  |refine aZ ?_
  |refine aX ?_
  |exact⟨_,c,aA []⟩
  |refine OpX.idb c rfl rfl rfl rfl rfl rfl rfl rfl (λb c=>?_)
  |refine aU c λa c=>?_
  |refine aR c (aA []) λm v c=>?_
  |refine AndA ?_
  |refine aO ?_
  |exact aB c⟩
instance zl4 {n b a}:CI E0 (Zl n b a) true 170 [B2 b,.str (a)] aI:=by unfold Zl;exact aH [] Tryz.func170
instance zpm {n a}:CI E0 (Vz n a) true 99 [B2 a] aI:=by unfold Vz;exact aH [9,13] Tryz.func99
instance zpl {n b a}:CI E0 (z0q n b a) true 100 [.sl 2 (b.map B2),.str (a)] aI:=by unfold z0q;exact aH [] Tryz.func100
instance zl5 {n a}:CI E0 (V7 n a) true 44 [.sl 2 (a.map B2)] aI:=by unfold V7;exact aH [] Tryz.func44
instance zp0 {n c b a}:CI E0 (Vu n c b a) true 11 [.sl 2 (c.map B2),Bi b,aI a] aI:=by unfold Vu;exact aH [7] Tryz.func11
instance znc {n e d c b}:CI E0 (M8 n e d c b) true 18 [.sl 3 (e.map A7),.sl 1 (d.map aI),.sl 1 (c.map AV.bool),aI b] aI:=⟨λ{r} a=>by
 unfold M8 at a;refine cw Tryz.func18 ?_;repeat' first
  |refine bC a (λv a=>?_) λa=>?_
  |refine aE a λa=>?_
  |refine aC [5] ?_;conv=>whnf
  |refine aL a (λa=>?_) λa=>?_
  |refine aZ ?_
  |refine aX ?_
  |refine aD a λx a=>?_
  |exact⟨_,a,aA []⟩
  |refine UpX.o Bj AV.bool a (by first|rfl|kernel_rfl) zzb (by repeat' first|exact Sub.nil _|exact Sub.refl _|refine Sub.agg ?_|refine Sub.tup ?_|refine Sub.fn ?_|exact SubL.nil|refine SubL.cons ?_ ?_|refine Sub.sl _ ?_|exact SubE.nil|refine SubE.cons ?_ ?_) (λl a=>?_)
  |refine aR a (aA []) λm v a=>?_
  |refine AndA ?_
  |refine aO ?_
  |exact aB a⟩
end
end Go.Proofs.YthbogefcfhmpgaaGreat
