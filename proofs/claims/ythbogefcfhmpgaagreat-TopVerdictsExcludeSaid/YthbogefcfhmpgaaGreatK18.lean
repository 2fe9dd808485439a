/- What some functions compute, over plain values. -/
import Derived.Test.YthbogefcfhmpgaaGreatK17
set_option linter.unusedVariables false
set_option linter.unusedSimpArgs false
set_option maxRecDepth 100000
set_option maxHeartbeats 8000000
namespace Go.Proofs.YthbogefcfhmpgaaGreat
open Go.RowKit List
open LeX renaming a->aA,trans->aO,itc->cO
open Tryz renaming prog->aB,underlying88->aC,func210->aN,func213->aR,func289->aV,ntmps289->bE,func144->bG,func247->bJ,func248->bK,func250->bL,func143->bN,func212->bO,func63->bU,ntmps144->bZ,ntmps247->cA,ntmps248->cB,ntmps143->cC,ntmps212->cD,func123->cF,func235->cG,func175->cH,func245->cI,func290->cK,func249->cL,func195->cM,func127->cN,func62->cR
open Nat renaming le_refl->aD,le_of_ble_eq_true->aX,min->bI,min_eq_left->bW
open Option renaming isNone_none->aE
open ConG renaming up->aF,walk->aG
open _root_.Go.Proofs.YthbogefcfhmpgaaGreat.Own renaming made_->aH,nil_->bH
open IdxX renaming A->aJ
open AW renaming step->aK,stepU->aM,regO->aQ,jI->cU
open RetX renaming oB->aL
open List renaming getElem?_append_left->aP,getElem?_toArray->aT,length_nil->aW,getElem?_append_right->aY,append_assoc->bP,take_append_drop->bR
open And renaming intro->aS
open A3 renaming o->aU,t->cQ,f->cS
open Ap renaming I->aZ
open CI renaming w->bA
open Or renaming inl->bB,inr->bC
open SubL renaming refl->bD
open AppX renaming oA->bF
open B3 renaming oM->bM
open EqX renaming A->bT
open Ab renaming I->bV,oR->cE,oM->cW
open OpX renaming ixc->bX,nckR->bY,lkv->cT,aob->cX,aup->cY
noncomputable section
abbrev zix {n d a b}:=li (Sa n d a b) (fun c=>⟨[(8,.ptr 24 0),(25,.sl 5 (d.map A7)),(26,aI (((d.map A7).length:Int))),(27,aI c.1)],[(24,.box 204 [aI a.fVars,aI a.fScopes,.sl 1 (a.fStates.map Ao),.sl 17 (a.fEdges.map Ac),.row 22]),(22,.mp (List.map (encM Bm A7) (c.2)))]⟩) fun _ _=>Sa.eq_2 ..
abbrev zcb {n d a e b}:=li (R1 n d a e b) (fun c=>⟨[(0,.ref [aI a.fa.fVars,aI a.fa.fScopes,.sl 1 (a.fa.fStates.map Ao),.sl 17 (a.fa.fEdges.map Ac),.mapv (List.map (encM Bm A7) (a.fheld))]),(4,.ptr 4 0),(5,.ptr 5 0),(15,.sl 4 (d.map Az)),(16,aI (((d.map Az).length:Int))),(17,aI c.1)],[(4,.box 271 [.nils]),(5,.box 271 [.cont (e) 13]),(13,.nest 29 (List.map (enR A7 37 5) (c.2)))]⟩) fun _ _=>R1.eq_2 ..
abbrev zes {n}:=jf (Mf n) (fun b=>⟨[(6,.bool (b))],[]⟩) fun _=>Mf.eq_1 ..
abbrev z4h {n b c a d}:=li (Oq n b c a d) (fun e=>⟨[(0,.sl 11 (a.map B7)),(1,.fn 197 [.ref (Dq c),.ref (Bx b)]),(7,aI (((a.map B7).length:Int))),(8,aI e)],[]⟩) fun _ _=>Oq.eq_2 ..
abbrev z4i {n}:=jf (Kb n) (fun b=>⟨[(5,.bool (b))],[]⟩) fun _=>Kb.eq_1 ..
abbrev z4f {n b c d a e}:=li (Oo n b c d a e) (fun f=>⟨[(0,.sl 11 (a.map B7)),(1,.fn 244 [.ref (Bs d),.ref (Dq c),.ref (Bx b)]),(7,aI (((a.map B7).length:Int))),(8,aI f)],[]⟩) fun _ _=>Oo.eq_2 ..
abbrev z2u {n d a b}:=li (K2 n d a b) (fun c=>⟨[(0,.sl 2 (a.map Ah)),(1,aI d),(2,.fn 288 []),(8,aI (((a.map Ah).length:Int))),(9,aI c.1),(10,aI c.2)],[]⟩) fun _ _=>K2.eq_2 ..
abbrev zgu {n f a b c d}:=jt (Mo n f a b c d) (fun e=>⟨[(2,aI f),(7,.row 7033),(10,aI d.1),(14,.sl 1 (a.map aI)),(15,aI (((a.map aI).length:Int))),(16,aI b.1)],[(7033,.row 182 2 (e.map Ah))]⟩) fun _=>Mo.eq_1 ..
attribute [instance] zix zcb zes z4h z4i z4f z2u zgu
instance zyx {n d}:CI E0 (Mu n d) true 121 [.sl 5 (d.map A7)] aI:=⟨fun {r} c=>by
 unfold Mu at c;refine cw Tryz.func121 ?_;repeat' first
  |refine aK ?_;conv=>whnf
  |refine aU c (fun c=>?_) fun c=>?_
  |refine cS ?_
  |refine aJ c fun x c=>?_
  |refine bV c fun a c=>?_
  |refine LkX.o Mc AV.bool c (by first|rfl|kernel_rfl) y1z (by repeat' first|exact Sub.nil _|exact Sub.refl _|refine Sub.agg ?_|refine Sub.tup ?_|refine Sub.fn ?_|exact SubL.nil|refine SubL.cons ?_ ?_|refine Sub.sl _ ?_|exact SubE.nil|refine SubE.cons ?_ ?_) (fun v b c=>?_)
  |refine UpX.o Mc AV.bool c (by first|rfl|kernel_rfl) y1z (by repeat' first|exact Sub.nil _|exact Sub.refl _|refine Sub.agg ?_|refine Sub.tup ?_|refine Sub.fn ?_|exact SubL.nil|refine SubL.cons ?_ ?_|refine Sub.sl _ ?_|exact SubE.nil|refine SubE.cons ?_ ?_) (fun l c=>?_)
  |exact ⟨_,c,aA []⟩
  |refine aZ c (aA []) fun m v c=>?_
  |refine AndA ?_
  |exact aL c⟩
instance zsj {n b a}:CI E0 (M9 n b a) true 68 [Bh b,.sl 5 (a.map A7)] aI:=by unfold M9;exact bA [] Tryz.func68
theorem y1y (a b:Bp):eqK (Bm a) (Bm b)=some (decide (a=b)):=by cases a;cases b;simp [Bm,eqK,eqL,eq1,aI,Jf]
def Ga:Option B9->AV |none=>.nilp |some x=>.ref [aI (x.fa.fVars),aI (x.fa.fScopes),.sl 1 (x.fa.fStates.map Ao),.sl 17 (x.fa.fEdges.map Ac),.mapv (List.map (encM Bm A7) (x.fheld))]
def Em (r:(Option B9)×Int):AV:=.tup [Ga (r.1),aI (r.2)]
instance z2x {n d c}:CI E0 (Gc n d c) false 60 [Bh d,.sl 5 (c.map A7)] (fun r=>.tup [Ga (r.1),aI r.2]):=⟨fun {r} b=>by
 unfold Gc at b;refine cw Tryz.func60 ?_;repeat' first
  |refine aK ?_;conv=>whnf
  |refine aU b (fun b=>?_) fun b=>?_
  |refine bV b fun a b=>?_
  |refine aJ b fun x b=>?_
  |refine OpX.nckP rfl rfl rfl rfl rfl ?_
  |refine UpX.o Bm A7 b (by first|rfl|kernel_rfl) y1y (by repeat' first|exact Sub.nil _|exact Sub.refl _|refine Sub.agg ?_|refine Sub.tup ?_|refine Sub.fn ?_|exact SubL.nil|refine SubL.cons ?_ ?_|refine Sub.sl _ ?_|exact SubE.nil|refine SubE.cons ?_ ?_) (fun l b=>?_)
  |exact ⟨_,b,aA []⟩
  |refine aZ b (aA []) fun m v b=>?_
  |refine AndA ?_
  |exact aL b⟩
instance y5d {n}:CI E0 (He n) false 61 [] A5:=by unfold He;exact bA [] Tryz.func61
def zbr (c:B9)(b:A1)(a:A8):List (Nat×Ent):=[]
def Z3 (r:B9×A1×A8):List (Nat×Ent):=[(3,.box 128 [.ref [aI r.1.fa.fVars,aI r.1.fa.fScopes,.sl 1 (r.1.fa.fStates.map Ao),.sl 17 (r.1.fa.fEdges.map Ac),.mapv (List.map (encM Bm A7) (r.1.fheld))]]),(4,.box 90 (C2 r.2.1)),(5,.box 37 (Bx r.2.2))]
def z0t (r:B9×A1×A8):AV:=.fn 195 [.ptr 3 0,.ptr 4 0,.ptr 5 0]
def zbg (r:B9×A1×A8):AS:=⟨[(6,.fn 195 [.ptr 3 0,.ptr 4 0,.ptr 5 0])],Z3 r⟩
theorem z8s {n a c b r}(d:Zb n a c b=some r):ConG E0.P none (CalF E0.P 123 0) [.ref [aI a.fa.fVars,aI a.fa.fScopes,.sl 1 (a.fa.fStates.map Ao),.sl 17 (a.fa.fEdges.map Ac),.mapv (List.map (encM Bm A7) (a.fheld))],A5 c,A7 b] [] (zbr a c b) (z0t r) (Z3 r):=by
 unfold Zb at d;refine aG (E:=(E0p 3)) (caps:=[]) _ cF rfl rfl rfl rfl rfl ?_;repeat' first
  |refine aK ?_;conv=>whnf
  |exact GX.A (res:=z0t) (meF:=Z3) d zbg
def z7r (b:(List A1))(a:(List Aa)):List (Nat×Ent):=[(100000,.box 49 [.row 200000]),(200000,.row 90 3 (b.map A5)),(100001,.box 50 [.row 200001]),(200001,.row 64 1 (a.map Ax))]
def Kr (r:(List A1)×(List Aa)):List (Nat×Ent):=[(100000,.box 49 [.row 250000]),(250000,.row 90 3 (r.1.map A5)),(100001,.box 50 [.row 250001]),(250001,.row 64 1 (r.2.map Ax))]
def z1q (r:(List A1)×(List Aa)):AS:=⟨[(8,.ptr 100000 0),(9,.ptr 100001 0)],Kr r⟩
instance zuc {n c d}:CI E0 (W4 n c d) false 196 [.ref [aI c.fa.fVars,aI c.fa.fScopes,.sl 1 (c.fa.fStates.map Ao),.sl 17 (c.fa.fEdges.map Ac),.mapv (List.map (encM Bm A7) (c.fheld))],.sl 4 (d.map Az)] Dp:=⟨fun {r} a=>by
 unfold W4 at a;refine cw Tryz.func196 ?_;repeat' first
  |refine AW.nstO (er:=A7) 37 5 a 13 rfl (fun a=>?_)
  |refine AW.frrO (ety:=37) (sz:=5) A7 a 13 rfl (fun a=>?_)
  |refine aQ a fun a=>?_
  |refine aM [7,2] ?_;conv=>whnf
  |refine aU a (fun a=>?_) fun a=>?_
  |refine bY rfl rfl rfl rfl ?_
  |refine MakX.on a (fun m a=>?_)
  |refine aJ a fun x a=>?_
  |refine bX a rfl rfl rfl rfl rfl rfl rfl rfl (fun a=>?_)
  |refine OpX.ntk A7 a rfl rfl rfl rfl rfl rfl rfl rfl rfl rfl (fun q a=>?_)
  |refine cT Bm A7 a y1y rfl rfl rfl rfl rfl rfl rfl rfl rfl rfl (by first|rfl|kernel_rfl) (by repeat' first|exact Sub.nil _|exact Sub.refl _|refine Sub.agg ?_|refine Sub.tup ?_|refine Sub.fn ?_|exact SubL.nil|refine SubL.cons ?_ ?_|refine Sub.sl _ ?_|exact SubE.nil|refine SubE.cons ?_ ?_) (fun v b a=>?_)
  |refine bF a fun l a=>?_
  |refine OpX.npt A7 a rfl rfl rfl rfl rfl rfl rfl rfl rfl rfl rfl (fun l a=>?_)
  |exact ⟨_,a,aA []⟩
  |refine aZ a (aA []) fun m v a=>?_
  |refine AndA ?_
  |refine bT ?_
  |exact aL a⟩
instance zz2 {n c b a}:CI E0 (S9 n c b a) true 198 [B7 c,Dp b,A7 a] (fun r=>.bool (r)):=by unfold S9;exact bA [1] Tryz.func198
instance zi7 {n c b a}:CI E0 (Kl n c b a) true 197 [B7 c,.ref (Dq b),.ref (Bx a)] (fun r=>.bool (r)):=by unfold Kl;exact bA [] Tryz.func197
instance zjw {n a b c}:CI E0 (U8 n a b c) true 235 [.sl 11 (a.map B7),.fn 197 [.ref (Dq b),.ref (Bx c)]] aI:=by unfold U8;exact bA [] cG
instance zgm {n a b c}:CI E0 (Tq n a b c) true 175 [.sl 11 (a.map B7),.fn 197 [.ref (Dq b),.ref (Bx c)]] (fun r=>.bool (r)):=by unfold Tq;exact bA [] cH
instance zjy {n d c b a}:CI E0 (Ia n d c b a) true 244 [B7 d,.ref (Bs c),.ref (Dq b),.ref (Bx a)] (fun r=>.bool (r)):=by unfold Ia;exact bA [1] Tryz.func244
instance zju {n a b c d}:CI E0 (U7 n a b c d) true 235 [.sl 11 (a.map B7),.fn 244 [.ref (Bs b),.ref (Dq c),.ref (Bx d)]] aI:=by unfold U7;exact bA [] cG
instance zgl {n a b c d}:CI E0 (Tp n a b c d) true 175 [.sl 11 (a.map B7),.fn 244 [.ref (Bs b),.ref (Dq c),.ref (Bx d)]] (fun r=>.bool (r)):=by unfold Tp;exact bA [] cH
set_option maxHeartbeats 400000 in
theorem zs2 (l:List (Cel 2))(S:Nat->Prop)(v:Value)(w:World)(h:Sl w S 2 encC v l)(d:l.length<=1000000000) :
  Calls aB 144 #[v] w (Hn 182 2 encC l w):=by
 have eok:EOk aB 88 182 2 16 (encC (n:=2)):=eokC (sz:=2) (D7 88 _ rfl) rfl (D7 182 _ rfl) (by omega) rfl;obtain ⟨A,c,rfl,f,_⟩:=h.form;have a:=fun (W:World)=>Lib.run_eql_slice_nil W 88 182 A l.length c 0 0 aC
 have H:=hide h;cases A with
 |none =>
  have g:l=[]:=h.none_nil;subst g;clear h H d f;simp only [aW,aE] at a ⊢
  go_enter bG,bZ
  go_wp2
  go_ret
  exact ⟨none,0,rfl,bH,by go_grown⟩
 |some ad =>
  clear h
  go_enter bG,bZ
  go_wp2_with (at_builtin;refine H8 rfl _ _ rfl eok rfl aH rfl (H.out.alloc _) (by simp;omega) (by omega) (by simp) ?_;intro A' i w1 b e _)
  go_ret
  exact ⟨A',i,rfl,b,(aH (sz:=2) (enc:=encC (n:=2))).grown ((Below.refl _ _).alloc (aD _) _) (aD _) (by simp) e⟩
theorem zee {n a r}(b:C4 n a=some r):ConT E0 144 [.sl 2 (List.map Ah a)] 182 2 (List.map Ah r) (.row 0):=Je rfl (Av bG rfl rfl) zs2 b
theorem zro {n a r}(b:C4 n a=some r):Con E0 false 144 [.sl 2 (List.map Ah a)] (.sl 2 (List.map Ah r)):=(zee b).close rfl
instance zz3 {n b a}:CI E0 (Mv n b a) true 288 [Ah b,aI a] aI:=by unfold Mv;exact bA [] Tryz.func288
instance zi6 {n d c}:CI E0 (P4 n d c) true 287 [.sl 2 (d.map Ah),aI c,.fn 288 []] (fun r=>.tup [aI r.1,.bool (r.2)]):=⟨fun {r} b=>by
 unfold P4 at b;refine cw Tryz.func287 ?_;repeat' first
  |refine aK ?_;conv=>whnf
  |refine aU b (fun b=>?_) fun b=>?_
  |refine aJ b fun x b=>?_
  |refine bV b fun a b=>?_
  |exact ⟨_,b,aA []⟩
  |refine ShX.o b (fun b=>?_)
  |refine aZ b (aA []) fun m v b=>?_
  |exact aL b⟩
set_option maxRecDepth 100000 in
set_option maxHeartbeats 1600000 in
theorem zmk (l:List (Cel 2))(x:Cel 2)(i:Nat)(base:Nat)(A:Option Addr)(c g off c1:Nat)(w:World)(ho:Own w base 182 2 encC (.slice A l.length c) l)
  (N:Xk w g off (encC x)) (bo:1<=c1) (J:(Value.slice A l.length c).ownBlock≠some g) (hi:i<=l.length) (hl:l.length<=1000000000) (C:base<=w.heap.size) :
  Calls aB 289 #[.slice A l.length c,.int .i64 i,.slice (some ⟨g,off,none⟩) 1 c1] w (y34 182 2 encC base (.slice A l.length c) (l.take i++x::l.drop i) w):=by
 have k:(l.take i++x::l.drop i).length=l.length+1:=by simp;omega
 have d:(encC x).length=2:=x.2.1;have eok:EOk aB 88 182 2 16 (encC (n:=2)):=eokC (sz:=2) (D7 88 _ rfl) rfl (D7 182 _ rfl) (by omega) rfl;by_cases bh:i=l.length
 ·subst bh;have bd:Hid (Sl w (fun _=>True) 2 encC (.slice (some ⟨g,off,none⟩) 1 c1) [x]):=Sl.one_x bo N;have H:=hide ho;have bg:Hid (l.take l.length++x::l.drop l.length=l++[x]):=by simp [Hid]
  have hc:l.length<=c:=by obtain ⟨_,_,he,h1,_⟩:=ho.val;injection he with _ _ hc;omega
  rw [bg.out];clear ho N J k
  go_enter aV,bE
  go_wp2_with (at_builtin;refine H8 (v:=.slice A l.length c) rfl _ _ rfl eok rfl H.out rfl bd.out (by simp;omega) (by omega) C ?_;intro A2 c2 w2 bf o aa)
  all_goals (go_ret;exact ⟨A2,c2,by simp,bf,by cases A<;>exact o,by cases A<;>exact aa⟩)
 ·rcases ho.2 with ⟨hv,h0⟩|⟨h,cn,r,hv,ar,hh,bx,aq,B,m⟩
  ·omega
  injection hv with hA _ bn
  subst hA;subst bn;have bk:h≠g:=fun e=>J (by simp [Value.ownBlock,e])
  have bz:i<l.length:=by omega
  have ad:((l.take i).flatMap encC).length=i*2:=by rw [zd7 (sz:=2) (fun y=>y.2.1)];simp;omega
  have L:((l.drop i).flatMap encC).length=(l.length-i)*2:=by rw [zd7 (sz:=2) (fun y=>y.2.1)];simp
  have E:(l.take i).flatMap encC++(l.drop i).flatMap encC=l.flatMap encC:=by rw [<-flatMap_append,bR]
  have p:(l.take i++x::l.drop i).flatMap encC=(l.take i).flatMap encC++encC x++(l.drop i).flatMap encC:=by simp [flatMap_append,flatMap_cons]
  have h2:=zu3 eok.one (l.drop i);have K:=eok.one x;have P:r.toList=(l.take i).flatMap encC++(l.drop i).flatMap encC++r.toList.drop (l.length*2):=by rw [E,<-m,bR]
  generalize ch:(l.take i).flatMap encC=F1 at *;generalize cg:(l.drop i).flatMap encC=F2 at *;generalize hX:encC x=X at *;have av:(r.toList.drop (l.length*2)).length=c*2-l.length*2:=by simp [B]
  generalize r.toList.drop (l.length*2)=R at *;obtain ⟨r⟩:=r;simp only at P;subst P;generalize hn:l.length=n at *;by_cases V:n+1<=c
  ·have bj:(i:Int)<(n:Int):=by omega
   have f:Blk w h 182 (F1++F2++R).toArray:=hh;have bw:∀ lb cb,(callFunc 316 #[.slice (some ⟨g,off,none⟩) 1 c1,.slice (some ⟨h,(i+1)*2,none⟩) lb cb]).run aB w=.ok (.value (.bool false)) w:=fun lb cb=>by
    rw [run_callFunc_extern Tryz.func316 (by kernel_rfl) (by kernel_rfl) (by kernel_rfl) (e:=Extern.SlicesOverlaps.overlaps #[88,88] #[4]) (by kernel_rfl),
     ziv w 88 4 182 aC 2 (fun _=>by kernel_rfl) ⟨g,off,none⟩ ⟨h,(i+1)*2,none⟩ 1 c1 lb cb (fun e=>bk e.symm) N.shape 182 (F1++F2++R).toArray.size (f.shape) (by rw [size_toArray,length_append,length_append];omega) (f.frozen _) (f.frozen _)]
    rfl
   have bt:=hide f;have bb:=hide N;have bm:Hid (F2.length=bI (n+1-i) (n-i)*2):=by unfold Hid;rw [show bI (n+1-i) (n-i)=n-i from Nat.min_eq_right (by omega)];exact L
   have s:Hid (∀ (W:World),W.heap=w.heap->∀ j u,F2[j]? = some u->W.cell? ((⟨h,i*2,none⟩:Addr).add j)=some u):=fun W hW j u I=>by
    have e:Blk W h 182 (F1++F2++R).toArray:=by unfold Blk;rw [hW];exact f
    rw [Addr.add_lit,e.cell];have hj:=(List.getElem?_eq_some_iff.1 I).1;simp only [aT];rw [bP,aY (by omega),aP (by omega),show i*2+j-F1.length=j by omega];exact I
   have bq:=hide h2;have HL:=hide (aS k (aS p (aS ar B)));have d:=hide d;clear N f hh m J E B ho h2 k p
   go_enter aV,bE
   go_wp2_with fail
   have T:IntKind.i64.wrap ((i:Int)+1)=(i:Int)+1:=by rw [IntKind.wrap_i64];omega
   have ab:(0:Int)<=(i:Int)+1:=by omega
   have bi:i<=n:=by omega
   have U:((i:Int)+1).toNat=i+1:=by omega
   have aa:¬(c=i+1):=by omega
   have au:(i:Int)<=(n:Int)+1:=by omega
   have cj:¬(c=i):=by omega
   go_region_law (refine zdo rfl _ _ 88 88 rfl 182 2 aC (by kernel_rfl) h ((i+1)*2) (n-i) (c-(i+1)) (n+1-i) (c-i) ⟨h,i*2,none⟩ (by simp [Act.eval,Act.put]) (by simp [Act.eval,Act.put]) 182 (F1++F2++R) bt.out F2 bm.out (s.out _ rfl) (by simp;omega) bq.out ?_;intro w1 F Y)
   clear T ab U aa;have az:Hid (Blk w1 h 182 ((F1++F2++R).take (i*2+2)++F2++(F1++F2++R).drop (i*2+2+F2.length)).toArray):=by
    have e:(i+1)*2=i*2+2:=by omega
    rw [e] at F;exact F
   have ac:Hid (∀ j u,X[j]? = some u->w1.cell? ((⟨g,off,none⟩:Addr).add j)=some u):=fun j u I=>by
    have e:Xk w1 g off X:=Xk.grown (w:=w.drew) bb.out Y (by simp;omega);rw [Addr.add_lit];exact e.cell I
   have ap:=hide (z27 Y);have D:=hide K;clear F Y K
   go_wp2_with (refine zao rfl (.tmp 80) (.tmp 81) 88 88 rfl 182 2 aC (by kernel_rfl) h (i*2) (n+1-i) (c-i) 1 c1 ⟨g,off,none⟩ rfl rfl 182 _ az.out X (by rw [show bI 1 (n+1-i)=1 from bW (by omega)];exact d.out) ac.out (by have:=d.out;have:=av;simp;omega) D.out ?_;intro w2 M o)
   go_ret
   have a:=HL.out;refine ⟨some ⟨h,0,none⟩,c,by show Ending.returned (.slice (some ⟨h,0,none⟩) (n+1) c)=_;rw [a.1],Own.of_blk M a.2.2.1 (by rw [a.1];exact V) aq (by have:=d.out;have:=av;simp;omega) ?_ (fun y=>y.2.1),ze1 ap.out o,bB rfl⟩;rw [a.1,a.2.1,<-zhq F1 F2 R X (i*2) 2 ((n-i)*2) ad L d.out (by omega)];congr 1;omega
  ·have f:Blk w h 182 (F1++F2++R).toArray:=hh;obtain ⟨i0,z,al,ah,af,S,ag⟩:=eok.inf;have ak:i+(n+1-i)=n+1:=by omega
   have aj:(n:Int)+1-(i:Int)=((n+1-i:Nat):Int):=by omega
   have ce:h < w.heap.size:=f.lt;have cd:g<w.heap.size:=N.lt;have O:(Builtin.firstCells i0.size i (.slice (some ⟨h,0,none⟩) i c)).run aB w.drew=.ok F1.toArray w.drew:=by
    rw [af];refine run_firstCells_some w.drew 2 i ⟨h,0,none⟩ i c F1 ad (fun j v hj=>?_);have ca:=(List.getElem?_eq_some_iff.1 hj).1;rw [Addr.add_lit];refine (f.cell _).trans ?_;simp only [aT,Nat.zero_add];rw [bP,aP (by omega)];exact hj
   have t:=fun ty=>Lib.run_append_grow_zeros w 88 3 ty 182 i0 z .i64 .i64 eok.und Tryz.underlying3 al ah (some ⟨h,0,none⟩) i c F1 O (n+1-i) (by omega) (by omega) (by omega) (by omega) (by rw [S];omega) (by rw [S,ak];exact growslice_fits (by omega) (by omega))
   rw [ak] at t;obtain ⟨G,hG⟩:∃ G,G=grownCap w (n+1) c 182:=⟨_,rfl⟩;rw [<-hG] at t;have br:n+1<=G:=by rw [hG];exact grownCap_ge w _ _ _
   have Q:G<=maxLen:=by rw [hG];exact grownCap_le_maxLen w (n+1) c 182 (by unfold maxLen;omega)
   obtain ⟨Z,hZ,ck⟩:∃ Z:List Value,F1.toArray++Builtin.zeroCells z.cells (n+1-i)++Builtin.zeroCells z.cells (G-(n+1))=(F1++Z).toArray/\Z.length=(G-i)*2 :=
    ⟨(Builtin.zeroCells z.cells (n+1-i)).toList++(Builtin.zeroCells z.cells (G-(n+1))).toList,by simp [Array.append_assoc],by simp [size_zeroCells,ag];omega⟩
   rw [hZ] at t;obtain ⟨W1,q⟩:∃ W1,W1=w.drew.alloc (.cells (F1++Z).toArray 182):=⟨_,rfl⟩;have bs:Hid (Blk W1 w.heap.size 182 (F1++Z).toArray):=by rw [q];exact Blk.new w.drew _ _
   have ba:Hid (Xk W1 g off X):=by rw [q];exact Xk.alloc (w:=w.drew) N _
   have F:Hid (Blk W1 h 182 (F1++F2++R).toArray):=by rw [q];exact Blk.alloc (w:=w.drew) f _
   have bl:Hid (∀ b,W1.grownBy b (some w.heap.size)->∀ row,w.grownBy b row):=fun b hb row=>by
    rw [q] at hb;exact z27 (ze2 hb row)
   have ai:Hid (∀ ty,(Builtin.append_ #[88,3] ty #[.slice (some ⟨h,0,none⟩) i c,.int .i64 ((n:Int)+1-(i:Int))]).run aB w=.ok (.slice (some ⟨w.heap.size,0,none⟩) (n+1) G) W1):=fun ty=>by
    rw [aj,q];exact t ty
   have ac:Hid (∀ j u,X[j]? = some u->W1.cell? ((⟨g,off,none⟩:Addr).add j)=some u):=fun j u I=>by
    rw [Addr.add_lit];exact ba.out.cell I
   have HL:=hide (aS k (aS p (aS ar B)));have d:=hide d;have D:=hide K;have bu:=hide h2;have aw:Hid (F2.length=bI (n-i) (n-i)*2):=by unfold Hid;rw [show bI (n-i) (n-i)=n-i from Nat.min_self _];exact L
   have bj:(i:Int)<(n:Int):=by omega
   have cc:(c:Int)<(n:Int)+1:=by omega
   have bi:i<=n:=by omega
   have ci:¬(c=i):=by omega
   have cm:¬(G=i):=by omega
   have bv:¬(G=i+1):=by omega
   have cl:G<=9223372036854775807:=by unfold maxLen at Q;omega
   clear N f hh m J E B ho h2 k p K t O q hZ hG aj af S ag ah al aq
   go_enter aV,bE
   go_wp2_with (first|(at_builtin;refine Lib.wpList_append_run _ rfl _ _ _ _ rfl _ _ rfl rfl _ _ (ai.out _) ?_)|(refine zao rfl (.tmp 43) (.tmp 44) 88 88 rfl 182 2 aC (by kernel_rfl) w.heap.size (i*2) (n+1-i) (G-i) 1 c1 ⟨g,off,none⟩ rfl rfl 182 _ bs.out X (by rw [show bI 1 (n+1-i)=1 from bW (by omega)];exact d.out) ac.out (by have:=d.out;simp;omega) D.out ?_;intro w2 M o))
   have cf:h≠w.heap.size:=by omega
   have s:Hid (∀ j u,F2[j]? = some u->w2.cell? ((⟨h,i*2,none⟩:Addr).add j)=some u):=fun j u I=>by
    have e:Blk w2 h 182 (F1++F2++R).toArray:=F.out.grown o (by simp;omega);rw [Addr.add_lit,e.cell];have hj:=(List.getElem?_eq_some_iff.1 I).1;simp only [aT];rw [bP,aY (by omega),aP (by omega),show i*2+j-F1.length=j by omega];exact I
   have ao:=hide o;have ay:=hide M;have T:IntKind.i64.wrap ((i:Int)+1)=(i:Int)+1:=by rw [IntKind.wrap_i64];omega
   have ab:(0:Int)<=(i:Int)+1:=by omega
   have U:((i:Int)+1).toNat=i+1:=by omega
   have au:(i:Int)<=(n:Int):=by omega
   have bp:(i:Int)+1<=(n:Int)+1:=by omega
   clear o M
   go_region_law (refine zdo rfl _ _ 88 88 rfl 182 2 aC (by kernel_rfl) w.heap.size ((i+1)*2) (n-i) (G-(i+1)) (n-i) (c-i) ⟨h,i*2,none⟩ (by simp [Act.eval,Act.put]) (by simp [Act.eval,Act.put]) 182 _ ay.out F2 aw.out s.out (by have:=d.out;simp;omega) bu.out ?_;intro w3 ae an)
   clear T ab U au bp;have ax:Hid (Blk w3 w.heap.size 182 (((F1++Z).take (i*2)++X++(F1++Z).drop (i*2+X.length)).take (i*2+2)++F2++((F1++Z).take (i*2)++X++(F1++Z).drop (i*2+X.length)).drop (i*2+2+F2.length)).toArray):=by
    have e:(i+1)*2=i*2+2:=by omega
    rw [e] at ae;exact ae
   have am:=hide (z27 an);clear ae an
   go_wp2
   go_ret
   have a:=HL.out;have bc:=d.out;refine ⟨some ⟨w.heap.size,0,none⟩,G,by show Ending.returned (.slice (some ⟨w.heap.size,0,none⟩) (n+1) G)=_;rw [a.1],Own.of_blk ax.out C (by rw [a.1];exact br) Q (by simp;omega) ?_ (fun y=>y.2.1),bl.out _ (ze1 ao.out am.out) _,bC rfl⟩;rw [a.1,a.2.1,<-zqj F1 F2 Z X (i*2) 2 ((n-i)*2) ad L bc (by omega)];congr 1;omega
theorem zk7 {n a v r i}(b:Sr n a i v=some r):ConC false E0 289 [.row 0,aI i,.sl 2 (List.map Ah v)] 182 2 (List.map Ah a) 182 2 (List.map Ah r) (.row 0):=zy9 rfl (Av aV rfl rfl) (by omega) zmk b
end
noncomputable section
abbrev zgt {n d a b}:=li (J9 n d a b) (fun c=>⟨[(2,aI d),(7,.row 7013),(14,.sl 1 (a.map aI)),(15,aI (((a.map aI).length:Int))),(16,aI c.1)],[(7013,.row 182 2 (c.2.map Ah))]⟩) fun _ _=>J9.eq_2 ..
abbrev z4e {n b a c}:=li (Om n b a c) (fun d=>⟨[(0,.sl 2 (a.map Ah)),(1,.fn 291 [.ref (z8y b)]),(7,aI (((a.map Ah).length:Int))),(8,aI d)],[]⟩) fun _ _=>Om.eq_2 ..
abbrev zgw {n e a f b c}:=jf (Mq n e a f b c) (fun d=>⟨[(0,.sl 2 (f.map Ah)),(2,aI e),(10,.sl 2 (a.map Bw)),(11,aI (((a.map Bw).length:Int))),(12,aI b),(32,.bool (d))],[]⟩) fun _=>Mq.eq_1 ..
abbrev zgv {n d a e b}:=li (Ja n d a e b) (fun c=>⟨[(0,.sl 2 (e.map Ah)),(2,aI d),(10,.sl 2 (a.map Bw)),(11,aI (((a.map Bw).length:Int))),(12,aI c)],[]⟩) fun _ _=>Ja.eq_2 ..
abbrev z4d {n b a c}:=li (Ol n b a c) (fun d=>⟨[(0,.sl 2 (a.map Ah)),(1,.fn 250 [.ref (Bs b)]),(7,aI (((a.map Ah).length:Int))),(8,aI d)],[]⟩) fun _ _=>Ol.eq_2 ..
abbrev za5 {n c}:=li (Lr n c) (fun b=>⟨[(0,.row 200001),(1,.fn 250 [.ptr 100000 0]),(5,aI b.1),(6,aI b.2.1)],[(100000,.box 149 [aI b.2.2.1,aI b.2.2.2.1,aI b.2.2.2.2.1,aI b.2.2.2.2.2.1,aI b.2.2.2.2.2.2.1,.sl 8 (b.2.2.2.2.2.2.2.1.map idA),aI b.2.2.2.2.2.2.2.2.1,aI b.2.2.2.2.2.2.2.2.2.1,aI b.2.2.2.2.2.2.2.2.2.2.1,aI b.2.2.2.2.2.2.2.2.2.2.2.1,aI b.2.2.2.2.2.2.2.2.2.2.2.2.1,.str (b.2.2.2.2.2.2.2.2.2.2.2.2.2.1),.sl 1 (b.2.2.2.2.2.2.2.2.2.2.2.2.2.2.1.map aI),.sl 1 (b.2.2.2.2.2.2.2.2.2.2.2.2.2.2.2.1.map aI),.sl 8 (b.2.2.2.2.2.2.2.2.2.2.2.2.2.2.2.2.1.map idA),.sl 2 (b.2.2.2.2.2.2.2.2.2.2.2.2.2.2.2.2.2.1.map Bw),.sl 1 (b.2.2.2.2.2.2.2.2.2.2.2.2.2.2.2.2.2.2.1.map aI)]),(200001,.row 182 2 (b.2.2.2.2.2.2.2.2.2.2.2.2.2.2.2.2.2.2.2.map Ah))]⟩) fun _ _=>Lr.eq_2 ..
abbrev z78 {n f a g e c b}:=li (Pk n f a g e c b) (fun d=>⟨[(6,.ptr 6 0),(7,.ptr 7 0),(9,.ptr 9 0),(10,.ptr 10 0),(12,.row 52),(13,.ptr 13 0),(81,.sl 8 (a.fChecks.map idA)),(82,aI (((a.fChecks.map idA).length:Int))),(83,aI d)],[(6,.box 90 (C2 g)),(7,.box 149 (Bs a)),(9,.box 37 (Bx f)),(10,.box 90 [aI 0,.nils,.nils]),(13,.box 271 [.row 63]),(52,.row 182 2 (e.map Ah)),(63,.row 29 1 (List.map (fun q=>AV.sl 5 (List.map A7 q)) (c)))]⟩) fun _ _=>Pk.eq_2 ..
abbrev z79 {n a c d e}:=jf (Fv n a c d e) (fun b=>⟨[(6,.ptr 6 0),(7,.ptr 7 0),(8,.ptr 8 0),(9,.ptr 9 0),(10,.ptr 10 0),(44,.bool (b))],[(6,.box 90 (C2 e)),(7,.box 149 (Bs d)),(8,.box 271 (Dq c)),(9,.box 37 (Bx a)),(10,.box 90 [aI 0,.nils,.nils])]⟩) fun _=>Fv.eq_1 ..
attribute [instance] zgt z4e zgw zgv z4d za5 z78 z79
def zbn (r:(List Ak)):AV:=.row 0
theorem zid {n e d c r}(b:Wr n e d c=some r):ConT E0 245 [.sl 2 (e.map Ah),.sl 1 (d.map aI),aI c] 182 2 (r.map Ah) (zbn r):=by
 unfold Wr at b;refine ConT.walk _ cI rfl (Av cI rfl rfl) rfl rfl ?_;repeat' first
  |refine AW.jI2 b (fun v b=>?_) fun b=>?_
  |refine aQ b fun b=>?_
  |refine aM [6] ?_;conv=>whnf
  |refine aU b (fun b=>?_) fun b=>?_
  |refine cE b (fun r=>r) Ah (fun _=>AV.row 0) rfl (fun a h=>zee h) (fun a b=>?_)
  |refine aJ b fun x b=>?_
  |refine B3.I b (fun a b=>?_) rfl rfl fun _=>bC rfl
  |refine NatX.o b (fun m b=>?_)
  |refine LtX.o b (fun b=>?_)
  |refine SetX.o Ah b (fun x=>rfl) (fun x=>(by first|exact bD _|(repeat' first|exact SubL.nil|refine SubL.cons ?_ ?_|exact Sub.refl _|exact Sub.nil _|refine Sub.agg ?_))) (fun l b=>?_)
  |exact ⟨_,b,aA [(7013,7033)]⟩
  |refine B3.oC b 7013 (fun r=>r) Ah (fun _=>AV.row 0) rfl (fun a h=>zk7 h) rfl rfl rfl rfl rfl rfl (fun a b=>?_)
  |exact ⟨_,b,aA [(7033,33)]⟩
  |exact ⟨_,b,aA [(7033,7013)]⟩
  |refine aZ b ?_ fun m v b=>?_
  |exact aA [(7013,13)]
  |refine TX.o (rl:=fun r=>r.map Ah) (res:=zbn) b ?_;exact TX.mk _ 7013 (LeX.refl _ _ _) _ rfl rfl (by repeat' first|exact Sub.nil _|exact Sub.refl _|refine Sub.agg ?_|refine Sub.tup ?_|refine Sub.fn ?_|exact SubL.nil|refine SubL.cons ?_ ?_|refine Sub.sl _ ?_|exact SubE.nil|refine SubE.cons ?_ ?_)
instance zz4 {n b a}:CI E0 (Wk n b a) true 291 [Ah b,.ref (z8y a)] (fun r=>.bool (r)):=by unfold Wk;exact bA [] Tryz.func291
instance zjt {n a b}:CI E0 (U6 n a b) true 290 [.sl 2 (a.map Ah),.fn 291 [.ref (z8y b)]] aI:=by unfold U6;exact bA [] cK
instance y39 {n e d c}:CI E0 (Ws n e d c) true 246 [.sl 2 (e.map Ah),.sl 2 (d.map Bw),aI c] (fun r=>.bool (r)):=⟨fun {r} b=>by
 unfold Ws at b;refine cw Tryz.func246 ?_;repeat' first
  |refine cU b (fun v b=>?_) fun b=>?_
  |refine aQ b fun b=>?_
  |refine aM [5] ?_;conv=>whnf
  |refine aU b (fun b=>?_) fun b=>?_
  |refine aJ b fun x b=>?_
  |refine B3.I b (fun a b=>?_) rfl rfl fun _=>bC rfl
  |exact ⟨_,b,aA []⟩
  |refine aZ b (aA []) fun m v b=>?_
  |refine AndA ?_
  |exact aL b⟩
set_option maxHeartbeats 400000 in
theorem zry (l:List (Cel 1))(S:Nat->Prop)(v:Value)(w:World)(h:Sl w S 1 encC v l)(d:l.length<=1000000000) :
  Calls aB 247 #[v] w (Hn 29 1 encC l w):=by
 have eok:EOk aB 269 29 1 24 (encC (n:=1)):=eokC (sz:=1) (D7 269 _ rfl) rfl (D7 29 _ rfl) (by omega) rfl;obtain ⟨A,c,rfl,f,_⟩:=h.form;have a:=fun (W:World)=>Lib.run_eql_slice_nil W 269 29 A l.length c 0 0 Tryz.underlying269
 have H:=hide h;cases A with
 |none =>
  have g:l=[]:=h.none_nil;subst g;clear h H d f;simp only [aW,aE] at a ⊢
  go_enter bJ,cA
  go_wp2
  go_ret
  exact ⟨none,0,rfl,bH,by go_grown⟩
 |some ad =>
  clear h
  go_enter bJ,cA
  go_wp2_with (at_builtin;refine H8 rfl _ _ rfl eok rfl aH rfl (H.out.alloc _) (by simp;omega) (by omega) (by simp) ?_;intro A' i w1 b e _)
  go_ret
  exact ⟨A',i,rfl,b,(aH (sz:=1) (enc:=encC (n:=1))).grown ((Below.refl _ _).alloc (aD _) _) (aD _) (by simp) e⟩
theorem zns {n a r}(b:C4 n a=some r):ConT E0 247 [.sl 1 (List.map (fun q=>AV.sl 5 (List.map A7 q)) a)] 29 1 (List.map (fun q=>AV.sl 5 (List.map A7 q)) r) (.row 0):=Je rfl (Av bJ rfl rfl) zry b
set_option maxHeartbeats 400000 in
theorem zrx (l:List (Cel 5))(S:Nat->Prop)(v:Value)(w:World)(h:Sl w S 5 encC v l)(d:l.length<=1000000000) :
  Calls aB 248 #[v] w (Hn 37 5 encC l w):=by
 have eok:EOk aB 29 37 5 56 (encC (n:=5)):=eokC (sz:=5) (D7 29 _ rfl) rfl (D7 37 _ rfl) (by omega) rfl;obtain ⟨A,c,rfl,f,_⟩:=h.form;have a:=fun (W:World)=>Lib.run_eql_slice_nil W 29 37 A l.length c 0 0 Tryz.underlying29
 have H:=hide h;cases A with
 |none =>
  have g:l=[]:=h.none_nil;subst g;clear h H d f;simp only [aW,aE] at a ⊢
  go_enter bK,cB
  go_wp2
  go_ret
  exact ⟨none,0,rfl,bH,by go_grown⟩
 |some ad =>
  clear h
  go_enter bK,cB
  go_wp2_with (at_builtin;refine H8 rfl _ _ rfl eok rfl aH rfl (H.out.alloc _) (by simp;omega) (by omega) (by simp) ?_;intro A' i w1 b e _)
  go_ret
  exact ⟨A',i,rfl,b,(aH (sz:=5) (enc:=encC (n:=5))).grown ((Below.refl _ _).alloc (aD _) _) (aD _) (by simp) e⟩
theorem znr {n a r}(b:C4 n a=some r):ConT E0 248 [.sl 5 (List.map A7 a)] 37 5 (List.map A7 r) (.row 0):=Je rfl (Av bK rfl rfl) zrx b
instance zjx {n b a}:CI E0 (Ld n b a) true 250 [Ah b,.ref (Bs a)] (fun r=>.bool (r)):=by unfold Ld;exact bA [] bL
instance zjs {n a b}:CI E0 (U5 n a b) true 290 [.sl 2 (a.map Ah),.fn 250 [.ref (Bs b)]] aI:=by unfold U5;exact bA [] cK
def z30 (b:Ak)(a:Ag):List (Nat×Ent):=[(100000,.box 149 (Bs a))]
def Xy (r:Bool×Ag):List (Nat×Ent):=[(100000,.box 149 (Bs r.2))]
def z00 (r:Bool×Ag):AV:=.bool (r.1)
def z2y (r:Bool×Ag):AS:=⟨[(3,.bool (r.1)),(1,.ptr 100000 0)],Xy r⟩
theorem z2i {n c d r}(b:Od n c d=some r):ConG E0.P none (CalF E0.P 250 0) [Ah c,.ptr 100000 0] [] (z30 c d) (z00 r) (Xy r):=by
 unfold Od at b;refine aG (E:=(E0p 2)) (caps:=[]) _ bL rfl rfl rfl rfl rfl ?_;repeat' first
  |refine aK ?_;conv=>whnf
  |refine bV b fun a b=>?_
  |exact GX.A (res:=z00) (meF:=Xy) b z2y
def zdk (b:Ag)(a:(List Ak)):List (Nat×Ent):=[(100000,.box 149 (Bs b)),(200001,.row 182 2 (a.map Ah))]
def V5 (r:(List Ak)×Ag):List (Nat×Ent):=[(260000,.row 182 2 (r.1.map Ah)),(100000,.box 149 (Bs r.2))]
def Zt (r:(List Ak)×Ag):AV:=.row 260000
def z3m (r:(List Ak)×Ag):AS:=⟨[(4,.row 260000),(1,.fn 250 [.ptr 100000 0])],V5 r⟩
theorem zb3 {n d c r}(b:Vh n d c=some r):ConG E0.P none (CalF E0.P 249 0) [.row 200001,.fn 250 [.ptr 100000 0]] [] (zdk d c) (Zt r) (V5 r):=by
 unfold Vh at b;refine aG (E:=(E0p 2)) (caps:=[]) _ cL rfl rfl rfl rfl rfl ?_;repeat' first
  |refine aK ?_;conv=>whnf
  |refine aU b (fun b=>?_) fun b=>?_
  |refine B3.I b (fun a b=>?_) rfl rfl fun _=>bC rfl
  |refine GX.o (res:=Zt) (meF:=V5) b ?_;exact GX.mk (z3m _) (aA [(260000,200001)]) rfl _ rfl (by repeat' first|exact Sub.nil _|exact Sub.refl _|refine Sub.agg ?_|refine Sub.tup ?_|refine Sub.fn ?_|exact SubL.nil|refine SubL.cons ?_ ?_|refine Sub.sl _ ?_|exact SubE.nil|refine SubE.cons ?_ ?_) [100000] ⟨bC ⟨1,0,_,_,_,_,_,aX rfl,rfl,rfl,rfl,rfl,rfl⟩,trivial⟩ rfl
  |refine OpX.sub b rfl rfl rfl rfl rfl rfl rfl rfl rfl rfl (fun m b=>?_)
  |refine OpX.clr Ah b rfl rfl rfl rfl rfl rfl rfl rfl rfl rfl rfl (by first|exact bD _|(repeat' first|exact SubL.nil|refine SubL.cons ?_ ?_|exact Sub.refl _|exact Sub.nil _|refine Sub.agg ?_)) (fun l b=>?_)
  |refine SlsX.o Ah b (fun l b=>?_)
  |refine GX.o (res:=Zt) (meF:=V5) b ?_;exact GX.mk (z3m _) (aA [(260000,41)]) rfl _ rfl (by repeat' first|exact Sub.nil _|exact Sub.refl _|refine Sub.agg ?_|refine Sub.tup ?_|refine Sub.fn ?_|exact SubL.nil|refine SubL.cons ?_ ?_|refine Sub.sl _ ?_|exact SubE.nil|refine SubE.cons ?_ ?_) [100000] ⟨bC ⟨1,0,_,_,_,_,_,aX rfl,rfl,rfl,rfl,rfl,rfl⟩,trivial⟩ rfl
  |refine NatX.o b (fun m b=>?_)
  |refine EltX.o Ah b (fun x b=>?_)
  |refine bM (Bc 28 b) [(100000,100000)] [(100000,100000)] _ _ Xy z00 [] (fun a h=>aF (z2i h)) (Av bL rfl rfl) rfl rfl rfl ⟨⟨rfl,rfl⟩,trivial⟩ (fun a=>⟨rfl,rfl,rfl,rfl,rfl,rfl,rfl,rfl⟩) (fun a b=>?_)
  |refine SetX.o Ah b (fun x=>rfl) (fun x=>(by first|exact bD _|(repeat' first|exact SubL.nil|refine SubL.cons ?_ ?_|exact Sub.refl _|exact Sub.nil _|refine Sub.agg ?_))) (fun l b=>?_)
  |exact ⟨_,b,aA []⟩
  |refine aZ b (aA []) fun m v b=>?_
  |refine bT ?_
set_option maxHeartbeats 400000 in
theorem zs3 (l:List (Cel 4))(S:Nat->Prop)(v:Value)(w:World)(h:Sl w S 4 encC v l)(d:l.length<=1000000000) :
  Calls aB 143 #[v] w (Hn 93 4 encC l w):=by
 have eok:EOk aB 62 93 4 32 (encC (n:=4)):=eokC (sz:=4) (D7 62 _ rfl) rfl (D7 93 _ rfl) (by omega) rfl;obtain ⟨A,c,rfl,f,_⟩:=h.form;have a:=fun (W:World)=>Lib.run_eql_slice_nil W 62 93 A l.length c 0 0 Tryz.underlying62
 have H:=hide h;cases A with
 |none =>
  have g:l=[]:=h.none_nil;subst g;clear h H d f;simp only [aW,aE] at a ⊢
  go_enter bN,cC
  go_wp2
  go_ret
  exact ⟨none,0,rfl,bH,by go_grown⟩
 |some ad =>
  clear h
  go_enter bN,cC
  go_wp2_with (at_builtin;refine H8 rfl _ _ rfl eok rfl aH rfl (H.out.alloc _) (by simp;omega) (by omega) (by simp) ?_;intro A' i w1 b e _)
  go_ret
  exact ⟨A',i,rfl,b,(aH (sz:=4) (enc:=encC (n:=4))).grown ((Below.refl _ _).alloc (aD _) _) (aD _) (by simp) e⟩
theorem zef {n a r}(b:C4 n a=some r):ConT E0 143 [.sl 4 (List.map Az a)] 93 4 (List.map Az r) (.row 0):=Je rfl (Av bN rfl rfl) zs3 b
theorem zrp {n a r}(b:C4 n a=some r):Con E0 false 143 [.sl 4 (List.map Az a)] (.sl 4 (List.map Az r)):=(zef b).close rfl
end
noncomputable section
abbrev z2s {n d c}:=li (K1 n d c) (fun b=>⟨[(0,.row 200000),(1,.fn 128 [.ref [.fn 64 []]]),(5,aI b.1),(6,.der (.sub 1 (d)) 200000),(7,aI b.2.1)],[(200000,.row 64 1 (b.2.2.map Ax))]⟩) fun _ _=>K1.eq_2 ..
abbrev z2t {n a b}:=li (Oc n a b) (fun c=>⟨[(0,.row 200000),(1,.fn 128 [.ref [.fn 64 []]]),(5,aI c)],[(200000,.row 64 1 (a.map Ax))]⟩) fun _ _=>Oc.eq_2 ..
abbrev z7a {n e d a c}:=li (Pm n e d a c) (fun b=>⟨[(0,.ref [aI a.fa.fVars,aI a.fa.fScopes,.sl 1 (a.fa.fStates.map Ao),.sl 17 (a.fa.fEdges.map Ac),.mapv (List.map (encM Bm A7) (a.fheld))]),(5,.ptr 5 0),(8,.ptr 8 0),(9,.ptr 9 0),(13,.sl 3 (d.map A5)),(14,aI (((d.map A5).length:Int))),(15,aI b.1)],[(5,.box 37 (Bx e)),(8,.box 49 [.row 811000001]),(9,.box 50 [.row 811000003]),(811000001,.row 90 3 (b.2.1.map A5)),(811000003,.row 64 1 (b.2.2.map Ax))]⟩) fun _ _=>Pm.eq_2 ..
attribute [instance] z2s z2t z7a
instance znf {n c g f e d}:CI E0 (Qv n c g f e d) false 199 [.ref [aI c.fa.fVars,aI c.fa.fScopes,.sl 1 (c.fa.fStates.map Ao),.sl 17 (c.fa.fEdges.map Ac),.mapv (List.map (encM Bm A7) (c.fheld))],A5 g,Ac f,Dp e,A7 d] (fun r=>.tup [A5 r.1,.bool (r.2)]):=⟨fun {r} b=>by
 unfold Qv at b;refine cw Tryz.func199 ?_;repeat' first
  |refine cU b (fun v b=>?_) fun b=>?_
  |refine aQ b fun b=>?_
  |refine aM [1] ?_;conv=>whnf
  |refine aU b (fun b=>?_) fun b=>?_
  |refine cQ ?_
  |refine cE b (fun r=>r) Ah zbn rfl (fun a h=>zid h) (fun a b=>?_)
  |refine B3.I b (fun a b=>?_) rfl rfl fun _=>bC rfl
  |refine cE b (fun r=>r) (fun q=>AV.sl 5 (List.map A7 q)) (fun _=>AV.row 0) rfl (fun a h=>zns h) (fun a b=>?_)
  |refine IdxX.o (fun q=>AV.sl 5 (List.map A7 q)) b fun x b=>?_
  |refine cE b (fun r=>r) A7 (fun _=>AV.row 0) rfl (fun a h=>znr h) (fun a b=>?_)
  |refine bF b fun l b=>?_
  |refine NatX.o b (fun m b=>?_)
  |refine OpX.str A7 b rfl rfl rfl rfl rfl rfl rfl rfl rfl rfl rfl (fun l b=>?_)
  |refine bM (Bc 96 b) [(100000,7),(200001,52)] [(260000,97000000),(100000,7)] _ _ V5 Zt [52] (fun a h=>aF (zb3 h)) (Av cL rfl rfl) rfl rfl rfl ⟨⟨rfl,rfl⟩,⟨⟨rfl,rfl⟩,trivial⟩⟩ (fun a=>⟨rfl,rfl,rfl,rfl,rfl,rfl,rfl,rfl⟩) (fun a b=>?_)
  |refine cE b (fun r=>r) Az (fun _=>AV.row 0) rfl (fun a h=>zef h) (fun a b=>?_)
  |refine bV b fun a b=>?_
  |refine IdxX.oD b D0 (fun x b=>?_)
  |refine B3.o b zsd (fun a h=>Con.sub (by repeat' first|exact Sub.nil _|exact Sub.refl _|refine Sub.agg ?_|refine Sub.tup ?_|refine Sub.fn ?_|exact SubL.nil|refine SubL.cons ?_ ?_|refine Sub.sl _ ?_|exact SubE.nil|refine SubE.cons ?_ ?_) (zk4.h h)) (fun _=>bC rfl) (fun a b=>?_)
  |exact ⟨_,b,aA []⟩
  |refine aZ b (aA []) fun m v b=>?_
  |refine bY rfl rfl rfl rfl ?_
  |refine aJ b fun x b=>?_
  |refine AndA ?_
  |exact aL b⟩
def z29 (yl_l:Nat)(yl_T:Array Value)(c:A8)(d:A1)(a:B9)(e:Aq)(b:Int×(List A1)×(List Aa)):AS:=⟨[(0,.yld yl_l yl_T [.any,.any,.any,.any,.any,.any,.any,.any,.ptr 100000 0,.ptr 100001 0]),(1,.ptr 100002 0),(2,.ptr 100003 0),(3,.ptr 100004 0),(5,.ptr 5 0),(39,.sl 17 (a.fa.fEdges.map Ac)),(40,aI (((a.fa.fEdges.map Ac).length:Int))),(41,aI (b.1))],[(100000,.box 49 [.row 33000001]),(100001,.box 50 [.row 33000003]),(100002,.box 128 [.ref [aI (a.fa.fVars),aI (a.fa.fScopes),.sl 1 (a.fa.fStates.map Ao),.sl 17 (a.fa.fEdges.map Ac),.mapv (List.map (encM Bm A7) (a.fheld))]]),(100003,.box 90 [aI (d.fState),.sl 4 (d.fBindings.map Az),.sl 2 (d.fStarts.map Ah)]),(100004,.box 37 [aI (c.fSource),aI (c.fSeq),aI (c.fType),aI (c.fTime),.sl 3 (c.fValues.map Af)]),(5,.box 271 [.sl 1 (List.map (fun q=>AV.sl 5 (List.map A7 q)) (e.fVars))]),(33000001,.row 90 3 (b.2.1.map A5)),(33000003,.row 64 1 (b.2.2.map Ax))]⟩
theorem z23 {n yl_l yl_R yl_T c d e a b}:y8z (E0y yl_l yl_R 4) 67 (Ht n c d e a b) (z29 yl_l yl_T c d e a):=LoopA.oT fun _=>rfl
def z28 (yl_l:Nat)(yl_T:Array Value)(c:A8)(d:A1)(a:B9)(e:Aq)(b:Int×(List A1)×(List Aa)):AS:=⟨[(0,.yld yl_l yl_T [.any,.any,.any,.any,.any,.any,.any,.any,.ptr 100000 0,.ptr 100001 0]),(1,.ptr 100002 0),(2,.ptr 100003 0),(3,.ptr 100004 0),(5,.ptr 5 0),(39,.sl 17 (a.fa.fEdges.map Ac)),(40,aI (((a.fa.fEdges.map Ac).length:Int))),(41,aI (b.1))],[(100000,.box 49 [.row 200000]),(100001,.box 50 [.row 200001]),(100002,.box 128 [.ref [aI (a.fa.fVars),aI (a.fa.fScopes),.sl 1 (a.fa.fStates.map Ao),.sl 17 (a.fa.fEdges.map Ac),.mapv (List.map (encM Bm A7) (a.fheld))]]),(100003,.box 90 [aI (d.fState),.sl 4 (d.fBindings.map Az),.sl 2 (d.fStarts.map Ah)]),(100004,.box 37 [aI (c.fSource),aI (c.fSeq),aI (c.fType),aI (c.fTime),.sl 3 (c.fValues.map Af)]),(5,.box 271 [.sl 1 (List.map (fun q=>AV.sl 5 (List.map A7 q)) (e.fVars))]),(200000,.row 90 3 (b.2.1.map A5)),(200001,.row 64 1 (b.2.2.map Ax))]⟩
theorem z21 {n yl_l yl_R yl_T c d e a b}:y8z (E0y yl_l yl_R 4) 67 (Hs n c d e a b) (z28 yl_l yl_T c d e a):=LoopA.oT fun _=>rfl
def z31 (e:(List A1))(d:(List Aa))(a:B9)(c:A1)(b:A8):List (Nat×Ent):=[(100000,.box 49 [.row 200000]),(200000,.row 90 3 (e.map A5)),(100001,.box 50 [.row 200001]),(200001,.row 64 1 (d.map Ax)),(100002,.box 128 [.ref [aI a.fa.fVars,aI a.fa.fScopes,.sl 1 (a.fa.fStates.map Ao),.sl 17 (a.fa.fEdges.map Ac),.mapv (List.map (encM Bm A7) (a.fheld))]]),(100003,.box 90 (C2 c)),(100004,.box 37 (Bx b))]
def Th (r:(List A1)×(List Aa)×B9×A1×A8):List (Nat×Ent):=[(100000,.box 49 [.row 250000]),(250000,.row 90 3 (r.1.map A5)),(100001,.box 50 [.row 250001]),(250001,.row 64 1 (r.2.1.map Ax)),(100002,.box 128 [.ref [aI r.2.2.1.fa.fVars,aI r.2.2.1.fa.fScopes,.sl 1 (r.2.2.1.fa.fStates.map Ao),.sl 17 (r.2.2.1.fa.fEdges.map Ac),.mapv (List.map (encM Bm A7) (r.2.2.1.fheld))]]),(100003,.box 90 (C2 r.2.2.2.1)),(100004,.box 37 (Bx r.2.2.2.2))]
def z01 (r:(List A1)×(List Aa)×B9×A1×A8):AV:=.tup []
def z0s (yl_l:Nat)(yl_T:Array Value)(r:(List A1)×(List Aa)×B9×A1×A8):AS:=⟨[(0,.yld yl_l yl_T [.any,.any,.any,.any,.any,.any,.any,.any,.ptr 100000 0,.ptr 100001 0]),(1,.ptr 100002 0),(2,.ptr 100003 0),(3,.ptr 100004 0)],Th r⟩
theorem z2j {n d c i g f r}(b:Tk n d c i g f=some r)(yl_l:Nat)(yl_R:Obj)(yl_T:Array Value)(e:∀ {n:Nat} {j:A1} {d:(List A1)} {c:(List Aa)} {r:(List A1)×(List Aa)},Pn n j d c=some r->ConG E0.P (some (yl_l,yl_R)) (fun vs cs w R=>cs=yl_T->CalY E0.P yl_l vs cs w R) [A5 j] [.any,.any,.any,.any,.any,.any,.any,.any,.ptr 100000 0,.ptr 100001 0] (z7r d c) (.bool true) (Kr r)):ConG E0.P (some (yl_l,yl_R)) (CalF E0.P 195 0) [.yld yl_l yl_T [.any,.any,.any,.any,.any,.any,.any,.any,.ptr 100000 0,.ptr 100001 0],.ptr 100002 0,.ptr 100003 0,.ptr 100004 0] [] (z31 d c i g f) (z01 r) (Th r):=by
 unfold Tk at b;refine aG (E:=(E0y yl_l yl_R 4)) (caps:=[]) _ cM rfl rfl rfl rfl rfl ?_;repeat' first
  |refine aK ?_;conv=>whnf
  |refine aU b (fun b=>?_) fun b=>?_
  |refine cS ?_
  |refine bV b fun a b=>?_
  |refine bY rfl rfl rfl rfl ?_
  |refine aJ b fun x b=>?_
  |refine B3.I b (fun a b=>?_) rfl rfl fun _=>bC rfl
  |refine YldX.oM (Bc 32 b) [(100000,100000),(200000,200000),(100001,100001),(200001,200001)] [(100000,100000),(250000,33000001),(100001,100001),(250001,33000003)] _ _ _ Kr (fun _=>AV.bool true) [200000,200001] (fun a h=>e h) rfl rfl rfl rfl rfl ⟨⟨rfl,rfl⟩,⟨⟨rfl,rfl⟩,⟨⟨rfl,rfl⟩,⟨⟨rfl,rfl⟩,trivial⟩⟩⟩⟩ (fun a=>⟨rfl,rfl,rfl,rfl,rfl,rfl,rfl,rfl⟩) (fun a b=>?_)
  |refine GX.o (res:=z01) (meF:=Th) b ?_;exact GX.mk (z0s yl_l yl_T _) (aA [(250000,33000001),(250001,33000003)]) rfl _ rfl (by repeat' first|exact Sub.nil _|exact Sub.refl _|refine Sub.agg ?_|refine Sub.tup ?_|refine Sub.fn ?_|exact SubL.nil|refine SubL.cons ?_ ?_|refine Sub.sl _ ?_|exact SubE.nil|refine SubE.cons ?_ ?_) [100000,100001] ⟨bB ⟨0,0,8,_,_,_,_,_,_,rfl,rfl,rfl,rfl,rfl⟩,⟨bB ⟨0,0,9,_,_,_,_,_,_,rfl,rfl,rfl,rfl,rfl⟩,trivial⟩⟩ rfl
  |exact ⟨_,b,aA []⟩
  |refine YldX.oM (Bc 63 b) [(100000,100000),(200000,33000001),(100001,100001),(200001,33000003)] [(100000,100000),(250000,64000001),(100001,100001),(250001,64000003)] _ _ _ Kr (fun _=>AV.bool true) [33000001,33000003] (fun a h=>e h) rfl rfl rfl rfl rfl ⟨⟨rfl,rfl⟩,⟨⟨rfl,rfl⟩,⟨⟨rfl,rfl⟩,⟨⟨rfl,rfl⟩,trivial⟩⟩⟩⟩ (fun a=>⟨rfl,rfl,rfl,rfl,rfl,rfl,rfl,rfl⟩) (fun a b=>?_)
  |exact ⟨_,b,aA [(33000001,64000001),(33000003,64000003)]⟩
  |refine z23 b (aA []) (fun m v b=>?_);unfold Ht at b
  |refine GX.o (res:=z01) (meF:=Th) b ?_;exact GX.mk (z0s yl_l yl_T _) (aA [(250000,200000),(250001,200001)]) rfl _ rfl (by repeat' first|exact Sub.nil _|exact Sub.refl _|refine Sub.agg ?_|refine Sub.tup ?_|refine Sub.fn ?_|exact SubL.nil|refine SubL.cons ?_ ?_|refine Sub.sl _ ?_|exact SubE.nil|refine SubE.cons ?_ ?_) [100000,100001] ⟨bB ⟨0,0,8,_,_,_,_,_,_,rfl,rfl,rfl,rfl,rfl⟩,⟨bB ⟨0,0,9,_,_,_,_,_,_,rfl,rfl,rfl,rfl,rfl⟩,trivial⟩⟩ rfl
  |refine YldX.oM (Bc 63 b) [(100000,100000),(200000,200000),(100001,100001),(200001,200001)] [(100000,100000),(250000,64000001),(100001,100001),(250001,64000003)] _ _ _ Kr (fun _=>AV.bool true) [200000,200001] (fun a h=>e h) rfl rfl rfl rfl rfl ⟨⟨rfl,rfl⟩,⟨⟨rfl,rfl⟩,⟨⟨rfl,rfl⟩,⟨⟨rfl,rfl⟩,trivial⟩⟩⟩⟩ (fun a=>⟨rfl,rfl,rfl,rfl,rfl,rfl,rfl,rfl⟩) (fun a b=>?_)
  |exact ⟨_,b,aA [(200000,64000001),(200001,64000003)]⟩
  |refine z21 b (aA []) (fun m v b=>?_);unfold Hs at b
  |refine AndA ?_
instance zua {n b a}:CI E0 (Rs n b a) true 128 [Ax b,Ax a,.ref [.fn 64 []]] (fun r=>.bool (r)):=by unfold Rs;exact bA [] Tryz.func128
def z6a (a:(List Aa)):List (Nat×Ent):=[(200000,.row 64 1 (a.map Ax))]
def Tt (r:(List Aa)):List (Nat×Ent):=[(260000,.row 64 1 (r.map Ax))]
def Yf (r:(List Aa)):AV:=.row 260000
def z1d (r:(List Aa)):AS:=⟨[(4,.row 260000)],Tt r⟩
theorem z3h {n c r}(b:Tx n c=some r):ConG E0.P none (CalF E0.P 127 0) [.row 200000,.fn 128 [.ref [.fn 64 []]]] [] (z6a c) (Yf r) (Tt r):=by
 unfold Tx at b;refine aG (E:=(E0p 2)) (caps:=[]) _ cN rfl rfl rfl rfl rfl ?_;repeat' first
  |refine aK ?_;conv=>whnf
  |refine aU b (fun b=>?_) fun b=>?_
  |exact GX.A (res:=Yf) (meF:=Tt) b z1d (h1:=aA [(260000,200000)])
  |refine NatX.o b (fun m b=>?_)
  |refine EltX.o Ax b (fun x b=>?_)
  |refine bV b fun a b=>?_
  |refine OpX.sub b rfl rfl rfl rfl rfl rfl rfl rfl rfl rfl (fun m b=>?_)
  |refine OpX.clr Ax b rfl rfl rfl rfl rfl rfl rfl rfl rfl rfl rfl (by first|exact bD _|(repeat' first|exact SubL.nil|refine SubL.cons ?_ ?_|exact Sub.refl _|exact Sub.nil _|refine Sub.agg ?_)) (fun l b=>?_)
  |refine SlsX.o Ax b (fun l b=>?_)
  |exact GX.A (res:=Yf) (meF:=Tt) b z1d (h1:=aA [(260000,64)])
  |refine OpX.lns b rfl rfl rfl rfl rfl rfl rfl (fun b=>?_)
  |refine OpX.ixs b rfl rfl rfl rfl rfl rfl rfl rfl rfl rfl (fun m b=>?_)
  |refine SetX.o Ax b (fun x=>rfl) (fun x=>(by first|exact bD _|(repeat' first|exact SubL.nil|refine SubL.cons ?_ ?_|exact Sub.refl _|exact Sub.nil _|refine Sub.agg ?_))) (fun l b=>?_)
  |exact ⟨_,b,aA []⟩
  |refine aZ b (aA []) fun m v b=>?_
  |refine AndA ?_
  |refine bT ?_
def zfd (a:(List Aa)):List (Nat×Ent):=[(200000,.row 64 1 (a.map Ax))]
def W3 (r:(List Aa)):List (Nat×Ent):=[(260000,.row 64 1 (r.map Ax))]
def z14 (r:(List Aa)):AV:=.row 260000
def zfb (r:(List Aa)):AS:=⟨[(4,.row 260000)],W3 r⟩
theorem z3i {n c r}(b:Mg n c=some r):ConG E0.P none (CalF E0.P 63 0) [.row 200000,.fn 64 []] [] (zfd c) (z14 r) (W3 r):=by
 unfold Mg at b;refine aG (E:=(E0p 2)) (caps:=[]) _ bU rfl rfl rfl rfl rfl ?_;repeat' first
  |refine AW.frbO b 3 rfl rfl (fun b=>?_)
  |refine aQ b fun b=>?_
  |refine aM [2] ?_;conv=>whnf
  |refine B3.oI b 200000 (fun r=>r) Ax (fun _=>AV.tup []) rfl (fun a h=>(ConC.env rfl (zxk h))) rfl rfl rfl (fun a b=>?_)
  |refine bM (Bc 10 b) [(200000,200000)] [(260000,11000000)] _ _ Tt Yf [200000] (fun a h=>aF (z3h h)) (Av cN rfl rfl) rfl rfl rfl ⟨⟨rfl,rfl⟩,trivial⟩ (fun a=>⟨rfl,rfl,rfl,rfl,rfl,rfl,rfl,rfl⟩) (fun a b=>?_)
  |exact GX.A (res:=z14) (meF:=W3) b zfb (h1:=aA [(260000,11000000)])
instance zng {n c e d}:CI E0 (Iw n c e d) false 62 [.ref [aI c.fa.fVars,aI c.fa.fScopes,.sl 1 (c.fa.fStates.map Ao),.sl 17 (c.fa.fEdges.map Ac),.mapv (List.map (encM Bm A7) (c.fheld))],.sl 3 (e.map A5),A7 d] (fun r=>.tup [.sl 3 (r.1.map A5),.sl 1 (r.2.map Ax)]):=⟨fun {r} b=>by
 unfold Iw at b;refine Con.walkM (E:=E0r) _ cR rfl (Av cR rfl rfl) rfl (bB rfl) ?_ rfl rfl rfl;repeat' first
  |refine aK ?_;conv=>whnf
  |refine aU b (fun b=>?_) fun b=>?_
  |refine bM (Bc 39 b) [(200000,811000001)] [(260000,40000000)] _ _ Wp z54 [811000001] (fun a h=>aF (zd1 h)) (Av Tryz.func124 rfl rfl) rfl rfl rfl ⟨⟨rfl,rfl⟩,trivial⟩ (fun a=>⟨rfl,rfl,rfl,rfl,rfl,rfl,rfl,rfl⟩) (fun a b=>?_)
  |refine bM (Bc 41 b) [(200000,811000003)] [(260000,42000000)] _ _ W3 z14 [811000003] (fun a h=>aF (z3i h)) (Av bU rfl rfl) rfl rfl rfl ⟨⟨rfl,rfl⟩,trivial⟩ (fun a=>⟨rfl,rfl,rfl,rfl,rfl,rfl,rfl,rfl⟩) (fun a b=>?_)
  |refine aJ b fun x b=>?_
  |refine cW (Bc 22 b) [] [(3,23000000),(4,23000001),(5,23000002)] _ _ Z3 z0t [] (fun a h=>aF (z8s h)) (Av cF rfl rfl) rfl rfl rfl trivial (fun a=>⟨rfl,rfl,rfl,rfl,rfl,rfl,rfl,rfl⟩) (fun a b=>?_)
  |refine bF b fun l b=>?_
  |refine BX.o (meF:=Kr) b ?_;exact BX.mk (z1q _) (aA [(250000,200000),(250001,32)]) rfl rfl
  |refine BX.o (meF:=Kr) b ?_;exact BX.mk (z1q _) (aA [(250000,36),(250001,200001)]) rfl rfl
  |refine RngX.oM (Bc 810 b) [(100000,8),(100001,9),(100002,23000000),(100003,23000001),(100004,23000002),(200000,811000001),(200001,811000003)] [(100000,8),(250000,811500001),(100001,9),(250001,811500003),(100002,23000000),(100003,23000001),(100004,23000002)] _ _ _ Th [811000001,811000003] (fun x h l D fn T f=>z2j h l _ T (fun b=>ConG.round (E:=E0p 10) rfl rfl rfl rfl rfl rfl ?_ l D fn T f)) (Av cM rfl rfl) rfl rfl rfl rfl rfl ⟨⟨rfl,rfl⟩,⟨⟨rfl,rfl⟩,trivial⟩⟩ ⟨⟨rfl,rfl⟩,⟨⟨rfl,rfl⟩,⟨⟨rfl,rfl⟩,⟨⟨rfl,rfl⟩,⟨⟨rfl,rfl⟩,⟨⟨rfl,rfl⟩,⟨⟨rfl,rfl⟩,trivial⟩⟩⟩⟩⟩⟩⟩ (fun a=>⟨rfl,rfl,rfl,rfl,rfl,rfl,rfl,rfl⟩) (fun a b=>?_)
  |exact ⟨_,b,aA [(811000001,811500001),(811000003,811500003)]⟩
  |refine aZ b ?_ fun m v b=>?_
  |exact aO (LeX.adoptC 8 0 811000001 90 3 49 _ rfl rfl rfl) (aO (LeX.adoptC 9 0 811000003 64 1 50 _ rfl rfl rfl) (aA []))
  |refine AndA ?_
  |exact aL b⟩
end
noncomputable section
abbrev zp3 {n f a b d c}:=jf (Jd n f a b d c) (fun e=>⟨[(7,.ref [aI a.fa.fVars,aI a.fa.fScopes,.sl 1 (a.fa.fStates.map Ao),.sl 17 (a.fa.fEdges.map Ac),.mapv (List.map (encM Bm A7) (a.fheld))]),(10,.row 7058),(13,.sl 3 (c.1.map A5)),(14,.sl 1 (c.2.map Ax)),(26,.sl 5 (f.map A7)),(27,aI (((f.map A7).length:Int))),(28,aI b.2.1),(54,.bool (e))],[(7058,.row 64 1 (b.2.2.map Ax))]⟩) fun _=>Jd.eq_1 ..
abbrev zp2 {n d a c}:=li (H9 n d a c) (fun b=>⟨[(7,.ref [aI a.fa.fVars,aI a.fa.fScopes,.sl 1 (a.fa.fStates.map Ao),.sl 17 (a.fa.fEdges.map Ac),.mapv (List.map (encM Bm A7) (a.fheld))]),(9,.sl 3 (b.1.map A5)),(10,.row 7058),(26,.sl 5 (d.map A7)),(27,aI (((d.map A7).length:Int))),(28,aI b.2.1)],[(7058,.row 64 1 (b.2.2.map Ax))]⟩) fun _ _=>H9.eq_2 ..
abbrev z4k {n m0n a f c d e}:=li (Ou n m0n a f c d e) (fun b=>⟨[(0,aI f),(2,.ptr 100000 0),(9,.sl 8 (a.map idA)),(10,aI (((a.map idA).length:Int))),(11,aI c.1),(16,.sl 1 (d.map aI)),(17,aI (((d.map aI).length:Int))),(18,aI b.1)],[(100000,.box 121 [.cont (m0n) 200000]),(200000,.are 112 (b.2).1 (List.map (enO aI AV.bool) (b.2).2))]⟩) fun _ _=>Ou.eq_2 ..
abbrev z4l {n m0n a d c}:=li (Kc n m0n a d c) (fun b=>⟨[(0,aI d),(2,.ptr 100000 0),(9,.sl 8 (a.map idA)),(10,aI (((a.map idA).length:Int))),(11,aI b.1)],[(100000,.box 121 [.cont (m0n) 200000]),(200000,.are 112 (b.2).1 (List.map (enO aI AV.bool) (b.2).2))]⟩) fun _ _=>Kc.eq_2 ..
abbrev z24 {n a m0n f c d e}:=li (O8 n a m0n f c d e) (fun b=>⟨[(0,aI f),(2,.ptr 100000 0),(9,.row 200001),(10,aI (((a.map idA).length:Int))),(11,aI c.1),(16,.sl 1 (d.map aI)),(17,aI (((d.map aI).length:Int))),(18,aI b.1)],[(100000,.box 121 [.cont (m0n) 200000]),(200000,.are 112 (b.2).1 (List.map (enO aI AV.bool) (b.2).2)),(200001,.row 146 8 (a.map idA))]⟩) fun _ _=>O8.eq_2 ..
abbrev z26 {n a m0n d c}:=li (K0 n a m0n d c) (fun b=>⟨[(0,aI d),(2,.ptr 100000 0),(9,.row 200001),(10,aI (((a.map idA).length:Int))),(11,aI b.1)],[(100000,.box 121 [.cont (m0n) 200000]),(200000,.are 112 (b.2).1 (List.map (enO aI AV.bool) (b.2).2)),(200001,.row 146 8 (a.map idA))]⟩) fun _ _=>K0.eq_2 ..
abbrev z4j {n b e a d}:=li (Ot n b e a d) (fun c=>⟨[(1,aI e),(2,.ptr 100000 0),(3,.ptr 100001 0),(4,.ptr 100002 0),(23,.sl 1 (a.map aI)),(24,aI (((a.map aI).length:Int))),(25,aI c.1)],[(100000,.box 121 [.cont (c.2.1) 200000]),(100001,.box 173 [.sl 1 (List.map (fun q=>AV.sl 1 (List.map aI q)) (c.2.2.1))]),(100002,.box 285 [.fn 213 [.ptr 100000 0,.ptr 100001 0,.ptr 100002 0]]),(200000,.are 112 (c.2.2.2).1 (List.map (enO aI AV.bool) (c.2.2.2).2))]⟩) fun _ _=>Ot.eq_2 ..
abbrev z7c {n b d e}:=li (Pp n b d e) (fun c=>⟨[(12,.ptr 12 0),(14,.ptr 14 0),(15,aI d.1),(104,.sl 1 (List.map (fun q=>AV.mapv (List.map (encM aI AV.bool) q)) ((aval b)))),(105,aI ((((List.map (fun q=>AV.mapv (List.map (encM aI AV.bool) q)) ((aval b))).length:Nat):Int))),(106,aI d.1),(112,.ptr 112 0)],[(12,.box 121 [.cont (c.1) 7092]),(14,.box 285 [.fn 213 [.ptr 12 0,.ptr 9 0,.ptr 14 0]]),(9,.box 173 [.sl 1 (List.map (fun q=>AV.sl 1 (List.map aI q)) (c.2.1))]),(112,.it (List.map (encM aI AV.bool) (c.2.2.1))),(7092,.are 112 (c.2.2.2).1 (List.map (enO aI AV.bool) (c.2.2.2).2))]⟩) fun _ _=>Pp.eq_2 ..
abbrev z7d {n b d}:=li (Gr n b d) (fun c=>⟨[(12,.ptr 12 0),(14,.ptr 14 0),(104,.sl 1 (List.map (fun q=>AV.mapv (List.map (encM aI AV.bool) q)) ((aval b)))),(105,aI ((((List.map (fun q=>AV.mapv (List.map (encM aI AV.bool) q)) ((aval b))).length:Nat):Int))),(106,aI c.1)],[(12,.box 121 [.cont (c.2.1) 7092]),(14,.box 285 [.fn 213 [.ptr 12 0,.ptr 9 0,.ptr 14 0]]),(9,.box 173 [.sl 1 (List.map (fun q=>AV.sl 1 (List.map aI q)) (c.2.2.1))]),(7092,.are 112 (c.2.2.2).1 (List.map (enO aI AV.bool) (c.2.2.2).2))]⟩) fun _ _=>Gr.eq_2 ..
abbrev z7e {n h c b d f g}:=li (I6 n h c b d f g) (fun e=>⟨[(3,.ptr 3 0),(9,.ptr 9 0),(12,.ptr 12 0),(94,aI (((f:Nat):Int))),(95,aI e.1)],[(3,.box 121 [.cont (c) 7021]),(7021,.are 112 (b).1 (List.map (enO aI AV.bool) (b).2)),(9,.box 173 [.cont (h) 53]),(53,.nest 43 (List.map (enR aI 3 1) (d))),(12,.box 121 [.cont (f) 92]),(92,.are 112 (e.2).1 (List.map (enO aI AV.bool) (e.2).2))]⟩) fun _ _=>I6.eq_2 ..
abbrev z7f {n a d c}:=li (Gs n a d c) (fun b=>⟨[(1,.ptr 1 0),(3,.ptr 3 0),(4,.fn 210 [.ptr 3 0]),(9,.ptr 9 0),(55,.sl 17 (a.fEdges.map Ac)),(56,aI (((a.fEdges.map Ac).length:Int))),(57,aI b.1)],[(1,.box 26 (B1 a)),(3,.box 121 [.cont (b.2.1) 7021]),(9,.box 173 [.cont (d) 53]),(53,.nest 43 (List.map (enR aI 3 1) (b.2.2.1))),(7021,.are 112 (b.2.2.2).1 (List.map (enO aI AV.bool) (b.2.2.2).2))]⟩) fun _ _=>Gs.eq_2 ..
abbrev z7b {n a c d e}:=li (Po n a c d e) (fun b=>⟨[(1,.ptr 1 0),(3,.ptr 3 0),(4,.fn 210 [.ptr 3 0]),(5,aI c.1),(24,.sl 1 (a.fStates.map Ao)),(25,aI (((a.fStates.map Ao).length:Int))),(26,aI c.1),(36,.sl 11 (d.fGuards.map B7)),(37,aI (((d.fGuards.map B7).length:Int))),(38,aI b.1)],[(1,.box 26 (B1 a)),(3,.box 121 [.cont (b.2.1) 7021]),(7021,.are 112 (b.2.2).1 (List.map (enO aI AV.bool) (b.2.2).2))]⟩) fun _ _=>Po.eq_2 ..
abbrev z7g {n a c}:=li (L2 n a c) (fun b=>⟨[(1,.ptr 1 0),(3,.ptr 3 0),(4,.fn 210 [.ptr 3 0]),(24,.sl 1 (a.fStates.map Ao)),(25,aI (((a.fStates.map Ao).length:Int))),(26,aI b.1)],[(1,.box 26 (B1 a)),(3,.box 121 [.cont (b.2.1) 7021]),(7021,.are 112 (b.2.2).1 (List.map (enO aI AV.bool) (b.2.2).2))]⟩) fun _ _=>L2.eq_2 ..
attribute [instance] zp3 zp2 z4k z4l z24 z26 z4j z7c z7d z7e z7f z7b z7g
instance y8n {n d c}:CI E0 (Xe n d c) false 17 [Bh d,.sl 5 (c.map A7)] (fun r=>.tup [.sl 3 (r.1.map A5),.sl 1 (r.2.1.map Ax),aI r.2.2]):=⟨fun {r} b=>by
 unfold Xe at b;refine cw Tryz.func17 ?_;repeat' first
  |refine cU b (fun v b=>?_) fun b=>?_
  |refine aQ b fun b=>?_
  |refine aM [10] ?_;conv=>whnf
  |refine aU b (fun b=>?_) fun b=>?_
  |refine cQ ?_
  |refine Ab.oP b Em (fun u=>.tup [.nilp,aI (u.2)]) (fun u y=>.tup [.ref [aI (y.fa.fVars),aI (y.fa.fScopes),.sl 1 (y.fa.fStates.map Ao),.sl 17 (y.fa.fEdges.map Ac),.mapv (List.map (encM Bm A7) (y.fheld))],aI (u.2)]) (fun u h=>by simp only [Em,h,Ga]) (fun u y h=>by simp only [Em,h,Ga]) (fun a h=>z2x.h h) (fun a b=>?_) (fun a y b=>?_)
  |refine bV b fun a b=>?_
  |(cases b;done)
  |refine bM (Bc 62 b) [(200000,7058)] [(260000,63000000)] _ _ W3 z14 [7058] (fun a h=>aF (z3i h)) (Av bU rfl rfl) rfl rfl rfl ⟨⟨rfl,rfl⟩,trivial⟩ (fun a=>⟨rfl,rfl,rfl,rfl,rfl,rfl,rfl,rfl⟩) (fun a b=>?_)
  |refine aJ b fun x b=>?_
  |refine bF b fun l b=>?_
  |exact ⟨_,b,aA [(7058,58)]⟩
  |exact ⟨_,b,aA []⟩
  |refine aZ b ?_ fun m v b=>?_
  |exact aO (LeX.adopt 10 7058 64 1 rfl rfl) (aA [])
  |exact aL b⟩
instance y2b {n b a}:CI E0 (Se n b a) false 21 [Bh b,.sl 5 (a.map A7)] (fun r=>.tup [.sl 1 (r.1.map Ax),aI r.2]):=by unfold Se;exact bA [] Tryz.func21
def z96 (c:Int)(b:(List AV))(m0n:Nat)(a:(Ars (List (Int×Bool)))):List (Nat×Ent):=[(100000,.box 121 [.cont (m0n) 200000]),(200000,.are 112 (a).1 (List.map (enO aI AV.bool) (a).2))]
def U2 (r:Nat×(Ars (List (Int×Bool)))):List (Nat×Ent):=[(100000,.box 121 [.cont (r.1) 270000]),(270000,.are 112 (r.2).1 (List.map (enO aI AV.bool) (r.2).2))]
def Yp (r:Nat×(Ars (List (Int×Bool)))):AV:=.tup []
def z91 (r:Nat×(Ars (List (Int×Bool)))):AS:=⟨[(2,.ptr 100000 0)],U2 r⟩
theorem z1b {n d c m0n e r}(b:Yt n d c m0n e=some r):ConG E0.P none (CalF E0.P 210 0) [aI d,.sl 8 (c.map idA),.ptr 100000 0] [] (z96 d c m0n e) (Yp r) (U2 r):=by
 unfold Yt at b;refine aG (E:=(E0p 3)) (caps:=[]) _ aN rfl rfl rfl rfl rfl ?_;repeat' first
  |refine aK ?_;conv=>whnf
  |refine aU b (fun b=>?_) fun b=>?_
  |refine cQ ?_
  |refine cS ?_
  |exact GX.A (res:=Yp) (meF:=U2) b z91 (h1:=aA [(270000,200000)])
  |refine IdxX.oD b D0 (fun x b=>?_)
  |refine bV b fun a b=>?_
  |exact ⟨_,b,aA []⟩
  |refine aJ b fun x b=>?_
  |refine bX b rfl rfl rfl rfl rfl rfl rfl rfl (fun b=>?_)
  |refine cX b rfl rfl rfl rfl rfl rfl rfl (fun j b=>?_)
  |refine cY AV.bool b (bB rfl) rfl rfl rfl rfl rfl rfl rfl rfl rfl (by first|rfl|kernel_rfl) rfl rfl (fun l b=>?_)
  |refine aZ b (aA []) fun m v b=>?_
  |refine AndA ?_
  |refine bT ?_
set_option maxHeartbeats 400000 in
theorem zrz (l:List (Cel 8))(S:Nat->Prop)(v:Value)(w:World)(h:Sl w S 8 encC v l)(d:l.length<=1000000000) :
  Calls aB 212 #[v] w (Hn 146 8 encC l w):=by
 have eok:EOk aB 142 146 8 88 (encC (n:=8)):=eokC (sz:=8) (D7 142 _ rfl) rfl (D7 146 _ rfl) (by omega) rfl;obtain ⟨A,c,rfl,f,_⟩:=h.form;have a:=fun (W:World)=>Lib.run_eql_slice_nil W 142 146 A l.length c 0 0 Tryz.underlying142
 have H:=hide h;cases A with
 |none =>
  have g:l=[]:=h.none_nil;subst g;clear h H d f;simp only [aW,aE] at a ⊢
  go_enter bO,cD
  go_wp2
  go_ret
  exact ⟨none,0,rfl,bH,by go_grown⟩
 |some ad =>
  clear h
  go_enter bO,cD
  go_wp2_with (at_builtin;refine H8 rfl _ _ rfl eok rfl aH rfl (H.out.alloc _) (by simp;omega) (by omega) (by simp) ?_;intro A' i w1 b e _)
  go_ret
  exact ⟨A',i,rfl,b,(aH (sz:=8) (enc:=encC (n:=8))).grown ((Below.refl _ _).alloc (aD _) _) (aD _) (by simp) e⟩
theorem zed {n a r}(b:C4 n a=some r):ConT E0 212 [.sl 8 (List.map idA a)] 146 8 (List.map idA r) (.row 0):=Je rfl (Av bO rfl rfl) zrz b
def z32 (c:Int)(m0n:Nat)(a:(Ars (List (Int×Bool))))(b:(List AV)):List (Nat×Ent):=[(100000,.box 121 [.cont (m0n) 200000]),(200000,.are 112 (a).1 (List.map (enO aI AV.bool) (a).2)),(200001,.row 146 8 (b.map idA))]
def Tj (r:Nat×(Ars (List (Int×Bool)))):List (Nat×Ent):=[(100000,.box 121 [.cont (r.1) 270000]),(270000,.are 112 (r.2).1 (List.map (enO aI AV.bool) (r.2).2))]
def Xx (r:Nat×(Ars (List (Int×Bool)))):AV:=.tup []
def z2z (r:Nat×(Ars (List (Int×Bool)))):AS:=⟨[(2,.ptr 100000 0)],Tj r⟩
theorem z0a {n c m0n e d r}(b:Xz n c m0n e d=some r):ConG E0.P none (CalF E0.P 210 0) [aI c,.row 200001,.ptr 100000 0] [] (z32 c m0n e d) (Xx r) (Tj r):=by
 unfold Xz at b;refine aG (E:=(E0p 3)) (caps:=[]) _ aN rfl rfl rfl rfl rfl ?_;repeat' first
  |refine aK ?_;conv=>whnf
  |refine aU b (fun b=>?_) fun b=>?_
  |refine cQ ?_
  |refine cS ?_
  |exact GX.A (res:=Xx) (meF:=Tj) b z2z (h1:=aA [(270000,200000)])
  |refine NatX.o b (fun m b=>?_)
  |refine EltX.oD b D0 (fun x b=>?_)
  |refine bV b fun a b=>?_
  |exact ⟨_,b,aA []⟩
  |refine aJ b fun x b=>?_
  |refine bX b rfl rfl rfl rfl rfl rfl rfl rfl (fun b=>?_)
  |refine cX b rfl rfl rfl rfl rfl rfl rfl (fun j b=>?_)
  |refine cY AV.bool b (bB rfl) rfl rfl rfl rfl rfl rfl rfl rfl rfl (by first|rfl|kernel_rfl) rfl rfl (fun l b=>?_)
  |refine aZ b (aA []) fun m v b=>?_
  |refine AndA ?_
  |refine bT ?_
def z95 (d:Int)(c:Int)(m0n:Nat)(a:(Ars (List (Int×Bool))))(b:(List (List Int))):List (Nat×Ent):=[(100000,.box 121 [.cont (m0n) 200000]),(200000,.are 112 (a).1 (List.map (enO aI AV.bool) (a).2)),(100001,.box 173 [.sl 1 (List.map (fun q=>AV.sl 1 (List.map aI q)) (b))]),(100002,.box 285 [.fn 213 [.ptr 100000 0,.ptr 100001 0,.ptr 100002 0]])]
def L3 (r:Nat×(Ars (List (Int×Bool)))×(List (List Int))):List (Nat×Ent):=[(100000,.box 121 [.cont (r.1) 270000]),(270000,.are 112 (r.2.1).1 (List.map (enO aI AV.bool) (r.2.1).2)),(100001,.box 173 [.sl 1 (List.map (fun q=>AV.sl 1 (List.map aI q)) (r.2.2))]),(100002,.box 285 [.fn 213 [.ptr 100000 0,.ptr 100001 0,.ptr 100002 0]])]
def Pu (r:Nat×(Ars (List (Int×Bool)))×(List (List Int))):AV:=.tup []
def z90 (r:Nat×(Ars (List (Int×Bool)))×(List (List Int))):AS:=⟨[(2,.ptr 100000 0),(3,.ptr 100001 0),(4,.ptr 100002 0)],L3 r⟩
theorem z1a {n e d m0n g f r}(c:Ig n e d m0n g f=some r):ConG E0.P none (CalF E0.P 213 0) [aI e,aI d,.ptr 100000 0,.ptr 100001 0,.ptr 100002 0] [] (z95 e d m0n g f) (Pu r) (L3 r):=by
 induction n generalizing e d m0n g f r
 case zero=>cases c
 case succ n i =>
 unfold Ig at c;refine aG (E:=(E0p 5)) (caps:=[]) _ aR rfl rfl rfl rfl rfl ?_;repeat' first
  |refine aK ?_;conv=>whnf
  |refine aU c (fun c=>?_) fun c=>?_
  |refine cQ ?_
  |refine cS ?_
  |refine bX c rfl rfl rfl rfl rfl rfl rfl rfl (fun c=>?_)
  |refine cX c rfl rfl rfl rfl rfl rfl rfl (fun j c=>?_)
  |refine OpX.alk aI AV.bool c Cz rfl rfl rfl rfl rfl rfl rfl rfl rfl rfl rfl (by first|rfl|kernel_rfl) (by repeat' first|exact Sub.nil _|exact Sub.refl _|refine Sub.agg ?_|refine Sub.tup ?_|refine Sub.fn ?_|exact SubL.nil|refine SubL.cons ?_ ?_|refine Sub.sl _ ?_|exact SubE.nil|refine SubE.cons ?_ ?_) (fun v b c=>?_)
  |exact GX.A (res:=Pu) (meF:=L3) c z90 (h1:=aA [(270000,200000)])
  |refine cY AV.bool c (bB rfl) rfl rfl rfl rfl rfl rfl rfl rfl rfl (by first|rfl|kernel_rfl) rfl rfl (fun l c=>?_)
  |refine IdxX.o (fun q=>AV.sl 1 (List.map aI q)) c fun x c=>?_
  |refine aJ c fun x c=>?_
  |refine bM (Bc 32 c) [(100000,100000),(100001,100001),(100002,100002),(200000,200000)] [(100000,100000),(270000,33000001),(100001,100001),(100002,100002)] _ _ L3 Pu [200000] (fun a h=>aF (i h)) (Av aR rfl rfl) rfl rfl rfl ⟨⟨rfl,rfl⟩,⟨⟨rfl,rfl⟩,⟨⟨rfl,rfl⟩,⟨⟨rfl,rfl⟩,trivial⟩⟩⟩⟩ (fun a=>⟨rfl,rfl,rfl,rfl,rfl,rfl,rfl,rfl⟩) (fun a c=>?_)
  |refine cW (Bc 32 c) [(100000,100000),(100001,100001),(100002,100002),(200000,200000)] [(100000,100000),(270000,33000001),(100001,100001),(100002,100002)] _ _ L3 Pu [200000] (fun a h=>aF (i h)) (Av aR rfl rfl) rfl rfl rfl ⟨⟨rfl,rfl⟩,⟨⟨rfl,rfl⟩,⟨⟨rfl,rfl⟩,⟨⟨rfl,rfl⟩,trivial⟩⟩⟩⟩ (fun a=>⟨rfl,rfl,rfl,rfl,rfl,rfl,rfl,rfl⟩) (fun a c=>?_)
  |exact ⟨_,c,aA [(200000,33000001)]⟩
  |refine aZ c (aA []) fun m v c=>?_
  |refine AndA ?_
  |refine bT ?_
end
noncomputable section
abbrev z8i {n e a b c}:=jf (Ie n e a b c) (fun d=>⟨[(0,.ref [aI a.fa.fVars,aI a.fa.fScopes,.sl 1 (a.fa.fStates.map Ao),.sl 17 (a.fa.fEdges.map Ac),.mapv (List.map (encM Bm A7) (a.fheld))]),(3,.ptr 3 0),(84,.sl 2 (e.fStarts.map Ah)),(85,aI (((e.fStarts.map Ah).length:Int))),(86,aI b),(115,.bool (d))],[(3,.box 90 (C2 e))]⟩) fun _=>Ie.eq_1 ..
abbrev z8j {n f a b c e}:=jf (Fx n f a b c e) (fun d=>⟨[(0,.ref [aI a.fa.fVars,aI a.fa.fScopes,.sl 1 (a.fa.fStates.map Ao),.sl 17 (a.fa.fEdges.map Ac),.mapv (List.map (encM Bm A7) (a.fheld))]),(3,.ptr 3 0),(9,aI b),(10,.ptr 10 0),(84,.sl 2 (f.fStarts.map Ah)),(85,aI (((f.fStarts.map Ah).length:Int))),(86,aI b),(91,.bool (d))],[(3,.box 90 (C2 f)),(10,.box 182 (zdf e))]⟩) fun _=>Fx.eq_1 ..
abbrev za6 {n d a b}:=li (Ei n d a b) (fun c=>⟨[(0,.ref [aI a.fa.fVars,aI a.fa.fScopes,.sl 1 (a.fa.fStates.map Ao),.sl 17 (a.fa.fEdges.map Ac),.mapv (List.map (encM Bm A7) (a.fheld))]),(3,.ptr 3 0),(84,.sl 2 (d.fStarts.map Ah)),(85,aI (((d.fStarts.map Ah).length:Int))),(86,aI c)],[(3,.box 90 (C2 d))]⟩) fun _ _=>Ei.eq_2 ..
abbrev z8g {n f a b c e}:=jf (Ib n f a b c e) (fun d=>⟨[(0,.ref [aI a.fa.fVars,aI a.fa.fScopes,.sl 1 (a.fa.fStates.map Ao),.sl 17 (a.fa.fEdges.map Ac),.mapv (List.map (encM Bm A7) (a.fheld))]),(3,.ptr 3 0),(8,.bool (e)),(32,.sl 4 (f.fBindings.map Az)),(33,aI (((f.fBindings.map Az).length:Int))),(34,aI b),(63,.bool (d))],[(3,.box 90 (C2 f))]⟩) fun _=>Ib.eq_1 ..
abbrev z8h {n g a b c e f}:=jf (Ic n g a b c e f) (fun d=>⟨[(0,.ref [aI a.fa.fVars,aI a.fa.fScopes,.sl 1 (a.fa.fStates.map Ao),.sl 17 (a.fa.fEdges.map Ac),.mapv (List.map (encM Bm A7) (a.fheld))]),(3,.ptr 3 0),(5,aI b),(6,.ptr 6 0),(8,.bool (f)),(32,.sl 4 (g.fBindings.map Az)),(33,aI (((g.fBindings.map Az).length:Int))),(34,aI b),(49,.bool (d))],[(3,.box 90 (C2 g)),(6,.box 93 (zo1 e))]⟩) fun _=>Ic.eq_1 ..
abbrev za7 {n d a b}:=li (Fy n d a b) (fun c=>⟨[(0,.ref [aI a.fa.fVars,aI a.fa.fScopes,.sl 1 (a.fa.fStates.map Ao),.sl 17 (a.fa.fEdges.map Ac),.mapv (List.map (encM Bm A7) (a.fheld))]),(3,.ptr 3 0),(32,.sl 4 (d.fBindings.map Az)),(33,aI (((d.fBindings.map Az).length:Int))),(34,aI c)],[(3,.box 90 (C2 d))]⟩) fun _ _=>Fy.eq_2 ..
abbrev za8 {n c a}:=jf (Iq n c a) (fun b=>⟨[(0,.ref [aI a.fa.fVars,aI a.fa.fScopes,.sl 1 (a.fa.fStates.map Ao),.sl 17 (a.fa.fEdges.map Ac),.mapv (List.map (encM Bm A7) (a.fheld))]),(3,.ptr 3 0),(11,.bool (b))],[(3,.box 90 (C2 c))]⟩) fun _=>Iq.eq_1 ..
abbrev zfv {n b}:=jf (Ml n b) (fun c=>⟨[(17,.sl 3 (b.1.map A5)),(18,.sl 1 (b.2.map Ax)),(64,.bool (c))],[]⟩) fun _=>Ml.eq_1 ..
abbrev zfu {n e d a b}:=li (S3 n e d a b) (fun c=>⟨[(2,.sl 3 (d.map A5)),(7,.ptr 7 0),(11,.ref [aI a.fa.fVars,aI a.fa.fScopes,.sl 1 (a.fa.fStates.map Ao),.sl 17 (a.fa.fEdges.map Ac),.mapv (List.map (encM Bm A7) (a.fheld))]),(31,.sl 3 (d.map A5)),(32,aI (((d.map A5).length:Int))),(33,aI c)],[(7,.box 37 (Bx e))]⟩) fun _ _=>S3.eq_2 ..
abbrev z2w {n}:=jf (K3 n) (fun b=>⟨[(4,.bool (b))],[]⟩) fun _=>K3.eq_1 ..
abbrev zas {n d a b}:=li (Qs n d a b) (fun c=>⟨[(1,.sl 2 (d.map Ah)),(2,.fn 139 []),(15,.sl 2 (a.map Ah)),(16,aI (((a.map Ah).length:Int))),(17,aI c)],[]⟩) fun _ _=>Qs.eq_2 ..
abbrev zcd {n d a b}:=li (M0 n d a b) (fun c=>⟨[(1,.mapv (List.map (encM aI AV.bool) (d))),(5,.row 7022),(9,.sl 4 (a.fBindings.map Az)),(10,aI (((a.fBindings.map Az).length:Int))),(11,aI c.1)],[(7022,.row 93 4 (c.2.map Az))]⟩) fun _ _=>M0.eq_2 ..
attribute [instance] z8i z8j za6 z8g z8h za7 za8 zfv zfu z2w zas zcd
instance znh {n c}:CI E0 (Ut n c) false 136 [Bh c] (fun r=>.sl 1 (List.map (fun q=>AV.mapv (List.map (encM aI AV.bool) q)) (r))):=⟨fun {r} b=>by
 unfold Ut at b;refine cw Tryz.func136 ?_;repeat' first
  |refine AW.areO aI AV.bool b 21 rfl (fun b=>?_)
  |refine AW.nstO (er:=aI) 3 1 b 53 rfl (fun b=>?_)
  |refine AW.areO aI AV.bool b 92 rfl (fun b=>?_)
  |refine AW.frrO (ety:=3) (sz:=1) aI b 53 rfl (fun b=>?_)
  |refine AW.frcO aI AV.bool b 7021 rfl (fun b=>?_)
  |refine AW.frcO aI AV.bool b 7092 rfl (fun b=>?_)
  |refine AW.pckO (encM aI AV.bool) b 112 rfl (fun x s b=>?_)
  |refine aQ b fun b=>?_
  |refine AW.frzO b 53 rfl (fun b=>?_)
  |refine AW.frzO b 7021 rfl (fun b=>?_)
  |refine AW.frzO b 7092 rfl (fun b=>?_)
  |refine aM [28,29,37,18,34,22,14,2] ?_;conv=>whnf
  |refine aU b (fun b=>?_) fun b=>?_
  |refine cQ ?_
  |refine cS ?_
  |refine MakX.om b (fun m b=>?_)
  |refine MakX.on b (fun m b=>?_)
  |refine OpX.lnc rfl rfl rfl rfl rfl rfl ?_
  |refine IdxX.o (fun q=>AV.mapv (List.map (encM aI AV.bool) q)) b fun x b=>?_
  |refine OpX.rng rfl rfl rfl rfl rfl rfl rfl rfl ?_
  |exact ⟨_,b,aO (cO 112 rfl) (aA [])⟩
  |exact ⟨_,b,aA []⟩
  |refine OpX.nxt (encM aI AV.bool) b rfl rfl rfl rfl rfl (fun b=>?_) (fun b=>?_)
  |refine OpX.ent rfl rfl rfl rfl rfl ?_
  |refine bM (Bc 120 b) [(100000,12),(100001,9),(100002,14),(200000,7092)] [(100000,12),(270000,121000001),(100001,9),(100002,14)] _ _ L3 Pu [7092] (fun a h=>aF (z1a h)) (Av aR rfl rfl) rfl rfl rfl ⟨⟨rfl,rfl⟩,⟨⟨rfl,rfl⟩,⟨⟨rfl,rfl⟩,⟨⟨rfl,rfl⟩,trivial⟩⟩⟩⟩ (fun a=>⟨rfl,rfl,rfl,rfl,rfl,rfl,rfl,rfl⟩) (fun a b=>?_)
  |refine cW (Bc 120 b) [(100000,12),(100001,9),(100002,14),(200000,7092)] [(100000,12),(270000,121000001),(100001,9),(100002,14)] _ _ L3 Pu [7092] (fun a h=>aF (z1a h)) (Av aR rfl rfl) rfl rfl rfl ⟨⟨rfl,rfl⟩,⟨⟨rfl,rfl⟩,⟨⟨rfl,rfl⟩,⟨⟨rfl,rfl⟩,trivial⟩⟩⟩⟩ (fun a=>⟨rfl,rfl,rfl,rfl,rfl,rfl,rfl,rfl⟩) (fun a b=>?_)
  |exact ⟨_,b,aO (cO 112 rfl) (aA [(7092,121000001)])⟩
  |refine aZ b ?_ fun m v b=>?_
  |exact aA []
  |exact aA [(7092,92)]
  |refine bX b rfl rfl rfl rfl rfl rfl rfl rfl (fun b=>?_)
  |refine OpX.ast aI AV.bool b rfl rfl rfl rfl rfl rfl rfl rfl rfl rfl rfl (fun m b=>?_)
  |refine aJ b fun x b=>?_
  |refine cE b (fun r=>r) idA (fun _=>AV.row 0) rfl (fun a h=>zed h) (fun a b=>?_)
  |refine cE b (fun r=>r) idA (fun _=>AV.row 0) rfl (fun a h=>ConT.sub (by repeat' first|exact Sub.nil _|exact Sub.refl _|refine Sub.agg ?_|refine Sub.tup ?_|refine Sub.fn ?_|exact SubL.nil|refine SubL.cons ?_ ?_|refine Sub.sl _ ?_|exact SubE.nil|refine SubE.cons ?_ ?_) (zed h)) (fun a b=>?_)
  |refine bF b fun l b=>?_
  |refine bM (Bc 71 b) [(100000,3),(200001,70),(200000,7021)] [(100000,3),(270000,72000001)] _ _ Tj Xx [70,7021] (fun a h=>aF (z0a h)) (Av aN rfl rfl) rfl rfl rfl ⟨⟨rfl,rfl⟩,⟨⟨rfl,rfl⟩,⟨⟨rfl,rfl⟩,trivial⟩⟩⟩ (fun a=>⟨rfl,rfl,rfl,rfl,rfl,rfl,rfl,rfl⟩) (fun a b=>?_)
  |refine cW (Bc 71 b) [(100000,3),(200001,70),(200000,7021)] [(100000,3),(270000,72000001)] _ _ Tj Xx [70,7021] (fun a h=>aF (z0a h)) (Av aN rfl rfl) rfl rfl rfl ⟨⟨rfl,rfl⟩,⟨⟨rfl,rfl⟩,⟨⟨rfl,rfl⟩,trivial⟩⟩⟩ (fun a=>⟨rfl,rfl,rfl,rfl,rfl,rfl,rfl,rfl⟩) (fun a b=>?_)
  |refine OpX.ntk aI b rfl rfl rfl rfl rfl rfl rfl rfl rfl rfl (fun q b=>?_)
  |refine OpX.npt aI b rfl rfl rfl rfl rfl rfl rfl rfl rfl rfl rfl (fun l b=>?_)
  |exact ⟨_,b,aO (cO 112 rfl) (aA [(7021,72000001)])⟩
  |exact ⟨_,b,aA [(7021,72000001)]⟩
  |refine bM (Bc 47 b) [(100000,3),(200000,7021)] [(100000,3),(270000,48000001)] _ _ U2 Yp [7021] (fun a h=>aF (z1b h)) (Av aN rfl rfl) rfl rfl rfl ⟨⟨rfl,rfl⟩,⟨⟨rfl,rfl⟩,trivial⟩⟩ (fun a=>⟨rfl,rfl,rfl,rfl,rfl,rfl,rfl,rfl⟩) (fun a b=>?_)
  |refine cW (Bc 47 b) [(100000,3),(200000,7021)] [(100000,3),(270000,48000001)] _ _ U2 Yp [7021] (fun a h=>aF (z1b h)) (Av aN rfl rfl) rfl rfl rfl ⟨⟨rfl,rfl⟩,⟨⟨rfl,rfl⟩,trivial⟩⟩ (fun a=>⟨rfl,rfl,rfl,rfl,rfl,rfl,rfl,rfl⟩) (fun a b=>?_)
  |exact ⟨_,b,aO (cO 112 rfl) (aA [(7021,48000001)])⟩
  |exact ⟨_,b,aA [(7021,48000001)]⟩
  |exact aA [(7021,21)]
  |refine AndA ?_
  |refine bT ?_
  |exact aL b⟩
def zbs (a:Ad):List (Nat×Ent):=[]
def Lu (r:(List (List (Int×Bool)))):List (Nat×Ent):=[(3,.box 121 [.sl 1 (List.map (fun q=>AV.mapv (List.map (encM aI AV.bool) q)) (r))])]
def Qk (r:(List (List (Int×Bool)))):AV:=.fn 137 [.ptr 3 0]
def zbh (r:(List (List (Int×Bool)))):AS:=⟨[(2,.fn 137 [.ptr 3 0])],Lu r⟩
theorem Yo {n c r}(b:Ix n c=some r):ConG E0.P none (CalF E0.P 69 0) [Bh c] [] (zbs c) (Qk r) (Lu r):=by
 unfold Ix at b;refine aG (E:=(E0p 1)) (caps:=[]) _ Tryz.func69 rfl rfl rfl rfl rfl ?_;repeat' first
  |refine aK ?_;conv=>whnf
  |refine aU b (fun b=>?_) fun b=>?_
  |refine cQ ?_
  |refine cS ?_
  |refine bV b fun a b=>?_
  |exact GX.A (res:=Qk) (meF:=Lu) b zbh
  |refine AndA ?_
  |refine bT ?_
instance zrb {n d e}:CI E0 (F8 n d e) true 96 [.ref [aI d.fa.fVars,aI d.fa.fScopes,.sl 1 (d.fa.fStates.map Ao),.sl 17 (d.fa.fEdges.map Ac),.mapv (List.map (encM Bm A7) (d.fheld))],A5 e] aI:=⟨fun {r} c=>by
 unfold F8 at c;refine cw Tryz.func96 ?_;repeat' first
  |refine cU c (fun v c=>?_) fun c=>?_
  |refine aQ c fun c=>?_
  |refine aM [1,9,11,19,21] ?_;conv=>whnf
  |refine aU c (fun c=>?_) fun c=>?_
  |refine cQ ?_
  |refine aJ c fun x c=>?_
  |exact ⟨_,c,aA []⟩
  |refine bY rfl rfl rfl rfl ?_
  |refine aZ c (aA []) fun m v c=>?_
  |refine cT Bm A7 c y1y rfl rfl rfl rfl rfl rfl rfl rfl rfl rfl (by first|rfl|kernel_rfl) (by repeat' first|exact Sub.nil _|exact Sub.refl _|refine Sub.agg ?_|refine Sub.tup ?_|refine Sub.fn ?_|exact SubL.nil|refine SubL.cons ?_ ?_|refine Sub.sl _ ?_|exact SubE.nil|refine SubE.cons ?_ ?_) (fun v b c=>?_)
  |refine bV c fun a c=>?_
  |refine AndA ?_
  |exact aL c⟩
instance y2c {n f e d c}:CI E0 (Sf n f e d c) false 142 [Bh f,.sl 5 (e.map A7),.sl 3 (d.map A5),A7 c] (fun r=>.tup [.sl 3 (r.1.map A5),.sl 1 (r.2.1.map Ax),aI r.2.2]):=⟨fun {r} b=>by
 unfold Sf at b;refine cw Tryz.func142 ?_;repeat' first
  |refine cU b (fun v b=>?_) fun b=>?_
  |refine aQ b fun b=>?_
  |refine aM [17] ?_;conv=>whnf
  |refine aU b (fun b=>?_) fun b=>?_
  |refine Ab.oP b Em (fun u=>.tup [.nilp,aI (u.2)]) (fun u y=>.tup [.ref [aI (y.fa.fVars),aI (y.fa.fScopes),.sl 1 (y.fa.fStates.map Ao),.sl 17 (y.fa.fEdges.map Ac),.mapv (List.map (encM Bm A7) (y.fheld))],aI (u.2)]) (fun u h=>by simp only [Em,h,Ga]) (fun u y h=>by simp only [Em,h,Ga]) (fun a h=>z2x.h h) (fun a b=>?_) (fun a y b=>?_)
  |(cases b;done)
  |refine bV b fun a b=>?_
  |exact ⟨_,b,aA []⟩
  |refine aJ b fun x b=>?_
  |refine aZ b (aA []) fun m v b=>?_
  |exact aL b⟩
instance zi8 {n b a}:CI E0 (Ty n b a) true 139 [Ah b,Ah a] (fun r=>.bool (r)):=by unfold Ty;exact bA [1] Tryz.func139
instance zsh {n b a}:CI E0 (Vt n b a) true 138 [.sl 2 (b.map Ah),.sl 2 (a.map Ah),.fn 139 []] (fun r=>.bool (r)):=by unfold Vt;exact bA [] Tryz.func138
instance zue {n d c}:CI E0 (Ru n d c) false 141 [A5 d,.mapv (List.map (encM aI AV.bool) (c))] (fun r=>.sl 4 (r.map Az)):=⟨fun {r} a=>by
 unfold Ru at a;refine cw Tryz.func141 ?_;repeat' first
  |refine aQ a fun a=>?_
  |refine aM [5] ?_;conv=>whnf
  |refine aU a (fun a=>?_) fun a=>?_
  |refine cQ ?_
  |refine cS ?_
  |refine aJ a fun x a=>?_
  |refine cT aI AV.bool a Cz rfl rfl rfl rfl rfl rfl rfl rfl rfl rfl (by first|rfl|kernel_rfl) (by repeat' first|exact Sub.nil _|exact Sub.refl _|refine Sub.agg ?_|refine Sub.tup ?_|refine Sub.fn ?_|exact SubL.nil|refine SubL.cons ?_ ?_|refine Sub.sl _ ?_|exact SubE.nil|refine SubE.cons ?_ ?_) (fun v b a=>?_)
  |refine bF a fun l a=>?_
  |exact ⟨_,a,aA [(7022,22)]⟩
  |exact ⟨_,a,aA []⟩
  |refine aZ a ?_ fun m v a=>?_
  |exact aO (LeX.adopt 5 7022 93 4 rfl rfl) (aA [])
  |refine AndA ?_
  |refine bT ?_
  |exact aL a⟩
end
end Go.Proofs.YthbogefcfhmpgaaGreat
