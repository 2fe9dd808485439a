/- What some functions compute, over plain values. -/
import Derived.Test.YthbogefcfhmpgaaGreatK09
set_option linter.unusedVariables false
set_option linter.unusedSimpArgs false
set_option maxRecDepth 100000
set_option maxHeartbeats 8000000
namespace Go.Proofs.YthbogefcfhmpgaaGreat
open Go.RowKit List
open List renaming length_map->aA,drop_eq_nil_of_le->aC,take_succ_eq_append_getElem->aD,getElem_mem->aE,drop_zero->aG,pairwise_cons->aH,length_take->aJ,getElem?_eq_getElem->aL,mem_cons->aM,take_of_length_le->aN,getElem_take->aO,length_cons->aQ,getLast_eq_getElem->aR,length_nil->aT,mem_singleton->aU,length_zipIdx->aV,mem_append->bA,append_nil->bB,foldl_cons->bC,mem_cons_of_mem->bE,getD_eq_getElem?_getD->bG,length_filterMap_le->bI,any_cons->bK,getElem_cons_zero->bL,getElem_set_self->bN,length_drop->bO,map_append->bP,replicate->bS
open Int renaming natCast_zero->aB
open IntKind renaming wrap->aF
open Or renaming inl->aK,inr->aP
open Bool renaming and_eq_true->aS,or_eq_true->aX,and_eq_false_iff->bF,false_eq_true->bJ,not_eq_true->bM,not_true->bQ,and_true->bR
open Nat renaming zero_le->aW,lt_of_le_of_lt->aY,le_refl->bH,zero_add->bT
open Option renaming getD_some->aZ
open Option.some renaming inj->bD
noncomputable section
abbrev z3f {n g f b c d}:=li (Ik n g f b c d) (λe=>⟨[(1,.sl 5 (g.map A5)),(2,.ptr 2 0),(6,.ptr 6 0),(8,.sl 1 (c.1.map aI)),(9,.sl 1 (c.2.1.map AV.bool)),(13,aI e)],[(2,.box 28 [.sl 2 (f.fTypes.map B2),aI f.fA.fVars,aI f.fA.fScopes,.sl 1 (f.fA.fStates.map Am),.sl 17 (f.fA.fEdges.map Aa),aI f.fRate]),(6,.box 39 [aI b.1.fVerdict,aI b.1.fBound,.sl 5 (b.1.fPrefix.map A5),aI b.1.fPeriod])]⟩) λ_ _=>Ik.eq_2 ..
abbrev z3i {n g f b c}:=jf (Il n g f b c) (λd=>⟨[(1,.sl 5 (g.map A5)),(2,.ptr 2 0),(6,.ptr 6 0),(8,.sl 1 (c.1.map aI)),(9,.sl 1 (c.2.1.map AV.bool)),(127,.bool (d))],[(2,.box 28 [.sl 2 (f.fTypes.map B2),aI f.fA.fVars,aI f.fA.fScopes,.sl 1 (f.fA.fStates.map Am),.sl 17 (f.fA.fEdges.map Aa),aI f.fRate]),(6,.box 39 [aI b.1.fVerdict,aI b.1.fBound,.sl 5 (b.1.fPrefix.map A5),aI b.1.fPeriod])]⟩) λ_=>Il.eq_1 ..
abbrev z3j {n g f b c d}:=jf (Co n g f b c d) (λe=>⟨[(1,.sl 5 (g.map A5)),(2,.ptr 2 0),(6,.ptr 6 0),(8,.sl 1 (c.1.map aI)),(9,.sl 1 (c.2.1.map AV.bool)),(11,.sl 1 (d.1.map aI)),(117,.bool (e))],[(2,.box 28 [.sl 2 (f.fTypes.map B2),aI f.fA.fVars,aI f.fA.fScopes,.sl 1 (f.fA.fStates.map Am),.sl 17 (f.fA.fEdges.map Aa),aI f.fRate]),(6,.box 39 [aI b.1.fVerdict,aI b.1.fBound,.sl 5 (b.1.fPrefix.map A5),aI b.1.fPeriod])]⟩) λ_=>Co.eq_1 ..
abbrev z3g {n f d b}:=li (Ko n f d b) (λc=>⟨[(1,.sl 5 (f.map A5)),(2,.ptr 2 0),(5,aI c)],[(2,.box 28 [.sl 2 (d.fTypes.map B2),aI d.fA.fVars,aI d.fA.fScopes,.sl 1 (d.fA.fStates.map Am),.sl 17 (d.fA.fEdges.map Aa),aI d.fRate])]⟩) λ_ _=>Ko.eq_2 ..
abbrev z3k {n f d}:=jf (Fa n f d) (λb=>⟨[(1,.sl 5 (f.map A5)),(2,.ptr 2 0),(46,.bool (b))],[(2,.box 28 [.sl 2 (d.fTypes.map B2),aI d.fA.fVars,aI d.fA.fScopes,.sl 1 (d.fA.fStates.map Am),.sl 17 (d.fA.fEdges.map Aa),aI d.fRate])]⟩) λ_=>Fa.eq_1 ..
attribute [instance] z3f z3i z3j z3g z3k
theorem z3q {n f g r}(d:Z2 n f g=some r):Con E0 true 3 [.agg [.sl 2 (f.fTypes.map B2),aI f.fA.fVars,aI f.fA.fScopes,.sl 1 (f.fA.fStates.map Am),.sl 17 (f.fA.fEdges.map Aa),aI f.fRate],.sl 5 (g.map A5)] (.bool (r)):=by
 unfold Z2 at d;refine cw Tryz.func3 ?_;repeat' first
  |refine AW.jI d (λv d=>?_) λd=>?_
  |refine AW.regO d λd=>?_
  |refine AW.stepU [3,13,15,21] ?_;conv=>whnf
  |refine A3.o d (λd=>?_) λd=>?_
  |refine A3.t ?_
  |refine A3.f ?_
  |refine Ab.I d λa d=>?_
  |refine SlsX.o A5 d (λl d=>?_)
  |exact⟨_,d,LeX.a []⟩
  |refine IdxX.A d λx d=>?_
  |refine Au.I d (LeX.a []) λm v d=>?_
  |refine AndA ?_
  |refine EqX.A ?_
  |exact RetX.oB d
end
section
variable {α:Type} {c:α->α->Int}
theorem TO.asym (h:TO c){a b:α}(k:c a b<0):¬c b a<0:=by have:=h.neg a b;omega
theorem TO.lt_ne (h:TO c){a b:α}(k:c a b<0):a≠b:=λe=>by subst e;exact h.irr _ k
def Str (c:α->α->Int)(l:List α):Prop:=l.Pairwise (λx y=>c x y<0)
theorem Str.uniq (h:TO c):∀{l m:List α},Str c l->Str c m->(∀x,x∈l ↔ x∈m)->l=m
 |[],[],_,_,_=>rfl
 |[],y::m,_,_,hm=>by have:=(hm y).2 Δ;simp at this
 |x::l,[],_,_,hm=>by have:=(hm x).1 Δ;simp at this
 |x::l,y::m,h1,o,hm=>by
  obtain⟨n,q⟩:=aH.1 h1;obtain⟨j,p⟩:=aH.1 o;have f:x=y:=by
   rcases aM.1 ((hm x).1 Δ)with e|e
   ·exact e
   ·rcases aM.1 ((hm y).2 Δ)with g|g
    ·exact g.symm
    ·exact absurd (n y g) (h.asym (j x e))
  subst f;congr 1;refine Str.uniq h q p (λz=>⟨λd=>?_,λd=>?_⟩)
  ·rcases aM.1 ((hm z).1 (bE _ d))with e|e
   ·exact absurd e.symm (h.lt_ne (n z d))
   ·exact e
  ·rcases aM.1 ((hm z).2 (bE _ d))with e|e
   ·exact absurd e.symm (h.lt_ne (j z d))
   ·exact e
def insU (c:α->α->Int)(x:α):List α->List α
 |[]=>[x]
 |y::l=>if c y x<0 then y::insU c x l else if c y x=0 then y::l else x::y::l
theorem Yk (h:TO c)(x z:α):∀l:List α,z∈insU c x l ↔ z=x\/z∈l
 |[]=>by simp[insU]
 |y::l=>by
  unfold insU;split
  ·simp only[aM,Yk h x z l];constructor
   ·rintro (h|h|h)<;>simp[h]
   ·rintro (h|h|h)<;>simp[h]
  ·split
   ·rename_i e;have:=(h.zero _ _).1 e;subst this;simp only[aM];constructor
    ·intro k;exact aP k
    ·rintro (k|k)
     ·exact aK k
     ·exact k
   ·simp only[aM]
theorem zyy (h:TO c)(x:α):∀l:List α,Str c l->Str c (insU c x l)
 |[],_=>by simp[insU,Str]
 |y::l,f=>by
  obtain⟨h1,j⟩:=aH.1 f;unfold insU;split
  ·rename_i k;refine aH.2 ⟨λz d=>?_,zyy h x l j⟩;rcases(Yk h x z l).1 d with e|e
   ·rw[e];exact k
   ·exact h1 z e
  ·split
   ·exact f
   ·rename_i n m;have g:c x y<0:=by have:=h.neg y x;have:=h.one y x;omega
    refine aH.2 ⟨λz d=>?_,f⟩;rcases aM.1 d with e|e
    ·rw[e];exact g
    ·exact h.trans _ _ _ g (h1 z e)
theorem Ok (c:α->α->Int)(x:α):∀l:List α,(insU c x l).length<=l.length+1
 |[]=>by simp[insU]
 |y::l=>by
  unfold insU;have:=Ok c x l;split
  ·simp only[aQ];omega
  ·split<;>simp only[aQ]<;>omega
theorem zt0 (c:α->α->Int)(x:α):∀l:List α,l.length<=(insU c x l).length
 |[]=>by simp[insU]
 |y::l=>by
  unfold insU;have:=zt0 c x l;split
  ·simp only[aQ];omega
  ·split<;>simp only[aQ]<;>omega
def puts (c:α->α->Int)(s:List α)(l:List α):List α:=l.foldl (λs x=>insU c x s) s
def setL (c:α->α->Int)(l:List α):List α:=puts c [] l
theorem I7 (s:List α)(x:α)(l:List α):puts c s (x::l)=puts c (insU c x s) l:=rfl
theorem Xz (s l m:List α):puts c s (l++m)=puts c (puts c s l) m:=by simp[puts,foldl_append]
theorem Ty (h:TO c)(z:α):∀(l s:List α),z∈puts c s l ↔ z∈s\/z∈l
 |[],s=>by simp[puts]
 |x::l,s=>by
  rw[I7,Ty h z l,Yk h];simp only[aM];constructor
  ·rintro ((k|k)|k)<;>simp[k]
  ·rintro (k|k|k)<;>simp[k]
theorem zi5 (h:TO c):∀(l s:List α),Str c s->Str c (puts c s l)
 |[],_,hs=>hs
 |x::l,s,hs=>by rw[I7];exact zi5 h l _ (zyy h x s hs)
theorem zi6:∀(l s:List α),(puts c s l).length<=s.length+l.length
 |[],s=>by simp[puts]
 |x::l,s=>by
  rw[I7];have:=zi6 l (insU c x s);have:=Ok c x s;simp only[aQ];omega
theorem zri:∀(l s:List α),s.length<=(puts c s l).length
 |[],s=>by simp[puts]
 |x::l,s=>by
  rw[I7];have:=zri l (insU c x s);have:=zt0 c x s;omega
theorem Gq (h:TO c)(z:α)(l:List α):z∈setL c l ↔ z∈l:=by unfold setL;rw[Ty h];simp
theorem Tx (h:TO c)(l:List α):Str c (setL c l):=zi5 h l [] (by simp[Str])
theorem zo6 (l:List α):(setL c l).length<=l.length:=by have:=zi6 (c:=c) l [];simpa[setL]using this
theorem y8j (h:TO c){l m:List α}(hm:∀x,x∈l ↔ x∈m):setL c l=setL c m:=Str.uniq h (Tx h l) (Tx h m) (λx=>by rw[Gq h,Gq h,hm])
variable [DecidableEq α]
def ddA (p:α):List α->List α
 |[]=>[]
 |y::l=>if y=p then ddA p l else y::ddA y l
def dd:List α->List α |[]=>[] |x::l=>x::ddA x l
theorem zoz (p z:α):∀l:List α,ddA p (l++[z])=ddA p l++(if z=(p::l).getLast Δ then[]else[z])
 |[]=>by by_cases h:z=p<;>simp[ddA,h]
 |y::l=>by
  have e:(p::y::l).getLast Δ=(y::l).getLast Δ:=by rw[getLast_cons Δ]
  simp only[cons_append,ddA];rw[e];by_cases h:y=p
  ·subst h;rw[if_pos rfl,if_pos rfl,zoz y z l]
  ·rw[if_neg h,if_neg h,zoz y z l];rfl
theorem Ke (l:List α)(z:α)(h:l≠[]):dd (l++[z])=dd l++(if z=l.getLast h then[]else[z]):=by
 cases l with
 |nil=>exact absurd rfl h
 |cons x l =>
  show x::ddA x (l++[z])=_;rw[zoz];rfl
theorem zwo (x:α):∀(l:List α) (p:α),x∈ddA p l\/x=p ↔ x∈l\/x=p
 |[],p=>by simp[ddA]
 |y::l,p=>by
  unfold ddA;split
  ·rename_i h;subst h;rw[zwo x l y];simp only[aM];constructor
   ·rintro (k|k)<;>simp[k]
   ·rintro ((k|k)|k)<;>simp[k]
  ·have:=zwo x l y;simp only[aM];constructor
   ·rintro ((k|k)|k)
    ·exact aK (aK k)
    ·rcases this.1 (aK k)with q|q
     ·exact aK (aP q)
     ·exact aK (aK q)
    ·exact aP k
   ·rintro ((k|k)|k)
    ·exact aK (aK k)
    ·rcases this.2 (aK k)with q|q
     ·exact aK (aP q)
     ·exact aK (aK q)
    ·exact aP k
theorem ycb (x:α)(l:List α):x∈dd l ↔ x∈l:=by
 cases l with
 |nil=>simp[dd]
 |cons y l =>
  simp only[dd,aM];have:=zwo x l y;constructor
  ·rintro (k|k)
   ·exact aK k
   ·rcases this.1 (aK k)with q|q
    ·exact aP q
    ·exact aK q
  ·rintro (k|k)
   ·exact aK k
   ·rcases this.2 (aK k)with q|q
    ·exact aP q
    ·exact aK q
theorem zwn (h:TO c):∀(l:List α) (p:α),(p::l).Pairwise (λx y=>ltOf c y x=false)->Str c (p::ddA p l)
 |[],p,_=>by simp[ddA,Str]
 |y::l,p,n=>by
  obtain⟨h1,m⟩:=aH.1 n;have g:∀z,z∈y::l->¬c z p<0:=λz d=>of_decide_eq_false (h1 z d)
  unfold ddA;split
  ·rename_i e;refine zwn h l p (aH.2 ⟨λz d=>h1 z (bE _ d),(aH.1 m).2⟩)
  ·rename_i e;have j:=zwn h l y m;have f:c p y<0:=by
    rcases h.tri p y with k|k|k
    ·exact k
    ·exact absurd k.symm e
    ·exact absurd k (g y Δ)
   refine aH.2 ⟨λz d=>?_,j⟩;rcases aM.1 d with k|k
   ·rw[k];exact f
   ·exact h.trans _ _ _ f ((aH.1 j).1 z k)
theorem y3s (h:TO c)(l:List α):dd (F5 c l)=setL c l:=by
 have hs:=zc8 h.swo l;refine Str.uniq h ?_ (Tx h l) (λx=>by rw[ycb,Gq h];exact(O9 c l).mem_iff);cases d:F5 c l with
 |nil=>simp[dd,Str]
 |cons x q=>rw[d]at hs;exact zwn h q x hs
end
abbrev Va:=A9
abbrev Ev:=A8
abbrev Exn:=B4
abbrev be:ByteArray:=ByteArray.empty
abbrev va0:Va:=⟨0,0,ByteArray.empty⟩
def vcP (v:Va):Int :=
 if v.fKind<0 then 1 else if 2<v.fKind then 1 else if v.fKind=2 then(if v.fNum=0 then(if 64<v.fText.size then 13 else 0)else 3)else
 if v.fText=be then(if v.fKind=1 then(if v.fNum<0 then 2 else if 1<v.fNum then 2 else 0)else if v.fNum < -1099511627776 then 2 else if 1099511627776<v.fNum then 2 else 0)else 3
theorem y5h (n:Nat)(v:Va):Hh n v=some (vcP v):=by
 unfold Hh vcP;simp only[A4,Ar,I8];grind
variable {α β:Type}
theorem zxb (p:Prop)[Decidable p](x y:Option α)(k:α->Option β):bnd (if p then x else y) k=if p then bnd x k else bnd y k:=by split<;>rfl
theorem p_vc (n:Nat)(v:Va):Gl n v=some (vcP v):=by
 obtain⟨k,x,t⟩:=v;unfold Gl O4 vcP;simp only[A4,Ar,I8];by_cases h:k=0
 ·subst h;by_cases d:t=be
  ·subst d;have hs:be.size=0:=rfl;simp[hs,A0,zxb];grind
  ·simp[d]
 ·by_cases g:k=1
  ·subst g;by_cases d:t=be
   ·subst d;have hs:be.size=0:=rfl;simp[hs,A0,zxb];grind
   ·simp[d]
  ·by_cases f:k=2
   ·subst f;simp[A0,zxb];grind
   grind
theorem yao (x y:Va):(decide (x.fKind=y.fKind) && (decide (x.fNum=y.fNum) && ((x.fText.toList == y.fText.toList) && true)))=decide (x=y):=by
 cases x;cases y;simp[I8]
theorem zo3 (x:Va):(decide (x.fKind=0) && (decide (x.fNum=0) && ((x.fText.toList == ByteArray.empty.toList) && true)))=decide (x=va0):=yao x va0
def arP (op:Int):Int:=if op<0 then -1 else if 12<op then -1 else if op<5 then 0 else if op=12 then 1 else 2
theorem y5m (n:Nat)(op:Int):Vy n op=some (arP op):=by
 unfold Vy arP;simp only[Ay,Ak,G8,Ep,A4,Az,decide_eq_true_eq];by_cases h1:op<0
 ·simp[h1,show op≠0 by omega,show op≠1 by omega,show op≠2 by omega,show op≠3 by omega,show op≠4 by omega,show op≠5 by omega,show op≠6 by omega,show op≠7 by omega,show op≠8 by omega,show op≠9 by omega,show op≠10 by omega,show op≠11 by omega,show op≠12 by omega]
 ·by_cases d:12<op
  ·simp[h1,d,show op≠0 by omega,show op≠1 by omega,show op≠2 by omega,show op≠3 by omega,show op≠4 by omega,show op≠5 by omega,show op≠6 by omega,show op≠7 by omega,show op≠8 by omega,show op≠9 by omega,show op≠10 by omega,show op≠11 by omega,show op≠12 by omega]
  ·have:op=0\/op=1\/op=2\/op=3\/op=4\/op=5\/op=6\/op=7\/op=8\/op=9\/op=10\/op=11\/op=12:=Ω
   rcases this with rfl|rfl|rfl|rfl|rfl|rfl|rfl|rfl|rfl|rfl|rfl|rfl|rfl<;>rfl
theorem y9d (n:Nat)(op:Int):Xy n op=some (if op<0 then(0,false)else if 12<op then(0,false)else(arP op,true)):=by
 unfold Xy arP;simp only[Ay,Ak,Nt,A4,Az,decide_eq_true_eq,if_true];grind
def usV (op:Int):Bool:=decide (op=1) || decide (op=2) || decide (op=3) || decide (op=4)
def usF (op:Int):Bool:=decide (op=1) || decide (op=4)
theorem y8u (n:Nat)(op:Int):W8 n op=some (usV op,usF op):=by
 unfold W8;simp only[Ay,Ak,Ly,J6,A4,Az,decide_eq_true_eq,if_true];by_cases h1:op=1
 ·subst h1;rfl
 ·by_cases g:op=2
  ·subst g;rfl
  ·by_cases f:op=3
   ·subst f;rfl
   ·by_cases d:op=4
    ·subst d;rfl
    ·simp[usV,usF,h1,g,f,d]
theorem y7g (n:Nat)(op:Int):Tt n op=some (usV op,usF op):=by
 unfold Tt;simp only[Ay,Ak,O1,O0,A4,Az,decide_eq_true_eq,if_true];by_cases h1:op=1
 ·subst h1;rfl
 ·by_cases g:op=2
  ·subst g;rfl
  ·by_cases f:op=3
   ·subst f;rfl
   ·by_cases d:op=4
    ·subst d;rfl
    ·simp[usV,usF,h1,g,f,d]
def suP (k:Int)(v:Va):Bool:=decide (v.fKind=0) || decide (k=4) || decide (k=5)
theorem y8s (n:Nat)(k:Int)(v:Va):Xx n k v=some (suP k v):=by
 unfold Xx;simp only[Ay,Ak,K6,A4];by_cases h1:v.fKind=0
 ·simp[suP,h1]
 ·by_cases d:k=4
  ·simp[suP,h1,d]
  ·simp[suP,h1,d]
theorem zob (n:Nat)(k:Int)(v:Va):Mw n k v=some (decide (k=0) || suP k v):=by
 unfold Mw;simp only[Ay,Ak,H4,A4];by_cases h1:v.fKind=0
 ·simp[suP,h1]
 ·by_cases f:k=4
  ·by_cases d:k=0
   ·simp[suP,h1,f,d]
   ·simp[suP,h1,f]
  ·by_cases d:k=0
   ·simp[suP,h1,f,d]
   ·simp[suP,h1,f,d]
def ndP (e:Exn):Int :=
 if arP e.fOp<0 then 1 else if(e.fArgs.length:Int)≠arP e.fOp then 15 else
 if(usV e.fOp && (decide (e.fVar<0) || decide (16<=e.fVar))) || (usF e.fOp && (decide (e.fField<0) || decide (8<=e.fField)))then 2 else
 if decide (e.fOp=4) && (decide (e.fKind<1) || decide (5<e.fKind))then 1 else
 if(decide (e.fOp=4) || decide (e.fOp=0)) && !decide (vcP e.fValue=0)then vcP e.fValue else
 if decide (e.fOp=4) && (!(suP e.fKind e.fValue) || (decide (e.fKind=1) && !decide (e.fValue=va0)))then 9 else
 if(!(usV e.fOp) && !decide (e.fVar=0)) || (!(usF e.fOp) && !decide (e.fField=0)) || (!decide (e.fOp=4) && !decide (e.fKind=0)) || (!(decide (e.fOp=4) || decide (e.fOp=0)) && !decide (e.fValue=va0))then 3 else 0
theorem zzq (op:Int)(h:¬arP op<0):op=0\/op=1\/op=2\/op=3\/op=4\/(usV op=false/\usF op=false/\op≠0/\op≠4):=by
 unfold arP at h;by_cases g:op=0
 ·exact aK g
 by_cases h1:op=1
 ·exact aP (aK h1)
 by_cases f:op=2
 ·exact aP (aP (aK f))
 by_cases j:op=3
 ·omega
 by_cases d:op=4
 ·omega
 exact aP (aP (aP (aP (aP ⟨by simp[usV,h1,f,j,d],by simp[usF,h1,d],g,d⟩))))
theorem us0:usV 0=false/\usF 0=false:=Θ
theorem us1:usV 1=true/\usF 1=true:=Θ
theorem us2:usV 2=true/\usF 2=false:=Θ
theorem us3:usV 3=true/\usF 3=false:=Θ
theorem us4:usV 4=true/\usF 4=true:=Θ
theorem y8w (n:Nat)(e:Exn):W9 n e=some (ndP e):=by
 unfold W9;rw[y5m,A0,y8u];simp only[A0,aA,A4,Ar,y5h,zob,Ay,Ak,Eg,J7,M0,Lz,H9,Cb,zo3];unfold ndP;by_cases d:arP e.fOp<0
 ·rw[if_pos d,if_pos d]
 rw[if_neg d,if_neg d];by_cases f:(e.fArgs.length:Int)=arP e.fOp;rotate_left
 ·rw[if_neg f,if_pos f]
 rw[if_pos f,if_neg (show¬((e.fArgs.length:Int)≠arP e.fOp) fromλh=>h f)];have g:=zzq e.fOp d;obtain⟨op,args,var,field,kind,val⟩:=e;simp only at *;clear f d;rcases g with rfl|rfl|rfl|rfl|rfl|⟨h1,o,m,j⟩
 ·simp[us0,Az];grind
 ·simp[us1,Az];grind
 ·simp[us2,Az];grind
 ·simp[us3,Az];grind
 ·simp[us4,Az];grind
 ·simp[h1,o,m,j,Az];grind
theorem zw5 (n:Nat)(e:Exn):Xg n e=some (if vcP e.fValue=0 then(if decide (e.fOp=4) && (!(suP e.fKind e.fValue) || (decide (e.fKind=1) && !decide (e.fValue=va0)))then 9 else 0)else vcP e.fValue):=by
 unfold Xg;rw[p_vc,A0];simp only[A4,Ar,y8s,A0,Ay,Ak,Hp,zo3];obtain⟨op,args,var,field,kind,val⟩:=e;simp only;by_cases h:op=4
 ·subst h;simp[Az];grind
 ·simp[h,Az];split<;>rfl
theorem yb8 (n:Nat)(e:Exn):Y2 n e=some (ndP e):=by
 unfold Y2;rw[y9d,A0,y7g];simp only[A0,aA,A4,Ar,zw5,Ay,Ak,Ei,K8,O3,O2,Cc,zo3];unfold ndP;by_cases d:arP e.fOp<0
 ·rw[if_pos d];have:e.fOp<0\/12<e.fOp:=by
   unfold arP at d;by_cases h1:e.fOp<0
   ·exact aK h1
   ·omega
  rcases this with h|h
  ·rw[if_pos h,Al]
  ·by_cases j:e.fOp<0
   ·rw[if_pos j,Al]
   ·rw[if_neg j,if_pos h,Al]
 have g:¬e.fOp<0/\¬12<e.fOp:=by
  unfold arP at d;refine⟨λh=>d (by rw[if_pos h];decide),λh=>d ?_⟩;by_cases h1:e.fOp<0
  ·rw[if_pos h1];decide
  ·rw[if_neg h1,if_pos h];decide
 rw[if_neg g.1,if_neg g.2,if_neg d,Aj];by_cases f:(e.fArgs.length:Int)=arP e.fOp;rotate_left
 ·rw[if_neg f,if_pos f]
 rw[if_pos f,if_neg (show¬((e.fArgs.length:Int)≠arP e.fOp) fromλh=>h f)];have m:=zzq e.fOp d;obtain⟨op,args,var,field,kind,val⟩:=e;simp only at *;clear f d g;rcases m with rfl|rfl|rfl|rfl|rfl|⟨h1,q,p,o⟩
 ·simp[us0,Az];grind
 ·simp[us1,Az];grind
 ·simp[us2,Az];grind
 ·simp[us3,Az];grind
 ·simp[us4,Az];grind
 ·simp[h1,q,p,o,Az];grind
inductive ETr:Nat->Exn->Prop
 |mk (l:List (Nat×Exn)) (e:Exn) (h:∀p∈l,ETr p.1 p.2) (ha:e.fArgs=l.map (λp=>Aw p.2)):ETr (1+(l.map (·.1)).sum) e
inductive ETrO:Nat->Exn->Prop
 |mk (l:List (Nat×Exn)) (e:Exn) (hn:ndP e=0) (h:∀p∈l,ETrO p.1 p.2) (ha:e.fArgs=l.map (λp=>Aw p.2)):ETrO (1+(l.map (·.1)).sum) e
variable {e:Exn}
theorem ETr.pos {s:Nat}(h:ETr s e):1<=s:=by cases h;omega
variable {l:List (Nat×Exn)}
theorem Kd {p:Nat×Exn}(h:p∈l):p.1<=(l.map (·.1)).sum:=by
 induction l with
 |nil=>cases h
 |cons x l ih =>
  grind
theorem U3 (h:∀p∈l,1<=p.1):l.length<=(l.map (·.1)).sum:=by
 induction l with
 |nil=>simp
 |cons x l ih =>
  grind
def preS (l:List (Nat×Exn))(k:Nat):Nat:=((l.take k).map (·.1)).sum
variable {k:Nat}
theorem zrk (h:k<l.length):preS l (k+1)=preS l k+l[k].1:=by
 unfold preS;rw[aD h,bP,sum_append];simp_all
theorem zxw (h:l.length<=k):preS l k=(l.map (·.1)).sum:=by unfold preS;rw[aN h]
theorem y1x (l:List (Nat×Exn))(k:Nat):preS l k<=(l.map (·.1)).sum:=by
 unfold preS;conv=>rhs;rw[<-take_append_drop k l]
 grind
theorem Ia (h:k<l.length)(K:Exn->Option β):idxD C7 (l.map λp=>Aw p.2) (k:Int) K=K l[k].2:=by
 unfold idxD;rw[if_pos Ω];simp only[Int.toNat_natCast,getElem?_map,aL h,Option.map_some,Tc]
theorem zn0 (most:Int)(hm:0<=most)(d:most<=1000000)(n:Nat)(l:List (Nat×Exn))(e:Exn)(j:e.fArgs=l.map (λp=>Aw p.2))(hs:(l.map (·.1)).sum<=4000000)(s:l.length<=4000000)
  (f:∀p∈l,∃c:Int,Ge n p.2 most=some c/\1<=c/\c<=p.1/\(c<=most->c=p.1)) :
  ∀(m k:Nat) (v:Int),k<=l.length->l.length<m+k->1<=v->v<=1+preS l k->(v<=most->v=1+preS l k) ->
   ∃c:Int,J3 n (Ge n) most e (λy=>some y) m (v,(k:Int))=some c/\1<=c/\c<=1+(l.map (·.1)).sum/\(c<=most->c=1+(l.map (·.1)).sum)
 |0,k,v,h1,u,_,_,_=>by omega
 |m+1,k,v,h1,u,B,A,t=>by
  unfold J3;simp only[Ay,Ak,Lm,j,aA,A4,Al];have r:=y1x l k;by_cases h:k<l.length
  ·rw[if_pos Ω];by_cases g:v<=most
   ·rw[if_pos g,Ia h];obtain⟨c,x,D,C,w⟩:=f l[k] (aE h);rw[x,A0,Af k Ω,Cl _ (by have:=Kd (aE h);omega)];have q:=zrk h;have o:=t g;exact zn0 most hm d n l e j hs s f m (k+1) (v+c) Ω Ω Ω Ω (λz=>by have:=w Ω;omega)
   grind
  ·rw[if_neg Ω];have q:=zxw (l:=l) (k:=k) Ω;grind
theorem y2l (most:Int)(hm:0<=most)(g:most<=1000000):∀(s:Nat) (e:Exn),ETr s e->s<=4000000->∀n,s+1<n->∃c:Int,Ge n e most=some c/\1<=c/\c<=s/\(c<=most->c=s):=by
 intro s
 induction s using Nat.strongRecOn with
 |ind s IH =>
  intro e j hs n o;cases j with
  |mk l e h m =>
   obtain⟨d,rfl⟩:∃d,n=d + 1:=⟨n-1,Ω⟩;have q:=U3 (l:=l) (λp f=>(h p f).pos);simp only[Ge];obtain⟨c,v,u,t,r⟩:=zn0 most hm g d l e m Ω Ω (λp f=>by
    have:=Kd f;exact IH p.1 Ω p.2 (h p f) Ω d Ω) d 0 1 Ω Ω Ω Ω (λ_=>by simp[preS])
   grind
theorem zro (n:Nat)(l:List (Nat×Exn))(e:Exn)(j:e.fArgs=l.map (λp=>Aw p.2))(hs:(l.map (·.1)).sum<=4000000)(s:l.length<=4000000)
  (f:∀p∈l,∃d:Int,Gc n p.2=some d/\I3 n p.2=some ((p.1:Int),d)/\0<=d/\d<=p.1) :
  ∀(m k:Nat) (d:Int),k<=l.length->l.length<m+k->0<=d->d<=preS l k ->
   ∃D:Int,Qi n (Gc n) e (λy=>some (aF .i64 (y+1))) m (d,(k:Int))=some (D+1)/\Tl n (I3 n) e (λq o=>some (q,(aF .i64 (o+1)))) m (((1+preS l k:Nat):Int),d,(k:Int))=some (((1+(l.map (·.1)).sum:Nat):Int),D+1)/\0<=D/\D<=(l.map (·.1)).sum
 |0,k,d,h1,u,_,_=>by omega
 |m+1,k,d,h1,u,t,z=>by
  unfold Qi Tl;simp only[j,aA,A4];have r:=y1x l k;by_cases h:k<l.length
  ·rw[if_pos Ω,if_pos Ω,Ia h,Ia h];obtain⟨c,x,w,B,A⟩:=f l[k] (aE h);have g:=zrk h;have hm:=Kd (aE h);rw[x,w,A0,A0,Af k Ω,Cl _ Ω];have v:(((1+preS l k:Nat):Int)+((l[k].1:Nat):Int))=((1+preS l (k+1):Nat):Int):=Ω
   simp only;rw[v];exact zro n l e j hs s f m (k+1) (max d c) Ω Ω Ω Ω
  ·rw[if_neg Ω,if_neg Ω];have g:=zxw (l:=l) (k:=k) Ω;refine⟨d,by rw[Cl _ Ω],?_,t,Ω⟩;rw[Cl _ Ω,g]
theorem y7i:∀(s:Nat) (e:Exn),ETr s e->s<=4000000->∀n,s+1<n->∃d:Int,Gc n e=some d/\I3 n e=some ((s:Int),d)/\0<=d/\d<=s:=by
 intro s
 induction s using Nat.strongRecOn with
 |ind s IH =>
  intro e j hs n r;cases j with
  |mk l e h m =>
   obtain⟨f,rfl⟩:∃f,n=f + 1:=⟨n-1,Ω⟩;have t:=U3 (l:=l) (λp g=>(h p g).pos);simp only[Gc,I3];obtain⟨D,q,o,v,u⟩:=zro f l e m Ω Ω (λp g=>by
    have:=Kd g;exact IH p.1 Ω p.2 (h p g) Ω f Ω) f 0 0 Ω Ω Ω Δ
   exact⟨D+1,q,o,Ω,by push_cast;omega⟩
theorem zms (n:Nat)(l:List (Nat×Exn))(e:Exn)(g:e.fArgs=l.map (λp=>Aw p.2))(s:l.length<=4000000)
  (d:∀p∈l,∃r:Int,Hg n p.2=some r/\I0 n p.2=some r/\(r=0->ETrO p.1 p.2)) :
  ∀(m k:Nat),k<=l.length->l.length<m+k->(∀p∈l.take k,ETrO p.1 p.2) ->
   ∃r:Int,Qh n (Hg n) e (some 0) m (k:Int)=some r/\Tf n (I0 n) e (some 0) m (k:Int)=some r/\(r=0->∀p∈l,ETrO p.1 p.2)
 |0,k,h1,t,_=>by omega
 |m+1,k,h1,t,v=>by
  unfold Qh Tf;simp only[g,aA,A4,Ar];by_cases h:k<l.length
  ·rw[if_pos Ω,if_pos Ω,Ia h,Ia h];obtain⟨r,o,j,u⟩:=d l[k] (aE h);rw[o,j,A0,A0,Af k Ω];by_cases f:r=0
   ·rw[if_pos f,if_pos f];refine zms n l e g s d m (k+1) Ω Ω (λp q=>?_);rw[aD h,bA,aU]at q;grind
   simp_all
  ·rw[if_neg Ω,if_neg Ω];grind
theorem y8q:∀(s:Nat) (e:Exn),ETr s e->s<=4000000->∀n,s+1<n->∃r:Int,Hg n e=some r/\I0 n e=some r/\(r=0->ETrO s e):=by
 intro s
 induction s using Nat.strongRecOn with
 |ind s IH =>
  intro e t hs n v;cases t with
  |mk l e h j =>
   obtain⟨f,rfl⟩:∃f,n=f + 1:=⟨n-1,Ω⟩;have w:=U3 (l:=l) (λp g=>(h p g).pos);simp only[Hg,I0,y8w,yb8,A0,Ar,A4];by_cases d:ndP e=0
   ·rw[if_pos d,if_pos d];obtain⟨r,q,o,m⟩:=zms f l e j Ω (λp g=>by
     have:=Kd g;exact IH p.1 Ω p.2 (h p g) Ω f Ω) f 0 Ω Ω Δ
    exact⟨r,q,o,λu=>.mk l e d (m u) j⟩
   simp_all
theorem y2n (s:Nat)(e:Exn)(f:ETr s e)(hs:s<=4000000)(n:Nat)(g:s+1<n):∃r:Int,Gf n e=some r/\I2 n e=some r/\(r=0->ETrO s e):=by
 obtain⟨c,p,x,w,v⟩:=y2l 64 Ω Ω s e f hs n g;obtain⟨d,o,m,u,t⟩:=y7i s e f hs n g;obtain⟨r,j,h,q⟩:=y8q s e f hs n g;unfold Gf I2;rw[p,o,m,j,h];simp only[A0,A4];grind
def wrP (k:Int)(v:Va):Int:=if vcP v=0 then(if suP k v=true then 0 else 9)else vcP v
theorem zvy (n:Nat)(k:Int)(j:1<=k/\k<=5)(v:Va):Nm n k v=some (wrP k v):=by
 unfold Nm T6 wrP suP;simp only[p_vc,A0,A4,Ar,Ay,Ak,Ho];by_cases h:vcP v=0
 ·rw[if_pos h,if_pos h];by_cases d:v.fKind=0
  ·simp[d,Az,A0]
  ·by_cases h1:k=1
   ·simp[d,h1,Az,A0]
   ·by_cases f:k=2
    ·simp[d,h1,f,Az,A0]
    ·by_cases g:k=3
     ·simp[d,h1,f,g,Az,A0]
     ·have:k=4\/k=5:=Ω
      rcases this with rfl|rfl<;>simp[d,Az,A0]
 ·rw[if_neg h,if_neg h]
theorem zxy (n:Nat)(k:Int)(f:1<=k/\k<=5)(v:Va):Rx n k v=some (wrP k v):=by
 unfold Rx wrP;simp only[y5h,zob,A0,A4,Ar];have d:decide (k=0)=false:=by rw[decide_eq_false];omega
 simp only[d,Bool.false_or];by_cases h:vcP v=0
 ·rw[if_pos h,if_pos h];cases suP k v<;>simp[Az]
 ·rw[if_neg h,if_neg h]
def comb (k:Int)(a b:Va):Va:=if k=1 then⟨0,aF .i64 (a.fNum+b.fNum),be⟩else if k=2 then⟨0,min a.fNum b.fNum,be⟩else if k=3 then⟨0,max a.fNum b.fNum,be⟩else if k=4 then a else b
theorem y91 (n:Nat)(k:Int)(d:1<=k/\k<=5)(a b:Va):Vd n k a b=some (comb k a b):=by
 unfold Vd comb;simp only[A4];grind
theorem ybt (n:Nat)(k:Int)(d:1<=k/\k<=5)(a b:Va):Wz n k a b=some (comb k a b):=by
 unfold Wz comb;simp only[Ot,Ck,A0,z11,z10,z0z,z0y,z0x,z0w];grind
def AInv (k:Int)(i:Nat)(V:Va):Prop:=if i=0 then V=va0 else if k=1 then V.fKind=0/\V.fText=be/\-((i:Int)*1099511627776)<=V.fNum/\V.fNum<=(i:Int)*1099511627776 else vcP V=0/\suP k V=true
variable {i:Nat}{V:Va}
theorem AInv.check (n:Nat){k:Int}(j:1<=k/\k<=5)(hi:i<=4096)(h:AInv k i V):Rz n ⟨k,(i:Int),V⟩=some 0/\Xf n ⟨k,(i:Int),V⟩=some 0:=by
 have w1:aF .i64 ((i:Int)*1099511627776)=(i:Int)*1099511627776:=Cl _ Ω;have o:aF .i64 (0-(i:Int)*1099511627776)=-((i:Int)*1099511627776):=by rw[Cl _ Ω];omega
 have p:¬k=0:=Ω
 have ka:(0:Int)<=k:=Ω
 have r:¬(i:Int)<0:=Ω
 have q:¬4096<(i:Int):=Ω
 unfold Rz Xf S8 T7;simp only[A0,A4,Ar,Ay,Ak,J8,Jt,Lp,Lo,H5,Ln,N5,zo3,p_vc,y5h,w1,o,ka,j.2,if_true,decide_true,Aj,r,q,if_false,decide_false,Al,p,I8];unfold AInv at h;by_cases d:i=0
 ·rw[if_pos d]at h;subst d;subst h;simp[Az]
 ·rw[if_neg d]at h;have f:¬(i:Int)=0:=Ω
  simp only[f,if_false,decide_false,Al];by_cases g:k=1
  ·grind
  ·rw[if_neg g]at h;obtain⟨h1,m⟩:=h;simp only[g,if_false,h1,zob,m,A0,if_true,Bool.or_true];refine⟨by simp[Az],?_⟩;have:=zvy n k j V;unfold Nm wrP at this;rw[p_vc,A0]at this;simp only[h1,m,if_true,decide_true,bQ,Al]at this;cases hs:T6 n k V with
   |none=>rw[hs]at this;unfold bnd at this;cases this
   |some b =>
    rw[hs,A0]at this;cases b with
    |true=>simp[A0,Az]
    |false=>simp[Az]at this
def Fx (k:Int)(i:Nat)(V x:Va):Va:=if i=0 then x else comb k V x
theorem AInv.step {k:Int}(v:1<=k/\k<=5)(hi:i<=4096){x:Va}(h:AInv k i V)(t:wrP k x=0):AInv k (i+1) (Fx k i V x):=by
 have r:vcP x=0/\suP k x=true:=by
  unfold wrP at t;by_cases h1:vcP x=0
  ·simp_all
  ·omega
 have o:x.fKind=0->x.fText=be/\-1099511627776<=x.fNum/\x.fNum<=1099511627776:=λu=>by
  have:=r.1;unfold vcP at this;grind
 have hs:k=1\/k=2\/k=3->x.fKind=0:=λh=>by
  have:=r.2;simp only[suP,aX,decide_eq_true_eq]at this;omega
 have nv:∀q:Int,-1099511627776<=q->q<=1099511627776->vcP ⟨0,q,be⟩=0:=λq h1 p=>by
  unfold vcP;grind
 unfold AInv at h ⊢;rw[if_neg Ω];unfold Fx;by_cases g:i=0
 ·simp_all
 ·rw[if_neg g]at h;rw[if_neg g];by_cases f:k=1
  ·rw[if_pos f]at h ⊢;obtain⟨h1,p,y,w⟩:=h;obtain⟨a,b,c⟩:=o (hs (aK f));unfold comb;rw[if_pos f];rw[Cl _ Ω];grind
  ·rw[if_neg f]at h ⊢;obtain⟨h1,p⟩:=h;have s:V.fKind=0->-1099511627776<=V.fNum/\V.fNum<=1099511627776:=λu=>by
    unfold vcP at h1;omega
   have j:k=2\/k=3->V.fKind=0:=λh=>by
    simp only[suP,aX,decide_eq_true_eq]at p;omega
   unfold comb;rw[if_neg f];by_cases m:k=2
   ·rw[if_pos m];obtain⟨a,b,c⟩:=o (hs (aP (aK m)));obtain⟨d,e⟩:=s (j (aK m));exact⟨nv _ Ω Ω,by simp[suP]⟩
   ·rw[if_neg m];by_cases n:k=3
    ·rw[if_pos n];obtain⟨a,b,c⟩:=o (hs (aP (aP n)));obtain⟨d,e⟩:=s (j (aP n));exact⟨nv _ Ω Ω,by simp[suP]⟩
    grind
theorem yb5 (n:Nat){k:Int}(f:1<=k/\k<=5)(hi:i<4096)(h:AInv k i V)(x:Va):Wk n ⟨k,(i:Int),V⟩ x=some (if wrP k x=0 then(⟨k,((i+1:Nat):Int),Fx k i V x⟩,0)else(⟨0,0,⟨0,0,be⟩⟩,wrP k x)):=by
 unfold Wk;rw[(h.check n f Ω).1,A0];simp only[zxy n k f,A0,A4,Ar,y91 n k f,Ay,Ak,Jk,if_true];rw[Af i Ω];by_cases d:wrP k x=0
 ·rw[if_pos d,if_pos d,if_neg Ω,if_neg Ω];unfold Fx;by_cases g:i=0;all_goals simp_all
 ·rw[if_neg d,if_neg d]
def bad (k:Int):List Va->Option Int
 |[]=>none
 |x::l=>if wrP k x=0 then bad k l else some (wrP k x)
def fV (k:Int):Nat->Va->List Va->Va |_,V,[]=>V |i,V,x::l=>fV k (i+1) (Fx k i V x) l
theorem zy1 (n:Nat){k:Int}(d:1<=k/\k<=5)(init:Va)(l:List Va)(j:l.length<=4096)(K:Int->Int->Int->Int->ByteArray->Option (Va×Int)):∀(m i:Nat) (V:Va),i<=l.length->l.length<m+i->AInv k i V ->
  Ry n init l K m ((i:Int),k,(i:Int),V.fKind,V.fNum,V.fText)=(match bad k (l.drop i)with|some e=>some (va0,e)|none=>K k (l.length:Int) (fV k i V (l.drop i)).fKind (fV k i V (l.drop i)).fNum (fV k i V (l.drop i)).fText)/\(bad k (l.drop i)=none->AInv k l.length (fV k i V (l.drop i)))
 |0,i,V,h1,q,_=>by omega
 |m+1,i,V,h1,q,f=>by
  unfold Ry;simp only[aA,A4,Ar];by_cases h:i<l.length
  ·rw[if_pos Ω,Ae h];have o:=yb5 n d (i:=i) Ω f l[i];have p:V=⟨V.fKind,V.fNum,V.fText⟩:=rfl;rw[<-p,o,A0,B6 l i h];simp only[bad,fV];by_cases g:wrP k l[i]=0
   ·simp only[g,if_true];rw[Af i Ω];exact zy1 n d init l j K m (i+1) _ Ω Ω (f.step d Ω g)
   grind
  ·rw[if_neg Ω,aC Ω];have:i=l.length:=Ω
   subst this;exact⟨rfl,λ_=>f⟩
theorem y2e (n:Nat){k:Int}(f:1<=k/\k<=5)(init:Va)(l:List Va)(g:l.length<=4096)(K:Option (Va×Int)):∀(m i:Nat),i<=l.length->l.length<m+i->T8 n init l k K m (i:Int)=(match bad k (l.drop i)with|some e=>some (va0,e)|none=>K)
 |0,i,h1,j=>by omega
 |m+1,i,h1,j=>by
  unfold T8;simp only[aA,A4,Ar];by_cases h:i<l.length
  ·rw[if_pos Ω,Ae h,zvy n k f,A0,B6 l i h];simp only[bad];by_cases d:wrP k l[i]=0
   ·simp only[d,if_true];rw[Af i Ω];exact y2e n f init l g K m (i+1) Ω Ω
   ·simp only[d,if_false]
  ·rw[if_neg Ω,aC Ω];rfl
theorem zjr (n:Nat){k:Int}(d:1<=k/\k<=5)(l:List Va)(g:l.length<=4096)(K:Int->Int->Int->Int->ByteArray->Option C4):∀(m i:Nat) (V:Va),i<=l.length->l.length<m+i ->
  S6 n k l K m ((i:Int),k,(i:Int),V.fKind,V.fNum,V.fText)=K k (l.length:Int) (fV k i V (l.drop i)).fKind (fV k i V (l.drop i)).fNum (fV k i V (l.drop i)).fText
 |0,i,V,h1,q=>by omega
 |m+1,i,V,h1,q=>by
  unfold S6;simp only[aA,A4];by_cases h:i<l.length
  ·rw[if_pos Ω,Ae h,B6 l i h];unfold z2r z1z z20;have o:¬k=0:=Ω
   have p:V=⟨V.fKind,V.fNum,V.fText⟩:=rfl;simp only[A4,o,if_false,A0];rw[<-p,ybt n k d];simp only[fV];by_cases j:i=0
   ·have:((i:Nat):Int)=0:=Ω
    rw[if_pos this,A0,Af i Ω];have e:=zjr n d l g K m (i+1) (Fx k i V l[i]) Ω Ω;have f:Fx k i V l[i]=l[i]:=by unfold Fx;rw[if_pos j]
    rw[f]at e ⊢;have r:((i+1:Nat):Int)=1:=Ω
    rw[r]at e ⊢;rw[A0];exact e
   ·rw[if_neg Ω,if_neg Ω,A0,A0,Af i Ω];have e:=zjr n d l g K m (i+1) (Fx k i V l[i]) Ω Ω;have f:Fx k i V l[i]=comb k V l[i]:=by unfold Fx;rw[if_neg j]
    rw[f]at e ⊢;rw[A0];exact e
  ·rw[if_neg Ω,aC Ω];have:i=l.length:=Ω
   subst this;rfl
theorem y5k (n:Nat){k:Int}(hk:1<=k/\k<=5)(hi:i<=4096)(h:AInv k i V)(init:Va):∃ r,Rj n ⟨k,(i:Int),V⟩ init=some r/\Sy n ⟨k,(i:Int),V⟩ init=some r:=by
 obtain ⟨h1,h2⟩:=h.check n hk hi
 unfold Rj Sy
 rw [h1,h2]
 simp only [A0,zxy n k hk,zvy n k hk,A4,Ar,Ay,Ak,L8,N1,if_true,Az]
 repeat' split
 all_goals exact ⟨_,rfl,rfl⟩
theorem p_of (n:Nat)(z:5000<n){k:Int}(g:1<=k/\k<=5)(l:List Va)(init:Va):∃r,Sq n k l init=some r/\Tm n k l init=some r:=by
 unfold Sq Tm S8 T7;have ka:(0:Int)<=k:=Ω
 simp only[A0,A4,Ar,Ay,Ak,J8,Jt,ka,g.2,if_true,aA,decide_true,Aj];by_cases h:4096<l.length
 ·rw[if_pos Ω,if_pos Ω];exact⟨_,rfl,rfl⟩
 ·rw[if_neg Ω,if_neg Ω];have t:=zy1 n g init l Ω (λq p o m j=>bnd (Rj n (⟨q,p,⟨o,m,j⟩⟩:C4) init) λd=>some (d.1,d.2)) n 0 va0 Ω Ω (by simp[AInv]);have v:=y2e n g init l Ω (bnd (X6 n (⟨k,0,⟨0,0,ByteArray.empty⟩⟩:C4) l k) λs=>bnd (Sy n s init) λf=>some (f.1,f.2)) n 0 Ω Ω;simp only[aB,aG]at t v;rw[t.1,v];cases y:bad k l with
  |some e=>exact⟨_,rfl,rfl⟩
  |none =>
   have hi:=t.2 y;have u:=zjr n g l Ω (λq p o m j=>some (⟨q,p,⟨o,m,j⟩⟩:C4)) n 0 va0 Ω Ω;simp only[aB,aG]at u;unfold X6;rw[u];simp only[A0];obtain⟨r,x,w⟩:=y5k n g (i:=l.length) Ω hi init;rw[x,w];simp only[A0];exact⟨_,rfl,rfl⟩
def evs (vs:List (List Ev))(v:Int):List Ev:=if v<0 then[]else if(vs.length:Int)<=v then[]else vs.getD v.toNat []
theorem Kc {l:List α}{i:Int}(d:α)(k:α->Option β)(f:0<=i)(h1:i<(l.length:Int)):idx l i k=k (l.getD i.toNat d):=by
 obtain⟨m,rfl⟩:∃m:Nat,i=m:=⟨i.toNat,Ω⟩;have hm:m<l.length:=Ω
 rw[Ae hm];simp_all
theorem zjg (n:Nat)(vs:List (List Ev))(v:Int):Mj n ⟨vs⟩ v=some (evs vs v):=by
 unfold Mj evs;simp only[Ay,Ak,L7,aA,A4,Aj];by_cases h:v<0
 ·rw[if_pos h,if_pos h]
 ·rw[if_neg h,if_neg h];by_cases d:(vs.length:Int)<=v
  ·rw[if_pos d,if_pos d]
  ·rw[if_neg d,if_neg d,Kc [] _ Ω Ω]
theorem zoc (n:Nat)(vs:List (List Ev))(own:Int)(ev:Ev)(v:Int):Qq n ⟨vs⟩ own ev v=some (evs vs v):=by
 unfold Qq evs;simp only[Ay,Ak,Kt,aA,A4,Aj];by_cases h:v<0
 ·rw[if_pos h,if_pos h]
 ·rw[if_neg h,if_neg h];by_cases d:(vs.length:Int)<=v
  ·rw[if_pos d,if_pos d]
  ·rw[if_neg d,if_neg d,Kc [] _ Ω Ω]
theorem y2i (n:Nat)(ev:Ev)(f:Int)(d:0<=f):O5 n ev f=some (if(ev.fValues.length:Int)<=f then(va0,6)else(ev.fValues.getD f.toNat va0,0)):=by
 unfold O5;simp only[aA,A4];by_cases h:(ev.fValues.length:Int)<=f
 ·rw[if_pos h,if_pos h]
 ·rw[if_neg h,if_neg h,Kc va0 _ d Ω]
theorem zmt (n:Nat)(e:Exn)(d:0<=e.fField)(es:List Ev)(j:es.length<=1000000)(K K':List Va->Option (Va×Int))(g:∀l,∃r,K l=some r/\K' l=some r):∀(m i:Nat) (acc:List Va),i<=es.length->es.length<m+i->acc.length=i ->
  ∃r,Qx n e es K m ((i:Int),acc)=some r/\Pw n e es K' m ((i:Int),acc)=some r
 |0,i,acc,h1,o,_=>by omega
 |m+1,i,acc,h1,o,p=>by
  unfold Qx Pw;simp only[aA,A4,Ar];by_cases h:i<es.length
  ·rw[if_pos Ω,if_pos Ω];simp only[Ae h];rw[y2i n _ _ d,A0];by_cases f:(es[i].fValues.length:Int)<=e.fField
   ·simp_all
   ·rw[if_neg f,if_neg f,Kc va0 _ d Ω];simp only[if_true];rw[Bo Ψ Ω,Bo Ψ Ω,Af i Ω];exact zmt n e d es j K K' g m (i+1) _ Ω Ω Ψ
  ·rw[if_neg Ω,if_neg Ω];exact g acc
theorem zyu (h:ndP e=0):0<=arP e.fOp/\(e.fArgs.length:Int)=arP e.fOp/\(usF e.fOp=true->0<=e.fField)/\(e.fOp=4->1<=e.fKind/\e.fKind<=5):=by
 unfold ndP at h;grind
inductive Occ (i:Nat):Exn->Prop
 |here (e:Exn) (h:usV e.fOp=true) (hv:e.fVar=(i:Int)):Occ i e
 |sub (e y:Exn) (hy:Aw y∈e.fArgs) (h:Occ i y):Occ i e
theorem ybx (h:ndP e=0)(d:usV e.fOp=true):0<=e.fVar/\e.fVar<16:=by
 unfold ndP at h;grind
theorem ybc (n:Nat)(O:2000000<n)(e:Exn)(t:ndP e=0)(Q:e.fArgs.length=0)(a b:List (List Ev))(F:∀i:Nat,Occ i e->evs a (i:Int)=evs b (i:Int))(G:∀v,(evs a v).length<=1000000)(own:Int)(ev:Ev) :
  ∃r,S7 n e ⟨a⟩ own ev=some r/\Rq n ⟨b⟩ own ev e=some r:=by
 obtain⟨j,h,J,N⟩:=zyu t;by_cases o0:e.fOp=0
 ·unfold S7 Rq;simp only[zjg,zoc,A0,A4,o0,if_true];exact⟨_,rfl,rfl⟩
 have I:usV e.fOp=true:=by
  unfold arP at j h;by_cases d:e.fOp<0
  ·rw[if_pos d]at j;omega
  by_cases s:12<e.fOp
  ·rw[if_neg d,if_pos s]at j;omega
  rw[if_neg d,if_neg s]at h;by_cases H:e.fOp<5
  ·unfold usV;grind
  ·rw[if_neg H]at h;split at h<;>omega
 have w:evs a e.fVar=evs b e.fVar:=by
  have E:=ybx t I;have:=F e.fVar.toNat (.here e I Ω)
  rwa [show((e.fVar.toNat:Nat):Int)=e.fVar by omega]at this
 unfold S7 Rq;simp only[zjg,zoc,<-w,A0,A4,Ar,aA];rw[if_neg o0,if_neg o0];by_cases o3:e.fOp=3
 ·simp_all
 rw[if_neg o3,if_neg o3];by_cases g:e.fOp=4
 ·rw[if_pos g,if_pos g];unfold z06;rw[zoc,<-w,A0];have u:=J (by rw[g];decide);have M:=N g;obtain⟨r,A,z⟩:=zmt n e u (evs a e.fVar) (G _) (λy=>bnd (Sq n e.fKind y e.fValue) λo=>some (o.1,o.2)) (λy=>bnd (Tm n e.fKind y e.fValue) λp=>some (p.1,p.2)) (λl=>by
   obtain⟨r,A,z⟩:=p_of n Ω M l e.fValue;exact⟨r,by rw[A,A0],by rw[z,A0]⟩) n 0 [] Ω (by have:=G e.fVar;omega) rfl
  simp only[aB]at A z;rw[A,z];exact⟨r,rfl,by rw[A0]⟩
 rw[if_neg g,if_neg g];have L:e.fOp=1\/e.fOp=2:=by
  unfold arP at j h;by_cases d:e.fOp<0
  ·rw[if_pos d]at j;omega
  by_cases s:12<e.fOp
  ·rw[if_neg d,if_pos s]at j;omega
  rw[if_neg d,if_neg s]at h;by_cases H:e.fOp<5
  ·omega
  ·omega
 simp only[Ay,Ak,Lc,Lb];unfold z18;simp only[zjg,A0,A4,Ar,aA];have tail:∀x:Ev,∃r,(if e.fOp=2 then some ((⟨0,x.fTime,be⟩:Va),(0:Int))else if(x.fValues.length:Int)<=e.fField then some (va0,6)else idx x.fValues e.fField λD=>bnd (Hh n D) λm=>if m=0 then(idx x.fValues e.fField λC=>some (C,0))else some (va0,m))=some r /\
   (if e.fOp=2 then some ((⟨0,x.fTime,be⟩:Va),(0:Int))else bnd (O5 n (⟨x.fSource,x.fSeq,x.fType,x.fTime,x.fValues⟩:A8) e.fField) λf=>if f.2=0 then(bnd (Gl n f.1) λq=>if q=0 then some (f.1,0)else some (va0,q))else if f.2=0 then some (f.1,0)else some (va0,f.2))=some r:=λx=>by
  by_cases o2:e.fOp=2
  ·simp_all
  rw[if_neg o2,if_neg o2];have K:e.fOp=1:=Ω
  have u:=J (by rw[K];decide);rw[y2i n _ _ u,A0];by_cases E:(x.fValues.length:Int)<=e.fField
  ·simp only[E,if_true];exact⟨_,rfl,rfl⟩
  ·simp only[E,if_false];rw[Kc va0 _ u Ω,Kc va0 _ u Ω,y5h,p_vc,A0];simp only[if_true,A0];split;all_goals simp_all
 by_cases B:e.fVar=own
 ·rw[if_pos B,if_pos B,A0];simp only[Aj];exact tail ev
 ·rw[if_neg B,if_neg B];by_cases P:(evs a e.fVar).length=0
  ·rw[if_pos Ω,if_pos Ω,A0];simp only[Al];exact⟨_,rfl,rfl⟩
  ·rw[if_neg Ω,if_neg Ω,Cl _ (by have:=G e.fVar;omega),Kc ev _ Ω Ω,Kc ev _ Ω Ω,A0];simp only[Aj];exact tail _
theorem y0c (n:Nat)(op:Int)(h:5<=op/\op<=12):V6 n op=some (if op<9 then 0 else if op=9 then -1 else 1):=by
 have:op=5\/op=6\/op=7\/op=8\/op=9\/op=10\/op=11\/op=12:=Ω
 unfold V6;simp only[Ay,Ak,Gx,Ip,A4];grind
theorem zff (n:Nat)(op:Int)(h:5<=op/\op<=12)(d:List Int)(u:d.length<=4000000):∀(m i:Nat),i<=d.length->d.length<m+i->∃r,Fb n d op (some 0) m (i:Int)=some r/\Gh n d op (some 0) m (i:Int)=some r/\(r=0\/r=9)
 |0,i,h1,v=>by omega
 |m+1,i,h1,v=>by
  unfold Fb Gh;simp only[aA,A4,Ar,y0c n op h,A0,Ay,Ak,G1,Hr,Jv];by_cases hi:i<d.length
  ·have f:((i:Nat):Int)<((d.length:Nat):Int):=Ω
   simp only[f,if_true];obtain⟨r,o,j,g⟩:=zff n op h d u m (i+1) Ω Ω;rw[Af i Ω,o,j];have p:∀(K:Int->Option Int),idx d 0 K=K (d.headD 0):=λK=>by
    have:=Ae (l:=d) (i:=0) Ω K;simp only[aB]at this;rw[this];congr 1;cases d with
    |nil=>simp at hi
    |cons x q=>rfl
   have s:∀(K:Int->Option Int),idx d (i:Int) K=K d[i]:=λK=>Ae hi K
   simp only[p,s];generalize d[i]=k;generalize d.headD 0=t;have:op=5\/op=6\/op=7\/op=8\/op=9\/op=10\/op=11\/op=12:=Ω
   clear o j p s h;rcases this with rfl|rfl|rfl|rfl|rfl|rfl|rfl|rfl
   all_goals
    simp[Az];first
    |(by_cases q:k=0<;>simp[q,g])
    |(by_cases q:k=1<;>simp[q,g])
    |(by_cases q:k=t<;>simp[q,g])
  ·have f:¬((i:Nat):Int)<((d.length:Nat):Int):=Ω
   simp only[f,if_false];exact⟨0,rfl,rfl,aK rfl⟩
theorem y2h (n:Nat)(b:Bool):E6 n b=some (if b=true then⟨1,1,be⟩else⟨1,0,be⟩):=by
 unfold E6 z6c;cases b<;>simp[Az,A0]
theorem zw0 (n:Nat)(b:Bool):Dz n b=some (if b=true then⟨1,1,be⟩else⟨1,0,be⟩):=by
 unfold Dz;cases b<;>simp[Az]
section
variable {α β:Type}
theorem zoj {len:Nat}(h:0<len)(k:Nat->Option β):nat 0 len k=k 0:=by have:=Cs (i:=0) h k;simpa using this
theorem zyw {len:Nat}(h:1<len)(k:Nat->Option β):nat 1 len k=k 1:=by have:=Cs (i:=1) h k;simpa using this
theorem y9t {x y:α}{l:List α}(k:α->Option β):idx (x::y::l) 1 k=k y:=by have:=Ae (l:=x::y::l) (i:=1) Δ k;simpa using this
end
theorem w21:aF .i64 (((2:Nat):Int)-1)=1:=Θ
theorem w11:aF .i64 (((1:Nat):Int)-1)=0:=Θ
theorem y61 (n:Nat)(op:Int)(h:5<=op/\op<=11)(x y:Va):∃v,Mv n op [x,y]=some v /\
  (cnd (decide (op=9))
    (nat 0 (List.map Ag [x,y]).length λo=>elt [x,y] o λg=>nat 1 (List.map Ag [x,y]).length λm=>elt [x,y] m λf =>
      bnd (E6 n (decide (g.fKind=f.fKind) && (decide (g.fNum=f.fNum) && ((g.fText.toList == f.fText.toList) && true)))) λj=>some (j,(0:Int)))
  <| natc op 5 (bnd (Wv n x.fNum y.fNum) λd=>some (d,0))
  <| natc op 6 (bnd (Wu n x.fNum y.fNum) λd=>some (d,0))
  <| natc op 7 (bnd (Wt n x.fNum y.fNum) λd=>some (d,0))
  <| natc op 8 (bnd (Ws n x.fNum y.fNum) λd=>some (d,0))
  <| natc op 10 (bnd (Wr n x.fNum y.fNum) λd=>some (d,0))
  <| natc op 11 (bnd (Wq n x.fNum y.fNum) λd=>some (d,0))
  <| natc op 12 (bnd (Nc n x.fNum y.fNum) λd=>some (d,0))
  <| none)=some (v,0):=by
 have:op=5\/op=6\/op=7\/op=8\/op=9\/op=10\/op=11:=Ω
 have s:(List.map Ag [x,y]).length=2:=rfl;have r:∀k:Nat->Option (Va×Int),nat 0 2 k=k 0:=λk=>zoj Ω k
 have p:∀k:Nat->Option (Va×Int),nat 1 2 k=k 1:=λk=>zyw Ω k
 have u:∀k:Va->Option (Va×Int),elt [x,y] 0 k=k x:=λk=>Cu Δ k
 have t:∀k:Va->Option (Va×Int),elt [x,y] 1 k=k y:=λk=>Cu Δ k
 unfold Mv Wv Wu Wt Ws Wr Wq Nc Ww;simp only[s,r,p,u,t,zou,y9t,A4,Ot,y2h,zw0,A0,Ay,Ak,Mr,Mq,Lk,Lj];rcases this with rfl|rfl|rfl|rfl|rfl|rfl|rfl
 ·exact⟨_,rfl,rfl⟩
 ·exact⟨_,rfl,rfl⟩
 ·exact⟨_,rfl,rfl⟩
 ·exact⟨_,rfl,rfl⟩
 ·exact⟨_,rfl,rfl⟩
 ·by_cases q:x.fNum=1
  ·simp[q,A0]
  ·simp[q,A0]
 ·by_cases q:x.fNum=1
  ·simp[q,A0]
  ·simp[q,A0]
theorem y62 (n:Nat)(x:Va):∃v,Mv n 12 [x]=some v/\Nc n x.fNum x.fNum=some v:=by
 unfold Mv Nc;simp only[zou,A4,y2h,zw0,A0];exact⟨_,rfl,rfl⟩
theorem ETrO.pos {s:Nat}(h:ETrO s e):1<=s:=by cases h;omega
theorem zsp (n:Nat)(l:List (Nat×Exn))(e:Exn)(g:e.fArgs=l.map (λp=>Aw p.2))(s:l.length<=4000000)(a b:List (List Ev))(own:Int)(ev:Ev)
  (f:∀p∈l,∃r,Hk n p.2 ⟨a⟩ own ev=some r/\Hf n ⟨b⟩ own ev p.2=some r) (K K':List Va->List Int->Option (Va×Int)) (t:∀vs,vs.length=l.length->∃r,K vs (vs.map (·.fKind))=some r/\K' vs (vs.map (·.fKind))=some r) :
  ∀(m k:Nat) (vs:List Va),k<=l.length->l.length<m+k->vs.length=k->∃r,Qy n (Hk n) ev own ⟨a⟩ e K m ((k:Int),vs,vs.map (·.fKind))=some r/\Q8 n (Hf n) e ev own ⟨b⟩ K' m ((k:Int),vs,vs.map (·.fKind))=some r
 |0,k,vs,h1,u,_=>by omega
 |m+1,k,vs,h1,u,w=>by
  unfold Qy Q8;simp only[g,aA,A4,Ar];by_cases h:k<l.length
  ·have d:((k:Nat):Int)<((l.length:Nat):Int):=Ω
   simp only[d,if_true];rw[Ia h,Ia h];obtain⟨⟨v,x⟩,o,j⟩:=f l[k] (aE h);rw[o,j,A0,A0];by_cases q:x=0
   ·simp only[q,if_true];rw[Bo Ψ Ω,Bo Ψ Ω,Bo Ψ Ω,Bo Ψ Ω,Af k Ω];have:=zsp n l e g s a b own ev f K K' t m (k+1) (vs++[v]) Ω Ω Ψ;simpa using this
   simp_all
  grind
theorem ybm (a b:List (List Ev))(R:∀v,(evs a v).length<=1000000)(own:Int)(ev:Ev):∀(s:Nat) (e:Exn),ETrO s e->(∀i:Nat,Occ i e->evs a (i:Int)=evs b (i:Int))->s<=4000000->∀n,s+5000000<n->∃r,Hk n e ⟨a⟩ own ev=some r/\Hf n ⟨b⟩ own ev e=some r:=by
 intro s
 induction s using Nat.strongRecOn with
 |ind s IH =>
  intro e O m hs n W;cases O with
  |mk l e j h H =>
   obtain⟨f,rfl⟩:∃f,n=f + 1:=⟨n-1,Ω⟩;have X:l.length<=(l.map (·.1)).sum:=U3 (l:=l) (λp t=>(h p t).pos);obtain⟨I,E,Z,Y⟩:=zyu j;simp only[Hk,Hf,aA,A4,Ar];by_cases S:e.fArgs.length=0
   ·have:((e.fArgs.length:Nat):Int)=0:=Ω
    simp only[this,if_true];obtain⟨r,q,o⟩:=ybc f Ω e j S a b m R own ev;rw[q,o,A0];exact⟨_,rfl,rfl⟩
   ·have:¬((e.fArgs.length:Nat):Int)=0:=Ω
    simp only[this,if_false];have Q:e.fArgs.length=l.length:=by rw[H,aA]
    have d:5<=e.fOp/\e.fOp<=12/\(e.fOp=12->l.length=1)/\(e.fOp≠12->l.length=2):=by
     unfold arP at I E;by_cases G:e.fOp<0
     ·rw[if_pos G]at I;omega
     by_cases K:12<e.fOp
     ·omega
     rw[if_neg G,if_neg K]at E;by_cases J:e.fOp<5
     ·rw[if_pos J]at E;omega
     ·omega
    refine zsp f l e H Ω a b own ev (λp t=>by
     have:=Kd t;exact IH p.1 Ω p.2 (h p t) (λi hi=>m i (.sub e p.2 (by grind) hi)) Ω f Ω) _ _ (λvs N=>?_) f 0 [] Ω Ω rfl
    obtain⟨r,q,o,U⟩:=zff f e.fOp ⟨d.1,d.2.1⟩ (vs.map (·.fKind)) (by rw[aA];omega) f 0 Ω (by rw[aA];omega);simp only[aB]at q o;unfold Zk z30;rw[q,o,A0,A0];by_cases P:r=0
    ·simp only[P,if_true];by_cases g:e.fOp=12
     ·have D:vs.length=1:=by have:=d.2.2.1 g;omega
      match vs,D with
      |[x],_ =>
       obtain⟨v,w,u⟩:=y62 f x;rw[g,w,A0];have A:∀k:Nat->Option (Va×Int),nat 0 1 k=k 0:=λk=>zoj Ω k
       have F:∀k:Va->Option (Va×Int),elt [x] 0 k=k x:=λk=>Cu Δ k
       have B:∀z:Option (Va×Int),ltx 0 1 z=z:=λz=>Ys Ω z
       simp only[Ot,aQ,aT,bT,w11,A,F,B,u,A0];exact⟨_,rfl,rfl⟩
     ·have C:vs.length=2:=by have:=d.2.2.2 g;omega
      match vs,C with
      |[x,y],_ =>
       obtain⟨v,w,u⟩:=y61 f e.fOp ⟨d.1,Ω⟩ x y;rw[w,A0];refine⟨(v,0),rfl,?_⟩;rw[<-u];have A:∀k:Nat->Option (Va×Int),nat 0 2 k=k 0:=λk=>zoj Ω k
       have L:∀k:Nat->Option (Va×Int),nat 1 2 k=k 1:=λk=>zyw Ω k
       have F:∀k:Va->Option (Va×Int),elt [x,y] 0 k=k x:=λk=>Cu Δ k
       have T:∀k:Va->Option (Va×Int),elt [x,y] 1 k=k y:=λk=>Cu Δ k
       have B:∀z:Option (Va×Int),ltx 0 2 z=z:=λz=>Ys Ω z
       have M:∀z:Option (Va×Int),ltx 1 2 z=z:=λz=>Ys Ω z
       simp only[Ot,A4,aA,aQ,aT,bT,Nat.reduceAdd,w21,A,L,F,T,B,M]
    simp_all
theorem y21 (a b:List (List Ev))(m:∀v,(evs a v).length<=1000000)(own:Int)(ev:Ev)(s:Nat)(e:Exn)(f:∀i:Nat,Occ i e->evs a (i:Int)=evs b (i:Int))(j:ETr s e)(hs:s<=4000000)(n:Nat)(t:10000000<n) :
  ∃r,Gb n e ⟨a⟩ own ev=some r/\I1 n e ⟨b⟩ own ev=some r:=by
 obtain⟨c,q,p,o⟩:=y2n s e j hs n Ω;unfold Gb I1 z19 zat;rw[q,p];simp only[A0,A4,Ar,y2h,zw0,Ay,Ak,Ll,Nu];by_cases d:c=0
 ·simp only[d,if_true];obtain⟨r,h,g⟩:=ybm a b m own ev s e (o d) f hs n Ω;rw[h,g];simp only[A0];split;all_goals simp_all
 ·simp only[d,if_false,A0];exact⟨_,rfl,rfl⟩
def fidx (p:α->Bool)(l:List α):Int:=match l.findIdx? p with|some j=>(j:Int)|none=>-1
theorem U0 (p:α->Bool)(l:List α):decide (0<=fidx p l)=l.any p:=by
 unfold fidx;grind
def Eb (p:α->Bool)(k:Nat)(l:List α):Int:=match l.findIdx? p with|some j=>((k+j:Nat):Int)|none=>-1
theorem I6 (p:α->Bool)(k:Nat)(x:α)(l:List α):Eb p k (x::l)=if p x=true then(k:Int)else Eb p (k+1) l:=by
 unfold Eb;grind
theorem I5 (p:α->Bool)(l:List α):Eb p 0 l=fidx p l:=by
 unfold Eb fidx;simp_all
theorem zsb (n:Nat)(x:Int)(l:List Int)(d:l.length<=1000000000):∀(m k:Nat),k<=l.length->l.length<m+k->T1 n x l (some (-1)) m (k:Int)=some (Eb (λy=>decide (x=y)) k (l.drop k))
 |0,k,h1,f=>by omega
 |m+1,k,h1,f=>by
  unfold T1;simp only[aA,A4];by_cases h:k<l.length
  ·rw[if_pos Ω,Ae h,B6 l k h,I6,Af k Ω,zsb n x l d m (k+1) Ω Ω];grind
  ·rw[if_neg Ω,aC Ω];rfl
theorem I4 (n:Nat)(x:Int)(l:List Int)(d:l.length<=1000000000)(f:l.length<n):E3 n l x=some (l.any λy=>decide (x=y)):=by
 unfold E3 z3d;have:=zsb n x l d n 0 Ω Ω;simp only[aB,aG,I5]at this;rw[this,A0,U0]
theorem zmx (n:Nat)(a1c0:Bb)(p:Bb->Bool)(l:List Bb)(f:l.length<=1000000000)(d:∀x∈l,Si n x a1c0=some (p x)):∀(m k:Nat),k<=l.length->l.length<m+k->S2 n a1c0 l (some (-1)) m (k:Int)=some (Eb p k (l.drop k))
 |0,k,h1,g=>by omega
 |m+1,k,h1,g=>by
  unfold S2;simp only[aA,A4];by_cases h:k<l.length
  ·rw[if_pos Ω,Ae h,B6 l k h,I6,d _ (aE h),A0,Af k Ω,zmx n a1c0 p l f d m (k+1) Ω Ω];cases p l[k]<;>simp[Az]
  ·rw[if_neg Ω,aC Ω];rfl
theorem y96 (n:Nat)(a1c0:Bb)(p:Bb->Bool)(l:List Bb)(d:l.length<=1000000000)(g:l.length<n)(f:∀x∈l,Si n x a1c0=some (p x)):X1 n l a1c0=some (fidx p l):=by
 unfold X1;have:=zmx n a1c0 p l d f n 0 Ω Ω;simpa only[aB,aG,I5]using this
theorem ybs (n:Nat)(a1c0:Bb)(p:Bb->Bool)(l:List Bb)(f:l.length<=1000000000)(d:l.length<n)(g:∀x∈l,Si n x a1c0=some (p x)):S3 n l a1c0=some (l.any p):=by
 unfold S3;rw[y96 n a1c0 p l f d g,A0,U0]
theorem zeg (n:Nat)(p:C2->Bool)(l:List C2)(f:l.length<=1000000000)(d:∀x∈l,Jx n x=some (p x)):∀(m k:Nat),k<=l.length->l.length<m+k->Q2 n l (some (-1)) m (k:Int)=some (Eb p k (l.drop k))
 |0,k,h1,g=>by omega
 |m+1,k,h1,g=>by
  unfold Q2;simp only[aA,A4];by_cases h:k<l.length
  ·rw[if_pos Ω,Ae h,B6 l k h,I6,d _ (aE h),A0,Af k Ω,zeg n p l f d m (k+1) Ω Ω];cases p l[k]<;>simp[Az]
  ·rw[if_neg Ω,aC Ω];rfl
theorem zw2 (n:Nat)(p:C2->Bool)(l:List C2)(d:l.length<=1000000000)(g:l.length<n)(f:∀x∈l,Jx n x=some (p x)):Vq n l=some (fidx p l):=by
 unfold Vq;have:=zeg n p l d f n 0 Ω Ω;simpa only[aB,aG,I5]using this
theorem zn1 (n:Nat)(p:C2->Bool)(l:List C2)(f:l.length<=1000000000)(d:l.length<n)(g:∀x∈l,Jx n x=some (p x)):Q3 n l=some (l.any p):=by
 unfold Q3;rw[zw2 n p l f d g,A0,U0]
theorem zci (n:Nat)(a1c0:Av)(a1c1:A8)(p:Bb->Bool)(l:List Bb)(f:l.length<=1000000000)(d:∀x∈l,L9 n x (⟨a1c0.fVars⟩:Av) a1c1=some (p x)):∀(m k:Nat),k<=l.length->l.length<m+k->Pu n a1c1 a1c0 l (some (-1)) m (k:Int)=some (Eb p k (l.drop k))
 |0,k,h1,g=>by omega
 |m+1,k,h1,g=>by
  unfold Pu;simp only[aA,A4];by_cases h:k<l.length
  ·rw[if_pos Ω,Ae h,B6 l k h,I6,d _ (aE h),A0,Af k Ω,zci n a1c0 a1c1 p l f d m (k+1) Ω Ω];cases p l[k]<;>simp[Az]
  ·rw[if_neg Ω,aC Ω];rfl
theorem zs9 (n:Nat)(a1c0:Av)(a1c1:A8)(p:Bb->Bool)(l:List Bb)(d:l.length<=1000000000)(g:l.length<n)(f:∀x∈l,L9 n x (⟨a1c0.fVars⟩:Av) a1c1=some (p x)):Vh n l a1c0 a1c1=some (fidx p l):=by
 unfold Vh;have:=zci n a1c0 a1c1 p l d f n 0 Ω Ω;simpa only[aB,aG,I5]using this
theorem zw4 (n:Nat)(a1c0:Av)(a1c1:A8)(p:Bb->Bool)(l:List Bb)(f:l.length<=1000000000)(d:l.length<n)(g:∀x∈l,L9 n x (⟨a1c0.fVars⟩:Av) a1c1=some (p x)):Uz n l a1c0 a1c1=some (l.any p):=by
 unfold Uz;rw[zs9 n a1c0 a1c1 p l f d g,A0,U0]
theorem zch (n:Nat)(a1c0:Ah)(a1c1:Av)(a1c2:A8)(p:Bb->Bool)(l:List Bb)(f:l.length<=1000000000)(d:∀x∈l,Ja n x a1c0 (⟨a1c1.fVars⟩:Av) a1c2=some (p x)):∀(m k:Nat),k<=l.length->l.length<m+k->Pr n a1c2 a1c1 a1c0 l (some (-1)) m (k:Int)=some (Eb p k (l.drop k))
 |0,k,h1,g=>by omega
 |m+1,k,h1,g=>by
  unfold Pr;simp only[aA,A4];by_cases h:k<l.length
  ·rw[if_pos Ω,Ae h,B6 l k h,I6,d _ (aE h),A0,Af k Ω,zch n a1c0 a1c1 a1c2 p l f d m (k+1) Ω Ω];cases p l[k]<;>simp[Az]
  ·rw[if_neg Ω,aC Ω];rfl
theorem zs8 (n:Nat)(a1c0:Ah)(a1c1:Av)(a1c2:A8)(p:Bb->Bool)(l:List Bb)(d:l.length<=1000000000)(g:l.length<n)(f:∀x∈l,Ja n x a1c0 (⟨a1c1.fVars⟩:Av) a1c2=some (p x)):Vg n l a1c0 a1c1 a1c2=some (fidx p l):=by
 unfold Vg;have:=zch n a1c0 a1c1 a1c2 p l d f n 0 Ω Ω;simpa only[aB,aG,I5]using this
theorem zw3 (n:Nat)(a1c0:Ah)(a1c1:Av)(a1c2:A8)(p:Bb->Bool)(l:List Bb)(f:l.length<=1000000000)(d:l.length<n)(g:∀x∈l,Ja n x a1c0 (⟨a1c1.fVars⟩:Av) a1c2=some (p x)):Uy n l a1c0 a1c1 a1c2=some (l.any p):=by
 unfold Uy;rw[zs8 n a1c0 a1c1 a1c2 p l f d g,A0,U0]
theorem zcg (n:Nat)(a1c0:C2)(p:Ap->Bool)(l:List Ap)(f:l.length<=1000000000)(d:∀x∈l,Xo n x a1c0=some (p x)):∀(m k:Nat),k<=l.length->l.length<m+k->Pq n a1c0 l (some (-1)) m (k:Int)=some (Eb p k (l.drop k))
 |0,k,h1,g=>by omega
 |m+1,k,h1,g=>by
  unfold Pq;simp only[aA,A4];by_cases h:k<l.length
  ·rw[if_pos Ω,Ae h,B6 l k h,I6,d _ (aE h),A0,Af k Ω,zcg n a1c0 p l f d m (k+1) Ω Ω];cases p l[k]<;>simp[Az]
  ·rw[if_neg Ω,aC Ω];rfl
theorem zs7 (n:Nat)(a1c0:C2)(p:Ap->Bool)(l:List Ap)(d:l.length<=1000000000)(g:l.length<n)(f:∀x∈l,Xo n x a1c0=some (p x)):Vf n l a1c0=some (fidx p l):=by
 unfold Vf;have:=zcg n a1c0 p l d f n 0 Ω Ω;simpa only[aB,aG,I5]using this
theorem zcf (n:Nat)(a1c0:Ah)(p:Ap->Bool)(l:List Ap)(f:l.length<=1000000000)(d:∀x∈l,M4 n x a1c0=some (p x)):∀(m k:Nat),k<=l.length->l.length<m+k->Pp n a1c0 l (some (-1)) m (k:Int)=some (Eb p k (l.drop k))
 |0,k,h1,g=>by omega
 |m+1,k,h1,g=>by
  unfold Pp;simp only[aA,A4];by_cases h:k<l.length
  ·rw[if_pos Ω,Ae h,B6 l k h,I6,d _ (aE h),A0,Af k Ω,zcf n a1c0 p l f d m (k+1) Ω Ω];cases p l[k]<;>simp[Az]
  ·rw[if_neg Ω,aC Ω];rfl
theorem zs6 (n:Nat)(a1c0:Ah)(p:Ap->Bool)(l:List Ap)(d:l.length<=1000000000)(g:l.length<n)(f:∀x∈l,M4 n x a1c0=some (p x)):Ve n l a1c0=some (fidx p l):=by
 unfold Ve;have:=zcf n a1c0 p l d f n 0 Ω Ω;simpa only[aB,aG,I5]using this
abbrev Gd:=Bb
abbrev Stt:=Dm
abbrev Ed:=Ah
abbrev Aut:=Ad
def WfE (e:Exn):Prop:=∃z,z<=4000000/\ETr z e
structure WfX (x:Ed):Prop where
 cond:WfE x.fCond
 checks:∃ys:List Exn,x.fChecks=ys.map Aw/\∀y∈ys,WfE y
 lc:x.fChecks.length<=1100000
 lo:x.fOpens.length<=1100000
 lcl:x.fCloses.length<=1100000
 li:x.fInside.length<=1100000
 ll:x.fLimits.length<=1100000
structure WfA (a:Aut):Prop where
 ls:a.fStates.length<=1100000
 le:a.fEdges.length<=1100000
 st:∀s∈a.fStates,s.fGuards.length<=1100000/\∀g∈s.fGuards,WfE g.fCond
 ed:∀x∈a.fEdges,WfX x
theorem WfE.check (h:WfE e)(n:Nat)(m:10000000<n):∃r:Int,Gf n e=some r/\I2 n e=some r:=by
 obtain⟨z,g,j⟩:=h;obtain⟨r,f,d,_⟩:=y2n z e j g n Ω;exact⟨r,f,d⟩
theorem Yx (n:Nat)(a b:Int):Db n a b=some (decide (a<0) || decide (b<a)):=by
 unfold Db;simp only[Ay,Ak,Md,A4];by_cases h:a<0<;>simp[h]
theorem Yg (n:Nat)(a b:Int):Es n a b=some (decide (0<=a) && decide (a<b)):=by
 unfold Es;simp only[Ay,Ak,My,A4];by_cases h:0<=a<;>simp[h]
theorem Y5 (a b:Int):(decide (a<0) || decide (b-1<a))=!(decide (0<=a) && decide (a<b)):=by
 grind
theorem zzr {q:α->Bool}{l:List α}(d:k<i)(hi:i<=l.length):((l.take i).drop k).any q=(q (l[k]' Ω) || ((l.take i).drop (k+1)).any q):=by
 rw[B6 _ k Ψ,bK,aO]
theorem zhe (n:Nat)(l:List Gd)(a:Aut)(i:Nat)(hi:i<l.length)(d:l.length<=1100000)(K:Option Int):∀(m k:Nat),k<=i->i<m+k->Q1 n l a (i:Int) K m (k:Int)=if((l.take i).drop k).any (λh=>decide (h.fScope=l[i].fScope))=true then some 7 else K
 |0,k,h1,f=>by omega
 |m+1,k,h1,f=>by
  unfold Q1;simp only[A4];by_cases h:k<i
  ·rw[if_pos Ω,Ae (by omega:k<l.length),Ae hi,zzr h Ω,Af k Ω,zhe n l a i hi d K m (k+1) Ω Ω];grind
  ·rw[if_neg Ω,aC Ψ];simp
theorem zjp (n:Nat)(u:10000000<n)(a:Aut)(hs:0<=a.fScopes/\a.fScopes<=64)(B:0<=a.fVars/\a.fVars<=16)(l:List Gd)(v:l.length<=1100000)(t:∀g∈l,WfE g.fCond):∀(m k:Nat),k<=l.length->l.length<m+k->∃r:Int,G4 n l a (some 0) m (k:Int)=some r/\Gg n l a (some 0) m (k:Int)=some r
 |0,k,h1,C=>by omega
 |m+1,k,h1,C=>by
  unfold G4 Gg;simp only[aA,A4,Ar,Ay,Ak,Iz,Jq,Yx,Yg];by_cases h:k<l.length
  ·have d:((k:Nat):Int)<((l.length:Nat):Int):=Ω
   simp only[d,if_true,Ae h,A0];have wS:aF .i64 (a.fScopes-1)=a.fScopes-1:=Cl _ Ω;have wV:aF .i64 (a.fVars-1)=a.fVars-1:=Cl _ Ω;have s:∀x:Int,(decide (x<0) || decide (15<x))=!(decide (0<=x) && decide (x<16)):=λx=>Y5 x 16
   simp only[wS,wV,Y5,s];obtain⟨r,A,z⟩:=zjp n u a hs B l v t m (k+1) Ω Ω;obtain⟨c,E,D⟩:=(t _ (aE h)).check n u;have y:=zhe n l a k h v (bnd (Gf n l[k].fCond) λf=>if f=0 then G4 n l a (some 0) m (aF .i64 ((k:Int)+1))else some f) n 0 Ω Ω;simp only[aB,aG]at y;rw[y,E,D];have w:=Fu (l:=l) (a:=0) (b:=k) (aW _) Ω (λq=>bnd (S3 n q l[k]) λp=>cnd p (some (7:Int)) (bnd (some c) λj=>if j=0 then Gg n l a (some 0) m (aF .i64 ((k:Int)+1))else some j));simp only[aB,aG]at w;rw[w,ybs n l[k] (λh=>decide (h.fScope=l[k].fScope)) (l.take k) Ψ Ψ (λx _=>rfl),A0,Af k Ω,A,z];simp only[A0];generalize (decide (0<=l[k].fScope) && decide (l[k].fScope<a.fScopes))=I;generalize (decide (0<=l[k].fType) && decide (l[k].fType<16))=H;generalize (decide (0<=l[k].fVar) && decide (l[k].fVar<a.fVars))=G;generalize ((l.take k).any λh=>decide (h.fScope=l[k].fScope))=F;cases I with
   |false=>exact⟨2,by simp[Az],by simp[Az]⟩
   |true=>cases H with
    |false=>exact⟨2,by simp[Az],by simp[Az]⟩
    |true=>cases G with
     |false=>exact⟨2,by simp[Az],by simp[Az]⟩
     |true=>cases F with
      |true=>exact⟨7,by simp[Az],by simp[Az]⟩
      |false =>
       by_cases o:c=0
       ·exact⟨r,by simp[Az,o],by simp[Az,o]⟩
       ·exact⟨c,by simp[Az,o],by simp[Az,o]⟩
  ·have d:¬((k:Nat):Int)<((l.length:Nat):Int):=Ω
   simp only[d,if_false];exact⟨0,rfl,rfl⟩
theorem y5u (n:Nat)(j:10000000<n)(a:Aut)(hs:0<=a.fScopes/\a.fScopes<=64)(f:0<=a.fVars/\a.fVars<=16)(l:List Gd)(m:l.length<=1100000)(d:∀g∈l,WfE g.fCond):∃r:Int,Vo n a l=some r/\X4 n a l=some r:=by
 unfold Vo X4;simp only[aA,A4];by_cases h:64<((l.length:Nat):Int)
 ·simp_all
 ·simp only[h,if_false];have:=zjp n j a hs f l m d n 0 Ω Ω;omega
theorem zrm (n:Nat)(sc:Int)(l:List Int)(i:Nat)(hi:i<l.length)(d:l.length<=1100000)(K:Option Int):∀(m k:Nat),k<=i->i<m+k->Q0 n sc l (i:Int) K m (k:Int)=if((l.take i).drop k).any (λh=>decide (l[i]=h))=true then some 7 else K
 |0,k,h1,f=>by omega
 |m+1,k,h1,f=>by
  unfold Q0;simp only[A4];by_cases h:k<i
  ·rw[if_pos Ω,Ae (by omega:k<l.length),Ae hi,zzr h Ω,Af k Ω,zrm n sc l i hi d K m (k+1) Ω Ω];grind
  ·rw[if_neg Ω,aC Ψ];simp
theorem zje (n:Nat)(v:10000000<n)(a:Aut)(hs:0<=a.fScopes/\a.fScopes<=64)(A:List (List Int))(j:Int)(l:List Int)(p:l.length<=1100000)(K:Option Int):∀(m k:Nat),k<=l.length->l.length<m+k->∃r:Int,L5 n a.fScopes l (some 0) m (k:Int)=some r/\Hi n A a j l K m (k:Int)=(if r=0 then K else some r)/\(r=0->∀y∈l.drop k,0<=y/\y<a.fScopes)
 |0,k,h1,w=>by omega
 |m+1,k,h1,w=>by
  unfold L5 Hi;simp only[aA,A4,Ar,Yx,Yg];by_cases h:k<l.length
  ·have d:((k:Nat):Int)<((l.length:Nat):Int):=Ω
   simp only[d,if_true,Ae h,A0];rw[Cl _ Ω,Y5];obtain⟨r,u,t,B⟩:=zje n v a hs A j l p K m (k+1) Ω Ω;have s:=zrm n a.fScopes l k h p (L5 n a.fScopes l (some 0) m (aF .i64 ((k:Int)+1))) n 0 Ω Ω;simp only[aB,aG]at s;have q:=Fu (l:=l) (a:=0) (b:=k) (aW _) Ω (λg=>bnd (E3 n g l[k]) λf=>cnd f (some (7:Int)) (Hi n A a j l K m (aF .i64 ((k:Int)+1))));simp only[aB,aG]at q;rw[s,q,I4 n l[k] (l.take k) Ψ Ψ,A0,Af k Ω,u,t];have o:(decide (0<=l[k]) && decide (l[k]<a.fScopes))=true->0<=l[k]/\l[k]<a.fScopes:=λh=>by simpa using h
   rw[B6 l k h];revert o;generalize (decide (0<=l[k]) && decide (l[k]<a.fScopes))=z;generalize ((l.take k).any λy=>decide (l[k]=y))=x;intro o;cases z with
   |false=>exact⟨2,by simp[Az],by simp[Az],λh=>by cases h⟩
   |true=>cases x with
    |true=>exact⟨7,by simp[Az],by simp[Az],λh=>by cases h⟩
    |false =>
     refine⟨r,by simp[Az],by simp[Az],λh y C=>?_⟩;grind
  ·have d:¬((k:Nat):Int)<((l.length:Nat):Int):=Ω
   simp only[d,if_false];grind
theorem zy8 (n:Nat)(x:Ed)(a:Aut)(f:x.fLimits.length<=1100000)(K K':List Int->Option Int)(r:Option Int)(h1:K (x.fLimits.map (·.fScope))=r):∀(m k:Nat) (acc:List Int),k<=x.fLimits.length->x.fLimits.length<m+k->acc=(x.fLimits.take k).map (·.fScope)->Qd n x a K m ((k:Int),acc)=r
 |0,k,acc,j,g,_=>by omega
 |m+1,k,acc,j,g,d=>by
  unfold Qd;simp only[aA,A4];by_cases h:k<x.fLimits.length
  ·rw[if_pos Ω,Ae h,Bo (by subst d;simp;omega) Ω,Af k Ω];exact zy8 n x a f K K' r h1 m (k+1) _ Ω Ω (by subst d;rw[aD h,bP];rfl)
  grind
theorem zhf (n:Nat)(l:List C2)(f:l.length<=1100000):∀(m k:Nat) (acc:List Int),k<=l.length->l.length<m+k->acc=(l.take k).map (·.fScope)->Rr n l (λy=>some y) m ((k:Int),acc)=some (l.map (·.fScope))
 |0,k,acc,j,g,_=>by omega
 |m+1,k,acc,j,g,d=>by
  unfold Rr;simp only[aA,A4];by_cases h:k<l.length
  ·rw[if_pos Ω,Ae h,Bo (by subst d;simp;omega) Ω,Af k Ω];exact zhf n l f m (k+1) _ Ω Ω (by subst d;rw[aD h,bP];rfl)
  grind
theorem y2f (n:Nat)(f:10000000<n)(l:List C2)(d:l.length<=1100000):So n l=some (l.map (·.fScope)):=by
 unfold So;exact zhf n l d n 0 [] Ω Ω Δ
theorem zrn (n:Nat)(x:Ed)(d:x.fLimits.length<=1100000):∀(m k:Nat),k<=x.fLimits.length->x.fLimits.length<m+k->Li n x (some 0) m (k:Int)=some (if(x.fLimits.drop k).any (λl=>decide (l.fSpan<0) || decide (1099511627776<l.fSpan))=true then 2 else 0)
 |0,k,h1,f=>by omega
 |m+1,k,h1,f=>by
  unfold Li;simp only[aA,A4,Yx,A0];by_cases h:k<x.fLimits.length
  ·rw[if_pos Ω,Ae h,B6 _ k h,bK,Af k Ω,zrn n x d m (k+1) Ω Ω];generalize (decide (x.fLimits[k].fSpan<0) || decide (1099511627776<x.fLimits[k].fSpan))=b;cases b<;>simp[Az]
  grind
theorem y95 (n:Nat)(L:10000000<n)(a:Aut)(hs:0<=a.fScopes/\a.fScopes<=64)(x:Ed)(g:WfX x):∃r:Int,Rw n a x=some r /\
  (bnd (So n x.fLimits) λB=>bnd (X3 n a ([x.fOpens,x.fCloses,x.fInside,B])) λv=>if v=0 then(bnd (Q3 n x.fLimits) λA=>cnd A (some (2:Int)) (some 0))else some v)=some r/\(r=0->∀y∈x.fOpens,0<=y/\y<a.fScopes):=by
 have w:=zrn n x g.ll n 0 Ω (by have:=g.ll;omega);simp only[aB,aG]at w;rw[y2f n L x.fLimits g.ll,A0];have D:=zn1 n (λl=>decide (l.fSpan<0) || decide (1099511627776<l.fSpan)) x.fLimits (by have:=g.ll;omega) (by have:=g.ll;omega) (λy _=>by
  unfold Jx;simp only[Ay,Ak,Jr,A4];grind)
 rw[D];simp only[A0];have C:(x.fLimits.map (·.fScope)).length<=1100000:=by rw[aA];exact g.ll
 generalize Q:x.fLimits.map (·.fScope)=S at *;generalize (x.fLimits.any λl=>decide (l.fSpan<0) || decide (1099511627776<l.fSpan))=sp at *;unfold X3
 -- the four lists
 have step:∀(l:List Int),l.length<=1100000->∀(j:Int) (K:Option Int),∃r:Int,Rg n l a.fScopes=some r/\Hi n [x.fOpens,x.fCloses,x.fInside,S] a j l K n 0=(if r=0 then K else some r)/\(r=0->∀y∈l,0<=y/\y<a.fScopes):=λl z j K=>by
  have:=zje n L a hs [x.fOpens,x.fCloses,x.fInside,S] j l z K n 0 Ω Ω;unfold Rg;simp_all
 have uq:∀l:List Int,l.length<=1100000->∃r:Int,Rg n l a.fScopes=some r/\(∀(j:Int) (K:Option Int),Hi n [x.fOpens,x.fCloses,x.fInside,S] a j l K n 0=if r=0 then K else some r)/\(r=0->∀y∈l,0<=y/\y<a.fScopes):=λl z=>by
  obtain⟨r,P,_,M⟩:=step l z 0 none;refine⟨r,P,λj K=>?_,M⟩;obtain⟨r',O,N,_⟩:=step l z j K;simp_all
 obtain⟨u,a1,X,R⟩:=uq x.fOpens g.lo;obtain⟨t,a2,W,_⟩:=uq x.fCloses g.lcl;obtain⟨s,Z,U,_⟩:=uq x.fInside g.li;obtain⟨q,Y,T,_⟩:=uq S C;have w0:aF .i64 ((0:Int)+1)=1:=Θ
 have w1:aF .i64 ((1:Int)+1)=2:=Θ
 have F:aF .i64 ((2:Int)+1)=3:=Θ
 have E:aF .i64 ((3:Int)+1)=4:=Θ
 have J:∀K:List Int->Option Int,idx ([x.fOpens,x.fCloses,x.fInside,S]:List (List Int)) 0 K=K x.fOpens:=λK=>by have:=Ae (l:=[x.fOpens,x.fCloses,x.fInside,S]) (i:=0) Δ K;simpa using this
 have I:∀K:List Int->Option Int,idx ([x.fOpens,x.fCloses,x.fInside,S]:List (List Int)) 1 K=K x.fCloses:=λK=>by have:=Ae (l:=[x.fOpens,x.fCloses,x.fInside,S]) (i:=1) Δ K;simpa using this
 have H:∀K:List Int->Option Int,idx ([x.fOpens,x.fCloses,x.fInside,S]:List (List Int)) 2 K=K x.fInside:=λK=>by have:=Ae (l:=[x.fOpens,x.fCloses,x.fInside,S]) (i:=2) Δ K;simpa using this
 have G:∀K:List Int->Option Int,idx ([x.fOpens,x.fCloses,x.fInside,S]:List (List Int)) 3 K=K S:=λK=>by have:=Ae (l:=[x.fOpens,x.fCloses,x.fInside,S]) (i:=3) Δ K;simpa using this
 have hm:∃m,n=m+1+1+1+1+1:=⟨n-5,Ω⟩;have rl:∀K:Option Int,H0 n x a S K n 0=if u=0 then(if t=0 then(if s=0 then(if q=0 then K else some q)else some s)else some t)else some u:=λK=>by
  obtain⟨m,hm⟩:=hm;conv=>lhs;rw[show H0 n x a S K n 0=H0 n x a S K (m+1+1+1+1+1) 0 by rw[<-hm]]
  simp only[H0,A4,Ar,J,I,H,G,w0,w1,F,E,a1,a2,Z,Y,A0];simp
 have pl:∀K:Option Int,Jp n [x.fOpens,x.fCloses,x.fInside,S] a K n 0=if u=0 then(if t=0 then(if s=0 then(if q=0 then K else some q)else some s)else some t)else some u:=λK=>by
  obtain⟨m,hm⟩:=hm;conv=>lhs;rw[show Jp n [x.fOpens,x.fCloses,x.fInside,S] a K n 0=Jp n [x.fOpens,x.fCloses,x.fInside,S] a K (m+1+1+1+1+1) 0 by rw[<-hm]]
  simp only[Jp,A4,J,I,H,G,w0,w1,F,E,aA,aQ,aT,X,W,U,T];simp
 unfold Rw;have el:=zy8 n x a g.ll (λk1_0_0y=>frz 7026 <| reg <| H0 n x a k1_0_0y (Li n x (some 0) n 0) n 0) (λ_=>none) _ rfl n 0 [] Ω (by have:=g.ll;omega) Δ;simp only[aB]at el;rw[el,Q,Yt,Ak,rl,w,pl];by_cases d:u=0;rotate_left
 ·exact⟨u,by simp[d],by simp[d,A0],λh=>absurd h d⟩
 by_cases f:t=0;rotate_left
 ·exact⟨t,by simp[d,f],by simp[d,f,A0],λh=>absurd h f⟩
 by_cases o:s=0;rotate_left
 ·exact⟨s,by simp[d,f,o],by simp[d,f,o,A0],λh=>absurd h o⟩
 by_cases p:q=0;rotate_left
 ·exact⟨q,by simp[d,f,o,p],by simp[d,f,o,p,A0],λh=>absurd h p⟩
 cases sp with
 |true=>exact⟨2,by simp[d,f,o,p],by simp[d,f,o,p,A0,Az],λh=>by cases h⟩
 |false=>exact⟨0,by simp[d,f,o,p],by simp[d,f,o,p,A0,Az],λ_=>R d⟩
theorem zjv (n:Nat)(j:10000000<n)(x:Ed)(a:Aut)(ys:List Exn)(f:x.fChecks=ys.map Aw)(g:∀y∈ys,WfE y)(q:ys.length<=1100000)(P:Prop)(K K':Option Int)(s:∃r:Int,K=some r/\K'=some r/\(r=0->P)):∀(m k:Nat),k<=ys.length->ys.length<m+k->∃r:Int,Qw n x a K m (k:Int)=some r/\Hq n x a K' m (k:Int)=some r/\(r=0->P)
 |0,k,h1,t=>by omega
 |m+1,k,h1,t=>by
  unfold Qw Hq;simp only[f,aA,A4,Ar];by_cases h:k<ys.length
  ·have d:((k:Nat):Int)<((ys.length:Nat):Int):=Ω
   simp only[d,if_true];have hi:∀(Q:Exn->Option Int),idxD C7 (ys.map Aw) (k:Int) Q=Q ys[k]:=λQ=>by
    have:=Ia (l:=ys.map λy=>(0,y)) (k:=k) (by simpa using h) Q;simp only[map_map,getElem_map]at this;exact this
   rw[hi,hi];obtain⟨c,v,u⟩:=(g _ (aE h)).check n j;obtain⟨r,p,o,w⟩:=zjv n j x a ys f g q P K K' s m (k+1) Ω Ω;rw[v,u,A0,A0,Af k Ω,p,o];grind
  grind
structure EdOk (a:Aut) (x:Ed):Prop where
 frm:0<=x.fFrom/\x.fFrom<a.fStates.length
 tgt:-1<=x.fTo/\x.fTo<a.fStates.length
 var:0<=x.fVar/\x.fVar<a.fVars
 opn:∀y∈x.fOpens,0<=y/\y<a.fScopes
theorem ybp (n:Nat)(t:10000000<n)(a:Aut)(hs:0<=a.fScopes/\a.fScopes<=64)(Q:0<=a.fVars/\a.fVars<=16)(I:1<=a.fStates.length/\a.fStates.length<=256)(x:Ed)(g:WfX x)(before:Int):∃r:Int,W6 n a x before=some r/\K2 n a x before=some r/\(r=0->EdOk a x):=by
 unfold W6 K2;simp only[aA,A4,Ar,Ay,Ak,Yx,Yg,A0];have wS:aF .i64 (((a.fStates.length:Nat):Int)-1)=((a.fStates.length:Nat):Int)-1:=Cl _ Ω;have wV:aF .i64 (a.fVars-1)=a.fVars-1:=Cl _ Ω;have v:∀x:Int,(decide (x<0) || decide (15<x))=!(decide (0<=x) && decide (x<16)):=λx=>Y5 x 16
 simp only[wS,wV,Y5,v];have tailE:∃r:Int,Dx n before x a false=some r/\Dk n before x a false=some r/\(r=0->∀y∈x.fOpens,0<=y/\y<a.fScopes):=by
  unfold Dx Dk;simp only[aA,A4,Ar,Al];by_cases L:x.fFrom<before
  ·simp_all
  simp only[L,if_false];obtain⟨c,N,M⟩:=g.cond.check n t;rw[N,M,A0,A0];by_cases K:c=0;rotate_left
  ·simp_all
  simp only[K,if_true];by_cases u:64<((x.fChecks.length:Nat):Int)
  ·simp_all
  simp only[u,if_false];obtain⟨ys,A,H⟩:=g.checks;obtain⟨r,f,p,o⟩:=y95 n t a hs x g;have s:ys.length<=1100000:=by have:=g.lc;rw[A,aA]at this;exact this
  have:=zjv n t x a ys A H s (∀y∈x.fOpens,0<=y/\y<a.fScopes) (bnd (Rw n a x) λm=>some m) _ ⟨r,by rw[f,A0],p,o⟩ n 0 Ω Ω;simpa only[aB]using this
 have d:Dx n before x a true=some 2/\Dk n before x a true=some 2:=by
  unfold Dx Dk;exact⟨Aj _ _,Aj _ _⟩
 obtain⟨r,f,p,o⟩:=tailE;rw[d.1,d.2];by_cases h1:0<=x.fFrom/\x.fFrom<((a.fStates.length:Nat):Int);rotate_left
 ·have:(decide (0<=x.fFrom) && decide (x.fFrom<((a.fStates.length:Nat):Int)))=false:=by
   rw[bF,decide_eq_false_iff_not,decide_eq_false_iff_not];omega
  exact⟨2,by simp[this,Az],by simp[this,Az],λh=>by cases h⟩
 have j:(decide (0<=x.fFrom) && decide (x.fFrom<((a.fStates.length:Nat):Int)))=true:=by simp[h1.1];omega
 by_cases B:-1<=x.fTo/\x.fTo<((a.fStates.length:Nat):Int);rotate_left
 ·have E:¬x.fTo=-1:=Ω
  have D:(decide (0<=x.fTo) && decide (x.fTo<((a.fStates.length:Nat):Int)))=false:=by
   rw[bF,decide_eq_false_iff_not,decide_eq_false_iff_not];omega
  refine⟨2,by simp[j,E,D,Az],?_,λh=>by cases h⟩;by_cases z:x.fTo < -1
  ·simp[j,z,Az]
  ·have C:((a.fStates.length:Nat):Int)<=x.fTo:=Ω
   simp[j,z,C,Az]
 have G:¬x.fTo < -1:=Ω
 have F:¬((a.fStates.length:Nat):Int)<=x.fTo:=Ω
 have ok:(decide (0<=x.fVar) && decide (x.fVar<a.fVars))=true->r=0->EdOk a x:=λh J=>by
  simp only[aS,decide_eq_true_eq]at h;exact⟨⟨h1.1,h1.2⟩,⟨B.1,B.2⟩,h,o J⟩
 have w:¬x.fTo=-1->(decide (0<=x.fTo) && decide (x.fTo<((a.fStates.length:Nat):Int)))=true:=λh=>by grind
 revert ok;generalize (decide (0<=x.fVar) && decide (x.fVar<a.fVars))=P;generalize (decide (0<=x.fType) && decide (x.fType<16))=O;intro ok;simp only[j,G,F,if_false,Aj,bQ];cases P with
 |false =>
  refine⟨2,?_,by simp[Az],λh=>by cases h⟩;by_cases q:x.fTo=-1
  ·simp[q,Az]
  ·simp[q,w q,Az]
 |true =>
  cases O with
  |false =>
   refine⟨2,?_,by simp[Az,d.2],λh=>by cases h⟩;by_cases q:x.fTo=-1
   ·simp[q,Az,d.1]
   ·simp[q,w q,Az,d.1]
  |true =>
   refine⟨r,?_,by simp[Az,p],λq=>ok rfl q⟩;by_cases q:x.fTo=-1
   ·simp[q,Az,f]
   ·simp[q,w q,Az,f]
theorem zmz (n:Nat)(p:10000000<n)(a:Aut)(hs:0<=a.fScopes/\a.fScopes<=64)(o:0<=a.fVars/\a.fVars<=16)(f:1<=a.fStates.length/\a.fStates.length<=256)(j:WfA a):∀(m k:Nat) (before:Int),k<=a.fEdges.length->a.fEdges.length<m+k->(∀x∈a.fEdges.take k,EdOk a x)->∃r:Int,Qe n a (some 0) m (before,(k:Int))=some r/\Hm n a (some 0) m (before,(k:Int))=some r/\(r=0->∀x∈a.fEdges,EdOk a x)
 |0,k,before,h1,u,_=>by omega
 |m+1,k,before,h1,u,y=>by
  have t:=j.le;unfold Qe Hm;simp only[aA,A4,Ar];by_cases h:k<a.fEdges.length
  ·have d:((k:Nat):Int)<((a.fEdges.length:Nat):Int):=Ω
   simp only[d,if_true,Ae h];obtain⟨c,w,v,z⟩:=ybp n p a hs o f _ (j.ed _ (aE h)) before;rw[w,v,A0,A0,Af k Ω];by_cases g:c=0
   ·simp only[g,if_true];refine zmz n p a hs o f j m (k+1) _ Ω Ω (λx s=>?_);rw[aD h,bA,aU]at s;grind
   ·exact⟨c,by simp[g],by simp[g],λq=>absurd q g⟩
  ·have d:¬((k:Nat):Int)<((a.fEdges.length:Nat):Int):=Ω
   simp only[d,if_false];grind
theorem zjd (n:Nat)(j:10000000<n)(a:Aut)(hs:0<=a.fScopes/\a.fScopes<=64)(g:0<=a.fVars/\a.fVars<=16)(d:WfA a)(K K':Option Int)(P:Prop)(q:∃r:Int,K=some r/\K'=some r/\(r=0->P)):∀(m k:Nat),k<=a.fStates.length->a.fStates.length<m+k->∃r:Int,Qf n a K m (k:Int)=some r/\Hn n a K' m (k:Int)=some r/\(r=0->P)
 |0,k,h1,s=>by omega
 |m+1,k,h1,s=>by
  have o:=d.ls;unfold Qf Hn;simp only[aA,A4,Ar];by_cases h:k<a.fStates.length
  ·have f:((k:Nat):Int)<((a.fStates.length:Nat):Int):=Ω
   simp only[f,if_true,Ae h];obtain⟨u,t⟩:=d.st _ (aE h);obtain⟨c,w,v⟩:=y5u n j a hs g _ u t;rw[w,v,A0,A0,Af k Ω];by_cases p:c=0
   ·simp only[p,if_true];exact zjd n j a hs g d K K' P q m (k+1) Ω Ω
   simp_all
  grind
structure AOk (a:Aut):Prop where
 vars:0<=a.fVars/\a.fVars<=16
 st:1<=a.fStates.length/\a.fStates.length<=256
 ed:∀x∈a.fEdges,EdOk a x
theorem Yh (n:Nat)(p:10000000<n)(a:Aut)(f:WfA a):∃r:Int,Ff n a=some r/\Cp n a=some r/\(r=0->AOk a):=by
 have x:=f.ls;have y:=f.le;unfold Ff Cp;simp only[Ay,Ak,Yx,A0,A4];have j:H3 n a true=some 2/\E2 n a true=some 2:=by
  unfold H3 E2;exact⟨Aj _ _,Aj _ _⟩
 rw[j.1,j.2];by_cases g:0<=a.fVars/\a.fVars<=16;rotate_left
 ·refine⟨2,?_,?_,λh=>by cases h⟩
  ·have:(decide (a.fVars<0) || decide (16<a.fVars))=true:=by
    rw[aX,decide_eq_true_eq,decide_eq_true_eq];omega
   rw[this,Aj]
  simp_all
 have o:¬a.fVars<0:=Ω
 have m:¬16<a.fVars:=Ω
 by_cases hs:0<=a.fScopes/\a.fScopes<=64;rotate_left
 ·have:(decide (a.fScopes<0) || decide (64<a.fScopes))=true:=by
   rw[aX,decide_eq_true_eq,decide_eq_true_eq];omega
  refine⟨2,by simp[o,m,this,Az,j.1],?_,λh=>by cases h⟩;simp_all
 have w:¬a.fScopes<0:=Ω
 have v:¬64<a.fScopes:=Ω
 simp only[o,m,w,v,if_false,decide_false,Bool.or_false,Al];unfold H3 E2;simp only[Ay,Ak,aA,A4,Al];have q:G6 n a true=some 5/\E1 n a true=some 5:=by
  unfold G6 E1;exact⟨Aj _ _,Aj _ _⟩
 rw[q.1,q.2];by_cases h1:((a.fStates.length:Nat):Int)<1
 ·simp_all
 by_cases A:256<((a.fStates.length:Nat):Int)
 ·simp_all
 simp only[h1,A,if_false];by_cases z:2048<((a.fEdges.length:Nat):Int)
 ·simp_all
 simp only[z,decide_false];unfold G6 E1;simp only[Al];have d:1<=a.fStates.length/\a.fStates.length<=256:=Ω
 obtain⟨r,u,t,s⟩:=zmz n p a hs g d f n 0 0 Ω Ω Δ;have:=zjd n p a hs g f _ _ (AOk a) ⟨r,u,t,λh=>⟨g,d,s h⟩⟩ n 0 Ω Ω;omega
abbrev T16:=Bool×Bool×Bool×Bool×Bool×Bool×Bool×Bool×Bool×Bool×Bool×Bool×Bool×Bool×Bool×Bool
def l16 (t:T16):List Bool:=[t.1,t.2.1,t.2.2.1,t.2.2.2.1,t.2.2.2.2.1,t.2.2.2.2.2.1,t.2.2.2.2.2.2.1,t.2.2.2.2.2.2.2.1,t.2.2.2.2.2.2.2.2.1,t.2.2.2.2.2.2.2.2.2.1,t.2.2.2.2.2.2.2.2.2.2.1,t.2.2.2.2.2.2.2.2.2.2.2.1,t.2.2.2.2.2.2.2.2.2.2.2.2.1,t.2.2.2.2.2.2.2.2.2.2.2.2.2.1,t.2.2.2.2.2.2.2.2.2.2.2.2.2.2.1,t.2.2.2.2.2.2.2.2.2.2.2.2.2.2.2]
theorem Gt (t:T16):(l16 t).length=16:=rfl
def own1 (i:Nat)(e:Exn):Prop:=usV e.fOp=true/\e.fVar=(i:Int)
theorem yb2 (n:Nat)(e:Exn)(t:T16):∃d:T16,X2 n e t=some (0,d)/\∀i,i<16->((l16 d)[i]? = some true ↔ (l16 t)[i]? = some true\/own1 i e):=by
 unfold X2;rw[y7g,A0];simp only[A4,Ot];by_cases g:usV e.fOp=true;rotate_left
 ·have f:usV e.fOp=false:=by cases h:usV e.fOp<;>simp_all
  rw[f,Al];exact⟨t,rfl,λi _=>⟨aK,λh=>h.elim id (λh=>absurd h.1 g)⟩⟩
 rw[g,Aj];have r:¬(0<=e.fVar/\e.fVar<16)->∀i,i<16->((l16 t)[i]? = some true ↔ (l16 t)[i]? = some true\/own1 i e):=λh i hi=>⟨aK,λp=>p.elim id (λp=>absurd p.2 Ω)⟩
 by_cases q:0<=e.fVar;rotate_left
 ·rw[if_neg q];simp_all
 rw[if_pos q];by_cases h1:e.fVar<16;rotate_left
 ·rw[if_neg h1];simp_all
 rw[if_pos h1];have key:∀(j:Nat) (d:T16),e.fVar=(j:Int)->j<16->l16 d=(l16 t).set j true->∀i,i<16->((l16 d)[i]? = some true ↔ (l16 t)[i]? = some true\/own1 i e):=λj d s m hs i hi=>by
  rw[hs,getElem?_set];unfold own1;by_cases o:j=i
  ·subst o;simp[Gt,m,g,s]
  grind
 have:e.fVar=0\/e.fVar=1\/e.fVar=2\/e.fVar=3\/e.fVar=4\/e.fVar=5\/e.fVar=6\/e.fVar=7\/e.fVar=8\/e.fVar=9\/e.fVar=10\/e.fVar=11\/e.fVar=12\/e.fVar=13\/e.fVar=14\/e.fVar=15:=Ω
 rcases this with h|h|h|h|h|h|h|h|h|h|h|h|h|h|h|h
 ·rw[h];exact⟨_,rfl,key 0 _ h Θ rfl⟩
 ·rw[h];exact⟨_,rfl,key 1 _ h Θ rfl⟩
 ·rw[h];exact⟨_,rfl,key 2 _ h Θ rfl⟩
 ·rw[h];exact⟨_,rfl,key 3 _ h Θ rfl⟩
 ·rw[h];exact⟨_,rfl,key 4 _ h Θ rfl⟩
 ·rw[h];exact⟨_,rfl,key 5 _ h Θ rfl⟩
 ·rw[h];exact⟨_,rfl,key 6 _ h Θ rfl⟩
 ·rw[h];exact⟨_,rfl,key 7 _ h Θ rfl⟩
 ·rw[h];exact⟨_,rfl,key 8 _ h Θ rfl⟩
 ·rw[h];exact⟨_,rfl,key 9 _ h Θ rfl⟩
 ·rw[h];exact⟨_,rfl,key 10 _ h Θ rfl⟩
 ·rw[h];exact⟨_,rfl,key 11 _ h Θ rfl⟩
 ·rw[h];exact⟨_,rfl,key 12 _ h Θ rfl⟩
 ·rw[h];exact⟨_,rfl,key 13 _ h Θ rfl⟩
 ·rw[h];exact⟨_,rfl,key 14 _ h Θ rfl⟩
 ·rw[h];exact⟨_,rfl,key 15 _ h Θ rfl⟩
theorem ydf {x y:Exn}(h:Aw x=Aw y):x=y:=by
 have:=congrArg C7 h;rw[Tc,Tc]at this;exact bD this
theorem y9i (m:e.fArgs=l.map (λp=>Aw p.2)):Occ i e ↔ own1 i e\/∃p∈l,Occ i p.2:=by
 constructor
 ·intro h;cases h with
  |here _ h j=>exact aK ⟨h,j⟩
  |sub _ y f h =>
   rw[m]at f;obtain⟨p,g,d⟩:=mem_map.1 f;exact aP ⟨p,g,by rw[ydf d];exact h⟩
 ·rintro (h|⟨p,g,h⟩)
  ·exact .here _ h.1 h.2
  ·exact .sub _ p.2 (by grind) h
theorem zjb (n:Nat)(l:List (Nat×Exn))(e:Exn)(j:e.fArgs=l.map (λp=>Aw p.2))(r:l.length<=4000000)
  (g:∀p∈l,∀t:T16,∃d:T16,K1 n p.2 t=some (0,d)/\∀i,i<16->((l16 d)[i]? = some true ↔ (l16 t)[i]? = some true\/Occ i p.2)) (f:T16) :
  ∀(m k:Nat) (t:T16),k<=l.length->l.length<m+k->(∀i,i<16->((l16 t)[i]? = some true ↔ (l16 f)[i]? = some true\/own1 i e\/∃p∈l.take k,Occ i p.2)) ->
   ∃d:T16,Sh n (K1 n) e (λk1_0_0y0 k1_0_0y1 k1_0_0y2 k1_0_0y3 k1_0_0y4 k1_0_0y5 k1_0_0y6 k1_0_0y7 k1_0_0y8 k1_0_0y9 k1_0_0y10 k1_0_0y11 k1_0_0y12 k1_0_0y13 k1_0_0y14 k1_0_0y15=>some (0,(k1_0_0y0,k1_0_0y1,k1_0_0y2,k1_0_0y3,k1_0_0y4,k1_0_0y5,k1_0_0y6,k1_0_0y7,k1_0_0y8,k1_0_0y9,k1_0_0y10,k1_0_0y11,k1_0_0y12,k1_0_0y13,k1_0_0y14,k1_0_0y15))) m ((k:Int),t)=some (0,d)/\∀i,i<16->((l16 d)[i]? = some true ↔ (l16 f)[i]? = some true\/own1 i e\/∃p∈l,Occ i p.2)
 |0,k,t,h1,u,_=>by omega
 |m+1,k,t,h1,u,s=>by
  unfold Sh;simp only[j,aA,A4,Ar];by_cases h:k<l.length
  ·rw[if_pos Ω,Ia h];obtain⟨d,q,o⟩:=g l[k] (aE h) t;rw[q,Ck,if_pos rfl,Af k Ω];refine zjb n l e j r g f m (k+1) d Ω Ω (λi hi=>?_);rw[o i hi,s i hi,aD h];simp only[bA,aU];grind
  ·rw[if_neg Ω];grind
theorem y5f:∀(s:Nat) (e:Exn),ETr s e->s<=4000000->∀n,s+1<n->∀t:T16,∃f:T16,K1 n e t=some (0,f)/\∀i,i<16->((l16 f)[i]? = some true ↔ (l16 t)[i]? = some true\/Occ i e):=by
 intro s
 induction s using Nat.strongRecOn with
 |ind s IH =>
  intro e v hs n w t;cases v with
  |mk l e h j =>
   obtain⟨d,rfl⟩:∃d,n=d + 1:=⟨n-1,Ω⟩;have x:=U3 (l:=l) (λp g=>(h p g).pos);simp only[K1];obtain⟨m,u,r⟩:=yb2 d e t;rw[u,Ck,Ar,A4,if_pos rfl];obtain⟨f,q,o⟩:=zjb d l e j Ω (λp g t=>by
    have:=Kd g;exact IH p.1 Ω p.2 (h p g) Ω d Ω t) t d 0 m Ω Ω (λi hi=>by
     rw[r i hi];simp)
   exact⟨f,q,λi hi=>by rw[o i hi,y9i j]⟩
def Fz (t:T16)(k:Nat):List Int:=((l16 t).zipIdx.drop k).filterMap (λp=>if p.1 then some (p.2:Int)else none)
theorem y6j (t:T16)(k:Nat)(h:k<16):Fz t k=(if(l16 t)[k]'(by rw[Gt];exact h)=true then[(k:Int)]else[])++Fz t (k+1):=by
 unfold Fz;have d:k<(l16 t).zipIdx.length:=by rw[aV,Gt];exact h
 rw[drop_eq_getElem_cons d,filterMap_cons];grind
theorem zjc (n:Nat)(t:T16)(K:List Int->Option (List Int)):∀(m k:Nat) (out:List Int),k<=16->16<m+k->out.length<=k->Bv n (0,t) K m ((k:Int),out)=K (out++Fz t k)
 |0,k,out,h1,g,_=>by omega
 |m+1,k,out,h1,g,j=>by
  by_cases h:k=16
  ·subst h;unfold Bv;simp only[A4];rw[if_neg Ω];have:Fz t 16=[]:=by unfold Fz;rw[aC (by rw[aV,Gt];omega)];rfl
   rw[this,bB]
  ·have d:k<16:=Ω
   have iha:=zjc n t K m (k+1) (out++[(k:Int)]) Ω Ω Ψ;have ihb:=zjc n t K m (k+1) out Ω Ω Ω;rw[y6j t k d];have step:∀(b:Bool),(l16 t)[k]'(by rw[Gt];exact d)=b->reg (cnd b (app out [(k:Int)] 8 λx=>Bv n (0,t) K m ((aF .i64 ((k:Int)+1)),x)) (Bv n (0,t) K m ((aF .i64 ((k:Int)+1)),out)))=K (out++((if(l16 t)[k]'(by rw[Gt];exact d)=true then[(k:Int)]else[])++Fz t (k+1))):=λb f=>by
    rw[f,Ak,Bo Ψ Ω,Af k Ω,iha,ihb];cases b
    ·rw[Al];simp
    ·rw[Aj];simp
   unfold Bv;simp only[A4,Ot];have:k=0\/k=1\/k=2\/k=3\/k=4\/k=5\/k=6\/k=7\/k=8\/k=9\/k=10\/k=11\/k=12\/k=13\/k=14\/k=15:=Ω
   rcases this with rfl|rfl|rfl|rfl|rfl|rfl|rfl|rfl|rfl|rfl|rfl|rfl|rfl|rfl|rfl|rfl<;>exact step _ rfl
theorem y9r (t:T16)(k:Nat)(v:Int):v∈Fz t k ↔ ∃i:Nat,k<=i/\i<16/\v=(i:Int)/\(l16 t)[i]? = some true:=by
 unfold Fz;rw[mem_filterMap];constructor
 ·rintro ⟨⟨b,i⟩,hm,g⟩;obtain⟨j,f,d⟩:=mem_iff_getElem.1 hm;rw[getElem_drop,getElem_zipIdx]at d;injection d with o n
  rw[bO,aV,Gt]at f;grind
 ·rintro ⟨i,h1,m,rfl,h⟩;refine⟨(true,i),?_,Δ⟩;refine mem_iff_getElem.2 ⟨i-k,by rw[bO,aV,Gt];omega,?_⟩;grind
theorem zvz (g:WfE e)(n:Nat)(o:10000000<n):∃vs:List Int,Np n e=some vs/\vs.length<=16/\∀v,v∈vs ↔ ∃i:Nat,i<16/\v=(i:Int)/\Occ i e:=by
 obtain⟨z,f,j⟩:=g;obtain⟨t,d,m⟩:=y5f z e j f n Ω (false,false,false,false,false,false,false,false,false,false,false,false,false,false,false,false);have p:∀i:Nat,¬(l16 (false,false,false,false,false,false,false,false,false,false,false,false,false,false,false,false))[i]? = some true:=λi h=>by
  obtain⟨hi,h⟩:=List.getElem?_eq_some_iff.1 h;rw[Gt]at hi;have:i=0\/i=1\/i=2\/i=3\/i=4\/i=5\/i=6\/i=7\/i=8\/i=9\/i=10\/i=11\/i=12\/i=13\/i=14\/i=15:=Ω
  rcases this with rfl|rfl|rfl|rfl|rfl|rfl|rfl|rfl|rfl|rfl|rfl|rfl|rfl|rfl|rfl|rfl<;>cases h
 refine⟨Fz t 0,?_,?_,λv=>?_⟩
 ·unfold Np;rw[d,Ck];have:=zjc n t (λy=>some y) n 0 [] Ω Ω Δ;simpa using this
 ·unfold Fz;refine Nat.le_trans (bI _ _) ?_;rw[bO,aV,Gt];omega
 ·rw[y9r];grind
theorem Yo {len:Nat}(h:i<=len)(k:Nat->Option β):nle (i:Int) len k=k i:=by unfold nle;simp[h]
theorem y7s {a b:Nat}(h:a<=b)(x:Option β):gle a b x=x:=by unfold gle;simp[h]
theorem y44 {l:List α}{lo:Nat}(h:lo<=l.length)(z:α)(k:List α->Option β):clr l lo z k=k (clrL l lo z):=by unfold clr;simp[h]
theorem zz3 (i:Nat)(x:Option β):frb i x=x:=by unfold frb;rfl
theorem zkq (l:List α)(lo:Nat)(z:α)(h:lo<=l.length):(clrL l lo z).take lo=l.take lo:=by
 unfold clrL;simp_all
theorem zq6 (l:List α)(lo:Nat)(z:α)(h:lo<=l.length):(clrL l lo z).length=l.length:=by
 unfold clrL;simp;omega
theorem y4x (k:Nat)(h:1<=k)(d:k<=1000000000000):aF .i64 ((k:Int)-1)=((k-1:Nat):Int):=by rw[Cl _ Ω];omega
theorem zy0 (n:Nat)(a b:Bh):S1 n a b=some (rCmp a b):=by
 unfold S1 rCmp or3 cmpI;simp only[A4,Ar];grind
theorem y60 (n:Nat)(a b:Bd):Vw n a b=some (Dq a b):=by
 unfold Vw;rw[zy0,A0];simp only[A4,Ar,Dq,or2];have e:rCmp ⟨a.fRef.fTime,a.fRef.fSource,a.fRef.fSeq⟩ ⟨b.fRef.fTime,b.fRef.fSource,b.fRef.fSeq⟩=rCmp a.fRef b.fRef:=rfl;rw[e];unfold cmpI;grind
theorem zy2 (n:Nat)(b a:Ma)(j:b.fBindings.length<=1000000000)(f:a.fBindings.length<=1000000000)(K:Option Int)(g:K=if a.fBindings.length<b.fBindings.length then some (-1)else if b.fBindings.length<a.fBindings.length then some 1 else some 0):∀(m k:Nat),k<=a.fBindings.length->k<=b.fBindings.length->a.fBindings.length<m+k ->
  Iv n b a K m k=some (lexC Dq (a.fBindings.drop k) (b.fBindings.drop k))
 |0,k,h1,_,o=>by omega
 |m+1,k,h1,p,o=>by
  unfold Iv;simp only[Ay,Ak,Kx,aA,A4,Aj,Al,Ar];by_cases h:k<a.fBindings.length
  ·rw[if_pos Ω];by_cases d:k<b.fBindings.length
   ·rw[if_pos Ω,Ae h,Ae d,B6 _ k h,B6 _ k d];rw[y60,A0,Af k Ω,zy2 n b a j f K g m (k+1) Ω Ω Ω];show _=some (or2 (Dq _ _) _);unfold or2;split<;>rfl
   ·rw[if_neg Ω,g,if_neg Ω,if_pos Ω,B6 _ k h,aC (by omega:b.fBindings.length<=k)];rfl
  ·rw[if_neg Ω,g,aC (by omega:a.fBindings.length<=k)];by_cases d:a.fBindings.length<b.fBindings.length
   ·rw[if_pos d,B6 _ k (by omega:k<b.fBindings.length)];rfl
   ·rw[if_neg d,if_neg Ω,aC Ω];rfl
theorem y8x (n:Nat)(a b:Ma)(g:a.fBindings.length<n)(f:b.fBindings.length<=1000000000)(d:a.fBindings.length<=1000000000):Lx n a b=some (B7 a b):=by
 unfold Lx;have:=zy2 n b a f d _ rfl n 0 Ω Ω Ω;simp only[aB,aG]at this;rw[show B7 a b=lexC Dq a.fBindings b.fBindings from rfl,<-this];congr 1;simp only[aA,A4];simp_all
theorem zy4 (n:Nat)(b a:Cf)(j:b.fStarts.length<=1000000000)(f:a.fStarts.length<=1000000000)(K:Option Int)(g:K=if a.fStarts.length<b.fStarts.length then some (-1)else if b.fStarts.length<a.fStarts.length then some 1 else some 0):∀(m k:Nat),k<=a.fStarts.length->k<=b.fStarts.length->a.fStarts.length<m+k ->
  Ir n b a K m k=some (lexC El (a.fStarts.drop k) (b.fStarts.drop k))
 |0,k,h1,_,o=>by omega
 |m+1,k,h1,p,o=>by
  unfold Ir;simp only[Ay,Ak,Kv,Iu,aA,A4,Aj,Al,Ar];by_cases h:k<a.fStarts.length
  ·rw[if_pos Ω];by_cases d:k<b.fStarts.length
   ·rw[if_pos Ω,Ae h,Ae d,B6 _ k h,B6 _ k d];rw[Af k Ω,zy4 n b a j f K g m (k+1) Ω Ω Ω];show _=some (or2 (El _ _) _);unfold El or2 cmpI;generalize a.fStarts[k]=x;generalize b.fStarts[k]=y;simp only[Az,bR,aS,decide_eq_true_eq];grind
   ·rw[if_neg Ω,g,if_neg Ω,if_pos Ω,B6 _ k h,aC (by omega:b.fStarts.length<=k)];rfl
  ·rw[if_neg Ω,g,aC (by omega:a.fStarts.length<=k)];by_cases d:a.fStarts.length<b.fStarts.length
   ·rw[if_pos d,B6 _ k (by omega:k<b.fStarts.length)];rfl
   ·rw[if_neg d,if_neg Ω,aC Ω];rfl
theorem yb4 (n:Nat)(a b:Cf)(h:cfOk a=true)(g:cfOk b=true)(f:a.fBindings.length<n)(d:a.fStarts.length<n):Qv n a b=some (Bp a b):=by
 obtain⟨p,o⟩:=(Fm a).1 h;obtain⟨m,j⟩:=(Fm b).1 g;unfold Qv;rw[y8x n _ _ f m p,A0];have:=zy4 n b a j o _ rfl n 0 Ω Ω Ω;simp only[aB,aG]at this;simp only[aA,A4,Ar];have e:(if(a.fStarts.length:Int)<(b.fStarts.length:Int)then some (-1:Int)else if(b.fStarts.length:Int)<(a.fStarts.length:Int)then some 1 else some 0)=(if a.fStarts.length<b.fStarts.length then some (-1)else if b.fStarts.length<a.fStarts.length then some 1 else some 0):=by
  simp_all
 rw[e,this];show _=some (or3 (cmpI a.fState b.fState) (B7 ⟨a.fBindings⟩ ⟨b.fBindings⟩) _);unfold or3 cmpI;grind
theorem ybo (n:Nat)(a b:Cf)(f:cfOk a=true)(d:cfOk b=true)(o:1000000000<n):T3 n a b=some (decide (a=b)):=by
 unfold T3;obtain⟨m,j⟩:=(Fm a).1 f;obtain⟨h,g⟩:=(Fm b).1 d;rw[ydc n a b Ω Ω Ω h m g j];rw[A0];congr 1;exact decide_eq_decide.2 (Ex.zero a b)
theorem zjt (n:Nat)(B:1000000000<n)(l:List Cf)(o:∀x∈l,cfOk x=true)(G:l.length<=1000000000)(d:Nat)(F:1<=d)(K:Int->List Cf->Option (List Cf))(r:Option (List Cf))
  (C:∀(i:Nat) (f:List Cf),f.length=l.length->i<=l.length->f.take i=dd l->K (i:Int) f=r) :
  ∀(m k j:Nat) (f:List Cf),1<=j->k<=d+j-1->d+j<=l.length->l.length<m+j+d->f.length=l.length->f.take k=dd (l.take (d+j))->f.drop (d+j-1)=l.drop (d+j-1)->M3 n d K m ((k:Int),(j:Int),f)=r
 |0,k,j,f,I,h1,A,H,y,w,D=>by omega
 |m+1,k,j,f,I,h1,A,H,y,w,D=>by
  unfold M3;simp only[aA];rw[y7s Ω];simp only[A4];by_cases h:d+j<l.length
  ·have J:∀i (h1:d+j-1<=i) (A:i<l.length),∃H:i<f.length,f[i]=l[i]:=λi h1 A=>by
    refine⟨Ω,?_⟩;have:=congrArg (λq=>q[i-(d+j-1)]?) D;simp only[getElem?_drop,show d+j-1+(i-(d+j-1))=i by omega]at this;rw[aL Ω,aL A]at this;exact bD this
   obtain⟨M,L⟩:=J (d+j) Ω h;obtain⟨P,O⟩:=J (d+(j-1)) Ω Ω;rw[if_pos Ω,Cs Ω,Cu M,y4x j I Ω,Cs Ω,Cu P,L,O];rw[ybo n _ _ (o _ (aE _)) (o _ (aE _)) B,A0,Ar,A4,Af j Ω];have s:l.take (d+(j+1))=l.take (d+j)++[l[d+j]]:=by rw[show d+(j+1)=(d+j)+1 by omega,aD h]
   have p:l.take (d+j)≠[]:=by
    intro e;have:=congrArg length e;rw[aJ,aT]at this;omega
   have g:(l.take (d+j)).getLast p=l[d+(j-1)]:=by
    rw[aR];simp only[aO];congr 1;simp only[aJ];omega
   have u:f.drop (d+(j+1)-1)=l.drop (d+(j+1)-1):=by
    have:=congrArg List.tail D;simp only[tail_drop]at this;rw[show d+(j+1)-1=d+j-1+1 by omega];exact this
   by_cases v:l[d+j]=l[d+(j-1)]
   ·rw[if_pos v];refine zjt n B l o G d F K r C m k (j+1) f Ω Ω Ω Ω y ?_ u;rw[s,Ke _ _ p,g,if_pos v,bB,w]
   ·rw[if_neg v,Cs Ω,Cu M,Cs Ω,E7 Ω,Af k Ω];have t:∀z:Cf,(f.set k z).take (k+1)=f.take k++[z]:=λz=>by
     have N:k<f.length:=Ω
     rw[aD (by simpa using N),bN,take_set_of_le (bH _)]
    have E:f[d+j]=l[d+j]:=L;refine zjt n B l o G d F K r C m (k+1) (j+1) _ Ω Ω Ω Ω (by simpa using y) ?_ ?_
    ·rw[t,s,Ke _ _ p,g,if_neg v,w];exact congrArg (λq=>dd (l.take (d+j))++[q]) E
    ·rw[drop_set_of_lt Ω];exact u
  ·rw[if_neg Ω];refine C k f y Ω ?_;rw[w,aN Ω]
theorem zsr (n:Nat)(u:1000000000<n)(l:List Cf)(g:∀x∈l,cfOk x=true)(y:l.length<=1000000000)(v:1<=l.length):∀(m k:Nat),1<=k->k<=l.length->l.length<m+k->dd (l.take k)=l.take k->R1 n l (some l) m (k:Int)=some (dd l)
 |0,k,w,h1,A,_=>by omega
 |m+1,k,w,h1,A,t=>by
  unfold R1;simp only[aA,A4];by_cases h:k<l.length
  ·rw[if_pos Ω,Cs h,Cu h,y4x k w Ω,Cs Ω,Cu Ω];rw[ybo n _ _ (g _ (aE _)) (g _ (aE _)) u,A0,A4,Af k Ω];have r:l.take (k+1)=l.take k++[l[k]]:=aD h;have p:l.take k≠[]:=by
    intro e;have:=congrArg length e;rw[aJ,aT]at this;omega
   have f:(l.take k).getLast p=l[k-1]:=by
    rw[aR];simp only[aO];congr 1;simp only[aJ];omega
   by_cases s:l[k]=l[k-1]
   ·rw[if_pos s,Yo Ω];have:=zjt n u l g y k w (λk2_1_0y0 k2_1_0y1=>nle k2_1_0y0 k2_1_0y1.length λo =>
     clr k2_1_0y1 o (⟨0,[],[]⟩:A1) λj =>
     sls j 0 k2_1_0y0 λd=>some d) (some (dd l)) (λi q C hi z=>by
      show nle (i:Int) q.length (λo=>clr q o (⟨0,[],[]⟩:A1) λj=>sls j 0 (i:Int) λd=>some d)=some (dd l);rw[Yo Ω,y44 Ω];have:=Fu (l:=clrL q i (⟨0,[],[]⟩:A1)) (a:=0) (b:=i) (aW _) (by rw[zq6 _ _ _ Ω];omega) (λd=>some d);simp only[aB]at this;rw[this,aG,zkq _ _ _ Ω,z]) n k 1 l Ω Ω Ω Ω rfl (by rw[r,Ke _ _ p,f,if_pos s,bB,t]) rfl
    have B:((1:Nat):Int)=1:=rfl;rw[B]at this;exact this
   ·rw[if_neg s];refine zsr n u l g y v m (k+1) Ω Ω Ω ?_;rw[r,Ke _ _ p,f,if_neg s,t]
  ·rw[if_neg Ω];rw[aN Ω]at t;rw[t]
theorem ybr (n:Nat)(f:1000000000<n)(l:List Cf)(d:∀x∈l,cfOk x=true)(g:l.length<=1000000000):Wb n l=some (dd l):=by
 unfold Wb;simp only[aA,A4];by_cases h:l.length<2
 ·rw[if_pos Ω]
  match l,h with
  |[],_=>rfl
  |[x],_=>rfl
 ·rw[if_neg Ω];refine zsr n f l d g Ω n 1 Ω Ω Ω ?_
  match l,h with
  |[],h=>exact absurd Δ h
  |[x],h=>exact absurd Δ h
  |x::y::q,_=>rfl
theorem y8r (n:Nat)(j:1000000000<n)(l:List Cf)(d:∀x∈l,cfOk x=true)(g:l.length<=1000000000):Tp n l=some (setL Bp l):=by
 unfold Tp;rw[zxp Ex n l d g];simp only[zkw,zz3,Ak];have f:=O9 Bp l;rw[ybr n j _ (λx h=>d x (f.mem_iff.1 h)) (by rw[f.length_eq];exact g),Ck,y3s Ex]
theorem zrz (n:Nat)(q:1000000000<n)(x:Cf)(p:cfOk x=true)(l:List Cf)(d:∀x∈l,cfOk x=true)(s:l.length<=1000000)(K:Int->Option (List Cf))(r:Option (List Cf))
  (j:∀i:Nat,i<=l.length->(∀y∈l.take i,Bp y x<0)->(∀h:i<l.length,¬Bp l[i] x<0)->K i=r):∀(m k:Nat),k<=l.length->l.length<m+k->(∀y∈l.take k,Bp y x<0)->Jf n x l K m (k:Int)=r
 |0,k,h1,t,_=>by omega
 |m+1,k,h1,t,o=>by
  unfold Jf;simp only[Ay,Ak,M9,aA,A4,Al];by_cases h:k<l.length
  ·rw[if_pos Ω,Ae h,yb4 n _ x (d _ (aE h)) p (by have:=(Fm _).1 (d _ (aE h));omega) (by have:=(Fm _).1 (d _ (aE h));omega),A0];by_cases g:Bp l[k] x<0
   ·rw[if_pos g,Af k Ω];refine zrz n q x p l d s K r j m (k+1) Ω Ω (λy f=>?_);rw[aD h,bA,aU]at f;rcases f with f|f
    ·exact o y f
    ·rw[f];exact g
   ·rw[if_neg g];exact j k h1 o (λ_=>g)
  ·rw[if_neg Ω];exact j k h1 o (λu=>absurd u h)
theorem zz1 (x:Cf):∀(l:List Cf) (i:Nat),i<=l.length->(∀y∈l.take i,Bp y x<0)->(∀h:i<l.length,¬Bp l[i] x<0)->insU Bp x l=if∃h:i<l.length,Bp l[i] x=0 then l else l.take i++x::l.drop i
 |[],i,h1,_,_=>by
  have:i=0:=by simpa using h1
  subst this;simp[insU]
 |y::l,0,_,_,d=>by
  have:=d Δ;simp only[bL]at this;unfold insU;rw[if_neg this];simp_all
 |y::l,i+1,h1,f,d=>by
  have j:=f y Δ;unfold insU;rw[if_pos j,zz1 x l i (by simpa using h1) (λz g=>f z (by simp[g])) (λh=>by simp_all)];by_cases q:∃h:i<l.length,Bp l[i] x=0;all_goals simp_all
theorem y2c (n:Nat)(u:1000000000<n)(x:Cf)(r:cfOk x=true)(l:List Cf)(d:∀x∈l,cfOk x=true)(v:l.length<=1000000):N7 n l x=some (insU Bp x l):=by
 unfold N7;refine zrz n u x r l d v _ _ (λi hi h1 w=>?_) n 0 Ω Ω Δ;rw[zz1 x l i hi h1 w];simp only[Ay,Ak,Mb,aA,A4,Al];have p:∀z:Cf,z=x->(sls l 0 (i:Int) λo=>app ([]:List Cf) o 56 λm=>app m [z] 56 λj=>sls l (i:Int) ((l.length:Nat):Int) λg=>app j g 56 λf=>some f)=some (l.take i++x::l.drop i):=λz t=>by
  subst t;have s:=Fu (l:=l) (a:=0) (b:=i) (aW _) hi (λo=>app ([]:List Cf) o 56 λm=>app m [z] 56 λj=>sls l (i:Int) ((l.length:Nat):Int) λg=>app j g 56 λf=>some f);simp only[aB]at s;rw[s,aG,Bo Ψ Ω,nil_append,Bo Ψ Ω,Fu hi (bH _),Bo Ψ Ω,take_length];simp
 by_cases h:i<l.length
 ·rw[if_pos Ω,Ae h,yb4 n _ x (d _ (aE h)) r (by have:=(Fm _).1 (d _ (aE h));omega) (by have:=(Fm _).1 (d _ (aE h));omega),A0];by_cases q:Bp l[i] x=0;all_goals simp_all
 grind
theorem zyz {x:Cf}(f:cfOk x=true){l:List Cf}(g:∀y∈l,cfOk y=true):∀y∈insU Bp x l,cfOk y=true:=λy d=>by
 rcases(Yk Ex x y l).1 d with h|h
 all_goals simp_all
theorem y5d {s l:List Cf}(hs:∀y∈s,cfOk y=true)(f:∀y∈l,cfOk y=true):∀y∈puts Bp s l,cfOk y=true:=λy d=>by
 rcases(Ty Ex y l s).1 d with h|h
 ·exact hs y h
 ·exact f y h
theorem ybn (n:Nat)(a b:Ma)(d:maOk a=true)(g:maOk b=true)(f:1000000000<n):T2 n a b=some (decide (a=b)):=by
 unfold T2;rw[f_ma n _ _ (by have:=(Ew _).1 d;exact aY this f) Ω ((Ew _).1 g) ((Ew _).1 d)];rw[A0];congr 1;exact decide_eq_decide.2 (Dp.zero a b)
theorem zjs (n:Nat)(B:1000000000<n)(l:List Ma)(o:∀x∈l,maOk x=true)(G:l.length<=1000000000)(d:Nat)(F:1<=d)(K:Int->List Ma->Option (List Ma))(r:Option (List Ma))
  (C:∀(i:Nat) (f:List Ma),f.length=l.length->i<=l.length->f.take i=dd l->K (i:Int) f=r) :
  ∀(m k j:Nat) (f:List Ma),1<=j->k<=d+j-1->d+j<=l.length->l.length<m+j+d->f.length=l.length->f.take k=dd (l.take (d+j))->f.drop (d+j-1)=l.drop (d+j-1)->Kq n d K m ((k:Int),(j:Int),f)=r
 |0,k,j,f,I,h1,A,H,y,w,D=>by omega
 |m+1,k,j,f,I,h1,A,H,y,w,D=>by
  unfold Kq;simp only[aA];rw[y7s Ω];simp only[A4];by_cases h:d+j<l.length
  ·have J:∀i (h1:d+j-1<=i) (A:i<l.length),∃H:i<f.length,f[i]=l[i]:=λi h1 A=>by
    refine⟨Ω,?_⟩;have:=congrArg (λq=>q[i-(d+j-1)]?) D;simp only[getElem?_drop,show d+j-1+(i-(d+j-1))=i by omega]at this;rw[aL Ω,aL A]at this;exact bD this
   obtain⟨M,L⟩:=J (d+j) Ω h;obtain⟨P,O⟩:=J (d+(j-1)) Ω Ω;rw[if_pos Ω,Cs Ω,Cu M,y4x j I Ω,Cs Ω,Cu P,L,O];rw[ybn n _ _ (o _ (aE _)) (o _ (aE _)) B,A0,Ar,A4,Af j Ω];have s:l.take (d+(j+1))=l.take (d+j)++[l[d+j]]:=by rw[show d+(j+1)=(d+j)+1 by omega,aD h]
   have p:l.take (d+j)≠[]:=by
    intro e;have:=congrArg length e;rw[aJ,aT]at this;omega
   have g:(l.take (d+j)).getLast p=l[d+(j-1)]:=by
    rw[aR];simp only[aO];congr 1;simp only[aJ];omega
   have u:f.drop (d+(j+1)-1)=l.drop (d+(j+1)-1):=by
    have:=congrArg List.tail D;simp only[tail_drop]at this;rw[show d+(j+1)-1=d+j-1+1 by omega];exact this
   by_cases v:l[d+j]=l[d+(j-1)]
   ·rw[if_pos v];refine zjs n B l o G d F K r C m k (j+1) f Ω Ω Ω Ω y ?_ u;rw[s,Ke _ _ p,g,if_pos v,bB,w]
   ·rw[if_neg v,Cs Ω,Cu M,Cs Ω,E7 Ω,Af k Ω];have t:∀z:Ma,(f.set k z).take (k+1)=f.take k++[z]:=λz=>by
     have N:k<f.length:=Ω
     rw[aD (by simpa using N),bN,take_set_of_le (bH _)]
    have E:f[d+j]=l[d+j]:=L;refine zjs n B l o G d F K r C m (k+1) (j+1) _ Ω Ω Ω Ω (by simpa using y) ?_ ?_
    ·rw[t,s,Ke _ _ p,g,if_neg v,w];exact congrArg (λq=>dd (l.take (d+j))++[q]) E
    ·rw[drop_set_of_lt Ω];exact u
  ·rw[if_neg Ω];refine C k f y Ω ?_;rw[w,aN Ω]
theorem zsq (n:Nat)(u:1000000000<n)(l:List Ma)(g:∀x∈l,maOk x=true)(y:l.length<=1000000000)(v:1<=l.length):∀(m k:Nat),1<=k->k<=l.length->l.length<m+k->dd (l.take k)=l.take k->Pa n l (some l) m (k:Int)=some (dd l)
 |0,k,w,h1,A,_=>by omega
 |m+1,k,w,h1,A,t=>by
  unfold Pa;simp only[aA,A4];by_cases h:k<l.length
  ·rw[if_pos Ω,Cs h,Cu h,y4x k w Ω,Cs Ω,Cu Ω];rw[ybn n _ _ (g _ (aE _)) (g _ (aE _)) u,A0,A4,Af k Ω];have r:l.take (k+1)=l.take k++[l[k]]:=aD h;have p:l.take k≠[]:=by
    intro e;have:=congrArg length e;rw[aJ,aT]at this;omega
   have f:(l.take k).getLast p=l[k-1]:=by
    rw[aR];simp only[aO];congr 1;simp only[aJ];omega
   by_cases s:l[k]=l[k-1]
   ·rw[if_pos s,Yo Ω];have:=zjs n u l g y k w (λk2_1_0y0 k2_1_0y1=>nle k2_1_0y0 k2_1_0y1.length λo =>
     clr k2_1_0y1 o (⟨[]⟩:Ac) λj =>
     sls j 0 k2_1_0y0 λd=>some d) (some (dd l)) (λi q C hi z=>by
      show nle (i:Int) q.length (λo=>clr q o (⟨[]⟩:Ac) λj=>sls j 0 (i:Int) λd=>some d)=some (dd l);rw[Yo Ω,y44 Ω];have:=Fu (l:=clrL q i (⟨[]⟩:Ac)) (a:=0) (b:=i) (aW _) (by rw[zq6 _ _ _ Ω];omega) (λd=>some d);simp only[aB]at this;rw[this,aG,zkq _ _ _ Ω,z]) n k 1 l Ω Ω Ω Ω rfl (by rw[r,Ke _ _ p,f,if_pos s,bB,t]) rfl
    have B:((1:Nat):Int)=1:=rfl;rw[B]at this;exact this
   ·rw[if_neg s];refine zsq n u l g y v m (k+1) Ω Ω Ω ?_;rw[r,Ke _ _ p,f,if_neg s,t]
  ·rw[if_neg Ω];rw[aN Ω]at t;rw[t]
theorem ybq (n:Nat)(f:1000000000<n)(l:List Ma)(d:∀x∈l,maOk x=true)(g:l.length<=1000000000):V3 n l=some (dd l):=by
 unfold V3;simp only[aA,A4];by_cases h:l.length<2
 ·rw[if_pos Ω]
  match l,h with
  |[],_=>rfl
  |[x],_=>rfl
 ·rw[if_neg Ω];refine zsq n f l d g Ω n 1 Ω Ω Ω ?_
  match l,h with
  |[],h=>exact absurd Δ h
  |[x],h=>exact absurd Δ h
  |x::y::q,_=>rfl
theorem y20 (n:Nat)(j:1000000000<n)(l:List Ma)(d:∀x∈l,maOk x=true)(g:l.length<=1000000000):Nk n l=some (setL B7 l):=by
 unfold Nk;rw[zxp Dp n l d g];simp only[zkw,zz3,Ak];have f:=O9 B7 l;rw[ybq n j _ (λx h=>d x (f.mem_iff.1 h)) (by rw[f.length_eq];exact g),Ck,y3s Dp]
theorem zry (n:Nat)(q:1000000000<n)(x:Ma)(p:maOk x=true)(l:List Ma)(d:∀x∈l,maOk x=true)(s:l.length<=1000000)(K:Int->Option (List Ma))(r:Option (List Ma))
  (j:∀i:Nat,i<=l.length->(∀y∈l.take i,B7 y x<0)->(∀h:i<l.length,¬B7 l[i] x<0)->K i=r):∀(m k:Nat),k<=l.length->l.length<m+k->(∀y∈l.take k,B7 y x<0)->Jj n x l K m (k:Int)=r
 |0,k,h1,t,_=>by omega
 |m+1,k,h1,t,o=>by
  unfold Jj;simp only[Ay,Ak,Mg,aA,A4,Al];by_cases h:k<l.length
  ·rw[if_pos Ω,Ae h,y8x n _ _ (by have:=(Ew _).1 (d _ (aE h));exact aY this q) ((Ew _).1 p) ((Ew _).1 (d _ (aE h))),A0];by_cases g:B7 l[k] x<0
   ·rw[if_pos g,Af k Ω];refine zry n q x p l d s K r j m (k+1) Ω Ω (λy f=>?_);rw[aD h,bA,aU]at f;rcases f with f|f
    ·exact o y f
    ·rw[f];exact g
   ·rw[if_neg g];exact j k h1 o (λ_=>g)
  ·rw[if_neg Ω];exact j k h1 o (λu=>absurd u h)
theorem zz0 (x:Ma):∀(l:List Ma) (i:Nat),i<=l.length->(∀y∈l.take i,B7 y x<0)->(∀h:i<l.length,¬B7 l[i] x<0)->insU B7 x l=if∃h:i<l.length,B7 l[i] x=0 then l else l.take i++x::l.drop i
 |[],i,h1,_,_=>by
  have:i=0:=by simpa using h1
  subst this;simp[insU]
 |y::l,0,_,_,d=>by
  have:=d Δ;simp only[bL]at this;unfold insU;rw[if_neg this];simp_all
 |y::l,i+1,h1,f,d=>by
  have j:=f y Δ;unfold insU;rw[if_pos j,zz0 x l i (by simpa using h1) (λz g=>f z (by simp[g])) (λh=>by simp_all)];by_cases q:∃h:i<l.length,B7 l[i] x=0;all_goals simp_all
theorem y2b (n:Nat)(s:1000000000<n)(x:Ma)(r:maOk x=true)(l:List Ma)(o:∀x∈l,maOk x=true)(v:l.length<=1000000):N9 n l x=some (insU B7 x l):=by
 unfold N9;refine zry n s x r l o v _ _ (λi hi h1 w=>?_) n 0 Ω Ω Δ;rw[zz0 x l i hi h1 w];simp only[Ay,Ak,Mh,aA,A4,Al];have p:∀z:Ma,z=x->(sls l 0 (i:Int) λm=>app ([]:List Ma) m 24 λj=>app j [z] 24 λg=>sls l (i:Int) ((l.length:Nat):Int) λf=>app g f 24 λd=>some d)=some (l.take i++x::l.drop i):=λz u=>by
  subst u;have t:=Fu (l:=l) (a:=0) (b:=i) (aW _) hi (λm=>app ([]:List Ma) m 24 λj=>app j [z] 24 λg=>sls l (i:Int) ((l.length:Nat):Int) λf=>app g f 24 λd=>some d);simp only[aB]at t;rw[t,aG,Bo Ψ Ω,nil_append,Bo Ψ Ω,Fu hi (bH _),Bo Ψ Ω,take_length];simp
 by_cases h:i<l.length
 ·rw[if_pos Ω,Ae h,y8x n _ _ (by have:=(Ew _).1 (o _ (aE h));exact aY this s) ((Ew _).1 r) ((Ew _).1 (o _ (aE h))),A0];by_cases q:B7 l[i] x=0;all_goals simp_all
 grind
theorem zot {x:Ma}(f:maOk x=true){l:List Ma}(g:∀y∈l,maOk y=true):∀y∈insU B7 x l,maOk y=true:=λy d=>by
 rcases(Yk Dp x y l).1 d with h|h
 all_goals simp_all
theorem zxv {s l:List Ma}(hs:∀y∈s,maOk y=true)(f:∀y∈l,maOk y=true):∀y∈puts B7 s l,maOk y=true:=λy d=>by
 rcases(Ty Dp y l s).1 d with h|h
 ·exact hs y h
 ·exact f y h
theorem y8i {l:List Cf}(h:∀x∈l,cfOk x=true):∀x∈setL Bp l,cfOk x=true:=λx d=>h x ((Gq Ex x l).1 d)
def D6 (e:Ev):Bool:=decide (0<=e.fTime) && (decide (e.fTime<=1099511627776) && (decide (0<=e.fSource) && (decide (e.fSource<8) && (decide (0<=e.fSeq) && decide (e.fSeq<=1099511627776)))))
def idt (e:Ev):Jy:=⟨e.fSource,e.fSeq⟩
theorem y5o (n:Nat)(e:Ev):Xj n e=some (D6 e):=by
 unfold Xj D6
 simp only [A4]
 repeat' split
 all_goals (simp_all<;>omega)
theorem y25 (n:Nat)(e:Ev):Vp n e=some (D6 e):=by
 unfold Vp D6
 simp only [A4]
 repeat' split
 all_goals (simp_all<;>omega)
theorem yd1 (n:Nat)(e:Ev):O7 n e=some (idt e):=rfl
theorem y90 (n:Nat)(e:Ev):Nb n e=some ⟨e.fTime,e.fSource,e.fSeq⟩:=rfl
def Bn (e:Ev):Bh:=⟨e.fTime,e.fSource,e.fSeq⟩
def Ce (a b:Ev):Int:=rCmp (Bn a) (Bn b)
theorem yd4 (n:Nat)(g:4<=n)(a b:Ev):Xm n a b=some (Ce a b):=by
 obtain⟨m,rfl⟩:∃m,n=m+4:=⟨n-4,Ω⟩;unfold Xm Y3;simp only[A0,Un,ya1,bR,Az,aS,decide_eq_true_eq];split
 ·rename_i h;obtain⟨h1,f,d⟩:=h;simp[Ce,rCmp,Bn,or3,cmpI,h1,f,d]
 ·rfl
theorem y7h (n:Nat)(a b:Ev):S9 n a b=some (decide (idt a=idt b)):=by
 unfold S9;simp only[A4];split
 ·rename_i h;simp[idt,h]
 ·rename_i h;simp[idt,h]
def few1 (l:List A9):Bool:=(l.take 40).all (λv=>decide (v.fText.size<=128)) && decide (l.length<40)
theorem zso (n:Nat)(l:List A9)(K:Option Bool):∀(m k:Nat),k<=l.length->k<=40->40<m+k->Rm n l K m k=if((l.take 40).drop k).all (λv=>decide (v.fText.size<=128))then K else some false
 |0,k,h1,j,g=>by omega
 |m+1,k,h1,j,g=>by
  unfold Rm;simp only[aA,A4];by_cases h:k<l.length
  ·rw[if_pos Ω];by_cases o:k<40
   ·rw[if_pos Ω,Ae h,Af k Ω];have d:k<(l.take 40).length:=by rw[aJ];omega
    rw[B6 (l.take 40) k d,all_cons,aO];by_cases f:l[k].fText.size<=128
    ·rw[if_neg Ω,zso n l K m (k+1) Ω Ω Ω];simp[f]
    grind
   grind
  ·rw[if_neg Ω,aC (by rw[aJ];omega)];simp
theorem ybl (n:Nat)(l:List A9)(d:41<=n):Wm n l=some (few1 l):=by
 unfold Wm few1;have:=zso n l (some (decide ((((List.map Ag l).length:Nat):Int)<40))) n 0 Ω Ω Ω;simp only[aB,aG]at this;rw[this];simp only[aA];split
 ·rename_i h;rw[h];simp;omega
 ·rename_i h;simp only[bM]at h;rw[h];rfl
def fewE (l:List Ev):Bool:=(l.take 20).all (λe=>decide (e.fValues.length<=12) && few1 e.fValues) && decide (l.length<=12)
theorem zsm (n:Nat)(l:List Ev)(K:Option Bool)(d:41<=n):∀(m k:Nat),k<=l.length->k<=20->20<m+k->Rk n l K m k=if((l.take 20).drop k).all (λe=>decide (e.fValues.length<=12) && few1 e.fValues)then K else some false
 |0,k,h1,j,g=>by omega
 |m+1,k,h1,j,g=>by
  unfold Rk;simp only[aA,A4,Ar];by_cases h:k<l.length
  ·rw[if_pos Ω];by_cases p:k<20
   ·rw[if_pos Ω,Ae h,Af k Ω];have f:k<(l.take 20).length:=by rw[aJ];omega
    rw[B6 (l.take 20) k f,all_cons,aO];by_cases o:l[k].fValues.length<=12
    ·rw[if_neg Ω,Ae h,ybl n _ d,A0,Az,zsm n l K d m (k+1) Ω Ω Ω];grind
    grind
   grind
  ·rw[if_neg Ω,aC (by rw[aJ];omega)];simp
theorem ybk (n:Nat)(l:List Ev)(d:41<=n):Wl n l=some (fewE l):=by
 unfold Wl fewE;have:=zsm n l (some (decide ((((List.map A5 l).length:Nat):Int)<=12))) d n 0 Ω Ω Ω;simp only[aB,aG]at this;rw[this];simp only[aA];split
 ·rename_i h;rw[h];simp;omega
 ·rename_i h;simp only[bM]at h;rw[h];rfl
theorem y6k {l:List Ev}(h:fewE l=true):l.length<=12/\∀e∈l,e.fValues.length<=12:=by
 unfold fewE at h;simp only[aS,decide_eq_true_eq,all_eq_true]at h;refine⟨h.2,λe d=>(h.1 e ?_).1⟩;rw[aN Ω];exact d
def Ug:List Ev->Ev->Bool |[],_=>false |x::_,e=>decide (0<=Ce x e)
def chk:List Ev->List Ev->Int
 |_,[]=>0
 |p,e::r=>if D6 e=false then 2 else if Ug p e=true then 14 else if p.any (λx=>decide (idt x=idt e))then 7 else chk (e::p) r
def De (l:List Ev):Int:=if 4096<l.length then 5 else chk [] l
def Yv (m:List (Jy×Bool))(p:List Ev):Prop:=∀k,(mlk m k).getD false=p.any (λx=>decide (idt x=k))
variable {κ ν:Type}
theorem zok [DecidableEq κ](l:List (κ×ν))(k:κ)(v:ν)(d:κ):mlk (mput l k v) d=if d=k then some v else mlk l d:=by
 induction l with
 |nil=>simp[mput,mlk]
 |cons a r ih =>
  obtain⟨a,x⟩:=a;simp only[mput];by_cases h:k=a
  ·subst h;rw[if_pos rfl];simp only[mlk];simp_all
  ·rw[if_neg h];simp only[mlk,ih];grind
theorem Yv.put {m:List (Jy×Bool)}{p:List Ev}(h:Yv m p)(e:Ev):Yv (mput m (idt e) true) (e::p):=λk=>by
 rw[zok,bK];by_cases d:k=idt e
 ·subst d;simp
 ·rw[if_neg d,h k];grind
theorem zi4 {l:List Ev}(h:k<l.length):(l.take (k+1)).reverse=l[k]::(l.take k).reverse:=by
 simp_all
theorem zxs {l:List Ev}(d:0<k)(h:k<=l.length):∃t,(l.take k).reverse=l[k-1]::t:=by
 obtain⟨j,rfl⟩:∃j,k=j+1:=⟨k-1,Ω⟩;exact⟨_,by rw[zi4 Ω];rfl⟩
theorem zr3 (d:0<k)(h:k<=1000000):aF .i64 ((k:Int)-1)=((k-1:Nat):Int):=by rw[Cl _ Ω];omega
theorem Ki [DecidableEq κ](l:List (κ×ν))(k:κ)(z:ν)(c:ν->Bool->Option β):mgt l k z c=c ((mlk l k).getD z) (mlk l k).isSome:=by unfold mgt;rfl
theorem E8 [DecidableEq κ](l:List (κ×ν))(k:κ)(v:ν)(c:List (κ×ν)->Option β):mst l k v c=c (mput l k v):=by unfold mst;rfl
theorem zyj (n:Nat)(j:4<=n)(l:List Ev):∀(m k:Nat) (d:List (Jy×Bool)),k<=l.length->l.length<=1000000->l.length<m+k->Yv d (l.take k).reverse ->
  Ni n l (some 0) m ((k:Int),d)=some (chk (l.take k).reverse (l.drop k))
 |0,k,_,h1,s,w,_=>by omega
 |m+1,k,d,h1,s,w,hs=>by
  unfold Ni;simp only[aA,A4,Ar];by_cases h:k<l.length
  ·rw[if_pos Ω,Ae h,Af k Ω];rw[B6 l k h];conv=>rhs;unfold chk
   have r:Yv (mput d (idt l[k]) true) (l.take (k+1)).reverse:=by rw[zi4 h];exact hs.put _
   have p:=zyj n j l m (k+1) _ Ω s Ω r;rw[zi4 h]at p;have f:=hs (idt l[k]);simp only[y5o,A0,yd1,Az,Ki,E8,f,yd4 n j];by_cases q:D6 l[k]=true
   ·have g:¬D6 l[k]=false:=by rw[q];simp
    rw[if_pos q,if_neg g];by_cases o:0<k
    ·rw[if_pos Ω,zr3 o Ω,Ae (by omega:k-1<l.length)];obtain⟨t,u⟩:=zxs (l:=l) o h1
     try simp only[A0,decide_eq_true_eq]
     rw[u]at p ⊢;simp only[Ug,decide_eq_true_eq];grind
    ·have v:k=0:=Ω
     subst v;rw[if_neg Ω];simp only[take_zero,reverse_nil,any_nil,Ug,bJ,if_false]at p ⊢;rw[p]
   ·have g:D6 l[k]=false:=by simpa using q
    rw[if_neg q,if_pos g]
  ·rw[if_neg Ω,aC Ω];rfl
theorem yd6 (n:Nat)(l:List Ev)(g:l.length<n)(d:4<=n)(f:l.length<=1000000):Nv n l=some (De l):=by
 unfold Nv De;simp only[aA,A4];by_cases h:4096<l.length
 ·rw[if_pos Ω,if_pos h]
 ·rw[if_neg Ω,if_neg h];have:=zyj n d l n 0 [] Ω f Ω (λk=>rfl);simpa using this
theorem zrw (n:Nat)(l:List Ev)(i:Nat)(hi:i<l.length)(K:Option Int):∀(m k:Nat),k<=i->l.length<=1000000->i<m+k->Qk n l (i:Int) K m k=if((l.take i).drop k).any (λx=>decide (idt x=idt l[i]))then some 7 else K
 |0,k,h1,d,g=>by omega
 |m+1,k,h1,d,g=>by
  unfold Qk;simp only[A4];by_cases h:k<i
  ·rw[if_pos Ω,Ae (by omega:k<l.length),Ae hi,Af k Ω,y7h,A0,A4];have f:k<(l.take i).length:=by rw[aJ];omega
   rw[B6 (l.take i) k f,bK,aO,zrw n l i hi K m (k+1) Ω d Ω];grind
  ·rw[if_neg Ω,aC (by rw[aJ];omega)];simp
theorem zrv (n:Nat)(l:List Ev)(i:Nat)(hi:i<l.length)(K:Option Int):∀(m k:Nat),k<=i->l.length<=1000000->i<m+k->Qj n l (i:Int) K m k=if((l.take i).drop k).any (λx=>decide (idt x=idt l[i]))then some 7 else K
 |0,k,h1,d,g=>by omega
 |m+1,k,h1,d,g=>by
  unfold Qj;simp only[A4];by_cases h:k<i
  ·rw[if_pos Ω,Ae (by omega:k<l.length),Ae hi,Af k Ω,y7h,A0,A4];have f:k<(l.take i).length:=by rw[aJ];omega
   rw[B6 (l.take i) k f,bK,aO,zrv n l i hi K m (k+1) Ω d Ω];grind
  grind
theorem zrx (n:Nat)(l:List Ev)(u:l.length<n):∀(m k:Nat),k<=l.length->l.length<=1000000->l.length<m+k->H6 n l (some 0) m (k:Int)=some (chk (l.take k).reverse (l.drop k))
 |0,k,h1,r,w=>by omega
 |m+1,k,h1,r,w=>by
  unfold H6;simp only[aA,A4,Ar];by_cases h:k<l.length
  ·rw[if_pos Ω,Ae h,Af k Ω];rw[B6 l k h];conv=>rhs;unfold chk
   have p:=zrx n l u m (k+1) Ω r Ω;rw[zi4 h]at p;simp only[y25,A0,Az];by_cases q:D6 l[k]=true
   ·have d:¬D6 l[k]=false:=by rw[q];simp
    rw[if_pos q,if_neg d];by_cases j:0<k
    ·rw[if_pos Ω,zr3 j Ω,Ae (by omega:k-1<l.length)];obtain⟨t,s⟩:=zxs (l:=l) j h1;simp only[A0,y90];rw[Ae h];simp only[A0,zy0];have ec:rCmp ⟨l[k-1].fTime,l[k-1].fSource,l[k-1].fSeq⟩ ⟨l[k].fTime,l[k].fSource,l[k].fSeq⟩=Ce l[k-1] l[k]:=rfl;rw[ec];have g:=zrw n l k h (H6 n l (some 0) m ((k+1:Nat):Int)) n 0 Ω r Ω;simp only[aB,aG]at g;rw[g,p];have o:(l.take k).any (λx=>decide (idt x=idt l[k]))=(l.take k).reverse.any (λx=>decide (idt x=idt l[k])):=by rw[any_reverse]
     rw[o,s];simp only[Ug,decide_eq_true_eq];grind
    ·have v:k=0:=Ω
     subst v;rw[if_neg Ω];have f:=zrv n l 0 h (H6 n l (some 0) m ((0+1:Nat):Int)) n 0 Ω r Ω;simp only[aB,aG]at f;simp only[aB]at f ⊢;rw[f];simp only[take_zero,reverse_nil,any_nil,Ug,bJ,if_false]at p ⊢;rw[p]
   ·have d:D6 l[k]=false:=by simpa using q
    rw[if_neg q,if_pos d]
  ·rw[if_neg Ω,aC Ω];rfl
theorem y2a (n:Nat)(l:List Ev)(d:l.length<n)(f:l.length<=1000000):Jn n l=some (De l):=by
 unfold Jn De;simp only[aA,A4];by_cases h:4096<l.length
 ·rw[if_pos Ω,if_pos h]
 ·rw[if_neg Ω,if_neg h];have:=zrx n l d n 0 Ω f Ω;simpa using this
abbrev Rf:=Bh
abbrev N0:Nat:=2000000000
abbrev ev0:Ev:=⟨0,0,0,0,[]⟩
theorem Oy [DecidableEq κ](l:List (κ×ν))(k:κ)(z:ν)(c:ν->Bool->Option β):mgv l k z c=c ((mlk l k).getD z) (mlk l k).isSome:=by unfold mgv;rfl
theorem y7q {n:Int}(d:0<=n)(h:n<=1000)(k:Nat->Option β):mkn n 24 k=k n.toNat:=by unfold mkn;grind
theorem y7n (i:Nat)(x:Option β):nst i x=x:=by unfold nst;rfl
theorem y7t (i:Nat)(x:Option β):frr i x=x:=by unfold frr;rfl
theorem zyv {n:Int}{len:Nat}(d:0<=n)(h:n.toNat<len)(x:Option β):ncx n len x=x:=by unfold ncx;rw[if_pos ⟨d,h⟩]
theorem y7m {l:List (List α)}(h:k<l.length)(c:List α->Option β):ntk l k c=c (l.getD k []):=by unfold ntk;simp[h]
theorem y7o {l:List (List α)}(h:k<l.length)(v:List α)(c:List (List α)->Option β):npt l k v c=c (l.set k v):=by unfold npt;rw[if_pos h]
theorem zzk:∀(l p:List Ev),chk p l=0->(∀e∈l,D6 e=true)/\Str Ce l/\(∀h t,p=h::t->∀e∈l,Ce h e<0)
 |[],p,_=>⟨Δ,by simp[Str],Δ⟩
 |e::l,p,h=>by
  unfold chk at h;split at h
  ·cases h
  split at h
  ·cases h
  split at h
  ·cases h
  rename_i h1 j r;obtain⟨s,o,n⟩:=zzk l (e::p) h;have g:=n e p rfl;refine⟨λx d=>?_,aH.2 ⟨g,o⟩,λq t m x d=>?_⟩
  ·grind
  ·have f:Ce q e<0:=by
    subst m;simp only[Ug]at j;simpa using j
   rcases aM.1 d with k|k
   ·rw[k];exact f
   ·exact Yn.trans _ _ _ f (g x k)
structure yah (l:List Ev):Prop where
 pl:∀e∈l,D6 e=true
 st:Str Ce l
 ln:l.length<=4096
theorem zel {l:List Ev}(h:De l=0):yah l:=by
 unfold De at h;split at h
 ·cases h
 ·obtain⟨a,b,_⟩:=zzk l [] h;exact⟨a,b,Ω⟩
def lkH (held:List Ev)(r:Rf):Option Ev:=held.find? (λe=>decide (Bn e=r))
variable {held:List Ev}
theorem zwe {r:Rf}{e:Ev}(h:lkH held r=some e):Bn e=r/\e∈held:=by
 have h1:=find?_some h;exact⟨by simpa using h1,mem_of_find?_eq_some h⟩
theorem zop (h:Str Ce held){e:Ev}(d:e∈held):lkH held (Bn e)=some e:=by
 unfold lkH
 induction held with
 |nil=>simp at d
 |cons x l ih =>
  obtain⟨h1,f⟩:=aH.1 h;rw[find?_cons];rcases aM.1 d with k|k
  ·rw[k];simp
  ·have:Bn x≠Bn e:=λq=>Yn.lt_ne (h1 e k) q
   simp only[this,decide_false];exact ih f k
theorem y9q (a b:List Ev)(r:Rf):lkH (a++b) r=(lkH a r).or (lkH b r):=by unfold lkH;rw[find?_append]
theorem zmy (n:Nat)(r:Rf)(l:List Ev)(d:l.length<=1000000):∀(m k:Nat),k<=l.length->l.length<m+k->Qg n r l (some (ev0,false)) m (k:Int)=some (match lkH (l.drop k) r with|some e=>(e,true)|none=>(ev0,false))
 |0,k,h1,f=>by omega
 |m+1,k,h1,f=>by
  unfold Qg;simp only[aA,A4];by_cases h:k<l.length
  ·rw[if_pos Ω,Ae h,B6 l k h,Af k Ω,zmy n r l d m (k+1) Ω Ω,y90,A0,Ae h];have:(decide (l[k].fTime=r.fTime) && (decide (l[k].fSource=r.fSource) && (decide (l[k].fSeq=r.fSeq) && true)))=decide (Bn l[k]=r):=by
    cases r;simp[Bn]
   rw[this,A4];unfold lkH;grind
  ·rw[if_neg Ω,aC Ω];rfl
theorem y99 (n:Nat)(r:Rf)(l:List Ev)(d:l.length<=1000000)(f:l.length<n):Vx n l r=some (match lkH l r with|some e=>(e,true)|none=>(ev0,false)):=by
 have:=zmy n r l d n 0 Ω Ω;unfold Vx;simp_all
def HM (held:List Ev)(d:List (Rf×Ev)):Prop:=∀r,mlk d r=lkH held r
theorem y3f (r:Rf):∀(l:List Ev) (m:List (Rf×Ev)),Str Ce l->mlk (l.foldl (λm e=>mput m (Bn e) e) m) r=(lkH l r).or (mlk m r)
 |[],m,_=>by simp[lkH]
 |e::l,m,h=>by
  obtain⟨h1,g⟩:=aH.1 h;rw[bC,y3f r l _ g,zok];unfold lkH;rw[find?_cons];by_cases q:Bn e=r
  ·have:lkH l r=none:=by
    unfold lkH;rw[find?_eq_none];intro x f d;simp only[decide_eq_true_eq]at d;exact Yn.lt_ne (h1 x f) (by rw[q,d])
   unfold lkH at this;rw[this];simp[q]
  grind
def addB (held:List Ev)(vs:List (List Ev))(b:Bd):List (List Ev):=match lkH held b.fRef with|some e=>(if 0<=b.fVar/\b.fVar.toNat<vs.length then vs.set b.fVar.toNat (vs.getD b.fVar.toNat []++[e])else vs)|none=>vs
def bndV (held:List Ev)(m:Nat)(l:List Bd):List (List Ev):=l.foldl (addB held) (bS m [])
def ev1 (held:List Ev)(l:List Bd)(v:Int):List Ev:=l.filterMap (λb=>if b.fVar=v then lkH held b.fRef else none)
theorem zir (held:List Ev)(vs:List (List Ev))(b:Bd):(addB held vs b).length=vs.length:=by
 unfold addB;grind
theorem zzs {vs:List (List Ev)}{b:Bd}(h:∀q∈vs,q.length<=k):∀q∈addB held vs b,q.length<=k+1:=by
 unfold addB;grind
theorem zt2 (held:List Ev):∀(l:List Bd) (vs:List (List Ev)),(l.foldl (addB held) vs).length=vs.length
 |[],vs=>rfl
 |b::l,vs=>by rw[bC,zt2 held l,zir]
theorem Om (held:List Ev)(m:Nat)(l:List Bd):(bndV held m l).length=m:=by unfold bndV;rw[zt2];simp
theorem y79 (held:List Ev)(vs:List (List Ev))(b:Bd)(i:Nat)(hi:i<vs.length):(addB held vs b).getD i []=vs.getD i []++(if b.fVar=(i:Int)then lkH held b.fRef else none).toList:=by
 unfold addB;grind
theorem zt3 (held:List Ev)(i:Nat):∀(l:List Bd) (vs:List (List Ev)),i<vs.length->(l.foldl (addB held) vs).getD i []=vs.getD i []++ev1 held l (i:Int)
 |[],vs,hi=>by simp[ev1]
 |b::l,vs,hi=>by
  rw[bC,zt3 held i l _ (by rw[zir];exact hi),y79 held vs b i hi];unfold ev1;grind
theorem U1 (held:List Ev)(m:Nat)(l:List Bd)(v:Int):evs (bndV held m l) v=if 0<=v/\v<(m:Int)then ev1 held l v else[]:=by
 unfold evs;rw[Om];by_cases h1:v<0
 ·rw[if_pos h1,if_neg Ω]
 rw[if_neg h1];by_cases d:(m:Int)<=v
 ·rw[if_pos d,if_neg Ω]
 rw[if_neg d,if_pos Ω];unfold bndV;rw[zt3 held v.toNat l _ Ψ];grind
theorem ya7 (held:List Ev)(l:List Bd)(v:Int):(ev1 held l v).length<=l.length:=bI _ _
theorem y6m {l:List Bd}{v:Int}(h:∀b∈l,b.fVar≠v):ev1 held l v=[]:=by
 unfold ev1;simp_all
abbrev enH (held:List Ev)(l:List Bd):List (List Ev):=bndV held 16 l
theorem U7 {l:List Bd}(h:l.length<=1000000)(v:Int):(evs (enH held l) v).length<=1000000:=by
 rw[U1];split
 ·have:=ya7 held l v;omega
 ·simp
theorem zn2 (n:Nat)(held:List Ev)(p:held.length<=1000000)(w:1000000<n)(x:Nat)(s:x<=16)(l:List Bd)(z:l.length<=1000000)(K:List (List Ev)->Option Av):∀(m k:Nat) (vs:List (List Ev)),k<=l.length->l.length<m+k->vs.length=x->(∀q∈vs,q.length<=k)->G7 n l (x:Int) held x K m ((k:Int),vs)=K ((l.drop k).foldl (addB held) vs)
 |0,k,vs,h1,A,r,j=>by omega
 |m+1,k,vs,h1,A,r,j=>by
  unfold G7;simp only[aA,A4];by_cases h:k<l.length
  ·rw[if_pos Ω,Ae h,B6 l k h,Af k Ω,y99 n _ held p Ω,A0,Ak,bC];have u:(⟨l[k].fRef.fTime,l[k].fRef.fSource,l[k].fRef.fSeq⟩:Rf)=l[k].fRef:=rfl;rw[u];have g:∀d,d=addB held vs l[k]->G7 n l (x:Int) held x K m (((k+1:Nat):Int),d)=K ((l.drop (k+1)).foldl (addB held) (addB held vs l[k])):=λd t=>by
    subst t;exact zn2 n held p w x s l z K m (k+1) _ Ω Ω (by rw[zir];exact r) (zzs j)
   cases v:lkH held l[k].fRef with
   |none =>
    simp only[Al];exact g vs (by unfold addB;rw[v])
   |some e =>
    simp only[Aj];by_cases f:0<=l[k].fVar
    ·rw[if_pos f];by_cases o:l[k].fVar<(x:Int)
     ·rw[if_pos o,zyv f Ω,y7m Ω];have y:(vs.getD l[k].fVar.toNat []).length<=k:=by
       rw[bG,aL Ω,aZ];exact j _ (aE _)
      rw[Bo (by grind) Ω,zyv f Ω,y7o Ω];exact g _ (by unfold addB;simp_all)
     ·rw[if_neg o];exact g vs (by unfold addB;grind)
    ·rw[if_neg f];exact g vs (by unfold addB;grind)
  ·rw[if_neg Ω,aC Ω];rfl
theorem y29 (n:Nat)(g:1000000<n)(held:List Ev)(j:held.length<=1000000)(c:Cf)(h:c.fBindings.length<=1000000):N8 n held c=some ⟨enH held c.fBindings⟩:=by
 unfold N8 z0p;rw[y7q Ω Ω,y7n,Ak];have:=zn2 n held j g 16 Ω c.fBindings h (λk1_0_0y=>frr 13 <| reg <| some ⟨k1_0_0y⟩) n 0 (bS 16 []) Ω Ω Δ Δ;simp only[aB]at this;have f:Int.toNat 16=16:=rfl;have d:((16:Nat):Int)=16:=rfl;rw[f];rw[d]at this;rw[this,y7t,Ak,A0];rfl
def BdOk (held:List Ev)(x:Int)(l:List Bd):Prop:=∀b∈l,(0<=b.fVar/\b.fVar<x)/\(lkH held b.fRef).isSome=true
theorem zyf (n:Nat)(held:List Ev)(r:Bg)(hm:HM held r.fheld)(x:Nat)(s:x<=16)(l:List Bd)(v:l.length<=1000000)(j:BdOk held (x:Int) l)(K:List (List Ev)->Option Av):∀(m k:Nat) (vs:List (List Ev)),k<=l.length->l.length<m+k->vs.length=x->(∀q∈vs,q.length<=k)->Sc n l r x K m ((k:Int),vs)=K ((l.drop k).foldl (addB held) vs)
 |0,k,vs,h1,y,o,f=>by omega
 |m+1,k,vs,h1,y,o,f=>by
  unfold Sc;simp only[aA,A4];by_cases h:k<l.length
  ·obtain⟨⟨d,z⟩,p⟩:=j _ (aE h);obtain⟨e,g⟩:=Option.isSome_iff_exists.1 p;have t:(⟨l[k].fRef.fTime,l[k].fRef.fSource,l[k].fRef.fSeq⟩:Rf)=l[k].fRef:=rfl;have u:(vs.getD l[k].fVar.toNat []).length<=k:=by
    rw[bG,aL Ω,aZ];exact f _ (aE _)
   rw[if_pos Ω,Ae h,B6 l k h,Af k Ω,bC,zyv d Ω,y7m Ω,t,Oy,hm,g,aZ,Bo (by grind) Ω,zyv d Ω,y7o Ω];have w:addB held vs l[k]=vs.set l[k].fVar.toNat (vs.getD l[k].fVar.toNat []++[e]):=by
    unfold addB;rw[g];simp only;rw[if_pos ⟨d,Ω⟩]
   rw[<-w];exact zyf n held r hm x s l v j K m (k+1) _ Ω Ω (by rw[zir];exact o) (zzs f)
  grind
theorem yd5 (n:Nat)(j:1000000<n)(held:List Ev)(r:Bg)(hm:HM held r.fheld)(f:0<=r.fa.fVars/\r.fa.fVars<=16)(l:List Bd)(g:l.length<=1000000)(h:BdOk held r.fa.fVars l):X9 n r l=some ⟨bndV held r.fa.fVars.toNat l⟩:=by
 unfold X9;rw[y7q f.1 Ω,y7n,Ak];have d:((r.fa.fVars.toNat:Nat):Int)=r.fa.fVars:=Ω
 have:=zyf n held r hm r.fa.fVars.toNat Ω l g (by rw[d];exact h) (λk1_0_0y=>frr 13 <| reg <| some ⟨k1_0_0y⟩) n 0 (bS r.fa.fVars.toNat []) Ω Ω Δ Δ;simp only[aB]at this;rw[this,y7t,Ak];rfl
def EvEq (a b:List (List Ev)):Prop:=∀v,evs a v=evs b v
theorem y3q {x:Int}(g:0<=x/\x<=16){l:List Bd}(f:BdOk held x l):EvEq (enH held l) (bndV held x.toNat l):=λv=>by
 rw[U1,U1];by_cases h:0<=v/\v<x
 ·grind
 ·rw[if_neg (by omega:¬(0<=v/\v<((x.toNat:Nat):Int)))];split
  ·exact y6m (λb d q=>by have:=(f b d).1;omega)
  ·rfl
def EvS (a:List (List Ev)):Prop:=∀v,(evs a v).length<=1000000
def trR (a:List (List Ev))(e:Exn)(own:Int)(ev:Ev):Bool:=(Gb N0 e ⟨a⟩ own ev).getD false
variable {a b:List (List Ev)}
theorem Ul (d:EvEq a b)(hs:EvS a)(j:WfE e)(own:Int)(ev:Ev):Gb N0 e ⟨a⟩ own ev=some (trR a e own ev)/\I1 N0 e ⟨b⟩ own ev=some (trR a e own ev):=by
 obtain⟨z,h,m⟩:=j;obtain⟨r,f,g⟩:=y21 a b hs own ev z e (λi _=>d i) m h N0 Θ;have:trR a e own ev=r:=by unfold trR;rw[f];rfl
 rw[this];exact⟨f,g⟩
def vio (a:List (List Ev))(e:Ev)(g:Gd):Bool:=decide (g.fType=e.fType) && trR a g.fCond g.fVar e
theorem y24 (hs:EvS a){g:Gd}(d:WfE g.fCond)(e:Ev):Qb N0 g ⟨a⟩ e=some (vio a e g):=by
 unfold Qb vio;simp only[Ay,Ak,Ks,A4];have:=(Ul (λv=>rfl:EvEq a a) hs d g.fVar e).1;rw[this,A0];by_cases h:g.fType=e.fType<;>simp[h]
theorem y7f (d:EvEq a b)(hs:EvS a){g:Gd}(f:WfE g.fCond)(e:Ev):Tg N0 g ⟨b⟩ e=some (vio a e g):=by
 unfold Tg vio;simp only[Ay,Ak,Nj,A4];have:=(Ul d hs f g.fVar e).2;rw[this,A0];by_cases h:g.fType=e.fType<;>simp[h]
end Go.Proofs.YthbogefcfhmpgaaGreat
