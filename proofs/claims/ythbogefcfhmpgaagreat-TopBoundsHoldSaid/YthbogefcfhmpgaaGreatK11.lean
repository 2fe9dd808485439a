/- Layer 25, plainly. -/
import Derived.Test.YthbogefcfhmpgaaGreatK10
set_option linter.unusedVariables false
set_option linter.unusedSimpArgs false
namespace Go.Proofs.YthbogefcfhmpgaaGreat
open Go.RowKit List
open List renaming length_map->aA,drop_eq_nil_of_le->aB,getElem_mem->aC,getElem?_eq_getElem->aD,drop_eq_getElem_cons->aF,mem_singleton->aG,take_succ_eq_append_getElem->aH,mem_cons_of_mem->aJ,length_append->aL,drop_zero->aM,mem_append->aO,foldl_cons->aQ,length_set->aT,append_assoc->aV,length_eraseIdx_of_lt->aW,filter_eq_self->aX,mem_or_eq_of_mem_set->aY,mem_cons->aZ,length_filter_le->bA,length_singleton->bB,flatMap_cons->bC,mem_iff_getElem->bE,filterMap_cons->bG,mem_filter->bH,find?_cons->bI,filter_cons->bL,mem_flatMap->bM,findIdx?_eq_some_iff_getElem->bN,length_cons->bO,filter_eq_nil_iff->bP,length_take->bQ,take_of_length_le->bR,pairwise_cons->bS,filter_append->bT,take_append_drop->bU,replicate->bV,nil_append->bX,getElem?_set->bY,getElem?_set_ne->bZ,getD_eq_getElem?_getD->cA,mem_map->cB,eq_of_mem_replicate->cD,filter_filter->cE,mem_filterMap->cF,nodup_cons->cG,getElem?_replicate->cH,map_cons->cI,getElem_cons_zero->cJ,getElem_cons_succ->cK,countP_le_length->cM,getElem_map->cN,all_cons->cO,length_nil->cP,map_map->cR
open Nat renaming zero_le->aE,le_refl->bK,le_trans->bW
open Or renaming inr->aK,inl->aN
open Int renaming natCast_zero->aP,toNat_natCast->bF,toNat_of_nonneg->cC
open Bool renaming not_false->aR,not_true->aU,and_eq_true->cL
open IntKind renaming wrap->aS,bits->cQ
open Option renaming isSome_iff_exists->bD
open Iff renaming rfl->bJ
abbrev Lim:=C2
def SS (l:List Sta):Prop:=l.Pairwise (λx y=>x.fScope<y.fScope)
def opS (l:List Sta)(s t:Int):List Sta:=l.filter (λx=>decide (x.fScope<s))++(⟨s,t⟩:Sta)::l.filter (λx=>decide (s<x.fScope))
def clS (l:List Sta)(s:Int):List Sta:=l.filter (λx=>!decide (x.fScope=s))
variable {l:List Sta}{s:Int}
theorem opS_mem {t:Int}{x:Sta}(h:x∈opS l s t):x=⟨s,t⟩\/x∈l:=by
 unfold opS at h;grind
theorem y2u (h:SS l)(s t:Int):SS (opS l s t):=by
 unfold opS SS;rw[pairwise_append];refine⟨h.filter _,bS.2 ⟨λx b=>by simp_all,h.filter _⟩,λx b y f=>?_⟩;grind
theorem zwb (l:List Sta)(s t:Int):(opS l s t).length<=l.length+1:=by
 unfold opS;rw[aL,bO]
 induction l with
 |nil=>simp
 |cons x l ih =>
  grind
variable {i:Nat}
theorem zxn (h:SS l)(hi:i<=l.length)(h1:∀k (g:k<l.length),k<i->l[k].fScope<s)(h2:∀g:i<l.length,¬l[i].fScope<s):l.take i=l.filter (λx=>decide (x.fScope<s))/\((∀g:i<l.length,l[i].fScope≠s)->l.drop i=l.filter (λx=>decide (s<x.fScope)))/\(∀g:i<l.length,l[i].fScope=s->l.drop (i+1)=l.filter (λx=>decide (s<x.fScope))):=by
 have j:∀x∈l.take i,x.fScope<s:=λx b=>by
  obtain⟨k,g,rfl⟩:=bE.1 b;grind
 have q:∀g:i<l.length,∀x∈l.drop (i+1),l[i].fScope<x.fScope:=λg x b=>by
  have:=h.drop (i:=i);rw[B6 l i g]at this;exact(bS.1 this).1 x b
 have o:∀x∈l.drop i,s<=x.fScope:=λx b=>by
  by_cases g:i<l.length
  ·rw[B6 l i g]at b;grind
  grind
 have f:∀p:Sta->Bool,l.filter p=(l.take i).filter p++(l.drop i).filter p:=λp=>by rw[<-bT,bU]
 refine⟨?_,λn=>?_,λg t=>?_⟩
 ·rw[f,aX.2 (λx b=>by simpa using j x b),bP.2 (λx b=>by have:=o x b;simp;omega),append_nil]
 ·rw[f,bP.2 (λx b=>by have:=j x b;simp;omega),bX,aX.2 (λx b=>?_)];by_cases g:i<l.length
  ·rw[B6 l i g]at b;grind
  grind
 ·rw[f,bP.2 (λx b=>by have:=j x b;simp;omega),bX,B6 l i g,bL,if_neg Ψ,aX.2 (λx b=>by have:=q g x b;simp;omega)]
theorem zeu (n:Nat)(s:Int)(l:List Sta)(b:l.length<=1100000)(K:List Sta->Option (List Sta)):∀(m k:Nat) (out:List Sta),k<=l.length->l.length<m+k->out.length<=k->L3 n s l K m ((k:Int),out)=K (out++(l.drop k).filter (λx=>!decide (x.fScope=s)))
 |0,k,out,h1,h2,j=>by omega
 |m+1,k,out,h1,h2,j=>by
  unfold L3;simp only[aA,A4,Ar];by_cases h:k<l.length
  ·have g:=zeu n s l b K m (k+1) (out++[l[k]]) Ω Ω (by simp_all);have f:=zeu n s l b K m (k+1) out Ω Ω Ω;rw[if_pos Ω,Ak,Ae h,Ae h,B6 l k h,Af k Ω,Bo (by grind) Ω,g,f,bL];grind
  grind
theorem zyi (n:Nat)(s:Int)(l:List Sta)(b:l.length<=1100000)(f:l.length<n):R9 n l s=some (clS l s):=by
 have:=zeu n s l b (λy=>some y) n 0 [] Ω Ω Δ;unfold R9 clS;simp_all
theorem zhd (n:Nat)(s t:Int)(l:List Sta)(o:l.length<=1100000)(K:List Sta->Int->List Sta->Option (List Sta))(r:Option (List Sta))
  (f:∀i:Nat,i<=l.length->(∀k (b:k<l.length),k<i->l[k].fScope<s)->(∀b:i<l.length,¬l[i].fScope<s)->K l (i:Int) (l.take i)=r) :
  ∀(m k:Nat),k<=l.length->l.length<m+k->(∀j (u:j<l.length),j<k->l[j].fScope<s)->Ix n t s l K m ((k:Int),l.take k)=r
 |0,k,h1,h2,g=>by omega
 |m+1,k,h1,h2,g=>by
  unfold Ix;simp only[aA,A4,Ay,Ak,L2];by_cases h:k<l.length
  ·rw[if_pos Ω,Ae h];by_cases q:l[k].fScope<s
   ·rw[if_pos q,Ae h,Bo (by grind) Ω,Af k Ω,<-aH h];exact zhd n s t l o K r f m (k+1) Ω Ω (λj u p=>by
     grind)
   ·rw[if_neg q];exact f k h1 g (λ_=>q)
  ·rw[if_neg Ω,Al];exact f k h1 g (λb=>absurd b h)
theorem yce (h:SS l)(s:Int):SS (clS l s):=h.filter _
theorem y46 (l:List Sta)(s:Int):(clS l s).length<=l.length:=bA _ _
theorem y26 (n:Nat)(s t:Int)(l:List Sta)(hs:SS l)(p:l.length<=1100000)(o:l.length<n):Vm n l s t=some (opS l s t):=by
 unfold Vm;rw[zyi n s l p o,A0];have z:=y46 l s;refine zhd n s t (clS l s) Ω _ _ (λi hi h1 h2=>?_) n 0 Ω Ω (λj _ y=>by omega);obtain⟨u,q,_⟩:=zxn (yce hs s) hi h1 h2;have g:∀h:i<(clS l s).length,(clS l s)[i].fScope≠s:=λh=>by
  have:=(bH.1 (aC h)).2;simpa using this
 have:=Fu (l:=clS l s) hi (bK _) (λf=>app ((clS l s).take i++[⟨s,t⟩]) f 16 λb=>some b);rw[Bo (by grind) Ω];simp only[aA];rw[this,take_length,Bo (by grind) Ω,u,q g];unfold opS clS;rw[cE,cE,aV];congr 2;all_goals grind
def keP (l:List Sta)(t:Int)(x:Lim):Bool:=match l.find? (λs=>decide (s.fScope=x.fScope))with|some s=>decide (aS .i64 (t-s.fTime)<=x.fSpan)|none=>false
theorem zs5 (n:Nat)(t:Int)(x:Lim)(l:List Sta)(b:l.length<=1100000):∀(m k:Nat),k<=l.length->l.length<m+k->Qu n t x l (some false) m (k:Int)=some (keP (l.drop k) t x)
 |0,k,h1,h2=>by omega
 |m+1,k,h1,h2=>by
  unfold Qu;simp only[aA,A4];by_cases h:k<l.length
  ·rw[if_pos Ω,Ae h,Ae h,B6 l k h,Af k Ω,zs5 n t x l b m (k+1) Ω Ω];unfold keP;grind
  ·rw[if_neg Ω,aB Ω];rfl
theorem ybd (n:Nat)(t:Int)(x:Lim)(l:List Sta)(b:l.length<=1100000)(f:l.length<n):W5 n l x t=some (keP l t x):=by
 have:=zs5 n t x l b n 0 Ω Ω;unfold W5;simp_all
theorem ycp (x:Int)(b:0<=x)(h1:x<=18446744073709551615):aS .u64 x=x:=IntWalk.u64_in _ ⟨b,h1⟩
theorem y9u (i j:Nat)(h:i+j<=3000000):aS .i64 (Int.fdiv (aS .u64 (aS .i64 ((i:Int)+(j:Int)))) (2 ^ min (Int.toNat (1:Int)) (cQ .u64)))=(((i+j) / 2:Nat):Int):=by
 have g:aS .i64 ((i:Int)+(j:Int))=((i+j:Nat):Int):=by rw[Cl _ Ω];omega
 rw[g,ycp _ Ω Ω];have f:(2:Int) ^ min (Int.toNat (1:Int)) (cQ .u64)=2:=Θ
 rw[f];have b:Int.fdiv ((i+j:Nat):Int) 2=(((i+j) / 2:Nat):Int):=by
  rw[Int.fdiv_eq_ediv_of_nonneg _ Ω];omega
 rw[b,Cl _ Ω]
theorem y94 (n:Nat)(a:Sta)(s:Int):Ny n a s=some (cmpI a.fScope s):=by
 unfold Ny;rw[Un,A0]
theorem Ym (a b:Int):cmpI a b<0 ↔ a<b:=by unfold cmpI;split<;>(try split)<;>omega
theorem y84 (a b:Int):cmpI a b=0 ↔ a=b:=Ib.zero a b
theorem zw6 (n:Nat)(l:List Sta)(s:Int)(hs:SS l)(t:l.length<=1100000)(K:Int->Option (Int×Bool))(r:Option (Int×Bool))
  (A:∀i:Nat,i<=l.length->(∀k (o:k<l.length),k<i->l[k].fScope<s)->(∀o:i<l.length,¬l[i].fScope<s)->K (i:Int)=r) :
  ∀(m i j:Nat),i<=j->j<=l.length->j-i<m->(∀k (h:k<l.length),k<i->l[k].fScope<s)->(∀k (h:k<l.length),j<=k->¬l[k].fScope<s)->Kr n s l K m ((i:Int),(j:Int))=r
 |0,i,j,h1,h2,F,_,_=>by omega
 |m+1,i,j,h1,h2,F,g,p=>by
  have mono:∀a b (z:a<l.length) (y:b<l.length),a<=b->l[a].fScope<=l[b].fScope:=λa b z y f=>by
   rcases Nat.eq_or_lt_of_le f with rfl|f
   ·exact Int.le_refl _
   ·have:=pairwise_iff_getElem.1 hs a b z y f;omega
  unfold Kr;simp only[A4];by_cases h:i<j
  ·rw[if_pos Ω,yar Ω,y9u i j Ω];have E:(i+j) / 2<l.length:=Ω
   rw[Ae E,y94,A0,Af _ Ω];by_cases u:l[(i+j) / 2].fScope<s
   ·rw[if_pos ((Ym _ _).2 u)];exact zw6 n l s hs t K r A m ((i+j) / 2+1) j Ω h2 Ω (λk o B=>by grind) p
   ·rw[if_neg (λq=>u ((Ym _ _).1 q))];exact zw6 n l s hs t K r A m i ((i+j) / 2) Ω Ω Ω g (λk o C=>by grind)
  ·have D:i=j:=Ω
   simp_all
theorem p_bs (n:Nat)(l:List Sta)(s:Int)(hs:SS l)(y:l.length<=1100000)(z:l.length<n):∃i:Nat,i<=l.length/\l.take i=l.filter (λx=>decide (x.fScope<s))/\((Q5 n l s=some ((i:Int),false)/\l.drop i=l.filter (λx=>decide (s<x.fScope)))\/∃b:i<l.length,l[i].fScope=s/\Q5 n l s=some ((i:Int),true)/\l.drop (i+1)=l.filter (λx=>decide (s<x.fScope))):=by
 have key:∃i:Nat,i<=l.length/\(∀k (b:k<l.length),k<i->l[k].fScope<s)/\(∀b:i<l.length,¬l[i].fScope<s):=by
  refine⟨(l.takeWhile (λx=>decide (x.fScope<s))).length,(takeWhile_sublist _).length_le,?_⟩;clear hs y z
  induction l with
  |nil=>simp_all
  |cons x l ih =>
   rw[takeWhile_cons];grind
 obtain⟨i,hi,h1,h2⟩:=key;have uq:∀j:Nat,j<=l.length->(∀k (b:k<l.length),k<j->l[k].fScope<s)->(∀b:j<l.length,¬l[j].fScope<s)->j=i:=λj g p o=>by
  grind
 obtain⟨D,C,B⟩:=zxn hs hi h1 h2;refine⟨i,hi,D,?_⟩;unfold Q5;simp only[aA,A4];have bs:=λr A=>zw6 n l s hs y (λk1_0_0y=>if k1_0_0y<((l.length:Nat):Int)then(idx l k1_0_0y λu=>bnd (Ny n u s) λt=>some (k1_0_0y,decide (t=0)))else some (k1_0_0y,false)) r A n 0 l.length Ω Ω Ω (λk _ h=>by omega) (λk b h=>by omega)
 by_cases e:∃b:i<l.length,l[i].fScope=s
 ·obtain⟨b,f⟩:=e;refine aK ⟨b,f,bs _ (λj g p o=>?_),B b f⟩;obtain rfl:=uq j g p o;rw[if_pos Ω,Ae b,y94,A0];have:cmpI l[j].fScope s=0:=(y84 _ _).2 f;simp[this]
 ·refine aN ⟨bs _ (λj g p o=>?_),C (λb f=>e ⟨b,f⟩)⟩;obtain rfl:=uq j g p o;by_cases b:j<l.length
  ·rw[if_pos Ω,Ae b,y94,A0];have:¬cmpI l[j].fScope s=0:=λq=>e ⟨b,(y84 _ _).1 q⟩
   simp[this]
  ·rw[if_neg Ω]
variable {α:Type}
theorem yc0 {n c:Nat}{a:List α}{x:α}(h:c<=a.length)(b:a.length<=1000000000):U2 n a (c:Int) [x]=some (a.take c++x::a.drop c):=by
 unfold U2;simp[h,b]
theorem zjk (n:Nat)(t:Int)(f:List Int)(C:f.length<=1100000)(K:List Sta->Option (List Sta)):∀(m k:Nat) (b:List Sta),k<=f.length->f.length<m+k->SS b->b.length+(f.length-k)<=1100000->b.length+(f.length-k)<n->K4 n t f K m ((k:Int),b)=K ((f.drop k).foldl (λl s=>opS l s t) b)
 |0,k,b,h1,h2,q,E,D=>by omega
 |m+1,k,b,h1,h2,q,E,D=>by
  unfold K4;simp only[aA,A4,Ar,Ay,Ak,Nq];by_cases h:k<f.length
  ·rw[if_pos Ω,Ae h,B6 f k h,aQ];have B:=zwb b f[k] t;have z:=zjk n t f C K m (k+1) (opS b f[k] t) Ω Ω (y2u q _ _) Ω Ω;obtain⟨i,hi,A,G⟩:=p_bs n b f[k] q Ω Ω;rcases G with⟨y,u⟩|⟨p,F,y,u⟩
   ·rw[y,A0];simp only[Al];rw[yc0 hi Ω,zkw];have j:i<(b.take i++(⟨f[k],0⟩:Sta)::b.drop i).length:=Ψ
    rw[Cs j,Ys j,E7 j,Af k Ω];have e:(b.take i++(⟨f[k],0⟩:Sta)::b.drop i).set i (⟨(b.take i++(⟨f[k],0⟩:Sta)::b.drop i)[i].fScope,t⟩:Sta)=opS b f[k] t:=by
     have o:(b.take i).length=i:=by rw[bQ];omega
     have g:(b.take i++(⟨f[k],0⟩:Sta)::b.drop i)[i].fScope=f[k]:=by
      rw[getElem_append_right Ω];simp[o]
     rw[g,set_append_right _ _ Ω,o,Nat.sub_self,set_cons_zero];unfold opS;rw[A,u]
    rw[e];exact z
   ·rw[y,A0];simp only[Aj];rw[Cs p,Ys p,E7 p,Af k Ω];have e:b.set i (⟨b[i].fScope,t⟩:Sta)=opS b f[k] t:=by
     rw[set_eq_take_append_cons_drop,if_pos p,F,A,u];rfl
    rw[e];exact z
  grind
def opL (l:List Sta)(b:List Int)(t:Int):List Sta:=b.foldl (λl s=>opS l s t) l
theorem y5q (n:Nat)(t:Int)(b:List Int)(l:List Sta)(hs:SS l)(g:l.length+b.length<=1100000)(f:1100000<n):Xu n l b t=some (opL l b t):=by
 unfold Xu C8;rw[if_pos Ω,Ye];have:=zjk n t b Ω (λy=>some y) n 0 l (aE _) Ω hs Ω Ω;exact this
theorem y7l (t:Int):∀(b:List Int) {l:List Sta},SS l->SS (opL l b t)
 |[],_,h=>h
 |s::b,l,h=>y7l t b (y2u h s t)
theorem zog (t:Int):∀(b:List Int) (l:List Sta),(opL l b t).length<=l.length+b.length
 |[],l=>by simp[opL]
 |s::b,l=>by
  have h1:=zog t b (opS l s t);have h2:=zwb l s t;have f:opL l (s::b) t=opL (opS l s t) b t:=rfl;rw[f,bO];omega
theorem opL_mem (t:Int):∀(b:List Int) {l:List Sta} {x:Sta},x∈opL l b t->(x.fScope∈b/\x.fTime=t)\/x∈l
 |[],l,x,h=>aK h
 |s::b,l,x,h=>by
  rcases opL_mem t b (l:=opS l s t) h with k|k
  ·simp_all
  ·rcases opS_mem k with q|q
   all_goals simp_all
theorem fidx_cases (p:α->Bool):∀l:List α,(l.find? p=none/\fidx p l=-1)\/∃i,∃h:i<l.length,fidx p l=(i:Int)/\l.find? p=some l[i]
 |[]=>aN ⟨rfl,rfl⟩
 |x::l=>by
  by_cases q:p x=true
  ·refine aK ⟨0,Δ,?_,?_⟩
   ·unfold fidx;rw[findIdx?_cons,if_pos q]
   ·rw[bI];simp[q]
  ·rcases fidx_cases p l with⟨h1,h2⟩|⟨i,hi,h1,h2⟩
   ·refine aN ⟨by rw[bI];simp[q,h1],?_⟩;unfold fidx at h2 ⊢;grind
   ·refine aK ⟨i+1,Ψ,?_,by rw[bI];simp[q,h2]⟩;unfold fidx at h1 ⊢;grind
theorem zjm (n:Nat)(t:Int)(l:List Sta)(o:l.length<=1100000)(g:l.length<n)(xs:List Lim)(j:xs.length<=1100000):∀(m k:Nat),k<=xs.length->xs.length<m+k->K5 n t xs l (some true) m (k:Int)=some ((xs.drop k).all (keP l t))
 |0,k,h1,h2=>by omega
 |m+1,k,h1,h2=>by
  unfold K5;simp only[aA,A4,Ay,Ak,Nr,Aj];by_cases h:k<xs.length
  ·rw[if_pos Ω,Ae h,B6 xs k h,cO,Af k Ω,zjm n t l o g xs j m (k+1) Ω Ω,zs7 n _ (λs=>decide (s.fScope=xs[k].fScope)) l Ω g (λs _=>rfl),A0];rcases fidx_cases (λs:Sta=>decide (s.fScope=xs[k].fScope)) l with⟨f,b⟩|⟨i,hi,f,b⟩
   ·rw[b,if_pos Ω];unfold keP;rw[f];rfl
   ·rw[f,if_neg Ω,Ae hi];have e:keP l t xs[k]=decide (aS .i64 (t-l[i].fTime)<=xs[k].fSpan):=by unfold keP;rw[b]
    grind
  ·rw[if_neg Ω,aB Ω];rfl
theorem y5s (n:Nat)(t:Int)(l:List Sta)(f:l.length<=1100000)(g:1100000<n)(xs:List Lim)(b:xs.length<=1100000):Xv n l xs t=some (xs.all (keP l t)):=by
 have:=zjm n t l f Ω xs b n 0 Ω Ω;unfold Xv;simp_all
def clP (cs:List Int)(x:Sta):Bool:=cs.any λy=>decide (x.fScope=y)
theorem y9b (n:Nat)(x:Ed)(b:x.fCloses.length<=1100000)(f:1100000<n)(s:Sta):M4 n s x=some (clP x.fCloses s):=by
 unfold M4;rw[I4 n _ _ Ω Ω,A0];rfl
theorem y5y (n:Nat)(x:Ed)(b:x.fCloses.length<=1100000)(f:1100000<n)(s:Sta):Pb n s x=some (clP x.fCloses s,x):=by
 unfold Pb;rw[I4 n _ _ Ω Ω,A0];rfl
abbrev ncl (x:Ed)(s:Sta):Bool:=!clP x.fCloses s
theorem zod (n:Nat)(x:Ed)(o:x.fCloses.length<=1100000)(p:1100000<n)(l:List Sta)(B:l.length<=1100000)(K:Int->Int->Int->Int->Int->Int->List AV->Int->Int->Int->Int->Int->ByteArray->List Int->List Int->List AV->List C2->List Int->List Sta->Option (List Sta×Ed))(r:Option (List Sta×Ed))
  (E:∀(i:Nat) (b:List Sta),b.length=l.length->i<=l.length->b.take i=l.filter (ncl x)->K (i:Int) x.fFrom x.fTo x.fVar x.fType x.fCond.fOp x.fCond.fArgs x.fCond.fVar x.fCond.fField x.fCond.fKind x.fCond.fValue.fKind x.fCond.fValue.fNum x.fCond.fValue.fText x.fOpens x.fCloses x.fChecks x.fLimits x.fInside b=r) :
  ∀(m i j:Nat) (b:List Sta),i<=j->j<=l.length->l.length<m+j->b.length=l.length->b.take i=(l.take j).filter (ncl x)->b.drop j=l.drop j->Ml n K m ((i:Int),(j:Int),x.fFrom,x.fTo,x.fVar,x.fType,x.fCond.fOp,x.fCond.fArgs,x.fCond.fVar,x.fCond.fField,x.fCond.fKind,x.fCond.fValue.fKind,x.fCond.fValue.fNum,x.fCond.fValue.fText,x.fOpens,x.fCloses,x.fChecks,x.fLimits,x.fInside,b)=r
 |0,i,j,b,G,h1,F,A,z,y=>by omega
 |m+1,i,j,b,G,h1,F,A,z,y=>by
  unfold Ml;simp only[aA,A4];by_cases h:j<l.length
  ·have u:j<b.length:=Ω
   rw[if_pos Ω,Cs u,Cu u,Af i Ω,Af j Ω];have H:Pb n b[j] (⟨x.fFrom,x.fTo,x.fVar,x.fType,⟨x.fCond.fOp,x.fCond.fArgs,x.fCond.fVar,x.fCond.fField,x.fCond.fKind,⟨x.fCond.fValue.fKind,x.fCond.fValue.fNum,x.fCond.fValue.fText⟩⟩,x.fOpens,x.fCloses,x.fChecks,x.fLimits,x.fInside⟩:Ed)=some (clP x.fCloses b[j],x):=y5y n x o p b[j];rw[H,Ck];simp only;have t:b[j]=l[j]:=by
    have:=congrArg (λq=>q[0]?) y;simp only[getElem?_drop,Nat.add_zero,aD u,aD h,Option.some.injEq]at this;exact this
   have D:b.drop (j+1)=l.drop (j+1):=by
    have:=congrArg List.tail y;simpa using this
   have g:(l.take (j+1)).filter (ncl x)=(l.take j).filter (ncl x)++(if ncl x l[j]=true then[l[j]]else[]):=by
    rw[aH h,bT,bL];rfl
   rw[t];cases C:clP x.fCloses l[j]with
   |false =>
    have hi:i<b.length:=Ω
    simp only[aR,Aj];rw[Cs hi,E7 hi];have f:ncl x l[j]=true:=by unfold ncl;rw[C];rfl
    rw[f]at g;refine zod n x o p l B K r E m (i+1) (j+1) _ Ω Ω Ω (by simp[A]) ?_ ?_
    ·rw[g,if_pos rfl,<-z,aH (by simpa using hi)];simp[take_set_of_le]
    ·rw[<-D,drop_set_of_lt Ω]
   |true =>
    simp only[aU,Al];have f:ncl x l[j]=false:=by unfold ncl;rw[C];rfl
    rw[f]at g;exact zod n x o p l B K r E m i (j+1) _ Ω Ω Ω A (by rw[g,z];simp) D
  grind
theorem y5x (n:Nat)(x:Ed)(u:x.fCloses.length<=1100000)(y:1100000<n)(l:List Sta)(B:l.length<=1100000):Wn n x l=some (l.filter (ncl x),x):=by
 unfold Wn;rw[zs6 n x (clP x.fCloses) l Ω Ω (λs _=>y9b n x u y s),A0];rcases fidx_cases (clP x.fCloses) l with⟨t,p⟩|⟨i,hi,t,p⟩
 ·rw[p,A4,if_pos rfl,aX.2 (λs hs=>?_)];simp_all
 ·rw[t,A4,if_neg Ω,Af i Ω];have g:∀s∈l.take i,ncl x s=true:=λs hs=>by
   obtain⟨k,C,rfl⟩:=bE.1 hs;rw[bQ]at C;rw[getElem_take];have D:l.findIdx? (clP x.fCloses)=some i:=by
    unfold fidx at t;cases F:l.findIdx? (clP x.fCloses)with
    |none=>simp_all
    |some j=>grind
   have:=(bN.1 D).2.2 k Ω;simpa[ncl]using this
  have o:ncl x l[i]=false:=by
   have:=find?_some p;simp[ncl,this]
  refine zod n x u y l B _ _ (λq f G E A=>?_) n i (i+1) l Ω Ω Ω rfl ?_ rfl
  ·simp only[aA];rw[Yo Ω,y44 Ω];have z:=zq6 f q (⟨0,0⟩:Sta) Ω;have:=Fu (l:=clrL f q (⟨0,0⟩:Sta)) (a:=0) (b:=q) Ω Ω (λh=>some (h,x));refine this.trans ?_;rw[aM,zkq f q _ Ω,A]
  ·rw[aH hi,bT,aX.2 g];simp[o]
theorem ycf (cs:List Int):∀l:List Sta,cs.foldl clS l=l.filter (λs=>!clP cs s):=by
 induction cs with
 |nil=>intro l;exact(aX.2 (λ_ _=>rfl)).symm
 |cons c cs b =>
  intro l;rw[aQ,b];unfold clS;rw[cE];refine filter_congr (λs _=>?_);unfold clP;grind
abbrev cf0:Cf:=⟨0,[],[]⟩
def hasI (l:List Int)(n:Int):Bool:=l.any λy=>decide (n=y)
theorem zy9 (n:Nat)(s:Int)(l:List Int)(b:l.length<=1100000):∀(m k:Nat),k<=l.length->l.length<m+k->R8 n s l (some false) m (k:Int)=some (hasI (l.drop k) s)
 |0,k,h1,h2=>by omega
 |m+1,k,h1,h2=>by
  unfold R8;simp only[aA,A4];by_cases h:k<l.length
  ·rw[if_pos Ω,Ae h,B6 l k h,Af k Ω,zy9 n s l b m (k+1) Ω Ω];unfold hasI;grind
  ·rw[if_neg Ω,aB Ω];rfl
theorem yd3 (n:Nat)(s:Int)(l:List Int)(b:l.length<=1100000)(f:l.length<n):Wf n l s=some (hasI l s):=by
 have:=zy9 n s l b n 0 Ω Ω;unfold Wf;simp_all
def zig (a:Aut)(s:Int):List Gd:=match a.fStates[s.toNat]? with|some s=>s.fGuards|none=>[]
def chE (x:Ed):List Exn:=x.fChecks.filterMap C7
variable {x:Ed}
theorem y85 {ys:List Exn}(h:x.fChecks=ys.map Aw):chE x=ys:=by
 unfold chE;rw[h,filterMap_map];have:(C7 ∘ Aw)=some:=by funext y;exact Tc y
 rw[this,filterMap_some]
def ckP (x:Ed)(env:List (List Ev)):Bool:=(chE x).all (λy=>trR env y (-1) ev0)
def gdP (a:Aut)(c:Cf)(x:Ed)(env:List (List Ev))(e:Ev):Bool:=(zig a c.fState).any (λg=>!hasI x.fInside g.fScope && vio env e g)
def stN (c:Cf)(x:Ed)(e:Ev):List Sta:=opL c.fStarts x.fOpens e.fTime
def bdN (c:Cf)(x:Ed)(e:Ev):List Bd:=c.fBindings++[⟨x.fVar,Bn e⟩]
def coP (a:Aut)(held:List Ev)(c:Cf)(x:Ed)(e:Ev):Option Cf :=
 if x.fType=e.fType/\gdP a c x (enH held c.fBindings) e=false/\trR (enH held c.fBindings) x.fCond x.fVar e=true/\x.fLimits.all (keP (stN c x e) e.fTime)=true/\ckP x (enH (e::held) (bdN c x e))=true then some ⟨x.fTo,bdN c x e,(stN c x e).filter (ncl x)⟩else none
def rfC:Option Cf->Cf×Bool |some c=>(c,true) |none=>(cf0,false)
structure CB (held:List Ev) (a:Aut) (k:Nat) (c:Cf):Prop where
 st:0<=c.fState/\c.fState<a.fStates.length
 bd:BdOk held a.fVars c.fBindings
 ss:SS c.fStarts
 lb:c.fBindings.length<=k
 ls:c.fStarts.length<=100*k
structure CxA (a:Aut) (held:List Ev):Prop where
 wf:WfA a
 ok:AOk a
 lo:∀x∈a.fEdges,x.fOpens.length<=100
 lh:held.length<=10000
variable {a:Aut}
theorem zfs (h:0<=s/\s<a.fStates.length):∃b:Stt,a.fStates[s.toNat]? = some b/\b∈a.fStates/\zig a s=b.fGuards:=by
 have:s.toNat<a.fStates.length:=Ω
 refine⟨a.fStates[s.toNat],aD this,aC this,?_⟩;unfold zig;rw[aD this]
variable {β:Type}
theorem zie {l:List α}{n:Int}{x:α}(b:0<=n)(h:l[n.toNat]? = some x)(k:α->Option β):idx l n k=k x:=by
 unfold idx;rw[if_pos b,h]
variable {k:Nat}
theorem zwi {ys:List Exn}(h:x.fChecks=ys.map Aw)(b:k<ys.length)(Q:Exn->Option β):idxD C7 x.fChecks (k:Int) Q=Q ys[k]:=by
 unfold idxD;rw[if_pos Ω,h];simp[b,Tc]
theorem zru (e:Ev)(x:Ed)(c:Cf)(held:List Ev)(env:List (List Ev))(hs:EvS env)(b:Stt)(j:b.fGuards.length<=1100000)(f:∀g∈b.fGuards,WfE g.fCond)(hi:x.fInside.length<=1100000)(K:List (List Ev)->Option (Cf×Bool)):∀(m k:Nat),k<=b.fGuards.length->b.fGuards.length<m+k->Iq N0 e x c held ⟨env⟩ b K m (k:Int)=if(b.fGuards.drop k).any (λg=>!hasI x.fInside g.fScope && vio env e g)=true then some (cf0,false)else K env
 |0,k,h1,h2=>by omega
 |m+1,k,h1,h2=>by
  unfold Iq;simp only[aA,A4,Ay,Ak,Ku];by_cases h:k<b.fGuards.length
  ·rw[if_pos Ω,Ae h,B6 _ k h,any_cons,yd3 N0 _ _ hi (by unfold N0;omega),A0,Af k Ω,zru e x c held env hs b j f hi K m (k+1) Ω Ω,Ae h,y24 hs (f _ (aC h)),A0];cases hasI x.fInside b.fGuards[k].fScope with
   |true=>simp[Al]
   |false =>
    simp only[aR,Aj,Bool.true_and];cases vio env e b.fGuards[k]<;>simp[Aj,Al]
  grind
theorem zrt (e:Ev)(x:Ed)(c:Cf)(held:List Ev)(j:x.fOpens.length<=1100000)(K:List Sta->Option (Cf×Bool)):∀(m k:Nat) (b:List Sta),k<=x.fOpens.length->x.fOpens.length<m+k->SS b->b.length+(x.fOpens.length-k)<=1100000->Pm N0 e x c held K m ((k:Int),b)=K ((x.fOpens.drop k).foldl (λl s=>opS l s e.fTime) b)
 |0,k,b,h1,h2,f,n=>by omega
 |m+1,k,b,h1,h2,f,n=>by
  unfold Pm;simp only[aA,A4];by_cases h:k<x.fOpens.length
  ·have g:=zwb b x.fOpens[k] e.fTime;rw[if_pos Ω,Ae h,B6 _ k h,aQ,y26 N0 _ _ b f Ω (by unfold N0;omega),A0,Af k Ω];exact zrt e x c held j K m (k+1) _ Ω Ω (y2u f _ _) Ω
  grind
theorem zrs (e:Ev)(x:Ed)(c:Cf)(held:List Ev)(b:x.fLimits.length<=1100000)(s:List Sta)(hs:s.length<=1100000)(K:Option (Cf×Bool)):∀(m k:Nat),k<=x.fLimits.length->x.fLimits.length<m+k->Pk N0 e x c held s K m (k:Int)=if(x.fLimits.drop k).all (keP s e.fTime)=true then K else some (cf0,false)
 |0,k,h1,h2=>by omega
 |m+1,k,h1,h2=>by
  unfold Pk;simp only[aA,A4,Ar];by_cases h:k<x.fLimits.length
  ·rw[if_pos Ω,Ae h,B6 _ k h,cO,ybd N0 _ _ s hs (by unfold N0;omega),A0,Af k Ω,zrs e x c held b s hs K m (k+1) Ω Ω];cases keP s e.fTime x.fLimits[k]<;>simp[Aj,Al]
  grind
theorem zrr (x:Ed)(s:List Sta)(bs:List Bd)(env:List (List Ev))(hs:EvS env)(ys:List Exn)(b:x.fChecks=ys.map Aw)(g:∀y∈ys,WfE y)(j:ys.length<=1100000)(K:List Bd->Option (Cf×Bool)):∀(m k:Nat),k<=ys.length->ys.length<m+k->Pj N0 x s bs ⟨env⟩ K m (k:Int)=if(ys.drop k).all (λy=>trR env y (-1) ev0)=true then K bs else some (cf0,false)
 |0,k,h1,h2=>by omega
 |m+1,k,h1,h2=>by
  unfold Pj;have f:x.fChecks.length=ys.length:=by rw[b,aA]
  simp only[aA,A4,Ar,f];by_cases h:k<ys.length
  ·rw[if_pos Ω,zwi b h,B6 _ k h,cO,(Ul (λv=>rfl:EvEq env env) hs (g _ (aC h)) (-1) ev0).1,A0,Af k Ω,zrr x s bs env hs ys b g j K m (k+1) Ω Ω];cases trR env ys[k] (-1) ev0<;>simp[Aj,Al]
  grind
theorem zrq (x:Ed)(bs:List Bd)(j:x.fCloses.length<=1100000)(K:List Sta->Option (Cf×Bool)):∀(m k:Nat) (b:List Sta),k<=x.fCloses.length->x.fCloses.length<m+k->b.length<=1100000->Pi N0 x bs K m ((k:Int),b)=K ((x.fCloses.drop k).foldl clS b)
 |0,k,b,h1,h2,f=>by omega
 |m+1,k,b,h1,h2,f=>by
  unfold Pi;simp only[aA,A4];by_cases h:k<x.fCloses.length
  ·have g:=y46 b x.fCloses[k];rw[if_pos Ω,Ae h,B6 _ k h,aQ,zyi N0 _ b f (by unfold N0;omega),A0,Af k Ω];exact zrq x bs j K m (k+1) _ Ω Ω Ω
  grind
variable {c:Cf}
theorem y0b {held:List Ev}(b:CxA a held)(hk:k<=1000)(t:CB held a k c)(n:x∈a.fEdges)(e:Ev):Lt N0 a held c x e=some (rfC (coP a held c x e)):=by
 have T:=t.lb;have Q:=t.ls;have R:=b.lo x n;have S:=b.lh;have wx:=b.wf.ed x n;have U:=zog e.fTime x.fOpens c.fStarts;obtain⟨j,Y,H,X⟩:=zfs t.st;obtain⟨ys,D,B⟩:=wx.checks;have C:ys.length<=1100000:=by have:=wx.lc;rw[D,aA]at this;exact this
 have q:EvS (enH held c.fBindings):=U7 Ω;have p:EvS (enH (e::held) (bdN c x e)):=U7 (by unfold bdN;simp;omega);unfold Lt;rw[y29 N0 Θ held Ω c Ω,A0,zie t.st.1 Y];have O:=zru e x c held (enH held c.fBindings) q j (b.wf.st j H).1 (b.wf.st j H).2 wx.li (λk1_0_0y=>jon (Em N0 e x c held) <| reg <| cnd (!decide (x.fType=e.fType)) (Em N0 e x c held true) <| bnd (Gb N0 x.fCond (⟨k1_0_0y⟩:Av) x.fVar e) λf=>Em N0 e x c held !(f)) N0 0 (aE _) (by have:=(b.wf.st j H).1;unfold N0;omega);refine O.trans ?_;rw[aM];have E:gdP a c x (enH held c.fBindings) e=j.fGuards.any (λg=>!hasI x.fInside g.fScope && vio (enH held c.fBindings) e g):=by unfold gdP;rw[X]
 rw[<-E];unfold coP;by_cases z:gdP a c x (enH held c.fBindings) e=true
 ·rw[if_pos z,if_neg (by rw[z];simp)];rfl
 have A:gdP a c x (enH held c.fBindings) e=false:=by simpa using z
 rw[if_neg z];simp only[Ay,Ak,Ar,A4];have j3t:Em N0 e x c held true=some (cf0,false):=by unfold Em;rw[Aj]
 by_cases u:x.fType=e.fType;rotate_left
 ·rw[if_neg u,j3t,if_neg (λh=>u h.1)];rfl
 rw[if_pos u,(Ul (λv=>rfl:EvEq (enH held c.fBindings) (enH held c.fBindings)) q wx.cond x.fVar e).1,A0];cases q3:trR (enH held c.fBindings) x.fCond x.fVar e with
 |false =>
  simp only[aR,j3t];rw[if_neg Δ];rfl
 |true =>
  simp only[aU];unfold Em;rw[Al];have o:(stN c x e).length<=1100000:=by unfold stN;omega
  have M:=λK=>zrt e x c held wx.lo K N0 0 c.fStarts (aE _) (by have:=wx.lo;unfold N0;omega) t.ss Ω
  refine(M _).trans ?_;rw[aM];have F:x.fOpens.foldl (λl s=>opS l s e.fTime) c.fStarts=stN c x e:=rfl;rw[F];have L:=λK=>zrs e x c held wx.ll (stN c x e) o K N0 0 (aE _) (by have:=wx.ll;unfold N0;omega)
  refine(L _).trans ?_;rw[aM];cases q4:x.fLimits.all (keP (stN c x e) e.fTime)with
  |false =>
   rw[if_neg Δ,if_neg Δ];rfl
  |true =>
   rw[if_pos rfl,Bo Ψ Ω,y90,A0];unfold bldS;simp only[];rw[Bo (by grind) Ω,Yt,Ak];unfold bld;simp only[];rw[Bo (by grind) Ω];have W:([]++c.fBindings++[⟨x.fVar,⟨e.fTime,e.fSource,e.fSeq⟩⟩]:List Bd)=bdN c x e:=rfl;have V:([e]++held:List Ev)=e::held:=rfl;rw[W,V,y29 N0 Θ (e::held) Ψ _ (by unfold bdN;simp;omega),A0];have J:=λK=>zrr x (stN c x e) (bdN c x e) (enH (e::held) (bdN c x e)) p ys D B C K N0 0 (aE _) (by unfold N0;omega)
   refine(J _).trans ?_;have G:ckP x (enH (e::held) (bdN c x e))=ys.all (λy=>trR (enH (e::held) (bdN c x e)) y (-1) ev0):=by unfold ckP;rw[y85 D]
   rw[aM,<-G];cases Z:ckP x (enH (e::held) (bdN c x e))with
   |false =>
    rw[if_neg Δ,if_neg Δ];rfl
   |true =>
    rw[if_pos rfl,if_pos ⟨u,A,Δ⟩];have I:=λK=>zrq x (bdN c x e) wx.lcl K N0 0 (stN c x e) (aE _) (by have:=wx.lcl;unfold N0;omega) o
    refine(I _).trans ?_;rw[aM,ycf];rfl
variable {e:Ev}
theorem y69 {held:List Ev}(f:∀y∈held,Bn y=Bn e->y=e){r:Rf}(h:(lkH held r).isSome=true):lkH (e::held) r=lkH held r:=by
 obtain⟨y,b⟩:=bD.1 h;obtain⟨h1,h2⟩:=zwe b;have:lkH (e::held) r=if Bn e=r then some e else lkH held r:=by
  unfold lkH;rw[bI];grind
 grind
theorem ya6 (vs:List (List Ev))(i:Nat)(hi:i<vs.length)(q:List Ev)(v:Int):evs (vs.set i q) v=if v=(i:Int)then q else evs vs v:=by
 unfold evs;grind
variable {v:Int}
theorem y6p (t:AOk a){held:List Ev}(j:∀y∈held,Bn y=Bn e->y=e){l:List Bd}(o:BdOk held a.fVars l)(u:0<=v/\v<a.fVars):EvEq (enH (e::held) (l++[⟨v,Bn e⟩])) ((bndV held a.fVars.toNat l).set v.toNat ((bndV held a.fVars.toNat l).getD v.toNat []++[e])):=λw=>by
 have g:=t.vars;have f:v.toNat<(bndV held a.fVars.toNat l).length:=by rw[Om];omega
 have p:(bndV held a.fVars.toNat l).getD v.toNat []=ev1 held l v:=by
  have:=U1 held a.fVars.toNat l v;unfold evs at this;rw[if_neg Ω,Om,if_neg Ω,if_pos Ω]at this;exact this
 have h1:ev1 (e::held) (l++[⟨v,Bn e⟩]) w=ev1 held l w++(if v=w then[e]else[]):=by
  unfold ev1;rw[filterMap_append];congr 1
  ·have:∀b∈l,(if b.fVar=w then lkH (e::held) b.fRef else none)=(if b.fVar=w then lkH held b.fRef else none):=λb n=>by rw[y69 j (o b n).2]
   clear p
   induction l with
   |nil=>rfl
   |cons b l ih =>
    rw[bG,bG,this b Δ,ih (λb h=>o b (aJ _ h)) (by simpa[Om]using f) (λb h=>this b (aJ _ h))]
  ·have:lkH (e::held) (Bn e)=some e:=by unfold lkH;rw[bI];simp
   grind
 rw[ya6 _ _ f,U1,h1,p];by_cases q:v=w
 ·grind
 ·rw[if_neg q,append_nil,if_neg (show¬w=((v.toNat:Nat):Int) by omega)];have:=y3q ⟨g.1,g.2⟩ o w;rw[U1]at this;exact this
theorem y9c {a b:List (List Ev)}(f:EvEq a b)(hs:EvS a){g:Gd}(h:WfE g.fCond)(x:Ed)(hi:x.fInside.length<=1100000)(e:Ev):Ja N0 g x ⟨b⟩ e=some (!hasI x.fInside g.fScope && vio a e g):=by
 unfold Ja;simp only[Ay,Ak,Ky];rw[I4 N0 _ _ Ω (by unfold N0;omega),A0,Ar];have:(x.fInside.any λy=>decide (g.fScope=y))=hasI x.fInside g.fScope:=rfl;rw[this,y7f f hs h e,A0];cases hasI x.fInside g.fScope<;>simp[Aj,Al]
theorem zyh (e:Ev)(x:Ed)(c:Cf)(s:List Sta)(a b:List (List Ev))(f:EvEq a b)(hs:EvS a)(ys:List Exn)(g:x.fChecks=ys.map Aw)(n:∀y∈ys,WfE y)(o:ys.length<=1100000)(K:List Sta->Option (Cf×Bool)):∀(m k:Nat),k<=ys.length->ys.length<m+k->Qm N0 e x c s b K m (k:Int)=if(ys.drop k).all (λy=>trR a y (-1) ev0)=true then K s else some (cf0,false)
 |0,k,h1,h2=>by omega
 |m+1,k,h1,h2=>by
  unfold Qm;have j:x.fChecks.length=ys.length:=by rw[g,aA]
  simp only[aA,A4,Ar,j];by_cases h:k<ys.length
  ·rw[if_pos Ω,zwi g h,B6 _ k h,cO,(Ul f hs (n _ (aC h)) (-1) ev0).2,A0,Af k Ω,zyh e x c s a b f hs ys g n o K m (k+1) Ω Ω];cases trR a ys[k] (-1) ev0<;>simp[Aj,Al]
  grind
variable {r:Bg}
theorem zss {held:List Ev}(b:CxA r.fa held)(hk:k<=1000)(o:CB held r.fa k c)(j:x∈r.fa.fEdges)(L:∀y∈held,Bn y=Bn e->y=e):S4 N0 r c x ⟨bndV held r.fa.fVars.toNat c.fBindings⟩ e=some (rfC (coP r.fa held c x e)):=by
 have V:=o.lb;have S:=o.ls;have T:=b.lo x j;have U:=b.lh;have u:=b.ok.vars;have wx:=b.wf.ed x j;have xv:=(b.ok.ed x j).var;have W:=zog e.fTime x.fOpens c.fStarts;obtain⟨q,Z,O,Y⟩:=zfs o.st;obtain⟨ys,E,C⟩:=wx.checks;have D:ys.length<=1100000:=by have:=wx.lc;rw[E,aA]at this;exact this
 have n:EvS (enH held c.fBindings):=U7 Ω;have A:EvS (enH (e::held) (bdN c x e)):=U7 (by unfold bdN;simp;omega);have p:=y3q ⟨u.1,u.2⟩ o.bd;have j1t:G9 N0 e ⟨bndV held r.fa.fVars.toNat c.fBindings⟩ x c true=some (cf0,false):=by unfold G9;rw[Aj]
 unfold S4;simp only[Ay,Ak,Ar,A4];unfold coP;by_cases B:x.fType=e.fType;rotate_left
 ·rw[if_neg (λh=>B h.symm),j1t,if_neg (λh=>B h.1)];rfl
 rw[if_pos B.symm,zie o.st.1 Z];rw[zw3 N0 x ⟨bndV held r.fa.fVars.toNat c.fBindings⟩ e (λg=>!hasI x.fInside g.fScope && vio (enH held c.fBindings) e g) q.fGuards (by have:=(b.wf.st q O).1;omega) (by have:=(b.wf.st q O).1;unfold N0;omega) (λg X=>y9c p n ((b.wf.st q O).2 g X) x wx.li e),A0];have G:gdP r.fa c x (enH held c.fBindings) e=q.fGuards.any (λg=>!hasI x.fInside g.fScope && vio (enH held c.fBindings) e g):=by unfold gdP;rw[Y]
 rw[<-G];cases q1:gdP r.fa c x (enH held c.fBindings) e with
 |true =>
  rw[Aj,j1t,if_neg Δ];rfl
 |false =>
 rw[Al,(Ul p n wx.cond x.fVar e).2,A0];cases q3:trR (enH held c.fBindings) x.fCond x.fVar e with
 |false =>
  simp only[aR,j1t];rw[if_neg Δ];rfl
 |true =>
  simp only[aU];unfold G9;have z:(stN c x e).length<=1100000:=by unfold stN;omega
  rw[Al,y5q N0 e.fTime x.fOpens c.fStarts o.ss Ω Θ,Ye];have H:opL c.fStarts x.fOpens e.fTime=stN c x e:=rfl;rw[H,y5s N0 e.fTime (stN c x e) z Θ x.fLimits wx.ll,A0,Ar];cases q4:x.fLimits.all (keP (stN c x e) e.fTime)with
  |false =>
   rw[Al,if_neg Δ];rfl
  |true =>
   have f:x.fVar.toNat<(bndV held r.fa.fVars.toNat c.fBindings).length:=by rw[Om];omega
   have R:((bndV held r.fa.fVars.toNat c.fBindings).getD x.fVar.toNat []).length<=1000000:=by
    have h1:=p x.fVar;have h2:=n x.fVar;rw[h1]at h2;unfold evs at h2;rw[if_neg Ω,Om,if_neg Ω]at h2;exact h2
   have M:=Om held r.fa.fVars.toNat c.fBindings;have t:(bndV held r.fa.fVars.toNat c.fBindings)[x.fVar.toNat]=(bndV held r.fa.fVars.toNat c.fBindings).getD x.fVar.toNat []:=by
    simp[cA,f]
   unfold C8;rw[Aj,if_pos (by rw[M];omega),Ye,Ov xv.1 f,t,if_pos Ω,Ye,Bo (by grind) Ω,aA,Ft xv.1 f,E7 f];have I:=y6p b.ok L o.bd xv;have Q:=λK=>zyh e x c (stN c x e) (enH (e::held) (bdN c x e)) _ I A ys E C D K N0 0 (aE _) (by unfold N0;omega)
   refine(Q _).trans ?_;have J:ckP x (enH (e::held) (bdN c x e))=ys.all (λy=>trR (enH (e::held) (bdN c x e)) y (-1) ev0):=by unfold ckP;rw[y85 E]
   rw[aM,<-J];cases q5:ckP x (enH (e::held) (bdN c x e))with
   |false =>
    rw[if_neg Δ,if_neg Δ];rfl
   |true =>
    rw[if_pos rfl,y5x N0 x wx.lcl Θ _ z,Ck,if_pos Ω,Ye];have F:Og N0 e=some ⟨e.fTime,e.fSource,e.fSeq⟩:=rfl;rw[F,A0,Bo (by grind) Ω,if_pos (by simp[B])];rfl
abbrev Mp:=List (Int×Bool)
def ixs (k n:Nat):List (Option Nat):=(range k).map some++bV (n-k) none
section
variable {β:Type}
theorem yck {ix:List (Option Nat)}{os:List Mp}{j:Nat}{l:Mp}(b:os[j]? = some l)(hs:Srt l)(k:Int)(v:Bool)(c:Ars Mp->Option β):aup (ix,os) j k v c=c (ix,os.set j (sput l k v)):=by
 unfold aup;simp only[b];rw[if_pos (show(l.map (·.1)).Pairwise (· < ·) from hs)]
theorem yby {n:Nat}(h:n<=1000000)(k:Nat->Option β):mkm (n:Int) 8 k=k n:=by unfold mkm;grind
theorem ycl (i:Nat)(x:Option β):are i x=x:=by unfold are;rfl
end
structure Ih (l:Mp):Prop where
 srt:Srt l
 all:∀p∈l,p.2=true/\0<=p.1/\p.1<16
def has (l:Mp)(v:Int):Prop:=v∈l.map (·.1)
theorem zxm {l:Mp}{k:Int}{v:Bool}:∀p,p∈sput l k v->p=(k,v)\/p∈l:=by
 induction l with
 |nil=>intro p f;simpa[sput]using f
 |cons q r ih =>
  obtain⟨a,b⟩:=q;intro p f;simp only[sput]at f;grind
theorem Ih.put {l:Mp}(h:Ih l)(b:0<=v/\v<16):Ih (sput l v true) :=
 ⟨Tw h.srt,λp f=>(zxm p f).elim (λe=>by rw[e];exact⟨rfl,b⟩) (h.all p)⟩
theorem has_put {l:Mp}{x:Int}:has (sput l v true) x ↔ x=v\/has l x:=zxl x
structure OsOk (k:Nat) (os:List Mp):Prop where
 len:os.length=k
 map:∀l∈os,Ih l
def hasO (os:List Mp)(s:Nat)(v:Int):Prop:=∃l,os[s]? = some l/\has l v
variable {os:List Mp}
theorem OsOk.at (h:OsOk k os){s:Nat}(hs:s<k):∃l,os[s]? = some l/\Ih l:=by
 have b:s<os.length:=by rw[h.len];exact hs
 exact⟨os[s],aD b,h.map _ (aC b)⟩
theorem OsOk.put (h:OsOk k os){s:Nat}{l:Mp}(g:os[s]? = some l)(n:0<=v/\v<16):OsOk k (os.set s (sput l v true))/\∀t x,hasO (os.set s (sput l v true)) t x ↔ hasO os t x\/(t=s/\x=v):=by
 obtain⟨hs,o⟩:=List.getElem?_eq_some_iff.1 g;have hm:Ih l:=by rw[<-o];exact h.map _ (aC hs)
 refine⟨⟨by rw[aT];exact h.len,λq b=>?_⟩,λt x=>?_⟩
 ·rcases aY b with j|j
  ·exact h.map q j
  ·rw[j];exact hm.put n
 ·unfold hasO;rw[bY];by_cases e:s=t
  ·subst e;rw[if_pos rfl,if_pos hs];constructor
   ·rintro ⟨q,b,f⟩;injection b with b
    subst b;exact(has_put.1 f).elim (λe=>aK ⟨rfl,e⟩) (λf=>aN ⟨l,g,f⟩)
   ·rintro (⟨q,b,f⟩|⟨_,e⟩)
    ·rw[g]at b;injection b with b;subst b
     exact⟨_,rfl,has_put.2 (aK f)⟩
    ·exact⟨_,rfl,has_put.2 (aN e)⟩
  grind
def OccV (v:Int)(e:Exn):Prop:=∃i:Nat,i<16/\v=(i:Int)/\Occ i e
theorem y3b {es:List Exn}(h:k<es.length)(K:Exn->Option β):idxD C7 (es.map Aw) (k:Int) K=K es[k]:=by
 unfold idxD;rw[if_pos Ω];simp only[bF,getElem?_map,aD h,Option.map_some,Tc]
def OwnG (a:Aut)(t:Nat)(x:Int):Prop:=∃b,a.fStates[t]? = some b/\∃g∈b.fGuards,OccV x g.fCond
def OwnX (ed:Ed)(x:Int):Prop:=∃e∈chE ed++[ed.fCond],OccV x e
def OwnV (a:Aut)(t:Nat)(x:Int):Prop:=OwnG a t x\/∃ed∈a.fEdges,ed.fFrom=(t:Int)/\OwnX ed x
inductive Rd (a:Aut):Nat->Int->Prop
 |own (t:Nat) (x:Int) (h:OwnV a t x):Rd a t x
 |step (ed:Ed) (he:ed∈a.fEdges) (t s:Nat) (x:Int) (ht:ed.fFrom=(t:Int)) (hs:ed.fTo=(s:Int)) (h:Rd a s x):Rd a t x
theorem y0f {x:Int}{e:Exn}(h:OccV x e):0<=x/\x<16:=by obtain⟨i,hi,e,_⟩:=h;omega
theorem y0e {t:Nat}{x:Int}(h:OwnV a t x):0<=x/\x<16:=by
 rcases h with⟨_,_,_,_,h⟩|⟨_,_,_,_,_,h⟩<;>exact y0f h
theorem y57 {t:Nat}{x:Int}(h:Rd a t x):0<=x/\x<16:=by
 induction h with
 |own t x h=>exact y0e h
 |step _ _ _ _ _ _ _ _ ih=>exact ih
theorem y32:Ih []:=⟨by simp[Srt],Δ⟩
theorem OsOk.push (h:OsOk k os):OsOk (k+1) (os++[[]]):=⟨by rw[aL,h.len];rfl,λl b=>(aO.1 b).elim (h.map l) (λb=>by rw[aG.1 b];exact y32)⟩
open Classical in
inductive Bk (bk:List (List Int)):Nat->Nat->Prop
 |refl (s:Nat):Bk bk s s
 |step (t y s:Nat) (h:(y:Int)∈bk.getD s []) (ht:Bk bk t y):Bk bk t s
structure BkOk (n:Nat) (bk:List (List Int)):Prop where
 len:bk.length=n
 big:∀q∈bk,q.length<=1100000
 mem:∀q∈bk,∀y∈q,0<=y/\y<(n:Int)
structure Sp (n:Nat) (bk:List (List Int)) (v:Int) (os:List Mp) (ss:Nat->Prop) (os':List Mp):Prop where
 ok:OsOk n os'
 mono:∀t x,hasO os t x->hasO os' t x
 snd:∀t x,hasO os' t x->hasO os t x\/(x=v/\∃s,ss s/\Bk bk t s)
 mark:∀s,ss s->hasO os' s v
 clo:∀t,hasO os' t v->hasO os t v\/∀y:Nat,(y:Int)∈bk.getD t []->hasO os' y v
section
variable {β α:Type}
theorem zoh (a b:Option β):nxt ([]:List α) a b=a:=by unfold nxt;rfl
theorem zid (x:α)(l:List α)(a b:Option β):nxt (x::l) a b=b:=by unfold nxt;rfl
end
structure Mk (a:Aut) (bk:List (List Int)) (os:List Mp):Prop where
 ok:OsOk a.fStates.length os
 snd:∀t x,hasO os t x->Rd a t x
 clo:∀t x,hasO os t x->∀y:Nat,(y:Int)∈bk.getD t []->hasO os y x
structure BkA (a:Aut) (bk:List (List Int)):Prop where
 ok:BkOk a.fStates.length bk
 mem:∀(t y:Nat),t<a.fStates.length->((y:Int)∈bk.getD t [] ↔ ∃ed∈a.fEdges,ed.fTo=(t:Int)/\ed.fFrom=(y:Int))
open Classical in
noncomputable def Ig (a:Aut):List Mp:=(range a.fStates.length).map λt=>((range 16).filter (λi:Nat=>decide (Rd a t (i:Int)))).map (λi:Nat=>((i:Int),true))
open Classical in
theorem y75 (a:Aut):OsOk a.fStates.length (Ig a)/\∀t x,hasO (Ig a) t x ↔ t<a.fStates.length/\Rd a t x:=by
 unfold Ig;refine⟨⟨Δ,λl f=>?_⟩,λt x=>?_⟩
 ·obtain⟨t,_,rfl⟩:=cB.1 f;refine⟨?_,λp g=>?_⟩
  ·unfold Srt;rw[cR,pairwise_map];refine Pairwise.imp (λ{a b} (h:a<b)=>?_) (pairwise_lt_range.filter _);simp_all
  grind
 ·unfold hasO has;constructor
  ·grind
  ·rintro ⟨h1,h2⟩;refine⟨_,by rw[getElem?_map,getElem?_range h1];rfl,?_⟩;rw[cR];have j:=y57 h2;refine cB.2 ⟨x.toNat,bH.2 ⟨mem_range.2 Ω,?_⟩,?_⟩;all_goals grind
theorem Ih.len {l:Mp}(h:Ih l):l.length<=16:=by
 have s:Str cmpI (l.map (·.1)):=h.srt.imp (λq=>(Ym _ _).2 q);have key:∀(q:List Int) (c:Int),q.Pairwise (· < ·)->(∀x∈q,c<=x/\x<16)->(q.length:Int)<=max 0 (16-c):=λq=>by
  induction q with
  |nil=>intro c _ _;simp;omega
  |cons y r j =>
   intro c b n;have h1:=n y Δ;obtain⟨o,g⟩:=bS.1 b;have:=j (y+1) g (λx f=>by grind);grind
 have:=key (l.map (·.1)) 0 (show(l.map (·.1)).Pairwise (· < ·) from h.srt) (λx f=>by
  obtain⟨p,b,rfl⟩:=cB.1 f;exact(h.all p b).2)
 grind
theorem Yj {α:Type}[DecidableEq α]:∀{l l':List α},l.Nodup->(∀x∈l,x∈l')->l.length<=l'.length
 |[],l',_,_=>aE _
 |a::l,l',h,hs=>by
  have f:=hs a Δ;have:=Yj (l:=l) (l':=l'.erase a) (cG.1 h).2 (λx b=>(mem_erase_of_ne (λ(e:x=a)=>(cG.1 h).1 (e▸b))).2 (hs x (aJ _ b)));rw[length_erase_of_mem f]at this;have:=length_pos_of_mem f;simp only[bO];omega
structure MK (l:Mp):Prop where
 nd:(l.map (·.1)).Nodup
 tr:∀p∈l,p.2=true
theorem MK.nil:MK []:=⟨List.nodup_nil,Δ⟩
theorem Gu (v:Int):¬has ([]:Mp) v:=by simp[has]
theorem Gs (p:Int×Bool)(r:Mp)(v:Int):has (p::r) v ↔ v=p.1\/has r v:=by simp[has]
theorem y67 {l:Mp}(h:¬has l v):mlk l v=none:=by
 induction l with
 |nil=>rfl
 |cons p r ih =>
  obtain⟨a,b⟩:=p;rw[Gs,not_or]at h;unfold mlk;rw[if_neg h.1];exact ih h.2
theorem MK.tail {p:Int×Bool}{r:Mp}(h:MK (p::r)):MK r:=⟨(cG.1 h.nd).2,λq b=>h.tr q (aJ _ b)⟩
theorem MK.some {l:Mp}(h:MK l)(q:has l v):mlk l v=some true:=by
 induction l with
 |nil=>exact absurd q (Gu v)
 |cons p r ih =>
  have f:=h.tr p Δ;have g:=h.tail;obtain⟨a,b⟩:=p;unfold mlk;by_cases e:v=a
  ·rw[if_pos e];simp only at f;rw[f]
  ·rw[if_neg e];exact ih g (((Gs _ _ _).1 q).resolve_left e)
theorem MK.get {l:Mp}(h:MK l)(v:Int):(mlk l v).getD false=true ↔ has l v:=by
 by_cases q:has l v
 ·rw[h.some q];simp[q]
 ·rw[y67 q];simp[q]
theorem zvv {l:Mp}{k:Int}(h:¬has l k):mput l k true=l++[(k,true)]:=by
 induction l with
 |nil=>rfl
 |cons p r f =>
  obtain⟨a,b⟩:=p;rw[Gs,not_or]at h;unfold mput;rw[if_neg h.1,f h.2];rfl
theorem MK.put_in {l:Mp}(h:MK l){k:Int}(q:has l k):mput l k true=l:=by
 induction l with
 |nil=>exact absurd q (Gu k)
 |cons p r ih =>
  have f:=h.tr p Δ;have g:=h.tail;obtain⟨a,b⟩:=p;unfold mput;simp only at f;by_cases e:k=a
  ·rw[if_pos e,f,e]
  ·rw[if_neg e,ih g (((Gs _ _ _).1 q).resolve_left e)]
theorem MK.has_put {l:Mp}(h:MK l)(k v:Int):has (mput l k true) v ↔ v=k\/has l v:=by
 by_cases q:has l k
 ·rw[h.put_in q];exact⟨aK,λe=>e.elim (λe=>e▸q) id⟩
 ·rw[zvv q];simp only[has,map_append,aO,cI,map_nil,aG];exact Or.comm
theorem MK.put {l:Mp}(h:MK l)(k:Int):MK (mput l k true):=by
 by_cases q:has l k
 ·rw[h.put_in q];exact h
 ·rw[zvv q];refine⟨?_,λp f=>?_⟩
  ·rw[map_append,nodup_append];refine⟨h.nd,Δ,λa j b g=>?_⟩;simp only[cI,map_nil,aG]at g;rw[g];exactλe=>q (e▸j)
  ·rcases aO.1 f with f|f
   ·exact h.tr p f
   ·rw[aG]at f;rw[f]
instance decHas (l:Mp)(v:Int):Decidable (has l v):=inferInstanceAs (Decidable (v∈l.map (·.1)))
theorem MK.put_len {l:Mp}(h:MK l)(k:Int):(mput l k true).length=if has l k then l.length else l.length+1:=by
 by_cases q:has l k
 ·rw[h.put_in q,if_pos q]
 ·rw[zvv q,if_neg q];simp
theorem MK.perm {l l':Mp}(h:MK l)(p:l.Perm l'):MK l':=⟨((p.map _).nodup_iff).1 h.nd,λq b=>h.tr q (p.mem_iff.2 b)⟩
theorem zif {l l':Mp}(p:l.Perm l')(v:Int):has l v ↔ has l' v:=(p.map _).mem_iff
theorem MK.out {l:Mp}(h:MK l){j:Nat}(f:j<l.length):MK (l.eraseIdx j)/\¬has (l.eraseIdx j) l[j].1/\∀v,has l v ↔ v=l[j].1\/has (l.eraseIdx j) v:=by
 have p:(l[j]::l.eraseIdx j).Perm l:=Ob f;have b:=h.perm p.symm;refine⟨b.tail,λq=>(cG.1 b.nd).1 q,λv=>?_⟩;rw[<-Gs];exact zif p.symm v
theorem y8g {l l':Mp}(h:Srt l)(y:Srt l')(t:∀p∈l,p.2=true)(b:∀p∈l',p.2=true)(u:∀x,has l x ↔ has l' x):l=l':=by
 have j:Str cmpI (l.map (·.1)):=h.imp (λq=>(Ym _ _).2 q);have g:Str cmpI (l'.map (·.1)):=y.imp (λq=>(Ym _ _).2 q);have e:=Str.uniq Ib j g u;have f:∀q:Mp,(∀p∈q,p.2=true)->q=(q.map (·.1)).map (λx=>(x,true)):=λq n=>by
  rw[cR];conv=>lhs;rw[<-map_id q]
  exact map_congr_left (λp o=>by have:=n p o;cases p;simp_all)
 rw[f l t,f l' b,e]
theorem MK.sort {l:Mp}(h:MK l):MK (Cw l)/\Srt (Cw l)/\(Cw l).length=l.length/\∀v,has (Cw l) v ↔ has l v :=
 ⟨h.perm (Y6 h.nd).symm,zfi l,(Y6 h.nd).length_eq,zif (Y6 h.nd)⟩
theorem zce (n:Nat)(s:Int)(a:Aut)(z:a.fEdges.length<=1100000):∀(m k:Nat) (acc:List Int),k<=a.fEdges.length->a.fEdges.length<m+k->acc.length<=k->∃L,Mt n s a (λy=>some y) m ((k:Int),acc)=some L/\L.length<=a.fEdges.length/\∀i:Int,i∈L ↔ i∈acc\/∃j:Nat,k<=j/\i=(j:Int)/\∃x,a.fEdges[j]? = some x/\x.fFrom=s
 |0,k,acc,h1,h2,B=>by omega
 |m+1,k,acc,h1,h2,B=>by
  unfold Mt;simp only[aA,A4,Ak];by_cases h:k<a.fEdges.length
  ·rw[if_pos Ω,Ae h,Af k Ω];have A:a.fEdges[k]? = some a.fEdges[k]:=aD h;by_cases q:a.fEdges[k].fFrom=s
   ·rw[if_pos q,Bo Ψ Θ];obtain⟨L,t,p,o⟩:=zce n s a z m (k+1) (acc++[(k:Int)]) Ω Ω Ψ;refine⟨L,t,p,λi=>?_⟩;rw[o,aO,aG];constructor
    ·rintro ((h|h)|⟨j,g,f⟩)
     ·exact aN h
     ·exact aK ⟨k,bK _,h,_,A,q⟩
     ·exact aK ⟨j,Ω,f⟩
    ·rintro (h|⟨j,g,f,b⟩)
     ·exact aN (aN h)
     ·by_cases e:j=k
      ·subst e;exact aN (aK f)
      ·exact aK ⟨j,Ω,f,b⟩
   ·rw[if_neg q];obtain⟨L,t,p,o⟩:=zce n s a z m (k+1) acc Ω Ω Ω;refine⟨L,t,p,λi=>?_⟩;rw[o];constructor
    ·rintro (h|⟨j,g,f⟩)
     ·exact aN h
     ·exact aK ⟨j,Ω,f⟩
    ·rintro (h|⟨j,g,f,x,b,u⟩)
     ·exact aN h
     ·by_cases e:j=k
      ·subst e;rw[A]at b;injection b with b;exact absurd (b▸u) q
      ·exact aK ⟨j,Ω,f,x,b,u⟩
  ·rw[if_neg Ω];refine⟨acc,rfl,Ω,λi=>⟨aN,λh=>h.elim id λ⟨j,g,f,x,b,_⟩=>?_⟩⟩;have:=(List.getElem?_eq_some_iff.1 b).1;omega
theorem zs4 (n:Nat)(o:10000000<n)(s:Int)(a:Aut)(b:a.fEdges.length<=1100000):∃L,Wy n a s=some L/\L.length<=a.fEdges.length/\∀i:Int,i∈L ↔ ∃j:Nat,i=(j:Int)/\∃x,a.fEdges[j]? = some x/\x.fFrom=s:=by
 obtain⟨L,h,g,f⟩:=zce n s a b n 0 [] Ω Ω Δ;refine⟨L,h,g,λi=>?_⟩;rw[f];simp
def nxS (a:Aut)(s t:Int):Prop:=∃x∈a.fEdges,x.fFrom=s/\x.fTo=t/\0<=t
def prS (a:Aut)(s t:Int):Prop:=∃x∈a.fEdges,x.fTo=s/\x.fFrom=t
theorem zeo (n:Nat)(a:Aut)(L:List Int)(B:L.length<=1100000)(f:∀i∈L,∃j:Nat,i=(j:Int)/\j<a.fEdges.length):∀(m k:Nat) (acc:List Int),k<=L.length->L.length<m+k->acc.length<=k->∃R,L1 n a L (λy=>some y) m ((k:Int),acc)=some R/\R.length<=L.length/\∀t:Int,t∈R ↔ t∈acc\/∃i∈L.drop k,∃j:Nat,i=(j:Int)/\∃x,a.fEdges[j]? = some x/\x.fTo=t/\0<=t
 |0,k,acc,h1,h2,D=>by omega
 |m+1,k,acc,h1,h2,D=>by
  unfold L1;simp only[aA,A4,Ak];by_cases h:k<L.length
  ·obtain⟨j,z,u⟩:=f L[k] (aC h);have A:a.fEdges[j]? = some a.fEdges[j]:=aD u;rw[if_pos Ω,Ae h,Af k Ω,z,Ae u,aF h];simp only[aZ,exists_eq_or_imp];have key:∀t:Int,(∃i:Nat,L[k]=(i:Int)/\∃x,a.fEdges[i]? = some x/\x.fTo=t/\0<=t) ↔ (a.fEdges[j].fTo=t/\0<=t):=λt=>by
    rw[z];constructor
    ·rintro ⟨i,E,x,b,C⟩;have:i=j:=Ω
     rw[this,A]at b;injection b with b
     rw[b];exact C
    ·intro q;exact⟨j,rfl,_,A,q⟩
   simp only[key];by_cases q:0<=a.fEdges[j].fTo
   ·rw[if_pos q,Bo Ψ Θ];obtain⟨R,p,o,g⟩:=zeo n a L B f m (k+1) (acc++[a.fEdges[j].fTo]) Ω Ω Ψ;refine⟨R,p,o,λt=>?_⟩;rw[g,aO,aG,or_assoc];refine or_congr bJ (or_congr ⟨λe=>⟨e.symm,e▸q⟩,λe=>e.1.symm⟩ bJ)
   ·rw[if_neg q];obtain⟨R,p,o,g⟩:=zeo n a L B f m (k+1) acc Ω Ω Ω;refine⟨R,p,o,λt=>?_⟩;rw[g];refine or_congr bJ ⟨aK,λh=>h.elim (λe=>absurd (e.1▸e.2) q) id⟩
  ·rw[if_neg Ω,aB Ω];exact⟨acc,rfl,Ω,λt=>by simp⟩
theorem y5l (n:Nat)(F:10000000<n)(s:Int)(a:Aut)(G:a.fEdges.length<=1100000):∃R,Vk n s a=some R/\R.length<=1100000/\∀t:Int,t∈R ↔ nxS a s t:=by
 obtain⟨L,K,Q,o⟩:=zs4 n F s a G;have E:∀i∈L,∃j:Nat,i=(j:Int)/\j<a.fEdges.length:=λi hi=>by
  obtain⟨j,p,x,g,_⟩:=(o i).1 hi;exact⟨j,p,(List.getElem?_eq_some_iff.1 g).1⟩
 obtain⟨R,J,O,I⟩:=zeo n a L Ω E n 0 [] Ω Ω Δ;unfold Vk;rw[K,A0];refine⟨R,J,Ω,λt=>?_⟩;rw[I];simp only[aM,not_mem_nil,false_or];constructor
 ·rintro ⟨i,hi,j,p,x,g,A,z⟩;obtain⟨C,B,M,b,h⟩:=(o i).1 hi;have:C=j:=Ω
  rw[this,g]at b;injection b with b
  exact⟨x,mem_of_getElem? g,b▸h,A,z⟩
 ·rintro ⟨x,D,y,u,q⟩;obtain⟨j,H,e⟩:=bE.1 D;have f:a.fEdges[j]? = some x:=by rw[aD H,e]
  exact⟨(j:Int),(o _).2 ⟨j,rfl,x,f,y⟩,j,rfl,x,f,u,q⟩
theorem zcc (n:Nat)(a:Aut)(s:Int)(j:a.fEdges.length<=1100000):∀(m k:Nat) (acc:List Int),k<=a.fEdges.length->a.fEdges.length<m+k->acc.length<=k->∃R,M7 n a s (λy=>some y) m ((k:Int),acc)=some R/\R.length<=a.fEdges.length/\∀t:Int,t∈R ↔ t∈acc\/∃x∈a.fEdges.drop k,x.fTo=s/\x.fFrom=t
 |0,k,acc,h1,h2,o=>by omega
 |m+1,k,acc,h1,h2,o=>by
  unfold M7;simp only[aA,A4,Ak];by_cases h:k<a.fEdges.length
  ·rw[if_pos Ω,Ae h,Af k Ω,aF h];simp only[aZ,exists_eq_or_imp];by_cases q:a.fEdges[k].fTo=s
   ·rw[if_pos q,Bo Ψ Θ];obtain⟨R,g,f,b⟩:=zcc n a s j m (k+1) (acc++[a.fEdges[k].fFrom]) Ω Ω Ψ;refine⟨R,g,f,λt=>?_⟩;rw[b,aO,aG,or_assoc];exact or_congr bJ (or_congr ⟨λe=>⟨q,e.symm⟩,λe=>e.2.symm⟩ bJ)
   ·rw[if_neg q];obtain⟨R,g,f,b⟩:=zcc n a s j m (k+1) acc Ω Ω Ω;refine⟨R,g,f,λt=>?_⟩;rw[b];exact or_congr bJ ⟨aK,λh=>h.elim (λe=>absurd e.1 q) id⟩
  ·rw[if_neg Ω,aB Ω];exact⟨acc,rfl,Ω,λt=>by simp⟩
theorem y1z (n:Nat)(h:10000000<n)(s:Int)(a:Aut)(b:a.fEdges.length<=1100000):∃R,z1b n s a=some R/\R.length<=1100000/\∀t:Int,t∈R ↔ prS a s t:=by
 obtain⟨R,g,j,f⟩:=zcc n a s b n 0 [] Ω Ω Δ;refine⟨R,g,Ω,λt=>?_⟩;rw[f];simp[prS]
def hs (m:List Bool)(t:Int):Prop:=0<=t/\m[t.toNat]? = some true
def fre (m:List Bool):Nat:=m.countP (λb=>!b)
variable {m:List Bool}
theorem y3g (hi:i<m.length)(q:m[i]=false):fre (m.set i true)+1=fre m:=by
 unfold fre
 induction m generalizing i with
 |nil=>simp at hi
 |cons b r ih =>
  cases i with
  |zero=>simp only[cJ]at q;subst q;simp
  |succ i =>
   simp only[cK]at q;have:=ih (by simpa using hi) q;simp only[set_cons_succ,countP_cons];omega
variable {w:List Bool}
theorem y7u (g:m.length=w.length)(h:∀t,hs m t->hs w t):fre w<=fre m:=by
 unfold fre
 induction m generalizing w with
 |nil=>cases w with|nil=>simp|cons=>simp at g
 |cons b r ih =>
  cases w with
  |nil=>simp at g
  |cons c q =>
   have:=ih (w:=q) (by simpa using g) (λt f=>by
    have:=h (t+1) ⟨by have:=f.1;omega,by have:=f.1;rw[show(t+1).toNat=t.toNat+1 by omega];simpa using f.2⟩;have j:=f.1;refine⟨j,?_⟩;have h2:=this.2;rw[show(t+1).toNat=t.toNat+1 by omega]at h2;simpa using h2)
   simp only[countP_cons];have n:b=true->c=true:=λe=>by
    have:=(h 0 ⟨Ω,by simp[e]⟩).2;simpa using this
   cases b<;>cases c<;>simp_all<;>omega
theorem y3d (hi:i<m.length)(t:Int):hs (m.set i true) t ↔ t=(i:Int)\/hs m t:=by
 unfold hs;rw[bY];by_cases e:t=(i:Int)
 ·subst e;simp[hi]
 ·constructor
  ·rintro ⟨b,h1⟩;rw[if_neg Ω]at h1;exact aK ⟨b,h1⟩
  ·rintro (h|⟨b,h1⟩)
   ·exact absurd h e
   ·refine⟨b,?_⟩;rw[if_neg Ω];exact h1
theorem y3e (N:Nat)(t:Int):¬hs (bV N false) t:=by
 rintro ⟨_,h⟩;rw[cH]at h;split at h<;>simp at h
structure Gr (P:Int->Int->Prop) (N:Nat) (w w':List Bool):Prop where
 len:w'.length=N
 mono:∀t,hs w t->hs w' t
 clo:∀t,hs w' t->hs w t\/∀u,P t u->hs w' u
variable {P:Int->Int->Prop}{N:Nat}
theorem Gr.refl (h:w.length=N):Gr P N w w:=⟨h,λ_ h=>h,λ_ h=>aN h⟩
theorem Gr.trans {w1 b:List Bool}(h:Gr P N w w1)(g:Gr P N w1 b):Gr P N w b :=
 ⟨g.len,λt q=>g.mono t (h.mono t q),λt q=>(g.clo t q).elim (λq=>(h.clo t q).elim aN (λq=>aK λu f=>g.mono u (q u f))) aK⟩
theorem zyb (n:Nat)(rF:Int->Aut->List Bool->Option (List Bool))(a:Aut)(X:List Int)(u:X.length<=1100000)(N B:Nat)(rec:∀s∈X,∀w:List Bool,w.length=N->fre w<=B->∃w',rF s a w=some w'/\Gr P N w w'/\hs w' s):∀(m k:Nat) (w:List Bool),k<=X.length->X.length<m+k->w.length=N->fre w<=B->∃w',Rt n rF a X (λy=>some y) m ((k:Int),w)=some w'/\Gr P N w w'/\∀s∈X.drop k,hs w' s
 |0,k,w,h1,h2,b,g=>by omega
 |m+1,k,w,h1,h2,b,g=>by
  unfold Rt;simp only[aA,A4];by_cases h:k<X.length
  ·obtain⟨w1,A,f,t⟩:=rec X[k] (aC h) w b g;rw[if_pos Ω,Ae h,Af k Ω,A,Ck,aF h];obtain⟨o,z,j,p⟩:=zyb n rF a X u N B rec m (k+1) w1 Ω Ω f.len (bW (y7u (b.trans f.len.symm) f.mono) g);refine⟨o,z,f.trans j,λs q=>?_⟩;rcases aZ.1 q with q|q
   ·rw[q];exact j.mono _ t
   ·exact p s q
  ·rw[if_neg Ω,aB Ω];exact⟨w,rfl,Gr.refl b,Δ⟩
theorem ybj (a:Aut)(C:a.fEdges.length<=1100000)(N:Nat)(A:∀s t,nxS a s t->0<=t/\t.toNat<N):∀(f:Nat) (s:Int) (w:List Bool),fre w<=f->w.length=N->0<=s->s.toNat<N->∀n,20000000+f<n->∃w',Nd n s a w=some w'/\Gr (nxS a) N w w'/\hs w' s
 |f,s,w,h1,h2,o,M,n,K=>by
  obtain⟨n,rfl⟩:∃G,n=G + 1:=⟨n-1,Ω⟩;have b:s.toNat<w.length:=Ω
  unfold Nd;simp only[aA];rw[Ft o b,Cu b];by_cases q:w[s.toNat]=true
  ·rw[q,Aj];exact⟨w,rfl,Gr.refl h2,o,by rw[aD b,q]⟩
  ·have B:w[s.toNat]=false:=by simpa using q
   have L:=y3g b B;rw[B,Al,Ft o b,E7 b];obtain⟨X,E,D,y⟩:=y5l n Ω s a C;rw[E,A0];cases f with
   |zero=>omega
   |succ f =>
    have g:∀t,hs (w.set s.toNat true) t ↔ t=s\/hs w t:=λt=>by rw[y3d b,cC o]
    obtain⟨w',J,p,F⟩:=zyb (P:=nxS a) n (Nd n) a X D N f (λt j v H z=>ybj a C N A f t v z H (A _ _ ((y t).1 j)).1 (A _ _ ((y t).1 j)).2 n Ω) n 0 (w.set s.toNat true) Ω Ω (by rw[aT];exact h2) Ω;refine⟨w',J,⟨p.len,λt j=>p.mono t ((g t).2 (aK j)),λt j=>?_⟩,p.mono s ((g s).2 (aN rfl))⟩;rcases p.clo t j with h|h
    ·rcases(g t).1 h with h|h
     ·refine aK λu I=>F u ?_
      rw[aM,y,<-h];exact I
     ·exact aN h
    ·exact aK h
theorem zsl (n:Nat)(E:30000000<n)(a:Aut)(p:a.fEdges.length<=1100000)(N:Nat)(j:N<=1000000)(u:∀s t,nxS a s t->0<=t/\t.toNat<N)(X:List Int)(F:X.length<=1100000)(b:∀s∈X,0<=s/\s.toNat<N):∀(m k:Nat) (w:List Bool),k<=X.length->X.length<m+k->w.length=N->∃w',Sj n a X (λy=>some y) m ((k:Int),w)=some w'/\Gr (nxS a) N w w'/\∀s∈X.drop k,hs w' s
 |0,k,w,h1,h2,f=>by omega
 |m+1,k,w,h1,h2,f=>by
  unfold Sj;simp only[aA,A4,Ak];by_cases h:k<X.length
  ·have o:=b X[k] (aC h);have g:fre w<=N:=by unfold fre;rw[<-f];exact cM
   obtain⟨w1,H,A,D⟩:=ybj a p N u N X[k] w g f o.1 o.2 n Ω;rw[if_pos Ω,Ae h,Af k Ω,H,Ck,aF h];obtain⟨B,G,z,C⟩:=zsl n E a p N j u X F b m (k+1) w1 Ω Ω A.len;refine⟨B,G,A.trans z,λs q=>?_⟩;rcases aZ.1 q with q|q
   ·rw[q];exact z.mono _ D
   ·exact C s q
  ·rw[if_neg Ω,aB Ω];exact⟨w,rfl,Gr.refl f,Δ⟩
theorem ybi (n:Nat)(j:30000000<n)(a:Aut)(o:a.fEdges.length<=1100000)(h:a.fStates.length<=1000000)(q:∀s t,nxS a s t->0<=t/\t.toNat<a.fStates.length)(X:List Int)(p:X.length<=1100000)(f:∀s∈X,0<=s/\s.toNat<a.fStates.length):∃w,Xd n a X a=some w/\w.length=a.fStates.length/\(∀s∈X,hs w s)/\∀t,hs w t->∀u,nxS a t u->hs w u:=by
 unfold Xd;simp only[aA];rw[Yr Ω Θ];obtain⟨w,e,g,s⟩:=zsl n j a o a.fStates.length h q X p f n 0 (bV a.fStates.length false) Ω Ω Δ;exact⟨w,e,g.len,λt b=>s t (by simpa using b),λt b=>(g.clo t b).resolve_left (y3e _ _)⟩
theorem zya (n:Nat)(rF:Int->Aut->List Bool->Option (List Bool))(a:Aut)(X:List Int)(u:X.length<=1100000)(N B:Nat)(rec:∀s∈X,∀w:List Bool,w.length=N->fre w<=B->∃w',rF s a w=some w'/\Gr P N w w'/\hs w' s):∀(m k:Nat) (w:List Bool),k<=X.length->X.length<m+k->w.length=N->fre w<=B->∃w',Ph n rF a X (λy=>some y) m ((k:Int),w)=some w'/\Gr P N w w'/\∀s∈X.drop k,hs w' s
 |0,k,w,h1,h2,b,g=>by omega
 |m+1,k,w,h1,h2,b,g=>by
  unfold Ph;simp only[aA,A4];by_cases h:k<X.length
  ·obtain⟨w1,A,f,t⟩:=rec X[k] (aC h) w b g;rw[if_pos Ω,Ae h,Af k Ω,A,Ck,aF h];obtain⟨o,z,j,p⟩:=zya n rF a X u N B rec m (k+1) w1 Ω Ω f.len (bW (y7u (b.trans f.len.symm) f.mono) g);refine⟨o,z,f.trans j,λs q=>?_⟩;rcases aZ.1 q with q|q
   ·rw[q];exact j.mono _ t
   ·exact p s q
  ·rw[if_neg Ω,aB Ω];exact⟨w,rfl,Gr.refl b,Δ⟩
theorem ybh (a:Aut)(C:a.fEdges.length<=1100000)(N:Nat)(A:∀s t,prS a s t->0<=t/\t.toNat<N):∀(f:Nat) (s:Int) (w:List Bool),fre w<=f->w.length=N->0<=s->s.toNat<N->∀n,20000000+f<n->∃w',Lq n s a w=some w'/\Gr (prS a) N w w'/\hs w' s
 |f,s,w,h1,h2,o,M,n,K=>by
  obtain⟨n,rfl⟩:∃G,n=G + 1:=⟨n-1,Ω⟩;have b:s.toNat<w.length:=Ω
  unfold Lq;simp only[aA];rw[Ft o b,Cu b];by_cases q:w[s.toNat]=true
  ·rw[q,Aj];exact⟨w,rfl,Gr.refl h2,o,by rw[aD b,q]⟩
  ·have B:w[s.toNat]=false:=by simpa using q
   have L:=y3g b B;rw[B,Al,Ft o b,E7 b];obtain⟨X,E,D,y⟩:=y1z n Ω s a C;rw[E,A0];cases f with
   |zero=>omega
   |succ f =>
    have g:∀t,hs (w.set s.toNat true) t ↔ t=s\/hs w t:=λt=>by rw[y3d b,cC o]
    obtain⟨w',J,p,F⟩:=zya (P:=prS a) n (Lq n) a X D N f (λt j v H z=>ybh a C N A f t v z H (A _ _ ((y t).1 j)).1 (A _ _ ((y t).1 j)).2 n Ω) n 0 (w.set s.toNat true) Ω Ω (by rw[aT];exact h2) Ω;refine⟨w',J,⟨p.len,λt j=>p.mono t ((g t).2 (aK j)),λt j=>?_⟩,p.mono s ((g s).2 (aN rfl))⟩;rcases p.clo t j with h|h
    ·rcases(g t).1 h with h|h
     ·refine aK λu I=>F u ?_
      rw[aM,y,<-h];exact I
     ·exact aN h
    ·exact aK h
theorem zsk (n:Nat)(E:30000000<n)(a:Aut)(p:a.fEdges.length<=1100000)(N:Nat)(j:N<=1000000)(u:∀s t,prS a s t->0<=t/\t.toNat<N)(X:List Int)(F:X.length<=1100000)(b:∀s∈X,0<=s/\s.toNat<N):∀(m k:Nat) (w:List Bool),k<=X.length->X.length<m+k->w.length=N->∃w',Q9 n a X (λy=>some y) m ((k:Int),w)=some w'/\Gr (prS a) N w w'/\∀s∈X.drop k,hs w' s
 |0,k,w,h1,h2,f=>by omega
 |m+1,k,w,h1,h2,f=>by
  unfold Q9;simp only[aA,A4,Ak];by_cases h:k<X.length
  ·have o:=b X[k] (aC h);have g:fre w<=N:=by unfold fre;rw[<-f];exact cM
   obtain⟨w1,H,A,D⟩:=ybh a p N u N X[k] w g f o.1 o.2 n Ω;rw[if_pos Ω,Ae h,Af k Ω,H,Ck,aF h];obtain⟨B,G,z,C⟩:=zsk n E a p N j u X F b m (k+1) w1 Ω Ω A.len;refine⟨B,G,A.trans z,λs q=>?_⟩;rcases aZ.1 q with q|q
   ·rw[q];exact z.mono _ D
   ·exact C s q
  ·rw[if_neg Ω,aB Ω];exact⟨w,rfl,Gr.refl f,Δ⟩
theorem ybg (n:Nat)(j:30000000<n)(a:Aut)(o:a.fEdges.length<=1100000)(h:a.fStates.length<=1000000)(q:∀s t,prS a s t->0<=t/\t.toNat<a.fStates.length)(X:List Int)(p:X.length<=1100000)(f:∀s∈X,0<=s/\s.toNat<a.fStates.length):∃w,Rs n a X a=some w/\w.length=a.fStates.length/\(∀s∈X,hs w s)/\∀t,hs w t->∀u,prS a t u->hs w u:=by
 unfold Rs;simp only[aA];rw[Yr Ω Θ];obtain⟨w,e,g,s⟩:=zsk n j a o a.fStates.length h q X p f n 0 (bV a.fStates.length false) Ω Ω Δ;exact⟨w,e,g.len,λt b=>s t (by simpa using b),λt b=>(g.clo t b).resolve_left (y3e _ _)⟩
theorem zcd (n:Nat)(w:List Bool)(z:w.length<=1100000):∀(m k:Nat) (acc:List Int),k<=w.length->w.length<m+k->acc.length<=k->∃L,Ms n w (λy=>some y) m ((k:Int),acc)=some L/\L.length<=w.length/\∀t:Int,t∈L ↔ t∈acc\/∃j:Nat,k<=j/\t=(j:Int)/\w[j]? = some true
 |0,k,acc,h1,h2,C=>by omega
 |m+1,k,acc,h1,h2,C=>by
  unfold Ms;simp only[aA,Ak];by_cases h:k<w.length
  ·have A:w[k]? = some w[k]:=aD h;rw[A4,if_pos Ω,Ae h,Af k Ω];by_cases q:w[k]=true
   ·rw[q,Aj,Bo Ψ Θ];obtain⟨L,u,p,o⟩:=zcd n w z m (k+1) (acc++[(k:Int)]) Ω Ω Ψ;refine⟨L,u,p,λt=>?_⟩;rw[o,aO,aG];constructor
    ·rintro ((h|h)|⟨j,g,f⟩)
     ·exact aN h
     ·exact aK ⟨k,bK _,h,by rw[A,q]⟩
     ·exact aK ⟨j,Ω,f⟩
    ·rintro (h|⟨j,g,f,b⟩)
     ·exact aN (aN h)
     ·by_cases e:j=k
      ·subst e;exact aN (aK f)
      ·exact aK ⟨j,Ω,f,b⟩
   ·have B:w[k]=false:=by simpa using q
    rw[B,Al];obtain⟨L,u,p,o⟩:=zcd n w z m (k+1) acc Ω Ω Ω;refine⟨L,u,p,λt=>?_⟩;rw[o];constructor
    ·rintro (h|⟨j,g,f⟩)
     ·exact aN h
     ·exact aK ⟨j,Ω,f⟩
    ·rintro (h|⟨j,g,f,b⟩)
     ·exact aN h
     ·by_cases e:j=k
      ·subst e;rw[A]at b;injection b with b;exact absurd b q
      ·exact aK ⟨j,Ω,f,b⟩
  ·rw[A4,if_neg Ω];refine⟨acc,rfl,Ω,λt=>⟨aN,λh=>h.elim id λ⟨j,g,f,b⟩=>?_⟩⟩;have:=(List.getElem?_eq_some_iff.1 b).1;omega
theorem zs2 (n:Nat)(u:10000000<n)(w:List Bool)(g:w.length<=1100000):∃L,Wx n w=some L/\L.length<=w.length/\∀t:Int,t∈L ↔ hs w t:=by
 obtain⟨L,q,p,o⟩:=zcd n w g n 0 [] Ω Ω Δ;refine⟨L,q,p,λt=>?_⟩;rw[o];unfold hs;constructor
 ·rintro (h|⟨j,_,f,b⟩)
  ·cases h
  ·subst f;exact⟨Ω,by simpa using b⟩
 ·rintro ⟨y,h⟩;exact aK ⟨t.toNat,Ω,Ω,h⟩
theorem zjl (n:Nat)(a:Aut)(j:a.fEdges.length<=1100000)(K:List Int->Option (List Bool)):∀(m k:Nat) (acc:List Int),k<=a.fEdges.length->a.fEdges.length<m+k->acc.length<=k->∃R,Mz n a K m ((k:Int),acc)=K R/\R.length<=a.fEdges.length/\∀t:Int,t∈R ↔ t∈acc\/∃x∈a.fEdges.drop k,x.fTo<0/\x.fFrom=t
 |0,k,acc,h1,h2,o=>by omega
 |m+1,k,acc,h1,h2,o=>by
  unfold Mz;simp only[aA,A4,Ak];by_cases h:k<a.fEdges.length
  ·rw[if_pos Ω,Ae h,Af k Ω,aF h];simp only[aZ,exists_eq_or_imp];by_cases q:a.fEdges[k].fTo<0
   ·rw[if_pos q,Bo Ψ Θ];obtain⟨R,g,f,b⟩:=zjl n a j K m (k+1) (acc++[a.fEdges[k].fFrom]) Ω Ω Ψ;refine⟨R,g,f,λt=>?_⟩;rw[b,aO,aG,or_assoc];exact or_congr bJ (or_congr ⟨λe=>⟨q,e.symm⟩,λe=>e.2.symm⟩ bJ)
   ·rw[if_neg q];obtain⟨R,g,f,b⟩:=zjl n a j K m (k+1) acc Ω Ω Ω;refine⟨R,g,f,λt=>?_⟩;rw[b];exact or_congr bJ ⟨aK,λh=>h.elim (λe=>absurd e.1 q) id⟩
  ·rw[if_neg Ω,aB Ω];exact⟨acc,rfl,Ω,λt=>by simp⟩
structure EdR (a:Aut):Prop where
 st:1<=a.fStates.length/\a.fStates.length<=256
 ed:∀x∈a.fEdges,0<=x.fFrom/\x.fFrom<a.fStates.length/\-1<=x.fTo/\x.fTo<a.fStates.length
 le:a.fEdges.length<=1100000
theorem zw8 (n:Nat)(p:30000000<n)(a:Aut)(h:EdR a)(q:Cp n a=some 0):∃L,W3 n a=some (L,0)/\L.length<=1100000/\0∈L/\∀s∈L,∀t,nxS a s t->t∈L:=by
 have o:=h.st;unfold W3 z0v;rw[q,A0];simp only[Ar,A4,if_true,zz3,Ak];obtain⟨w,e,C,y,u⟩:=ybi n p a h.le Ω (λs t ⟨x,g,_,A,z⟩=>by have:=h.ed x g;omega) [0] Δ Ψ;obtain⟨L,f,B,b⟩:=zs2 n Ω w Ω;rw[e,A0,A0,f,A0];exact⟨L,rfl,Ω,(b 0).2 (y 0 Δ),λs hs t j=>(b t).2 (u s ((b s).1 hs) t j)⟩
theorem y64 (n:Nat)(B:30000000<n)(a:Aut)(h:EdR a)(C:Cp n a=some 0):∃L,X5 n a=some (L,0)/\L.length<=1100000/\(∀x∈a.fEdges,x.fTo<0->x.fFrom∈L)/\∀s∈L,∀t,prS a s t->t∈L:=by
 have A:=h.st;unfold X5 z1x;rw[C,A0];simp only[Ar,A4,if_true,zz3,Ak,Yt];obtain⟨R,p,H,o⟩:=zjl n a h.le (λy=>bnd (Rs n a y a) λf=>some f) n 0 [] Ω (by have:=h.le;omega) Δ;have D:∀t∈R,0<=t/\t.toNat<a.fStates.length:=λt j=>by
  obtain E|⟨x,b,_,u⟩:=(o t).1 j
  ·cases E
  ·have:=h.ed x (by simpa using b);omega
 obtain⟨w,e,J,G,F⟩:=ybg n B a h.le Ω (λs t ⟨x,b,_,u⟩=>by have:=h.ed x b;omega) R (by have:=h.le;omega) D;obtain⟨L,z,I,g⟩:=zs2 n Ω w Ω;simp only[aP]at p;rw[p,e,A0,A0,z,A0];exact⟨L,rfl,Ω,λx b q=>(g _).2 (G _ ((o _).2 (aK ⟨x,by simpa using b,q,rfl⟩))),λs hs t j=>(g t).2 (F s ((g s).1 hs) t j)⟩
theorem zy6 (n:Nat)(L:List Int)(f:L.length<=1100000):∀(m k:Nat) (M:Mp),k<=L.length->L.length<m+k->MK M->∃R,Tk n L (λy=>some y) m ((k:Int),M)=some R/\MK R/\∀t:Int,has R t ↔ has M t\/t∈L.drop k
 |0,k,M,h1,h2,b=>by omega
 |m+1,k,M,h1,h2,b=>by
  unfold Tk;simp only[aA,A4];by_cases h:k<L.length
  ·rw[if_pos Ω,Ae h,Af k Ω,E8,aF h];obtain⟨R,o,j,g⟩:=zy6 n L f m (k+1) (mput M L[k] true) Ω Ω (b.put _);refine⟨R,o,j,λt=>?_⟩;rw[g,b.has_put,aZ,or_comm (a:=t=L[k]),or_assoc]
  ·rw[if_neg Ω,aB Ω];exact⟨M,rfl,b,Δ⟩
theorem yba (n:Nat)(j:10000000<n)(L:List Int)(b:L.length<=1100000):∃R,Y1 n L=some R/\MK R/\∀t:Int,has R t ↔ t∈L:=by
 obtain⟨R,h,g,f⟩:=zy6 n L b n 0 [] Ω Ω MK.nil;exact⟨R,h,g,λt=>by rw[f];simp[Gu]⟩
theorem zgk (n:Nat)(a:Aut)(u:a.fEdges.length<=1100000)(R U:Mp)(g:MK R)(f:MK U)(K:Mp->Mp->Option Cg):∀(m k:Nat) (M:Mp),k<=a.fEdges.length->a.fEdges.length<m+k->MK M->∃I,Hu n a R U K m ((k:Int),M)=K R I/\MK I/\∀t:Int,has I t ↔ has M t\/∃x∈a.fEdges.drop k,0<=x.fTo/\has R x.fFrom/\has U x.fTo/\x.fTo=t
 |0,k,M,h1,h2,b=>by omega
 |m+1,k,M,h1,h2,b=>by
  unfold Hu;simp only[aA,Ak];by_cases h:k<a.fEdges.length
  ·rw[A4,if_pos Ω,Ae h,Af k Ω,aF h];simp only[Oy,E8,Az,g.get,f.get,decide_eq_true_eq,aZ,exists_eq_or_imp];by_cases q:0<=a.fEdges[k].fTo/\has R a.fEdges[k].fFrom/\has U a.fEdges[k].fTo
   ·rw[if_pos q.1,if_pos q.2.1,if_pos q.2.2];obtain⟨I,p,o,j⟩:=zgk n a u R U g f K m (k+1) (mput M a.fEdges[k].fTo true) Ω Ω (b.put _);refine⟨I,p,o,λt=>?_⟩;rw[j,b.has_put];grind
   ·obtain⟨I,p,o,j⟩:=zgk n a u R U g f K m (k+1) M Ω Ω b;refine⟨I,?_,o,λt=>?_⟩
    ·rw[<-p];split
     ·split
      ·split
       ·rename_i A z y;exact absurd ⟨A,z,y⟩ q
       ·rfl
      ·rfl
     ·rfl
    ·rw[j];grind
  ·rw[A4,if_neg Ω,aB Ω];exact⟨M,rfl,b,Δ⟩
structure PtOk (a:Aut) (p:Cg):Prop where
 r:MK p.freachable
 i:MK p.finner
 r0:has p.freachable 0
 rn:∀x∈a.fEdges,has p.freachable x.fFrom->0<=x.fTo->has p.freachable x.fTo
 ir:∀t,has p.finner t->0<=t/\t.toNat<a.fStates.length
 us:∃U:Int->Prop,(∀x∈a.fEdges,x.fTo<0\/U x.fTo->U x.fFrom)/\∀t,has p.finner t ↔ ∃x∈a.fEdges,0<=x.fTo/\has p.freachable x.fFrom/\U x.fTo/\x.fTo=t
theorem y8t (n:Nat)(u:30000000<n)(a:Aut)(h:EdR a)(A:Cp n a=some 0):∃p,Tj n a=some p/\PtOk a p:=by
 obtain⟨L,S,Q,O,M⟩:=zw8 n u a h A;obtain⟨U,J,H,G,F⟩:=y64 n u a h A;obtain⟨R,K,g,f⟩:=yba n Ω L Q;obtain⟨V,E,D,C⟩:=yba n Ω U H;obtain⟨I,o,W,T⟩:=zgk n a h.le R V g D (λy z=>some (⟨y,z⟩)) n 0 [] Ω (by have:=h.le;omega) MK.nil;unfold Tj;simp only[aP]at o;rw[S,A0,J,A0,K,A0,E,A0,o];have B:∀t,has I t ↔ ∃x∈a.fEdges,0<=x.fTo/\has R x.fFrom/\t∈U/\x.fTo=t:=λt=>by
  rw[T];simp only[Gu,false_or,aM,C];grind
 refine⟨⟨R,I⟩,rfl,g,W,(f 0).2 O,λx b q j=>(f _).2 (M _ ((f _).1 q) _ ⟨x,b,rfl,rfl,j⟩),λt X=>?_,λt=>t∈U,λx b q=>q.elim (G x b) (λq=>F _ q _ ⟨x,b,rfl,rfl⟩),λt=>?_⟩
 ·obtain⟨x,b,j,_,_,Y⟩:=(B t).1 X;have:=h.ed x b;omega
 ·rw[B];grind
theorem y2z {t:Int}{len:Nat}(b:0<=t)(h:t.toNat<len)(c:Option β):ncx t len c=c:=by
 unfold ncx;rw[if_pos ⟨b,h⟩]
theorem yc2 (i:Nat)(x:Option β):fro i x=x:=by unfold fro;rfl
theorem zep (n:Nat)(A:10000000<n)(a:Aut)(o:a.fScopes<=64)(p:Cg)(u:MK p.finner)(x:Ed)(g:x.fOpens.length<=1100000)(j:x.fCloses.length<=1100000)(out:List Mp)(z:∀M∈out,MK M)(q:0<=x.fFrom/\x.fFrom.toNat<out.length):∀(m k:Nat) (M:Mp),k<=64->64<m+k->MK M->∃R,Fc n out x a p (λy=>some y) m ((k:Int),M)=some R/\MK R
 |0,k,M,h1,h2,t=>by omega
 |m+1,k,M,h1,h2,t=>by
  unfold Fc;rw[A4];by_cases h:(k:Int)<a.fScopes
  ·rw[if_pos h,I4 n (k:Int) x.fOpens Ω Ω,A0,I4 n (k:Int) x.fCloses Ω Ω,A0];have key:∀(b:Bool),∃R,G5 n out x a p ((k:Int),M) (Fc n out x a p (λy=>some y) m) b=some R/\MK R:=λb=>by
    unfold G5;simp only[Ak,E8,Af k Ω];cases b with
    |true=>rw[Aj];exact zep n A a o p u x g j out z q m (k+1) _ Ω Ω (t.put _)
    |false=>rw[Al];exact zep n A a o p u x g j out z q m (k+1) _ Ω Ω t
   have f:∀(c b:Bool),∃R,Gz n out x a p ((k:Int),M) (Fc n out x a p (λy=>some y) m) c b=some R/\MK R:=λc b=>by
    unfold Gz;simp only[Ak,Ay,Oy];cases (mlk p.finner x.fFrom).getD false with
    |false=>rw[Al];exact key _
    |true =>
     rw[Aj];cases b with
     |false=>rw[Al];exact key _
     |true =>
      rw[Aj];cases c with
      |true=>simp only[aU,Al];exact key _
      |false=>simp only[aR,Aj];rw[Ov q.1 q.2];exact key _
   simp only[Ak,Ay];rw[A4];split
   ·cases (x.fCloses.any λy=>decide ((k:Int)=y))with
    |true=>simp only[aU,Al];exact f _ _
    |false=>simp only[aR,Aj];exact f _ _
   ·exact f _ _
  ·rw[if_neg h];exact⟨M,rfl,t⟩
theorem y5p (n:Nat)(o:10000000<n)(a:Aut)(g:a.fScopes<=64)(p:Cg)(h:MK p.finner)(x:Ed)(b:x.fOpens.length<=1100000)(f:x.fCloses.length<=1100000)(out:List Mp)(j:∀M∈out,MK M)(q:0<=x.fFrom/\x.fFrom.toNat<out.length):∃R,z0d n p a x out=some R/\MK R :=
 zep n o a g p h x b f out j q n 0 [] Ω Ω MK.nil
theorem zet (n:Nat)(B C:Mp)(z:MK B)(u:Srt C)(g:MK C):∀(m:Nat) (rem acc:Mp),rem.length<m->MK rem->MK acc->(∀v,has rem v->¬has acc v)->(∀v,has C v ↔ has acc v\/(has rem v/\has B v))->Nf n B (λy=>frs 7 y (some (Cw y))) m (rem,acc)=some C
 |0,rem,acc,h1,h2,f,t,o=>by omega
 |m+1,rem,acc,h1,h2,f,t,o=>by
  unfold Nf;by_cases e:rem=[]
  ·subst e;simp only[zoh];unfold frs;rw[if_pos f.nd];refine congrArg some (y8g (zfi _) u f.sort.1.tr g.tr λv=>?_);rw[f.sort.2.2.2,o];simp[Gu]
  ·have H:∀(x y:Option Mp),nxt rem x y=y:=λx y=>by
    cases rem with
    |nil=>exact absurd rfl e
    |cons p r=>exact zid p r x y
   simp only[H];refine zi7 e λj E=>?_
   obtain⟨D,o2,o3⟩:=h2.out E;simp only[Ak,Oy,E8,Az,z.get];have G:¬has acc rem[j].1:=t _ ((o3 _).2 (aN rfl));have b:(rem.eraseIdx j).length<m:=by rw[aW E];omega
   split
   ·rename_i q;refine zet n B C z u g m _ _ b D (f.put _) (λv h F=>?_) (λv=>?_)
    ·rcases(f.has_put _ _).1 F with A|A
     ·exact o2 (A▸h)
     ·exact t v ((o3 v).2 (aK h)) A
    ·rw[o,o3,f.has_put];grind
   ·rename_i q;refine zet n B C z u g m _ _ b D f (λv h=>t v ((o3 v).2 (aK h))) (λv=>?_);rw[o,o3];grind
theorem MK.filter {l:Mp}(h:MK l)(q:Int×Bool->Bool):MK (l.filter q):=⟨h.nd.sublist (filter_sublist.map _),λp b=>h.tr p (bH.1 b).1⟩
theorem y5z (n:Nat)(A B:Mp)(o:MK A)(j:MK B)(q:A.length<n):∃C,Td n A B=some C/\MK C/\∀v,has C v ↔ has A v/\has B v:=by
 have b:=o.filter (λp=>(mlk B p.1).getD false);have h:∀v,has (A.filter λp=>(mlk B p.1).getD false) v ↔ has A v/\has B v:=λv=>by
  unfold has;simp only[cB,bH,j.get];constructor
  ·rintro ⟨p,⟨g,f⟩,rfl⟩;exact⟨⟨p,g,rfl⟩,by simpa[has]using f⟩
  ·rintro ⟨⟨p,g,rfl⟩,f⟩;exact⟨p,⟨g,by simpa[has]using f⟩,rfl⟩
 refine⟨Cw (A.filter λp=>(mlk B p.1).getD false),?_,b.sort.1,λv=>by rw[b.sort.2.2.2,h]⟩;unfold Td;simp only[Ak];exact zet n B _ j b.sort.2.1 b.sort.1 n A [] q o MK.nil (λv _=>Gu v) (λv=>by rw[b.sort.2.2.2,h];simp[Gu])
def tot (out:List Mp):Nat:=(out.map length).sum
theorem zvd {out:List Mp}(hi:i<out.length)(M:Mp):tot (out.set i M)+out[i].length=tot out+M.length:=by
 unfold tot
 induction out generalizing i with
 |nil=>simp at hi
 |cons q r ih =>
  cases i with
  |zero=>simp only[set_cons_zero,cI,sum_cons,cJ];omega
  |succ i =>
   have:=ih (by simpa using hi);simp only[set_cons_succ,cI,sum_cons,cK];omega
structure F9 (N:Nat) (out:List Mp):Prop where
 len:out.length=N
 mks:∀M∈out,MK M
theorem F9.set {out:List Mp}(h:F9 N out)(i:Nat){M:Mp}(f:MK M):F9 N (out.set i M) :=
 ⟨by rw[aT];exact h.len,λq b=>(aY b).elim (h.mks q) (λe=>e▸f)⟩
structure AutR (a:Aut):Prop extends EdR a where
 sc:0<=a.fScopes/\a.fScopes<=64
 lo:∀x∈a.fEdges,x.fOpens.length<=1100000/\x.fCloses.length<=1100000/\x.fInside.length<=1100000/\x.fLimits.length<=1100000
 sp:∀x∈a.fEdges,∀l∈x.fLimits,0<=l.fSpan/\l.fSpan<=1099511627776
theorem z67 (n:Nat)(y:10000000<n)(a:Aut)(h:AutR a)(p:Cg)(u:PtOk a p)(K:Bool->List Mp->Option (List Mp)):∀(m k:Nat) (b:Bool) (out:List Mp),k<=a.fEdges.length->a.fEdges.length<m+k->F9 a.fStates.length out->tot out<10000000->∃o f,G2 n a p K m (b,(k:Int),out)=K o f/\F9 a.fStates.length f/\tot f<=tot out/\(o=true->b=true\/tot f < tot out)
 |0,k,b,out,h1,h2,j,D=>by omega
 |m+1,k,b,out,h1,h2,j,D=>by
  have A:=h.le;unfold G2;simp only[aA];by_cases B:k<a.fEdges.length
  ·rw[A4,if_pos Ω,Ae B];have O:=h.ed _ (aC B);have t:=h.lo _ (aC B);have E:=j.len;have skip:∃o f,G3 n a p (b,(k:Int),out) (G2 n a p K m) a.fEdges[k] true=K o f/\F9 a.fStates.length f/\tot f<=tot out/\(o=true->b=true\/tot f < tot out):=by
    unfold G3;simp only[Af k (by omega:k<=1000000000000)];rw[Aj];exact z67 n y a h p u K m (k+1) b out Ω Ω j D
   simp only[Ay,Ak,Oy];rw[A4];by_cases q:a.fEdges[k].fTo<0
   ·rw[if_pos q];exact skip
   rw[if_neg q];have g:0<=a.fEdges[k].fTo/\a.fEdges[k].fTo.toNat<out.length:=Ω
   cases (mlk p.freachable a.fEdges[k].fFrom).getD false with
   |false=>simp only[aR,Aj];exact skip
   |true =>
    simp only[aU,Al];cases (mlk p.finner a.fEdges[k].fTo).getD false with
    |false=>simp only[aR];exact skip
    |true =>
     simp only[aU];unfold G3;simp only[Af k (by omega:k<=1000000000000),aA,Ak];rw[Al,Ft g.1 g.2,Cu g.2];obtain⟨R,G,F⟩:=y5p n y a h.sc.2 p u.i _ t.1 t.2.1 out j.mks Ω;have z:=j.mks _ (aC g.2);have A:out[a.fEdges[k].fTo.toNat].length<=tot out:=by
      have:=zvd g.2 [];simp only[cP]at this;omega
     obtain⟨C,M,L,T⟩:=y5z n _ R z F Ω;rw[G,A0,M,A0,Ft g.1 g.2,Cu g.2,A4];by_cases ql:C.length<out[a.fEdges[k].fTo.toNat].length
     ·rw[if_pos Ω,Ft g.1 g.2,E7 g.2];have H:=zvd g.2 C;obtain⟨o,f,J,I,S,Q⟩:=z67 n y a h p u K m (k+1) true (out.set a.fEdges[k].fTo.toNat C) Ω Ω (j.set _ L) Ω;exact⟨o,f,J,I,Ω,λ_=>aK Ω⟩
     ·rw[if_neg Ω];exact z67 n y a h p u K m (k+1) b out Ω Ω j D
  ·rw[A4,if_neg Ω];exact⟨b,out,rfl,j,bK _,aN⟩
theorem zhi (n:Nat)(o:10000000<n)(a:Aut)(h:AutR a)(p:Cg)(j:PtOk a p):∀(m:Nat) (b:Bool) (out:List Mp),(tot out+1<m\/(b=false/\tot out<m))->F9 a.fStates.length out->tot out<10000000->∃f,Iw n a p (λy=>some y) m (b,out)=some f/\F9 a.fStates.length f/\tot f<=tot out
 |0,b,out,h1,h2,t=>by omega
 |m+1,b,out,h1,h2,t=>by
  unfold Iw;simp only;cases b with
  |false=>rw[Al];exact⟨out,rfl,h2,bK _⟩
  |true =>
   rw[Aj];have C:=h.le;obtain⟨g,f,u,G,I,F⟩:=z67 n o a h p j (λy z=>Iw n a p (λy=>some y) m (y,z)) n 0 false out Ω Ω h2 t;simp only[aP]at u;rw[u];have E:tot out+1<m+1:=by
    rcases h1 with h|h
    ·exact h
    ·exact absurd h.1 Δ
   have D:tot f + 1<m\/(g=false/\tot f < m):=by
    cases g with
    |false=>exact aK ⟨rfl,Ω⟩
    |true=>have:=(F rfl).resolve_left Δ;exact aN Ω
   obtain⟨q,B,A,H⟩:=zhi n o a h p j m g f D G Ω;exact⟨q,B,A,Ω⟩
def addS (k:Int):Nat->Mp->Mp |0,q=>q |d+1,q=>addS (k+1) d (sput q k true)
theorem yae (k:Int)(d:Nat)(q:Mp)(h:Srt q)(t:∀p∈q,p.2=true):Srt (addS k d q)/\∀p∈addS k d q,p.2=true:=by
 induction d generalizing k q with
 |zero=>exact⟨h,t⟩
 |succ d ih=>exact ih (k+1) _ (Tw h) (λp b=>(zxm p b).elim (λe=>by rw[e]) (t p))
theorem y78 (k:Int)(d:Nat)(q:Mp)(h:Srt q):(addS k d q).length<=q.length+d:=by
 induction d generalizing k q with
 |zero=>exact bK _
 |succ d ih =>
  have:=ih (k+1) (sput q k true) (Tw h);have h2:=(zit (k:=k) (v:=true) h).length_eq;have b:(q.filter λp=>decide (p.1≠k)).length<=q.length:=bA _ _;simp only[aL,bB]at h2;show(addS (k+1) d (sput q k true)).length<=_;omega
def allS (a:Aut):Mp:=addS 0 a.fScopes.toNat []
theorem zhh (n:Nat)(a:Aut)(j:0<=a.fScopes/\a.fScopes<=64)(p:Cg)(V:Nat×Ars Mp×Mp)(f:Int×Bool)(b:Mp)(ix:List (Option Nat))(os:List Mp)(i:Nat)(hi:i<ix.length)(u:f.1=(i:Int))(y:V.1=ix.length)(K:Ars Mp->Mp->Option (List Mp)):∀(m k:Nat) (q:Mp),(k:Int)<=a.fScopes->a.fScopes<m+k->Srt q->Pv n a p V f b K m ((k:Int),(ix.set i (some os.length),os++[q]))=K (ix.set i (some os.length),os++[addS (k:Int) (a.fScopes.toNat-k) q]) b
 |0,k,q,h1,h2,t=>by omega
 |m+1,k,q,h1,h2,t=>by
  unfold Pv;simp only;rw[A4];by_cases h:(k:Int)<a.fScopes
  ·have o:∀c:Nat->Option (List Mp),aob (ix.set i (some os.length),os++[q]) i c=c os.length:=λc=>by
    unfold aob;simp only[bY,if_true,hi]
   have g:∀c:Ars Mp->Option (List Mp),aup (ix.set i (some os.length),os++[q]) os.length (k:Int) true c=c (ix.set i (some os.length),os++[sput q (k:Int) true]):=λc=>by
    rw[yck (l:=q) Δ t];simp
   rw[if_pos h,y2z Ω Ω,u,bF,o,g,Af k Ω,zhh n a j p V f b ix os i hi u y K m (k+1) _ Ω Ω (Tw t)];have e:a.fScopes.toNat-k=(a.fScopes.toNat-(k+1))+1:=Ω
   rw[e];rfl
  ·rw[if_neg h];have e:a.fScopes.toNat-k=0:=Ω
   rw[e];rfl
structure ArOk (N:Nat) (m:Ars Mp):Prop where
 len:m.1.length=N
 lt:∀(i j:Nat),m.1[i]? = some (some j)->j<m.2.length
theorem ArOk.put {ix:List (Option Nat)}(h:ArOk N (ix,os))(hi:i<N)(q:Mp):ArOk N (ix.set i (some os.length),os++[q])/\aval (ix.set i (some os.length),os++[q])=(aval (ix,os)).set i q:=by
 have g:=h.len;simp only at g;refine⟨⟨by simp[g],λk j e=>?_⟩,?_⟩
 ·simp only[bY]at e;simp only[aL,bB];split at e
  ·split at e
   ·injection e with e;injection e with e;omega
   ·cases e
  ·have:=h.lt k j e;simp only at this;omega
 ·unfold aval;apply ext_getElem
  ·simp
  ·intro k f o;simp only[aA,aT]at f;simp only[cN,getElem_set];by_cases e:i=k
   ·subst e;simp
   ·rw[if_neg e,if_neg e];have b:=h.lt k;cases n:ix[k]with
    |none=>rfl
    |some j =>
     have:=b j (by simp only;rw[aD f,n]);simp only at this;simp only[getElem?_append_left this]
theorem zhj (n:Nat)(S:10000000<n)(a:Aut)(h:AutR a)(p:Cg)(K:Nat->Ars Mp->Option (List Mp))(KK:List Mp->Option (List Mp))(I:∀N m,K N m=KK (aval m))(r:List Mp):∀(m:Nat) (rem:Mp) (ar:Ars Mp),rem.length<m->MK rem->(∀t,has rem t->0<=t/\t.toNat<a.fStates.length)->ArOk a.fStates.length ar->KK (rem.foldl (λw q=>w.set q.1.toNat (allS a)) (aval ar))=some r->L0 n a p K m (a.fStates.length,ar,rem)=some r
 |0,rem,ar,h1,h2,F,E,g=>by omega
 |m+1,rem,ar,h1,h2,F,E,g=>by
  unfold L0;simp only;by_cases e:rem=[]
  ·subst e;rw[zoh,I];exact g
  ·have A:∀(x y:Option (List Mp)),nxt rem x y=y:=λx y=>by
    cases rem with
    |nil=>exact absurd rfl e
    |cons p r=>exact zid p r x y
   rw[A];refine zi7 e λj B=>?_
   obtain⟨O,o2,o3⟩:=h2.out B;obtain⟨M,L⟩:=F rem[j].1 ((o3 _).2 (aN rfl));obtain⟨i,hi⟩:∃i:Nat,rem[j].1=(i:Int):=⟨rem[j].1.toNat,Ω⟩;have C:i<a.fStates.length:=Ω
   obtain⟨ix,os⟩:=ar;have H:=E.len;simp only at H;have u:=h.sc;rw[Ak,y2z M L,hi,bF];have o:∀c:Ars Mp->Option (List Mp),ast (ix,os) i [] c=c (ix.set i (some os.length),os++[[]]):=λc=>by
    unfold ast;simp only;rw[if_pos Ω]
   have b:=zhh n a u p (a.fStates.length,(ix,os),rem) rem[j] (rem.eraseIdx j) ix os i Ω hi H.symm (λy z=>L0 n a p K m (a.fStates.length,y,z)) n 0 [] Ω Ω (by simp[Srt]);simp only[aP,Nat.sub_zero]at b;rw[o,b];obtain⟨J,G⟩:=E.put C (allS a);refine zhj n S a h p K KK I r m (rem.eraseIdx j) _ (by rw[aW B];omega) O (λt Q=>F t ((o3 t).2 (aK Q))) J ?_;have R:(rem[j]::rem.eraseIdx j).Perm rem:=Ob B;have D:=Perm.foldl_eq' (f:=λ(w:List Mp) (q:Int×Bool)=>w.set q.1.toNat (allS a)) R (λx _ y _ z=>by
    by_cases e:x.1.toNat=y.1.toNat
    ·simp only[e]
    ·exact List.set_comm _ _ e) (aval (ix,os))
   rw[aQ,hi,bF]at D;unfold allS at G D;simp only[allS]at g ⊢;rw[G,D];exact g
theorem y2q (n:Nat)(T:20000000<n)(a:Aut)(h:AutR a)(p:Cg)(o:PtOk a p):∃out,Vj n p a=some out/\F9 a.fStates.length out/\∀M∈out,M.length<n:=by
 have L:=h.st;unfold Vj;simp only[aA,ycl,Ak];rw[yby Ω];have I:=yae 0 a.fScopes.toNat [] (by simp[Srt]) Δ;have F:=y78 0 a.fScopes.toNat [] (by simp[Srt]);have O:=h.sc;have f:∀(rem:Mp) (w:List Mp),F9 a.fStates.length w->(∀M∈w,M.length<=64)->F9 a.fStates.length (rem.foldl (λw q=>w.set q.1.toNat (allS a)) w)/\∀M∈rem.foldl (λw q=>w.set q.1.toNat (allS a)) w,M.length<=64:=λrem=>by
  induction rem with
  |nil=>exactλw h G=>⟨h,G⟩
  |cons q r u =>
   intro w h G;rw[aQ];refine u _ (h.set _ ⟨I.1.nodup,I.2⟩) (λM b=>(aY b).elim (G M) (λe=>?_));rw[e];unfold allS;simp only[cP]at F;omega
 have E:ArOk a.fStates.length (mkA Mp a.fStates.length):=⟨by simp[mkA],λi j e=>by
  unfold mkA at e;simp only[cH]at e;split at e<;>simp at e⟩
 have z:aval (mkA Mp a.fStates.length)=bV a.fStates.length []:=by
  unfold aval mkA;simp
 obtain⟨J,Q⟩:=f p.finner (bV a.fStates.length []) ⟨Δ,λM b=>by rw[cD b];exact MK.nil⟩ (λM b=>by rw[cD b];simp);have K:∀w:List Mp,(∀M∈w,M.length<=64)->tot w<=64*w.length:=λw=>by
  unfold tot
  induction w with
  |nil=>simp
  |cons q r u =>
   intro H;have:=u (λM b=>H M (aJ _ b));have:=H q Δ;simp only[cI,sum_cons,bO];omega
 have A:=K _ Q;rw[J.len]at A;obtain⟨out,S,R,U⟩:=zhi n Ω a h p o n true _ (aN Ω) J Ω;have C:∀M∈out,M.length<=tot out:=λM b=>by
  obtain⟨i,hi,rfl⟩:=bE.1 b;have:=zvd hi [];simp only[cP]at this;omega
 refine⟨out,?_,R,λM b=>by have:=C M b;omega⟩;have D:p.finner.length<n:=by
  have g:(p.finner.map (·.1)).length<=((range a.fStates.length).map (λ(i:Nat)=>(i:Int))).length:=by
   refine Yj o.i.nd (λt B=>?_);have:=o.ir t B;exact cB.2 ⟨t.toNat,mem_range.2 this.2,Ω⟩
  simp only[aA,length_range]at g;omega
 refine zhj n Ω a h p _ (λw=>Iw n a p (λy=>some y) n (true,w)) (λN m=>by simp only[yc2,Ak]) out n p.finner (mkA Mp a.fStates.length) D o.i o.ir E ?_;rw[z];exact S
def cvS (x y:Sta):Bool:=decide (x.fScope=y.fScope) && decide (y.fTime<=x.fTime)
def cvL:List Sta->List Sta->Bool |[],[]=>true |x::r,y::s=>cvS x y && cvL r s |_,_=>false
def rdB (m:Mp)(l:List Bd):List Bd:=l.filter (λb=>(mlk m b.fVar).getD false)
def rdC (R:List Mp)(c:Cf):List Bd:=rdB (R.getD c.fState.toNat []) c.fBindings
def cov (R:List Mp)(c d:Cf):Bool:=decide (c.fState=d.fState) && (cvL c.fStarts d.fStarts && decide (rdC R c=rdC R d))
structure CS (R:List Mp) (c:Cf):Prop where
 st:0<=c.fState/\c.fState<(R.length:Int)
 lb:c.fBindings.length<=1000000
 ls:c.fStarts.length<=1000000
def cfO (l:List Cf):List Cf:=l.filter (λd=>!decide (d.fState<0))
def maO (l:List Cf):List Ma:=(l.filter (λd=>decide (d.fState<0))).map (λd=>⟨d.fBindings⟩)
def Fy (a:Aut)(s:Int):List Ed:=a.fEdges.filter (λx=>decide (x.fFrom=s))
def skP (a:Aut)(held:List Ev)(c:Cf)(e:Ev):Bool:=!(zig a c.fState).any (vio (enH held c.fBindings) e)
def outP (a:Aut)(held:List Ev)(c:Cf)(e:Ev):List Cf:=(if skP a held c e=true then[c]else[])++(Fy a c.fState).filterMap (λx=>coP a held c x e)
theorem zq9 (d:Cf)(l:List Cf):cfO (d::l)=if d.fState<0 then cfO l else d::cfO l:=by
 unfold cfO;grind
theorem zom (d:Cf)(l:List Cf):maO (d::l)=if d.fState<0 then(⟨d.fBindings⟩:Ma)::maO l else maO l:=by
 unfold maO;grind
theorem zqa (l m:List Cf):cfO (l++m)=cfO l++cfO m:=by unfold cfO;rw[bT]
theorem zon (l m:List Cf):maO (l++m)=maO l++maO m:=by unfold maO;simp_all
theorem U9 (l:List Cf):(cfO l).length<=l.length:=bA _ _
theorem Ou (l:List Cf):(maO l).length<=l.length:=by unfold maO;grind
variable {d:Cf}
theorem y49 {l:List Cf}(h:d∈cfO l):d∈l/\0<=d.fState:=by
 have:=bH.1 h;exact⟨this.1,by simpa using this.2⟩
theorem y9n {l:List Cf}{m:Ma}(h:m∈maO l):∃d∈l,m=⟨d.fBindings⟩:=by
 obtain⟨d,b,rfl⟩:=cB.1 h;grind
def Sz (k:Nat)(c:Cf):Prop:=c.fBindings.length<=k/\c.fStarts.length<=100*k
theorem Sz.ok (b:k<=1001)(h:Sz k c):cfOk c=true:=(Fm c).2 ⟨by have:=h.1;omega,by have:=h.2;omega⟩
theorem ziq {held:List Ev}(h:coP a held c x e=some d):d=⟨x.fTo,bdN c x e,(stN c x e).filter (ncl x)⟩:=by
 unfold coP at h;simp_all
theorem y42 {held:List Ev}(g:CxA a held)(f:CB held a k c)(b:x∈a.fEdges)(h:coP a held c x e=some d):Sz (k+1) d:=by
 rw[ziq h];have h1:=f.lb;have h2:=f.ls;have o:=g.lo x b;have n:=zog e.fTime x.fOpens c.fStarts;have j:=bA (ncl x) (stN c x e);refine⟨by unfold bdN;simp;omega,?_⟩;unfold stN at j ⊢;simp only;omega
theorem CB.sz {held:List Ev}(h:CB held a k c):Sz k c:=⟨h.lb,h.ls⟩
theorem Yc (h:x∈Fy a s):x∈a.fEdges/\x.fFrom=s:=by
 have:=bH.1 h;exact⟨this.1,by simpa using this.2⟩
theorem y2t {held:List Ev}(g:CxA a held)(f:CB held a k c)(h:d∈outP a held c e):Sz (k+1) d:=by
 unfold outP at h;rcases aO.1 h with h|h
 ·split at h
  ·rw[aG.1 h];have:=f.sz;exact⟨by have:=this.1;omega,by have:=this.2;omega⟩
  ·simp at h
 ·obtain⟨x,b,j⟩:=cF.1 h;exact y42 g f (Yc b).1 j
theorem Yi {held:List Ev}:(outP a held c e).length<=a.fEdges.length+1:=by
 unfold outP Fy;grind
theorem zwd (b:k<=1001)(h:Sz k c):maOk ⟨c.fBindings⟩=true:=(Ew _).2 (by have:=h.1;simp;omega)
theorem zmu (e:Ev)(env:List (List Ev))(hs:EvS env)(b:Stt)(j:b.fGuards.length<=1100000)(f:∀g∈b.fGuards,WfE g.fCond):∀(m k:Nat),k<=b.fGuards.length->b.fGuards.length<m+k->Qc N0 e ⟨env⟩ b (some true) m (k:Int)=some (!(b.fGuards.drop k).any (vio env e))
 |0,k,h1,h2=>by omega
 |m+1,k,h1,h2=>by
  unfold Qc;simp only[aA,A4];by_cases h:k<b.fGuards.length
  ·rw[if_pos Ω,Ae h,B6 _ k h,any_cons,y24 hs (f _ (aC h)),A0,Af k Ω,zmu e env hs b j f m (k+1) Ω Ω];cases vio env e b.fGuards[k]<;>simp[Aj,Al]
  grind
theorem y5j {held:List Ev}(f:CxA a held)(q:k<=1000)(g:CB held a k c)(e:Ev):Vv N0 a held c e=some (skP a held c e):=by
 have n:=g.lb;have j:=f.lh;obtain⟨b,p,h,o⟩:=zfs g.st;unfold Vv skP;rw[y29 N0 Θ held Ω c Ω,A0,zie g.st.1 p,o];have:=zmu e (enH held c.fBindings) (U7 Ω) b (f.wf.st b h).1 (f.wf.st b h).2 N0 0 (aE _) (by have:=(f.wf.st b h).1;unfold N0;omega);simp_all
theorem zjq (s:Int)(a:Aut)(b:a.fEdges.length<=1000000)(K:List Ed->Option (List Ed)):∀(m k:Nat) (out:List Ed),k<=a.fEdges.length->a.fEdges.length<m+k->out.length<=k->Lu N0 s a K m ((k:Int),out)=K (out++(a.fEdges.drop k).filter (λx=>decide (x.fFrom=s)))
 |0,k,out,h1,h2,j=>by omega
 |m+1,k,out,h1,h2,j=>by
  unfold Lu;simp only[aA,A4];by_cases h:k<a.fEdges.length
  ·have g:=zjq s a b K m (k+1) (out++[a.fEdges[k]]) Ω Ω (by simp_all);have f:=zjq s a b K m (k+1) out Ω Ω Ω;rw[if_pos Ω,Ak,Ae h,Ae h,B6 _ k h,Af k Ω,Bo (by grind) Ω,g,f,bL];grind
  ·rw[if_neg Ω,aB Ω];simp
theorem ybe (s:Int)(a:Aut)(b:a.fEdges.length<=1000000):W7 N0 a s=some (Fy a s):=by
 have:=zjq s a b (λy=>some y) N0 0 [] (aE _) (by unfold N0;omega) Δ;unfold W7 Fy;exact this
variable {kk:Nat}
theorem zi9 {held:List Ev}(p:CxA a held)(y:kk<=1000)(q:CB held a kk c)(e:Ev)(es:List Ed)(g:∀x∈es,x∈a.fEdges)(A:es.length<=100000)(K:List Cf->List Ma->Option (List Cf×List Ma)) :
  ∀(m k:Nat) (cs:List Cf) (f:List Ma),k<=es.length->es.length<m+k->cs.length<=k+1->f.length<=k->(∀d∈cs,cfOk d=true)->(∀d∈f,maOk d=true)->Jg N0 e c held a es K m (cs,f,(k:Int))=K (puts Bp cs (cfO ((es.drop k).filterMap (λx=>coP a held c x e)))) (puts B7 f (maO ((es.drop k).filterMap (λx=>coP a held c x e))))
 |0,k,cs,f,h1,h2,D,C,u,t=>by omega
 |m+1,k,cs,f,h1,h2,D,C,u,t=>by
  unfold Jg;simp only[aA,A4,Ar];by_cases h:k<es.length
  ·have o:=g _ (aC h);have j:=y0b p y q o e;rw[if_pos Ω,Ae h,B6 _ k h,bG,Af k Ω];cases n:coP a held c es[k] e with
   |none =>
    have b:Lt N0 a held c es[k] e=some (cf0,false):=j.trans (by rw[n];rfl);rw[b,A0];simp only[Al];exact zi9 p y q e es g A K m (k+1) cs f Ω Ω Ω Ω u t
   |some d =>
    have z:=y42 p q o n;have b:Lt N0 a held c es[k] e=some (d,true):=j.trans (by rw[n];rfl);rw[b,A0];simp only[Aj,Ak];rw[zq9,zom];by_cases hs:d.fState<0
    ·rw[if_pos hs,if_pos hs,if_pos hs,y2b N0 Θ _ (zwd Ω z) f t Ω,A0,I7];have B:=Ok B7 (⟨d.fBindings⟩:Ma) f;exact zi9 p y q e es g A K m (k+1) cs _ Ω Ω Ω Ω u (zot (zwd Ω z) t)
    ·rw[if_neg hs,if_neg hs,if_neg hs,y2c N0 Θ _ (z.ok Ω) cs u Ω,A0,I7];have B:=Ok Bp d cs;exact zi9 p y q e es g A K m (k+1) _ f Ω Ω Ω Ω (zyz (z.ok Ω) u) t
  ·rw[if_neg Ω,aB Ω];rfl
theorem yd2 {held:List Ev}(o:CxA a held)(q:a.fEdges.length<=100000)(p:kk<=1000)(g:CB held a kk c)(e:Ev):Wg N0 a held c e=some (setL Bp (cfO (outP a held c e)),setL B7 (maO (outP a held c e))):=by
 have j:(Fy a c.fState).length<=100000:=by
  have:=bA (λx:Ed=>decide (x.fFrom=c.fState)) a.fEdges;unfold Fy;omega
 have n:=λcs u t=>zi9 o p g e (Fy a c.fState) (λx h=>(Yc h).1) j (λk1_1_0y0 k1_1_0y1=>some (k1_1_0y0,k1_1_0y1)) N0 0 cs [] (aE _) (by unfold N0;omega) u Δ t Δ
 have f:¬c.fState<0:=by have:=g.st;omega
 unfold Wg;simp only[Ay,Ak,Mc];rw[y5j o p g e,A0,ybe _ a Ω];simp only[A0];unfold outP setL;rw[zqa,zon,Xz,Xz];cases skP a held c e with
 |true =>
  have b:=y2c N0 Θ c (g.sz.ok Ω) [] Δ Δ;rw[Aj,b,A0];have:=n (insU Bp c []) (by simp[insU]) (by simp[insU];exact g.sz.ok Ω);refine this.trans ?_;have z:puts Bp [] (cfO (if true=true then[c]else[]))=insU Bp c []:=by
   rw[if_pos rfl,zq9,if_neg f];rfl
  have y:puts B7 [] (maO (if true=true then[c]else[]))=[]:=by
   rw[if_pos rfl,zom,if_neg f];rfl
  rw[z,y];rfl
 |false =>
  rw[Al];refine(n [] Δ Δ).trans ?_;rfl
theorem zyl (e:Ev)(l:List Cf)(held:List Ev)(a:Aut)(v:List Cf×List Ma×Int)(x:List Cf×List Ma)(b:∀d∈x.1,cfOk d=true)(j:x.1.length<=100000)(K:List Cf->List Ma->Option (List Cf×List Ma)):∀(m k:Nat) (cs:List Cf),k<=x.1.length->x.1.length<m+k->cs.length+(x.1.length-k)<=1000000->(∀d∈cs,cfOk d=true)->Rb N0 e l held a v x K m (cs,(k:Int))=K (puts Bp cs (x.1.drop k)) x.2
 |0,k,cs,h1,h2,o,f=>by omega
 |m+1,k,cs,h1,h2,o,f=>by
  unfold Rb;simp only[aA,A4];by_cases h:k<x.1.length
  ·have g:=b _ (aC h);have n:=Ok Bp x.1[k] cs;rw[if_pos Ω,Ae h,y2c N0 Θ _ g cs f Ω,A0,B6 _ k h,I7,Af k Ω];exact zyl e l held a v x b j K m (k+1) _ Ω Ω Ω (zyz g f)
  ·rw[if_neg Ω,aB Ω];rfl
theorem zyk (e:Ev)(l:List Cf)(held:List Ev)(a:Aut)(v:List Cf×List Ma×Int)(g:List Cf)(x:List Ma)(b:∀d∈x,maOk d=true)(o:x.length<=100000)(K:List Ma->Option (List Cf×List Ma)):∀(m k:Nat) (cs:List Ma),k<=x.length->x.length<m+k->cs.length+(x.length-k)<=1000000->(∀d∈cs,maOk d=true)->Ra N0 e l held a v g x K m (cs,(k:Int))=K (puts B7 cs (x.drop k))
 |0,k,cs,h1,h2,q,f=>by omega
 |m+1,k,cs,h1,h2,q,f=>by
  unfold Ra;simp only[aA,A4];by_cases h:k<x.length
  ·have j:=b _ (aC h);have p:=Ok B7 x[k] cs;have n:=y2b N0 Θ x[k] j cs f Ω;rw[if_pos Ω,Ae h,B6 _ k h,I7,Af k Ω,n,A0];exact zyk e l held a v g x b o K m (k+1) _ Ω Ω Ω (zot j f)
  ·rw[if_neg Ω,aB Ω];rfl
theorem zrl (most:Int)(l:List Ev)(a:Aut)(v:List Cf×List Ma×Int)(x:List Cf×List Ma)(b:∀d∈x.2,maOk d=true)(n:x.2.length<=1000000)(K:List Ma->List Cf->Option (List Cf×List Ma×Bool)):∀(m k:Nat) (cs:List Ma),k<=x.2.length->x.2.length<m+k->cs.length+(x.2.length-k)<=1000000->(∀d∈cs,maOk d=true)->Pz N0 most l a v x K m (cs,(k:Int))=K (puts B7 cs (x.2.drop k)) x.1
 |0,k,cs,h1,h2,p,f=>by omega
 |m+1,k,cs,h1,h2,p,f=>by
  unfold Pz;simp only[aA,A4];by_cases h:k<x.2.length
  ·have g:=b _ (aC h);have o:=Ok B7 x.2[k] cs;have j:=y2b N0 Θ x.2[k] g cs f Ω;rw[if_pos Ω,Ae h,B6 _ k h,I7,Af k Ω,j,A0];exact zrl most l a v x b n K m (k+1) _ Ω Ω Ω (zot g f)
  ·rw[if_neg Ω,aB Ω];rfl
theorem y8h {l:List Ma}(h:∀x∈l,maOk x=true):∀x∈setL B7 l,maOk x=true:=λx b=>h x ((Gq Dp x l).1 b)
theorem y86 {held:List Ev}(b:CxA a held)(h:kk<=1000)(g:CB held a kk c)(e:Ev):∀d∈cfO (outP a held c e),cfOk d=true:=λd f=>(y2t b g (y49 f).1).ok Ω
theorem y33 {held:List Ev}(b:CxA a held)(j:kk<=1000)(h:CB held a kk c)(e:Ev):∀d∈maO (outP a held c e),maOk d=true:=λd g=>by
 obtain⟨q,f,rfl⟩:=y9n g;exact zwd Ω (y2t b h f)
theorem zym {held:List Ev}(g:CxA a held)(n:a.fEdges.length<=100)(j:kk<=1000)(e:Ev)(l:List Cf)(t:∀c∈l,CB held a kk c)(A:l.length<=5000)(K:List Cf->List Ma->Option (List Cf×List Ma)) :
  ∀(m k:Nat) (cs:List Cf) (b:List Ma),k<=l.length->l.length<m+k->cs.length<=101*k->b.length<=101*k->(∀d∈cs,cfOk d=true)->(∀d∈b,maOk d=true)->Re N0 e l held a K m (cs,b,(k:Int))=K (puts Bp cs ((l.drop k).flatMap (λc=>setL Bp (cfO (outP a held c e))))) (puts B7 b ((l.drop k).flatMap (λc=>setL B7 (maO (outP a held c e)))))
 |0,k,cs,b,h1,h2,C,B,p,o=>by omega
 |m+1,k,cs,b,h1,h2,C,B,p,o=>by
  unfold Re;simp only[aA,A4];by_cases h:k<l.length
  ·have f:=t _ (aC h);have H:=zo6 (c:=Bp) (cfO (outP a held l[k] e));have G:=zo6 (c:=B7) (maO (outP a held l[k] e));have F:=U9 (outP a held l[k] e);have E:=Ou (outP a held l[k] e);have D:(outP a held l[k] e).length<=a.fEdges.length+1:=Yi;have q:=y8i (y86 g j f e);have o2:=y8h (y33 g j f e);have J:=zi6 (c:=Bp) (setL Bp (cfO (outP a held l[k] e))) cs;have I:=zi6 (c:=B7) (setL B7 (maO (outP a held l[k] e))) b;rw[if_pos Ω,Ae h,yd2 g Ω j f e,A0,B6 _ k h,bC,bC,Xz,Xz,Af k Ω];have z:=λK=>zyl e l held a (cs,b,(k:Int)) (setL Bp (cfO (outP a held l[k] e)),setL B7 (maO (outP a held l[k] e))) q (by grind) K N0 0 cs (aE _) (by show(setL Bp (cfO (outP a held l[k] e))).length<2000000000+0;omega) (by show cs.length+((setL Bp (cfO (outP a held l[k] e))).length-0)<=1000000;omega) p
   refine(z _).trans ?_;have y:=λv u K=>zyk e l held a v u (setL B7 (maO (outP a held l[k] e))) o2 Ω K N0 0 b (aE _) (by unfold N0;omega) Ω o
   refine(y _ _ _).trans ?_;rw[aM,aM];exact zym g n j e l t A K m (k+1) (puts Bp cs (setL Bp (cfO (outP a held l[k] e)))) (puts B7 b (setL B7 (maO (outP a held l[k] e)))) Ω Ω Ω Ω (y5d p q) (zxv o o2)
  ·rw[if_neg Ω,aB Ω];rfl
theorem zr8 {c:α->α->Int}(h:TO c)(f:β->List α)(l:List β):setL c (l.flatMap (λx=>setL c (f x)))=setL c (l.flatMap f):=by
 refine y8j h (λx=>?_);rw[bM,bM];constructor
 ·rintro ⟨y,b,g⟩;exact⟨y,b,(Gq h _ _).1 g⟩
 ·rintro ⟨y,b,g⟩;exact⟨y,b,(Gq h _ _).2 g⟩
def cfN (a:Aut)(held:List Ev)(l:List Cf)(e:Ev):List Cf:=setL Bp (l.flatMap (λc=>cfO (outP a held c e)))
def maN (a:Aut)(held:List Ev)(l:List Cf)(e:Ev):List Ma:=setL B7 (l.flatMap (λc=>maO (outP a held c e)))
theorem yd7 {held:List Ev}(h:CxA a held)(b:a.fEdges.length<=100)(n:kk<=1000)(e:Ev)(l:List Cf)(o:∀c∈l,CB held a kk c)(j:l.length<=5000):Wh N0 a held l e=some (cfN a held l e,maN a held l e):=by
 have:=zym h b n e l o j (λg f=>some (g,f)) N0 0 [] [] (aE _) (by unfold N0;omega) Δ Δ Δ Δ;unfold Wh cfN maN;refine this.trans ?_;rw[aM,<-zr8 Ex,<-zr8 Dp];rfl
theorem y2r (d:Cf)(f:List Cf)(b:List Ma)(g:f.length<=100000000)(h1:b.length<=100000000):Qo N0 d f b=some (f++cfO [d],b++maO [d]):=by
 unfold Qo;rw[A4,zq9,zom,Bo (by grind) Ω,Bo (by simp only[bB];omega) Ω];by_cases h:d.fState<0
 ·simp[h,cfO,maO]
 ·simp[h,cfO,maO]
theorem zib {held:List Ev}(n:CxA r.fa held)(o:kk<=1000)(p:CB held r.fa kk c)(g:∀y∈held,Bn y=Bn e->y=e)(j:r.fa.fEdges.length<=100)(K:List Cf->List Ma->Option (List Cf×List Ma×Bg×Cf×Ev)) :
  ∀(m k:Nat) (f:List Cf) (b:List Ma),k<=r.fa.fEdges.length->r.fa.fEdges.length<m+k->f.length<=90000000+k->b.length<=90000000+k->Ij N0 e c r ⟨bndV held r.fa.fVars.toNat c.fBindings⟩ K m ((k:Int),f,b)=K (f++cfO (((r.fa.fEdges.drop k).filter (λx=>decide (x.fFrom=c.fState))).filterMap (λx=>coP r.fa held c x e))) (b++maO (((r.fa.fEdges.drop k).filter (λx=>decide (x.fFrom=c.fState))).filterMap (λx=>coP r.fa held c x e)))
 |0,k,f,b,h1,h2,D,C=>by omega
 |m+1,k,f,b,h1,h2,D,C=>by
  unfold Ij;simp only[aA,A4,Ar];by_cases h:k<r.fa.fEdges.length
  ·have t:=aC h;rw[if_pos Ω,Ae h,B6 _ k h,Af k Ω,bL];by_cases q:r.fa.fEdges[k].fFrom=c.fState;rotate_left
   ·rw[if_neg q,if_neg (by simpa using q)];exact zib n o p g j K m (k+1) f b Ω Ω Ω Ω
   rw[if_pos q,if_pos (by simpa using q),zss n o p t g,A0,bG];cases B:coP r.fa held c r.fa.fEdges[k] e with
   |none =>
    simp only[rfC,Al];exact zib n o p g j K m (k+1) f b Ω Ω Ω Ω
   |some d =>
    simp only[rfC,Aj];have z:=U9 [d];have u:=Ou [d];simp only[bB]at z u;rw[y2r d f b Ω Ω,Ck];have A:=zib n o p g j K m (k+1) (f++cfO [d]) (b++maO [d]) Ω Ω (by rw[aL];omega) (by rw[aL];omega);refine A.trans ?_;rw[aV,aV,<-zqa,<-zon];rfl
  ·rw[if_neg Ω,aB Ω];simp[cfO,maO]
theorem zia {held:List Ev}(n:CxA r.fa held)(o:kk<=1000)(p:CB held r.fa kk c)(g:∀y∈held,Bn y=Bn e->y=e)(j:r.fa.fEdges.length<=100)(K:List Cf->List Ma->Option (List Cf×List Ma×Bg×Cf×Ev)) :
  ∀(m k:Nat) (f:List Cf) (b:List Ma),k<=r.fa.fEdges.length->r.fa.fEdges.length<m+k->f.length<=90000000+k->b.length<=90000000+k->Ii N0 e c r ⟨bndV held r.fa.fVars.toNat c.fBindings⟩ K m ((k:Int),f,b)=K (f++cfO (((r.fa.fEdges.drop k).filter (λx=>decide (x.fFrom=c.fState))).filterMap (λx=>coP r.fa held c x e))) (b++maO (((r.fa.fEdges.drop k).filter (λx=>decide (x.fFrom=c.fState))).filterMap (λx=>coP r.fa held c x e)))
 |0,k,f,b,h1,h2,D,C=>by omega
 |m+1,k,f,b,h1,h2,D,C=>by
  unfold Ii;simp only[aA,A4,Ar];by_cases h:k<r.fa.fEdges.length
  ·have t:=aC h;rw[if_pos Ω,Ae h,B6 _ k h,Af k Ω,bL];by_cases q:r.fa.fEdges[k].fFrom=c.fState;rotate_left
   ·rw[if_neg q,if_neg (by simpa using q)];exact zia n o p g j K m (k+1) f b Ω Ω Ω Ω
   rw[if_pos q,if_pos (by simpa using q),zss n o p t g,A0,bG];cases B:coP r.fa held c r.fa.fEdges[k] e with
   |none =>
    simp only[rfC,Al];exact zia n o p g j K m (k+1) f b Ω Ω Ω Ω
   |some d =>
    simp only[rfC,Aj];have z:=U9 [d];have u:=Ou [d];simp only[bB]at z u;rw[y2r d f b Ω Ω,Ck];have A:=zia n o p g j K m (k+1) (f++cfO [d]) (b++maO [d]) Ω Ω (by rw[aL];omega) (by rw[aL];omega);refine A.trans ?_;rw[aV,aV,<-zqa,<-zon];rfl
  ·rw[if_neg Ω,aB Ω];simp[cfO,maO]
theorem y2p {held:List Ev}(n:CxA r.fa held)(hm:HM held r.fheld)(B:kk<=1000)(b:CB held r.fa kk c)(q:∀y∈held,Bn y=Bn e->y=e)(p:r.fa.fEdges.length<=100)(j:List Cf)(h:List Ma)(S:j.length<=10000000)(h1:h.length<=10000000):Uu N0 j h r c e=some (j++cfO (outP r.fa held c e),h++maO (outP r.fa held c e),r,c,e):=by
 have J:=b.lb;have I:=n.lh;have f:=n.ok.vars;have H:¬c.fState<0:=by have:=b.st;omega
 obtain⟨t,Q,C,O⟩:=zfs b.st;have z:EvS (enH held c.fBindings):=U7 Ω;have A:=y3q ⟨f.1,f.2⟩ b.bd;have L:=(n.wf.st t C).1;unfold Uu;rw[yd5 N0 Θ held r hm f c.fBindings Ω b.bd,A0,zie b.st.1 Q];rw[zw4 N0 ⟨bndV held r.fa.fVars.toNat c.fBindings⟩ e (vio (enH held c.fBindings) e) t.fGuards Ω (by unfold N0;omega) (λg M=>by
  unfold L9;have:=y7f A z ((n.wf.st t C).2 g M) e;refine(congrArg (λo=>bnd o λE=>some E) this).trans ?_;rw[A0]),A0]
 have u:skP r.fa held c e=!(t.fGuards.any (vio (enH held c.fBindings) e)):=by unfold skP;rw[O]
 rw[<-u];unfold outP;rw[zqa,zon];cases skP r.fa held c e with
 |true =>
  rw[Aj,y2r c j h Ω Ω,Ck];have R:=U9 [c];have D:=Ou [c];have G:=λK=>zib n B b q p K N0 0 (j++cfO [c]) (h++maO [c]) (aE _) (by unfold N0;omega) (by grind) (by rw[aL];simp at D;omega)
  refine(G _).trans ?_;rw[aM];simp[aV,Fy]
 |false =>
  rw[Al];have F:=λK=>zia n B b q p K N0 0 j h (aE _) (by unfold N0;omega) Ω Ω
  refine(F _).trans ?_;rw[aM];simp[Fy,cfO,maO]
theorem zyp {held:List Ev}(o:CxA r.fa held)(hm:HM held r.fheld)(p:kk<=1000)(j:∀y∈held,Bn y=Bn e->y=e)(g:r.fa.fEdges.length<=100)(l:List Cf)(q:∀c∈l,CB held r.fa kk c)(t:l.length<=5000)(K:List Cf->List Ma->Option (List Cf×List Ma)):∀(m k:Nat) (f:List Cf) (b:List Ma),k<=l.length->l.length<m+k->f.length<=101*k->b.length<=101*k->Qn N0 e l r K m ((k:Int),f,b)=K (f++(l.drop k).flatMap (λc=>cfO (outP r.fa held c e))) (b++(l.drop k).flatMap (λc=>maO (outP r.fa held c e)))
 |0,k,f,b,h1,h2,A,z=>by omega
 |m+1,k,f,b,h1,h2,A,z=>by
  unfold Qn;simp only[aA,A4];by_cases h:k<l.length
  ·have n:=q _ (aC h);have D:=U9 (outP r.fa held l[k] e);have C:=Ou (outP r.fa held l[k] e);have B:(outP r.fa held l[k] e).length<=r.fa.fEdges.length+1:=Yi;have u:z0s N0 r l[k] e=some (r,l[k],e):=rfl;rw[if_pos Ω,Ae h,u,Ck];simp only;rw[y2p o hm p n j g f b Ω Ω,Ck,B6 _ k h,bC,bC,<-aV,<-aV,Af k Ω];exact zyp o hm p j g l q t K m (k+1) _ _ Ω Ω (by rw[aL];omega) (by rw[aL];omega)
  grind
theorem zih (f:α->List β)(n:Nat):∀l:List α,(∀x∈l,(f x).length<=n)->(l.flatMap f).length<=n*l.length
 |[],_=>by simp
 |x::l,h=>by
  have h1:=h x Δ;have h2:=zih f n l (λy b=>h y (aJ _ b));rw[bC,aL,bO,Nat.mul_succ];omega
theorem y2s {held:List Ev}(g:CxA r.fa held)(hm:HM held r.fheld)(j:kk<=1000)(o:∀y∈held,Bn y=Bn e->y=e)(h:r.fa.fEdges.length<=100)(l:List Cf)(p:∀c∈l,CB held r.fa kk c)(t:l.length<=5000):Mx N0 r l e=some (cfN r.fa held l e,maN r.fa held l e):=by
 have q:=λK=>zyp g hm j o h l p t K N0 0 [] [] (aE _) (by unfold N0;omega) Δ Δ
 unfold Mx;refine(q _).trans ?_;rw[aM,bX,bX];have z:=zih (λc=>cfO (outP r.fa held c e)) 101 l (λc _=>by have:=U9 (outP r.fa held c e);have:(outP r.fa held c e).length<=r.fa.fEdges.length+1:=Yi;omega);have u:=zih (λc=>maO (outP r.fa held c e)) 101 l (λc _=>by have:=Ou (outP r.fa held c e);have:(outP r.fa held c e).length<=r.fa.fEdges.length+1:=Yi;omega);rw[y8r N0 Θ _ (λd n=>by
  obtain⟨c,f,b⟩:=bM.1 n;exact y86 g j (p c f) e d b) Ω,Ck,y20 N0 Θ _ (λd n=>by
  obtain⟨c,f,b⟩:=bM.1 n;exact y33 g j (p c f) e d b) Ω,Ck]
 rfl
theorem zw1 {e:Exn}(h:WfE e):∃b:Bool,Na N0 e=some b:=by
 obtain⟨z,f,g⟩:=h;obtain⟨c,n,_⟩:=y2l 200 Ω Ω z e g f N0 (by unfold N0;omega);obtain⟨d,j,_⟩:=y7i z e g f N0 (by unfold N0;omega);unfold Na;simp only[Ay,Ak,Mi];rw[n,A0,j,A0,A4];split
 ·exact⟨_,rfl⟩
 ·exact⟨_,rfl⟩
theorem y28 (l:List Gd)(f:∀g∈l,WfE g.fCond)(j:l.length<=1100000):∀(m k:Nat),k<=l.length->l.length<m+k->∃b:Bool,Rh N0 l (some true) m (k:Int)=some b
 |0,k,h1,h2=>by omega
 |m+1,k,h1,h2=>by
  unfold Rh;simp only[aA,A4,Ar];by_cases h:k<l.length
  ·obtain⟨b,n⟩:=zw1 (f _ (aC h));rw[if_pos Ω,Ae h,n,A0,Af k Ω];cases b with
   |true=>rw[Aj];exact y28 l f j m (k+1) Ω Ω
   |false=>rw[Al];exact⟨_,rfl⟩
  ·rw[if_neg Ω];exact⟨_,rfl⟩
theorem y8z (f:Stt)(h:f.fGuards.length<=1100000/\∀g∈f.fGuards,WfE g.fCond):∃b:Bool,Wj N0 f.fGuards=some b:=y28 f.fGuards h.2 h.1 N0 0 (aE _) (by have:=h.1;unfold N0;omega)
theorem zyc (a:Aut)(v:Int)(x:Ed)(ys:List Exn)(f:x.fChecks=ys.map Aw)(j:∀y∈ys,WfE y)(o:ys.length<=1100000)(P:Prop)(K:Option Bool)(n:∃b:Bool,K=some b/\(b=true->P)):∀(m k:Nat),k<=ys.length->ys.length<m+k->∃b:Bool,Ri N0 a v x K m (k:Int)=some b/\(b=true->P)
 |0,k,h1,h2=>by omega
 |m+1,k,h1,h2=>by
  unfold Ri;have g:x.fChecks.length=ys.length:=by rw[f,aA]
  simp only[aA,A4,Ar,g];by_cases h:k<ys.length
  ·obtain⟨b,p⟩:=zw1 (j _ (aC h));rw[if_pos Ω,zwi f h,p,A0,Af k Ω];cases b with
   |true=>rw[Aj];exact zyc a v x ys f j o P K n m (k+1) Ω Ω
   |false=>rw[Al];exact⟨false,rfl,λh=>by cases h⟩
  ·rw[if_neg Ω];exact n
def FewA (a:Aut):Prop:=a.fEdges.length<=40/\∀x∈a.fEdges,x.fOpens.length<=12
theorem zyd (a:Aut)(t:WfA a)(K:Option Bool)(u:∃b:Bool,K=some b/\(b=true->a.fEdges.length<=40)):∀(m k:Nat),k<=a.fEdges.length->k<=60->60<m+k->(∀x∈a.fEdges.take k,x.fOpens.length<=12)->∃b:Bool,Jh N0 a K m (k:Int)=some b/\(b=true->FewA a)
 |0,k,h1,h2,B,p=>by omega
 |m+1,k,h1,h2,B,p=>by
  have g:(60<=k\/a.fEdges.length<=k)->∃b:Bool,K=some b/\(b=true->FewA a):=λI=>by
   obtain⟨b,C,y⟩:=u;refine⟨b,C,λj=>⟨y j,λx f=>p x ?_⟩⟩;have:=y j;rw[bR Ω];exact f
  have no:∃b:Bool,some false=some b/\(b=true->FewA a):=⟨false,rfl,λh=>by cases h⟩;unfold Jh;simp only[aA,A4,Ay,Ak,Lw,Fd,Ar,Aj,Al];by_cases h:k<a.fEdges.length;rotate_left
  ·rw[if_neg Ω];exact g Ω
  rw[if_pos Ω];by_cases A:k<60;rotate_left
  ·rw[if_neg Ω];exact g Ω
  rw[if_pos Ω,Ae h,Af k Ω];have wx:=t.ed _ (aC h);obtain⟨b,j⟩:=zw1 wx.cond;rw[j,A0];cases b with
  |false=>rw[Al];exact no
  |true =>
  rw[Aj];split
  ·exact no
  split
  ·exact no
  split
  ·exact no
  split
  ·exact no
  split
  ·exact no
  rename_i H G F E D;obtain⟨ys,q,n⟩:=wx.checks;have o:ys.length<=1100000:=by have:=wx.lc;rw[q,aA]at this;exact this
  have z:=zyd a t K u m (k+1) Ω Ω Ω (λx f=>by
   rw[aH h]at f;rcases aO.1 f with f|f
   ·exact p x f
   ·rw[aG.1 f];omega)
  exact zyc a (k:Int) _ ys q n o (FewA a) _ z N0 0 (aE _) (by unfold N0;omega)
theorem zye (a:Aut)(g:WfA a)(P:Prop)(K:Option Bool)(f:∃b:Bool,K=some b/\(b=true->P)):∀(m k:Nat),k<=a.fStates.length->k<=30->30<m+k->∃b:Bool,Ji N0 a K m (k:Int)=some b/\(b=true->P)
 |0,k,h1,h2,p=>by omega
 |m+1,k,h1,h2,p=>by
  have no:∃b:Bool,some false=some b/\(b=true->P):=⟨false,rfl,λh=>by cases h⟩;unfold Ji;simp only[aA,A4,Ay,Ak,Lv,Ga,Ar,Aj,Al];by_cases h:k<a.fStates.length;rotate_left
  ·rw[if_neg Ω];exact f
  rw[if_pos Ω];by_cases o:k<30;rotate_left
  ·rw[if_neg Ω];exact f
  have j:=zye a g P K f m (k+1) Ω Ω Ω;obtain⟨b,n⟩:=y8z _ (g.st _ (aC h));have hi:∀Q:Stt->Option Bool,idx a.fStates (k:Int) Q=Q a.fStates[k]:=λQ=>Ae h Q
  rw[if_pos Ω,Af k Ω];simp only[hi,n,A0];repeat' split;all_goals first|exact no|(cases b<;>first|(rw[Aj];exact j)|(rw[Al];exact no))|skip
theorem y2j (a:Aut)(f:WfA a):∃b:Bool,Sn N0 a=some b/\(b=true->FewA a):=by
 unfold Sn;refine zye a f (FewA a) _ ?_ N0 0 (aE _) Ω (by unfold N0;omega);refine zyd a f _ ?_ N0 0 (aE _) Ω (by unfold N0;omega) Δ;simp only[Ay,Ak,Mf,aA,A4];split
 ·exact⟨_,rfl,λh=>by simp at h;omega⟩
 ·exact⟨_,rfl,λh=>by cases h⟩
theorem zn3 (l:List Ev)(g:l.length<=1000000)(a:Aut)(K:List (Rf×Ev)->Option (Option Bg×Int)):∀(m k:Nat) (b:List (Rf×Ev)),k<=l.length->l.length<m+k->Th N0 l a K m ((k:Int),b)=K ((l.drop k).foldl (λm e=>mput m (Bn e) e) b)
 |0,k,b,h1,h2=>by omega
 |m+1,k,b,h1,h2=>by
  unfold Th;simp only[aA,A4];by_cases h:k<l.length
  ·have f:Og N0 l[k]=some (Bn l[k]):=rfl;rw[if_pos Ω,Ae h,f,A0,E8,B6 _ k h,aQ,Af k Ω];exact zn3 l g a K m (k+1) _ Ω Ω
  grind
theorem zw7 (a:Aut)(p:WfA a)(l:List Ev)(f:l.length<=1000000):∃q:Int,Hj N0 a l=some q/\((q≠0/\Gm N0 a l=some (none,q))\/(q=0/\AOk a/\yah l/\Ff N0 a=some 0/\De l=0/\∃g,HM l g/\Gm N0 a l=some (some ⟨a,g⟩,0))):=by
 obtain⟨r,o,n,j⟩:=Yh N0 Θ a p;unfold Hj Gm;rw[o,n,A0,A0,Ar,A4,Ar,A4];by_cases h:r=0;rotate_left
 ·simp_all
 rw[if_pos h,if_pos h,y2a N0 l (by unfold N0;omega) f,yd6 N0 l (by unfold N0;omega) Θ f,A0,A0,Ar,A4];refine⟨De l,rfl,?_⟩;by_cases hs:De l=0;rotate_left
 ·simp_all
 rw[if_pos hs];have b:=zel hs;refine aK ⟨hs,j h,b,by rw[h] ,hs,l.foldl (λm e=>mput m (Bn e) e) [],λr=>?_,?_⟩
 ·rw[y3f r l [] b.st];simp[mlk]
 ·refine(zn3 l f a _ N0 0 [] (aE _) (by unfold N0;omega)).trans ?_;rw[aM]
theorem ycd {held:List Ev}(q:CxA a held)(j:Str Ce held)(o:CB held a k c)(f:x∈a.fEdges)(u:e∈held)(h:coP a held c x e=some d)(t:0<=d.fState):CB held a (k+1) d:=by
 have p:=y42 q o f h;have n:=ziq h;have eo:=q.ok.ed x f;refine⟨?_,?_,?_,p.1,p.2⟩
 ·rw[n]at t ⊢;exact⟨t,eo.tgt.2⟩
 ·rw[n];intro b g;rcases aO.1 g with g|g
  ·exact o.bd b g
  ·rw[aG.1 g];refine⟨eo.var,?_⟩;rw[zop j u];rfl
 ·rw[n];exact(y7l e.fTime x.fOpens o.ss).filter _
theorem CB.up {held:List Ev}(h:CB held a k c):CB held a (k+1) c:=⟨h.st,h.bd,h.ss,by have:=h.lb;omega,by have:=h.ls;omega⟩
theorem y9g {held:List Ev}(j:CxA a held)(f:Str Ce held)(g:CB held a k c)(n:e∈held)(h:d∈outP a held c e)(p:0<=d.fState):CB held a (k+1) d:=by
 unfold outP at h;rcases aO.1 h with h|h
 ·split at h
  ·rw[aG.1 h];exact g.up
  ·simp at h
 ·obtain⟨x,b,o⟩:=cF.1 h;exact ycd j f g (Yc b).1 n o p
theorem zxa {held:List Ev}{l:List Cf}(h:d∈cfN a held l e):∃c∈l,d∈outP a held c e/\0<=d.fState:=by
 unfold cfN at h;obtain⟨c,h1,h2⟩:=bM.1 ((Gq Ex _ _).1 h);exact⟨c,h1,y49 h2⟩
theorem zzm {held:List Ev}(f:CxA a held)(b:Str Ce held){l:List Cf}(j:∀c∈l,CB held a k c)(g:e∈held):∀d∈cfN a held l e,CB held a (k+1) d:=λd h=>by
 obtain⟨c,h1,h2,n⟩:=zxa h;exact y9g f b (j c h1) g h2 n
theorem y7r {held:List Ev}(f:CxA a held){l:List Cf}(g:k<=1000)(h:∀c∈l,CB held a k c)(e:Ev):∀d∈maN a held l e,maOk d=true:=λd b=>by
 unfold maN at b;obtain⟨c,h1,h2⟩:=bM.1 ((Gq Dp _ _).1 b);exact y33 f g (h c h1) e d h2
theorem y9o {held:List Ev}(b:a.fEdges.length<=100)(l:List Cf)(e:Ev):(maN a held l e).length<=101*l.length:=by
 unfold maN;have f:=zih (λc=>maO (outP a held c e)) 101 l (λc _=>by have:=Ou (outP a held c e);have:(outP a held c e).length<=a.fEdges.length+1:=Yi;omega);have:=zo6 (c:=B7) (l.flatMap (λc=>maO (outP a held c e)));omega
theorem y8o (l s:List Ma)(hs:Str B7 s)(b:Str B7 l):l.length<=(puts B7 s l).length:=by
 have:puts B7 s l=puts B7 l s:=Str.uniq Dp (zi5 Dp _ _ hs) (zi5 Dp _ _ b) (λx=>by rw[Ty Dp,Ty Dp,Or.comm]);rw[this];exact zri s l
def wiP (most:Nat)(a:Aut)(held:List Ev):List Ev->List Cf->List Ma->List Cf×List Ma×Bool
 |[],cs,b=>(cs,b,true)
 |e::r,cs,b=>if most<(cfN a held cs e).length\/most<(puts B7 b (maN a held cs e)).length then([],[],false)else wiP most a held r (cfN a held cs e) (puts B7 b (maN a held cs e))
theorem zhc {l:List Ev}(j:CxA a l)(g:Str Ce l)(f:a.fEdges.length<=100)(most:Nat)(hm:most<=4096)(p:1<=most)(B:l.length<=900) :
  ∀(m k:Nat) (cs:List Cf) (b:List Ma),k<=l.length->l.length<m+k->cs.length<=most->b.length<=most->(∀c∈cs,CB l a k c)->(∀d∈b,maOk d=true)->Iy N0 (most:Int) l a (λu t=>some (u,t,true)) m (cs,b,(k:Int))=some (wiP most a l (l.drop k) cs b)
 |0,k,cs,b,h1,h2,E,D,n,q=>by omega
 |m+1,k,cs,b,h1,h2,E,D,n,q=>by
  unfold Iy;simp only[aA,A4];by_cases h:k<l.length
  ·have C:=aC h;have z:=y9o (held:=l) f cs l[k];have o:=y7r j Ω n l[k];rw[if_pos Ω,Ae h,yd7 j f Ω l[k] cs n Ω,A0,B6 _ k h];have y:=λK=>zrl (most:Int) l a (cs,b,(k:Int)) (cfN a l cs l[k],maN a l cs l[k]) o (by grind) K N0 0 b (aE _) (by show(maN a l cs l[k]).length<2000000000+0;omega) (by show b.length+((maN a l cs l[k]).length-0)<=1000000;omega) q
   refine(y _).trans ?_;rw[aM];simp only[Ay,Ak,L4,A4,Aj];have A:=zhc j g f most hm p B m (k+1) (cfN a l cs l[k]) (puts B7 b (maN a l cs l[k])) Ω Ω;unfold wiP;by_cases G:most<(cfN a l cs l[k]).length
   ·simp_all
   rw[if_neg Ω];by_cases F:most<(puts B7 b (maN a l cs l[k])).length
   ·simp_all
   rw[if_neg Ω,if_neg Ω,Af k Ω];exact A Ω Ω (zzm j g n C) (zxv q o)
  ·rw[if_neg Ω,aB Ω];rfl
theorem cb0 {l:List Ev}(g:AOk a):CB l a 0 cf0:=⟨⟨Δ,by have:=g.st;simp;omega⟩,λb f=>by simp at f,by simp[SS],Δ,Δ⟩
theorem y23 {l:List Ev}(h:CxA a l)(b:Str Ce l)(g:a.fEdges.length<=100)(most:Nat)(hm:most<=4096)(f:1<=most)(j:l.length<=900):Vn N0 a l (most:Int)=some (wiP most a l l [cf0] []):=by
 unfold Vn;have o:z0o N0=some cf0:=rfl;rw[o,A0];exact zhc h b g most hm f j N0 0 [cf0] [] (aE _) (by unfold N0;omega) Ψ Δ (λc n=>by rw[aG.1 n];exact cb0 h.ok) Δ
theorem zxz {l:List Ev}(t:CxA r.fa l)(hm:HM l r.fheld)(g:Str Ce l)(n:r.fa.fEdges.length<=100)(E:l.length<=20)(K:List Cf->List Ma->Option (List Cf×List Ma×Int)) :
  ∀(m k:Nat) (cs:List Cf) (all:List Ma),k<=l.length->l.length<m+k->cs.length<=150->all.length<=150*k->(∀c∈cs,CB l r.fa k c)->(∀d∈all,maOk d=true)->(wiP 150 r.fa l (l.drop k) cs (setL B7 all)).2.2=true ->
   ∃f b,Hz N0 l r K m (cs,(k:Int),all)=K f b/\wiP 150 r.fa l (l.drop k) cs (setL B7 all)=(f,setL B7 b,true)/\(∀d∈b,maOk d=true)/\b.length<=4096/\f.length<=150/\(setL B7 b).length<=max 150 (setL B7 all).length/\(∀c∈f,CB l r.fa l.length c)
 |0,k,cs,all,h1,h2,B,H,p,A,j=>by omega
 |m+1,k,cs,all,h1,h2,B,H,p,A,j=>by
  unfold Hz;simp only[aA,A4];by_cases h:k<l.length
  ·have z:=aC h;have u:∀y∈l,Bn y=Bn l[k]->y=l[k]:=λy C I=>by
    have M:=zop g C;have L:=zop g z;simp_all
   rw[B6 _ k h]at j ⊢;unfold wiP at j ⊢;have eM:puts B7 (setL B7 all) (maN r.fa l cs l[k])=setL B7 (all++maN r.fa l cs l[k]):=by unfold setL;rw[<-Xz]
   have G:=y8o (maN r.fa l cs l[k]) (setL B7 all) (Tx Dp _) (Tx Dp _);by_cases q:150<(cfN r.fa l cs l[k]).length\/150<(puts B7 (setL B7 all) (maN r.fa l cs l[k])).length
   ·rw[if_pos q]at j;cases j
   rw[if_neg q]at j ⊢;have o:=y7r t Ω p l[k];rw[if_pos Ω,Ae h,y2s t hm Ω u n cs p Ω,A0];have D:aS .i64 (((all.length:Nat):Int)+(((maN r.fa l cs l[k]).length:Nat):Int))=((all.length+(maN r.fa l cs l[k]).length:Nat):Int):=by rw[Cl _ Ω];omega
   simp only[Ay,Ak,Ka,Aj,A4];rw[if_neg Ω,if_neg Ω,D,if_neg Ω,Bo Ω Ω,Af k Ω];rw[eM]at j ⊢;obtain⟨f,b,V,U,T,S,R,Q,O⟩:=zxz t hm g n E K m (k+1) (cfN r.fa l cs l[k]) (all++maN r.fa l cs l[k]) Ω Ω Ω (by rw[aL];omega) (zzm t g p z) (λd J=>by
    grind) j
   grind
  ·rw[if_neg Ω];have F:k=l.length:=Ω
   rw[aB Ω];exact⟨cs,all,rfl,rfl,A,Ω,B,Ω,by rw[<-F];exact p⟩
theorem y22 (a:Aut)(g:WfA a)(l:List Ev):∃b:Bool,Rv N0 a l=some b/\(b=true->FewA a/\l.length<=12/\∃q:Int,Hj N0 a l=some q/\(q=0->(wiP 150 a l l [cf0] []).2.2=true)):=by
 obtain⟨b,A,z⟩:=y2j a g;unfold Rv;simp only[Ay,Ak,Lh];rw[A,A0,ybk N0 l Θ,Ar,A0];cases b with
 |false=>rw[Al,Aj];simp_all
 |true =>
  rw[Aj];cases j:fewE l with
  |false=>simp only[aR,Aj];simp_all
  |true =>
   simp only[aU,Al];obtain⟨B,_⟩:=y6k j;obtain⟨q,t,p⟩:=zw7 a g l Ω;rw[t,A0,Ar,A4];rcases p with⟨h,_⟩|⟨h,u,hs,_,_,_⟩
   ·simp_all
   ·have o:=z rfl;have f:CxA a l:=⟨g,u,λx f=>by have:=o.2 x f;omega,Ω⟩;have n:=y23 f hs.st (by have:=o.1;omega) 150 Ω Ω Ω;have y:((150:Nat):Int)=150:=rfl;rw[y]at n;rw[if_pos h,n,A0];simp_all
variable {h1 h2:List Ev}
theorem zk6:∀(l:List Bd) (vs:List (List Ev)),(∀b∈l,lkH h1 b.fRef=lkH h2 b.fRef)->l.foldl (addB h1) vs=l.foldl (addB h2) vs
 |[],vs,_=>rfl
 |b::l,vs,h=>by
  rw[aQ,aQ];have:addB h1 vs b=addB h2 vs b:=by unfold addB;rw[h b Δ]
  rw[this];exact zk6 l _ (λx f=>h x (aJ _ f))
theorem zkd {l:List Bd}(h:∀b∈l,lkH h1 b.fRef=lkH h2 b.fRef):enH h1 l=enH h2 l:=zk6 l _ h
theorem y43 (h:∀b∈c.fBindings,lkH h1 b.fRef=lkH h2 b.fRef)(x:Ed)(e:Ev):coP a h1 c x e=coP a h2 c x e:=by
 have g:enH (e::h1) (bdN c x e)=enH (e::h2) (bdN c x e):=zkd (λb f=>by
  unfold lkH;rw[bI,bI];by_cases q:Bn e=b.fRef
  ·simp[q]
  ·simp only[q,decide_false];rcases aO.1 f with f|f
   ·exact h b f
   ·rw[aG.1 f]at q;exact absurd rfl q)
 unfold coP;rw[zkd h,g]
theorem zn5 (h:∀b∈c.fBindings,lkH h1 b.fRef=lkH h2 b.fRef)(e:Ev):outP a h1 c e=outP a h2 c e:=by
 unfold outP skP;rw[zkd h];congr 1;exact congrArg (λf=>filterMap f (Fy a c.fState)) (funext λx=>y43 h x e)
theorem zgs {f g:α->List β}:∀{l:List α},(∀x∈l,f x=g x)->l.flatMap f=l.flatMap g
 |[],_=>rfl
 |x::l,h=>by rw[bC,bC,h x Δ,zgs (λy b=>h y (aJ _ b))]
theorem zuk {l:List Cf}(h:∀c∈l,∀b∈c.fBindings,lkH h1 b.fRef=lkH h2 b.fRef)(e:Ev):cfN a h1 l e=cfN a h2 l e:=by
 unfold cfN;rw[zgs (λc f=>by rw[zn5 (h c f) e])]
theorem y34 {l:List Cf}(h:∀c∈l,∀b∈c.fBindings,lkH h1 b.fRef=lkH h2 b.fRef)(e:Ev):maN a h1 l e=maN a h2 l e:=by
 unfold maN;rw[zgs (λc f=>by rw[zn5 (h c f) e])]
variable {more:List Ev}
theorem y9p {l:List Ev}(hs:Str Ce more)(hm:∀x∈l,x∈more){r:Rf}(h:(lkH l r).isSome=true):lkH l r=lkH more r:=by
 obtain⟨y,b⟩:=bD.1 h;obtain⟨h1,h2⟩:=zwe b;have:=zop hs (hm y h2);rw[h1]at this;rw[b,this]
theorem ych {l:List Ev}(hs:Str Ce more)(hm:∀x∈l,x∈more){cs:List Cf}(f:∀c∈cs,CB l a k c):∀c∈cs,∀b∈c.fBindings,lkH l b.fRef=lkH more b.fRef:=λc h b g=>y9p hs hm ((f c h).bd b g).2
theorem zxj {l:List Ev}(g:CxA a l)(b:Str Ce l)(hs:Str Ce more)(hm:∀x∈l,x∈more):∀(r:List Ev) (k:Nat) (cs:List Cf) (f:List Ma),(∀e∈r,e∈l)->(∀c∈cs,CB l a k c)->wiP 150 a l r cs f=wiP 150 a more r cs f
 |[],k,cs,f,_,_=>rfl
 |e::r,k,cs,f,h,j=>by
  have q:=ych hs hm j;unfold wiP;rw[zuk q,y34 q];split
  ·rfl
  ·refine zxj g b hs hm r (k+1) _ _ (λx g=>h x (aJ _ g)) ?_;rw[<-zuk q];exact zzm g b j (h e Δ)
structure CIv (a:Aut) (rest:List Ev) (c:Cf):Prop where
 asc:c.fBindings.Pairwise (λx y=>rCmp x.fRef y.fRef<0)
 bef:∀b∈c.fBindings,∀e∈rest,rCmp b.fRef (Bn e)<0
 scp:∀s∈c.fStarts,(0<=s.fScope/\s.fScope<a.fScopes)/\0<=s.fTime/\s.fTime<=1099511627776
theorem CIv.tail {r:List Ev}(h:CIv a (e::r) c):CIv a r c:=⟨h.asc,λb g x f=>h.bef b g x (aJ _ f),h.scp⟩
theorem ycc (A:AOk a){held:List Ev}{r:List Ev}(n:Str Ce (e::r))(j:D6 e=true)(h:CIv a (e::r) c)(u:x∈a.fEdges)(z:coP a held c x e=some d):CIv a r d:=by
 rw[ziq z];obtain⟨p,B⟩:=bS.1 n;refine⟨?_,λb f y g=>?_,λs hs=>?_⟩
 ·show Pairwise _ (bdN c x e);unfold bdN;rw[pairwise_append];exact⟨h.asc,pairwise_singleton _ _,λb f y g=>by rw[aG.1 g];exact h.bef b f e Δ⟩
 ·rcases aO.1 f with f|f
  ·exact h.bef b f y (aJ _ g)
  ·rw[aG.1 f];exact p y g
 ·have o:=(bH.1 hs).1;rcases opL_mem e.fTime x.fOpens o with⟨t,q⟩|k
  ·refine⟨(A.ed x u).opn _ t,?_⟩;rw[q];unfold D6 at j;simp only[cL,decide_eq_true_eq]at j;exact⟨j.1,j.2.1⟩
  ·exact h.scp s k
theorem y9f (n:AOk a){held:List Ev}{r:List Ev}(f:Str Ce (e::r))(j:D6 e=true)(h:CIv a (e::r) c)(b:d∈outP a held c e):CIv a r d:=by
 unfold outP at b;rcases aO.1 b with b|b
 ·split at b
  ·rw[aG.1 b];exact h.tail
  ·simp at b
 ·obtain⟨x,g,b⟩:=cF.1 b;exact ycc n f j h (Yc g).1 b
theorem ycg (j:AOk a){held:List Ev}{r:List Ev}(b:Str Ce (e::r))(f:D6 e=true){cs:List Cf}(h:∀c∈cs,CIv a (e::r) c):∀d∈cfN a held cs e,CIv a r d:=λd g=>by
 obtain⟨c,h1,h2,_⟩:=zxa g;exact y9f j b f (h c h1) h2
theorem zxi {held:List Ev}:∀(p:List Ev) (cs:List Cf) (b:List Ma),(wiP 150 a held (p++[e]) cs b).2.2=true->∃x m,wiP 150 a held p cs b=(x,m,true)/\wiP 150 a held (p++[e]) cs b=(cfN a held x e,puts B7 m (maN a held x e),true)/\(cfN a held x e).length<=150/\(puts B7 m (maN a held x e)).length<=150
 |[],cs,b,h=>by
  refine⟨cs,b,rfl,?_⟩;rw[bX]at h ⊢;unfold wiP at h ⊢;split at h
  ·cases h
  ·rename_i q;rw[if_neg q];exact⟨rfl,Ω,Ω⟩
 |f::p,cs,b,h=>by
  rw[cons_append]at h ⊢;unfold wiP at h ⊢;split at h
  ·cases h
  ·rename_i q;rw[if_neg q,if_neg q];exact zxi p _ _ h
theorem y48:∀(l p r:List Ev),chk p (l++r)=0->chk p l=0
 |[],p,r,_=>by unfold chk;rfl
 |e::l,p,r,h=>by
  rw[cons_append]at h;unfold chk at h ⊢;split at h
  ·cases h
  split at h
  ·cases h
  split at h
  ·cases h
  rename_i h1 h2 b;rw[if_neg h1,if_neg h2,if_neg b];exact y48 l (e::p) r h
theorem zzt {l r:List Ev}(h:De (l++r)=0):De l=0:=by
 unfold De at h ⊢;split at h
 ·cases h
 ·rename_i q;rw[aL]at q;rw[if_neg Ω];exact y48 l [] r h
structure GS (a:Aut) (l:List Ev):Prop where
 wf:WfA a
 few:FewA a
 ok:AOk a
 chk:Ff N0 a=some 0
 acheck:Cp N0 a=some 0
 str:De l=0
 len:l.length<=12
 sm:(wiP 150 a l l [cf0] []).2.2=true
theorem GS.so {l:List Ev}(h:GS a l):yah l:=zel h.str
theorem GS.cx {l:List Ev}(h:GS a l):CxA a l:=⟨h.wf,h.ok,λx b=>by have:=h.few.2 x b;omega,by have:=h.len;omega⟩
theorem GS.pre {l:List Ev}(h:GS a l)(i:Nat):De (l.take i)=0:=by
 have:=h.str;rw[<-bU i l]at this;exact zzt this
theorem GS.cxp {l:List Ev}(h:GS a l)(i:Nat):CxA a (l.take i):=⟨h.wf,h.ok,λx b=>by have:=h.few.2 x b;omega,by have:=h.len;rw[bQ];omega⟩
theorem GS.edges {l:List Ev}(h:GS a l):a.fEdges.length<=100:=by have:=h.few.1;omega
theorem GS.begin {l:List Ev}(h:GS a l)(i:Nat):∃f,HM (l.take i) f/\Gm N0 a (l.take i)=some (some ⟨a,f⟩,0):=by
 have n:=h.len;obtain⟨q,b,g⟩:=zw7 a h.wf (l.take i) (by rw[bQ];omega);have j:q=0:=by
  unfold Hj at b;rw[h.chk,A0,Ar,A4,if_pos rfl,y2a N0 _ (by grind) (by rw[bQ];omega),A0,h.pre i]at b;exact(Option.some.inj b).symm
 simp_all
structure Gd57 (a:Aut) (l:List Ev) (i:Nat) (c:Cf):Prop where
 cb:CB l a (i+20) c
 ci:CIv a (l.drop i) c
theorem CB.mono {l:List Ev}{m:Nat}(h:CB l a k c)(b:k<=m):CB l a m c:=⟨h.st,h.bd,h.ss,bW h.lb b,bW h.ls (Nat.mul_le_mul_left _ b)⟩
theorem gd0 {l:List Ev}(h:GS a l):Gd57 a l 0 cf0:=⟨(cb0 h.ok).mono (aE _),Δ,λb f=>by simp at f,λs hs=>by simp at hs⟩
theorem Gd57.held {l:List Ev}(h:GS a l)(f:Gd57 a l i c):CB (l.take i) a (i+20) c:=by
 refine⟨f.cb.st,λb g=>⟨(f.cb.bd b g).1,?_⟩,f.cb.ss,f.cb.lb,f.cb.ls⟩;have h1:=(f.cb.bd b g).2;rw[<-bU i l,y9q]at h1;cases j:lkH (l.take i) b.fRef with
 |some e=>rfl
 |none =>
  rw[j]at h1;obtain⟨e,n⟩:=bD.1 h1;obtain⟨p,o⟩:=zwe (by simpa using n);have:=f.ci.bef b g e o;rw[p]at this;have:=Yn.lt_ne this;exact absurd rfl this
theorem Gd57.ok {l:List Ev}(h:GS a l)(hi:i<=12)(b:Gd57 a l i c):cfOk c=true:=b.cb.sz.ok Ω
theorem Gd57.cs {l:List Ev}(h:GS a l)(hi:i<=12)(b:Gd57 a l i c):CS (Ig a) c:=by
 have h1:=b.cb.st;have h2:=b.cb.lb;have f:=b.cb.ls;exact⟨by rw[(y75 a).1.len];exact h1,Ω,Ω⟩
theorem yaa {l:List Ev}(hi:i<l.length):l.drop i=l[i]::l.drop (i+1):=aF hi
theorem y52 {l:List Ev}(h:Str Ce l)(i:Nat):Str Ce (l.drop i):=Pairwise.sublist (drop_sublist i l) h
theorem Gd57.next {l:List Ev}(h:GS a l)(hi:i<l.length){cs:List Cf}(j:∀c∈cs,Gd57 a l i c):∀d∈cfN a l cs l[i],Gd57 a l (i+1) d:=λd g=>by
 have so:=h.so;have e:=yaa hi;refine⟨(zzm h.cx so.st (λc b=>(j c b).cb) (aC hi) d g).mono Ω,?_⟩;have f:=y52 so.st i;rw[e]at f;refine ycg h.ok f (so.pl _ (aC hi)) (λc b=>?_) d g;have:=(j c b).ci;rw[e]at this;exact this
theorem Gd57.lk {l:List Ev}(h:GS a l){cs:List Cf}(j:∀c∈cs,Gd57 a l i c):∀c∈cs,∀b∈c.fBindings,lkH (l.take i) b.fRef=lkH l b.fRef :=
 ych h.so.st (λy g=>mem_of_mem_take g) (λc f=>(j c f).held h)
theorem zfg {n:Nat}{l:List α}(h:l.length<=1000000000):C8 n l=some l:=by unfold C8;exact if_pos h
def covd (R:List Mp)(l:List Cf)(d:Cf):Bool:=l.any (λc=>cov R c d)
structure y88 (a:Aut) (l:List Ev) (S:List (List Cf)):Prop where
 ln:S.length=l.length+1
 few:∀i (hi:i<S.length),S[i].length<=4096
 gd:∀i (hi:i<S.length),∀c∈S[i],Gd57 a l i c
theorem y88.cs {l:List Ev}(h:GS a l){S:List (List Cf)}(b:y88 a l S)(hi:i<S.length):∀c∈S[i],CS (Ig a) c:=λc f=>(b.gd i hi c f).cs h (by have:=b.ln;have:=h.len;omega)
abbrev mxT:Int:=1099511627776
theorem zju (n:Nat)(rF:Exn->Option Exn)(ys:List Exn)(b:ys.length<=4000000)(rec:∀y∈ys,rF y=some y):∀(m k:Nat),k<=ys.length->ys.length<m+k->S5 n rF (ys.map Aw) (λy=>some y) m ((k:Int),(ys.map Aw).take k)=some (ys.map Aw)
 |0,k,h1,h2=>by omega
 |m+1,k,h1,h2=>by
  unfold S5;simp only[aA,A4];by_cases h:k<ys.length
  ·have f:k<(ys.map Aw).length:=by simpa using h
   rw[if_pos Ω,y3b h,rec _ (aC h),A0,Bo Ψ Θ,Af k Ω];have e:(ys.map Aw).take k++[Aw ys[k]]=(ys.map Aw).take (k+1):=by
    rw[aH f,cN]
   rw[e];exact zju n rF ys b rec m (k+1) Ω Ω
  ·rw[if_neg Ω,bR Ψ]
theorem zyg:∀(s:Nat) (e:Exn),ETr s e->s<=4000000->∀n,s+4000002<n->Gi n e=some e:=by
 intro s
 induction s using Nat.strongRecOn with
 |ind s IH =>
  intro e q hs n u;cases q with
  |mk l e h t =>
   obtain⟨b,rfl⟩:∃b,n=b + 1:=⟨n-1,Ω⟩;have z:=U3 (l:=l) (λp f=>(h p f).pos);simp only[Gi];unfold z1y;have j:e.fArgs=(l.map (·.2)).map Aw:=by rw[t,cR];rfl
   have g:=zju b (Gi b) (l.map (·.2)) (by rw[aA];omega) (λy o=>by
    obtain⟨p,f,rfl⟩:=cB.1 o;have:=Kd f;exact IH p.1 Ω p.2 (h p f) Ω b Ω) b 0 Ω (by rw[aA];omega)
   simp only[aP,take_zero]at g;rw[j,g,A0,<-j]
theorem zhg (n:Nat)(ys:List Exn)(b:ys.length<=4000000)(rec:∀y∈ys,Gi n y=some y):∀(m k:Nat),k<=ys.length->ys.length<m+k->Px n (ys.map Aw) (λy=>some y) m ((k:Int),(ys.map Aw).take k)=some (ys.map Aw)
 |0,k,h1,h2=>by omega
 |m+1,k,h1,h2=>by
  unfold Px;simp only[aA,A4];by_cases h:k<ys.length
  ·have f:k<(ys.map Aw).length:=by simpa using h
   rw[if_pos Ω,y3b h,rec _ (aC h),A0,Bo Ψ Θ,Af k Ω];have e:(ys.map Aw).take k++[Aw ys[k]]=(ys.map Aw).take (k+1):=by
    rw[aH f,cN]
   rw[e];exact zhg n ys b rec m (k+1) Ω Ω
  ·rw[if_neg Ω,bR Ψ]
theorem y93 (n:Nat)(D:10000000<n)(x:Ed)(b:WfX x):Xn n x=some x:=by
 obtain⟨z,g,o⟩:=b.cond;obtain⟨ys,j,t⟩:=b.checks;have f:=b.lc;have u:ys.length<=1100000:=by rw[j,aA]at f;exact f
 have A:=b.lo;have p:=b.lcl;have C:=b.li;have B:=b.ll;have q:=zhg n ys Ω (λy h=>by
  obtain⟨z,g,o⟩:=t y h;exact zyg z y o g n Ω) n 0 Ω Ω
 simp only[aP,take_zero]at q;unfold Xn z07;rw[zyg z _ o g n Ω,A0,j,q,A0,zfg Ω,A0,zfg Ω,A0,zfg Ω,A0,zfg Ω,A0,<-j]
theorem zn4 (n:Nat)(q:10000000<n)(a:Aut)(o:WfA a)(L:List Int)(u:L.length<=1100000)(p:∀i∈L,∃j:Nat,i=(j:Int)/\j<a.fEdges.length):∀(m k:Nat) (acc:List Ed),k<=L.length->L.length<m+k->acc.length<=k->∃R,Sk n a L (λy=>some (y,0)) m ((k:Int),acc)=some (R,0)/\R.length<=L.length/\∀x,x∈R ↔ x∈acc\/∃i∈L.drop k,∃j:Nat,i=(j:Int)/\a.fEdges[j]? = some x
 |0,k,acc,h1,h2,z=>by omega
 |m+1,k,acc,h1,h2,z=>by
  unfold Sk;simp only[aA,A4];by_cases h:k<L.length
  ·obtain⟨j,g,f⟩:=p L[k] (aC h);have t:a.fEdges[j]? = some a.fEdges[j]:=aD f;rw[if_pos Ω,Ae h,Af k Ω,g,Ae f,y93 n q _ (o.ed _ (aC f)),A0,Bo Ψ Θ,aF h];obtain⟨R,C,B,A⟩:=zn4 n q a o L u p m (k+1) (acc++[a.fEdges[j]]) Ω Ω Ψ;refine⟨R,C,B,λx=>?_⟩;rw[A,aO,aG,or_assoc];simp only[aZ,exists_eq_or_imp];refine or_congr bJ (or_congr ⟨λe=>⟨j,g,by rw[t,e]⟩,λ⟨i,D,b⟩=>?_⟩ bJ);have:i=j:=Ω
   rw[this,t]at b;injection b with b
   exact b.symm
  ·rw[if_neg Ω,aB Ω];exact⟨acc,rfl,Ω,λx=>by simp⟩
theorem y9e (n:Nat)(u:10000000<n)(a:Aut)(p:WfA a)(J:Cp n a=some 0)(i:Nat)(hi:i<a.fStates.length):∃R,Xe n a (i:Int)=some (R,0)/\R.length<=1100000/\∀x,x∈R ↔ x∈a.fEdges/\x.fFrom=(i:Int):=by
 obtain⟨L,B,O,h⟩:=zs4 n u (i:Int) a p.le;have H:=p.le;have G:∀i∈L,∃j:Nat,i=(j:Int)/\j<a.fEdges.length:=λi hi=>by
  obtain⟨j,t,x,g,_⟩:=(h i).1 hi;exact⟨j,t,(List.getElem?_eq_some_iff.1 g).1⟩
 obtain⟨R,A,M,z⟩:=zn4 n u a p L Ω G n 0 [] Ω Ω Δ;unfold Xe;rw[J,A0,Yg,A0];simp only[aA,Ar,A4,if_true];rw[decide_eq_true (by omega:(0:Int)<=(i:Int)),decide_eq_true (by omega:(i:Int)<(a.fStates.length:Int)),Bool.and_self,Aj,B,A0];refine⟨R,A,Ω,λx=>?_⟩;rw[z];simp only[not_mem_nil,false_or,aM];constructor
 ·rintro ⟨E,q,j,t,g⟩;obtain⟨D,C,K,b,o⟩:=(h E).1 q;have:D=j:=Ω
  rw[this,g]at b;injection b with b
  exact⟨mem_of_getElem? g,b▸o⟩
 ·rintro ⟨F,y⟩;obtain⟨j,I,e⟩:=bE.1 F;have f:a.fEdges[j]? = some x:=by rw[aD I,e]
  exact⟨(j:Int),(h _).2 ⟨j,rfl,x,f,y⟩,j,rfl,f⟩
theorem zsa (n:Nat)(s:Int)(l:List C2)(b:l.length<=1000000000):∀(m k:Nat),k<=l.length->l.length<m+k->Ps n s l (some (-1)) m (k:Int)=some (Eb (λy=>decide (y.fScope=s)) k (l.drop k))
 |0,k,h1,h2=>by omega
 |m+1,k,h1,h2=>by
  unfold Ps z2p;simp only[aA,A4];by_cases h:k<l.length
  ·rw[if_pos Ω,Ae h,B6 l k h,I6,A0,Af k Ω,zsa n s l b m (k+1) Ω Ω];rw[A4];grind
  ·rw[if_neg Ω,aB Ω];rfl
def limP (n:Nat)(x:Ed)(s:Int):Int×Bool:=(Nz n x s).getD (0,false)
theorem y2g (n:Nat)(A:10000000<n)(x:Ed)(z:x.fOpens.length<=1100000)(B:x.fLimits.length<=1100000)(s:Int):Nz n x s=some (limP n x s)/\((limP n x s).1=0\/∃l∈x.fLimits,(limP n x s).1=l.fSpan)/\((limP n x s).2=true->∃l∈x.fLimits,l.fScope=s/\¬s∈x.fOpens):=by
 have g:=zsa n s x.fLimits Ω n 0 Ω Ω;simp only[aP,aM,I5]at g;have key:∃r,Nz n x s=some r/\(r.1=0\/∃l∈x.fLimits,r.1=l.fSpan)/\(r.2=true->∃l∈x.fLimits,l.fScope=s/\¬s∈x.fOpens):=by
  unfold Nz z02;rw[g,A0];simp only[Ay,Ak,Nl,A4,I4 n s x.fOpens Ω Ω,A0];by_cases q:fidx (λy=>decide (y.fScope=s)) x.fLimits<0
  ·rw[if_pos q,Aj];exact⟨_,rfl,aN rfl,λh=>by cases h⟩
  ·rw[if_neg q];cases e:(x.fOpens.any λy=>decide (s=y))with
   |true=>rw[Aj];exact⟨_,rfl,aN rfl,λh=>by cases h⟩
   |false =>
    rw[Al];unfold fidx at q ⊢;cases o:x.fLimits.findIdx? (λy=>decide (y.fScope=s))with
    |none=>rw[o]at q;exact absurd Δ q
    |some j =>
     obtain⟨b,u⟩:=bN.1 o;simp only;rw[Ae b];refine⟨_,rfl,aK ⟨_,aC b,rfl⟩,λ_=>⟨_,aC b,by simpa using u.1,λhm=>?_⟩⟩;have:=any_eq_false.1 e s hm;simp at this
 obtain⟨r,f,t,p⟩:=key;have:limP n x s=r:=by unfold limP;rw[f];rfl
 rw[this];exact⟨f,t,p⟩
def lmS (n:Nat)(s:Int)(z:Int×Bool)(x:Ed):Int×Bool:=(max z.1 (limP n x s).1,z.2 && (limP n x s).2)
def P3 (n:Nat)(l:List Ed)(s:Int):Int×Bool:=l.foldl (lmS n s) (0,true)
structure LimR (x:Ed):Prop where
 o:x.fOpens.length<=1100000
 l:x.fLimits.length<=1100000
 s:∀l∈x.fLimits,0<=l.fSpan/\l.fSpan<=mxT
theorem LimR.lim (h:LimR x)(n:Nat)(b:10000000<n)(s:Int):0<=(limP n x s).1/\(limP n x s).1<=mxT:=by
 rcases(y2g n b x h.o h.l s).2.1 with e|⟨l,f,e⟩
 ·rw[e];exact⟨Ω,Θ⟩
 ·rw[e];exact h.s l f
theorem ybz (n:Nat)(u:10000000<n)(s:Int)(l:List Ed)(h:∀x∈l,LimR x)(z:Int×Bool)(t:0<=z.1/\z.1<=mxT):(0<=(l.foldl (lmS n s) z).1/\(l.foldl (lmS n s) z).1<=mxT)/\((l.foldl (lmS n s) z).2=true->z.2=true/\∀x∈l,(limP n x s).2=true):=by
 induction l generalizing z with
 |nil=>exact⟨t,λh=>⟨h,Δ⟩⟩
 |cons x r j =>
  have h1:=(h x Δ).lim n u s;rw[aQ];obtain⟨p,o⟩:=j (λy f=>h y (aJ _ f)) (lmS n s z x) (by unfold lmS;simp only;omega);refine⟨p,λq=>?_⟩;obtain⟨b,g⟩:=o q;unfold lmS at b;simp only[cL]at b;exact⟨b.1,λy f=>(aZ.1 f).elim (λe=>e▸b.2) (g y)⟩
theorem zyn (n:Nat)(j:10000000<n)(l:List Ed)(q:l.length<=1100000)(h:∀x∈l,LimR x)(V:Int×Bool×Mp)(p:Int×Bool)(r:Mp)(K:Int->Bool->Mp->Option (Int×Bool)):∀(m k:Nat) (z:Int×Bool),k<=l.length->l.length<m+k->Ns n l V p r K m (z.1,z.2,(k:Int))=K ((l.drop k).foldl (lmS n p.1) z).1 ((l.drop k).foldl (lmS n p.1) z).2 r
 |0,k,z,h1,h2=>by omega
 |m+1,k,z,h1,h2=>by
  unfold Ns;simp only[aA,Ak];rw[A4];by_cases f:k<l.length
  ·have g:=h _ (aC f);rw[if_pos Ω,Ae f,(y2g n j _ g.o g.l p.1).1,A0,Af k Ω,aF f,aQ];have b:=zyn n j l q h V p r K m (k+1) (lmS n p.1 z l[k]) Ω Ω;unfold lmS at b;simp only at b;unfold lmS;obtain⟨t,o⟩:=z;cases o with
   |true=>rw[Aj];simpa using b
   |false=>rw[Al];simpa using b
  ·rw[if_neg Ω,aB Ω];rfl
def agS (n:Nat)(l:List Ed)(z:Int×Bool)(p:Int×Bool):Int×Bool:=if(P3 n l p.1).2=true/\(z.2=false\/(P3 n l p.1).1<z.1)then((P3 n l p.1).1,true)else z
theorem y77 (n:Nat)(l:List Ed)(z x y:Int×Bool):agS n l (agS n l z x) y=agS n l (agS n l z y) x:=by
 unfold agS;generalize P3 n l x.1=p;generalize P3 n l y.1=q;obtain⟨h,b⟩:=z;obtain⟨o,g⟩:=p;obtain⟨j,f⟩:=q;cases g<;>cases f<;>cases b<;>simp<;>grind
theorem zyo (n:Nat)(o:10000000<n)(l:List Ed)(t:l.length<=1100000)(h:∀x∈l,LimR x):∀(m:Nat) (rem:Mp) (z:Int×Bool),rem.length<m->Hw n l (λy z=>some (y,z)) m (z.1,z.2,rem)=some (rem.foldl (agS n l) z)
 |0,rem,z,h1=>by omega
 |m+1,rem,z,h1=>by
  unfold Hw;simp only[Ak];by_cases e:rem=[]
  ·subst e;rw[zoh];rfl
  ·have g:∀(x y:Option (Int×Bool)),nxt rem x y=y:=λx y=>by
    cases rem with
    |nil=>exact absurd rfl e
    |cons p r=>exact zid p r x y
   rw[g];refine zi7 e λj u=>?_
   have h2:=λK=>zyn n o l t h (z.1,z.2,rem) rem[j] (rem.eraseIdx j) K n 0 (0,true) Ω Ω
   simp only[aP,aM]at h2;rw[h2];have b:(rem.eraseIdx j).length<m:=by rw[aW u];omega
   have D:(rem[j]::rem.eraseIdx j).Perm rem:=Ob u;have E:=Perm.foldl_eq' (f:=agS n l) D (λx _ y _ z=>y77 n l z x y) z;rw[<-E,aQ];have C:=zyo n o l t h m (rem.eraseIdx j) (agS n l z rem[j]) b;rw[<-C];unfold agS P3;obtain⟨B,A⟩:=z;simp only[Ar];cases F:(l.foldl (lmS n rem[j].1) (0,true)).2 with
   |false=>rw[Al];simp
   |true =>
    rw[Aj];cases A with
    |false=>rw[Al];simp
    |true =>
     rw[Aj,A4];by_cases q:(l.foldl (lmS n rem[j].1) (0,true)).1<B
     ·rw[if_pos q];simp[q]
     ·rw[if_neg q];simp[q]
theorem ycn (n:Nat)(j:10000000<n)(l:List Ed)(h:∀x∈l,LimR x)(rem:Mp)(z:Int×Bool)(f:0<=z.1/\z.1<=mxT):(0<=(rem.foldl (agS n l) z).1/\(rem.foldl (agS n l) z).1<=mxT)/\((rem.foldl (agS n l) z).2=true->z.2=true\/∃s,∀x∈l,(limP n x s).2=true):=by
 induction rem generalizing z with
 |nil=>exact⟨f,aN⟩
 |cons p r b =>
  have hm:=ybz n j p.1 l h (0,true) ⟨Θ,Θ⟩;rw[aQ];unfold agS;split
  ·rename_i q;obtain⟨g,o⟩:=b ((P3 n l p.1).1,true) hm.1;exact⟨g,λ_=>aK ⟨p.1,(hm.2 q.1).2⟩⟩
  ·exact b z f
theorem yd8 (n:Nat)(b:10000000<n)(l:List Ed)(j:l.length<=1100000)(h:∀x∈l,LimR x)(M:Mp)(o:M.length<n):∃r,z6d n l M=some r/\(0<=r.1/\r.1<=mxT)/\(r.2=true->∃s,∀x∈l,(limP n x s).2=true):=by
 refine⟨_,zyo n b l j h n M (0,false) o,?_⟩;obtain⟨g,f⟩:=ycn n b l h M (0,false) ⟨Θ,Θ⟩;exact⟨g,λq=>(f q).resolve_left Δ⟩
def Bdd (n:Nat)(a:Aut)(t:Int):Prop:=∃s,∀x∈a.fEdges,x.fFrom=t->(limP n x s).2=true
structure AgOk (n:Nat) (a:Aut) (p:Cg) (k:Nat) (ag:List Int) (bd:List Bool):Prop where
 l1:ag.length=a.fStates.length
 l2:bd.length=a.fStates.length
 rng:∀v∈ag,0<=v/\v<=mxT
 bdd:∀i:Nat,i<k->has p.finner (i:Int)->bd[i]? = some true->Bdd n a (i:Int)
theorem zjw (n:Nat)(A:10000000<n)(a:Aut)(h:AutR a)(C:WfA a)(F:Cp n a=some 0)(p:Cg)(D:PtOk a p)(out:List Mp)(E:F9 a.fStates.length out)(g:∀M∈out,M.length<n):∀(m k:Nat) (ag:List Int) (bd:List Bool),k<=a.fStates.length->a.fStates.length<m+k->AgOk n a p k ag bd->∃t q,Nn n a p out (λy z=>some (y,z,0)) m ((k:Int),ag,bd)=some (t,q,0)/\AgOk n a p a.fStates.length t q
 |0,k,ag,bd,h1,h2,f=>by omega
 |m+1,k,ag,bd,h1,h2,f=>by
  unfold Nn;simp only[aA,Ak];rw[A4];have S:=h.st;have I:=f.l1;have H:=f.l2;by_cases K:k<a.fStates.length
  ·rw[if_pos Ω,Cs Ω,E7 Ω,Oy,Af k Ω];cases J:(mlk p.finner (k:Int)).getD false with
   |false =>
    rw[Al];refine zjw n A a h C F p D out E g m (k+1) ag _ Ω Ω ⟨I,by rw[aT];exact H,f.rng,λi hi u b=>?_⟩;by_cases e:i=k
    ·subst e;rw[(D.i.get _).2 u]at J;cases J
    ·rw[bZ Ω]at b;exact f.bdd i Ω u b
   |true =>
    obtain⟨R,O,L,G⟩:=y9e n A a C F k K;have o:k<out.length:=by rw[E.len];exact K
    have U:∀x∈R,LimR x:=λx B=>by
     have j:=((G x).1 B).1;have:=h.lo x j;exact⟨this.1,this.2.2.2,h.sp x j⟩
    obtain⟨r,X,W,V⟩:=yd8 n A R L U out[k] (g _ (aC o));rw[Aj,O,A0,Ae o,X,A0,Cs Ω,E7 Ω,Cs (by rw[aT];omega),E7 (by rw[aT];omega)];refine zjw n A a h C F p D out E g m (k+1) _ _ Ω Ω ⟨by rw[aT];exact I,by rw[aT,aT];exact H,λv Q=>(aY Q).elim (f.rng v) (λe=>e▸W),λi hi u b=>?_⟩;by_cases e:i=k
    ·subst e;rw[getElem?_set_self (by rw[aT];omega)]at b;injection b with b
     obtain⟨s,hs⟩:=V b;exact⟨s,λx B T=>hs x ((G x).2 ⟨B,T⟩)⟩
    ·rw[bZ Ω,bZ Ω]at b;exact f.bdd i Ω u b
  ·rw[if_neg Ω];have e:k=a.fStates.length:=Ω
   subst e;exact⟨ag,bd,rfl,f⟩
def lsS (rate:Int)(ag:List Int)(z:Int)(p:Int×Bool):Int:=max z (aS .i64 (rate*aS .i64 (ag.getD p.1.toNat 0+1)))
theorem y68 (rate:Int)(ag:List Int)(z:Int)(x y:Int×Bool):lsS rate ag (lsS rate ag z x) y=lsS rate ag (lsS rate ag z y) x:=by
 unfold lsS;omega
theorem zmw (n:Nat)(rate:Int)(ag:List Int)(bd:List Bool)(N:Nat)(L:ag.length=N)(K:bd.length=N):∀(m:Nat) (rem:Mp) (z:Int),rem.length<m->(∀t,has rem t->0<=t/\t.toNat<N)->T4 n rate (ag,bd,0) (λy=>some (y,true)) m (z,rem)=some (if∀p∈rem,bd[p.1.toNat]? = some true then(rem.foldl (lsS rate ag) z,true)else(0,false))
 |0,rem,z,h1,h2=>by omega
 |m+1,rem,z,h1,h2=>by
  unfold T4;simp only[Ak];by_cases e:rem=[]
  ·subst e;rw[zoh];simp
  ·have B:∀(x y:Option (Int×Bool)),nxt rem x y=y:=λx y=>by
    cases rem with
    |nil=>exact absurd rfl e
    |cons p r=>exact zid p r x y
   rw[B];refine zi7 e λj C=>?_
   have h:(rem[j]::rem.eraseIdx j).Perm rem:=Ob C;have u:=Perm.foldl_eq' (f:=lsS rate ag) h (λx _ y _ z=>y68 rate ag z x y) z;have E:=h2 rem[j].1 ((zif h _).1 ((Gs _ _ _).2 (aN rfl)));have D:rem[j].1.toNat<bd.length:=Ω
   have G:rem[j].1.toNat<ag.length:=Ω
   have b:(∀p∈rem,bd[p.1.toNat]? = some true) ↔ bd[rem[j].1.toNat]=true/\∀p∈rem.eraseIdx j,bd[p.1.toNat]? = some true:=by
    constructor
    ·intro q;refine⟨?_,λp g=>q p (h.mem_iff.1 (aJ _ g))⟩;have:=q rem[j] (aC C);rw[aD D]at this;injection this
    ·rintro ⟨I,H⟩ p g;rcases aZ.1 (h.mem_iff.2 g)with e|e
     ·rw[e,aD D,I]
     ·exact H p e
   rw[Ov E.1 D,Ar];cases F:bd[rem[j].1.toNat]with
   |false =>
    rw[Al,if_neg (λq=>by have:=(b.1 q).1;rw[F]at this;cases this)]
   |true =>
    rw[Aj,Ov E.1 G];have o:(rem.eraseIdx j).length<m:=by rw[aW C];omega
    have A:=zmw n rate ag bd N L K m (rem.eraseIdx j) (lsS rate ag z rem[j]) o (λt q=>h2 t ((zif h _).1 ((Gs _ _ _).2 (aK q))));unfold lsS at A u ⊢;rw[aQ]at u;rw[cA,aD G,Option.getD_some]at A u;rw[A,<-u];refine congrArg some ?_;by_cases q:∀p∈rem.eraseIdx j,bd[p.1.toNat]? = some true
    ·rw[if_pos q,if_pos (b.2 ⟨F,q⟩)]
    ·rw[if_neg q,if_neg (λJ=>q (b.1 J).2)]
end Go.Proofs.YthbogefcfhmpgaaGreat
