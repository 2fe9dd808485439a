/- Layer 56, plainly. -/
import Derived.Test.YthbogefcfhmpgaaGreatK22
set_option linter.unusedVariables false
set_option linter.unusedSimpArgs false
namespace Go.Proofs.YthbogefcfhmpgaaGreat
open Go.RowKit List
open List renaming length_map->aA,drop_eq_getElem_cons->aB,mem_singleton->aC,drop_eq_nil_of_le->aD,getElem_mem->aF,getElem?_eq_getElem->aG,mem_append->aJ,mem_cons_of_mem->aK,mem_cons->aN,mem_filter->aV,length_eraseIdx_of_lt->aW,mem_or_eq_of_mem_set->aX,replicate->aY,eq_of_mem_replicate->bA,nodup_cons->bB,getElem?_replicate->bC,length_set->bD,map_cons->bE,getElem_cons_zero->bF,getElem_cons_succ->bG,getElem?_set->bH,drop_zero->bI,countP_le_length->bJ,length_filter_le->bK,length_singleton->bL,length_nil->bM
open Or renaming inr->aE,inl->aH
open Nat renaming zero_le->aL,le_refl->aP,le_trans->aU
open Int renaming natCast_zero->aM,toNat_natCast->aR,toNat_of_nonneg->aZ
open Bool renaming not_false->aO,not_true->aS
open Iff renaming rfl->aQ
open Option renaming isSome_iff_exists->aT
theorem Ko {α:Type}[DecidableEq α]:∀ {l l':List α},l.Nodup->(∀ x∈l,x∈l')->l.length<=l'.length
 |[],l',_,_=>aL _
 |a::l,l',h,hs=>by
  have ha:=hs a (by simp)
  have:=Ko (l:=l) (l':=l'.erase a) (bB.1 h).2 (fun x hx=>(mem_erase_of_ne (fun (e:x=a)=>(bB.1 h).1 (e▸hx))).2 (hs x (aK _ hx)))
  rw [length_erase_of_mem ha] at this
  have:=length_pos_of_mem ha
  simp only [length_cons];omega
structure MK (l:Mp):Prop where
 nd:(l.map (·.1)).Nodup
 tr:∀ p∈l,p.2=true
theorem MK.nil:MK []:=⟨List.nodup_nil,by simp⟩
theorem Dl (v:Int):¬has ([]:Mp) v:=by simp [has]
theorem Gu (p:Int×Bool)(r:Mp)(v:Int):has (p::r) v ↔ v=p.1\/has r v:=by simp [has]
variable {l:Mp}
theorem zui {v:Int}(h:¬has l v):mlk l v=none:=by
 induction l with
 |nil=>rfl
 |cons p r ih =>
  obtain ⟨a,b⟩:=p
  rw [Gu,not_or] at h
  unfold mlk
  rw [if_neg h.1]
  exact ih h.2
theorem MK.tail {p:Int×Bool}{r:Mp}(h:MK (p::r)):MK r:=⟨(bB.1 h.nd).2,fun q hq=>h.tr q (aK _ hq)⟩
theorem MK.some (h:MK l){v:Int}(q:has l v):mlk l v=some true:=by
 induction l with
 |nil=>exact absurd q (Dl v)
 |cons p r ih =>
  have hb:=h.tr p (by simp)
  have ht:=h.tail
  obtain ⟨a,b⟩:=p
  unfold mlk
  by_cases e:v=a
  ·rw [if_pos e];simp only at hb;rw [hb]
  ·rw [if_neg e]
   exact ih ht (((Gu _ _ _).1 q).resolve_left e)
theorem MK.get (h:MK l)(v:Int):(mlk l v).getD false=true ↔ has l v:=by
 by_cases q:has l v
 ·rw [h.some q];simp [q]
 ·rw [zui q];simp [q]
theorem zlr {k:Int}(h:¬has l k):mput l k true=l++[(k,true)]:=by
 induction l with
 |nil=>rfl
 |cons p r ih =>
  obtain ⟨a,b⟩:=p
  rw [Gu,not_or] at h
  unfold mput
  rw [if_neg h.1,ih h.2]
  rfl
theorem MK.put_in (h:MK l){k:Int}(q:has l k):mput l k true=l:=by
 induction l with
 |nil=>exact absurd q (Dl k)
 |cons p r ih =>
  have hb:=h.tr p (by simp)
  have ht:=h.tail
  obtain ⟨a,b⟩:=p
  unfold mput
  simp only at hb
  by_cases e:k=a
  ·rw [if_pos e,hb,e]
  ·rw [if_neg e,ih ht (((Gu _ _ _).1 q).resolve_left e)]
theorem MK.has_put (h:MK l)(k v:Int):has (mput l k true) v ↔ v=k\/has l v:=by
 by_cases q:has l k
 ·rw [h.put_in q]
  exact ⟨aE,fun e=>e.elim (fun e=>e▸q) id⟩
 ·rw [zlr q]
  simp only [has,map_append,aJ,bE,map_nil,aC]
  exact Or.comm
theorem MK.put (h:MK l)(k:Int):MK (mput l k true):=by
 by_cases q:has l k
 ·rw [h.put_in q];exact h
 ·rw [zlr q]
  refine ⟨?_,fun p hp=>?_⟩
  ·rw [map_append,nodup_append]
   refine ⟨h.nd,by simp,fun a ha b hb=>?_⟩
   simp only [bE,map_nil,aC] at hb
   rw [hb]
   exact fun e=>q (e▸ha)
  ·rcases aJ.1 hp with hp|hp
   ·exact h.tr p hp
   ·rw [aC] at hp;rw [hp]
instance decHas (l:Mp)(v:Int):Decidable (has l v):=inferInstanceAs (Decidable (v∈l.map (·.1)))
theorem MK.put_len (h:MK l)(k:Int):(mput l k true).length=if has l k then l.length else l.length+1:=by
 by_cases q:has l k
 ·rw [h.put_in q,if_pos q]
 ·rw [zlr q,if_neg q];simp
theorem MK.perm {l':Mp}(h:MK l)(p:l.Perm l'):MK l':=⟨((p.map _).nodup_iff).1 h.nd,fun q hq=>h.tr q (p.mem_iff.2 hq)⟩
theorem V2 {l':Mp}(p:l.Perm l')(v:Int):has l v ↔ has l' v:=(p.map _).mem_iff
theorem MK.out (h:MK l){j:Nat}(hj:j<l.length):MK (l.eraseIdx j)/\¬has (l.eraseIdx j) l[j].1/\∀ v,has l v ↔ v=l[j].1\/has (l.eraseIdx j) v:=by
 have p:(l[j]::l.eraseIdx j).Perm l:=Nr hj
 have h':=h.perm p.symm
 refine ⟨h'.tail,fun q=>(bB.1 h'.nd).1 q,fun v=>?_⟩
 rw [<-Gu]
 exact V2 p.symm v
theorem zq7 {l':Mp}(h:Srt l)(h':Srt l')(t:∀ p∈l,p.2=true)(t':∀ p∈l',p.2=true)(hk:∀ x,has l x ↔ has l' x):l=l':=by
 have s1:Str cmpI (l.map (·.1)):=h.imp (fun q=>(zgs _ _).2 q)
 have s2:Str cmpI (l'.map (·.1)):=h'.imp (fun q=>(zgs _ _).2 q)
 have e:=Str.uniq Kq s1 s2 hk
 have f:∀ q:Mp,(∀ p∈q,p.2=true)->q=(q.map (·.1)).map (fun x=>(x,true)):=fun q hq=>by
  rw [map_map]
  conv=>lhs;rw [<-map_id q]
  exact map_congr_left (fun p hp=>by have:=hq p hp;cases p;simp_all)
 rw [f l t,f l' t',e]
theorem MK.sort (h:MK l):MK (Cj l)/\Srt (Cj l)/\(Cj l).length=l.length/\∀ v,has (Cj l) v ↔ has l v :=
 ⟨h.perm (Nq h.nd).symm,Xv l,(Nq h.nd).length_eq,V2 (Nq h.nd)⟩
theorem Zz (n:Nat)(s:Int)(a:Aut)(hl:a.fEdges.length<=1100000):∀ (m k:Nat) (acc:List Int),k<=a.fEdges.length->a.fEdges.length<m+k->acc.length<=k->∃ L,Mn n s a (fun y=>some y) m ((k:Int),acc)=some L/\L.length<=a.fEdges.length/\∀ i:Int,i∈L ↔ i∈acc\/∃ j:Nat,k<=j/\i=(j:Int)/\∃ x,a.fEdges[j]? = some x/\x.fFrom=s
 |0,k,acc,h1,h2,h3=>by omega
 |m+1,k,acc,h1,h2,h3=>by
  unfold Mn
  simp only [aA,A3,Aa]
  by_cases h:k<a.fEdges.length
  ·rw [if_pos (by omega),Ad h,Ae k (by omega)]
   have hk:a.fEdges[k]? = some a.fEdges[k]:=aG h
   by_cases q:a.fEdges[k].fFrom=s
   ·rw [if_pos q,Bs (by simp;omega) (by decide)]
    obtain ⟨L,e1,e2,e3⟩:=Zz n s a hl m (k+1) (acc++[(k:Int)]) (by omega) (by omega) (by simp;omega)
    refine ⟨L,e1,e2,fun i=>?_⟩
    rw [e3,aJ,aC]
    constructor
    ·rintro ((h|h)|⟨j,j1,j2⟩)
     ·exact aH h
     ·exact aE ⟨k,aP _,h,_,hk,q⟩
     ·exact aE ⟨j,by omega,j2⟩
    ·rintro (h|⟨j,j1,j2,j3⟩)
     ·exact aH (aH h)
     ·by_cases e:j=k
      ·subst e;exact aH (aE j2)
      ·exact aE ⟨j,by omega,j2,j3⟩
   ·rw [if_neg q]
    obtain ⟨L,e1,e2,e3⟩:=Zz n s a hl m (k+1) acc (by omega) (by omega) (by omega)
    refine ⟨L,e1,e2,fun i=>?_⟩
    rw [e3]
    constructor
    ·rintro (h|⟨j,j1,j2⟩)
     ·exact aH h
     ·exact aE ⟨j,by omega,j2⟩
    ·rintro (h|⟨j,j1,j2,x,j3,j4⟩)
     ·exact aH h
     ·by_cases e:j=k
      ·subst e;rw [hk] at j3;injection j3 with j3;exact absurd (j3▸j4) q
      ·exact aE ⟨j,by omega,j2,x,j3,j4⟩
  ·rw [if_neg (by omega)]
   refine ⟨acc,rfl,by omega,fun i=>⟨aH,fun h=>h.elim id fun ⟨j,j1,j2,x,j3,_⟩=>?_⟩⟩
   have:=(List.getElem?_eq_some_iff.1 j3).1
   omega
theorem zif (n:Nat)(hn:10000000<n)(s:Int)(a:Aut)(hl:a.fEdges.length<=1100000):∃ L,Tv n a s=some L/\L.length<=a.fEdges.length/\∀ i:Int,i∈L ↔ ∃ j:Nat,i=(j:Int)/\∃ x,a.fEdges[j]? = some x/\x.fFrom=s:=by
 obtain ⟨L,e1,e2,e3⟩:=Zz n s a hl n 0 [] (by omega) (by omega) (by simp)
 refine ⟨L,e1,e2,fun i=>?_⟩
 rw [e3]
 simp
def nxS (a:Aut)(s t:Int):Prop:=∃ x∈a.fEdges,x.fFrom=s/\x.fTo=t/\0<=t
def prS (a:Aut)(s t:Int):Prop:=∃ x∈a.fEdges,x.fTo=s/\x.fFrom=t
theorem z8c (n:Nat)(a:Aut)(L:List Int)(hL:L.length<=1100000)(hr:∀ i∈L,∃ j:Nat,i=(j:Int)/\j<a.fEdges.length):∀ (m k:Nat) (acc:List Int),k<=L.length->L.length<m+k->acc.length<=k->∃ R,L6 n a L (fun y=>some y) m ((k:Int),acc)=some R/\R.length<=L.length/\∀ t:Int,t∈R ↔ t∈acc\/∃ i∈L.drop k,∃ j:Nat,i=(j:Int)/\∃ x,a.fEdges[j]? = some x/\x.fTo=t/\0<=t
 |0,k,acc,h1,h2,h3=>by omega
 |m+1,k,acc,h1,h2,h3=>by
  unfold L6
  simp only [aA,A3,Aa]
  by_cases h:k<L.length
  ·obtain ⟨j,j1,j2⟩:=hr L[k] (aF h)
   have hj:a.fEdges[j]? = some a.fEdges[j]:=aG j2
   rw [if_pos (by omega),Ad h,Ae k (by omega),j1,Ad j2,aB h]
   simp only [aN,exists_eq_or_imp]
   have key:∀ t:Int,(∃ i:Nat,L[k]=(i:Int)/\∃ x,a.fEdges[i]? = some x/\x.fTo=t/\0<=t) ↔ (a.fEdges[j].fTo=t/\0<=t):=fun t=>by
    rw [j1]
    constructor
    ·rintro ⟨i,i1,x,i2,i3⟩
     have:i=j:=by omega
     rw [this,hj] at i2
     injection i2 with i2
     rw [i2];exact i3
    ·intro q;exact ⟨j,rfl,_,hj,q⟩
   simp only [key]
   by_cases q:0<=a.fEdges[j].fTo
   ·rw [if_pos q,Bs (by simp;omega) (by decide)]
    obtain ⟨R,e1,e2,e3⟩:=z8c n a L hL hr m (k+1) (acc++[a.fEdges[j].fTo]) (by omega) (by omega) (by simp;omega)
    refine ⟨R,e1,e2,fun t=>?_⟩
    rw [e3,aJ,aC,or_assoc]
    refine or_congr aQ (or_congr ⟨fun e=>⟨e.symm,e▸q⟩,fun e=>e.1.symm⟩ aQ)
   ·rw [if_neg q]
    obtain ⟨R,e1,e2,e3⟩:=z8c n a L hL hr m (k+1) acc (by omega) (by omega) (by omega)
    refine ⟨R,e1,e2,fun t=>?_⟩
    rw [e3]
    refine or_congr aQ ⟨aE,fun h=>h.elim (fun e=>absurd (e.1▸e.2) q) id⟩
  ·rw [if_neg (by omega),aD (by omega)]
   exact ⟨acc,rfl,by omega,fun t=>by simp⟩
theorem znj (n:Nat)(hn:10000000<n)(s:Int)(a:Aut)(hl:a.fEdges.length<=1100000):∃ R,Sw n s a=some R/\R.length<=1100000/\∀ t:Int,t∈R ↔ nxS a s t:=by
 obtain ⟨L,e1,e2,e3⟩:=zif n hn s a hl
 have hr:∀ i∈L,∃ j:Nat,i=(j:Int)/\j<a.fEdges.length:=fun i hi=>by
  obtain ⟨j,j1,x,j2,_⟩:=(e3 i).1 hi
  exact ⟨j,j1,(List.getElem?_eq_some_iff.1 j2).1⟩
 obtain ⟨R,f1,f2,f3⟩:=z8c n a L (by omega) hr n 0 [] (by omega) (by omega) (by simp)
 unfold Sw
 rw [e1,A0]
 refine ⟨R,f1,by omega,fun t=>?_⟩
 rw [f3]
 simp only [bI,not_mem_nil,false_or]
 constructor
 ·rintro ⟨i,hi,j,j1,x,j2,j3,j4⟩
  obtain ⟨j',j1',x',j2',j3'⟩:=(e3 i).1 hi
  have:j'=j:=by omega
  rw [this,j2] at j2'
  injection j2' with j2'
  exact ⟨x,mem_of_getElem? j2,j2'▸j3',j3,j4⟩
 ·rintro ⟨x,hx,x1,x2,x3⟩
  obtain ⟨j,hj,e⟩:=mem_iff_getElem.1 hx
  have hj':a.fEdges[j]? = some x:=by rw [aG hj,e]
  exact ⟨(j:Int),(e3 _).2 ⟨j,rfl,x,hj',x1⟩,j,rfl,x,hj',x2,x3⟩
theorem Zx (n:Nat)(a:Aut)(s:Int)(hl:a.fEdges.length<=1100000):∀ (m k:Nat) (acc:List Int),k<=a.fEdges.length->a.fEdges.length<m+k->acc.length<=k->∃ R,Mb n a s (fun y=>some y) m ((k:Int),acc)=some R/\R.length<=a.fEdges.length/\∀ t:Int,t∈R ↔ t∈acc\/∃ x∈a.fEdges.drop k,x.fTo=s/\x.fFrom=t
 |0,k,acc,h1,h2,h3=>by omega
 |m+1,k,acc,h1,h2,h3=>by
  unfold Mb
  simp only [aA,A3,Aa]
  by_cases h:k<a.fEdges.length
  ·rw [if_pos (by omega),Ad h,Ae k (by omega),aB h]
   simp only [aN,exists_eq_or_imp]
   by_cases q:a.fEdges[k].fTo=s
   ·rw [if_pos q,Bs (by simp;omega) (by decide)]
    obtain ⟨R,e1,e2,e3⟩:=Zx n a s hl m (k+1) (acc++[a.fEdges[k].fFrom]) (by omega) (by omega) (by simp;omega)
    refine ⟨R,e1,e2,fun t=>?_⟩
    rw [e3,aJ,aC,or_assoc]
    exact or_congr aQ (or_congr ⟨fun e=>⟨q,e.symm⟩,fun e=>e.2.symm⟩ aQ)
   ·rw [if_neg q]
    obtain ⟨R,e1,e2,e3⟩:=Zx n a s hl m (k+1) acc (by omega) (by omega) (by omega)
    refine ⟨R,e1,e2,fun t=>?_⟩
    rw [e3]
    exact or_congr aQ ⟨aE,fun h=>h.elim (fun e=>absurd e.1 q) id⟩
  ·rw [if_neg (by omega),aD (by omega)]
   exact ⟨acc,rfl,by omega,fun t=>by simp⟩
theorem zi3 (n:Nat)(hn:10000000<n)(s:Int)(a:Aut)(hl:a.fEdges.length<=1100000):∃ R,Wq n s a=some R/\R.length<=1100000/\∀ t:Int,t∈R ↔ prS a s t:=by
 obtain ⟨R,f1,f2,f3⟩:=Zx n a s hl n 0 [] (by omega) (by omega) (by simp)
 refine ⟨R,f1,by omega,fun t=>?_⟩
 rw [f3]
 simp [prS]
def hs (m:List Bool)(t:Int):Prop:=0<=t/\m[t.toNat]? = some true
def fre (m:List Bool):Nat:=m.countP (fun b=>!b)
variable {m:List Bool}{i:Nat}
theorem Rv (hi:i<m.length)(q:m[i]=false):fre (m.set i true)+1=fre m:=by
 unfold fre
 induction m generalizing i with
 |nil=>simp at hi
 |cons b r ih =>
  cases i with
  |zero=>simp only [bF] at q;subst q;simp
  |succ i =>
   simp only [bG] at q
   have:=ih (by simpa using hi) q
   simp only [set_cons_succ,countP_cons]
   omega
variable {w:List Bool}
theorem V9 (hl:m.length=w.length)(h:∀ t,hs m t->hs w t):fre w<=fre m:=by
 unfold fre
 induction m generalizing w with
 |nil=>cases w with|nil=>simp|cons=>simp at hl
 |cons b r ih =>
  cases w with
  |nil=>simp at hl
  |cons c q =>
   have:=ih (w:=q) (by simpa using hl) (fun t ht=>by
    have:=h (t+1) ⟨by have:=ht.1;omega,by have:=ht.1;rw [show (t+1).toNat=t.toNat+1 by omega];simpa using ht.2⟩
    have h0:=ht.1
    refine ⟨h0,?_⟩
    have h2:=this.2
    rw [show (t+1).toNat=t.toNat+1 by omega] at h2
    simpa using h2)
   simp only [countP_cons]
   have hb:b=true->c=true:=fun e=>by
    have:=(h 0 ⟨by omega,by simp [e]⟩).2
    simpa using this
   cases b<;>cases c<;>simp_all<;>omega
theorem F0 (hi:i<m.length)(t:Int):hs (m.set i true) t ↔ t=(i:Int)\/hs m t:=by
 unfold hs
 rw [bH]
 by_cases e:t=(i:Int)
 ·subst e;simp [hi]
 ·constructor
  ·rintro ⟨h0,h1⟩
   rw [if_neg (by omega)] at h1
   exact aE ⟨h0,h1⟩
  ·rintro (h|⟨h0,h1⟩)
   ·exact absurd h e
   ·refine ⟨h0,?_⟩
    rw [if_neg (by omega)]
    exact h1
theorem F4 (N:Nat)(t:Int):¬hs (aY N false) t:=by
 rintro ⟨_,h⟩
 rw [bC] at h
 split at h<;>simp at h
structure Gr (P:Int->Int->Prop) (N:Nat) (w w':List Bool):Prop where
 len:w'.length=N
 mono:∀ t,hs w t->hs w' t
 clo:∀ t,hs w' t->hs w t\/∀ u,P t u->hs w' u
variable {P:Int->Int->Prop}{N:Nat}
theorem Gr.refl (h:w.length=N):Gr P N w w:=⟨h,fun _ h=>h,fun _ h=>aH h⟩
theorem Gr.trans {w1 w2:List Bool}(h:Gr P N w w1)(g:Gr P N w1 w2):Gr P N w w2 :=
 ⟨g.len,fun t q=>g.mono t (h.mono t q),fun t q=>(g.clo t q).elim (fun q=>(h.clo t q).elim aH (fun q=>aE fun u hu=>g.mono u (q u hu))) aE⟩
theorem znp (n:Nat)(rF:Int->Aut->List Bool->Option (List Bool))(a:Aut)(X:List Int)(hX:X.length<=1100000)(N B:Nat)(rec:∀ s∈X,∀ w:List Bool,w.length=N->fre w<=B->∃ w',rF s a w=some w'/\Gr P N w w'/\hs w' s):∀ (m k:Nat) (w:List Bool),k<=X.length->X.length<m+k->w.length=N->fre w<=B->∃ w',Jt n rF a X (fun y=>some y) m ((k:Int),w)=some w'/\Gr P N w w'/\∀ s∈X.drop k,hs w' s
 |0,k,w,h1,h2,h3,h4=>by omega
 |m+1,k,w,h1,h2,h3,h4=>by
  unfold Jt
  simp only [aA,A3]
  by_cases h:k<X.length
  ·obtain ⟨w1,e1,g1,s1⟩:=rec X[k] (aF h) w h3 h4
   rw [if_pos (by omega),Ad h,Ae k (by omega),e1,Cr,aB h]
   obtain ⟨w2,e2,g2,s2⟩:=znp n rF a X hX N B rec m (k+1) w1 (by omega) (by omega) g1.len (aU (V9 (h3.trans g1.len.symm) g1.mono) h4)
   refine ⟨w2,e2,g1.trans g2,fun s q=>?_⟩
   rcases aN.1 q with q|q
   ·rw [q];exact g2.mono _ s1
   ·exact s2 s q
  ·rw [if_neg (by omega),aD (by omega)]
   exact ⟨w,rfl,Gr.refl h3,by simp⟩
theorem zx5 (a:Aut)(hl:a.fEdges.length<=1100000)(N:Nat)(hN:∀ s t,nxS a s t->0<=t/\t.toNat<N):∀ (f:Nat) (s:Int) (w:List Bool),fre w<=f->w.length=N->0<=s->s.toNat<N->∀ n,20000000+f<n->∃ w',Gl n s a w=some w'/\Gr (nxS a) N w w'/\hs w' s
 |f,s,w,h1,h2,h3,h4,n,hn=>by
  obtain ⟨n,rfl⟩:∃ n',n=n' + 1:=⟨n-1,by omega⟩
  have hs4:s.toNat<w.length:=by omega
  unfold Gl
  simp only [aA]
  rw [Bl h3 hs4,Cc hs4]
  by_cases q:w[s.toNat]=true
  ·rw [q,A8]
   exact ⟨w,rfl,Gr.refl h2,h3,by rw [aG hs4,q]⟩
  ·have q':w[s.toNat]=false:=by simpa using q
   have hf:=Rv hs4 q'
   rw [q',A7,Bl h3 hs4,Bv hs4]
   obtain ⟨X,x1,x2,x3⟩:=znj n (by omega) s a hl
   rw [x1,A0]
   cases f with
   |zero=>omega
   |succ f =>
    have hset:∀ t,hs (w.set s.toNat true) t ↔ t=s\/hs w t:=fun t=>by rw [F0 hs4,aZ h3]
    obtain ⟨w',e1,g1,s1⟩:=znp (P:=nxS a) n (Gl n) a X x2 N f (fun t ht v hv hfv=>zx5 a hl N hN f t v hfv hv (hN _ _ ((x3 t).1 ht)).1 (hN _ _ ((x3 t).1 ht)).2 n (by omega)) n 0 (w.set s.toNat true) (by omega) (by omega) (by rw [bD];exact h2) (by omega)
    refine ⟨w',e1,⟨g1.len,fun t ht=>g1.mono t ((hset t).2 (aE ht)),fun t ht=>?_⟩,g1.mono s ((hset s).2 (aH rfl))⟩
    rcases g1.clo t ht with h|h
    ·rcases (hset t).1 h with h|h
     ·refine aE fun u hu=>s1 u ?_
      rw [bI,x3,<-h]
      exact hu
     ·exact aH h
    ·exact aE h
theorem zin (n:Nat)(hn:30000000<n)(a:Aut)(hl:a.fEdges.length<=1100000)(N:Nat)(hN':N<=1000000)(hN:∀ s t,nxS a s t->0<=t/\t.toNat<N)(X:List Int)(hX:X.length<=1100000)(hXr:∀ s∈X,0<=s/\s.toNat<N):∀ (m k:Nat) (w:List Bool),k<=X.length->X.length<m+k->w.length=N->∃ w',K4 n a X (fun y=>some y) m ((k:Int),w)=some w'/\Gr (nxS a) N w w'/\∀ s∈X.drop k,hs w' s
 |0,k,w,h1,h2,h3=>by omega
 |m+1,k,w,h1,h2,h3=>by
  unfold K4
  simp only [aA,A3,Aa]
  by_cases h:k<X.length
  ·have hx:=hXr X[k] (aF h)
   have hfw:fre w<=N:=by unfold fre;rw [<-h3];exact bJ
   obtain ⟨w1,e1,g1,s1⟩:=zx5 a hl N hN N X[k] w hfw h3 hx.1 hx.2 n (by omega)
   rw [if_pos (by omega),Ad h,Ae k (by omega),e1,Cr,aB h]
   obtain ⟨w2,e2,g2,s2⟩:=zin n hn a hl N hN' hN X hX hXr m (k+1) w1 (by omega) (by omega) g1.len
   refine ⟨w2,e2,g1.trans g2,fun s q=>?_⟩
   rcases aN.1 q with q|q
   ·rw [q];exact g2.mono _ s1
   ·exact s2 s q
  ·rw [if_neg (by omega),aD (by omega)]
   exact ⟨w,rfl,Gr.refl h3,by simp⟩
theorem zvu (n:Nat)(hn:30000000<n)(a:Aut)(hl:a.fEdges.length<=1100000)(hN':a.fStates.length<=1000000)(hN:∀ s t,nxS a s t->0<=t/\t.toNat<a.fStates.length)(X:List Int)(hX:X.length<=1100000)(hXr:∀ s∈X,0<=s/\s.toNat<a.fStates.length):∃ w,Na n a X a=some w/\w.length=a.fStates.length/\(∀ s∈X,hs w s)/\∀ t,hs w t->∀ u,nxS a t u->hs w u:=by
 unfold Na
 simp only [aA]
 rw [Cg (by omega) (by decide)]
 obtain ⟨w,e,g,s⟩:=zin n hn a hl a.fStates.length hN' hN X hX hXr n 0 (aY a.fStates.length false) (by omega) (by omega) (by simp)
 exact ⟨w,e,g.len,fun t ht=>s t (by simpa using ht),fun t ht=>(g.clo t ht).resolve_left (F4 _ _)⟩
theorem zno (n:Nat)(rF:Int->Aut->List Bool->Option (List Bool))(a:Aut)(X:List Int)(hX:X.length<=1100000)(N B:Nat)(rec:∀ s∈X,∀ w:List Bool,w.length=N->fre w<=B->∃ w',rF s a w=some w'/\Gr P N w w'/\hs w' s):∀ (m k:Nat) (w:List Bool),k<=X.length->X.length<m+k->w.length=N->fre w<=B->∃ w',Iv n rF a X (fun y=>some y) m ((k:Int),w)=some w'/\Gr P N w w'/\∀ s∈X.drop k,hs w' s
 |0,k,w,h1,h2,h3,h4=>by omega
 |m+1,k,w,h1,h2,h3,h4=>by
  unfold Iv
  simp only [aA,A3]
  by_cases h:k<X.length
  ·obtain ⟨w1,e1,g1,s1⟩:=rec X[k] (aF h) w h3 h4
   rw [if_pos (by omega),Ad h,Ae k (by omega),e1,Cr,aB h]
   obtain ⟨w2,e2,g2,s2⟩:=zno n rF a X hX N B rec m (k+1) w1 (by omega) (by omega) g1.len (aU (V9 (h3.trans g1.len.symm) g1.mono) h4)
   refine ⟨w2,e2,g1.trans g2,fun s q=>?_⟩
   rcases aN.1 q with q|q
   ·rw [q];exact g2.mono _ s1
   ·exact s2 s q
  ·rw [if_neg (by omega),aD (by omega)]
   exact ⟨w,rfl,Gr.refl h3,by simp⟩
theorem zx4 (a:Aut)(hl:a.fEdges.length<=1100000)(N:Nat)(hN:∀ s t,prS a s t->0<=t/\t.toNat<N):∀ (f:Nat) (s:Int) (w:List Bool),fre w<=f->w.length=N->0<=s->s.toNat<N->∀ n,20000000+f<n->∃ w',G9 n s a w=some w'/\Gr (prS a) N w w'/\hs w' s
 |f,s,w,h1,h2,h3,h4,n,hn=>by
  obtain ⟨n,rfl⟩:∃ n',n=n' + 1:=⟨n-1,by omega⟩
  have hs4:s.toNat<w.length:=by omega
  unfold G9
  simp only [aA]
  rw [Bl h3 hs4,Cc hs4]
  by_cases q:w[s.toNat]=true
  ·rw [q,A8]
   exact ⟨w,rfl,Gr.refl h2,h3,by rw [aG hs4,q]⟩
  ·have q':w[s.toNat]=false:=by simpa using q
   have hf:=Rv hs4 q'
   rw [q',A7,Bl h3 hs4,Bv hs4]
   obtain ⟨X,x1,x2,x3⟩:=zi3 n (by omega) s a hl
   rw [x1,A0]
   cases f with
   |zero=>omega
   |succ f =>
    have hset:∀ t,hs (w.set s.toNat true) t ↔ t=s\/hs w t:=fun t=>by rw [F0 hs4,aZ h3]
    obtain ⟨w',e1,g1,s1⟩:=zno (P:=prS a) n (G9 n) a X x2 N f (fun t ht v hv hfv=>zx4 a hl N hN f t v hfv hv (hN _ _ ((x3 t).1 ht)).1 (hN _ _ ((x3 t).1 ht)).2 n (by omega)) n 0 (w.set s.toNat true) (by omega) (by omega) (by rw [bD];exact h2) (by omega)
    refine ⟨w',e1,⟨g1.len,fun t ht=>g1.mono t ((hset t).2 (aE ht)),fun t ht=>?_⟩,g1.mono s ((hset s).2 (aH rfl))⟩
    rcases g1.clo t ht with h|h
    ·rcases (hset t).1 h with h|h
     ·refine aE fun u hu=>s1 u ?_
      rw [bI,x3,<-h]
      exact hu
     ·exact aH h
    ·exact aE h
theorem zim (n:Nat)(hn:30000000<n)(a:Aut)(hl:a.fEdges.length<=1100000)(N:Nat)(hN':N<=1000000)(hN:∀ s t,prS a s t->0<=t/\t.toNat<N)(X:List Int)(hX:X.length<=1100000)(hXr:∀ s∈X,0<=s/\s.toNat<N):∀ (m k:Nat) (w:List Bool),k<=X.length->X.length<m+k->w.length=N->∃ w',J3 n a X (fun y=>some y) m ((k:Int),w)=some w'/\Gr (prS a) N w w'/\∀ s∈X.drop k,hs w' s
 |0,k,w,h1,h2,h3=>by omega
 |m+1,k,w,h1,h2,h3=>by
  unfold J3
  simp only [aA,A3,Aa]
  by_cases h:k<X.length
  ·have hx:=hXr X[k] (aF h)
   have hfw:fre w<=N:=by unfold fre;rw [<-h3];exact bJ
   obtain ⟨w1,e1,g1,s1⟩:=zx4 a hl N hN N X[k] w hfw h3 hx.1 hx.2 n (by omega)
   rw [if_pos (by omega),Ad h,Ae k (by omega),e1,Cr,aB h]
   obtain ⟨w2,e2,g2,s2⟩:=zim n hn a hl N hN' hN X hX hXr m (k+1) w1 (by omega) (by omega) g1.len
   refine ⟨w2,e2,g1.trans g2,fun s q=>?_⟩
   rcases aN.1 q with q|q
   ·rw [q];exact g2.mono _ s1
   ·exact s2 s q
  ·rw [if_neg (by omega),aD (by omega)]
   exact ⟨w,rfl,Gr.refl h3,by simp⟩
theorem zvt (n:Nat)(hn:30000000<n)(a:Aut)(hl:a.fEdges.length<=1100000)(hN':a.fStates.length<=1000000)(hN:∀ s t,prS a s t->0<=t/\t.toNat<a.fStates.length)(X:List Int)(hX:X.length<=1100000)(hXr:∀ s∈X,0<=s/\s.toNat<a.fStates.length):∃ w,Ho n a X a=some w/\w.length=a.fStates.length/\(∀ s∈X,hs w s)/\∀ t,hs w t->∀ u,prS a t u->hs w u:=by
 unfold Ho
 simp only [aA]
 rw [Cg (by omega) (by decide)]
 obtain ⟨w,e,g,s⟩:=zim n hn a hl a.fStates.length hN' hN X hX hXr n 0 (aY a.fStates.length false) (by omega) (by omega) (by simp)
 exact ⟨w,e,g.len,fun t ht=>s t (by simpa using ht),fun t ht=>(g.clo t ht).resolve_left (F4 _ _)⟩
theorem Zy (n:Nat)(w:List Bool)(hw:w.length<=1100000):∀ (m k:Nat) (acc:List Int),k<=w.length->w.length<m+k->acc.length<=k->∃ L,Mm n w (fun y=>some y) m ((k:Int),acc)=some L/\L.length<=w.length/\∀ t:Int,t∈L ↔ t∈acc\/∃ j:Nat,k<=j/\t=(j:Int)/\w[j]? = some true
 |0,k,acc,h1,h2,h3=>by omega
 |m+1,k,acc,h1,h2,h3=>by
  unfold Mm
  simp only [aA,Aa]
  by_cases h:k<w.length
  ·have hk:w[k]? = some w[k]:=aG h
   rw [A3,if_pos (by omega),Ad h,Ae k (by omega)]
   by_cases q:w[k]=true
   ·rw [q,A8,Bs (by simp;omega) (by decide)]
    obtain ⟨L,e1,e2,e3⟩:=Zy n w hw m (k+1) (acc++[(k:Int)]) (by omega) (by omega) (by simp;omega)
    refine ⟨L,e1,e2,fun t=>?_⟩
    rw [e3,aJ,aC]
    constructor
    ·rintro ((h|h)|⟨j,j1,j2⟩)
     ·exact aH h
     ·exact aE ⟨k,aP _,h,by rw [hk,q]⟩
     ·exact aE ⟨j,by omega,j2⟩
    ·rintro (h|⟨j,j1,j2,j3⟩)
     ·exact aH (aH h)
     ·by_cases e:j=k
      ·subst e;exact aH (aE j2)
      ·exact aE ⟨j,by omega,j2,j3⟩
   ·have q':w[k]=false:=by simpa using q
    rw [q',A7]
    obtain ⟨L,e1,e2,e3⟩:=Zy n w hw m (k+1) acc (by omega) (by omega) (by omega)
    refine ⟨L,e1,e2,fun t=>?_⟩
    rw [e3]
    constructor
    ·rintro (h|⟨j,j1,j2⟩)
     ·exact aH h
     ·exact aE ⟨j,by omega,j2⟩
    ·rintro (h|⟨j,j1,j2,j3⟩)
     ·exact aH h
     ·by_cases e:j=k
      ·subst e;rw [hk] at j3;injection j3 with j3;exact absurd j3 q
      ·exact aE ⟨j,by omega,j2,j3⟩
  ·rw [A3,if_neg (by omega)]
   refine ⟨acc,rfl,by omega,fun t=>⟨aH,fun h=>h.elim id fun ⟨j,j1,j2,j3⟩=>?_⟩⟩
   have:=(List.getElem?_eq_some_iff.1 j3).1
   omega
theorem Xs (n:Nat)(hn:10000000<n)(w:List Bool)(hw:w.length<=1100000):∃ L,Tu n w=some L/\L.length<=w.length/\∀ t:Int,t∈L ↔ hs w t:=by
 obtain ⟨L,e1,e2,e3⟩:=Zy n w hw n 0 [] (by omega) (by omega) (by simp)
 refine ⟨L,e1,e2,fun t=>?_⟩
 rw [e3]
 unfold hs
 constructor
 ·rintro (h|⟨j,_,j2,j3⟩)
  ·cases h
  ·subst j2;exact ⟨by omega,by simpa using j3⟩
 ·rintro ⟨h0,h⟩
  exact aE ⟨t.toNat,by omega,by omega,h⟩
theorem Xt (n:Nat)(a:Aut)(hl:a.fEdges.length<=1100000)(K:List Int->Option (List Bool)):∀ (m k:Nat) (acc:List Int),k<=a.fEdges.length->a.fEdges.length<m+k->acc.length<=k->∃ R,Mt n a K m ((k:Int),acc)=K R/\R.length<=a.fEdges.length/\∀ t:Int,t∈R ↔ t∈acc\/∃ x∈a.fEdges.drop k,x.fTo<0/\x.fFrom=t
 |0,k,acc,h1,h2,h3=>by omega
 |m+1,k,acc,h1,h2,h3=>by
  unfold Mt
  simp only [aA,A3,Aa]
  by_cases h:k<a.fEdges.length
  ·rw [if_pos (by omega),Ad h,Ae k (by omega),aB h]
   simp only [aN,exists_eq_or_imp]
   by_cases q:a.fEdges[k].fTo<0
   ·rw [if_pos q,Bs (by simp;omega) (by decide)]
    obtain ⟨R,e1,e2,e3⟩:=Xt n a hl K m (k+1) (acc++[a.fEdges[k].fFrom]) (by omega) (by omega) (by simp;omega)
    refine ⟨R,e1,e2,fun t=>?_⟩
    rw [e3,aJ,aC,or_assoc]
    exact or_congr aQ (or_congr ⟨fun e=>⟨q,e.symm⟩,fun e=>e.2.symm⟩ aQ)
   ·rw [if_neg q]
    obtain ⟨R,e1,e2,e3⟩:=Xt n a hl K m (k+1) acc (by omega) (by omega) (by omega)
    refine ⟨R,e1,e2,fun t=>?_⟩
    rw [e3]
    exact or_congr aQ ⟨aE,fun h=>h.elim (fun e=>absurd e.1 q) id⟩
  ·rw [if_neg (by omega),aD (by omega)]
   exact ⟨acc,rfl,by omega,fun t=>by simp⟩
structure EdR (a:Aut):Prop where
 st:1<=a.fStates.length/\a.fStates.length<=256
 ed:∀ x∈a.fEdges,0<=x.fFrom/\x.fFrom<a.fStates.length/\-1<=x.fTo/\x.fTo<a.fStates.length
 le:a.fEdges.length<=1100000
theorem zlz (n:Nat)(hn:30000000<n)(a:Aut)(h:EdR a)(hc:C1 n a=some 0):∃ L,Mu n a=some (L,0)/\L.length<=1100000/\0∈L/\∀ s∈L,∀ t,nxS a s t->t∈L:=by
 have hst:=h.st
 unfold Mu T9
 rw [hc,A0]
 simp only [Ax,A3,if_true,Yt,Aa]
 obtain ⟨w,e,e1,e2,e3⟩:=zvu n hn a h.le (by omega) (fun s t ⟨x,hx,_,x2,x3⟩=>by have:=h.ed x hx;omega) [0] (by simp) (by simp;omega)
 obtain ⟨L,l1,l2,l3⟩:=Xs n (by omega) w (by omega)
 rw [e,A0,A0,l1,A0]
 exact ⟨L,rfl,by omega,(l3 0).2 (e2 0 (by simp)),fun s hs t ht=>(l3 t).2 (e3 s ((l3 s).1 hs) t ht)⟩
theorem zug (n:Nat)(hn:30000000<n)(a:Aut)(h:EdR a)(hc:C1 n a=some 0):∃ L,N7 n a=some (L,0)/\L.length<=1100000/\(∀ x∈a.fEdges,x.fTo<0->x.fFrom∈L)/\∀ s∈L,∀ t,prS a s t->t∈L:=by
 have hst:=h.st
 unfold N7 U0
 rw [hc,A0]
 simp only [Ax,A3,if_true,Yt,Aa,O9]
 obtain ⟨R,r1,r2,r3⟩:=Xt n a h.le (fun y=>bnd (Ho n a y a) fun x42=>some x42) n 0 [] (by omega) (by have:=h.le;omega) (by simp)
 have hR:∀ t∈R,0<=t/\t.toNat<a.fStates.length:=fun t ht=>by
  obtain h'|⟨x,hx,_,x2⟩:=(r3 t).1 ht
  ·cases h'
  ·have:=h.ed x (by simpa using hx);omega
 obtain ⟨w,e,e1,e2,e3⟩:=zvt n hn a h.le (by omega) (fun s t ⟨x,hx,_,x2⟩=>by have:=h.ed x hx;omega) R (by have:=h.le;omega) hR
 obtain ⟨L,l1,l2,l3⟩:=Xs n (by omega) w (by omega)
 simp only [aM] at r1
 rw [r1,e,A0,A0,l1,A0]
 exact ⟨L,rfl,by omega,fun x hx q=>(l3 _).2 (e2 _ ((r3 _).2 (aE ⟨x,by simpa using hx,q,rfl⟩))),fun s hs t ht=>(l3 t).2 (e3 s ((l3 s).1 hs) t ht)⟩
theorem znl (n:Nat)(L:List Int)(hL:L.length<=1100000):∀ (m k:Nat) (M:Mp),k<=L.length->L.length<m+k->MK M->∃ R,Rg n L (fun y=>some y) m ((k:Int),M)=some R/\MK R/\∀ t:Int,has R t ↔ has M t\/t∈L.drop k
 |0,k,M,h1,h2,h3=>by omega
 |m+1,k,M,h1,h2,h3=>by
  unfold Rg
  simp only [aA,A3]
  by_cases h:k<L.length
  ·rw [if_pos (by omega),Ad h,Ae k (by omega),Dm,aB h]
   obtain ⟨R,e1,e2,e3⟩:=znl n L hL m (k+1) (mput M L[k] true) (by omega) (by omega) (h3.put _)
   refine ⟨R,e1,e2,fun t=>?_⟩
   rw [e3,h3.has_put,aN,or_comm (a:=t=L[k]),or_assoc]
  ·rw [if_neg (by omega),aD (by omega)]
   exact ⟨M,rfl,h3,by simp⟩
theorem Z0 (n:Nat)(hn:10000000<n)(L:List Int)(hL:L.length<=1100000):∃ R,Uo n L=some R/\MK R/\∀ t:Int,has R t ↔ t∈L:=by
 obtain ⟨R,e1,e2,e3⟩:=znl n L hL n 0 [] (by omega) (by omega) MK.nil
 exact ⟨R,e1,e2,fun t=>by rw [e3];simp [Dl]⟩
theorem Xg (n:Nat)(a:Aut)(hl:a.fEdges.length<=1100000)(R U:Mp)(hR:MK R)(hU:MK U)(K:Mp->Mp->Option B8):∀ (m k:Nat) (M:Mp),k<=a.fEdges.length->a.fEdges.length<m+k->MK M->∃ I,I3 n a R U K m ((k:Int),M)=K R I/\MK I/\∀ t:Int,has I t ↔ has M t\/∃ x∈a.fEdges.drop k,0<=x.fTo/\has R x.fFrom/\has U x.fTo/\x.fTo=t
 |0,k,M,h1,h2,h3=>by omega
 |m+1,k,M,h1,h2,h3=>by
  unfold I3
  simp only [aA,Aa]
  by_cases h:k<a.fEdges.length
  ·rw [A3,if_pos (by omega),Ad h,Ae k (by omega),aB h]
   simp only [Ft,Dm,Au,hR.get,hU.get,decide_eq_true_eq,aN,exists_eq_or_imp]
   by_cases q:0<=a.fEdges[k].fTo/\has R a.fEdges[k].fFrom/\has U a.fEdges[k].fTo
   ·rw [if_pos q.1,if_pos q.2.1,if_pos q.2.2]
    obtain ⟨I,e1,e2,e3⟩:=Xg n a hl R U hR hU K m (k+1) (mput M a.fEdges[k].fTo true) (by omega) (by omega) (h3.put _)
    refine ⟨I,e1,e2,fun t=>?_⟩
    rw [e3,h3.has_put]
    grind
   ·obtain ⟨I,e1,e2,e3⟩:=Xg n a hl R U hR hU K m (k+1) M (by omega) (by omega) h3
    refine ⟨I,?_,e2,fun t=>?_⟩
    ·rw [<-e1]
     split
     ·split
      ·split
       ·rename_i q1 q2 q3;exact absurd ⟨q1,q2,q3⟩ q
       ·rfl
      ·rfl
     ·rfl
    ·rw [e3]
     grind
  ·rw [A3,if_neg (by omega),aD (by omega)]
   exact ⟨M,rfl,h3,by simp⟩
structure PtOk (a:Aut) (p:B8):Prop where
 r:MK p.freachable
 i:MK p.finner
 r0:has p.freachable 0
 rn:∀ x∈a.fEdges,has p.freachable x.fFrom->0<=x.fTo->has p.freachable x.fTo
 ir:∀ t,has p.finner t->0<=t/\t.toNat<a.fStates.length
 us:∃ U:Int->Prop,(∀ x∈a.fEdges,x.fTo<0\/U x.fTo->U x.fFrom)/\∀ t,has p.finner t ↔ ∃ x∈a.fEdges,0<=x.fTo/\has p.freachable x.fFrom/\U x.fTo/\x.fTo=t
theorem zqu (n:Nat)(hn:30000000<n)(a:Aut)(h:EdR a)(hc:C1 n a=some 0):∃ p,I6 n a=some p/\PtOk a p:=by
 obtain ⟨L,l1,l2,l3,l4⟩:=zlz n hn a h hc
 obtain ⟨U,u1,u2,u3,u4⟩:=zug n hn a h hc
 obtain ⟨R,r1,r2,r3⟩:=Z0 n (by omega) L l2
 obtain ⟨V,v1,v2,v3⟩:=Z0 n (by omega) U u2
 obtain ⟨I,i1,i2,i3⟩:=Xg n a h.le R V r2 v2 (fun y z=>some (⟨y,z⟩)) n 0 [] (by omega) (by have:=h.le;omega) MK.nil
 unfold I6
 simp only [aM] at i1
 rw [l1,A0,u1,A0,r1,A0,v1,A0,i1]
 have hI:∀ t,has I t ↔ ∃ x∈a.fEdges,0<=x.fTo/\has R x.fFrom/\t∈U/\x.fTo=t:=fun t=>by
  rw [i3]
  simp only [Dl,false_or,bI,v3]
  grind
 refine ⟨⟨R,I⟩,rfl,r2,i2,(r3 0).2 l3,fun x hx q q0=>(r3 _).2 (l4 _ ((r3 _).1 q) _ ⟨x,hx,rfl,rfl,q0⟩),fun t ht=>?_,fun t=>t∈U,fun x hx q=>q.elim (u3 x hx) (fun q=>u4 _ q _ ⟨x,hx,rfl,rfl⟩),fun t=>?_⟩
 ·obtain ⟨x,hx,q0,_,_,q3⟩:=(hI t).1 ht
  have:=h.ed x hx
  omega
 ·rw [hI]
  grind
theorem Rt {β:Type}{t:Int}{len:Nat}(h0:0<=t)(h:t.toNat<len)(c:Option β):ncx t len c=c:=by
 unfold ncx
 rw [if_pos ⟨h0,h⟩]
theorem zsg {β:Type}(i:Nat)(x:Option β):fro i x=x:=by unfold fro;rfl
theorem z8d (n:Nat)(hn:10000000<n)(a:Aut)(hsc:a.fScopes<=64)(p:B8)(hp:MK p.finner)(x:Ed)(hxo:x.fOpens.length<=1100000)(hxc:x.fCloses.length<=1100000)(out:List Mp)(ho:∀ M∈out,MK M)(hf:0<=x.fFrom/\x.fFrom.toNat<out.length):∀ (m k:Nat) (M:Mp),k<=64->64<m+k->MK M->∃ R,Cl n out x a p (fun y=>some y) m ((k:Int),M)=some R/\MK R
 |0,k,M,h1,h2,h3=>by omega
 |m+1,k,M,h1,h2,h3=>by
  unfold Cl
  rw [A3]
  by_cases h:(k:Int)<a.fScopes
  ·rw [if_pos h,Ey n (k:Int) x.fOpens (by omega) (by omega),A0,Ey n (k:Int) x.fCloses (by omega) (by omega),A0]
   have key:∀ (b:Bool),∃ R,Dq n out x a p ((k:Int),M) (Cl n out x a p (fun y=>some y) m) b=some R/\MK R:=fun b=>by
    unfold Dq
    simp only [Aa,Dm,Ae k (by omega)]
    cases b with
    |true=>rw [A8];exact z8d n hn a hsc p hp x hxo hxc out ho hf m (k+1) _ (by omega) (by omega) (h3.put _)
    |false=>rw [A7];exact z8d n hn a hsc p hp x hxo hxc out ho hf m (k+1) _ (by omega) (by omega) h3
   have key5:∀ (c b:Bool),∃ R,E6 n out x a p ((k:Int),M) (Cl n out x a p (fun y=>some y) m) c b=some R/\MK R:=fun c b=>by
    unfold E6
    simp only [Aa,Am,Ft]
    cases (mlk p.finner x.fFrom).getD false with
    |false=>rw [A7];exact key _
    |true =>
     rw [A8]
     cases b with
     |false=>rw [A7];exact key _
     |true =>
      rw [A8]
      cases c with
      |true=>simp only [aS,A7];exact key _
      |false=>simp only [aO,A8];rw [Cs hf.1 hf.2];exact key _
   simp only [Aa,Am]
   rw [A3]
   split
   ·cases (x.fCloses.any fun y=>decide ((k:Int)=y)) with
    |true=>simp only [aS,A7];exact key5 _ _
    |false=>simp only [aO,A8];exact key5 _ _
   ·exact key5 _ _
  ·rw [if_neg h]
   exact ⟨M,rfl,h3⟩
theorem zua (n:Nat)(hn:10000000<n)(a:Aut)(hsc:a.fScopes<=64)(p:B8)(hp:MK p.finner)(x:Ed)(hxo:x.fOpens.length<=1100000)(hxc:x.fCloses.length<=1100000)(out:List Mp)(ho:∀ M∈out,MK M)(hf:0<=x.fFrom/\x.fFrom.toNat<out.length):∃ R,Q6 n p a x out=some R/\MK R :=
 z8d n hn a hsc p hp x hxo hxc out ho hf n 0 [] (by omega) (by omega) MK.nil
theorem z8g (n:Nat)(B C:Mp)(hB:MK B)(hC:Srt C)(hC2:MK C):∀ (m:Nat) (rem acc:Mp),rem.length<m->MK rem->MK acc->(∀ v,has rem v->¬has acc v)->(∀ v,has C v ↔ has acc v\/(has rem v/\has B v))->N6 n B (fun y=>frs 7 y (some (Cj y))) m (rem,acc)=some C
 |0,rem,acc,h1,h2,h3,h4,h5=>by omega
 |m+1,rem,acc,h1,h2,h3,h4,h5=>by
  unfold N6
  by_cases e:rem=[]
  ·subst e
   simp only [Yh]
   unfold frs
   rw [if_pos h3.nd]
   refine congrArg some (zq7 (Xv _) hC h3.sort.1.tr hC2.tr fun v=>?_)
   rw [h3.sort.2.2.2,h5]
   simp [Dl]
  ·have hn:∀ (x y:Option Mp),nxt rem x y=y:=fun x y=>by
    cases rem with
    |nil=>exact absurd rfl e
    |cons p r=>exact Y9 p r x y
   simp only [hn]
   refine Y6 e fun j hj=>?_
   obtain ⟨o1,o2,o3⟩:=h2.out hj
   simp only [Aa,Ft,Dm,Au,hB.get]
   have hna:¬has acc rem[j].1:=h4 _ ((o3 _).2 (aH rfl))
   have hlen:(rem.eraseIdx j).length<m:=by rw [aW hj];omega
   split
   ·rename_i q
    refine z8g n B C hB hC hC2 m _ _ hlen o1 (h3.put _) (fun v hv hp=>?_) (fun v=>?_)
    ·rcases (h3.has_put _ _).1 hp with e'|e'
     ·exact o2 (e'▸hv)
     ·exact h4 v ((o3 v).2 (aE hv)) e'
    ·rw [h5,o3,h3.has_put]
     grind
   ·rename_i q
    refine z8g n B C hB hC hC2 m _ _ hlen o1 h3 (fun v hv=>h4 v ((o3 v).2 (aE hv))) (fun v=>?_)
    rw [h5,o3]
    grind
theorem MK.filter (h:MK l)(q:Int×Bool->Bool):MK (l.filter q):=⟨h.nd.sublist (filter_sublist.map _),fun p hp=>h.tr p (aV.1 hp).1⟩
theorem zfg (n:Nat)(A B:Mp)(hA:MK A)(hB:MK B)(hn:A.length<n):∃ C,Rb n A B=some C/\MK C/\∀ v,has C v ↔ has A v/\has B v:=by
 have hf:=hA.filter (fun p=>(mlk B p.1).getD false)
 have hk:∀ v,has (A.filter fun p=>(mlk B p.1).getD false) v ↔ has A v/\has B v:=fun v=>by
  unfold has
  simp only [mem_map,aV,hB.get]
  constructor
  ·rintro ⟨p,⟨p1,p2⟩,rfl⟩;exact ⟨⟨p,p1,rfl⟩,by simpa [has] using p2⟩
  ·rintro ⟨⟨p,p1,rfl⟩,p2⟩;exact ⟨p,⟨p1,by simpa [has] using p2⟩,rfl⟩
 refine ⟨Cj (A.filter fun p=>(mlk B p.1).getD false),?_,hf.sort.1,fun v=>by rw [hf.sort.2.2.2,hk]⟩
 unfold Rb
 simp only [Aa]
 exact z8g n B _ hB hf.sort.2.1 hf.sort.1 n A [] hn hA MK.nil (fun v _=>Dl v) (fun v=>by rw [hf.sort.2.2.2,hk];simp [Dl])
def tot (out:List Mp):Nat:=(out.map length).sum
theorem Ic {out:List Mp}(hi:i<out.length)(M:Mp):tot (out.set i M)+out[i].length=tot out+M.length:=by
 unfold tot
 induction out generalizing i with
 |nil=>simp at hi
 |cons q r ih =>
  cases i with
  |zero=>simp only [set_cons_zero,bE,sum_cons,bF];omega
  |succ i =>
   have:=ih (by simpa using hi)
   simp only [set_cons_succ,bE,sum_cons,bG]
   omega
structure Bt (N:Nat) (out:List Mp):Prop where
 len:out.length=N
 mks:∀ M∈out,MK M
theorem Bt.set {out:List Mp}(h:Bt N out)(i:Nat){M:Mp}(hM:MK M):Bt N (out.set i M) :=
 ⟨by rw [bD];exact h.len,fun q hq=>(aX hq).elim (h.mks q) (fun e=>e▸hM)⟩
structure AutR (a:Aut):Prop extends EdR a where
 sc:0<=a.fScopes/\a.fScopes<=64
 lo:∀ x∈a.fEdges,x.fOpens.length<=1100000/\x.fCloses.length<=1100000/\x.fInside.length<=1100000/\x.fLimits.length<=1100000
 sp:∀ x∈a.fEdges,∀ l∈x.fLimits,0<=l.fSpan/\l.fSpan<=1099511627776
theorem X3 (n:Nat)(hn:10000000<n)(a:Aut)(h:AutR a)(p:B8)(hp:PtOk a p)(K:Bool->List Mp->Option (List Mp)):∀ (m k:Nat) (b:Bool) (out:List Mp),k<=a.fEdges.length->a.fEdges.length<m+k->Bt a.fStates.length out->tot out<10000000->∃ b' out',Cq n a p K m (b,(k:Int),out)=K b' out'/\Bt a.fStates.length out'/\tot out'<=tot out/\(b'=true->b=true\/tot out' < tot out)
 |0,k,b,out,h1,h2,h3,h4=>by omega
 |m+1,k,b,out,h1,h2,h3,h4=>by
  have hle:=h.le
  unfold Cq
  simp only [aA]
  by_cases hk:k<a.fEdges.length
  ·rw [A3,if_pos (by omega),Ad hk]
   have hx:=h.ed _ (aF hk)
   have hlo:=h.lo _ (aF hk)
   have hlen:=h3.len
   have skip:∃ b' out',D6 n a p (b,(k:Int),out) (Cq n a p K m) a.fEdges[k] true=K b' out'/\Bt a.fStates.length out'/\tot out'<=tot out/\(b'=true->b=true\/tot out' < tot out):=by
    unfold D6
    simp only [Ae k (by omega:k<=1000000000000)]
    rw [A8]
    exact X3 n hn a h p hp K m (k+1) b out (by omega) (by omega) h3 h4
   simp only [Am,Aa,Ft]
   rw [A3]
   by_cases q:a.fEdges[k].fTo<0
   ·rw [if_pos q];exact skip
   rw [if_neg q]
   have ht:0<=a.fEdges[k].fTo/\a.fEdges[k].fTo.toNat<out.length:=by omega
   cases (mlk p.freachable a.fEdges[k].fFrom).getD false with
   |false=>simp only [aO,A8];exact skip
   |true =>
    simp only [aS,A7]
    cases (mlk p.finner a.fEdges[k].fTo).getD false with
    |false=>simp only [aO];exact skip
    |true =>
     simp only [aS]
     unfold D6
     simp only [Ae k (by omega:k<=1000000000000),aA,Aa]
     rw [A7,Bl ht.1 ht.2,Cc ht.2]
     obtain ⟨R,r1,r2⟩:=zua n hn a h.sc.2 p hp.i _ hlo.1 hlo.2.1 out h3.mks (by omega)
     have hmo:=h3.mks _ (aF ht.2)
     have hle:out[a.fEdges[k].fTo.toNat].length<=tot out:=by
      have:=Ic ht.2 []
      simp only [bM] at this
      omega
     obtain ⟨C,c1,c2,c3⟩:=zfg n _ R hmo r2 (by omega)
     rw [r1,A0,c1,A0,Bl ht.1 ht.2,Cc ht.2,A3]
     by_cases ql:C.length<out[a.fEdges[k].fTo.toNat].length
     ·rw [if_pos (by omega),Bl ht.1 ht.2,Bv ht.2]
      have hts:=Ic ht.2 C
      obtain ⟨b',out',e1,e2,e3,e4⟩:=X3 n hn a h p hp K m (k+1) true (out.set a.fEdges[k].fTo.toNat C) (by omega) (by omega) (h3.set _ c2) (by omega)
      exact ⟨b',out',e1,e2,by omega,fun _=>aE (by omega)⟩
     ·rw [if_neg (by omega)]
      exact X3 n hn a h p hp K m (k+1) b out (by omega) (by omega) h3 h4
  ·rw [A3,if_neg (by omega)]
   exact ⟨b,out,rfl,h3,aP _,aH⟩
theorem zai (n:Nat)(hn:10000000<n)(a:Aut)(h:AutR a)(p:B8)(hp:PtOk a p):∀ (m:Nat) (b:Bool) (out:List Mp),(tot out+1<m\/(b=false/\tot out<m))->Bt a.fStates.length out->tot out<10000000->∃ out',D5 n a p (fun y=>some y) m (b,out)=some out'/\Bt a.fStates.length out'/\tot out'<=tot out
 |0,b,out,h1,h2,h3=>by omega
 |m+1,b,out,h1,h2,h3=>by
  unfold D5
  simp only
  cases b with
  |false=>rw [A7];exact ⟨out,rfl,h2,aP _⟩
  |true =>
   rw [A8]
   have hle:=h.le
   obtain ⟨b',out',e1,e2,e3,e4⟩:=X3 n hn a h p hp (fun y z=>D5 n a p (fun y=>some y) m (y,z)) n 0 false out (by omega) (by omega) h2 h3
   simp only [aM] at e1
   rw [e1]
   have h1':tot out+1<m+1:=by
    rcases h1 with h|h
    ·exact h
    ·exact absurd h.1 (by simp)
   have hb:tot out' + 1<m\/(b'=false/\tot out' < m):=by
    cases b' with
    |false=>exact aE ⟨rfl,by omega⟩
    |true=>have:=(e4 rfl).resolve_left (by simp);exact aH (by omega)
   obtain ⟨q,q1,q2,q3⟩:=zai n hn a h p hp m b' out' hb e2 (by omega)
   exact ⟨q,q1,q2,by omega⟩
def addS (k:Int):Nat->Mp->Mp
 |0,q=>q
 |d+1,q=>addS (k+1) d (sput q k true)
theorem zmv (k:Int)(d:Nat)(q:Mp)(h:Srt q)(t:∀ p∈q,p.2=true):Srt (addS k d q)/\∀ p∈addS k d q,p.2=true:=by
 induction d generalizing k q with
 |zero=>exact ⟨h,t⟩
 |succ d ih=>exact ih (k+1) _ (Nv h) (fun p hp=>(zn4 p hp).elim (fun e=>by rw [e]) (t p))
theorem zgu (k:Int)(d:Nat)(q:Mp)(h:Srt q):(addS k d q).length<=q.length+d:=by
 induction d generalizing k q with
 |zero=>exact aP _
 |succ d ih =>
  have:=ih (k+1) (sput q k true) (Nv h)
  have h2:=(Xp (k:=k) (v:=true) h).length_eq
  have h3:(q.filter fun p=>decide (p.1≠k)).length<=q.length:=bK _ _
  simp only [length_append,bL] at h2
  show (addS (k+1) d (sput q k true)).length<=_
  omega
def allS (a:Aut):Mp:=addS 0 a.fScopes.toNat []
theorem zah (n:Nat)(a:Aut)(hsc:0<=a.fScopes/\a.fScopes<=64)(p:B8)(V:Nat×Ars Mp×Mp)(x146:Int×Bool)(x147:Mp)(ix:List (Option Nat))(os:List Mp)(i:Nat)(hi:i<ix.length)(hx:x146.1=(i:Int))(hV:V.1=ix.length)(K:Ars Mp->Mp->Option (List Mp)):∀ (m k:Nat) (q:Mp),(k:Int)<=a.fScopes->a.fScopes<m+k->Srt q->Ox n a p V x146 x147 K m ((k:Int),(ix.set i (some os.length),os++[q]))=K (ix.set i (some os.length),os++[addS (k:Int) (a.fScopes.toNat-k) q]) x147
 |0,k,q,h1,h2,h3=>by omega
 |m+1,k,q,h1,h2,h3=>by
  unfold Ox
  simp only
  rw [A3]
  by_cases h:(k:Int)<a.fScopes
  ·have hob:∀ c:Nat->Option (List Mp),aob (ix.set i (some os.length),os++[q]) i c=c os.length:=fun c=>by
    unfold aob
    simp only [bH,if_true,hi]
   have hup:∀ c:Ars Mp->Option (List Mp),aup (ix.set i (some os.length),os++[q]) os.length (k:Int) true c=c (ix.set i (some os.length),os++[sput q (k:Int) true]):=fun c=>by
    rw [y0h (l:=q) (by simp) h3]
    simp
   rw [if_pos h,Rt (by omega) (by omega),hx,aR,hob,hup,Ae k (by omega),zah n a hsc p V x146 x147 ix os i hi hx hV K m (k+1) _ (by omega) (by omega) (Nv h3)]
   have e:a.fScopes.toNat-k=(a.fScopes.toNat-(k+1))+1:=by omega
   rw [e]
   rfl
  ·rw [if_neg h]
   have e:a.fScopes.toNat-k=0:=by omega
   rw [e]
   rfl
structure ArOk (N:Nat) (m:Ars Mp):Prop where
 len:m.1.length=N
 lt:∀ (i j:Nat),m.1[i]? = some (some j)->j<m.2.length
theorem ArOk.put {ix:List (Option Nat)}{os:List Mp}(h:ArOk N (ix,os))(hi:i<N)(q:Mp):ArOk N (ix.set i (some os.length),os++[q])/\aval (ix.set i (some os.length),os++[q])=(aval (ix,os)).set i q:=by
 have hl:=h.len
 simp only at hl
 refine ⟨⟨by simp [hl],fun k j e=>?_⟩,?_⟩
 ·simp only [bH] at e
  simp only [length_append,bL]
  split at e
  ·split at e
   ·injection e with e;injection e with e;omega
   ·cases e
  ·have:=h.lt k j e;simp only at this;omega
 ·unfold aval
  apply ext_getElem
  ·simp
  ·intro k k1 k2
   simp only [aA,bD] at k1
   simp only [getElem_map,getElem_set]
   by_cases e:i=k
   ·subst e;simp
   ·rw [if_neg e,if_neg e]
    have hlt:=h.lt k
    cases e2:ix[k] with
    |none=>rfl
    |some j =>
     have:=hlt j (by simp only;rw [aG k1,e2])
     simp only at this
     simp only [getElem?_append_left this]
theorem X4 (n:Nat)(hn:10000000<n)(a:Aut)(h:AutR a)(p:B8)(K:Nat->Ars Mp->Option (List Mp))(KK:List Mp->Option (List Mp))(hK:∀ N m,K N m=KK (aval m))(r:List Mp):∀ (m:Nat) (rem:Mp) (ar:Ars Mp),rem.length<m->MK rem->(∀ t,has rem t->0<=t/\t.toNat<a.fStates.length)->ArOk a.fStates.length ar->KK (rem.foldl (fun w q=>w.set q.1.toNat (allS a)) (aval ar))=some r->L5 n a p K m (a.fStates.length,ar,rem)=some r
 |0,rem,ar,h1,h2,h3,h4,h5=>by omega
 |m+1,rem,ar,h1,h2,h3,h4,h5=>by
  unfold L5
  simp only
  by_cases e:rem=[]
  ·subst e
   rw [Yh,hK]
   exact h5
  ·have hne:∀ (x y:Option (List Mp)),nxt rem x y=y:=fun x y=>by
    cases rem with
    |nil=>exact absurd rfl e
    |cons p r=>exact Y9 p r x y
   rw [hne]
   refine Y6 e fun j hj=>?_
   obtain ⟨o1,o2,o3⟩:=h2.out hj
   obtain ⟨t0,t1⟩:=h3 rem[j].1 ((o3 _).2 (aH rfl))
   obtain ⟨i,hi⟩:∃ i:Nat,rem[j].1=(i:Int):=⟨rem[j].1.toNat,by omega⟩
   have hi2:i<a.fStates.length:=by omega
   obtain ⟨ix,os⟩:=ar
   have hl:=h4.len
   simp only at hl
   have hsc:=h.sc
   rw [Aa,Rt t0 t1,hi,aR]
   have hst:∀ c:Ars Mp->Option (List Mp),ast (ix,os) i [] c=c (ix.set i (some os.length),os++[[]]):=fun c=>by
    unfold ast
    simp only
    rw [if_pos (by omega)]
   have h4':=zah n a hsc p (a.fStates.length,(ix,os),rem) rem[j] (rem.eraseIdx j) ix os i (by omega) hi hl.symm (fun y z=>L5 n a p K m (a.fStates.length,y,z)) n 0 [] (by omega) (by omega) (by simp [Srt])
   simp only [aM,Nat.sub_zero] at h4'
   rw [hst,h4']
   obtain ⟨u1,u2⟩:=h4.put hi2 (allS a)
   refine X4 n hn a h p K KK hK r m (rem.eraseIdx j) _ (by rw [aW hj];omega) o1 (fun t ht=>h3 t ((o3 t).2 (aE ht))) u1 ?_
   have hp:(rem[j]::rem.eraseIdx j).Perm rem:=Nr hj
   have hc:=Perm.foldl_eq' (f:=fun (w:List Mp) (q:Int×Bool)=>w.set q.1.toNat (allS a)) hp (fun x _ y _ z=>by
    by_cases e:x.1.toNat=y.1.toNat
    ·simp only [e]
    ·exact List.set_comm _ _ e) (aval (ix,os))
   rw [foldl_cons,hi,aR] at hc
   unfold allS at u2 hc
   simp only [allS] at h5 ⊢
   rw [u2,hc]
   exact h5
theorem zrb (n:Nat)(hn:20000000<n)(a:Aut)(h:AutR a)(p:B8)(hp:PtOk a p):∃ out,Hj n p a=some out/\Bt a.fStates.length out/\∀ M∈out,M.length<n:=by
 have hst:=h.st
 unfold Hj
 simp only [aA,zt1,Aa]
 rw [zri (by omega)]
 have hS:=zmv 0 a.fScopes.toNat [] (by simp [Srt]) (by simp)
 have hSl:=zgu 0 a.fScopes.toNat [] (by simp [Srt])
 have hsc:=h.sc
 have hfold:∀ (rem:Mp) (w:List Mp),Bt a.fStates.length w->(∀ M∈w,M.length<=64)->Bt a.fStates.length (rem.foldl (fun w q=>w.set q.1.toNat (allS a)) w)/\∀ M∈rem.foldl (fun w q=>w.set q.1.toNat (allS a)) w,M.length<=64:=fun rem=>by
  induction rem with
  |nil=>exact fun w h h'=>⟨h,h'⟩
  |cons q r ih =>
   intro w h h'
   rw [foldl_cons]
   refine ih _ (h.set _ ⟨hS.1.nodup,hS.2⟩) (fun M hM=>(aX hM).elim (h' M) (fun e=>?_))
   rw [e]
   unfold allS
   simp only [bM] at hSl
   omega
 have ha0:ArOk a.fStates.length (mkA Mp a.fStates.length):=⟨by simp [mkA],fun i j e=>by
  unfold mkA at e
  simp only [bC] at e
  split at e<;>simp at e⟩
 have hv0:aval (mkA Mp a.fStates.length)=aY a.fStates.length []:=by
  unfold aval mkA
  simp
 obtain ⟨f1,f2⟩:=hfold p.finner (aY a.fStates.length []) ⟨by simp,fun M hM=>by rw [bA hM];exact MK.nil⟩ (fun M hM=>by rw [bA hM];simp)
 have ht:∀ w:List Mp,(∀ M∈w,M.length<=64)->tot w<=64*w.length:=fun w=>by
  unfold tot
  induction w with
  |nil=>simp
  |cons q r ih =>
   intro hq
   have:=ih (fun M hM=>hq M (aK _ hM))
   have:=hq q (by simp)
   simp only [bE,sum_cons,length_cons]
   omega
 have htt:=ht _ f2
 rw [f1.len] at htt
 obtain ⟨out,e1,e2,e3⟩:=zai n (by omega) a h p hp n true _ (aH (by omega)) f1 (by omega)
 have hle:∀ M∈out,M.length<=tot out:=fun M hM=>by
  obtain ⟨i,hi,rfl⟩:=mem_iff_getElem.1 hM
  have:=Ic hi []
  simp only [bM] at this
  omega
 refine ⟨out,?_,e2,fun M hM=>by have:=hle M hM;omega⟩
 have hil:p.finner.length<n:=by
  have hsub:(p.finner.map (·.1)).length<=((range a.fStates.length).map (fun (i:Nat)=>(i:Int))).length:=by
   refine Ko hp.i.nd (fun t ht'=>?_)
   have:=hp.ir t ht'
   exact mem_map.2 ⟨t.toNat,mem_range.2 this.2,by omega⟩
  simp only [aA,length_range] at hsub
  omega
 refine X4 n (by omega) a h p _ (fun w=>D5 n a p (fun y=>some y) n (true,w)) (fun N m=>by simp only [zsg,Aa]) out n p.finner (mkA Mp a.fStates.length) hil hp.i hp.ir ha0 ?_
 rw [hv0]
 exact e1
def cvS (x y:Sta):Bool:=decide (x.fScope=y.fScope) && decide (y.fTime<=x.fTime)
def cvL:List Sta->List Sta->Bool
 |[],[]=>true
 |x::r,y::s=>cvS x y && cvL r s
 |_,_=>false
def rdB (m:Mp)(l:List Bd):List Bd:=l.filter (fun b=>(mlk m b.fVar).getD false)
def rdC (R:List Mp)(c:Cf):List Bd:=rdB (R.getD c.fState.toNat []) c.fBindings
def cov (R:List Mp)(c d:Cf):Bool:=decide (c.fState=d.fState) && (cvL c.fStarts d.fStarts && decide (rdC R c=rdC R d))
structure CS (R:List Mp) (c:Cf):Prop where
 st:0<=c.fState/\c.fState<(R.length:Int)
 lb:c.fBindings.length<=1000000
 ls:c.fStarts.length<=1000000
def cfO (l:List Cf):List Cf:=l.filter (fun d=>!decide (d.fState<0))
def maO (l:List Cf):List Ma:=(l.filter (fun d=>decide (d.fState<0))).map (fun d=>⟨d.fBindings⟩)
def Dn (a:Aut)(s:Int):List Ed:=a.fEdges.filter (fun x=>decide (x.fFrom=s))
def skP (a:Aut)(held:List Ev)(c:Cf)(e:Ev):Bool:=!(zo8 a c.fState).any (vio (enH held c.fBindings) e)
def outP (a:Aut)(held:List Ev)(c:Cf)(e:Ev):List Cf:=(if skP a held c e=true then [c] else [])++(Dn a c.fState).filterMap (fun x=>coP a held c x e)
variable {d:Cf}
theorem zye {l:List Cf}(h:d∈cfO l):d∈l/\0<=d.fState:=by
 have:=aV.1 h
 exact ⟨this.1,by simpa using this.2⟩
def Sz (k:Nat)(c:Cf):Prop:=c.fBindings.length<=k/\c.fStarts.length<=100*k
variable {k:Nat}{c:Cf}
theorem Sz.ok (hk:k<=1001)(h:Sz k c):cfOk c=true:=(zvd c).2 ⟨by have:=h.1;omega,by have:=h.2;omega⟩
variable {a:Aut}{x:Ed}{e:Ev}
theorem zgr {held:List Ev}(h:coP a held c x e=some d):d=⟨x.fTo,bdN c x e,(stN c x e).filter (ncl x)⟩:=by
 unfold coP at h
 simp_all
theorem y0a {held:List Ev}(hx:CxA a held)(hc:CB held a k c)(hxe:x∈a.fEdges)(h:coP a held c x e=some d):Sz (k+1) d:=by
 rw [zgr h]
 have h1:=hc.lb
 have h2:=hc.ls
 have h3:=hx.lo x hxe
 have h4:=zrd e.fTime x.fOpens c.fStarts
 have h5:=bK (ncl x) (stN c x e)
 refine ⟨by unfold bdN;simp;omega,?_⟩
 unfold stN at h5 ⊢
 simp only
 omega
theorem CB.sz {held:List Ev}(h:CB held a k c):Sz k c:=⟨h.lb,h.ls⟩
theorem zjc {s:Int}(h:x∈Dn a s):x∈a.fEdges/\x.fFrom=s:=by
 have:=aV.1 h
 exact ⟨this.1,by simpa using this.2⟩
theorem zbs (s:Int)(a:Aut)(hl:a.fEdges.length<=1000000)(K:List Ed->Option (List Ed)):∀ (m k:Nat) (out:List Ed),k<=a.fEdges.length->a.fEdges.length<m+k->out.length<=k->M1 N0 s a K m ((k:Int),out)=K (out++(a.fEdges.drop k).filter (fun x=>decide (x.fFrom=s)))
 |0,k,out,h1,h2,h3=>by omega
 |m+1,k,out,h1,h2,h3=>by
  unfold M1
  simp only [aA,A3]
  by_cases h:k<a.fEdges.length
  ·have i1:=zbs s a hl K m (k+1) (out++[a.fEdges[k]]) (by omega) (by omega) (by simp_all)
   have i2:=zbs s a hl K m (k+1) out (by omega) (by omega) (by omega)
   rw [if_pos (by omega),Aa,Ad h,Ad h,Di _ k h,Ae k (by omega),Bs (by grind) (by omega),i1,i2,filter_cons]
   grind
  ·rw [if_neg (by omega),aD (by omega)]
   simp
theorem zzj (s:Int)(a:Aut)(hl:a.fEdges.length<=1000000):Tf N0 a s=some (Dn a s):=by
 have:=zbs s a hl (fun y=>some y) N0 0 [] (aL _) (by unfold N0;omega) (by simp)
 unfold Tf Dn
 exact this
def cfN (a:Aut)(held:List Ev)(l:List Cf)(e:Ev):List Cf:=setL zyf (l.flatMap (fun c=>cfO (outP a held c e)))
def maN (a:Aut)(held:List Ev)(l:List Cf)(e:Ev):List Ma:=setL S7 (l.flatMap (fun c=>maO (outP a held c e)))
theorem zlw {e:Exn}(h:WfE e):∃ b:Bool,N2 N0 e=some b:=by
 obtain ⟨z,hz,ht⟩:=h
 obtain ⟨c,c1,_⟩:=zr8 200 (by omega) (by omega) z e ht hz N0 (by unfold N0;omega)
 obtain ⟨d,d1,_⟩:=zvr z e ht hz N0 (by unfold N0;omega)
 unfold N2
 simp only [Am,Aa,Mh]
 rw [c1,A0,d1,A0,A3]
 split
 ·exact ⟨_,rfl⟩
 ·exact ⟨_,rfl⟩
theorem zqy (l:List Gd)(hw:∀ g∈l,WfE g.fCond)(hl:l.length<=1100000):∀ (m k:Nat),k<=l.length->l.length<m+k->∃ b:Bool,Q2 N0 l (some true) m (k:Int)=some b
 |0,k,h1,h2=>by omega
 |m+1,k,h1,h2=>by
  unfold Q2
  simp only [aA,A3,Ax]
  by_cases h:k<l.length
  ·obtain ⟨b,hb⟩:=zlw (hw _ (aF h))
   rw [if_pos (by omega),Ad h,hb,A0,Ae k (by omega)]
   cases b with
   |true=>rw [A8];exact zqy l hw hl m (k+1) (by omega) (by omega)
   |false=>rw [A7];exact ⟨_,rfl⟩
  ·rw [if_neg (by omega)]
   exact ⟨_,rfl⟩
theorem zwx (st:Stt)(hw:st.fGuards.length<=1100000/\∀ g∈st.fGuards,WfE g.fCond):∃ b:Bool,Tj N0 st.fGuards=some b:=zqy st.fGuards hw.2 hw.1 N0 0 (aL _) (by have:=hw.1;unfold N0;omega)
theorem znq (a:Aut)(v:Int)(x:Ed)(ys:List Exn)(hy:x.fChecks=ys.map Ao)(hw:∀ y∈ys,WfE y)(hl:ys.length<=1100000)(P:Prop)(K:Option Bool)(hK:∃ b:Bool,K=some b/\(b=true->P)):∀ (m k:Nat),k<=ys.length->ys.length<m+k->∃ b:Bool,Q3 N0 a v x K m (k:Int)=some b/\(b=true->P)
 |0,k,h1,h2=>by omega
 |m+1,k,h1,h2=>by
  unfold Q3
  have hll:x.fChecks.length=ys.length:=by rw [hy,aA]
  simp only [aA,A3,Ax,hll]
  by_cases h:k<ys.length
  ·obtain ⟨b,hb⟩:=zlw (hw _ (aF h))
   rw [if_pos (by omega),zxz hy h,hb,A0,Ae k (by omega)]
   cases b with
   |true=>rw [A8];exact znq a v x ys hy hw hl P K hK m (k+1) (by omega) (by omega)
   |false=>rw [A7];exact ⟨false,rfl,fun h=>by cases h⟩
  ·rw [if_neg (by omega)]
   exact hK
def FewA (a:Aut):Prop:=a.fEdges.length<=40/\∀ x∈a.fEdges,x.fOpens.length<=12
theorem znr (a:Aut)(hw:WfA a)(K:Option Bool)(hK:∃ b:Bool,K=some b/\(b=true->a.fEdges.length<=40)):∀ (m k:Nat),k<=a.fEdges.length->k<=60->60<m+k->(∀ x∈a.fEdges.take k,x.fOpens.length<=12)->∃ b:Bool,Jo N0 a K m (k:Int)=some b/\(b=true->FewA a)
 |0,k,h1,h2,h3,h4=>by omega
 |m+1,k,h1,h2,h3,h4=>by
  have hex:(60<=k\/a.fEdges.length<=k)->∃ b:Bool,K=some b/\(b=true->FewA a):=fun hq=>by
   obtain ⟨b,b1,b2⟩:=hK
   refine ⟨b,b1,fun hb=>⟨b2 hb,fun x hx=>h4 x ?_⟩⟩
   have:=b2 hb
   rw [take_of_length_le (by omega)]
   exact hx
  have no:∃ b:Bool,some false=some b/\(b=true->FewA a):=⟨false,rfl,fun h=>by cases h⟩
  unfold Jo
  simp only [aA,A3,Am,Aa,M4,Ff,Ax,A8,A7]
  by_cases h:k<a.fEdges.length
  rotate_left
  ·rw [if_neg (by omega)];exact hex (by omega)
  rw [if_pos (by omega)]
  by_cases h60:k<60
  rotate_left
  ·rw [if_neg (by omega)];exact hex (by omega)
  rw [if_pos (by omega),Ad h,Ae k (by omega)]
  have wx:=hw.ed _ (aF h)
  obtain ⟨b,hb⟩:=zlw wx.cond
  rw [hb,A0]
  cases b with
  |false=>rw [A7];exact no
  |true =>
  rw [A8]
  split
  ·exact no
  split
  ·exact no
  split
  ·exact no
  split
  ·exact no
  split
  ·exact no
  rename_i q1 q2 q3 q4 q5
  obtain ⟨ys,hy,hyw⟩:=wx.checks
  have hyl:ys.length<=1100000:=by have:=wx.lc;rw [hy,aA] at this;exact this
  have ih:=znr a hw K hK m (k+1) (by omega) (by omega) (by omega) (fun x hx=>by
   rw [take_succ_eq_append_getElem h] at hx
   rcases aJ.1 hx with hx|hx
   ·exact h4 x hx
   ·rw [aC.1 hx];omega)
  exact znq a (k:Int) _ ys hy hyw hyl (FewA a) _ ih N0 0 (aL _) (by unfold N0;omega)
theorem zns (a:Aut)(hw:WfA a)(P:Prop)(K:Option Bool)(hK:∃ b:Bool,K=some b/\(b=true->P)):∀ (m k:Nat),k<=a.fStates.length->k<=30->30<m+k->∃ b:Bool,Jp N0 a K m (k:Int)=some b/\(b=true->P)
 |0,k,h1,h2,h3=>by omega
 |m+1,k,h1,h2,h3=>by
  have no:∃ b:Bool,some false=some b/\(b=true->P):=⟨false,rfl,fun h=>by cases h⟩
  unfold Jp
  simp only [aA,A3,Am,Aa,M3,Gb,Ax,A8,A7]
  by_cases h:k<a.fStates.length
  rotate_left
  ·rw [if_neg (by omega)];exact hK
  rw [if_pos (by omega)]
  by_cases h60:k<30
  rotate_left
  ·rw [if_neg (by omega)];exact hK
  have ih:=zns a hw P K hK m (k+1) (by omega) (by omega) (by omega)
  obtain ⟨b,hb⟩:=zwx _ (hw.st _ (aF h))
  have hi:∀ Q:Stt->Option Bool,idx a.fStates (k:Int) Q=Q a.fStates[k]:=fun Q=>Ad h Q
  rw [if_pos (by omega),Ae k (by omega)]
  simp only [hi,hb,A0]
  repeat' split
  all_goals first|exact no|(cases b<;>first|(rw [A8];exact ih)|(rw [A7];exact no))|skip
theorem zx7 (a:Aut)(hw:WfA a):∃ b:Bool,Tk N0 a=some b/\(b=true->FewA a):=by
 unfold Tk
 refine zns a hw (FewA a) _ ?_ N0 0 (aL _) (by omega) (by unfold N0;omega)
 refine znr a hw _ ?_ N0 0 (aL _) (by omega) (by unfold N0;omega) (by simp)
 simp only [Am,Aa,Mg,aA,A3]
 split
 ·exact ⟨_,rfl,fun h=>by simp at h;omega⟩
 ·exact ⟨_,rfl,fun h=>by cases h⟩
theorem y0c {held:List Ev}(hx:CxA a held)(hst:Str Cv held)(hc:CB held a k c)(hxe:x∈a.fEdges)(he:e∈held)(h:coP a held c x e=some d)(h0:0<=d.fState):CB held a (k+1) d:=by
 have hz:=y0a hx hc hxe h
 have hd:=zgr h
 have eo:=hx.ok.ed x hxe
 refine ⟨?_,?_,?_,hz.1,hz.2⟩
 ·rw [hd] at h0 ⊢
  exact ⟨h0,eo.tgt.2⟩
 ·rw [hd]
  intro b hb
  rcases aJ.1 hb with hb|hb
  ·exact hc.bd b hb
  ·rw [aC.1 hb]
   refine ⟨eo.var,?_⟩
   rw [zrv hst he]
   rfl
 ·rw [hd]
  exact (zvx e.fTime x.fOpens hc.ss).filter _
theorem CB.up {held:List Ev}(h:CB held a k c):CB held a (k+1) c:=⟨h.st,h.bd,h.ss,by have:=h.lb;omega,by have:=h.ls;omega⟩
theorem zxa {held:List Ev}(hx:CxA a held)(hst:Str Cv held)(hc:CB held a k c)(he:e∈held)(h:d∈outP a held c e)(h0:0<=d.fState):CB held a (k+1) d:=by
 unfold outP at h
 rcases aJ.1 h with h|h
 ·split at h
  ·rw [aC.1 h]
   exact hc.up
  ·simp at h
 ·obtain ⟨x,hx',hd⟩:=mem_filterMap.1 h
  exact y0c hx hst hc (zjc hx').1 he hd h0
theorem zsz {held:List Ev}{l:List Cf}(h:d∈cfN a held l e):∃ c∈l,d∈outP a held c e/\0<=d.fState:=by
 unfold cfN at h
 obtain ⟨c,h1,h2⟩:=mem_flatMap.1 ((zn6 Yb _ _).1 h)
 exact ⟨c,h1,zye h2⟩
theorem y0e {held:List Ev}(hx:CxA a held)(hst:Str Cv held){l:List Cf}(hc:∀ c∈l,CB held a k c)(he:e∈held):∀ d∈cfN a held l e,CB held a (k+1) d:=fun d hd=>by
 obtain ⟨c,h1,h2,h3⟩:=zsz hd
 exact zxa hx hst (hc c h1) he h2 h3
def wiP (most:Nat)(a:Aut)(held:List Ev):List Ev->List Cf->List Ma->List Cf×List Ma×Bool
 |[],cs,ms=>(cs,ms,true)
 |e::r,cs,ms=>if most<(cfN a held cs e).length\/most<(puts S7 ms (maN a held cs e)).length then ([],[],false) else wiP most a held r (cfN a held cs e) (puts S7 ms (maN a held cs e))
theorem cb0 {l:List Ev}(ha:AOk a):CB l a 0 cf0:=⟨⟨by simp,by have:=ha.st;simp;omega⟩,fun b hb=>by simp at hb,by simp [SS],by simp,by simp⟩
theorem zxl {l more:List Ev}(hs:Str Cv more)(hm:∀ x∈l,x∈more){r:Rf}(h:(lkH l r).isSome=true):lkH l r=lkH more r:=by
 obtain ⟨y,hy⟩:=aT.1 h
 obtain ⟨h1,h2⟩:=zru hy
 have:=zrv hs (hm y h2)
 rw [h1] at this
 rw [hy,this]
theorem y18 {l more:List Ev}(hs:Str Cv more)(hm:∀ x∈l,x∈more){cs:List Cf}(hc:∀ c∈cs,CB l a k c):∀ c∈cs,∀ b∈c.fBindings,lkH l b.fRef=lkH more b.fRef:=fun c h b hb=>zxl hs hm ((hc c h).bd b hb).2
structure CIv (a:Aut) (rest:List Ev) (c:Cf):Prop where
 asc:c.fBindings.Pairwise (fun x y=>rCmp x.fRef y.fRef<0)
 bef:∀ b∈c.fBindings,∀ e∈rest,rCmp b.fRef (F7 e)<0
 scp:∀ s∈c.fStarts,(0<=s.fScope/\s.fScope<a.fScopes)/\0<=s.fTime/\s.fTime<=1099511627776
variable {r:List Ev}
theorem CIv.tail (h:CIv a (e::r) c):CIv a r c:=⟨h.asc,fun b hb x hx=>h.bef b hb x (aK _ hx),h.scp⟩
theorem y0b (ha:AOk a){held:List Ev}(hst:Str Cv (e::r))(hp:E1 e=true)(h:CIv a (e::r) c)(hx:x∈a.fEdges)(hd:coP a held c x e=some d):CIv a r d:=by
 rw [zgr hd]
 obtain ⟨s1,s2⟩:=pairwise_cons.1 hst
 refine ⟨?_,fun b hb y hy=>?_,fun s hs=>?_⟩
 ·show Pairwise _ (bdN c x e)
  unfold bdN
  rw [pairwise_append]
  exact ⟨h.asc,pairwise_singleton _ _,fun b hb y hy=>by rw [aC.1 hy];exact h.bef b hb e (by simp)⟩
 ·rcases aJ.1 hb with hb|hb
  ·exact h.bef b hb y (aK _ hy)
  ·rw [aC.1 hb];exact s1 y hy
 ·have hs':=(aV.1 hs).1
  rcases opL_mem e.fTime x.fOpens hs' with ⟨k1,k2⟩|k
  ·refine ⟨(ha.ed x hx).opn _ k1,?_⟩
   rw [k2]
   unfold E1 at hp
   simp only [Bool.and_eq_true,decide_eq_true_eq] at hp
   exact ⟨hp.1,hp.2.1⟩
  ·exact h.scp s k
theorem zx9 (ha:AOk a){held:List Ev}(hst:Str Cv (e::r))(hp:E1 e=true)(h:CIv a (e::r) c)(hd:d∈outP a held c e):CIv a r d:=by
 unfold outP at hd
 rcases aJ.1 hd with hd|hd
 ·split at hd
  ·rw [aC.1 hd];exact h.tail
  ·simp at hd
 ·obtain ⟨x,hx,hd⟩:=mem_filterMap.1 hd
  exact y0b ha hst hp h (zjc hx).1 hd
theorem y0d (ha:AOk a){held:List Ev}(hst:Str Cv (e::r))(hp:E1 e=true){cs:List Cf}(h:∀ c∈cs,CIv a (e::r) c):∀ d∈cfN a held cs e,CIv a r d:=fun d hd=>by
 obtain ⟨c,h1,h2,_⟩:=zsz hd
 exact zx9 ha hst hp (h c h1) h2
theorem zn1 {held:List Ev}:∀ (p:List Ev) (cs:List Cf) (ms:List Ma),(wiP 150 a held (p++[e]) cs ms).2.2=true->∃ x m,wiP 150 a held p cs ms=(x,m,true)/\wiP 150 a held (p++[e]) cs ms=(cfN a held x e,puts S7 m (maN a held x e),true)/\(cfN a held x e).length<=150/\(puts S7 m (maN a held x e)).length<=150
 |[],cs,ms,h=>by
  refine ⟨cs,ms,rfl,?_⟩
  rw [nil_append] at h ⊢
  unfold wiP at h ⊢
  split at h
  ·cases h
  ·rename_i q
   rw [if_neg q]
   exact ⟨rfl,by omega,by omega⟩
 |f::p,cs,ms,h=>by
  rw [cons_append] at h ⊢
  unfold wiP at h ⊢
  split at h
  ·cases h
  ·rename_i q
   rw [if_neg q,if_neg q]
   exact zn1 p _ _ h
structure GS (a:Aut) (l:List Ev):Prop where
 wf:WfA a
 few:FewA a
 ok:AOk a
 chk:E9 N0 a=some 0
 acheck:C1 N0 a=some 0
 str:Ii l=0
 len:l.length<=12
 sm:(wiP 150 a l l [cf0] []).2.2=true
theorem GS.so {l:List Ev}(h:GS a l):y0m l:=zl7 h.str
theorem GS.cx {l:List Ev}(h:GS a l):CxA a l:=⟨h.wf,h.ok,fun x hx=>by have:=h.few.2 x hx;omega,by have:=h.len;omega⟩
structure Gd57 (a:Aut) (l:List Ev) (i:Nat) (c:Cf):Prop where
 cb:CB l a (i+20) c
 ci:CIv a (l.drop i) c
theorem CB.mono {l:List Ev}{m:Nat}(h:CB l a k c)(hk:k<=m):CB l a m c:=⟨h.st,h.bd,h.ss,aU h.lb hk,aU h.ls (Nat.mul_le_mul_left _ hk)⟩
theorem gd0 {l:List Ev}(h:GS a l):Gd57 a l 0 cf0:=⟨(cb0 h.ok).mono (aL _),by simp,fun b hb=>by simp at hb,fun s hs=>by simp at hs⟩
theorem Gd57.held {l:List Ev}(h:GS a l)(hc:Gd57 a l i c):CB (l.take i) a (i+20) c:=by
 refine ⟨hc.cb.st,fun b hb=>⟨(hc.cb.bd b hb).1,?_⟩,hc.cb.ss,hc.cb.lb,hc.cb.ls⟩
 have h1:=(hc.cb.bd b hb).2
 rw [<-take_append_drop i l,zxm] at h1
 cases hq:lkH (l.take i) b.fRef with
 |some e=>rfl
 |none =>
  rw [hq] at h1
  obtain ⟨e,he⟩:=aT.1 h1
  obtain ⟨e1,e2⟩:=zru (by simpa using he)
  have:=hc.ci.bef b hb e e2
  rw [e1] at this
  have:=Yg.lt_ne this
  exact absurd rfl this
theorem Gd57.ok {l:List Ev}(h:GS a l)(hi:i<=12)(hc:Gd57 a l i c):cfOk c=true:=hc.cb.sz.ok (by omega)
theorem Gd57.cs {l:List Ev}(h:GS a l)(hi:i<=12)(hc:Gd57 a l i c):CS (Il a) c:=by
 have h1:=hc.cb.st
 have h2:=hc.cb.lb
 have h3:=hc.cb.ls
 exact ⟨by rw [(zvf a).1.len];exact h1,by omega,by omega⟩
theorem zyb {l:List Ev}(hi:i<l.length):l.drop i=l[i]::l.drop (i+1):=aB hi
theorem ztl {l:List Ev}(h:Str Cv l)(i:Nat):Str Cv (l.drop i):=Pairwise.sublist (drop_sublist i l) h
theorem Gd57.next {l:List Ev}(h:GS a l)(hi:i<l.length){cs:List Cf}(hc:∀ c∈cs,Gd57 a l i c):∀ d∈cfN a l cs l[i],Gd57 a l (i+1) d:=fun d hd=>by
 have so:=h.so
 have e:=zyb hi
 refine ⟨(y0e h.cx so.st (fun c hc'=>(hc c hc').cb) (aF hi) d hd).mono (by omega),?_⟩
 have hst:=ztl so.st i
 rw [e] at hst
 refine y0d h.ok hst (so.pl _ (aF hi)) (fun c hc'=>?_) d hd
 have:=(hc c hc').ci
 rw [e] at this
 exact this
theorem Gd57.lk {l:List Ev}(h:GS a l){cs:List Cf}(hc:∀ c∈cs,Gd57 a l i c):∀ c∈cs,∀ b∈c.fBindings,lkH (l.take i) b.fRef=lkH l b.fRef :=
 y18 h.so.st (fun y hy=>mem_of_mem_take hy) (fun c hc'=>(hc c hc').held h)
theorem Xu {α:Type}{n:Nat}{l:List α}(h:l.length<=1000000000):Ez n l=some l:=by unfold Ez;exact if_pos h
def covd (R:List Mp)(l:List Cf)(d:Cf):Bool:=l.any (fun c=>cov R c d)
structure zwc (a:Aut) (l:List Ev) (S:List (List Cf)):Prop where
 ln:S.length=l.length+1
 few:∀ i (hi:i<S.length),S[i].length<=4096
 gd:∀ i (hi:i<S.length),∀ c∈S[i],Gd57 a l i c
theorem zwc.cs {l:List Ev}(h:GS a l){S:List (List Cf)}(hS:zwc a l S)(hi:i<S.length):∀ c∈S[i],CS (Il a) c:=fun c hc=>(hS.gd i hi c hc).cs h (by have:=hS.ln;have:=h.len;omega)
end Go.Proofs.YthbogefcfhmpgaaGreat
