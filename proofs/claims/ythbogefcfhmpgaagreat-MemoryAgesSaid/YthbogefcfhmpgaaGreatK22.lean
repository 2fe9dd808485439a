/- Layer 56, plainly. -/
import Derived.Test.YthbogefcfhmpgaaGreatK21
set_option linter.unusedVariables false
set_option linter.unusedSimpArgs false
namespace Go.Proofs.YthbogefcfhmpgaaGreat
open Go.RowKit List
open List renaming length_map->aA,drop_eq_getElem_cons->aB,drop_eq_nil_of_le->aC,getElem_mem->aD,mem_singleton->aE,getElem?_eq_getElem->aF,mem_append->aJ,take_succ_eq_append_getElem->aL,mem_cons->aM,mem_cons_of_mem->aN,length_eraseIdx_of_lt->aP,drop_zero->aQ,take_of_length_le->aT,mem_filter->aW,foldl_cons->aX,nodup_cons->aZ,length_set->bA,getElem_cons_zero->bB,getElem_cons_succ->bC,getElem?_set->bD,countP_le_length->bF,length_filter_le->bG,length_singleton->bH,getElem_map->bJ,map_cons->bK,replicate->bL
open Int renaming natCast_zero->aG,toNat_natCast->aS,toNat_of_nonneg->aY
open Or renaming inr->aH,inl->aK
open Nat renaming zero_le->aO,le_trans->aV,le_refl->bI
open Iff renaming rfl->aR
open Option renaming isSome_iff_exists->aU
theorem U4 {α:Type}[DecidableEq α]:∀ {l l':List α},l.Nodup->(∀ x∈l,x∈l')->l.length<=l'.length
 |[],l',_,_=>aO _
 |a::l,l',h,hs=>by
  have ha:=hs a (by simp)
  have:=U4 (l:=l) (l':=l'.erase a) (aZ.1 h).2 (fun x hx=>(mem_erase_of_ne (fun (e:x=a)=>(aZ.1 h).1 (e▸hx))).2 (hs x (aN _ hx)))
  rw [length_erase_of_mem ha] at this
  have:=length_pos_of_mem ha
  simp only [length_cons];omega
structure MK (l:Mp):Prop where
 nd:(l.map (·.1)).Nodup
 tr:∀ p∈l,p.2=true
theorem MK.nil:MK []:=⟨List.nodup_nil,by simp⟩
theorem Dz (v:Int):¬has ([]:Mp) v:=by simp [has]
theorem Qi (p:Int×Bool)(r:Mp)(v:Int):has (p::r) v ↔ v=p.1\/has r v:=by simp [has]
variable {l:Mp}
theorem zkj {v:Int}(h:¬has l v):mlk l v=none:=by
 induction l with
 |nil=>rfl
 |cons p r ih =>
  obtain ⟨a,b⟩:=p
  rw [Qi,not_or] at h
  unfold mlk
  rw [if_neg h.1]
  exact ih h.2
theorem MK.tail {p:Int×Bool}{r:Mp}(h:MK (p::r)):MK r:=⟨(aZ.1 h.nd).2,fun q hq=>h.tr q (aN _ hq)⟩
theorem MK.some (h:MK l){v:Int}(q:has l v):mlk l v=some true:=by
 induction l with
 |nil=>exact absurd q (Dz v)
 |cons p r ih =>
  have hb:=h.tr p (by simp)
  have ht:=h.tail
  obtain ⟨a,b⟩:=p
  unfold mlk
  by_cases e:v=a
  ·rw [if_pos e];simp only at hb;rw [hb]
  ·rw [if_neg e]
   exact ih ht (((Qi _ _ _).1 q).resolve_left e)
theorem MK.get (h:MK l)(v:Int):(mlk l v).getD false=true ↔ has l v:=by
 by_cases q:has l v
 ·rw [h.some q];simp [q]
 ·rw [zkj q];simp [q]
theorem zi3 {k:Int}(h:¬has l k):mput l k true=l++[(k,true)]:=by
 induction l with
 |nil=>rfl
 |cons p r ih =>
  obtain ⟨a,b⟩:=p
  rw [Qi,not_or] at h
  unfold mput
  rw [if_neg h.1,ih h.2]
  rfl
theorem MK.put_in (h:MK l){k:Int}(q:has l k):mput l k true=l:=by
 induction l with
 |nil=>exact absurd q (Dz k)
 |cons p r ih =>
  have hb:=h.tr p (by simp)
  have ht:=h.tail
  obtain ⟨a,b⟩:=p
  unfold mput
  simp only at hb
  by_cases e:k=a
  ·rw [if_pos e,hb,e]
  ·rw [if_neg e,ih ht (((Qi _ _ _).1 q).resolve_left e)]
theorem MK.has_put (h:MK l)(k v:Int):has (mput l k true) v ↔ v=k\/has l v:=by
 by_cases q:has l k
 ·rw [h.put_in q]
  exact ⟨aH,fun e=>e.elim (fun e=>e▸q) id⟩
 ·rw [zi3 q]
  simp only [has,map_append,aJ,bK,map_nil,aE]
  exact Or.comm
theorem MK.put (h:MK l)(k:Int):MK (mput l k true):=by
 by_cases q:has l k
 ·rw [h.put_in q];exact h
 ·rw [zi3 q]
  refine ⟨?_,fun p hp=>?_⟩
  ·rw [map_append,nodup_append]
   refine ⟨h.nd,by simp,fun a ha b hb=>?_⟩
   simp only [bK,map_nil,aE] at hb
   rw [hb]
   exact fun e=>q (e▸ha)
  ·rcases aJ.1 hp with hp|hp
   ·exact h.tr p hp
   ·rw [aE] at hp;rw [hp]
instance decHas (l:Mp)(v:Int):Decidable (has l v):=inferInstanceAs (Decidable (v∈l.map (·.1)))
theorem MK.perm {l':Mp}(h:MK l)(p:l.Perm l'):MK l':=⟨((p.map _).nodup_iff).1 h.nd,fun q hq=>h.tr q (p.mem_iff.2 hq)⟩
theorem Xg {l':Mp}(p:l.Perm l')(v:Int):has l v ↔ has l' v:=(p.map _).mem_iff
theorem MK.out (h:MK l){j:Nat}(hj:j<l.length):MK (l.eraseIdx j)/\¬has (l.eraseIdx j) l[j].1/\∀ v,has l v ↔ v=l[j].1\/has (l.eraseIdx j) v:=by
 have p:(l[j]::l.eraseIdx j).Perm l:=N7 hj
 have h':=h.perm p.symm
 refine ⟨h'.tail,fun q=>(aZ.1 h'.nd).1 q,fun v=>?_⟩
 rw [<-Qi]
 exact Xg p.symm v
theorem zhm {l':Mp}(h:Srt l)(h':Srt l')(t:∀ p∈l,p.2=true)(t':∀ p∈l',p.2=true)(hk:∀ x,has l x ↔ has l' x):l=l':=by
 have s1:Str cmpI (l.map (·.1)):=h.imp (fun q=>(Xl _ _).2 q)
 have s2:Str cmpI (l'.map (·.1)):=h'.imp (fun q=>(Xl _ _).2 q)
 have e:=Str.uniq Hq s1 s2 hk
 have f:∀ q:Mp,(∀ p∈q,p.2=true)->q=(q.map (·.1)).map (fun x=>(x,true)):=fun q hq=>by
  rw [map_map]
  conv=>lhs;rw [<-map_id q]
  exact map_congr_left (fun p hp=>by have:=hq p hp;cases p;simp_all)
 rw [f l t,f l' t',e]
theorem MK.sort (h:MK l):MK (C5 l)/\Srt (C5 l)/\(C5 l).length=l.length/\∀ v,has (C5 l) v ↔ has l v :=
 ⟨h.perm (Jv h.nd).symm,Tu l,(Jv h.nd).length_eq,Xg (Jv h.nd)⟩
theorem W7 (n:Nat)(s:Int)(a:Aut)(hl:a.fEdges.length<=1100000):∀ (m k:Nat) (acc:List Int),k<=a.fEdges.length->a.fEdges.length<m+k->acc.length<=k->∃ L,J1 n s a (fun y=>some y) m ((k:Int),acc)=some L/\L.length<=a.fEdges.length/\∀ i:Int,i∈L ↔ i∈acc\/∃ j:Nat,k<=j/\i=(j:Int)/\∃ x,a.fEdges[j]? = some x/\x.fFrom=s
 |0,k,acc,h1,h2,h3=>by omega
 |m+1,k,acc,h1,h2,h3=>by
  unfold J1
  simp only [aA,A6,Ae]
  by_cases h:k<a.fEdges.length
  ·rw [if_pos (by omega),Al h,Ai k (by omega)]
   have hk:a.fEdges[k]? = some a.fEdges[k]:=aF h
   by_cases q:a.fEdges[k].fFrom=s
   ·rw [if_pos q,C8 (by simp;omega) (by decide)]
    obtain ⟨L,e1,e2,e3⟩:=W7 n s a hl m (k+1) (acc++[(k:Int)]) (by omega) (by omega) (by simp;omega)
    refine ⟨L,e1,e2,fun i=>?_⟩
    rw [e3,aJ,aE]
    constructor
    ·rintro ((h|h)|⟨j,j1,j2⟩)
     ·exact aK h
     ·exact aH ⟨k,bI _,h,_,hk,q⟩
     ·exact aH ⟨j,by omega,j2⟩
    ·rintro (h|⟨j,j1,j2,j3⟩)
     ·exact aK (aK h)
     ·by_cases e:j=k
      ·subst e;exact aK (aH j2)
      ·exact aH ⟨j,by omega,j2,j3⟩
   ·rw [if_neg q]
    obtain ⟨L,e1,e2,e3⟩:=W7 n s a hl m (k+1) acc (by omega) (by omega) (by omega)
    refine ⟨L,e1,e2,fun i=>?_⟩
    rw [e3]
    constructor
    ·rintro (h|⟨j,j1,j2⟩)
     ·exact aK h
     ·exact aH ⟨j,by omega,j2⟩
    ·rintro (h|⟨j,j1,j2,x,j3,j4⟩)
     ·exact aK h
     ·by_cases e:j=k
      ·subst e;rw [hk] at j3;injection j3 with j3;exact absurd (j3▸j4) q
      ·exact aH ⟨j,by omega,j2,x,j3,j4⟩
  ·rw [if_neg (by omega)]
   refine ⟨acc,rfl,by omega,fun i=>⟨aK,fun h=>h.elim id fun ⟨j,j1,j2,x,j3,_⟩=>?_⟩⟩
   have:=(List.getElem?_eq_some_iff.1 j3).1
   omega
theorem zba (n:Nat)(hn:10000000<n)(s:Int)(a:Aut)(hl:a.fEdges.length<=1100000):∃ L,Pe n a s=some L/\L.length<=a.fEdges.length/\∀ i:Int,i∈L ↔ ∃ j:Nat,i=(j:Int)/\∃ x,a.fEdges[j]? = some x/\x.fFrom=s:=by
 obtain ⟨L,e1,e2,e3⟩:=W7 n s a hl n 0 [] (by omega) (by omega) (by simp)
 refine ⟨L,e1,e2,fun i=>?_⟩
 rw [e3]
 simp
def nxS (a:Aut)(s t:Int):Prop:=∃ x∈a.fEdges,x.fFrom=s/\x.fTo=t/\0<=t
def prS (a:Aut)(s t:Int):Prop:=∃ x∈a.fEdges,x.fTo=s/\x.fFrom=t
theorem Wg (n:Nat)(a:Aut)(L:List Int)(hL:L.length<=1100000)(hr:∀ i∈L,∃ j:Nat,i=(j:Int)/\j<a.fEdges.length):∀ (m k:Nat) (acc:List Int),k<=L.length->L.length<m+k->acc.length<=k->∃ R,I4 n a L (fun y=>some y) m ((k:Int),acc)=some R/\R.length<=L.length/\∀ t:Int,t∈R ↔ t∈acc\/∃ i∈L.drop k,∃ j:Nat,i=(j:Int)/\∃ x,a.fEdges[j]? = some x/\x.fTo=t/\0<=t
 |0,k,acc,h1,h2,h3=>by omega
 |m+1,k,acc,h1,h2,h3=>by
  unfold I4
  simp only [aA,A6,Ae]
  by_cases h:k<L.length
  ·obtain ⟨j,j1,j2⟩:=hr L[k] (aD h)
   have hj:a.fEdges[j]? = some a.fEdges[j]:=aF j2
   rw [if_pos (by omega),Al h,Ai k (by omega),j1,Al j2,aB h]
   simp only [aM,exists_eq_or_imp]
   have key:∀ t:Int,(∃ i:Nat,L[k]=(i:Int)/\∃ x,a.fEdges[i]? = some x/\x.fTo=t/\0<=t) ↔ (a.fEdges[j].fTo=t/\0<=t):=fun t=>by
    rw [j1]
    constructor
    ·rintro ⟨i,i1,x,i2,i3⟩
     have:i=j:=by omega
     rw [this,hj] at i2
     injection i2 with i2
     rw [i2];exact i3
    ·intro q;exact ⟨j,rfl,_,hj,q⟩
   simp only [key]
   by_cases q:0<=a.fEdges[j].fTo
   ·rw [if_pos q,C8 (by simp;omega) (by decide)]
    obtain ⟨R,e1,e2,e3⟩:=Wg n a L hL hr m (k+1) (acc++[a.fEdges[j].fTo]) (by omega) (by omega) (by simp;omega)
    refine ⟨R,e1,e2,fun t=>?_⟩
    rw [e3,aJ,aE,or_assoc]
    refine or_congr aR (or_congr ⟨fun e=>⟨e.symm,e▸q⟩,fun e=>e.1.symm⟩ aR)
   ·rw [if_neg q]
    obtain ⟨R,e1,e2,e3⟩:=Wg n a L hL hr m (k+1) acc (by omega) (by omega) (by omega)
    refine ⟨R,e1,e2,fun t=>?_⟩
    rw [e3]
    refine or_congr aR ⟨aH,fun h=>h.elim (fun e=>absurd (e.1▸e.2) q) id⟩
  ·rw [if_neg (by omega),aC (by omega)]
   exact ⟨acc,rfl,by omega,fun t=>by simp⟩
theorem zf4 (n:Nat)(hn:10000000<n)(s:Int)(a:Aut)(hl:a.fEdges.length<=1100000):∃ R,Oh n s a=some R/\R.length<=1100000/\∀ t:Int,t∈R ↔ nxS a s t:=by
 obtain ⟨L,e1,e2,e3⟩:=zba n hn s a hl
 have hr:∀ i∈L,∃ j:Nat,i=(j:Int)/\j<a.fEdges.length:=fun i hi=>by
  obtain ⟨j,j1,x,j2,_⟩:=(e3 i).1 hi
  exact ⟨j,j1,(List.getElem?_eq_some_iff.1 j2).1⟩
 obtain ⟨R,f1,f2,f3⟩:=Wg n a L (by omega) hr n 0 [] (by omega) (by omega) (by simp)
 unfold Oh
 rw [e1,A4]
 refine ⟨R,f1,by omega,fun t=>?_⟩
 rw [f3]
 simp only [aQ,not_mem_nil,false_or]
 constructor
 ·rintro ⟨i,hi,j,j1,x,j2,j3,j4⟩
  obtain ⟨j',j1',x',j2',j3'⟩:=(e3 i).1 hi
  have:j'=j:=by omega
  rw [this,j2] at j2'
  injection j2' with j2'
  exact ⟨x,mem_of_getElem? j2,j2'▸j3',j3,j4⟩
 ·rintro ⟨x,hx,x1,x2,x3⟩
  obtain ⟨j,hj,e⟩:=mem_iff_getElem.1 hx
  have hj':a.fEdges[j]? = some x:=by rw [aF hj,e]
  exact ⟨(j:Int),(e3 _).2 ⟨j,rfl,x,hj',x1⟩,j,rfl,x,hj',x2,x3⟩
theorem W5 (n:Nat)(a:Aut)(s:Int)(hl:a.fEdges.length<=1100000):∀ (m k:Nat) (acc:List Int),k<=a.fEdges.length->a.fEdges.length<m+k->acc.length<=k->∃ R,Ir n a s (fun y=>some y) m ((k:Int),acc)=some R/\R.length<=a.fEdges.length/\∀ t:Int,t∈R ↔ t∈acc\/∃ x∈a.fEdges.drop k,x.fTo=s/\x.fFrom=t
 |0,k,acc,h1,h2,h3=>by omega
 |m+1,k,acc,h1,h2,h3=>by
  unfold Ir
  simp only [aA,A6,Ae]
  by_cases h:k<a.fEdges.length
  ·rw [if_pos (by omega),Al h,Ai k (by omega),aB h]
   simp only [aM,exists_eq_or_imp]
   by_cases q:a.fEdges[k].fTo=s
   ·rw [if_pos q,C8 (by simp;omega) (by decide)]
    obtain ⟨R,e1,e2,e3⟩:=W5 n a s hl m (k+1) (acc++[a.fEdges[k].fFrom]) (by omega) (by omega) (by simp;omega)
    refine ⟨R,e1,e2,fun t=>?_⟩
    rw [e3,aJ,aE,or_assoc]
    exact or_congr aR (or_congr ⟨fun e=>⟨q,e.symm⟩,fun e=>e.2.symm⟩ aR)
   ·rw [if_neg q]
    obtain ⟨R,e1,e2,e3⟩:=W5 n a s hl m (k+1) acc (by omega) (by omega) (by omega)
    refine ⟨R,e1,e2,fun t=>?_⟩
    rw [e3]
    exact or_congr aR ⟨aH,fun h=>h.elim (fun e=>absurd e.1 q) id⟩
  ·rw [if_neg (by omega),aC (by omega)]
   exact ⟨acc,rfl,by omega,fun t=>by simp⟩
theorem zb6 (n:Nat)(hn:10000000<n)(s:Int)(a:Aut)(hl:a.fEdges.length<=1100000):∃ R,Se n s a=some R/\R.length<=1100000/\∀ t:Int,t∈R ↔ prS a s t:=by
 obtain ⟨R,f1,f2,f3⟩:=W5 n a s hl n 0 [] (by omega) (by omega) (by simp)
 refine ⟨R,f1,by omega,fun t=>?_⟩
 rw [f3]
 simp [prS]
def hs (m:List Bool)(t:Int):Prop:=0<=t/\m[t.toNat]? = some true
def fre (m:List Bool):Nat:=m.countP (fun b=>!b)
variable {m:List Bool}{i:Nat}
theorem Qn (hi:i<m.length)(q:m[i]=false):fre (m.set i true)+1=fre m:=by
 unfold fre
 induction m generalizing i with
 |nil=>simp at hi
 |cons b r ih =>
  cases i with
  |zero=>simp only [bB] at q;subst q;simp
  |succ i =>
   simp only [bC] at q
   have:=ih (by simpa using hi) q
   simp only [set_cons_succ,countP_cons]
   omega
variable {w:List Bool}
theorem Qr (hl:m.length=w.length)(h:∀ t,hs m t->hs w t):fre w<=fre m:=by
 unfold fre
 induction m generalizing w with
 |nil=>cases w with|nil=>simp|cons=>simp at hl
 |cons b r ih =>
  cases w with
  |nil=>simp at hl
  |cons c q =>
   have:=ih (w:=q) (by simpa using hl) (fun t ht=>by
    have:=h (t+1) ⟨by have:=ht.1;omega,by have:=ht.1;rw [show (t+1).toNat=t.toNat+1 by omega];simpa using ht.2⟩
    have h0:=ht.1
    refine ⟨h0,?_⟩
    have h2:=this.2
    rw [show (t+1).toNat=t.toNat+1 by omega] at h2
    simpa using h2)
   simp only [countP_cons]
   have hb:b=true->c=true:=fun e=>by
    have:=(h 0 ⟨by omega,by simp [e]⟩).2
    simpa using this
   cases b<;>cases c<;>simp_all<;>omega
theorem Hu (hi:i<m.length)(t:Int):hs (m.set i true) t ↔ t=(i:Int)\/hs m t:=by
 unfold hs
 rw [bD]
 by_cases e:t=(i:Int)
 ·subst e;simp [hi]
 ·constructor
  ·rintro ⟨h0,h1⟩
   rw [if_neg (by omega)] at h1
   exact aH ⟨h0,h1⟩
  ·rintro (h|⟨h0,h1⟩)
   ·exact absurd h e
   ·refine ⟨h0,?_⟩
    rw [if_neg (by omega)]
    exact h1
theorem Hv (N:Nat)(t:Int):¬hs (bL N false) t:=by
 rintro ⟨_,h⟩
 rw [getElem?_replicate] at h
 split at h<;>simp at h
structure Gr (P:Int->Int->Prop) (N:Nat) (w w':List Bool):Prop where
 len:w'.length=N
 mono:∀ t,hs w t->hs w' t
 clo:∀ t,hs w' t->hs w t\/∀ u,P t u->hs w' u
variable {P:Int->Int->Prop}{N:Nat}
theorem Gr.refl (h:w.length=N):Gr P N w w:=⟨h,fun _ h=>h,fun _ h=>aK h⟩
theorem Gr.trans {w1 w2:List Bool}(h:Gr P N w w1)(g:Gr P N w1 w2):Gr P N w w2 :=
 ⟨g.len,fun t q=>g.mono t (h.mono t q),fun t q=>(g.clo t q).elim (fun q=>(h.clo t q).elim aK (fun q=>aH fun u hu=>g.mono u (q u hu))) aH⟩
theorem zf8 (n:Nat)(rF:Int->Aut->List Bool->Option (List Bool))(a:Aut)(X:List Int)(hX:X.length<=1100000)(N B:Nat)(rec:∀ s∈X,∀ w:List Bool,w.length=N->fre w<=B->∃ w',rF s a w=some w'/\Gr P N w w'/\hs w' s):∀ (m k:Nat) (w:List Bool),k<=X.length->X.length<m+k->w.length=N->fre w<=B->∃ w',H5 n rF a X (fun y=>some y) m ((k:Int),w)=some w'/\Gr P N w w'/\∀ s∈X.drop k,hs w' s
 |0,k,w,h1,h2,h3,h4=>by omega
 |m+1,k,w,h1,h2,h3,h4=>by
  unfold H5
  simp only [aA,A6]
  by_cases h:k<X.length
  ·obtain ⟨w1,e1,g1,s1⟩:=rec X[k] (aD h) w h3 h4
   rw [if_pos (by omega),Al h,Ai k (by omega),e1,Dx,aB h]
   obtain ⟨w2,e2,g2,s2⟩:=zf8 n rF a X hX N B rec m (k+1) w1 (by omega) (by omega) g1.len (aV (Qr (h3.trans g1.len.symm) g1.mono) h4)
   refine ⟨w2,e2,g1.trans g2,fun s q=>?_⟩
   rcases aM.1 q with q|q
   ·rw [q];exact g2.mono _ s1
   ·exact s2 s q
  ·rw [if_neg (by omega),aC (by omega)]
   exact ⟨w,rfl,Gr.refl h3,by simp⟩
theorem Yl (a:Aut)(hl:a.fEdges.length<=1100000)(N:Nat)(hN:∀ s t,nxS a s t->0<=t/\t.toNat<N):∀ (f:Nat) (s:Int) (w:List Bool),fre w<=f->w.length=N->0<=s->s.toNat<N->∀ n,20000000+f<n->∃ w',Ey n s a w=some w'/\Gr (nxS a) N w w'/\hs w' s
 |f,s,w,h1,h2,h3,h4,n,hn=>by
  obtain ⟨n,rfl⟩:∃ n',n=n' + 1:=⟨n-1,by omega⟩
  have hs4:s.toNat<w.length:=by omega
  unfold Ey
  simp only [aA]
  rw [C1 h3 hs4,D1 hs4]
  by_cases q:w[s.toNat]=true
  ·rw [q,Af]
   exact ⟨w,rfl,Gr.refl h2,h3,by rw [aF hs4,q]⟩
  ·have q':w[s.toNat]=false:=by simpa using q
   have hf:=Qn hs4 q'
   rw [q',Ag,C1 h3 hs4,C9 hs4]
   obtain ⟨X,x1,x2,x3⟩:=zf4 n (by omega) s a hl
   rw [x1,A4]
   cases f with
   |zero=>omega
   |succ f =>
    have hset:∀ t,hs (w.set s.toNat true) t ↔ t=s\/hs w t:=fun t=>by rw [Hu hs4,aY h3]
    obtain ⟨w',e1,g1,s1⟩:=zf8 (P:=nxS a) n (Ey n) a X x2 N f (fun t ht v hv hfv=>Yl a hl N hN f t v hfv hv (hN _ _ ((x3 t).1 ht)).1 (hN _ _ ((x3 t).1 ht)).2 n (by omega)) n 0 (w.set s.toNat true) (by omega) (by omega) (by rw [bA];exact h2) (by omega)
    refine ⟨w',e1,⟨g1.len,fun t ht=>g1.mono t ((hset t).2 (aH ht)),fun t ht=>?_⟩,g1.mono s ((hset s).2 (aK rfl))⟩
    rcases g1.clo t ht with h|h
    ·rcases (hset t).1 h with h|h
     ·refine aH fun u hu=>s1 u ?_
      rw [aQ,x3,<-h]
      exact hu
     ·exact aK h
    ·exact aH h
theorem zbg (n:Nat)(hn:30000000<n)(a:Aut)(hl:a.fEdges.length<=1100000)(N:Nat)(hN':N<=1000000)(hN:∀ s t,nxS a s t->0<=t/\t.toNat<N)(X:List Int)(hX:X.length<=1100000)(hXr:∀ s∈X,0<=s/\s.toNat<N):∀ (m k:Nat) (w:List Bool),k<=X.length->X.length<m+k->w.length=N->∃ w',Ha n a X (fun y=>some y) m ((k:Int),w)=some w'/\Gr (nxS a) N w w'/\∀ s∈X.drop k,hs w' s
 |0,k,w,h1,h2,h3=>by omega
 |m+1,k,w,h1,h2,h3=>by
  unfold Ha
  simp only [aA,A6,Ae]
  by_cases h:k<X.length
  ·have hx:=hXr X[k] (aD h)
   have hfw:fre w<=N:=by unfold fre;rw [<-h3];exact bF
   obtain ⟨w1,e1,g1,s1⟩:=Yl a hl N hN N X[k] w hfw h3 hx.1 hx.2 n (by omega)
   rw [if_pos (by omega),Al h,Ai k (by omega),e1,Dx,aB h]
   obtain ⟨w2,e2,g2,s2⟩:=zbg n hn a hl N hN' hN X hX hXr m (k+1) w1 (by omega) (by omega) g1.len
   refine ⟨w2,e2,g1.trans g2,fun s q=>?_⟩
   rcases aM.1 q with q|q
   ·rw [q];exact g2.mono _ s1
   ·exact s2 s q
  ·rw [if_neg (by omega),aC (by omega)]
   exact ⟨w,rfl,Gr.refl h3,by simp⟩
theorem zlm (n:Nat)(hn:30000000<n)(a:Aut)(hl:a.fEdges.length<=1100000)(hN':a.fStates.length<=1000000)(hN:∀ s t,nxS a s t->0<=t/\t.toNat<a.fStates.length)(X:List Int)(hX:X.length<=1100000)(hXr:∀ s∈X,0<=s/\s.toNat<a.fStates.length):∃ w,Ji n a X a=some w/\w.length=a.fStates.length/\(∀ s∈X,hs w s)/\∀ t,hs w t->∀ u,nxS a t u->hs w u:=by
 unfold Ji
 simp only [aA]
 rw [Di (by omega) (by decide)]
 obtain ⟨w,e,g,s⟩:=zbg n hn a hl a.fStates.length hN' hN X hX hXr n 0 (bL a.fStates.length false) (by omega) (by omega) (by simp)
 exact ⟨w,e,g.len,fun t ht=>s t (by simpa using ht),fun t ht=>(g.clo t ht).resolve_left (Hv _ _)⟩
theorem zf7 (n:Nat)(rF:Int->Aut->List Bool->Option (List Bool))(a:Aut)(X:List Int)(hX:X.length<=1100000)(N B:Nat)(rec:∀ s∈X,∀ w:List Bool,w.length=N->fre w<=B->∃ w',rF s a w=some w'/\Gr P N w w'/\hs w' s):∀ (m k:Nat) (w:List Bool),k<=X.length->X.length<m+k->w.length=N->fre w<=B->∃ w',Gl n rF a X (fun y=>some y) m ((k:Int),w)=some w'/\Gr P N w w'/\∀ s∈X.drop k,hs w' s
 |0,k,w,h1,h2,h3,h4=>by omega
 |m+1,k,w,h1,h2,h3,h4=>by
  unfold Gl
  simp only [aA,A6]
  by_cases h:k<X.length
  ·obtain ⟨w1,e1,g1,s1⟩:=rec X[k] (aD h) w h3 h4
   rw [if_pos (by omega),Al h,Ai k (by omega),e1,Dx,aB h]
   obtain ⟨w2,e2,g2,s2⟩:=zf7 n rF a X hX N B rec m (k+1) w1 (by omega) (by omega) g1.len (aV (Qr (h3.trans g1.len.symm) g1.mono) h4)
   refine ⟨w2,e2,g1.trans g2,fun s q=>?_⟩
   rcases aM.1 q with q|q
   ·rw [q];exact g2.mono _ s1
   ·exact s2 s q
  ·rw [if_neg (by omega),aC (by omega)]
   exact ⟨w,rfl,Gr.refl h3,by simp⟩
theorem Yk (a:Aut)(hl:a.fEdges.length<=1100000)(N:Nat)(hN:∀ s t,prS a s t->0<=t/\t.toNat<N):∀ (f:Nat) (s:Int) (w:List Bool),fre w<=f->w.length=N->0<=s->s.toNat<N->∀ n,20000000+f<n->∃ w',Eo n s a w=some w'/\Gr (prS a) N w w'/\hs w' s
 |f,s,w,h1,h2,h3,h4,n,hn=>by
  obtain ⟨n,rfl⟩:∃ n',n=n' + 1:=⟨n-1,by omega⟩
  have hs4:s.toNat<w.length:=by omega
  unfold Eo
  simp only [aA]
  rw [C1 h3 hs4,D1 hs4]
  by_cases q:w[s.toNat]=true
  ·rw [q,Af]
   exact ⟨w,rfl,Gr.refl h2,h3,by rw [aF hs4,q]⟩
  ·have q':w[s.toNat]=false:=by simpa using q
   have hf:=Qn hs4 q'
   rw [q',Ag,C1 h3 hs4,C9 hs4]
   obtain ⟨X,x1,x2,x3⟩:=zb6 n (by omega) s a hl
   rw [x1,A4]
   cases f with
   |zero=>omega
   |succ f =>
    have hset:∀ t,hs (w.set s.toNat true) t ↔ t=s\/hs w t:=fun t=>by rw [Hu hs4,aY h3]
    obtain ⟨w',e1,g1,s1⟩:=zf7 (P:=prS a) n (Eo n) a X x2 N f (fun t ht v hv hfv=>Yk a hl N hN f t v hfv hv (hN _ _ ((x3 t).1 ht)).1 (hN _ _ ((x3 t).1 ht)).2 n (by omega)) n 0 (w.set s.toNat true) (by omega) (by omega) (by rw [bA];exact h2) (by omega)
    refine ⟨w',e1,⟨g1.len,fun t ht=>g1.mono t ((hset t).2 (aH ht)),fun t ht=>?_⟩,g1.mono s ((hset s).2 (aK rfl))⟩
    rcases g1.clo t ht with h|h
    ·rcases (hset t).1 h with h|h
     ·refine aH fun u hu=>s1 u ?_
      rw [aQ,x3,<-h]
      exact hu
     ·exact aK h
    ·exact aH h
theorem zbf (n:Nat)(hn:30000000<n)(a:Aut)(hl:a.fEdges.length<=1100000)(N:Nat)(hN':N<=1000000)(hN:∀ s t,prS a s t->0<=t/\t.toNat<N)(X:List Int)(hX:X.length<=1100000)(hXr:∀ s∈X,0<=s/\s.toNat<N):∀ (m k:Nat) (w:List Bool),k<=X.length->X.length<m+k->w.length=N->∃ w',Gs n a X (fun y=>some y) m ((k:Int),w)=some w'/\Gr (prS a) N w w'/\∀ s∈X.drop k,hs w' s
 |0,k,w,h1,h2,h3=>by omega
 |m+1,k,w,h1,h2,h3=>by
  unfold Gs
  simp only [aA,A6,Ae]
  by_cases h:k<X.length
  ·have hx:=hXr X[k] (aD h)
   have hfw:fre w<=N:=by unfold fre;rw [<-h3];exact bF
   obtain ⟨w1,e1,g1,s1⟩:=Yk a hl N hN N X[k] w hfw h3 hx.1 hx.2 n (by omega)
   rw [if_pos (by omega),Al h,Ai k (by omega),e1,Dx,aB h]
   obtain ⟨w2,e2,g2,s2⟩:=zbf n hn a hl N hN' hN X hX hXr m (k+1) w1 (by omega) (by omega) g1.len
   refine ⟨w2,e2,g1.trans g2,fun s q=>?_⟩
   rcases aM.1 q with q|q
   ·rw [q];exact g2.mono _ s1
   ·exact s2 s q
  ·rw [if_neg (by omega),aC (by omega)]
   exact ⟨w,rfl,Gr.refl h3,by simp⟩
theorem zll (n:Nat)(hn:30000000<n)(a:Aut)(hl:a.fEdges.length<=1100000)(hN':a.fStates.length<=1000000)(hN:∀ s t,prS a s t->0<=t/\t.toNat<a.fStates.length)(X:List Int)(hX:X.length<=1100000)(hXr:∀ s∈X,0<=s/\s.toNat<a.fStates.length):∃ w,Fn n a X a=some w/\w.length=a.fStates.length/\(∀ s∈X,hs w s)/\∀ t,hs w t->∀ u,prS a t u->hs w u:=by
 unfold Fn
 simp only [aA]
 rw [Di (by omega) (by decide)]
 obtain ⟨w,e,g,s⟩:=zbf n hn a hl a.fStates.length hN' hN X hX hXr n 0 (bL a.fStates.length false) (by omega) (by omega) (by simp)
 exact ⟨w,e,g.len,fun t ht=>s t (by simpa using ht),fun t ht=>(g.clo t ht).resolve_left (Hv _ _)⟩
theorem W6 (n:Nat)(w:List Bool)(hw:w.length<=1100000):∀ (m k:Nat) (acc:List Int),k<=w.length->w.length<m+k->acc.length<=k->∃ L,J0 n w (fun y=>some y) m ((k:Int),acc)=some L/\L.length<=w.length/\∀ t:Int,t∈L ↔ t∈acc\/∃ j:Nat,k<=j/\t=(j:Int)/\w[j]? = some true
 |0,k,acc,h1,h2,h3=>by omega
 |m+1,k,acc,h1,h2,h3=>by
  unfold J0
  simp only [aA,Ae]
  by_cases h:k<w.length
  ·have hk:w[k]? = some w[k]:=aF h
   rw [A6,if_pos (by omega),Al h,Ai k (by omega)]
   by_cases q:w[k]=true
   ·rw [q,Af,C8 (by simp;omega) (by decide)]
    obtain ⟨L,e1,e2,e3⟩:=W6 n w hw m (k+1) (acc++[(k:Int)]) (by omega) (by omega) (by simp;omega)
    refine ⟨L,e1,e2,fun t=>?_⟩
    rw [e3,aJ,aE]
    constructor
    ·rintro ((h|h)|⟨j,j1,j2⟩)
     ·exact aK h
     ·exact aH ⟨k,bI _,h,by rw [hk,q]⟩
     ·exact aH ⟨j,by omega,j2⟩
    ·rintro (h|⟨j,j1,j2,j3⟩)
     ·exact aK (aK h)
     ·by_cases e:j=k
      ·subst e;exact aK (aH j2)
      ·exact aH ⟨j,by omega,j2,j3⟩
   ·have q':w[k]=false:=by simpa using q
    rw [q',Ag]
    obtain ⟨L,e1,e2,e3⟩:=W6 n w hw m (k+1) acc (by omega) (by omega) (by omega)
    refine ⟨L,e1,e2,fun t=>?_⟩
    rw [e3]
    constructor
    ·rintro (h|⟨j,j1,j2⟩)
     ·exact aK h
     ·exact aH ⟨j,by omega,j2⟩
    ·rintro (h|⟨j,j1,j2,j3⟩)
     ·exact aK h
     ·by_cases e:j=k
      ·subst e;rw [hk] at j3;injection j3 with j3;exact absurd j3 q
      ·exact aH ⟨j,by omega,j2,j3⟩
  ·rw [A6,if_neg (by omega)]
   refine ⟨acc,rfl,by omega,fun t=>⟨aK,fun h=>h.elim id fun ⟨j,j1,j2,j3⟩=>?_⟩⟩
   have:=(List.getElem?_eq_some_iff.1 j3).1
   omega
theorem Tq (n:Nat)(hn:10000000<n)(w:List Bool)(hw:w.length<=1100000):∃ L,Pd n w=some L/\L.length<=w.length/\∀ t:Int,t∈L ↔ hs w t:=by
 obtain ⟨L,e1,e2,e3⟩:=W6 n w hw n 0 [] (by omega) (by omega) (by simp)
 refine ⟨L,e1,e2,fun t=>?_⟩
 rw [e3]
 unfold hs
 constructor
 ·rintro (h|⟨j,_,j2,j3⟩)
  ·cases h
  ·subst j2;exact ⟨by omega,by simpa using j3⟩
 ·rintro ⟨h0,h⟩
  exact aH ⟨t.toNat,by omega,by omega,h⟩
theorem Ts (n:Nat)(a:Aut)(hl:a.fEdges.length<=1100000)(K:List Int->Option (List Bool)):∀ (m k:Nat) (acc:List Int),k<=a.fEdges.length->a.fEdges.length<m+k->acc.length<=k->∃ R,J5 n a K m ((k:Int),acc)=K R/\R.length<=a.fEdges.length/\∀ t:Int,t∈R ↔ t∈acc\/∃ x∈a.fEdges.drop k,x.fTo<0/\x.fFrom=t
 |0,k,acc,h1,h2,h3=>by omega
 |m+1,k,acc,h1,h2,h3=>by
  unfold J5
  simp only [aA,A6,Ae]
  by_cases h:k<a.fEdges.length
  ·rw [if_pos (by omega),Al h,Ai k (by omega),aB h]
   simp only [aM,exists_eq_or_imp]
   by_cases q:a.fEdges[k].fTo<0
   ·rw [if_pos q,C8 (by simp;omega) (by decide)]
    obtain ⟨R,e1,e2,e3⟩:=Ts n a hl K m (k+1) (acc++[a.fEdges[k].fFrom]) (by omega) (by omega) (by simp;omega)
    refine ⟨R,e1,e2,fun t=>?_⟩
    rw [e3,aJ,aE,or_assoc]
    exact or_congr aR (or_congr ⟨fun e=>⟨q,e.symm⟩,fun e=>e.2.symm⟩ aR)
   ·rw [if_neg q]
    obtain ⟨R,e1,e2,e3⟩:=Ts n a hl K m (k+1) acc (by omega) (by omega) (by omega)
    refine ⟨R,e1,e2,fun t=>?_⟩
    rw [e3]
    exact or_congr aR ⟨aH,fun h=>h.elim (fun e=>absurd e.1 q) id⟩
  ·rw [if_neg (by omega),aC (by omega)]
   exact ⟨acc,rfl,by omega,fun t=>by simp⟩
structure EdR (a:Aut):Prop where
 st:1<=a.fStates.length/\a.fStates.length<=256
 ed:∀ x∈a.fEdges,0<=x.fFrom/\x.fFrom<a.fStates.length/\-1<=x.fTo/\x.fTo<a.fStates.length
 le:a.fEdges.length<=1100000
theorem ze0 (n:Nat)(hn:30000000<n)(a:Aut)(h:EdR a)(hc:Bz n a=some 0):∃ L,J6 n a=some (L,0)/\L.length<=1100000/\0∈L/\∀ s∈L,∀ t,nxS a s t->t∈L:=by
 have hst:=h.st
 unfold J6 Ov
 rw [hc,A4]
 simp only [Az,A6,if_true,Ui,Ae]
 obtain ⟨w,e,e1,e2,e3⟩:=zlm n hn a h.le (by omega) (fun s t ⟨x,hx,_,x2,x3⟩=>by have:=h.ed x hx;omega) [0] (by simp) (by simp;omega)
 obtain ⟨L,l1,l2,l3⟩:=Tq n (by omega) w (by omega)
 rw [e,A4,A4,l1,A4]
 exact ⟨L,rfl,by omega,(l3 0).2 (e2 0 (by simp)),fun s hs t ht=>(l3 t).2 (e3 s ((l3 s).1 hs) t ht)⟩
theorem zkh (n:Nat)(hn:30000000<n)(a:Aut)(h:EdR a)(hc:Bz n a=some 0):∃ L,Je n a=some (L,0)/\L.length<=1100000/\(∀ x∈a.fEdges,x.fTo<0->x.fFrom∈L)/\∀ s∈L,∀ t,prS a s t->t∈L:=by
 have hst:=h.st
 unfold Je Pk
 rw [hc,A4]
 simp only [Az,A6,if_true,Ui,Ae,Ya]
 obtain ⟨R,r1,r2,r3⟩:=Ts n a h.le (fun y=>bnd (Fn n a y a) fun x42=>some x42) n 0 [] (by omega) (by have:=h.le;omega) (by simp)
 have hR:∀ t∈R,0<=t/\t.toNat<a.fStates.length:=fun t ht=>by
  obtain h'|⟨x,hx,_,x2⟩:=(r3 t).1 ht
  ·cases h'
  ·have:=h.ed x (by simpa using hx);omega
 obtain ⟨w,e,e1,e2,e3⟩:=zll n hn a h.le (by omega) (fun s t ⟨x,hx,_,x2⟩=>by have:=h.ed x hx;omega) R (by have:=h.le;omega) hR
 obtain ⟨L,l1,l2,l3⟩:=Tq n (by omega) w (by omega)
 simp only [aG] at r1
 rw [r1,e,A4,A4,l1,A4]
 exact ⟨L,rfl,by omega,fun x hx q=>(l3 _).2 (e2 _ ((r3 _).2 (aH ⟨x,by simpa using hx,q,rfl⟩))),fun s hs t ht=>(l3 t).2 (e3 s ((l3 s).1 hs) t ht)⟩
theorem zf5 (n:Nat)(L:List Int)(hL:L.length<=1100000):∀ (m k:Nat) (M:Mp),k<=L.length->L.length<m+k->MK M->∃ R,N1 n L (fun y=>some y) m ((k:Int),M)=some R/\MK R/\∀ t:Int,has R t ↔ has M t\/t∈L.drop k
 |0,k,M,h1,h2,h3=>by omega
 |m+1,k,M,h1,h2,h3=>by
  unfold N1
  simp only [aA,A6]
  by_cases h:k<L.length
  ·rw [if_pos (by omega),Al h,Ai k (by omega),Qq,aB h]
   obtain ⟨R,e1,e2,e3⟩:=zf5 n L hL m (k+1) (mput M L[k] true) (by omega) (by omega) (h3.put _)
   refine ⟨R,e1,e2,fun t=>?_⟩
   rw [e3,h3.has_put,aM,or_comm (a:=t=L[k]),or_assoc]
  ·rw [if_neg (by omega),aC (by omega)]
   exact ⟨M,rfl,h3,by simp⟩
theorem Uq (n:Nat)(hn:10000000<n)(L:List Int)(hL:L.length<=1100000):∃ R,Q8 n L=some R/\MK R/\∀ t:Int,has R t ↔ t∈L:=by
 obtain ⟨R,e1,e2,e3⟩:=zf5 n L hL n 0 [] (by omega) (by omega) MK.nil
 exact ⟨R,e1,e2,fun t=>by rw [e3];simp [Dz]⟩
theorem Te (n:Nat)(a:Aut)(hl:a.fEdges.length<=1100000)(R U:Mp)(hR:MK R)(hU:MK U)(K:Mp->Mp->Option Be):∀ (m k:Nat) (M:Mp),k<=a.fEdges.length->a.fEdges.length<m+k->MK M->∃ I,G4 n a R U K m ((k:Int),M)=K R I/\MK I/\∀ t:Int,has I t ↔ has M t\/∃ x∈a.fEdges.drop k,0<=x.fTo/\has R x.fFrom/\has U x.fTo/\x.fTo=t
 |0,k,M,h1,h2,h3=>by omega
 |m+1,k,M,h1,h2,h3=>by
  unfold G4
  simp only [aA,Ae]
  by_cases h:k<a.fEdges.length
  ·rw [A6,if_pos (by omega),Al h,Ai k (by omega),aB h]
   simp only [Kb,Qq,Am,hR.get,hU.get,decide_eq_true_eq,aM,exists_eq_or_imp]
   by_cases q:0<=a.fEdges[k].fTo/\has R a.fEdges[k].fFrom/\has U a.fEdges[k].fTo
   ·rw [if_pos q.1,if_pos q.2.1,if_pos q.2.2]
    obtain ⟨I,e1,e2,e3⟩:=Te n a hl R U hR hU K m (k+1) (mput M a.fEdges[k].fTo true) (by omega) (by omega) (h3.put _)
    refine ⟨I,e1,e2,fun t=>?_⟩
    rw [e3,h3.has_put]
    grind
   ·obtain ⟨I,e1,e2,e3⟩:=Te n a hl R U hR hU K m (k+1) M (by omega) (by omega) h3
    refine ⟨I,?_,e2,fun t=>?_⟩
    ·rw [<-e1]
     split
     ·split
      ·split
       ·rename_i q1 q2 q3;exact absurd ⟨q1,q2,q3⟩ q
       ·rfl
      ·rfl
     ·rfl
    ·rw [e3]
     grind
  ·rw [A6,if_neg (by omega),aC (by omega)]
   exact ⟨M,rfl,h3,by simp⟩
structure PtOk (a:Aut) (p:Be):Prop where
 r:MK p.freachable
 i:MK p.finner
 r0:has p.freachable 0
 rn:∀ x∈a.fEdges,has p.freachable x.fFrom->0<=x.fTo->has p.freachable x.fTo
 ir:∀ t,has p.finner t->0<=t/\t.toNat<a.fStates.length
 us:∃ U:Int->Prop,(∀ x∈a.fEdges,x.fTo<0\/U x.fTo->U x.fFrom)/\∀ t,has p.finner t ↔ ∃ x∈a.fEdges,0<=x.fTo/\has p.freachable x.fFrom/\U x.fTo/\x.fTo=t
theorem zmf (n:Nat)(hn:30000000<n)(a:Aut)(h:EdR a)(hc:Bz n a=some 0):∃ p,G6 n a=some p/\PtOk a p:=by
 obtain ⟨L,l1,l2,l3,l4⟩:=ze0 n hn a h hc
 obtain ⟨U,u1,u2,u3,u4⟩:=zkh n hn a h hc
 obtain ⟨R,r1,r2,r3⟩:=Uq n (by omega) L l2
 obtain ⟨V,v1,v2,v3⟩:=Uq n (by omega) U u2
 obtain ⟨I,i1,i2,i3⟩:=Te n a h.le R V r2 v2 (fun y z=>some (⟨y,z⟩)) n 0 [] (by omega) (by have:=h.le;omega) MK.nil
 unfold G6
 simp only [aG] at i1
 rw [l1,A4,u1,A4,r1,A4,v1,A4,i1]
 have hI:∀ t,has I t ↔ ∃ x∈a.fEdges,0<=x.fTo/\has R x.fFrom/\t∈U/\x.fTo=t:=fun t=>by
  rw [i3]
  simp only [Dz,false_or,aQ,v3]
  grind
 refine ⟨⟨R,I⟩,rfl,r2,i2,(r3 0).2 l3,fun x hx q q0=>(r3 _).2 (l4 _ ((r3 _).1 q) _ ⟨x,hx,rfl,rfl,q0⟩),fun t ht=>?_,fun t=>t∈U,fun x hx q=>q.elim (u3 x hx) (fun q=>u4 _ q _ ⟨x,hx,rfl,rfl⟩),fun t=>?_⟩
 ·obtain ⟨x,hx,q0,_,_,q3⟩:=(hI t).1 ht
  have:=h.ed x hx
  omega
 ·rw [hI]
  grind
theorem Nf {β:Type}{t:Int}{len:Nat}(h0:0<=t)(h:t.toNat<len)(c:Option β):ncx t len c=c:=by
 unfold ncx
 rw [if_pos ⟨h0,h⟩]
theorem zlv {β:Type}(i:Nat)(x:Option β):fro i x=x:=by unfold fro;rfl
theorem Wh (n:Nat)(B C:Mp)(hB:MK B)(hC:Srt C)(hC2:MK C):∀ (m:Nat) (rem acc:Mp),rem.length<m->MK rem->MK acc->(∀ v,has rem v->¬has acc v)->(∀ v,has C v ↔ has acc v\/(has rem v/\has B v))->Jd n B (fun y=>frs 7 y (some (C5 y))) m (rem,acc)=some C
 |0,rem,acc,h1,h2,h3,h4,h5=>by omega
 |m+1,rem,acc,h1,h2,h3,h4,h5=>by
  unfold Jd
  by_cases e:rem=[]
  ·subst e
   simp only [Xt]
   unfold frs
   rw [if_pos h3.nd]
   refine congrArg some (zhm (Tu _) hC h3.sort.1.tr hC2.tr fun v=>?_)
   rw [h3.sort.2.2.2,h5]
   simp [Dz]
  ·have hn:∀ (x y:Option Mp),nxt rem x y=y:=fun x y=>by
    cases rem with
    |nil=>exact absurd rfl e
    |cons p r=>exact Xb p r x y
   simp only [hn]
   refine X8 e fun j hj=>?_
   obtain ⟨o1,o2,o3⟩:=h2.out hj
   simp only [Ae,Kb,Qq,Am,hB.get]
   have hna:¬has acc rem[j].1:=h4 _ ((o3 _).2 (aK rfl))
   have hlen:(rem.eraseIdx j).length<m:=by rw [aP hj];omega
   split
   ·rename_i q
    refine Wh n B C hB hC hC2 m _ _ hlen o1 (h3.put _) (fun v hv hp=>?_) (fun v=>?_)
    ·rcases (h3.has_put _ _).1 hp with e'|e'
     ·exact o2 (e'▸hv)
     ·exact h4 v ((o3 v).2 (aH hv)) e'
    ·rw [h5,o3,h3.has_put]
     grind
   ·rename_i q
    refine Wh n B C hB hC hC2 m _ _ hlen o1 h3 (fun v hv=>h4 v ((o3 v).2 (aH hv))) (fun v=>?_)
    rw [h5,o3]
    grind
theorem MK.filter (h:MK l)(q:Int×Bool->Bool):MK (l.filter q):=⟨h.nd.sublist (filter_sublist.map _),fun p hp=>h.tr p (aW.1 hp).1⟩
theorem zfd (n:Nat)(A B:Mp)(hA:MK A)(hB:MK B)(hn:A.length<n):∃ C,Mx n A B=some C/\MK C/\∀ v,has C v ↔ has A v/\has B v:=by
 have hf:=hA.filter (fun p=>(mlk B p.1).getD false)
 have hk:∀ v,has (A.filter fun p=>(mlk B p.1).getD false) v ↔ has A v/\has B v:=fun v=>by
  unfold has
  simp only [mem_map,aW,hB.get]
  constructor
  ·rintro ⟨p,⟨p1,p2⟩,rfl⟩;exact ⟨⟨p,p1,rfl⟩,by simpa [has] using p2⟩
  ·rintro ⟨⟨p,p1,rfl⟩,p2⟩;exact ⟨p,⟨p1,by simpa [has] using p2⟩,rfl⟩
 refine ⟨C5 (A.filter fun p=>(mlk B p.1).getD false),?_,hf.sort.1,fun v=>by rw [hf.sort.2.2.2,hk]⟩
 unfold Mx
 simp only [Ae]
 exact Wh n B _ hB hf.sort.2.1 hf.sort.1 n A [] hn hA MK.nil (fun v _=>Dz v) (fun v=>by rw [hf.sort.2.2.2,hk];simp [Dz])
def tot (out:List Mp):Nat:=(out.map length).sum
theorem Nb {out:List Mp}(hi:i<out.length)(M:Mp):tot (out.set i M)+out[i].length=tot out+M.length:=by
 unfold tot
 induction out generalizing i with
 |nil=>simp at hi
 |cons q r ih =>
  cases i with
  |zero=>simp only [set_cons_zero,bK,sum_cons,bB];omega
  |succ i =>
   have:=ih (by simpa using hi)
   simp only [set_cons_succ,bK,sum_cons,bC]
   omega
structure C3 (N:Nat) (out:List Mp):Prop where
 len:out.length=N
 mks:∀ M∈out,MK M
theorem C3.set {out:List Mp}(h:C3 N out)(i:Nat){M:Mp}(hM:MK M):C3 N (out.set i M) :=
 ⟨by rw [bA];exact h.len,fun q hq=>(mem_or_eq_of_mem_set hq).elim (h.mks q) (fun e=>e▸hM)⟩
structure AutR (a:Aut):Prop extends EdR a where
 sc:0<=a.fScopes/\a.fScopes<=64
 lo:∀ x∈a.fEdges,x.fOpens.length<=1100000/\x.fCloses.length<=1100000/\x.fInside.length<=1100000/\x.fLimits.length<=1100000
 sp:∀ x∈a.fEdges,∀ l∈x.fLimits,0<=l.fSpan/\l.fSpan<=1099511627776
def addS (k:Int):Nat->Mp->Mp
 |0,q=>q
 |d+1,q=>addS (k+1) d (sput q k true)
theorem zjh (k:Int)(d:Nat)(q:Mp)(h:Srt q)(t:∀ p∈q,p.2=true):Srt (addS k d q)/\∀ p∈addS k d q,p.2=true:=by
 induction d generalizing k q with
 |zero=>exact ⟨h,t⟩
 |succ d ih=>exact ih (k+1) _ (K0 h) (fun p hp=>(zer p hp).elim (fun e=>by rw [e]) (t p))
theorem zg8 (k:Int)(d:Nat)(q:Mp)(h:Srt q):(addS k d q).length<=q.length+d:=by
 induction d generalizing k q with
 |zero=>exact bI _
 |succ d ih =>
  have:=ih (k+1) (sput q k true) (K0 h)
  have h2:=(Tm (k:=k) (v:=true) h).length_eq
  have h3:(q.filter fun p=>decide (p.1≠k)).length<=q.length:=bG _ _
  simp only [length_append,bH] at h2
  show (addS (k+1) d (sput q k true)).length<=_
  omega
def allS (a:Aut):Mp:=addS 0 a.fScopes.toNat []
theorem Zt (n:Nat)(a:Aut)(hsc:0<=a.fScopes/\a.fScopes<=64)(p:Be)(V:Nat×Ars Mp×Mp)(x146:Int×Bool)(x147:Mp)(ix:List (Option Nat))(os:List Mp)(i:Nat)(hi:i<ix.length)(hx:x146.1=(i:Int))(hV:V.1=ix.length)(K:Ars Mp->Mp->Option (List Mp)):∀ (m k:Nat) (q:Mp),(k:Int)<=a.fScopes->a.fScopes<m+k->Srt q->Kr n a p V x146 x147 K m ((k:Int),(ix.set i (some os.length),os++[q]))=K (ix.set i (some os.length),os++[addS (k:Int) (a.fScopes.toNat-k) q]) x147
 |0,k,q,h1,h2,h3=>by omega
 |m+1,k,q,h1,h2,h3=>by
  unfold Kr
  simp only
  rw [A6]
  by_cases h:(k:Int)<a.fScopes
  ·have hob:∀ c:Nat->Option (List Mp),aob (ix.set i (some os.length),os++[q]) i c=c os.length:=fun c=>by
    unfold aob
    simp only [bD,if_true,hi]
   have hup:∀ c:Ars Mp->Option (List Mp),aup (ix.set i (some os.length),os++[q]) os.length (k:Int) true c=c (ix.set i (some os.length),os++[sput q (k:Int) true]):=fun c=>by
    rw [zp6 (l:=q) (by simp) h3]
    simp
   rw [if_pos h,Nf (by omega) (by omega),hx,aS,hob,hup,Ai k (by omega),Zt n a hsc p V x146 x147 ix os i hi hx hV K m (k+1) _ (by omega) (by omega) (K0 h3)]
   have e:a.fScopes.toNat-k=(a.fScopes.toNat-(k+1))+1:=by omega
   rw [e]
   rfl
  ·rw [if_neg h]
   have e:a.fScopes.toNat-k=0:=by omega
   rw [e]
   rfl
structure ArOk (N:Nat) (m:Ars Mp):Prop where
 len:m.1.length=N
 lt:∀ (i j:Nat),m.1[i]? = some (some j)->j<m.2.length
theorem ArOk.put {ix:List (Option Nat)}{os:List Mp}(h:ArOk N (ix,os))(hi:i<N)(q:Mp):ArOk N (ix.set i (some os.length),os++[q])/\aval (ix.set i (some os.length),os++[q])=(aval (ix,os)).set i q:=by
 have hl:=h.len
 simp only at hl
 refine ⟨⟨by simp [hl],fun k j e=>?_⟩,?_⟩
 ·simp only [bD] at e
  simp only [length_append,bH]
  split at e
  ·split at e
   ·injection e with e;injection e with e;omega
   ·cases e
  ·have:=h.lt k j e;simp only at this;omega
 ·unfold aval
  apply ext_getElem
  ·simp
  ·intro k k1 k2
   simp only [aA,bA] at k1
   simp only [bJ,getElem_set]
   by_cases e:i=k
   ·subst e;simp
   ·rw [if_neg e,if_neg e]
    have hlt:=h.lt k
    cases e2:ix[k] with
    |none=>rfl
    |some j =>
     have:=hlt j (by simp only;rw [aF k1,e2])
     simp only at this
     simp only [getElem?_append_left this]
theorem W8 (n:Nat)(hn:10000000<n)(a:Aut)(h:AutR a)(p:Be)(K:Nat->Ars Mp->Option (List Mp))(KK:List Mp->Option (List Mp))(hK:∀ N m,K N m=KK (aval m))(r:List Mp):∀ (m:Nat) (rem:Mp) (ar:Ars Mp),rem.length<m->MK rem->(∀ t,has rem t->0<=t/\t.toNat<a.fStates.length)->ArOk a.fStates.length ar->KK (rem.foldl (fun w q=>w.set q.1.toNat (allS a)) (aval ar))=some r->I3 n a p K m (a.fStates.length,ar,rem)=some r
 |0,rem,ar,h1,h2,h3,h4,h5=>by omega
 |m+1,rem,ar,h1,h2,h3,h4,h5=>by
  unfold I3
  simp only
  by_cases e:rem=[]
  ·subst e
   rw [Xt,hK]
   exact h5
  ·have hne:∀ (x y:Option (List Mp)),nxt rem x y=y:=fun x y=>by
    cases rem with
    |nil=>exact absurd rfl e
    |cons p r=>exact Xb p r x y
   rw [hne]
   refine X8 e fun j hj=>?_
   obtain ⟨o1,o2,o3⟩:=h2.out hj
   obtain ⟨t0,t1⟩:=h3 rem[j].1 ((o3 _).2 (aK rfl))
   obtain ⟨i,hi⟩:∃ i:Nat,rem[j].1=(i:Int):=⟨rem[j].1.toNat,by omega⟩
   have hi2:i<a.fStates.length:=by omega
   obtain ⟨ix,os⟩:=ar
   have hl:=h4.len
   simp only at hl
   have hsc:=h.sc
   rw [Ae,Nf t0 t1,hi,aS]
   have hst:∀ c:Ars Mp->Option (List Mp),ast (ix,os) i [] c=c (ix.set i (some os.length),os++[[]]):=fun c=>by
    unfold ast
    simp only
    rw [if_pos (by omega)]
   have h4':=Zt n a hsc p (a.fStates.length,(ix,os),rem) rem[j] (rem.eraseIdx j) ix os i (by omega) hi hl.symm (fun y z=>I3 n a p K m (a.fStates.length,y,z)) n 0 [] (by omega) (by omega) (by simp [Srt])
   simp only [aG,Nat.sub_zero] at h4'
   rw [hst,h4']
   obtain ⟨u1,u2⟩:=h4.put hi2 (allS a)
   refine W8 n hn a h p K KK hK r m (rem.eraseIdx j) _ (by rw [aP hj];omega) o1 (fun t ht=>h3 t ((o3 t).2 (aH ht))) u1 ?_
   have hp:(rem[j]::rem.eraseIdx j).Perm rem:=N7 hj
   have hc:=Perm.foldl_eq' (f:=fun (w:List Mp) (q:Int×Bool)=>w.set q.1.toNat (allS a)) hp (fun x _ y _ z=>by
    by_cases e:x.1.toNat=y.1.toNat
    ·simp only [e]
    ·exact List.set_comm _ _ e) (aval (ix,os))
   rw [aX,hi,aS] at hc
   unfold allS at u2 hc
   simp only [allS] at h5 ⊢
   rw [u2,hc]
   exact h5
def cvS (x y:Sta):Bool:=decide (x.fScope=y.fScope) && decide (y.fTime<=x.fTime)
def cvL:List Sta->List Sta->Bool
 |[],[]=>true
 |x::r,y::s=>cvS x y && cvL r s
 |_,_=>false
def rdB (m:Mp)(l:List Bd):List Bd:=l.filter (fun b=>(mlk m b.fVar).getD false)
def rdC (R:List Mp)(c:Cf):List Bd:=rdB (R.getD c.fState.toNat []) c.fBindings
def cov (R:List Mp)(c d:Cf):Bool:=decide (c.fState=d.fState) && (cvL c.fStarts d.fStarts && decide (rdC R c=rdC R d))
structure CS (R:List Mp) (c:Cf):Prop where
 st:0<=c.fState/\c.fState<(R.length:Int)
 lb:c.fBindings.length<=1000000
 ls:c.fStarts.length<=1000000
def cfO (l:List Cf):List Cf:=l.filter (fun d=>!decide (d.fState<0))
def maO (l:List Cf):List Ma:=(l.filter (fun d=>decide (d.fState<0))).map (fun d=>⟨d.fBindings⟩)
def Dl (a:Aut)(s:Int):List Ed:=a.fEdges.filter (fun x=>decide (x.fFrom=s))
def skP (a:Aut)(held:List Ev)(c:Cf)(e:Ev):Bool:=!(zfs a c.fState).any (vio (enH held c.fBindings) e)
def outP (a:Aut)(held:List Ev)(c:Cf)(e:Ev):List Cf:=(if skP a held c e=true then [c] else [])++(Dl a c.fState).filterMap (fun x=>coP a held c x e)
variable {d:Cf}
theorem znk {l:List Cf}(h:d∈cfO l):d∈l/\0<=d.fState:=by
 have:=aW.1 h
 exact ⟨this.1,by simpa using this.2⟩
def Sz (k:Nat)(c:Cf):Prop:=c.fBindings.length<=k/\c.fStarts.length<=100*k
variable {k:Nat}{c:Cf}
theorem Sz.ok (hk:k<=1001)(h:Sz k c):cfOk c=true:=(zl8 c).2 ⟨by have:=h.1;omega,by have:=h.2;omega⟩
variable {a:Aut}{x:Ed}{e:Ev}
theorem Xj {held:List Ev}(h:coP a held c x e=some d):d=⟨x.fTo,bdN c x e,(stN c x e).filter (ncl x)⟩:=by
 unfold coP at h
 simp_all
theorem zoz {held:List Ev}(hx:CxA a held)(hc:CB held a k c)(hxe:x∈a.fEdges)(h:coP a held c x e=some d):Sz (k+1) d:=by
 rw [Xj h]
 have h1:=hc.lb
 have h2:=hc.ls
 have h3:=hx.lo x hxe
 have h4:=zif e.fTime x.fOpens c.fStarts
 have h5:=bG (ncl x) (stN c x e)
 refine ⟨by unfold bdN;simp;omega,?_⟩
 unfold stN at h5 ⊢
 simp only
 omega
theorem CB.sz {held:List Ev}(h:CB held a k c):Sz k c:=⟨h.lb,h.ls⟩
theorem zbq {s:Int}(h:x∈Dl a s):x∈a.fEdges/\x.fFrom=s:=by
 have:=aW.1 h
 exact ⟨this.1,by simpa using this.2⟩
theorem Wx (s:Int)(a:Aut)(hl:a.fEdges.length<=1000000)(K:List Ed->Option (List Ed)):∀ (m k:Nat) (out:List Ed),k<=a.fEdges.length->a.fEdges.length<m+k->out.length<=k->Ij N0 s a K m ((k:Int),out)=K (out++(a.fEdges.drop k).filter (fun x=>decide (x.fFrom=s)))
 |0,k,out,h1,h2,h3=>by omega
 |m+1,k,out,h1,h2,h3=>by
  unfold Ij
  simp only [aA,A6]
  by_cases h:k<a.fEdges.length
  ·have i1:=Wx s a hl K m (k+1) (out++[a.fEdges[k]]) (by omega) (by omega) (by simp_all)
   have i2:=Wx s a hl K m (k+1) out (by omega) (by omega) (by omega)
   rw [if_pos (by omega),Ae,Al h,Al h,Ee _ k h,Ai k (by omega),C8 (by grind) (by omega),i1,i2,filter_cons]
   grind
  ·rw [if_neg (by omega),aC (by omega)]
   simp
theorem zod (s:Int)(a:Aut)(hl:a.fEdges.length<=1000000):P0 N0 a s=some (Dl a s):=by
 have:=Wx s a hl (fun y=>some y) N0 0 [] (aO _) (by unfold N0;omega) (by simp)
 unfold P0 Dl
 exact this
def cfN (a:Aut)(held:List Ev)(l:List Cf)(e:Ev):List Cf:=setL Yo (l.flatMap (fun c=>cfO (outP a held c e)))
def maN (a:Aut)(held:List Ev)(l:List Cf)(e:Ev):List Ma:=setL Ns (l.flatMap (fun c=>maO (outP a held c e)))
theorem Xs {e:Exn}(h:WfE e):∃ b:Bool,Jb N0 e=some b:=by
 obtain ⟨z,hz,ht⟩:=h
 obtain ⟨c,c1,_⟩:=zic 200 (by omega) (by omega) z e ht hz N0 (by unfold N0;omega)
 obtain ⟨d,d1,_⟩:=zlk z e ht hz N0 (by unfold N0;omega)
 unfold Jb
 simp only [Ax,Ae,Ix]
 rw [c1,A4,d1,A4,A6]
 split
 ·exact ⟨_,rfl⟩
 ·exact ⟨_,rfl⟩
theorem zi7 (l:List Gd)(hw:∀ g∈l,WfE g.fCond)(hl:l.length<=1100000):∀ (m k:Nat),k<=l.length->l.length<m+k->∃ b:Bool,Lo N0 l (some true) m (k:Int)=some b
 |0,k,h1,h2=>by omega
 |m+1,k,h1,h2=>by
  unfold Lo
  simp only [aA,A6,Az]
  by_cases h:k<l.length
  ·obtain ⟨b,hb⟩:=Xs (hw _ (aD h))
   rw [if_pos (by omega),Al h,hb,A4,Ai k (by omega)]
   cases b with
   |true=>rw [Af];exact zi7 l hw hl m (k+1) (by omega) (by omega)
   |false=>rw [Ag];exact ⟨_,rfl⟩
  ·rw [if_neg (by omega)]
   exact ⟨_,rfl⟩
theorem zmi (st:Stt)(hw:st.fGuards.length<=1100000/\∀ g∈st.fGuards,WfE g.fCond):∃ b:Bool,P4 N0 st.fGuards=some b:=zi7 st.fGuards hw.2 hw.1 N0 0 (aO _) (by have:=hw.1;unfold N0;omega)
theorem zf9 (a:Aut)(v:Int)(x:Ed)(ys:List Exn)(hy:x.fChecks=ys.map Ah)(hw:∀ y∈ys,WfE y)(hl:ys.length<=1100000)(P:Prop)(K:Option Bool)(hK:∃ b:Bool,K=some b/\(b=true->P)):∀ (m k:Nat),k<=ys.length->ys.length<m+k->∃ b:Bool,Lp N0 a v x K m (k:Int)=some b/\(b=true->P)
 |0,k,h1,h2=>by omega
 |m+1,k,h1,h2=>by
  unfold Lp
  have hll:x.fChecks.length=ys.length:=by rw [hy,aA]
  simp only [aA,A6,Az,hll]
  by_cases h:k<ys.length
  ·obtain ⟨b,hb⟩:=Xs (hw _ (aD h))
   rw [if_pos (by omega),zn9 hy h,hb,A4,Ai k (by omega)]
   cases b with
   |true=>rw [Af];exact zf9 a v x ys hy hw hl P K hK m (k+1) (by omega) (by omega)
   |false=>rw [Ag];exact ⟨false,rfl,fun h=>by cases h⟩
  ·rw [if_neg (by omega)]
   exact hK
def FewA (a:Aut):Prop:=a.fEdges.length<=40/\∀ x∈a.fEdges,x.fOpens.length<=12
theorem zfa (a:Aut)(hw:WfA a)(K:Option Bool)(hK:∃ b:Bool,K=some b/\(b=true->a.fEdges.length<=40)):∀ (m k:Nat),k<=a.fEdges.length->k<=60->60<m+k->(∀ x∈a.fEdges.take k,x.fOpens.length<=12)->∃ b:Bool,H3 N0 a K m (k:Int)=some b/\(b=true->FewA a)
 |0,k,h1,h2,h3,h4=>by omega
 |m+1,k,h1,h2,h3,h4=>by
  have hex:(60<=k\/a.fEdges.length<=k)->∃ b:Bool,K=some b/\(b=true->FewA a):=fun hq=>by
   obtain ⟨b,b1,b2⟩:=hK
   refine ⟨b,b1,fun hb=>⟨b2 hb,fun x hx=>h4 x ?_⟩⟩
   have:=b2 hb
   rw [aT (by omega)]
   exact hx
  have no:∃ b:Bool,some false=some b/\(b=true->FewA a):=⟨false,rfl,fun h=>by cases h⟩
  unfold H3
  simp only [aA,A6,Ax,Ae,Il,Ea,Az,Af,Ag]
  by_cases h:k<a.fEdges.length
  rotate_left
  ·rw [if_neg (by omega)];exact hex (by omega)
  rw [if_pos (by omega)]
  by_cases h60:k<60
  rotate_left
  ·rw [if_neg (by omega)];exact hex (by omega)
  rw [if_pos (by omega),Al h,Ai k (by omega)]
  have wx:=hw.ed _ (aD h)
  obtain ⟨b,hb⟩:=Xs wx.cond
  rw [hb,A4]
  cases b with
  |false=>rw [Ag];exact no
  |true =>
  rw [Af]
  split
  ·exact no
  split
  ·exact no
  split
  ·exact no
  split
  ·exact no
  split
  ·exact no
  rename_i q1 q2 q3 q4 q5
  obtain ⟨ys,hy,hyw⟩:=wx.checks
  have hyl:ys.length<=1100000:=by have:=wx.lc;rw [hy,aA] at this;exact this
  have ih:=zfa a hw K hK m (k+1) (by omega) (by omega) (by omega) (fun x hx=>by
   rw [aL h] at hx
   rcases aJ.1 hx with hx|hx
   ·exact h4 x hx
   ·rw [aE.1 hx];omega)
  exact zf9 a (k:Int) _ ys hy hyw hyl (FewA a) _ ih N0 0 (aO _) (by unfold N0;omega)
theorem zfb (a:Aut)(hw:WfA a)(P:Prop)(K:Option Bool)(hK:∃ b:Bool,K=some b/\(b=true->P)):∀ (m k:Nat),k<=a.fStates.length->k<=30->30<m+k->∃ b:Bool,H4 N0 a K m (k:Int)=some b/\(b=true->P)
 |0,k,h1,h2,h3=>by omega
 |m+1,k,h1,h2,h3=>by
  have no:∃ b:Bool,some false=some b/\(b=true->P):=⟨false,rfl,fun h=>by cases h⟩
  unfold H4
  simp only [aA,A6,Ax,Ae,Ik,Er,Az,Af,Ag]
  by_cases h:k<a.fStates.length
  rotate_left
  ·rw [if_neg (by omega)];exact hK
  rw [if_pos (by omega)]
  by_cases h60:k<30
  rotate_left
  ·rw [if_neg (by omega)];exact hK
  have ih:=zfb a hw P K hK m (k+1) (by omega) (by omega) (by omega)
  obtain ⟨b,hb⟩:=zmi _ (hw.st _ (aD h))
  have hi:∀ Q:Stt->Option Bool,idx a.fStates (k:Int) Q=Q a.fStates[k]:=fun Q=>Al h Q
  rw [if_pos (by omega),Ai k (by omega)]
  simp only [hi,hb,A4]
  repeat' split
  all_goals first|exact no|(cases b<;>first|(rw [Af];exact ih)|(rw [Ag];exact no))|skip
theorem zmo (a:Aut)(hw:WfA a):∃ b:Bool,P5 N0 a=some b/\(b=true->FewA a):=by
 unfold P5
 refine zfb a hw (FewA a) _ ?_ N0 0 (aO _) (by omega) (by unfold N0;omega)
 refine zfa a hw _ ?_ N0 0 (aO _) (by omega) (by unfold N0;omega) (by simp)
 simp only [Ax,Ae,Iw,aA,A6]
 split
 ·exact ⟨_,rfl,fun h=>by simp at h;omega⟩
 ·exact ⟨_,rfl,fun h=>by cases h⟩
theorem zp1 {held:List Ev}(hx:CxA a held)(hst:Str Ct held)(hc:CB held a k c)(hxe:x∈a.fEdges)(he:e∈held)(h:coP a held c x e=some d)(h0:0<=d.fState):CB held a (k+1) d:=by
 have hz:=zoz hx hc hxe h
 have hd:=Xj h
 have eo:=hx.ok.ed x hxe
 refine ⟨?_,?_,?_,hz.1,hz.2⟩
 ·rw [hd] at h0 ⊢
  exact ⟨h0,eo.tgt.2⟩
 ·rw [hd]
  intro b hb
  rcases aJ.1 hb with hb|hb
  ·exact hc.bd b hb
  ·rw [aE.1 hb]
   refine ⟨eo.var,?_⟩
   rw [zir hst he]
   rfl
 ·rw [hd]
  exact (zln e.fTime x.fOpens hc.ss).filter _
theorem CB.up {held:List Ev}(h:CB held a k c):CB held a (k+1) c:=⟨h.st,h.bd,h.ss,by have:=h.lb;omega,by have:=h.ls;omega⟩
theorem zms {held:List Ev}(hx:CxA a held)(hst:Str Ct held)(hc:CB held a k c)(he:e∈held)(h:d∈outP a held c e)(h0:0<=d.fState):CB held a (k+1) d:=by
 unfold outP at h
 rcases aJ.1 h with h|h
 ·split at h
  ·rw [aE.1 h]
   exact hc.up
  ·simp at h
 ·obtain ⟨x,hx',hd⟩:=mem_filterMap.1 h
  exact zp1 hx hst hc (zbq hx').1 he hd h0
theorem zje {held:List Ev}{l:List Cf}(h:d∈cfN a held l e):∃ c∈l,d∈outP a held c e/\0<=d.fState:=by
 unfold cfN at h
 obtain ⟨c,h1,h2⟩:=mem_flatMap.1 ((zet U5 _ _).1 h)
 exact ⟨c,h1,znk h2⟩
theorem zp3 {held:List Ev}(hx:CxA a held)(hst:Str Ct held){l:List Cf}(hc:∀ c∈l,CB held a k c)(he:e∈held):∀ d∈cfN a held l e,CB held a (k+1) d:=fun d hd=>by
 obtain ⟨c,h1,h2,h3⟩:=zje hd
 exact zms hx hst (hc c h1) he h2 h3
def wiP (most:Nat)(a:Aut)(held:List Ev):List Ev->List Cf->List Ma->List Cf×List Ma×Bool
 |[],cs,ms=>(cs,ms,true)
 |e::r,cs,ms=>if most<(cfN a held cs e).length\/most<(puts Ns ms (maN a held cs e)).length then ([],[],false) else wiP most a held r (cfN a held cs e) (puts Ns ms (maN a held cs e))
theorem cb0 {l:List Ev}(ha:AOk a):CB l a 0 cf0:=⟨⟨by simp,by have:=ha.st;simp;omega⟩,fun b hb=>by simp at hb,by simp [SS],by simp,by simp⟩
theorem zn1 {l more:List Ev}(hs:Str Ct more)(hm:∀ x∈l,x∈more){r:Rf}(h:(lkH l r).isSome=true):lkH l r=lkH more r:=by
 obtain ⟨y,hy⟩:=aU.1 h
 obtain ⟨h1,h2⟩:=ziq hy
 have:=zir hs (hm y h2)
 rw [h1] at this
 rw [hy,this]
theorem zps {l more:List Ev}(hs:Str Ct more)(hm:∀ x∈l,x∈more){cs:List Cf}(hc:∀ c∈cs,CB l a k c):∀ c∈cs,∀ b∈c.fBindings,lkH l b.fRef=lkH more b.fRef:=fun c h b hb=>zn1 hs hm ((hc c h).bd b hb).2
structure CIv (a:Aut) (rest:List Ev) (c:Cf):Prop where
 asc:c.fBindings.Pairwise (fun x y=>rCmp x.fRef y.fRef<0)
 bef:∀ b∈c.fBindings,∀ e∈rest,rCmp b.fRef (Fd e)<0
 scp:∀ s∈c.fStarts,(0<=s.fScope/\s.fScope<a.fScopes)/\0<=s.fTime/\s.fTime<=1099511627776
variable {r:List Ev}
theorem CIv.tail (h:CIv a (e::r) c):CIv a r c:=⟨h.asc,fun b hb x hx=>h.bef b hb x (aN _ hx),h.scp⟩
theorem zp0 (ha:AOk a){held:List Ev}(hst:Str Ct (e::r))(hp:K7 e=true)(h:CIv a (e::r) c)(hx:x∈a.fEdges)(hd:coP a held c x e=some d):CIv a r d:=by
 rw [Xj hd]
 obtain ⟨s1,s2⟩:=pairwise_cons.1 hst
 refine ⟨?_,fun b hb y hy=>?_,fun s hs=>?_⟩
 ·show Pairwise _ (bdN c x e)
  unfold bdN
  rw [pairwise_append]
  exact ⟨h.asc,pairwise_singleton _ _,fun b hb y hy=>by rw [aE.1 hy];exact h.bef b hb e (by simp)⟩
 ·rcases aJ.1 hb with hb|hb
  ·exact h.bef b hb y (aN _ hy)
  ·rw [aE.1 hb];exact s1 y hy
 ·have hs':=(aW.1 hs).1
  rcases opL_mem e.fTime x.fOpens hs' with ⟨k1,k2⟩|k
  ·refine ⟨(ha.ed x hx).opn _ k1,?_⟩
   rw [k2]
   unfold K7 at hp
   simp only [Bool.and_eq_true,decide_eq_true_eq] at hp
   exact ⟨hp.1,hp.2.1⟩
  ·exact h.scp s k
theorem zmr (ha:AOk a){held:List Ev}(hst:Str Ct (e::r))(hp:K7 e=true)(h:CIv a (e::r) c)(hd:d∈outP a held c e):CIv a r d:=by
 unfold outP at hd
 rcases aJ.1 hd with hd|hd
 ·split at hd
  ·rw [aE.1 hd];exact h.tail
  ·simp at hd
 ·obtain ⟨x,hx,hd⟩:=mem_filterMap.1 hd
  exact zp0 ha hst hp h (zbq hx).1 hd
theorem zp2 (ha:AOk a){held:List Ev}(hst:Str Ct (e::r))(hp:K7 e=true){cs:List Cf}(h:∀ c∈cs,CIv a (e::r) c):∀ d∈cfN a held cs e,CIv a r d:=fun d hd=>by
 obtain ⟨c,h1,h2,_⟩:=zje hd
 exact zmr ha hst hp (h c h1) h2
theorem zeo {held:List Ev}:∀ (p:List Ev) (cs:List Cf) (ms:List Ma),(wiP 150 a held (p++[e]) cs ms).2.2=true->∃ x m,wiP 150 a held p cs ms=(x,m,true)/\wiP 150 a held (p++[e]) cs ms=(cfN a held x e,puts Ns m (maN a held x e),true)/\(cfN a held x e).length<=150/\(puts Ns m (maN a held x e)).length<=150
 |[],cs,ms,h=>by
  refine ⟨cs,ms,rfl,?_⟩
  rw [nil_append] at h ⊢
  unfold wiP at h ⊢
  split at h
  ·cases h
  ·rename_i q
   rw [if_neg q]
   exact ⟨rfl,by omega,by omega⟩
 |f::p,cs,ms,h=>by
  rw [cons_append] at h ⊢
  unfold wiP at h ⊢
  split at h
  ·cases h
  ·rename_i q
   rw [if_neg q,if_neg q]
   exact zeo p _ _ h
structure GS (a:Aut) (l:List Ev):Prop where
 wf:WfA a
 few:FewA a
 ok:AOk a
 chk:Es N0 a=some 0
 acheck:Bz N0 a=some 0
 str:Y3 l=0
 len:l.length<=12
 sm:(wiP 150 a l l [cf0] []).2.2=true
theorem GS.so {l:List Ev}(h:GS a l):zpb l:=zdd h.str
theorem GS.cx {l:List Ev}(h:GS a l):CxA a l:=⟨h.wf,h.ok,fun x hx=>by have:=h.few.2 x hx;omega,by have:=h.len;omega⟩
structure Gd57 (a:Aut) (l:List Ev) (i:Nat) (c:Cf):Prop where
 cb:CB l a (i+20) c
 ci:CIv a (l.drop i) c
theorem CB.mono {l:List Ev}{m:Nat}(h:CB l a k c)(hk:k<=m):CB l a m c:=⟨h.st,h.bd,h.ss,aV h.lb hk,aV h.ls (Nat.mul_le_mul_left _ hk)⟩
theorem gd0 {l:List Ev}(h:GS a l):Gd57 a l 0 cf0:=⟨(cb0 h.ok).mono (aO _),by simp,fun b hb=>by simp at hb,fun s hs=>by simp at hs⟩
theorem Gd57.held {l:List Ev}(h:GS a l)(hc:Gd57 a l i c):CB (l.take i) a (i+20) c:=by
 refine ⟨hc.cb.st,fun b hb=>⟨(hc.cb.bd b hb).1,?_⟩,hc.cb.ss,hc.cb.lb,hc.cb.ls⟩
 have h1:=(hc.cb.bd b hb).2
 rw [<-take_append_drop i l,zn2] at h1
 cases hq:lkH (l.take i) b.fRef with
 |some e=>rfl
 |none =>
  rw [hq] at h1
  obtain ⟨e,he⟩:=aU.1 h1
  obtain ⟨e1,e2⟩:=ziq (by simpa using he)
  have:=hc.ci.bef b hb e e2
  rw [e1] at this
  have:=U8.lt_ne this
  exact absurd rfl this
theorem Gd57.ok {l:List Ev}(h:GS a l)(hi:i<=12)(hc:Gd57 a l i c):cfOk c=true:=hc.cb.sz.ok (by omega)
theorem Gd57.cs {l:List Ev}(h:GS a l)(hi:i<=12)(hc:Gd57 a l i c):CS (Gi a) c:=by
 have h1:=hc.cb.st
 have h2:=hc.cb.lb
 have h3:=hc.cb.ls
 exact ⟨by rw [(zla a).1.len];exact h1,by omega,by omega⟩
theorem znh {l:List Ev}(hi:i<l.length):l.drop i=l[i]::l.drop (i+1):=aB hi
theorem zju {l:List Ev}(h:Str Ct l)(i:Nat):Str Ct (l.drop i):=Pairwise.sublist (drop_sublist i l) h
theorem Gd57.next {l:List Ev}(h:GS a l)(hi:i<l.length){cs:List Cf}(hc:∀ c∈cs,Gd57 a l i c):∀ d∈cfN a l cs l[i],Gd57 a l (i+1) d:=fun d hd=>by
 have so:=h.so
 have e:=znh hi
 refine ⟨(zp3 h.cx so.st (fun c hc'=>(hc c hc').cb) (aD hi) d hd).mono (by omega),?_⟩
 have hst:=zju so.st i
 rw [e] at hst
 refine zp2 h.ok hst (so.pl _ (aD hi)) (fun c hc'=>?_) d hd
 have:=(hc c hc').ci
 rw [e] at this
 exact this
theorem Gd57.lk {l:List Ev}(h:GS a l){cs:List Cf}(hc:∀ c∈cs,Gd57 a l i c):∀ c∈cs,∀ b∈c.fBindings,lkH (l.take i) b.fRef=lkH l b.fRef :=
 zps h.so.st (fun y hy=>mem_of_mem_take hy) (fun c hc'=>(hc c hc').held h)
theorem Tt {α:Type}{n:Nat}{l:List α}(h:l.length<=1000000000):E1 n l=some l:=by unfold E1;exact if_pos h
def covd (R:List Mp)(l:List Cf)(d:Cf):Bool:=l.any (fun c=>cov R c d)
structure zm2 (a:Aut) (l:List Ev) (S:List (List Cf)):Prop where
 ln:S.length=l.length+1
 few:∀ i (hi:i<S.length),S[i].length<=4096
 gd:∀ i (hi:i<S.length),∀ c∈S[i],Gd57 a l i c
theorem zm2.cs {l:List Ev}(h:GS a l){S:List (List Cf)}(hS:zm2 a l S)(hi:i<S.length):∀ c∈S[i],CS (Gi a) c:=fun c hc=>(hS.gd i hi c hc).cs h (by have:=hS.ln;have:=h.len;omega)
abbrev mxT:Int:=1099511627776
theorem z74 (n:Nat)(rF:Exn->Option Exn)(ys:List Exn)(hl:ys.length<=4000000)(rec:∀ y∈ys,rF y=some y):∀ (m k:Nat),k<=ys.length->ys.length<m+k->Lz n rF (ys.map Ah) (fun y=>some y) m ((k:Int),(ys.map Ah).take k)=some (ys.map Ah)
 |0,k,h1,h2=>by omega
 |m+1,k,h1,h2=>by
  unfold Lz
  simp only [aA,A6]
  by_cases h:k<ys.length
  ·have h':k<(ys.map Ah).length:=by simpa using h
   rw [if_pos (by omega),Y9 h,rec _ (aD h),A4,C8 (by simp;omega) (by decide),Ai k (by omega)]
   have e:(ys.map Ah).take k++[Ah ys[k]]=(ys.map Ah).take (k+1):=by
    rw [aL h',bJ]
   rw [e]
   exact z74 n rF ys hl rec m (k+1) (by omega) (by omega)
  ·rw [if_neg (by omega),aT (by simp;omega)]
theorem zfc:∀ (s:Nat) (e:Exn),ETr s e->s<=4000000->∀ n,s+4000002<n->F4 n e=some e:=by
 intro s
 induction s using Nat.strongRecOn with
 |ind s IH =>
  intro e ht hs n hn
  cases ht with
  |mk l e h ha =>
   obtain ⟨n',rfl⟩:∃ n',n=n' + 1:=⟨n-1,by omega⟩
   have hl:=Nc (l:=l) (fun p hp=>(h p hp).pos)
   simp only [F4]
   unfold Si
   have e1:e.fArgs=(l.map (·.2)).map Ah:=by rw [ha,map_map];rfl
   have hc:=z74 n' (F4 n') (l.map (·.2)) (by rw [aA];omega) (fun y hy=>by
    obtain ⟨p,hp,rfl⟩:=mem_map.1 hy
    have:=Ho hp
    exact IH p.1 (by omega) p.2 (h p hp) (by omega) n' (by omega)) n' 0 (by omega) (by rw [aA];omega)
   simp only [aG,take_zero] at hc
   rw [e1,hc,A4,<-e1]
theorem Zs (n:Nat)(ys:List Exn)(hl:ys.length<=4000000)(rec:∀ y∈ys,F4 n y=some y):∀ (m k:Nat),k<=ys.length->ys.length<m+k->Kt n (ys.map Ah) (fun y=>some y) m ((k:Int),(ys.map Ah).take k)=some (ys.map Ah)
 |0,k,h1,h2=>by omega
 |m+1,k,h1,h2=>by
  unfold Kt
  simp only [aA,A6]
  by_cases h:k<ys.length
  ·have h':k<(ys.map Ah).length:=by simpa using h
   rw [if_pos (by omega),Y9 h,rec _ (aD h),A4,C8 (by simp;omega) (by decide),Ai k (by omega)]
   have e:(ys.map Ah).take k++[Ah ys[k]]=(ys.map Ah).take (k+1):=by
    rw [aL h',bJ]
   rw [e]
   exact Zs n ys hl rec m (k+1) (by omega) (by omega)
  ·rw [if_neg (by omega),aT (by simp;omega)]
theorem zmk (n:Nat)(hn:10000000<n)(x:Ed)(hx:WfX x):Px n x=some x:=by
 obtain ⟨z,hz,ht⟩:=hx.cond
 obtain ⟨ys,hy,hw⟩:=hx.checks
 have hlc:=hx.lc
 have hly:ys.length<=1100000:=by rw [hy,aA] at hlc;exact hlc
 have hlo:=hx.lo
 have hlcl:=hx.lcl
 have hli:=hx.li
 have hll:=hx.ll
 have hc:=Zs n ys (by omega) (fun y hy'=>by
  obtain ⟨z,hz,ht⟩:=hw y hy'
  exact zfc z y ht hz n (by omega)) n 0 (by omega) (by omega)
 simp only [aG,take_zero] at hc
 unfold Px Rl
 rw [zfc z _ ht hz n (by omega),A4,hy,hc,A4,Tt (by omega),A4,Tt (by omega),A4,Tt (by omega),A4,Tt (by omega),A4,<-hy]
theorem z93 (n:Nat)(hn:10000000<n)(a:Aut)(hw:WfA a)(L:List Int)(hL:L.length<=1100000)(hr:∀ i∈L,∃ j:Nat,i=(j:Int)/\j<a.fEdges.length):∀ (m k:Nat) (acc:List Ed),k<=L.length->L.length<m+k->acc.length<=k->∃ R,M5 n a L (fun y=>some (y,0)) m ((k:Int),acc)=some (R,0)/\R.length<=L.length/\∀ x,x∈R ↔ x∈acc\/∃ i∈L.drop k,∃ j:Nat,i=(j:Int)/\a.fEdges[j]? = some x
 |0,k,acc,h1,h2,h3=>by omega
 |m+1,k,acc,h1,h2,h3=>by
  unfold M5
  simp only [aA,A6]
  by_cases h:k<L.length
  ·obtain ⟨j,j1,j2⟩:=hr L[k] (aD h)
   have hj:a.fEdges[j]? = some a.fEdges[j]:=aF j2
   rw [if_pos (by omega),Al h,Ai k (by omega),j1,Al j2,zmk n hn _ (hw.ed _ (aD j2)),A4,C8 (by simp;omega) (by decide),aB h]
   obtain ⟨R,e1,e2,e3⟩:=z93 n hn a hw L hL hr m (k+1) (acc++[a.fEdges[j]]) (by omega) (by omega) (by simp;omega)
   refine ⟨R,e1,e2,fun x=>?_⟩
   rw [e3,aJ,aE,or_assoc]
   simp only [aM,exists_eq_or_imp]
   refine or_congr aR (or_congr ⟨fun e=>⟨j,j1,by rw [hj,e]⟩,fun ⟨i,i1,i2⟩=>?_⟩ aR)
   have:i=j:=by omega
   rw [this,hj] at i2
   injection i2 with i2
   exact i2.symm
  ·rw [if_neg (by omega),aC (by omega)]
   exact ⟨acc,rfl,by omega,fun x=>by simp⟩
theorem zmq (n:Nat)(hn:10000000<n)(a:Aut)(hw:WfA a)(hc:Bz n a=some 0)(i:Nat)(hi:i<a.fStates.length):∃ R,Pq n a (i:Int)=some (R,0)/\R.length<=1100000/\∀ x,x∈R ↔ x∈a.fEdges/\x.fFrom=(i:Int):=by
 obtain ⟨L,l1,l2,l3⟩:=zba n hn (i:Int) a hw.le
 have hle:=hw.le
 have hr:∀ i∈L,∃ j:Nat,i=(j:Int)/\j<a.fEdges.length:=fun i hi=>by
  obtain ⟨j,j1,x,j2,_⟩:=(l3 i).1 hi
  exact ⟨j,j1,(List.getElem?_eq_some_iff.1 j2).1⟩
 obtain ⟨R,r1,r2,r3⟩:=z93 n hn a hw L (by omega) hr n 0 [] (by omega) (by omega) (by simp)
 unfold Pq
 rw [hc,A4,Qg,A4]
 simp only [aA,Az,A6,if_true]
 rw [decide_eq_true (by omega:(0:Int)<=(i:Int)),decide_eq_true (by omega:(i:Int)<(a.fStates.length:Int)),Bool.and_self,Af,l1,A4]
 refine ⟨R,r1,by omega,fun x=>?_⟩
 rw [r3]
 simp only [not_mem_nil,false_or,aQ]
 constructor
 ·rintro ⟨i',hi',j,j1,j2⟩
  obtain ⟨j',j1',x',j2',j3'⟩:=(l3 i').1 hi'
  have:j'=j:=by omega
  rw [this,j2] at j2'
  injection j2' with j2'
  exact ⟨mem_of_getElem? j2,j2'▸j3'⟩
 ·rintro ⟨hx,x1⟩
  obtain ⟨j,hj,e⟩:=mem_iff_getElem.1 hx
  have hj':a.fEdges[j]? = some x:=by rw [aF hj,e]
  exact ⟨(j:Int),(l3 _).2 ⟨j,rfl,x,hj',x1⟩,j,rfl,hj'⟩
theorem Ww (n:Nat)(s:Int)(l:List C0)(hl:l.length<=1000000000):∀ (m k:Nat),k<=l.length->l.length<m+k->Kq n s l (some (-1)) m (k:Int)=some (Gh (fun y=>decide (y.fScope=s)) k (l.drop k))
 |0,k,h1,h2=>by omega
 |m+1,k,h1,h2=>by
  unfold Kq So
  simp only [aA,A6]
  by_cases h:k<l.length
  ·rw [if_pos (by omega),Al h,Ee l k h,Tg,A4,Ai k (by omega),Ww n s l hl m (k+1) (by omega) (by omega)]
   rw [A6]
   grind
  ·rw [if_neg (by omega),aC (by omega)]
   rfl
def limP (n:Nat)(x:Ed)(s:Int):Int×Bool:=(Hl n x s).getD (0,false)
theorem zia (n:Nat)(hn:10000000<n)(x:Ed)(ho:x.fOpens.length<=1100000)(hl:x.fLimits.length<=1100000)(s:Int):Hl n x s=some (limP n x s)/\((limP n x s).1=0\/∃ l∈x.fLimits,(limP n x s).1=l.fSpan)/\((limP n x s).2=true->∃ l∈x.fLimits,l.fScope=s/\¬s∈x.fOpens):=by
 have hx:=Ww n s x.fLimits (by omega) n 0 (by omega) (by omega)
 simp only [aG,aQ,Qc] at hx
 have key:∃ r,Hl n x s=some r/\(r.1=0\/∃ l∈x.fLimits,r.1=l.fSpan)/\(r.2=true->∃ l∈x.fLimits,l.fScope=s/\¬s∈x.fOpens):=by
  unfold Hl Oe
  rw [hx,A4]
  simp only [Ax,Ae,Hh,A6,Gb n s x.fOpens (by omega) (by omega),A4]
  by_cases q:fidx (fun y=>decide (y.fScope=s)) x.fLimits<0
  ·rw [if_pos q,Af]
   exact ⟨_,rfl,aK rfl,fun h=>by cases h⟩
  ·rw [if_neg q]
   cases e:(x.fOpens.any fun y=>decide (s=y)) with
   |true=>rw [Af];exact ⟨_,rfl,aK rfl,fun h=>by cases h⟩
   |false =>
    rw [Ag]
    unfold fidx at q ⊢
    cases e2:x.fLimits.findIdx? (fun y=>decide (y.fScope=s)) with
    |none=>rw [e2] at q;exact absurd (by simp) q
    |some j =>
     obtain ⟨j1,j2⟩:=findIdx?_eq_some_iff_getElem.1 e2
     simp only
     rw [Al j1]
     refine ⟨_,rfl,aH ⟨_,aD j1,rfl⟩,fun _=>⟨_,aD j1,by simpa using j2.1,fun hm=>?_⟩⟩
     have:=any_eq_false.1 e s hm
     simp at this
 obtain ⟨r,r1,r2,r3⟩:=key
 have:limP n x s=r:=by unfold limP;rw [r1];rfl
 rw [this]
 exact ⟨r1,r2,r3⟩
def lmS (n:Nat)(s:Int)(z:Int×Bool)(x:Ed):Int×Bool:=(max z.1 (limP n x s).1,z.2 && (limP n x s).2)
def D9 (n:Nat)(l:List Ed)(s:Int):Int×Bool:=l.foldl (lmS n s) (0,true)
structure LimR (x:Ed):Prop where
 o:x.fOpens.length<=1100000
 l:x.fLimits.length<=1100000
 s:∀ l∈x.fLimits,0<=l.fSpan/\l.fSpan<=mxT
theorem LimR.lim (h:LimR x)(n:Nat)(hn:10000000<n)(s:Int):0<=(limP n x s).1/\(limP n x s).1<=mxT:=by
 rcases (zia n hn x h.o h.l s).2.1 with e|⟨l,hl,e⟩
 ·rw [e];exact ⟨by omega,by decide⟩
 ·rw [e];exact h.s l hl
theorem zlr (n:Nat)(hn:10000000<n)(s:Int)(l:List Ed)(h:∀ x∈l,LimR x)(z:Int×Bool)(hz:0<=z.1/\z.1<=mxT):(0<=(l.foldl (lmS n s) z).1/\(l.foldl (lmS n s) z).1<=mxT)/\((l.foldl (lmS n s) z).2=true->z.2=true/\∀ x∈l,(limP n x s).2=true):=by
 induction l generalizing z with
 |nil=>exact ⟨hz,fun h=>⟨h,by simp⟩⟩
 |cons x r ih =>
  have h1:=(h x (by simp)).lim n hn s
  rw [aX]
  obtain ⟨i1,i2⟩:=ih (fun y hy=>h y (aN _ hy)) (lmS n s z x) (by unfold lmS;simp only;omega)
  refine ⟨i1,fun q=>?_⟩
  obtain ⟨q1,q2⟩:=i2 q
  unfold lmS at q1
  simp only [Bool.and_eq_true] at q1
  exact ⟨q1.1,fun y hy=>(aM.1 hy).elim (fun e=>e▸q1.2) (q2 y)⟩
theorem zfe (n:Nat)(hn:10000000<n)(l:List Ed)(hl:l.length<=1100000)(h:∀ x∈l,LimR x)(V:Int×Bool×Mp)(p:Int×Bool)(r:Mp)(K:Int->Bool->Mp->Option (Int×Bool)):∀ (m k:Nat) (z:Int×Bool),k<=l.length->l.length<m+k->Jm n l V p r K m (z.1,z.2,(k:Int))=K ((l.drop k).foldl (lmS n p.1) z).1 ((l.drop k).foldl (lmS n p.1) z).2 r
 |0,k,z,h1,h2=>by omega
 |m+1,k,z,h1,h2=>by
  unfold Jm
  simp only [aA,Ae]
  rw [A6]
  by_cases hk:k<l.length
  ·have hx:=h _ (aD hk)
   rw [if_pos (by omega),Al hk,(zia n hn _ hx.o hx.l p.1).1,A4,Ai k (by omega),aB hk,aX]
   have i1:=zfe n hn l hl h V p r K m (k+1) (lmS n p.1 z l[k]) (by omega) (by omega)
   unfold lmS at i1
   simp only at i1
   unfold lmS
   obtain ⟨z1,z2⟩:=z
   cases z2 with
   |true=>rw [Af];simpa using i1
   |false=>rw [Ag];simpa using i1
  ·rw [if_neg (by omega),aC (by omega)]
   rfl
def agS (n:Nat)(l:List Ed)(z:Int×Bool)(p:Int×Bool):Int×Bool:=if (D9 n l p.1).2=true/\(z.2=false\/(D9 n l p.1).1<z.1) then ((D9 n l p.1).1,true) else z
theorem zg7 (n:Nat)(l:List Ed)(z x y:Int×Bool):agS n l (agS n l z x) y=agS n l (agS n l z y) x:=by
 unfold agS
 generalize D9 n l x.1=p
 generalize D9 n l y.1=q
 obtain ⟨z1,z2⟩:=z
 obtain ⟨p1,p2⟩:=p
 obtain ⟨q1,q2⟩:=q
 cases p2<;>cases q2<;>cases z2<;>simp<;>grind
theorem zff (n:Nat)(hn:10000000<n)(l:List Ed)(hl:l.length<=1100000)(h:∀ x∈l,LimR x):∀ (m:Nat) (rem:Mp) (z:Int×Bool),rem.length<m->G5 n l (fun y z=>some (y,z)) m (z.1,z.2,rem)=some (rem.foldl (agS n l) z)
 |0,rem,z,h1=>by omega
 |m+1,rem,z,h1=>by
  unfold G5
  simp only [Ae]
  by_cases e:rem=[]
  ·subst e
   rw [Xt]
   rfl
  ·have hne:∀ (x y:Option (Int×Bool)),nxt rem x y=y:=fun x y=>by
    cases rem with
    |nil=>exact absurd rfl e
    |cons p r=>exact Xb p r x y
   rw [hne]
   refine X8 e fun j hj=>?_
   have h2:=fun K=>zfe n hn l hl h (z.1,z.2,rem) rem[j] (rem.eraseIdx j) K n 0 (0,true) (by omega) (by omega)
   simp only [aG,aQ] at h2
   rw [h2]
   have hlen:(rem.eraseIdx j).length<m:=by rw [aP hj];omega
   have hp:(rem[j]::rem.eraseIdx j).Perm rem:=N7 hj
   have hc:=Perm.foldl_eq' (f:=agS n l) hp (fun x _ y _ z=>zg7 n l z x y) z
   rw [<-hc,aX]
   have i1:=zff n hn l hl h m (rem.eraseIdx j) (agS n l z rem[j]) hlen
   rw [<-i1]
   unfold agS D9
   obtain ⟨z1,z2⟩:=z
   simp only [Az]
   cases hq:(l.foldl (lmS n rem[j].1) (0,true)).2 with
   |false=>rw [Ag];simp
   |true =>
    rw [Af]
    cases z2 with
    |false=>rw [Ag];simp
    |true =>
     rw [Af,A6]
     by_cases q:(l.foldl (lmS n rem[j].1) (0,true)).1<z1
     ·rw [if_pos q];simp [q]
     ·rw [if_neg q];simp [q]
theorem zp9 (n:Nat)(hn:10000000<n)(l:List Ed)(h:∀ x∈l,LimR x)(rem:Mp)(z:Int×Bool)(hz:0<=z.1/\z.1<=mxT):(0<=(rem.foldl (agS n l) z).1/\(rem.foldl (agS n l) z).1<=mxT)/\((rem.foldl (agS n l) z).2=true->z.2=true\/∃ s,∀ x∈l,(limP n x s).2=true):=by
 induction rem generalizing z with
 |nil=>exact ⟨hz,aK⟩
 |cons p r ih =>
  have hm:=zlr n hn p.1 l h (0,true) ⟨by decide,by decide⟩
  rw [aX]
  unfold agS
  split
  ·rename_i q
   obtain ⟨i1,i2⟩:=ih ((D9 n l p.1).1,true) hm.1
   exact ⟨i1,fun _=>aH ⟨p.1,(hm.2 q.1).2⟩⟩
  ·exact ih z hz
def Bdd (n:Nat)(a:Aut)(t:Int):Prop:=∃ s,∀ x∈a.fEdges,x.fFrom=t->(limP n x s).2=true
structure AgOk (n:Nat) (a:Aut) (p:Be) (k:Nat) (ag:List Int) (bd:List Bool):Prop where
 l1:ag.length=a.fStates.length
 l2:bd.length=a.fStates.length
 rng:∀ v∈ag,0<=v/\v<=mxT
 bdd:∀ i:Nat,i<k->has p.finner (i:Int)->bd[i]? = some true->Bdd n a (i:Int)
abbrev Scn:=Av
theorem zid (n:Nat)(hn:10000000<n)(e:Exn)(hw:WfE e):∃ r,Mo n e=some r:=by
 obtain ⟨vs,v1,v2,_⟩:=zdx hw n hn
 obtain ⟨z,hz,ht⟩:=hw
 obtain ⟨r,_,r2⟩:=zmd [] [] (fun v=>by unfold evs;split<;>simp) (-1) ⟨0,0,0,0,[]⟩ z e (fun _ _=>rfl) ht hz n hn
 unfold Mo
 simp only [Ax,Ae,J8]
 rw [v1,A4,r2,A4,A6]
 split
 ·exact ⟨_,rfl⟩
 ·exact ⟨_,rfl⟩
theorem zmn (n:Nat)(hn:10000000<n)(g:B5)(x:Ed)(h:x.fInside.length<=1100000):Oo n g x=some (decide (g.fType=x.fType) && !(x.fInside.any fun y=>decide (g.fScope=y))):=by
 unfold Oo
 simp only [Ax,Ae,I7,A6,Gb n g.fScope x.fInside (by omega) (by omega),A4]
 by_cases q:g.fType=x.fType<;>simp [q]
theorem zbc (n:Nat)(hn:10000000<n)(x:Ed)(h:x.fInside.length<=1100000)(l:List B5)(hl:l.length<=1000000000):∀ (m k:Nat),k<=l.length->l.length<m+k->∃ r,Kp n x l (some (-1)) m (k:Int)=some r
 |0,k,h1,h2=>by omega
 |m+1,k,h1,h2=>by
  unfold Kp
  simp only [aA]
  rw [A6]
  by_cases hk:k<l.length
  ·rw [if_pos (by omega),Al hk,zmn n hn _ x h,A4,Ai k (by omega),Am]
   split
   ·exact ⟨_,rfl⟩
   ·exact zbc n hn x h l hl m (k+1) (by omega) (by omega)
  ·rw [if_neg (by omega)]
   exact ⟨_,rfl⟩
theorem zbd (n:Nat)(hn:10000000<n)(x:Ed)(sc:Scn)(ho:x.fOpens.length<=1100000)(hl:x.fLimits.length<=1100000)(K:Option Bool)(r0:Bool)(hK:K=some r0):∀ (m k:Nat),k<=x.fLimits.length->x.fLimits.length<m+k->∃ r,Lj n x sc K m (k:Int)=some r/\(r=true->∀ l∈x.fLimits.drop k,l.fScope∈x.fOpens)
 |0,k,h1,h2=>by omega
 |m+1,k,h1,h2=>by
  unfold Lj
  simp only [aA]
  rw [A6]
  by_cases hk:k<x.fLimits.length
  ·rw [if_pos (by omega),Al hk,Gb n _ x.fOpens (by omega) (by omega),A4,Ai k (by omega),Az,Am,aB hk]
   split
   ·rename_i q
    obtain ⟨r,r1,r2⟩:=zbd n hn x sc ho hl K r0 hK m (k+1) (by omega) (by omega)
    refine ⟨r,r1,fun hr l hl'=>(aM.1 hl').elim (fun e=>?_) (r2 hr l)⟩
    obtain ⟨y,y1,y2⟩:=any_eq_true.1 q
    rw [e,of_decide_eq_true y2]
    exact y1
   ·exact ⟨false,rfl,fun h=>by cases h⟩
  ·rw [if_neg (by omega),aC (by omega),hK]
   exact ⟨r0,rfl,fun _=>by simp⟩
theorem zbe (n:Nat)(hn:10000000<n)(x:Ed)(hx:WfX x)(sc:Scn)(K:Option Bool)(P:Prop)(r0:Bool)(hK:K=some r0)(hP:r0=true->P):∀ (m k:Nat),k<=x.fChecks.length->x.fChecks.length<m+k->∃ r,Lk n x sc K m (k:Int)=some r/\(r=true->P)
 |0,k,h1,h2=>by omega
 |m+1,k,h1,h2=>by
  obtain ⟨ys,hy,hw⟩:=hx.checks
  have hlc:=hx.lc
  unfold Lk
  simp only [aA]
  rw [A6]
  by_cases hk:k<x.fChecks.length
  ·have hk':k<ys.length:=by rw [hy,aA] at hk;exact hk
   obtain ⟨c,c1⟩:=zid n hn ys[k] (hw _ (aD hk'))
   have e:∀ K:Exn->Option Bool,idxD Bs x.fChecks (k:Int) K=K ys[k]:=fun K=>by rw [hy];exact Y9 hk' K
   rw [if_pos (by omega),e,c1,A4,Ai k (by omega),Az,Am]
   split
   ·exact zbe n hn x hx sc K P r0 hK hP m (k+1) (by omega) (by omega)
   ·exact ⟨false,rfl,fun h=>by cases h⟩
  ·rw [if_neg (by omega),hK]
   exact ⟨r0,rfl,hP⟩
theorem zoe (n:Nat)(hn:10000000<n)(sc:Scn)(x:Ed)(hx:WfX x)(hf:0<=x.fFrom/\x.fFrom.toNat<sc.fa.fStates.length)(hg:∀ s∈sc.fa.fStates,s.fGuards.length<=1100000):∃ r,Fu n sc x=some r/\(r=true->x.fType<(sc.ftypes.length:Int)/\∀ l∈x.fLimits,l.fScope∈x.fOpens):=by
 obtain ⟨c,c1⟩:=zid n hn x.fCond hx.cond
 have hlo:=hx.lo
 have hli:=hx.li
 have hll:=hx.ll
 have hlc:=hx.lc
 obtain ⟨i,i1⟩:=zbc n hn x (by omega) sc.fa.fStates[x.fFrom.toNat].fGuards (by have:=hg _ (aD hf.2);omega) n 0 (by omega) (by have:=hg _ (aD hf.2);omega)
 simp only [aG] at i1
 have key:∀ b,∃ r,Gy n x sc b=some r/\(r=true->b=false/\∀ l∈x.fLimits,l.fScope∈x.fOpens):=fun b=>by
  unfold Gy
  cases b with
  |true=>rw [Af];exact ⟨false,rfl,fun h=>by cases h⟩
  |false =>
   rw [Ag]
   have hK:(idx sc.fa.fStates x.fFrom fun x83=>bnd (O1 n x83.fGuards x) fun x84=>some !(x84))=some (!(decide (0<=i))):=by
    rw [Gc hf.1 hf.2]
    unfold O1 Rh
    rw [i1,A4,A4]
   obtain ⟨r2,q1,q2⟩:=zbd n hn x sc (by omega) (by omega) _ _ hK n 0 (by omega) (by omega)
   simp only [aG,aQ] at q1 q2
   obtain ⟨r1,t1,t2⟩:=zbe n hn x hx sc _ (∀ l∈x.fLimits,l.fScope∈x.fOpens) r2 q1 q2 n 0 (by omega) (by omega)
   simp only [aG] at t1
   exact ⟨r1,t1,fun h=>⟨rfl,t2 h⟩⟩
 unfold Fu
 simp only [Ax,Ae,aA]
 rw [A6]
 by_cases q:(sc.ftypes.length:Int)<=x.fType
 ·rw [if_pos q]
  obtain ⟨r,r1,r2⟩:=key true
  exact ⟨r,r1,fun h=>absurd (r2 h).1 (by simp)⟩
 ·rw [if_neg q,c1,A4]
  obtain ⟨r,r1,r2⟩:=key (!c)
  exact ⟨r,r1,fun h=>⟨by omega,(r2 h).2⟩⟩
def frP (n:Nat)(sc:Scn)(x:Ed):Bool:=(Fu n sc x).getD false
structure ScR (q:Scn):Prop extends AutR q.fa where
 w:WfA q.fa
theorem ScR.free {sc:Scn}(h:ScR sc)(n:Nat)(hn:10000000<n)(hx:x∈sc.fa.fEdges):Fu n sc x=some (frP n sc x)/\(frP n sc x=true->x.fType<(sc.ftypes.length:Int)/\∀ l∈x.fLimits,l.fScope∈x.fOpens):=by
 have he:=h.ed x hx
 obtain ⟨r,r1,r2⟩:=zoe n hn sc x (h.w.ed x hx) (by omega) (fun s hs=>(h.w.st s hs).1)
 have:frP n sc x=r:=by unfold frP;rw [r1];rfl
 rw [this]
 exact ⟨r1,r2⟩
def gdk (a:Aut)(s k:Int):Bool:=match a.fStates[s.toNat]? with|some q=>q.fGuards.any (fun g=>decide (g.fType=k))|none=>false
def ptP (a:Aut)(tt:Int)(x:Ed):Bool:=decide (0<=x.fTo) && (!gdk a 0 x.fType && !gdk a tt x.fType)
inductive OpP (E:List Ed):Int->Prop
 |last (x:Ed) (hx:x∈E) (h:x.fTo<0):OpP E x.fFrom
 |step (x:Ed) (hx:x∈E) (h:OpP E x.fTo):OpP E x.fFrom
structure OpOk (E:List Ed) (N:Nat) (M:Mp):Prop where
 mks:MK M
 rg:∀ t,has M t->-1<=t/\t<(N:Int)
 op:∀ t,has M t->t=-1\/OpP E t
inductive Pth (E:List Ed) (tt:Int):Int->List Int->Prop
 |one (x:Ed) (hx:x∈E) (h:x.fTo=tt):Pth E tt x.fFrom [x.fType]
 |cons (x:Ed) (hx:x∈E) {w:List Int} (h:Pth E tt x.fTo w):Pth E tt x.fFrom (x.fType::w)
structure SnOk (N:Nat) (tt:Int) (M:Mp):Prop where
 mks:MK M
 rg:∀ t,has M t->-1<=t/\t<(N:Int)
 no:¬has M tt
structure PRes (E:List Ed) (tt:Int) (N f:Nat) (s:Int) (M:Mp) (w:List Int) (M':Mp):Prop where
 ok:SnOk N tt M'
 mono:∀ t,has M t->has M' t
 ml:M.length<=M'.length
 len:w.length<=f
 yes:w≠[]->Pth E tt s w
def ptE (n:Nat)(sc:Scn)(tt:Int):List Ed:=sc.fa.fEdges.filter (fun x=>frP n sc x && ptP sc.fa tt x)
structure AtOk (N:Nat) (M:Mp):Prop where
 mks:MK M
 rg:∀ t,has M t->0<=t/\t<(N:Int)
end Go.Proofs.YthbogefcfhmpgaaGreat
