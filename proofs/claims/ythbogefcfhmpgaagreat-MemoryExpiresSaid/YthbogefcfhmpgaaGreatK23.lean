/- Layer 56, plainly. -/
import Derived.Test.YthbogefcfhmpgaaGreatK22
set_option linter.unusedVariables false
set_option linter.unusedSimpArgs false
namespace Go.Proofs.YthbogefcfhmpgaaGreat
open Go.RowKit List
open List renaming length_map->aA,drop_eq_nil_of_le->aB,getElem_mem->aC,drop_eq_getElem_cons->aD,mem_singleton->aF,length_append->aH,getElem?_eq_getElem->aJ,mem_append->aL,drop_zero->aM,length_singleton->aN,append_assoc->aO,length_filter_le->aP,mem_cons->aQ,mem_flatMap->aR,flatMap_cons->aS,mem_cons_of_mem->aW,length_eraseIdx_of_lt->aX,filterMap_cons->aY,nodup_cons->bA,length_set->bB,mem_filter->bC,getElem_cons_zero->bD,getElem_cons_succ->bE,getElem?_set->bF,countP_le_length->bG,filter_cons->bI,map_cons->bJ,replicate->bK
open Nat renaming zero_le->aE,le_refl->bH,le_trans->bL
open Or renaming inr->aG,inl->aK
open Iff renaming rfl->aT
open Int renaming toNat_natCast->aU,natCast_zero->aV,toNat_of_nonneg->aZ
theorem zjf {α:Type}[DecidableEq α]:∀ {l l':List α},l.Nodup->(∀ x∈l,x∈l')->l.length<=l'.length
 |[],l',_,_=>aE _
 |a::l,l',h,hs=>by
  have f:=hs a (by simp);have:=zjf (l:=l) (l':=l'.erase a) (bA.1 h).2 (fun x b=>(mem_erase_of_ne (fun (e:x=a)=>(bA.1 h).1 (e▸b))).2 (hs x (aW _ b)));rw [length_erase_of_mem f] at this;have:=length_pos_of_mem f;simp only [length_cons];omega
structure MK (l:Mp):Prop where
 nd:(l.map (·.1)).Nodup
 tr:∀ p∈l,p.2=true
theorem MK.nil:MK []:=⟨List.nodup_nil,by simp⟩
theorem Je (v:Int):¬has ([]:Mp) v:=by simp [has]
theorem N3 (p:Int×Bool)(r:Mp)(v:Int):has (p::r) v ↔ v=p.1\/has r v:=by simp [has]
variable {l:Mp}
theorem zzs {v:Int}(h:¬has l v):mlk l v=none:=by
 induction l with
 |nil=>rfl
 |cons p r ih =>
  obtain ⟨a,b⟩:=p;rw [N3,not_or] at h;unfold mlk;rw [if_neg h.1];exact ih h.2
theorem MK.tail {p:Int×Bool}{r:Mp}(h:MK (p::r)):MK r:=⟨(bA.1 h.nd).2,fun q b=>h.tr q (aW _ b)⟩
theorem MK.some (h:MK l){v:Int}(q:has l v):mlk l v=some true:=by
 induction l with
 |nil=>exact absurd q (Je v)
 |cons p r ih =>
  have f:=h.tr p (by simp);have g:=h.tail;obtain ⟨a,b⟩:=p;unfold mlk;by_cases e:v=a
  ·rw [if_pos e];simp only at f;rw [f]
  ·rw [if_neg e];exact ih g (((N3 _ _ _).1 q).resolve_left e)
theorem MK.get (h:MK l)(v:Int):(mlk l v).getD false=true ↔ has l v:=by
 by_cases q:has l v
 ·rw [h.some q];simp [q]
 ·rw [zzs q];simp [q]
theorem zvw {k:Int}(h:¬has l k):mput l k true=l++[(k,true)]:=by
 induction l with
 |nil=>rfl
 |cons p r f =>
  obtain ⟨a,b⟩:=p;rw [N3,not_or] at h;unfold mput;rw [if_neg h.1,f h.2];rfl
theorem MK.put_in (h:MK l){k:Int}(q:has l k):mput l k true=l:=by
 induction l with
 |nil=>exact absurd q (Je k)
 |cons p r ih =>
  have f:=h.tr p (by simp);have g:=h.tail;obtain ⟨a,b⟩:=p;unfold mput;simp only at f;by_cases e:k=a
  ·rw [if_pos e,f,e]
  ·rw [if_neg e,ih g (((N3 _ _ _).1 q).resolve_left e)]
theorem MK.has_put (h:MK l)(k v:Int):has (mput l k true) v ↔ v=k\/has l v:=by
 by_cases q:has l k
 ·rw [h.put_in q];exact ⟨aG,fun e=>e.elim (fun e=>e▸q) id⟩
 ·rw [zvw q];simp only [has,map_append,aL,bJ,map_nil,aF];exact Or.comm
theorem MK.put (h:MK l)(k:Int):MK (mput l k true):=by
 by_cases q:has l k
 ·rw [h.put_in q];exact h
 ·rw [zvw q];refine ⟨?_,fun p f=>?_⟩
  ·rw [map_append,nodup_append];refine ⟨h.nd,by simp,fun a j b g=>?_⟩;simp only [bJ,map_nil,aF] at g;rw [g];exact fun e=>q (e▸j)
  ·rcases aL.1 f with f|f
   ·exact h.tr p f
   ·rw [aF] at f;rw [f]
instance decHas (l:Mp)(v:Int):Decidable (has l v):=inferInstanceAs (Decidable (v∈l.map (·.1)))
theorem MK.perm {l':Mp}(h:MK l)(p:l.Perm l'):MK l':=⟨((p.map _).nodup_iff).1 h.nd,fun q b=>h.tr q (p.mem_iff.2 b)⟩
theorem zt3 {l':Mp}(p:l.Perm l')(v:Int):has l v ↔ has l' v:=(p.map _).mem_iff
theorem MK.out (h:MK l){j:Nat}(f:j<l.length):MK (l.eraseIdx j)/\¬has (l.eraseIdx j) l[j].1/\∀ v,has l v ↔ v=l[j].1\/has (l.eraseIdx j) v:=by
 have p:(l[j]::l.eraseIdx j).Perm l:=Ry f;have b:=h.perm p.symm;refine ⟨b.tail,fun q=>(bA.1 b.nd).1 q,fun v=>?_⟩;rw [<-N3];exact zt3 p.symm v
theorem y1v {l':Mp}(h:Srt l)(u:Srt l')(t:∀ p∈l,p.2=true)(b:∀ p∈l',p.2=true)(s:∀ x,has l x ↔ has l' x):l=l':=by
 have j:Str cmpI (l.map (·.1)):=h.imp (fun q=>(Wv _ _).2 q);have g:Str cmpI (l'.map (·.1)):=u.imp (fun q=>(Wv _ _).2 q);have e:=Str.uniq Hq j g s;have f:∀ q:Mp,(∀ p∈q,p.2=true)->q=(q.map (·.1)).map (fun x=>(x,true)):=fun q n=>by
  rw [map_map];conv=>lhs;rw [<-map_id q]
  exact map_congr_left (fun p o=>by have:=n p o;cases p;simp_all)
 rw [f l t,f l' b,e]
theorem MK.sort (h:MK l):MK (Cw l)/\Srt (Cw l)/\(Cw l).length=l.length/\∀ v,has (Cw l) v ↔ has l v :=
 ⟨h.perm (Wh h.nd).symm,zb8 l,(Wh h.nd).length_eq,zt3 (Wh h.nd)⟩
theorem z8o (n:Nat)(s:Int)(a:Aut)(v:a.fEdges.length<=1100000):∀ (m k:Nat) (acc:List Int),k<=a.fEdges.length->a.fEdges.length<m+k->acc.length<=k->∃ L,Li n s a (fun y=>some y) m ((k:Int),acc)=some L/\L.length<=a.fEdges.length/\∀ i:Int,i∈L ↔ i∈acc\/∃ j:Nat,k<=j/\i=(j:Int)/\∃ x,a.fEdges[j]? = some x/\x.fFrom=s
 |0,k,acc,h1,B,A=>by omega
 |m+1,k,acc,h1,B,A=>by
  unfold Li;simp only [aA,A3,Ak];by_cases h:k<a.fEdges.length
  ·rw [if_pos (by omega),Af h,Ag k (by omega)];have z:a.fEdges[k]? = some a.fEdges[k]:=aJ h;by_cases q:a.fEdges[k].fFrom=s
   ·rw [if_pos q,Bv (by simp;omega) (by decide)];obtain ⟨L,t,p,o⟩:=z8o n s a v m (k+1) (acc++[(k:Int)]) (by omega) (by omega) (by simp;omega);refine ⟨L,t,p,fun i=>?_⟩;rw [o,aL,aF];constructor
    ·rintro ((h|h)|⟨j,g,f⟩)
     ·exact aK h
     ·exact aG ⟨k,bH _,h,_,z,q⟩
     ·exact aG ⟨j,by omega,f⟩
    ·rintro (h|⟨j,g,f,b⟩)
     ·exact aK (aK h)
     ·by_cases e:j=k
      ·subst e;exact aK (aG f)
      ·exact aG ⟨j,by omega,f,b⟩
   ·rw [if_neg q];obtain ⟨L,t,p,o⟩:=z8o n s a v m (k+1) acc (by omega) (by omega) (by omega);refine ⟨L,t,p,fun i=>?_⟩;rw [o];constructor
    ·rintro (h|⟨j,g,f⟩)
     ·exact aK h
     ·exact aG ⟨j,by omega,f⟩
    ·rintro (h|⟨j,g,f,x,b,u⟩)
     ·exact aK h
     ·by_cases e:j=k
      ·subst e;rw [z] at b;injection b with b;exact absurd (b▸u) q
      ·exact aG ⟨j,by omega,f,x,b,u⟩
  ·rw [if_neg (by omega)];refine ⟨acc,rfl,by omega,fun i=>⟨aK,fun h=>h.elim id fun ⟨j,g,f,x,b,_⟩=>?_⟩⟩;have:=(List.getElem?_eq_some_iff.1 b).1;omega
theorem zmt (n:Nat)(o:10000000<n)(s:Int)(a:Aut)(b:a.fEdges.length<=1100000):∃ L,V3 n a s=some L/\L.length<=a.fEdges.length/\∀ i:Int,i∈L ↔ ∃ j:Nat,i=(j:Int)/\∃ x,a.fEdges[j]? = some x/\x.fFrom=s:=by
 obtain ⟨L,h,g,f⟩:=z8o n s a b n 0 [] (by omega) (by omega) (by simp);refine ⟨L,h,g,fun i=>?_⟩;rw [f];simp
def nxS (a:Aut)(s t:Int):Prop:=∃ x∈a.fEdges,x.fFrom=s/\x.fTo=t/\0<=t
def prS (a:Aut)(s t:Int):Prop:=∃ x∈a.fEdges,x.fTo=s/\x.fFrom=t
theorem zai (n:Nat)(a:Aut)(L:List Int)(z:L.length<=1100000)(f:∀ i∈L,∃ j:Nat,i=(j:Int)/\j<a.fEdges.length):∀ (m k:Nat) (acc:List Int),k<=L.length->L.length<m+k->acc.length<=k->∃ R,Jy n a L (fun y=>some y) m ((k:Int),acc)=some R/\R.length<=L.length/\∀ t:Int,t∈R ↔ t∈acc\/∃ i∈L.drop k,∃ j:Nat,i=(j:Int)/\∃ x,a.fEdges[j]? = some x/\x.fTo=t/\0<=t
 |0,k,acc,h1,C,B=>by omega
 |m+1,k,acc,h1,C,B=>by
  unfold Jy;simp only [aA,A3,Ak];by_cases h:k<L.length
  ·obtain ⟨j,u,s⟩:=f L[k] (aC h);have v:a.fEdges[j]? = some a.fEdges[j]:=aJ s;rw [if_pos (by omega),Af h,Ag k (by omega),u,Af s,aD h];simp only [aQ,exists_eq_or_imp];have key:∀ t:Int,(∃ i:Nat,L[k]=(i:Int)/\∃ x,a.fEdges[i]? = some x/\x.fTo=t/\0<=t) ↔ (a.fEdges[j].fTo=t/\0<=t):=fun t=>by
    rw [u];constructor
    ·rintro ⟨i,D,x,b,A⟩;have:i=j:=by omega
     rw [this,v] at b;injection b with b
     rw [b];exact A
    ·intro q;exact ⟨j,rfl,_,v,q⟩
   simp only [key];by_cases q:0<=a.fEdges[j].fTo
   ·rw [if_pos q,Bv (by simp;omega) (by decide)];obtain ⟨R,p,o,g⟩:=zai n a L z f m (k+1) (acc++[a.fEdges[j].fTo]) (by omega) (by omega) (by simp;omega);refine ⟨R,p,o,fun t=>?_⟩;rw [g,aL,aF,or_assoc];refine or_congr aT (or_congr ⟨fun e=>⟨e.symm,e▸q⟩,fun e=>e.1.symm⟩ aT)
   ·rw [if_neg q];obtain ⟨R,p,o,g⟩:=zai n a L z f m (k+1) acc (by omega) (by omega) (by omega);refine ⟨R,p,o,fun t=>?_⟩;rw [g];refine or_congr aT ⟨aG,fun h=>h.elim (fun e=>absurd (e.1▸e.2) q) id⟩
  ·rw [if_neg (by omega),aB (by omega)];exact ⟨acc,rfl,by omega,fun t=>by simp⟩
theorem zzb (n:Nat)(E:10000000<n)(s:Int)(a:Aut)(F:a.fEdges.length<=1100000):∃ R,Tu n s a=some R/\R.length<=1100000/\∀ t:Int,t∈R ↔ nxS a s t:=by
 obtain ⟨L,J,O,o⟩:=zmt n E s a F;have D:∀ i∈L,∃ j:Nat,i=(j:Int)/\j<a.fEdges.length:=fun i hi=>by
  obtain ⟨j,p,x,g,_⟩:=(o i).1 hi;exact ⟨j,p,(List.getElem?_eq_some_iff.1 g).1⟩
 obtain ⟨R,I,M,H⟩:=zai n a L (by omega) D n 0 [] (by omega) (by omega) (by simp);unfold Tu;rw [J,A0];refine ⟨R,I,by omega,fun t=>?_⟩;rw [H];simp only [aM,not_mem_nil,false_or];constructor
 ·rintro ⟨i,hi,j,p,x,g,z,y⟩;obtain ⟨B,A,K,b,h⟩:=(o i).1 hi;have:B=j:=by omega
  rw [this,g] at b;injection b with b
  exact ⟨x,mem_of_getElem? g,b▸h,z,y⟩
 ·rintro ⟨x,C,v,u,q⟩;obtain ⟨j,G,e⟩:=mem_iff_getElem.1 C;have f:a.fEdges[j]? = some x:=by rw [aJ G,e]
  exact ⟨(j:Int),(o _).2 ⟨j,rfl,x,f,v⟩,j,rfl,x,f,u,q⟩
theorem z8m (n:Nat)(a:Aut)(s:Int)(j:a.fEdges.length<=1100000):∀ (m k:Nat) (acc:List Int),k<=a.fEdges.length->a.fEdges.length<m+k->acc.length<=k->∃ R,L2 n a s (fun y=>some y) m ((k:Int),acc)=some R/\R.length<=a.fEdges.length/\∀ t:Int,t∈R ↔ t∈acc\/∃ x∈a.fEdges.drop k,x.fTo=s/\x.fFrom=t
 |0,k,acc,h1,p,o=>by omega
 |m+1,k,acc,h1,p,o=>by
  unfold L2;simp only [aA,A3,Ak];by_cases h:k<a.fEdges.length
  ·rw [if_pos (by omega),Af h,Ag k (by omega),aD h];simp only [aQ,exists_eq_or_imp];by_cases q:a.fEdges[k].fTo=s
   ·rw [if_pos q,Bv (by simp;omega) (by decide)];obtain ⟨R,g,f,b⟩:=z8m n a s j m (k+1) (acc++[a.fEdges[k].fFrom]) (by omega) (by omega) (by simp;omega);refine ⟨R,g,f,fun t=>?_⟩;rw [b,aL,aF,or_assoc];exact or_congr aT (or_congr ⟨fun e=>⟨q,e.symm⟩,fun e=>e.2.symm⟩ aT)
   ·rw [if_neg q];obtain ⟨R,g,f,b⟩:=z8m n a s j m (k+1) acc (by omega) (by omega) (by omega);refine ⟨R,g,f,fun t=>?_⟩;rw [b];exact or_congr aT ⟨aG,fun h=>h.elim (fun e=>absurd e.1 q) id⟩
  ·rw [if_neg (by omega),aB (by omega)];exact ⟨acc,rfl,by omega,fun t=>by simp⟩
theorem zw0 (n:Nat)(h:10000000<n)(s:Int)(a:Aut)(b:a.fEdges.length<=1100000):∃ R,Yt n s a=some R/\R.length<=1100000/\∀ t:Int,t∈R ↔ prS a s t:=by
 obtain ⟨R,g,j,f⟩:=z8m n a s b n 0 [] (by omega) (by omega) (by simp);refine ⟨R,g,by omega,fun t=>?_⟩;rw [f];simp [prS]
def hs (m:List Bool)(t:Int):Prop:=0<=t/\m[t.toNat]? = some true
def fre (m:List Bool):Nat:=m.countP (fun b=>!b)
variable {m:List Bool}{i:Nat}
theorem zx8 (hi:i<m.length)(q:m[i]=false):fre (m.set i true)+1=fre m:=by
 unfold fre
 induction m generalizing i with
 |nil=>simp at hi
 |cons b r ih =>
  cases i with
  |zero=>simp only [bD] at q;subst q;simp
  |succ i =>
   simp only [bE] at q;have:=ih (by simpa using hi) q;simp only [set_cons_succ,countP_cons];omega
variable {w:List Bool}
theorem y1a (g:m.length=w.length)(h:∀ t,hs m t->hs w t):fre w<=fre m:=by
 unfold fre
 induction m generalizing w with
 |nil=>cases w with|nil=>simp|cons=>simp at g
 |cons b r ih =>
  cases w with
  |nil=>simp at g
  |cons c q =>
   have:=ih (w:=q) (by simpa using g) (fun t f=>by
    have:=h (t+1) ⟨by have:=f.1;omega,by have:=f.1;rw [show (t+1).toNat=t.toNat+1 by omega];simpa using f.2⟩;have n:=f.1;refine ⟨n,?_⟩;have j:=this.2;rw [show (t+1).toNat=t.toNat+1 by omega] at j;simpa using j)
   simp only [countP_cons];have o:b=true->c=true:=fun e=>by
    have:=(h 0 ⟨by omega,by simp [e]⟩).2;simpa using this
   cases b<;>cases c<;>simp_all<;>omega
theorem zx4 (hi:i<m.length)(t:Int):hs (m.set i true) t ↔ t=(i:Int)\/hs m t:=by
 unfold hs;rw [bF];by_cases e:t=(i:Int)
 ·subst e;simp [hi]
 ·constructor
  ·rintro ⟨b,h1⟩;rw [if_neg (by omega)] at h1;exact aG ⟨b,h1⟩
  ·rintro (h|⟨b,h1⟩)
   ·exact absurd h e
   ·refine ⟨b,?_⟩;rw [if_neg (by omega)];exact h1
theorem zx5 (N:Nat)(t:Int):¬hs (bK N false) t:=by
 rintro ⟨_,h⟩;rw [getElem?_replicate] at h;split at h<;>simp at h
structure Gr (P:Int->Int->Prop) (N:Nat) (w w':List Bool):Prop where
 len:w'.length=N
 mono:∀ t,hs w t->hs w' t
 clo:∀ t,hs w' t->hs w t\/∀ u,P t u->hs w' u
variable {P:Int->Int->Prop}{N:Nat}
theorem Gr.refl (h:w.length=N):Gr P N w w:=⟨h,fun _ h=>h,fun _ h=>aK h⟩
theorem Gr.trans {w1 b:List Bool}(h:Gr P N w w1)(g:Gr P N w1 b):Gr P N w b :=
 ⟨g.len,fun t q=>g.mono t (h.mono t q),fun t q=>(g.clo t q).elim (fun q=>(h.clo t q).elim aK (fun q=>aG fun u f=>g.mono u (q u f))) aG⟩
theorem zsb (n:Nat)(rF:Int->Aut->List Bool->Option (List Bool))(a:Aut)(X:List Int)(u:X.length<=1100000)(N B:Nat)(rec:∀ s∈X,∀ w:List Bool,w.length=N->fre w<=B->∃ w',rF s a w=some w'/\Gr P N w w'/\hs w' s):∀ (m k:Nat) (w:List Bool),k<=X.length->X.length<m+k->w.length=N->fre w<=B->∃ w',Q0 n rF a X (fun y=>some y) m ((k:Int),w)=some w'/\Gr P N w w'/\∀ s∈X.drop k,hs w' s
 |0,k,w,h1,v,b,g=>by omega
 |m+1,k,w,h1,v,b,g=>by
  unfold Q0;simp only [aA,A3];by_cases h:k<X.length
  ·obtain ⟨w1,A,f,t⟩:=rec X[k] (aC h) w b g;rw [if_pos (by omega),Af h,Ag k (by omega),A,Ct,aD h];obtain ⟨o,z,j,p⟩:=zsb n rF a X u N B rec m (k+1) w1 (by omega) (by omega) f.len (bL (y1a (b.trans f.len.symm) f.mono) g);refine ⟨o,z,f.trans j,fun s q=>?_⟩;rcases aQ.1 q with q|q
   ·rw [q];exact j.mono _ t
   ·exact p s q
  ·rw [if_neg (by omega),aB (by omega)];exact ⟨w,rfl,Gr.refl b,by simp⟩
theorem y4s (a:Aut)(C:a.fEdges.length<=1100000)(N:Nat)(A:∀ s t,nxS a s t->0<=t/\t.toNat<N):∀ (f:Nat) (s:Int) (w:List Bool),fre w<=f->w.length=N->0<=s->s.toNat<N->∀ n,20000000+f<n->∃ w',Lx n s a w=some w'/\Gr (nxS a) N w w'/\hs w' s
 |f,s,w,h1,D,o,O,n,L=>by
  obtain ⟨n,rfl⟩:∃ H,n=H + 1:=⟨n-1,by omega⟩;have b:s.toNat<w.length:=by omega
  unfold Lx;simp only [aA];rw [Fi o b,Cr b];by_cases q:w[s.toNat]=true
  ·rw [q,Am];exact ⟨w,rfl,Gr.refl D,o,by rw [aJ b,q]⟩
  ·have B:w[s.toNat]=false:=by simpa using q
   have M:=zx8 b B;rw [B,Ar,Fi o b,Dz b];obtain ⟨X,F,E,y⟩:=zzb n (by omega) s a C;rw [F,A0];cases f with
   |zero=>omega
   |succ f =>
    have g:∀ t,hs (w.set s.toNat true) t ↔ t=s\/hs w t:=fun t=>by rw [zx4 b,aZ o]
    obtain ⟨w',K,p,G⟩:=zsb (P:=nxS a) n (Lx n) a X E N f (fun t j v I z=>y4s a C N A f t v z I (A _ _ ((y t).1 j)).1 (A _ _ ((y t).1 j)).2 n (by omega)) n 0 (w.set s.toNat true) (by omega) (by omega) (by rw [bB];exact D) (by omega);refine ⟨w',K,⟨p.len,fun t j=>p.mono t ((g t).2 (aG j)),fun t j=>?_⟩,p.mono s ((g s).2 (aK rfl))⟩;rcases p.clo t j with h|h
    ·rcases (g t).1 h with h|h
     ·refine aG fun u J=>G u ?_
      rw [aM,y,<-h];exact J
     ·exact aK h
    ·exact aG h
theorem zn5 (n:Nat)(D:30000000<n)(a:Aut)(p:a.fEdges.length<=1100000)(N:Nat)(j:N<=1000000)(u:∀ s t,nxS a s t->0<=t/\t.toNat<N)(X:List Int)(E:X.length<=1100000)(b:∀ s∈X,0<=s/\s.toNat<N):∀ (m k:Nat) (w:List Bool),k<=X.length->X.length<m+k->w.length=N->∃ w',Qj n a X (fun y=>some y) m ((k:Int),w)=some w'/\Gr (nxS a) N w w'/\∀ s∈X.drop k,hs w' s
 |0,k,w,h1,F,f=>by omega
 |m+1,k,w,h1,F,f=>by
  unfold Qj;simp only [aA,A3,Ak];by_cases h:k<X.length
  ·have o:=b X[k] (aC h);have g:fre w<=N:=by unfold fre;rw [<-f];exact bG
   obtain ⟨w1,H,z,C⟩:=y4s a p N u N X[k] w g f o.1 o.2 n (by omega);rw [if_pos (by omega),Af h,Ag k (by omega),H,Ct,aD h];obtain ⟨A,G,v,B⟩:=zn5 n D a p N j u X E b m (k+1) w1 (by omega) (by omega) z.len;refine ⟨A,G,z.trans v,fun s q=>?_⟩;rcases aQ.1 q with q|q
   ·rw [q];exact v.mono _ C
   ·exact B s q
  ·rw [if_neg (by omega),aB (by omega)];exact ⟨w,rfl,Gr.refl f,by simp⟩
theorem y4r (n:Nat)(j:30000000<n)(a:Aut)(o:a.fEdges.length<=1100000)(h:a.fStates.length<=1000000)(q:∀ s t,nxS a s t->0<=t/\t.toNat<a.fStates.length)(X:List Int)(p:X.length<=1100000)(f:∀ s∈X,0<=s/\s.toNat<a.fStates.length):∃ w,Vk n a X a=some w/\w.length=a.fStates.length/\(∀ s∈X,hs w s)/\∀ t,hs w t->∀ u,nxS a t u->hs w u:=by
 unfold Vk;simp only [aA];rw [X2 (by omega) (by decide)];obtain ⟨w,e,g,s⟩:=zn5 n j a o a.fStates.length h q X p f n 0 (bK a.fStates.length false) (by omega) (by omega) (by simp);exact ⟨w,e,g.len,fun t b=>s t (by simpa using b),fun t b=>(g.clo t b).resolve_left (zx5 _ _)⟩
theorem zsa (n:Nat)(rF:Int->Aut->List Bool->Option (List Bool))(a:Aut)(X:List Int)(u:X.length<=1100000)(N B:Nat)(rec:∀ s∈X,∀ w:List Bool,w.length=N->fre w<=B->∃ w',rF s a w=some w'/\Gr P N w w'/\hs w' s):∀ (m k:Nat) (w:List Bool),k<=X.length->X.length<m+k->w.length=N->fre w<=B->∃ w',Nv n rF a X (fun y=>some y) m ((k:Int),w)=some w'/\Gr P N w w'/\∀ s∈X.drop k,hs w' s
 |0,k,w,h1,v,b,g=>by omega
 |m+1,k,w,h1,v,b,g=>by
  unfold Nv;simp only [aA,A3];by_cases h:k<X.length
  ·obtain ⟨w1,A,f,t⟩:=rec X[k] (aC h) w b g;rw [if_pos (by omega),Af h,Ag k (by omega),A,Ct,aD h];obtain ⟨o,z,j,p⟩:=zsa n rF a X u N B rec m (k+1) w1 (by omega) (by omega) f.len (bL (y1a (b.trans f.len.symm) f.mono) g);refine ⟨o,z,f.trans j,fun s q=>?_⟩;rcases aQ.1 q with q|q
   ·rw [q];exact j.mono _ t
   ·exact p s q
  ·rw [if_neg (by omega),aB (by omega)];exact ⟨w,rfl,Gr.refl b,by simp⟩
theorem y4q (a:Aut)(C:a.fEdges.length<=1100000)(N:Nat)(A:∀ s t,prS a s t->0<=t/\t.toNat<N):∀ (f:Nat) (s:Int) (w:List Bool),fre w<=f->w.length=N->0<=s->s.toNat<N->∀ n,20000000+f<n->∃ w',Km n s a w=some w'/\Gr (prS a) N w w'/\hs w' s
 |f,s,w,h1,D,o,O,n,L=>by
  obtain ⟨n,rfl⟩:∃ H,n=H + 1:=⟨n-1,by omega⟩;have b:s.toNat<w.length:=by omega
  unfold Km;simp only [aA];rw [Fi o b,Cr b];by_cases q:w[s.toNat]=true
  ·rw [q,Am];exact ⟨w,rfl,Gr.refl D,o,by rw [aJ b,q]⟩
  ·have B:w[s.toNat]=false:=by simpa using q
   have M:=zx8 b B;rw [B,Ar,Fi o b,Dz b];obtain ⟨X,F,E,y⟩:=zw0 n (by omega) s a C;rw [F,A0];cases f with
   |zero=>omega
   |succ f =>
    have g:∀ t,hs (w.set s.toNat true) t ↔ t=s\/hs w t:=fun t=>by rw [zx4 b,aZ o]
    obtain ⟨w',K,p,G⟩:=zsa (P:=prS a) n (Km n) a X E N f (fun t j v I z=>y4q a C N A f t v z I (A _ _ ((y t).1 j)).1 (A _ _ ((y t).1 j)).2 n (by omega)) n 0 (w.set s.toNat true) (by omega) (by omega) (by rw [bB];exact D) (by omega);refine ⟨w',K,⟨p.len,fun t j=>p.mono t ((g t).2 (aG j)),fun t j=>?_⟩,p.mono s ((g s).2 (aK rfl))⟩;rcases p.clo t j with h|h
    ·rcases (g t).1 h with h|h
     ·refine aG fun u J=>G u ?_
      rw [aM,y,<-h];exact J
     ·exact aK h
    ·exact aG h
theorem zn4 (n:Nat)(D:30000000<n)(a:Aut)(p:a.fEdges.length<=1100000)(N:Nat)(j:N<=1000000)(u:∀ s t,prS a s t->0<=t/\t.toNat<N)(X:List Int)(E:X.length<=1100000)(b:∀ s∈X,0<=s/\s.toNat<N):∀ (m k:Nat) (w:List Bool),k<=X.length->X.length<m+k->w.length=N->∃ w',Oo n a X (fun y=>some y) m ((k:Int),w)=some w'/\Gr (prS a) N w w'/\∀ s∈X.drop k,hs w' s
 |0,k,w,h1,F,f=>by omega
 |m+1,k,w,h1,F,f=>by
  unfold Oo;simp only [aA,A3,Ak];by_cases h:k<X.length
  ·have o:=b X[k] (aC h);have g:fre w<=N:=by unfold fre;rw [<-f];exact bG
   obtain ⟨w1,H,z,C⟩:=y4q a p N u N X[k] w g f o.1 o.2 n (by omega);rw [if_pos (by omega),Af h,Ag k (by omega),H,Ct,aD h];obtain ⟨A,G,v,B⟩:=zn4 n D a p N j u X E b m (k+1) w1 (by omega) (by omega) z.len;refine ⟨A,G,z.trans v,fun s q=>?_⟩;rcases aQ.1 q with q|q
   ·rw [q];exact v.mono _ C
   ·exact B s q
  ·rw [if_neg (by omega),aB (by omega)];exact ⟨w,rfl,Gr.refl f,by simp⟩
theorem y4p (n:Nat)(j:30000000<n)(a:Aut)(o:a.fEdges.length<=1100000)(h:a.fStates.length<=1000000)(q:∀ s t,prS a s t->0<=t/\t.toNat<a.fStates.length)(X:List Int)(p:X.length<=1100000)(f:∀ s∈X,0<=s/\s.toNat<a.fStates.length):∃ w,Pz n a X a=some w/\w.length=a.fStates.length/\(∀ s∈X,hs w s)/\∀ t,hs w t->∀ u,prS a t u->hs w u:=by
 unfold Pz;simp only [aA];rw [X2 (by omega) (by decide)];obtain ⟨w,e,g,s⟩:=zn4 n j a o a.fStates.length h q X p f n 0 (bK a.fStates.length false) (by omega) (by omega) (by simp);exact ⟨w,e,g.len,fun t b=>s t (by simpa using b),fun t b=>(g.clo t b).resolve_left (zx5 _ _)⟩
theorem z8n (n:Nat)(w:List Bool)(u:w.length<=1100000):∀ (m k:Nat) (acc:List Int),k<=w.length->w.length<m+k->acc.length<=k->∃ L,Lh n w (fun y=>some y) m ((k:Int),acc)=some L/\L.length<=w.length/\∀ t:Int,t∈L ↔ t∈acc\/∃ j:Nat,k<=j/\t=(j:Int)/\w[j]? = some true
 |0,k,acc,h1,B,A=>by omega
 |m+1,k,acc,h1,B,A=>by
  unfold Lh;simp only [aA,Ak];by_cases h:k<w.length
  ·have v:w[k]? = some w[k]:=aJ h;rw [A3,if_pos (by omega),Af h,Ag k (by omega)];by_cases q:w[k]=true
   ·rw [q,Am,Bv (by simp;omega) (by decide)];obtain ⟨L,s,p,o⟩:=z8n n w u m (k+1) (acc++[(k:Int)]) (by omega) (by omega) (by simp;omega);refine ⟨L,s,p,fun t=>?_⟩;rw [o,aL,aF];constructor
    ·rintro ((h|h)|⟨j,g,f⟩)
     ·exact aK h
     ·exact aG ⟨k,bH _,h,by rw [v,q]⟩
     ·exact aG ⟨j,by omega,f⟩
    ·rintro (h|⟨j,g,f,b⟩)
     ·exact aK (aK h)
     ·by_cases e:j=k
      ·subst e;exact aK (aG f)
      ·exact aG ⟨j,by omega,f,b⟩
   ·have z:w[k]=false:=by simpa using q
    rw [z,Ar];obtain ⟨L,s,p,o⟩:=z8n n w u m (k+1) acc (by omega) (by omega) (by omega);refine ⟨L,s,p,fun t=>?_⟩;rw [o];constructor
    ·rintro (h|⟨j,g,f⟩)
     ·exact aK h
     ·exact aG ⟨j,by omega,f⟩
    ·rintro (h|⟨j,g,f,b⟩)
     ·exact aK h
     ·by_cases e:j=k
      ·subst e;rw [v] at b;injection b with b;exact absurd b q
      ·exact aG ⟨j,by omega,f,b⟩
  ·rw [A3,if_neg (by omega)];refine ⟨acc,rfl,by omega,fun t=>⟨aK,fun h=>h.elim id fun ⟨j,g,f,b⟩=>?_⟩⟩;have:=(List.getElem?_eq_some_iff.1 b).1;omega
theorem zms (n:Nat)(s:10000000<n)(w:List Bool)(g:w.length<=1100000):∃ L,V2 n w=some L/\L.length<=w.length/\∀ t:Int,t∈L ↔ hs w t:=by
 obtain ⟨L,q,p,o⟩:=z8n n w g n 0 [] (by omega) (by omega) (by simp);refine ⟨L,q,p,fun t=>?_⟩;rw [o];unfold hs;constructor
 ·rintro (h|⟨j,_,f,b⟩)
  ·cases h
  ·subst f;exact ⟨by omega,by simpa using b⟩
 ·rintro ⟨u,h⟩;exact aG ⟨t.toNat,by omega,by omega,h⟩
theorem zeu (n:Nat)(a:Aut)(j:a.fEdges.length<=1100000)(K:List Int->Option (List Bool)):∀ (m k:Nat) (acc:List Int),k<=a.fEdges.length->a.fEdges.length<m+k->acc.length<=k->∃ R,Ln n a K m ((k:Int),acc)=K R/\R.length<=a.fEdges.length/\∀ t:Int,t∈R ↔ t∈acc\/∃ x∈a.fEdges.drop k,x.fTo<0/\x.fFrom=t
 |0,k,acc,h1,p,o=>by omega
 |m+1,k,acc,h1,p,o=>by
  unfold Ln;simp only [aA,A3,Ak];by_cases h:k<a.fEdges.length
  ·rw [if_pos (by omega),Af h,Ag k (by omega),aD h];simp only [aQ,exists_eq_or_imp];by_cases q:a.fEdges[k].fTo<0
   ·rw [if_pos q,Bv (by simp;omega) (by decide)];obtain ⟨R,g,f,b⟩:=zeu n a j K m (k+1) (acc++[a.fEdges[k].fFrom]) (by omega) (by omega) (by simp;omega);refine ⟨R,g,f,fun t=>?_⟩;rw [b,aL,aF,or_assoc];exact or_congr aT (or_congr ⟨fun e=>⟨q,e.symm⟩,fun e=>e.2.symm⟩ aT)
   ·rw [if_neg q];obtain ⟨R,g,f,b⟩:=zeu n a j K m (k+1) acc (by omega) (by omega) (by omega);refine ⟨R,g,f,fun t=>?_⟩;rw [b];exact or_congr aT ⟨aG,fun h=>h.elim (fun e=>absurd e.1 q) id⟩
  ·rw [if_neg (by omega),aB (by omega)];exact ⟨acc,rfl,by omega,fun t=>by simp⟩
structure EdR (a:Aut):Prop where
 st:1<=a.fStates.length/\a.fStates.length<=256
 ed:∀ x∈a.fEdges,0<=x.fFrom/\x.fFrom<a.fStates.length/\-1<=x.fTo/\x.fTo<a.fStates.length
 le:a.fEdges.length<=1100000
theorem zqe (n:Nat)(p:30000000<n)(a:Aut)(h:EdR a)(q:Cs n a=some 0):∃ L,U9 n a=some (L,0)/\L.length<=1100000/\0∈L/\∀ s∈L,∀ t,nxS a s t->t∈L:=by
 have o:=h.st;unfold U9 Yf;rw [q,A0];simp only [Aw,A3,if_true,zt4,Ak];obtain ⟨w,e,B,v,u⟩:=y4r n p a h.le (by omega) (fun s t ⟨x,g,_,z,y⟩=>by have:=h.ed x g;omega) [0] (by simp) (by simp;omega);obtain ⟨L,f,A,b⟩:=zms n (by omega) w (by omega);rw [e,A0,A0,f,A0];exact ⟨L,rfl,by omega,(b 0).2 (v 0 (by simp)),fun s hs t j=>(b t).2 (u s ((b s).1 hs) t j)⟩
theorem zzp (n:Nat)(A:30000000<n)(a:Aut)(h:EdR a)(B:Cs n a=some 0):∃ L,Vc n a=some (L,0)/\L.length<=1100000/\(∀ x∈a.fEdges,x.fTo<0->x.fFrom∈L)/\∀ s∈L,∀ t,prS a s t->t∈L:=by
 have z:=h.st;unfold Vc Yw;rw [B,A0];simp only [Aw,A3,if_true,zt4,Ak,zx7];obtain ⟨R,p,G,o⟩:=zeu n a h.le (fun y=>bnd (Pz n a y a) fun f=>some f) n 0 [] (by omega) (by have:=h.le;omega) (by simp);have C:∀ t∈R,0<=t/\t.toNat<a.fStates.length:=fun t j=>by
  obtain D|⟨x,b,_,u⟩:=(o t).1 j
  ·cases D
  ·have:=h.ed x (by simpa using b);omega
 obtain ⟨w,e,I,F,E⟩:=y4p n A a h.le (by omega) (fun s t ⟨x,b,_,u⟩=>by have:=h.ed x b;omega) R (by have:=h.le;omega) C;obtain ⟨L,v,H,g⟩:=zms n (by omega) w (by omega);simp only [aV] at p;rw [p,e,A0,A0,v,A0];exact ⟨L,rfl,by omega,fun x b q=>(g _).2 (F _ ((o _).2 (aG ⟨x,by simpa using b,q,rfl⟩))),fun s hs t j=>(g t).2 (E s ((g s).1 hs) t j)⟩
theorem zs7 (n:Nat)(L:List Int)(f:L.length<=1100000):∀ (m k:Nat) (M:Mp),k<=L.length->L.length<m+k->MK M->∃ R,Ro n L (fun y=>some y) m ((k:Int),M)=some R/\MK R/\∀ t:Int,has R t ↔ has M t\/t∈L.drop k
 |0,k,M,h1,g,b=>by omega
 |m+1,k,M,h1,g,b=>by
  unfold Ro;simp only [aA,A3];by_cases h:k<L.length
  ·rw [if_pos (by omega),Af h,Ag k (by omega),Sk,aD h];obtain ⟨R,p,o,j⟩:=zs7 n L f m (k+1) (mput M L[k] true) (by omega) (by omega) (b.put _);refine ⟨R,p,o,fun t=>?_⟩;rw [j,b.has_put,aQ,or_comm (a:=t=L[k]),or_assoc]
  ·rw [if_neg (by omega),aB (by omega)];exact ⟨M,rfl,b,by simp⟩
theorem y4k (n:Nat)(j:10000000<n)(L:List Int)(b:L.length<=1100000):∃ R,Wc n L=some R/\MK R/\∀ t:Int,has R t ↔ t∈L:=by
 obtain ⟨R,h,g,f⟩:=zs7 n L b n 0 [] (by omega) (by omega) MK.nil;exact ⟨R,h,g,fun t=>by rw [f];simp [Je]⟩
theorem zc7 (n:Nat)(a:Aut)(s:a.fEdges.length<=1100000)(R U:Mp)(g:MK R)(f:MK U)(K:Mp->Mp->Option C5):∀ (m k:Nat) (M:Mp),k<=a.fEdges.length->a.fEdges.length<m+k->MK M->∃ I,Hg n a R U K m ((k:Int),M)=K R I/\MK I/\∀ t:Int,has I t ↔ has M t\/∃ x∈a.fEdges.drop k,0<=x.fTo/\has R x.fFrom/\has U x.fTo/\x.fTo=t
 |0,k,M,h1,z,b=>by omega
 |m+1,k,M,h1,z,b=>by
  unfold Hg;simp only [aA,Ak];by_cases h:k<a.fEdges.length
  ·rw [A3,if_pos (by omega),Af h,Ag k (by omega),aD h];simp only [Nd,Sk,Ax,g.get,f.get,decide_eq_true_eq,aQ,exists_eq_or_imp];by_cases q:0<=a.fEdges[k].fTo/\has R a.fEdges[k].fFrom/\has U a.fEdges[k].fTo
   ·rw [if_pos q.1,if_pos q.2.1,if_pos q.2.2];obtain ⟨I,p,o,j⟩:=zc7 n a s R U g f K m (k+1) (mput M a.fEdges[k].fTo true) (by omega) (by omega) (b.put _);refine ⟨I,p,o,fun t=>?_⟩;rw [j,b.has_put];grind
   ·obtain ⟨I,p,o,j⟩:=zc7 n a s R U g f K m (k+1) M (by omega) (by omega) b;refine ⟨I,?_,o,fun t=>?_⟩
    ·rw [<-p];split
     ·split
      ·split
       ·rename_i y v u;exact absurd ⟨y,v,u⟩ q
       ·rfl
      ·rfl
     ·rfl
    ·rw [j];grind
  ·rw [A3,if_neg (by omega),aB (by omega)];exact ⟨M,rfl,b,by simp⟩
structure PtOk (a:Aut) (p:C5):Prop where
 r:MK p.freachable
 i:MK p.finner
 r0:has p.freachable 0
 rn:∀ x∈a.fEdges,has p.freachable x.fFrom->0<=x.fTo->has p.freachable x.fTo
 ir:∀ t,has p.finner t->0<=t/\t.toNat<a.fStates.length
 us:∃ U:Int->Prop,(∀ x∈a.fEdges,x.fTo<0\/U x.fTo->U x.fFrom)/\∀ t,has p.finner t ↔ ∃ x∈a.fEdges,0<=x.fTo/\has p.freachable x.fFrom/\U x.fTo/\x.fTo=t
theorem y29 (n:Nat)(s:30000000<n)(a:Aut)(h:EdR a)(u:Cs n a=some 0):∃ p,Rn n a=some p/\PtOk a p:=by
 obtain ⟨L,O,M,K,J⟩:=zqe n s a h u;obtain ⟨U,G,F,E,D⟩:=zzp n s a h u;obtain ⟨R,H,g,f⟩:=y4k n (by omega) L M;obtain ⟨V,C,B,A⟩:=y4k n (by omega) U F;obtain ⟨I,o,S,Q⟩:=zc7 n a h.le R V g B (fun y z=>some (⟨y,z⟩)) n 0 [] (by omega) (by have:=h.le;omega) MK.nil;unfold Rn;simp only [aV] at o;rw [O,A0,G,A0,H,A0,C,A0,o];have v:∀ t,has I t ↔ ∃ x∈a.fEdges,0<=x.fTo/\has R x.fFrom/\t∈U/\x.fTo=t:=fun t=>by
  rw [Q];simp only [Je,false_or,aM,A];grind
 refine ⟨⟨R,I⟩,rfl,g,S,(f 0).2 K,fun x b q j=>(f _).2 (J _ ((f _).1 q) _ ⟨x,b,rfl,rfl,j⟩),fun t T=>?_,fun t=>t∈U,fun x b q=>q.elim (E x b) (fun q=>D _ q _ ⟨x,b,rfl,rfl⟩),fun t=>?_⟩
 ·obtain ⟨x,b,j,_,_,W⟩:=(v t).1 T;have:=h.ed x b;omega
 ·rw [v];grind
variable {β:Type}
theorem zws {t:Int}{len:Nat}(b:0<=t)(h:t.toNat<len)(c:Option β):ncx t len c=c:=by
 unfold ncx;rw [if_pos ⟨b,h⟩]
theorem y59 (i:Nat)(x:Option β):fro i x=x:=by unfold fro;rfl
theorem zaj (n:Nat)(B C:Mp)(u:MK B)(t:Srt C)(g:MK C):∀ (m:Nat) (rem acc:Mp),rem.length<m->MK rem->MK acc->(∀ v,has rem v->¬has acc v)->(∀ v,has C v ↔ has acc v\/(has rem v/\has B v))->Ly n B (fun y=>frs 7 y (some (Cw y))) m (rem,acc)=some C
 |0,rem,acc,h1,E,f,s,o=>by omega
 |m+1,rem,acc,h1,E,f,s,o=>by
  unfold Ly;by_cases e:rem=[]
  ·subst e;simp only [zqj];unfold frs;rw [if_pos f.nd];refine congrArg some (y1v (zb8 _) t f.sort.1.tr g.tr fun v=>?_);rw [f.sort.2.2.2,o];simp [Je]
  ·have H:∀ (x y:Option Mp),nxt rem x y=y:=fun x y=>by
    cases rem with
    |nil=>exact absurd rfl e
    |cons p r=>exact zje p r x y
   simp only [H];refine zj6 e fun j D=>?_
   obtain ⟨A,o2,o3⟩:=E.out D;simp only [Ak,Nd,Sk,Ax,u.get];have G:¬has acc rem[j].1:=s _ ((o3 _).2 (aK rfl));have b:(rem.eraseIdx j).length<m:=by rw [aX D];omega
   split
   ·rename_i q;refine zaj n B C u t g m _ _ b A (f.put _) (fun v h F=>?_) (fun v=>?_)
    ·rcases (f.has_put _ _).1 F with z|z
     ·exact o2 (z▸h)
     ·exact s v ((o3 v).2 (aG h)) z
    ·rw [o,o3,f.has_put];grind
   ·rename_i q;refine zaj n B C u t g m _ _ b A f (fun v h=>s v ((o3 v).2 (aG h))) (fun v=>?_);rw [o,o3];grind
theorem MK.filter (h:MK l)(q:Int×Bool->Bool):MK (l.filter q):=⟨h.nd.sublist (filter_sublist.map _),fun p b=>h.tr p (bC.1 b).1⟩
theorem zzl (n:Nat)(A B:Mp)(o:MK A)(j:MK B)(q:A.length<n):∃ C,Rg n A B=some C/\MK C/\∀ v,has C v ↔ has A v/\has B v:=by
 have b:=o.filter (fun p=>(mlk B p.1).getD false);have h:∀ v,has (A.filter fun p=>(mlk B p.1).getD false) v ↔ has A v/\has B v:=fun v=>by
  unfold has;simp only [mem_map,bC,j.get];constructor
  ·rintro ⟨p,⟨g,f⟩,rfl⟩;exact ⟨⟨p,g,rfl⟩,by simpa [has] using f⟩
  ·rintro ⟨⟨p,g,rfl⟩,f⟩;exact ⟨p,⟨g,by simpa [has] using f⟩,rfl⟩
 refine ⟨Cw (A.filter fun p=>(mlk B p.1).getD false),?_,b.sort.1,fun v=>by rw [b.sort.2.2.2,h]⟩;unfold Rg;simp only [Ak];exact zaj n B _ j b.sort.2.1 b.sort.1 n A [] q o MK.nil (fun v _=>Je v) (fun v=>by rw [b.sort.2.2.2,h];simp [Je])
def tot (out:List Mp):Nat:=(out.map length).sum
theorem zpj {out:List Mp}(hi:i<out.length)(M:Mp):tot (out.set i M)+out[i].length=tot out+M.length:=by
 unfold tot
 induction out generalizing i with
 |nil=>simp at hi
 |cons q r ih =>
  cases i with
  |zero=>simp only [set_cons_zero,bJ,sum_cons,bD];omega
  |succ i =>
   have:=ih (by simpa using hi);simp only [set_cons_succ,bJ,sum_cons,bE];omega
structure Eg (N:Nat) (out:List Mp):Prop where
 len:out.length=N
 mks:∀ M∈out,MK M
theorem Eg.set {out:List Mp}(h:Eg N out)(i:Nat){M:Mp}(f:MK M):Eg N (out.set i M) :=
 ⟨by rw [bB];exact h.len,fun q b=>(mem_or_eq_of_mem_set b).elim (h.mks q) (fun e=>e▸f)⟩
structure AutR (a:Aut):Prop extends EdR a where
 sc:0<=a.fScopes/\a.fScopes<=64
 lo:∀ x∈a.fEdges,x.fOpens.length<=1100000/\x.fCloses.length<=1100000/\x.fInside.length<=1100000/\x.fLimits.length<=1100000
 sp:∀ x∈a.fEdges,∀ l∈x.fLimits,0<=l.fSpan/\l.fSpan<=1099511627776
def addS (k:Int):Nat->Mp->Mp |0,q=>q |d+1,q=>addS (k+1) d (sput q k true)
theorem y3r (k:Int)(d:Nat)(q:Mp)(h:Srt q)(t:∀ p∈q,p.2=true):Srt (addS k d q)/\∀ p∈addS k d q,p.2=true:=by
 induction d generalizing k q with
 |zero=>exact ⟨h,t⟩
 |succ d ih=>exact ih (k+1) _ (S3 h) (fun p b=>(zrq p b).elim (fun e=>by rw [e]) (t p))
theorem y0q (k:Int)(d:Nat)(q:Mp)(h:Srt q):(addS k d q).length<=q.length+d:=by
 induction d generalizing k q with
 |zero=>exact bH _
 |succ d ih =>
  have:=ih (k+1) (sput q k true) (S3 h);have b:=(ze5 (k:=k) (v:=true) h).length_eq;have f:(q.filter fun p=>decide (p.1≠k)).length<=q.length:=aP _ _;simp only [aH,aN] at b;show (addS (k+1) d (sput q k true)).length<=_;omega
def allS (a:Aut):Mp:=addS 0 a.fScopes.toNat []
theorem zd0 (n:Nat)(a:Aut)(o:0<=a.fScopes/\a.fScopes<=64)(p:C5)(V:Nat×Ars Mp×Mp)(g:Int×Bool)(f:Mp)(ix:List (Option Nat))(b:List Mp)(i:Nat)(hi:i<ix.length)(u:g.1=(i:Int))(v:V.1=ix.length)(K:Ars Mp->Mp->Option (List Mp)):∀ (m k:Nat) (q:Mp),(k:Int)<=a.fScopes->a.fScopes<m+k->Srt q->O7 n a p V g f K m ((k:Int),(ix.set i (some b.length),b++[q]))=K (ix.set i (some b.length),b++[addS (k:Int) (a.fScopes.toNat-k) q]) f
 |0,k,q,h1,y,t=>by omega
 |m+1,k,q,h1,y,t=>by
  unfold O7;simp only;rw [A3];by_cases h:(k:Int)<a.fScopes
  ·have s:∀ c:Nat->Option (List Mp),aob (ix.set i (some b.length),b++[q]) i c=c b.length:=fun c=>by
    unfold aob;simp only [bF,if_true,hi]
   have j:∀ c:Ars Mp->Option (List Mp),aup (ix.set i (some b.length),b++[q]) b.length (k:Int) true c=c (ix.set i (some b.length),b++[sput q (k:Int) true]):=fun c=>by
    rw [y5q (l:=q) (by simp) t];simp
   rw [if_pos h,zws (by omega) (by omega),u,aU,s,j,Ag k (by omega),zd0 n a o p V g f ix b i hi u v K m (k+1) _ (by omega) (by omega) (S3 t)];have e:a.fScopes.toNat-k=(a.fScopes.toNat-(k+1))+1:=by omega
   rw [e];rfl
  ·rw [if_neg h];have e:a.fScopes.toNat-k=0:=by omega
   rw [e];rfl
structure ArOk (N:Nat) (m:Ars Mp):Prop where
 len:m.1.length=N
 lt:∀ (i j:Nat),m.1[i]? = some (some j)->j<m.2.length
theorem ArOk.put {ix:List (Option Nat)}{b:List Mp}(h:ArOk N (ix,b))(hi:i<N)(q:Mp):ArOk N (ix.set i (some b.length),b++[q])/\aval (ix.set i (some b.length),b++[q])=(aval (ix,b)).set i q:=by
 have n:=h.len;simp only at n;refine ⟨⟨by simp [n],fun k j e=>?_⟩,?_⟩
 ·simp only [bF] at e;simp only [aH,aN];split at e
  ·split at e
   ·injection e with e;injection e with e;omega
   ·cases e
  ·have:=h.lt k j e;simp only at this;omega
 ·unfold aval;apply ext_getElem
  ·simp
  ·intro k g p;simp only [aA,bB] at g;simp only [getElem_map,getElem_set];by_cases e:i=k
   ·subst e;simp
   ·rw [if_neg e,if_neg e];have f:=h.lt k;cases o:ix[k] with
    |none=>rfl
    |some j =>
     have:=f j (by simp only;rw [aJ g,o]);simp only at this;simp only [getElem?_append_left this]
theorem zd1 (n:Nat)(S:10000000<n)(a:Aut)(h:AutR a)(p:C5)(K:Nat->Ars Mp->Option (List Mp))(KK:List Mp->Option (List Mp))(H:∀ N m,K N m=KK (aval m))(r:List Mp):∀ (m:Nat) (rem:Mp) (ar:Ars Mp),rem.length<m->MK rem->(∀ t,has rem t->0<=t/\t.toNat<a.fStates.length)->ArOk a.fStates.length ar->KK (rem.foldl (fun w q=>w.set q.1.toNat (allS a)) (aval ar))=some r->Jx n a p K m (a.fStates.length,ar,rem)=some r
 |0,rem,ar,h1,I,E,D,o=>by omega
 |m+1,rem,ar,h1,I,E,D,o=>by
  unfold Jx;simp only;by_cases e:rem=[]
  ·subst e;rw [zqj,H];exact o
  ·have v:∀ (x y:Option (List Mp)),nxt rem x y=y:=fun x y=>by
    cases rem with
    |nil=>exact absurd rfl e
    |cons p r=>exact zje p r x y
   rw [v];refine zj6 e fun j A=>?_
   obtain ⟨O,o2,o3⟩:=I.out A;obtain ⟨M,L⟩:=E rem[j].1 ((o3 _).2 (aK rfl));obtain ⟨i,hi⟩:∃ i:Nat,rem[j].1=(i:Int):=⟨rem[j].1.toNat,by omega⟩;have B:i<a.fStates.length:=by omega
   obtain ⟨ix,b⟩:=ar;have G:=D.len;simp only at G;have u:=h.sc;rw [Ak,zws M L,hi,aU];have s:∀ c:Ars Mp->Option (List Mp),ast (ix,b) i [] c=c (ix.set i (some b.length),b++[[]]):=fun c=>by
    unfold ast;simp only;rw [if_pos (by omega)]
   have g:=zd0 n a u p (a.fStates.length,(ix,b),rem) rem[j] (rem.eraseIdx j) ix b i (by omega) hi G.symm (fun y z=>Jx n a p K m (a.fStates.length,y,z)) n 0 [] (by omega) (by omega) (by simp [Srt]);simp only [aV,Nat.sub_zero] at g;rw [s,g];obtain ⟨J,F⟩:=D.put B (allS a);refine zd1 n S a h p K KK H r m (rem.eraseIdx j) _ (by rw [aX A];omega) O (fun t Q=>E t ((o3 t).2 (aG Q))) J ?_;have R:(rem[j]::rem.eraseIdx j).Perm rem:=Ry A;have C:=Perm.foldl_eq' (f:=fun (w:List Mp) (q:Int×Bool)=>w.set q.1.toNat (allS a)) R (fun x _ y _ z=>by
    by_cases e:x.1.toNat=y.1.toNat
    ·simp only [e]
    ·exact List.set_comm _ _ e) (aval (ix,b))
   rw [foldl_cons,hi,aU] at C;unfold allS at F C;simp only [allS] at o ⊢;rw [F,C];exact o
def cvS (x y:Sta):Bool:=decide (x.fScope=y.fScope) && decide (y.fTime<=x.fTime)
def cvL:List Sta->List Sta->Bool |[],[]=>true |x::r,y::s=>cvS x y && cvL r s |_,_=>false
def rdB (m:Mp)(l:List Bd):List Bd:=l.filter (fun b=>(mlk m b.fVar).getD false)
def rdC (R:List Mp)(c:Cf):List Bd:=rdB (R.getD c.fState.toNat []) c.fBindings
def cov (R:List Mp)(c d:Cf):Bool:=decide (c.fState=d.fState) && (cvL c.fStarts d.fStarts && decide (rdC R c=rdC R d))
structure CS (R:List Mp) (c:Cf):Prop where
 st:0<=c.fState/\c.fState<(R.length:Int)
 lb:c.fBindings.length<=1000000
 ls:c.fStarts.length<=1000000
def cfO (l:List Cf):List Cf:=l.filter (fun d=>!decide (d.fState<0))
def maO (l:List Cf):List Ma:=(l.filter (fun d=>decide (d.fState<0))).map (fun d=>⟨d.fBindings⟩)
def Ef (a:Aut)(s:Int):List Ed:=a.fEdges.filter (fun x=>decide (x.fFrom=s))
def skP (a:Aut)(held:List Ev)(c:Cf)(e:Ev):Bool:=!(zdv a c.fState).any (vio (enH held c.fBindings) e)
def outP (a:Aut)(held:List Ev)(c:Cf)(e:Ev):List Cf:=(if skP a held c e=true then [c] else [])++(Ef a c.fState).filterMap (fun x=>coP a held c x e)
theorem zl4 (d:Cf)(l:List Cf):cfO (d::l)=if d.fState<0 then cfO l else d::cfO l:=by
 unfold cfO;grind
theorem zjk (d:Cf)(l:List Cf):maO (d::l)=if d.fState<0 then (⟨d.fBindings⟩:Ma)::maO l else maO l:=by
 unfold maO;grind
theorem zl5 (l m:List Cf):cfO (l++m)=cfO l++cfO m:=by unfold cfO;rw [filter_append]
theorem zjl (l m:List Cf):maO (l++m)=maO l++maO m:=by unfold maO;simp_all
theorem Nb (l:List Cf):(cfO l).length<=l.length:=aP _ _
theorem Na (l:List Cf):(maO l).length<=l.length:=by unfold maO;grind
variable {d:Cf}
theorem zxx {l:List Cf}(h:d∈cfO l):d∈l/\0<=d.fState:=by
 have:=bC.1 h;exact ⟨this.1,by simpa using this.2⟩
theorem y33 {l:List Cf}{m:Ma}(h:m∈maO l):∃ d∈l,m=⟨d.fBindings⟩:=by
 obtain ⟨d,b,rfl⟩:=mem_map.1 h;grind
def Sz (k:Nat)(c:Cf):Prop:=c.fBindings.length<=k/\c.fStarts.length<=100*k
variable {k:Nat}{c:Cf}
theorem Sz.ok (b:k<=1001)(h:Sz k c):cfOk c=true:=(En c).2 ⟨by have:=h.1;omega,by have:=h.2;omega⟩
variable {a:Aut}{held:List Ev}{x:Ed}{e:Ev}
theorem Wu (h:coP a held c x e=some d):d=⟨x.fTo,bdN c x e,(stN c x e).filter (ncl x)⟩:=by
 unfold coP at h;simp_all
theorem zxq (g:CxA a held)(f:CB held a k c)(b:x∈a.fEdges)(h:coP a held c x e=some d):Sz (k+1) d:=by
 rw [Wu h];have h1:=f.lb;have p:=f.ls;have o:=g.lo x b;have n:=zjd e.fTime x.fOpens c.fStarts;have j:=aP (ncl x) (stN c x e);refine ⟨by unfold bdN;simp;omega,?_⟩;unfold stN at j ⊢;simp only;omega
theorem CB.sz (h:CB held a k c):Sz k c:=⟨h.lb,h.ls⟩
theorem Mw {s:Int}(h:x∈Ef a s):x∈a.fEdges/\x.fFrom=s:=by
 have:=bC.1 h;exact ⟨this.1,by simpa using this.2⟩
theorem zwm (g:CxA a held)(f:CB held a k c)(h:d∈outP a held c e):Sz (k+1) d:=by
 unfold outP at h;rcases aL.1 h with h|h
 ·split at h
  ·rw [aF.1 h];have:=f.sz;exact ⟨by have:=this.1;omega,by have:=this.2;omega⟩
  ·simp at h
 ·obtain ⟨x,b,j⟩:=mem_filterMap.1 h;exact zxq g f (Mw b).1 j
theorem Wr:(outP a held c e).length<=a.fEdges.length+1:=by
 unfold outP Ef;grind
theorem zql (b:k<=1001)(h:Sz k c):maOk ⟨c.fBindings⟩=true:=(Em _).2 (by have:=h.1;simp;omega)
theorem zht (e:Ev)(env:List (List Ev))(hs:EvS env)(b:Stt)(j:b.fGuards.length<=1100000)(f:∀ g∈b.fGuards,WfE g.fCond):∀ (m k:Nat),k<=b.fGuards.length->b.fGuards.length<m+k->Ou N0 e ⟨env⟩ b (some true) m (k:Int)=some (!(b.fGuards.drop k).any (vio env e))
 |0,k,h1,n=>by omega
 |m+1,k,h1,n=>by
  unfold Ou;simp only [aA,A3];by_cases h:k<b.fGuards.length
  ·rw [if_pos (by omega),Af h,B1 _ k h,any_cons,zw5 hs (f _ (aC h)),A0,Ag k (by omega),zht e env hs b j f m (k+1) (by omega) (by omega)];cases vio env e b.fGuards[k]<;>simp [Am,Ar]
  grind
theorem zz9 (f:CxA a held)(q:k<=1000)(g:CB held a k c)(e:Ev):U5 N0 a held c e=some (skP a held c e):=by
 have n:=g.lb;have j:=f.lh;obtain ⟨b,p,h,o⟩:=zbi g.st;unfold U5 skP;rw [zw8 N0 (by decide) held (by omega) c (by omega),A0,zdu g.st.1 p,o];have:=zht e (enH held c.fBindings) (Se (by omega)) b (f.wf.st b h).1 (f.wf.st b h).2 N0 0 (aE _) (by have:=(f.wf.st b h).1;unfold N0;omega);simp_all
theorem zez (s:Int)(a:Aut)(b:a.fEdges.length<=1000000)(K:List Ed->Option (List Ed)):∀ (m k:Nat) (out:List Ed),k<=a.fEdges.length->a.fEdges.length<m+k->out.length<=k->Kq N0 s a K m ((k:Int),out)=K (out++(a.fEdges.drop k).filter (fun x=>decide (x.fFrom=s)))
 |0,k,out,h1,n,j=>by omega
 |m+1,k,out,h1,n,j=>by
  unfold Kq;simp only [aA,A3];by_cases h:k<a.fEdges.length
  ·have g:=zez s a b K m (k+1) (out++[a.fEdges[k]]) (by omega) (by omega) (by simp_all);have f:=zez s a b K m (k+1) out (by omega) (by omega) (by omega);rw [if_pos (by omega),Ak,Af h,Af h,B1 _ k h,Ag k (by omega),Bv (by grind) (by omega),g,f,bI];grind
  ·rw [if_neg (by omega),aB (by omega)];simp
theorem y4n (s:Int)(a:Aut)(b:a.fEdges.length<=1000000):Ue N0 a s=some (Ef a s):=by
 have:=zez s a b (fun y=>some y) N0 0 [] (aE _) (by unfold N0;omega) (by simp);unfold Ue Ef;exact this
variable {kk:Nat}
theorem zdp (p:CxA a held)(u:kk<=1000)(q:CB held a kk c)(e:Ev)(es:List Ed)(g:∀ x∈es,x∈a.fEdges)(y:es.length<=100000)(K:List Cf->List Ma->Option (List Cf×List Ma)) :
  ∀ (m k:Nat) (cs:List Cf) (f:List Ma),k<=es.length->es.length<m+k->cs.length<=k+1->f.length<=k->(∀ d∈cs,cfOk d=true)->(∀ d∈f,maOk d=true)->Ih N0 e c held a es K m (cs,f,(k:Int))=K (puts Bl cs (cfO ((es.drop k).filterMap (fun x=>coP a held c x e)))) (puts B4 f (maO ((es.drop k).filterMap (fun x=>coP a held c x e))))
 |0,k,cs,f,h1,C,B,A,t,s=>by omega
 |m+1,k,cs,f,h1,C,B,A,t,s=>by
  unfold Ih;simp only [aA,A3,Aw];by_cases h:k<es.length
  ·have o:=g _ (aC h);have j:=zu7 p u q o e;rw [if_pos (by omega),Af h,B1 _ k h,aY,Ag k (by omega)];cases n:coP a held c es[k] e with
   |none =>
    have b:Kp N0 a held c es[k] e=some (cf0,false):=j.trans (by rw [n];rfl);rw [b,A0];simp only [Ar];exact zdp p u q e es g y K m (k+1) cs f (by omega) (by omega) (by omega) (by omega) t s
   |some d =>
    have v:=zxq p q o n;have b:Kp N0 a held c es[k] e=some (d,true):=j.trans (by rw [n];rfl);rw [b,A0];simp only [Am,Ak];rw [zl4,zjk];by_cases hs:d.fState<0
    ·rw [if_pos hs,if_pos hs,if_pos hs,zwa N0 (by decide) _ (zql (by omega) v) f s (by omega),A0,Ho];have z:=N1 B4 (⟨d.fBindings⟩:Ma) f;exact zdp p u q e es g y K m (k+1) cs _ (by omega) (by omega) (by omega) (by omega) t (zjt (zql (by omega) v) s)
    ·rw [if_neg hs,if_neg hs,if_neg hs,zwb N0 (by decide) _ (v.ok (by omega)) cs t (by omega),A0,Ho];have z:=N1 Bl d cs;exact zdp p u q e es g y K m (k+1) _ f (by omega) (by omega) (by omega) (by omega) (zsz (v.ok (by omega)) t) s
  ·rw [if_neg (by omega),aB (by omega)];rfl
theorem y68 (o:CxA a held)(q:a.fEdges.length<=100000)(p:kk<=1000)(g:CB held a kk c)(e:Ev):Ul N0 a held c e=some (setL Bl (cfO (outP a held c e)),setL B4 (maO (outP a held c e))):=by
 have j:(Ef a c.fState).length<=100000:=by
  have:=aP (fun x:Ed=>decide (x.fFrom=c.fState)) a.fEdges;unfold Ef;omega
 have n:=fun cs t s=>zdp o p g e (Ef a c.fState) (fun x h=>(Mw h).1) j (fun k1_1_0y0 k1_1_0y1=>some (k1_1_0y0,k1_1_0y1)) N0 0 cs [] (aE _) (by unfold N0;omega) t (by simp) s (by simp)
 have f:¬c.fState<0:=by have:=g.st;omega
 unfold Ul;simp only [B2,Ak,L5];rw [zz9 o p g e,A0,y4n _ a (by omega)];simp only [A0];unfold outP setL;rw [zl5,zjl,W9,W9];cases skP a held c e with
 |true =>
  have b:=zwb N0 (by decide) c (g.sz.ok (by omega)) [] (by simp) (by simp);rw [Am,b,A0];have:=n (insU Bl c []) (by simp [insU]) (by simp [insU];exact g.sz.ok (by omega));refine this.trans ?_;have v:puts Bl [] (cfO (if true=true then [c] else []))=insU Bl c []:=by
   rw [if_pos rfl,zl4,if_neg f];rfl
  have u:puts B4 [] (maO (if true=true then [c] else []))=[]:=by
   rw [if_pos rfl,zjk,if_neg f];rfl
  rw [v,u];rfl
 |false =>
  rw [Ar];refine (n [] (by simp) (by simp)).trans ?_;rfl
theorem zsm (e:Ev)(l:List Cf)(held:List Ev)(a:Aut)(v:List Cf×List Ma×Int)(x:List Cf×List Ma)(b:∀ d∈x.1,cfOk d=true)(j:x.1.length<=100000)(K:List Cf->List Ma->Option (List Cf×List Ma)):∀ (m k:Nat) (cs:List Cf),k<=x.1.length->x.1.length<m+k->cs.length+(x.1.length-k)<=1000000->(∀ d∈cs,cfOk d=true)->Pn N0 e l held a v x K m (cs,(k:Int))=K (puts Bl cs (x.1.drop k)) x.2
 |0,k,cs,h1,p,o,f=>by omega
 |m+1,k,cs,h1,p,o,f=>by
  unfold Pn;simp only [aA,A3];by_cases h:k<x.1.length
  ·have g:=b _ (aC h);have n:=N1 Bl x.1[k] cs;rw [if_pos (by omega),Af h,zwb N0 (by decide) _ g cs f (by omega),A0,B1 _ k h,Ho,Ag k (by omega)];exact zsm e l held a v x b j K m (k+1) _ (by omega) (by omega) (by omega) (zsz g f)
  ·rw [if_neg (by omega),aB (by omega)];rfl
theorem zsl (e:Ev)(l:List Cf)(held:List Ev)(a:Aut)(v:List Cf×List Ma×Int)(g:List Cf)(x:List Ma)(b:∀ d∈x,maOk d=true)(o:x.length<=100000)(K:List Ma->Option (List Cf×List Ma)):∀ (m k:Nat) (cs:List Ma),k<=x.length->x.length<m+k->cs.length+(x.length-k)<=1000000->(∀ d∈cs,maOk d=true)->Pm N0 e l held a v g x K m (cs,(k:Int))=K (puts B4 cs (x.drop k))
 |0,k,cs,h1,s,q,f=>by omega
 |m+1,k,cs,h1,s,q,f=>by
  unfold Pm;simp only [aA,A3];by_cases h:k<x.length
  ·have j:=b _ (aC h);have p:=N1 B4 x[k] cs;have n:=zwa N0 (by decide) x[k] j cs f (by omega);rw [if_pos (by omega),Af h,B1 _ k h,Ho,Ag k (by omega),n,A0];exact zsl e l held a v g x b o K m (k+1) _ (by omega) (by omega) (by omega) (zjt j f)
  ·rw [if_neg (by omega),aB (by omega)];rfl
theorem zmd (most:Int)(l:List Ev)(a:Aut)(v:List Cf×List Ma×Int)(x:List Cf×List Ma)(b:∀ d∈x.2,maOk d=true)(n:x.2.length<=1000000)(K:List Ma->List Cf->Option (List Cf×List Ma×Bool)):∀ (m k:Nat) (cs:List Ma),k<=x.2.length->x.2.length<m+k->cs.length+(x.2.length-k)<=1000000->(∀ d∈cs,maOk d=true)->Oa N0 most l a v x K m (cs,(k:Int))=K (puts B4 cs (x.2.drop k)) x.1
 |0,k,cs,h1,q,p,f=>by omega
 |m+1,k,cs,h1,q,p,f=>by
  unfold Oa;simp only [aA,A3];by_cases h:k<x.2.length
  ·have g:=b _ (aC h);have o:=N1 B4 x.2[k] cs;have j:=zwa N0 (by decide) x.2[k] g cs f (by omega);rw [if_pos (by omega),Af h,B1 _ k h,Ho,Ag k (by omega),j,A0];exact zmd most l a v x b n K m (k+1) _ (by omega) (by omega) (by omega) (zjt g f)
  ·rw [if_neg (by omega),aB (by omega)];rfl
theorem y1w {l:List Ma}(h:∀ x∈l,maOk x=true):∀ x∈setL B4 l,maOk x=true:=fun x b=>h x ((Fd D5 x l).1 b)
theorem y1l (b:CxA a held)(h:kk<=1000)(g:CB held a kk c)(e:Ev):∀ d∈cfO (outP a held c e),cfOk d=true:=fun d f=>(zwm b g (zxx f).1).ok (by omega)
theorem zww (b:CxA a held)(j:kk<=1000)(h:CB held a kk c)(e:Ev):∀ d∈maO (outP a held c e),maOk d=true:=fun d g=>by
 obtain ⟨q,f,rfl⟩:=y33 g;exact zql (by omega) (zwm b h f)
theorem zsn (g:CxA a held)(n:a.fEdges.length<=100)(j:kk<=1000)(e:Ev)(l:List Cf)(s:∀ c∈l,CB held a kk c)(z:l.length<=5000)(K:List Cf->List Ma->Option (List Cf×List Ma)) :
  ∀ (m k:Nat) (cs:List Cf) (b:List Ma),k<=l.length->l.length<m+k->cs.length<=101*k->b.length<=101*k->(∀ d∈cs,cfOk d=true)->(∀ d∈b,maOk d=true)->Po N0 e l held a K m (cs,b,(k:Int))=K (puts Bl cs ((l.drop k).flatMap (fun c=>setL Bl (cfO (outP a held c e))))) (puts B4 b ((l.drop k).flatMap (fun c=>setL B4 (maO (outP a held c e)))))
 |0,k,cs,b,h1,C,B,A,p,o=>by omega
 |m+1,k,cs,b,h1,C,B,A,p,o=>by
  unfold Po;simp only [aA,A3];by_cases h:k<l.length
  ·have f:=s _ (aC h);have H:=zdk (c:=Bl) (cfO (outP a held l[k] e));have G:=zdk (c:=B4) (maO (outP a held l[k] e));have F:=Nb (outP a held l[k] e);have E:=Na (outP a held l[k] e);have D:(outP a held l[k] e).length<=a.fEdges.length+1:=Wr;have q:=y1x (y1l g j f e);have o2:=y1w (zww g j f e);have J:=zdn (c:=Bl) (setL Bl (cfO (outP a held l[k] e))) cs;have I:=zdn (c:=B4) (setL B4 (maO (outP a held l[k] e))) b;rw [if_pos (by omega),Af h,y68 g (by omega) j f e,A0,B1 _ k h,aS,aS,W9,W9,Ag k (by omega)];have y:=fun K=>zsm e l held a (cs,b,(k:Int)) (setL Bl (cfO (outP a held l[k] e)),setL B4 (maO (outP a held l[k] e))) q (by grind) K N0 0 cs (aE _) (by show (setL Bl (cfO (outP a held l[k] e))).length<2000000000+0;omega) (by show cs.length+((setL Bl (cfO (outP a held l[k] e))).length-0)<=1000000;omega) p
   refine (y _).trans ?_;have u:=fun v t K=>zsl e l held a v t (setL B4 (maO (outP a held l[k] e))) o2 (by omega) K N0 0 b (aE _) (by unfold N0;omega) (by omega) o
   refine (u _ _ _).trans ?_;rw [aM,aM];exact zsn g n j e l s z K m (k+1) (puts Bl cs (setL Bl (cfO (outP a held l[k] e)))) (puts B4 b (setL B4 (maO (outP a held l[k] e)))) (by omega) (by omega) (by omega) (by omega) (zz4 p q) (zrz o o2)
  ·rw [if_neg (by omega),aB (by omega)];rfl
theorem zm1 {α:Type}{c:α->α->Int}(h:TO c)(f:β->List α)(l:List β):setL c (l.flatMap (fun x=>setL c (f x)))=setL c (l.flatMap f):=by
 refine y1y h (fun x=>?_);rw [aR,aR];constructor
 ·rintro ⟨y,b,g⟩;exact ⟨y,b,(Fd h _ _).1 g⟩
 ·rintro ⟨y,b,g⟩;exact ⟨y,b,(Fd h _ _).2 g⟩
def cfN (a:Aut)(held:List Ev)(l:List Cf)(e:Ev):List Cf:=setL Bl (l.flatMap (fun c=>cfO (outP a held c e)))
def maN (a:Aut)(held:List Ev)(l:List Cf)(e:Ev):List Ma:=setL B4 (l.flatMap (fun c=>maO (outP a held c e)))
theorem y6d (h:CxA a held)(b:a.fEdges.length<=100)(n:kk<=1000)(e:Ev)(l:List Cf)(o:∀ c∈l,CB held a kk c)(j:l.length<=5000):Um N0 a held l e=some (cfN a held l e,maN a held l e):=by
 have:=zsn h b n e l o j (fun g f=>some (g,f)) N0 0 [] [] (aE _) (by unfold N0;omega) (by simp) (by simp) (by simp) (by simp);unfold Um cfN maN;refine this.trans ?_;rw [aM,<-zm1 Ea,<-zm1 D5];rfl
theorem zwl (d:Cf)(f:List Cf)(b:List Ma)(g:f.length<=100000000)(h1:b.length<=100000000):P5 N0 d f b=some (f++cfO [d],b++maO [d]):=by
 unfold P5;rw [A3,zl4,zjk,Bv (by grind) (by omega),Bv (by simp only [aN];omega) (by omega)];by_cases h:d.fState<0
 ·simp [h,cfO,maO]
 ·simp [h,cfO,maO]
variable {r:Be}
theorem zdr (n:CxA r.fa held)(o:kk<=1000)(p:CB held r.fa kk c)(g:∀ y∈held,Bb y=Bb e->y=e)(j:r.fa.fEdges.length<=100)(K:List Cf->List Ma->Option (List Cf×List Ma×Be×Cf×Ev)) :
  ∀ (m k:Nat) (f:List Cf) (b:List Ma),k<=r.fa.fEdges.length->r.fa.fEdges.length<m+k->f.length<=90000000+k->b.length<=90000000+k->Hw N0 e c r ⟨bndV held r.fa.fVars.toNat c.fBindings⟩ K m ((k:Int),f,b)=K (f++cfO (((r.fa.fEdges.drop k).filter (fun x=>decide (x.fFrom=c.fState))).filterMap (fun x=>coP r.fa held c x e))) (b++maO (((r.fa.fEdges.drop k).filter (fun x=>decide (x.fFrom=c.fState))).filterMap (fun x=>coP r.fa held c x e)))
 |0,k,f,b,h1,C,B,A=>by omega
 |m+1,k,f,b,h1,C,B,A=>by
  unfold Hw;simp only [aA,A3,Aw];by_cases h:k<r.fa.fEdges.length
  ·have s:=aC h;rw [if_pos (by omega),Af h,B1 _ k h,Ag k (by omega),bI];by_cases q:r.fa.fEdges[k].fFrom=c.fState;rotate_left
   ·rw [if_neg q,if_neg (by simpa using q)];exact zdr n o p g j K m (k+1) f b (by omega) (by omega) (by omega) (by omega)
   rw [if_pos q,if_pos (by simpa using q),znb n o p s g,A0,aY];cases z:coP r.fa held c r.fa.fEdges[k] e with
   |none =>
    simp only [rfC,Ar];exact zdr n o p g j K m (k+1) f b (by omega) (by omega) (by omega) (by omega)
   |some d =>
    simp only [rfC,Am];have u:=Nb [d];have t:=Na [d];simp only [aN] at u t;rw [zwl d f b (by omega) (by omega),Ct];have v:=zdr n o p g j K m (k+1) (f++cfO [d]) (b++maO [d]) (by omega) (by omega) (by rw [aH];omega) (by rw [aH];omega);refine v.trans ?_;rw [aO,aO,<-zl5,<-zjl];rfl
  ·rw [if_neg (by omega),aB (by omega)];simp [cfO,maO]
theorem zdq (n:CxA r.fa held)(o:kk<=1000)(p:CB held r.fa kk c)(g:∀ y∈held,Bb y=Bb e->y=e)(j:r.fa.fEdges.length<=100)(K:List Cf->List Ma->Option (List Cf×List Ma×Be×Cf×Ev)) :
  ∀ (m k:Nat) (f:List Cf) (b:List Ma),k<=r.fa.fEdges.length->r.fa.fEdges.length<m+k->f.length<=90000000+k->b.length<=90000000+k->Hv N0 e c r ⟨bndV held r.fa.fVars.toNat c.fBindings⟩ K m ((k:Int),f,b)=K (f++cfO (((r.fa.fEdges.drop k).filter (fun x=>decide (x.fFrom=c.fState))).filterMap (fun x=>coP r.fa held c x e))) (b++maO (((r.fa.fEdges.drop k).filter (fun x=>decide (x.fFrom=c.fState))).filterMap (fun x=>coP r.fa held c x e)))
 |0,k,f,b,h1,C,B,A=>by omega
 |m+1,k,f,b,h1,C,B,A=>by
  unfold Hv;simp only [aA,A3,Aw];by_cases h:k<r.fa.fEdges.length
  ·have s:=aC h;rw [if_pos (by omega),Af h,B1 _ k h,Ag k (by omega),bI];by_cases q:r.fa.fEdges[k].fFrom=c.fState;rotate_left
   ·rw [if_neg q,if_neg (by simpa using q)];exact zdq n o p g j K m (k+1) f b (by omega) (by omega) (by omega) (by omega)
   rw [if_pos q,if_pos (by simpa using q),znb n o p s g,A0,aY];cases z:coP r.fa held c r.fa.fEdges[k] e with
   |none =>
    simp only [rfC,Ar];exact zdq n o p g j K m (k+1) f b (by omega) (by omega) (by omega) (by omega)
   |some d =>
    simp only [rfC,Am];have u:=Nb [d];have t:=Na [d];simp only [aN] at u t;rw [zwl d f b (by omega) (by omega),Ct];have v:=zdq n o p g j K m (k+1) (f++cfO [d]) (b++maO [d]) (by omega) (by omega) (by rw [aH];omega) (by rw [aH];omega);refine v.trans ?_;rw [aO,aO,<-zl5,<-zjl];rfl
  ·rw [if_neg (by omega),aB (by omega)];simp [cfO,maO]
theorem zwk (n:CxA r.fa held)(hm:HM held r.fheld)(z:kk<=1000)(b:CB held r.fa kk c)(q:∀ y∈held,Bb y=Bb e->y=e)(p:r.fa.fEdges.length<=100)(j:List Cf)(h:List Ma)(Q:j.length<=10000000)(h1:h.length<=10000000):T5 N0 j h r c e=some (j++cfO (outP r.fa held c e),h++maO (outP r.fa held c e),r,c,e):=by
 have H:=b.lb;have G:=n.lh;have f:=n.ok.vars;have F:¬c.fState<0:=by have:=b.st;omega
 obtain ⟨s,M,A,L⟩:=zbi b.st;have u:EvS (enH held c.fBindings):=Se (by omega);have v:=zxg ⟨f.1,f.2⟩ b.bd;have I:=(n.wf.st s A).1;unfold T5;rw [y6b N0 (by decide) held r hm f c.fBindings (by omega) b.bd,A0,zdu b.st.1 M];rw [zqa N0 ⟨bndV held r.fa.fVars.toNat c.fBindings⟩ e (vio (enH held c.fBindings) e) s.fGuards (by omega) (by unfold N0;omega) (fun g J=>by
  unfold K6;have:=y0v v u ((n.wf.st s A).2 g J) e;refine (congrArg (fun o=>bnd o fun C=>some C) this).trans ?_;rw [A0]),A0]
 have t:skP r.fa held c e=!(s.fGuards.any (vio (enH held c.fBindings) e)):=by unfold skP;rw [L]
 rw [<-t];unfold outP;rw [zl5,zjl];cases skP r.fa held c e with
 |true =>
  rw [Am,zwl c j h (by omega) (by omega),Ct];have O:=Nb [c];have B:=Na [c];have E:=fun K=>zdr n z b q p K N0 0 (j++cfO [c]) (h++maO [c]) (aE _) (by unfold N0;omega) (by grind) (by rw [aH];simp at B;omega)
  refine (E _).trans ?_;rw [aM];simp [aO,Ef]
 |false =>
  rw [Ar];have D:=fun K=>zdq n z b q p K N0 0 j h (aE _) (by unfold N0;omega) (by omega) (by omega)
  refine (D _).trans ?_;rw [aM];simp [Ef,cfO,maO]
theorem zsq (o:CxA r.fa held)(hm:HM held r.fheld)(p:kk<=1000)(j:∀ y∈held,Bb y=Bb e->y=e)(g:r.fa.fEdges.length<=100)(l:List Cf)(q:∀ c∈l,CB held r.fa kk c)(s:l.length<=5000)(K:List Cf->List Ma->Option (List Cf×List Ma)):∀ (m k:Nat) (f:List Cf) (b:List Ma),k<=l.length->l.length<m+k->f.length<=101*k->b.length<=101*k->P4 N0 e l r K m ((k:Int),f,b)=K (f++(l.drop k).flatMap (fun c=>cfO (outP r.fa held c e))) (b++(l.drop k).flatMap (fun c=>maO (outP r.fa held c e)))
 |0,k,f,b,h1,z,v,u=>by omega
 |m+1,k,f,b,h1,z,v,u=>by
  unfold P4;simp only [aA,A3];by_cases h:k<l.length
  ·have n:=q _ (aC h);have C:=Nb (outP r.fa held l[k] e);have B:=Na (outP r.fa held l[k] e);have A:(outP r.fa held l[k] e).length<=r.fa.fEdges.length+1:=Wr;have t:Ye N0 r l[k] e=some (r,l[k],e):=rfl;rw [if_pos (by omega),Af h,t,Ct];simp only;rw [zwk o hm p n j g f b (by omega) (by omega),Ct,B1 _ k h,aS,aS,<-aO,<-aO,Ag k (by omega)];exact zsq o hm p j g l q s K m (k+1) _ _ (by omega) (by omega) (by rw [aH];omega) (by rw [aH];omega)
  grind
theorem zdw {α:Type}(f:α->List β)(n:Nat):∀ l:List α,(∀ x∈l,(f x).length<=n)->(l.flatMap f).length<=n*l.length
 |[],_=>by simp
 |x::l,h=>by
  have h1:=h x (by simp);have g:=zdw f n l (fun y b=>h y (aW _ b));rw [aS,aH,length_cons,Nat.mul_succ];omega
theorem znc (g:CxA r.fa held)(hm:HM held r.fheld)(j:kk<=1000)(o:∀ y∈held,Bb y=Bb e->y=e)(h:r.fa.fEdges.length<=100)(l:List Cf)(p:∀ c∈l,CB held r.fa kk c)(s:l.length<=5000):Qa N0 r l e=some (cfN r.fa held l e,maN r.fa held l e):=by
 have q:=fun K=>zsq g hm j o h l p s K N0 0 [] [] (aE _) (by unfold N0;omega) (by simp) (by simp)
 unfold Qa;refine (q _).trans ?_;rw [aM,nil_append,nil_append];have u:=zdw (fun c=>cfO (outP r.fa held c e)) 101 l (fun c _=>by have:=Nb (outP r.fa held c e);have:(outP r.fa held c e).length<=r.fa.fEdges.length+1:=Wr;omega);have t:=zdw (fun c=>maO (outP r.fa held c e)) 101 l (fun c _=>by have:=Na (outP r.fa held c e);have:(outP r.fa held c e).length<=r.fa.fEdges.length+1:=Wr;omega);rw [y27 N0 (by decide) _ (fun d n=>by
  obtain ⟨c,f,b⟩:=aR.1 n;exact y1l g j (p c f) e d b) (by omega),Ct,zw1 N0 (by decide) _ (fun d n=>by
  obtain ⟨c,f,b⟩:=aR.1 n;exact zww g j (p c f) e d b) (by omega),Ct]
 rfl
theorem zq5 {e:Exn}(h:WfE e):∃ b:Bool,Lv N0 e=some b:=by
 obtain ⟨z,f,g⟩:=h;obtain ⟨c,n,_⟩:=zwh 200 (by omega) (by omega) z e g f N0 (by unfold N0;omega);obtain ⟨d,j,_⟩:=y0y z e g f N0 (by unfold N0;omega);unfold Lv;simp only [B2,Ak,La];rw [n,A0,j,A0,A3];split
 ·exact ⟨_,rfl⟩
 ·exact ⟨_,rfl⟩
theorem zw7 (l:List Gd)(f:∀ g∈l,WfE g.fCond)(j:l.length<=1100000):∀ (m k:Nat),k<=l.length->l.length<m+k->∃ b:Bool,Pq N0 l (some true) m (k:Int)=some b
 |0,k,h1,o=>by omega
 |m+1,k,h1,o=>by
  unfold Pq;simp only [aA,A3,Aw];by_cases h:k<l.length
  ·obtain ⟨b,n⟩:=zq5 (f _ (aC h));rw [if_pos (by omega),Af h,n,A0,Ag k (by omega)];cases b with
   |true=>rw [Am];exact zw7 l f j m (k+1) (by omega) (by omega)
   |false=>rw [Ar];exact ⟨_,rfl⟩
  ·rw [if_neg (by omega)];exact ⟨_,rfl⟩
theorem y2e (f:Stt)(h:f.fGuards.length<=1100000/\∀ g∈f.fGuards,WfE g.fCond):∃ b:Bool,Un N0 f.fGuards=some b:=zw7 f.fGuards h.2 h.1 N0 0 (aE _) (by have:=h.1;unfold N0;omega)
theorem zsc (a:Aut)(v:Int)(x:Ed)(ys:List Exn)(f:x.fChecks=ys.map Au)(j:∀ y∈ys,WfE y)(o:ys.length<=1100000)(P:Prop)(K:Option Bool)(n:∃ b:Bool,K=some b/\(b=true->P)):∀ (m k:Nat),k<=ys.length->ys.length<m+k->∃ b:Bool,Pr N0 a v x K m (k:Int)=some b/\(b=true->P)
 |0,k,h1,q=>by omega
 |m+1,k,h1,q=>by
  unfold Pr;have g:x.fChecks.length=ys.length:=by rw [f,aA]
  simp only [aA,A3,Aw,g];by_cases h:k<ys.length
  ·obtain ⟨b,p⟩:=zq5 (j _ (aC h));rw [if_pos (by omega),zqp f h,p,A0,Ag k (by omega)];cases b with
   |true=>rw [Am];exact zsc a v x ys f j o P K n m (k+1) (by omega) (by omega)
   |false=>rw [Ar];exact ⟨false,rfl,fun h=>by cases h⟩
  ·rw [if_neg (by omega)];exact n
def FewA (a:Aut):Prop:=a.fEdges.length<=40/\∀ x∈a.fEdges,x.fOpens.length<=12
theorem zsd (a:Aut)(s:WfA a)(K:Option Bool)(t:∃ b:Bool,K=some b/\(b=true->a.fEdges.length<=40)):∀ (m k:Nat),k<=a.fEdges.length->k<=60->60<m+k->(∀ x∈a.fEdges.take k,x.fOpens.length<=12)->∃ b:Bool,Ii N0 a K m (k:Int)=some b/\(b=true->FewA a)
 |0,k,h1,A,z,p=>by omega
 |m+1,k,h1,A,z,p=>by
  have g:(60<=k\/a.fEdges.length<=k)->∃ b:Bool,K=some b/\(b=true->FewA a):=fun H=>by
   obtain ⟨b,B,u⟩:=t;refine ⟨b,B,fun j=>⟨u j,fun x f=>p x ?_⟩⟩;have:=u j;rw [take_of_length_le (by omega)];exact f
  have no:∃ b:Bool,some false=some b/\(b=true->FewA a):=⟨false,rfl,fun h=>by cases h⟩;unfold Ii;simp only [aA,A3,B2,Ak,Ks,F7,Aw,Am,Ar];by_cases h:k<a.fEdges.length;rotate_left
  ·rw [if_neg (by omega)];exact g (by omega)
  rw [if_pos (by omega)];by_cases y:k<60;rotate_left
  ·rw [if_neg (by omega)];exact g (by omega)
  rw [if_pos (by omega),Af h,Ag k (by omega)];have wx:=s.ed _ (aC h);obtain ⟨b,j⟩:=zq5 wx.cond;rw [j,A0];cases b with
  |false=>rw [Ar];exact no
  |true =>
  rw [Am];split
  ·exact no
  split
  ·exact no
  split
  ·exact no
  split
  ·exact no
  split
  ·exact no
  rename_i G F E D C;obtain ⟨ys,q,n⟩:=wx.checks;have o:ys.length<=1100000:=by have:=wx.lc;rw [q,aA] at this;exact this
  have v:=zsd a s K t m (k+1) (by omega) (by omega) (by omega) (fun x f=>by
   rw [take_succ_eq_append_getElem h] at f;rcases aL.1 f with f|f
   ·exact p x f
   ·rw [aF.1 f];omega)
  exact zsc a (k:Int) _ ys q n o (FewA a) _ v N0 0 (aE _) (by unfold N0;omega)
theorem zse (a:Aut)(g:WfA a)(P:Prop)(K:Option Bool)(f:∃ b:Bool,K=some b/\(b=true->P)):∀ (m k:Nat),k<=a.fStates.length->k<=30->30<m+k->∃ b:Bool,Ij N0 a K m (k:Int)=some b/\(b=true->P)
 |0,k,h1,q,p=>by omega
 |m+1,k,h1,q,p=>by
  have no:∃ b:Bool,some false=some b/\(b=true->P):=⟨false,rfl,fun h=>by cases h⟩;unfold Ij;simp only [aA,A3,B2,Ak,Kr,G1,Aw,Am,Ar];by_cases h:k<a.fStates.length;rotate_left
  ·rw [if_neg (by omega)];exact f
  rw [if_pos (by omega)];by_cases o:k<30;rotate_left
  ·rw [if_neg (by omega)];exact f
  have j:=zse a g P K f m (k+1) (by omega) (by omega) (by omega);obtain ⟨b,n⟩:=y2e _ (g.st _ (aC h));have hi:∀ Q:Stt->Option Bool,idx a.fStates (k:Int) Q=Q a.fStates[k]:=fun Q=>Af h Q
  rw [if_pos (by omega),Ag k (by omega)];simp only [hi,n,A0];repeat' split;all_goals first|exact no|(cases b<;>first|(rw [Am];exact j)|(rw [Ar];exact no))|skip
theorem y2m (a:Aut)(f:WfA a):∃ b:Bool,Uo N0 a=some b/\(b=true->FewA a):=by
 unfold Uo;refine zse a f (FewA a) _ ?_ N0 0 (aE _) (by omega) (by unfold N0;omega);refine zsd a f _ ?_ N0 0 (aE _) (by omega) (by unfold N0;omega) (by simp);simp only [B2,Ak,L7,aA,A3];split
 ·exact ⟨_,rfl,fun h=>by simp at h;omega⟩
 ·exact ⟨_,rfl,fun h=>by cases h⟩
theorem zi2 (l:List Ev)(g:l.length<=1000000)(a:Aut)(K:List (Rf×Ev)->Option (Option Be×Int)):∀ (m k:Nat) (b:List (Rf×Ev)),k<=l.length->l.length<m+k->Rm N0 l a K m ((k:Int),b)=K ((l.drop k).foldl (fun m e=>mput m (Bb e) e) b)
 |0,k,b,h1,j=>by omega
 |m+1,k,b,h1,j=>by
  unfold Rm;simp only [aA,A3];by_cases h:k<l.length
  ·have f:Ja N0 l[k]=some (Bb l[k]):=rfl;rw [if_pos (by omega),Af h,f,A0,Sk,B1 _ k h,foldl_cons,Ag k (by omega)];exact zi2 l g a K m (k+1) _ (by omega) (by omega)
  grind
theorem zqd (a:Aut)(p:WfA a)(l:List Ev)(f:l.length<=1000000):∃ q:Int,H5 N0 a l=some q/\((q≠0/\J8 N0 a l=some (none,q))\/(q=0/\AOk a/\y3u l/\G3 N0 a=some 0/\D7 l=0/\∃ g,HM l g/\J8 N0 a l=some (some ⟨a,g⟩,0))):=by
 obtain ⟨r,o,n,j⟩:=zjb N0 (by decide) a p;unfold H5 J8;rw [o,n,A0,A0,Aw,A3,Aw,A3];by_cases h:r=0;rotate_left
 ·simp_all
 rw [if_pos h,if_pos h,zw9 N0 l (by unfold N0;omega) f,y6c N0 l (by unfold N0;omega) (by decide) f,A0,A0,Aw,A3];refine ⟨D7 l,rfl,?_⟩;by_cases hs:D7 l=0;rotate_left
 ·simp_all
 rw [if_pos hs];have b:=ze4 hs;refine aG ⟨hs,j h,b,by rw [h] ,hs,l.foldl (fun m e=>mput m (Bb e) e) [],fun r=>?_,?_⟩
 ·rw [zx6 r l [] b.st];simp [mlk]
 ·refine (zi2 l f a _ N0 0 [] (aE _) (by unfold N0;omega)).trans ?_;rw [aM]
theorem y5k (q:CxA a held)(j:Str Ck held)(o:CB held a k c)(f:x∈a.fEdges)(t:e∈held)(h:coP a held c x e=some d)(s:0<=d.fState):CB held a (k+1) d:=by
 have p:=zxq q o f h;have n:=Wu h;have eo:=q.ok.ed x f;refine ⟨?_,?_,?_,p.1,p.2⟩
 ·rw [n] at s ⊢;exact ⟨s,eo.tgt.2⟩
 ·rw [n];intro b g;rcases aL.1 g with g|g
  ·exact o.bd b g
  ·rw [aF.1 g];refine ⟨eo.var,?_⟩;rw [zjo j t];rfl
 ·rw [n];exact (y11 e.fTime x.fOpens o.ss).filter _
theorem CB.up (h:CB held a k c):CB held a (k+1) c:=⟨h.st,h.bd,h.ss,by have:=h.lb;omega,by have:=h.ls;omega⟩
theorem y2t (j:CxA a held)(f:Str Ck held)(g:CB held a k c)(n:e∈held)(h:d∈outP a held c e)(p:0<=d.fState):CB held a (k+1) d:=by
 unfold outP at h;rcases aL.1 h with h|h
 ·split at h
  ·rw [aF.1 h];exact g.up
  ·simp at h
 ·obtain ⟨x,b,o⟩:=mem_filterMap.1 h;exact y5k j f g (Mw b).1 n o p
theorem X0 {l:List Cf}(h:d∈cfN a held l e):∃ c∈l,d∈outP a held c e/\0<=d.fState:=by
 unfold cfN at h;obtain ⟨c,h1,b⟩:=aR.1 ((Fd Ea _ _).1 h);exact ⟨c,h1,zxx b⟩
theorem zxy (f:CxA a held)(b:Str Ck held){l:List Cf}(j:∀ c∈l,CB held a k c)(g:e∈held):∀ d∈cfN a held l e,CB held a (k+1) d:=fun d h=>by
 obtain ⟨c,h1,o,n⟩:=X0 h;exact y2t f b (j c h1) g o n
theorem y17 (f:CxA a held){l:List Cf}(g:k<=1000)(h:∀ c∈l,CB held a k c)(e:Ev):∀ d∈maN a held l e,maOk d=true:=fun d b=>by
 unfold maN at b;obtain ⟨c,h1,j⟩:=aR.1 ((Fd D5 _ _).1 b);exact zww f g (h c h1) e d j
theorem y34 (b:a.fEdges.length<=100)(l:List Cf)(e:Ev):(maN a held l e).length<=101*l.length:=by
 unfold maN;have f:=zdw (fun c=>maO (outP a held c e)) 101 l (fun c _=>by have:=Na (outP a held c e);have:(outP a held c e).length<=a.fEdges.length+1:=Wr;omega);have:=zdk (c:=B4) (l.flatMap (fun c=>maO (outP a held c e)));omega
theorem y24 (l s:List Ma)(hs:Str B4 s)(b:Str B4 l):l.length<=(puts B4 s l).length:=by
 have:puts B4 s l=puts B4 l s:=Str.uniq D5 (zdm D5 _ _ hs) (zdm D5 _ _ b) (fun x=>by rw [S5 D5,S5 D5,Or.comm]);rw [this];exact zma s l
def wiP (most:Nat)(a:Aut)(held:List Ev):List Ev->List Cf->List Ma->List Cf×List Ma×Bool
 |[],cs,b=>(cs,b,true)
 |e::r,cs,b=>if most<(cfN a held cs e).length\/most<(puts B4 b (maN a held cs e)).length then ([],[],false) else wiP most a held r (cfN a held cs e) (puts B4 b (maN a held cs e))
theorem zcv {l:List Ev}(j:CxA a l)(g:Str Ck l)(f:a.fEdges.length<=100)(most:Nat)(hm:most<=4096)(p:1<=most)(y:l.length<=900) :
  ∀ (m k:Nat) (cs:List Cf) (b:List Ma),k<=l.length->l.length<m+k->cs.length<=most->b.length<=most->(∀ c∈cs,CB l a k c)->(∀ d∈b,maOk d=true)->I4 N0 (most:Int) l a (fun t s=>some (t,s,true)) m (cs,b,(k:Int))=some (wiP most a l (l.drop k) cs b)
 |0,k,cs,b,h1,D,C,B,n,q=>by omega
 |m+1,k,cs,b,h1,D,C,B,n,q=>by
  unfold I4;simp only [aA,A3];by_cases h:k<l.length
  ·have A:=aC h;have z:=y34 (held:=l) f cs l[k];have o:=y17 j (by omega) n l[k];rw [if_pos (by omega),Af h,y6d j f (by omega) l[k] cs n (by omega),A0,B1 _ k h];have u:=fun K=>zmd (most:Int) l a (cs,b,(k:Int)) (cfN a l cs l[k],maN a l cs l[k]) o (by grind) K N0 0 b (aE _) (by show (maN a l cs l[k]).length<2000000000+0;omega) (by show b.length+((maN a l cs l[k]).length-0)<=1000000;omega) q
   refine (u _).trans ?_;rw [aM];simp only [B2,Ak,K1,A3,Am];have v:=zcv j g f most hm p y m (k+1) (cfN a l cs l[k]) (puts B4 b (maN a l cs l[k])) (by omega) (by omega);unfold wiP;by_cases F:most<(cfN a l cs l[k]).length
   ·simp_all
   rw [if_neg (by omega)];by_cases E:most<(puts B4 b (maN a l cs l[k])).length
   ·simp_all
   rw [if_neg (by omega),if_neg (by omega),Ag k (by omega)];exact v (by omega) (by omega) (zxy j g n A) (zrz q o)
  ·rw [if_neg (by omega),aB (by omega)];rfl
theorem cb0 {l:List Ev}(g:AOk a):CB l a 0 cf0:=⟨⟨by simp,by have:=g.st;simp;omega⟩,fun b f=>by simp at f,by simp [SS],by simp,by simp⟩
theorem zw4 {l:List Ev}(h:CxA a l)(b:Str Ck l)(g:a.fEdges.length<=100)(most:Nat)(hm:most<=4096)(f:1<=most)(j:l.length<=900):Tx N0 a l (most:Int)=some (wiP most a l l [cf0] []):=by
 unfold Tx;have o:Yc N0=some cf0:=rfl;rw [o,A0];exact zcv h b g most hm f j N0 0 [cf0] [] (aE _) (by unfold N0;omega) (by simp;omega) (by simp) (fun c n=>by rw [aF.1 n];exact cb0 h.ok) (by simp)
theorem zs2 {l:List Ev}(s:CxA r.fa l)(hm:HM l r.fheld)(g:Str Ck l)(n:r.fa.fEdges.length<=100)(C:l.length<=20)(K:List Cf->List Ma->Option (List Cf×List Ma×Int)) :
  ∀ (m k:Nat) (cs:List Cf) (all:List Ma),k<=l.length->l.length<m+k->cs.length<=150->all.length<=150*k->(∀ c∈cs,CB l r.fa k c)->(∀ d∈all,maOk d=true)->(wiP 150 r.fa l (l.drop k) cs (setL B4 all)).2.2=true ->
   ∃ f b,Hj N0 l r K m (cs,(k:Int),all)=K f b/\wiP 150 r.fa l (l.drop k) cs (setL B4 all)=(f,setL B4 b,true)/\(∀ d∈b,maOk d=true)/\b.length<=4096/\f.length<=150/\(setL B4 b).length<=max 150 (setL B4 all).length/\(∀ c∈f,CB l r.fa l.length c)
 |0,k,cs,all,h1,G,z,F,p,v,j=>by omega
 |m+1,k,cs,all,h1,G,z,F,p,v,j=>by
  unfold Hj;simp only [aA,A3];by_cases h:k<l.length
  ·have u:=aC h;have t:∀ y∈l,Bb y=Bb l[k]->y=l[k]:=fun y A H=>by
    have L:=zjo g A;have J:=zjo g u;simp_all
   rw [B1 _ k h] at j ⊢;unfold wiP at j ⊢;have eM:puts B4 (setL B4 all) (maN r.fa l cs l[k])=setL B4 (all++maN r.fa l cs l[k]):=by unfold setL;rw [<-W9]
   have E:=y24 (maN r.fa l cs l[k]) (setL B4 all) (S4 D5 _) (S4 D5 _);by_cases q:150<(cfN r.fa l cs l[k]).length\/150<(puts B4 (setL B4 all) (maN r.fa l cs l[k])).length
   ·rw [if_pos q] at j;cases j
   rw [if_neg q] at j ⊢;have o:=y17 s (by omega) p l[k];rw [if_pos (by omega),Af h,znc s hm (by omega) t n cs p (by omega),A0];have B:IntKind.wrap .i64 (((all.length:Nat):Int)+(((maN r.fa l cs l[k]).length:Nat):Int))=((all.length+(maN r.fa l cs l[k]).length:Nat):Int):=by rw [Cl _ (by omega)];omega
   simp only [B2,Ak,J7,Am,A3];rw [if_neg (by omega),if_neg (by omega),B,if_neg (by omega),Bv (by omega) (by omega),Ag k (by omega)];rw [eM] at j ⊢;obtain ⟨f,b,U,T,S,R,Q,O,M⟩:=zs2 s hm g n C K m (k+1) (cfN r.fa l cs l[k]) (all++maN r.fa l cs l[k]) (by omega) (by omega) (by omega) (by rw [aH];omega) (zxy s g p u) (fun d I=>by
    grind) j
   grind
  ·rw [if_neg (by omega)];have D:k=l.length:=by omega
   rw [aB (by omega)];exact ⟨cs,all,rfl,rfl,v,by omega,z,by omega,by rw [<-D];exact p⟩
theorem zw3 (a:Aut)(g:WfA a)(l:List Ev):∃ b:Bool,Q1 N0 a l=some b/\(b=true->FewA a/\l.length<=12/\∃ q:Int,H5 N0 a l=some q/\(q=0->(wiP 150 a l l [cf0] []).2.2=true)):=by
 obtain ⟨b,y,v⟩:=y2m a g;unfold Q1;simp only [B2,Ak,Kc];rw [y,A0,y10 N0 l (by decide),Aw,A0];cases b with
 |false=>rw [Ar,Am];simp_all
 |true =>
  rw [Am];cases j:fewE l with
  |false=>simp only [Bool.not_false,Am];simp_all
  |true =>
   simp only [Bool.not_true,Ar];obtain ⟨z,_⟩:=y03 j;obtain ⟨q,s,p⟩:=zqd a g l (by omega);rw [s,A0,Aw,A3];rcases p with ⟨h,_⟩|⟨h,t,hs,_,_,_⟩
   ·simp_all
   ·have o:=v rfl;have f:CxA a l:=⟨g,t,fun x f=>by have:=o.2 x f;omega,by omega⟩;have n:=zw4 f hs.st (by have:=o.1;omega) 150 (by omega) (by omega) (by omega);have u:((150:Nat):Int)=150:=rfl;rw [u] at n;rw [if_pos h,n,A0];simp_all
theorem y35 {l more:List Ev}(hs:Str Ck more)(hm:∀ x∈l,x∈more){r:Rf}(h:(lkH l r).isSome=true):lkH l r=lkH more r:=by
 obtain ⟨y,b⟩:=Option.isSome_iff_exists.1 h;obtain ⟨h1,f⟩:=zjn b;have:=zjo hs (hm y f);rw [h1] at this;rw [b,this]
theorem y6m {l more:List Ev}(hs:Str Ck more)(hm:∀ x∈l,x∈more){cs:List Cf}(f:∀ c∈cs,CB l a k c):∀ c∈cs,∀ b∈c.fBindings,lkH l b.fRef=lkH more b.fRef:=fun c h b g=>y35 hs hm ((f c h).bd b g).2
end Go.Proofs.YthbogefcfhmpgaaGreat
