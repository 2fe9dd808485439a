/- Layer 25. -/
import Derived.Test.YtidhlpjgifoneaaGreatK31
set_option linter.unusedVariables false
set_option linter.unusedSimpArgs false
namespace Go.Proofs.YtidhlpjgifoneaaGreat
open Go.RowKit List
open List renaming length_map->aA,take_succ_eq_append_getElem->aB,drop_eq_nil_of_le->aC,getElem_mem->aE,length_take->aF,getElem_take->aG,take_of_length_le->aH,drop_zero->aJ,getElem?_eq_getElem->aK,getLast_eq_getElem->aL,length_nil->aR,append_nil->aS,getElem_cons_zero->aT,getElem_set_self->aV
open Int renaming natCast_zero->aD
open Nat renaming lt_of_le_of_lt->aM,le_refl->aO,zero_le->aP
open Bool renaming and_eq_true->aN,false_eq_true->aQ,not_eq_true->aU,and_true->aX
theorem X0 {a:Type}{i len:Nat}(h:i<=len)(k:Nat->Option a):nle (i:Int) len k=k i:=by unfold nle;simp [h]
theorem y1t {c:Type}{a b:Nat}(h:a<=b)(x:Option c):gle a b x=x:=by unfold gle;simp [h]
theorem zy0 {α a:Type}{l:List α}{lo:Nat}(h:lo<=l.length)(z:α)(k:List α->Option a):clr l lo z k=k (clrL l lo z):=by unfold clr;simp [h]
theorem zs8 {a:Type}(i:Nat)(x:Option a):frb i x=x:=by unfold frb;rfl
theorem zee {α:Type}(l:List α)(lo:Nat)(z:α)(h:lo<=l.length):(clrL l lo z).take lo=l.take lo:=by
 unfold clrL;simp_all
theorem zjl {α:Type}(l:List α)(lo:Nat)(z:α)(h:lo<=l.length):(clrL l lo z).length=l.length:=by
 unfold clrL;simp;omega
theorem Ga (k:Nat)(h:1<=k)(a:k<=1000000000000):IntKind.wrap .i64 ((k:Int)-1)=((k-1:Nat):Int):=by rw [Cq _ (by omega)];omega
theorem zhu (n:Nat)(a b:Bg):M7 n a b=some (rCmp a b):=by
 unfold M7 rCmp or3 cmpI;simp only [A5,Aj];grind
theorem y02 (n:Nat)(a b:Bd):U8 n a b=some (De a b):=by
 unfold U8;rw [zhu,A3];simp only [A5,Aj,De,or2];have e:rCmp ⟨a.fRef.fTime,a.fRef.fSource,a.fRef.fSeq⟩ ⟨b.fRef.fTime,b.fRef.fSource,b.fRef.fSeq⟩=rCmp a.fRef b.fRef:=rfl;rw [e];unfold cmpI;grind
theorem zr7 (n:Nat)(b a:Ma)(f:b.fBindings.length<=1000000000)(d:a.fBindings.length<=1000000000)(K:Option Int)(e:K=if a.fBindings.length<b.fBindings.length then some (-1) else if b.fBindings.length<a.fBindings.length then some 1 else some 0):∀ (m k:Nat),k<=a.fBindings.length->k<=b.fBindings.length->a.fBindings.length<m+k ->
  Hv n b a K m k=some (lexC De (a.fBindings.drop k) (b.fBindings.drop k))
 |0,k,h1,_,g=>by omega
 |m+1,k,h1,i,g=>by
  unfold Hv;simp only [Ax,Am,K7,aA,A5,Ap,Aq,Aj];by_cases h:k<a.fBindings.length
  ·rw [if_pos (by omega)];by_cases c:k<b.fBindings.length
   ·rw [if_pos (by omega),A9 h,A9 c,B1 _ k h,B1 _ k c];rw [y02,A3,Ae k (by omega),zr7 n b a f d K e m (k+1) (by omega) (by omega) (by omega)];show _=some (or2 (De _ _) _);unfold or2;split<;>rfl
   ·rw [if_neg (by omega),e,if_neg (by omega),if_pos (by omega),B1 _ k h,aC (by omega:b.fBindings.length<=k)];rfl
  ·rw [if_neg (by omega),e,aC (by omega:a.fBindings.length<=k)];by_cases c:a.fBindings.length<b.fBindings.length
   ·rw [if_pos c,B1 _ k (by omega:k<b.fBindings.length)];rfl
   ·rw [if_neg c,if_neg (by omega),aC (by omega)];rfl
theorem y2s (n:Nat)(a b:Ma)(e:a.fBindings.length<n)(d:b.fBindings.length<=1000000000)(c:a.fBindings.length<=1000000000):La n a b=some (Bh a b):=by
 unfold La;have:=zr7 n b a d c _ rfl n 0 (by omega) (by omega) (by omega);simp only [aD,aJ] at this;rw [show Bh a b=lexC De a.fBindings b.fBindings from rfl,<-this];congr 1;simp only [aA,A5];simp_all
theorem zr9 (n:Nat)(b a:Cf)(f:b.fStarts.length<=1000000000)(d:a.fStarts.length<=1000000000)(K:Option Int)(e:K=if a.fStarts.length<b.fStarts.length then some (-1) else if b.fStarts.length<a.fStarts.length then some 1 else some 0):∀ (m k:Nat),k<=a.fStarts.length->k<=b.fStarts.length->a.fStarts.length<m+k ->
  Ht n b a K m k=some (lexC Eb (a.fStarts.drop k) (b.fStarts.drop k))
 |0,k,h1,_,g=>by omega
 |m+1,k,h1,i,g=>by
  unfold Ht;simp only [Ax,Am,K6,Hu,aA,A5,Ap,Aq,Aj];by_cases h:k<a.fStarts.length
  ·rw [if_pos (by omega)];by_cases c:k<b.fStarts.length
   ·rw [if_pos (by omega),A9 h,A9 c,B1 _ k h,B1 _ k c];rw [Ae k (by omega),zr9 n b a f d K e m (k+1) (by omega) (by omega) (by omega)];show _=some (or2 (Eb _ _) _);unfold Eb or2 cmpI;generalize a.fStarts[k]=x;generalize b.fStarts[k]=y;simp only [Aw,aX,aN,decide_eq_true_eq];grind
   ·rw [if_neg (by omega),e,if_neg (by omega),if_pos (by omega),B1 _ k h,aC (by omega:b.fStarts.length<=k)];rfl
  ·rw [if_neg (by omega),e,aC (by omega:a.fStarts.length<=k)];by_cases c:a.fStarts.length<b.fStarts.length
   ·rw [if_pos c,B1 _ k (by omega:k<b.fStarts.length)];rfl
   ·rw [if_neg c,if_neg (by omega),aC (by omega)];rfl
theorem y2x (n:Nat)(a b:Cf)(g:cfOk a=true)(f:cfOk b=true)(d:a.fBindings.length<n)(c:a.fStarts.length<n):L6 n a b=some (Bj a b):=by
 obtain ⟨k,j⟩:=(E8 a).1 g;obtain ⟨i,h⟩:=(E8 b).1 f;unfold L6;rw [y2s n _ _ d i k,A3];have:=zr9 n b a h j _ rfl n 0 (by omega) (by omega) (by omega);simp only [aD,aJ] at this;simp only [aA,A5,Aj];have e:(if (a.fStarts.length:Int)<(b.fStarts.length:Int) then some (-1:Int) else if (b.fStarts.length:Int)<(a.fStarts.length:Int) then some 1 else some 0)=(if a.fStarts.length<b.fStarts.length then some (-1) else if b.fStarts.length<a.fStarts.length then some 1 else some 0):=by
  simp_all
 rw [e,this];show _=some (or3 (cmpI a.fState b.fState) (Bh ⟨a.fBindings⟩ ⟨b.fBindings⟩) _);unfold or3 cmpI;grind
theorem y5m (n:Nat)(a b:Cf)(d:cfOk a=true)(c:cfOk b=true)(i:1000000000<n):Ru n a b=some (decide (a=b)):=by
 unfold Ru;obtain ⟨h,g⟩:=(E8 a).1 d;obtain ⟨f,e⟩:=(E8 b).1 c;rw [y7j n a b (by omega) (by omega) (by omega) f h e g];rw [A3];congr 1;exact decide_eq_decide.2 (cfCmp_to.zero a b)
theorem zdm (n:Nat)(w:1000000000<n)(l:List Cf)(d:∀ x∈l,cfOk x=true)(D:l.length<=1000000000)(a:Nat)(C:1<=a)(K:Int->List Cf->Option (List Cf))(r:Option (List Cf))
  (y:∀ (i:Nat) (b:List Cf),b.length=l.length->i<=l.length->b.take i=dd l->K (i:Int) b=r) :
  ∀ (m k j:Nat) (b:List Cf),1<=j->k<=a+j-1->a+j<=l.length->l.length<m+j+a->b.length=l.length->b.take k=dd (l.take (a+j))->b.drop (a+j-1)=l.drop (a+j-1)->Lf n a K m ((k:Int),(j:Int),b)=r
 |0,k,j,b,F,h1,v,E,u,t,A=>by omega
 |m+1,k,j,b,F,h1,v,E,u,t,A=>by
  unfold Lf;simp only [aA];rw [y1t (by omega)];simp only [A5];by_cases h:a+j<l.length
  ·have G:∀ i (h1:a+j-1<=i) (v:i<l.length),∃ E:i<b.length,b[i]=l[i]:=fun i h1 v=>by
    refine ⟨by omega,?_⟩;have:=congrArg (fun q=>q[i-(a+j-1)]?) A;simp only [getElem?_drop,show a+j-1+(i-(a+j-1))=i by omega] at this;rw [aK (by omega),aK v] at this;exact Option.some.inj this
   obtain ⟨I,H⟩:=G (a+j) (by omega) h;obtain ⟨M,L⟩:=G (a+(j-1)) (by omega) (by omega);rw [if_pos (by omega),Ct (by omega),D7 I,Ga j F (by omega),Ct (by omega),D7 M,H,L];rw [y5m n _ _ (d _ (aE _)) (d _ (aE _)) w,A3,Aj,A5,Ae j (by omega)];have g:l.take (a+(j+1))=l.take (a+j)++[l[a+j]]:=by rw [show a+(j+1)=(a+j)+1 by omega,aB h]
   have f:l.take (a+j)≠[]:=by
    intro e;have:=congrArg length e;rw [aF,aR] at this;omega
   have c:(l.take (a+j)).getLast f=l[a+(j-1)]:=by
    rw [aL];simp only [aG];congr 1;simp only [aF];omega
   have p:b.drop (a+(j+1)-1)=l.drop (a+(j+1)-1):=by
    have:=congrArg List.tail A;simp only [tail_drop] at this;rw [show a+(j+1)-1=a+j-1+1 by omega];exact this
   by_cases s:l[a+j]=l[a+(j-1)]
   ·rw [if_pos s];refine zdm n w l d D a C K r y m k (j+1) b (by omega) (by omega) (by omega) (by omega) u ?_ p;rw [g,Jm _ _ f,c,if_pos s,aS,t]
   ·rw [if_neg s,Ct (by omega),D7 I,Ct (by omega),Jp (by omega),Ae k (by omega)];have o:∀ z:Cf,(b.set k z).take (k+1)=b.take k++[z]:=fun z=>by
     have J:k<b.length:=by omega
     rw [aB (by simpa using J),aV,take_set_of_le (aO _)]
    have B:b[a+j]=l[a+j]:=H;refine zdm n w l d D a C K r y m (k+1) (j+1) _ (by omega) (by omega) (by omega) (by omega) (by simpa using u) ?_ ?_
    ·rw [o,g,Jm _ _ f,c,if_neg s,t];exact congrArg (fun q=>dd (l.take (a+j))++[q]) B
    ·rw [drop_set_of_lt (by omega)];exact p
  ·rw [if_neg (by omega)];refine y k b u (by omega) ?_;rw [t,aH (by omega)]
theorem zlz (n:Nat)(t:1000000000<n)(l:List Cf)(f:∀ x∈l,cfOk x=true)(w:l.length<=1000000000)(u:1<=l.length):∀ (m k:Nat),1<=k->k<=l.length->l.length<m+k->dd (l.take k)=l.take k->Qb n l (some l) m (k:Int)=some (dd l)
 |0,k,v,h1,z,_=>by omega
 |m+1,k,v,h1,z,s=>by
  unfold Qb;simp only [aA,A5];by_cases h:k<l.length
  ·rw [if_pos (by omega),Ct h,D7 h,Ga k v (by omega),Ct (by omega),D7 (by omega)];rw [y5m n _ _ (f _ (aE _)) (f _ (aE _)) t,A3,A5,Ae k (by omega)];have q:l.take (k+1)=l.take k++[l[k]]:=aB h;have o:l.take k≠[]:=by
    intro e;have:=congrArg length e;rw [aF,aR] at this;omega
   have d:(l.take k).getLast o=l[k-1]:=by
    rw [aL];simp only [aG];congr 1;simp only [aF];omega
   by_cases r:l[k]=l[k-1]
   ·rw [if_pos r,X0 (by omega)];have:=zdm n t l f w k v (fun k2_1_0y0 k2_1_0y1=>nle k2_1_0y0 k2_1_0y1.length fun j =>
     clr k2_1_0y1 j (⟨0,[],[]⟩:A0) fun g =>
     sls g 0 k2_1_0y0 fun c=>some c) (some (dd l)) (fun i p B hi y=>by
      show nle (i:Int) p.length (fun j=>clr p j (⟨0,[],[]⟩:A0) fun g=>sls g 0 (i:Int) fun c=>some c)=some (dd l);rw [X0 (by omega),zy0 (by omega)];have:=Ea (l:=clrL p i (⟨0,[],[]⟩:A0)) (a:=0) (b:=i) (aP _) (by rw [zjl _ _ _ (by omega)];omega) (fun c=>some c);simp only [aD] at this;rw [this,aJ,zee _ _ _ (by omega),y]) n k 1 l (by omega) (by omega) (by omega) (by omega) rfl (by rw [q,Jm _ _ o,d,if_pos r,aS,s]) rfl
    have A:((1:Nat):Int)=1:=rfl;rw [A] at this;exact this
   ·rw [if_neg r];refine zlz n t l f w u m (k+1) (by omega) (by omega) (by omega) ?_;rw [q,Jm _ _ o,d,if_neg r,s]
  ·rw [if_neg (by omega)];rw [aH (by omega)] at s;rw [s]
theorem y5q (n:Nat)(b:1000000000<n)(l:List Cf)(a:∀ x∈l,cfOk x=true)(c:l.length<=1000000000):Uh n l=some (dd l):=by
 unfold Uh;simp only [aA,A5];by_cases h:l.length<2
 ·rw [if_pos (by omega)]
  match l,h with
  |[],_=>rfl
  |[x],_=>rfl
 ·rw [if_neg (by omega)];refine zlz n b l a c (by omega) n 1 (by omega) (by omega) (by omega) ?_
  match l,h with
  |[],h=>exact absurd (by simp) h
  |[x],h=>exact absurd (by simp) h
  |x::y::q,_=>rfl
theorem zvk (n:Nat)(e:1000000000<n)(l:List Cf)(a:∀ x∈l,cfOk x=true)(c:l.length<=1000000000):Sc n l=some (setL Bj l):=by
 unfold Sc;rw [zqp cfCmp_to n l a c];simp only [zej,zs8,Am];have b:=Ng Bj l;rw [y5q n e _ (fun x d=>a x (b.mem_iff.1 d)) (by rw [b.length_eq];exact c),Ce,zxn cfCmp_to]
theorem zlm (n:Nat)(g:1000000000<n)(x:Cf)(f:cfOk x=true)(l:List Cf)(a:∀ x∈l,cfOk x=true)(j:l.length<=1000000)(K:Int->Option (List Cf))(r:Option (List Cf))
  (d:∀ i:Nat,i<=l.length->(∀ y∈l.take i,Bj y x<0)->(∀ h:i<l.length,¬Bj l[i] x<0)->K i=r):∀ (m k:Nat),k<=l.length->l.length<m+k->(∀ y∈l.take k,Bj y x<0)->Ih n x l K m (k:Int)=r
 |0,k,h1,o,_=>by omega
 |m+1,k,h1,o,e=>by
  unfold Ih;simp only [Ax,Am,Ln,aA,A5,Aq];by_cases h:k<l.length
  ·rw [if_pos (by omega),A9 h,y2x n _ x (a _ (aE h)) f (by have:=(E8 _).1 (a _ (aE h));omega) (by have:=(E8 _).1 (a _ (aE h));omega),A3];by_cases c:Bj l[k] x<0
   ·rw [if_pos c,Ae k (by omega)];refine zlm n g x f l a j K r d m (k+1) (by omega) (by omega) (fun y b=>?_);rw [aB h,mem_append,mem_singleton] at b;rcases b with b|b
    ·exact e y b
    ·rw [b];exact c
   ·rw [if_neg c];exact d k h1 e (fun _=>c)
  ·rw [if_neg (by omega)];exact d k h1 e (fun p=>absurd p h)
theorem zs6 (x:Cf):∀ (l:List Cf) (i:Nat),i<=l.length->(∀ y∈l.take i,Bj y x<0)->(∀ h:i<l.length,¬Bj l[i] x<0)->insU Bj x l=if ∃ h:i<l.length,Bj l[i] x=0 then l else l.take i++x::l.drop i
 |[],i,h1,_,_=>by
  have:i=0:=by simpa using h1
  subst this;simp [insU]
 |y::l,0,_,_,a=>by
  have:=a (by simp);simp only [aT] at this;unfold insU;rw [if_neg this];simp_all
 |y::l,i+1,h1,b,a=>by
  have d:=b y (by simp);unfold insU;rw [if_pos d,zs6 x l i (by simpa using h1) (fun z c=>b z (by simp [c])) (fun h=>by simp_all)];by_cases q:∃ h:i<l.length,Bj l[i] x=0;all_goals simp_all
theorem zw5 (n:Nat)(r:1000000000<n)(x:Cf)(m:cfOk x=true)(l:List Cf)(c:∀ x∈l,cfOk x=true)(s:l.length<=1000000):Mf n l x=some (insU Bj x l):=by
 unfold Mf;refine zlm n r x m l c s _ _ (fun i hi h1 t=>?_) n 0 (by omega) (by omega) (by simp);rw [zs6 x l i hi h1 t];simp only [Ax,Am,Lo,aA,A5,Aq];have k:∀ z:Cf,z=x->(sls l 0 (i:Int) fun j=>app ([]:List Cf) j 56 fun g=>app g [z] 56 fun f=>sls l (i:Int) ((l.length:Nat):Int) fun e=>app f e 56 fun d=>some d)=some (l.take i++x::l.drop i):=fun z p=>by
  subst p;have o:=Ea (l:=l) (a:=0) (b:=i) (aP _) hi (fun j=>app ([]:List Cf) j 56 fun g=>app g [z] 56 fun f=>sls l (i:Int) ((l.length:Nat):Int) fun e=>app f e 56 fun d=>some d);simp only [aD] at o;rw [o,aJ,C1 (by simp;omega) (by omega),nil_append,C1 (by simp;omega) (by omega),Ea hi (aO _),C1 (by simp;omega) (by omega),take_length];simp
 by_cases h:i<l.length
 ·rw [if_pos (by omega),A9 h,y2x n _ x (c _ (aE h)) m (by have:=(E8 _).1 (c _ (aE h));omega) (by have:=(E8 _).1 (c _ (aE h));omega),A3];by_cases q:Bj l[i] x=0;all_goals simp_all
 grind
theorem zs4 {x:Cf}(b:cfOk x=true){l:List Cf}(c:∀ y∈l,cfOk y=true):∀ y∈insU Bj x l,cfOk y=true:=fun y a=>by
 rcases (Wu cfCmp_to x y l).1 a with h|h
 all_goals simp_all
theorem zzi {s l:List Cf}(b:∀ y∈s,cfOk y=true)(c:∀ y∈l,cfOk y=true):∀ y∈puts Bj s l,cfOk y=true:=fun y a=>by
 rcases (Wt cfCmp_to y l s).1 a with h|h
 ·exact b y h
 ·exact c y h
theorem y5l (n:Nat)(a b:Ma)(c:maOk a=true)(e:maOk b=true)(d:1000000000<n):Rs n a b=some (decide (a=b)):=by
 unfold Rs;rw [f_ma n _ _ (by have:=(Ej _).1 c;exact aM this d) (by omega) ((Ej _).1 e) ((Ej _).1 c)];rw [A3];congr 1;exact decide_eq_decide.2 (Ek.zero a b)
theorem zdl (n:Nat)(w:1000000000<n)(l:List Ma)(d:∀ x∈l,maOk x=true)(D:l.length<=1000000000)(a:Nat)(C:1<=a)(K:Int->List Ma->Option (List Ma))(r:Option (List Ma))
  (y:∀ (i:Nat) (b:List Ma),b.length=l.length->i<=l.length->b.take i=dd l->K (i:Int) b=r) :
  ∀ (m k j:Nat) (b:List Ma),1<=j->k<=a+j-1->a+j<=l.length->l.length<m+j+a->b.length=l.length->b.take k=dd (l.take (a+j))->b.drop (a+j-1)=l.drop (a+j-1)->Jy n a K m ((k:Int),(j:Int),b)=r
 |0,k,j,b,F,h1,v,E,u,t,A=>by omega
 |m+1,k,j,b,F,h1,v,E,u,t,A=>by
  unfold Jy;simp only [aA];rw [y1t (by omega)];simp only [A5];by_cases h:a+j<l.length
  ·have G:∀ i (h1:a+j-1<=i) (v:i<l.length),∃ E:i<b.length,b[i]=l[i]:=fun i h1 v=>by
    refine ⟨by omega,?_⟩;have:=congrArg (fun q=>q[i-(a+j-1)]?) A;simp only [getElem?_drop,show a+j-1+(i-(a+j-1))=i by omega] at this;rw [aK (by omega),aK v] at this;exact Option.some.inj this
   obtain ⟨I,H⟩:=G (a+j) (by omega) h;obtain ⟨M,L⟩:=G (a+(j-1)) (by omega) (by omega);rw [if_pos (by omega),Ct (by omega),D7 I,Ga j F (by omega),Ct (by omega),D7 M,H,L];rw [y5l n _ _ (d _ (aE _)) (d _ (aE _)) w,A3,Aj,A5,Ae j (by omega)];have g:l.take (a+(j+1))=l.take (a+j)++[l[a+j]]:=by rw [show a+(j+1)=(a+j)+1 by omega,aB h]
   have f:l.take (a+j)≠[]:=by
    intro e;have:=congrArg length e;rw [aF,aR] at this;omega
   have c:(l.take (a+j)).getLast f=l[a+(j-1)]:=by
    rw [aL];simp only [aG];congr 1;simp only [aF];omega
   have p:b.drop (a+(j+1)-1)=l.drop (a+(j+1)-1):=by
    have:=congrArg List.tail A;simp only [tail_drop] at this;rw [show a+(j+1)-1=a+j-1+1 by omega];exact this
   by_cases s:l[a+j]=l[a+(j-1)]
   ·rw [if_pos s];refine zdl n w l d D a C K r y m k (j+1) b (by omega) (by omega) (by omega) (by omega) u ?_ p;rw [g,Jm _ _ f,c,if_pos s,aS,t]
   ·rw [if_neg s,Ct (by omega),D7 I,Ct (by omega),Jp (by omega),Ae k (by omega)];have o:∀ z:Ma,(b.set k z).take (k+1)=b.take k++[z]:=fun z=>by
     have J:k<b.length:=by omega
     rw [aB (by simpa using J),aV,take_set_of_le (aO _)]
    have B:b[a+j]=l[a+j]:=H;refine zdl n w l d D a C K r y m (k+1) (j+1) _ (by omega) (by omega) (by omega) (by omega) (by simpa using u) ?_ ?_
    ·rw [o,g,Jm _ _ f,c,if_neg s,t];exact congrArg (fun q=>dd (l.take (a+j))++[q]) B
    ·rw [drop_set_of_lt (by omega)];exact p
  ·rw [if_neg (by omega)];refine y k b u (by omega) ?_;rw [t,aH (by omega)]
theorem zly (n:Nat)(t:1000000000<n)(l:List Ma)(f:∀ x∈l,maOk x=true)(w:l.length<=1000000000)(u:1<=l.length):∀ (m k:Nat),1<=k->k<=l.length->l.length<m+k->dd (l.take k)=l.take k->Od n l (some l) m (k:Int)=some (dd l)
 |0,k,v,h1,z,_=>by omega
 |m+1,k,v,h1,z,s=>by
  unfold Od;simp only [aA,A5];by_cases h:k<l.length
  ·rw [if_pos (by omega),Ct h,D7 h,Ga k v (by omega),Ct (by omega),D7 (by omega)];rw [y5l n _ _ (f _ (aE _)) (f _ (aE _)) t,A3,A5,Ae k (by omega)];have q:l.take (k+1)=l.take k++[l[k]]:=aB h;have o:l.take k≠[]:=by
    intro e;have:=congrArg length e;rw [aF,aR] at this;omega
   have d:(l.take k).getLast o=l[k-1]:=by
    rw [aL];simp only [aG];congr 1;simp only [aF];omega
   by_cases r:l[k]=l[k-1]
   ·rw [if_pos r,X0 (by omega)];have:=zdl n t l f w k v (fun k2_1_0y0 k2_1_0y1=>nle k2_1_0y0 k2_1_0y1.length fun j =>
     clr k2_1_0y1 j (⟨[]⟩:Ac) fun g =>
     sls g 0 k2_1_0y0 fun c=>some c) (some (dd l)) (fun i p B hi y=>by
      show nle (i:Int) p.length (fun j=>clr p j (⟨[]⟩:Ac) fun g=>sls g 0 (i:Int) fun c=>some c)=some (dd l);rw [X0 (by omega),zy0 (by omega)];have:=Ea (l:=clrL p i (⟨[]⟩:Ac)) (a:=0) (b:=i) (aP _) (by rw [zjl _ _ _ (by omega)];omega) (fun c=>some c);simp only [aD] at this;rw [this,aJ,zee _ _ _ (by omega),y]) n k 1 l (by omega) (by omega) (by omega) (by omega) rfl (by rw [q,Jm _ _ o,d,if_pos r,aS,s]) rfl
    have A:((1:Nat):Int)=1:=rfl;rw [A] at this;exact this
   ·rw [if_neg r];refine zly n t l f w u m (k+1) (by omega) (by omega) (by omega) ?_;rw [q,Jm _ _ o,d,if_neg r,s]
  ·rw [if_neg (by omega)];rw [aH (by omega)] at s;rw [s]
theorem y5p (n:Nat)(b:1000000000<n)(l:List Ma)(a:∀ x∈l,maOk x=true)(c:l.length<=1000000000):Tj n l=some (dd l):=by
 unfold Tj;simp only [aA,A5];by_cases h:l.length<2
 ·rw [if_pos (by omega)]
  match l,h with
  |[],_=>rfl
  |[x],_=>rfl
 ·rw [if_neg (by omega)];refine zly n b l a c (by omega) n 1 (by omega) (by omega) (by omega) ?_
  match l,h with
  |[],h=>exact absurd (by simp) h
  |[x],h=>exact absurd (by simp) h
  |x::y::q,_=>rfl
theorem y2p (n:Nat)(e:1000000000<n)(l:List Ma)(a:∀ x∈l,maOk x=true)(c:l.length<=1000000000):Rt n l=some (setL Bh l):=by
 unfold Rt;rw [zqp Ek n l a c];simp only [zej,zs8,Am];have b:=Ng Bh l;rw [y5p n e _ (fun x d=>a x (b.mem_iff.1 d)) (by rw [b.length_eq];exact c),Ce,zxn Ek]
theorem zll (n:Nat)(g:1000000000<n)(x:Ma)(f:maOk x=true)(l:List Ma)(a:∀ x∈l,maOk x=true)(j:l.length<=1000000)(K:Int->Option (List Ma))(r:Option (List Ma))
  (d:∀ i:Nat,i<=l.length->(∀ y∈l.take i,Bh y x<0)->(∀ h:i<l.length,¬Bh l[i] x<0)->K i=r):∀ (m k:Nat),k<=l.length->l.length<m+k->(∀ y∈l.take k,Bh y x<0)->Im n x l K m (k:Int)=r
 |0,k,h1,o,_=>by omega
 |m+1,k,h1,o,e=>by
  unfold Im;simp only [Ax,Am,Lu,aA,A5,Aq];by_cases h:k<l.length
  ·rw [if_pos (by omega),A9 h,y2s n _ _ (by have:=(Ej _).1 (a _ (aE h));exact aM this g) ((Ej _).1 f) ((Ej _).1 (a _ (aE h))),A3];by_cases c:Bh l[k] x<0
   ·rw [if_pos c,Ae k (by omega)];refine zll n g x f l a j K r d m (k+1) (by omega) (by omega) (fun y b=>?_);rw [aB h,mem_append,mem_singleton] at b;rcases b with b|b
    ·exact e y b
    ·rw [b];exact c
   ·rw [if_neg c];exact d k h1 e (fun _=>c)
  ·rw [if_neg (by omega)];exact d k h1 e (fun p=>absurd p h)
theorem zs5 (x:Ma):∀ (l:List Ma) (i:Nat),i<=l.length->(∀ y∈l.take i,Bh y x<0)->(∀ h:i<l.length,¬Bh l[i] x<0)->insU Bh x l=if ∃ h:i<l.length,Bh l[i] x=0 then l else l.take i++x::l.drop i
 |[],i,h1,_,_=>by
  have:i=0:=by simpa using h1
  subst this;simp [insU]
 |y::l,0,_,_,a=>by
  have:=a (by simp);simp only [aT] at this;unfold insU;rw [if_neg this];simp_all
 |y::l,i+1,h1,b,a=>by
  have d:=b y (by simp);unfold insU;rw [if_pos d,zs5 x l i (by simpa using h1) (fun z c=>b z (by simp [c])) (fun h=>by simp_all)];by_cases q:∃ h:i<l.length,Bh l[i] x=0;all_goals simp_all
theorem zw4 (n:Nat)(o:1000000000<n)(x:Ma)(m:maOk x=true)(l:List Ma)(j:∀ x∈l,maOk x=true)(s:l.length<=1000000):Mi n l x=some (insU Bh x l):=by
 unfold Mi;refine zll n o x m l j s _ _ (fun i hi h1 t=>?_) n 0 (by omega) (by omega) (by simp);rw [zs5 x l i hi h1 t];simp only [Ax,Am,Lv,aA,A5,Aq];have k:∀ z:Ma,z=x->(sls l 0 (i:Int) fun g=>app ([]:List Ma) g 24 fun f=>app f [z] 24 fun e=>sls l (i:Int) ((l.length:Nat):Int) fun d=>app e d 24 fun c=>some c)=some (l.take i++x::l.drop i):=fun z r=>by
  subst r;have p:=Ea (l:=l) (a:=0) (b:=i) (aP _) hi (fun g=>app ([]:List Ma) g 24 fun f=>app f [z] 24 fun e=>sls l (i:Int) ((l.length:Nat):Int) fun d=>app e d 24 fun c=>some c);simp only [aD] at p;rw [p,aJ,C1 (by simp;omega) (by omega),nil_append,C1 (by simp;omega) (by omega),Ea hi (aO _),C1 (by simp;omega) (by omega),take_length];simp
 by_cases h:i<l.length
 ·rw [if_pos (by omega),A9 h,y2s n _ _ (by have:=(Ej _).1 (j _ (aE h));exact aM this o) ((Ej _).1 m) ((Ej _).1 (j _ (aE h))),A3];by_cases q:Bh l[i] x=0;all_goals simp_all
 grind
theorem zic {x:Ma}(b:maOk x=true){l:List Ma}(c:∀ y∈l,maOk y=true):∀ y∈insU Bh x l,maOk y=true:=fun y a=>by
 rcases (Wu Ek x y l).1 a with h|h
 all_goals simp_all
theorem zqz {s l:List Ma}(b:∀ y∈s,maOk y=true)(c:∀ y∈l,maOk y=true):∀ y∈puts Bh s l,maOk y=true:=fun y a=>by
 rcases (Wt Ek y l s).1 a with h|h
 ·exact b y h
 ·exact c y h
theorem y58 (n:Nat)(b:1000000000<n)(l:List Cf)(a:∀ x∈l,cfOk x=true)(d:l.length<=100000):Wl n l=some (if 4096<(setL Bj l).length then ([],5) else (setL Bj l,0)):=by
 unfold Wl;have c:Cg n l=some l:=by unfold Cg;exact if_pos (by omega)
 rw [c,Je,zvk n b l a (by omega)];simp only [Ce,A3,aA,A5];grind
theorem y2f {l:List Cf}(h:∀ x∈l,cfOk x=true):∀ x∈setL Bj l,cfOk x=true:=fun x a=>h x ((Dk cfCmp_to x l).1 a)
def O0 (c:Cf):Bool:=decide (c.fBindings.length<=12) && decide (c.fStarts.length<=12)
theorem zre (n:Nat)(l:List Cf)(K:Option Bool):∀ (m k:Nat),k<=80->80<m+k->Ij n l K m (k:Int)=if ∀ x∈(l.take 80).drop k,O0 x=true then K else some false
 |0,k,h1,c=>by omega
 |m+1,k,h1,c=>by
  unfold Ij;simp only [Ax,Am,Lr,Lq,aA,A5,Aq,Ap];by_cases h:k<l.length
  ·rw [if_pos (by omega)];by_cases e:k<80
   ·rw [if_pos (by omega),A9 h,Ae k (by omega),zre n l K m (k+1) (by omega) (by omega)];have b:(l.take 80).drop k=l[k]::(l.take 80).drop (k+1):=by
     rw [B1 _ k (by simp;omega),aG]
    rw [b];simp only [forall_mem_cons];have a:O0 l[k]=true ↔ l[k].fBindings.length<=12/\l[k].fStarts.length<=12:=by simp [O0]
    simp only [a];by_cases d:l[k].fBindings.length<=12
    ·rw [if_neg (by omega),A9 h];grind
    grind
   grind
  ·rw [if_neg (by omega),aC (by simp;omega)];simp
theorem y78 (n:Nat)(a:80<n)(l:List Cf):Uo n l=some (decide (l.length<=60/\∀ x∈l,O0 x=true)):=by
 unfold Uo;have:=zre n l (some (decide ((((List.map A4 (l)).length:Nat):Int)<=60))) n 0 (by omega) (by omega);simp only [aD,aJ] at this;rw [this];simp only [aA];by_cases h:l.length<=60
 ·rw [aH (by omega)];grind
 grind
def Cl (e:Ev):Bool:=decide (0<=e.fTime) && (decide (e.fTime<=1099511627776) && (decide (0<=e.fSource) && (decide (e.fSource<8) && (decide (0<=e.fSeq) && decide (e.fSeq<=1099511627776)))))
def idt (e:Ev):J3:=⟨e.fSource,e.fSeq⟩
theorem zzv (n:Nat)(e:Ev):Vr n e=some (Cl e):=by
 unfold Vr Cl
 simp only [A5]
 repeat' split
 all_goals (simp_all<;>omega)
theorem zvp (n:Nat)(e:Ev):U1 n e=some (Cl e):=by
 unfold U1 Cl
 simp only [A5]
 repeat' split
 all_goals (simp_all<;>omega)
theorem y76 (n:Nat)(e:Ev):Nd n e=some (idt e):=rfl
theorem y2u (n:Nat)(e:Ev):Ml n e=some ⟨e.fTime,e.fSource,e.fSeq⟩:=rfl
def Bm (e:Ev):Bg:=⟨e.fTime,e.fSource,e.fSeq⟩
def Co (a b:Ev):Int:=rCmp (Bm a) (Bm b)
theorem y79 (n:Nat)(e:4<=n)(a b:Ev):Vt n a b=some (Co a b):=by
 obtain ⟨m,rfl⟩:∃ m,n=m+4:=⟨n-4,by omega⟩;unfold Vt Wc;simp only [A3,O7,y0p,aX,Aw,aN,decide_eq_true_eq];split
 ·rename_i h;obtain ⟨h1,d,c⟩:=h;simp [Co,rCmp,Bm,or3,cmpI,h1,d,c]
 ·rfl
theorem y1g (n:Nat)(a b:Ev):Rc n a b=some (decide (idt a=idt b)):=by
 unfold Rc;simp only [A5];split
 ·rename_i h;simp [idt,h]
 ·rename_i h;simp [idt,h]
def few1 (l:List Ab):Bool:=(l.take 40).all (fun v=>decide (v.fText.size<=128)) && decide (l.length<40)
theorem zlw (n:Nat)(l:List Ab)(K:Option Bool):∀ (m k:Nat),k<=l.length->k<=40->40<m+k->Qp n l K m k=if ((l.take 40).drop k).all (fun v=>decide (v.fText.size<=128)) then K else some false
 |0,k,h1,d,c=>by omega
 |m+1,k,h1,d,c=>by
  unfold Qp;simp only [aA,A5];by_cases h:k<l.length
  ·rw [if_pos (by omega)];by_cases e:k<40
   ·rw [if_pos (by omega),A9 h,Ae k (by omega)];have a:k<(l.take 40).length:=by rw [aF];omega
    rw [B1 (l.take 40) k a,all_cons,aG];by_cases b:l[k].fText.size<=128
    ·rw [if_neg (by omega),zlw n l K m (k+1) (by omega) (by omega) (by omega)];simp [b]
    grind
   grind
  ·rw [if_neg (by omega),aC (by rw [aF];omega)];simp
theorem y5j (n:Nat)(l:List Ab)(a:41<=n):Uv n l=some (few1 l):=by
 unfold Uv few1;have:=zlw n l (some (decide ((((List.map Ag l).length:Nat):Int)<40))) n 0 (by omega) (by omega) (by omega);simp only [aD,aJ] at this;rw [this];simp only [aA];split
 ·rename_i h;rw [h];simp;omega
 ·rename_i h;simp only [aU] at h;rw [h];rfl
def fewE (l:List Ev):Bool:=(l.take 20).all (fun e=>decide (e.fValues.length<=12) && few1 e.fValues) && decide (l.length<=12)
theorem zlv (n:Nat)(l:List Ev)(K:Option Bool)(a:41<=n):∀ (m k:Nat),k<=l.length->k<=20->20<m+k->Qo n l K m k=if ((l.take 20).drop k).all (fun e=>decide (e.fValues.length<=12) && few1 e.fValues) then K else some false
 |0,k,h1,d,c=>by omega
 |m+1,k,h1,d,c=>by
  unfold Qo;simp only [aA,A5,Aj];by_cases h:k<l.length
  ·rw [if_pos (by omega)];by_cases g:k<20
   ·rw [if_pos (by omega),A9 h,Ae k (by omega)];have b:k<(l.take 20).length:=by rw [aF];omega
    rw [B1 (l.take 20) k b,all_cons,aG];by_cases f:l[k].fValues.length<=12
    ·rw [if_neg (by omega),A9 h,y5j n _ a,A3,Aw,zlv n l K a m (k+1) (by omega) (by omega) (by omega)];grind
    grind
   grind
  ·rw [if_neg (by omega),aC (by rw [aF];omega)];simp
theorem y5i (n:Nat)(l:List Ev)(a:41<=n):Uu n l=some (fewE l):=by
 unfold Uu fewE;have:=zlv n l (some (decide ((((List.map A7 l).length:Nat):Int)<=12))) a n 0 (by omega) (by omega) (by omega);simp only [aD,aJ] at this;rw [this];simp only [aA];split
 ·rename_i h;rw [h];simp;omega
 ·rename_i h;simp only [aU] at h;rw [h];rfl
theorem y0n {l:List Ev}(h:fewE l=true):l.length<=12/\∀ e∈l,e.fValues.length<=12:=by
 unfold fewE at h;simp only [aN,decide_eq_true_eq,all_eq_true] at h;refine ⟨h.2,fun e a=>(h.1 e ?_).1⟩;rw [aH (by omega)];exact a
def Sy:List Ev->Ev->Bool |[],_=>false |x::_,e=>decide (0<=Co x e)
def chk:List Ev->List Ev->Int
 |_,[]=>0
 |p,e::r=>if Cl e=false then 2 else if Sy p e=true then 14 else if p.any (fun x=>decide (idt x=idt e)) then 7 else chk (e::p) r
def Du (l:List Ev):Int:=if 4096<l.length then 5 else chk [] l
def X7 (m:List (J3×Bool))(p:List Ev):Prop:=∀ k,(mlk m k).getD false=p.any (fun x=>decide (idt x=k))
theorem zs1 {b d:Type}[DecidableEq b](l:List (b×d))(k:b)(v:d)(c:b):mlk (mput l k v) c=if c=k then some v else mlk l c:=by
 induction l with
 |nil=>simp [mput,mlk]
 |cons a r ih =>
  obtain ⟨a,x⟩:=a;simp only [mput];by_cases h:k=a
  ·subst h;rw [if_pos rfl];simp only [mlk];simp_all
  ·rw [if_neg h];simp only [mlk,ih];grind
theorem X7.put {m:List (J3×Bool)}{p:List Ev}(h:X7 m p)(e:Ev):X7 (mput m (idt e) true) (e::p):=fun k=>by
 rw [zs1,any_cons];by_cases a:k=idt e
 ·subst a;simp
 ·rw [if_neg a,h k];grind
theorem Zl {l:List Ev}{k:Nat}(h:k<l.length):(l.take (k+1)).reverse=l[k]::(l.take k).reverse:=by
 simp_all
theorem zqs {l:List Ev}{k:Nat}(a:0<k)(h:k<=l.length):∃ t,(l.take k).reverse=l[k-1]::t:=by
 obtain ⟨j,rfl⟩:∃ j,k=j+1:=⟨k-1,by omega⟩;exact ⟨_,by rw [Zl (by omega)];rfl⟩
theorem zkf {k:Nat}(a:0<k)(h:k<=1000000):IntKind.wrap .i64 ((k:Int)-1)=((k-1:Nat):Int):=by rw [Cq _ (by omega)];omega
theorem y5z {b a d:Type}[DecidableEq b](l:List (b×a))(k:b)(z:a)(c:a->Bool->Option d):mgt l k z c=c ((mlk l k).getD z) (mlk l k).isSome:=by unfold mgt;rfl
theorem y1p {a b d:Type}[DecidableEq a](l:List (a×b))(k:a)(v:b)(c:List (a×b)->Option d):mst l k v c=c (mput l k v):=by unfold mst;rfl
theorem zrm (n:Nat)(d:4<=n)(l:List Ev):∀ (m k:Nat) (a:List (J3×Bool)),k<=l.length->l.length<=1000000->l.length<m+k->X7 a (l.take k).reverse ->
  Mr n l (some 0) m ((k:Int),a)=some (chk (l.take k).reverse (l.drop k))
 |0,k,_,h1,o,r,_=>by omega
 |m+1,k,a,h1,o,r,j=>by
  unfold Mr;simp only [aA,A5,Aj];by_cases h:k<l.length
  ·rw [if_pos (by omega),A9 h,Ae k (by omega)];rw [B1 l k h];conv=>rhs;unfold chk
   have i:X7 (mput a (idt l[k]) true) (l.take (k+1)).reverse:=by rw [Zl h];exact j.put _
   have f:=zrm n d l m (k+1) _ (by omega) o (by omega) i;rw [Zl h] at f;have b:=j (idt l[k]);simp only [zzv,A3,y76,Aw,y5z,y1p,b,y79 n d];by_cases g:Cl l[k]=true
   ·have c:¬Cl l[k]=false:=by rw [g];simp
    rw [if_pos g,if_neg c];by_cases e:0<k
    ·rw [if_pos (by omega),zkf e (by omega),A9 (by omega:k-1<l.length)];obtain ⟨t,p⟩:=zqs (l:=l) e h1
     try simp only [A3,decide_eq_true_eq]
     rw [p] at f ⊢;simp only [Sy,decide_eq_true_eq];grind
    ·have q:k=0:=by omega
     subst q;rw [if_neg (by omega)];simp only [take_zero,reverse_nil,any_nil,Sy,aQ,if_false] at f ⊢;rw [f]
   ·have c:Cl l[k]=false:=by simpa using g
    rw [if_neg g,if_pos c]
  ·rw [if_neg (by omega),aC (by omega)];rfl
theorem y36 (n:Nat)(l:List Ev)(c:l.length<n)(a:4<=n)(b:l.length<=1000000):S4 n l=some (Du l):=by
 unfold S4 Du;simp only [aA,A5];by_cases h:4096<l.length
 ·rw [if_pos (by omega),if_pos h]
 ·rw [if_neg (by omega),if_neg h];have:=zrm n a l n 0 [] (by omega) b (by omega) (fun k=>rfl);simpa using this
theorem zlj (n:Nat)(l:List Ev)(i:Nat)(hi:i<l.length)(K:Option Int):∀ (m k:Nat),k<=i->l.length<=1000000->i<m+k->Pr n l (i:Int) K m k=if ((l.take i).drop k).any (fun x=>decide (idt x=idt l[i])) then some 7 else K
 |0,k,h1,a,c=>by omega
 |m+1,k,h1,a,c=>by
  unfold Pr;simp only [A5];by_cases h:k<i
  ·rw [if_pos (by omega),A9 (by omega:k<l.length),A9 hi,Ae k (by omega),y1g,A3,A5];have b:k<(l.take i).length:=by rw [aF];omega
   rw [B1 (l.take i) k b,any_cons,aG,zlj n l i hi K m (k+1) (by omega) a (by omega)];grind
  ·rw [if_neg (by omega),aC (by rw [aF];omega)];simp
theorem zli (n:Nat)(l:List Ev)(i:Nat)(hi:i<l.length)(K:Option Int):∀ (m k:Nat),k<=i->l.length<=1000000->i<m+k->Pq n l (i:Int) K m k=if ((l.take i).drop k).any (fun x=>decide (idt x=idt l[i])) then some 7 else K
 |0,k,h1,a,c=>by omega
 |m+1,k,h1,a,c=>by
  unfold Pq;simp only [A5];by_cases h:k<i
  ·rw [if_pos (by omega),A9 (by omega:k<l.length),A9 hi,Ae k (by omega),y1g,A3,A5];have b:k<(l.take i).length:=by rw [aF];omega
   rw [B1 (l.take i) k b,any_cons,aG,zli n l i hi K m (k+1) (by omega) a (by omega)];grind
  grind
theorem zlk (n:Nat)(l:List Ev)(o:l.length<n):∀ (m k:Nat),k<=l.length->l.length<=1000000->l.length<m+k->Gm n l (some 0) m (k:Int)=some (chk (l.take k).reverse (l.drop k))
 |0,k,h1,i,q=>by omega
 |m+1,k,h1,i,q=>by
  unfold Gm;simp only [aA,A5,Aj];by_cases h:k<l.length
  ·rw [if_pos (by omega),A9 h,Ae k (by omega)];rw [B1 l k h];conv=>rhs;unfold chk
   have f:=zlk n l o m (k+1) (by omega) i (by omega);rw [Zl h] at f;simp only [zvp,A3,Aw];by_cases g:Cl l[k]=true
   ·have a:¬Cl l[k]=false:=by rw [g];simp
    rw [if_pos g,if_neg a];by_cases d:0<k
    ·rw [if_pos (by omega),zkf d (by omega),A9 (by omega:k-1<l.length)];obtain ⟨t,j⟩:=zqs (l:=l) d h1;simp only [A3,y2u];rw [A9 h];simp only [A3,zhu];have ec:rCmp ⟨l[k-1].fTime,l[k-1].fSource,l[k-1].fSeq⟩ ⟨l[k].fTime,l[k].fSource,l[k].fSeq⟩=Co l[k-1] l[k]:=rfl;rw [ec];have c:=zlj n l k h (Gm n l (some 0) m ((k+1:Nat):Int)) n 0 (by omega) i (by omega);simp only [aD,aJ] at c;rw [c,f];have e:(l.take k).any (fun x=>decide (idt x=idt l[k]))=(l.take k).reverse.any (fun x=>decide (idt x=idt l[k])):=by rw [any_reverse]
     rw [e,j];simp only [Sy,decide_eq_true_eq];grind
    ·have p:k=0:=by omega
     subst p;rw [if_neg (by omega)];have b:=zli n l 0 h (Gm n l (some 0) m ((0+1:Nat):Int)) n 0 (by omega) i (by omega);simp only [aD,aJ] at b;simp only [aD] at b ⊢;rw [b];simp only [take_zero,reverse_nil,any_nil,Sy,aQ,if_false] at f ⊢;rw [f]
   ·have a:Cl l[k]=false:=by simpa using g
    rw [if_neg g,if_pos a]
  ·rw [if_neg (by omega),aC (by omega)];rfl
theorem zw3 (n:Nat)(l:List Ev)(a:l.length<n)(b:l.length<=1000000):R0 n l=some (Du l):=by
 unfold R0 Du;simp only [aA,A5];by_cases h:4096<l.length
 ·rw [if_pos (by omega),if_pos h]
 ·rw [if_neg (by omega),if_neg h];have:=zlk n l a n 0 (by omega) b (by omega);simpa using this
end Go.Proofs.YtidhlpjgifoneaaGreat
