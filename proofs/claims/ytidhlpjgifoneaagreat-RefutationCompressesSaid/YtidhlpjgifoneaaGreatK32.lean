/- Layer 25. -/
import Derived.Test.YtidhlpjgifoneaaGreatK31
set_option linter.unusedVariables false
set_option linter.unusedSimpArgs false
namespace Go.Proofs.YtidhlpjgifoneaaGreat
open Go.RowKit List
open List renaming length_map->aA,take_succ_eq_append_getElem->aB,getElem_mem->aC,drop_eq_nil_of_le->aD,length_take->aF,getElem_take->aG,take_of_length_le->aH,drop_zero->aJ,getElem?_eq_getElem->aK,getLast_eq_getElem->aL,length_nil->aR,append_nil->aS,getElem_cons_zero->aT,getElem_set_self->aV
open Int renaming natCast_zero->aE
open Nat renaming lt_of_le_of_lt->aM,le_refl->aO,zero_le->aP
open Bool renaming and_eq_true->aN,false_eq_true->aQ,not_eq_true->aU,and_true->aX
theorem Xh {a:Type}{i len:Nat}(h:i<=len)(k:Nat->Option a):nle (i:Int) len k=k i:=by unfold nle;simp [h]
theorem y33 {c:Type}{a b:Nat}(h:a<=b)(x:Option c):gle a b x=x:=by unfold gle;simp [h]
theorem zz8 {α a:Type}{l:List α}{lo:Nat}(h:lo<=l.length)(z:α)(k:List α->Option a):clr l lo z k=k (clrL l lo z):=by unfold clr;simp [h]
theorem ztg {a:Type}(i:Nat)(x:Option a):frb i x=x:=by unfold frb;rfl
theorem zf2 {α:Type}(l:List α)(lo:Nat)(z:α)(h:lo<=l.length):(clrL l lo z).take lo=l.take lo:=by
 unfold clrL;simp_all
theorem zkh {α:Type}(l:List α)(lo:Nat)(z:α)(h:lo<=l.length):(clrL l lo z).length=l.length:=by
 unfold clrL;simp;omega
theorem Gc (k:Nat)(h:1<=k)(a:k<=1000000000000):IntKind.wrap .i64 ((k:Int)-1)=((k-1:Nat):Int):=by rw [Cq _ (by omega)];omega
theorem zin (n:Nat)(a b:Bh):Mh n a b=some (rCmp a b):=by
 unfold Mh rCmp or3 cmpI;simp only [A5,Ah];grind
theorem y1c (n:Nat)(a b:Bd):Up n a b=some (Df a b):=by
 unfold Up;rw [zin,A3];simp only [A5,Ah,Df,or2];have e:rCmp ⟨a.fRef.fTime,a.fRef.fSource,a.fRef.fSeq⟩ ⟨b.fRef.fTime,b.fRef.fSource,b.fRef.fSeq⟩=rCmp a.fRef b.fRef:=rfl;rw [e];unfold cmpI;grind
theorem zsb (n:Nat)(b a:Ma)(f:b.fBindings.length<=1000000000)(d:a.fBindings.length<=1000000000)(K:Option Int)(e:K=if a.fBindings.length<b.fBindings.length then some (-1) else if b.fBindings.length<a.fBindings.length then some 1 else some 0):∀ (m k:Nat),k<=a.fBindings.length->k<=b.fBindings.length->a.fBindings.length<m+k ->
  I4 n b a K m k=some (lexC Df (a.fBindings.drop k) (b.fBindings.drop k))
 |0,k,h1,_,g=>by omega
 |m+1,k,h1,i,g=>by
  unfold I4;simp only [Ay,Al,Kg,aA,A5,Ao,Ap,Ah];by_cases h:k<a.fBindings.length
  ·rw [if_pos (by omega)];by_cases c:k<b.fBindings.length
   ·rw [if_pos (by omega),A9 h,A9 c,B2 _ k h,B2 _ k c];rw [y1c,A3,Ad k (by omega),zsb n b a f d K e m (k+1) (by omega) (by omega) (by omega)];show _=some (or2 (Df _ _) _);unfold or2;split<;>rfl
   ·rw [if_neg (by omega),e,if_neg (by omega),if_pos (by omega),B2 _ k h,aD (by omega:b.fBindings.length<=k)];rfl
  ·rw [if_neg (by omega),e,aD (by omega:a.fBindings.length<=k)];by_cases c:a.fBindings.length<b.fBindings.length
   ·rw [if_pos c,B2 _ k (by omega:k<b.fBindings.length)];rfl
   ·rw [if_neg c,if_neg (by omega),aD (by omega)];rfl
theorem y43 (n:Nat)(a b:Ma)(e:a.fBindings.length<n)(d:b.fBindings.length<=1000000000)(c:a.fBindings.length<=1000000000):Lk n a b=some (Bi a b):=by
 unfold Lk;have:=zsb n b a d c _ rfl n 0 (by omega) (by omega) (by omega);simp only [aE,aJ] at this;rw [show Bi a b=lexC Df a.fBindings b.fBindings from rfl,<-this];congr 1;simp only [aA,A5];simp_all
theorem zse (n:Nat)(b a:Cf)(f:b.fStarts.length<=1000000000)(d:a.fStarts.length<=1000000000)(K:Option Int)(e:K=if a.fStarts.length<b.fStarts.length then some (-1) else if b.fStarts.length<a.fStarts.length then some 1 else some 0):∀ (m k:Nat),k<=a.fStarts.length->k<=b.fStarts.length->a.fStarts.length<m+k ->
  I2 n b a K m k=some (lexC Ec (a.fStarts.drop k) (b.fStarts.drop k))
 |0,k,h1,_,g=>by omega
 |m+1,k,h1,i,g=>by
  unfold I2;simp only [Ay,Al,Kf,I3,aA,A5,Ao,Ap,Ah];by_cases h:k<a.fStarts.length
  ·rw [if_pos (by omega)];by_cases c:k<b.fStarts.length
   ·rw [if_pos (by omega),A9 h,A9 c,B2 _ k h,B2 _ k c];rw [Ad k (by omega),zse n b a f d K e m (k+1) (by omega) (by omega) (by omega)];show _=some (or2 (Ec _ _) _);unfold Ec or2 cmpI;generalize a.fStarts[k]=x;generalize b.fStarts[k]=y;simp only [Aw,aX,aN,decide_eq_true_eq];grind
   ·rw [if_neg (by omega),e,if_neg (by omega),if_pos (by omega),B2 _ k h,aD (by omega:b.fStarts.length<=k)];rfl
  ·rw [if_neg (by omega),e,aD (by omega:a.fStarts.length<=k)];by_cases c:a.fStarts.length<b.fStarts.length
   ·rw [if_pos c,B2 _ k (by omega:k<b.fStarts.length)];rfl
   ·rw [if_neg c,if_neg (by omega),aD (by omega)];rfl
theorem y12 (n:Nat)(a b:Cf)(g:cfOk a=true)(f:cfOk b=true)(d:a.fBindings.length<n)(c:a.fStarts.length<n):Ih n a b=some (Bn a b):=by
 obtain ⟨k,j⟩:=(Dn a).1 g;obtain ⟨i,h⟩:=(Dn b).1 f;unfold Ih;rw [y43 n _ _ d i k,A3];have:=zse n b a h j _ rfl n 0 (by omega) (by omega) (by omega);simp only [aE,aJ] at this;simp only [aA,A5,Ah];have e:(if (a.fStarts.length:Int)<(b.fStarts.length:Int) then some (-1:Int) else if (b.fStarts.length:Int)<(a.fStarts.length:Int) then some 1 else some 0)=(if a.fStarts.length<b.fStarts.length then some (-1) else if b.fStarts.length<a.fStarts.length then some 1 else some 0):=by
  simp_all
 rw [e,this];show _=some (or3 (cmpI a.fState b.fState) (Bi ⟨a.fBindings⟩ ⟨b.fBindings⟩) _);unfold or3 cmpI;grind
theorem y6x (n:Nat)(a b:Cf)(d:cfOk a=true)(c:cfOk b=true)(i:1000000000<n):Se n a b=some (decide (a=b)):=by
 unfold Se;obtain ⟨h,g⟩:=(Dn a).1 d;obtain ⟨f,e⟩:=(Dn b).1 c;rw [y8w n a b (by omega) (by omega) (by omega) f h e g];rw [A3];congr 1;exact decide_eq_decide.2 (cfCmp_to.zero a b)
theorem zeb (n:Nat)(w:1000000000<n)(l:List Cf)(d:∀ x∈l,cfOk x=true)(D:l.length<=1000000000)(a:Nat)(C:1<=a)(K:Int->List Cf->Option (List Cf))(r:Option (List Cf))
  (y:∀ (i:Nat) (b:List Cf),b.length=l.length->i<=l.length->b.take i=dd l->K (i:Int) b=r) :
  ∀ (m k j:Nat) (b:List Cf),1<=j->k<=a+j-1->a+j<=l.length->l.length<m+j+a->b.length=l.length->b.take k=dd (l.take (a+j))->b.drop (a+j-1)=l.drop (a+j-1)->Lo n a K m ((k:Int),(j:Int),b)=r
 |0,k,j,b,F,h1,v,E,u,t,A=>by omega
 |m+1,k,j,b,F,h1,v,E,u,t,A=>by
  unfold Lo;simp only [aA];rw [y33 (by omega)];simp only [A5];by_cases h:a+j<l.length
  ·have G:∀ i (h1:a+j-1<=i) (v:i<l.length),∃ E:i<b.length,b[i]=l[i]:=fun i h1 v=>by
    refine ⟨by omega,?_⟩;have:=congrArg (fun q=>q[i-(a+j-1)]?) A;simp only [getElem?_drop,show a+j-1+(i-(a+j-1))=i by omega] at this;rw [aK (by omega),aK v] at this;exact Option.some.inj this
   obtain ⟨I,H⟩:=G (a+j) (by omega) h;obtain ⟨M,L⟩:=G (a+(j-1)) (by omega) (by omega);rw [if_pos (by omega),Ct (by omega),D7 I,Gc j F (by omega),Ct (by omega),D7 M,H,L];rw [y6x n _ _ (d _ (aC _)) (d _ (aC _)) w,A3,Ah,A5,Ad j (by omega)];have g:l.take (a+(j+1))=l.take (a+j)++[l[a+j]]:=by rw [show a+(j+1)=(a+j)+1 by omega,aB h]
   have f:l.take (a+j)≠[]:=by
    intro e;have:=congrArg length e;rw [aF,aR] at this;omega
   have c:(l.take (a+j)).getLast f=l[a+(j-1)]:=by
    rw [aL];simp only [aG];congr 1;simp only [aF];omega
   have p:b.drop (a+(j+1)-1)=l.drop (a+(j+1)-1):=by
    have:=congrArg List.tail A;simp only [tail_drop] at this;rw [show a+(j+1)-1=a+j-1+1 by omega];exact this
   by_cases s:l[a+j]=l[a+(j-1)]
   ·rw [if_pos s];refine zeb n w l d D a C K r y m k (j+1) b (by omega) (by omega) (by omega) (by omega) u ?_ p;rw [g,Jw _ _ f,c,if_pos s,aS,t]
   ·rw [if_neg s,Ct (by omega),D7 I,Ct (by omega),Jz (by omega),Ad k (by omega)];have o:∀ z:Cf,(b.set k z).take (k+1)=b.take k++[z]:=fun z=>by
     have J:k<b.length:=by omega
     rw [aB (by simpa using J),aV,take_set_of_le (aO _)]
    have B:b[a+j]=l[a+j]:=H;refine zeb n w l d D a C K r y m (k+1) (j+1) _ (by omega) (by omega) (by omega) (by omega) (by simpa using u) ?_ ?_
    ·rw [o,g,Jw _ _ f,c,if_neg s,t];exact congrArg (fun q=>dd (l.take (a+j))++[q]) B
    ·rw [drop_set_of_lt (by omega)];exact p
  ·rw [if_neg (by omega)];refine y k b u (by omega) ?_;rw [t,aH (by omega)]
theorem zmz (n:Nat)(t:1000000000<n)(l:List Cf)(f:∀ x∈l,cfOk x=true)(w:l.length<=1000000000)(u:1<=l.length):∀ (m k:Nat),1<=k->k<=l.length->l.length<m+k->dd (l.take k)=l.take k->Qs n l (some l) m (k:Int)=some (dd l)
 |0,k,v,h1,z,_=>by omega
 |m+1,k,v,h1,z,s=>by
  unfold Qs;simp only [aA,A5];by_cases h:k<l.length
  ·rw [if_pos (by omega),Ct h,D7 h,Gc k v (by omega),Ct (by omega),D7 (by omega)];rw [y6x n _ _ (f _ (aC _)) (f _ (aC _)) t,A3,A5,Ad k (by omega)];have q:l.take (k+1)=l.take k++[l[k]]:=aB h;have o:l.take k≠[]:=by
    intro e;have:=congrArg length e;rw [aF,aR] at this;omega
   have d:(l.take k).getLast o=l[k-1]:=by
    rw [aL];simp only [aG];congr 1;simp only [aF];omega
   by_cases r:l[k]=l[k-1]
   ·rw [if_pos r,Xh (by omega)];have:=zeb n t l f w k v (fun k2_1_0y0 k2_1_0y1=>nle k2_1_0y0 k2_1_0y1.length fun j =>
     clr k2_1_0y1 j (⟨0,[],[]⟩:A0) fun g =>
     sls g 0 k2_1_0y0 fun c=>some c) (some (dd l)) (fun i p B hi y=>by
      show nle (i:Int) p.length (fun j=>clr p j (⟨0,[],[]⟩:A0) fun g=>sls g 0 (i:Int) fun c=>some c)=some (dd l);rw [Xh (by omega),zz8 (by omega)];have:=Eb (l:=clrL p i (⟨0,[],[]⟩:A0)) (a:=0) (b:=i) (aP _) (by rw [zkh _ _ _ (by omega)];omega) (fun c=>some c);simp only [aE] at this;rw [this,aJ,zf2 _ _ _ (by omega),y]) n k 1 l (by omega) (by omega) (by omega) (by omega) rfl (by rw [q,Jw _ _ o,d,if_pos r,aS,s]) rfl
    have A:((1:Nat):Int)=1:=rfl;rw [A] at this;exact this
   ·rw [if_neg r];refine zmz n t l f w u m (k+1) (by omega) (by omega) (by omega) ?_;rw [q,Jw _ _ o,d,if_neg r,s]
  ·rw [if_neg (by omega)];rw [aH (by omega)] at s;rw [s]
theorem y71 (n:Nat)(b:1000000000<n)(l:List Cf)(a:∀ x∈l,cfOk x=true)(c:l.length<=1000000000):V0 n l=some (dd l):=by
 unfold V0;simp only [aA,A5];by_cases h:l.length<2
 ·rw [if_pos (by omega)]
  match l,h with
  |[],_=>rfl
  |[x],_=>rfl
 ·rw [if_neg (by omega)];refine zmz n b l a c (by omega) n 1 (by omega) (by omega) (by omega) ?_
  match l,h with
  |[],h=>exact absurd (by simp) h
  |[x],h=>exact absurd (by simp) h
  |x::y::q,_=>rfl
theorem zww (n:Nat)(e:1000000000<n)(l:List Cf)(a:∀ x∈l,cfOk x=true)(c:l.length<=1000000000):Sy n l=some (setL Bn l):=by
 unfold Sy;rw [zrs cfCmp_to n l a c];simp only [zf7,ztg,Al];have b:=Nt Bn l;rw [y71 n e _ (fun x d=>a x (b.mem_iff.1 d)) (by rw [b.length_eq];exact c),Cd,zyu cfCmp_to]
theorem zmm (n:Nat)(g:1000000000<n)(x:Cf)(f:cfOk x=true)(l:List Cf)(a:∀ x∈l,cfOk x=true)(j:l.length<=1000000)(K:Int->Option (List Cf))(r:Option (List Cf))
  (d:∀ i:Nat,i<=l.length->(∀ y∈l.take i,Bn y x<0)->(∀ h:i<l.length,¬Bn l[i] x<0)->K i=r):∀ (m k:Nat),k<=l.length->l.length<m+k->(∀ y∈l.take k,Bn y x<0)->Ir n x l K m (k:Int)=r
 |0,k,h1,o,_=>by omega
 |m+1,k,h1,o,e=>by
  unfold Ir;simp only [Ay,Al,Lw,aA,A5,Ap];by_cases h:k<l.length
  ·rw [if_pos (by omega),A9 h,y12 n _ x (a _ (aC h)) f (by have:=(Dn _).1 (a _ (aC h));omega) (by have:=(Dn _).1 (a _ (aC h));omega),A3];by_cases c:Bn l[k] x<0
   ·rw [if_pos c,Ad k (by omega)];refine zmm n g x f l a j K r d m (k+1) (by omega) (by omega) (fun y b=>?_);rw [aB h,mem_append,mem_singleton] at b;rcases b with b|b
    ·exact e y b
    ·rw [b];exact c
   ·rw [if_neg c];exact d k h1 e (fun _=>c)
  ·rw [if_neg (by omega)];exact d k h1 e (fun p=>absurd p h)
theorem zte (x:Cf):∀ (l:List Cf) (i:Nat),i<=l.length->(∀ y∈l.take i,Bn y x<0)->(∀ h:i<l.length,¬Bn l[i] x<0)->insU Bn x l=if ∃ h:i<l.length,Bn l[i] x=0 then l else l.take i++x::l.drop i
 |[],i,h1,_,_=>by
  have:i=0:=by simpa using h1
  subst this;simp [insU]
 |y::l,0,_,_,a=>by
  have:=a (by simp);simp only [aT] at this;unfold insU;rw [if_neg this];simp_all
 |y::l,i+1,h1,b,a=>by
  have d:=b y (by simp);unfold insU;rw [if_pos d,zte x l i (by simpa using h1) (fun z c=>b z (by simp [c])) (fun h=>by simp_all)];by_cases q:∃ h:i<l.length,Bn l[i] x=0;all_goals simp_all
theorem zxe (n:Nat)(r:1000000000<n)(x:Cf)(m:cfOk x=true)(l:List Cf)(c:∀ x∈l,cfOk x=true)(s:l.length<=1000000):Ms n l x=some (insU Bn x l):=by
 unfold Ms;refine zmm n r x m l c s _ _ (fun i hi h1 t=>?_) n 0 (by omega) (by omega) (by simp);rw [zte x l i hi h1 t];simp only [Ay,Al,Lx,aA,A5,Ap];have k:∀ z:Cf,z=x->(sls l 0 (i:Int) fun j=>app ([]:List Cf) j 56 fun g=>app g [z] 56 fun f=>sls l (i:Int) ((l.length:Nat):Int) fun e=>app f e 56 fun d=>some d)=some (l.take i++x::l.drop i):=fun z p=>by
  subst p;have o:=Eb (l:=l) (a:=0) (b:=i) (aP _) hi (fun j=>app ([]:List Cf) j 56 fun g=>app g [z] 56 fun f=>sls l (i:Int) ((l.length:Nat):Int) fun e=>app f e 56 fun d=>some d);simp only [aE] at o;rw [o,aJ,Bu (by simp;omega) (by omega),nil_append,Bu (by simp;omega) (by omega),Eb hi (aO _),Bu (by simp;omega) (by omega),take_length];simp
 by_cases h:i<l.length
 ·rw [if_pos (by omega),A9 h,y12 n _ x (c _ (aC h)) m (by have:=(Dn _).1 (c _ (aC h));omega) (by have:=(Dn _).1 (c _ (aC h));omega),A3];by_cases q:Bn l[i] x=0;all_goals simp_all
 grind
theorem zgx (n:Nat)(g:1000000000<n)(b a:List Cf)(c:∀ x∈a,cfOk x=true)(f:∀ x∈b,cfOk x=true)(i:a.length=b.length)(l:a.length<=1000000):∀ (m k:Nat),k<=a.length->a.length<m+k->Qn n b a (some true) m (k:Int)=some (decide (a.drop k=b.drop k))
 |0,k,h1,j=>by omega
 |m+1,k,h1,j=>by
  unfold Qn;simp only [aA,A5,Ah];by_cases h:k<a.length
  ·rw [if_pos (by omega),A9 h,A9 (by omega:k<b.length),y12 n _ _ (c _ (aC h)) (f _ (aC _)) (by have:=(Dn _).1 (c _ (aC h));omega) (by have:=(Dn _).1 (c _ (aC h));omega),A3,Ad k (by omega)];have e:(a.drop k=b.drop k) ↔ (a[k]=b[k]'(by omega)/\a.drop (k+1)=b.drop (k+1)):=by
    rw [B2 a k h,B2 b k (by omega),List.cons.injEq]
   by_cases d:a[k]=b[k]'(by omega)
   ·rw [if_pos ((cfCmp_to.zero _ _).2 d),zgx n g b a c f i l m (k+1) (by omega) (by omega)];simp_all
   ·rw [if_neg (fun q=>d ((cfCmp_to.zero _ _).1 q)),decide_eq_false (fun q=>d (e.1 q).1)]
  grind
theorem y41 (n:Nat)(c:1000000000<n)(a b:List Cf)(f:∀ x∈a,cfOk x=true)(d:∀ x∈b,cfOk x=true)(g:a.length<=1000000):Uw n a b=some (decide (a=b)):=by
 unfold Uw;simp only [aA,A5,Ah];by_cases h:a.length=b.length
 ·rw [if_pos (by omega)];have:=zgx n c b a f d h g n 0 (by omega) (by omega);simpa using this
 ·rw [if_neg (by omega)];have:a≠b:=fun e=>h (by rw [e])
  simp [this]
theorem ztc {x:Cf}(b:cfOk x=true){l:List Cf}(c:∀ y∈l,cfOk y=true):∀ y∈insU Bn x l,cfOk y=true:=fun y a=>by
 rcases (Xb cfCmp_to x y l).1 a with h|h
 all_goals simp_all
theorem y0q {s l:List Cf}(b:∀ y∈s,cfOk y=true)(c:∀ y∈l,cfOk y=true):∀ y∈puts Bn s l,cfOk y=true:=fun y a=>by
 rcases (Xa cfCmp_to y l s).1 a with h|h
 ·exact b y h
 ·exact c y h
theorem y6w (n:Nat)(a b:Ma)(c:maOk a=true)(e:maOk b=true)(d:1000000000<n):Sc n a b=some (decide (a=b)):=by
 unfold Sc;rw [f_ma n _ _ (by have:=(Ek _).1 c;exact aM this d) (by omega) ((Ek _).1 e) ((Ek _).1 c)];rw [A3];congr 1;exact decide_eq_decide.2 (El.zero a b)
theorem zea (n:Nat)(w:1000000000<n)(l:List Ma)(d:∀ x∈l,maOk x=true)(D:l.length<=1000000000)(a:Nat)(C:1<=a)(K:Int->List Ma->Option (List Ma))(r:Option (List Ma))
  (y:∀ (i:Nat) (b:List Ma),b.length=l.length->i<=l.length->b.take i=dd l->K (i:Int) b=r) :
  ∀ (m k j:Nat) (b:List Ma),1<=j->k<=a+j-1->a+j<=l.length->l.length<m+j+a->b.length=l.length->b.take k=dd (l.take (a+j))->b.drop (a+j-1)=l.drop (a+j-1)->K7 n a K m ((k:Int),(j:Int),b)=r
 |0,k,j,b,F,h1,v,E,u,t,A=>by omega
 |m+1,k,j,b,F,h1,v,E,u,t,A=>by
  unfold K7;simp only [aA];rw [y33 (by omega)];simp only [A5];by_cases h:a+j<l.length
  ·have G:∀ i (h1:a+j-1<=i) (v:i<l.length),∃ E:i<b.length,b[i]=l[i]:=fun i h1 v=>by
    refine ⟨by omega,?_⟩;have:=congrArg (fun q=>q[i-(a+j-1)]?) A;simp only [getElem?_drop,show a+j-1+(i-(a+j-1))=i by omega] at this;rw [aK (by omega),aK v] at this;exact Option.some.inj this
   obtain ⟨I,H⟩:=G (a+j) (by omega) h;obtain ⟨M,L⟩:=G (a+(j-1)) (by omega) (by omega);rw [if_pos (by omega),Ct (by omega),D7 I,Gc j F (by omega),Ct (by omega),D7 M,H,L];rw [y6w n _ _ (d _ (aC _)) (d _ (aC _)) w,A3,Ah,A5,Ad j (by omega)];have g:l.take (a+(j+1))=l.take (a+j)++[l[a+j]]:=by rw [show a+(j+1)=(a+j)+1 by omega,aB h]
   have f:l.take (a+j)≠[]:=by
    intro e;have:=congrArg length e;rw [aF,aR] at this;omega
   have c:(l.take (a+j)).getLast f=l[a+(j-1)]:=by
    rw [aL];simp only [aG];congr 1;simp only [aF];omega
   have p:b.drop (a+(j+1)-1)=l.drop (a+(j+1)-1):=by
    have:=congrArg List.tail A;simp only [tail_drop] at this;rw [show a+(j+1)-1=a+j-1+1 by omega];exact this
   by_cases s:l[a+j]=l[a+(j-1)]
   ·rw [if_pos s];refine zea n w l d D a C K r y m k (j+1) b (by omega) (by omega) (by omega) (by omega) u ?_ p;rw [g,Jw _ _ f,c,if_pos s,aS,t]
   ·rw [if_neg s,Ct (by omega),D7 I,Ct (by omega),Jz (by omega),Ad k (by omega)];have o:∀ z:Ma,(b.set k z).take (k+1)=b.take k++[z]:=fun z=>by
     have J:k<b.length:=by omega
     rw [aB (by simpa using J),aV,take_set_of_le (aO _)]
    have B:b[a+j]=l[a+j]:=H;refine zea n w l d D a C K r y m (k+1) (j+1) _ (by omega) (by omega) (by omega) (by omega) (by simpa using u) ?_ ?_
    ·rw [o,g,Jw _ _ f,c,if_neg s,t];exact congrArg (fun q=>dd (l.take (a+j))++[q]) B
    ·rw [drop_set_of_lt (by omega)];exact p
  ·rw [if_neg (by omega)];refine y k b u (by omega) ?_;rw [t,aH (by omega)]
theorem zmy (n:Nat)(t:1000000000<n)(l:List Ma)(f:∀ x∈l,maOk x=true)(w:l.length<=1000000000)(u:1<=l.length):∀ (m k:Nat),1<=k->k<=l.length->l.length<m+k->dd (l.take k)=l.take k->Ou n l (some l) m (k:Int)=some (dd l)
 |0,k,v,h1,z,_=>by omega
 |m+1,k,v,h1,z,s=>by
  unfold Ou;simp only [aA,A5];by_cases h:k<l.length
  ·rw [if_pos (by omega),Ct h,D7 h,Gc k v (by omega),Ct (by omega),D7 (by omega)];rw [y6w n _ _ (f _ (aC _)) (f _ (aC _)) t,A3,A5,Ad k (by omega)];have q:l.take (k+1)=l.take k++[l[k]]:=aB h;have o:l.take k≠[]:=by
    intro e;have:=congrArg length e;rw [aF,aR] at this;omega
   have d:(l.take k).getLast o=l[k-1]:=by
    rw [aL];simp only [aG];congr 1;simp only [aF];omega
   by_cases r:l[k]=l[k-1]
   ·rw [if_pos r,Xh (by omega)];have:=zea n t l f w k v (fun k2_1_0y0 k2_1_0y1=>nle k2_1_0y0 k2_1_0y1.length fun j =>
     clr k2_1_0y1 j (⟨[]⟩:Ac) fun g =>
     sls g 0 k2_1_0y0 fun c=>some c) (some (dd l)) (fun i p B hi y=>by
      show nle (i:Int) p.length (fun j=>clr p j (⟨[]⟩:Ac) fun g=>sls g 0 (i:Int) fun c=>some c)=some (dd l);rw [Xh (by omega),zz8 (by omega)];have:=Eb (l:=clrL p i (⟨[]⟩:Ac)) (a:=0) (b:=i) (aP _) (by rw [zkh _ _ _ (by omega)];omega) (fun c=>some c);simp only [aE] at this;rw [this,aJ,zf2 _ _ _ (by omega),y]) n k 1 l (by omega) (by omega) (by omega) (by omega) rfl (by rw [q,Jw _ _ o,d,if_pos r,aS,s]) rfl
    have A:((1:Nat):Int)=1:=rfl;rw [A] at this;exact this
   ·rw [if_neg r];refine zmy n t l f w u m (k+1) (by omega) (by omega) (by omega) ?_;rw [q,Jw _ _ o,d,if_neg r,s]
  ·rw [if_neg (by omega)];rw [aH (by omega)] at s;rw [s]
theorem y70 (n:Nat)(b:1000000000<n)(l:List Ma)(a:∀ x∈l,maOk x=true)(c:l.length<=1000000000):U4 n l=some (dd l):=by
 unfold U4;simp only [aA,A5];by_cases h:l.length<2
 ·rw [if_pos (by omega)]
  match l,h with
  |[],_=>rfl
  |[x],_=>rfl
 ·rw [if_neg (by omega)];refine zmy n b l a c (by omega) n 1 (by omega) (by omega) (by omega) ?_
  match l,h with
  |[],h=>exact absurd (by simp) h
  |[x],h=>exact absurd (by simp) h
  |x::y::q,_=>rfl
theorem y3z (n:Nat)(e:1000000000<n)(l:List Ma)(a:∀ x∈l,maOk x=true)(c:l.length<=1000000000):Sd n l=some (setL Bi l):=by
 unfold Sd;rw [zrs El n l a c];simp only [zf7,ztg,Al];have b:=Nt Bi l;rw [y70 n e _ (fun x d=>a x (b.mem_iff.1 d)) (by rw [b.length_eq];exact c),Cd,zyu El]
theorem zml (n:Nat)(g:1000000000<n)(x:Ma)(f:maOk x=true)(l:List Ma)(a:∀ x∈l,maOk x=true)(j:l.length<=1000000)(K:Int->Option (List Ma))(r:Option (List Ma))
  (d:∀ i:Nat,i<=l.length->(∀ y∈l.take i,Bi y x<0)->(∀ h:i<l.length,¬Bi l[i] x<0)->K i=r):∀ (m k:Nat),k<=l.length->l.length<m+k->(∀ y∈l.take k,Bi y x<0)->Iy n x l K m (k:Int)=r
 |0,k,h1,o,_=>by omega
 |m+1,k,h1,o,e=>by
  unfold Iy;simp only [Ay,Al,M3,aA,A5,Ap];by_cases h:k<l.length
  ·rw [if_pos (by omega),A9 h,y43 n _ _ (by have:=(Ek _).1 (a _ (aC h));exact aM this g) ((Ek _).1 f) ((Ek _).1 (a _ (aC h))),A3];by_cases c:Bi l[k] x<0
   ·rw [if_pos c,Ad k (by omega)];refine zml n g x f l a j K r d m (k+1) (by omega) (by omega) (fun y b=>?_);rw [aB h,mem_append,mem_singleton] at b;rcases b with b|b
    ·exact e y b
    ·rw [b];exact c
   ·rw [if_neg c];exact d k h1 e (fun _=>c)
  ·rw [if_neg (by omega)];exact d k h1 e (fun p=>absurd p h)
theorem ztd (x:Ma):∀ (l:List Ma) (i:Nat),i<=l.length->(∀ y∈l.take i,Bi y x<0)->(∀ h:i<l.length,¬Bi l[i] x<0)->insU Bi x l=if ∃ h:i<l.length,Bi l[i] x=0 then l else l.take i++x::l.drop i
 |[],i,h1,_,_=>by
  have:i=0:=by simpa using h1
  subst this;simp [insU]
 |y::l,0,_,_,a=>by
  have:=a (by simp);simp only [aT] at this;unfold insU;rw [if_neg this];simp_all
 |y::l,i+1,h1,b,a=>by
  have d:=b y (by simp);unfold insU;rw [if_pos d,ztd x l i (by simpa using h1) (fun z c=>b z (by simp [c])) (fun h=>by simp_all)];by_cases q:∃ h:i<l.length,Bi l[i] x=0;all_goals simp_all
theorem zxd (n:Nat)(o:1000000000<n)(x:Ma)(m:maOk x=true)(l:List Ma)(j:∀ x∈l,maOk x=true)(s:l.length<=1000000):Mv n l x=some (insU Bi x l):=by
 unfold Mv;refine zml n o x m l j s _ _ (fun i hi h1 t=>?_) n 0 (by omega) (by omega) (by simp);rw [ztd x l i hi h1 t];simp only [Ay,Al,M4,aA,A5,Ap];have k:∀ z:Ma,z=x->(sls l 0 (i:Int) fun g=>app ([]:List Ma) g 24 fun f=>app f [z] 24 fun e=>sls l (i:Int) ((l.length:Nat):Int) fun d=>app e d 24 fun c=>some c)=some (l.take i++x::l.drop i):=fun z r=>by
  subst r;have p:=Eb (l:=l) (a:=0) (b:=i) (aP _) hi (fun g=>app ([]:List Ma) g 24 fun f=>app f [z] 24 fun e=>sls l (i:Int) ((l.length:Nat):Int) fun d=>app e d 24 fun c=>some c);simp only [aE] at p;rw [p,aJ,Bu (by simp;omega) (by omega),nil_append,Bu (by simp;omega) (by omega),Eb hi (aO _),Bu (by simp;omega) (by omega),take_length];simp
 by_cases h:i<l.length
 ·rw [if_pos (by omega),A9 h,y43 n _ _ (by have:=(Ek _).1 (j _ (aC h));exact aM this o) ((Ek _).1 m) ((Ek _).1 (j _ (aC h))),A3];by_cases q:Bi l[i] x=0;all_goals simp_all
 grind
theorem zj8 {x:Ma}(b:maOk x=true){l:List Ma}(c:∀ y∈l,maOk y=true):∀ y∈insU Bi x l,maOk y=true:=fun y a=>by
 rcases (Xb El x y l).1 a with h|h
 all_goals simp_all
theorem zs2 {s l:List Ma}(b:∀ y∈s,maOk y=true)(c:∀ y∈l,maOk y=true):∀ y∈puts Bi s l,maOk y=true:=fun y a=>by
 rcases (Xa El y l s).1 a with h|h
 ·exact b y h
 ·exact c y h
theorem y6i (n:Nat)(b:1000000000<n)(l:List Cf)(a:∀ x∈l,cfOk x=true)(d:l.length<=100000):X2 n l=some (if 4096<(setL Bn l).length then ([],5) else (setL Bn l,0)):=by
 unfold X2;have c:Cc n l=some l:=by unfold Cc;exact if_pos (by omega)
 rw [c,Jo,zww n b l a (by omega)];simp only [Cd,A3,aA,A5];grind
theorem y3q {l:List Cf}(h:∀ x∈l,cfOk x=true):∀ x∈setL Bn l,cfOk x=true:=fun x a=>h x ((Dm cfCmp_to x l).1 a)
def Oc (c:Cf):Bool:=decide (c.fBindings.length<=12) && decide (c.fStarts.length<=12)
theorem zsl (n:Nat)(l:List Cf)(K:Option Bool):∀ (m k:Nat),k<=80->80<m+k->Iv n l K m (k:Int)=if ∀ x∈(l.take 80).drop k,Oc x=true then K else some false
 |0,k,h1,c=>by omega
 |m+1,k,h1,c=>by
  unfold Iv;simp only [Ay,Al,M0,Lz,aA,A5,Ap,Ao];by_cases h:k<l.length
  ·rw [if_pos (by omega)];by_cases e:k<80
   ·rw [if_pos (by omega),A9 h,Ad k (by omega),zsl n l K m (k+1) (by omega) (by omega)];have b:(l.take 80).drop k=l[k]::(l.take 80).drop (k+1):=by
     rw [B2 _ k (by simp;omega),aG]
    rw [b];simp only [forall_mem_cons];have a:Oc l[k]=true ↔ l[k].fBindings.length<=12/\l[k].fStarts.length<=12:=by simp [Oc]
    simp only [a];by_cases d:l[k].fBindings.length<=12
    ·rw [if_neg (by omega),A9 h];grind
    grind
   grind
  ·rw [if_neg (by omega),aD (by simp;omega)];simp
theorem y8m (n:Nat)(a:80<n)(l:List Cf):V7 n l=some (decide (l.length<=60/\∀ x∈l,Oc x=true)):=by
 unfold V7;have:=zsl n l (some (decide ((((List.map A4 (l)).length:Nat):Int)<=60))) n 0 (by omega) (by omega);simp only [aE,aJ] at this;rw [this];simp only [aA];by_cases h:l.length<=60
 ·rw [aH (by omega)];grind
 grind
def Cl (e:Ev):Bool:=decide (0<=e.fTime) && (decide (e.fTime<=1099511627776) && (decide (0<=e.fSource) && (decide (e.fSource<8) && (decide (0<=e.fSeq) && decide (e.fSeq<=1099511627776)))))
def idt (e:Ev):Jd:=⟨e.fSource,e.fSeq⟩
theorem y15 (n:Nat)(e:Ev):Wa n e=some (Cl e):=by
 unfold Wa Cl
 simp only [A5]
 repeat' split
 all_goals (simp_all<;>omega)
theorem zx1 (n:Nat)(e:Ev):Ui n e=some (Cl e):=by
 unfold Ui Cl
 simp only [A5]
 repeat' split
 all_goals (simp_all<;>omega)
theorem y8i (n:Nat)(e:Ev):Nr n e=some (idt e):=rfl
theorem y45 (n:Nat)(e:Ev):Mx n e=some ⟨e.fTime,e.fSource,e.fSeq⟩:=rfl
def Bo (e:Ev):Bh:=⟨e.fTime,e.fSource,e.fSeq⟩
def Co (a b:Ev):Int:=rCmp (Bo a) (Bo b)
theorem y8n (n:Nat)(e:4<=n)(a b:Ev):Wc n a b=some (Co a b):=by
 obtain ⟨m,rfl⟩:∃ m,n=m+4:=⟨n-4,by omega⟩;unfold Wc Wt;simp only [A3,Ok,y1y,aX,Aw,aN,decide_eq_true_eq];split
 ·rename_i h;obtain ⟨h1,d,c⟩:=h;simp [Co,rCmp,Bo,or3,cmpI,h1,d,c]
 ·rfl
theorem y2n (n:Nat)(a b:Ev):Ru n a b=some (decide (idt a=idt b)):=by
 unfold Ru;simp only [A5];split
 ·rename_i h;simp [idt,h]
 ·rename_i h;simp [idt,h]
def few1 (l:List Ab):Bool:=(l.take 40).all (fun v=>decide (v.fText.size<=128)) && decide (l.length<40)
theorem zmw (n:Nat)(l:List Ab)(K:Option Bool):∀ (m k:Nat),k<=l.length->k<=40->40<m+k->R7 n l K m k=if ((l.take 40).drop k).all (fun v=>decide (v.fText.size<=128)) then K else some false
 |0,k,h1,d,c=>by omega
 |m+1,k,h1,d,c=>by
  unfold R7;simp only [aA,A5];by_cases h:k<l.length
  ·rw [if_pos (by omega)];by_cases e:k<40
   ·rw [if_pos (by omega),A9 h,Ad k (by omega)];have a:k<(l.take 40).length:=by rw [aF];omega
    rw [B2 (l.take 40) k a,all_cons,aG];by_cases b:l[k].fText.size<=128
    ·rw [if_neg (by omega),zmw n l K m (k+1) (by omega) (by omega) (by omega)];simp [b]
    grind
   grind
  ·rw [if_neg (by omega),aD (by rw [aF];omega)];simp
theorem y6u (n:Nat)(l:List Ab)(a:41<=n):Vd n l=some (few1 l):=by
 unfold Vd few1;have:=zmw n l (some (decide ((((List.map Ag l).length:Nat):Int)<40))) n 0 (by omega) (by omega) (by omega);simp only [aE,aJ] at this;rw [this];simp only [aA];split
 ·rename_i h;rw [h];simp;omega
 ·rename_i h;simp only [aU] at h;rw [h];rfl
def fewE (l:List Ev):Bool:=(l.take 20).all (fun e=>decide (e.fValues.length<=12) && few1 e.fValues) && decide (l.length<=12)
theorem zmv (n:Nat)(l:List Ev)(K:Option Bool)(a:41<=n):∀ (m k:Nat),k<=l.length->k<=20->20<m+k->R6 n l K m k=if ((l.take 20).drop k).all (fun e=>decide (e.fValues.length<=12) && few1 e.fValues) then K else some false
 |0,k,h1,d,c=>by omega
 |m+1,k,h1,d,c=>by
  unfold R6;simp only [aA,A5,Ah];by_cases h:k<l.length
  ·rw [if_pos (by omega)];by_cases g:k<20
   ·rw [if_pos (by omega),A9 h,Ad k (by omega)];have b:k<(l.take 20).length:=by rw [aF];omega
    rw [B2 (l.take 20) k b,all_cons,aG];by_cases f:l[k].fValues.length<=12
    ·rw [if_neg (by omega),A9 h,y6u n _ a,A3,Aw,zmv n l K a m (k+1) (by omega) (by omega) (by omega)];grind
    grind
   grind
  ·rw [if_neg (by omega),aD (by rw [aF];omega)];simp
theorem y6t (n:Nat)(l:List Ev)(a:41<=n):Vc n l=some (fewE l):=by
 unfold Vc fewE;have:=zmv n l (some (decide ((((List.map A6 l).length:Nat):Int)<=12))) a n 0 (by omega) (by omega) (by omega);simp only [aE,aJ] at this;rw [this];simp only [aA];split
 ·rename_i h;rw [h];simp;omega
 ·rename_i h;simp only [aU] at h;rw [h];rfl
theorem y1w {l:List Ev}(h:fewE l=true):l.length<=12/\∀ e∈l,e.fValues.length<=12:=by
 unfold fewE at h;simp only [aN,decide_eq_true_eq,all_eq_true] at h;refine ⟨h.2,fun e a=>(h.1 e ?_).1⟩;rw [aH (by omega)];exact a
def Tj:List Ev->Ev->Bool |[],_=>false |x::_,e=>decide (0<=Co x e)
def chk:List Ev->List Ev->Int
 |_,[]=>0
 |p,e::r=>if Cl e=false then 2 else if Tj p e=true then 14 else if p.any (fun x=>decide (idt x=idt e)) then 7 else chk (e::p) r
def Dy (l:List Ev):Int:=if 4096<l.length then 5 else chk [] l
def Xp (m:List (Jd×Bool))(p:List Ev):Prop:=∀ k,(mlk m k).getD false=p.any (fun x=>decide (idt x=k))
theorem zta {b d:Type}[DecidableEq b](l:List (b×d))(k:b)(v:d)(c:b):mlk (mput l k v) c=if c=k then some v else mlk l c:=by
 induction l with
 |nil=>simp [mput,mlk]
 |cons a r ih =>
  obtain ⟨a,x⟩:=a;simp only [mput];by_cases h:k=a
  ·subst h;rw [if_pos rfl];simp only [mlk];simp_all
  ·rw [if_neg h];simp only [mlk,ih];grind
theorem Xp.put {m:List (Jd×Bool)}{p:List Ev}(h:Xp m p)(e:Ev):Xp (mput m (idt e) true) (e::p):=fun k=>by
 rw [zta,any_cons];by_cases a:k=idt e
 ·subst a;simp
 ·rw [if_neg a,h k];grind
theorem zcr {l:List Ev}{k:Nat}(h:k<l.length):(l.take (k+1)).reverse=l[k]::(l.take k).reverse:=by
 simp_all
theorem zrv {l:List Ev}{k:Nat}(a:0<k)(h:k<=l.length):∃ t,(l.take k).reverse=l[k-1]::t:=by
 obtain ⟨j,rfl⟩:∃ j,k=j+1:=⟨k-1,by omega⟩;exact ⟨_,by rw [zcr (by omega)];rfl⟩
theorem zld {k:Nat}(a:0<k)(h:k<=1000000):IntKind.wrap .i64 ((k:Int)-1)=((k-1:Nat):Int):=by rw [Cq _ (by omega)];omega
theorem y7a {b a d:Type}[DecidableEq b](l:List (b×a))(k:b)(z:a)(c:a->Bool->Option d):mgt l k z c=c ((mlk l k).getD z) (mlk l k).isSome:=by unfold mgt;rfl
theorem y2x {a b d:Type}[DecidableEq a](l:List (a×b))(k:a)(v:b)(c:List (a×b)->Option d):mst l k v c=c (mput l k v):=by unfold mst;rfl
theorem zsv (n:Nat)(d:4<=n)(l:List Ev):∀ (m k:Nat) (a:List (Jd×Bool)),k<=l.length->l.length<=1000000->l.length<m+k->Xp a (l.take k).reverse ->
  N3 n l (some 0) m ((k:Int),a)=some (chk (l.take k).reverse (l.drop k))
 |0,k,_,h1,o,r,_=>by omega
 |m+1,k,a,h1,o,r,j=>by
  unfold N3;simp only [aA,A5,Ah];by_cases h:k<l.length
  ·rw [if_pos (by omega),A9 h,Ad k (by omega)];rw [B2 l k h];conv=>rhs;unfold chk
   have i:Xp (mput a (idt l[k]) true) (l.take (k+1)).reverse:=by rw [zcr h];exact j.put _
   have f:=zsv n d l m (k+1) _ (by omega) o (by omega) i;rw [zcr h] at f;have b:=j (idt l[k]);simp only [y15,A3,y8i,Aw,y7a,y2x,b,y8n n d];by_cases g:Cl l[k]=true
   ·have c:¬Cl l[k]=false:=by rw [g];simp
    rw [if_pos g,if_neg c];by_cases e:0<k
    ·rw [if_pos (by omega),zld e (by omega),A9 (by omega:k-1<l.length)];obtain ⟨t,p⟩:=zrv (l:=l) e h1
     try simp only [A3,decide_eq_true_eq]
     rw [p] at f ⊢;simp only [Tj,decide_eq_true_eq];grind
    ·have q:k=0:=by omega
     subst q;rw [if_neg (by omega)];simp only [take_zero,reverse_nil,any_nil,Tj,aQ,if_false] at f ⊢;rw [f]
   ·have c:Cl l[k]=false:=by simpa using g
    rw [if_neg g,if_pos c]
  ·rw [if_neg (by omega),aD (by omega)];rfl
theorem y4h (n:Nat)(l:List Ev)(c:l.length<n)(a:4<=n)(b:l.length<=1000000):Sq n l=some (Dy l):=by
 unfold Sq Dy;simp only [aA,A5];by_cases h:4096<l.length
 ·rw [if_pos (by omega),if_pos h]
 ·rw [if_neg (by omega),if_neg h];have:=zsv n a l n 0 [] (by omega) b (by omega) (fun k=>rfl);simpa using this
theorem zmj (n:Nat)(l:List Ev)(i:Nat)(hi:i<l.length)(K:Option Int):∀ (m k:Nat),k<=i->l.length<=1000000->i<m+k->Q6 n l (i:Int) K m k=if ((l.take i).drop k).any (fun x=>decide (idt x=idt l[i])) then some 7 else K
 |0,k,h1,a,c=>by omega
 |m+1,k,h1,a,c=>by
  unfold Q6;simp only [A5];by_cases h:k<i
  ·rw [if_pos (by omega),A9 (by omega:k<l.length),A9 hi,Ad k (by omega),y2n,A3,A5];have b:k<(l.take i).length:=by rw [aF];omega
   rw [B2 (l.take i) k b,any_cons,aG,zmj n l i hi K m (k+1) (by omega) a (by omega)];grind
  ·rw [if_neg (by omega),aD (by rw [aF];omega)];simp
theorem zmi (n:Nat)(l:List Ev)(i:Nat)(hi:i<l.length)(K:Option Int):∀ (m k:Nat),k<=i->l.length<=1000000->i<m+k->Q5 n l (i:Int) K m k=if ((l.take i).drop k).any (fun x=>decide (idt x=idt l[i])) then some 7 else K
 |0,k,h1,a,c=>by omega
 |m+1,k,h1,a,c=>by
  unfold Q5;simp only [A5];by_cases h:k<i
  ·rw [if_pos (by omega),A9 (by omega:k<l.length),A9 hi,Ad k (by omega),y2n,A3,A5];have b:k<(l.take i).length:=by rw [aF];omega
   rw [B2 (l.take i) k b,any_cons,aG,zmi n l i hi K m (k+1) (by omega) a (by omega)];grind
  grind
theorem zmk (n:Nat)(l:List Ev)(o:l.length<n):∀ (m k:Nat),k<=l.length->l.length<=1000000->l.length<m+k->Gs n l (some 0) m (k:Int)=some (chk (l.take k).reverse (l.drop k))
 |0,k,h1,i,q=>by omega
 |m+1,k,h1,i,q=>by
  unfold Gs;simp only [aA,A5,Ah];by_cases h:k<l.length
  ·rw [if_pos (by omega),A9 h,Ad k (by omega)];rw [B2 l k h];conv=>rhs;unfold chk
   have f:=zmk n l o m (k+1) (by omega) i (by omega);rw [zcr h] at f;simp only [zx1,A3,Aw];by_cases g:Cl l[k]=true
   ·have a:¬Cl l[k]=false:=by rw [g];simp
    rw [if_pos g,if_neg a];by_cases d:0<k
    ·rw [if_pos (by omega),zld d (by omega),A9 (by omega:k-1<l.length)];obtain ⟨t,j⟩:=zrv (l:=l) d h1;simp only [A3,y45];rw [A9 h];simp only [A3,zin];have ec:rCmp ⟨l[k-1].fTime,l[k-1].fSource,l[k-1].fSeq⟩ ⟨l[k].fTime,l[k].fSource,l[k].fSeq⟩=Co l[k-1] l[k]:=rfl;rw [ec];have c:=zmj n l k h (Gs n l (some 0) m ((k+1:Nat):Int)) n 0 (by omega) i (by omega);simp only [aE,aJ] at c;rw [c,f];have e:(l.take k).any (fun x=>decide (idt x=idt l[k]))=(l.take k).reverse.any (fun x=>decide (idt x=idt l[k])):=by rw [any_reverse]
     rw [e,j];simp only [Tj,decide_eq_true_eq];grind
    ·have p:k=0:=by omega
     subst p;rw [if_neg (by omega)];have b:=zmi n l 0 h (Gs n l (some 0) m ((0+1:Nat):Int)) n 0 (by omega) i (by omega);simp only [aE,aJ] at b;simp only [aE] at b ⊢;rw [b];simp only [take_zero,reverse_nil,any_nil,Tj,aQ,if_false] at f ⊢;rw [f]
   ·have a:Cl l[k]=false:=by simpa using g
    rw [if_neg g,if_pos a]
  ·rw [if_neg (by omega),aD (by omega)];rfl
theorem zxc (n:Nat)(l:List Ev)(a:l.length<n)(b:l.length<=1000000):Rj n l=some (Dy l):=by
 unfold Rj Dy;simp only [aA,A5];by_cases h:4096<l.length
 ·rw [if_pos (by omega),if_pos h]
 ·rw [if_neg (by omega),if_neg h];have:=zmk n l a n 0 (by omega) b (by omega);simpa using this
end Go.Proofs.YtidhlpjgifoneaaGreat
