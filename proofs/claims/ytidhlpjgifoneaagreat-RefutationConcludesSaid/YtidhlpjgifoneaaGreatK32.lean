/- Layer 25. -/
import Derived.Test.YtidhlpjgifoneaaGreatK31
set_option linter.unusedVariables false
set_option linter.unusedSimpArgs false
namespace Go.Proofs.YtidhlpjgifoneaaGreat
open Go.RowKit List
theorem Wg {a:Type}{i len:Nat}(h:i<=len)(k:Nat->Option a):nle (i:Int) len k=k i:=by unfold nle;simp [h]
theorem y0e {c:Type}{a b:Nat}(h:a<=b)(x:Option c):gle a b x=x:=by unfold gle;simp [h]
theorem zwm {α a:Type}{l:List α}{lo:Nat}(h:lo<=l.length)(z:α)(k:List α->Option a):clr l lo z k=k (clrL l lo z):=by unfold clr;simp [h]
theorem Sj {a:Type}(i:Nat)(x:Option a):frb i x=x:=by unfold frb;rfl
theorem ze4 {α:Type}(l:List α)(lo:Nat)(z:α)(h:lo<=l.length):(clrL l lo z).take lo=l.take lo:=by
 unfold clrL;simp_all
theorem zix {α:Type}(l:List α)(lo:Nat)(z:α)(h:lo<=l.length):(clrL l lo z).length=l.length:=by
 unfold clrL;simp;omega
theorem So (k:Nat)(h:1<=k)(a:k<=1000000000000):IntKind.wrap .i64 ((k:Int)-1)=((k-1:Nat):Int):=by rw [Cy _ (by omega)];omega
theorem zqc (n:Nat)(a b:Bg):Qi n a b=some (rCmp a b):=by
 unfold Qi rCmp or3 cmpI;simp only [A5,Al];grind
theorem zyo (n:Nat)(a b:Bd):Tx n a b=some (Dg a b):=by
 unfold Tx;rw [zqc,A3];simp only [A5,Al,Dg,or2];have e:rCmp ⟨a.fRef.fTime,a.fRef.fSource,a.fRef.fSeq⟩ ⟨b.fRef.fTime,b.fRef.fSource,b.fRef.fSeq⟩=rCmp a.fRef b.fRef:=rfl;rw [e];unfold cmpI;grind
theorem zqe (n:Nat)(b a:Ma)(f:b.fBindings.length<=1000000000)(d:a.fBindings.length<=1000000000)(K:Option Int)(e:K=if a.fBindings.length<b.fBindings.length then some (-1) else if b.fBindings.length<a.fBindings.length then some 1 else some 0):∀ (m k:Nat),k<=a.fBindings.length->k<=b.fBindings.length->a.fBindings.length<m+k ->
  Hu n b a K m k=some (lexC Dg (a.fBindings.drop k) (b.fBindings.drop k))
 |0,k,h1,_,g=>by omega
 |m+1,k,h1,i,g=>by
  unfold Hu;simp only [B3,Am,Js,length_map,A5,Av,Az,Al];by_cases h:k<a.fBindings.length
  ·rw [if_pos (by omega)];by_cases c:k<b.fBindings.length
   ·rw [if_pos (by omega),Ac h,Ac c,B0 _ k h,B0 _ k c];rw [zyo,A3,Ag k (by omega),zqe n b a f d K e m (k+1) (by omega) (by omega) (by omega)];show _=some (or2 (Dg _ _) _);unfold or2;split<;>rfl
   ·rw [if_neg (by omega),e,if_neg (by omega),if_pos (by omega),B0 _ k h,drop_eq_nil_of_le (by omega:b.fBindings.length<=k)];rfl
  ·rw [if_neg (by omega),e,drop_eq_nil_of_le (by omega:a.fBindings.length<=k)];by_cases c:a.fBindings.length<b.fBindings.length
   ·rw [if_pos c,B0 _ k (by omega:k<b.fBindings.length)];rfl
   ·rw [if_neg c,if_neg (by omega),drop_eq_nil_of_le (by omega)];rfl
theorem Sr (n:Nat)(a b:Ma)(e:a.fBindings.length<n)(d:b.fBindings.length<=1000000000)(c:a.fBindings.length<=1000000000):Fu n a b=some (B1 a b):=by
 unfold Fu;have:=zqe n b a d c _ rfl n 0 (by omega) (by omega) (by omega);simp only [Int.natCast_zero,drop_zero] at this;rw [show B1 a b=lexC Dg a.fBindings b.fBindings from rfl,<-this];congr 1;simp only [length_map,A5];simp_all
theorem zqh (n:Nat)(b a:Cf)(f:b.fStarts.length<=1000000000)(d:a.fStarts.length<=1000000000)(K:Option Int)(e:K=if a.fStarts.length<b.fStarts.length then some (-1) else if b.fStarts.length<a.fStarts.length then some 1 else some 0):∀ (m k:Nat),k<=a.fStarts.length->k<=b.fStarts.length->a.fStarts.length<m+k ->
  Hs n b a K m k=some (lexC Ea (a.fStarts.drop k) (b.fStarts.drop k))
 |0,k,h1,_,g=>by omega
 |m+1,k,h1,i,g=>by
  unfold Hs;simp only [B3,Am,Jr,Ht,length_map,A5,Av,Az,Al];by_cases h:k<a.fStarts.length
  ·rw [if_pos (by omega)];by_cases c:k<b.fStarts.length
   ·rw [if_pos (by omega),Ac h,Ac c,B0 _ k h,B0 _ k c];rw [Ag k (by omega),zqh n b a f d K e m (k+1) (by omega) (by omega) (by omega)];show _=some (or2 (Ea _ _) _);unfold Ea or2 cmpI;generalize a.fStarts[k]=x;generalize b.fStarts[k]=y;simp only [Au,Bool.and_true,Bool.and_eq_true,decide_eq_true_eq];grind
   ·rw [if_neg (by omega),e,if_neg (by omega),if_pos (by omega),B0 _ k h,drop_eq_nil_of_le (by omega:b.fStarts.length<=k)];rfl
  ·rw [if_neg (by omega),e,drop_eq_nil_of_le (by omega:a.fStarts.length<=k)];by_cases c:a.fStarts.length<b.fStarts.length
   ·rw [if_pos c,B0 _ k (by omega:k<b.fStarts.length)];rfl
   ·rw [if_neg c,if_neg (by omega),drop_eq_nil_of_le (by omega)];rfl
theorem y1k (n:Nat)(a b:Cf)(g:cfOk a=true)(f:cfOk b=true)(d:a.fBindings.length<n)(c:a.fStarts.length<n):Km n a b=some (Bn a b):=by
 obtain ⟨k,j⟩:=(E8 a).1 g;obtain ⟨i,h⟩:=(E8 b).1 f;unfold Km;rw [Sr n _ _ d i k,A3];have:=zqh n b a h j _ rfl n 0 (by omega) (by omega) (by omega);simp only [Int.natCast_zero,drop_zero] at this;simp only [length_map,A5,Al];have e:(if (a.fStarts.length:Int)<(b.fStarts.length:Int) then some (-1:Int) else if (b.fStarts.length:Int)<(a.fStarts.length:Int) then some 1 else some 0)=(if a.fStarts.length<b.fStarts.length then some (-1) else if b.fStarts.length<a.fStarts.length then some 1 else some 0):=by
  simp_all
 rw [e,this];show _=some (or3 (cmpI a.fState b.fState) (B1 ⟨a.fBindings⟩ ⟨b.fBindings⟩) _);unfold or3 cmpI;grind
theorem y49 (n:Nat)(a b:Cf)(d:cfOk a=true)(c:cfOk b=true)(i:1000000000<n):Rb n a b=some (decide (a=b)):=by
 unfold Rb;obtain ⟨h,g⟩:=(E8 a).1 d;obtain ⟨f,e⟩:=(E8 b).1 c;rw [y68 n a b (by omega) (by omega) (by omega) f h e g];rw [A3];congr 1;exact decide_eq_decide.2 (Ds.zero a b)
theorem zdc (n:Nat)(w:1000000000<n)(l:List Cf)(d:∀ x∈l,cfOk x=true)(D:l.length<=1000000000)(a:Nat)(C:1<=a)(K:Int->List Cf->Option (List Cf))(r:Option (List Cf))
  (y:∀ (i:Nat) (b:List Cf),b.length=l.length->i<=l.length->b.take i=dd l->K (i:Int) b=r) :
  ∀ (m k j:Nat) (b:List Cf),1<=j->k<=a+j-1->a+j<=l.length->l.length<m+j+a->b.length=l.length->b.take k=dd (l.take (a+j))->b.drop (a+j-1)=l.drop (a+j-1)->Ku n a K m ((k:Int),(j:Int),b)=r
 |0,k,j,b,F,h1,v,E,u,t,A=>by omega
 |m+1,k,j,b,F,h1,v,E,u,t,A=>by
  unfold Ku;simp only [length_map];rw [y0e (by omega)];simp only [A5];by_cases h:a+j<l.length
  ·have G:∀ i (h1:a+j-1<=i) (v:i<l.length),∃ E:i<b.length,b[i]=l[i]:=fun i h1 v=>by
    refine ⟨by omega,?_⟩;have:=congrArg (fun q=>q[i-(a+j-1)]?) A;simp only [getElem?_drop,show a+j-1+(i-(a+j-1))=i by omega] at this;rw [getElem?_eq_getElem (by omega),getElem?_eq_getElem v] at this;exact Option.some.inj this
   obtain ⟨I,H⟩:=G (a+j) (by omega) h;obtain ⟨M,L⟩:=G (a+(j-1)) (by omega) (by omega);rw [if_pos (by omega),Co (by omega),Cz I,So j F (by omega),Co (by omega),Cz M,H,L];rw [y49 n _ _ (d _ (getElem_mem _)) (d _ (getElem_mem _)) w,A3,Al,A5,Ag j (by omega)];have g:l.take (a+(j+1))=l.take (a+j)++[l[a+j]]:=by rw [show a+(j+1)=(a+j)+1 by omega,take_succ_eq_append_getElem h]
   have f:l.take (a+j)≠[]:=by
    intro e;have:=congrArg length e;rw [length_take,length_nil] at this;omega
   have c:(l.take (a+j)).getLast f=l[a+(j-1)]:=by
    rw [getLast_eq_getElem];simp only [getElem_take];congr 1;simp only [length_take];omega
   have p:b.drop (a+(j+1)-1)=l.drop (a+(j+1)-1):=by
    have:=congrArg List.tail A;simp only [tail_drop] at this;rw [show a+(j+1)-1=a+j-1+1 by omega];exact this
   by_cases s:l[a+j]=l[a+(j-1)]
   ·rw [if_pos s];refine zdc n w l d D a C K r y m k (j+1) b (by omega) (by omega) (by omega) (by omega) u ?_ p;rw [g,Ja _ _ f,c,if_pos s,append_nil,t]
   ·rw [if_neg s,Co (by omega),Cz I,Co (by omega),Jd (by omega),Ag k (by omega)];have o:∀ z:Cf,(b.set k z).take (k+1)=b.take k++[z]:=fun z=>by
     have J:k<b.length:=by omega
     rw [take_succ_eq_append_getElem (by simpa using J),getElem_set_self,take_set_of_le (Nat.le_refl _)]
    have B:b[a+j]=l[a+j]:=H;refine zdc n w l d D a C K r y m (k+1) (j+1) _ (by omega) (by omega) (by omega) (by omega) (by simpa using u) ?_ ?_
    ·rw [o,g,Ja _ _ f,c,if_neg s,t];exact congrArg (fun q=>dd (l.take (a+j))++[q]) B
    ·rw [drop_set_of_lt (by omega)];exact p
  ·rw [if_neg (by omega)];refine y k b u (by omega) ?_;rw [t,take_of_length_le (by omega)]
theorem zla (n:Nat)(t:1000000000<n)(l:List Cf)(f:∀ x∈l,cfOk x=true)(w:l.length<=1000000000)(u:1<=l.length):∀ (m k:Nat),1<=k->k<=l.length->l.length<m+k->dd (l.take k)=l.take k->Pu n l (some l) m (k:Int)=some (dd l)
 |0,k,v,h1,z,_=>by omega
 |m+1,k,v,h1,z,s=>by
  unfold Pu;simp only [length_map,A5];by_cases h:k<l.length
  ·rw [if_pos (by omega),Co h,Cz h,So k v (by omega),Co (by omega),Cz (by omega)];rw [y49 n _ _ (f _ (getElem_mem _)) (f _ (getElem_mem _)) t,A3,A5,Ag k (by omega)];have q:l.take (k+1)=l.take k++[l[k]]:=take_succ_eq_append_getElem h;have o:l.take k≠[]:=by
    intro e;have:=congrArg length e;rw [length_take,length_nil] at this;omega
   have d:(l.take k).getLast o=l[k-1]:=by
    rw [getLast_eq_getElem];simp only [getElem_take];congr 1;simp only [length_take];omega
   by_cases r:l[k]=l[k-1]
   ·rw [if_pos r,Wg (by omega)];have:=zdc n t l f w k v (fun k2_1_0y0 k2_1_0y1=>nle k2_1_0y0 k2_1_0y1.length fun j =>
     clr k2_1_0y1 j (⟨0,[],[]⟩:A0) fun g =>
     sls g 0 k2_1_0y0 fun c=>some c) (some (dd l)) (fun i p B hi y=>by
      show nle (i:Int) p.length (fun j=>clr p j (⟨0,[],[]⟩:A0) fun g=>sls g 0 (i:Int) fun c=>some c)=some (dd l);rw [Wg (by omega),zwm (by omega)];have:=Fe (l:=clrL p i (⟨0,[],[]⟩:A0)) (a:=0) (b:=i) (Nat.zero_le _) (by rw [zix _ _ _ (by omega)];omega) (fun c=>some c);simp only [Int.natCast_zero] at this;rw [this,drop_zero,ze4 _ _ _ (by omega),y]) n k 1 l (by omega) (by omega) (by omega) (by omega) rfl (by rw [q,Ja _ _ o,d,if_pos r,append_nil,s]) rfl
    have A:((1:Nat):Int)=1:=rfl;rw [A] at this;exact this
   ·rw [if_neg r];refine zla n t l f w u m (k+1) (by omega) (by omega) (by omega) ?_;rw [q,Ja _ _ o,d,if_neg r,s]
  ·rw [if_neg (by omega)];rw [take_of_length_le (by omega)] at s;rw [s]
theorem y4c (n:Nat)(b:1000000000<n)(l:List Cf)(a:∀ x∈l,cfOk x=true)(c:l.length<=1000000000):U8 n l=some (dd l):=by
 unfold U8;simp only [length_map,A5];by_cases h:l.length<2
 ·rw [if_pos (by omega)]
  match l,h with
  |[],_=>rfl
  |[x],_=>rfl
 ·rw [if_neg (by omega)];refine zla n b l a c (by omega) n 1 (by omega) (by omega) (by omega) ?_
  match l,h with
  |[],h=>exact absurd (by simp) h
  |[x],h=>exact absurd (by simp) h
  |x::y::q,_=>rfl
theorem y1b (n:Nat)(e:1000000000<n)(l:List Cf)(a:∀ x∈l,cfOk x=true)(c:l.length<=1000000000):Ru n l=some (setL Bn l):=by
 unfold Ru;rw [zq0 Ds n l a c];simp only [ze9,Sj,Am];have b:=Mz Bn l;rw [y4c n e _ (fun x d=>a x (b.mem_iff.1 d)) (by rw [b.length_eq];exact c),Cb,zwc Ds]
theorem zkx (n:Nat)(g:1000000000<n)(x:Cf)(f:cfOk x=true)(l:List Cf)(a:∀ x∈l,cfOk x=true)(j:l.length<=1000000)(K:Int->Option (List Cf))(r:Option (List Cf))
  (d:∀ i:Nat,i<=l.length->(∀ y∈l.take i,Bn y x<0)->(∀ h:i<l.length,¬Bn l[i] x<0)->K i=r):∀ (m k:Nat),k<=l.length->l.length<m+k->(∀ y∈l.take k,Bn y x<0)->Ic n x l K m (k:Int)=r
 |0,k,h1,o,_=>by omega
 |m+1,k,h1,o,e=>by
  unfold Ic;simp only [B3,Am,L5,length_map,A5,Az];by_cases h:k<l.length
  ·rw [if_pos (by omega),Ac h,y1k n _ x (a _ (getElem_mem h)) f (by have:=(E8 _).1 (a _ (getElem_mem h));omega) (by have:=(E8 _).1 (a _ (getElem_mem h));omega),A3];by_cases c:Bn l[k] x<0
   ·rw [if_pos c,Ag k (by omega)];refine zkx n g x f l a j K r d m (k+1) (by omega) (by omega) (fun y b=>?_);rw [take_succ_eq_append_getElem h,mem_append,mem_singleton] at b;rcases b with b|b
    ·exact e y b
    ·rw [b];exact c
   ·rw [if_neg c];exact d k h1 e (fun _=>c)
  ·rw [if_neg (by omega)];exact d k h1 e (fun p=>absurd p h)
theorem zra (x:Cf):∀ (l:List Cf) (i:Nat),i<=l.length->(∀ y∈l.take i,Bn y x<0)->(∀ h:i<l.length,¬Bn l[i] x<0)->insU Bn x l=if ∃ h:i<l.length,Bn l[i] x=0 then l else l.take i++x::l.drop i
 |[],i,h1,_,_=>by
  have:i=0:=by simpa using h1
  subst this;simp [insU]
 |y::l,0,_,_,a=>by
  have:=a (by simp);simp only [getElem_cons_zero] at this;unfold insU;rw [if_neg this];simp_all
 |y::l,i+1,h1,b,a=>by
  have d:=b y (by simp);unfold insU;rw [if_pos d,zra x l i (by simpa using h1) (fun z c=>b z (by simp [c])) (fun h=>by simp_all)];by_cases q:∃ h:i<l.length,Bn l[i] x=0;all_goals simp_all
theorem zus (n:Nat)(r:1000000000<n)(x:Cf)(m:cfOk x=true)(l:List Cf)(c:∀ x∈l,cfOk x=true)(s:l.length<=1000000):Lz n l x=some (insU Bn x l):=by
 unfold Lz;refine zkx n r x m l c s _ _ (fun i hi h1 t=>?_) n 0 (by omega) (by omega) (by simp);rw [zra x l i hi h1 t];simp only [B3,Am,L6,length_map,A5,Az];have k:∀ z:Cf,z=x->(sls l 0 (i:Int) fun j=>app ([]:List Cf) j 56 fun g=>app g [z] 56 fun f=>sls l (i:Int) ((l.length:Nat):Int) fun e=>app f e 56 fun d=>some d)=some (l.take i++x::l.drop i):=fun z p=>by
  subst p;have o:=Fe (l:=l) (a:=0) (b:=i) (Nat.zero_le _) hi (fun j=>app ([]:List Cf) j 56 fun g=>app g [z] 56 fun f=>sls l (i:Int) ((l.length:Nat):Int) fun e=>app f e 56 fun d=>some d);simp only [Int.natCast_zero] at o;rw [o,drop_zero,Bq (by simp;omega) (by omega),nil_append,Bq (by simp;omega) (by omega),Fe hi (Nat.le_refl _),Bq (by simp;omega) (by omega),take_length];simp
 by_cases h:i<l.length
 ·rw [if_pos (by omega),Ac h,y1k n _ x (c _ (getElem_mem h)) m (by have:=(E8 _).1 (c _ (getElem_mem h));omega) (by have:=(E8 _).1 (c _ (getElem_mem h));omega),A3];by_cases q:Bn l[i] x=0;all_goals simp_all
 grind
theorem zfv (n:Nat)(g:1000000000<n)(b a:List Cf)(c:∀ x∈a,cfOk x=true)(f:∀ x∈b,cfOk x=true)(i:a.length=b.length)(l:a.length<=1000000):∀ (m k:Nat),k<=a.length->a.length<m+k->Pn n b a (some true) m (k:Int)=some (decide (a.drop k=b.drop k))
 |0,k,h1,j=>by omega
 |m+1,k,h1,j=>by
  unfold Pn;simp only [length_map,A5,Al];by_cases h:k<a.length
  ·rw [if_pos (by omega),Ac h,Ac (by omega:k<b.length),y1k n _ _ (c _ (getElem_mem h)) (f _ (getElem_mem _)) (by have:=(E8 _).1 (c _ (getElem_mem h));omega) (by have:=(E8 _).1 (c _ (getElem_mem h));omega),A3,Ag k (by omega)];have e:(a.drop k=b.drop k) ↔ (a[k]=b[k]'(by omega)/\a.drop (k+1)=b.drop (k+1)):=by
    rw [B0 a k h,B0 b k (by omega),List.cons.injEq]
   by_cases d:a[k]=b[k]'(by omega)
   ·rw [if_pos ((Ds.zero _ _).2 d),zfv n g b a c f i l m (k+1) (by omega) (by omega)];simp_all
   ·rw [if_neg (fun q=>d ((Ds.zero _ _).1 q)),decide_eq_false (fun q=>d (e.1 q).1)]
  grind
theorem y1e (n:Nat)(c:1000000000<n)(a b:List Cf)(f:∀ x∈a,cfOk x=true)(d:∀ x∈b,cfOk x=true)(g:a.length<=1000000):U4 n a b=some (decide (a=b)):=by
 unfold U4;simp only [length_map,A5,Al];by_cases h:a.length=b.length
 ·rw [if_pos (by omega)];have:=zfv n c b a f d h g n 0 (by omega) (by omega);simpa using this
 ·rw [if_neg (by omega)];have:a≠b:=fun e=>h (by rw [e])
  simp [this]
theorem zr8 {x:Cf}(b:cfOk x=true){l:List Cf}(c:∀ y∈l,cfOk y=true):∀ y∈insU Bn x l,cfOk y=true:=fun y a=>by
 rcases (Wd Ds x y l).1 a with h|h
 all_goals simp_all
theorem zy5 {s l:List Cf}(b:∀ y∈s,cfOk y=true)(c:∀ y∈l,cfOk y=true):∀ y∈puts Bn s l,cfOk y=true:=fun y a=>by
 rcases (J6 Ds y l s).1 a with h|h
 ·exact b y h
 ·exact c y h
theorem y48 (n:Nat)(a b:Ma)(c:maOk a=true)(e:maOk b=true)(d:1000000000<n):Ra n a b=some (decide (a=b)):=by
 unfold Ra;rw [f_ma n _ _ (by have:=(E7 _).1 c;exact Nat.lt_of_le_of_lt this d) (by omega) ((E7 _).1 e) ((E7 _).1 c)];rw [A3];congr 1;exact decide_eq_decide.2 (Cj.zero a b)
theorem zdb (n:Nat)(w:1000000000<n)(l:List Ma)(d:∀ x∈l,maOk x=true)(D:l.length<=1000000000)(a:Nat)(C:1<=a)(K:Int->List Ma->Option (List Ma))(r:Option (List Ma))
  (y:∀ (i:Nat) (b:List Ma),b.length=l.length->i<=l.length->b.take i=dd l->K (i:Int) b=r) :
  ∀ (m k j:Nat) (b:List Ma),1<=j->k<=a+j-1->a+j<=l.length->l.length<m+j+a->b.length=l.length->b.take k=dd (l.take (a+j))->b.drop (a+j-1)=l.drop (a+j-1)->Jl n a K m ((k:Int),(j:Int),b)=r
 |0,k,j,b,F,h1,v,E,u,t,A=>by omega
 |m+1,k,j,b,F,h1,v,E,u,t,A=>by
  unfold Jl;simp only [length_map];rw [y0e (by omega)];simp only [A5];by_cases h:a+j<l.length
  ·have G:∀ i (h1:a+j-1<=i) (v:i<l.length),∃ E:i<b.length,b[i]=l[i]:=fun i h1 v=>by
    refine ⟨by omega,?_⟩;have:=congrArg (fun q=>q[i-(a+j-1)]?) A;simp only [getElem?_drop,show a+j-1+(i-(a+j-1))=i by omega] at this;rw [getElem?_eq_getElem (by omega),getElem?_eq_getElem v] at this;exact Option.some.inj this
   obtain ⟨I,H⟩:=G (a+j) (by omega) h;obtain ⟨M,L⟩:=G (a+(j-1)) (by omega) (by omega);rw [if_pos (by omega),Co (by omega),Cz I,So j F (by omega),Co (by omega),Cz M,H,L];rw [y48 n _ _ (d _ (getElem_mem _)) (d _ (getElem_mem _)) w,A3,Al,A5,Ag j (by omega)];have g:l.take (a+(j+1))=l.take (a+j)++[l[a+j]]:=by rw [show a+(j+1)=(a+j)+1 by omega,take_succ_eq_append_getElem h]
   have f:l.take (a+j)≠[]:=by
    intro e;have:=congrArg length e;rw [length_take,length_nil] at this;omega
   have c:(l.take (a+j)).getLast f=l[a+(j-1)]:=by
    rw [getLast_eq_getElem];simp only [getElem_take];congr 1;simp only [length_take];omega
   have p:b.drop (a+(j+1)-1)=l.drop (a+(j+1)-1):=by
    have:=congrArg List.tail A;simp only [tail_drop] at this;rw [show a+(j+1)-1=a+j-1+1 by omega];exact this
   by_cases s:l[a+j]=l[a+(j-1)]
   ·rw [if_pos s];refine zdb n w l d D a C K r y m k (j+1) b (by omega) (by omega) (by omega) (by omega) u ?_ p;rw [g,Ja _ _ f,c,if_pos s,append_nil,t]
   ·rw [if_neg s,Co (by omega),Cz I,Co (by omega),Jd (by omega),Ag k (by omega)];have o:∀ z:Ma,(b.set k z).take (k+1)=b.take k++[z]:=fun z=>by
     have J:k<b.length:=by omega
     rw [take_succ_eq_append_getElem (by simpa using J),getElem_set_self,take_set_of_le (Nat.le_refl _)]
    have B:b[a+j]=l[a+j]:=H;refine zdb n w l d D a C K r y m (k+1) (j+1) _ (by omega) (by omega) (by omega) (by omega) (by simpa using u) ?_ ?_
    ·rw [o,g,Ja _ _ f,c,if_neg s,t];exact congrArg (fun q=>dd (l.take (a+j))++[q]) B
    ·rw [drop_set_of_lt (by omega)];exact p
  ·rw [if_neg (by omega)];refine y k b u (by omega) ?_;rw [t,take_of_length_le (by omega)]
theorem zl9 (n:Nat)(t:1000000000<n)(l:List Ma)(f:∀ x∈l,maOk x=true)(w:l.length<=1000000000)(u:1<=l.length):∀ (m k:Nat),1<=k->k<=l.length->l.length<m+k->dd (l.take k)=l.take k->Nz n l (some l) m (k:Int)=some (dd l)
 |0,k,v,h1,z,_=>by omega
 |m+1,k,v,h1,z,s=>by
  unfold Nz;simp only [length_map,A5];by_cases h:k<l.length
  ·rw [if_pos (by omega),Co h,Cz h,So k v (by omega),Co (by omega),Cz (by omega)];rw [y48 n _ _ (f _ (getElem_mem _)) (f _ (getElem_mem _)) t,A3,A5,Ag k (by omega)];have q:l.take (k+1)=l.take k++[l[k]]:=take_succ_eq_append_getElem h;have o:l.take k≠[]:=by
    intro e;have:=congrArg length e;rw [length_take,length_nil] at this;omega
   have d:(l.take k).getLast o=l[k-1]:=by
    rw [getLast_eq_getElem];simp only [getElem_take];congr 1;simp only [length_take];omega
   by_cases r:l[k]=l[k-1]
   ·rw [if_pos r,Wg (by omega)];have:=zdb n t l f w k v (fun k2_1_0y0 k2_1_0y1=>nle k2_1_0y0 k2_1_0y1.length fun j =>
     clr k2_1_0y1 j (⟨[]⟩:Ab) fun g =>
     sls g 0 k2_1_0y0 fun c=>some c) (some (dd l)) (fun i p B hi y=>by
      show nle (i:Int) p.length (fun j=>clr p j (⟨[]⟩:Ab) fun g=>sls g 0 (i:Int) fun c=>some c)=some (dd l);rw [Wg (by omega),zwm (by omega)];have:=Fe (l:=clrL p i (⟨[]⟩:Ab)) (a:=0) (b:=i) (Nat.zero_le _) (by rw [zix _ _ _ (by omega)];omega) (fun c=>some c);simp only [Int.natCast_zero] at this;rw [this,drop_zero,ze4 _ _ _ (by omega),y]) n k 1 l (by omega) (by omega) (by omega) (by omega) rfl (by rw [q,Ja _ _ o,d,if_pos r,append_nil,s]) rfl
    have A:((1:Nat):Int)=1:=rfl;rw [A] at this;exact this
   ·rw [if_neg r];refine zl9 n t l f w u m (k+1) (by omega) (by omega) (by omega) ?_;rw [q,Ja _ _ o,d,if_neg r,s]
  ·rw [if_neg (by omega)];rw [take_of_length_le (by omega)] at s;rw [s]
theorem y4b (n:Nat)(b:1000000000<n)(l:List Ma)(a:∀ x∈l,maOk x=true)(c:l.length<=1000000000):T8 n l=some (dd l):=by
 unfold T8;simp only [length_map,A5];by_cases h:l.length<2
 ·rw [if_pos (by omega)]
  match l,h with
  |[],_=>rfl
  |[x],_=>rfl
 ·rw [if_neg (by omega)];refine zl9 n b l a c (by omega) n 1 (by omega) (by omega) (by omega) ?_
  match l,h with
  |[],h=>exact absurd (by simp) h
  |[x],h=>exact absurd (by simp) h
  |x::y::q,_=>rfl
theorem zub (n:Nat)(e:1000000000<n)(l:List Ma)(a:∀ x∈l,maOk x=true)(c:l.length<=1000000000):Mc n l=some (setL B1 l):=by
 unfold Mc;rw [zq0 Cj n l a c];simp only [ze9,Sj,Am];have b:=Mz B1 l;rw [y4b n e _ (fun x d=>a x (b.mem_iff.1 d)) (by rw [b.length_eq];exact c),Cb,zwc Cj]
theorem zkw (n:Nat)(g:1000000000<n)(x:Ma)(f:maOk x=true)(l:List Ma)(a:∀ x∈l,maOk x=true)(j:l.length<=1000000)(K:Int->Option (List Ma))(r:Option (List Ma))
  (d:∀ i:Nat,i<=l.length->(∀ y∈l.take i,B1 y x<0)->(∀ h:i<l.length,¬B1 l[i] x<0)->K i=r):∀ (m k:Nat),k<=l.length->l.length<m+k->(∀ y∈l.take k,B1 y x<0)->Ii n x l K m (k:Int)=r
 |0,k,h1,o,_=>by omega
 |m+1,k,h1,o,e=>by
  unfold Ii;simp only [B3,Am,La,length_map,A5,Az];by_cases h:k<l.length
  ·rw [if_pos (by omega),Ac h,Sr n _ _ (by have:=(E7 _).1 (a _ (getElem_mem h));exact Nat.lt_of_le_of_lt this g) ((E7 _).1 f) ((E7 _).1 (a _ (getElem_mem h))),A3];by_cases c:B1 l[k] x<0
   ·rw [if_pos c,Ag k (by omega)];refine zkw n g x f l a j K r d m (k+1) (by omega) (by omega) (fun y b=>?_);rw [take_succ_eq_append_getElem h,mem_append,mem_singleton] at b;rcases b with b|b
    ·exact e y b
    ·rw [b];exact c
   ·rw [if_neg c];exact d k h1 e (fun _=>c)
  ·rw [if_neg (by omega)];exact d k h1 e (fun p=>absurd p h)
theorem zr9 (x:Ma):∀ (l:List Ma) (i:Nat),i<=l.length->(∀ y∈l.take i,B1 y x<0)->(∀ h:i<l.length,¬B1 l[i] x<0)->insU B1 x l=if ∃ h:i<l.length,B1 l[i] x=0 then l else l.take i++x::l.drop i
 |[],i,h1,_,_=>by
  have:i=0:=by simpa using h1
  subst this;simp [insU]
 |y::l,0,_,_,a=>by
  have:=a (by simp);simp only [getElem_cons_zero] at this;unfold insU;rw [if_neg this];simp_all
 |y::l,i+1,h1,b,a=>by
  have d:=b y (by simp);unfold insU;rw [if_pos d,zr9 x l i (by simpa using h1) (fun z c=>b z (by simp [c])) (fun h=>by simp_all)];by_cases q:∃ h:i<l.length,B1 l[i] x=0;all_goals simp_all
theorem zur (n:Nat)(o:1000000000<n)(x:Ma)(m:maOk x=true)(l:List Ma)(j:∀ x∈l,maOk x=true)(s:l.length<=1000000):M2 n l x=some (insU B1 x l):=by
 unfold M2;refine zkw n o x m l j s _ _ (fun i hi h1 t=>?_) n 0 (by omega) (by omega) (by simp);rw [zr9 x l i hi h1 t];simp only [B3,Am,Lb,length_map,A5,Az];have k:∀ z:Ma,z=x->(sls l 0 (i:Int) fun g=>app ([]:List Ma) g 24 fun f=>app f [z] 24 fun e=>sls l (i:Int) ((l.length:Nat):Int) fun d=>app e d 24 fun c=>some c)=some (l.take i++x::l.drop i):=fun z r=>by
  subst r;have p:=Fe (l:=l) (a:=0) (b:=i) (Nat.zero_le _) hi (fun g=>app ([]:List Ma) g 24 fun f=>app f [z] 24 fun e=>sls l (i:Int) ((l.length:Nat):Int) fun d=>app e d 24 fun c=>some c);simp only [Int.natCast_zero] at p;rw [p,drop_zero,Bq (by simp;omega) (by omega),nil_append,Bq (by simp;omega) (by omega),Fe hi (Nat.le_refl _),Bq (by simp;omega) (by omega),take_length];simp
 by_cases h:i<l.length
 ·rw [if_pos (by omega),Ac h,Sr n _ _ (by have:=(E7 _).1 (j _ (getElem_mem h));exact Nat.lt_of_le_of_lt this o) ((E7 _).1 m) ((E7 _).1 (j _ (getElem_mem h))),A3];by_cases q:B1 l[i] x=0;all_goals simp_all
 grind
theorem zhq {x:Ma}(b:maOk x=true){l:List Ma}(c:∀ y∈l,maOk y=true):∀ y∈insU B1 x l,maOk y=true:=fun y a=>by
 rcases (Wd Cj x y l).1 a with h|h
 all_goals simp_all
theorem zq7 {s l:List Ma}(b:∀ y∈s,maOk y=true)(c:∀ y∈l,maOk y=true):∀ y∈puts B1 s l,maOk y=true:=fun y a=>by
 rcases (J6 Cj y l s).1 a with h|h
 ·exact b y h
 ·exact c y h
theorem y0z {l:List Cf}(h:∀ x∈l,cfOk x=true):∀ x∈setL Bn l,cfOk x=true:=fun x a=>h x ((F9 Ds x l).1 a)
def Ct (e:Ev):Bool:=decide (0<=e.fTime) && (decide (e.fTime<=1099511627776) && (decide (0<=e.fSource) && (decide (e.fSource<8) && (decide (0<=e.fSeq) && decide (e.fSeq<=1099511627776)))))
def idt (e:Ev):Iw:=⟨e.fSource,e.fSeq⟩
theorem zyg (n:Nat)(e:Ev):Vd n e=some (Ct e):=by
 unfold Vd Ct
 simp only [A5]
 repeat' split
 all_goals (simp_all<;>omega)
theorem zuf (n:Nat)(e:Ev):Tm n e=some (Ct e):=by
 unfold Tm Ct
 simp only [A5]
 repeat' split
 all_goals (simp_all<;>omega)
theorem y5u (n:Nat)(e:Ev):My n e=some (idt e):=rfl
theorem y1h (n:Nat)(e:Ev):M4 n e=some ⟨e.fTime,e.fSource,e.fSeq⟩:=rfl
def Bh (e:Ev):Bg:=⟨e.fTime,e.fSource,e.fSeq⟩
def Cl (a b:Ev):Int:=rCmp (Bh a) (Bh b)
theorem y5z (n:Nat)(e:4<=n)(a b:Ev):Vf n a b=some (Cl a b):=by
 obtain ⟨m,rfl⟩:∃ m,n=m+4:=⟨n-4,by omega⟩;unfold Vf Vy;simp only [A3,Ns,zz9,Bool.and_true,Au,Bool.and_eq_true,decide_eq_true_eq];split
 ·rename_i h;obtain ⟨h1,d,c⟩:=h;simp [Cl,rCmp,Bh,or3,cmpI,h1,d,c]
 ·rfl
theorem zzz (n:Nat)(a b:Ev):Qt n a b=some (decide (idt a=idt b)):=by
 unfold Qt;simp only [A5];split
 ·rename_i h;simp [idt,h]
 ·rename_i h;simp [idt,h]
def few1 (l:List Aa):Bool:=(l.take 40).all (fun v=>decide (v.fText.size<=128)) && decide (l.length<40)
theorem zl7 (n:Nat)(l:List Aa)(K:Option Bool):∀ (m k:Nat),k<=l.length->k<=40->40<m+k->Q9 n l K m k=if ((l.take 40).drop k).all (fun v=>decide (v.fText.size<=128)) then K else some false
 |0,k,h1,d,c=>by omega
 |m+1,k,h1,d,c=>by
  unfold Q9;simp only [length_map,A5];by_cases h:k<l.length
  ·rw [if_pos (by omega)];by_cases e:k<40
   ·rw [if_pos (by omega),Ac h,Ag k (by omega)];have a:k<(l.take 40).length:=by rw [length_take];omega
    rw [B0 (l.take 40) k a,all_cons,getElem_take];by_cases b:l[k].fText.size<=128
    ·rw [if_neg (by omega),zl7 n l K m (k+1) (by omega) (by omega) (by omega)];simp [b]
    grind
   grind
  ·rw [if_neg (by omega),drop_eq_nil_of_le (by rw [length_take];omega)];simp
theorem y46 (n:Nat)(l:List Aa)(a:41<=n):Ui n l=some (few1 l):=by
 unfold Ui few1;have:=zl7 n l (some (decide ((((List.map Af l).length:Nat):Int)<40))) n 0 (by omega) (by omega) (by omega);simp only [Int.natCast_zero,drop_zero] at this;rw [this];simp only [length_map];split
 ·rename_i h;rw [h];simp;omega
 ·rename_i h;simp only [Bool.not_eq_true] at h;rw [h];rfl
def fewE (l:List Ev):Bool:=(l.take 20).all (fun e=>decide (e.fValues.length<=12) && few1 e.fValues) && decide (l.length<=12)
theorem zl6 (n:Nat)(l:List Ev)(K:Option Bool)(a:41<=n):∀ (m k:Nat),k<=l.length->k<=20->20<m+k->Q8 n l K m k=if ((l.take 20).drop k).all (fun e=>decide (e.fValues.length<=12) && few1 e.fValues) then K else some false
 |0,k,h1,d,c=>by omega
 |m+1,k,h1,d,c=>by
  unfold Q8;simp only [length_map,A5,Al];by_cases h:k<l.length
  ·rw [if_pos (by omega)];by_cases g:k<20
   ·rw [if_pos (by omega),Ac h,Ag k (by omega)];have b:k<(l.take 20).length:=by rw [length_take];omega
    rw [B0 (l.take 20) k b,all_cons,getElem_take];by_cases f:l[k].fValues.length<=12
    ·rw [if_neg (by omega),Ac h,y46 n _ a,A3,Au,zl6 n l K a m (k+1) (by omega) (by omega) (by omega)];grind
    grind
   grind
  ·rw [if_neg (by omega),drop_eq_nil_of_le (by rw [length_take];omega)];simp
theorem y45 (n:Nat)(l:List Ev)(a:41<=n):Uh n l=some (fewE l):=by
 unfold Uh fewE;have:=zl6 n l (some (decide ((((List.map A7 l).length:Nat):Int)<=12))) a n 0 (by omega) (by omega) (by omega);simp only [Int.natCast_zero,drop_zero] at this;rw [this];simp only [length_map];split
 ·rename_i h;rw [h];simp;omega
 ·rename_i h;simp only [Bool.not_eq_true] at h;rw [h];rfl
theorem zz7 {l:List Ev}(h:fewE l=true):l.length<=12/\∀ e∈l,e.fValues.length<=12:=by
 unfold fewE at h;simp only [Bool.and_eq_true,decide_eq_true_eq,all_eq_true] at h;refine ⟨h.2,fun e a=>(h.1 e ?_).1⟩;rw [take_of_length_le (by omega)];exact a
def Si:List Ev->Ev->Bool |[],_=>false |x::_,e=>decide (0<=Cl x e)
def chk:List Ev->List Ev->Int
 |_,[]=>0
 |p,e::r=>if Ct e=false then 2 else if Si p e=true then 14 else if p.any (fun x=>decide (idt x=idt e)) then 7 else chk (e::p) r
def Du (l:List Ev):Int:=if 4096<l.length then 5 else chk [] l
def Wm (m:List (Iw×Bool))(p:List Ev):Prop:=∀ k,(mlk m k).getD false=p.any (fun x=>decide (idt x=k))
theorem zr5 {b d:Type}[DecidableEq b](l:List (b×d))(k:b)(v:d)(c:b):mlk (mput l k v) c=if c=k then some v else mlk l c:=by
 induction l with
 |nil=>simp [mput,mlk]
 |cons a r ih =>
  obtain ⟨a,x⟩:=a;simp only [mput];by_cases h:k=a
  ·subst h;rw [if_pos rfl];simp only [mlk];simp_all
  ·rw [if_neg h];simp only [mlk,ih];grind
theorem Wm.put {m:List (Iw×Bool)}{p:List Ev}(h:Wm m p)(e:Ev):Wm (mput m (idt e) true) (e::p):=fun k=>by
 rw [zr5,any_cons];by_cases a:k=idt e
 ·subst a;simp
 ·rw [if_neg a,h k];grind
theorem Yw {l:List Ev}{k:Nat}(h:k<l.length):(l.take (k+1)).reverse=l[k]::(l.take k).reverse:=by
 simp_all
theorem zq3 {l:List Ev}{k:Nat}(a:0<k)(h:k<=l.length):∃ t,(l.take k).reverse=l[k-1]::t:=by
 obtain ⟨j,rfl⟩:∃ j,k=j+1:=⟨k-1,by omega⟩;exact ⟨_,by rw [Yw (by omega)];rfl⟩
theorem zjo {k:Nat}(a:0<k)(h:k<=1000000):IntKind.wrap .i64 ((k:Int)-1)=((k-1:Nat):Int):=by rw [Cy _ (by omega)];omega
theorem y4n {b a d:Type}[DecidableEq b](l:List (b×a))(k:b)(z:a)(c:a->Bool->Option d):mgt l k z c=c ((mlk l k).getD z) (mlk l k).isSome:=by unfold mgt;rfl
theorem y08 {a b d:Type}[DecidableEq a](l:List (a×b))(k:a)(v:b)(c:List (a×b)->Option d):mst l k v c=c (mput l k v):=by unfold mst;rfl
theorem zqt (n:Nat)(d:4<=n)(l:List Ev):∀ (m k:Nat) (a:List (Iw×Bool)),k<=l.length->l.length<=1000000->l.length<m+k->Wm a (l.take k).reverse ->
  M9 n l (some 0) m ((k:Int),a)=some (chk (l.take k).reverse (l.drop k))
 |0,k,_,h1,o,r,_=>by omega
 |m+1,k,a,h1,o,r,j=>by
  unfold M9;simp only [length_map,A5,Al];by_cases h:k<l.length
  ·rw [if_pos (by omega),Ac h,Ag k (by omega)];rw [B0 l k h];conv=>rhs;unfold chk
   have i:Wm (mput a (idt l[k]) true) (l.take (k+1)).reverse:=by rw [Yw h];exact j.put _
   have f:=zqt n d l m (k+1) _ (by omega) o (by omega) i;rw [Yw h] at f;have b:=j (idt l[k]);simp only [zyg,A3,y5u,Au,y4n,y08,b,y5z n d];by_cases g:Ct l[k]=true
   ·have c:¬Ct l[k]=false:=by rw [g];simp
    rw [if_pos g,if_neg c];by_cases e:0<k
    ·rw [if_pos (by omega),zjo e (by omega),Ac (by omega:k-1<l.length)];obtain ⟨t,p⟩:=zq3 (l:=l) e h1
     try simp only [A3,decide_eq_true_eq]
     rw [p] at f ⊢;simp only [Si,decide_eq_true_eq];grind
    ·have q:k=0:=by omega
     subst q;rw [if_neg (by omega)];simp only [take_zero,reverse_nil,any_nil,Si,Bool.false_eq_true,if_false] at f ⊢;rw [f]
   ·have c:Ct l[k]=false:=by simpa using g
    rw [if_neg g,if_pos c]
  ·rw [if_neg (by omega),drop_eq_nil_of_le (by omega)];rfl
theorem y1s (n:Nat)(l:List Ev)(c:l.length<n)(a:4<=n)(b:l.length<=1000000):Rn n l=some (Du l):=by
 unfold Rn Du;simp only [length_map,A5];by_cases h:4096<l.length
 ·rw [if_pos (by omega),if_pos h]
 ·rw [if_neg (by omega),if_neg h];have:=zqt n a l n 0 [] (by omega) b (by omega) (fun k=>rfl);simpa using this
theorem zku (n:Nat)(l:List Ev)(i:Nat)(hi:i<l.length)(K:Option Int):∀ (m k:Nat),k<=i->l.length<=1000000->i<m+k->P9 n l (i:Int) K m k=if ((l.take i).drop k).any (fun x=>decide (idt x=idt l[i])) then some 7 else K
 |0,k,h1,a,c=>by omega
 |m+1,k,h1,a,c=>by
  unfold P9;simp only [A5];by_cases h:k<i
  ·rw [if_pos (by omega),Ac (by omega:k<l.length),Ac hi,Ag k (by omega),zzz,A3,A5];have b:k<(l.take i).length:=by rw [length_take];omega
   rw [B0 (l.take i) k b,any_cons,getElem_take,zku n l i hi K m (k+1) (by omega) a (by omega)];grind
  ·rw [if_neg (by omega),drop_eq_nil_of_le (by rw [length_take];omega)];simp
theorem zkt (n:Nat)(l:List Ev)(i:Nat)(hi:i<l.length)(K:Option Int):∀ (m k:Nat),k<=i->l.length<=1000000->i<m+k->P8 n l (i:Int) K m k=if ((l.take i).drop k).any (fun x=>decide (idt x=idt l[i])) then some 7 else K
 |0,k,h1,a,c=>by omega
 |m+1,k,h1,a,c=>by
  unfold P8;simp only [A5];by_cases h:k<i
  ·rw [if_pos (by omega),Ac (by omega:k<l.length),Ac hi,Ag k (by omega),zzz,A3,A5];have b:k<(l.take i).length:=by rw [length_take];omega
   rw [B0 (l.take i) k b,any_cons,getElem_take,zkt n l i hi K m (k+1) (by omega) a (by omega)];grind
  grind
theorem zkv (n:Nat)(l:List Ev)(o:l.length<n):∀ (m k:Nat),k<=l.length->l.length<=1000000->l.length<m+k->Gm n l (some 0) m (k:Int)=some (chk (l.take k).reverse (l.drop k))
 |0,k,h1,i,q=>by omega
 |m+1,k,h1,i,q=>by
  unfold Gm;simp only [length_map,A5,Al];by_cases h:k<l.length
  ·rw [if_pos (by omega),Ac h,Ag k (by omega)];rw [B0 l k h];conv=>rhs;unfold chk
   have f:=zkv n l o m (k+1) (by omega) i (by omega);rw [Yw h] at f;simp only [zuf,A3,Au];by_cases g:Ct l[k]=true
   ·have a:¬Ct l[k]=false:=by rw [g];simp
    rw [if_pos g,if_neg a];by_cases d:0<k
    ·rw [if_pos (by omega),zjo d (by omega),Ac (by omega:k-1<l.length)];obtain ⟨t,j⟩:=zq3 (l:=l) d h1;simp only [A3,y1h];rw [Ac h];simp only [A3,zqc];have ec:rCmp ⟨l[k-1].fTime,l[k-1].fSource,l[k-1].fSeq⟩ ⟨l[k].fTime,l[k].fSource,l[k].fSeq⟩=Cl l[k-1] l[k]:=rfl;rw [ec];have c:=zku n l k h (Gm n l (some 0) m ((k+1:Nat):Int)) n 0 (by omega) i (by omega);simp only [Int.natCast_zero,drop_zero] at c;rw [c,f];have e:(l.take k).any (fun x=>decide (idt x=idt l[k]))=(l.take k).reverse.any (fun x=>decide (idt x=idt l[k])):=by rw [any_reverse]
     rw [e,j];simp only [Si,decide_eq_true_eq];grind
    ·have p:k=0:=by omega
     subst p;rw [if_neg (by omega)];have b:=zkt n l 0 h (Gm n l (some 0) m ((0+1:Nat):Int)) n 0 (by omega) i (by omega);simp only [Int.natCast_zero,drop_zero] at b;simp only [Int.natCast_zero] at b ⊢;rw [b];simp only [take_zero,reverse_nil,any_nil,Si,Bool.false_eq_true,if_false] at f ⊢;rw [f]
   ·have a:Ct l[k]=false:=by simpa using g
    rw [if_neg g,if_pos a]
  ·rw [if_neg (by omega),drop_eq_nil_of_le (by omega)];rfl
theorem zuq (n:Nat)(l:List Ev)(a:l.length<n)(b:l.length<=1000000):Qj n l=some (Du l):=by
 unfold Qj Du;simp only [length_map,A5];by_cases h:4096<l.length
 ·rw [if_pos (by omega),if_pos h]
 ·rw [if_neg (by omega),if_neg h];have:=zkv n l a n 0 (by omega) b (by omega);simpa using this
end Go.Proofs.YtidhlpjgifoneaaGreat
