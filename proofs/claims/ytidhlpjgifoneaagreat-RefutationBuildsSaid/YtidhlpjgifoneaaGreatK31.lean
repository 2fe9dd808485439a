/- Layer 25. -/
import Derived.Test.YtidhlpjgifoneaaGreatK30
set_option linter.unusedVariables false
set_option linter.unusedSimpArgs false
namespace Go.Proofs.YtidhlpjgifoneaaGreat
open Go.RowKit List
theorem zzt {a:Type}{i len:Nat}(h:i<=len)(k:Nat->Option a):nle (i:Int) len k=k i:=by unfold nle;simp [h]
theorem ymy {c:Type}{a b:Nat}(h:a<=b)(x:Option c):gle a b x=x:=by unfold gle;simp [h]
theorem yji {α a:Type}{l:List α}{lo:Nat}(h:lo<=l.length)(z:α)(k:List α->Option a):clr l lo z k=k (clrL l lo z):=by unfold clr;simp [h]
theorem yn1 {a:Type}(i:Nat)(x:Option a):frb i x=x:=by unfold frb;rfl
theorem y0p {α:Type}(l:List α)(lo:Nat)(z:α)(h:lo<=l.length):(clrL l lo z).take lo=l.take lo:=by
 unfold clrL;simp_all
theorem y60 {α:Type}(l:List α)(lo:Nat)(z:α)(h:lo<=l.length):(clrL l lo z).length=l.length:=by
 unfold clrL;simp;omega
theorem yfg (k:Nat)(h:1<=k)(a:k<=1000000000000):IntKind.wrap .i64 ((k:Int)-1)=((k-1:Nat):Int):=by rw [zga _ (by omega)];omega
theorem ydq (n:Nat)(a b:z18):za3 n a b=some (rCmp a b):=by
 unfold za3 rCmp or3 cmpI;simp only [z0f,z12];grind
theorem yl9 (n:Nat)(a b:Bd):zbu n a b=some (ztv a b):=by
 unfold zbu;rw [ydq,z05];simp only [z0f,z12,ztv,or2];have e:rCmp ⟨a.fRef.fTime,a.fRef.fSource,a.fRef.fSeq⟩ ⟨b.fRef.fTime,b.fRef.fSource,b.fRef.fSeq⟩=rCmp a.fRef b.fRef:=rfl;rw [e];unfold cmpI;grind
theorem yds (n:Nat)(b a:Ma)(f:b.fBindings.length<=1000000000)(d:a.fBindings.length<=1000000000)(K:Option Int)(e:K=if a.fBindings.length<b.fBindings.length then some (-1) else if b.fBindings.length<a.fBindings.length then some 1 else some 0):∀ (m k:Nat),k<=a.fBindings.length->k<=b.fBindings.length->a.fBindings.length<m+k ->
  z2j n b a K m k=some (lexC ztv (a.fBindings.drop k) (b.fBindings.drop k))
 |0,k,h1,_,g=>by omega
 |m+1,k,h1,i,g=>by
  unfold z2j;simp only [z3g,z1s,z3j,length_map,z0f,z9u,zae,z12];by_cases h:k<a.fBindings.length
  ·rw [if_pos (by omega)];by_cases c:k<b.fBindings.length
   ·rw [if_pos (by omega),z0r h,z0r c,z0e _ k h,z0e _ k c];rw [yl9,z05,z27 k (by omega),yds n b a f d K e m (k+1) (by omega) (by omega) (by omega)];show _=some (or2 (ztv _ _) _);unfold or2;split<;>rfl
   ·rw [if_neg (by omega),e,if_neg (by omega),if_pos (by omega),z0e _ k h,drop_eq_nil_of_le (by omega:b.fBindings.length<=k)];rfl
  ·rw [if_neg (by omega),e,drop_eq_nil_of_le (by omega:a.fBindings.length<=k)];by_cases c:a.fBindings.length<b.fBindings.length
   ·rw [if_pos c,z0e _ k (by omega:k<b.fBindings.length)];rfl
   ·rw [if_neg c,if_neg (by omega),drop_eq_nil_of_le (by omega)];rfl
theorem yny (n:Nat)(a b:Ma)(e:a.fBindings.length<n)(d:b.fBindings.length<=1000000000)(c:a.fBindings.length<=1000000000):z5s n a b=some (zc0 a b):=by
 unfold z5s;have:=yds n b a d c _ rfl n 0 (by omega) (by omega) (by omega);simp only [Int.natCast_zero,drop_zero] at this;rw [show zc0 a b=lexC ztv a.fBindings b.fBindings from rfl,<-this];congr 1;simp only [length_map,z0f];simp_all
theorem ydt (n:Nat)(b a:Cf)(f:b.fStarts.length<=1000000000)(d:a.fStarts.length<=1000000000)(K:Option Int)(e:K=if a.fStarts.length<b.fStarts.length then some (-1) else if b.fStarts.length<a.fStarts.length then some 1 else some 0):∀ (m k:Nat),k<=a.fStarts.length->k<=b.fStarts.length->a.fStarts.length<m+k ->
  z2h n b a K m k=some (lexC zwe (a.fStarts.drop k) (b.fStarts.drop k))
 |0,k,h1,_,g=>by omega
 |m+1,k,h1,i,g=>by
  unfold z2h;simp only [z3g,z1s,z3i,z2i,length_map,z0f,z9u,zae,z12];by_cases h:k<a.fStarts.length
  ·rw [if_pos (by omega)];by_cases c:k<b.fStarts.length
   ·rw [if_pos (by omega),z0r h,z0r c,z0e _ k h,z0e _ k c];rw [z27 k (by omega),ydt n b a f d K e m (k+1) (by omega) (by omega) (by omega)];show _=some (or2 (zwe _ _) _);unfold zwe or2 cmpI;generalize a.fStarts[k]=x;generalize b.fStarts[k]=y;simp only [z52,Bool.and_true,Bool.and_eq_true,decide_eq_true_eq];grind
   ·rw [if_neg (by omega),e,if_neg (by omega),if_pos (by omega),z0e _ k h,drop_eq_nil_of_le (by omega:b.fStarts.length<=k)];rfl
  ·rw [if_neg (by omega),e,drop_eq_nil_of_le (by omega:a.fStarts.length<=k)];by_cases c:a.fStarts.length<b.fStarts.length
   ·rw [if_pos c,z0e _ k (by omega:k<b.fStarts.length)];rfl
   ·rw [if_neg c,if_neg (by omega),drop_eq_nil_of_le (by omega)];rfl
theorem yo3 (n:Nat)(a b:Cf)(g:cfOk a=true)(f:cfOk b=true)(d:a.fBindings.length<n)(c:a.fStarts.length<n):z5o n a b=some (zev a b):=by
 obtain ⟨k,j⟩:=(zhc a).1 g;obtain ⟨i,h⟩:=(zhc b).1 f;unfold z5o;rw [yny n _ _ d i k,z05];have:=ydt n b a h j _ rfl n 0 (by omega) (by omega) (by omega);simp only [Int.natCast_zero,drop_zero] at this;simp only [length_map,z0f,z12];have e:(if (a.fStarts.length:Int)<(b.fStarts.length:Int) then some (-1:Int) else if (b.fStarts.length:Int)<(a.fStarts.length:Int) then some 1 else some 0)=(if a.fStarts.length<b.fStarts.length then some (-1) else if b.fStarts.length<a.fStarts.length then some 1 else some 0):=by
  simp_all
 rw [e,this];show _=some (or3 (cmpI a.fState b.fState) (zc0 ⟨a.fBindings⟩ ⟨b.fBindings⟩) _);unfold or3 cmpI;grind
theorem yqi (n:Nat)(a b:Cf)(d:cfOk a=true)(c:cfOk b=true)(i:1000000000<n):zd1 n a b=some (decide (a=b)):=by
 unfold zd1;obtain ⟨h,g⟩:=(zhc a).1 d;obtain ⟨f,e⟩:=(zhc b).1 c;rw [ys7 n a b (by omega) (by omega) (by omega) f h e g];rw [z05];congr 1;exact decide_eq_decide.2 (zgf.zero a b)
theorem zzq (n:Nat)(w:1000000000<n)(l:List Cf)(d:∀ x∈l,cfOk x=true)(D:l.length<=1000000000)(a:Nat)(C:1<=a)(K:Int->List Cf->Option (List Cf))(r:Option (List Cf))
  (y:∀ (i:Nat) (b:List Cf),b.length=l.length->i<=l.length->b.take i=dd l->K (i:Int) b=r) :
  ∀ (m k j:Nat) (b:List Cf),1<=j->k<=a+j-1->a+j<=l.length->l.length<m+j+a->b.length=l.length->b.take k=dd (l.take (a+j))->b.drop (a+j-1)=l.drop (a+j-1)->z5w n a K m ((k:Int),(j:Int),b)=r
 |0,k,j,b,F,h1,v,E,u,t,A=>by omega
 |m+1,k,j,b,F,h1,v,E,u,t,A=>by
  unfold z5w;simp only [length_map];rw [ymy (by omega)];simp only [z0f];by_cases h:a+j<l.length
  ·have G:∀ i (h1:a+j-1<=i) (v:i<l.length),∃ E:i<b.length,b[i]=l[i]:=fun i h1 v=>by
    refine ⟨by omega,?_⟩;have:=congrArg (fun q=>q[i-(a+j-1)]?) A;simp only [getElem?_drop,show a+j-1+(i-(a+j-1))=i by omega] at this;rw [getElem?_eq_getElem (by omega),getElem?_eq_getElem v] at this;exact Option.some.inj this
   obtain ⟨I,H⟩:=G (a+j) (by omega) h;obtain ⟨M,L⟩:=G (a+(j-1)) (by omega) (by omega);rw [if_pos (by omega),zeu (by omega),zia I,yfg j F (by omega),zeu (by omega),zia M,H,L];rw [yqi n _ _ (d _ (getElem_mem _)) (d _ (getElem_mem _)) w,z05,z12,z0f,z27 j (by omega)];have g:l.take (a+(j+1))=l.take (a+j)++[l[a+j]]:=by rw [show a+(j+1)=(a+j)+1 by omega,take_succ_eq_append_getElem h]
   have f:l.take (a+j)≠[]:=by
    intro e;have:=congrArg length e;rw [length_take,length_nil] at this;omega
   have c:(l.take (a+j)).getLast f=l[a+(j-1)]:=by
    rw [getLast_eq_getElem];simp only [getElem_take];congr 1;simp only [length_take];omega
   have p:b.drop (a+(j+1)-1)=l.drop (a+(j+1)-1):=by
    have:=congrArg List.tail A;simp only [tail_drop] at this;rw [show a+(j+1)-1=a+j-1+1 by omega];exact this
   by_cases s:l[a+j]=l[a+(j-1)]
   ·rw [if_pos s];refine zzq n w l d D a C K r y m k (j+1) b (by omega) (by omega) (by omega) (by omega) u ?_ p;rw [g,zry _ _ f,c,if_pos s,append_nil,t]
   ·rw [if_neg s,zeu (by omega),zia I,zeu (by omega),zxe (by omega),z27 k (by omega)];have o:∀ z:Cf,(b.set k z).take (k+1)=b.take k++[z]:=fun z=>by
     have J:k<b.length:=by omega
     rw [take_succ_eq_append_getElem (by simpa using J),getElem_set_self,take_set_of_le (Nat.le_refl _)]
    have B:b[a+j]=l[a+j]:=H;refine zzq n w l d D a C K r y m (k+1) (j+1) _ (by omega) (by omega) (by omega) (by omega) (by simpa using u) ?_ ?_
    ·rw [o,g,zry _ _ f,c,if_neg s,t];exact congrArg (fun q=>dd (l.take (a+j))++[q]) B
    ·rw [drop_set_of_lt (by omega)];exact p
  ·rw [if_neg (by omega)];refine y k b u (by omega) ?_;rw [t,take_of_length_le (by omega)]
theorem y8i (n:Nat)(t:1000000000<n)(l:List Cf)(f:∀ x∈l,cfOk x=true)(w:l.length<=1000000000)(u:1<=l.length):∀ (m k:Nat),1<=k->k<=l.length->l.length<m+k->dd (l.take k)=l.take k->z8q n l (some l) m (k:Int)=some (dd l)
 |0,k,v,h1,z,_=>by omega
 |m+1,k,v,h1,z,s=>by
  unfold z8q;simp only [length_map,z0f];by_cases h:k<l.length
  ·rw [if_pos (by omega),zeu h,zia h,yfg k v (by omega),zeu (by omega),zia (by omega)];rw [yqi n _ _ (f _ (getElem_mem _)) (f _ (getElem_mem _)) t,z05,z0f,z27 k (by omega)];have q:l.take (k+1)=l.take k++[l[k]]:=take_succ_eq_append_getElem h;have o:l.take k≠[]:=by
    intro e;have:=congrArg length e;rw [length_take,length_nil] at this;omega
   have d:(l.take k).getLast o=l[k-1]:=by
    rw [getLast_eq_getElem];simp only [getElem_take];congr 1;simp only [length_take];omega
   by_cases r:l[k]=l[k-1]
   ·rw [if_pos r,zzt (by omega)];have:=zzq n t l f w k v (fun k2_1_0y0 k2_1_0y1=>nle k2_1_0y0 k2_1_0y1.length fun j =>
     clr k2_1_0y1 j (⟨0,[],[]⟩:z00) fun g =>
     sls g 0 k2_1_0y0 fun c=>some c) (some (dd l)) (fun i p B hi y=>by
      show nle (i:Int) p.length (fun j=>clr p j (⟨0,[],[]⟩:z00) fun g=>sls g 0 (i:Int) fun c=>some c)=some (dd l);rw [zzt (by omega),yji (by omega)];have:=zri (l:=clrL p i (⟨0,[],[]⟩:z00)) (a:=0) (b:=i) (Nat.zero_le _) (by rw [y60 _ _ _ (by omega)];omega) (fun c=>some c);simp only [Int.natCast_zero] at this;rw [this,drop_zero,y0p _ _ _ (by omega),y]) n k 1 l (by omega) (by omega) (by omega) (by omega) rfl (by rw [q,zry _ _ o,d,if_pos r,append_nil,s]) rfl
    have A:((1:Nat):Int)=1:=rfl;rw [A] at this;exact this
   ·rw [if_neg r];refine y8i n t l f w u m (k+1) (by omega) (by omega) (by omega) ?_;rw [q,zry _ _ o,d,if_neg r,s]
  ·rw [if_neg (by omega)];rw [take_of_length_le (by omega)] at s;rw [s]
theorem yql (n:Nat)(b:1000000000<n)(l:List Cf)(a:∀ x∈l,cfOk x=true)(c:l.length<=1000000000):zcj n l=some (dd l):=by
 unfold zcj;simp only [length_map,z0f];by_cases h:l.length<2
 ·rw [if_pos (by omega)]
  match l,h with
  |[],_=>rfl
  |[x],_=>rfl
 ·rw [if_neg (by omega)];refine y8i n b l a c (by omega) n 1 (by omega) (by omega) (by omega) ?_
  match l,h with
  |[],h=>exact absurd (by simp) h
  |[x],h=>exact absurd (by simp) h
  |x::y::q,_=>rfl
theorem ynt (n:Nat)(e:1000000000<n)(l:List Cf)(a:∀ x∈l,cfOk x=true)(c:l.length<=1000000000):zi4 n l=some (setL zev l):=by
 unfold zi4;rw [ydf zgf n l a c];simp only [y0w,yn1,z1s];have b:=zio zev l;rw [yql n e _ (fun x d=>a x (b.mem_iff.1 d)) (by rw [b.length_eq];exact c),zbr,yja zgf]
theorem y86 (n:Nat)(g:1000000000<n)(x:Cf)(f:cfOk x=true)(l:List Cf)(a:∀ x∈l,cfOk x=true)(j:l.length<=1000000)(K:Int->Option (List Cf))(r:Option (List Cf))
  (d:∀ i:Nat,i<=l.length->(∀ y∈l.take i,zev y x<0)->(∀ h:i<l.length,¬zev l[i] x<0)->K i=r):∀ (m k:Nat),k<=l.length->l.length<m+k->(∀ y∈l.take k,zev y x<0)->z4e n x l K m (k:Int)=r
 |0,k,h1,o,_=>by omega
 |m+1,k,h1,o,e=>by
  unfold z4e;simp only [z3g,z1s,z6v,length_map,z0f,zae];by_cases h:k<l.length
  ·rw [if_pos (by omega),z0r h,yo3 n _ x (a _ (getElem_mem h)) f (by have:=(zhc _).1 (a _ (getElem_mem h));omega) (by have:=(zhc _).1 (a _ (getElem_mem h));omega),z05];by_cases c:zev l[k] x<0
   ·rw [if_pos c,z27 k (by omega)];refine y86 n g x f l a j K r d m (k+1) (by omega) (by omega) (fun y b=>?_);rw [take_succ_eq_append_getElem h,mem_append,mem_singleton] at b;rcases b with b|b
    ·exact e y b
    ·rw [b];exact c
   ·rw [if_neg c];exact d k h1 e (fun _=>c)
  ·rw [if_neg (by omega)];exact d k h1 e (fun p=>absurd p h)
theorem yem (x:Cf):∀ (l:List Cf) (i:Nat),i<=l.length->(∀ y∈l.take i,zev y x<0)->(∀ h:i<l.length,¬zev l[i] x<0)->insU zev x l=if ∃ h:i<l.length,zev l[i] x=0 then l else l.take i++x::l.drop i
 |[],i,h1,_,_=>by
  have:i=0:=by simpa using h1
  subst this;simp [insU]
 |y::l,0,_,_,a=>by
  have:=a (by simp);simp only [getElem_cons_zero] at this;unfold insU;rw [if_neg this];simp_all
 |y::l,i+1,h1,b,a=>by
  have d:=b y (by simp);unfold insU;rw [if_pos d,yem x l i (by simpa using h1) (fun z c=>b z (by simp [c])) (fun h=>by simp_all)];by_cases q:∃ h:i<l.length,zev l[i] x=0;all_goals simp_all
theorem yi3 (n:Nat)(r:1000000000<n)(x:Cf)(m:cfOk x=true)(l:List Cf)(c:∀ x∈l,cfOk x=true)(s:l.length<=1000000):z9n n l x=some (insU zev x l):=by
 unfold z9n;refine y86 n r x m l c s _ _ (fun i hi h1 t=>?_) n 0 (by omega) (by omega) (by simp);rw [yem x l i hi h1 t];simp only [z3g,z1s,z6w,length_map,z0f,zae];have k:∀ z:Cf,z=x->(sls l 0 (i:Int) fun j=>app ([]:List Cf) j 56 fun g=>app g [z] 56 fun f=>sls l (i:Int) ((l.length:Nat):Int) fun e=>app f e 56 fun d=>some d)=some (l.take i++x::l.drop i):=fun z p=>by
  subst p;have o:=zri (l:=l) (a:=0) (b:=i) (Nat.zero_le _) hi (fun j=>app ([]:List Cf) j 56 fun g=>app g [z] 56 fun f=>sls l (i:Int) ((l.length:Nat):Int) fun e=>app f e 56 fun d=>some d);simp only [Int.natCast_zero] at o;rw [o,drop_zero,zcu (by simp;omega) (by omega),nil_append,zcu (by simp;omega) (by omega),zri hi (Nat.le_refl _),zcu (by simp;omega) (by omega),take_length];simp
 by_cases h:i<l.length
 ·rw [if_pos (by omega),z0r h,yo3 n _ x (c _ (getElem_mem h)) m (by have:=(zhc _).1 (c _ (getElem_mem h));omega) (by have:=(zhc _).1 (c _ (getElem_mem h));omega),z05];by_cases q:zev l[i] x=0;all_goals simp_all
 grind
theorem y2l (n:Nat)(g:1000000000<n)(b a:List Cf)(c:∀ x∈a,cfOk x=true)(f:∀ x∈b,cfOk x=true)(i:a.length=b.length)(l:a.length<=1000000):∀ (m k:Nat),k<=a.length->a.length<m+k->z8k n b a (some true) m (k:Int)=some (decide (a.drop k=b.drop k))
 |0,k,h1,j=>by omega
 |m+1,k,h1,j=>by
  unfold z8k;simp only [length_map,z0f,z12];by_cases h:k<a.length
  ·rw [if_pos (by omega),z0r h,z0r (by omega:k<b.length),yo3 n _ _ (c _ (getElem_mem h)) (f _ (getElem_mem _)) (by have:=(zhc _).1 (c _ (getElem_mem h));omega) (by have:=(zhc _).1 (c _ (getElem_mem h));omega),z05,z27 k (by omega)];have e:(a.drop k=b.drop k) ↔ (a[k]=b[k]'(by omega)/\a.drop (k+1)=b.drop (k+1)):=by
    rw [z0e a k h,z0e b k (by omega),List.cons.injEq]
   by_cases d:a[k]=b[k]'(by omega)
   ·rw [if_pos ((zgf.zero _ _).2 d),y2l n g b a c f i l m (k+1) (by omega) (by omega)];simp_all
   ·rw [if_neg (fun q=>d ((zgf.zero _ _).1 q)),decide_eq_false (fun q=>d (e.1 q).1)]
  grind
theorem ynw (n:Nat)(c:1000000000<n)(a b:List Cf)(f:∀ x∈a,cfOk x=true)(d:∀ x∈b,cfOk x=true)(g:a.length<=1000000):zcf n a b=some (decide (a=b)):=by
 unfold zcf;simp only [length_map,z0f,z12];by_cases h:a.length=b.length
 ·rw [if_pos (by omega)];have:=y2l n c b a f d h g n 0 (by omega) (by omega);simpa using this
 ·rw [if_neg (by omega)];have:a≠b:=fun e=>h (by rw [e])
  simp [this]
theorem yek {x:Cf}(b:cfOk x=true){l:List Cf}(c:∀ y∈l,cfOk y=true):∀ y∈insU zev x l,cfOk y=true:=fun y a=>by
 rcases (zvl zgf x y l).1 a with h|h
 all_goals simp_all
theorem ykv {s l:List Cf}(b:∀ y∈s,cfOk y=true)(c:∀ y∈l,cfOk y=true):∀ y∈puts zev s l,cfOk y=true:=fun y a=>by
 rcases (zt7 zgf y l s).1 a with h|h
 ·exact b y h
 ·exact c y h
theorem yqh (n:Nat)(a b:Ma)(c:maOk a=true)(e:maOk b=true)(d:1000000000<n):zcz n a b=some (decide (a=b)):=by
 unfold zcz;rw [f_ma n _ _ (by have:=(zhu _).1 c;exact Nat.lt_of_le_of_lt this d) (by omega) ((zhu _).1 e) ((zhu _).1 c)];rw [z05];congr 1;exact decide_eq_decide.2 (zge.zero a b)
theorem zzp (n:Nat)(w:1000000000<n)(l:List Ma)(d:∀ x∈l,maOk x=true)(D:l.length<=1000000000)(a:Nat)(C:1<=a)(K:Int->List Ma->Option (List Ma))(r:Option (List Ma))
  (y:∀ (i:Nat) (b:List Ma),b.length=l.length->i<=l.length->b.take i=dd l->K (i:Int) b=r) :
  ∀ (m k j:Nat) (b:List Ma),1<=j->k<=a+j-1->a+j<=l.length->l.length<m+j+a->b.length=l.length->b.take k=dd (l.take (a+j))->b.drop (a+j-1)=l.drop (a+j-1)->z2n n a K m ((k:Int),(j:Int),b)=r
 |0,k,j,b,F,h1,v,E,u,t,A=>by omega
 |m+1,k,j,b,F,h1,v,E,u,t,A=>by
  unfold z2n;simp only [length_map];rw [ymy (by omega)];simp only [z0f];by_cases h:a+j<l.length
  ·have G:∀ i (h1:a+j-1<=i) (v:i<l.length),∃ E:i<b.length,b[i]=l[i]:=fun i h1 v=>by
    refine ⟨by omega,?_⟩;have:=congrArg (fun q=>q[i-(a+j-1)]?) A;simp only [getElem?_drop,show a+j-1+(i-(a+j-1))=i by omega] at this;rw [getElem?_eq_getElem (by omega),getElem?_eq_getElem v] at this;exact Option.some.inj this
   obtain ⟨I,H⟩:=G (a+j) (by omega) h;obtain ⟨M,L⟩:=G (a+(j-1)) (by omega) (by omega);rw [if_pos (by omega),zeu (by omega),zia I,yfg j F (by omega),zeu (by omega),zia M,H,L];rw [yqh n _ _ (d _ (getElem_mem _)) (d _ (getElem_mem _)) w,z05,z12,z0f,z27 j (by omega)];have g:l.take (a+(j+1))=l.take (a+j)++[l[a+j]]:=by rw [show a+(j+1)=(a+j)+1 by omega,take_succ_eq_append_getElem h]
   have f:l.take (a+j)≠[]:=by
    intro e;have:=congrArg length e;rw [length_take,length_nil] at this;omega
   have c:(l.take (a+j)).getLast f=l[a+(j-1)]:=by
    rw [getLast_eq_getElem];simp only [getElem_take];congr 1;simp only [length_take];omega
   have p:b.drop (a+(j+1)-1)=l.drop (a+(j+1)-1):=by
    have:=congrArg List.tail A;simp only [tail_drop] at this;rw [show a+(j+1)-1=a+j-1+1 by omega];exact this
   by_cases s:l[a+j]=l[a+(j-1)]
   ·rw [if_pos s];refine zzp n w l d D a C K r y m k (j+1) b (by omega) (by omega) (by omega) (by omega) u ?_ p;rw [g,zry _ _ f,c,if_pos s,append_nil,t]
   ·rw [if_neg s,zeu (by omega),zia I,zeu (by omega),zxe (by omega),z27 k (by omega)];have o:∀ z:Ma,(b.set k z).take (k+1)=b.take k++[z]:=fun z=>by
     have J:k<b.length:=by omega
     rw [take_succ_eq_append_getElem (by simpa using J),getElem_set_self,take_set_of_le (Nat.le_refl _)]
    have B:b[a+j]=l[a+j]:=H;refine zzp n w l d D a C K r y m (k+1) (j+1) _ (by omega) (by omega) (by omega) (by omega) (by simpa using u) ?_ ?_
    ·rw [o,g,zry _ _ f,c,if_neg s,t];exact congrArg (fun q=>dd (l.take (a+j))++[q]) B
    ·rw [drop_set_of_lt (by omega)];exact p
  ·rw [if_neg (by omega)];refine y k b u (by omega) ?_;rw [t,take_of_length_le (by omega)]
theorem y8h (n:Nat)(t:1000000000<n)(l:List Ma)(f:∀ x∈l,maOk x=true)(w:l.length<=1000000000)(u:1<=l.length):∀ (m k:Nat),1<=k->k<=l.length->l.length<m+k->dd (l.take k)=l.take k->z4a n l (some l) m (k:Int)=some (dd l)
 |0,k,v,h1,z,_=>by omega
 |m+1,k,v,h1,z,s=>by
  unfold z4a;simp only [length_map,z0f];by_cases h:k<l.length
  ·rw [if_pos (by omega),zeu h,zia h,yfg k v (by omega),zeu (by omega),zia (by omega)];rw [yqh n _ _ (f _ (getElem_mem _)) (f _ (getElem_mem _)) t,z05,z0f,z27 k (by omega)];have q:l.take (k+1)=l.take k++[l[k]]:=take_succ_eq_append_getElem h;have o:l.take k≠[]:=by
    intro e;have:=congrArg length e;rw [length_take,length_nil] at this;omega
   have d:(l.take k).getLast o=l[k-1]:=by
    rw [getLast_eq_getElem];simp only [getElem_take];congr 1;simp only [length_take];omega
   by_cases r:l[k]=l[k-1]
   ·rw [if_pos r,zzt (by omega)];have:=zzp n t l f w k v (fun k2_1_0y0 k2_1_0y1=>nle k2_1_0y0 k2_1_0y1.length fun j =>
     clr k2_1_0y1 j (⟨[]⟩:z06) fun g =>
     sls g 0 k2_1_0y0 fun c=>some c) (some (dd l)) (fun i p B hi y=>by
      show nle (i:Int) p.length (fun j=>clr p j (⟨[]⟩:z06) fun g=>sls g 0 (i:Int) fun c=>some c)=some (dd l);rw [zzt (by omega),yji (by omega)];have:=zri (l:=clrL p i (⟨[]⟩:z06)) (a:=0) (b:=i) (Nat.zero_le _) (by rw [y60 _ _ _ (by omega)];omega) (fun c=>some c);simp only [Int.natCast_zero] at this;rw [this,drop_zero,y0p _ _ _ (by omega),y]) n k 1 l (by omega) (by omega) (by omega) (by omega) rfl (by rw [q,zry _ _ o,d,if_pos r,append_nil,s]) rfl
    have A:((1:Nat):Int)=1:=rfl;rw [A] at this;exact this
   ·rw [if_neg r];refine y8h n t l f w u m (k+1) (by omega) (by omega) (by omega) ?_;rw [q,zry _ _ o,d,if_neg r,s]
  ·rw [if_neg (by omega)];rw [take_of_length_le (by omega)] at s;rw [s]
theorem yqk (n:Nat)(b:1000000000<n)(l:List Ma)(a:∀ x∈l,maOk x=true)(c:l.length<=1000000000):z9l n l=some (dd l):=by
 unfold z9l;simp only [length_map,z0f];by_cases h:l.length<2
 ·rw [if_pos (by omega)]
  match l,h with
  |[],_=>rfl
  |[x],_=>rfl
 ·rw [if_neg (by omega)];refine y8h n b l a c (by omega) n 1 (by omega) (by omega) (by omega) ?_
  match l,h with
  |[],h=>exact absurd (by simp) h
  |[x],h=>exact absurd (by simp) h
  |x::y::q,_=>rfl
theorem yns (n:Nat)(e:1000000000<n)(l:List Ma)(a:∀ x∈l,maOk x=true)(c:l.length<=1000000000):zd0 n l=some (setL zc0 l):=by
 unfold zd0;rw [ydf zge n l a c];simp only [y0w,yn1,z1s];have b:=zio zc0 l;rw [yqk n e _ (fun x d=>a x (b.mem_iff.1 d)) (by rw [b.length_eq];exact c),zbr,yja zge]
theorem y85 (n:Nat)(g:1000000000<n)(x:Ma)(f:maOk x=true)(l:List Ma)(a:∀ x∈l,maOk x=true)(j:l.length<=1000000)(K:Int->Option (List Ma))(r:Option (List Ma))
  (d:∀ i:Nat,i<=l.length->(∀ y∈l.take i,zc0 y x<0)->(∀ h:i<l.length,¬zc0 l[i] x<0)->K i=r):∀ (m k:Nat),k<=l.length->l.length<m+k->(∀ y∈l.take k,zc0 y x<0)->z4i n x l K m (k:Int)=r
 |0,k,h1,o,_=>by omega
 |m+1,k,h1,o,e=>by
  unfold z4i;simp only [z3g,z1s,z71,length_map,z0f,zae];by_cases h:k<l.length
  ·rw [if_pos (by omega),z0r h,yny n _ _ (by have:=(zhu _).1 (a _ (getElem_mem h));exact Nat.lt_of_le_of_lt this g) ((zhu _).1 f) ((zhu _).1 (a _ (getElem_mem h))),z05];by_cases c:zc0 l[k] x<0
   ·rw [if_pos c,z27 k (by omega)];refine y85 n g x f l a j K r d m (k+1) (by omega) (by omega) (fun y b=>?_);rw [take_succ_eq_append_getElem h,mem_append,mem_singleton] at b;rcases b with b|b
    ·exact e y b
    ·rw [b];exact c
   ·rw [if_neg c];exact d k h1 e (fun _=>c)
  ·rw [if_neg (by omega)];exact d k h1 e (fun p=>absurd p h)
theorem yel (x:Ma):∀ (l:List Ma) (i:Nat),i<=l.length->(∀ y∈l.take i,zc0 y x<0)->(∀ h:i<l.length,¬zc0 l[i] x<0)->insU zc0 x l=if ∃ h:i<l.length,zc0 l[i] x=0 then l else l.take i++x::l.drop i
 |[],i,h1,_,_=>by
  have:i=0:=by simpa using h1
  subst this;simp [insU]
 |y::l,0,_,_,a=>by
  have:=a (by simp);simp only [getElem_cons_zero] at this;unfold insU;rw [if_neg this];simp_all
 |y::l,i+1,h1,b,a=>by
  have d:=b y (by simp);unfold insU;rw [if_pos d,yel x l i (by simpa using h1) (fun z c=>b z (by simp [c])) (fun h=>by simp_all)];by_cases q:∃ h:i<l.length,zc0 l[i] x=0;all_goals simp_all
theorem yi2 (n:Nat)(o:1000000000<n)(x:Ma)(m:maOk x=true)(l:List Ma)(j:∀ x∈l,maOk x=true)(s:l.length<=1000000):z9q n l x=some (insU zc0 x l):=by
 unfold z9q;refine y85 n o x m l j s _ _ (fun i hi h1 t=>?_) n 0 (by omega) (by omega) (by simp);rw [yel x l i hi h1 t];simp only [z3g,z1s,z72,length_map,z0f,zae];have k:∀ z:Ma,z=x->(sls l 0 (i:Int) fun g=>app ([]:List Ma) g 24 fun f=>app f [z] 24 fun e=>sls l (i:Int) ((l.length:Nat):Int) fun d=>app e d 24 fun c=>some c)=some (l.take i++x::l.drop i):=fun z r=>by
  subst r;have p:=zri (l:=l) (a:=0) (b:=i) (Nat.zero_le _) hi (fun g=>app ([]:List Ma) g 24 fun f=>app f [z] 24 fun e=>sls l (i:Int) ((l.length:Nat):Int) fun d=>app e d 24 fun c=>some c);simp only [Int.natCast_zero] at p;rw [p,drop_zero,zcu (by simp;omega) (by omega),nil_append,zcu (by simp;omega) (by omega),zri hi (Nat.le_refl _),zcu (by simp;omega) (by omega),take_length];simp
 by_cases h:i<l.length
 ·rw [if_pos (by omega),z0r h,yny n _ _ (by have:=(zhu _).1 (j _ (getElem_mem h));exact Nat.lt_of_le_of_lt this o) ((zhu _).1 m) ((zhu _).1 (j _ (getElem_mem h))),z05];by_cases q:zc0 l[i] x=0;all_goals simp_all
 grind
theorem y4p {x:Ma}(b:maOk x=true){l:List Ma}(c:∀ y∈l,maOk y=true):∀ y∈insU zc0 x l,maOk y=true:=fun y a=>by
 rcases (zvl zge x y l).1 a with h|h
 all_goals simp_all
theorem ydn {s l:List Ma}(b:∀ y∈s,maOk y=true)(c:∀ y∈l,maOk y=true):∀ y∈puts zc0 s l,maOk y=true:=fun y a=>by
 rcases (zt7 zge y l s).1 a with h|h
 ·exact b y h
 ·exact c y h
theorem yni {l:List Cf}(h:∀ x∈l,cfOk x=true):∀ x∈setL zev l,cfOk x=true:=fun x a=>h x ((zi7 zgf x l).1 a)
def zfa (e:Ev):Bool:=decide (0<=e.fTime) && (decide (e.fTime<=1099511627776) && (decide (0<=e.fSource) && (decide (e.fSource<8) && (decide (0<=e.fSeq) && decide (e.fSeq<=1099511627776)))))
def idt (e:Ev):z9v:=⟨e.fSource,e.fSeq⟩
theorem yl2 (n:Nat)(e:Ev):zgx n e=some (zfa e):=by
 unfold zgx zfa
 simp only [z0f]
 repeat' split
 all_goals (simp_all<;>omega)
theorem yhw (n:Nat)(e:Ev):zba n e=some (zfa e):=by
 unfold zba zfa
 simp only [z0f]
 repeat' split
 all_goals (simp_all<;>omega)
theorem yrw (n:Nat)(e:Ev):zi0 n e=some (idt e):=rfl
theorem yo0 (n:Nat)(e:Ev):z9s n e=some ⟨e.fTime,e.fSource,e.fSeq⟩:=rfl
def ze0 (e:Ev):z18:=⟨e.fTime,e.fSource,e.fSeq⟩
def zlf (a b:Ev):Int:=rCmp (ze0 a) (ze0 b)
theorem ys0 (n:Nat)(e:4<=n)(a b:Ev):zh8 n a b=some (zlf a b):=by
 obtain ⟨m,rfl⟩:∃ m,n=m+4:=⟨n-4,by omega⟩;unfold zh8 zkp;simp only [z05,yc5,ylr,Bool.and_true,z52,Bool.and_eq_true,decide_eq_true_eq];split
 ·rename_i h;obtain ⟨h1,d,c⟩:=h;simp [zlf,rCmp,ze0,or3,cmpI,h1,d,c]
 ·rfl
theorem ymj (n:Nat)(a b:Ev):zas n a b=some (decide (idt a=idt b)):=by
 unfold zas;simp only [z0f];split
 ·rename_i h;simp [idt,h]
 ·rename_i h;simp [idt,h]
def few1 (l:List z04):Bool:=(l.take 40).all (fun v=>decide (v.fText.size<=128)) && decide (l.length<40)
theorem y8f (n:Nat)(l:List z04)(K:Option Bool):∀ (m k:Nat),k<=l.length->k<=40->40<m+k->z9c n l K m k=if ((l.take 40).drop k).all (fun v=>decide (v.fText.size<=128)) then K else some false
 |0,k,h1,d,c=>by omega
 |m+1,k,h1,d,c=>by
  unfold z9c;simp only [length_map,z0f];by_cases h:k<l.length
  ·rw [if_pos (by omega)];by_cases e:k<40
   ·rw [if_pos (by omega),z0r h,z27 k (by omega)];have a:k<(l.take 40).length:=by rw [length_take];omega
    rw [z0e (l.take 40) k a,all_cons,getElem_take];by_cases b:l[k].fText.size<=128
    ·rw [if_neg (by omega),y8f n l K m (k+1) (by omega) (by omega) (by omega)];simp [b]
    grind
   grind
  ·rw [if_neg (by omega),drop_eq_nil_of_le (by rw [length_take];omega)];simp
theorem yqf (n:Nat)(l:List z04)(a:41<=n):zdi n l=some (few1 l):=by
 unfold zdi few1;have:=y8f n l (some (decide ((((List.map z09 l).length:Nat):Int)<40))) n 0 (by omega) (by omega) (by omega);simp only [Int.natCast_zero,drop_zero] at this;rw [this];simp only [length_map];split
 ·rename_i h;rw [h];simp;omega
 ·rename_i h;simp only [Bool.not_eq_true] at h;rw [h];rfl
def fewE (l:List Ev):Bool:=(l.take 20).all (fun e=>decide (e.fValues.length<=12) && few1 e.fValues) && decide (l.length<=12)
theorem y8e (n:Nat)(l:List Ev)(K:Option Bool)(a:41<=n):∀ (m k:Nat),k<=l.length->k<=20->20<m+k->z9b n l K m k=if ((l.take 20).drop k).all (fun e=>decide (e.fValues.length<=12) && few1 e.fValues) then K else some false
 |0,k,h1,d,c=>by omega
 |m+1,k,h1,d,c=>by
  unfold z9b;simp only [length_map,z0f,z12];by_cases h:k<l.length
  ·rw [if_pos (by omega)];by_cases g:k<20
   ·rw [if_pos (by omega),z0r h,z27 k (by omega)];have b:k<(l.take 20).length:=by rw [length_take];omega
    rw [z0e (l.take 20) k b,all_cons,getElem_take];by_cases f:l[k].fValues.length<=12
    ·rw [if_neg (by omega),z0r h,yqf n _ a,z05,z52,y8e n l K a m (k+1) (by omega) (by omega) (by omega)];grind
    grind
   grind
  ·rw [if_neg (by omega),drop_eq_nil_of_le (by rw [length_take];omega)];simp
theorem yqe (n:Nat)(l:List Ev)(a:41<=n):zdh n l=some (fewE l):=by
 unfold zdh fewE;have:=y8e n l (some (decide ((((List.map z02 l).length:Nat):Int)<=12))) a n 0 (by omega) (by omega) (by omega);simp only [Int.natCast_zero,drop_zero] at this;rw [this];simp only [length_map];split
 ·rename_i h;rw [h];simp;omega
 ·rename_i h;simp only [Bool.not_eq_true] at h;rw [h];rfl
theorem ylp {l:List Ev}(h:fewE l=true):l.length<=12/\∀ e∈l,e.fValues.length<=12:=by
 unfold fewE at h;simp only [Bool.and_eq_true,decide_eq_true_eq,all_eq_true] at h;refine ⟨h.2,fun e a=>(h.1 e ?_).1⟩;rw [take_of_length_le (by omega)];exact a
def y38:List Ev->Ev->Bool |[],_=>false |x::_,e=>decide (0<=zlf x e)
def chk:List Ev->List Ev->Int
 |_,[]=>0
 |p,e::r=>if zfa e=false then 2 else if y38 p e=true then 14 else if p.any (fun x=>decide (idt x=idt e)) then 7 else chk (e::p) r
def zlh (l:List Ev):Int:=if 4096<l.length then 5 else chk [] l
def ya9 (m:List (z9v×Bool))(p:List Ev):Prop:=∀ k,(mlk m k).getD false=p.any (fun x=>decide (idt x=k))
theorem yeh {b d:Type}[DecidableEq b](l:List (b×d))(k:b)(v:d)(c:b):mlk (mput l k v) c=if c=k then some v else mlk l c:=by
 induction l with
 |nil=>simp [mput,mlk]
 |cons a r ih =>
  obtain ⟨a,x⟩:=a;simp only [mput];by_cases h:k=a
  ·subst h;rw [if_pos rfl];simp only [mlk];simp_all
  ·rw [if_neg h];simp only [mlk,ih];grind
theorem ya9.put {m:List (z9v×Bool)}{p:List Ev}(h:ya9 m p)(e:Ev):ya9 (mput m (idt e) true) (e::p):=fun k=>by
 rw [yeh,any_cons];by_cases a:k=idt e
 ·subst a;simp
 ·rw [if_neg a,h k];grind
theorem zyd {l:List Ev}{k:Nat}(h:k<l.length):(l.take (k+1)).reverse=l[k]::(l.take k).reverse:=by
 simp_all
theorem ydi {l:List Ev}{k:Nat}(a:0<k)(h:k<=l.length):∃ t,(l.take k).reverse=l[k-1]::t:=by
 obtain ⟨j,rfl⟩:∃ j,k=j+1:=⟨k-1,by omega⟩;exact ⟨_,by rw [zyd (by omega)];rfl⟩
theorem y71 {k:Nat}(a:0<k)(h:k<=1000000):IntKind.wrap .i64 ((k:Int)-1)=((k-1:Nat):Int):=by rw [zga _ (by omega)];omega
theorem yqs {b a d:Type}[DecidableEq b](l:List (b×a))(k:b)(z:a)(c:a->Bool->Option d):mgt l k z c=c ((mlk l k).getD z) (mlk l k).isSome:=by unfold mgt;rfl
theorem ymu {a b d:Type}[DecidableEq a](l:List (a×b))(k:a)(v:b)(c:List (a×b)->Option d):mst l k v c=c (mput l k v):=by unfold mst;rfl
theorem ye3 (n:Nat)(d:4<=n)(l:List Ev):∀ (m k:Nat) (a:List (z9v×Bool)),k<=l.length->l.length<=1000000->l.length<m+k->ya9 a (l.take k).reverse ->
  zbh n l (some 0) m ((k:Int),a)=some (chk (l.take k).reverse (l.drop k))
 |0,k,_,h1,o,r,_=>by omega
 |m+1,k,a,h1,o,r,j=>by
  unfold zbh;simp only [length_map,z0f,z12];by_cases h:k<l.length
  ·rw [if_pos (by omega),z0r h,z27 k (by omega)];rw [z0e l k h];conv=>rhs;unfold chk
   have i:ya9 (mput a (idt l[k]) true) (l.take (k+1)).reverse:=by rw [zyd h];exact j.put _
   have f:=ye3 n d l m (k+1) _ (by omega) o (by omega) i;rw [zyd h] at f;have b:=j (idt l[k]);simp only [yl2,z05,yrw,z52,yqs,ymu,b,ys0 n d];by_cases g:zfa l[k]=true
   ·have c:¬zfa l[k]=false:=by rw [g];simp
    rw [if_pos g,if_neg c];by_cases e:0<k
    ·rw [if_pos (by omega),y71 e (by omega),z0r (by omega:k-1<l.length)];obtain ⟨t,p⟩:=ydi (l:=l) e h1
     try simp only [z05,decide_eq_true_eq]
     rw [p] at f ⊢;simp only [y38,decide_eq_true_eq];grind
    ·have q:k=0:=by omega
     subst q;rw [if_neg (by omega)];simp only [take_zero,reverse_nil,any_nil,y38,Bool.false_eq_true,if_false] at f ⊢;rw [f]
   ·have c:zfa l[k]=false:=by simpa using g
    rw [if_neg g,if_pos c]
  ·rw [if_neg (by omega),drop_eq_nil_of_le (by omega)];rfl
theorem yod (n:Nat)(l:List Ev)(c:l.length<n)(a:4<=n)(b:l.length<=1000000):zg4 n l=some (zlh l):=by
 unfold zg4 zlh;simp only [length_map,z0f];by_cases h:4096<l.length
 ·rw [if_pos (by omega),if_pos h]
 ·rw [if_neg (by omega),if_neg h];have:=ye3 n a l n 0 [] (by omega) b (by omega) (fun k=>rfl);simpa using this
theorem y83 (n:Nat)(l:List Ev)(i:Nat)(hi:i<l.length)(K:Option Int):∀ (m k:Nat),k<=i->l.length<=1000000->i<m+k->z7t n l (i:Int) K m k=if ((l.take i).drop k).any (fun x=>decide (idt x=idt l[i])) then some 7 else K
 |0,k,h1,a,c=>by omega
 |m+1,k,h1,a,c=>by
  unfold z7t;simp only [z0f];by_cases h:k<i
  ·rw [if_pos (by omega),z0r (by omega:k<l.length),z0r hi,z27 k (by omega),ymj,z05,z0f];have b:k<(l.take i).length:=by rw [length_take];omega
   rw [z0e (l.take i) k b,any_cons,getElem_take,y83 n l i hi K m (k+1) (by omega) a (by omega)];grind
  ·rw [if_neg (by omega),drop_eq_nil_of_le (by rw [length_take];omega)];simp
theorem y82 (n:Nat)(l:List Ev)(i:Nat)(hi:i<l.length)(K:Option Int):∀ (m k:Nat),k<=i->l.length<=1000000->i<m+k->z7s n l (i:Int) K m k=if ((l.take i).drop k).any (fun x=>decide (idt x=idt l[i])) then some 7 else K
 |0,k,h1,a,c=>by omega
 |m+1,k,h1,a,c=>by
  unfold z7s;simp only [z0f];by_cases h:k<i
  ·rw [if_pos (by omega),z0r (by omega:k<l.length),z0r hi,z27 k (by omega),ymj,z05,z0f];have b:k<(l.take i).length:=by rw [length_take];omega
   rw [z0e (l.take i) k b,any_cons,getElem_take,y82 n l i hi K m (k+1) (by omega) a (by omega)];grind
  grind
theorem y84 (n:Nat)(l:List Ev)(o:l.length<n):∀ (m k:Nat),k<=l.length->l.length<=1000000->l.length<m+k->z2d n l (some 0) m (k:Int)=some (chk (l.take k).reverse (l.drop k))
 |0,k,h1,i,q=>by omega
 |m+1,k,h1,i,q=>by
  unfold z2d;simp only [length_map,z0f,z12];by_cases h:k<l.length
  ·rw [if_pos (by omega),z0r h,z27 k (by omega)];rw [z0e l k h];conv=>rhs;unfold chk
   have f:=y84 n l o m (k+1) (by omega) i (by omega);rw [zyd h] at f;simp only [yhw,z05,z52];by_cases g:zfa l[k]=true
   ·have a:¬zfa l[k]=false:=by rw [g];simp
    rw [if_pos g,if_neg a];by_cases d:0<k
    ·rw [if_pos (by omega),y71 d (by omega),z0r (by omega:k-1<l.length)];obtain ⟨t,j⟩:=ydi (l:=l) d h1;simp only [z05,yo0];rw [z0r h];simp only [z05,ydq];have ec:rCmp ⟨l[k-1].fTime,l[k-1].fSource,l[k-1].fSeq⟩ ⟨l[k].fTime,l[k].fSource,l[k].fSeq⟩=zlf l[k-1] l[k]:=rfl;rw [ec];have c:=y83 n l k h (z2d n l (some 0) m ((k+1:Nat):Int)) n 0 (by omega) i (by omega);simp only [Int.natCast_zero,drop_zero] at c;rw [c,f];have e:(l.take k).any (fun x=>decide (idt x=idt l[k]))=(l.take k).reverse.any (fun x=>decide (idt x=idt l[k])):=by rw [any_reverse]
     rw [e,j];simp only [y38,decide_eq_true_eq];grind
    ·have p:k=0:=by omega
     subst p;rw [if_neg (by omega)];have b:=y82 n l 0 h (z2d n l (some 0) m ((0+1:Nat):Int)) n 0 (by omega) i (by omega);simp only [Int.natCast_zero,drop_zero] at b;simp only [Int.natCast_zero] at b ⊢;rw [b];simp only [take_zero,reverse_nil,any_nil,y38,Bool.false_eq_true,if_false] at f ⊢;rw [f]
   ·have a:zfa l[k]=false:=by simpa using g
    rw [if_neg g,if_pos a]
  ·rw [if_neg (by omega),drop_eq_nil_of_le (by omega)];rfl
theorem yi1 (n:Nat)(l:List Ev)(a:l.length<n)(b:l.length<=1000000):za4 n l=some (zlh l):=by
 unfold za4 zlh;simp only [length_map,z0f];by_cases h:4096<l.length
 ·rw [if_pos (by omega),if_pos h]
 ·rw [if_neg (by omega),if_neg h];have:=y84 n l a n 0 (by omega) b (by omega);simpa using this
end Go.Proofs.YtidhlpjgifoneaaGreat
