/- Layer 25. -/
import Derived.Test.YtidhlpjgifoneaaGreatK28
set_option linter.unusedVariables false
set_option linter.unusedSimpArgs false
namespace Go.Proofs.YtidhlpjgifoneaaGreat
open Go.RowKit List
theorem zy1 {β:Type}{i len:Nat}(h:i<=len)(k:Nat->Option β):nle (i:Int) len k=k i:=by unfold nle;simp [h]
theorem ylw {β:Type}{a b:Nat}(h:a<=b)(x:Option β):gle a b x=x:=by unfold gle;simp [h]
theorem yie {α β:Type}{l:List α}{lo:Nat}(h:lo<=l.length)(z:α)(k:List α->Option β):clr l lo z k=k (clrL l lo z):=by unfold clr;simp [h]
theorem y1d {β:Type}(i:Nat)(x:Option β):frb i x=x:=by unfold frb;rfl
theorem zyv {α:Type}(l:List α)(lo:Nat)(z:α)(h:lo<=l.length):(clrL l lo z).take lo=l.take lo:=by
 unfold clrL
 simp_all
theorem y48 {α:Type}(l:List α)(lo:Nat)(z:α)(h:lo<=l.length):(clrL l lo z).length=l.length:=by
 unfold clrL;simp;omega
theorem ydw (k:Nat)(h:1<=k)(h2:k<=1000000000000):IntKind.wrap .i64 ((k:Int)-1)=((k-1:Nat):Int):=by rw [zee _ (by omega)];omega
theorem yc1 (n:Nat)(a b:z1g):z9s n a b=some (rCmp a b):=by
 unfold z9s rCmp or3 cmpI
 simp only [z0c,z0x]
 grind
theorem ykd (n:Nat)(a b:Bd):zbh n a b=some (zrs a b):=by
 unfold zbh
 rw [yc1,z04]
 simp only [z0c,z0x,zrs,or2]
 have e:rCmp ⟨a.fRef.fTime,a.fRef.fSource,a.fRef.fSeq⟩ ⟨b.fRef.fTime,b.fRef.fSource,b.fRef.fSeq⟩=rCmp a.fRef b.fRef:=rfl
 rw [e]
 unfold cmpI
 grind
theorem yc3 (n:Nat)(b a:Ma)(hb:b.fBindings.length<=1000000000)(hal:a.fBindings.length<=1000000000)(K:Option Int)(hK:K=if a.fBindings.length<b.fBindings.length then some (-1) else if b.fBindings.length<a.fBindings.length then some 1 else some 0):∀ (m k:Nat),k<=a.fBindings.length->k<=b.fBindings.length->a.fBindings.length<m+k ->
  z2m n b a K m k=some (lexC zrs (a.fBindings.drop k) (b.fBindings.drop k))
 |0,k,h1,_,h3=>by omega
 |m+1,k,h1,h2,h3=>by
  unfold z2m
  simp only [z2i,z1e,z3h,length_map,z0c,z52,z65,z0x]
  by_cases h:k<a.fBindings.length
  ·rw [if_pos (by omega)]
   by_cases h':k<b.fBindings.length
   ·rw [if_pos (by omega),z0k h,z0k h',z0e _ k h,z0e _ k h']
    rw [ykd,z04,z1m k (by omega),yc3 n b a hb hal K hK m (k+1) (by omega) (by omega) (by omega)]
    show _=some (or2 (zrs _ _) _)
    unfold or2
    split<;>rfl
   ·rw [if_neg (by omega),hK,if_neg (by omega),if_pos (by omega),z0e _ k h,drop_eq_nil_of_le (by omega:b.fBindings.length<=k)]
    rfl
  ·rw [if_neg (by omega),hK,drop_eq_nil_of_le (by omega:a.fBindings.length<=k)]
   by_cases h':a.fBindings.length<b.fBindings.length
   ·rw [if_pos h',z0e _ k (by omega:k<b.fBindings.length)];rfl
   ·rw [if_neg h',if_neg (by omega),drop_eq_nil_of_le (by omega)];rfl
theorem ymy (n:Nat)(a b:Ma)(hn:a.fBindings.length<n)(hb:b.fBindings.length<=1000000000)(hal:a.fBindings.length<=1000000000):z5s n a b=some (z7s a b):=by
 unfold z5s
 have:=yc3 n b a hb hal _ rfl n 0 (by omega) (by omega) (by omega)
 simp only [Int.natCast_zero,drop_zero] at this
 rw [show z7s a b=lexC zrs a.fBindings b.fBindings from rfl,<-this]
 congr 1
 simp only [length_map,z0c]
 simp_all
theorem yc5 (n:Nat)(b a:Cf)(hb:b.fStarts.length<=1000000000)(hal:a.fStarts.length<=1000000000)(K:Option Int)(hK:K=if a.fStarts.length<b.fStarts.length then some (-1) else if b.fStarts.length<a.fStarts.length then some 1 else some 0):∀ (m k:Nat),k<=a.fStarts.length->k<=b.fStarts.length->a.fStarts.length<m+k ->
  z2k n b a K m k=some (lexC zua (a.fStarts.drop k) (b.fStarts.drop k))
 |0,k,h1,_,h3=>by omega
 |m+1,k,h1,h2,h3=>by
  unfold z2k
  simp only [z2i,z1e,z3g,z2l,length_map,z0c,z52,z65,z0x]
  by_cases h:k<a.fStarts.length
  ·rw [if_pos (by omega)]
   by_cases h':k<b.fStarts.length
   ·rw [if_pos (by omega),z0k h,z0k h',z0e _ k h,z0e _ k h']
    rw [z1m k (by omega),yc5 n b a hb hal K hK m (k+1) (by omega) (by omega) (by omega)]
    show _=some (or2 (zua _ _) _)
    unfold zua or2 cmpI
    generalize a.fStarts[k]=x
    generalize b.fStarts[k]=y
    simp only [z51,Bool.and_true,Bool.and_eq_true,decide_eq_true_eq]
    grind
   ·rw [if_neg (by omega),hK,if_neg (by omega),if_pos (by omega),z0e _ k h,drop_eq_nil_of_le (by omega:b.fStarts.length<=k)]
    rfl
  ·rw [if_neg (by omega),hK,drop_eq_nil_of_le (by omega:a.fStarts.length<=k)]
   by_cases h':a.fStarts.length<b.fStarts.length
   ·rw [if_pos h',z0e _ k (by omega:k<b.fStarts.length)];rfl
   ·rw [if_neg h',if_neg (by omega),drop_eq_nil_of_le (by omega)];rfl
theorem yn2 (n:Nat)(a b:Cf)(ha:cfOk a=true)(hb:cfOk b=true)(hn:a.fBindings.length<n)(hn2:a.fStarts.length<n):z5o n a b=some (zbo a b):=by
 obtain ⟨a1,a2⟩:=(zfd a).1 ha
 obtain ⟨b1,b2⟩:=(zfd b).1 hb
 unfold z5o
 rw [ymy n _ _ hn b1 a1,z04]
 have:=yc5 n b a b2 a2 _ rfl n 0 (by omega) (by omega) (by omega)
 simp only [Int.natCast_zero,drop_zero] at this
 simp only [length_map,z0c,z0x]
 have e:(if (a.fStarts.length:Int)<(b.fStarts.length:Int) then some (-1:Int) else if (b.fStarts.length:Int)<(a.fStarts.length:Int) then some 1 else some 0)=(if a.fStarts.length<b.fStarts.length then some (-1) else if b.fStarts.length<a.fStarts.length then some 1 else some 0):=by
  simp_all
 rw [e,this]
 show _=some (or3 (cmpI a.fState b.fState) (z7s ⟨a.fBindings⟩ ⟨b.fBindings⟩) _)
 unfold or3 cmpI
 grind
theorem ypv (n:Nat)(a b:Cf)(ha:cfOk a=true)(hb:cfOk b=true)(hn:1000000000<n):zcn n a b=some (decide (a=b)):=by
 unfold zcn
 obtain ⟨a1,a2⟩:=(zfd a).1 ha
 obtain ⟨b1,b2⟩:=(zfd b).1 hb
 rw [yru n a b (by omega) (by omega) (by omega) b1 a1 b2 a2]
 rw [z04]
 congr 1
 exact decide_eq_decide.2 (cfCmp_to.zero a b)
theorem zxz (n:Nat)(hn:1000000000<n)(l:List Cf)(hok:∀ x∈l,cfOk x=true)(hl:l.length<=1000000000)(x46:Nat)(hx:1<=x46)(K:Int->List Cf->Option (List Cf))(r:Option (List Cf))
  (hK:∀ (i:Nat) (cur:List Cf),cur.length=l.length->i<=l.length->cur.take i=dd l->K (i:Int) cur=r) :
  ∀ (m k j:Nat) (cur:List Cf),1<=j->k<=x46+j-1->x46+j<=l.length->l.length<m+j+x46->cur.length=l.length->cur.take k=dd (l.take (x46+j))->cur.drop (x46+j-1)=l.drop (x46+j-1)->z5x n x46 K m ((k:Int),(j:Int),cur)=r
 |0,k,j,cur,h0,h1,h2,h3,h4,h5,h6=>by omega
 |m+1,k,j,cur,h0,h1,h2,h3,h4,h5,h6=>by
  unfold z5x
  simp only [length_map]
  rw [ylw (by omega)]
  simp only [z0c]
  by_cases h:x46+j<l.length
  ·have e0:∀ i (h1:x46+j-1<=i) (h2:i<l.length),∃ h3:i<cur.length,cur[i]=l[i]:=fun i h1 h2=>by
    refine ⟨by omega,?_⟩
    have:=congrArg (fun q=>q[i-(x46+j-1)]?) h6
    simp only [getElem?_drop,show x46+j-1+(i-(x46+j-1))=i by omega] at this
    rw [getElem?_eq_getElem (by omega),getElem?_eq_getElem h2] at this
    exact Option.some.inj this
   obtain ⟨c1,c2⟩:=e0 (x46+j) (by omega) h
   obtain ⟨d1,d2⟩:=e0 (x46+(j-1)) (by omega) (by omega)
   rw [if_pos (by omega),zew (by omega),zi0 c1,ydw j h0 (by omega),zew (by omega),zi0 d1,c2,d2]
   rw [ypv n _ _ (hok _ (getElem_mem _)) (hok _ (getElem_mem _)) hn,z04,z0x,z0c,z1m j (by omega)]
   have htk:l.take (x46+(j+1))=l.take (x46+j)++[l[x46+j]]:=by rw [show x46+(j+1)=(x46+j)+1 by omega,take_succ_eq_append_getElem h]
   have hne:l.take (x46+j)≠[]:=by
    intro e
    have:=congrArg length e
    rw [length_take,length_nil] at this
    omega
   have hlast:(l.take (x46+j)).getLast hne=l[x46+(j-1)]:=by
    rw [getLast_eq_getElem]
    simp only [getElem_take]
    congr 1
    simp only [length_take]
    omega
   have hd6:cur.drop (x46+(j+1)-1)=l.drop (x46+(j+1)-1):=by
    have:=congrArg List.tail h6
    simp only [tail_drop] at this
    rw [show x46+(j+1)-1=x46+j-1+1 by omega]
    exact this
   by_cases he:l[x46+j]=l[x46+(j-1)]
   ·rw [if_pos he]
    refine zxz n hn l hok hl x46 hx K r hK m k (j+1) cur (by omega) (by omega) (by omega) (by omega) h4 ?_ hd6
    rw [htk,zq1 _ _ hne,hlast,if_pos he,append_nil,h5]
   ·rw [if_neg he,zew (by omega),zi0 c1,zew (by omega),y0i (by omega),z1m k (by omega)]
    have hset:∀ z:Cf,(cur.set k z).take (k+1)=cur.take k++[z]:=fun z=>by
     have hk:k<cur.length:=by omega
     rw [take_succ_eq_append_getElem (by simpa using hk),getElem_set_self,take_set_of_le (Nat.le_refl _)]
    have c2':cur[x46+j]=l[x46+j]:=c2
    refine zxz n hn l hok hl x46 hx K r hK m (k+1) (j+1) _ (by omega) (by omega) (by omega) (by omega) (by simpa using h4) ?_ ?_
    ·rw [hset,htk,zq1 _ _ hne,hlast,if_neg he,h5]
     exact congrArg (fun q=>dd (l.take (x46+j))++[q]) c2'
    ·rw [drop_set_of_lt (by omega)]
     exact hd6
  ·rw [if_neg (by omega)]
   refine hK k cur h4 (by omega) ?_
   rw [h5,take_of_length_le (by omega)]
theorem y6k (n:Nat)(hn:1000000000<n)(l:List Cf)(hok:∀ x∈l,cfOk x=true)(hl:l.length<=1000000000)(h1l:1<=l.length):∀ (m k:Nat),1<=k->k<=l.length->l.length<m+k->dd (l.take k)=l.take k->z8g n l (some l) m (k:Int)=some (dd l)
 |0,k,h0,h1,h2,_=>by omega
 |m+1,k,h0,h1,h2,h3=>by
  unfold z8g
  simp only [length_map,z0c]
  by_cases h:k<l.length
  ·rw [if_pos (by omega),zew h,zi0 h,ydw k h0 (by omega),zew (by omega),zi0 (by omega)]
   rw [ypv n _ _ (hok _ (getElem_mem _)) (hok _ (getElem_mem _)) hn,z04,z0c,z1m k (by omega)]
   have htk:l.take (k+1)=l.take k++[l[k]]:=take_succ_eq_append_getElem h
   have hne:l.take k≠[]:=by
    intro e
    have:=congrArg length e
    rw [length_take,length_nil] at this
    omega
   have hlast:(l.take k).getLast hne=l[k-1]:=by
    rw [getLast_eq_getElem]
    simp only [getElem_take]
    congr 1
    simp only [length_take]
    omega
   by_cases he:l[k]=l[k-1]
   ·rw [if_pos he,zy1 (by omega)]
    have:=zxz n hn l hok hl k h0 (fun k2_1_0y0 k2_1_0y1=>nle k2_1_0y0 k2_1_0y1.length fun x89 =>
     clr k2_1_0y1 x89 (⟨0,[],[]⟩:z00) fun x90 =>
     sls x90 0 k2_1_0y0 fun x91=>some x91) (some (dd l)) (fun i cur hc hi ht=>by
      show nle (i:Int) cur.length (fun x89=>clr cur x89 (⟨0,[],[]⟩:z00) fun x90=>sls x90 0 (i:Int) fun x91=>some x91)=some (dd l)
      rw [zy1 (by omega),yie (by omega)]
      have:=ziz (l:=clrL cur i (⟨0,[],[]⟩:z00)) (a:=0) (b:=i) (Nat.zero_le _) (by rw [y48 _ _ _ (by omega)];omega) (fun x91=>some x91)
      simp only [Int.natCast_zero] at this
      rw [this,drop_zero,zyv _ _ _ (by omega),ht]) n k 1 l (by omega) (by omega) (by omega) (by omega) rfl (by rw [htk,zq1 _ _ hne,hlast,if_pos he,append_nil,h3]) rfl
    have e1:((1:Nat):Int)=1:=rfl
    rw [e1] at this
    exact this
   ·rw [if_neg he]
    refine y6k n hn l hok hl h1l m (k+1) (by omega) (by omega) (by omega) ?_
    rw [htk,zq1 _ _ hne,hlast,if_neg he,h3]
  ·rw [if_neg (by omega)]
   rw [take_of_length_le (by omega)] at h3
   rw [h3]
theorem ypz (n:Nat)(hn:1000000000<n)(l:List Cf)(hok:∀ x∈l,cfOk x=true)(hl:l.length<=1000000000):zc4 n l=some (dd l):=by
 unfold zc4
 simp only [length_map,z0c]
 by_cases h:l.length<2
 ·rw [if_pos (by omega)]
  match l,h with
  |[],_=>rfl
  |[x],_=>rfl
 ·rw [if_neg (by omega)]
  refine y6k n hn l hok hl (by omega) n 1 (by omega) (by omega) (by omega) ?_
  match l,h with
  |[],h=>exact absurd (by simp) h
  |[x],h=>exact absurd (by simp) h
  |x::y::q,_=>rfl
theorem yga (n:Nat)(hn:1000000000<n)(l:List Cf)(hok:∀ x∈l,cfOk x=true)(hl:l.length<=1000000000):zh1 n l=some (setL zbo l):=by
 unfold zh1
 rw [ybm cfCmp_to n l hok hl]
 simp only [zz1,y1d,z1e]
 have hp:=zhk zbo l
 rw [ypz n hn _ (fun x hx=>hok x (hp.mem_iff.1 hx)) (by rw [hp.length_eq];exact hl),z7u,yi5 cfCmp_to]
theorem y65 (n:Nat)(hn:1000000000<n)(x:Cf)(hx:cfOk x=true)(l:List Cf)(hok:∀ x∈l,cfOk x=true)(hl:l.length<=1000000)(K:Int->Option (List Cf))(r:Option (List Cf))
  (hK:∀ i:Nat,i<=l.length->(∀ y∈l.take i,zbo y x<0)->(∀ h:i<l.length,¬zbo l[i] x<0)->K i=r):∀ (m k:Nat),k<=l.length->l.length<m+k->(∀ y∈l.take k,zbo y x<0)->z4b n x l K m (k:Int)=r
 |0,k,h1,h2,_=>by omega
 |m+1,k,h1,h2,h3=>by
  unfold z4b
  simp only [z2i,z1e,z6n,length_map,z0c,z65]
  by_cases h:k<l.length
  ·rw [if_pos (by omega),z0k h,yn2 n _ x (hok _ (getElem_mem h)) hx (by have:=(zfd _).1 (hok _ (getElem_mem h));omega) (by have:=(zfd _).1 (hok _ (getElem_mem h));omega),z04]
   by_cases hc:zbo l[k] x<0
   ·rw [if_pos hc,z1m k (by omega)]
    refine y65 n hn x hx l hok hl K r hK m (k+1) (by omega) (by omega) (fun y hy=>?_)
    rw [take_succ_eq_append_getElem h,mem_append,mem_singleton] at hy
    rcases hy with hy|hy
    ·exact h3 y hy
    ·rw [hy];exact hc
   ·rw [if_neg hc]
    exact hK k h1 h3 (fun _=>hc)
  ·rw [if_neg (by omega)]
   exact hK k h1 h3 (fun h'=>absurd h' h)
theorem yd3 (x:Cf):∀ (l:List Cf) (i:Nat),i<=l.length->(∀ y∈l.take i,zbo y x<0)->(∀ h:i<l.length,¬zbo l[i] x<0)->insU zbo x l=if ∃ h:i<l.length,zbo l[i] x=0 then l else l.take i++x::l.drop i
 |[],i,h1,_,_=>by
  have:i=0:=by simpa using h1
  subst this
  simp [insU]
 |y::l,0,_,_,h3=>by
  have:=h3 (by simp)
  simp only [getElem_cons_zero] at this
  unfold insU
  rw [if_neg this]
  simp_all
 |y::l,i+1,h1,h2,h3=>by
  have hy:=h2 y (by simp)
  unfold insU
  rw [if_pos hy,yd3 x l i (by simpa using h1) (fun z hz=>h2 z (by simp [hz])) (fun h=>by simp_all)]
  by_cases q:∃ h:i<l.length,zbo l[i] x=0
  all_goals simp_all
theorem ygr (n:Nat)(hn:1000000000<n)(x:Cf)(hx:cfOk x=true)(l:List Cf)(hok:∀ x∈l,cfOk x=true)(hl:l.length<=1000000):z9e n l x=some (insU zbo x l):=by
 unfold z9e
 refine y65 n hn x hx l hok hl _ _ (fun i hi h1 h2=>?_) n 0 (by omega) (by omega) (by simp)
 rw [yd3 x l i hi h1 h2]
 simp only [z2i,z1e,z6o,length_map,z0c,z65]
 have hlast:∀ z:Cf,z=x->(sls l 0 (i:Int) fun x45=>app ([]:List Cf) x45 56 fun x46=>app x46 [z] 56 fun x47=>sls l (i:Int) ((l.length:Nat):Int) fun x48=>app x47 x48 56 fun x49=>some x49)=some (l.take i++x::l.drop i):=fun z hz=>by
  subst hz
  have e1:=ziz (l:=l) (a:=0) (b:=i) (Nat.zero_le _) hi (fun x45=>app ([]:List Cf) x45 56 fun x46=>app x46 [z] 56 fun x47=>sls l (i:Int) ((l.length:Nat):Int) fun x48=>app x47 x48 56 fun x49=>some x49)
  simp only [Int.natCast_zero] at e1
  rw [e1,drop_zero,zbc (by simp;omega) (by omega),nil_append,zbc (by simp;omega) (by omega),ziz hi (Nat.le_refl _),zbc (by simp;omega) (by omega),take_length]
  simp
 by_cases h:i<l.length
 ·rw [if_pos (by omega),z0k h,yn2 n _ x (hok _ (getElem_mem h)) hx (by have:=(zfd _).1 (hok _ (getElem_mem h));omega) (by have:=(zfd _).1 (hok _ (getElem_mem h));omega),z04]
  by_cases q:zbo l[i] x=0
  all_goals simp_all
 grind
theorem y0q (n:Nat)(hn:1000000000<n)(b a:List Cf)(ha:∀ x∈a,cfOk x=true)(hb:∀ x∈b,cfOk x=true)(hl:a.length=b.length)(h2:a.length<=1000000):∀ (m k:Nat),k<=a.length->a.length<m+k->z8a n b a (some true) m (k:Int)=some (decide (a.drop k=b.drop k))
 |0,k,h1,h3=>by omega
 |m+1,k,h1,h3=>by
  unfold z8a
  simp only [length_map,z0c,z0x]
  by_cases h:k<a.length
  ·rw [if_pos (by omega),z0k h,z0k (by omega:k<b.length),yn2 n _ _ (ha _ (getElem_mem h)) (hb _ (getElem_mem _)) (by have:=(zfd _).1 (ha _ (getElem_mem h));omega) (by have:=(zfd _).1 (ha _ (getElem_mem h));omega),z04,z1m k (by omega)]
   have e:(a.drop k=b.drop k) ↔ (a[k]=b[k]'(by omega)/\a.drop (k+1)=b.drop (k+1)):=by
    rw [z0e a k h,z0e b k (by omega),List.cons.injEq]
   by_cases he:a[k]=b[k]'(by omega)
   ·rw [if_pos ((cfCmp_to.zero _ _).2 he),y0q n hn b a ha hb hl h2 m (k+1) (by omega) (by omega)]
    simp_all
   ·rw [if_neg (fun q=>he ((cfCmp_to.zero _ _).1 q)),decide_eq_false (fun q=>he (e.1 q).1)]
  grind
theorem ymv (n:Nat)(hn:1000000000<n)(a b:List Cf)(ha:∀ x∈a,cfOk x=true)(hb:∀ x∈b,cfOk x=true)(h2:a.length<=1000000):zbx n a b=some (decide (a=b)):=by
 unfold zbx
 simp only [length_map,z0c,z0x]
 by_cases h:a.length=b.length
 ·rw [if_pos (by omega)]
  have:=y0q n hn b a ha hb h h2 n 0 (by omega) (by omega)
  simpa using this
 ·rw [if_neg (by omega)]
  have:a≠b:=fun e=>h (by rw [e])
  simp [this]
theorem yd1 {x:Cf}(hx:cfOk x=true){l:List Cf}(hl:∀ y∈l,cfOk y=true):∀ y∈insU zbo x l,cfOk y=true:=fun y hy=>by
 rcases (ztf cfCmp_to x y l).1 hy with h|h
 all_goals simp_all
theorem yjw {s l:List Cf}(hs:∀ y∈s,cfOk y=true)(hl:∀ y∈l,cfOk y=true):∀ y∈puts zbo s l,cfOk y=true:=fun y hy=>by
 rcases (zkh cfCmp_to y l s).1 hy with h|h
 ·exact hs y h
 ·exact hl y h
theorem ypu (n:Nat)(a b:Ma)(ha:maOk a=true)(hb:maOk b=true)(hn:1000000000<n):zcm n a b=some (decide (a=b)):=by
 unfold zcm
 rw [f_ma n _ _ (by have:=(zgt _).1 ha;exact Nat.lt_of_le_of_lt this hn) (by omega) ((zgt _).1 hb) ((zgt _).1 ha)]
 rw [z04]
 congr 1
 exact decide_eq_decide.2 (zbe.zero a b)
theorem zxy (n:Nat)(hn:1000000000<n)(l:List Ma)(hok:∀ x∈l,maOk x=true)(hl:l.length<=1000000000)(x46:Nat)(hx:1<=x46)(K:Int->List Ma->Option (List Ma))(r:Option (List Ma))
  (hK:∀ (i:Nat) (cur:List Ma),cur.length=l.length->i<=l.length->cur.take i=dd l->K (i:Int) cur=r) :
  ∀ (m k j:Nat) (cur:List Ma),1<=j->k<=x46+j-1->x46+j<=l.length->l.length<m+j+x46->cur.length=l.length->cur.take k=dd (l.take (x46+j))->cur.drop (x46+j-1)=l.drop (x46+j-1)->z2r n x46 K m ((k:Int),(j:Int),cur)=r
 |0,k,j,cur,h0,h1,h2,h3,h4,h5,h6=>by omega
 |m+1,k,j,cur,h0,h1,h2,h3,h4,h5,h6=>by
  unfold z2r
  simp only [length_map]
  rw [ylw (by omega)]
  simp only [z0c]
  by_cases h:x46+j<l.length
  ·have e0:∀ i (h1:x46+j-1<=i) (h2:i<l.length),∃ h3:i<cur.length,cur[i]=l[i]:=fun i h1 h2=>by
    refine ⟨by omega,?_⟩
    have:=congrArg (fun q=>q[i-(x46+j-1)]?) h6
    simp only [getElem?_drop,show x46+j-1+(i-(x46+j-1))=i by omega] at this
    rw [getElem?_eq_getElem (by omega),getElem?_eq_getElem h2] at this
    exact Option.some.inj this
   obtain ⟨c1,c2⟩:=e0 (x46+j) (by omega) h
   obtain ⟨d1,d2⟩:=e0 (x46+(j-1)) (by omega) (by omega)
   rw [if_pos (by omega),zew (by omega),zi0 c1,ydw j h0 (by omega),zew (by omega),zi0 d1,c2,d2]
   rw [ypu n _ _ (hok _ (getElem_mem _)) (hok _ (getElem_mem _)) hn,z04,z0x,z0c,z1m j (by omega)]
   have htk:l.take (x46+(j+1))=l.take (x46+j)++[l[x46+j]]:=by rw [show x46+(j+1)=(x46+j)+1 by omega,take_succ_eq_append_getElem h]
   have hne:l.take (x46+j)≠[]:=by
    intro e
    have:=congrArg length e
    rw [length_take,length_nil] at this
    omega
   have hlast:(l.take (x46+j)).getLast hne=l[x46+(j-1)]:=by
    rw [getLast_eq_getElem]
    simp only [getElem_take]
    congr 1
    simp only [length_take]
    omega
   have hd6:cur.drop (x46+(j+1)-1)=l.drop (x46+(j+1)-1):=by
    have:=congrArg List.tail h6
    simp only [tail_drop] at this
    rw [show x46+(j+1)-1=x46+j-1+1 by omega]
    exact this
   by_cases he:l[x46+j]=l[x46+(j-1)]
   ·rw [if_pos he]
    refine zxy n hn l hok hl x46 hx K r hK m k (j+1) cur (by omega) (by omega) (by omega) (by omega) h4 ?_ hd6
    rw [htk,zq1 _ _ hne,hlast,if_pos he,append_nil,h5]
   ·rw [if_neg he,zew (by omega),zi0 c1,zew (by omega),y0i (by omega),z1m k (by omega)]
    have hset:∀ z:Ma,(cur.set k z).take (k+1)=cur.take k++[z]:=fun z=>by
     have hk:k<cur.length:=by omega
     rw [take_succ_eq_append_getElem (by simpa using hk),getElem_set_self,take_set_of_le (Nat.le_refl _)]
    have c2':cur[x46+j]=l[x46+j]:=c2
    refine zxy n hn l hok hl x46 hx K r hK m (k+1) (j+1) _ (by omega) (by omega) (by omega) (by omega) (by simpa using h4) ?_ ?_
    ·rw [hset,htk,zq1 _ _ hne,hlast,if_neg he,h5]
     exact congrArg (fun q=>dd (l.take (x46+j))++[q]) c2'
    ·rw [drop_set_of_lt (by omega)]
     exact hd6
  ·rw [if_neg (by omega)]
   refine hK k cur h4 (by omega) ?_
   rw [h5,take_of_length_le (by omega)]
theorem y6j (n:Nat)(hn:1000000000<n)(l:List Ma)(hok:∀ x∈l,maOk x=true)(hl:l.length<=1000000000)(h1l:1<=l.length):∀ (m k:Nat),1<=k->k<=l.length->l.length<m+k->dd (l.take k)=l.take k->z49 n l (some l) m (k:Int)=some (dd l)
 |0,k,h0,h1,h2,_=>by omega
 |m+1,k,h0,h1,h2,h3=>by
  unfold z49
  simp only [length_map,z0c]
  by_cases h:k<l.length
  ·rw [if_pos (by omega),zew h,zi0 h,ydw k h0 (by omega),zew (by omega),zi0 (by omega)]
   rw [ypu n _ _ (hok _ (getElem_mem _)) (hok _ (getElem_mem _)) hn,z04,z0c,z1m k (by omega)]
   have htk:l.take (k+1)=l.take k++[l[k]]:=take_succ_eq_append_getElem h
   have hne:l.take k≠[]:=by
    intro e
    have:=congrArg length e
    rw [length_take,length_nil] at this
    omega
   have hlast:(l.take k).getLast hne=l[k-1]:=by
    rw [getLast_eq_getElem]
    simp only [getElem_take]
    congr 1
    simp only [length_take]
    omega
   by_cases he:l[k]=l[k-1]
   ·rw [if_pos he,zy1 (by omega)]
    have:=zxy n hn l hok hl k h0 (fun k2_1_0y0 k2_1_0y1=>nle k2_1_0y0 k2_1_0y1.length fun x89 =>
     clr k2_1_0y1 x89 (⟨[]⟩:z06) fun x90 =>
     sls x90 0 k2_1_0y0 fun x91=>some x91) (some (dd l)) (fun i cur hc hi ht=>by
      show nle (i:Int) cur.length (fun x89=>clr cur x89 (⟨[]⟩:z06) fun x90=>sls x90 0 (i:Int) fun x91=>some x91)=some (dd l)
      rw [zy1 (by omega),yie (by omega)]
      have:=ziz (l:=clrL cur i (⟨[]⟩:z06)) (a:=0) (b:=i) (Nat.zero_le _) (by rw [y48 _ _ _ (by omega)];omega) (fun x91=>some x91)
      simp only [Int.natCast_zero] at this
      rw [this,drop_zero,zyv _ _ _ (by omega),ht]) n k 1 l (by omega) (by omega) (by omega) (by omega) rfl (by rw [htk,zq1 _ _ hne,hlast,if_pos he,append_nil,h3]) rfl
    have e1:((1:Nat):Int)=1:=rfl
    rw [e1] at this
    exact this
   ·rw [if_neg he]
    refine y6j n hn l hok hl h1l m (k+1) (by omega) (by omega) (by omega) ?_
    rw [htk,zq1 _ _ hne,hlast,if_neg he,h3]
  ·rw [if_neg (by omega)]
   rw [take_of_length_le (by omega)] at h3
   rw [h3]
theorem ypy (n:Nat)(hn:1000000000<n)(l:List Ma)(hok:∀ x∈l,maOk x=true)(hl:l.length<=1000000000):z9c n l=some (dd l):=by
 unfold z9c
 simp only [length_map,z0c]
 by_cases h:l.length<2
 ·rw [if_pos (by omega)]
  match l,h with
  |[],_=>rfl
  |[x],_=>rfl
 ·rw [if_neg (by omega)]
  refine y6j n hn l hok hl (by omega) n 1 (by omega) (by omega) (by omega) ?_
  match l,h with
  |[],h=>exact absurd (by simp) h
  |[x],h=>exact absurd (by simp) h
  |x::y::q,_=>rfl
theorem yg9 (n:Nat)(hn:1000000000<n)(l:List Ma)(hok:∀ x∈l,maOk x=true)(hl:l.length<=1000000000):zb6 n l=some (setL z7s l):=by
 unfold zb6
 rw [ybm zbe n l hok hl]
 simp only [zz1,y1d,z1e]
 have hp:=zhk z7s l
 rw [ypy n hn _ (fun x hx=>hok x (hp.mem_iff.1 hx)) (by rw [hp.length_eq];exact hl),z7u,yi5 zbe]
theorem y64 (n:Nat)(hn:1000000000<n)(x:Ma)(hx:maOk x=true)(l:List Ma)(hok:∀ x∈l,maOk x=true)(hl:l.length<=1000000)(K:Int->Option (List Ma))(r:Option (List Ma))
  (hK:∀ i:Nat,i<=l.length->(∀ y∈l.take i,z7s y x<0)->(∀ h:i<l.length,¬z7s l[i] x<0)->K i=r):∀ (m k:Nat),k<=l.length->l.length<m+k->(∀ y∈l.take k,z7s y x<0)->z4f n x l K m (k:Int)=r
 |0,k,h1,h2,_=>by omega
 |m+1,k,h1,h2,h3=>by
  unfold z4f
  simp only [z2i,z1e,z6s,length_map,z0c,z65]
  by_cases h:k<l.length
  ·rw [if_pos (by omega),z0k h,ymy n _ _ (by have:=(zgt _).1 (hok _ (getElem_mem h));exact Nat.lt_of_le_of_lt this hn) ((zgt _).1 hx) ((zgt _).1 (hok _ (getElem_mem h))),z04]
   by_cases hc:z7s l[k] x<0
   ·rw [if_pos hc,z1m k (by omega)]
    refine y64 n hn x hx l hok hl K r hK m (k+1) (by omega) (by omega) (fun y hy=>?_)
    rw [take_succ_eq_append_getElem h,mem_append,mem_singleton] at hy
    rcases hy with hy|hy
    ·exact h3 y hy
    ·rw [hy];exact hc
   ·rw [if_neg hc]
    exact hK k h1 h3 (fun _=>hc)
  ·rw [if_neg (by omega)]
   exact hK k h1 h3 (fun h'=>absurd h' h)
theorem yd2 (x:Ma):∀ (l:List Ma) (i:Nat),i<=l.length->(∀ y∈l.take i,z7s y x<0)->(∀ h:i<l.length,¬z7s l[i] x<0)->insU z7s x l=if ∃ h:i<l.length,z7s l[i] x=0 then l else l.take i++x::l.drop i
 |[],i,h1,_,_=>by
  have:i=0:=by simpa using h1
  subst this
  simp [insU]
 |y::l,0,_,_,h3=>by
  have:=h3 (by simp)
  simp only [getElem_cons_zero] at this
  unfold insU
  rw [if_neg this]
  simp_all
 |y::l,i+1,h1,h2,h3=>by
  have hy:=h2 y (by simp)
  unfold insU
  rw [if_pos hy,yd2 x l i (by simpa using h1) (fun z hz=>h2 z (by simp [hz])) (fun h=>by simp_all)]
  by_cases q:∃ h:i<l.length,z7s l[i] x=0
  all_goals simp_all
theorem ygq (n:Nat)(hn:1000000000<n)(x:Ma)(hx:maOk x=true)(l:List Ma)(hok:∀ x∈l,maOk x=true)(hl:l.length<=1000000):z9g n l x=some (insU z7s x l):=by
 unfold z9g
 refine y64 n hn x hx l hok hl _ _ (fun i hi h1 h2=>?_) n 0 (by omega) (by omega) (by simp)
 rw [yd2 x l i hi h1 h2]
 simp only [z2i,z1e,z6t,length_map,z0c,z65]
 have hlast:∀ z:Ma,z=x->(sls l 0 (i:Int) fun x45=>app ([]:List Ma) x45 24 fun x46=>app x46 [z] 24 fun x47=>sls l (i:Int) ((l.length:Nat):Int) fun x48=>app x47 x48 24 fun x49=>some x49)=some (l.take i++x::l.drop i):=fun z hz=>by
  subst hz
  have e1:=ziz (l:=l) (a:=0) (b:=i) (Nat.zero_le _) hi (fun x45=>app ([]:List Ma) x45 24 fun x46=>app x46 [z] 24 fun x47=>sls l (i:Int) ((l.length:Nat):Int) fun x48=>app x47 x48 24 fun x49=>some x49)
  simp only [Int.natCast_zero] at e1
  rw [e1,drop_zero,zbc (by simp;omega) (by omega),nil_append,zbc (by simp;omega) (by omega),ziz hi (Nat.le_refl _),zbc (by simp;omega) (by omega),take_length]
  simp
 by_cases h:i<l.length
 ·rw [if_pos (by omega),z0k h,ymy n _ _ (by have:=(zgt _).1 (hok _ (getElem_mem h));exact Nat.lt_of_le_of_lt this hn) ((zgt _).1 hx) ((zgt _).1 (hok _ (getElem_mem h))),z04]
  by_cases q:z7s l[i] x=0
  all_goals simp_all
 grind
theorem y2x {x:Ma}(hx:maOk x=true){l:List Ma}(hl:∀ y∈l,maOk y=true):∀ y∈insU z7s x l,maOk y=true:=fun y hy=>by
 rcases (ztf zbe x y l).1 hy with h|h
 all_goals simp_all
theorem ybt {s l:List Ma}(hs:∀ y∈s,maOk y=true)(hl:∀ y∈l,maOk y=true):∀ y∈puts z7s s l,maOk y=true:=fun y hy=>by
 rcases (zkh zbe y l s).1 hy with h|h
 ·exact hs y h
 ·exact hl y h
theorem ypg (n:Nat)(hn:1000000000<n)(l:List Cf)(hok:∀ x∈l,cfOk x=true)(hl:l.length<=100000):zmy n l=some (if 4096<(setL zbo l).length then ([],5) else (setL zbo l,0)):=by
 unfold zmy
 have hc:zao n l=some l:=by unfold zao;exact if_pos (by omega)
 rw [hc,zjg,yga n hn l hok (by omega)]
 simp only [z7u,z04,length_map,z0c]
 grind
theorem ymh {l:List Cf}(h:∀ x∈l,cfOk x=true):∀ x∈setL zbo l,cfOk x=true:=fun x hx=>h x ((zgs cfCmp_to x l).1 hx)
def zev (e:Ev):Bool:=decide (0<=e.fTime) && (decide (e.fTime<=1099511627776) && (decide (0<=e.fSource) && (decide (e.fSource<8) && (decide (0<=e.fSeq) && decide (e.fSeq<=1099511627776)))))
def idt (e:Ev):z9k:=⟨e.fSource,e.fSeq⟩
theorem yk7 (n:Nat)(e:Ev):zg7 n e=some (zev e):=by
 unfold zg7 zev
 simp only [z0c]
 repeat' split
 all_goals (simp_all<;>omega)
theorem yge (n:Nat)(e:Ev):zav n e=some (zev e):=by
 unfold zav zev
 simp only [z0c]
 repeat' split
 all_goals (simp_all<;>omega)
theorem yre (n:Nat)(e:Ev):zgz n e=some (idt e):=rfl
theorem yn0 (n:Nat)(e:Ev):z9i n e=some ⟨e.fTime,e.fSource,e.fSeq⟩:=rfl
def zci (e:Ev):z1g:=⟨e.fTime,e.fSource,e.fSeq⟩
def zib (a b:Ev):Int:=rCmp (zci a) (zci b)
theorem yrj (n:Nat)(hn:4<=n)(a b:Ev):zgc n a b=some (zib a b):=by
 obtain ⟨m,rfl⟩:∃ m,n=m+4:=⟨n-4,by omega⟩
 unfold zgc zjm
 simp only [z04,yab,ykw,Bool.and_true,z51,Bool.and_eq_true,decide_eq_true_eq]
 split
 ·rename_i h
  obtain ⟨h1,h2,h3⟩:=h
  simp [zib,rCmp,zci,or3,cmpI,h1,h2,h3]
 ·rfl
theorem ylk (n:Nat)(a b:Ev):zaf n a b=some (decide (idt a=idt b)):=by
 unfold zaf
 simp only [z0c]
 split
 ·rename_i h;simp [idt,h]
 ·rename_i h;simp [idt,h]
def few1 (l:List z05):Bool:=(l.take 40).all (fun v=>decide (v.fText.size<=128)) && decide (l.length<40)
theorem y6h (n:Nat)(l:List z05)(K:Option Bool):∀ (m k:Nat),k<=l.length->k<=40->40<m+k->z93 n l K m k=if ((l.take 40).drop k).all (fun v=>decide (v.fText.size<=128)) then K else some false
 |0,k,h1,h2,h3=>by omega
 |m+1,k,h1,h2,h3=>by
  unfold z93
  simp only [length_map,z0c]
  by_cases h:k<l.length
  ·rw [if_pos (by omega)]
   by_cases h4:k<40
   ·rw [if_pos (by omega),z0k h,z1m k (by omega)]
    have hk:k<(l.take 40).length:=by rw [length_take];omega
    rw [z0e (l.take 40) k hk,all_cons,getElem_take]
    by_cases h5:l[k].fText.size<=128
    ·rw [if_neg (by omega),y6h n l K m (k+1) (by omega) (by omega) (by omega)]
     simp [h5]
    grind
   grind
  ·rw [if_neg (by omega),drop_eq_nil_of_le (by rw [length_take];omega)];simp
theorem yps (n:Nat)(l:List z05)(hn:41<=n):zd4 n l=some (few1 l):=by
 unfold zd4 few1
 have:=y6h n l (some (decide ((((List.map z08 l).length:Nat):Int)<40))) n 0 (by omega) (by omega) (by omega)
 simp only [Int.natCast_zero,drop_zero] at this
 rw [this]
 simp only [length_map]
 split
 ·rename_i h;rw [h];simp;omega
 ·rename_i h;simp only [Bool.not_eq_true] at h;rw [h];rfl
def fewE (l:List Ev):Bool:=(l.take 20).all (fun e=>decide (e.fValues.length<=12) && few1 e.fValues) && decide (l.length<=12)
theorem y6g (n:Nat)(l:List Ev)(K:Option Bool)(hn:41<=n):∀ (m k:Nat),k<=l.length->k<=20->20<m+k->z92 n l K m k=if ((l.take 20).drop k).all (fun e=>decide (e.fValues.length<=12) && few1 e.fValues) then K else some false
 |0,k,h1,h2,h3=>by omega
 |m+1,k,h1,h2,h3=>by
  unfold z92
  simp only [length_map,z0c,z0x]
  by_cases h:k<l.length
  ·rw [if_pos (by omega)]
   by_cases h4:k<20
   ·rw [if_pos (by omega),z0k h,z1m k (by omega)]
    have hk:k<(l.take 20).length:=by rw [length_take];omega
    rw [z0e (l.take 20) k hk,all_cons,getElem_take]
    by_cases h5:l[k].fValues.length<=12
    ·rw [if_neg (by omega),z0k h,yps n _ hn,z04,z51,y6g n l K hn m (k+1) (by omega) (by omega) (by omega)]
     grind
    grind
   grind
  ·rw [if_neg (by omega),drop_eq_nil_of_le (by rw [length_take];omega)];simp
theorem ypr (n:Nat)(l:List Ev)(hn:41<=n):zd3 n l=some (fewE l):=by
 unfold zd3 fewE
 have:=y6g n l (some (decide ((((List.map z02 l).length:Nat):Int)<=12))) hn n 0 (by omega) (by omega) (by omega)
 simp only [Int.natCast_zero,drop_zero] at this
 rw [this]
 simp only [length_map]
 split
 ·rename_i h;rw [h];simp;omega
 ·rename_i h;simp only [Bool.not_eq_true] at h;rw [h];rfl
theorem yku {l:List Ev}(h:fewE l=true):l.length<=12/\∀ e∈l,e.fValues.length<=12:=by
 unfold fewE at h
 simp only [Bool.and_eq_true,decide_eq_true_eq,all_eq_true] at h
 refine ⟨h.2,fun e he=>(h.1 e ?_).1⟩
 rw [take_of_length_le (by omega)]
 exact he
def y1c:List Ev->Ev->Bool
 |[],_=>false
 |x::_,e=>decide (0<=zib x e)
def chk:List Ev->List Ev->Int
 |_,[]=>0
 |p,e::r=>if zev e=false then 2 else if y1c p e=true then 14 else if p.any (fun x=>decide (idt x=idt e)) then 7 else chk (e::p) r
def zke (l:List Ev):Int:=if 4096<l.length then 5 else chk [] l
def y8k (m:List (z9k×Bool))(p:List Ev):Prop:=∀ k,(mlk m k).getD false=p.any (fun x=>decide (idt x=k))
theorem ycz {κ ν:Type}[DecidableEq κ](l:List (κ×ν))(k:κ)(v:ν)(k':κ):mlk (mput l k v) k'=if k'=k then some v else mlk l k':=by
 induction l with
 |nil=>simp [mput,mlk]
 |cons a r ih =>
  obtain ⟨a,x⟩:=a
  simp only [mput]
  by_cases h:k=a
  ·subst h
   rw [if_pos rfl]
   simp only [mlk]
   simp_all
  ·rw [if_neg h]
   simp only [mlk,ih]
   grind
theorem y8k.put {m:List (z9k×Bool)}{p:List Ev}(h:y8k m p)(e:Ev):y8k (mput m (idt e) true) (e::p):=fun k=>by
 rw [ycz,any_cons]
 by_cases hk:k=idt e
 ·subst hk;simp
 ·rw [if_neg hk,h k]
  grind
theorem zwf {l:List Ev}{k:Nat}(h:k<l.length):(l.take (k+1)).reverse=l[k]::(l.take k).reverse:=by
 simp_all
theorem ybp {l:List Ev}{k:Nat}(h0:0<k)(h:k<=l.length):∃ t,(l.take k).reverse=l[k-1]::t:=by
 obtain ⟨j,rfl⟩:∃ j,k=j+1:=⟨k-1,by omega⟩
 exact ⟨_,by rw [zwf (by omega)];rfl⟩
theorem y56 {k:Nat}(h0:0<k)(h:k<=1000000):IntKind.wrap .i64 ((k:Int)-1)=((k-1:Nat):Int):=by rw [zee _ (by omega)];omega
theorem yq7 {κ ν β:Type}[DecidableEq κ](l:List (κ×ν))(k:κ)(z:ν)(c:ν->Bool->Option β):mgt l k z c=c ((mlk l k).getD z) (mlk l k).isSome:=by unfold mgt;rfl
theorem yls {κ ν β:Type}[DecidableEq κ](l:List (κ×ν))(k:κ)(v:ν)(c:List (κ×ν)->Option β):mst l k v c=c (mput l k v):=by unfold mst;rfl
theorem yck (n:Nat)(hn4:4<=n)(l:List Ev):∀ (m k:Nat) (seen:List (z9k×Bool)),k<=l.length->l.length<=1000000->l.length<m+k->y8k seen (l.take k).reverse ->
  zb4 n l (some 0) m ((k:Int),seen)=some (chk (l.take k).reverse (l.drop k))
 |0,k,_,h1,h2,h3,_=>by omega
 |m+1,k,seen,h1,h2,h3,hs=>by
  unfold zb4
  simp only [length_map,z0c,z0x]
  by_cases h:k<l.length
  ·rw [if_pos (by omega),z0k h,z1m k (by omega)]
   rw [z0e l k h]
   conv=>rhs;unfold chk
   have hs':y8k (mput seen (idt l[k]) true) (l.take (k+1)).reverse:=by rw [zwf h];exact hs.put _
   have ih:=yck n hn4 l m (k+1) _ (by omega) h2 (by omega) hs'
   rw [zwf h] at ih
   have hseen:=hs (idt l[k])
   simp only [yk7,z04,yre,z51,yq7,yls,hseen,yrj n hn4]
   by_cases hp:zev l[k]=true
   ·have hp':¬zev l[k]=false:=by rw [hp];simp
    rw [if_pos hp,if_neg hp']
    by_cases hk0:0<k
    ·rw [if_pos (by omega),y56 hk0 (by omega),z0k (by omega:k-1<l.length)]
     obtain ⟨t,ht⟩:=ybp (l:=l) hk0 h1
     try simp only [z04,decide_eq_true_eq]
     rw [ht] at ih ⊢
     simp only [y1c,decide_eq_true_eq]
     grind
    ·have hk:k=0:=by omega
     subst hk
     rw [if_neg (by omega)]
     simp only [take_zero,reverse_nil,any_nil,y1c,Bool.false_eq_true,if_false] at ih ⊢
     rw [ih]
   ·have hp':zev l[k]=false:=by simpa using hp
    rw [if_neg hp,if_pos hp']
  ·rw [if_neg (by omega),drop_eq_nil_of_le (by omega)];rfl
theorem yq2 (n:Nat)(l:List Ev)(hn:l.length<n)(hn4:4<=n)(h2:l.length<=1000000):zfl n l=some (zke l):=by
 unfold zfl zke
 simp only [length_map,z0c]
 by_cases h:4096<l.length
 ·rw [if_pos (by omega),if_pos h]
 ·rw [if_neg (by omega),if_neg h]
  have:=yck n hn4 l n 0 [] (by omega) h2 (by omega) (fun k=>rfl)
  simpa using this
theorem y62 (n:Nat)(l:List Ev)(i:Nat)(hi:i<l.length)(K:Option Int):∀ (m k:Nat),k<=i->l.length<=1000000->i<m+k->z7h n l (i:Int) K m k=if ((l.take i).drop k).any (fun x=>decide (idt x=idt l[i])) then some 7 else K
 |0,k,h1,h2,h3=>by omega
 |m+1,k,h1,h2,h3=>by
  unfold z7h
  simp only [z0c]
  by_cases h:k<i
  ·rw [if_pos (by omega),z0k (by omega:k<l.length),z0k hi,z1m k (by omega),ylk,z04,z0c]
   have hk:k<(l.take i).length:=by rw [length_take];omega
   rw [z0e (l.take i) k hk,any_cons,getElem_take,y62 n l i hi K m (k+1) (by omega) h2 (by omega)]
   grind
  ·rw [if_neg (by omega),drop_eq_nil_of_le (by rw [length_take];omega)];simp
theorem y61 (n:Nat)(l:List Ev)(i:Nat)(hi:i<l.length)(K:Option Int):∀ (m k:Nat),k<=i->l.length<=1000000->i<m+k->z7g n l (i:Int) K m k=if ((l.take i).drop k).any (fun x=>decide (idt x=idt l[i])) then some 7 else K
 |0,k,h1,h2,h3=>by omega
 |m+1,k,h1,h2,h3=>by
  unfold z7g
  simp only [z0c]
  by_cases h:k<i
  ·rw [if_pos (by omega),z0k (by omega:k<l.length),z0k hi,z1m k (by omega),ylk,z04,z0c]
   have hk:k<(l.take i).length:=by rw [length_take];omega
   rw [z0e (l.take i) k hk,any_cons,getElem_take,y61 n l i hi K m (k+1) (by omega) h2 (by omega)]
   grind
  grind
theorem y63 (n:Nat)(l:List Ev)(hn:l.length<n):∀ (m k:Nat),k<=l.length->l.length<=1000000->l.length<m+k->z2d n l (some 0) m (k:Int)=some (chk (l.take k).reverse (l.drop k))
 |0,k,h1,h2,h3=>by omega
 |m+1,k,h1,h2,h3=>by
  unfold z2d
  simp only [length_map,z0c,z0x]
  by_cases h:k<l.length
  ·rw [if_pos (by omega),z0k h,z1m k (by omega)]
   rw [z0e l k h]
   conv=>rhs;unfold chk
   have ih:=y63 n l hn m (k+1) (by omega) h2 (by omega)
   rw [zwf h] at ih
   simp only [yge,z04,z51]
   by_cases hp:zev l[k]=true
   ·have hp':¬zev l[k]=false:=by rw [hp];simp
    rw [if_pos hp,if_neg hp']
    by_cases hk0:0<k
    ·rw [if_pos (by omega),y56 hk0 (by omega),z0k (by omega:k-1<l.length)]
     obtain ⟨t,ht⟩:=ybp (l:=l) hk0 h1
     simp only [z04,yn0]
     rw [z0k h]
     simp only [z04,yc1]
     have ec:rCmp ⟨l[k-1].fTime,l[k-1].fSource,l[k-1].fSeq⟩ ⟨l[k].fTime,l[k].fSource,l[k].fSeq⟩=zib l[k-1] l[k]:=rfl
     rw [ec]
     have hl2:=y62 n l k h (z2d n l (some 0) m ((k+1:Nat):Int)) n 0 (by omega) h2 (by omega)
     simp only [Int.natCast_zero,drop_zero] at hl2
     rw [hl2,ih]
     have hany:(l.take k).any (fun x=>decide (idt x=idt l[k]))=(l.take k).reverse.any (fun x=>decide (idt x=idt l[k])):=by rw [any_reverse]
     rw [hany,ht]
     simp only [y1c,decide_eq_true_eq]
     grind
    ·have hk:k=0:=by omega
     subst hk
     rw [if_neg (by omega)]
     have hl3:=y61 n l 0 h (z2d n l (some 0) m ((0+1:Nat):Int)) n 0 (by omega) h2 (by omega)
     simp only [Int.natCast_zero,drop_zero] at hl3
     simp only [Int.natCast_zero] at hl3 ⊢
     rw [hl3]
     simp only [take_zero,reverse_nil,any_nil,y1c,Bool.false_eq_true,if_false] at ih ⊢
     rw [ih]
   ·have hp':zev l[k]=false:=by simpa using hp
    rw [if_neg hp,if_pos hp']
  ·rw [if_neg (by omega),drop_eq_nil_of_le (by omega)];rfl
theorem ylo (n:Nat)(l:List Ev)(hn:l.length<n)(h2:l.length<=1000000):z9t n l=some (zke l):=by
 unfold z9t zke
 simp only [length_map,z0c]
 by_cases h:4096<l.length
 ·rw [if_pos (by omega),if_pos h]
 ·rw [if_neg (by omega),if_neg h]
  have:=y63 n l hn n 0 (by omega) h2 (by omega)
  simpa using this
end Go.Proofs.YtidhlpjgifoneaaGreat
