/- Layer 25. -/
import Derived.Test.YtidhlpjgifoneaaGreatK28
set_option linter.unusedVariables false
set_option linter.unusedSimpArgs false
namespace Go.Proofs.YtidhlpjgifoneaaGreat
open Go.RowKit List
theorem zyn {β:Type}{i len:Nat}(h:i<=len)(k:Nat->Option β):nle (i:Int) len k=k i:=by unfold nle;simp [h]
theorem ymr {β:Type}{a b:Nat}(h:a<=b)(x:Option β):gle a b x=x:=by unfold gle;simp [h]
theorem yj5 {α β:Type}{l:List α}{lo:Nat}(h:lo<=l.length)(z:α)(k:List α->Option β):clr l lo z k=k (clrL l lo z):=by unfold clr;simp [h]
theorem ydw {β:Type}(i:Nat)(x:Option β):frb i x=x:=by unfold frb;rfl
theorem zzj {α:Type}(l:List α)(lo:Nat)(z:α)(h:lo<=l.length):(clrL l lo z).take lo=l.take lo:=by
 unfold clrL
 simp_all
theorem y4v {α:Type}(l:List α)(lo:Nat)(z:α)(h:lo<=l.length):(clrL l lo z).length=l.length:=by
 unfold clrL;simp;omega
theorem yel (k:Nat)(h:1<=k)(h2:k<=1000000000000):IntKind.wrap .i64 ((k:Int)-1)=((k-1:Nat):Int):=by rw [zex _ (by omega)];omega
theorem ycs (n:Nat)(a b:z1f):z9z n a b=some (rCmp a b):=by
 unfold z9z rCmp or3 cmpI
 simp only [z0c,z0y]
 grind
theorem yl3 (n:Nat)(a b:Bd):zbo n a b=some (zsd a b):=by
 unfold zbo
 rw [ycs,z04]
 simp only [z0c,z0y,zsd,or2]
 have e:rCmp ⟨a.fRef.fTime,a.fRef.fSource,a.fRef.fSeq⟩ ⟨b.fRef.fTime,b.fRef.fSource,b.fRef.fSeq⟩=rCmp a.fRef b.fRef:=rfl
 rw [e]
 unfold cmpI
 grind
theorem ycu (n:Nat)(b a:Ma)(hb:b.fBindings.length<=1000000000)(hal:a.fBindings.length<=1000000000)(K:Option Int)(hK:K=if a.fBindings.length<b.fBindings.length then some (-1) else if b.fBindings.length<a.fBindings.length then some 1 else some 0):∀ (m k:Nat),k<=a.fBindings.length->k<=b.fBindings.length->a.fBindings.length<m+k ->
  z2o n b a K m k=some (lexC zsd (a.fBindings.drop k) (b.fBindings.drop k))
 |0,k,h1,_,h3=>by omega
 |m+1,k,h1,h2,h3=>by
  unfold z2o
  simp only [z2k,z1d,z3k,length_map,z0c,z6c,z6e,z0y]
  by_cases h:k<a.fBindings.length
  ·rw [if_pos (by omega)]
   by_cases h':k<b.fBindings.length
   ·rw [if_pos (by omega),z0j h,z0j h',z0e _ k h,z0e _ k h']
    rw [yl3,z04,z1o k (by omega),ycu n b a hb hal K hK m (k+1) (by omega) (by omega) (by omega)]
    show _=some (or2 (zsd _ _) _)
    unfold or2
    split<;>rfl
   ·rw [if_neg (by omega),hK,if_neg (by omega),if_pos (by omega),z0e _ k h,drop_eq_nil_of_le (by omega:b.fBindings.length<=k)]
    rfl
  ·rw [if_neg (by omega),hK,drop_eq_nil_of_le (by omega:a.fBindings.length<=k)]
   by_cases h':a.fBindings.length<b.fBindings.length
   ·rw [if_pos h',z0e _ k (by omega:k<b.fBindings.length)];rfl
   ·rw [if_neg h',if_neg (by omega),drop_eq_nil_of_le (by omega)];rfl
theorem ynt (n:Nat)(a b:Ma)(hn:a.fBindings.length<n)(hb:b.fBindings.length<=1000000000)(hal:a.fBindings.length<=1000000000):z5x n a b=some (zbv a b):=by
 unfold z5x
 have:=ycu n b a hb hal _ rfl n 0 (by omega) (by omega) (by omega)
 simp only [Int.natCast_zero,drop_zero] at this
 rw [show zbv a b=lexC zsd a.fBindings b.fBindings from rfl,<-this]
 congr 1
 simp only [length_map,z0c]
 simp_all
theorem ycw (n:Nat)(b a:Cf)(hb:b.fStarts.length<=1000000000)(hal:a.fStarts.length<=1000000000)(K:Option Int)(hK:K=if a.fStarts.length<b.fStarts.length then some (-1) else if b.fStarts.length<a.fStarts.length then some 1 else some 0):∀ (m k:Nat),k<=a.fStarts.length->k<=b.fStarts.length->a.fStarts.length<m+k ->
  z2m n b a K m k=some (lexC zut (a.fStarts.drop k) (b.fStarts.drop k))
 |0,k,h1,_,h3=>by omega
 |m+1,k,h1,h2,h3=>by
  unfold z2m
  simp only [z2k,z1d,z3j,z2n,length_map,z0c,z6c,z6e,z0y]
  by_cases h:k<a.fStarts.length
  ·rw [if_pos (by omega)]
   by_cases h':k<b.fStarts.length
   ·rw [if_pos (by omega),z0j h,z0j h',z0e _ k h,z0e _ k h']
    rw [z1o k (by omega),ycw n b a hb hal K hK m (k+1) (by omega) (by omega) (by omega)]
    show _=some (or2 (zut _ _) _)
    unfold zut or2 cmpI
    generalize a.fStarts[k]=x
    generalize b.fStarts[k]=y
    simp only [z5a,Bool.and_true,Bool.and_eq_true,decide_eq_true_eq]
    grind
   ·rw [if_neg (by omega),hK,if_neg (by omega),if_pos (by omega),z0e _ k h,drop_eq_nil_of_le (by omega:b.fStarts.length<=k)]
    rfl
  ·rw [if_neg (by omega),hK,drop_eq_nil_of_le (by omega:a.fStarts.length<=k)]
   by_cases h':a.fStarts.length<b.fStarts.length
   ·rw [if_pos h',z0e _ k (by omega:k<b.fStarts.length)];rfl
   ·rw [if_neg h',if_neg (by omega),drop_eq_nil_of_le (by omega)];rfl
theorem ykv (n:Nat)(a b:Cf)(ha:cfOk a=true)(hb:cfOk b=true)(hn:a.fBindings.length<n)(hn2:a.fStarts.length<n):z3r n a b=some (zbk a b):=by
 obtain ⟨a1,a2⟩:=(zfi a).1 ha
 obtain ⟨b1,b2⟩:=(zfi b).1 hb
 unfold z3r
 rw [ynt n _ _ hn b1 a1,z04]
 have:=ycw n b a b2 a2 _ rfl n 0 (by omega) (by omega) (by omega)
 simp only [Int.natCast_zero,drop_zero] at this
 simp only [length_map,z0c,z0y]
 have e:(if (a.fStarts.length:Int)<(b.fStarts.length:Int) then some (-1:Int) else if (b.fStarts.length:Int)<(a.fStarts.length:Int) then some 1 else some 0)=(if a.fStarts.length<b.fStarts.length then some (-1) else if b.fStarts.length<a.fStarts.length then some 1 else some 0):=by
  simp_all
 rw [e,this]
 show _=some (or3 (cmpI a.fState b.fState) (zbv ⟨a.fBindings⟩ ⟨b.fBindings⟩) _)
 unfold or3 cmpI
 grind
theorem yqo (n:Nat)(a b:Cf)(ha:cfOk a=true)(hb:cfOk b=true)(hn:1000000000<n):zcw n a b=some (decide (a=b)):=by
 unfold zcw
 obtain ⟨a1,a2⟩:=(zfi a).1 ha
 obtain ⟨b1,b2⟩:=(zfi b).1 hb
 rw [ysl n a b (by omega) (by omega) (by omega) b1 a1 b2 a2]
 rw [z04]
 congr 1
 exact decide_eq_decide.2 (cfCmp_to.zero a b)
theorem zyl (n:Nat)(hn:1000000000<n)(l:List Cf)(hok:∀ x∈l,cfOk x=true)(hl:l.length<=1000000000)(x46:Nat)(hx:1<=x46)(K:Int->List Cf->Option (List Cf))(r:Option (List Cf))
  (hK:∀ (i:Nat) (cur:List Cf),cur.length=l.length->i<=l.length->cur.take i=dd l->K (i:Int) cur=r) :
  ∀ (m k j:Nat) (cur:List Cf),1<=j->k<=x46+j-1->x46+j<=l.length->l.length<m+j+x46->cur.length=l.length->cur.take k=dd (l.take (x46+j))->cur.drop (x46+j-1)=l.drop (x46+j-1)->z63 n x46 K m ((k:Int),(j:Int),cur)=r
 |0,k,j,cur,h0,h1,h2,h3,h4,h5,h6=>by omega
 |m+1,k,j,cur,h0,h1,h2,h3,h4,h5,h6=>by
  unfold z63
  simp only [length_map]
  rw [ymr (by omega)]
  simp only [z0c]
  by_cases h:x46+j<l.length
  ·have e0:∀ i (h1:x46+j-1<=i) (h2:i<l.length),∃ h3:i<cur.length,cur[i]=l[i]:=fun i h1 h2=>by
    refine ⟨by omega,?_⟩
    have:=congrArg (fun q=>q[i-(x46+j-1)]?) h6
    simp only [getElem?_drop,show x46+j-1+(i-(x46+j-1))=i by omega] at this
    rw [getElem?_eq_getElem (by omega),getElem?_eq_getElem h2] at this
    exact Option.some.inj this
   obtain ⟨c1,c2⟩:=e0 (x46+j) (by omega) h
   obtain ⟨d1,d2⟩:=e0 (x46+(j-1)) (by omega) (by omega)
   rw [if_pos (by omega),zf1 (by omega),zid c1,yel j h0 (by omega),zf1 (by omega),zid d1,c2,d2]
   rw [yqo n _ _ (hok _ (getElem_mem _)) (hok _ (getElem_mem _)) hn,z04,z0y,z0c,z1o j (by omega)]
   have htk:l.take (x46+(j+1))=l.take (x46+j)++[l[x46+j]]:=by rw [show x46+(j+1)=(x46+j)+1 by omega,take_succ_eq_append_getElem h]
   have hne:l.take (x46+j)≠[]:=by
    intro e
    have:=congrArg length e
    rw [length_take,length_nil] at this
    omega
   have hlast:(l.take (x46+j)).getLast hne=l[x46+(j-1)]:=by
    rw [getLast_eq_getElem]
    simp only [getElem_take]
    congr 1
    simp only [length_take]
    omega
   have hd6:cur.drop (x46+(j+1)-1)=l.drop (x46+(j+1)-1):=by
    have:=congrArg List.tail h6
    simp only [tail_drop] at this
    rw [show x46+(j+1)-1=x46+j-1+1 by omega]
    exact this
   by_cases he:l[x46+j]=l[x46+(j-1)]
   ·rw [if_pos he]
    refine zyl n hn l hok hl x46 hx K r hK m k (j+1) cur (by omega) (by omega) (by omega) (by omega) h4 ?_ hd6
    rw [htk,zqk _ _ hne,hlast,if_pos he,append_nil,h5]
   ·rw [if_neg he,zf1 (by omega),zid c1,zf1 (by omega),y1a (by omega),z1o k (by omega)]
    have hset:∀ z:Cf,(cur.set k z).take (k+1)=cur.take k++[z]:=fun z=>by
     have hk:k<cur.length:=by omega
     rw [take_succ_eq_append_getElem (by simpa using hk),getElem_set_self,take_set_of_le (Nat.le_refl _)]
    have c2':cur[x46+j]=l[x46+j]:=c2
    refine zyl n hn l hok hl x46 hx K r hK m (k+1) (j+1) _ (by omega) (by omega) (by omega) (by omega) (by simpa using h4) ?_ ?_
    ·rw [hset,htk,zqk _ _ hne,hlast,if_neg he,h5]
     exact congrArg (fun q=>dd (l.take (x46+j))++[q]) c2'
    ·rw [drop_set_of_lt (by omega)]
     exact hd6
  ·rw [if_neg (by omega)]
   refine hK k cur h4 (by omega) ?_
   rw [h5,take_of_length_le (by omega)]
theorem y79 (n:Nat)(hn:1000000000<n)(l:List Cf)(hok:∀ x∈l,cfOk x=true)(hl:l.length<=1000000000)(h1l:1<=l.length):∀ (m k:Nat),1<=k->k<=l.length->l.length<m+k->dd (l.take k)=l.take k->z8m n l (some l) m (k:Int)=some (dd l)
 |0,k,h0,h1,h2,_=>by omega
 |m+1,k,h0,h1,h2,h3=>by
  unfold z8m
  simp only [length_map,z0c]
  by_cases h:k<l.length
  ·rw [if_pos (by omega),zf1 h,zid h,yel k h0 (by omega),zf1 (by omega),zid (by omega)]
   rw [yqo n _ _ (hok _ (getElem_mem _)) (hok _ (getElem_mem _)) hn,z04,z0c,z1o k (by omega)]
   have htk:l.take (k+1)=l.take k++[l[k]]:=take_succ_eq_append_getElem h
   have hne:l.take k≠[]:=by
    intro e
    have:=congrArg length e
    rw [length_take,length_nil] at this
    omega
   have hlast:(l.take k).getLast hne=l[k-1]:=by
    rw [getLast_eq_getElem]
    simp only [getElem_take]
    congr 1
    simp only [length_take]
    omega
   by_cases he:l[k]=l[k-1]
   ·rw [if_pos he,zyn (by omega)]
    have:=zyl n hn l hok hl k h0 (fun k2_1_0y0 k2_1_0y1=>nle k2_1_0y0 k2_1_0y1.length fun x89 =>
     clr k2_1_0y1 x89 (⟨0,[],[]⟩:z00) fun x90 =>
     sls x90 0 k2_1_0y0 fun x91=>some x91) (some (dd l)) (fun i cur hc hi ht=>by
      show nle (i:Int) cur.length (fun x89=>clr cur x89 (⟨0,[],[]⟩:z00) fun x90=>sls x90 0 (i:Int) fun x91=>some x91)=some (dd l)
      rw [zyn (by omega),yj5 (by omega)]
      have:=zmq (l:=clrL cur i (⟨0,[],[]⟩:z00)) (a:=0) (b:=i) (Nat.zero_le _) (by rw [y4v _ _ _ (by omega)];omega) (fun x91=>some x91)
      simp only [Int.natCast_zero] at this
      rw [this,drop_zero,zzj _ _ _ (by omega),ht]) n k 1 l (by omega) (by omega) (by omega) (by omega) rfl (by rw [htk,zqk _ _ hne,hlast,if_pos he,append_nil,h3]) rfl
    have e1:((1:Nat):Int)=1:=rfl
    rw [e1] at this
    exact this
   ·rw [if_neg he]
    refine y79 n hn l hok hl h1l m (k+1) (by omega) (by omega) (by omega) ?_
    rw [htk,zqk _ _ hne,hlast,if_neg he,h3]
  ·rw [if_neg (by omega)]
   rw [take_of_length_le (by omega)] at h3
   rw [h3]
theorem yqs (n:Nat)(hn:1000000000<n)(l:List Cf)(hok:∀ x∈l,cfOk x=true)(hl:l.length<=1000000000):zcd n l=some (dd l):=by
 unfold zcd
 simp only [length_map,z0c]
 by_cases h:l.length<2
 ·rw [if_pos (by omega)]
  match l,h with
  |[],_=>rfl
  |[x],_=>rfl
 ·rw [if_neg (by omega)]
  refine y79 n hn l hok hl (by omega) n 1 (by omega) (by omega) (by omega) ?_
  match l,h with
  |[],h=>exact absurd (by simp) h
  |[x],h=>exact absurd (by simp) h
  |x::y::q,_=>rfl
theorem ygy (n:Nat)(hn:1000000000<n)(l:List Cf)(hok:∀ x∈l,cfOk x=true)(hl:l.length<=1000000000):zhi n l=some (setL zbk l):=by
 unfold zhi
 rw [yc8 cfCmp_to n l hok hl]
 simp only [zzp,ydw,z1d]
 have hp:=zhx zbk l
 rw [yqs n hn _ (fun x hx=>hok x (hp.mem_iff.1 hx)) (by rw [hp.length_eq];exact hl),z8n,yiv cfCmp_to]
theorem y6u (n:Nat)(hn:1000000000<n)(x:Cf)(hx:cfOk x=true)(l:List Cf)(hok:∀ x∈l,cfOk x=true)(hl:l.length<=1000000)(K:Int->Option (List Cf))(r:Option (List Cf))
  (hK:∀ i:Nat,i<=l.length->(∀ y∈l.take i,zbk y x<0)->(∀ h:i<l.length,¬zbk l[i] x<0)->K i=r):∀ (m k:Nat),k<=l.length->l.length<m+k->(∀ y∈l.take k,zbk y x<0)->z4i n x l K m (k:Int)=r
 |0,k,h1,h2,_=>by omega
 |m+1,k,h1,h2,h3=>by
  unfold z4i
  simp only [z2k,z1d,z6u,length_map,z0c,z6e]
  by_cases h:k<l.length
  ·rw [if_pos (by omega),z0j h,ykv n _ x (hok _ (getElem_mem h)) hx (by have:=(zfi _).1 (hok _ (getElem_mem h));omega) (by have:=(zfi _).1 (hok _ (getElem_mem h));omega),z04]
   by_cases hc:zbk l[k] x<0
   ·rw [if_pos hc,z1o k (by omega)]
    refine y6u n hn x hx l hok hl K r hK m (k+1) (by omega) (by omega) (fun y hy=>?_)
    rw [take_succ_eq_append_getElem h,mem_append,mem_singleton] at hy
    rcases hy with hy|hy
    ·exact h3 y hy
    ·rw [hy];exact hc
   ·rw [if_neg hc]
    exact hK k h1 h3 (fun _=>hc)
  ·rw [if_neg (by omega)]
   exact hK k h1 h3 (fun h'=>absurd h' h)
theorem ydu (x:Cf):∀ (l:List Cf) (i:Nat),i<=l.length->(∀ y∈l.take i,zbk y x<0)->(∀ h:i<l.length,¬zbk l[i] x<0)->insU zbk x l=if ∃ h:i<l.length,zbk l[i] x=0 then l else l.take i++x::l.drop i
 |[],i,h1,_,_=>by
  have:i=0:=by simpa using h1
  subst this
  simp [insU]
 |y::l,0,_,_,h3=>by
  have:=h3 (by simp)
  simp only [getElem_cons_zero] at this
  unfold insU
  rw [if_neg this]
  simp_all
 |y::l,i+1,h1,h2,h3=>by
  have hy:=h2 y (by simp)
  unfold insU
  rw [if_pos hy,ydu x l i (by simpa using h1) (fun z hz=>h2 z (by simp [hz])) (fun h=>by simp_all)]
  by_cases q:∃ h:i<l.length,zbk l[i] x=0
  all_goals simp_all
theorem yhd (n:Nat)(hn:1000000000<n)(x:Cf)(hx:cfOk x=true)(l:List Cf)(hok:∀ x∈l,cfOk x=true)(hl:l.length<=1000000):z9m n l x=some (insU zbk x l):=by
 unfold z9m
 refine y6u n hn x hx l hok hl _ _ (fun i hi h1 h2=>?_) n 0 (by omega) (by omega) (by simp)
 rw [ydu x l i hi h1 h2]
 simp only [z2k,z1d,z6v,length_map,z0c,z6e]
 have hlast:∀ z:Cf,z=x->(sls l 0 (i:Int) fun x45=>app ([]:List Cf) x45 56 fun x46=>app x46 [z] 56 fun x47=>sls l (i:Int) ((l.length:Nat):Int) fun x48=>app x47 x48 56 fun x49=>some x49)=some (l.take i++x::l.drop i):=fun z hz=>by
  subst hz
  have e1:=zmq (l:=l) (a:=0) (b:=i) (Nat.zero_le _) hi (fun x45=>app ([]:List Cf) x45 56 fun x46=>app x46 [z] 56 fun x47=>sls l (i:Int) ((l.length:Nat):Int) fun x48=>app x47 x48 56 fun x49=>some x49)
  simp only [Int.natCast_zero] at e1
  rw [e1,drop_zero,zbi (by simp;omega) (by omega),nil_append,zbi (by simp;omega) (by omega),zmq hi (Nat.le_refl _),zbi (by simp;omega) (by omega),take_length]
  simp
 by_cases h:i<l.length
 ·rw [if_pos (by omega),z0j h,ykv n _ x (hok _ (getElem_mem h)) hx (by have:=(zfi _).1 (hok _ (getElem_mem h));omega) (by have:=(zfi _).1 (hok _ (getElem_mem h));omega),z04]
  by_cases q:zbk l[i] x=0
  all_goals simp_all
 grind
theorem y1h (n:Nat)(hn:1000000000<n)(b a:List Cf)(ha:∀ x∈a,cfOk x=true)(hb:∀ x∈b,cfOk x=true)(hl:a.length=b.length)(h2:a.length<=1000000):∀ (m k:Nat),k<=a.length->a.length<m+k->z8f n b a (some true) m (k:Int)=some (decide (a.drop k=b.drop k))
 |0,k,h1,h3=>by omega
 |m+1,k,h1,h3=>by
  unfold z8f
  simp only [length_map,z0c,z0y]
  by_cases h:k<a.length
  ·rw [if_pos (by omega),z0j h,z0j (by omega:k<b.length),ykv n _ _ (ha _ (getElem_mem h)) (hb _ (getElem_mem _)) (by have:=(zfi _).1 (ha _ (getElem_mem h));omega) (by have:=(zfi _).1 (ha _ (getElem_mem h));omega),z04,z1o k (by omega)]
   have e:(a.drop k=b.drop k) ↔ (a[k]=b[k]'(by omega)/\a.drop (k+1)=b.drop (k+1)):=by
    rw [z0e a k h,z0e b k (by omega),List.cons.injEq]
   by_cases he:a[k]=b[k]'(by omega)
   ·rw [if_pos ((cfCmp_to.zero _ _).2 he),y1h n hn b a ha hb hl h2 m (k+1) (by omega) (by omega)]
    simp_all
   ·rw [if_neg (fun q=>he ((cfCmp_to.zero _ _).1 q)),decide_eq_false (fun q=>he (e.1 q).1)]
  grind
theorem ynq (n:Nat)(hn:1000000000<n)(a b:List Cf)(ha:∀ x∈a,cfOk x=true)(hb:∀ x∈b,cfOk x=true)(h2:a.length<=1000000):zc6 n a b=some (decide (a=b)):=by
 unfold zc6
 simp only [length_map,z0c,z0y]
 by_cases h:a.length=b.length
 ·rw [if_pos (by omega)]
  have:=y1h n hn b a ha hb h h2 n 0 (by omega) (by omega)
  simpa using this
 ·rw [if_neg (by omega)]
  have:a≠b:=fun e=>h (by rw [e])
  simp [this]
theorem yds {x:Cf}(hx:cfOk x=true){l:List Cf}(hl:∀ y∈l,cfOk y=true):∀ y∈insU zbk x l,cfOk y=true:=fun y hy=>by
 rcases (zty cfCmp_to x y l).1 hy with h|h
 all_goals simp_all
theorem ykm {s l:List Cf}(hs:∀ y∈s,cfOk y=true)(hl:∀ y∈l,cfOk y=true):∀ y∈puts zbk s l,cfOk y=true:=fun y hy=>by
 rcases (zrp cfCmp_to y l s).1 hy with h|h
 ·exact hs y h
 ·exact hl y h
theorem yqn (n:Nat)(a b:Ma)(ha:maOk a=true)(hb:maOk b=true)(hn:1000000000<n):zcu n a b=some (decide (a=b)):=by
 unfold zcu
 rw [f_ma n _ _ (by have:=(zha _).1 ha;exact Nat.lt_of_le_of_lt this hn) (by omega) ((zha _).1 hb) ((zha _).1 ha)]
 rw [z04]
 congr 1
 exact decide_eq_decide.2 (zg1.zero a b)
theorem zyk (n:Nat)(hn:1000000000<n)(l:List Ma)(hok:∀ x∈l,maOk x=true)(hl:l.length<=1000000000)(x46:Nat)(hx:1<=x46)(K:Int->List Ma->Option (List Ma))(r:Option (List Ma))
  (hK:∀ (i:Nat) (cur:List Ma),cur.length=l.length->i<=l.length->cur.take i=dd l->K (i:Int) cur=r) :
  ∀ (m k j:Nat) (cur:List Ma),1<=j->k<=x46+j-1->x46+j<=l.length->l.length<m+j+x46->cur.length=l.length->cur.take k=dd (l.take (x46+j))->cur.drop (x46+j-1)=l.drop (x46+j-1)->z2t n x46 K m ((k:Int),(j:Int),cur)=r
 |0,k,j,cur,h0,h1,h2,h3,h4,h5,h6=>by omega
 |m+1,k,j,cur,h0,h1,h2,h3,h4,h5,h6=>by
  unfold z2t
  simp only [length_map]
  rw [ymr (by omega)]
  simp only [z0c]
  by_cases h:x46+j<l.length
  ·have e0:∀ i (h1:x46+j-1<=i) (h2:i<l.length),∃ h3:i<cur.length,cur[i]=l[i]:=fun i h1 h2=>by
    refine ⟨by omega,?_⟩
    have:=congrArg (fun q=>q[i-(x46+j-1)]?) h6
    simp only [getElem?_drop,show x46+j-1+(i-(x46+j-1))=i by omega] at this
    rw [getElem?_eq_getElem (by omega),getElem?_eq_getElem h2] at this
    exact Option.some.inj this
   obtain ⟨c1,c2⟩:=e0 (x46+j) (by omega) h
   obtain ⟨d1,d2⟩:=e0 (x46+(j-1)) (by omega) (by omega)
   rw [if_pos (by omega),zf1 (by omega),zid c1,yel j h0 (by omega),zf1 (by omega),zid d1,c2,d2]
   rw [yqn n _ _ (hok _ (getElem_mem _)) (hok _ (getElem_mem _)) hn,z04,z0y,z0c,z1o j (by omega)]
   have htk:l.take (x46+(j+1))=l.take (x46+j)++[l[x46+j]]:=by rw [show x46+(j+1)=(x46+j)+1 by omega,take_succ_eq_append_getElem h]
   have hne:l.take (x46+j)≠[]:=by
    intro e
    have:=congrArg length e
    rw [length_take,length_nil] at this
    omega
   have hlast:(l.take (x46+j)).getLast hne=l[x46+(j-1)]:=by
    rw [getLast_eq_getElem]
    simp only [getElem_take]
    congr 1
    simp only [length_take]
    omega
   have hd6:cur.drop (x46+(j+1)-1)=l.drop (x46+(j+1)-1):=by
    have:=congrArg List.tail h6
    simp only [tail_drop] at this
    rw [show x46+(j+1)-1=x46+j-1+1 by omega]
    exact this
   by_cases he:l[x46+j]=l[x46+(j-1)]
   ·rw [if_pos he]
    refine zyk n hn l hok hl x46 hx K r hK m k (j+1) cur (by omega) (by omega) (by omega) (by omega) h4 ?_ hd6
    rw [htk,zqk _ _ hne,hlast,if_pos he,append_nil,h5]
   ·rw [if_neg he,zf1 (by omega),zid c1,zf1 (by omega),y1a (by omega),z1o k (by omega)]
    have hset:∀ z:Ma,(cur.set k z).take (k+1)=cur.take k++[z]:=fun z=>by
     have hk:k<cur.length:=by omega
     rw [take_succ_eq_append_getElem (by simpa using hk),getElem_set_self,take_set_of_le (Nat.le_refl _)]
    have c2':cur[x46+j]=l[x46+j]:=c2
    refine zyk n hn l hok hl x46 hx K r hK m (k+1) (j+1) _ (by omega) (by omega) (by omega) (by omega) (by simpa using h4) ?_ ?_
    ·rw [hset,htk,zqk _ _ hne,hlast,if_neg he,h5]
     exact congrArg (fun q=>dd (l.take (x46+j))++[q]) c2'
    ·rw [drop_set_of_lt (by omega)]
     exact hd6
  ·rw [if_neg (by omega)]
   refine hK k cur h4 (by omega) ?_
   rw [h5,take_of_length_le (by omega)]
theorem y78 (n:Nat)(hn:1000000000<n)(l:List Ma)(hok:∀ x∈l,maOk x=true)(hl:l.length<=1000000000)(h1l:1<=l.length):∀ (m k:Nat),1<=k->k<=l.length->l.length<m+k->dd (l.take k)=l.take k->z4g n l (some l) m (k:Int)=some (dd l)
 |0,k,h0,h1,h2,_=>by omega
 |m+1,k,h0,h1,h2,h3=>by
  unfold z4g
  simp only [length_map,z0c]
  by_cases h:k<l.length
  ·rw [if_pos (by omega),zf1 h,zid h,yel k h0 (by omega),zf1 (by omega),zid (by omega)]
   rw [yqn n _ _ (hok _ (getElem_mem _)) (hok _ (getElem_mem _)) hn,z04,z0c,z1o k (by omega)]
   have htk:l.take (k+1)=l.take k++[l[k]]:=take_succ_eq_append_getElem h
   have hne:l.take k≠[]:=by
    intro e
    have:=congrArg length e
    rw [length_take,length_nil] at this
    omega
   have hlast:(l.take k).getLast hne=l[k-1]:=by
    rw [getLast_eq_getElem]
    simp only [getElem_take]
    congr 1
    simp only [length_take]
    omega
   by_cases he:l[k]=l[k-1]
   ·rw [if_pos he,zyn (by omega)]
    have:=zyk n hn l hok hl k h0 (fun k2_1_0y0 k2_1_0y1=>nle k2_1_0y0 k2_1_0y1.length fun x89 =>
     clr k2_1_0y1 x89 (⟨[]⟩:z06) fun x90 =>
     sls x90 0 k2_1_0y0 fun x91=>some x91) (some (dd l)) (fun i cur hc hi ht=>by
      show nle (i:Int) cur.length (fun x89=>clr cur x89 (⟨[]⟩:z06) fun x90=>sls x90 0 (i:Int) fun x91=>some x91)=some (dd l)
      rw [zyn (by omega),yj5 (by omega)]
      have:=zmq (l:=clrL cur i (⟨[]⟩:z06)) (a:=0) (b:=i) (Nat.zero_le _) (by rw [y4v _ _ _ (by omega)];omega) (fun x91=>some x91)
      simp only [Int.natCast_zero] at this
      rw [this,drop_zero,zzj _ _ _ (by omega),ht]) n k 1 l (by omega) (by omega) (by omega) (by omega) rfl (by rw [htk,zqk _ _ hne,hlast,if_pos he,append_nil,h3]) rfl
    have e1:((1:Nat):Int)=1:=rfl
    rw [e1] at this
    exact this
   ·rw [if_neg he]
    refine y78 n hn l hok hl h1l m (k+1) (by omega) (by omega) (by omega) ?_
    rw [htk,zqk _ _ hne,hlast,if_neg he,h3]
  ·rw [if_neg (by omega)]
   rw [take_of_length_le (by omega)] at h3
   rw [h3]
theorem yqr (n:Nat)(hn:1000000000<n)(l:List Ma)(hok:∀ x∈l,maOk x=true)(hl:l.length<=1000000000):z9k n l=some (dd l):=by
 unfold z9k
 simp only [length_map,z0c]
 by_cases h:l.length<2
 ·rw [if_pos (by omega)]
  match l,h with
  |[],_=>rfl
  |[x],_=>rfl
 ·rw [if_neg (by omega)]
  refine y78 n hn l hok hl (by omega) n 1 (by omega) (by omega) (by omega) ?_
  match l,h with
  |[],h=>exact absurd (by simp) h
  |[x],h=>exact absurd (by simp) h
  |x::y::q,_=>rfl
theorem ynm (n:Nat)(hn:1000000000<n)(l:List Ma)(hok:∀ x∈l,maOk x=true)(hl:l.length<=1000000000):zcv n l=some (setL zbv l):=by
 unfold zcv
 rw [yc8 zg1 n l hok hl]
 simp only [zzp,ydw,z1d]
 have hp:=zhx zbv l
 rw [yqr n hn _ (fun x hx=>hok x (hp.mem_iff.1 hx)) (by rw [hp.length_eq];exact hl),z8n,yiv zg1]
theorem y6t (n:Nat)(hn:1000000000<n)(x:Ma)(hx:maOk x=true)(l:List Ma)(hok:∀ x∈l,maOk x=true)(hl:l.length<=1000000)(K:Int->Option (List Ma))(r:Option (List Ma))
  (hK:∀ i:Nat,i<=l.length->(∀ y∈l.take i,zbv y x<0)->(∀ h:i<l.length,¬zbv l[i] x<0)->K i=r):∀ (m k:Nat),k<=l.length->l.length<m+k->(∀ y∈l.take k,zbv y x<0)->z4m n x l K m (k:Int)=r
 |0,k,h1,h2,_=>by omega
 |m+1,k,h1,h2,h3=>by
  unfold z4m
  simp only [z2k,z1d,z6z,length_map,z0c,z6e]
  by_cases h:k<l.length
  ·rw [if_pos (by omega),z0j h,ynt n _ _ (by have:=(zha _).1 (hok _ (getElem_mem h));exact Nat.lt_of_le_of_lt this hn) ((zha _).1 hx) ((zha _).1 (hok _ (getElem_mem h))),z04]
   by_cases hc:zbv l[k] x<0
   ·rw [if_pos hc,z1o k (by omega)]
    refine y6t n hn x hx l hok hl K r hK m (k+1) (by omega) (by omega) (fun y hy=>?_)
    rw [take_succ_eq_append_getElem h,mem_append,mem_singleton] at hy
    rcases hy with hy|hy
    ·exact h3 y hy
    ·rw [hy];exact hc
   ·rw [if_neg hc]
    exact hK k h1 h3 (fun _=>hc)
  ·rw [if_neg (by omega)]
   exact hK k h1 h3 (fun h'=>absurd h' h)
theorem ydt (x:Ma):∀ (l:List Ma) (i:Nat),i<=l.length->(∀ y∈l.take i,zbv y x<0)->(∀ h:i<l.length,¬zbv l[i] x<0)->insU zbv x l=if ∃ h:i<l.length,zbv l[i] x=0 then l else l.take i++x::l.drop i
 |[],i,h1,_,_=>by
  have:i=0:=by simpa using h1
  subst this
  simp [insU]
 |y::l,0,_,_,h3=>by
  have:=h3 (by simp)
  simp only [getElem_cons_zero] at this
  unfold insU
  rw [if_neg this]
  simp_all
 |y::l,i+1,h1,h2,h3=>by
  have hy:=h2 y (by simp)
  unfold insU
  rw [if_pos hy,ydt x l i (by simpa using h1) (fun z hz=>h2 z (by simp [hz])) (fun h=>by simp_all)]
  by_cases q:∃ h:i<l.length,zbv l[i] x=0
  all_goals simp_all
theorem yhc (n:Nat)(hn:1000000000<n)(x:Ma)(hx:maOk x=true)(l:List Ma)(hok:∀ x∈l,maOk x=true)(hl:l.length<=1000000):z9o n l x=some (insU zbv x l):=by
 unfold z9o
 refine y6t n hn x hx l hok hl _ _ (fun i hi h1 h2=>?_) n 0 (by omega) (by omega) (by simp)
 rw [ydt x l i hi h1 h2]
 simp only [z2k,z1d,z71,length_map,z0c,z6e]
 have hlast:∀ z:Ma,z=x->(sls l 0 (i:Int) fun x45=>app ([]:List Ma) x45 24 fun x46=>app x46 [z] 24 fun x47=>sls l (i:Int) ((l.length:Nat):Int) fun x48=>app x47 x48 24 fun x49=>some x49)=some (l.take i++x::l.drop i):=fun z hz=>by
  subst hz
  have e1:=zmq (l:=l) (a:=0) (b:=i) (Nat.zero_le _) hi (fun x45=>app ([]:List Ma) x45 24 fun x46=>app x46 [z] 24 fun x47=>sls l (i:Int) ((l.length:Nat):Int) fun x48=>app x47 x48 24 fun x49=>some x49)
  simp only [Int.natCast_zero] at e1
  rw [e1,drop_zero,zbi (by simp;omega) (by omega),nil_append,zbi (by simp;omega) (by omega),zmq hi (Nat.le_refl _),zbi (by simp;omega) (by omega),take_length]
  simp
 by_cases h:i<l.length
 ·rw [if_pos (by omega),z0j h,ynt n _ _ (by have:=(zha _).1 (hok _ (getElem_mem h));exact Nat.lt_of_le_of_lt this hn) ((zha _).1 hx) ((zha _).1 (hok _ (getElem_mem h))),z04]
  by_cases q:zbv l[i] x=0
  all_goals simp_all
 grind
theorem y3n {x:Ma}(hx:maOk x=true){l:List Ma}(hl:∀ y∈l,maOk y=true):∀ y∈insU zbv x l,maOk y=true:=fun y hy=>by
 rcases (zty zg1 x y l).1 hy with h|h
 all_goals simp_all
theorem yci {s l:List Ma}(hs:∀ y∈s,maOk y=true)(hl:∀ y∈l,maOk y=true):∀ y∈puts zbv s l,maOk y=true:=fun y hy=>by
 rcases (zrp zg1 y l s).1 hy with h|h
 ·exact hs y h
 ·exact hl y h
theorem yq9 (n:Nat)(hn:1000000000<n)(l:List Cf)(hok:∀ x∈l,cfOk x=true)(hl:l.length<=100000):znc n l=some (if 4096<(setL zbk l).length then ([],5) else (setL zbk l,0)):=by
 unfold znc
 have hc:zay n l=some l:=by unfold zay;exact if_pos (by omega)
 rw [hc,zjq,ygy n hn l hok (by omega)]
 simp only [z8n,z04,length_map,z0c]
 grind
theorem ynb {l:List Cf}(h:∀ x∈l,cfOk x=true):∀ x∈setL zbk l,cfOk x=true:=fun x hx=>h x ((zh9 cfCmp_to x l).1 hx)
def zf0 (e:Ev):Bool:=decide (0<=e.fTime) && (decide (e.fTime<=1099511627776) && (decide (0<=e.fSource) && (decide (e.fSource<8) && (decide (0<=e.fSeq) && decide (e.fSeq<=1099511627776)))))
def idt (e:Ev):z9s:=⟨e.fSource,e.fSeq⟩
theorem ykx (n:Nat)(e:Ev):zgg n e=some (zf0 e):=by
 unfold zgg zf0
 simp only [z0c]
 repeat' split
 all_goals (simp_all<;>omega)
theorem yh2 (n:Nat)(e:Ev):zb4 n e=some (zf0 e):=by
 unfold zb4 zf0
 simp only [z0c]
 repeat' split
 all_goals (simp_all<;>omega)
theorem ys7 (n:Nat)(e:Ev):zhg n e=some (idt e):=rfl
theorem ynv (n:Nat)(e:Ev):z9q n e=some ⟨e.fTime,e.fSource,e.fSeq⟩:=rfl
def zdt (e:Ev):z1f:=⟨e.fTime,e.fSource,e.fSeq⟩
def zkn (a b:Ev):Int:=rCmp (zdt a) (zdt b)
theorem ysb (n:Nat)(hn:4<=n)(a b:Ev):zgo n a b=some (zkn a b):=by
 obtain ⟨m,rfl⟩:∃ m,n=m+4:=⟨n-4,by omega⟩
 unfold zgo zjw
 simp only [z04,yaz,yln,Bool.and_true,z5a,Bool.and_eq_true,decide_eq_true_eq]
 split
 ·rename_i h
  obtain ⟨h1,h2,h3⟩:=h
  simp [zkn,rCmp,zdt,or3,cmpI,h1,h2,h3]
 ·rfl
theorem ymf (n:Nat)(a b:Ev):zan n a b=some (decide (idt a=idt b)):=by
 unfold zan
 simp only [z0c]
 split
 ·rename_i h;simp [idt,h]
 ·rename_i h;simp [idt,h]
def few1 (l:List z05):Bool:=(l.take 40).all (fun v=>decide (v.fText.size<=128)) && decide (l.length<40)
theorem y76 (n:Nat)(l:List z05)(K:Option Bool):∀ (m k:Nat),k<=l.length->k<=40->40<m+k->z9a n l K m k=if ((l.take 40).drop k).all (fun v=>decide (v.fText.size<=128)) then K else some false
 |0,k,h1,h2,h3=>by omega
 |m+1,k,h1,h2,h3=>by
  unfold z9a
  simp only [length_map,z0c]
  by_cases h:k<l.length
  ·rw [if_pos (by omega)]
   by_cases h4:k<40
   ·rw [if_pos (by omega),z0j h,z1o k (by omega)]
    have hk:k<(l.take 40).length:=by rw [length_take];omega
    rw [z0e (l.take 40) k hk,all_cons,getElem_take]
    by_cases h5:l[k].fText.size<=128
    ·rw [if_neg (by omega),y76 n l K m (k+1) (by omega) (by omega) (by omega)]
     simp [h5]
    grind
   grind
  ·rw [if_neg (by omega),drop_eq_nil_of_le (by rw [length_take];omega)];simp
theorem yql (n:Nat)(l:List z05)(hn:41<=n):zdd n l=some (few1 l):=by
 unfold zdd few1
 have:=y76 n l (some (decide ((((List.map z08 l).length:Nat):Int)<40))) n 0 (by omega) (by omega) (by omega)
 simp only [Int.natCast_zero,drop_zero] at this
 rw [this]
 simp only [length_map]
 split
 ·rename_i h;rw [h];simp;omega
 ·rename_i h;simp only [Bool.not_eq_true] at h;rw [h];rfl
def fewE (l:List Ev):Bool:=(l.take 20).all (fun e=>decide (e.fValues.length<=12) && few1 e.fValues) && decide (l.length<=12)
theorem y75 (n:Nat)(l:List Ev)(K:Option Bool)(hn:41<=n):∀ (m k:Nat),k<=l.length->k<=20->20<m+k->z99 n l K m k=if ((l.take 20).drop k).all (fun e=>decide (e.fValues.length<=12) && few1 e.fValues) then K else some false
 |0,k,h1,h2,h3=>by omega
 |m+1,k,h1,h2,h3=>by
  unfold z99
  simp only [length_map,z0c,z0y]
  by_cases h:k<l.length
  ·rw [if_pos (by omega)]
   by_cases h4:k<20
   ·rw [if_pos (by omega),z0j h,z1o k (by omega)]
    have hk:k<(l.take 20).length:=by rw [length_take];omega
    rw [z0e (l.take 20) k hk,all_cons,getElem_take]
    by_cases h5:l[k].fValues.length<=12
    ·rw [if_neg (by omega),z0j h,yql n _ hn,z04,z5a,y75 n l K hn m (k+1) (by omega) (by omega) (by omega)]
     grind
    grind
   grind
  ·rw [if_neg (by omega),drop_eq_nil_of_le (by rw [length_take];omega)];simp
theorem yqk (n:Nat)(l:List Ev)(hn:41<=n):zdc n l=some (fewE l):=by
 unfold zdc fewE
 have:=y75 n l (some (decide ((((List.map z02 l).length:Nat):Int)<=12))) hn n 0 (by omega) (by omega) (by omega)
 simp only [Int.natCast_zero,drop_zero] at this
 rw [this]
 simp only [length_map]
 split
 ·rename_i h;rw [h];simp;omega
 ·rename_i h;simp only [Bool.not_eq_true] at h;rw [h];rfl
theorem yll {l:List Ev}(h:fewE l=true):l.length<=12/\∀ e∈l,e.fValues.length<=12:=by
 unfold fewE at h
 simp only [Bool.and_eq_true,decide_eq_true_eq,all_eq_true] at h
 refine ⟨h.2,fun e he=>(h.1 e ?_).1⟩
 rw [take_of_length_le (by omega)]
 exact he
def y21:List Ev->Ev->Bool
 |[],_=>false
 |x::_,e=>decide (0<=zkn x e)
def chk:List Ev->List Ev->Int
 |_,[]=>0
 |p,e::r=>if zf0 e=false then 2 else if y21 p e=true then 14 else if p.any (fun x=>decide (idt x=idt e)) then 7 else chk (e::p) r
def zkq (l:List Ev):Int:=if 4096<l.length then 5 else chk [] l
def y94 (m:List (z9s×Bool))(p:List Ev):Prop:=∀ k,(mlk m k).getD false=p.any (fun x=>decide (idt x=k))
theorem ydq {κ ν:Type}[DecidableEq κ](l:List (κ×ν))(k:κ)(v:ν)(k':κ):mlk (mput l k v) k'=if k'=k then some v else mlk l k':=by
 induction l with
 |nil=>simp [mput,mlk]
 |cons a r ih =>
  obtain ⟨a,x⟩:=a
  simp only [mput]
  by_cases h:k=a
  ·subst h
   rw [if_pos rfl]
   simp only [mlk]
   simp_all
  ·rw [if_neg h]
   simp only [mlk,ih]
   grind
theorem y94.put {m:List (z9s×Bool)}{p:List Ev}(h:y94 m p)(e:Ev):y94 (mput m (idt e) true) (e::p):=fun k=>by
 rw [ydq,any_cons]
 by_cases hk:k=idt e
 ·subst hk;simp
 ·rw [if_neg hk,h k]
  grind
theorem zwy {l:List Ev}{k:Nat}(h:k<l.length):(l.take (k+1)).reverse=l[k]::(l.take k).reverse:=by
 simp_all
theorem ycc {l:List Ev}{k:Nat}(h0:0<k)(h:k<=l.length):∃ t,(l.take k).reverse=l[k-1]::t:=by
 obtain ⟨j,rfl⟩:∃ j,k=j+1:=⟨k-1,by omega⟩
 exact ⟨_,by rw [zwy (by omega)];rfl⟩
theorem y5v {k:Nat}(h0:0<k)(h:k<=1000000):IntKind.wrap .i64 ((k:Int)-1)=((k-1:Nat):Int):=by rw [zex _ (by omega)];omega
theorem yqz {κ ν β:Type}[DecidableEq κ](l:List (κ×ν))(k:κ)(z:ν)(c:ν->Bool->Option β):mgt l k z c=c ((mlk l k).getD z) (mlk l k).isSome:=by unfold mgt;rfl
theorem ymp {κ ν β:Type}[DecidableEq κ](l:List (κ×ν))(k:κ)(v:ν)(c:List (κ×ν)->Option β):mst l k v c=c (mput l k v):=by unfold mst;rfl
theorem ydb (n:Nat)(hn4:4<=n)(l:List Ev):∀ (m k:Nat) (seen:List (z9s×Bool)),k<=l.length->l.length<=1000000->l.length<m+k->y94 seen (l.take k).reverse ->
  zbb n l (some 0) m ((k:Int),seen)=some (chk (l.take k).reverse (l.drop k))
 |0,k,_,h1,h2,h3,_=>by omega
 |m+1,k,seen,h1,h2,h3,hs=>by
  unfold zbb
  simp only [length_map,z0c,z0y]
  by_cases h:k<l.length
  ·rw [if_pos (by omega),z0j h,z1o k (by omega)]
   rw [z0e l k h]
   conv=>rhs;unfold chk
   have hs':y94 (mput seen (idt l[k]) true) (l.take (k+1)).reverse:=by rw [zwy h];exact hs.put _
   have ih:=ydb n hn4 l m (k+1) _ (by omega) h2 (by omega) hs'
   rw [zwy h] at ih
   have hseen:=hs (idt l[k])
   simp only [ykx,z04,ys7,z5a,yqz,ymp,hseen,ysb n hn4]
   by_cases hp:zf0 l[k]=true
   ·have hp':¬zf0 l[k]=false:=by rw [hp];simp
    rw [if_pos hp,if_neg hp']
    by_cases hk0:0<k
    ·rw [if_pos (by omega),y5v hk0 (by omega),z0j (by omega:k-1<l.length)]
     obtain ⟨t,ht⟩:=ycc (l:=l) hk0 h1
     try simp only [z04,decide_eq_true_eq]
     rw [ht] at ih ⊢
     simp only [y21,decide_eq_true_eq]
     grind
    ·have hk:k=0:=by omega
     subst hk
     rw [if_neg (by omega)]
     simp only [take_zero,reverse_nil,any_nil,y21,Bool.false_eq_true,if_false] at ih ⊢
     rw [ih]
   ·have hp':zf0 l[k]=false:=by simpa using hp
    rw [if_neg hp,if_pos hp']
  ·rw [if_neg (by omega),drop_eq_nil_of_le (by omega)];rfl
theorem yqv (n:Nat)(l:List Ev)(hn:l.length<n)(hn4:4<=n)(h2:l.length<=1000000):zfs n l=some (zkq l):=by
 unfold zfs zkq
 simp only [length_map,z0c]
 by_cases h:4096<l.length
 ·rw [if_pos (by omega),if_pos h]
 ·rw [if_neg (by omega),if_neg h]
  have:=ydb n hn4 l n 0 [] (by omega) h2 (by omega) (fun k=>rfl)
  simpa using this
theorem y6r (n:Nat)(l:List Ev)(i:Nat)(hi:i<l.length)(K:Option Int):∀ (m k:Nat),k<=i->l.length<=1000000->i<m+k->z7o n l (i:Int) K m k=if ((l.take i).drop k).any (fun x=>decide (idt x=idt l[i])) then some 7 else K
 |0,k,h1,h2,h3=>by omega
 |m+1,k,h1,h2,h3=>by
  unfold z7o
  simp only [z0c]
  by_cases h:k<i
  ·rw [if_pos (by omega),z0j (by omega:k<l.length),z0j hi,z1o k (by omega),ymf,z04,z0c]
   have hk:k<(l.take i).length:=by rw [length_take];omega
   rw [z0e (l.take i) k hk,any_cons,getElem_take,y6r n l i hi K m (k+1) (by omega) h2 (by omega)]
   grind
  ·rw [if_neg (by omega),drop_eq_nil_of_le (by rw [length_take];omega)];simp
theorem y6q (n:Nat)(l:List Ev)(i:Nat)(hi:i<l.length)(K:Option Int):∀ (m k:Nat),k<=i->l.length<=1000000->i<m+k->z7n n l (i:Int) K m k=if ((l.take i).drop k).any (fun x=>decide (idt x=idt l[i])) then some 7 else K
 |0,k,h1,h2,h3=>by omega
 |m+1,k,h1,h2,h3=>by
  unfold z7n
  simp only [z0c]
  by_cases h:k<i
  ·rw [if_pos (by omega),z0j (by omega:k<l.length),z0j hi,z1o k (by omega),ymf,z04,z0c]
   have hk:k<(l.take i).length:=by rw [length_take];omega
   rw [z0e (l.take i) k hk,any_cons,getElem_take,y6q n l i hi K m (k+1) (by omega) h2 (by omega)]
   grind
  grind
theorem y6s (n:Nat)(l:List Ev)(hn:l.length<n):∀ (m k:Nat),k<=l.length->l.length<=1000000->l.length<m+k->z2f n l (some 0) m (k:Int)=some (chk (l.take k).reverse (l.drop k))
 |0,k,h1,h2,h3=>by omega
 |m+1,k,h1,h2,h3=>by
  unfold z2f
  simp only [length_map,z0c,z0y]
  by_cases h:k<l.length
  ·rw [if_pos (by omega),z0j h,z1o k (by omega)]
   rw [z0e l k h]
   conv=>rhs;unfold chk
   have ih:=y6s n l hn m (k+1) (by omega) h2 (by omega)
   rw [zwy h] at ih
   simp only [yh2,z04,z5a]
   by_cases hp:zf0 l[k]=true
   ·have hp':¬zf0 l[k]=false:=by rw [hp];simp
    rw [if_pos hp,if_neg hp']
    by_cases hk0:0<k
    ·rw [if_pos (by omega),y5v hk0 (by omega),z0j (by omega:k-1<l.length)]
     obtain ⟨t,ht⟩:=ycc (l:=l) hk0 h1
     simp only [z04,ynv]
     rw [z0j h]
     simp only [z04,ycs]
     have ec:rCmp ⟨l[k-1].fTime,l[k-1].fSource,l[k-1].fSeq⟩ ⟨l[k].fTime,l[k].fSource,l[k].fSeq⟩=zkn l[k-1] l[k]:=rfl
     rw [ec]
     have hl2:=y6r n l k h (z2f n l (some 0) m ((k+1:Nat):Int)) n 0 (by omega) h2 (by omega)
     simp only [Int.natCast_zero,drop_zero] at hl2
     rw [hl2,ih]
     have hany:(l.take k).any (fun x=>decide (idt x=idt l[k]))=(l.take k).reverse.any (fun x=>decide (idt x=idt l[k])):=by rw [any_reverse]
     rw [hany,ht]
     simp only [y21,decide_eq_true_eq]
     grind
    ·have hk:k=0:=by omega
     subst hk
     rw [if_neg (by omega)]
     have hl3:=y6q n l 0 h (z2f n l (some 0) m ((0+1:Nat):Int)) n 0 (by omega) h2 (by omega)
     simp only [Int.natCast_zero,drop_zero] at hl3
     simp only [Int.natCast_zero] at hl3 ⊢
     rw [hl3]
     simp only [take_zero,reverse_nil,any_nil,y21,Bool.false_eq_true,if_false] at ih ⊢
     rw [ih]
   ·have hp':zf0 l[k]=false:=by simpa using hp
    rw [if_neg hp,if_pos hp']
  ·rw [if_neg (by omega),drop_eq_nil_of_le (by omega)];rfl
theorem ymj (n:Nat)(l:List Ev)(hn:l.length<n)(h2:l.length<=1000000):za0 n l=some (zkq l):=by
 unfold za0 zkq
 simp only [length_map,z0c]
 by_cases h:4096<l.length
 ·rw [if_pos (by omega),if_pos h]
 ·rw [if_neg (by omega),if_neg h]
  have:=y6s n l hn n 0 (by omega) h2 (by omega)
  simpa using this
end Go.Proofs.YtidhlpjgifoneaaGreat
