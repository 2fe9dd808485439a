/- Layer 25. -/
import Derived.Test.YtidhlpjgifoneaaGreatK29
set_option linter.unusedVariables false
set_option linter.unusedSimpArgs false
namespace Go.Proofs.YtidhlpjgifoneaaGreat
open Go.RowKit List
theorem zsx {β:Type}{i len:Nat}(h:i<=len)(k:Nat->Option β):nle (i:Int) len k=k i:=by unfold nle;simp [h]
theorem ymw {β:Type}{a b:Nat}(h:a<=b)(x:Option β):gle a b x=x:=by unfold gle;simp [h]
theorem yim {α β:Type}{l:List α}{lo:Nat}(h:lo<=l.length)(z:α)(k:List α->Option β):clr l lo z k=k (zto l lo z):=by unfold clr;simp [h]
theorem yck {β:Type}(i:Nat)(x:Option β):frb i x=x:=by unfold frb;rfl
theorem ztn {α:Type}(l:List α)(lo:Nat)(z:α)(h:lo<=l.length):(zto l lo z).take lo=l.take lo:=by
 unfold zto
 simp_all
theorem y1w {α:Type}(l:List α)(lo:Nat)(z:α)(h:lo<=l.length):(zto l lo z).length=l.length:=by
 unfold zto;simp;omega
theorem y3x (k:Nat)(h:1<=k)(h2:k<=1000000000000):IntKind.wrap .i64 ((k:Int)-1)=((k-1:Nat):Int):=by rw [zee _ (by omega)];omega
theorem ybj (n:Nat)(a b:z1g):z9s n a b=some (zsh a b):=by
 unfold z9s zsh or3 zo7
 simp only [z0d,z0y]
 grind
theorem yl8 (n:Nat)(a b:Bd):zbf n a b=some (znc a b):=by
 unfold zbf
 rw [ybj,z04]
 simp only [z0d,z0y,znc,or2]
 have e:zsh ⟨a.fRef.fTime,a.fRef.fSource,a.fRef.fSeq⟩ ⟨b.fRef.fTime,b.fRef.fSource,b.fRef.fSeq⟩=zsh a.fRef b.fRef:=rfl
 rw [e]
 unfold zo7
 grind
theorem ybl (n:Nat)(b a:Ma)(hb:b.fBindings.length<=1000000000)(hal:a.fBindings.length<=1000000000)(K:Option Int)(hK:K=if a.fBindings.length<b.fBindings.length then some (-1) else if b.fBindings.length<a.fBindings.length then some 1 else some 0):∀ (m k:Nat),k<=a.fBindings.length->k<=b.fBindings.length->a.fBindings.length<m+k ->
  z2m n b a K m k=some (zo0 znc (a.fBindings.drop k) (b.fBindings.drop k))
 |0,k,h1,_,h3=>by omega
 |m+1,k,h1,h2,h3=>by
  unfold z2m
  simp only [z24,z1d,z3j,length_map,z0d,z4u,z5d,z0y]
  by_cases h:k<a.fBindings.length
  ·rw [if_pos (by omega)]
   by_cases h':k<b.fBindings.length
   ·rw [if_pos (by omega),z0k h,z0k h',z0e _ k h,z0e _ k h']
    rw [yl8,z04,z1s k (by omega),ybl n b a hb hal K hK m (k+1) (by omega) (by omega) (by omega)]
    show _=some (or2 (znc _ _) _)
    unfold or2
    split<;>rfl
   ·rw [if_neg (by omega),hK,if_neg (by omega),if_pos (by omega),z0e _ k h,drop_eq_nil_of_le (by omega:b.fBindings.length<=k)]
    rfl
  ·rw [if_neg (by omega),hK,drop_eq_nil_of_le (by omega:a.fBindings.length<=k)]
   by_cases h':a.fBindings.length<b.fBindings.length
   ·rw [if_pos h',z0e _ k (by omega:k<b.fBindings.length)];rfl
   ·rw [if_neg h',if_neg (by omega),drop_eq_nil_of_le (by omega)];rfl
theorem ynx (n:Nat)(a b:Ma)(hn:a.fBindings.length<n)(hb:b.fBindings.length<=1000000000)(hal:a.fBindings.length<=1000000000):z5z n a b=some (z7v a b):=by
 unfold z5z
 have:=ybl n b a hb hal _ rfl n 0 (by omega) (by omega) (by omega)
 simp only [Int.natCast_zero,drop_zero] at this
 rw [show z7v a b=zo0 znc a.fBindings b.fBindings from rfl,<-this]
 congr 1
 simp only [length_map,z0d]
 simp_all
theorem ybm (n:Nat)(b a:Cf)(hb:b.fStarts.length<=1000000000)(hal:a.fStarts.length<=1000000000)(K:Option Int)(hK:K=if a.fStarts.length<b.fStarts.length then some (-1) else if b.fStarts.length<a.fStarts.length then some 1 else some 0):∀ (m k:Nat),k<=a.fStarts.length->k<=b.fStarts.length->a.fStarts.length<m+k ->
  z2k n b a K m k=some (zo0 zpf (a.fStarts.drop k) (b.fStarts.drop k))
 |0,k,h1,_,h3=>by omega
 |m+1,k,h1,h2,h3=>by
  unfold z2k
  simp only [z24,z1d,z3i,z2l,length_map,z0d,z4u,z5d,z0y]
  by_cases h:k<a.fStarts.length
  ·rw [if_pos (by omega)]
   by_cases h':k<b.fStarts.length
   ·rw [if_pos (by omega),z0k h,z0k h',z0e _ k h,z0e _ k h']
    rw [z1s k (by omega),ybm n b a hb hal K hK m (k+1) (by omega) (by omega) (by omega)]
    show _=some (or2 (zpf _ _) _)
    unfold zpf or2 zo7
    generalize a.fStarts[k]=x
    generalize b.fStarts[k]=y
    simp only [z5c,Bool.and_true,Bool.and_eq_true,decide_eq_true_eq]
    grind
   ·rw [if_neg (by omega),hK,if_neg (by omega),if_pos (by omega),z0e _ k h,drop_eq_nil_of_le (by omega:b.fStarts.length<=k)]
    rfl
  ·rw [if_neg (by omega),hK,drop_eq_nil_of_le (by omega:a.fStarts.length<=k)]
   by_cases h':a.fStarts.length<b.fStarts.length
   ·rw [if_pos h',z0e _ k (by omega:k<b.fStarts.length)];rfl
   ·rw [if_neg h',if_neg (by omega),drop_eq_nil_of_le (by omega)];rfl
theorem yql (n:Nat)(a b:Cf)(ha:zli a=true)(hb:zli b=true)(hn:a.fBindings.length<n)(hn2:a.fStarts.length<n):z87 n a b=some (zdi a b):=by
 obtain ⟨a1,a2⟩:=(zgo a).1 ha
 obtain ⟨b1,b2⟩:=(zgo b).1 hb
 unfold z87
 rw [ynx n _ _ hn b1 a1,z04]
 have:=ybm n b a b2 a2 _ rfl n 0 (by omega) (by omega) (by omega)
 simp only [Int.natCast_zero,drop_zero] at this
 simp only [length_map,z0d,z0y]
 have e:(if (a.fStarts.length:Int)<(b.fStarts.length:Int) then some (-1:Int) else if (b.fStarts.length:Int)<(a.fStarts.length:Int) then some 1 else some 0)=(if a.fStarts.length<b.fStarts.length then some (-1) else if b.fStarts.length<a.fStarts.length then some 1 else some 0):=by
  simp_all
 rw [e,this]
 show _=some (or3 (zo7 a.fState b.fState) (z7v ⟨a.fBindings⟩ ⟨b.fBindings⟩) _)
 unfold or3 zo7
 grind
theorem yqw (n:Nat)(a b:Cf)(ha:zli a=true)(hb:zli b=true)(hn:1000000000<n):zcj n a b=some (decide (a=b)):=by
 unfold zcj
 obtain ⟨a1,a2⟩:=(zgo a).1 ha
 obtain ⟨b1,b2⟩:=(zgo b).1 hb
 rw [ytc n a b (by omega) (by omega) (by omega) b1 a1 b2 a2]
 rw [z04]
 congr 1
 exact decide_eq_decide.2 (cfCmp_to.zero a b)
theorem zsv (n:Nat)(hn:1000000000<n)(l:List Cf)(hok:∀ x∈l,zli x=true)(hl:l.length<=1000000000)(x46:Nat)(hx:1<=x46)(K:Int->List Cf->Option (List Cf))(r:Option (List Cf))
  (hK:∀ (i:Nat) (cur:List Cf),cur.length=l.length->i<=l.length->cur.take i=dd l->K (i:Int) cur=r) :
  ∀ (m k j:Nat) (cur:List Cf),1<=j->k<=x46+j-1->x46+j<=l.length->l.length<m+j+x46->cur.length=l.length->cur.take k=dd (l.take (x46+j))->cur.drop (x46+j-1)=l.drop (x46+j-1)->z64 n x46 K m ((k:Int),(j:Int),cur)=r
 |0,k,j,cur,h0,h1,h2,h3,h4,h5,h6=>by omega
 |m+1,k,j,cur,h0,h1,h2,h3,h4,h5,h6=>by
  unfold z64
  simp only [length_map]
  rw [ymw (by omega)]
  simp only [z0d]
  by_cases h:x46+j<l.length
  ·have e0:∀ i (h1:x46+j-1<=i) (h2:i<l.length),∃ h3:i<cur.length,cur[i]=l[i]:=fun i h1 h2=>by
    refine ⟨by omega,?_⟩
    have:=congrArg (fun q=>q[i-(x46+j-1)]?) h6
    simp only [getElem?_drop,show x46+j-1+(i-(x46+j-1))=i by omega] at this
    simp_all
   obtain ⟨c1,c2⟩:=e0 (x46+j) (by omega) h
   obtain ⟨d1,d2⟩:=e0 (x46+(j-1)) (by omega) (by omega)
   rw [if_pos (by omega),zfe (by omega),zik c1,y3x j h0 (by omega),zfe (by omega),zik d1,c2,d2]
   rw [yqw n _ _ (hok _ (getElem_mem _)) (hok _ (getElem_mem _)) hn,z04,z0y,z0d,z1s j (by omega)]
   have htk:l.take (x46+(j+1))=l.take (x46+j)++[l[x46+j]]:=by rw [show x46+(j+1)=(x46+j)+1 by omega,take_succ_eq_append_getElem h]
   have hne:l.take (x46+j)≠[]:=by
    intro e
    have:=congrArg length e
    rw [length_take,length_nil] at this
    omega
   have hlast:(l.take (x46+j)).getLast hne=l[x46+(j-1)]:=by
    rw [getLast_eq_getElem]
    simp only [getElem_take]
    congr 1
    simp only [length_take]
    omega
   have hd6:cur.drop (x46+(j+1)-1)=l.drop (x46+(j+1)-1):=by
    have:=congrArg List.tail h6
    simp only [tail_drop] at this
    rw [show x46+(j+1)-1=x46+j-1+1 by omega]
    exact this
   by_cases he:l[x46+j]=l[x46+(j-1)]
   ·rw [if_pos he]
    refine zsv n hn l hok hl x46 hx K r hK m k (j+1) cur (by omega) (by omega) (by omega) (by omega) h4 ?_ hd6
    rw [htk,zm0 _ _ hne,hlast,if_pos he,append_nil,h5]
   ·rw [if_neg he,zfe (by omega),zik c1,zfe (by omega),zxg (by omega),z1s k (by omega)]
    have hset:∀ z:Cf,(cur.set k z).take (k+1)=cur.take k++[z]:=fun z=>by
     have hk:k<cur.length:=by omega
     rw [take_succ_eq_append_getElem (by simpa using hk),getElem_set_self,take_set_of_le (Nat.le_refl _)]
    have c2':cur[x46+j]=l[x46+j]:=c2
    refine zsv n hn l hok hl x46 hx K r hK m (k+1) (j+1) _ (by omega) (by omega) (by omega) (by omega) (by simpa using h4) ?_ ?_
    ·rw [hset,htk,zm0 _ _ hne,hlast,if_neg he,h5]
     simp_all
    ·rw [drop_set_of_lt (by omega)]
     exact hd6
  ·rw [if_neg (by omega)]
   refine hK k cur h4 (by omega) ?_
   grind
theorem y5c (n:Nat)(hn:1000000000<n)(l:List Cf)(hok:∀ x∈l,zli x=true)(hl:l.length<=1000000000)(h1l:1<=l.length):∀ (m k:Nat),1<=k->k<=l.length->l.length<m+k->dd (l.take k)=l.take k->z8d n l (some l) m (k:Int)=some (dd l)
 |0,k,h0,h1,h2,_=>by omega
 |m+1,k,h0,h1,h2,h3=>by
  unfold z8d
  simp only [length_map,z0d]
  by_cases h:k<l.length
  ·rw [if_pos (by omega),zfe h,zik h,y3x k h0 (by omega),zfe (by omega),zik (by omega)]
   rw [yqw n _ _ (hok _ (getElem_mem _)) (hok _ (getElem_mem _)) hn,z04,z0d,z1s k (by omega)]
   have htk:l.take (k+1)=l.take k++[l[k]]:=take_succ_eq_append_getElem h
   have hne:l.take k≠[]:=by
    intro e
    have:=congrArg length e
    rw [length_take,length_nil] at this
    omega
   have hlast:(l.take k).getLast hne=l[k-1]:=by
    rw [getLast_eq_getElem]
    simp only [getElem_take]
    congr 1
    simp only [length_take]
    omega
   by_cases he:l[k]=l[k-1]
   ·rw [if_pos he,zsx (by omega)]
    have:=zsv n hn l hok hl k h0 (fun k2_1_0y0 k2_1_0y1=>nle k2_1_0y0 k2_1_0y1.length fun x89 =>
     clr k2_1_0y1 x89 (⟨0,[],[]⟩:z00) fun x90 =>
     sls x90 0 k2_1_0y0 fun x91=>some x91) (some (dd l)) (fun i cur hc hi ht=>by
      show nle (i:Int) cur.length (fun x89=>clr cur x89 (⟨0,[],[]⟩:z00) fun x90=>sls x90 0 (i:Int) fun x91=>some x91)=some (dd l)
      rw [zsx (by omega),yim (by omega)]
      have:=zl9 (l:=zto cur i (⟨0,[],[]⟩:z00)) (a:=0) (b:=i) (Nat.zero_le _) (by rw [y1w _ _ _ (by omega)];omega) (fun x91=>some x91)
      simp only [Int.natCast_zero] at this
      rw [this,drop_zero,ztn _ _ _ (by omega),ht]) n k 1 l (by omega) (by omega) (by omega) (by omega) rfl (by rw [htk,zm0 _ _ hne,hlast,if_pos he,append_nil,h3]) rfl
    omega
   ·rw [if_neg he]
    refine y5c n hn l hok hl h1l m (k+1) (by omega) (by omega) (by omega) ?_
    rw [htk,zm0 _ _ hne,hlast,if_neg he,h3]
  grind
theorem yr0 (n:Nat)(hn:1000000000<n)(l:List Cf)(hok:∀ x∈l,zli x=true)(hl:l.length<=1000000000):zc0 n l=some (dd l):=by
 unfold zc0
 simp only [length_map,z0d]
 by_cases h:l.length<2
 ·rw [if_pos (by omega)]
  match l,h with
  |[],_=>rfl
  |[x],_=>rfl
 ·rw [if_neg (by omega)]
  refine y5c n hn l hok hl (by omega) n 1 (by omega) (by omega) (by omega) ?_
  match l,h with
  |[],h=>exact absurd (by simp) h
  |[x],h=>exact absurd (by simp) h
  |x::y::q,_=>rfl
theorem yg9 (n:Nat)(hn:1000000000<n)(l:List Cf)(hok:∀ x∈l,zli x=true)(hl:l.length<=1000000000):zha n l=some (zjn zdi l):=by
 unfold zha
 rw [yb5 cfCmp_to n l hok hl]
 simp only [ztu,yck,z1d]
 have hp:=zhv zdi l
 rw [yr0 n hn _ (fun x hx=>hok x (hp.mem_iff.1 hx)) (by rw [hp.length_eq];exact hl),z8e,yi9 cfCmp_to]
theorem y4z (n:Nat)(hn:1000000000<n)(x:Cf)(hx:zli x=true)(l:List Cf)(hok:∀ x∈l,zli x=true)(hl:l.length<=1000000)(K:Int->Option (List Cf))(r:Option (List Cf))
  (hK:∀ i:Nat,i<=l.length->(∀ y∈l.take i,zdi y x<0)->(∀ h:i<l.length,¬zdi l[i] x<0)->K i=r):∀ (m k:Nat),k<=l.length->l.length<m+k->(∀ y∈l.take k,zdi y x<0)->z4i n x l K m (k:Int)=r
 |0,k,h1,h2,_=>by omega
 |m+1,k,h1,h2,h3=>by
  unfold z4i
  simp only [z24,z1d,z6p,length_map,z0d,z5d]
  by_cases h:k<l.length
  ·rw [if_pos (by omega),z0k h,yql n _ x (hok _ (getElem_mem h)) hx (by have:=(zgo _).1 (hok _ (getElem_mem h));omega) (by have:=(zgo _).1 (hok _ (getElem_mem h));omega),z04]
   by_cases hc:zdi l[k] x<0
   ·rw [if_pos hc,z1s k (by omega)]
    refine y4z n hn x hx l hok hl K r hK m (k+1) (by omega) (by omega) (fun y hy=>?_)
    rw [take_succ_eq_append_getElem h,mem_append,mem_singleton] at hy
    grind
   ·rw [if_neg hc]
    exact hK k h1 h3 (fun _=>hc)
  ·rw [if_neg (by omega)]
   exact hK k h1 h3 (fun h'=>absurd h' h)
theorem yci (x:Cf):∀ (l:List Cf) (i:Nat),i<=l.length->(∀ y∈l.take i,zdi y x<0)->(∀ h:i<l.length,¬zdi l[i] x<0)->znb zdi x l=if ∃ h:i<l.length,zdi l[i] x=0 then l else l.take i++x::l.drop i
 |[],i,h1,_,_=>by
  have:i=0:=by simpa using h1
  subst this
  simp [znb]
 |y::l,0,_,_,h3=>by
  have:=h3 (by simp)
  simp only [getElem_cons_zero] at this
  unfold znb
  rw [if_neg this]
  simp_all
 |y::l,i+1,h1,h2,h3=>by
  have hy:=h2 y (by simp)
  unfold znb
  rw [if_pos hy,yci x l i (by simpa using h1) (fun z hz=>h2 z (by simp [hz])) (fun h=>by simp_all)]
  by_cases q:∃ h:i<l.length,zdi l[i] x=0
  all_goals simp_all
theorem ygq (n:Nat)(hn:1000000000<n)(x:Cf)(hx:zli x=true)(l:List Cf)(hok:∀ x∈l,zli x=true)(hl:l.length<=1000000):z9e n l x=some (znb zdi x l):=by
 unfold z9e
 refine y4z n hn x hx l hok hl _ _ (fun i hi h1 h2=>?_) n 0 (by omega) (by omega) (by simp)
 rw [yci x l i hi h1 h2]
 simp only [z24,z1d,z6q,length_map,z0d,z5d]
 have hlast:∀ z:Cf,z=x->(sls l 0 (i:Int) fun x45=>app ([]:List Cf) x45 56 fun x46=>app x46 [z] 56 fun x47=>sls l (i:Int) ((l.length:Nat):Int) fun x48=>app x47 x48 56 fun x49=>some x49)=some (l.take i++x::l.drop i):=fun z hz=>by
  subst hz
  have e1:=zl9 (l:=l) (a:=0) (b:=i) (Nat.zero_le _) hi (fun x45=>app ([]:List Cf) x45 56 fun x46=>app x46 [z] 56 fun x47=>sls l (i:Int) ((l.length:Nat):Int) fun x48=>app x47 x48 56 fun x49=>some x49)
  simp only [Int.natCast_zero] at e1
  rw [e1,drop_zero,zbr (by simp;omega) (by omega),nil_append,zbr (by simp;omega) (by omega),zl9 hi (Nat.le_refl _),zbr (by simp;omega) (by omega),take_length]
  simp
 by_cases h:i<l.length
 ·rw [if_pos (by omega),z0k h,yql n _ x (hok _ (getElem_mem h)) hx (by have:=(zgo _).1 (hok _ (getElem_mem h));omega) (by have:=(zgo _).1 (hok _ (getElem_mem h));omega),z04]
  by_cases q:zdi l[i] x=0
  all_goals simp_all
 grind
theorem ycg {x:Cf}(hx:zli x=true){l:List Cf}(hl:∀ y∈l,zli y=true):∀ y∈znb zdi x l,zli y=true:=fun y hy=>by
 rcases (zor cfCmp_to x y l).1 hy with h|h
 all_goals simp_all
theorem ykp {s l:List Cf}(hs:∀ y∈s,zli y=true)(hl:∀ y∈l,zli y=true):∀ y∈zki zdi s l,zli y=true:=fun y hy=>by
 rcases (zkm cfCmp_to y l s).1 hy with h|h
 ·exact hs y h
 ·exact hl y h
theorem yqv (n:Nat)(a b:Ma)(ha:zle a=true)(hb:zle b=true)(hn:1000000000<n):zci n a b=some (decide (a=b)):=by
 unfold zci
 rw [f_ma n _ _ (by have:=(zh2 _).1 ha;exact Nat.lt_of_le_of_lt this hn) (by omega) ((zh2 _).1 hb) ((zh2 _).1 ha)]
 rw [z04]
 congr 1
 exact decide_eq_decide.2 (zc3.zero a b)
theorem zsu (n:Nat)(hn:1000000000<n)(l:List Ma)(hok:∀ x∈l,zle x=true)(hl:l.length<=1000000000)(x46:Nat)(hx:1<=x46)(K:Int->List Ma->Option (List Ma))(r:Option (List Ma))
  (hK:∀ (i:Nat) (cur:List Ma),cur.length=l.length->i<=l.length->cur.take i=dd l->K (i:Int) cur=r) :
  ∀ (m k j:Nat) (cur:List Ma),1<=j->k<=x46+j-1->x46+j<=l.length->l.length<m+j+x46->cur.length=l.length->cur.take k=dd (l.take (x46+j))->cur.drop (x46+j-1)=l.drop (x46+j-1)->z2r n x46 K m ((k:Int),(j:Int),cur)=r
 |0,k,j,cur,h0,h1,h2,h3,h4,h5,h6=>by omega
 |m+1,k,j,cur,h0,h1,h2,h3,h4,h5,h6=>by
  unfold z2r
  simp only [length_map]
  rw [ymw (by omega)]
  simp only [z0d]
  by_cases h:x46+j<l.length
  ·have e0:∀ i (h1:x46+j-1<=i) (h2:i<l.length),∃ h3:i<cur.length,cur[i]=l[i]:=fun i h1 h2=>by
    refine ⟨by omega,?_⟩
    have:=congrArg (fun q=>q[i-(x46+j-1)]?) h6
    simp only [getElem?_drop,show x46+j-1+(i-(x46+j-1))=i by omega] at this
    simp_all
   obtain ⟨c1,c2⟩:=e0 (x46+j) (by omega) h
   obtain ⟨d1,d2⟩:=e0 (x46+(j-1)) (by omega) (by omega)
   rw [if_pos (by omega),zfe (by omega),zik c1,y3x j h0 (by omega),zfe (by omega),zik d1,c2,d2]
   rw [yqv n _ _ (hok _ (getElem_mem _)) (hok _ (getElem_mem _)) hn,z04,z0y,z0d,z1s j (by omega)]
   have htk:l.take (x46+(j+1))=l.take (x46+j)++[l[x46+j]]:=by rw [show x46+(j+1)=(x46+j)+1 by omega,take_succ_eq_append_getElem h]
   have hne:l.take (x46+j)≠[]:=by
    intro e
    have:=congrArg length e
    rw [length_take,length_nil] at this
    omega
   have hlast:(l.take (x46+j)).getLast hne=l[x46+(j-1)]:=by
    rw [getLast_eq_getElem]
    simp only [getElem_take]
    congr 1
    simp only [length_take]
    omega
   have hd6:cur.drop (x46+(j+1)-1)=l.drop (x46+(j+1)-1):=by
    have:=congrArg List.tail h6
    simp only [tail_drop] at this
    rw [show x46+(j+1)-1=x46+j-1+1 by omega]
    exact this
   by_cases he:l[x46+j]=l[x46+(j-1)]
   ·rw [if_pos he]
    refine zsu n hn l hok hl x46 hx K r hK m k (j+1) cur (by omega) (by omega) (by omega) (by omega) h4 ?_ hd6
    rw [htk,zm0 _ _ hne,hlast,if_pos he,append_nil,h5]
   ·rw [if_neg he,zfe (by omega),zik c1,zfe (by omega),zxg (by omega),z1s k (by omega)]
    have hset:∀ z:Ma,(cur.set k z).take (k+1)=cur.take k++[z]:=fun z=>by
     have hk:k<cur.length:=by omega
     rw [take_succ_eq_append_getElem (by simpa using hk),getElem_set_self,take_set_of_le (Nat.le_refl _)]
    have c2':cur[x46+j]=l[x46+j]:=c2
    refine zsu n hn l hok hl x46 hx K r hK m (k+1) (j+1) _ (by omega) (by omega) (by omega) (by omega) (by simpa using h4) ?_ ?_
    ·rw [hset,htk,zm0 _ _ hne,hlast,if_neg he,h5]
     simp_all
    ·rw [drop_set_of_lt (by omega)]
     exact hd6
  ·rw [if_neg (by omega)]
   refine hK k cur h4 (by omega) ?_
   grind
theorem y5b (n:Nat)(hn:1000000000<n)(l:List Ma)(hok:∀ x∈l,zle x=true)(hl:l.length<=1000000000)(h1l:1<=l.length):∀ (m k:Nat),1<=k->k<=l.length->l.length<m+k->dd (l.take k)=l.take k->z4f n l (some l) m (k:Int)=some (dd l)
 |0,k,h0,h1,h2,_=>by omega
 |m+1,k,h0,h1,h2,h3=>by
  unfold z4f
  simp only [length_map,z0d]
  by_cases h:k<l.length
  ·rw [if_pos (by omega),zfe h,zik h,y3x k h0 (by omega),zfe (by omega),zik (by omega)]
   rw [yqv n _ _ (hok _ (getElem_mem _)) (hok _ (getElem_mem _)) hn,z04,z0d,z1s k (by omega)]
   have htk:l.take (k+1)=l.take k++[l[k]]:=take_succ_eq_append_getElem h
   have hne:l.take k≠[]:=by
    intro e
    have:=congrArg length e
    rw [length_take,length_nil] at this
    omega
   have hlast:(l.take k).getLast hne=l[k-1]:=by
    rw [getLast_eq_getElem]
    simp only [getElem_take]
    congr 1
    simp only [length_take]
    omega
   by_cases he:l[k]=l[k-1]
   ·rw [if_pos he,zsx (by omega)]
    have:=zsu n hn l hok hl k h0 (fun k2_1_0y0 k2_1_0y1=>nle k2_1_0y0 k2_1_0y1.length fun x89 =>
     clr k2_1_0y1 x89 (⟨[]⟩:z06) fun x90 =>
     sls x90 0 k2_1_0y0 fun x91=>some x91) (some (dd l)) (fun i cur hc hi ht=>by
      show nle (i:Int) cur.length (fun x89=>clr cur x89 (⟨[]⟩:z06) fun x90=>sls x90 0 (i:Int) fun x91=>some x91)=some (dd l)
      rw [zsx (by omega),yim (by omega)]
      have:=zl9 (l:=zto cur i (⟨[]⟩:z06)) (a:=0) (b:=i) (Nat.zero_le _) (by rw [y1w _ _ _ (by omega)];omega) (fun x91=>some x91)
      simp only [Int.natCast_zero] at this
      rw [this,drop_zero,ztn _ _ _ (by omega),ht]) n k 1 l (by omega) (by omega) (by omega) (by omega) rfl (by rw [htk,zm0 _ _ hne,hlast,if_pos he,append_nil,h3]) rfl
    omega
   ·rw [if_neg he]
    refine y5b n hn l hok hl h1l m (k+1) (by omega) (by omega) (by omega) ?_
    rw [htk,zm0 _ _ hne,hlast,if_neg he,h3]
  grind
theorem yqz (n:Nat)(hn:1000000000<n)(l:List Ma)(hok:∀ x∈l,zle x=true)(hl:l.length<=1000000000):z9a n l=some (dd l):=by
 unfold z9a
 simp only [length_map,z0d]
 by_cases h:l.length<2
 ·rw [if_pos (by omega)]
  match l,h with
  |[],_=>rfl
  |[x],_=>rfl
 ·rw [if_neg (by omega)]
  refine y5b n hn l hok hl (by omega) n 1 (by omega) (by omega) (by omega) ?_
  match l,h with
  |[],h=>exact absurd (by simp) h
  |[x],h=>exact absurd (by simp) h
  |x::y::q,_=>rfl
theorem yg8 (n:Nat)(hn:1000000000<n)(l:List Ma)(hok:∀ x∈l,zle x=true)(hl:l.length<=1000000000):zb6 n l=some (zjn z7v l):=by
 unfold zb6
 rw [yb5 zc3 n l hok hl]
 simp only [ztu,yck,z1d]
 have hp:=zhv z7v l
 rw [yqz n hn _ (fun x hx=>hok x (hp.mem_iff.1 hx)) (by rw [hp.length_eq];exact hl),z8e,yi9 zc3]
theorem y4y (n:Nat)(hn:1000000000<n)(x:Ma)(hx:zle x=true)(l:List Ma)(hok:∀ x∈l,zle x=true)(hl:l.length<=1000000)(K:Int->Option (List Ma))(r:Option (List Ma))
  (hK:∀ i:Nat,i<=l.length->(∀ y∈l.take i,z7v y x<0)->(∀ h:i<l.length,¬z7v l[i] x<0)->K i=r):∀ (m k:Nat),k<=l.length->l.length<m+k->(∀ y∈l.take k,z7v y x<0)->z4n n x l K m (k:Int)=r
 |0,k,h1,h2,_=>by omega
 |m+1,k,h1,h2,h3=>by
  unfold z4n
  simp only [z24,z1d,z6w,length_map,z0d,z5d]
  by_cases h:k<l.length
  ·rw [if_pos (by omega),z0k h,ynx n _ _ (by have:=(zh2 _).1 (hok _ (getElem_mem h));exact Nat.lt_of_le_of_lt this hn) ((zh2 _).1 hx) ((zh2 _).1 (hok _ (getElem_mem h))),z04]
   by_cases hc:z7v l[k] x<0
   ·rw [if_pos hc,z1s k (by omega)]
    refine y4y n hn x hx l hok hl K r hK m (k+1) (by omega) (by omega) (fun y hy=>?_)
    rw [take_succ_eq_append_getElem h,mem_append,mem_singleton] at hy
    grind
   ·rw [if_neg hc]
    exact hK k h1 h3 (fun _=>hc)
  ·rw [if_neg (by omega)]
   exact hK k h1 h3 (fun h'=>absurd h' h)
theorem ych (x:Ma):∀ (l:List Ma) (i:Nat),i<=l.length->(∀ y∈l.take i,z7v y x<0)->(∀ h:i<l.length,¬z7v l[i] x<0)->znb z7v x l=if ∃ h:i<l.length,z7v l[i] x=0 then l else l.take i++x::l.drop i
 |[],i,h1,_,_=>by
  have:i=0:=by simpa using h1
  subst this
  simp [znb]
 |y::l,0,_,_,h3=>by
  have:=h3 (by simp)
  simp only [getElem_cons_zero] at this
  unfold znb
  rw [if_neg this]
  simp_all
 |y::l,i+1,h1,h2,h3=>by
  have hy:=h2 y (by simp)
  unfold znb
  rw [if_pos hy,ych x l i (by simpa using h1) (fun z hz=>h2 z (by simp [hz])) (fun h=>by simp_all)]
  by_cases q:∃ h:i<l.length,z7v l[i] x=0
  all_goals simp_all
theorem ygp (n:Nat)(hn:1000000000<n)(x:Ma)(hx:zle x=true)(l:List Ma)(hok:∀ x∈l,zle x=true)(hl:l.length<=1000000):z9g n l x=some (znb z7v x l):=by
 unfold z9g
 refine y4y n hn x hx l hok hl _ _ (fun i hi h1 h2=>?_) n 0 (by omega) (by omega) (by simp)
 rw [ych x l i hi h1 h2]
 simp only [z24,z1d,z6x,length_map,z0d,z5d]
 have hlast:∀ z:Ma,z=x->(sls l 0 (i:Int) fun x45=>app ([]:List Ma) x45 24 fun x46=>app x46 [z] 24 fun x47=>sls l (i:Int) ((l.length:Nat):Int) fun x48=>app x47 x48 24 fun x49=>some x49)=some (l.take i++x::l.drop i):=fun z hz=>by
  subst hz
  have e1:=zl9 (l:=l) (a:=0) (b:=i) (Nat.zero_le _) hi (fun x45=>app ([]:List Ma) x45 24 fun x46=>app x46 [z] 24 fun x47=>sls l (i:Int) ((l.length:Nat):Int) fun x48=>app x47 x48 24 fun x49=>some x49)
  simp only [Int.natCast_zero] at e1
  rw [e1,drop_zero,zbr (by simp;omega) (by omega),nil_append,zbr (by simp;omega) (by omega),zl9 hi (Nat.le_refl _),zbr (by simp;omega) (by omega),take_length]
  simp
 by_cases h:i<l.length
 ·rw [if_pos (by omega),z0k h,ynx n _ _ (by have:=(zh2 _).1 (hok _ (getElem_mem h));exact Nat.lt_of_le_of_lt this hn) ((zh2 _).1 hx) ((zh2 _).1 (hok _ (getElem_mem h))),z04]
  by_cases q:z7v l[i] x=0
  all_goals simp_all
 grind
theorem y0t {x:Ma}(hx:zle x=true){l:List Ma}(hl:∀ y∈l,zle y=true):∀ y∈znb z7v x l,zle y=true:=fun y hy=>by
 rcases (zor zc3 x y l).1 hy with h|h
 all_goals simp_all
theorem ybb {s l:List Ma}(hs:∀ y∈s,zle y=true)(hl:∀ y∈l,zle y=true):∀ y∈zki z7v s l,zle y=true:=fun y hy=>by
 rcases (zkm zc3 y l s).1 hy with h|h
 ·exact hs y h
 ·exact hl y h
theorem yqj (n:Nat)(hn:1000000000<n)(l:List Cf)(hok:∀ x∈l,zli x=true)(hl:l.length<=100000):zkh n l=some (if 4096<(zjn zdi l).length then ([],5) else (zjn zdi l,0)):=by
 unfold zkh
 have hc:zbm n l=some l:=by unfold zbm;exact if_pos (by omega)
 rw [hc,zjf,yg9 n hn l hok (by omega)]
 simp only [z8e,z04,length_map,z0d]
 grind
theorem ynm {l:List Cf}(h:∀ x∈l,zli x=true):∀ x∈zjn zdi l,zli x=true:=fun x hx=>h x ((zfd cfCmp_to x l).1 hx)
def zo8 (c:Cf):Bool:=decide (c.fBindings.length<=12) && decide (c.fStarts.length<=12)
theorem ybr (n:Nat)(l:List Cf)(K:Option Bool):∀ (m k:Nat),k<=80->80<m+k->z4k n l K m (k:Int)=if ∀ x∈(l.take 80).drop k,zo8 x=true then K else some false
 |0,k,h1,h2=>by omega
 |m+1,k,h1,h2=>by
  unfold z4k
  simp only [z24,z1d,z6t,z6s,length_map,z0d,z5d,z4u]
  by_cases h:k<l.length
  ·rw [if_pos (by omega)]
   by_cases h8:k<80
   ·rw [if_pos (by omega),z0k h,z1s k (by omega),ybr n l K m (k+1) (by omega) (by omega)]
    have hd:(l.take 80).drop k=l[k]::(l.take 80).drop (k+1):=by
     rw [z0e _ k (by simp;omega),getElem_take]
    rw [hd]
    simp only [forall_mem_cons]
    have hs:zo8 l[k]=true ↔ l[k].fBindings.length<=12/\l[k].fStarts.length<=12:=by simp [zo8]
    simp only [hs]
    by_cases q1:l[k].fBindings.length<=12
    ·rw [if_neg (by omega),z0k h]
     grind
    grind
   grind
  ·rw [if_neg (by omega),drop_eq_nil_of_le (by simp;omega)]
   simp
theorem ysz (n:Nat)(hn:80<n)(l:List Cf):zcw n l=some (decide (l.length<=60/\∀ x∈l,zo8 x=true)):=by
 unfold zcw
 have:=ybr n l (some (decide ((((List.map z01 (l)).length:Nat):Int)<=60))) n 0 (by omega) (by omega)
 simp only [Int.natCast_zero,drop_zero] at this
 rw [this]
 simp only [length_map]
 by_cases h:l.length<=60
 ·rw [take_of_length_le (by omega)]
  grind
 grind
def zef (e:Ev):Bool:=decide (0<=e.fTime) && (decide (e.fTime<=1099511627776) && (decide (0<=e.fSource) && (decide (e.fSource<8) && (decide (0<=e.fSeq) && decide (e.fSeq<=1099511627776)))))
def idt (e:Ev):z9k:=⟨e.fSource,e.fSeq⟩
theorem yl1 (n:Nat)(e:Ev):zge n e=some (zef e):=by
 unfold zge zef
 simp only [z0d]
 grind
theorem yge (n:Nat)(e:Ev):zax n e=some (zef e):=by
 unfold zax zef
 simp only [z0d]
 grind
theorem ysw (n:Nat)(e:Ev):zh8 n e=some (idt e):=rfl
theorem ynz (n:Nat)(e:Ev):z9i n e=some ⟨e.fTime,e.fSource,e.fSeq⟩:=rfl
def zc2 (e:Ev):z1g:=⟨e.fTime,e.fSource,e.fSeq⟩
def zj6 (a b:Ev):Int:=zsh (zc2 a) (zc2 b)
theorem yt0 (n:Nat)(hn:4<=n)(a b:Ev):zgk n a b=some (zj6 a b):=by
 obtain ⟨m,rfl⟩:∃ m,n=m+4:=⟨n-4,by omega⟩
 unfold zgk zjl
 simp only [z04,y9u,ylv,Bool.and_true,z5c,Bool.and_eq_true,decide_eq_true_eq]
 split
 ·rename_i h
  obtain ⟨h1,h2,h3⟩:=h
  simp [zj6,zsh,zc2,or3,zo7,h1,h2,h3]
 ·rfl
theorem yml (n:Nat)(a b:Ev):zai n a b=some (decide (idt a=idt b)):=by
 unfold zai
 simp only [z0d]
 split
 ·rename_i h;simp [idt,h]
 ·rename_i h;simp [idt,h]
def ys6 (l:List z05):Bool:=(l.take 40).all (fun v=>decide (v.fText.size<=128)) && decide (l.length<40)
theorem y59 (n:Nat)(l:List z05)(K:Option Bool):∀ (m k:Nat),k<=l.length->k<=40->40<m+k->z91 n l K m k=if ((l.take 40).drop k).all (fun v=>decide (v.fText.size<=128)) then K else some false
 |0,k,h1,h2,h3=>by omega
 |m+1,k,h1,h2,h3=>by
  unfold z91
  simp only [length_map,z0d]
  by_cases h:k<l.length
  ·rw [if_pos (by omega)]
   by_cases h4:k<40
   ·rw [if_pos (by omega),z0k h,z1s k (by omega)]
    have hk:k<(l.take 40).length:=by rw [length_take];omega
    rw [z0e (l.take 40) k hk,all_cons,getElem_take]
    by_cases h5:l[k].fText.size<=128
    ·rw [if_neg (by omega),y59 n l K m (k+1) (by omega) (by omega) (by omega)]
     simp [h5]
    grind
   grind
  ·rw [if_neg (by omega),drop_eq_nil_of_le (by rw [length_take];omega)];simp
theorem yqt (n:Nat)(l:List z05)(hn:41<=n):zd2 n l=some (ys6 l):=by
 unfold zd2 ys6
 have:=y59 n l (some (decide ((((List.map z09 l).length:Nat):Int)<40))) n 0 (by omega) (by omega) (by omega)
 simp only [Int.natCast_zero,drop_zero] at this
 rw [this]
 simp only [length_map]
 split
 ·rename_i h;rw [h];simp;omega
 grind
def yrg (l:List Ev):Bool:=(l.take 20).all (fun e=>decide (e.fValues.length<=12) && ys6 e.fValues) && decide (l.length<=12)
theorem y58 (n:Nat)(l:List Ev)(K:Option Bool)(hn:41<=n):∀ (m k:Nat),k<=l.length->k<=20->20<m+k->z90 n l K m k=if ((l.take 20).drop k).all (fun e=>decide (e.fValues.length<=12) && ys6 e.fValues) then K else some false
 |0,k,h1,h2,h3=>by omega
 |m+1,k,h1,h2,h3=>by
  unfold z90
  simp only [length_map,z0d,z0y]
  by_cases h:k<l.length
  ·rw [if_pos (by omega)]
   by_cases h4:k<20
   ·rw [if_pos (by omega),z0k h,z1s k (by omega)]
    have hk:k<(l.take 20).length:=by rw [length_take];omega
    rw [z0e (l.take 20) k hk,all_cons,getElem_take]
    by_cases h5:l[k].fValues.length<=12
    ·rw [if_neg (by omega),z0k h,yqt n _ hn,z04,z5c,y58 n l K hn m (k+1) (by omega) (by omega) (by omega)]
     grind
    grind
   grind
  ·rw [if_neg (by omega),drop_eq_nil_of_le (by rw [length_take];omega)];simp
theorem yqs (n:Nat)(l:List Ev)(hn:41<=n):zd1 n l=some (yrg l):=by
 unfold zd1 yrg
 have:=y58 n l (some (decide ((((List.map z02 l).length:Nat):Int)<=12))) hn n 0 (by omega) (by omega) (by omega)
 simp only [Int.natCast_zero,drop_zero] at this
 rw [this]
 simp only [length_map]
 split
 ·rename_i h;rw [h];simp;omega
 grind
theorem ylt {l:List Ev}(h:yrg l=true):l.length<=12/\∀ e∈l,e.fValues.length<=12:=by
 unfold yrg at h
 simp only [Bool.and_eq_true,decide_eq_true_eq,all_eq_true] at h
 refine ⟨h.2,fun e he=>(h.1 e ?_).1⟩
 rw [take_of_length_le (by omega)]
 exact he
def zyh:List Ev->Ev->Bool
 |[],_=>false
 |x::_,e=>decide (0<=zj6 x e)
def chk:List Ev->List Ev->Int
 |_,[]=>0
 |p,e::r=>if zef e=false then 2 else if zyh p e=true then 14 else if p.any (fun x=>decide (idt x=idt e)) then 7 else chk (e::p) r
def zjq (l:List Ev):Int:=if 4096<l.length then 5 else chk [] l
def y7l (m:List (z9k×Bool))(p:List Ev):Prop:=∀ k,(mlk m k).getD false=p.any (fun x=>decide (idt x=k))
theorem ycd {κ ν:Type}[DecidableEq κ](l:List (κ×ν))(k:κ)(v:ν)(k':κ):mlk (ye5 l k v) k'=if k'=k then some v else mlk l k':=by
 induction l with
 |nil=>simp [ye5,mlk]
 |cons a r ih =>
  obtain ⟨a,x⟩:=a
  simp only [ye5]
  by_cases h:k=a
  ·subst h
   rw [if_pos rfl]
   simp only [mlk]
   simp_all
  ·rw [if_neg h]
   simp only [mlk,ih]
   grind
theorem y7l.put {m:List (z9k×Bool)}{p:List Ev}(h:y7l m p)(e:Ev):y7l (ye5 m (idt e) true) (e::p):=fun k=>by
 rw [ycd,any_cons]
 by_cases hk:k=idt e
 ·subst hk;simp
 ·rw [if_neg hk,h k]
  grind
theorem zra {l:List Ev}{k:Nat}(h:k<l.length):(l.take (k+1)).reverse=l[k]::(l.take k).reverse:=by
 simp_all
theorem yb8 {l:List Ev}{k:Nat}(h0:0<k)(h:k<=l.length):∃ t,(l.take k).reverse=l[k-1]::t:=by
 obtain ⟨j,rfl⟩:∃ j,k=j+1:=⟨k-1,by omega⟩
 exact ⟨_,by rw [zra (by omega)];rfl⟩
theorem y3w {k:Nat}(h0:0<k)(h:k<=1000000):IntKind.wrap .i64 ((k:Int)-1)=((k-1:Nat):Int):=by rw [zee _ (by omega)];omega
theorem yr9 {κ ν β:Type}[DecidableEq κ](l:List (κ×ν))(k:κ)(z:ν)(c:ν->Bool->Option β):mgt l k z c=c ((mlk l k).getD z) (mlk l k).isSome:=by unfold mgt;rfl
theorem ymt {κ ν β:Type}[DecidableEq κ](l:List (κ×ν))(k:κ)(v:ν)(c:List (κ×ν)->Option β):mst l k v c=c (ye5 l k v):=by unfold mst;rfl
theorem ybz (n:Nat)(hn4:4<=n)(l:List Ev):∀ (m k:Nat) (seen:List (z9k×Bool)),k<=l.length->l.length<=1000000->l.length<m+k->y7l seen (l.take k).reverse ->
  zb4 n l (some 0) m ((k:Int),seen)=some (chk (l.take k).reverse (l.drop k))
 |0,k,_,h1,h2,h3,_=>by omega
 |m+1,k,seen,h1,h2,h3,hs=>by
  unfold zb4
  simp only [length_map,z0d,z0y]
  by_cases h:k<l.length
  ·rw [if_pos (by omega),z0k h,z1s k (by omega)]
   rw [z0e l k h]
   conv=>rhs;unfold chk
   have hs':y7l (ye5 seen (idt l[k]) true) (l.take (k+1)).reverse:=by rw [zra h];exact hs.put _
   have ih:=ybz n hn4 l m (k+1) _ (by omega) h2 (by omega) hs'
   rw [zra h] at ih
   have hseen:=hs (idt l[k])
   simp only [yl1,z04,ysw,z5c,yr9,ymt,hseen,yt0 n hn4]
   by_cases hp:zef l[k]=true
   ·have hp':¬zef l[k]=false:=by rw [hp];simp
    rw [if_pos hp,if_neg hp']
    by_cases hk0:0<k
    ·rw [if_pos (by omega),y3w hk0 (by omega),z0k (by omega:k-1<l.length)]
     obtain ⟨t,ht⟩:=yb8 (l:=l) hk0 h1
     try simp only [z04,decide_eq_true_eq]
     rw [ht] at ih ⊢
     simp only [zyh,decide_eq_true_eq]
     grind
    ·have hk:k=0:=by omega
     subst hk
     rw [if_neg (by omega)]
     simp only [take_zero,reverse_nil,any_nil,zyh,Bool.false_eq_true,if_false] at ih ⊢
     rw [ih]
   simp_all
  ·rw [if_neg (by omega),drop_eq_nil_of_le (by omega)];rfl
theorem yr3 (n:Nat)(l:List Ev)(hn:l.length<n)(hn4:4<=n)(h2:l.length<=1000000):zfq n l=some (zjq l):=by
 unfold zfq zjq
 simp only [length_map,z0d]
 by_cases h:4096<l.length
 ·rw [if_pos (by omega),if_pos h]
 ·rw [if_neg (by omega),if_neg h]
  have:=ybz n hn4 l n 0 [] (by omega) h2 (by omega) (fun k=>rfl)
  simpa using this
theorem y4w (n:Nat)(l:List Ev)(i:Nat)(hi:i<l.length)(K:Option Int):∀ (m k:Nat),k<=i->l.length<=1000000->i<m+k->z7k n l (i:Int) K m k=if ((l.take i).drop k).any (fun x=>decide (idt x=idt l[i])) then some 7 else K
 |0,k,h1,h2,h3=>by omega
 |m+1,k,h1,h2,h3=>by
  unfold z7k
  simp only [z0d]
  by_cases h:k<i
  ·rw [if_pos (by omega),z0k (by omega:k<l.length),z0k hi,z1s k (by omega),yml,z04,z0d]
   have hk:k<(l.take i).length:=by rw [length_take];omega
   rw [z0e (l.take i) k hk,any_cons,getElem_take,y4w n l i hi K m (k+1) (by omega) h2 (by omega)]
   grind
  grind
theorem y4v (n:Nat)(l:List Ev)(i:Nat)(hi:i<l.length)(K:Option Int):∀ (m k:Nat),k<=i->l.length<=1000000->i<m+k->z7j n l (i:Int) K m k=if ((l.take i).drop k).any (fun x=>decide (idt x=idt l[i])) then some 7 else K
 |0,k,h1,h2,h3=>by omega
 |m+1,k,h1,h2,h3=>by
  unfold z7j
  simp only [z0d]
  by_cases h:k<i
  ·rw [if_pos (by omega),z0k (by omega:k<l.length),z0k hi,z1s k (by omega),yml,z04,z0d]
   have hk:k<(l.take i).length:=by rw [length_take];omega
   rw [z0e (l.take i) k hk,any_cons,getElem_take,y4v n l i hi K m (k+1) (by omega) h2 (by omega)]
   grind
  grind
theorem y4x (n:Nat)(l:List Ev)(hn:l.length<n):∀ (m k:Nat),k<=l.length->l.length<=1000000->l.length<m+k->z2e n l (some 0) m (k:Int)=some (chk (l.take k).reverse (l.drop k))
 |0,k,h1,h2,h3=>by omega
 |m+1,k,h1,h2,h3=>by
  unfold z2e
  simp only [length_map,z0d,z0y]
  by_cases h:k<l.length
  ·rw [if_pos (by omega),z0k h,z1s k (by omega)]
   rw [z0e l k h]
   conv=>rhs;unfold chk
   have ih:=y4x n l hn m (k+1) (by omega) h2 (by omega)
   rw [zra h] at ih
   simp only [yge,z04,z5c]
   by_cases hp:zef l[k]=true
   ·have hp':¬zef l[k]=false:=by rw [hp];simp
    rw [if_pos hp,if_neg hp']
    by_cases hk0:0<k
    ·rw [if_pos (by omega),y3w hk0 (by omega),z0k (by omega:k-1<l.length)]
     obtain ⟨t,ht⟩:=yb8 (l:=l) hk0 h1
     simp only [z04,ynz]
     rw [z0k h]
     simp only [z04,ybj]
     have ec:zsh ⟨l[k-1].fTime,l[k-1].fSource,l[k-1].fSeq⟩ ⟨l[k].fTime,l[k].fSource,l[k].fSeq⟩=zj6 l[k-1] l[k]:=rfl
     rw [ec]
     have hl2:=y4w n l k h (z2e n l (some 0) m ((k+1:Nat):Int)) n 0 (by omega) h2 (by omega)
     simp only [Int.natCast_zero,drop_zero] at hl2
     rw [hl2,ih]
     have hany:(l.take k).any (fun x=>decide (idt x=idt l[k]))=(l.take k).reverse.any (fun x=>decide (idt x=idt l[k])):=by rw [any_reverse]
     rw [hany,ht]
     simp only [zyh,decide_eq_true_eq]
     grind
    ·have hk:k=0:=by omega
     subst hk
     rw [if_neg (by omega)]
     have hl3:=y4v n l 0 h (z2e n l (some 0) m ((0+1:Nat):Int)) n 0 (by omega) h2 (by omega)
     simp only [Int.natCast_zero,drop_zero] at hl3
     simp only [Int.natCast_zero] at hl3 ⊢
     rw [hl3]
     simp only [take_zero,reverse_nil,any_nil,zyh,Bool.false_eq_true,if_false] at ih ⊢
     rw [ih]
   simp_all
  ·rw [if_neg (by omega),drop_eq_nil_of_le (by omega)];rfl
theorem ymo (n:Nat)(l:List Ev)(hn:l.length<n)(h2:l.length<=1000000):z9t n l=some (zjq l):=by
 unfold z9t zjq
 simp only [length_map,z0d]
 by_cases h:4096<l.length
 ·rw [if_pos (by omega),if_pos h]
 ·rw [if_neg (by omega),if_neg h]
  have:=y4x n l hn n 0 (by omega) h2 (by omega)
  simpa using this
end Go.Proofs.YtidhlpjgifoneaaGreat
