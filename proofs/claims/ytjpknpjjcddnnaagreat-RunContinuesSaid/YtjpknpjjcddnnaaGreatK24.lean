/- Layer 25: sorting without repetitions, plainly: the program's and the reference's. Layer 5, plainly, as layer 25 needs it: checking streams, small streams. -/
import Derived.Test.YtjpknpjjcddnnaaGreatK22
import Derived.Test.YtjpknpjjcddnnaaGreatK23
set_option linter.unusedVariables false
set_option linter.unusedSimpArgs false
namespace Go.Proofs.YtjpknpjjcddnnaaGreat
open Go.RowKit
theorem nle_nat {β:Type}{i len:Nat}(h:i<=len)(k:Nat->Option β):nle (i:Int) len k=k i:=by unfold nle;simp [h]
theorem gle_ok {β:Type}{a b:Nat}(h:a<=b)(x:Option β):gle a b x=x:=by unfold gle;simp [h]
theorem clr_ok {α β:Type}{l:List α}{lo:Nat}(h:lo<=l.length)(z:α)(k:List α->Option β):clr l lo z k=k (clrL l lo z):=by unfold clr;simp [h]
theorem frb_eq {β:Type}(i:Nat)(x:Option β):frb i x=x:=by unfold frb;rfl
theorem clrL_take {α:Type}(l:List α)(lo:Nat)(z:α)(h:lo<=l.length):(clrL l lo z).take lo=l.take lo:=by
 unfold clrL
 rw [List.take_append_of_le_length (by rw [List.length_take];omega),List.take_take,Nat.min_self]
theorem clrL_len {α:Type}(l:List α)(lo:Nat)(z:α)(h:lo<=l.length):(clrL l lo z).length=l.length:=by
 unfold clrL;simp;omega
theorem wrapP (k:Nat)(h:1<=k)(h2:k<=1000000000000):IntKind.wrap .i64 ((k:Int)-1)=((k-1:Nat):Int):=by rw [zdf _ (by omega)];omega
theorem p_rorder (n:Nat)(a b:z13):z86 n a b=some (rCmp a b):=by
 unfold z86 rCmp or3 cmpI
 simp only [z0o,z0w]
 repeat' split
 all_goals first|rfl|(exfalso;omega)
theorem p_border (n:Nat)(a b:Bd):z9o n a b=some (zzd a b):=by
 unfold z9o
 rw [p_rorder,z09]
 simp only [z0o,z0w,zzd,or2]
 have e:rCmp ⟨a.fRef.fTime,a.fRef.fSource,a.fRef.fSeq⟩ ⟨b.fRef.fTime,b.fRef.fSource,b.fRef.fSeq⟩=rCmp a.fRef b.fRef:=rfl
 rw [e]
 unfold cmpI
 by_cases h:rCmp a.fRef b.fRef=0
 ·rw [if_pos h,if_pos h]
  split<;>(try split)<;>rfl
 ·rw [if_neg h,if_neg h]
theorem p_rma_l1 (n:Nat)(b a:Ma)(hb:b.fBindings.length<=1000000000)(hal:a.fBindings.length<=1000000000)(K:Option Int)(hK:K=if a.fBindings.length<b.fBindings.length then some (-1) else if b.fBindings.length<a.fBindings.length then some 1 else some 0):∀ (m k:Nat),k<=a.fBindings.length->k<=b.fBindings.length->a.fBindings.length<m+k ->
  z26 n b a K m k=some (lexC zzd (a.fBindings.drop k) (b.fBindings.drop k))
 |0,k,h1,_,h3=>by omega
 |m+1,k,h1,h2,h3=>by
  unfold z26
  simp only [z2s,z1r,z2v,List.length_map,z0o,z80,z8k,z0w]
  by_cases h:k<a.fBindings.length
  ·rw [if_pos (by omega)]
   by_cases h':k<b.fBindings.length
   ·rw [if_pos (by omega),z0s h,z0s h',z0g _ k h,z0g _ k h']
    rw [p_border,z09,z2n k (by omega),p_rma_l1 n b a hb hal K hK m (k+1) (by omega) (by omega) (by omega)]
    show _=some (or2 (zzd _ _) _)
    unfold or2
    split<;>rfl
   ·rw [if_neg (by omega),hK,if_neg (by omega),if_pos (by omega),z0g _ k h,List.drop_eq_nil_of_le (by omega:b.fBindings.length<=k)]
    rfl
  ·rw [if_neg (by omega),hK,List.drop_eq_nil_of_le (by omega:a.fBindings.length<=k)]
   by_cases h':a.fBindings.length<b.fBindings.length
   ·rw [if_pos h',z0g _ k (by omega:k<b.fBindings.length)];rfl
   ·rw [if_neg h',if_neg (by omega),List.drop_eq_nil_of_le (by omega)];rfl
theorem p_rma (n:Nat)(a b:Ma)(hn:a.fBindings.length<n)(hb:b.fBindings.length<=1000000000)(hal:a.fBindings.length<=1000000000):z2z n a b=some (z4o a b):=by
 unfold z2z
 have:=p_rma_l1 n b a hb hal _ rfl n 0 (by omega) (by omega) (by omega)
 simp only [Int.natCast_zero,List.drop_zero] at this
 rw [show z4o a b=lexC zzd a.fBindings b.fBindings from rfl,<-this]
 congr 1
 simp only [List.length_map,z0o]
 split<;>split<;>(try split)<;>(try split)<;>first|rfl|omega
theorem p_rcf_l1 (n:Nat)(b a:Cf)(hb:b.fStarts.length<=1000000000)(hal:a.fStarts.length<=1000000000)(K:Option Int)(hK:K=if a.fStarts.length<b.fStarts.length then some (-1) else if b.fStarts.length<a.fStarts.length then some 1 else some 0):∀ (m k:Nat),k<=a.fStarts.length->k<=b.fStarts.length->a.fStarts.length<m+k ->
  z23 n b a K m k=some (lexC y11 (a.fStarts.drop k) (b.fStarts.drop k))
 |0,k,h1,_,h3=>by omega
 |m+1,k,h1,h2,h3=>by
  unfold z23
  simp only [z2s,z1r,z2u,z24,List.length_map,z0o,z80,z8k,z0w]
  by_cases h:k<a.fStarts.length
  ·rw [if_pos (by omega)]
   by_cases h':k<b.fStarts.length
   ·rw [if_pos (by omega),z0s h,z0s h',z0g _ k h,z0g _ k h']
    rw [z2n k (by omega),p_rcf_l1 n b a hb hal K hK m (k+1) (by omega) (by omega) (by omega)]
    show _=some (or2 (y11 _ _) _)
    unfold y11 or2 cmpI
    generalize a.fStarts[k]=x
    generalize b.fStarts[k]=y
    simp only [z3x,Bool.and_true,Bool.and_eq_true,decide_eq_true_eq]
    by_cases q1:x.fScope<y.fScope
    ·simp [q1]
    ·by_cases q2:x.fScope=y.fScope
     ·by_cases q3:x.fTime<y.fTime
      ·simp [q1,q2,q3]
      ·by_cases q4:x.fTime=y.fTime
       ·simp [q1,q2,q3,q4]
       ·have:y.fTime<x.fTime:=by omega
        simp [q1,q2,q3,q4,this]
     ·have:y.fScope<x.fScope:=by omega
      simp [q1,q2,this]
   ·rw [if_neg (by omega),hK,if_neg (by omega),if_pos (by omega),z0g _ k h,List.drop_eq_nil_of_le (by omega:b.fStarts.length<=k)]
    rfl
  ·rw [if_neg (by omega),hK,List.drop_eq_nil_of_le (by omega:a.fStarts.length<=k)]
   by_cases h':a.fStarts.length<b.fStarts.length
   ·rw [if_pos h',z0g _ k (by omega:k<b.fStarts.length)];rfl
   ·rw [if_neg h',if_neg (by omega),List.drop_eq_nil_of_le (by omega)];rfl
theorem p_rcf (n:Nat)(a b:Cf)(ha:cfOk a=true)(hb:cfOk b=true)(hn:a.fBindings.length<n)(hn2:a.fStarts.length<n):z2y n a b=some (za0 a b):=by
 obtain ⟨a1,a2⟩:=(ze5 a).1 ha
 obtain ⟨b1,b2⟩:=(ze5 b).1 hb
 unfold z2y
 rw [p_rma n _ _ hn b1 a1,z09]
 have:=p_rcf_l1 n b a b2 a2 _ rfl n 0 (by omega) (by omega) (by omega)
 simp only [Int.natCast_zero,List.drop_zero] at this
 simp only [List.length_map,z0o,z0w]
 have e:(if (a.fStarts.length:Int)<(b.fStarts.length:Int) then some (-1:Int) else if (b.fStarts.length:Int)<(a.fStarts.length:Int) then some 1 else some 0)=(if a.fStarts.length<b.fStarts.length then some (-1) else if b.fStarts.length<a.fStarts.length then some 1 else some 0):=by
  split<;>split<;>(try split)<;>(try split)<;>first|rfl|omega
 rw [e,this]
 show _=some (or3 (cmpI a.fState b.fState) (z4o ⟨a.fBindings⟩ ⟨b.fBindings⟩) _)
 unfold or3 cmpI
 generalize z4o ⟨a.fBindings⟩ ⟨b.fBindings⟩=x
 generalize lexC y11 a.fStarts b.fStarts=y
 by_cases q1:a.fState=b.fState
 ·by_cases q2:x=0<;>simp [q1,q2]
 ·by_cases q2:a.fState<b.fState
  ·simp [q1,q2]
  ·have:b.fState<a.fState:=by omega
   simp [q1,q2,this]
theorem p_eqC (n:Nat)(a b:Cf)(ha:cfOk a=true)(hb:cfOk b=true)(hn:1000000000<n):zao n a b=some (decide (a=b)):=by
 unfold zao
 obtain ⟨a1,a2⟩:=(ze5 a).1 ha
 obtain ⟨b1,b2⟩:=(ze5 b).1 hb
 rw [f_cfg n a b (by omega) (by omega) (by omega) b1 a1 b2 a2]
 rw [z09]
 congr 1
 exact decide_eq_decide.2 (zdo.zero a b)
theorem p_cptC_l2 (n:Nat)(hn:1000000000<n)(l:List Cf)(hok:∀ x∈l,cfOk x=true)(hl:l.length<=1000000000)(x46:Nat)(hx:1<=x46)(K:Int->List Cf->Option (List Cf))(r:Option (List Cf))
  (hK:∀ (i:Nat) (cur:List Cf),cur.length=l.length->i<=l.length->cur.take i=dd l->K (i:Int) cur=r) :
  ∀ (m k j:Nat) (cur:List Cf),1<=j->k<=x46+j-1->x46+j<=l.length->l.length<m+j+x46->cur.length=l.length->cur.take k=dd (l.take (x46+j))->cur.drop (x46+j-1)=l.drop (x46+j-1)->z4x n x46 K m ((k:Int),(j:Int),cur)=r
 |0,k,j,cur,h0,h1,h2,h3,h4,h5,h6=>by omega
 |m+1,k,j,cur,h0,h1,h2,h3,h4,h5,h6=>by
  unfold z4x
  simp only [List.length_map]
  rw [gle_ok (by omega)]
  simp only [z0o]
  by_cases h:x46+j<l.length
  ·have e0:∀ i (h1:x46+j-1<=i) (h2:i<l.length),∃ h3:i<cur.length,cur[i]=l[i]:=fun i h1 h2=>by
    refine ⟨by omega,?_⟩
    have:=congrArg (fun q=>q[i-(x46+j-1)]?) h6
    simp only [List.getElem?_drop,show x46+j-1+(i-(x46+j-1))=i by omega] at this
    rw [List.getElem?_eq_getElem (by omega),List.getElem?_eq_getElem h2] at this
    exact Option.some.inj this
   obtain ⟨c1,c2⟩:=e0 (x46+j) (by omega) h
   obtain ⟨d1,d2⟩:=e0 (x46+(j-1)) (by omega) (by omega)
   rw [if_pos (by omega),ze1 (by omega),zj7 c1,wrapP j h0 (by omega),ze1 (by omega),zj7 d1,c2,d2]
   rw [p_eqC n _ _ (hok _ (List.getElem_mem _)) (hok _ (List.getElem_mem _)) hn,z09,z0w,z0o,z2n j (by omega)]
   have htk:l.take (x46+(j+1))=l.take (x46+j)++[l[x46+j]]:=by rw [show x46+(j+1)=(x46+j)+1 by omega,List.take_succ_eq_append_getElem h]
   have hne:l.take (x46+j)≠[]:=by
    intro e
    have:=congrArg List.length e
    rw [List.length_take,List.length_nil] at this
    omega
   have hlast:(l.take (x46+j)).getLast hne=l[x46+(j-1)]:=by
    rw [List.getLast_eq_getElem]
    simp only [List.getElem_take]
    congr 1
    simp only [List.length_take]
    omega
   have hd6:cur.drop (x46+(j+1)-1)=l.drop (x46+(j+1)-1):=by
    have:=congrArg List.tail h6
    simp only [List.tail_drop] at this
    rw [show x46+(j+1)-1=x46+j-1+1 by omega]
    exact this
   by_cases he:l[x46+j]=l[x46+(j-1)]
   ·rw [if_pos he]
    refine p_cptC_l2 n hn l hok hl x46 hx K r hK m k (j+1) cur (by omega) (by omega) (by omega) (by omega) h4 ?_ hd6
    rw [htk,zwz _ _ hne,hlast,if_pos he,List.append_nil,h5]
   ·rw [if_neg he,ze1 (by omega),zj7 c1,ze1 (by omega),stx_ok (by omega),z2n k (by omega)]
    have hset:∀ z:Cf,(cur.set k z).take (k+1)=cur.take k++[z]:=fun z=>by
     have hk:k<cur.length:=by omega
     rw [List.take_succ_eq_append_getElem (by simpa using hk),List.getElem_set_self,List.take_set_of_le (Nat.le_refl _)]
    have c2':cur[x46+j]=l[x46+j]:=c2
    refine p_cptC_l2 n hn l hok hl x46 hx K r hK m (k+1) (j+1) _ (by omega) (by omega) (by omega) (by omega) (by simpa using h4) ?_ ?_
    ·rw [hset,htk,zwz _ _ hne,hlast,if_neg he,h5]
     exact congrArg (fun q=>dd (l.take (x46+j))++[q]) c2'
    ·rw [List.drop_set_of_lt (by omega)]
     exact hd6
  ·rw [if_neg (by omega)]
   refine hK k cur h4 (by omega) ?_
   rw [h5,List.take_of_length_le (by omega)]
theorem p_cptC_l1 (n:Nat)(hn:1000000000<n)(l:List Cf)(hok:∀ x∈l,cfOk x=true)(hl:l.length<=1000000000)(h1l:1<=l.length):∀ (m k:Nat),1<=k->k<=l.length->l.length<m+k->dd (l.take k)=l.take k->z75 n l (some l) m (k:Int)=some (dd l)
 |0,k,h0,h1,h2,_=>by omega
 |m+1,k,h0,h1,h2,h3=>by
  unfold z75
  simp only [List.length_map,z0o]
  by_cases h:k<l.length
  ·rw [if_pos (by omega),ze1 h,zj7 h,wrapP k h0 (by omega),ze1 (by omega),zj7 (by omega)]
   rw [p_eqC n _ _ (hok _ (List.getElem_mem _)) (hok _ (List.getElem_mem _)) hn,z09,z0o,z2n k (by omega)]
   have htk:l.take (k+1)=l.take k++[l[k]]:=List.take_succ_eq_append_getElem h
   have hne:l.take k≠[]:=by
    intro e
    have:=congrArg List.length e
    rw [List.length_take,List.length_nil] at this
    omega
   have hlast:(l.take k).getLast hne=l[k-1]:=by
    rw [List.getLast_eq_getElem]
    simp only [List.getElem_take]
    congr 1
    simp only [List.length_take]
    omega
   by_cases he:l[k]=l[k-1]
   ·rw [if_pos he,nle_nat (by omega)]
    have:=p_cptC_l2 n hn l hok hl k h0 (fun k2_1_0y0 k2_1_0y1=>nle k2_1_0y0 k2_1_0y1.length fun x89 =>
     clr k2_1_0y1 x89 (⟨0,[],[]⟩:z00) fun x90 =>
     sls x90 0 k2_1_0y0 fun x91=>some x91) (some (dd l)) (fun i cur hc hi ht=>by
      show nle (i:Int) cur.length (fun x89=>clr cur x89 (⟨0,[],[]⟩:z00) fun x90=>sls x90 0 (i:Int) fun x91=>some x91)=some (dd l)
      rw [nle_nat (by omega),clr_ok (by omega)]
      have:=zwl (l:=clrL cur i (⟨0,[],[]⟩:z00)) (a:=0) (b:=i) (Nat.zero_le _) (by rw [clrL_len _ _ _ (by omega)];omega) (fun x91=>some x91)
      simp only [Int.natCast_zero] at this
      rw [this,List.drop_zero,clrL_take _ _ _ (by omega),ht]) n k 1 l (by omega) (by omega) (by omega) (by omega) rfl (by rw [htk,zwz _ _ hne,hlast,if_pos he,List.append_nil,h3]) rfl
    have e1:((1:Nat):Int)=1:=rfl
    rw [e1] at this
    exact this
   ·rw [if_neg he]
    refine p_cptC_l1 n hn l hok hl h1l m (k+1) (by omega) (by omega) (by omega) ?_
    rw [htk,zwz _ _ hne,hlast,if_neg he,h3]
  ·rw [if_neg (by omega)]
   rw [List.take_of_length_le (by omega)] at h3
   rw [h3]
theorem p_cptC (n:Nat)(hn:1000000000<n)(l:List Cf)(hok:∀ x∈l,cfOk x=true)(hl:l.length<=1000000000):zab n l=some (dd l):=by
 unfold zab
 simp only [List.length_map,z0o]
 by_cases h:l.length<2
 ·rw [if_pos (by omega)]
  match l,h with
  |[],_=>rfl
  |[x],_=>rfl
 ·rw [if_neg (by omega)]
  refine p_cptC_l1 n hn l hok hl (by omega) n 1 (by omega) (by omega) (by omega) ?_
  match l,h with
  |[],h=>exact absurd (by simp) h
  |[x],h=>exact absurd (by simp) h
  |x::y::q,_=>rfl
theorem p_uniqC (n:Nat)(hn:1000000000<n)(l:List Cf)(hok:∀ x∈l,cfOk x=true)(hl:l.length<=1000000000):zg8 n l=some (setL za0 l):=by
 unfold zg8
 rw [sortS_eq zdo n l hok hl]
 simp only [bndC_some,frb_eq,z1r]
 have hp:=zhp za0 l
 rw [p_cptC n hn _ (fun x hx=>hok x (hp.mem_iff.1 hx)) (by rw [hp.length_eq];exact hl),zbq,dd_sort zdo]
theorem p_putC_l1 (n:Nat)(hn:1000000000<n)(x:Cf)(hx:cfOk x=true)(l:List Cf)(hok:∀ x∈l,cfOk x=true)(hl:l.length<=1000000)(K:Int->Option (List Cf))(r:Option (List Cf))
  (hK:∀ i:Nat,i<=l.length->(∀ y∈l.take i,za0 y x<0)->(∀ h:i<l.length,¬za0 l[i] x<0)->K i=r):∀ (m k:Nat),k<=l.length->l.length<m+k->(∀ y∈l.take k,za0 y x<0)->z3n n x l K m (k:Int)=r
 |0,k,h1,h2,_=>by omega
 |m+1,k,h1,h2,h3=>by
  unfold z3n
  simp only [z2s,z1r,z5m,List.length_map,z0o,z8k]
  by_cases h:k<l.length
  ·rw [if_pos (by omega),z0s h,p_rcf n _ x (hok _ (List.getElem_mem h)) hx (by have:=(ze5 _).1 (hok _ (List.getElem_mem h));omega) (by have:=(ze5 _).1 (hok _ (List.getElem_mem h));omega),z09]
   by_cases hc:za0 l[k] x<0
   ·rw [if_pos hc,z2n k (by omega)]
    refine p_putC_l1 n hn x hx l hok hl K r hK m (k+1) (by omega) (by omega) (fun y hy=>?_)
    rw [List.take_succ_eq_append_getElem h,List.mem_append,List.mem_singleton] at hy
    rcases hy with hy|hy
    ·exact h3 y hy
    ·rw [hy];exact hc
   ·rw [if_neg hc]
    exact hK k h1 h3 (fun _=>hc)
  ·rw [if_neg (by omega)]
   exact hK k h1 h3 (fun h'=>absurd h' h)
theorem insU_atC (x:Cf):∀ (l:List Cf) (i:Nat),i<=l.length->(∀ y∈l.take i,za0 y x<0)->(∀ h:i<l.length,¬za0 l[i] x<0)->insU za0 x l=if ∃ h:i<l.length,za0 l[i] x=0 then l else l.take i++x::l.drop i
 |[],i,h1,_,_=>by
  have:i=0:=by simpa using h1
  subst this
  simp [insU]
 |y::l,0,_,_,h3=>by
  have:=h3 (by simp)
  simp only [List.getElem_cons_zero] at this
  unfold insU
  rw [if_neg this]
  by_cases q:za0 y x=0
  ·rw [if_pos q,if_pos ⟨by simp,by simpa using q⟩]
  ·rw [if_neg q,if_neg (fun ⟨_,k⟩=>q (by simpa using k))]
   simp
 |y::l,i+1,h1,h2,h3=>by
  have hy:=h2 y (by simp)
  unfold insU
  rw [if_pos hy,insU_atC x l i (by simpa using h1) (fun z hz=>h2 z (by simp [hz])) (fun h=>by have:=h3 (by simpa using h);simpa using this)]
  by_cases q:∃ h:i<l.length,za0 l[i] x=0
  ·obtain ⟨q1,q2⟩:=q
   rw [if_pos ⟨q1,q2⟩,if_pos ⟨by simpa using q1,by simpa using q2⟩]
  ·rw [if_neg q,if_neg (fun ⟨k1,k2⟩=>q ⟨by simpa using k1,by simpa using k2⟩)]
   simp
theorem p_putC (n:Nat)(hn:1000000000<n)(x:Cf)(hx:cfOk x=true)(l:List Cf)(hok:∀ x∈l,cfOk x=true)(hl:l.length<=1000000):z7w n l x=some (insU za0 x l):=by
 unfold z7w
 refine p_putC_l1 n hn x hx l hok hl _ _ (fun i hi h1 h2=>?_) n 0 (by omega) (by omega) (by simp)
 rw [insU_atC x l i hi h1 h2]
 simp only [z2s,z1r,z5n,List.length_map,z0o,z8k]
 have hlast:∀ z:Cf,z=x->(sls l 0 (i:Int) fun x45=>app ([]:List Cf) x45 56 fun x46=>app x46 [z] 56 fun x47=>sls l (i:Int) ((l.length:Nat):Int) fun x48=>app x47 x48 56 fun x49=>some x49)=some (l.take i++x::l.drop i):=fun z hz=>by
  subst hz
  have e1:=zwl (l:=l) (a:=0) (b:=i) (Nat.zero_le _) hi (fun x45=>app ([]:List Cf) x45 56 fun x46=>app x46 [z] 56 fun x47=>sls l (i:Int) ((l.length:Nat):Int) fun x48=>app x47 x48 56 fun x49=>some x49)
  simp only [Int.natCast_zero] at e1
  rw [e1,List.drop_zero,zau (by simp;omega) (by omega),List.nil_append,zau (by simp;omega) (by omega),zwl hi (Nat.le_refl _),zau (by simp;omega) (by omega),List.take_length]
  simp
 by_cases h:i<l.length
 ·rw [if_pos (by omega),z0s h,p_rcf n _ x (hok _ (List.getElem_mem h)) hx (by have:=(ze5 _).1 (hok _ (List.getElem_mem h));omega) (by have:=(ze5 _).1 (hok _ (List.getElem_mem h));omega),z09]
  by_cases q:za0 l[i] x=0
  ·rw [if_pos q,if_pos ⟨h,q⟩]
  ·rw [if_neg q,if_neg (fun ⟨_,k⟩=>q k)]
   exact hlast _ rfl
 ·rw [if_neg (by omega),if_neg (fun ⟨k,_⟩=>h k)]
  exact hlast _ rfl
theorem p_sameC_l1 (n:Nat)(hn:1000000000<n)(b a:List Cf)(ha:∀ x∈a,cfOk x=true)(hb:∀ x∈b,cfOk x=true)(hl:a.length=b.length)(h2:a.length<=1000000):∀ (m k:Nat),k<=a.length->a.length<m+k->z6x n b a (some true) m (k:Int)=some (decide (a.drop k=b.drop k))
 |0,k,h1,h3=>by omega
 |m+1,k,h1,h3=>by
  unfold z6x
  simp only [List.length_map,z0o,z0w]
  by_cases h:k<a.length
  ·rw [if_pos (by omega),z0s h,z0s (by omega:k<b.length),p_rcf n _ _ (ha _ (List.getElem_mem h)) (hb _ (List.getElem_mem _)) (by have:=(ze5 _).1 (ha _ (List.getElem_mem h));omega) (by have:=(ze5 _).1 (ha _ (List.getElem_mem h));omega),z09,z2n k (by omega)]
   have e:(a.drop k=b.drop k) ↔ (a[k]=b[k]'(by omega)/\a.drop (k+1)=b.drop (k+1)):=by
    rw [z0g a k h,z0g b k (by omega),List.cons.injEq]
   by_cases he:a[k]=b[k]'(by omega)
   ·rw [if_pos ((zdo.zero _ _).2 he),p_sameC_l1 n hn b a ha hb hl h2 m (k+1) (by omega) (by omega)]
    congr 1
    exact decide_eq_decide.2 ⟨fun q=>e.2 ⟨he,q⟩,fun q=>(e.1 q).2⟩
   ·rw [if_neg (fun q=>he ((zdo.zero _ _).1 q)),decide_eq_false (fun q=>he (e.1 q).1)]
  ·rw [if_neg (by omega),List.drop_eq_nil_of_le (by omega),List.drop_eq_nil_of_le (by omega)]
   simp
theorem p_sameC (n:Nat)(hn:1000000000<n)(a b:List Cf)(ha:∀ x∈a,cfOk x=true)(hb:∀ x∈b,cfOk x=true)(h2:a.length<=1000000):z8s n a b=some (decide (a=b)):=by
 unfold z8s
 simp only [List.length_map,z0o,z0w]
 by_cases h:a.length=b.length
 ·rw [if_pos (by omega)]
  have:=p_sameC_l1 n hn b a ha hb h h2 n 0 (by omega) (by omega)
  simpa using this
 ·rw [if_neg (by omega)]
  have:a≠b:=fun e=>h (by rw [e])
  simp [this]
theorem insU_okC {x:Cf}(hx:cfOk x=true){l:List Cf}(hl:∀ y∈l,cfOk y=true):∀ y∈insU za0 x l,cfOk y=true:=fun y hy=>by
 rcases (y19 zdo x y l).1 hy with h|h
 ·rw [h];exact hx
 ·exact hl y h
theorem puts_okC {s l:List Cf}(hs:∀ y∈s,cfOk y=true)(hl:∀ y∈l,cfOk y=true):∀ y∈puts za0 s l,cfOk y=true:=fun y hy=>by
 rcases (zsl zdo y l s).1 hy with h|h
 ·exact hs y h
 ·exact hl y h
theorem p_eqM (n:Nat)(a b:Ma)(ha:maOk a=true)(hb:maOk b=true)(hn:1000000000<n):zan n a b=some (decide (a=b)):=by
 unfold zan
 rw [f_ma n _ _ (by have:=(zdi _).1 ha;exact Nat.lt_of_le_of_lt this hn) (by omega) ((zdi _).1 hb) ((zdi _).1 ha)]
 rw [z09]
 congr 1
 exact decide_eq_decide.2 (z90.zero a b)
theorem p_cptM_l2 (n:Nat)(hn:1000000000<n)(l:List Ma)(hok:∀ x∈l,maOk x=true)(hl:l.length<=1000000000)(x46:Nat)(hx:1<=x46)(K:Int->List Ma->Option (List Ma))(r:Option (List Ma))
  (hK:∀ (i:Nat) (cur:List Ma),cur.length=l.length->i<=l.length->cur.take i=dd l->K (i:Int) cur=r) :
  ∀ (m k j:Nat) (cur:List Ma),1<=j->k<=x46+j-1->x46+j<=l.length->l.length<m+j+x46->cur.length=l.length->cur.take k=dd (l.take (x46+j))->cur.drop (x46+j-1)=l.drop (x46+j-1)->z2b n x46 K m ((k:Int),(j:Int),cur)=r
 |0,k,j,cur,h0,h1,h2,h3,h4,h5,h6=>by omega
 |m+1,k,j,cur,h0,h1,h2,h3,h4,h5,h6=>by
  unfold z2b
  simp only [List.length_map]
  rw [gle_ok (by omega)]
  simp only [z0o]
  by_cases h:x46+j<l.length
  ·have e0:∀ i (h1:x46+j-1<=i) (h2:i<l.length),∃ h3:i<cur.length,cur[i]=l[i]:=fun i h1 h2=>by
    refine ⟨by omega,?_⟩
    have:=congrArg (fun q=>q[i-(x46+j-1)]?) h6
    simp only [List.getElem?_drop,show x46+j-1+(i-(x46+j-1))=i by omega] at this
    rw [List.getElem?_eq_getElem (by omega),List.getElem?_eq_getElem h2] at this
    exact Option.some.inj this
   obtain ⟨c1,c2⟩:=e0 (x46+j) (by omega) h
   obtain ⟨d1,d2⟩:=e0 (x46+(j-1)) (by omega) (by omega)
   rw [if_pos (by omega),ze1 (by omega),zj7 c1,wrapP j h0 (by omega),ze1 (by omega),zj7 d1,c2,d2]
   rw [p_eqM n _ _ (hok _ (List.getElem_mem _)) (hok _ (List.getElem_mem _)) hn,z09,z0w,z0o,z2n j (by omega)]
   have htk:l.take (x46+(j+1))=l.take (x46+j)++[l[x46+j]]:=by rw [show x46+(j+1)=(x46+j)+1 by omega,List.take_succ_eq_append_getElem h]
   have hne:l.take (x46+j)≠[]:=by
    intro e
    have:=congrArg List.length e
    rw [List.length_take,List.length_nil] at this
    omega
   have hlast:(l.take (x46+j)).getLast hne=l[x46+(j-1)]:=by
    rw [List.getLast_eq_getElem]
    simp only [List.getElem_take]
    congr 1
    simp only [List.length_take]
    omega
   have hd6:cur.drop (x46+(j+1)-1)=l.drop (x46+(j+1)-1):=by
    have:=congrArg List.tail h6
    simp only [List.tail_drop] at this
    rw [show x46+(j+1)-1=x46+j-1+1 by omega]
    exact this
   by_cases he:l[x46+j]=l[x46+(j-1)]
   ·rw [if_pos he]
    refine p_cptM_l2 n hn l hok hl x46 hx K r hK m k (j+1) cur (by omega) (by omega) (by omega) (by omega) h4 ?_ hd6
    rw [htk,zwz _ _ hne,hlast,if_pos he,List.append_nil,h5]
   ·rw [if_neg he,ze1 (by omega),zj7 c1,ze1 (by omega),stx_ok (by omega),z2n k (by omega)]
    have hset:∀ z:Ma,(cur.set k z).take (k+1)=cur.take k++[z]:=fun z=>by
     have hk:k<cur.length:=by omega
     rw [List.take_succ_eq_append_getElem (by simpa using hk),List.getElem_set_self,List.take_set_of_le (Nat.le_refl _)]
    have c2':cur[x46+j]=l[x46+j]:=c2
    refine p_cptM_l2 n hn l hok hl x46 hx K r hK m (k+1) (j+1) _ (by omega) (by omega) (by omega) (by omega) (by simpa using h4) ?_ ?_
    ·rw [hset,htk,zwz _ _ hne,hlast,if_neg he,h5]
     exact congrArg (fun q=>dd (l.take (x46+j))++[q]) c2'
    ·rw [List.drop_set_of_lt (by omega)]
     exact hd6
  ·rw [if_neg (by omega)]
   refine hK k cur h4 (by omega) ?_
   rw [h5,List.take_of_length_le (by omega)]
theorem p_cptM_l1 (n:Nat)(hn:1000000000<n)(l:List Ma)(hok:∀ x∈l,maOk x=true)(hl:l.length<=1000000000)(h1l:1<=l.length):∀ (m k:Nat),1<=k->k<=l.length->l.length<m+k->dd (l.take k)=l.take k->z3l n l (some l) m (k:Int)=some (dd l)
 |0,k,h0,h1,h2,_=>by omega
 |m+1,k,h0,h1,h2,h3=>by
  unfold z3l
  simp only [List.length_map,z0o]
  by_cases h:k<l.length
  ·rw [if_pos (by omega),ze1 h,zj7 h,wrapP k h0 (by omega),ze1 (by omega),zj7 (by omega)]
   rw [p_eqM n _ _ (hok _ (List.getElem_mem _)) (hok _ (List.getElem_mem _)) hn,z09,z0o,z2n k (by omega)]
   have htk:l.take (k+1)=l.take k++[l[k]]:=List.take_succ_eq_append_getElem h
   have hne:l.take k≠[]:=by
    intro e
    have:=congrArg List.length e
    rw [List.length_take,List.length_nil] at this
    omega
   have hlast:(l.take k).getLast hne=l[k-1]:=by
    rw [List.getLast_eq_getElem]
    simp only [List.getElem_take]
    congr 1
    simp only [List.length_take]
    omega
   by_cases he:l[k]=l[k-1]
   ·rw [if_pos he,nle_nat (by omega)]
    have:=p_cptM_l2 n hn l hok hl k h0 (fun k2_1_0y0 k2_1_0y1=>nle k2_1_0y0 k2_1_0y1.length fun x89 =>
     clr k2_1_0y1 x89 (⟨[]⟩:z02) fun x90 =>
     sls x90 0 k2_1_0y0 fun x91=>some x91) (some (dd l)) (fun i cur hc hi ht=>by
      show nle (i:Int) cur.length (fun x89=>clr cur x89 (⟨[]⟩:z02) fun x90=>sls x90 0 (i:Int) fun x91=>some x91)=some (dd l)
      rw [nle_nat (by omega),clr_ok (by omega)]
      have:=zwl (l:=clrL cur i (⟨[]⟩:z02)) (a:=0) (b:=i) (Nat.zero_le _) (by rw [clrL_len _ _ _ (by omega)];omega) (fun x91=>some x91)
      simp only [Int.natCast_zero] at this
      rw [this,List.drop_zero,clrL_take _ _ _ (by omega),ht]) n k 1 l (by omega) (by omega) (by omega) (by omega) rfl (by rw [htk,zwz _ _ hne,hlast,if_pos he,List.append_nil,h3]) rfl
    have e1:((1:Nat):Int)=1:=rfl
    rw [e1] at this
    exact this
   ·rw [if_neg he]
    refine p_cptM_l1 n hn l hok hl h1l m (k+1) (by omega) (by omega) (by omega) ?_
    rw [htk,zwz _ _ hne,hlast,if_neg he,h3]
  ·rw [if_neg (by omega)]
   rw [List.take_of_length_le (by omega)] at h3
   rw [h3]
theorem p_cptM (n:Nat)(hn:1000000000<n)(l:List Ma)(hok:∀ x∈l,maOk x=true)(hl:l.length<=1000000000):z7v n l=some (dd l):=by
 unfold z7v
 simp only [List.length_map,z0o]
 by_cases h:l.length<2
 ·rw [if_pos (by omega)]
  match l,h with
  |[],_=>rfl
  |[x],_=>rfl
 ·rw [if_neg (by omega)]
  refine p_cptM_l1 n hn l hok hl (by omega) n 1 (by omega) (by omega) (by omega) ?_
  match l,h with
  |[],h=>exact absurd (by simp) h
  |[x],h=>exact absurd (by simp) h
  |x::y::q,_=>rfl
theorem p_uniqM (n:Nat)(hn:1000000000<n)(l:List Ma)(hok:∀ x∈l,maOk x=true)(hl:l.length<=1000000000):z9f n l=some (setL z4o l):=by
 unfold z9f
 rw [sortS_eq z90 n l hok hl]
 simp only [bndC_some,frb_eq,z1r]
 have hp:=zhp z4o l
 rw [p_cptM n hn _ (fun x hx=>hok x (hp.mem_iff.1 hx)) (by rw [hp.length_eq];exact hl),zbq,dd_sort z90]
theorem p_putM_l1 (n:Nat)(hn:1000000000<n)(x:Ma)(hx:maOk x=true)(l:List Ma)(hok:∀ x∈l,maOk x=true)(hl:l.length<=1000000)(K:Int->Option (List Ma))(r:Option (List Ma))
  (hK:∀ i:Nat,i<=l.length->(∀ y∈l.take i,z4o y x<0)->(∀ h:i<l.length,¬z4o l[i] x<0)->K i=r):∀ (m k:Nat),k<=l.length->l.length<m+k->(∀ y∈l.take k,z4o y x<0)->z3r n x l K m (k:Int)=r
 |0,k,h1,h2,_=>by omega
 |m+1,k,h1,h2,h3=>by
  unfold z3r
  simp only [z2s,z1r,z5r,List.length_map,z0o,z8k]
  by_cases h:k<l.length
  ·rw [if_pos (by omega),z0s h,p_rma n _ _ (by have:=(zdi _).1 (hok _ (List.getElem_mem h));exact Nat.lt_of_le_of_lt this hn) ((zdi _).1 hx) ((zdi _).1 (hok _ (List.getElem_mem h))),z09]
   by_cases hc:z4o l[k] x<0
   ·rw [if_pos hc,z2n k (by omega)]
    refine p_putM_l1 n hn x hx l hok hl K r hK m (k+1) (by omega) (by omega) (fun y hy=>?_)
    rw [List.take_succ_eq_append_getElem h,List.mem_append,List.mem_singleton] at hy
    rcases hy with hy|hy
    ·exact h3 y hy
    ·rw [hy];exact hc
   ·rw [if_neg hc]
    exact hK k h1 h3 (fun _=>hc)
  ·rw [if_neg (by omega)]
   exact hK k h1 h3 (fun h'=>absurd h' h)
theorem insU_atM (x:Ma):∀ (l:List Ma) (i:Nat),i<=l.length->(∀ y∈l.take i,z4o y x<0)->(∀ h:i<l.length,¬z4o l[i] x<0)->insU z4o x l=if ∃ h:i<l.length,z4o l[i] x=0 then l else l.take i++x::l.drop i
 |[],i,h1,_,_=>by
  have:i=0:=by simpa using h1
  subst this
  simp [insU]
 |y::l,0,_,_,h3=>by
  have:=h3 (by simp)
  simp only [List.getElem_cons_zero] at this
  unfold insU
  rw [if_neg this]
  by_cases q:z4o y x=0
  ·rw [if_pos q,if_pos ⟨by simp,by simpa using q⟩]
  ·rw [if_neg q,if_neg (fun ⟨_,k⟩=>q (by simpa using k))]
   simp
 |y::l,i+1,h1,h2,h3=>by
  have hy:=h2 y (by simp)
  unfold insU
  rw [if_pos hy,insU_atM x l i (by simpa using h1) (fun z hz=>h2 z (by simp [hz])) (fun h=>by have:=h3 (by simpa using h);simpa using this)]
  by_cases q:∃ h:i<l.length,z4o l[i] x=0
  ·obtain ⟨q1,q2⟩:=q
   rw [if_pos ⟨q1,q2⟩,if_pos ⟨by simpa using q1,by simpa using q2⟩]
  ·rw [if_neg q,if_neg (fun ⟨k1,k2⟩=>q ⟨by simpa using k1,by simpa using k2⟩)]
   simp
theorem p_putM (n:Nat)(hn:1000000000<n)(x:Ma)(hx:maOk x=true)(l:List Ma)(hok:∀ x∈l,maOk x=true)(hl:l.length<=1000000):z6l n l x=some (insU z4o x l):=by
 unfold z6l
 refine p_putM_l1 n hn x hx l hok hl _ _ (fun i hi h1 h2=>?_) n 0 (by omega) (by omega) (by simp)
 rw [insU_atM x l i hi h1 h2]
 simp only [z2s,z1r,z5s,List.length_map,z0o,z8k]
 have hlast:∀ z:Ma,z=x->(sls l 0 (i:Int) fun x45=>app ([]:List Ma) x45 24 fun x46=>app x46 [z] 24 fun x47=>sls l (i:Int) ((l.length:Nat):Int) fun x48=>app x47 x48 24 fun x49=>some x49)=some (l.take i++x::l.drop i):=fun z hz=>by
  subst hz
  have e1:=zwl (l:=l) (a:=0) (b:=i) (Nat.zero_le _) hi (fun x45=>app ([]:List Ma) x45 24 fun x46=>app x46 [z] 24 fun x47=>sls l (i:Int) ((l.length:Nat):Int) fun x48=>app x47 x48 24 fun x49=>some x49)
  simp only [Int.natCast_zero] at e1
  rw [e1,List.drop_zero,zau (by simp;omega) (by omega),List.nil_append,zau (by simp;omega) (by omega),zwl hi (Nat.le_refl _),zau (by simp;omega) (by omega),List.take_length]
  simp
 by_cases h:i<l.length
 ·rw [if_pos (by omega),z0s h,p_rma n _ _ (by have:=(zdi _).1 (hok _ (List.getElem_mem h));exact Nat.lt_of_le_of_lt this hn) ((zdi _).1 hx) ((zdi _).1 (hok _ (List.getElem_mem h))),z09]
  by_cases q:z4o l[i] x=0
  ·rw [if_pos q,if_pos ⟨h,q⟩]
  ·rw [if_neg q,if_neg (fun ⟨_,k⟩=>q k)]
   exact hlast _ rfl
 ·rw [if_neg (by omega),if_neg (fun ⟨k,_⟩=>h k)]
  exact hlast _ rfl
theorem p_sameM_l1 (n:Nat)(hn:1000000000<n)(b a:List Ma)(ha:∀ x∈a,maOk x=true)(hb:∀ x∈b,maOk x=true)(hl:a.length=b.length)(h2:a.length<=1000000):∀ (m k:Nat),k<=a.length->a.length<m+k->z6z n b a (some true) m (k:Int)=some (decide (a.drop k=b.drop k))
 |0,k,h1,h3=>by omega
 |m+1,k,h1,h3=>by
  unfold z6z
  simp only [List.length_map,z0o,z0w]
  by_cases h:k<a.length
  ·rw [if_pos (by omega),z0s h,z0s (by omega:k<b.length),p_rma n _ _ (by have:=(zdi _).1 (ha _ (List.getElem_mem h));exact Nat.lt_of_le_of_lt this hn) ((zdi _).1 (hb _ (List.getElem_mem _))) ((zdi _).1 (ha _ (List.getElem_mem h))),z09,z2n k (by omega)]
   have e:(a.drop k=b.drop k) ↔ (a[k]=b[k]'(by omega)/\a.drop (k+1)=b.drop (k+1)):=by
    rw [z0g a k h,z0g b k (by omega),List.cons.injEq]
   by_cases he:a[k]=b[k]'(by omega)
   ·rw [if_pos ((z90.zero _ _).2 he),p_sameM_l1 n hn b a ha hb hl h2 m (k+1) (by omega) (by omega)]
    congr 1
    exact decide_eq_decide.2 ⟨fun q=>e.2 ⟨he,q⟩,fun q=>(e.1 q).2⟩
   ·rw [if_neg (fun q=>he ((z90.zero _ _).1 q)),decide_eq_false (fun q=>he (e.1 q).1)]
  ·rw [if_neg (by omega),List.drop_eq_nil_of_le (by omega),List.drop_eq_nil_of_le (by omega)]
   simp
theorem p_sameM (n:Nat)(hn:1000000000<n)(a b:List Ma)(ha:∀ x∈a,maOk x=true)(hb:∀ x∈b,maOk x=true)(h2:a.length<=1000000):z7a n a b=some (decide (a=b)):=by
 unfold z7a
 simp only [List.length_map,z0o,z0w]
 by_cases h:a.length=b.length
 ·rw [if_pos (by omega)]
  have:=p_sameM_l1 n hn b a ha hb h h2 n 0 (by omega) (by omega)
  simpa using this
 ·rw [if_neg (by omega)]
  have:a≠b:=fun e=>h (by rw [e])
  simp [this]
theorem insU_okM {x:Ma}(hx:maOk x=true){l:List Ma}(hl:∀ y∈l,maOk y=true):∀ y∈insU z4o x l,maOk y=true:=fun y hy=>by
 rcases (y19 z90 x y l).1 hy with h|h
 ·rw [h];exact hx
 ·exact hl y h
theorem puts_okM {s l:List Ma}(hs:∀ y∈s,maOk y=true)(hl:∀ y∈l,maOk y=true):∀ y∈puts z4o s l,maOk y=true:=fun y hy=>by
 rcases (zsl z90 y l s).1 hy with h|h
 ·exact hs y h
 ·exact hl y h
theorem p_sort (n:Nat)(hn:1000000000<n)(l:List Cf)(hok:∀ x∈l,cfOk x=true)(hl:l.length<=100000):zrr n l=some (if 4096<(setL za0 l).length then ([],5) else (setL za0 l,0)):=by
 unfold zrr
 have hc:zd7 n l=some l:=by unfold zd7;exact if_pos (by omega)
 rw [hc,zih,p_uniqC n hn l hok (by omega)]
 simp only [zbq,z09,List.length_map,z0o]
 by_cases h:4096<(setL za0 l).length
 ·rw [if_pos (by omega),if_pos h]
 ·rw [if_neg (by omega),if_neg h]
theorem setL_ok {l:List Cf}(h:∀ x∈l,cfOk x=true):∀ x∈setL za0 l,cfOk x=true:=fun x hx=>h x ((zfv zdo x l).1 hx)
end Go.Proofs.YtjpknpjjcddnnaaGreat
namespace Go.Proofs.YtjpknpjjcddnnaaGreat
open Go.RowKit
def zas (e:Ev):Bool:=decide (0<=e.fTime) && (decide (e.fTime<=1099511627776) && (decide (0<=e.fSource) && (decide (e.fSource<8) && (decide (0<=e.fSeq) && decide (e.fSeq<=1099511627776)))))
def idt (e:Ev):z56:=⟨e.fSource,e.fSeq⟩
theorem p_placed (n:Nat)(e:Ev):zev n e=some (zas e):=by
 unfold zev zas
 simp only [z0o]
 repeat' split
 all_goals (simp_all<;>omega)
theorem p_rplaced (n:Nat)(e:Ev):z95 n e=some (zas e):=by
 unfold z95 zas
 simp only [z0o]
 repeat' split
 all_goals (simp_all<;>omega)
theorem p_sof (n:Nat)(e:Ev):zg1 n e=some (idt e):=rfl
theorem p_ref (n:Nat)(e:Ev):z4w n e=some ⟨e.fTime,e.fSource,e.fSeq⟩:=rfl
def z9z (e:Ev):z13:=⟨e.fTime,e.fSource,e.fSeq⟩
def zia (a b:Ev):Int:=rCmp (z9z a) (z9z b)
theorem p_evc (n:Nat)(hn:4<=n)(a b:Ev):zf1 n a b=some (zia a b):=by
 obtain ⟨m,rfl⟩:∃ m,n=m+4:=⟨n-4,by omega⟩
 unfold zf1 zls
 simp only [z09,f_cmp,f_or3,Bool.and_true,z3x,Bool.and_eq_true,decide_eq_true_eq]
 split
 ·rename_i h
  obtain ⟨h1,h2,h3⟩:=h
  simp [zia,rCmp,z9z,or3,cmpI,h1,h2,h3]
 ·rfl
theorem p_twin (n:Nat)(a b:Ev):z8u n a b=some (decide (idt a=idt b)):=by
 unfold z8u
 simp only [z0o]
 split
 ·rename_i h;simp [idt,h]
 ·rename_i h;simp [idt,h]
def few1 (l:List z03):Bool:=(l.take 40).all (fun v=>decide (v.fText.size<=128)) && decide (l.length<40)
theorem p_few1_l1 (n:Nat)(l:List z03)(K:Option Bool):∀ (m k:Nat),k<=l.length->k<=40->40<m+k->z7p n l K m k=if ((l.take 40).drop k).all (fun v=>decide (v.fText.size<=128)) then K else some false
 |0,k,h1,h2,h3=>by omega
 |m+1,k,h1,h2,h3=>by
  unfold z7p
  simp only [List.length_map,z0o]
  by_cases h:k<l.length
  ·rw [if_pos (by omega)]
   by_cases h4:k<40
   ·rw [if_pos (by omega),z0s h,z2n k (by omega)]
    have hk:k<(l.take 40).length:=by rw [List.length_take];omega
    rw [z0g (l.take 40) k hk,List.all_cons,List.getElem_take]
    by_cases h5:l[k].fText.size<=128
    ·rw [if_neg (by omega),p_few1_l1 n l K m (k+1) (by omega) (by omega) (by omega)]
     simp [h5]
    ·rw [if_pos (by omega)]
     simp [h5]
   ·rw [if_neg (by omega),List.drop_eq_nil_of_le (by rw [List.length_take];omega)];simp
  ·rw [if_neg (by omega),List.drop_eq_nil_of_le (by rw [List.length_take];omega)];simp
theorem p_few1 (n:Nat)(l:List z03)(hn:41<=n):zb5 n l=some (few1 l):=by
 unfold zb5 few1
 have:=p_few1_l1 n l (some (decide ((((List.map z0a l).length:Nat):Int)<40))) n 0 (by omega) (by omega) (by omega)
 simp only [Int.natCast_zero,List.drop_zero] at this
 rw [this]
 simp only [List.length_map]
 split
 ·rename_i h;rw [h];simp;omega
 ·rename_i h;simp only [Bool.not_eq_true] at h;rw [h];rfl
def fewE (l:List Ev):Bool:=(l.take 20).all (fun e=>decide (e.fValues.length<=12) && few1 e.fValues) && decide (l.length<=12)
theorem p_few5_l1 (n:Nat)(l:List Ev)(K:Option Bool)(hn:41<=n):∀ (m k:Nat),k<=l.length->k<=20->20<m+k->z7o n l K m k=if ((l.take 20).drop k).all (fun e=>decide (e.fValues.length<=12) && few1 e.fValues) then K else some false
 |0,k,h1,h2,h3=>by omega
 |m+1,k,h1,h2,h3=>by
  unfold z7o
  simp only [List.length_map,z0o,z0w]
  by_cases h:k<l.length
  ·rw [if_pos (by omega)]
   by_cases h4:k<20
   ·rw [if_pos (by omega),z0s h,z2n k (by omega)]
    have hk:k<(l.take 20).length:=by rw [List.length_take];omega
    rw [z0g (l.take 20) k hk,List.all_cons,List.getElem_take]
    by_cases h5:l[k].fValues.length<=12
    ·rw [if_neg (by omega),z0s h,p_few1 n _ hn,z09,z3x,p_few5_l1 n l K hn m (k+1) (by omega) (by omega) (by omega)]
     by_cases h6:few1 l[k].fValues=true
     ·simp [h5,h6]
     ·simp [h5,h6]
    ·rw [if_pos (by omega)]
     simp [h5]
   ·rw [if_neg (by omega),List.drop_eq_nil_of_le (by rw [List.length_take];omega)];simp
  ·rw [if_neg (by omega),List.drop_eq_nil_of_le (by rw [List.length_take];omega)];simp
theorem p_few5 (n:Nat)(l:List Ev)(hn:41<=n):zb4 n l=some (fewE l):=by
 unfold zb4 fewE
 have:=p_few5_l1 n l (some (decide ((((List.map z04 l).length:Nat):Int)<=12))) hn n 0 (by omega) (by omega) (by omega)
 simp only [Int.natCast_zero,List.drop_zero] at this
 rw [this]
 simp only [List.length_map]
 split
 ·rename_i h;rw [h];simp;omega
 ·rename_i h;simp only [Bool.not_eq_true] at h;rw [h];rfl
theorem fewE_out {l:List Ev}(h:fewE l=true):l.length<=12/\∀ e∈l,e.fValues.length<=12:=by
 unfold fewE at h
 simp only [Bool.and_eq_true,decide_eq_true_eq,List.all_eq_true] at h
 refine ⟨h.2,fun e he=>(h.1 e ?_).1⟩
 rw [List.take_of_length_le (by omega)]
 exact he
def headGe:List Ev->Ev->Bool
 |[],_=>false
 |x::_,e=>decide (0<=zia x e)
def chk:List Ev->List Ev->Int
 |_,[]=>0
 |p,e::r=>if zas e=false then 2 else if headGe p e=true then 14 else if p.any (fun x=>decide (idt x=idt e)) then 7 else chk (e::p) r
def zmx (l:List Ev):Int:=if 4096<l.length then 5 else chk [] l
def SeenOk (m:List (z56×Bool))(p:List Ev):Prop:=∀ k,(mlk m k).getD false=p.any (fun x=>decide (idt x=k))
theorem mlk_mput {κ ν:Type}[DecidableEq κ](l:List (κ×ν))(k:κ)(v:ν)(k':κ):mlk (mput l k v) k'=if k'=k then some v else mlk l k':=by
 induction l with
 |nil=>simp [mput,mlk]
 |cons a r ih =>
  obtain ⟨a,x⟩:=a
  simp only [mput]
  by_cases h:k=a
  ·subst h
   rw [if_pos rfl]
   simp only [mlk]
   by_cases h2:k'=k
   ·simp [h2]
   ·simp [h2]
  ·rw [if_neg h]
   simp only [mlk,ih]
   by_cases h2:k'=a
   ·have h3:k'≠k:=fun e=>h (by rw [<-e,h2])
    simp [h2,h3]
    intro e;exact absurd e.symm h
   ·simp [h2]
theorem SeenOk.put {m:List (z56×Bool)}{p:List Ev}(h:SeenOk m p)(e:Ev):SeenOk (mput m (idt e) true) (e::p):=fun k=>by
 rw [mlk_mput,List.any_cons]
 by_cases hk:k=idt e
 ·subst hk;simp
 ·rw [if_neg hk,h k]
  have:decide (idt e=k)=false:=decide_eq_false (fun e=>hk e.symm)
  rw [this,Bool.false_or]
theorem rev_take {l:List Ev}{k:Nat}(h:k<l.length):(l.take (k+1)).reverse=l[k]::(l.take k).reverse:=by
 rw [List.take_succ_eq_append_getElem h,List.reverse_append];rfl
theorem rev_head {l:List Ev}{k:Nat}(h0:0<k)(h:k<=l.length):∃ t,(l.take k).reverse=l[k-1]::t:=by
 obtain ⟨j,rfl⟩:∃ j,k=j+1:=⟨k-1,by omega⟩
 exact ⟨_,by rw [rev_take (by omega)];rfl⟩
theorem wrap_pred {k:Nat}(h0:0<k)(h:k<=1000000):IntKind.wrap .i64 ((k:Int)-1)=((k-1:Nat):Int):=by rw [zdf _ (by omega)];omega
theorem mgt_eq {κ ν β:Type}[DecidableEq κ](l:List (κ×ν))(k:κ)(z:ν)(c:ν->Bool->Option β):mgt l k z c=c ((mlk l k).getD z) (mlk l k).isSome:=by unfold mgt;rfl
theorem mst_eq {κ ν β:Type}[DecidableEq κ](l:List (κ×ν))(k:κ)(v:ν)(c:List (κ×ν)->Option β):mst l k v c=c (mput l k v):=by unfold mst;rfl
theorem p_chk_l1 (n:Nat)(hn4:4<=n)(l:List Ev):∀ (m k:Nat) (seen:List (z56×Bool)),k<=l.length->l.length<=1000000->l.length<m+k->SeenOk seen (l.take k).reverse ->
  z9d n l (some 0) m ((k:Int),seen)=some (chk (l.take k).reverse (l.drop k))
 |0,k,_,h1,h2,h3,_=>by omega
 |m+1,k,seen,h1,h2,h3,hs=>by
  unfold z9d
  simp only [List.length_map,z0o,z0w]
  by_cases h:k<l.length
  ·rw [if_pos (by omega),z0s h,z2n k (by omega)]
   rw [z0g l k h]
   conv=>rhs;unfold chk
   have hs':SeenOk (mput seen (idt l[k]) true) (l.take (k+1)).reverse:=by rw [rev_take h];exact hs.put _
   have ih:=p_chk_l1 n hn4 l m (k+1) _ (by omega) h2 (by omega) hs'
   rw [rev_take h] at ih
   have hseen:=hs (idt l[k])
   simp only [p_placed,z09,p_sof,z3x,mgt_eq,mst_eq,hseen,p_evc n hn4]
   by_cases hp:zas l[k]=true
   ·have hp':¬zas l[k]=false:=by rw [hp];simp
    rw [if_pos hp,if_neg hp']
    by_cases hk0:0<k
    ·rw [if_pos (by omega),wrap_pred hk0 (by omega),z0s (by omega:k-1<l.length)]
     obtain ⟨t,ht⟩:=rev_head (l:=l) hk0 h1
     try simp only [z09,decide_eq_true_eq]
     rw [ht] at ih ⊢
     simp only [headGe,decide_eq_true_eq]
     by_cases hc:0<=zia l[k-1] l[k]
     ·rw [if_pos hc,if_pos hc]
     ·rw [if_neg hc,if_neg hc]
      rw [ih]
      split<;>rfl
    ·have hk:k=0:=by omega
     subst hk
     rw [if_neg (by omega)]
     simp only [List.take_zero,List.reverse_nil,List.any_nil,headGe,Bool.false_eq_true,if_false] at ih ⊢
     rw [ih]
   ·have hp':zas l[k]=false:=by simpa using hp
    rw [if_neg hp,if_pos hp']
  ·rw [if_neg (by omega),List.drop_eq_nil_of_le (by omega)];rfl
theorem p_chk (n:Nat)(l:List Ev)(hn:l.length<n)(hn4:4<=n)(h2:l.length<=1000000):zfs n l=some (zmx l):=by
 unfold zfs zmx
 simp only [List.length_map,z0o]
 by_cases h:4096<l.length
 ·rw [if_pos (by omega),if_pos h]
 ·rw [if_neg (by omega),if_neg h]
  have:=p_chk_l1 n hn4 l n 0 [] (by omega) h2 (by omega) (fun k=>rfl)
  simpa using this
theorem p_rchk_l2 (n:Nat)(l:List Ev)(i:Nat)(hi:i<l.length)(K:Option Int):∀ (m k:Nat),k<=i->l.length<=1000000->i<m+k->z6d n l (i:Int) K m k=if ((l.take i).drop k).any (fun x=>decide (idt x=idt l[i])) then some 7 else K
 |0,k,h1,h2,h3=>by omega
 |m+1,k,h1,h2,h3=>by
  unfold z6d
  simp only [z0o]
  by_cases h:k<i
  ·rw [if_pos (by omega),z0s (by omega:k<l.length),z0s hi,z2n k (by omega),p_twin,z09,z0o]
   have hk:k<(l.take i).length:=by rw [List.length_take];omega
   rw [z0g (l.take i) k hk,List.any_cons,List.getElem_take,p_rchk_l2 n l i hi K m (k+1) (by omega) h2 (by omega)]
   by_cases h5:idt l[k]=idt l[i]<;>simp [h5]
  ·rw [if_neg (by omega),List.drop_eq_nil_of_le (by rw [List.length_take];omega)];simp
theorem p_rchk_l3 (n:Nat)(l:List Ev)(i:Nat)(hi:i<l.length)(K:Option Int):∀ (m k:Nat),k<=i->l.length<=1000000->i<m+k->z6c n l (i:Int) K m k=if ((l.take i).drop k).any (fun x=>decide (idt x=idt l[i])) then some 7 else K
 |0,k,h1,h2,h3=>by omega
 |m+1,k,h1,h2,h3=>by
  unfold z6c
  simp only [z0o]
  by_cases h:k<i
  ·rw [if_pos (by omega),z0s (by omega:k<l.length),z0s hi,z2n k (by omega),p_twin,z09,z0o]
   have hk:k<(l.take i).length:=by rw [List.length_take];omega
   rw [z0g (l.take i) k hk,List.any_cons,List.getElem_take,p_rchk_l3 n l i hi K m (k+1) (by omega) h2 (by omega)]
   by_cases h5:idt l[k]=idt l[i]<;>simp [h5]
  ·rw [if_neg (by omega),List.drop_eq_nil_of_le (by rw [List.length_take];omega)];simp
theorem p_rchk_l1 (n:Nat)(l:List Ev)(hn:l.length<n):∀ (m k:Nat),k<=l.length->l.length<=1000000->l.length<m+k->z1z n l (some 0) m (k:Int)=some (chk (l.take k).reverse (l.drop k))
 |0,k,h1,h2,h3=>by omega
 |m+1,k,h1,h2,h3=>by
  unfold z1z
  simp only [List.length_map,z0o,z0w]
  by_cases h:k<l.length
  ·rw [if_pos (by omega),z0s h,z2n k (by omega)]
   rw [z0g l k h]
   conv=>rhs;unfold chk
   have ih:=p_rchk_l1 n l hn m (k+1) (by omega) h2 (by omega)
   rw [rev_take h] at ih
   simp only [p_rplaced,z09,z3x]
   by_cases hp:zas l[k]=true
   ·have hp':¬zas l[k]=false:=by rw [hp];simp
    rw [if_pos hp,if_neg hp']
    by_cases hk0:0<k
    ·rw [if_pos (by omega),wrap_pred hk0 (by omega),z0s (by omega:k-1<l.length)]
     obtain ⟨t,ht⟩:=rev_head (l:=l) hk0 h1
     simp only [z09,p_ref]
     rw [z0s h]
     simp only [z09,p_rorder]
     have ec:rCmp ⟨l[k-1].fTime,l[k-1].fSource,l[k-1].fSeq⟩ ⟨l[k].fTime,l[k].fSource,l[k].fSeq⟩=zia l[k-1] l[k]:=rfl
     rw [ec]
     have hl2:=p_rchk_l2 n l k h (z1z n l (some 0) m ((k+1:Nat):Int)) n 0 (by omega) h2 (by omega)
     simp only [Int.natCast_zero,List.drop_zero] at hl2
     rw [hl2,ih]
     have hany:(l.take k).any (fun x=>decide (idt x=idt l[k]))=(l.take k).reverse.any (fun x=>decide (idt x=idt l[k])):=by rw [List.any_reverse]
     rw [hany,ht]
     simp only [headGe,decide_eq_true_eq]
     by_cases hc:0<=zia l[k-1] l[k]
     ·rw [if_pos hc,if_pos hc]
     ·rw [if_neg hc,if_neg hc]
      split<;>rfl
    ·have hk:k=0:=by omega
     subst hk
     rw [if_neg (by omega)]
     have hl3:=p_rchk_l3 n l 0 h (z1z n l (some 0) m ((0+1:Nat):Int)) n 0 (by omega) h2 (by omega)
     simp only [Int.natCast_zero,List.drop_zero] at hl3
     simp only [Int.natCast_zero] at hl3 ⊢
     rw [hl3]
     simp only [List.take_zero,List.reverse_nil,List.any_nil,headGe,Bool.false_eq_true,if_false] at ih ⊢
     rw [ih]
   ·have hp':zas l[k]=false:=by simpa using hp
    rw [if_neg hp,if_pos hp']
  ·rw [if_neg (by omega),List.drop_eq_nil_of_le (by omega)];rfl
theorem p_rchk (n:Nat)(l:List Ev)(hn:l.length<n)(h2:l.length<=1000000):z87 n l=some (zmx l):=by
 unfold z87 zmx
 simp only [List.length_map,z0o]
 by_cases h:4096<l.length
 ·rw [if_pos (by omega),if_pos h]
 ·rw [if_neg (by omega),if_neg h]
  have:=p_rchk_l1 n l hn n 0 (by omega) h2 (by omega)
  simpa using this
end Go.Proofs.YtjpknpjjcddnnaaGreat
