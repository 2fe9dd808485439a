/- Layer 25, plainly. -/
import Derived.Test.YtidhlpjgifoneaaGreatK33
import Derived.Test.YtidhlpjgifoneaaGreatK32
set_option linter.unusedVariables false
set_option linter.unusedSimpArgs false
set_option maxRecDepth 100000
namespace Go.Proofs.YtidhlpjgifoneaaGreat
open Go.RowKit List
theorem ylm (a b:Rf):zhs N0 a b=some (rCmp a b):=by
 have:zhs (1999999996+4) a b=some (rCmp a b):=by
  unfold zhs
  simp only [z04,yab,ykw]
  rfl
 exact this
structure CIv (a:Aut) (rest:List Ev) (c:Cf):Prop where
 asc:c.fBindings.Pairwise (fun x y=>rCmp x.fRef y.fRef<0)
 bef:∀ b∈c.fBindings,∀ e∈rest,rCmp b.fRef (zci e)<0
 scp:∀ s∈c.fStarts,(0<=s.fScope/\s.fScope<a.fScopes)/\0<=s.fTime/\s.fTime<=1099511627776
variable {a:Aut}{e:Ev}{r:List Ev}{c:Cf}
theorem CIv.tail (h:CIv a (e::r) c):CIv a r c:=⟨h.asc,fun b hb x hx=>h.bef b hb x (mem_cons_of_mem _ hx),h.scp⟩
variable {d:Cf}
theorem yqo (ha:AOk a){held:List Ev}(hst:Str zib (e::r))(hp:zev e=true)(h:CIv a (e::r) c){x:Ed}(hx:x∈a.fEdges)(hd:coP a held c x e=some d):CIv a r d:=by
 rw [y46 hd]
 obtain ⟨s1,s2⟩:=pairwise_cons.1 hst
 refine ⟨?_,fun b hb y hy=>?_,fun s hs=>?_⟩
 ·show Pairwise _ (bdN c x e)
  unfold bdN
  rw [pairwise_append]
  exact ⟨h.asc,pairwise_singleton _ _,fun b hb y hy=>by rw [mem_singleton.1 hy];exact h.bef b hb e (by simp)⟩
 ·rcases mem_append.1 hb with hb|hb
  ·exact h.bef b hb y (mem_cons_of_mem _ hy)
  ·rw [mem_singleton.1 hb];exact s1 y hy
 ·have hs':=(mem_filter.1 hs).1
  rcases opL_mem e.fTime x.fOpens hs' with ⟨k1,k2⟩|k
  ·refine ⟨(ha.ed x hx).opn _ k1,?_⟩
   rw [k2]
   unfold zev at hp
   simp only [Bool.and_eq_true,decide_eq_true_eq] at hp
   exact ⟨hp.1,hp.2.1⟩
  ·exact h.scp s k
theorem ynh (ha:AOk a){held:List Ev}(hst:Str zib (e::r))(hp:zev e=true)(h:CIv a (e::r) c)(hd:d∈outP a held c e):CIv a r d:=by
 unfold outP at hd
 rcases mem_append.1 hd with hd|hd
 ·split at hd
  ·rw [mem_singleton.1 hd];exact h.tail
  ·simp at hd
 ·obtain ⟨x,hx,hd⟩:=mem_filterMap.1 hd
  exact yqo ha hst hp h (ztl hx).1 hd
theorem yqs (ha:AOk a){held:List Ev}(hst:Str zib (e::r))(hp:zev e=true){cs:List Cf}(h:∀ c∈cs,CIv a (e::r) c):∀ d∈cfN a held cs e,CIv a r d:=fun d hd=>by
 obtain ⟨c,h1,h2,_⟩:=yil hd
 exact ynh ha hst hp (h c h1) h2
theorem ybe {held:List Ev}:∀ (p:List Ev) (cs:List Cf) (ms:List Ma),(wiP 150 a held (p++[e]) cs ms).2.2=true->∃ x m,wiP 150 a held p cs ms=(x,m,true)/\wiP 150 a held (p++[e]) cs ms=(cfN a held x e,puts z7s m (maN a held x e),true)/\(cfN a held x e).length<=150/\(puts z7s m (maN a held x e)).length<=150
 |[],cs,ms,h=>by
  refine ⟨cs,ms,rfl,?_⟩
  rw [nil_append] at h ⊢
  unfold wiP at h ⊢
  split at h
  ·cases h
  ·rename_i q
   rw [if_neg q]
   exact ⟨rfl,by omega,by omega⟩
 |f::p,cs,ms,h=>by
  rw [cons_append] at h ⊢
  unfold wiP at h ⊢
  split at h
  ·cases h
  ·rename_i q
   rw [if_neg q,if_neg q]
   exact ybe p _ _ h
theorem y0z (r:z0m)(c:Cf)(hl:c.fStarts.length<=1000000)(hs:∀ s∈c.fStarts,(0<=s.fScope/\s.fScope<r.fa.fScopes)/\0<=s.fTime/\s.fTime<=1099511627776)(ha:SS c.fStarts):∀ (m k:Nat),k<=c.fStarts.length->c.fStarts.length<m+k->z2h N0 c r (some 0) m (k:Int)=some 0
 |0,k,h1,h2=>by omega
 |m+1,k,h1,h2=>by
  unfold z2h
  simp only [length_map,z0c,z2i,z1e,z2t,z61,z52,z65]
  by_cases h:k<c.fStarts.length
  ·obtain ⟨⟨q1,q2⟩,q3,q4⟩:=hs _ (getElem_mem h)
   have ih:=y0z r c hl hs ha m (k+1) (by omega) (by omega)
   rw [if_pos (by omega),z0k h,if_neg (by omega),if_neg (by omega),if_neg (by omega),if_neg (by omega),z1m k (by omega)]
   by_cases h0:0<k
   ·have:=pairwise_iff_getElem.1 ha (k-1) k (by omega) h (by omega)
    rw [if_pos (by omega),ydw k (by omega) (by omega),z0k (by omega:k-1<c.fStarts.length),if_neg (by omega)]
    exact ih
   ·rw [if_neg (by omega)]
    exact ih
  ·rw [if_neg (by omega)]
theorem y10 (r:z0m)(held:List Ev)(hm:HM held r.fheld)(c:Cf)(hl:c.fBindings.length<=1000000)(hb:BdOk held r.fa.fVars c.fBindings)(ha:c.fBindings.Pairwise (fun x y=>rCmp x.fRef y.fRef<0))(K:Option Int)(hK:K=some 0):∀ (m k:Nat),k<=c.fBindings.length->c.fBindings.length<m+k->z4h N0 c r K m (k:Int)=some 0
 |0,k,h1,h2=>by omega
 |m+1,k,h1,h2=>by
  unfold z4h
  simp only [length_map,z0c,z2i,z1e,z60,z5z,z52,z65,z0x]
  by_cases h:k<c.fBindings.length
  ·obtain ⟨⟨q1,q2⟩,q3⟩:=hb _ (getElem_mem h)
   have ih:=y10 r held hm c hl hb ha K hK m (k+1) (by omega) (by omega)
   have e1:(⟨c.fBindings[k].fRef.fTime,c.fBindings[k].fRef.fSource,c.fBindings[k].fRef.fSeq⟩:Rf)=c.fBindings[k].fRef:=rfl
   rw [if_pos (by omega),z0k h,e1,yhj,hm,q3]
   simp only [z52]
   rw [if_neg (by omega),if_neg (by omega),z1m k (by omega)]
   by_cases h0:0<k
   ·have:=pairwise_iff_getElem.1 ha (k-1) k (by omega) h (by omega)
    have e2:(⟨c.fBindings[k-1].fRef.fTime,c.fBindings[k-1].fRef.fSource,c.fBindings[k-1].fRef.fSeq⟩:Rf)=c.fBindings[k-1].fRef:=rfl
    rw [if_pos (by omega),ydw k (by omega) (by omega),z0k (by omega:k-1<c.fBindings.length),e2,ylm,z04,if_neg (by omega)]
    exact ih
   ·rw [if_neg (by omega)]
    exact ih
  ·rw [if_neg (by omega)]
   exact hK
theorem yk5 {r:z0m}{held:List Ev}(hm:HM held r.fheld){k:Nat}(hk:k<=1000)(hc:CB held r.fa k c){rest:List Ev}(hi:CIv r.fa rest c):z62 N0 r c=some 0:=by
 have h1:=hc.lb
 have h2:=hc.ls
 have h3:=hc.st
 unfold z62
 simp only [z2i,z1e,z6x,z0c,z52,length_map]
 rw [if_neg (by omega),if_neg (by omega),if_neg (by omega)]
 have:=y0z r c (by omega) hi.scp hc.ss N0 0 (Nat.zero_le _) (by unfold N0;omega)
 exact y10 r held hm c (by omega) hc.bd hi.asc _ this N0 0 (Nat.zero_le _) (by unfold N0;omega)
theorem ypi (e:Ev):zi5 N0 e=some (zev e):=by
 unfold zi5 zev
 simp only [z2i,z1e,z7z,z0c]
 repeat' split
 all_goals (simp_all<;>omega)
theorem ypq (hp:zev e=true)(l:List Cf)(hl:l.length<=1000000)(hb:∀ c∈l,c.fBindings.length<=1000000)(h:∀ c∈l,CIv a (e::r) c):zht N0 l e=some 0:=by
 unfold zht
 rw [ypi,hp,z04,z0x,z52]
 rw [yei N0 e (fun _=>false) l (by omega) (by unfold N0;omega) (fun c hc=>by
  have hbl:=hb c hc
  unfold zg9 zrg
  rw [yeh N0 e (fun b=>decide (0<=rCmp b.fRef (zci e))) c.fBindings (by omega) (by unfold N0;omega) (fun b _=>by
   unfold zg8
   have hr:zi4 N0 e=some (zci e):=rfl
   rw [hr,z04]
   have e1:(⟨b.fRef.fTime,b.fRef.fSource,b.fRef.fSeq⟩:Rf)=b.fRef:=rfl
   have e2:(⟨(zci e).fTime,(zci e).fSource,(zci e).fSeq⟩:Rf)=zci e:=rfl
   simp only [e1,e2,ylm,z04]),z04,z04]
  congr 1
  rw [any_eq_false]
  intro b hb'
  have:=(h c hc).bef b hb' e (by simp)
  simp only [decide_eq_true_eq]
  omega),z04]
 have:(l.any fun _=>false)=false:=by rw [any_eq_false];simp
 rw [this,z65]
theorem yco {r:z0m}(e:Ev)(l:List Cf)(hl:l.length<=1000000)(h:∀ c∈l,z62 N0 r c=some 0)(K:Int->Int->List zeg->List z0t->List (z1g×z03)->Option (List Cf×List Ma×Int)):∀ (m k:Nat),k<=l.length->l.length<m+k->zdk N0 e l r K m (k:Int)=K r.fa.fVars r.fa.fScopes r.fa.fStates r.fa.fEdges r.fheld
 |0,k,h1,h2=>by omega
 |m+1,k,h1,h2=>by
  unfold zdk
  simp only [length_map,z0c,z0x]
  by_cases hk:k<l.length
  ·rw [if_pos (by omega),z0k hk,h _ (getElem_mem hk),z04,if_pos rfl,z1m k (by omega)]
   exact yco e l hl h K m (k+1) (by omega) (by omega)
  ·rw [if_neg (by omega)]
theorem yii:∀ (l p r:List Ev),chk p (l++r)=0->chk p l=0
 |[],p,r,_=>by unfold chk;rfl
 |e::l,p,r,h=>by
  rw [cons_append] at h
  unfold chk at h ⊢
  split at h
  ·cases h
  split at h
  ·cases h
  split at h
  ·cases h
  rename_i h1 h2 h3
  rw [if_neg h1,if_neg h2,if_neg h3]
  exact yii l (e::p) r h
variable {l:List Ev}
theorem ydy (h:zke (l++r)=0):zke l=0:=by
 unfold zke at h ⊢
 split at h
 ·cases h
 ·rename_i q
  rw [length_append] at q
  rw [if_neg (by omega)]
  exact yii l [] r h
structure GS (a:Aut) (l:List Ev):Prop where
 wf:WfA a
 few:FewA a
 ok:AOk a
 chk:z54 N0 a=some 0
 acheck:zba N0 a=some 0
 str:zke l=0
 len:l.length<=12
 sm:(wiP 150 a l l [cf0] []).2.2=true
theorem GS.so (h:GS a l):yor l:=znl h.str
theorem GS.cx (h:GS a l):CxA a l:=⟨h.wf,h.ok,fun x hx=>by have:=h.few.2 x hx;omega,by have:=h.len;omega⟩
theorem GS.pre (h:GS a l)(i:Nat):zke (l.take i)=0:=by
 have:=h.str
 rw [<-take_append_drop i l] at this
 exact ydy this
theorem GS.cxp (h:GS a l)(i:Nat):CxA a (l.take i):=⟨h.wf,h.ok,fun x hx=>by have:=h.few.2 x hx;omega,by have:=h.len;rw [length_take];omega⟩
theorem GS.edges (h:GS a l):a.fEdges.length<=100:=by have:=h.few.1;omega
theorem GS.begin (h:GS a l)(i:Nat):∃ mp,HM (l.take i) mp/\zei N0 a (l.take i)=some (some ⟨a,mp⟩,0):=by
 have hl:=h.len
 obtain ⟨q,q1,q2⟩:=y9w a h.wf (l.take i) (by rw [length_take];omega)
 have hq:q=0:=by
  unfold z2o at q1
  rw [h.chk,z04,z0x,z0c,if_pos rfl,ylo N0 _ (by grind) (by rw [length_take];omega),z04,h.pre i] at q1
  exact (Option.some.inj q1).symm
 simp_all
theorem y6p (h:GS a l)(i:Nat):z8q N0 a (l.take i)=some 0:=by
 have hl:=h.len
 unfold z8q
 rw [h.acheck,z04,z0x,z0c,if_pos rfl,yq2 N0 _ (by grind) (by decide) (by rw [length_take];omega),z04,h.pre i]
structure Gd57 (a:Aut) (l:List Ev) (i:Nat) (c:Cf):Prop where
 cb:CB l a (i+20) c
 ci:CIv a (l.drop i) c
theorem CB.mono {k m:Nat}(h:CB l a k c)(hk:k<=m):CB l a m c:=⟨h.st,h.bd,h.ss,Nat.le_trans h.lb hk,Nat.le_trans h.ls (Nat.mul_le_mul_left _ hk)⟩
theorem gd0 (h:GS a l):Gd57 a l 0 cf0:=⟨(cb0 h.ok).mono (Nat.zero_le _),by simp,fun b hb=>by simp at hb,fun s hs=>by simp at hs⟩
variable {i:Nat}
theorem Gd57.held (h:GS a l)(hc:Gd57 a l i c):CB (l.take i) a (i+20) c:=by
 refine ⟨hc.cb.st,fun b hb=>⟨(hc.cb.bd b hb).1,?_⟩,hc.cb.ss,hc.cb.lb,hc.cb.ls⟩
 have h1:=(hc.cb.bd b hb).2
 rw [<-take_append_drop i l,ynt] at h1
 cases hq:lkH (l.take i) b.fRef with
 |some e=>rfl
 |none =>
  rw [hq] at h1
  obtain ⟨e,he⟩:=Option.isSome_iff_exists.1 h1
  obtain ⟨e1,e2⟩:=ya2 (by simpa using he)
  have:=hc.ci.bef b hb e e2
  rw [e1] at this
  have:=zui.lt_ne this
  exact absurd rfl this
theorem Gd57.ok (h:GS a l)(hi:i<=12)(hc:Gd57 a l i c):cfOk c=true:=hc.cb.sz.ok (by omega)
theorem Gd57.cs (h:GS a l)(hi:i<=12)(hc:Gd57 a l i c):CS (zfx a) c:=by
 have h1:=hc.cb.st
 have h2:=hc.cb.lb
 have h3:=hc.cb.ls
 exact ⟨by rw [(y4d a).1.len];exact h1,by omega,by omega⟩
theorem yoh (hi:i<l.length):l.drop i=l[i]::l.drop (i+1):=drop_eq_getElem_cons hi
theorem yjk (h:Str zib l)(i:Nat):Str zib (l.drop i):=Pairwise.sublist (drop_sublist i l) h
theorem Gd57.next (h:GS a l)(hi:i<l.length){cs:List Cf}(hc:∀ c∈cs,Gd57 a l i c):∀ d∈cfN a l cs l[i],Gd57 a l (i+1) d:=fun d hd=>by
 have so:=h.so
 have e:=yoh hi
 refine ⟨(ydp h.cx so.st (fun c hc'=>(hc c hc').cb) (getElem_mem hi) d hd).mono (by omega),?_⟩
 have hst:=yjk so.st i
 rw [e] at hst
 refine yqs h.ok hst (so.pl _ (getElem_mem hi)) (fun c hc'=>?_) d hd
 have:=(hc c hc').ci
 rw [e] at this
 exact this
theorem Gd57.lk (h:GS a l){cs:List Cf}(hc:∀ c∈cs,Gd57 a l i c):∀ c∈cs,∀ b∈c.fBindings,lkH (l.take i) b.fRef=lkH l b.fRef :=
 yon h.so.st (fun y hy=>mem_of_mem_take hy) (fun c hc'=>(hc c hc').held h)
theorem yrq (h:GS a l)(hi:i<l.length):∀ y∈l.take i,zci y=zci l[i]->y=l[i]:=fun y hy hr=>by
 have hst:=h.so.st
 obtain ⟨j,hj,rfl⟩:=mem_iff_getElem.1 hy
 rw [length_take] at hj
 rw [getElem_take] at hr
 have:=pairwise_iff_getElem.1 hst j i (by omega) hi (by omega)
 exact absurd hr (zui.lt_ne this)
variable {mp:List (Rf×Ev)}
theorem ylq (h:GS a l)(hi:i<l.length)(hm:HM (l.take i) mp){cs:List Cf}(hc:∀ c∈cs,Gd57 a l i c)(hl:cs.length<=5000):z56 N0 ⟨a,mp⟩ cs l[i]=some (cfN a l cs l[i],maN a l cs l[i]):=by
 have hln:=h.len
 have had:=y6q (r:=⟨a,mp⟩) (h.cxp i) hm (by omega:i+20<=1000) (yrq h hi) h.edges cs (fun c hc'=>(hc c hc').held h) hl
 rw [zty (Gd57.lk h hc),y6u (Gd57.lk h hc)] at had
 exact had
theorem zuj (h:GS a l)(hi:i<=l.length)(hm:HM (l.take i) mp)(hc:Gd57 a l i c):z62 N0 ⟨a,mp⟩ c=some 0 :=
 yk5 (r:=⟨a,mp⟩) hm (by have:=h.len;omega:i+20<=1000) (hc.held h) hc.ci
theorem yc9 (h:GS a l)(hi:i<l.length){cs:List Cf}(hc:∀ c∈cs,Gd57 a l i c)(hl:cs.length<=5000):zht N0 cs l[i]=some 0:=by
 have hln:=h.len
 refine ypq (a:=a) (r:=l.drop (i+1)) (h.so.pl _ (getElem_mem hi)) cs (by omega) (fun c hc'=>by have:=(hc c hc').cb.lb;omega) (fun c hc'=>?_)
 have:=(hc c hc').ci
 simp_all
theorem yng (h:GS a l)(hi:i<l.length){cs:List Cf}(hc:∀ c∈cs,Gd57 a l i c)(hl:cs.length<=4000)(h1:(cfN a l cs l[i]).length<=4096)(h2:(maN a l cs l[i]).length<=4096):zfg N0 a (l.take i) cs l[i]=some (cfN a l cs l[i],maN a l cs l[i],0):=by
 obtain ⟨mp,hm,hb⟩:=h.begin i
 unfold zfg bndP
 rw [hb]
 simp only [z0x,z0c,length_map]
 rw [if_pos trivial,if_neg (by omega)]
 have l2:=fun K=>yco (r:=⟨a,mp⟩) l[i] cs (by omega) (fun c hc'=>zuj h (by omega) hm (hc c hc')) K N0 0 (Nat.zero_le _) (by unfold N0;omega)
 refine (l2 _).trans ?_
 rw [yc9 h hi hc (by omega),z04,if_pos rfl]
 have eta:(⟨⟨a.fVars,a.fScopes,a.fStates,a.fEdges⟩,mp⟩:z0m)=⟨a,mp⟩:=rfl
 simp only [eta,ylq h hi hm hc (by omega),z04,z2i,z1e,zbt,z52,z0c]
 grind
theorem yk1 (h:GS a l)(hi:i<l.length)(hc:Gd57 a l i c):zmx N0 a (l.take i) c l[i]=some (cfN a l [c] l[i],maN a l [c] l[i],0):=by
 obtain ⟨mp,hm,hb⟩:=h.begin i
 have hc':∀ d∈[c],Gd57 a l i d:=fun d hd=>by simp_all
 unfold zmx bndP
 rw [hb]
 simp only [z0x,z0c]
 rw [if_pos trivial,zuj h (by omega) hm hc,z04,if_pos rfl,yc9 h hi hc' (by simp),z04,if_pos rfl,ylq h hi hm hc' (by simp),z04]
theorem y5v (h:GS a l)(hi:i<=l.length)(hc:Gd57 a l i c):zjk N0 a (l.take i) c=some 0:=by
 obtain ⟨mp,hm,hb⟩:=h.begin i
 unfold zjk bndP
 rw [hb]
 simp only [z0x,z0c]
 rw [if_pos trivial,zuj h hi hm hc,z04]
theorem ycd (a b:List Sta)(hl:a.length=b.length)(hb:a.length<=1000000):∀ (m k:Nat),k<=a.length->a.length<m+k->z94 N0 b a (some true) m (k:Int)=some (decide (a.drop k=b.drop k))
 |0,k,h1,h2=>by omega
 |m+1,k,h1,h2=>by
  unfold z94
  have e:∀ x y:Sta,(decide (x.fScope=y.fScope) && (decide (x.fTime=y.fTime) && true))=decide (x=y):=fun x y=>by
   obtain ⟨v,t⟩:=x
   obtain ⟨v',t'⟩:=y
   simp
  simp only [length_map,z0c,e]
  by_cases h:k<a.length
  ·have h':k<b.length:=by omega
   rw [if_pos (by omega),z0k h,z0k h',drop_eq_getElem_cons h,drop_eq_getElem_cons h',z1m k (by omega)]
   have ih:=ycd a b hl hb m (k+1) (by omega) (by omega)
   rw [z0x,z0c]
   by_cases e:a[k]=b[k]
   ·have q:(a[k]::a.drop (k+1)=b[k]::b.drop (k+1)) ↔ a.drop (k+1)=b.drop (k+1):=⟨fun h=>(List.cons.inj h).2,fun h=>by rw [e,h]⟩
    simp_all
   ·have q:¬(a[k]::a.drop (k+1)=b[k]::b.drop (k+1)):=fun h=>e (List.cons.inj h).1
    rw [if_neg e,decide_eq_false q]
  grind
theorem yrk (a b:List Sta)(ha:a.length<=1000000):zd5 N0 a b=some (decide (a=b)):=by
 unfold zd5
 simp only [length_map,z0x,z0c]
 by_cases h:a.length=b.length
 ·rw [if_pos (by omega)]
  have:=ycd a b h ha N0 0 (Nat.zero_le _) (by unfold N0;omega)
  simpa using this
 ·rw [if_neg (by omega)]
  have:a≠b:=fun e=>h (by rw [e])
  simp [this]
theorem y2d (c d:Cf)(h1:c.fBindings.length<=1000000)(h2:c.fStarts.length<=1000000):zf2 N0 c d=some (decide (c=d)):=by
 unfold zf2
 simp only [z2i,z1e,z6k,z0c,ypw _ _ h1,yrk _ _ h2,z04]
 obtain ⟨s,b,t⟩:=c
 obtain ⟨s',b',t'⟩:=d
 simp only [z00.mk.injEq]
 grind
theorem yne (c d:Cf)(h1:c.fBindings.length<=1000000)(h2:c.fStarts.length<=1000000)(h3:d.fBindings.length<=1000000)(h4:d.fStarts.length<=1000000):∃ v:Int,zc5 N0 c d=some v/\(v<0 ↔ zbo c d<0):=by
 have oc:cfOk c=true:=(zfd c).2 ⟨by omega,by omega⟩
 have od:cfOk d=true:=(zfd d).2 ⟨by omega,by omega⟩
 unfold zc5
 rw [ypg N0 (by decide) [c,d] (fun x hx=>by
  grind) (by simp),z04]
 have key:∀ s:List Cf,Str zbo s->(∀ x,x∈s ↔ x∈[c,d])->setL zbo [c,d]=s:=fun s hs hm=>(yfs cfCmp_to (fun x=>(hm x).symm)).trans (y93 cfCmp_to hs)
 rcases cfCmp_to.one c d with hlt|heq|hgt
 ·have e:=key [c,d] (by simp [Str];omega) (fun x=>Iff.rfl)
  rw [e]
  simp only [length_cons,length_nil,z2i,z1e,z2v,z0c,z0x,length_map,z52,z65,zr6,y2d c c h1 h2,z04]
  refine ⟨-1,?_,by omega⟩
  simp [z52,z65,zr6,y2d c c h1 h2,z04]
 ·have hcd:=(cfCmp_to.zero c d).1 heq
  subst hcd
  have e:=key [c] (by simp [Str]) (fun x=>by simp)
  rw [e]
  refine ⟨0,?_,by omega⟩
  simp [z2i,z1e,z2v,z0c,z52,z65]
 ·have hn:=cfCmp_to.neg c d
  have e:=key [d,c] (by simp [Str];omega) (fun x=>by simp [or_comm])
  rw [e]
  have hne:¬d=c:=fun q=>by
   simp_all
  refine ⟨1,?_,by omega⟩
  simp [z2i,z1e,z2v,z0c,z52,z65,zr6,y2d d c h3 h4,z04,hne]
variable {α:Type}
theorem y6n {n:Nat}{l:List α}(h:l.length<=1000000000):zao n l=some l:=by unfold zao;exact if_pos h
theorem yc6 {l:List Cf}(hl:l.length<=1000000)(hs:∀ c∈l,c.fBindings.length<=1000000/\c.fStarts.length<=1000000)(K:List Cf->Option (List Cf)):∀ (m k:Nat) (out:List Cf),k<=l.length->l.length<m+k->out.length<=k->zb7 N0 l K m ((k:Int),out)=K (out++l.drop k)
 |0,k,out,h1,h2,_=>by omega
 |m+1,k,out,h1,h2,h3=>by
  unfold zb7
  simp only [length_map,z0c]
  by_cases h:k<l.length
  ·have hk:=hs _ (getElem_mem h)
   have e1:(⟨l[k].fState,l[k].fBindings,l[k].fStarts⟩:Cf)=l[k]:=rfl
   rw [if_pos (by omega),z0k h,y6n (by omega),z04,y6n (by omega),z04,drop_eq_getElem_cons h,z1m k (by omega),e1,zbc (by simp;omega) (by omega),yc6 hl hs K m (k+1) _ (by omega) (by omega) (by simp;omega)]
   simp
  grind
theorem yrg {l:List Cf}(hl:l.length<=1000000)(hs:∀ c∈l,c.fBindings.length<=1000000/\c.fStarts.length<=1000000):zdl N0 l=some l:=by
 unfold zdl
 have:=yc6 hl hs (fun y=>some y) N0 0 [] (Nat.zero_le _) (by unfold N0;omega) (by simp)
 simpa using this
def covd (R:List Mp)(l:List Cf)(d:Cf):Bool:=l.any (fun c=>cov R c d)
variable {R:List Mp}
theorem ygw {l:List Cf}(hl:l.length<=1000000)(hs:∀ c∈l,CS R c)(hd:CS R d):∀ (m k:Nat),k<=l.length->l.length<m+k->∃ y:Int,z3j N0 d R l (some (-1)) m (k:Int)=some y/\(0<=y ↔ covd R (l.drop k) d=true)
 |0,k,h1,h2=>by omega
 |m+1,k,h1,h2=>by
  unfold z3j zce
  simp only [length_map,z0c]
  by_cases h:k<l.length
  ·obtain ⟨y,y1,y2⟩:=ygw hl hs hd m (k+1) (by omega) (by omega)
   rw [if_pos (by omega),z0k h,ynb (hs _ (getElem_mem h)) hd,z04,z04,drop_eq_getElem_cons h,z1m k (by omega)]
   unfold covd at y2 ⊢
   rw [any_cons]
   cases hc:cov R l[k] d
   ·rw [z65];simp_all
   ·rw [z52];exact ⟨k,rfl,by simp⟩
  ·rw [if_neg (by omega),drop_eq_nil_of_le (by omega)]
   exact ⟨-1,rfl,by simp [covd]⟩
theorem y6l {l:List Cf}(hl:l.length<=1000000)(hs:∀ c∈l,CS R c)(hd:CS R d):z9z N0 l d R=some (covd R l d):=by
 obtain ⟨y,y1,y2⟩:=ygw hl hs hd N0 0 (Nat.zero_le _) (by unfold N0;omega)
 unfold z9z zaq zcc
 have e:z3j N0 d R l (some (-1)) N0 0=some y:=by simpa using y1
 rw [e,z04,z04]
 simp_all
variable {S:List (List Cf)}
theorem ygv {l:List Cf}(hi:i+1<S.length)(hi2:i<=1000)(hS:S[i+1].length<=1000000)(hSc:∀ c∈S[i+1],CS R c)(hl:l.length<=1000000)(hs:∀ c∈l,CS R c):∀ (m k:Nat),k<=l.length->l.length<m+k->∃ y:Int,z3i N0 (i:Int) ⟨S⟩ R l (some (-1)) m (k:Int)=some y/\(y<0 ↔ (l.drop k).all (covd R S[i+1])=true)
 |0,k,h1,h2=>by omega
 |m+1,k,h1,h2=>by
  unfold z3i ze0
  simp only [length_map,z0c]
  by_cases h:k<l.length
  ·obtain ⟨y,y1,y2⟩:=ygv hi hi2 hS hSc hl hs m (k+1) (by omega) (by omega)
   rw [if_pos (by omega),z0k h,z1m i (by omega),z0k hi,y6l hS hSc (hs _ (getElem_mem h)),z04,z04,drop_eq_getElem_cons h,z1m k (by omega),all_cons]
   cases hc:covd R S[i+1] l[k]
   ·rw [show (!false)=true from rfl,z52];exact ⟨k,rfl,by simp⟩
   ·rw [show (!true)=false from rfl,z65];simp_all
  ·rw [if_neg (by omega),drop_eq_nil_of_le (by omega)]
   exact ⟨-1,rfl,by simp⟩
theorem yh0 {l:List Cf}(hi:i+1<S.length)(hi2:i<=1000)(hS:S[i+1].length<=1000000)(hSc:∀ c∈S[i+1],CS R c)(hl:l.length<=1000000)(hs:∀ c∈l,CS R c):z8i N0 l R ⟨S⟩ (i:Int)=some (!l.all (covd R S[i+1])):=by
 obtain ⟨y,y1,y2⟩:=ygv hi hi2 hS hSc hl hs N0 0 (Nat.zero_le _) (by unfold N0;omega)
 unfold z8i zcb
 have e:z3i N0 (i:Int) ⟨S⟩ R l (some (-1)) N0 0=some y:=by simpa using y1
 rw [e,z04]
 grind
theorem yom (a:Aut)(held:List Ev)(c:Cf)(e:Ev):(cfN a held [c] e).length<=a.fEdges.length+1:=by
 unfold cfN
 refine Nat.le_trans (zwe _) ?_
 have:=zr4 (a:=a) (held:=held) (c:=c) (e:=e)
 have h2:(cfO (outP a held c e)).length<=(outP a held c e).length:=by unfold cfO;exact length_filter_le _ _
 simp
 omega
noncomputable def okC (a:Aut)(l:List Ev)(S:List (List Cf))(i:Nat)(e:Ev)(c:Cf):Bool:=(maN a l [c] e).isEmpty && (cfN a l [c] e).all (covd (zfx a) (S.getD (i+1) []))
noncomputable def vOk (a:Aut)(l:List Ev)(S:List (List Cf)):List Ev->Nat->Bool
 |[],_=>true
 |e::r,i=>(S.getD i []).all (okC a l S i e) && vOk a l S r (i+1)
theorem ybg (a:Aut)(l:List Ev)(S:List (List Cf))(e:Ev)(r:List Ev)(i:Nat):vOk a l S (e::r) i=((S.getD i []).all (okC a l S i e) && vOk a l S r (i+1)):=rfl
structure zs9 (a:Aut) (l:List Ev) (S:List (List Cf)):Prop where
 ln:S.length=l.length+1
 few:∀ i (hi:i<S.length),S[i].length<=4096
 gd:∀ i (hi:i<S.length),∀ c∈S[i],Gd57 a l i c
theorem zs9.cs (h:GS a l)(hS:zs9 a l S)(hi:i<S.length):∀ c∈S[i],CS (zfx a) c:=fun c hc=>(hS.gd i hi c hc).cs h (by have:=hS.ln;have:=h.len;omega)
theorem ybw (h:GS a l)(hS:zs9 a l S)(hi:i<l.length)(hi1:i<S.length)(K:Option Int):∀ (m k:Nat),k<=S[i].length->S[i].length<m+k->z38 N0 ⟨S⟩ l a (zfx a,(i:Int)) l[i] S[i] K m (k:Int)=if (S[i].drop k).all (okC a l S i l[i])=true then K else some 18
 |0,k,h1,h2=>by omega
 |m+1,k,h1,h2=>by
  have hf:=hS.few i hi1
  have hln:=h.len
  have hsn:=hS.ln
  unfold z38
  simp only [length_map,z0c,z0x,z2i,z1e,z4j]
  by_cases hk:k<S[i].length
  ·have hc:=hS.gd i hi1 _ (getElem_mem hk)
   have hsl:∀ (K:List Ev->Option Int),sls l 0 (i:Int) K=K (l.take i):=fun K=>by
    have:=ziz (l:=l) (a:=0) (b:=i) (Nat.zero_le _) (by omega) K
    simpa using this
   rw [if_pos (by omega),z0k hk,hsl,yk1 h hi hc,z04,if_pos rfl,drop_eq_getElem_cons hk,all_cons,z1m k (by omega)]
   have ih:=ybw h hS hi hi1 K m (k+1) (by omega) (by omega)
   have hg:S.getD (i+1) []=S[i+1]'(by omega):=by rw [getD_eq_getElem?_getD,getElem?_eq_getElem (by omega)];rfl
   have hnx:=Gd57.next h hi (cs:=[S[i][k]]) (fun c hc'=>by simp_all)
   by_cases hm:maN a l [S[i][k]] l[i]=[]
   ·have c233:=yh0 (R:=zfx a) (S:=S) (l:=cfN a l [S[i][k]] l[i]) (i:=i) (by omega) (by omega) (by have:=hS.few (i+1) (by omega);omega) (hS.cs h (by omega)) (by have:=yom a l S[i][k] l[i];have:=h.edges;omega) (fun c hc'=>(hnx c hc').cs h (by omega))
    have hok:okC a l S i l[i] S[i][k]=(cfN a l [S[i][k]] l[i]).all (covd (zfx a) (S[i+1]'(by omega))):=by unfold okC;rw [hm,hg];simp
    rw [hm,if_neg (by simp),c233,z04,hok]
    cases hb:(cfN a l [S[i][k]] l[i]).all (covd (zfx a) (S[i+1]'(by omega)))
    ·rw [show (!false)=true from rfl,z52];simp
    ·rw [show (!true)=false from rfl,z65,Bool.true_and];exact ih
   ·have hok:okC a l S i l[i] S[i][k]=false:=by
     unfold okC
     rw [isEmpty_eq_false_iff.2 hm]
     rfl
    have:0<(maN a l [S[i][k]] l[i]).length:=length_pos_iff.2 hm
    rw [if_pos (by simp_all),z52,hok,if_neg (by simp)]
  grind
theorem ybx (h:GS a l)(hS:zs9 a l S):∀ (m i:Nat),i<=l.length->l.length<m+i->z4i N0 ⟨S⟩ l a (some 0) m (zfx a,(i:Int))=if vOk a l S (l.drop i) i=true then some 0 else some 18
 |0,i,h1,h2=>by omega
 |m+1,i,h1,h2=>by
  have hln:=h.len
  have hsn:=hS.ln
  unfold z4i
  simp only [length_map,z0c]
  by_cases hi:i<l.length
  ·have hi1:i<S.length:=by omega
   have hf:=hS.few i hi1
   rw [if_pos (by omega),z0k hi,z0k hi1,z1m i (by omega)]
   have l2:=ybw h hS hi hi1 (z4i N0 ⟨S⟩ l a (some 0) m (zfx a,((i+1:Nat):Int))) N0 0 (Nat.zero_le _) (by unfold N0;omega)
   refine (l2).trans ?_
   have hg:S.getD i []=S[i]:=by rw [getD_eq_getElem?_getD,getElem?_eq_getElem hi1];rfl
   rw [ybx h hS m (i+1) (by omega) (by omega),drop_zero,drop_eq_getElem_cons hi]
   rw [ybg,hg]
   grind
  ·rw [if_neg (by omega),drop_eq_nil_of_le (by omega)]
   rfl
theorem y6e (h:GS a l)(hS:zs9 a l S)(hi1:i<S.length)(hst:Str zbo S[i])(K:Option Int):∀ (m k:Nat),k<=S[i].length->S[i].length<m+k->z6l N0 ⟨S⟩ l a (i:Int) S[i] K m (k:Int)=K
 |0,k,h1,h2=>by omega
 |m+1,k,h1,h2=>by
  have hf:=hS.few i hi1
  have hln:=h.len
  have hsn:=hS.ln
  unfold z6l
  simp only [length_map,z0c,z0x,z2i,z1e,z8o]
  by_cases hk:k<S[i].length
  ·have hc:=hS.gd i hi1 _ (getElem_mem hk)
   have hsl:∀ (K:List Ev->Option Int),sls l 0 (i:Int) K=K (l.take i):=fun K=>by
    have:=ziz (l:=l) (a:=0) (b:=i) (Nat.zero_le _) (by omega) K
    simpa using this
   have ih:=y6e h hS hi1 hst K m (k+1) (by omega) (by omega)
   rw [if_pos (by omega),z0k hk,hsl,y5v h (by omega) hc,z04,if_pos rfl,z1m k (by omega)]
   by_cases h0:k=0
   ·subst h0
    rw [if_neg (by simp),z65]
    exact ih
   ·obtain ⟨j,rfl⟩:∃ j,k=j+1:=⟨k-1,by omega⟩
    have hj:j<S[i].length:=by omega
    have hcj:=(hS.cs h hi1) _ (getElem_mem hj)
    have hck:=(hS.cs h hi1) _ (getElem_mem hk)
    have e1:IntKind.wrap .i64 (((j+1:Nat):Int)-1)=(j:Int):=by rw [zee _ (by omega)];omega
    obtain ⟨v,v1,v2⟩:=yne S[i][j] S[i][j+1] hcj.lb hcj.ls hck.lb hck.ls
    have hlt:zbo S[i][j] S[i][j+1]<0:=pairwise_iff_getElem.1 hst j (j+1) hj hk (by omega)
    have hv:=v2.2 hlt
    rw [if_pos (by omega),e1,z0k hj,v1,z04,if_neg (by omega)]
    exact ih
  ·rw [if_neg (by omega)]
theorem y6f (h:GS a l)(hS:zs9 a l S)(hst:∀ i (hi:i<S.length),Str zbo S[i]):∀ (m i:Nat),i<=S.length->S.length<m+i->zah N0 ⟨S⟩ l a (some 0) m (i:Int)=some 0
 |0,i,h1,h2=>by omega
 |m+1,i,h1,h2=>by
  have hln:=h.len
  have hsn:=hS.ln
  unfold zah
  simp only [length_map,z0c]
  by_cases hi:i<S.length
  ·have hf:=hS.few i hi
   rw [if_pos (by omega),z0k hi,if_neg (by omega),z1m i (by omega),y6f h hS hst m (i+1) (by omega) (by omega)]
   exact y6e h hS hi (hst i hi) _ N0 0 (Nat.zero_le _) (by unfold N0;omega)
  ·rw [if_neg (by omega)]
theorem ypp (h:GS a l)(hS:zs9 a l S)(hst:∀ i (hi:i<S.length),Str zbo S[i]):zcp N0 a l ⟨S⟩=some 0:=by
 have hln:=h.len
 have hsn:=hS.ln
 unfold zcp
 simp only [length_map,z0c,z0x]
 rw [z1m l.length (by omega),if_pos (by omega)]
 exact y6f h hS hst N0 0 (Nat.zero_le _) (by unfold N0;omega)
theorem cs0 (h:GS a l):CS (zfx a) cf0:=(gd0 h).cs h (by omega)
theorem yk0 (h:GS a l)(hS:zs9 a l S)(hf:zcp N0 a l ⟨S⟩=some 0):z80 N0 a l ⟨S⟩=some (if (covd (zfx a) (S.getD 0 []) cf0 && vOk a l S l 0)=true then 0 else 18):=by
 have hln:=h.len
 have hsn:=hS.ln
 have h0:0<S.length:=by omega
 have hg:S.getD 0 []=S[0]:=by rw [getD_eq_getElem?_getD,getElem?_eq_getElem h0];rfl
 have hck:=y6p h l.length
 rw [take_length] at hck
 have hr:z57 N0 a=some (zfx a):=by
  unfold z57
  rw [y0r h.wf h.ok (fun x hx=>(h.wf.ed x hx).lc),z04]
 have hi0:∀ (K:List Cf->Option Int),idx S 0 K=K S[0]:=fun K=>by
  have:=z0k (l:=S) (i:=0) h0 K
  simpa using this
 have l1:=ybx h hS N0 0 (Nat.zero_le _) (by unfold N0;omega)
 have l1':z4i N0 ⟨S⟩ l a (some 0) N0 (zfx a,0)=if vOk a l S l 0=true then some 0 else some 18:=by simpa using l1
 unfold z80
 have hf0:=hS.few 0 h0
 have e0:zej N0=some cf0:=rfl
 rw [hck,z04,z0x,z0c,if_pos rfl,hf,z04,z0x,z0c,if_pos rfl,hr,z7u,y1d,y1d,z1e,hi0,e0,z04,y6l (by omega) (hS.cs h h0) (cs0 h),z04,l1',hg]
 cases covd (zfx a) S[0] cf0
 ·rw [show (!false)=true from rfl,z52];simp
 ·rw [show (!true)=false from rfl,z65]
  cases vOk a l S l 0<;>simp
theorem yhf {α:Type}[DecidableEq α]:∀ {l m:List α},l.Nodup->(∀ x∈l,x∈m)->l.length<=m.length
 |[],m,_,_=>by simp
 |x::r,m,h1,h2=>by
  have hx:=h2 x (by simp)
  have h3:=nodup_cons.1 h1
  have ih:=yhf (m:=m.erase x) h3.2 (fun y hy=>(mem_erase_of_ne (fun e=>h3.1 (by rw [<-e];exact hy))).2 (h2 y (mem_cons_of_mem _ hy)))
  rw [length_erase_of_mem hx] at ih
  have:0<m.length:=length_pos_of_mem hx
  simp only [length_cons]
  omega
theorem yin {β:Type}(l:List α)(k:List α->Option β):bldS l k=k l:=rfl
theorem yqt {β:Type}(l:List α)(k:List α->Option β):bld l k=k l:=rfl
theorem ylg {c:α->α->Int}(h:TO c){l:List α}(hl:Str c l):l.Nodup:=by
 refine Pairwise.imp (fun {x y} hxy e=>?_) hl
 subst e
 have:=(h.zero x x).2 rfl
 omega
theorem ylc {held:List Ev}:∀ (p r:List Ev) (cs:List Cf) (ms:List Ma),(wiP 150 a held (p++r) cs ms).2.2=true->(wiP 150 a held p cs ms).2.2=true
 |[],r,cs,ms,h=>rfl
 |f::p,r,cs,ms,h=>by
  rw [cons_append] at h
  unfold wiP at h ⊢
  split at h
  ·cases h
  ·rename_i q
   rw [if_neg q]
   exact ylc p r _ _ h
noncomputable def xsI (a:Aut)(l:List Ev)(i:Nat):List Cf:=(wiP 150 a l (l.take i) [cf0] []).1
noncomputable def msI (a:Aut)(l:List Ev)(i:Nat):List Ma:=(wiP 150 a l (l.take i) [cf0] []).2.1
theorem yjf (h:GS a l)(i:Nat):wiP 150 a l (l.take i) [cf0] []=(xsI a l i,msI a l i,true):=by
 have h1:=h.sm
 rw [<-take_append_drop i l] at h1
 have h2:=ylc (l.take i) (l.drop i) [cf0] [] (by rw [take_append_drop] at h1 ⊢;exact h1)
 unfold xsI msI
 rw [<-h2]
theorem zwz (a:Aut)(l:List Ev):xsI a l 0=[cf0]/\msI a l 0=[]:=by unfold xsI msI;rw [take_zero];exact ⟨rfl,rfl⟩
theorem zsd (h:GS a l)(hi:i<l.length):xsI a l (i+1)=cfN a l (xsI a l i) l[i]/\msI a l (i+1)=puts z7s (msI a l i) (maN a l (xsI a l i) l[i])/\(xsI a l (i+1)).length<=150/\(msI a l (i+1)).length<=150:=by
 have e:l.take (i+1)=l.take i++[l[i]]:=by rw [take_append_getElem]
 have h1:=yjf h (i+1)
 rw [e] at h1
 obtain ⟨x,m,q1,q2,q3,q4⟩:=ybe (l.take i) [cf0] [] (by rw [h1])
 rw [yjf h i] at q1
 injection q1 with w1 w2
 injection w2 with w2 _
 rw [<-w1] at q2 q3 q4
 rw [<-w2] at q2 q4
 rw [h1] at q2
 injection q2 with v1 v2
 injection v2 with v2 _
 rw [<-v1] at q3
 rw [<-v2] at q4
 exact ⟨v1,v2,q3,q4⟩
theorem yox (h:GS a l)(hi:i<=l.length):(xsI a l i).length<=150:=by
 cases i with
 |zero=>rw [(zwz a l).1];simp
 |succ i=>exact (zsd h (by omega)).2.2.1
theorem yoy (h:GS a l):∀ {i:Nat},i<=l.length->∀ c∈xsI a l i,Gd57 a l i c
 |0,hi=>fun c hc=>by
  rw [(zwz a l).1] at hc
  rw [mem_singleton.1 hc]
  exact gd0 h
 |i+1,hi=>fun c hc=>by
  rw [(zsd h (by omega)).1] at hc
  exact Gd57.next h (by omega) (yoy h (by omega)) c hc
theorem ydo {held:List Ev}{cs xs:List Cf}(h:∀ c∈cs,c∈xs)(e:Ev):∀ d∈cfN a held cs e,d∈cfN a held xs e:=fun d hd=>by
 unfold cfN at hd ⊢
 rw [zgs cfCmp_to,mem_flatMap] at hd ⊢
 obtain ⟨c,h1,h2⟩:=hd
 exact ⟨c,h c h1,h2⟩
theorem y2r {held:List Ev}{cs xs:List Cf}(h:∀ c∈cs,c∈xs)(e:Ev):∀ d∈maN a held cs e,d∈maN a held xs e:=fun d hd=>by
 unfold maN at hd ⊢
 rw [zgs zbe,mem_flatMap] at hd ⊢
 obtain ⟨c,h1,h2⟩:=hd
 exact ⟨c,h c h1,h2⟩
structure Sb (a:Aut) (l:List Ev) (i:Nat) (cs:List Cf):Prop where
 sub:∀ c∈cs,c∈xsI a l i
 str:Str zbo cs
theorem Sb.len (h:GS a l)(hi:i<=l.length){cs:List Cf}(hc:Sb a l i cs):cs.length<=150 :=
 Nat.le_trans (yhf (ylg cfCmp_to hc.str) hc.sub) (yox h hi)
theorem Sb.gd (h:GS a l)(hi:i<=l.length){cs:List Cf}(hc:Sb a l i cs):∀ c∈cs,Gd57 a l i c:=fun c hcc=>yoy h hi c (hc.sub c hcc)
theorem Sb.next (h:GS a l)(hi:i<l.length){cs:List Cf}(hc:Sb a l i cs):Sb a l (i+1) (cfN a l cs l[i]) :=
 ⟨by rw [(zsd h hi).1];exact ydo hc.sub _,zkf cfCmp_to _⟩
theorem Sb.ma (h:GS a l)(hi:i<l.length){cs:List Cf}(hc:Sb a l i cs):(∀ d∈maN a l cs l[i],d∈msI a l (i+1))/\(maN a l cs l[i]).length<=150:=by
 have h1:∀ d∈maN a l cs l[i],d∈msI a l (i+1):=fun d hd=>by
  rw [(zsd h hi).2.1,zkh zbe]
  exact Or.inr (y2r hc.sub _ d hd)
 exact ⟨h1,Nat.le_trans (yhf (ylg zbe (zkf zbe _)) h1) (zsd h hi).2.2.2⟩
theorem Sb.adv (h:GS a l)(hi:i<l.length){cs:List Cf}(hc:Sb a l i cs):zfg N0 a (l.take i) cs l[i]=some (cfN a l cs l[i],maN a l cs l[i],0) :=
 yng h hi (hc.gd h (by omega)) (by have:=hc.len h (by omega);omega) (by have:=(hc.next h hi).len h (by omega);omega) (by have:=(hc.ma h hi).2;omega)
theorem Sb.red {cs:List Cf}(hc:Sb a l i cs)(R:List Mp):Sb a l i (redP R cs) :=
 ⟨fun c h=>hc.sub c ((ybq R cs).subset h),Pairwise.sublist (ybq R cs) hc.str⟩
noncomputable def bS (f:List Cf->List Cf)(a:Aut)(l:List Ev):List Ev->List Cf->List (List Cf)->List (List Cf)×Int
 |[],_,acc=>(acc,0)
 |e::r,cs,acc=>if maN a l cs e=[] then bS f a l r (f (cfN a l cs e)) (acc++[f (cfN a l cs e)]) else ([],22)
theorem yiq (f:List Cf->List Cf)(a:Aut)(l:List Ev)(e:Ev)(r:List Ev)(cs:List Cf)(acc:List (List Cf)):bS f a l (e::r) cs acc=if maN a l cs e=[] then bS f a l r (f (cfN a l cs e)) (acc++[f (cfN a l cs e)]) else ([],22):=rfl
theorem Sb.sizes (h:GS a l)(hi:i<=l.length){cs:List Cf}(hc:Sb a l i cs):∀ c∈cs,c.fBindings.length<=1000000/\c.fStarts.length<=1000000:=fun c hcc=>by
 have:=(hc.gd h hi c hcc).cs h (by have:=h.len;omega)
 exact ⟨this.lb,this.ls⟩
theorem y0p (h:GS a l):∀ (m i:Nat) (cs:List Cf) (out:List (List Cf)),i<=l.length->l.length<m+i->(ho:out.length=i+1)->out[i]=cs->Sb a l i cs->z6g N0 (zfx a) l a (fun y=>some (y,0)) m ((i:Int),out)=some (bS (redP (zfx a)) a l (l.drop i) cs out)
 |0,i,cs,out,h1,h2,_,_,_=>by omega
 |m+1,i,cs,out,h1,h2,h3,h4,hc=>by
  have hln:=h.len
  unfold z6g
  simp only [length_map,z0c,z0x]
  by_cases hi:i<l.length
  ·have hsl:∀ (K:List Ev->Option (List (List Cf)×Int)),sls l 0 (i:Int) K=K (l.take i):=fun K=>by
    have:=ziz (l:=l) (a:=0) (b:=i) (Nat.zero_le _) (by omega) K
    simpa using this
   have hn:=hc.next h hi
   have hr:=hn.red (zfx a)
   rw [if_pos (by omega),z0k hi,hsl,zew (by omega),zi0 (by omega),h4,hc.adv h hi,z04,if_pos rfl,drop_eq_getElem_cons hi,yiq,z1m i (by omega)]
   by_cases hm:maN a l cs l[i]=[]
   ·rw [if_neg (by rw [hm];simp),if_pos hm]
    unfold ze1
    rw [yrf (by have:=hn.len h (by omega);omega) (fun c hcc=>(hn.gd h (by omega) c hcc).cs h (by omega)),z04,yrg (by have:=hr.len h (by omega);omega) (hr.sizes h (by omega)),z04,z04]
    rw [yin,zbc (by simp;omega) (by omega)]
    exact y0p h m (i+1) (redP (zfx a) (cfN a l cs l[i])) _ (by omega) (by omega) (by simp;omega) (by rw [getElem_append_right (by omega)];simp [h3]) hr
   ·have:0<(maN a l cs l[i]).length:=length_pos_iff.2 hm
    rw [if_pos (by show (0:Int)<((maN a l cs l[i]).length:Int);omega),if_neg hm]
  ·rw [if_neg (by omega),drop_eq_nil_of_le (by omega)]
   rfl
theorem sb0 (a:Aut)(l:List Ev):Sb a l 0 [cf0]:=⟨fun c hc=>by rw [(zwz a l).1];exact hc,by simp [Str]⟩
theorem ymu (h:GS a l):zb0 N0 a l (zfx a)=some (bS (redP (zfx a)) a l l [cf0] [[cf0]]):=by
 have:=y0p h N0 0 [cf0] [[cf0]] (Nat.zero_le _) (by have:=h.len;unfold N0;omega) rfl rfl (sb0 a l)
 unfold zb0
 have e0:zej N0=some cf0:=rfl
 rw [e0,z04,yin,yqt]
 simpa using this
theorem yez:z7y 2000000000=some true:=by kernel_rfl
theorem GS.of (hw:WfA a)(h1:z9m N0 a l=some true)(h2:z6j N0 a l=some 0):GS a l:=by
 obtain ⟨b,b1,b2⟩:=ygb a hw l
 rw [h1] at b1
 obtain rfl:=Option.some.inj b1
 obtain ⟨hf,hl,q,hb,hs⟩:=b2 rfl
 have hq:q=0:=by
  have e:z2o N0 a l=z6j N0 a l:=by unfold z2o z6j;rfl
  rw [e,h2] at hb
  exact (Option.some.inj hb).symm
 obtain ⟨p,p1,p2⟩:=y9w a hw l (by omega)
 rw [hb] at p1
 obtain rfl:=Option.some.inj p1
 rcases p2 with ⟨h',_⟩|⟨_,ha,hso,hck,hst,_⟩
 ·exact absurd hq h'
 obtain ⟨r,r1,r2,r3⟩:=ycq N0 (by decide) a hw
 rw [hck] at r1
 obtain rfl:=Option.some.inj r1
 exact ⟨hw,hf,ha,hck,r2,hst,hl,hs hq⟩
theorem yn4 (h:GS a l):zhc N0 a l=some (msI a l l.length,0)/\(∀ d∈msI a l l.length,maOk d=true):=by
 have hln:=h.len
 obtain ⟨mp,hm,hbeg⟩:=h.begin l.length
 rw [take_length] at hm hbeg
 have e0:setL z7s ([]:List Ma)=[]:=rfl
 have hsm:=h.sm
 obtain ⟨cs,all,a1,a2,a3,a4,a5,a6,a7⟩:=yc0 (r:=⟨a,mp⟩) h.cx hm h.so.st h.edges (by omega) (fun y0 y1=>bndM 62 (zb6 N0 y1) fun x47=>some (y0,x47,0)) N0 0 [cf0] [] (Nat.zero_le _) (by unfold N0;omega) (by simp) (by simp) (fun c hc=>by rw [mem_singleton.1 hc];exact cb0 h.ok) (by simp) (by rw [drop_zero,e0];exact hsm)
 rw [drop_zero,e0] at a2
 have a2':wiP 150 a l l [cf0] []=(cs,setL z7s all,true):=a2
 have hx:=yjf h l.length
 rw [take_length,a2'] at hx
 injection hx with _ hx
 injection hx with hx _
 have hr:zqy N0 a l=some (cs,setL z7s all,0):=by
  unfold zqy bndP
  rw [hbeg]
  simp only [z0x,z0c]
  have hB:zej N0=some cf0:=rfl
  rw [if_pos trivial,hB,z04]
  refine a1.trans ?_
  rw [yg9 N0 (by decide) all a3 (by omega),z7u]
 unfold zhc
 rw [hr,z04,<-hx]
 exact ⟨rfl,yfr a3⟩
def NM (a:Aut)(l:List Ev)(i:Nat):Prop:=∀ j,i<=j->(hj:j<l.length)->maN a l (xsI a l j) l[j]=[]
theorem yg4 {s m:List Ma}:puts z7s s m=[] ↔ s=[]/\m=[]:=by
 constructor
 ·intro h
  have k:=fun z=>zkh zbe z m s
  rw [h] at k
  exact ⟨eq_nil_iff_forall_not_mem.2 (fun z hz=>by simp_all),eq_nil_iff_forall_not_mem.2 (fun z hz=>by have:=(k z).2 (Or.inr hz);simp at this)⟩
 ·rintro ⟨rfl,rfl⟩
  rfl
theorem yhc (h:GS a l):msI a l l.length=[] ↔ NM a l 0:=by
 have key:∀ i,i<=l.length->(msI a l i=[] ↔ ∀ j,(hj:j<l.length)->j<i->maN a l (xsI a l j) l[j]=[]):=by
  intro i
  induction i with
  |zero=>intro _;rw [(zwz a l).2];simp
  |succ i ih =>
   intro hi
   rw [(zsd h (by omega)).2.1,yg4,ih (by omega)]
   grind
 rw [key l.length (Nat.le_refl _)]
 exact ⟨fun hq j _ hj=>hq j hj hj,fun hq j hj _=>hq j (Nat.zero_le _) hj⟩
noncomputable def tS (f:List Cf->List Cf)(a:Aut)(l:List Ev):List Ev->List Cf->List (List Cf)
 |[],_=>[]
 |e::r,cs=>f (cfN a l cs e)::tS f a l r (f (cfN a l cs e))
theorem zu7 (f:List Cf->List Cf)(a:Aut)(l:List Ev)(e:Ev)(r:List Ev)(cs:List Cf):tS f a l (e::r) cs=f (cfN a l cs e)::tS f a l r (f (cfN a l cs e)):=rfl
theorem y57 (f:List Cf->List Cf)(a:Aut)(l:List Ev):∀ (r:List Ev) (cs:List Cf),(tS f a l r cs).length=r.length
 |[],_=>rfl
 |e::r,cs=>by rw [zu7,length_cons,length_cons,y57 f a l r]
structure Ch (a:Aut) (l:List Ev) (f:List Cf->List Cf):Prop where
 sub:∀ i cs,Sb a l i cs->Sb a l i (f cs)
 cov:∀ cs,∀ c∈cs,covd (zfx a) (f cs) c=true
theorem ydn (a:Aut)(l:List Ev):Ch a l (redP (zfx a)):=⟨fun i cs h=>h.red _,fun cs c hc=>by
 obtain ⟨y,h1,h2⟩:=ymk (zfx a) hc
 exact any_eq_true.2 ⟨y,h1,h2⟩⟩
theorem yhd {cs xs:List Ma}(h:∀ c∈cs,c∈xs)(e:xs=[]):cs=[]:=eq_nil_iff_forall_not_mem.2 (fun z hz=>by simp_all)
variable {f:List Cf->List Cf}
theorem yip (h:GS a l)(hf:Ch a l f):∀ (n i:Nat) (cs:List Cf) (acc:List (List Cf)),i+n=l.length->Sb a l i cs->NM a l i->bS f a l (l.drop i) cs acc=(acc++tS f a l (l.drop i) cs,0)
 |0,i,cs,acc,h1,h2,h3=>by
  rw [drop_eq_nil_of_le (by omega)]
  show (acc,(0:Int))=(acc++[],0)
  rw [append_nil]
 |n+1,i,cs,acc,h1,h2,h3=>by
  have hi:i<l.length:=by omega
  rw [drop_eq_getElem_cons hi,yiq,zu7,if_pos (yhd (y2r h2.sub _) (h3 i (Nat.le_refl _) hi)),yip h hf n (i+1) _ _ (by omega) (hf.sub _ _ (h2.next h hi)) (fun j hj hjl=>h3 j (by omega) hjl)]
  simp
theorem yfh (h:GS a l)(hf:Ch a l f):∀ (n i:Nat) (cs:List Cf),i+n=l.length->Sb a l i cs->S.drop i=cs::tS f a l (l.drop i) cs->∀ j (hj:j<S.length),i<=j->Sb a l j S[j]
 |0,i,cs,h1,h2,h3,j,hj,hij=>by
  have hl:(S.drop i).length=1:=by rw [h3,length_cons,y57,length_drop];omega
  rw [length_drop] at hl
  obtain rfl:j=i:=by omega
  rw [drop_eq_getElem_cons hj] at h3
  grind
 |n+1,i,cs,h1,h2,h3,j,hj,hij=>by
  have hi:i<l.length:=by omega
  have hiS:i<S.length:=by
   have:(S.drop i).length=l.length-i+1:=by rw [h3,length_cons,y57,length_drop]
   rw [length_drop] at this
   omega
  rw [drop_eq_getElem_cons hiS] at h3
  obtain ⟨e1,e2⟩:=List.cons.inj h3
  by_cases e:j=i
  ·simp_all
  ·rw [drop_eq_getElem_cons hi,zu7] at e2
   exact yfh h hf n (i+1) _ (by omega) (hf.sub _ _ (h2.next h hi)) e2 j hj (by omega)
theorem ylf (h:GS a l)(hf:Ch a l f)(hS:S.length=l.length+1):∀ (n i:Nat) (cs:List Cf),i+n=l.length->Sb a l i cs->NM a l i->S.drop i=cs::tS f a l (l.drop i) cs->vOk a l S (l.drop i) i=true
 |0,i,cs,h1,h2,h4,h3=>by rw [drop_eq_nil_of_le (by omega)];rfl
 |n+1,i,cs,h1,h2,h4,h3=>by
  have hi:i<l.length:=by omega
  rw [drop_eq_getElem_cons (by omega:i<S.length)] at h3
  obtain ⟨e1,e2⟩:=List.cons.inj h3
  rw [drop_eq_getElem_cons hi,zu7] at e2
  have ih:=ylf h hf hS n (i+1) _ (by omega) (hf.sub _ _ (h2.next h hi)) (fun j hj hjl=>h4 j (by omega) hjl) e2
  rw [drop_eq_getElem_cons (by omega:i+1<S.length)] at e2
  have e3:=(List.cons.inj e2).1
  have g1:S.getD i []=cs:=by rw [getD_eq_getElem?_getD,getElem?_eq_getElem (by omega),Option.getD_some,e1]
  have g2:S.getD (i+1) []=f (cfN a l cs l[i]):=by rw [getD_eq_getElem?_getD,getElem?_eq_getElem (by omega),Option.getD_some,e3]
  rw [drop_eq_getElem_cons hi,ybg,ih,Bool.and_true,g1,all_eq_true]
  intro c hc
  have hs:∀ d∈[c],d∈cs:=fun d hd=>by simp_all
  unfold okC
  rw [g2,Bool.and_eq_true,isEmpty_iff,all_eq_true]
  exact ⟨yhd (y2r (fun d hd=>h2.sub d (hs d hd)) _) (h4 i (Nat.le_refl _) hi),fun d hd=>hf.cov _ d (ydo hs _ d hd)⟩
noncomputable def refS (f:List Cf->List Cf)(a:Aut)(l:List Ev):List (List Cf):=[cf0]::tS f a l l [cf0]
theorem ylh (h:GS a l)(hf:Ch a l f):zs9 a l (refS f a l)/\(∀ i (hi:i<(refS f a l).length),Sb a l i (refS f a l)[i]):=by
 have hl:(refS f a l).length=l.length+1:=by unfold refS;rw [length_cons,y57]
 have hs:∀ i (hi:i<(refS f a l).length),Sb a l i (refS f a l)[i]:=fun i hi=>yfh h hf l.length 0 [cf0] (by omega) (sb0 a l) (by rw [drop_zero,drop_zero];rfl) i hi (Nat.zero_le _)
 exact ⟨⟨hl,fun i hi=>by have:=(hs i hi).len h (by omega);omega,fun i hi=>(hs i hi).gd h (by omega)⟩,hs⟩
theorem ymi (h:GS a l)(hf:Ch a l f)(hn:NM a l 0):z80 N0 a l ⟨refS f a l⟩=some 0:=by
 obtain ⟨h1,h2⟩:=ylh h hf
 rw [yk0 h h1 (ypp h h1 (fun i hi=>(h2 i hi).str))]
 have hv:=ylf h hf h1.ln l.length 0 [cf0] (by omega) (sb0 a l) hn (by rw [drop_zero,drop_zero];rfl)
 rw [drop_zero] at hv
 have hc:covd (zfx a) ((refS f a l).getD 0 []) cf0=true:=any_eq_true.2 ⟨cf0,mem_singleton.2 rfl,y36 _ _⟩
 rw [hv,hc]
 rfl
theorem yna (h:GS a l):z57 N0 a=some (zfx a):=by
 unfold z57
 rw [y0r h.wf h.ok (fun x hx=>(h.wf.ed x hx).lc),z04]
theorem y9u (h:GS a l):z8q N0 a l=some 0:=by
 have:=y6p h l.length
 simp_all
theorem ycg (h:GS a l):z81 N0 a l=some (match msI a l l.length with|[]=>(2,⟨[]⟩,⟨refS (redP (zfx a)) a l⟩,0)|m::_=>(1,m,⟨[]⟩,0)):=by
 unfold z81
 rw [y9u h,z04,z0x,z0c,if_pos rfl,(yn4 h).1,z04,z0x,z0c,if_pos rfl,z0c,length_map]
 cases hm:msI a l l.length with
 |nil =>
  have hn:=(yhc h).1 hm
  have hb:=yip h (ydn a l) l.length 0 [cf0] [[cf0]] (by omega) (sb0 a l) hn
  rw [drop_zero] at hb
  rw [if_neg (by simp),yna h,z7u,y1d,y1d,z1e,ymu h,hb,z04]
  rfl
 |cons m r =>
  rw [if_pos (by simp),zr6]
end Go.Proofs.YtidhlpjgifoneaaGreat
