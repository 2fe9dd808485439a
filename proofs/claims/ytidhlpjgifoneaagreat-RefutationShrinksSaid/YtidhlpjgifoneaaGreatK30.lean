/- Layers 17 and 25, plainly. -/
import Derived.Test.YtidhlpjgifoneaaGreatK29
set_option linter.unusedVariables false
set_option linter.unusedSimpArgs false
namespace Go.Proofs.YtidhlpjgifoneaaGreat
open Go.RowKit List
abbrev Rf:=z1f
abbrev N0:Nat:=2000000000
abbrev ev0:Ev:=⟨0,0,0,0,[]⟩
variable {β:Type}
theorem yi8 {κ ν:Type}[DecidableEq κ](l:List (κ×ν))(k:κ)(z:ν)(c:ν->Bool->Option β):mgv l k z c=c ((mlk l k).getD z) (mlk l k).isSome:=by unfold mgv;rfl
theorem yi6 {n:Int}(h0:0<=n)(h:n<=1000)(k:Nat->Option β):mkn n 24 k=k n.toNat:=by unfold mkn;grind
theorem yhx (i:Nat)(x:Option β):nst i x=x:=by unfold nst;rfl
theorem yim (i:Nat)(x:Option β):frr i x=x:=by unfold frr;rfl
theorem zoz {n:Int}{len:Nat}(h0:0<=n)(h:n.toNat<len)(x:Option β):ncx n len x=x:=by unfold ncx;rw [if_pos ⟨h0,h⟩]
variable {α:Type}{l:List (List α)}
theorem yhw {k:Nat}(h:k<l.length)(c:List α->Option β):ntk l k c=c (l.getD k []):=by unfold ntk;simp [h]
theorem yi0 {k:Nat}(h:k<l.length)(v:List α)(c:List (List α)->Option β):npt l k v c=c (l.set k v):=by unfold npt;rw [if_pos h]
theorem yed:∀ (l p:List Ev),chk p l=0->(∀ e∈l,zf0 e=true)/\Str zkn l/\(∀ h t,p=h::t->∀ e∈l,zkn h e<0)
 |[],p,_=>⟨by simp,by simp [Str],by simp⟩
 |e::l,p,h=>by
  unfold chk at h
  split at h
  ·cases h
  split at h
  ·cases h
  split at h
  ·cases h
  rename_i h1 h2 h3
  obtain ⟨a1,a2,a3⟩:=yed l (e::p) h
  have h4:=a3 e p rfl
  refine ⟨fun x hx=>?_,pairwise_cons.2 ⟨h4,a2⟩,fun q t hq x hx=>?_⟩
  ·grind
  ·have h5:zkn q e<0:=by
    subst hq
    simp only [y21] at h2
    simpa using h2
   rcases mem_cons.1 hx with k|k
   ·rw [k];exact h5
   ·exact zv3.trans _ _ _ h5 (h4 x k)
structure ypi (l:List Ev):Prop where
 pl:∀ e∈l,zf0 e=true
 st:Str zkn l
 ln:l.length<=4096
theorem zxn {l:List Ev}(h:zkq l=0):ypi l:=by
 unfold zkq at h
 split at h
 ·cases h
 ·obtain ⟨a,b,_⟩:=yed l [] h
  exact ⟨a,b,by omega⟩
def lkH (held:List Ev)(r:Rf):Option Ev:=held.find? (fun e=>decide (zdt e=r))
variable {held:List Ev}
theorem yaq {r:Rf}{e:Ev}(h:lkH held r=some e):zdt e=r/\e∈held:=by
 have h1:=find?_some h
 exact ⟨by simpa using h1,mem_of_find?_eq_some h⟩
theorem yif (h:Str zkn held){e:Ev}(he:e∈held):lkH held (zdt e)=some e:=by
 unfold lkH
 induction held with
 |nil=>simp at he
 |cons x l ih =>
  obtain ⟨h1,h2⟩:=pairwise_cons.1 h
  rw [find?_cons]
  rcases mem_cons.1 he with k|k
  ·rw [k];simp
  ·have:zdt x≠zdt e:=fun q=>zv3.lt_ne (h1 e k) q
   simp only [this,decide_false]
   exact ih h2 k
theorem yon (a b:List Ev)(r:Rf):lkH (a++b) r=(lkH a r).or (lkH b r):=by unfold lkH;rw [find?_append]
theorem y1m (n:Nat)(r:Rf)(l:List Ev)(hl:l.length<=1000000):∀ (m k:Nat),k<=l.length->l.length<m+k->z7k n r l (some (ev0,false)) m (k:Int)=some (match lkH (l.drop k) r with|some e=>(e,true)|none=>(ev0,false))
 |0,k,h1,h2=>by omega
 |m+1,k,h1,h2=>by
  unfold z7k
  simp only [length_map,z0c]
  by_cases h:k<l.length
  ·rw [if_pos (by omega),z0j h,z0e l k h,z1o k (by omega),y1m n r l hl m (k+1) (by omega) (by omega),ynv,z04,z0j h]
   have:(decide (l[k].fTime=r.fTime) && (decide (l[k].fSource=r.fSource) && (decide (l[k].fSeq=r.fSeq) && true)))=decide (zdt l[k]=r):=by
    cases r;simp [zdt]
   rw [this,z0c]
   unfold lkH
   grind
  ·rw [if_neg (by omega),drop_eq_nil_of_le (by omega)]
   rfl
theorem yo1 (n:Nat)(r:Rf)(l:List Ev)(hl:l.length<=1000000)(hn:l.length<n):zbp n l r=some (match lkH l r with|some e=>(e,true)|none=>(ev0,false)):=by
 have:=y1m n r l hl n 0 (by omega) (by omega)
 unfold zbp
 simp_all
def HM (held:List Ev)(mp:List (Rf×Ev)):Prop:=∀ r,mlk mp r=lkH held r
theorem yik (r:Rf):∀ (l:List Ev) (m:List (Rf×Ev)),Str zkn l->mlk (l.foldl (fun m e=>mput m (zdt e) e) m) r=(lkH l r).or (mlk m r)
 |[],m,_=>by simp [lkH]
 |e::l,m,h=>by
  obtain ⟨h1,h2⟩:=pairwise_cons.1 h
  rw [foldl_cons,yik r l _ h2,ydq]
  unfold lkH
  rw [find?_cons]
  by_cases q:zdt e=r
  ·have:lkH l r=none:=by
    unfold lkH
    rw [find?_eq_none]
    intro x hx hq
    simp only [decide_eq_true_eq] at hq
    exact zv3.lt_ne (h1 x hx) (by rw [q,hq])
   unfold lkH at this
   rw [this]
   simp [q]
  grind
def addB (held:List Ev)(vs:List (List Ev))(b:Bd):List (List Ev):=match lkH held b.fRef with|some e=>(if 0<=b.fVar/\b.fVar.toNat<vs.length then vs.set b.fVar.toNat (vs.getD b.fVar.toNat []++[e]) else vs)|none=>vs
def bndV (held:List Ev)(m:Nat)(l:List Bd):List (List Ev):=l.foldl (addB held) (replicate m [])
def ev1 (held:List Ev)(l:List Bd)(v:Int):List Ev:=l.filterMap (fun b=>if b.fVar=v then lkH held b.fRef else none)
theorem zxi (held:List Ev)(vs:List (List Ev))(b:Bd):(addB held vs b).length=vs.length:=by
 unfold addB;grind
theorem yek {vs:List (List Ev)}{b:Bd}{k:Nat}(h:∀ q∈vs,q.length<=k):∀ q∈addB held vs b,q.length<=k+1:=by
 unfold addB
 grind
theorem y7o (held:List Ev):∀ (l:List Bd) (vs:List (List Ev)),(l.foldl (addB held) vs).length=vs.length
 |[],vs=>rfl
 |b::l,vs=>by rw [foldl_cons,y7o held l,zxi]
theorem zoq (held:List Ev)(m:Nat)(l:List Bd):(bndV held m l).length=m:=by unfold bndV;rw [y7o];simp
theorem ym4 (held:List Ev)(vs:List (List Ev))(b:Bd)(i:Nat)(hi:i<vs.length):(addB held vs b).getD i []=vs.getD i []++(if b.fVar=(i:Int) then lkH held b.fRef else none).toList:=by
 unfold addB
 grind
theorem y7p (held:List Ev)(i:Nat):∀ (l:List Bd) (vs:List (List Ev)),i<vs.length->(l.foldl (addB held) vs).getD i []=vs.getD i []++ev1 held l (i:Int)
 |[],vs,hi=>by simp [ev1]
 |b::l,vs,hi=>by
  rw [foldl_cons,y7p held i l _ (by rw [zxi];exact hi),ym4 held vs b i hi]
  unfold ev1
  grind
theorem zrv (held:List Ev)(m:Nat)(l:List Bd)(v:Int):evs (bndV held m l) v=if 0<=v/\v<(m:Int) then ev1 held l v else []:=by
 unfold evs
 rw [zoq]
 by_cases h1:v<0
 ·rw [if_pos h1,if_neg (by omega)]
 rw [if_neg h1]
 by_cases h2:(m:Int)<=v
 ·rw [if_pos h2,if_neg (by omega)]
 rw [if_neg h2,if_pos (by omega)]
 unfold bndV
 rw [y7p held v.toNat l _ (by simp;omega)]
 grind
theorem yp6 (held:List Ev)(l:List Bd)(v:Int):(ev1 held l v).length<=l.length:=length_filterMap_le _ _
theorem ylo {l:List Bd}{v:Int}(h:∀ b∈l,b.fVar≠v):ev1 held l v=[]:=by
 unfold ev1
 simp_all
abbrev enH (held:List Ev)(l:List Bd):List (List Ev):=bndV held 16 l
theorem zvc {l:List Bd}(h:l.length<=1000000)(v:Int):(evs (enH held l) v).length<=1000000:=by
 rw [zrv]
 split
 ·have:=yp6 held l v;omega
 ·simp
theorem y1r (n:Nat)(held:List Ev)(hh:held.length<=1000000)(hn:1000000<n)(x:Nat)(hx:x<=16)(l:List Bd)(hl:l.length<=1000000)(K:List (List Ev)->Option z0i):∀ (m k:Nat) (vs:List (List Ev)),k<=l.length->l.length<m+k->vs.length=x->(∀ q∈vs,q.length<=k)->z1v n l (x:Int) held x K m ((k:Int),vs)=K ((l.drop k).foldl (addB held) vs)
 |0,k,vs,h1,h2,h3,h4=>by omega
 |m+1,k,vs,h1,h2,h3,h4=>by
  unfold z1v
  simp only [length_map,z0c]
  by_cases h:k<l.length
  ·rw [if_pos (by omega),z0j h,z0e l k h,z1o k (by omega),yo1 n _ held hh (by omega),z04,z1d,foldl_cons]
   have hr:(⟨l[k].fRef.fTime,l[k].fRef.fSource,l[k].fRef.fSeq⟩:Rf)=l[k].fRef:=rfl
   rw [hr]
   have ih:∀ vs',vs'=addB held vs l[k]->z1v n l (x:Int) held x K m (((k+1:Nat):Int),vs')=K ((l.drop (k+1)).foldl (addB held) (addB held vs l[k])):=fun vs' hv=>by
    subst hv
    exact y1r n held hh hn x hx l hl K m (k+1) _ (by omega) (by omega) (by rw [zxi];exact h3) (yek h4)
   cases hq:lkH held l[k].fRef with
   |none =>
    simp only [z6e]
    exact ih vs (by unfold addB;rw [hq])
   |some e =>
    simp only [z6c]
    by_cases q1:0<=l[k].fVar
    ·rw [if_pos q1]
     by_cases q2:l[k].fVar<(x:Int)
     ·rw [if_pos q2,zoz q1 (by omega),yhw (by omega)]
      have hl2:(vs.getD l[k].fVar.toNat []).length<=k:=by
       rw [getD_eq_getElem?_getD,getElem?_eq_getElem (by omega),Option.getD_some]
       exact h4 _ (getElem_mem _)
      rw [zbi (by grind) (by omega),zoz q1 (by omega),yi0 (by omega)]
      exact ih _ (by unfold addB;simp_all)
     ·rw [if_neg q2]
      exact ih vs (by unfold addB;grind)
    ·rw [if_neg q1]
     exact ih vs (by unfold addB;grind)
  ·rw [if_neg (by omega),drop_eq_nil_of_le (by omega)]
   rfl
theorem yh5 (n:Nat)(hn:1000000<n)(held:List Ev)(hh:held.length<=1000000)(c:Cf)(hl:c.fBindings.length<=1000000):z9n n held c=some ⟨enH held c.fBindings⟩:=by
 unfold z9n ze4
 rw [yi6 (by omega) (by omega),yhx,z1d]
 have:=y1r n held hh hn 16 (by omega) c.fBindings hl (fun k1_0_0y=>frr 13 <| reg <| some ⟨k1_0_0y⟩) n 0 (replicate 16 []) (by omega) (by omega) (by simp) (by simp)
 simp only [Int.natCast_zero] at this
 have h16:Int.toNat 16=16:=rfl
 have h16':((16:Nat):Int)=16:=rfl
 rw [h16]
 rw [h16'] at this
 rw [this,yim,z1d,z04]
 rfl
def BdOk (held:List Ev)(x:Int)(l:List Bd):Prop:=∀ b∈l,(0<=b.fVar/\b.fVar<x)/\(lkH held b.fRef).isSome=true
theorem yd7 (n:Nat)(held:List Ev)(r:z0m)(hm:HM held r.fheld)(x:Nat)(hx:x<=16)(l:List Bd)(hl:l.length<=1000000)(hb:BdOk held (x:Int) l)(K:List (List Ev)->Option z0i):∀ (m k:Nat) (vs:List (List Ev)),k<=l.length->l.length<m+k->vs.length=x->(∀ q∈vs,q.length<=k)->zap n l r x K m ((k:Int),vs)=K ((l.drop k).foldl (addB held) vs)
 |0,k,vs,h1,h2,h3,h4=>by omega
 |m+1,k,vs,h1,h2,h3,h4=>by
  unfold zap
  simp only [length_map,z0c]
  by_cases h:k<l.length
  ·obtain ⟨⟨q1,q2⟩,q3⟩:=hb _ (getElem_mem h)
   obtain ⟨e,hq⟩:=Option.isSome_iff_exists.1 q3
   have hr:(⟨l[k].fRef.fTime,l[k].fRef.fSource,l[k].fRef.fSeq⟩:Rf)=l[k].fRef:=rfl
   have hl2:(vs.getD l[k].fVar.toNat []).length<=k:=by
    rw [getD_eq_getElem?_getD,getElem?_eq_getElem (by omega),Option.getD_some]
    exact h4 _ (getElem_mem _)
   rw [if_pos (by omega),z0j h,z0e l k h,z1o k (by omega),foldl_cons,zoz q1 (by omega),yhw (by omega),hr,yi8,hm,hq,Option.getD_some,zbi (by grind) (by omega),zoz q1 (by omega),yi0 (by omega)]
   have ha:addB held vs l[k]=vs.set l[k].fVar.toNat (vs.getD l[k].fVar.toNat []++[e]):=by
    unfold addB;rw [hq];simp only;rw [if_pos ⟨q1,by omega⟩]
   rw [<-ha]
   exact yd7 n held r hm x hx l hl hb K m (k+1) _ (by omega) (by omega) (by rw [zxi];exact h3) (yek h4)
  grind
theorem ysd (n:Nat)(hn:1000000<n)(held:List Ev)(r:z0m)(hm:HM held r.fheld)(hv:0<=r.fa.fVars/\r.fa.fVars<=16)(l:List Bd)(hl:l.length<=1000000)(hb:BdOk held r.fa.fVars l):zf5 n r l=some ⟨bndV held r.fa.fVars.toNat l⟩:=by
 unfold zf5
 rw [yi6 hv.1 (by omega),yhx,z1d]
 have hx:((r.fa.fVars.toNat:Nat):Int)=r.fa.fVars:=by omega
 have:=yd7 n held r hm r.fa.fVars.toNat (by omega) l hl (by rw [hx];exact hb) (fun k1_0_0y=>frr 13 <| reg <| some ⟨k1_0_0y⟩) n 0 (replicate r.fa.fVars.toNat []) (by omega) (by omega) (by simp) (by simp)
 simp only [Int.natCast_zero] at this
 rw [this,yim,z1d]
 rfl
def EvEq (a b:List (List Ev)):Prop:=∀ v,evs a v=evs b v
theorem yiu {x:Int}(hv:0<=x/\x<=16){l:List Bd}(hb:BdOk held x l):EvEq (enH held l) (bndV held x.toNat l):=fun v=>by
 rw [zrv,zrv]
 by_cases h:0<=v/\v<x
 ·grind
 ·rw [if_neg (by omega:¬(0<=v/\v<((x.toNat:Nat):Int)))]
  split
  ·exact ylo (fun b hb' q=>by have:=(hb b hb').1;omega)
  ·rfl
def EvS (a:List (List Ev)):Prop:=∀ v,(evs a v).length<=1000000
def trR (a:List (List Ev))(e:Exn)(own:Int)(ev:Ev):Bool:=(z31 N0 e ⟨a⟩ own ev).getD false
variable {a b:List (List Ev)}
theorem yem (hab:EvEq a b)(hs:EvS a){e:Exn}(hw:WfE e)(own:Int)(ev:Ev):z31 N0 e ⟨a⟩ own ev=some (trR a e own ev)/\zff N0 e ⟨b⟩ own ev=some (trR a e own ev):=by
 obtain ⟨z,hz,ht⟩:=hw
 obtain ⟨r,r1,r2⟩:=ynn a b hs own ev z e (fun i _=>hab i) ht hz N0 (by decide)
 have:trR a e own ev=r:=by unfold trR;rw [r1];rfl
 rw [this]
 exact ⟨r1,r2⟩
def vio (a:List (List Ev))(e:Ev)(g:Gd):Bool:=decide (g.fType=e.fType) && trR a g.fCond g.fVar e
theorem yh1 (hs:EvS a){g:Gd}(hw:WfE g.fCond)(e:Ev):z7f N0 g ⟨a⟩ e=some (vio a e g):=by
 unfold z7f vio
 simp only [z2k,z1d,z38,z0c]
 have:=(yem (fun v=>rfl:EvEq a a) hs hw g.fVar e).1
 rw [this,z04]
 by_cases h:g.fType=e.fType<;>simp [h]
theorem ymc (hab:EvEq a b)(hs:EvS a){g:Gd}(hw:WfE g.fCond)(e:Ev):zfu N0 g ⟨b⟩ e=some (vio a e g):=by
 unfold zfu vio
 simp only [z2k,z1d,zbc,z0c]
 have:=(yem hab hs hw g.fVar e).2
 rw [this,z04]
 by_cases h:g.fType=e.fType<;>simp [h]
abbrev Lim:=z1g
def SS (l:List Sta):Prop:=l.Pairwise (fun x y=>x.fScope<y.fScope)
def opS (l:List Sta)(s t:Int):List Sta:=l.filter (fun x=>decide (x.fScope<s))++(⟨s,t⟩:Sta)::l.filter (fun x=>decide (s<x.fScope))
def clS (l:List Sta)(s:Int):List Sta:=l.filter (fun x=>!decide (x.fScope=s))
theorem opS_mem {l:List Sta}{s t:Int}{x:Sta}(h:x∈opS l s t):x=⟨s,t⟩\/x∈l:=by
 unfold opS at h
 grind
theorem yhu {l:List Sta}(h:SS l)(s t:Int):SS (opS l s t):=by
 unfold opS SS
 rw [pairwise_append]
 refine ⟨h.filter _,pairwise_cons.2 ⟨fun x hx=>by simp_all,h.filter _⟩,fun x hx y hy=>?_⟩
 grind
theorem yan (l:List Sta)(s t:Int):(opS l s t).length<=l.length+1:=by
 unfold opS
 rw [length_append,length_cons]
 induction l with
 |nil=>simp
 |cons x l ih =>
  grind
theorem yc6 {l:List Sta}(h:SS l){s:Int}{i:Nat}(hi:i<=l.length)(h1:∀ k (hk:k<l.length),k<i->l[k].fScope<s)(h2:∀ hk:i<l.length,¬l[i].fScope<s):l.take i=l.filter (fun x=>decide (x.fScope<s))/\((∀ hk:i<l.length,l[i].fScope≠s)->l.drop i=l.filter (fun x=>decide (s<x.fScope)))/\(∀ hk:i<l.length,l[i].fScope=s->l.drop (i+1)=l.filter (fun x=>decide (s<x.fScope))):=by
 have t1:∀ x∈l.take i,x.fScope<s:=fun x hx=>by
  obtain ⟨k,hk,rfl⟩:=mem_iff_getElem.1 hx
  grind
 have d0:∀ hk:i<l.length,∀ x∈l.drop (i+1),l[i].fScope<x.fScope:=fun hk x hx=>by
  have:=h.drop (i:=i)
  rw [z0e l i hk] at this
  exact (pairwise_cons.1 this).1 x hx
 have d1:∀ x∈l.drop i,s<=x.fScope:=fun x hx=>by
  by_cases hk:i<l.length
  ·rw [z0e l i hk] at hx
   grind
  grind
 have f:∀ p:Sta->Bool,l.filter p=(l.take i).filter p++(l.drop i).filter p:=fun p=>by rw [<-filter_append,take_append_drop]
 refine ⟨?_,fun hne=>?_,fun hk he=>?_⟩
 ·rw [f,filter_eq_self.2 (fun x hx=>by simpa using t1 x hx),filter_eq_nil_iff.2 (fun x hx=>by have:=d1 x hx;simp;omega),append_nil]
 ·rw [f,filter_eq_nil_iff.2 (fun x hx=>by have:=t1 x hx;simp;omega),nil_append,filter_eq_self.2 (fun x hx=>?_)]
  by_cases hk:i<l.length
  ·rw [z0e l i hk] at hx
   grind
  grind
 ·rw [f,filter_eq_nil_iff.2 (fun x hx=>by have:=t1 x hx;simp;omega),nil_append,z0e l i hk,filter_cons,if_neg (by simp;omega),filter_eq_self.2 (fun x hx=>by have:=d0 hk x hx;simp;omega)]
theorem zt4 (n:Nat)(s:Int)(l:List Sta)(hl:l.length<=1100000)(K:List Sta->Option (List Sta)):∀ (m k:Nat) (out:List Sta),k<=l.length->l.length<m+k->out.length<=k->z44 n s l K m ((k:Int),out)=K (out++(l.drop k).filter (fun x=>!decide (x.fScope=s)))
 |0,k,out,h1,h2,h3=>by omega
 |m+1,k,out,h1,h2,h3=>by
  unfold z44
  simp only [length_map,z0c,z0y]
  by_cases h:k<l.length
  ·have i1:=zt4 n s l hl K m (k+1) (out++[l[k]]) (by omega) (by omega) (by simp_all)
   have i2:=zt4 n s l hl K m (k+1) out (by omega) (by omega) (by omega)
   rw [if_pos (by omega),z1d,z0j h,z0j h,z0e l k h,z1o k (by omega),zbi (by grind) (by omega),i1,i2,filter_cons]
   grind
  grind
theorem yda (n:Nat)(s:Int)(l:List Sta)(hl:l.length<=1100000)(hn:l.length<n):z91 n l s=some (clS l s):=by
 have:=zt4 n s l hl (fun y=>some y) n 0 [] (by omega) (by omega) (by simp)
 unfold z91 clS
 simp_all
theorem zvz (n:Nat)(s t:Int)(l:List Sta)(hl:l.length<=1100000)(K:List Sta->Int->List Sta->Option (List Sta))(r:Option (List Sta))
  (hK:∀ i:Nat,i<=l.length->(∀ k (hk:k<l.length),k<i->l[k].fScope<s)->(∀ hk:i<l.length,¬l[i].fScope<s)->K l (i:Int) (l.take i)=r) :
  ∀ (m k:Nat),k<=l.length->l.length<m+k->(∀ j (hj:j<l.length),j<k->l[j].fScope<s)->z2y n t s l K m ((k:Int),l.take k)=r
 |0,k,h1,h2,h3=>by omega
 |m+1,k,h1,h2,h3=>by
  unfold z2y
  simp only [length_map,z0c,z2k,z1d,z43]
  by_cases h:k<l.length
  ·rw [if_pos (by omega),z0j h]
   by_cases q:l[k].fScope<s
   ·rw [if_pos q,z0j h,zbi (by grind) (by omega),z1o k (by omega),<-take_succ_eq_append_getElem h]
    exact zvz n s t l hl K r hK m (k+1) (by omega) (by omega) (fun j hj hjk=>by
     grind)
   ·rw [if_neg q]
    exact hK k h1 h3 (fun _=>q)
  ·rw [if_neg (by omega),z6e]
   exact hK k h1 h3 (fun hk=>absurd hk h)
theorem yri {l:List Sta}(h:SS l)(s:Int):SS (clS l s):=h.filter _
theorem yj8 (l:List Sta)(s:Int):(clS l s).length<=l.length:=length_filter_le _ _
theorem yh3 (n:Nat)(s t:Int)(l:List Sta)(hs:SS l)(hl:l.length<=1100000)(hn:l.length<n):zb1 n l s t=some (opS l s t):=by
 unfold zb1
 rw [yda n s l hl hn,z04]
 have hc:=yj8 l s
 refine zvz n s t (clS l s) (by omega) _ _ (fun i hi h1 h2=>?_) n 0 (by omega) (by omega) (fun j _ hj=>by omega)
 obtain ⟨a1,a2,_⟩:=yc6 (yri hs s) hi h1 h2
 have hne:∀ hk:i<(clS l s).length,(clS l s)[i].fScope≠s:=fun hk=>by
  have:=(mem_filter.1 (getElem_mem hk)).2
  simpa using this
 have:=zmq (l:=clS l s) hi (Nat.le_refl _) (fun x46=>app ((clS l s).take i++[⟨s,t⟩]) x46 16 fun x47=>some x47)
 rw [zbi (by grind) (by omega)]
 simp only [length_map]
 rw [this,take_length,zbi (by grind) (by omega),a1,a2 hne]
 unfold opS clS
 rw [filter_filter,filter_filter,append_assoc]
 congr 2
 all_goals grind
def keP (l:List Sta)(t:Int)(x:Lim):Bool:=match l.find? (fun s=>decide (s.fScope=x.fScope)) with|some s=>decide (IntKind.wrap .i64 (t-s.fTime)<=x.fSpan)|none=>false
theorem y6x (n:Nat)(t:Int)(x:Lim)(l:List Sta)(hl:l.length<=1100000):∀ (m k:Nat),k<=l.length->l.length<m+k->z8e n t x l (some false) m (k:Int)=some (keP (l.drop k) t x)
 |0,k,h1,h2=>by omega
 |m+1,k,h1,h2=>by
  unfold z8e
  simp only [length_map,z0c]
  by_cases h:k<l.length
  ·rw [if_pos (by omega),z0j h,z0j h,z0e l k h,z1o k (by omega),y6x n t x l hl m (k+1) (by omega) (by omega)]
   unfold keP
   grind
  ·rw [if_neg (by omega),drop_eq_nil_of_le (by omega)]
   rfl
theorem yqh (n:Nat)(t:Int)(x:Lim)(l:List Sta)(hl:l.length<=1100000)(hn:l.length<n):zc5 n l x t=some (keP l t x):=by
 have:=y6x n t x l hl n 0 (by omega) (by omega)
 unfold zc5
 simp_all
theorem yrt (x:Int)(h0:0<=x)(h1:x<=18446744073709551615):IntKind.wrap .u64 x=x:=IntWalk.u64_in _ ⟨h0,h1⟩
theorem yow (i j:Nat)(h:i+j<=3000000):IntKind.wrap .i64 (Int.fdiv (IntKind.wrap .u64 (IntKind.wrap .i64 ((i:Int)+(j:Int)))) (2 ^ min (Int.toNat (1:Int)) (IntKind.bits .u64)))=(((i+j) / 2:Nat):Int):=by
 have e1:IntKind.wrap .i64 ((i:Int)+(j:Int))=((i+j:Nat):Int):=by rw [zex _ (by omega)];omega
 rw [e1,yrt _ (by omega) (by omega)]
 have e2:(2:Int) ^ min (Int.toNat (1:Int)) (IntKind.bits .u64)=2:=by decide
 rw [e2]
 have e3:Int.fdiv ((i+j:Nat):Int) 2=(((i+j) / 2:Nat):Int):=by
  rw [Int.fdiv_eq_ediv_of_nonneg _ (by omega)];omega
 rw [e3,zex _ (by omega)]
theorem ynx (n:Nat)(a:Sta)(s:Int):zen n a s=some (cmpI a.fScope s):=by
 unfold zen
 rw [yaz,z04]
theorem zuj (a b:Int):cmpI a b<0 ↔ a<b:=by unfold cmpI;split<;>(try split)<;>omega
theorem yn1 (a b:Int):cmpI a b=0 ↔ a=b:=zoo.zero a b
theorem yai (n:Nat)(l:List Sta)(s:Int)(hs:SS l)(hl:l.length<=1100000)(K:Int->Option (Int×Bool))(r:Option (Int×Bool))
  (hK:∀ i:Nat,i<=l.length->(∀ k (hk:k<l.length),k<i->l[k].fScope<s)->(∀ hk:i<l.length,¬l[i].fScope<s)->K (i:Int)=r) :
  ∀ (m i j:Nat),i<=j->j<=l.length->j-i<m->(∀ k (h:k<l.length),k<i->l[k].fScope<s)->(∀ k (h:k<l.length),j<=k->¬l[k].fScope<s)->z2u n s l K m ((i:Int),(j:Int))=r
 |0,i,j,h1,h2,h4,_,_=>by omega
 |m+1,i,j,h1,h2,h4,hlo,hhi=>by
  have mono:∀ a b (ha:a<l.length) (hb:b<l.length),a<=b->l[a].fScope<=l[b].fScope:=fun a b ha hb hab=>by
   rcases Nat.eq_or_lt_of_le hab with rfl|hab
   ·exact Int.le_refl _
   ·have:=pairwise_iff_getElem.1 hs a b ha hb hab;omega
  unfold z2u
  simp only [z0c]
  by_cases h:i<j
  ·rw [if_pos (by omega),ypy (by omega),yow i j (by omega)]
   have hh:(i+j) / 2<l.length:=by omega
   rw [z0j hh,ynx,z04,z1o _ (by omega)]
   by_cases hc:l[(i+j) / 2].fScope<s
   ·rw [if_pos ((zuj _ _).2 hc)]
    exact yai n l s hs hl K r hK m ((i+j) / 2+1) j (by omega) h2 (by omega) (fun k hk hki=>by grind) hhi
   ·rw [if_neg (fun q=>hc ((zuj _ _).1 q))]
    exact yai n l s hs hl K r hK m i ((i+j) / 2) (by omega) (by omega) (by omega) hlo (fun k hk hjk=>by grind)
  ·have hij:i=j:=by omega
   simp_all
theorem p_bs (n:Nat)(l:List Sta)(s:Int)(hs:SS l)(hl:l.length<=1100000)(hn:l.length<n):∃ i:Nat,i<=l.length/\l.take i=l.filter (fun x=>decide (x.fScope<s))/\((z6n n l s=some ((i:Int),false)/\l.drop i=l.filter (fun x=>decide (s<x.fScope)))\/∃ hk:i<l.length,l[i].fScope=s/\z6n n l s=some ((i:Int),true)/\l.drop (i+1)=l.filter (fun x=>decide (s<x.fScope))):=by
 have key:∃ i:Nat,i<=l.length/\(∀ k (hk:k<l.length),k<i->l[k].fScope<s)/\(∀ hk:i<l.length,¬l[i].fScope<s):=by
  refine ⟨(l.takeWhile (fun x=>decide (x.fScope<s))).length,(takeWhile_sublist _).length_le,?_⟩
  clear hs hl hn
  induction l with
  |nil=>simp_all
  |cons x l ih =>
   rw [takeWhile_cons]
   grind
 obtain ⟨i,hi,h1,h2⟩:=key
 have uq:∀ j:Nat,j<=l.length->(∀ k (hk:k<l.length),k<j->l[k].fScope<s)->(∀ hk:j<l.length,¬l[j].fScope<s)->j=i:=fun j hj g1 g2=>by
  grind
 obtain ⟨a1,a2,a3⟩:=yc6 hs hi h1 h2
 refine ⟨i,hi,a1,?_⟩
 unfold z6n
 simp only [length_map,z0c]
 have bs:=fun r hK=>yai n l s hs hl (fun k1_0_0y=>if k1_0_0y<((l.length:Nat):Int) then (idx l k1_0_0y fun x42=>bnd (zen n x42 s) fun x43=>some (k1_0_0y,decide (x43=0))) else some (k1_0_0y,false)) r hK n 0 l.length (by omega) (by omega) (by omega) (fun k _ h=>by omega) (fun k hk h=>by omega)
 by_cases e:∃ hk:i<l.length,l[i].fScope=s
 ·obtain ⟨hk,he⟩:=e
  refine Or.inr ⟨hk,he,bs _ (fun j hj g1 g2=>?_),a3 hk he⟩
  obtain rfl:=uq j hj g1 g2
  rw [if_pos (by omega),z0j hk,ynx,z04]
  have:cmpI l[j].fScope s=0:=(yn1 _ _).2 he
  simp [this]
 ·refine Or.inl ⟨bs _ (fun j hj g1 g2=>?_),a2 (fun hk he=>e ⟨hk,he⟩)⟩
  obtain rfl:=uq j hj g1 g2
  by_cases hk:j<l.length
  ·rw [if_pos (by omega),z0j hk,ynx,z04]
   have:¬cmpI l[j].fScope s=0:=fun q=>e ⟨hk,(yn1 _ _).1 q⟩
   simp [this]
  ·rw [if_neg (by omega)]
theorem yr1 {n c:Nat}{a:List α}{x:α}(h:c<=a.length)(hl:a.length<=1000000000):zs1 n a (c:Int) [x]=some (a.take c++x::a.drop c):=by
 unfold zs1
 simp [h,hl]
theorem zyf (n:Nat)(t:Int)(ss:List Int)(hl:ss.length<=1100000)(K:List Sta->Option (List Sta)):∀ (m k:Nat) (cur:List Sta),k<=ss.length->ss.length<m+k->SS cur->cur.length+(ss.length-k)<=1100000->cur.length+(ss.length-k)<n->zbr n t ss K m ((k:Int),cur)=K ((ss.drop k).foldl (fun l s=>opS l s t) cur)
 |0,k,cur,h1,h2,h3,h4,h5=>by omega
 |m+1,k,cur,h1,h2,h3,h4,h5=>by
  unfold zbr
  simp only [length_map,z0c,z0y,z2k,z1d,zdg]
  by_cases h:k<ss.length
  ·rw [if_pos (by omega),z0j h,z0e ss k h,foldl_cons]
   have hop:=yan cur ss[k] t
   have ih:=zyf n t ss hl K m (k+1) (opS cur ss[k] t) (by omega) (by omega) (yhu h3 _ _) (by omega) (by omega)
   obtain ⟨i,hi,a1,a2⟩:=p_bs n cur ss[k] h3 (by omega) (by omega)
   rcases a2 with ⟨b1,b2⟩|⟨hk,b0,b1,b2⟩
   ·rw [b1,z04]
    simp only [z6e]
    rw [yr1 hi (by omega),zzp]
    have hlt:i<(cur.take i++(⟨ss[k],0⟩:Sta)::cur.drop i).length:=by simp;omega
    rw [zf1 hlt,y7i hlt,y1a hlt,z1o k (by omega)]
    have e:(cur.take i++(⟨ss[k],0⟩:Sta)::cur.drop i).set i (⟨(cur.take i++(⟨ss[k],0⟩:Sta)::cur.drop i)[i].fScope,t⟩:Sta)=opS cur ss[k] t:=by
     have hti:(cur.take i).length=i:=by rw [length_take];omega
     have g:(cur.take i++(⟨ss[k],0⟩:Sta)::cur.drop i)[i].fScope=ss[k]:=by
      rw [getElem_append_right (by omega)]
      simp [hti]
     rw [g,set_append_right _ _ (by omega),hti,Nat.sub_self,set_cons_zero]
     unfold opS
     rw [a1,b2]
    rw [e]
    exact ih
   ·rw [b1,z04]
    simp only [z6c]
    rw [zf1 hk,y7i hk,y1a hk,z1o k (by omega)]
    have e:cur.set i (⟨cur[i].fScope,t⟩:Sta)=opS cur ss[k] t:=by
     rw [set_eq_take_append_cons_drop,if_pos hk,b0,a1,b2]
     rfl
    rw [e]
    exact ih
  grind
def opL (l:List Sta)(ss:List Int)(t:Int):List Sta:=ss.foldl (fun l s=>opS l s t) l
theorem yky (n:Nat)(t:Int)(ss:List Int)(l:List Sta)(hs:SS l)(hl:l.length+ss.length<=1100000)(hn:1100000<n):zij n l ss t=some (opL l ss t):=by
 unfold zij zay
 rw [if_pos (by omega),zjq]
 have:=zyf n t ss (by omega) (fun y=>some y) n 0 l (Nat.zero_le _) (by omega) hs (by omega) (by omega)
 exact this
theorem ymo (t:Int):∀ (ss:List Int) {l:List Sta},SS l->SS (opL l ss t)
 |[],_,h=>h
 |s::ss,l,h=>ymo t ss (yhu h s t)
theorem y3d (t:Int):∀ (ss:List Int) (l:List Sta),(opL l ss t).length<=l.length+ss.length
 |[],l=>by simp [opL]
 |s::ss,l=>by
  have h1:=y3d t ss (opS l s t)
  have h2:=yan l s t
  have h3:opL l (s::ss) t=opL (opS l s t) ss t:=rfl
  rw [h3,length_cons];omega
theorem opL_mem (t:Int):∀ (ss:List Int) {l:List Sta} {x:Sta},x∈opL l ss t->(x.fScope∈ss/\x.fTime=t)\/x∈l
 |[],l,x,h=>Or.inr h
 |s::ss,l,x,h=>by
  rcases opL_mem t ss (l:=opS l s t) h with k|k
  ·simp_all
  ·rcases opS_mem k with q|q
   all_goals simp_all
theorem fidx_cases (p:α->Bool):∀ l:List α,(l.find? p=none/\fidx p l=-1)\/∃ i,∃ h:i<l.length,fidx p l=(i:Int)/\l.find? p=some l[i]
 |[]=>Or.inl ⟨rfl,rfl⟩
 |x::l=>by
  by_cases q:p x=true
  ·refine Or.inr ⟨0,by simp,?_,?_⟩
   ·unfold fidx;rw [findIdx?_cons,if_pos q]
   ·rw [find?_cons];simp [q]
  ·rcases fidx_cases p l with ⟨h1,h2⟩|⟨i,hi,h1,h2⟩
   ·refine Or.inl ⟨by rw [find?_cons];simp [q,h1],?_⟩
    unfold fidx at h2 ⊢
    grind
   ·refine Or.inr ⟨i+1,by simp;omega,?_,by rw [find?_cons];simp [q,h2]⟩
    unfold fidx at h1 ⊢
    grind
theorem zyg (n:Nat)(t:Int)(l:List Sta)(hl:l.length<=1100000)(hn:l.length<n)(xs:List Lim)(hx:xs.length<=1100000):∀ (m k:Nat),k<=xs.length->xs.length<m+k->zbs n t xs l (some true) m (k:Int)=some ((xs.drop k).all (keP l t))
 |0,k,h1,h2=>by omega
 |m+1,k,h1,h2=>by
  unfold zbs
  simp only [length_map,z0c,z2k,z1d,zdh,z6c]
  by_cases h:k<xs.length
  ·rw [if_pos (by omega),z0j h,z0e xs k h,all_cons,z1o k (by omega),zyg n t l hl hn xs hx m (k+1) (by omega) (by omega),y6z n _ (fun s=>decide (s.fScope=xs[k].fScope)) l (by omega) hn (fun s _=>rfl),z04]
   rcases fidx_cases (fun s:Sta=>decide (s.fScope=xs[k].fScope)) l with ⟨c1,c2⟩|⟨i,hi,c1,c2⟩
   ·rw [c2,if_pos (by omega)]
    unfold keP
    rw [c1];rfl
   ·rw [c1,if_neg (by omega),z0j hi]
    have e:keP l t xs[k]=decide (IntKind.wrap .i64 (t-l[i].fTime)<=xs[k].fSpan):=by unfold keP;rw [c2]
    grind
  ·rw [if_neg (by omega),drop_eq_nil_of_le (by omega)]
   rfl
theorem ykz (n:Nat)(t:Int)(l:List Sta)(hl:l.length<=1100000)(hn:1100000<n)(xs:List Lim)(hx:xs.length<=1100000):zik n l xs t=some (xs.all (keP l t)):=by
 have:=zyg n t l hl (by omega) xs hx n 0 (by omega) (by omega)
 unfold zik
 simp_all
def clP (cs:List Int)(x:Sta):Bool:=cs.any fun y=>decide (x.fScope=y)
theorem yo4 (n:Nat)(x:Ed)(hx:x.fCloses.length<=1100000)(hn:1100000<n)(s:Sta):z64 n s x=some (clP x.fCloses s):=by
 unfold z64
 rw [zrq n _ _ (by omega) (by omega),z04]
 rfl
theorem yl2 (n:Nat)(x:Ed)(hx:x.fCloses.length<=1100000)(hn:1100000<n)(s:Sta):z4h n s x=some (clP x.fCloses s,x):=by
 unfold z4h
 rw [zrq n _ _ (by omega) (by omega),z04]
 rfl
abbrev ncl (x:Ed)(s:Sta):Bool:=!clP x.fCloses s
theorem y3b (n:Nat)(x:Ed)(hx:x.fCloses.length<=1100000)(hn:1100000<n)(l:List Sta)(hl:l.length<=1100000)(K:Int->Int->Int->Int->Int->Int->List AV->Int->Int->Int->Int->Int->ByteArray->List Int->List Int->List AV->List z1g->List Int->List Sta->Option (List Sta×Ed))(r:Option (List Sta×Ed))
  (hK:∀ (i:Nat) (cur:List Sta),cur.length=l.length->i<=l.length->cur.take i=l.filter (ncl x)->K (i:Int) x.fFrom x.fTo x.fVar x.fType x.fCond.fOp x.fCond.fArgs x.fCond.fVar x.fCond.fField x.fCond.fKind x.fCond.fValue.fKind x.fCond.fValue.fNum x.fCond.fValue.fText x.fOpens x.fCloses x.fChecks x.fLimits x.fInside cur=r) :
  ∀ (m i j:Nat) (cur:List Sta),i<=j->j<=l.length->l.length<m+j->cur.length=l.length->cur.take i=(l.take j).filter (ncl x)->cur.drop j=l.drop j->z74 n K m ((i:Int),(j:Int),x.fFrom,x.fTo,x.fVar,x.fType,x.fCond.fOp,x.fCond.fArgs,x.fCond.fVar,x.fCond.fField,x.fCond.fKind,x.fCond.fValue.fKind,x.fCond.fValue.fNum,x.fCond.fValue.fText,x.fOpens,x.fCloses,x.fChecks,x.fLimits,x.fInside,cur)=r
 |0,i,j,cur,h0,h1,h3,h4,h5,h6=>by omega
 |m+1,i,j,cur,h0,h1,h3,h4,h5,h6=>by
  unfold z74
  simp only [length_map,z0c]
  by_cases h:j<l.length
  ·have hc:j<cur.length:=by omega
   rw [if_pos (by omega),zf1 hc,zid hc,z1o i (by omega),z1o j (by omega)]
   have e2:z4h n cur[j] (⟨x.fFrom,x.fTo,x.fVar,x.fType,⟨x.fCond.fOp,x.fCond.fArgs,x.fCond.fVar,x.fCond.fField,x.fCond.fKind,⟨x.fCond.fValue.fKind,x.fCond.fValue.fNum,x.fCond.fValue.fText⟩⟩,x.fOpens,x.fCloses,x.fChecks,x.fLimits,x.fInside⟩:Ed)=some (clP x.fCloses cur[j],x):=yl2 n x hx hn cur[j]
   rw [e2,z8n]
   simp only
   have hcj:cur[j]=l[j]:=by
    have:=congrArg (fun q=>q[0]?) h6
    simp only [getElem?_drop,Nat.add_zero,getElem?_eq_getElem hc,getElem?_eq_getElem h,Option.some.injEq] at this
    exact this
   have hd:cur.drop (j+1)=l.drop (j+1):=by
    have:=congrArg List.tail h6
    simpa using this
   have ht:(l.take (j+1)).filter (ncl x)=(l.take j).filter (ncl x)++(if ncl x l[j]=true then [l[j]] else []):=by
    rw [take_succ_eq_append_getElem h,filter_append,filter_cons]
    rfl
   rw [hcj]
   cases hk:clP x.fCloses l[j] with
   |false =>
    have hi:i<cur.length:=by omega
    simp only [Bool.not_false,z6c]
    rw [zf1 hi,y1a hi]
    have hk':ncl x l[j]=true:=by unfold ncl;rw [hk];rfl
    rw [hk'] at ht
    refine y3b n x hx hn l hl K r hK m (i+1) (j+1) _ (by omega) (by omega) (by omega) (by simp [h4]) ?_ ?_
    ·rw [ht,if_pos rfl,<-h5,take_succ_eq_append_getElem (by simpa using hi)]
     simp [take_set_of_le]
    ·rw [<-hd,drop_set_of_lt (by omega)]
   |true =>
    simp only [Bool.not_true,z6e]
    have hk':ncl x l[j]=false:=by unfold ncl;rw [hk];rfl
    rw [hk'] at ht
    exact y3b n x hx hn l hl K r hK m i (j+1) _ (by omega) (by omega) (by omega) h4 (by rw [ht,h5];simp) hd
  grind
theorem yl1 (n:Nat)(x:Ed)(hx:x.fCloses.length<=1100000)(hn:1100000<n)(l:List Sta)(hl:l.length<=1100000):zdf n x l=some (l.filter (ncl x),x):=by
 unfold zdf
 rw [y6y n x (clP x.fCloses) l (by omega) (by omega) (fun s _=>yo4 n x hx hn s),z04]
 rcases fidx_cases (clP x.fCloses) l with ⟨c1,c2⟩|⟨i,hi,c1,c2⟩
 ·rw [c2,z0c,if_pos rfl,filter_eq_self.2 (fun s hs=>?_)]
  simp_all
 ·rw [c1,z0c,if_neg (by omega),z1o i (by omega)]
  have hpre:∀ s∈l.take i,ncl x s=true:=fun s hs=>by
   obtain ⟨k,hk,rfl⟩:=mem_iff_getElem.1 hs
   rw [length_take] at hk
   rw [getElem_take]
   have h3:l.findIdx? (clP x.fCloses)=some i:=by
    unfold fidx at c1
    cases hf:l.findIdx? (clP x.fCloses) with
    |none=>simp_all
    |some j=>grind
   have:=(findIdx?_eq_some_iff_getElem.1 h3).2.2 k (by omega)
   simpa [ncl] using this
  have hno:ncl x l[i]=false:=by
   have:=find?_some c2
   simp [ncl,this]
  refine y3b n x hx hn l hl _ _ (fun q cur hc hq ht=>?_) n i (i+1) l (by omega) (by omega) (by omega) rfl ?_ rfl
  ·simp only [length_map]
   rw [zyn (by omega),yj5 (by omega)]
   have hlen:=y4v cur q (⟨0,0⟩:Sta) (by omega)
   have:=zmq (l:=clrL cur q (⟨0,0⟩:Sta)) (a:=0) (b:=q) (by omega) (by omega) (fun x63=>some (x63,x))
   refine this.trans ?_
   rw [drop_zero,zzj cur q _ (by omega),ht]
  ·rw [take_succ_eq_append_getElem hi,filter_append,filter_eq_self.2 hpre]
   simp [hno]
theorem yrj (cs:List Int):∀ l:List Sta,cs.foldl clS l=l.filter (fun s=>!clP cs s):=by
 induction cs with
 |nil=>intro l;exact (filter_eq_self.2 (fun _ _=>rfl)).symm
 |cons c cs ih =>
  intro l
  rw [foldl_cons,ih]
  unfold clS
  rw [filter_filter]
  refine filter_congr (fun s _=>?_)
  unfold clP
  grind
end Go.Proofs.YtidhlpjgifoneaaGreat
