/- Layers 17 and 25, plainly: looking up events, environments of bindings, guards. Layer 25, plainly: starts of scopes: opened, closed, kept. -/
import Derived.Test.YtjpknpjjcddnnaaGreatK24
set_option linter.unusedVariables false
set_option linter.unusedSimpArgs false
namespace Go.Proofs.YtjpknpjjcddnnaaGreat
open Go.RowKit
abbrev Rf:=z13
abbrev N0:Nat:=2000000000
abbrev ev0:Ev:=⟨0,0,0,0,[]⟩
theorem mgv_eq {κ ν β:Type}[DecidableEq κ](l:List (κ×ν))(k:κ)(z:ν)(c:ν->Bool->Option β):mgv l k z c=c ((mlk l k).getD z) (mlk l k).isSome:=by unfold mgv;rfl
theorem mkn_ok {β:Type}{n:Int}(h0:0<=n)(h:n<=1000)(k:Nat->Option β):mkn n 24 k=k n.toNat:=by unfold mkn;rw [if_pos ⟨h0,by omega,by omega⟩]
theorem nst_eq {β:Type}(i:Nat)(x:Option β):nst i x=x:=by unfold nst;rfl
theorem frr_eq {β:Type}(i:Nat)(x:Option β):frr i x=x:=by unfold frr;rfl
theorem ncx_ok {β:Type}{n:Int}{len:Nat}(h0:0<=n)(h:n.toNat<len)(x:Option β):ncx n len x=x:=by unfold ncx;rw [if_pos ⟨h0,h⟩]
theorem ntk_ok {α β:Type}{l:List (List α)}{k:Nat}(h:k<l.length)(c:List α->Option β):ntk l k c=c (l.getD k []):=by unfold ntk;simp [h]
theorem npt_ok {α β:Type}{l:List (List α)}{k:Nat}(h:k<l.length)(v:List α)(c:List (List α)->Option β):npt l k v c=c (l.set k v):=by unfold npt;rw [if_pos h]
theorem chk_zero:∀ (l p:List Ev),chk p l=0->(∀ e∈l,zas e=true)/\Str zia l/\(∀ h t,p=h::t->∀ e∈l,zia h e<0)
 |[],p,_=>⟨by simp,by simp [Str],by simp⟩
 |e::l,p,h=>by
  unfold chk at h
  split at h
  ·cases h
  split at h
  ·cases h
  split at h
  ·cases h
  rename_i h1 h2 h3
  obtain ⟨a1,a2,a3⟩:=chk_zero l (e::p) h
  have h4:=a3 e p rfl
  refine ⟨fun x hx=>?_,List.pairwise_cons.2 ⟨h4,a2⟩,fun q t hq x hx=>?_⟩
  ·rcases List.mem_cons.1 hx with k|k
   ·rw [k];simpa using h1
   ·exact a1 x k
  ·have h5:zia q e<0:=by
    subst hq
    simp only [headGe] at h2
    simpa using h2
   rcases List.mem_cons.1 hx with k|k
   ·rw [k];exact h5
   ·exact rCmp_to.trans _ _ _ h5 (h4 x k)
structure StrOk (l:List Ev):Prop where
 pl:∀ e∈l,zas e=true
 st:Str zia l
 ln:l.length<=4096
theorem y09 {l:List Ev}(h:zmx l=0):StrOk l:=by
 unfold zmx at h
 split at h
 ·cases h
 ·obtain ⟨a,b,_⟩:=chk_zero l [] h
  exact ⟨a,b,by omega⟩
def lkH (held:List Ev)(r:Rf):Option Ev:=held.find? (fun e=>decide (z9z e=r))
theorem lkH_ref {held:List Ev}{r:Rf}{e:Ev}(h:lkH held r=some e):z9z e=r/\e∈held:=by
 have h1:=List.find?_some h
 exact ⟨by simpa using h1,List.mem_of_find?_eq_some h⟩
theorem lkH_mem {held:List Ev}(h:Str zia held){e:Ev}(he:e∈held):lkH held (z9z e)=some e:=by
 unfold lkH
 induction held with
 |nil=>simp at he
 |cons x l ih =>
  obtain ⟨h1,h2⟩:=List.pairwise_cons.1 h
  rw [List.find?_cons]
  rcases List.mem_cons.1 he with k|k
  ·rw [k];simp
  ·have:z9z x≠z9z e:=fun q=>rCmp_to.lt_ne (h1 e k) q
   simp only [this,decide_false]
   exact ih h2 k
theorem p_event_l1 (n:Nat)(r:Rf)(l:List Ev)(hl:l.length<=1000000):∀ (m k:Nat),k<=l.length->l.length<m+k->z69 n r l (some (ev0,false)) m (k:Int)=some (match lkH (l.drop k) r with|some e=>(e,true)|none=>(ev0,false))
 |0,k,h1,h2=>by omega
 |m+1,k,h1,h2=>by
  unfold z69
  simp only [List.length_map,z0o]
  by_cases h:k<l.length
  ·rw [if_pos (by omega),z0s h,z0g l k h,z2n k (by omega),p_event_l1 n r l hl m (k+1) (by omega) (by omega),p_ref,z09,z0s h]
   have:(decide (l[k].fTime=r.fTime) && (decide (l[k].fSource=r.fSource) && (decide (l[k].fSeq=r.fSeq) && true)))=decide (z9z l[k]=r):=by
    cases r;simp [z9z]
   rw [this,z0o]
   unfold lkH
   rw [List.find?_cons]
   by_cases q:z9z l[k]=r
   ·simp [q]
   ·simp [q]
  ·rw [if_neg (by omega),List.drop_eq_nil_of_le (by omega)]
   rfl
theorem p_event (n:Nat)(r:Rf)(l:List Ev)(hl:l.length<=1000000)(hn:l.length<n):z9p n l r=some (match lkH l r with|some e=>(e,true)|none=>(ev0,false)):=by
 have:=p_event_l1 n r l hl n 0 (by omega) (by omega)
 unfold z9p
 simpa only [Int.natCast_zero,List.drop_zero] using this
def HM (held:List Ev)(mp:List (Rf×Ev)):Prop:=∀ r,mlk mp r=lkH held r
theorem hm_fold (r:Rf):∀ (l:List Ev) (m:List (Rf×Ev)),Str zia l->mlk (l.foldl (fun m e=>mput m (z9z e) e) m) r=(lkH l r).or (mlk m r)
 |[],m,_=>by simp [lkH]
 |e::l,m,h=>by
  obtain ⟨h1,h2⟩:=List.pairwise_cons.1 h
  rw [List.foldl_cons,hm_fold r l _ h2,mlk_mput]
  unfold lkH
  rw [List.find?_cons]
  by_cases q:z9z e=r
  ·have:lkH l r=none:=by
    unfold lkH
    rw [List.find?_eq_none]
    intro x hx hq
    simp only [decide_eq_true_eq] at hq
    exact rCmp_to.lt_ne (h1 x hx) (by rw [q,hq])
   unfold lkH at this
   rw [this]
   simp [q]
  ·have:¬r=z9z e:=fun k=>q k.symm
   simp [q,this]
def addB (held:List Ev)(vs:List (List Ev))(b:Bd):List (List Ev):=match lkH held b.fRef with|some e=>(if 0<=b.fVar/\b.fVar.toNat<vs.length then vs.set b.fVar.toNat (vs.getD b.fVar.toNat []++[e]) else vs)|none=>vs
def bndV (held:List Ev)(m:Nat)(l:List Bd):List (List Ev):=l.foldl (addB held) (List.replicate m [])
def ev1 (held:List Ev)(l:List Bd)(v:Int):List Ev:=l.filterMap (fun b=>if b.fVar=v then lkH held b.fRef else none)
theorem addB_len (held:List Ev)(vs:List (List Ev))(b:Bd):(addB held vs b).length=vs.length:=by
 unfold addB;split
 ·split
  ·simp
  ·rfl
 ·rfl
theorem addB_mem {held:List Ev}{vs:List (List Ev)}{b:Bd}{k:Nat}(h:∀ q∈vs,q.length<=k):∀ q∈addB held vs b,q.length<=k+1:=by
 unfold addB
 intro q hq
 split at hq
 ·split at hq
  ·rename_i h1
   rcases List.mem_or_eq_of_mem_set hq with h2|h2
   ·have:=h q h2;omega
   ·rw [h2]
    have:(vs.getD b.fVar.toNat []).length<=k:=by
     rw [List.getD_eq_getElem?_getD,List.getElem?_eq_getElem h1.2,Option.getD_some]
     exact h _ (List.getElem_mem _)
    simp only [List.length_append,List.length_singleton];omega
  ·have:=h q hq;omega
 ·have:=h q hq;omega
theorem foldB_len (held:List Ev):∀ (l:List Bd) (vs:List (List Ev)),(l.foldl (addB held) vs).length=vs.length
 |[],vs=>rfl
 |b::l,vs=>by rw [List.foldl_cons,foldB_len held l,addB_len]
theorem zta (held:List Ev)(m:Nat)(l:List Bd):(bndV held m l).length=m:=by unfold bndV;rw [foldB_len];simp
theorem addB_get (held:List Ev)(vs:List (List Ev))(b:Bd)(i:Nat)(hi:i<vs.length):(addB held vs b).getD i []=vs.getD i []++(if b.fVar=(i:Int) then lkH held b.fRef else none).toList:=by
 unfold addB
 cases lkH held b.fRef with
 |none=>simp
 |some e =>
  simp only
  by_cases h:b.fVar=(i:Int)
  ·have h2:0<=b.fVar/\b.fVar.toNat<vs.length:=by omega
   have h3:b.fVar.toNat=i:=by omega
   rw [if_pos h2,if_pos h,h3]
   simp [List.getD_eq_getElem?_getD,hi]
  ·rw [if_neg h]
   split
   ·have h3:b.fVar.toNat≠i:=by omega
    simp [List.getD_eq_getElem?_getD,List.getElem?_set,h3]
   ·simp
theorem foldB_get (held:List Ev)(i:Nat):∀ (l:List Bd) (vs:List (List Ev)),i<vs.length->(l.foldl (addB held) vs).getD i []=vs.getD i []++ev1 held l (i:Int)
 |[],vs,hi=>by simp [ev1]
 |b::l,vs,hi=>by
  rw [List.foldl_cons,foldB_get held i l _ (by rw [addB_len];exact hi),addB_get held vs b i hi]
  unfold ev1
  rw [List.filterMap_cons]
  cases (if b.fVar=(i:Int) then lkH held b.fRef else none)<;>simp
theorem zyw (held:List Ev)(m:Nat)(l:List Bd)(v:Int):evs (bndV held m l) v=if 0<=v/\v<(m:Int) then ev1 held l v else []:=by
 unfold evs
 rw [zta]
 by_cases h1:v<0
 ·rw [if_pos h1,if_neg (by omega)]
 rw [if_neg h1]
 by_cases h2:(m:Int)<=v
 ·rw [if_pos h2,if_neg (by omega)]
 rw [if_neg h2,if_pos (by omega)]
 unfold bndV
 rw [foldB_get held v.toNat l _ (by simp;omega)]
 have:((v.toNat:Nat):Int)=v:=by omega
 rw [this]
 have h0:(List.replicate m ([]:List Ev)).getD v.toNat []=[]:=by
  rw [List.getD_eq_getElem?_getD,List.getElem?_replicate]
  split<;>rfl
 rw [h0,List.nil_append]
theorem ev1_len (held:List Ev)(l:List Bd)(v:Int):(ev1 held l v).length<=l.length:=List.length_filterMap_le _ _
theorem ev1_none {held:List Ev}{l:List Bd}{v:Int}(h:∀ b∈l,b.fVar≠v):ev1 held l v=[]:=by
 unfold ev1
 rw [List.filterMap_eq_nil_iff]
 intro b hb
 rw [if_neg (h b hb)]
abbrev enH (held:List Ev)(l:List Bd):List (List Ev):=bndV held 16 l
theorem enH_len {held:List Ev}{l:List Bd}(h:l.length<=1000000)(v:Int):(evs (enH held l) v).length<=1000000:=by
 rw [zyw]
 split
 ·have:=ev1_len held l v;omega
 ·simp
theorem p_bound_l1 (n:Nat)(held:List Ev)(hh:held.length<=1000000)(hn:1000000<n)(x:Nat)(hx:x<=16)(l:List Bd)(hl:l.length<=1000000)(K:List (List Ev)->Option z0h):∀ (m k:Nat) (vs:List (List Ev)),k<=l.length->l.length<m+k->vs.length=x->(∀ q∈vs,q.length<=k)->z1n n l (x:Int) held x K m ((k:Int),vs)=K ((l.drop k).foldl (addB held) vs)
 |0,k,vs,h1,h2,h3,h4=>by omega
 |m+1,k,vs,h1,h2,h3,h4=>by
  unfold z1n
  simp only [List.length_map,z0o]
  by_cases h:k<l.length
  ·rw [if_pos (by omega),z0s h,z0g l k h,z2n k (by omega),p_event n _ held hh (by omega),z09,z1r,List.foldl_cons]
   have hr:(⟨l[k].fRef.fTime,l[k].fRef.fSource,l[k].fRef.fSeq⟩:Rf)=l[k].fRef:=rfl
   rw [hr]
   have ih:∀ vs',vs'=addB held vs l[k]->z1n n l (x:Int) held x K m (((k+1:Nat):Int),vs')=K ((l.drop (k+1)).foldl (addB held) (addB held vs l[k])):=fun vs' hv=>by
    subst hv
    exact p_bound_l1 n held hh hn x hx l hl K m (k+1) _ (by omega) (by omega) (by rw [addB_len];exact h3) (addB_mem h4)
   cases hq:lkH held l[k].fRef with
   |none =>
    simp only [z8k]
    exact ih vs (by unfold addB;rw [hq])
   |some e =>
    simp only [z80]
    by_cases q1:0<=l[k].fVar
    ·rw [if_pos q1]
     by_cases q2:l[k].fVar<(x:Int)
     ·rw [if_pos q2,ncx_ok q1 (by omega),ntk_ok (by omega)]
      have hl2:(vs.getD l[k].fVar.toNat []).length<=k:=by
       rw [List.getD_eq_getElem?_getD,List.getElem?_eq_getElem (by omega),Option.getD_some]
       exact h4 _ (List.getElem_mem _)
      rw [zau (by simp only [List.length_singleton];omega) (by omega),ncx_ok q1 (by omega),npt_ok (by omega)]
      exact ih _ (by unfold addB;rw [hq];simp only;rw [if_pos ⟨q1,by omega⟩])
     ·rw [if_neg q2]
      exact ih vs (by unfold addB;rw [hq];simp only;rw [if_neg (by omega)])
    ·rw [if_neg q1]
     exact ih vs (by unfold addB;rw [hq];simp only;rw [if_neg (by omega)])
  ·rw [if_neg (by omega),List.drop_eq_nil_of_le (by omega)]
   rfl
theorem p_renv (n:Nat)(hn:1000000<n)(held:List Ev)(hh:held.length<=1000000)(c:Cf)(hl:c.fBindings.length<=1000000):z7x n held c=some ⟨enH held c.fBindings⟩:=by
 unfold z7x zc4
 rw [mkn_ok (by omega) (by omega),nst_eq,z1r]
 have:=p_bound_l1 n held hh hn 16 (by omega) c.fBindings hl (fun k1_0_0y=>frr 13 <| reg <| some ⟨k1_0_0y⟩) n 0 (List.replicate 16 []) (by omega) (by omega) (by simp) (by simp)
 simp only [Int.natCast_zero] at this
 have h16:Int.toNat 16=16:=rfl
 have h16':((16:Nat):Int)=16:=rfl
 rw [h16]
 rw [h16'] at this
 rw [this,frr_eq,z1r,z09]
 rfl
def BdOk (held:List Ev)(x:Int)(l:List Bd):Prop:=∀ b∈l,(0<=b.fVar/\b.fVar<x)/\(lkH held b.fRef).isSome=true
theorem p_env_l1 (n:Nat)(held:List Ev)(r:z0i)(hm:HM held r.fheld)(x:Nat)(hx:x<=16)(l:List Bd)(hl:l.length<=1000000)(hb:BdOk held (x:Int) l)(K:List (List Ev)->Option z0h):∀ (m k:Nat) (vs:List (List Ev)),k<=l.length->l.length<m+k->vs.length=x->(∀ q∈vs,q.length<=k)->z8v n l r x K m ((k:Int),vs)=K ((l.drop k).foldl (addB held) vs)
 |0,k,vs,h1,h2,h3,h4=>by omega
 |m+1,k,vs,h1,h2,h3,h4=>by
  unfold z8v
  simp only [List.length_map,z0o]
  by_cases h:k<l.length
  ·obtain ⟨⟨q1,q2⟩,q3⟩:=hb _ (List.getElem_mem h)
   obtain ⟨e,hq⟩:=Option.isSome_iff_exists.1 q3
   have hr:(⟨l[k].fRef.fTime,l[k].fRef.fSource,l[k].fRef.fSeq⟩:Rf)=l[k].fRef:=rfl
   have hl2:(vs.getD l[k].fVar.toNat []).length<=k:=by
    rw [List.getD_eq_getElem?_getD,List.getElem?_eq_getElem (by omega),Option.getD_some]
    exact h4 _ (List.getElem_mem _)
   rw [if_pos (by omega),z0s h,z0g l k h,z2n k (by omega),List.foldl_cons,ncx_ok q1 (by omega),ntk_ok (by omega),hr,mgv_eq,hm,hq,Option.getD_some,zau (by simp only [List.length_singleton];omega) (by omega),ncx_ok q1 (by omega),npt_ok (by omega)]
   have ha:addB held vs l[k]=vs.set l[k].fVar.toNat (vs.getD l[k].fVar.toNat []++[e]):=by
    unfold addB;rw [hq];simp only;rw [if_pos ⟨q1,by omega⟩]
   rw [<-ha]
   exact p_env_l1 n held r hm x hx l hl hb K m (k+1) _ (by omega) (by omega) (by rw [addB_len];exact h3) (addB_mem h4)
  ·rw [if_neg (by omega),List.drop_eq_nil_of_le (by omega)]
   rfl
theorem p_env (n:Nat)(hn:1000000<n)(held:List Ev)(r:z0i)(hm:HM held r.fheld)(hv:0<=r.fa.fVars/\r.fa.fVars<=16)(l:List Bd)(hl:l.length<=1000000)(hb:BdOk held r.fa.fVars l):zd1 n r l=some ⟨bndV held r.fa.fVars.toNat l⟩:=by
 unfold zd1
 rw [mkn_ok hv.1 (by omega),nst_eq,z1r]
 have hx:((r.fa.fVars.toNat:Nat):Int)=r.fa.fVars:=by omega
 have:=p_env_l1 n held r hm r.fa.fVars.toNat (by omega) l hl (by rw [hx];exact hb) (fun k1_0_0y=>frr 13 <| reg <| some ⟨k1_0_0y⟩) n 0 (List.replicate r.fa.fVars.toNat []) (by omega) (by omega) (by simp) (by simp)
 simp only [Int.natCast_zero] at this
 rw [this,frr_eq,z1r]
 rfl
def EvEq (a b:List (List Ev)):Prop:=∀ v,evs a v=evs b v
theorem env_eq {held:List Ev}{x:Int}(hv:0<=x/\x<=16){l:List Bd}(hb:BdOk held x l):EvEq (enH held l) (bndV held x.toNat l):=fun v=>by
 rw [zyw,zyw]
 by_cases h:0<=v/\v<x
 ·rw [if_pos (by omega),if_pos (by omega)]
 ·rw [if_neg (by omega:¬(0<=v/\v<((x.toNat:Nat):Int)))]
  split
  ·exact ev1_none (fun b hb' q=>by have:=(hb b hb').1;omega)
  ·rfl
def EvS (a:List (List Ev)):Prop:=∀ v,(evs a v).length<=1000000
def trR (a:List (List Ev))(e:Exn)(own:Int)(ev:Ev):Bool:=(z2h N0 e ⟨a⟩ own ev).getD false
theorem trR_p {a b:List (List Ev)}(hab:EvEq a b)(hs:EvS a){e:Exn}(hw:WfE e)(own:Int)(ev:Ev):z2h N0 e ⟨a⟩ own ev=some (trR a e own ev)/\zdd N0 e ⟨b⟩ own ev=some (trR a e own ev):=by
 obtain ⟨z,hz,ht⟩:=hw
 obtain ⟨r,r1,r2⟩:=p_truth a b hab hs own ev z e ht hz N0 (by decide)
 have:trR a e own ev=r:=by unfold trR;rw [r1];rfl
 rw [this]
 exact ⟨r1,r2⟩
def vio (a:List (List Ev))(e:Ev)(g:Gd):Bool:=decide (g.fType=e.fType) && trR a g.fCond g.fVar e
theorem p_rviol {a:List (List Ev)}(hs:EvS a){g:Gd}(hw:WfE g.fCond)(e:Ev):z63 N0 g ⟨a⟩ e=some (vio a e g):=by
 unfold z63 vio
 simp only [z2s,z1r,z2l,z0o]
 have:=(trR_p (fun v=>rfl:EvEq a a) hs hw g.fVar e).1
 rw [this,z09]
 by_cases h:g.fType=e.fType<;>simp [h]
theorem p_viol {a b:List (List Ev)}(hab:EvEq a b)(hs:EvS a){g:Gd}(hw:WfE g.fCond)(e:Ev):zdw N0 g ⟨b⟩ e=some (vio a e g):=by
 unfold zdw vio
 simp only [z2s,z1r,z9e,z0o]
 have:=(trR_p hab hs hw g.fVar e).2
 rw [this,z09]
 by_cases h:g.fType=e.fType<;>simp [h]
end Go.Proofs.YtjpknpjjcddnnaaGreat
namespace Go.Proofs.YtjpknpjjcddnnaaGreat
open Go.RowKit
abbrev Lim:=z0z
def SS (l:List Sta):Prop:=l.Pairwise (fun x y=>x.fScope<y.fScope)
def opS (l:List Sta)(s t:Int):List Sta:=l.filter (fun x=>decide (x.fScope<s))++(⟨s,t⟩:Sta)::l.filter (fun x=>decide (s<x.fScope))
def clS (l:List Sta)(s:Int):List Sta:=l.filter (fun x=>!decide (x.fScope=s))
theorem opS_mem {l:List Sta}{s t:Int}{x:Sta}(h:x∈opS l s t):x=⟨s,t⟩\/x∈l:=by
 unfold opS at h
 rcases List.mem_append.1 h with h|h
 ·exact Or.inr (List.mem_filter.1 h).1
 ·rcases List.mem_cons.1 h with h|h
  ·exact Or.inl h
  ·exact Or.inr (List.mem_filter.1 h).1
theorem opS_ss {l:List Sta}(h:SS l)(s t:Int):SS (opS l s t):=by
 unfold opS SS
 rw [List.pairwise_append]
 refine ⟨h.filter _,List.pairwise_cons.2 ⟨fun x hx=>by simpa using (List.mem_filter.1 hx).2,h.filter _⟩,fun x hx y hy=>?_⟩
 have h1:x.fScope<s:=by simpa using (List.mem_filter.1 hx).2
 rcases List.mem_cons.1 hy with k|k
 ·rw [k];exact h1
 ·have:s<y.fScope:=by simpa using (List.mem_filter.1 k).2
  omega
theorem opS_len (l:List Sta)(s t:Int):(opS l s t).length<=l.length+1:=by
 unfold opS
 rw [List.length_append,List.length_cons]
 induction l with
 |nil=>simp
 |cons x l ih =>
  rw [List.filter_cons,List.filter_cons]
  by_cases h1:x.fScope<s
  ·have h2:¬s<x.fScope:=by omega
   simp only [h1,h2,decide_true,decide_false,if_true,List.length_cons]
   simp only [Bool.false_eq_true,if_false]
   omega
  ·by_cases h2:s<x.fScope
   ·simp only [h1,h2,decide_true,decide_false,if_true,List.length_cons,Bool.false_eq_true,if_false]
    omega
   ·simp only [h1,h2,decide_false,List.length_cons,Bool.false_eq_true,if_false]
    omega
theorem split_at {l:List Sta}(h:SS l){s:Int}{i:Nat}(hi:i<=l.length)(h1:∀ k (hk:k<l.length),k<i->l[k].fScope<s)(h2:∀ hk:i<l.length,¬l[i].fScope<s):l.take i=l.filter (fun x=>decide (x.fScope<s))/\((∀ hk:i<l.length,l[i].fScope≠s)->l.drop i=l.filter (fun x=>decide (s<x.fScope)))/\(∀ hk:i<l.length,l[i].fScope=s->l.drop (i+1)=l.filter (fun x=>decide (s<x.fScope))):=by
 have t1:∀ x∈l.take i,x.fScope<s:=fun x hx=>by
  obtain ⟨k,hk,rfl⟩:=List.mem_iff_getElem.1 hx
  rw [List.length_take] at hk
  rw [List.getElem_take]
  exact h1 k (by omega) (by omega)
 have d0:∀ hk:i<l.length,∀ x∈l.drop (i+1),l[i].fScope<x.fScope:=fun hk x hx=>by
  have:=h.drop (i:=i)
  rw [z0g l i hk] at this
  exact (List.pairwise_cons.1 this).1 x hx
 have d1:∀ x∈l.drop i,s<=x.fScope:=fun x hx=>by
  by_cases hk:i<l.length
  ·rw [z0g l i hk] at hx
   have:=h2 hk
   rcases List.mem_cons.1 hx with q|q
   ·rw [q];omega
   ·have:=d0 hk x q;omega
  ·rw [List.drop_eq_nil_of_le (by omega)] at hx;simp at hx
 have f:∀ p:Sta->Bool,l.filter p=(l.take i).filter p++(l.drop i).filter p:=fun p=>by rw [<-List.filter_append,List.take_append_drop]
 refine ⟨?_,fun hne=>?_,fun hk he=>?_⟩
 ·rw [f,List.filter_eq_self.2 (fun x hx=>by simpa using t1 x hx),List.filter_eq_nil_iff.2 (fun x hx=>by have:=d1 x hx;simp;omega),List.append_nil]
 ·rw [f,List.filter_eq_nil_iff.2 (fun x hx=>by have:=t1 x hx;simp;omega),List.nil_append,List.filter_eq_self.2 (fun x hx=>?_)]
  by_cases hk:i<l.length
  ·rw [z0g l i hk] at hx
   have:=h2 hk
   have:=hne hk
   simp only [decide_eq_true_eq]
   rcases List.mem_cons.1 hx with q|q
   ·rw [q];omega
   ·have:=d0 hk x q;omega
  ·rw [List.drop_eq_nil_of_le (by omega)] at hx;simp at hx
 ·rw [f,List.filter_eq_nil_iff.2 (fun x hx=>by have:=t1 x hx;simp;omega),List.nil_append,z0g l i hk,List.filter_cons,if_neg (by simp;omega),List.filter_eq_self.2 (fun x hx=>by have:=d0 hk x hx;simp;omega)]
theorem y0c (n:Nat)(s:Int)(l:List Sta)(hl:l.length<=1100000)(K:List Sta->Option (List Sta)):∀ (m k:Nat) (out:List Sta),k<=l.length->l.length<m+k->out.length<=k->z3c n s l K m ((k:Int),out)=K (out++(l.drop k).filter (fun x=>!decide (x.fScope=s)))
 |0,k,out,h1,h2,h3=>by omega
 |m+1,k,out,h1,h2,h3=>by
  unfold z3c
  simp only [List.length_map,z0o,z0w]
  by_cases h:k<l.length
  ·have i1:=y0c n s l hl K m (k+1) (out++[l[k]]) (by omega) (by omega) (by simp only [List.length_append,List.length_singleton];omega)
   have i2:=y0c n s l hl K m (k+1) out (by omega) (by omega) (by omega)
   rw [if_pos (by omega),z1r,z0s h,z0s h,z0g l k h,z2n k (by omega),zau (by simp only [List.length_singleton];omega) (by omega),i1,i2,List.filter_cons]
   by_cases q:l[k].fScope=s
   ·simp [q]
   ·simp [q]
  ·rw [if_neg (by omega),List.drop_eq_nil_of_le (by omega)]
   simp
theorem p_closed (n:Nat)(s:Int)(l:List Sta)(hl:l.length<=1100000)(hn:l.length<n):z7f n l s=some (clS l s):=by
 have:=y0c n s l hl (fun y=>some y) n 0 [] (by omega) (by omega) (by simp)
 unfold z7f clS
 simpa only [Int.natCast_zero,List.drop_zero,List.nil_append] using this
theorem p_ropened_l1 (n:Nat)(s t:Int)(l:List Sta)(hl:l.length<=1100000)(K:List Sta->Int->List Sta->Option (List Sta))(r:Option (List Sta))
  (hK:∀ i:Nat,i<=l.length->(∀ k (hk:k<l.length),k<i->l[k].fScope<s)->(∀ hk:i<l.length,¬l[i].fScope<s)->K l (i:Int) (l.take i)=r) :
  ∀ (m k:Nat),k<=l.length->l.length<m+k->(∀ j (hj:j<l.length),j<k->l[j].fScope<s)->z2e n t s l K m ((k:Int),l.take k)=r
 |0,k,h1,h2,h3=>by omega
 |m+1,k,h1,h2,h3=>by
  unfold z2e
  simp only [List.length_map,z0o,z2s,z1r,z3b]
  by_cases h:k<l.length
  ·rw [if_pos (by omega),z0s h]
   by_cases q:l[k].fScope<s
   ·rw [if_pos q,z0s h,zau (by simp only [List.length_singleton,List.length_take];omega) (by omega),z2n k (by omega),<-List.take_succ_eq_append_getElem h]
    exact p_ropened_l1 n s t l hl K r hK m (k+1) (by omega) (by omega) (fun j hj hjk=>by
     by_cases e:j=k
     ·subst e;exact q
     ·exact h3 j hj (by omega))
   ·rw [if_neg q]
    exact hK k h1 h3 (fun _=>q)
  ·rw [if_neg (by omega),z8k]
   exact hK k h1 h3 (fun hk=>absurd hk h)
theorem clS_ss {l:List Sta}(h:SS l)(s:Int):SS (clS l s):=h.filter _
theorem clS_len (l:List Sta)(s:Int):(clS l s).length<=l.length:=List.length_filter_le _ _
theorem p_ropened (n:Nat)(s t:Int)(l:List Sta)(hs:SS l)(hl:l.length<=1100000)(hn:l.length<n):z92 n l s t=some (opS l s t):=by
 unfold z92
 rw [p_closed n s l hl hn,z09]
 have hc:=clS_len l s
 refine p_ropened_l1 n s t (clS l s) (by omega) _ _ (fun i hi h1 h2=>?_) n 0 (by omega) (by omega) (fun j _ hj=>by omega)
 obtain ⟨a1,a2,_⟩:=split_at (clS_ss hs s) hi h1 h2
 have hne:∀ hk:i<(clS l s).length,(clS l s)[i].fScope≠s:=fun hk=>by
  have:=(List.mem_filter.1 (List.getElem_mem hk)).2
  simpa using this
 have:=zwl (l:=clS l s) hi (Nat.le_refl _) (fun x46=>app ((clS l s).take i++[⟨s,t⟩]) x46 16 fun x47=>some x47)
 rw [zau (by simp only [List.length_singleton,List.length_take];omega) (by omega)]
 simp only [List.length_map]
 rw [this,List.take_length,zau (by simp only [List.length_append,List.length_singleton,List.length_take,List.length_drop];omega) (by omega),a1,a2 hne]
 unfold opS clS
 rw [List.filter_filter,List.filter_filter,List.append_assoc]
 congr 2
 ·refine List.filter_congr (fun x _=>?_)
  by_cases q:x.fScope<s
  ·have:x.fScope≠s:=by omega
   simp [q,this]
  ·simp [q]
 ·rw [List.singleton_append]
  congr 1
  refine List.filter_congr (fun x _=>?_)
  by_cases q:s<x.fScope
  ·have:x.fScope≠s:=by omega
   simp [q,this]
  ·simp [q]
def keP (l:List Sta)(t:Int)(x:Lim):Bool:=match l.find? (fun s=>decide (s.fScope=x.fScope)) with|some s=>decide (IntKind.wrap .i64 (t-s.fTime)<=x.fSpan)|none=>false
theorem p_kept_l1 (n:Nat)(t:Int)(x:Lim)(l:List Sta)(hl:l.length<=1100000):∀ (m k:Nat),k<=l.length->l.length<m+k->z6w n t x l (some false) m (k:Int)=some (keP (l.drop k) t x)
 |0,k,h1,h2=>by omega
 |m+1,k,h1,h2=>by
  unfold z6w
  simp only [List.length_map,z0o]
  by_cases h:k<l.length
  ·rw [if_pos (by omega),z0s h,z0s h,z0g l k h,z2n k (by omega),p_kept_l1 n t x l hl m (k+1) (by omega) (by omega)]
   unfold keP
   rw [List.find?_cons]
   by_cases q:l[k].fScope=x.fScope
   ·simp [q]
   ·simp [q]
  ·rw [if_neg (by omega),List.drop_eq_nil_of_le (by omega)]
   rfl
theorem p_kept (n:Nat)(t:Int)(x:Lim)(l:List Sta)(hl:l.length<=1100000)(hn:l.length<n):za4 n l x t=some (keP l t x):=by
 have:=p_kept_l1 n t x l hl n 0 (by omega) (by omega)
 unfold za4
 simpa only [Int.natCast_zero,List.drop_zero] using this
theorem wrapU (x:Int)(h0:0<=x)(h1:x<=18446744073709551615):IntKind.wrap .u64 x=x:=IntWalk.u64_in _ ⟨h0,h1⟩
theorem half_eq (i j:Nat)(h:i+j<=3000000):IntKind.wrap .i64 (Int.fdiv (IntKind.wrap .u64 (IntKind.wrap .i64 ((i:Int)+(j:Int)))) (2 ^ min (Int.toNat (1:Int)) (IntKind.bits .u64)))=(((i+j) / 2:Nat):Int):=by
 have e1:IntKind.wrap .i64 ((i:Int)+(j:Int))=((i+j:Nat):Int):=by rw [zdf _ (by omega)];omega
 rw [e1,wrapU _ (by omega) (by omega)]
 have e2:(2:Int) ^ min (Int.toNat (1:Int)) (IntKind.bits .u64)=2:=by decide
 rw [e2]
 have e3:Int.fdiv ((i+j:Nat):Int) 2=(((i+j) / 2:Nat):Int):=by
  rw [Int.fdiv_eq_ediv_of_nonneg _ (by omega)];omega
 rw [e3,zdf _ (by omega)]
theorem p_op1 (n:Nat)(a:Sta)(s:Int):zcl n a s=some (cmpI a.fScope s):=by
 unfold zcl
 rw [f_cmp,z09]
theorem cmpI_neg (a b:Int):cmpI a b<0 ↔ a<b:=by unfold cmpI;split<;>(try split)<;>omega
theorem cmpI_z (a b:Int):cmpI a b=0 ↔ a=b:=zxj.zero a b
theorem p_bs_l1 (n:Nat)(l:List Sta)(s:Int)(hs:SS l)(hl:l.length<=1100000)(K:Int->Option (Int×Bool))(r:Option (Int×Bool))
  (hK:∀ i:Nat,i<=l.length->(∀ k (hk:k<l.length),k<i->l[k].fScope<s)->(∀ hk:i<l.length,¬l[i].fScope<s)->K (i:Int)=r) :
  ∀ (m i j:Nat),i<=j->j<=l.length->j-i<m->(∀ k (h:k<l.length),k<i->l[k].fScope<s)->(∀ k (h:k<l.length),j<=k->¬l[k].fScope<s)->z2c n s l K m ((i:Int),(j:Int))=r
 |0,i,j,h1,h2,h4,_,_=>by omega
 |m+1,i,j,h1,h2,h4,hlo,hhi=>by
  have mono:∀ a b (ha:a<l.length) (hb:b<l.length),a<=b->l[a].fScope<=l[b].fScope:=fun a b ha hb hab=>by
   rcases Nat.eq_or_lt_of_le hab with rfl|hab
   ·exact Int.le_refl _
   ·have:=List.pairwise_iff_getElem.1 hs a b ha hb hab;omega
  unfold z2c
  simp only [z0o]
  by_cases h:i<j
  ·rw [if_pos (by omega),shx_ok (by omega),half_eq i j (by omega)]
   have hh:(i+j) / 2<l.length:=by omega
   rw [z0s hh,p_op1,z09,z2n _ (by omega)]
   by_cases hc:l[(i+j) / 2].fScope<s
   ·rw [if_pos ((cmpI_neg _ _).2 hc)]
    exact p_bs_l1 n l s hs hl K r hK m ((i+j) / 2+1) j (by omega) h2 (by omega) (fun k hk hki=>by have:=mono k ((i+j) / 2) hk hh (by omega);omega) hhi
   ·rw [if_neg (fun q=>hc ((cmpI_neg _ _).1 q))]
    exact p_bs_l1 n l s hs hl K r hK m i ((i+j) / 2) (by omega) (by omega) (by omega) hlo (fun k hk hjk=>by have:=mono ((i+j) / 2) k hh hk hjk;omega)
  ·have hij:i=j:=by omega
   subst hij
   rw [if_neg (by omega)]
   exact hK i h2 hlo (fun hk=>hhi i hk (Nat.le_refl _))
theorem p_bs (n:Nat)(l:List Sta)(s:Int)(hs:SS l)(hl:l.length<=1100000)(hn:l.length<n):∃ i:Nat,i<=l.length/\l.take i=l.filter (fun x=>decide (x.fScope<s))/\((z5g n l s=some ((i:Int),false)/\l.drop i=l.filter (fun x=>decide (s<x.fScope)))\/∃ hk:i<l.length,l[i].fScope=s/\z5g n l s=some ((i:Int),true)/\l.drop (i+1)=l.filter (fun x=>decide (s<x.fScope))):=by
 have key:∃ i:Nat,i<=l.length/\(∀ k (hk:k<l.length),k<i->l[k].fScope<s)/\(∀ hk:i<l.length,¬l[i].fScope<s):=by
  refine ⟨(l.takeWhile (fun x=>decide (x.fScope<s))).length,(List.takeWhile_sublist _).length_le,?_⟩
  clear hs hl hn
  induction l with
  |nil=>exact ⟨fun k hk=>by simp at hk,fun hk=>by simp at hk⟩
  |cons x l ih =>
   rw [List.takeWhile_cons]
   by_cases q:x.fScope<s
   ·simp only [q,decide_true,if_true,List.length_cons]
    refine ⟨fun k hk hki=>?_,fun hk=>?_⟩
    ·cases k with
     |zero=>exact q
     |succ k=>simpa using ih.1 k (by simpa using hk) (by omega)
    ·simpa using ih.2 (by simpa using hk)
   ·simp only [q,decide_false]
    exact ⟨fun k hk hki=>by simp at hki,fun hk=>by simpa using q⟩
 obtain ⟨i,hi,h1,h2⟩:=key
 have uq:∀ j:Nat,j<=l.length->(∀ k (hk:k<l.length),k<j->l[k].fScope<s)->(∀ hk:j<l.length,¬l[j].fScope<s)->j=i:=fun j hj g1 g2=>by
  rcases Nat.lt_trichotomy j i with q|q|q
  ·exact absurd (h1 j (by omega) q) (g2 (by omega))
  ·exact q
  ·exact absurd (g1 i (by omega) q) (h2 (by omega))
 obtain ⟨a1,a2,a3⟩:=split_at hs hi h1 h2
 refine ⟨i,hi,a1,?_⟩
 unfold z5g
 simp only [List.length_map,z0o]
 have bs:=fun r hK=>p_bs_l1 n l s hs hl (fun k1_0_0y=>if k1_0_0y<((l.length:Nat):Int) then (idx l k1_0_0y fun x42=>bnd (zcl n x42 s) fun x43=>some (k1_0_0y,decide (x43=0))) else some (k1_0_0y,false)) r hK n 0 l.length (by omega) (by omega) (by omega) (fun k _ h=>by omega) (fun k hk h=>by omega)
 by_cases e:∃ hk:i<l.length,l[i].fScope=s
 ·obtain ⟨hk,he⟩:=e
  refine Or.inr ⟨hk,he,bs _ (fun j hj g1 g2=>?_),a3 hk he⟩
  obtain rfl:=uq j hj g1 g2
  rw [if_pos (by omega),z0s hk,p_op1,z09]
  have:cmpI l[j].fScope s=0:=(cmpI_z _ _).2 he
  simp [this]
 ·refine Or.inl ⟨bs _ (fun j hj g1 g2=>?_),a2 (fun hk he=>e ⟨hk,he⟩)⟩
  obtain rfl:=uq j hj g1 g2
  by_cases hk:j<l.length
  ·rw [if_pos (by omega),z0s hk,p_op1,z09]
   have:¬cmpI l[j].fScope s=0:=fun q=>e ⟨hk,(cmpI_z _ _).1 q⟩
   simp [this]
  ·rw [if_neg (by omega)]
theorem ins_ok {α:Type}{n c:Nat}{a:List α}{x:α}(h:c<=a.length)(hl:a.length<=1000000000):zz2 n a (c:Int) [x]=some (a.take c++x::a.drop c):=by
 unfold zz2
 simp [h,hl]
theorem p_opened_l1 (n:Nat)(t:Int)(ss:List Int)(hl:ss.length<=1100000)(K:List Sta->Option (List Sta)):∀ (m k:Nat) (cur:List Sta),k<=ss.length->ss.length<m+k->SS cur->cur.length+(ss.length-k)<=1100000->cur.length+(ss.length-k)<n->z9r n t ss K m ((k:Int),cur)=K ((ss.drop k).foldl (fun l s=>opS l s t) cur)
 |0,k,cur,h1,h2,h3,h4,h5=>by omega
 |m+1,k,cur,h1,h2,h3,h4,h5=>by
  unfold z9r
  simp only [List.length_map,z0o,z0w,z2s,z1r,zb7]
  by_cases h:k<ss.length
  ·rw [if_pos (by omega),z0s h,z0g ss k h,List.foldl_cons]
   have hop:=opS_len cur ss[k] t
   have ih:=p_opened_l1 n t ss hl K m (k+1) (opS cur ss[k] t) (by omega) (by omega) (opS_ss h3 _ _) (by omega) (by omega)
   obtain ⟨i,hi,a1,a2⟩:=p_bs n cur ss[k] h3 (by omega) (by omega)
   rcases a2 with ⟨b1,b2⟩|⟨hk,b0,b1,b2⟩
   ·rw [b1,z09]
    simp only [z8k]
    rw [ins_ok hi (by omega),bndC_some]
    have hlt:i<(cur.take i++(⟨ss[k],0⟩:Sta)::cur.drop i).length:=by simp;omega
    rw [ze1 hlt,ltx_ok hlt,stx_ok hlt,z2n k (by omega)]
    have e:(cur.take i++(⟨ss[k],0⟩:Sta)::cur.drop i).set i (⟨(cur.take i++(⟨ss[k],0⟩:Sta)::cur.drop i)[i].fScope,t⟩:Sta)=opS cur ss[k] t:=by
     have hti:(cur.take i).length=i:=by rw [List.length_take];omega
     have g:(cur.take i++(⟨ss[k],0⟩:Sta)::cur.drop i)[i].fScope=ss[k]:=by
      rw [List.getElem_append_right (by omega)]
      simp [hti]
     rw [g,List.set_append_right _ _ (by omega),hti,Nat.sub_self,List.set_cons_zero]
     unfold opS
     rw [a1,b2]
    rw [e]
    exact ih
   ·rw [b1,z09]
    simp only [z80]
    rw [ze1 hk,ltx_ok hk,stx_ok hk,z2n k (by omega)]
    have e:cur.set i (⟨cur[i].fScope,t⟩:Sta)=opS cur ss[k] t:=by
     rw [List.set_eq_take_append_cons_drop,if_pos hk,b0,a1,b2]
     rfl
    rw [e]
    exact ih
  ·rw [if_neg (by omega),List.drop_eq_nil_of_le (by omega)]
   rfl
def opL (l:List Sta)(ss:List Int)(t:Int):List Sta:=ss.foldl (fun l s=>opS l s t) l
theorem p_opened (n:Nat)(t:Int)(ss:List Int)(l:List Sta)(hs:SS l)(hl:l.length+ss.length<=1100000)(hn:1100000<n):zj0 n l ss t=some (opL l ss t):=by
 unfold zj0 zd7
 rw [if_pos (by omega),zih]
 have:=p_opened_l1 n t ss (by omega) (fun y=>some y) n 0 l (Nat.zero_le _) (by omega) hs (by omega) (by omega)
 exact this
theorem opL_ss (t:Int):∀ (ss:List Int) {l:List Sta},SS l->SS (opL l ss t)
 |[],_,h=>h
 |s::ss,l,h=>opL_ss t ss (opS_ss h s t)
theorem opL_len (t:Int):∀ (ss:List Int) (l:List Sta),(opL l ss t).length<=l.length+ss.length
 |[],l=>by simp [opL]
 |s::ss,l=>by
  have h1:=opL_len t ss (opS l s t)
  have h2:=opS_len l s t
  have h3:opL l (s::ss) t=opL (opS l s t) ss t:=rfl
  rw [h3,List.length_cons];omega
theorem opL_mem (t:Int):∀ (ss:List Int) {l:List Sta} {x:Sta},x∈opL l ss t->(x.fScope∈ss/\x.fTime=t)\/x∈l
 |[],l,x,h=>Or.inr h
 |s::ss,l,x,h=>by
  rcases opL_mem t ss (l:=opS l s t) h with k|k
  ·exact Or.inl ⟨List.mem_cons_of_mem _ k.1,k.2⟩
  ·rcases opS_mem k with q|q
   ·rw [q];exact Or.inl ⟨by simp,rfl⟩
   ·exact Or.inr q
theorem fidx_cases {α:Type}(p:α->Bool):∀ l:List α,(l.find? p=none/\fidx p l=-1)\/∃ i,∃ h:i<l.length,fidx p l=(i:Int)/\l.find? p=some l[i]
 |[]=>Or.inl ⟨rfl,rfl⟩
 |x::l=>by
  by_cases q:p x=true
  ·refine Or.inr ⟨0,by simp,?_,?_⟩
   ·unfold fidx;rw [List.findIdx?_cons,if_pos q]
   ·rw [List.find?_cons];simp [q]
  ·rcases fidx_cases p l with ⟨h1,h2⟩|⟨i,hi,h1,h2⟩
   ·refine Or.inl ⟨by rw [List.find?_cons];simp [q,h1],?_⟩
    unfold fidx at h2 ⊢
    rw [List.findIdx?_cons,if_neg q]
    cases hf:l.findIdx? p with
    |none=>rfl
    |some j=>rw [hf] at h2;simp only at h2;omega
   ·refine Or.inr ⟨i+1,by simp;omega,?_,by rw [List.find?_cons];simp [q,h2]⟩
    unfold fidx at h1 ⊢
    rw [List.findIdx?_cons,if_neg q]
    cases hf:l.findIdx? p with
    |none=>rw [hf] at h1;simp only at h1;omega
    |some j=>rw [hf] at h1;simp only at h1;simp only [Option.map_some];omega
theorem p_intime_l1 (n:Nat)(t:Int)(l:List Sta)(hl:l.length<=1100000)(hn:l.length<n)(xs:List Lim)(hx:xs.length<=1100000):∀ (m k:Nat),k<=xs.length->xs.length<m+k->z9s n t xs l (some true) m (k:Int)=some ((xs.drop k).all (keP l t))
 |0,k,h1,h2=>by omega
 |m+1,k,h1,h2=>by
  unfold z9s
  simp only [List.length_map,z0o,z2s,z1r,zb8,z80]
  by_cases h:k<xs.length
  ·rw [if_pos (by omega),z0s h,z0g xs k h,List.all_cons,z2n k (by omega),p_intime_l1 n t l hl hn xs hx m (k+1) (by omega) (by omega),p_index_s151 n _ (fun s=>decide (s.fScope=xs[k].fScope)) l (by omega) hn (fun s _=>rfl),z09]
   rcases fidx_cases (fun s:Sta=>decide (s.fScope=xs[k].fScope)) l with ⟨c1,c2⟩|⟨i,hi,c1,c2⟩
   ·rw [c2,if_pos (by omega)]
    unfold keP
    rw [c1];rfl
   ·rw [c1,if_neg (by omega),z0s hi]
    have e:keP l t xs[k]=decide (IntKind.wrap .i64 (t-l[i].fTime)<=xs[k].fSpan):=by unfold keP;rw [c2]
    rw [e]
    by_cases q:xs[k].fSpan<IntKind.wrap .i64 (t-l[i].fTime)
    ·have:¬IntKind.wrap .i64 (t-l[i].fTime)<=xs[k].fSpan:=by omega
     simp [q,this]
    ·have:IntKind.wrap .i64 (t-l[i].fTime)<=xs[k].fSpan:=by omega
     simp [q,this]
  ·rw [if_neg (by omega),List.drop_eq_nil_of_le (by omega)]
   rfl
theorem p_intime (n:Nat)(t:Int)(l:List Sta)(hl:l.length<=1100000)(hn:1100000<n)(xs:List Lim)(hx:xs.length<=1100000):zj1 n l xs t=some (xs.all (keP l t)):=by
 have:=p_intime_l1 n t l hl (by omega) xs hx n 0 (by omega) (by omega)
 unfold zj1
 simpa only [Int.natCast_zero,List.drop_zero] using this
def clP (cs:List Int)(x:Sta):Bool:=cs.any fun y=>decide (x.fScope=y)
theorem p_cons2 (n:Nat)(x:Ed)(hx:x.fCloses.length<=1100000)(hn:1100000<n)(s:Sta):z4y n s x=some (clP x.fCloses s):=by
 unfold z4y
 rw [zyt n _ _ (by omega) (by omega),z09]
 rfl
theorem p_cons2M (n:Nat)(x:Ed)(hx:x.fCloses.length<=1100000)(hn:1100000<n)(s:Sta):z3m n s x=some (clP x.fCloses s,x):=by
 unfold z3m
 rw [zyt n _ _ (by omega) (by omega),z09]
 rfl
abbrev ncl (x:Ed)(s:Sta):Bool:=!clP x.fCloses s
theorem p_del_l1 (n:Nat)(x:Ed)(hx:x.fCloses.length<=1100000)(hn:1100000<n)(l:List Sta)(hl:l.length<=1100000)(K:Int->Int->Int->Int->Int->Int->List AV->Int->Int->Int->Int->Int->ByteArray->List Int->List Int->List AV->List z0z->List Int->List Sta->Option (List Sta×Ed))(r:Option (List Sta×Ed))
  (hK:∀ (i:Nat) (cur:List Sta),cur.length=l.length->i<=l.length->cur.take i=l.filter (ncl x)->K (i:Int) x.fFrom x.fTo x.fVar x.fType x.fCond.fOp x.fCond.fArgs x.fCond.fVar x.fCond.fField x.fCond.fKind x.fCond.fValue.fKind x.fCond.fValue.fNum x.fCond.fValue.fText x.fOpens x.fCloses x.fChecks x.fLimits x.fInside cur=r) :
  ∀ (m i j:Nat) (cur:List Sta),i<=j->j<=l.length->l.length<m+j->cur.length=l.length->cur.take i=(l.take j).filter (ncl x)->cur.drop j=l.drop j->z5v n K m ((i:Int),(j:Int),x.fFrom,x.fTo,x.fVar,x.fType,x.fCond.fOp,x.fCond.fArgs,x.fCond.fVar,x.fCond.fField,x.fCond.fKind,x.fCond.fValue.fKind,x.fCond.fValue.fNum,x.fCond.fValue.fText,x.fOpens,x.fCloses,x.fChecks,x.fLimits,x.fInside,cur)=r
 |0,i,j,cur,h0,h1,h3,h4,h5,h6=>by omega
 |m+1,i,j,cur,h0,h1,h3,h4,h5,h6=>by
  unfold z5v
  simp only [List.length_map,z0o]
  by_cases h:j<l.length
  ·have hc:j<cur.length:=by omega
   rw [if_pos (by omega),ze1 hc,zj7 hc,z2n i (by omega),z2n j (by omega)]
   have e2:z3m n cur[j] (⟨x.fFrom,x.fTo,x.fVar,x.fType,⟨x.fCond.fOp,x.fCond.fArgs,x.fCond.fVar,x.fCond.fField,x.fCond.fKind,⟨x.fCond.fValue.fKind,x.fCond.fValue.fNum,x.fCond.fValue.fText⟩⟩,x.fOpens,x.fCloses,x.fChecks,x.fLimits,x.fInside⟩:Ed)=some (clP x.fCloses cur[j],x):=p_cons2M n x hx hn cur[j]
   rw [e2,zbq]
   simp only
   have hcj:cur[j]=l[j]:=by
    have:=congrArg (fun q=>q[0]?) h6
    simp only [List.getElem?_drop,Nat.add_zero,List.getElem?_eq_getElem hc,List.getElem?_eq_getElem h,Option.some.injEq] at this
    exact this
   have hd:cur.drop (j+1)=l.drop (j+1):=by
    have:=congrArg List.tail h6
    simpa using this
   have ht:(l.take (j+1)).filter (ncl x)=(l.take j).filter (ncl x)++(if ncl x l[j]=true then [l[j]] else []):=by
    rw [List.take_succ_eq_append_getElem h,List.filter_append,List.filter_cons]
    rfl
   rw [hcj]
   cases hk:clP x.fCloses l[j] with
   |false =>
    have hi:i<cur.length:=by omega
    simp only [Bool.not_false,z80]
    rw [ze1 hi,stx_ok hi]
    have hk':ncl x l[j]=true:=by unfold ncl;rw [hk];rfl
    rw [hk'] at ht
    refine p_del_l1 n x hx hn l hl K r hK m (i+1) (j+1) _ (by omega) (by omega) (by omega) (by simp [h4]) ?_ ?_
    ·rw [ht,if_pos rfl,<-h5,List.take_succ_eq_append_getElem (by simpa using hi)]
     simp [List.take_set_of_le]
    ·rw [<-hd,List.drop_set_of_lt (by omega)]
   |true =>
    simp only [Bool.not_true,z8k]
    have hk':ncl x l[j]=false:=by unfold ncl;rw [hk];rfl
    rw [hk'] at ht
    exact p_del_l1 n x hx hn l hl K r hK m i (j+1) _ (by omega) (by omega) (by omega) h4 (by rw [ht,h5];simp) hd
  ·rw [if_neg (by omega)]
   have hj:j=l.length:=by omega
   subst hj
   rw [List.take_length] at h5
   exact hK i cur h4 (by omega) h5
theorem p_delete (n:Nat)(x:Ed)(hx:x.fCloses.length<=1100000)(hn:1100000<n)(l:List Sta)(hl:l.length<=1100000):zb6 n x l=some (l.filter (ncl x),x):=by
 unfold zb6
 rw [p_index_s156 n x (clP x.fCloses) l (by omega) (by omega) (fun s _=>p_cons2 n x hx hn s),z09]
 rcases fidx_cases (clP x.fCloses) l with ⟨c1,c2⟩|⟨i,hi,c1,c2⟩
 ·rw [c2,z0o,if_pos rfl,List.filter_eq_self.2 (fun s hs=>?_)]
  have:=List.find?_eq_none.1 c1 s hs
  simpa [ncl] using this
 ·rw [c1,z0o,if_neg (by omega),z2n i (by omega)]
  have hpre:∀ s∈l.take i,ncl x s=true:=fun s hs=>by
   obtain ⟨k,hk,rfl⟩:=List.mem_iff_getElem.1 hs
   rw [List.length_take] at hk
   rw [List.getElem_take]
   have h3:l.findIdx? (clP x.fCloses)=some i:=by
    unfold fidx at c1
    cases hf:l.findIdx? (clP x.fCloses) with
    |none=>rw [hf] at c1;simp only at c1;omega
    |some j=>rw [hf] at c1;simp only at c1;congr 1;omega
   have:=(List.findIdx?_eq_some_iff_getElem.1 h3).2.2 k (by omega)
   simpa [ncl] using this
  have hno:ncl x l[i]=false:=by
   have:=List.find?_some c2
   simp [ncl,this]
  refine p_del_l1 n x hx hn l hl _ _ (fun q cur hc hq ht=>?_) n i (i+1) l (by omega) (by omega) (by omega) rfl ?_ rfl
  ·simp only [List.length_map]
   rw [nle_nat (by omega),clr_ok (by omega)]
   have hlen:=clrL_len cur q (⟨0,0⟩:Sta) (by omega)
   have:=zwl (l:=clrL cur q (⟨0,0⟩:Sta)) (a:=0) (b:=q) (by omega) (by omega) (fun x63=>some (x63,x))
   refine this.trans ?_
   rw [List.drop_zero,clrL_take cur q _ (by omega),ht]
  ·rw [List.take_succ_eq_append_getElem hi,List.filter_append,List.filter_eq_self.2 hpre]
   simp [hno]
theorem clL_eq (cs:List Int):∀ l:List Sta,cs.foldl clS l=l.filter (fun s=>!clP cs s):=by
 induction cs with
 |nil=>intro l;exact (List.filter_eq_self.2 (fun _ _=>rfl)).symm
 |cons c cs ih =>
  intro l
  rw [List.foldl_cons,ih]
  unfold clS
  rw [List.filter_filter]
  refine List.filter_congr (fun s _=>?_)
  unfold clP
  rw [List.any_cons]
  cases decide (s.fScope=c)<;>simp
end Go.Proofs.YtjpknpjjcddnnaaGreat
