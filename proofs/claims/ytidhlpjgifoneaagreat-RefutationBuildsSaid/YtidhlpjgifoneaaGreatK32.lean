/- Layers 17 and 25, plainly. -/
import Derived.Test.YtidhlpjgifoneaaGreatK31
set_option linter.unusedVariables false
set_option linter.unusedSimpArgs false
namespace Go.Proofs.YtidhlpjgifoneaaGreat
open Go.RowKit List
abbrev Rf:=z18
abbrev N0:Nat:=2000000000
abbrev ev0:Ev:=⟨0,0,0,0,[]⟩
variable {β:Type}
theorem ymw {e d:Type}[DecidableEq e](l:List (e×d))(k:e)(z:d)(c:d->Bool->Option β):mgv l k z c=c ((mlk l k).getD z) (mlk l k).isSome:=by unfold mgv;rfl
theorem ymv {n:Int}(c:0<=n)(h:n<=1000)(k:Nat->Option β):mkn n 24 k=k n.toNat:=by unfold mkn;grind
theorem ymr (i:Nat)(x:Option β):nst i x=x:=by unfold nst;rfl
theorem yn0 (i:Nat)(x:Option β):frr i x=x:=by unfold frr;rfl
theorem zzv {n:Int}{len:Nat}(c:0<=n)(h:n.toNat<len)(x:Option β):ncx n len x=x:=by unfold ncx;rw [if_pos ⟨c,h⟩]
variable {α:Type}{l:List (List α)}
theorem ymq {k:Nat}(h:k<l.length)(c:List α->Option β):ntk l k c=c (l.getD k []):=by unfold ntk;simp [h]
theorem yms {k:Nat}(h:k<l.length)(v:List α)(c:List (List α)->Option β):npt l k v c=c (l.set k v):=by unfold npt;rw [if_pos h]
theorem yf8:∀ (l p:List Ev),chk p l=0->(∀ e∈l,zfa e=true)/\Str zlf l/\(∀ h t,p=h::t->∀ e∈l,zlf h e<0)
 |[],p,_=>⟨by simp,by simp [Str],by simp⟩
 |e::l,p,h=>by
  unfold chk at h;split at h
  ·cases h
  split at h
  ·cases h
  split at h
  ·cases h
  rename_i h1 g n;obtain ⟨o,m,j⟩:=yf8 l (e::p) h;have f:=j e p rfl;refine ⟨fun x c=>?_,pairwise_cons.2 ⟨f,m⟩,fun q t i x c=>?_⟩
  ·grind
  ·have d:zlf q e<0:=by
    subst i;simp only [y38] at g;simpa using g
   rcases mem_cons.1 c with k|k
   ·rw [k];exact d
   ·exact zwm.trans _ _ _ d (f x k)
structure yph (l:List Ev):Prop where
 pl:∀ e∈l,zfa e=true
 st:Str zlf l
 ln:l.length<=4096
theorem zyv {l:List Ev}(h:zlh l=0):yph l:=by
 unfold zlh at h;split at h
 ·cases h
 ·obtain ⟨a,b,_⟩:=yf8 l [] h;exact ⟨a,b,by omega⟩
def lkH (held:List Ev)(r:Rf):Option Ev:=held.find? (fun e=>decide (ze0 e=r))
variable {held:List Ev}
theorem ybx {r:Rf}{e:Ev}(h:lkH held r=some e):ze0 e=r/\e∈held:=by
 have h1:=find?_some h;exact ⟨by simpa using h1,mem_of_find?_eq_some h⟩
theorem yit (h:Str zlf held){e:Ev}(c:e∈held):lkH held (ze0 e)=some e:=by
 unfold lkH
 induction held with
 |nil=>simp at c
 |cons x l ih =>
  obtain ⟨h1,d⟩:=pairwise_cons.1 h;rw [find?_cons];rcases mem_cons.1 c with k|k
  ·rw [k];simp
  ·have:ze0 x≠ze0 e:=fun q=>zwm.lt_ne (h1 e k) q
   simp only [this,decide_false];exact ih d k
theorem yor (a b:List Ev)(r:Rf):lkH (a++b) r=(lkH a r).or (lkH b r):=by unfold lkH;rw [find?_append]
theorem y2r (n:Nat)(r:Rf)(l:List Ev)(c:l.length<=1000000):∀ (m k:Nat),k<=l.length->l.length<m+k->z7p n r l (some (ev0,false)) m (k:Int)=some (match lkH (l.drop k) r with|some e=>(e,true)|none=>(ev0,false))
 |0,k,h1,d=>by omega
 |m+1,k,h1,d=>by
  unfold z7p;simp only [length_map,z0f];by_cases h:k<l.length
  ·rw [if_pos (by omega),z0r h,z0e l k h,z27 k (by omega),y2r n r l c m (k+1) (by omega) (by omega),yo0,z05,z0r h];have:(decide (l[k].fTime=r.fTime) && (decide (l[k].fSource=r.fSource) && (decide (l[k].fSeq=r.fSeq) && true)))=decide (ze0 l[k]=r):=by
    cases r;simp [ze0]
   rw [this,z0f];unfold lkH;grind
  ·rw [if_neg (by omega),drop_eq_nil_of_le (by omega)];rfl
theorem yoa (n:Nat)(r:Rf)(l:List Ev)(c:l.length<=1000000)(d:l.length<n):zbv n l r=some (match lkH l r with|some e=>(e,true)|none=>(ev0,false)):=by
 have:=y2r n r l c n 0 (by omega) (by omega);unfold zbv;simp_all
def HM (held:List Ev)(c:List (Rf×Ev)):Prop:=∀ r,mlk c r=lkH held r
theorem yiy (r:Rf):∀ (l:List Ev) (m:List (Rf×Ev)),Str zlf l->mlk (l.foldl (fun m e=>mput m (ze0 e) e) m) r=(lkH l r).or (mlk m r)
 |[],m,_=>by simp [lkH]
 |e::l,m,h=>by
  obtain ⟨h1,f⟩:=pairwise_cons.1 h;rw [foldl_cons,yiy r l _ f,yeh];unfold lkH;rw [find?_cons];by_cases q:ze0 e=r
  ·have:lkH l r=none:=by
    unfold lkH;rw [find?_eq_none];intro x d c;simp only [decide_eq_true_eq] at c;exact zwm.lt_ne (h1 x d) (by rw [q,c])
   unfold lkH at this;rw [this];simp [q]
  grind
def addB (held:List Ev)(vs:List (List Ev))(b:Bd):List (List Ev):=match lkH held b.fRef with|some e=>(if 0<=b.fVar/\b.fVar.toNat<vs.length then vs.set b.fVar.toNat (vs.getD b.fVar.toNat []++[e]) else vs)|none=>vs
def bndV (held:List Ev)(m:Nat)(l:List Bd):List (List Ev):=l.foldl (addB held) (replicate m [])
def ev1 (held:List Ev)(l:List Bd)(v:Int):List Ev:=l.filterMap (fun b=>if b.fVar=v then lkH held b.fRef else none)
theorem zyr (held:List Ev)(vs:List (List Ev))(b:Bd):(addB held vs b).length=vs.length:=by
 unfold addB;grind
theorem yfe {vs:List (List Ev)}{b:Bd}{k:Nat}(h:∀ q∈vs,q.length<=k):∀ q∈addB held vs b,q.length<=k+1:=by
 unfold addB;grind
theorem y8u (held:List Ev):∀ (l:List Bd) (vs:List (List Ev)),(l.foldl (addB held) vs).length=vs.length
 |[],vs=>rfl
 |b::l,vs=>by rw [foldl_cons,y8u held l,zyr]
theorem zpq (held:List Ev)(m:Nat)(l:List Bd):(bndV held m l).length=m:=by unfold bndV;rw [y8u];simp
theorem ymb (held:List Ev)(vs:List (List Ev))(b:Bd)(i:Nat)(hi:i<vs.length):(addB held vs b).getD i []=vs.getD i []++(if b.fVar=(i:Int) then lkH held b.fRef else none).toList:=by
 unfold addB;grind
theorem y8v (held:List Ev)(i:Nat):∀ (l:List Bd) (vs:List (List Ev)),i<vs.length->(l.foldl (addB held) vs).getD i []=vs.getD i []++ev1 held l (i:Int)
 |[],vs,hi=>by simp [ev1]
 |b::l,vs,hi=>by
  rw [foldl_cons,y8v held i l _ (by rw [zyr];exact hi),ymb held vs b i hi];unfold ev1;grind
theorem ztd (held:List Ev)(m:Nat)(l:List Bd)(v:Int):evs (bndV held m l) v=if 0<=v/\v<(m:Int) then ev1 held l v else []:=by
 unfold evs;rw [zpq];by_cases h1:v<0
 ·rw [if_pos h1,if_neg (by omega)]
 rw [if_neg h1];by_cases c:(m:Int)<=v
 ·rw [if_pos c,if_neg (by omega)]
 rw [if_neg c,if_pos (by omega)];unfold bndV;rw [y8v held v.toNat l _ (by simp;omega)];grind
theorem yp7 (held:List Ev)(l:List Bd)(v:Int):(ev1 held l v).length<=l.length:=length_filterMap_le _ _
theorem yls {l:List Bd}{v:Int}(h:∀ b∈l,b.fVar≠v):ev1 held l v=[]:=by
 unfold ev1;simp_all
abbrev enH (held:List Ev)(l:List Bd):List (List Ev):=bndV held 16 l
theorem zwx {l:List Bd}(h:l.length<=1000000)(v:Int):(evs (enH held l) v).length<=1000000:=by
 rw [ztd];split
 ·have:=yp7 held l v;omega
 ·simp
theorem y2w (n:Nat)(held:List Ev)(j:held.length<=1000000)(u:1000000<n)(x:Nat)(p:x<=16)(l:List Bd)(w:l.length<=1000000)(K:List (List Ev)->Option z0h):∀ (m k:Nat) (vs:List (List Ev)),k<=l.length->l.length<m+k->vs.length=x->(∀ q∈vs,q.length<=k)->z1v n l (x:Int) held x K m ((k:Int),vs)=K ((l.drop k).foldl (addB held) vs)
 |0,k,vs,h1,y,o,g=>by omega
 |m+1,k,vs,h1,y,o,g=>by
  unfold z1v;simp only [length_map,z0f];by_cases h:k<l.length
  ·rw [if_pos (by omega),z0r h,z0e l k h,z27 k (by omega),yoa n _ held j (by omega),z05,z1s,foldl_cons];have s:(⟨l[k].fRef.fTime,l[k].fRef.fSource,l[k].fRef.fSeq⟩:Rf)=l[k].fRef:=rfl;rw [s];have f:∀ c,c=addB held vs l[k]->z1v n l (x:Int) held x K m (((k+1:Nat):Int),c)=K ((l.drop (k+1)).foldl (addB held) (addB held vs l[k])):=fun c r=>by
    subst r;exact y2w n held j u x p l w K m (k+1) _ (by omega) (by omega) (by rw [zyr];exact o) (yfe g)
   cases t:lkH held l[k].fRef with
   |none =>
    simp only [zae];exact f vs (by unfold addB;rw [t])
   |some e =>
    simp only [z9u];by_cases d:0<=l[k].fVar
    ·rw [if_pos d];by_cases i:l[k].fVar<(x:Int)
     ·rw [if_pos i,zzv d (by omega),ymq (by omega)];have v:(vs.getD l[k].fVar.toNat []).length<=k:=by
       rw [getD_eq_getElem?_getD,getElem?_eq_getElem (by omega),Option.getD_some];exact g _ (getElem_mem _)
      rw [zcu (by grind) (by omega),zzv d (by omega),yms (by omega)];exact f _ (by unfold addB;simp_all)
     ·rw [if_neg i];exact f vs (by unfold addB;grind)
    ·rw [if_neg d];exact f vs (by unfold addB;grind)
  ·rw [if_neg (by omega),drop_eq_nil_of_le (by omega)];rfl
theorem yi0 (n:Nat)(f:1000000<n)(held:List Ev)(h:held.length<=1000000)(c:Cf)(g:c.fBindings.length<=1000000):z9o n held c=some ⟨enH held c.fBindings⟩:=by
 unfold z9o zed;rw [ymv (by omega) (by omega),ymr,z1s];have:=y2w n held h f 16 (by omega) c.fBindings g (fun k1_0_0y=>frr 13 <| reg <| some ⟨k1_0_0y⟩) n 0 (replicate 16 []) (by omega) (by omega) (by simp) (by simp);simp only [Int.natCast_zero] at this;have e:Int.toNat 16=16:=rfl;have d:((16:Nat):Int)=16:=rfl;rw [e];rw [d] at this;rw [this,yn0,z1s,z05];rfl
def BdOk (held:List Ev)(x:Int)(l:List Bd):Prop:=∀ b∈l,(0<=b.fVar/\b.fVar<x)/\(lkH held b.fRef).isSome=true
theorem ye0 (n:Nat)(held:List Ev)(r:z0l)(hm:HM held r.fheld)(x:Nat)(o:x<=16)(l:List Bd)(t:l.length<=1000000)(g:BdOk held (x:Int) l)(K:List (List Ev)->Option z0h):∀ (m k:Nat) (vs:List (List Ev)),k<=l.length->l.length<m+k->vs.length=x->(∀ q∈vs,q.length<=k)->zat n l r x K m ((k:Int),vs)=K ((l.drop k).foldl (addB held) vs)
 |0,k,vs,h1,v,i,d=>by omega
 |m+1,k,vs,h1,v,i,d=>by
  unfold zat;simp only [length_map,z0f];by_cases h:k<l.length
  ·obtain ⟨⟨c,w⟩,j⟩:=g _ (getElem_mem h);obtain ⟨e,f⟩:=Option.isSome_iff_exists.1 j;have p:(⟨l[k].fRef.fTime,l[k].fRef.fSource,l[k].fRef.fSeq⟩:Rf)=l[k].fRef:=rfl;have s:(vs.getD l[k].fVar.toNat []).length<=k:=by
    rw [getD_eq_getElem?_getD,getElem?_eq_getElem (by omega),Option.getD_some];exact d _ (getElem_mem _)
   rw [if_pos (by omega),z0r h,z0e l k h,z27 k (by omega),foldl_cons,zzv c (by omega),ymq (by omega),p,ymw,hm,f,Option.getD_some,zcu (by grind) (by omega),zzv c (by omega),yms (by omega)];have u:addB held vs l[k]=vs.set l[k].fVar.toNat (vs.getD l[k].fVar.toNat []++[e]):=by
    unfold addB;rw [f];simp only;rw [if_pos ⟨c,by omega⟩]
   rw [<-u];exact ye0 n held r hm x o l t g K m (k+1) _ (by omega) (by omega) (by rw [zyr];exact i) (yfe d)
  grind
theorem ys1 (n:Nat)(g:1000000<n)(held:List Ev)(r:z0l)(hm:HM held r.fheld)(d:0<=r.fa.fVars/\r.fa.fVars<=16)(l:List Bd)(e:l.length<=1000000)(f:BdOk held r.fa.fVars l):zff n r l=some ⟨bndV held r.fa.fVars.toNat l⟩:=by
 unfold zff;rw [ymv d.1 (by omega),ymr,z1s];have c:((r.fa.fVars.toNat:Nat):Int)=r.fa.fVars:=by omega
 have:=ye0 n held r hm r.fa.fVars.toNat (by omega) l e (by rw [c];exact f) (fun k1_0_0y=>frr 13 <| reg <| some ⟨k1_0_0y⟩) n 0 (replicate r.fa.fVars.toNat []) (by omega) (by omega) (by simp) (by simp);simp only [Int.natCast_zero] at this;rw [this,yn0,z1s];rfl
def EvEq (a b:List (List Ev)):Prop:=∀ v,evs a v=evs b v
theorem yj9 {x:Int}(e:0<=x/\x<=16){l:List Bd}(d:BdOk held x l):EvEq (enH held l) (bndV held x.toNat l):=fun v=>by
 rw [ztd,ztd];by_cases h:0<=v/\v<x
 ·grind
 ·rw [if_neg (by omega:¬(0<=v/\v<((x.toNat:Nat):Int)))];split
  ·exact yls (fun b c q=>by have:=(d b c).1;omega)
  ·rfl
def EvS (a:List (List Ev)):Prop:=∀ v,(evs a v).length<=1000000
def trR (a:List (List Ev))(e:Exn)(own:Int)(ev:Ev):Bool:=(z2w N0 e ⟨a⟩ own ev).getD false
variable {a b:List (List Ev)}
theorem yfh (c:EvEq a b)(k:EvS a){e:Exn}(h:WfE e)(own:Int)(ev:Ev):z2w N0 e ⟨a⟩ own ev=some (trR a e own ev)/\zfp N0 e ⟨b⟩ own ev=some (trR a e own ev):=by
 obtain ⟨z,g,j⟩:=h;obtain ⟨r,d,f⟩:=ynu a b k own ev z e (fun i _=>c i) j g N0 (by decide);have:trR a e own ev=r:=by unfold trR;rw [d];rfl
 rw [this];exact ⟨d,f⟩
def vio (a:List (List Ev))(e:Ev)(g:Gd):Bool:=decide (g.fType=e.fType) && trR a g.fCond g.fVar e
theorem yhu (d:EvS a){g:Gd}(c:WfE g.fCond)(e:Ev):z7k N0 g ⟨a⟩ e=some (vio a e g):=by
 unfold z7k vio;simp only [z3g,z1s,z34,z0f];have:=(yfh (fun v=>rfl:EvEq a a) d c g.fVar e).1;rw [this,z05];by_cases h:g.fType=e.fType<;>simp [h]
theorem ymi (c:EvEq a b)(f:EvS a){g:Gd}(d:WfE g.fCond)(e:Ev):zg5 N0 g ⟨b⟩ e=some (vio a e g):=by
 unfold zg5 vio;simp only [z3g,z1s,zbi,z0f];have:=(yfh c f d g.fVar e).2;rw [this,z05];by_cases h:g.fType=e.fType<;>simp [h]
abbrev Lim:=z1j
def SS (l:List Sta):Prop:=l.Pairwise (fun x y=>x.fScope<y.fScope)
def opS (l:List Sta)(s t:Int):List Sta:=l.filter (fun x=>decide (x.fScope<s))++(⟨s,t⟩:Sta)::l.filter (fun x=>decide (s<x.fScope))
def clS (l:List Sta)(s:Int):List Sta:=l.filter (fun x=>!decide (x.fScope=s))
theorem opS_mem {l:List Sta}{s t:Int}{x:Sta}(h:x∈opS l s t):x=⟨s,t⟩\/x∈l:=by
 unfold opS at h;grind
theorem yig {l:List Sta}(h:SS l)(s t:Int):SS (opS l s t):=by
 unfold opS SS;rw [pairwise_append];refine ⟨h.filter _,pairwise_cons.2 ⟨fun x c=>by simp_all,h.filter _⟩,fun x c y d=>?_⟩;grind
theorem ybu (l:List Sta)(s t:Int):(opS l s t).length<=l.length+1:=by
 unfold opS;rw [length_append,length_cons]
 induction l with
 |nil=>simp
 |cons x l ih =>
  grind
theorem ydd {l:List Sta}(h:SS l){s:Int}{i:Nat}(hi:i<=l.length)(h1:∀ k (d:k<l.length),k<i->l[k].fScope<s)(o:∀ d:i<l.length,¬l[i].fScope<s):l.take i=l.filter (fun x=>decide (x.fScope<s))/\((∀ d:i<l.length,l[i].fScope≠s)->l.drop i=l.filter (fun x=>decide (s<x.fScope)))/\(∀ d:i<l.length,l[i].fScope=s->l.drop (i+1)=l.filter (fun x=>decide (s<x.fScope))):=by
 have e:∀ x∈l.take i,x.fScope<s:=fun x c=>by
  obtain ⟨k,d,rfl⟩:=mem_iff_getElem.1 c;grind
 have m:∀ d:i<l.length,∀ x∈l.drop (i+1),l[i].fScope<x.fScope:=fun d x c=>by
  have:=h.drop (i:=i);rw [z0e l i d] at this;exact (pairwise_cons.1 this).1 x c
 have j:∀ x∈l.drop i,s<=x.fScope:=fun x c=>by
  by_cases d:i<l.length
  ·rw [z0e l i d] at c;grind
  grind
 have f:∀ p:Sta->Bool,l.filter p=(l.take i).filter p++(l.drop i).filter p:=fun p=>by rw [<-filter_append,take_append_drop]
 refine ⟨?_,fun g=>?_,fun d n=>?_⟩
 ·rw [f,filter_eq_self.2 (fun x c=>by simpa using e x c),filter_eq_nil_iff.2 (fun x c=>by have:=j x c;simp;omega),append_nil]
 ·rw [f,filter_eq_nil_iff.2 (fun x c=>by have:=e x c;simp;omega),nil_append,filter_eq_self.2 (fun x c=>?_)];by_cases d:i<l.length
  ·rw [z0e l i d] at c;grind
  grind
 ·rw [f,filter_eq_nil_iff.2 (fun x c=>by have:=e x c;simp;omega),nil_append,z0e l i d,filter_cons,if_neg (by simp;omega),filter_eq_self.2 (fun x c=>by have:=m d x c;simp;omega)]
theorem zum (n:Nat)(s:Int)(l:List Sta)(c:l.length<=1100000)(K:List Sta->Option (List Sta)):∀ (m k:Nat) (out:List Sta),k<=l.length->l.length<m+k->out.length<=k->z3y n s l K m ((k:Int),out)=K (out++(l.drop k).filter (fun x=>!decide (x.fScope=s)))
 |0,k,out,h1,g,f=>by omega
 |m+1,k,out,h1,g,f=>by
  unfold z3y;simp only [length_map,z0f,z12];by_cases h:k<l.length
  ·have e:=zum n s l c K m (k+1) (out++[l[k]]) (by omega) (by omega) (by simp_all);have d:=zum n s l c K m (k+1) out (by omega) (by omega) (by omega);rw [if_pos (by omega),z1s,z0r h,z0r h,z0e l k h,z27 k (by omega),zcu (by grind) (by omega),e,d,filter_cons];grind
  grind
theorem ye2 (n:Nat)(s:Int)(l:List Sta)(c:l.length<=1100000)(d:l.length<n):z93 n l s=some (clS l s):=by
 have:=zum n s l c (fun y=>some y) n 0 [] (by omega) (by omega) (by simp);unfold z93 clS;simp_all
theorem zxm (n:Nat)(s t:Int)(l:List Sta)(f:l.length<=1100000)(K:List Sta->Int->List Sta->Option (List Sta))(r:Option (List Sta))
  (d:∀ i:Nat,i<=l.length->(∀ k (c:k<l.length),k<i->l[k].fScope<s)->(∀ c:i<l.length,¬l[i].fScope<s)->K l (i:Int) (l.take i)=r) :
  ∀ (m k:Nat),k<=l.length->l.length<m+k->(∀ j (o:j<l.length),j<k->l[j].fScope<s)->z2t n t s l K m ((k:Int),l.take k)=r
 |0,k,h1,p,e=>by omega
 |m+1,k,h1,p,e=>by
  unfold z2t;simp only [length_map,z0f,z3g,z1s,z3x];by_cases h:k<l.length
  ·rw [if_pos (by omega),z0r h];by_cases q:l[k].fScope<s
   ·rw [if_pos q,z0r h,zcu (by grind) (by omega),z27 k (by omega),<-take_succ_eq_append_getElem h];exact zxm n s t l f K r d m (k+1) (by omega) (by omega) (fun j o g=>by
     grind)
   ·rw [if_neg q];exact d k h1 e (fun _=>q)
  ·rw [if_neg (by omega),zae];exact d k h1 e (fun c=>absurd c h)
theorem yr8 {l:List Sta}(h:SS l)(s:Int):SS (clS l s):=h.filter _
theorem yjk (l:List Sta)(s:Int):(clS l s).length<=l.length:=length_filter_le _ _
theorem yhx (n:Nat)(s t:Int)(l:List Sta)(g:SS l)(k:l.length<=1100000)(h:l.length<n):zb7 n l s t=some (opS l s t):=by
 unfold zb7;rw [ye2 n s l k h,z05];have r:=yjk l s;refine zxm n s t (clS l s) (by omega) _ _ (fun i hi h1 m=>?_) n 0 (by omega) (by omega) (fun j _ q=>by omega);obtain ⟨p,o,_⟩:=ydd (yr8 g s) hi h1 m;have e:∀ f:i<(clS l s).length,(clS l s)[i].fScope≠s:=fun f=>by
  have:=(mem_filter.1 (getElem_mem f)).2;simpa using this
 have:=zri (l:=clS l s) hi (Nat.le_refl _) (fun d=>app ((clS l s).take i++[⟨s,t⟩]) d 16 fun c=>some c);rw [zcu (by grind) (by omega)];simp only [length_map];rw [this,take_length,zcu (by grind) (by omega),p,o e];unfold opS clS;rw [filter_filter,filter_filter,append_assoc];congr 2;all_goals grind
def keP (l:List Sta)(t:Int)(x:Lim):Bool:=match l.find? (fun s=>decide (s.fScope=x.fScope)) with|some s=>decide (IntKind.wrap .i64 (t-s.fTime)<=x.fSpan)|none=>false
theorem y87 (n:Nat)(t:Int)(x:Lim)(l:List Sta)(c:l.length<=1100000):∀ (m k:Nat),k<=l.length->l.length<m+k->z8j n t x l (some false) m (k:Int)=some (keP (l.drop k) t x)
 |0,k,h1,d=>by omega
 |m+1,k,h1,d=>by
  unfold z8j;simp only [length_map,z0f];by_cases h:k<l.length
  ·rw [if_pos (by omega),z0r h,z0r h,z0e l k h,z27 k (by omega),y87 n t x l c m (k+1) (by omega) (by omega)];unfold keP;grind
  ·rw [if_neg (by omega),drop_eq_nil_of_le (by omega)];rfl
theorem yqc (n:Nat)(t:Int)(x:Lim)(l:List Sta)(c:l.length<=1100000)(d:l.length<n):zce n l x t=some (keP l t x):=by
 have:=y87 n t x l c n 0 (by omega) (by omega);unfold zce;simp_all
theorem yri (x:Int)(c:0<=x)(h1:x<=18446744073709551615):IntKind.wrap .u64 x=x:=IntWalk.u64_in _ ⟨c,h1⟩
theorem yow (i j:Nat)(h:i+j<=3000000):IntKind.wrap .i64 (Int.fdiv (IntKind.wrap .u64 (IntKind.wrap .i64 ((i:Int)+(j:Int)))) (2 ^ min (Int.toNat (1:Int)) (IntKind.bits .u64)))=(((i+j) / 2:Nat):Int):=by
 have e:IntKind.wrap .i64 ((i:Int)+(j:Int))=((i+j:Nat):Int):=by rw [zga _ (by omega)];omega
 rw [e,yri _ (by omega) (by omega)];have d:(2:Int) ^ min (Int.toNat (1:Int)) (IntKind.bits .u64)=2:=by decide
 rw [d];have c:Int.fdiv ((i+j:Nat):Int) 2=(((i+j) / 2:Nat):Int):=by
  rw [Int.fdiv_eq_ediv_of_nonneg _ (by omega)];omega
 rw [c,zga _ (by omega)]
theorem yo4 (n:Nat)(a:Sta)(s:Int):zex n a s=some (cmpI a.fScope s):=by
 unfold zex;rw [yc5,z05]
theorem y5z (a b:Int):cmpI a b<0 ↔ a<b:=by unfold cmpI;split<;>(try split)<;>omega
theorem ynb (a b:Int):cmpI a b=0 ↔ a=b:=zs2.zero a b
theorem ybq (n:Nat)(l:List Sta)(s:Int)(d:SS l)(o:l.length<=1100000)(K:Int->Option (Int×Bool))(r:Option (Int×Bool))
  (v:∀ i:Nat,i<=l.length->(∀ k (f:k<l.length),k<i->l[k].fScope<s)->(∀ f:i<l.length,¬l[i].fScope<s)->K (i:Int)=r) :
  ∀ (m i j:Nat),i<=j->j<=l.length->j-i<m->(∀ k (h:k<l.length),k<i->l[k].fScope<s)->(∀ k (h:k<l.length),j<=k->¬l[k].fScope<s)->z2o n s l K m ((i:Int),(j:Int))=r
 |0,i,j,h1,w,B,_,_=>by omega
 |m+1,i,j,h1,w,B,e,g=>by
  have mono:∀ a b (u:a<l.length) (t:b<l.length),a<=b->l[a].fScope<=l[b].fScope:=fun a b u t c=>by
   rcases Nat.eq_or_lt_of_le c with rfl|c
   ·exact Int.le_refl _
   ·have:=pairwise_iff_getElem.1 d a b u t c;omega
  unfold z2o;simp only [z0f];by_cases h:i<j
  ·rw [if_pos (by omega),ypu (by omega),yow i j (by omega)];have A:(i+j) / 2<l.length:=by omega
   rw [z0r A,yo4,z05,z27 _ (by omega)];by_cases p:l[(i+j) / 2].fScope<s
   ·rw [if_pos ((y5z _ _).2 p)];exact ybq n l s d o K r v m ((i+j) / 2+1) j (by omega) w (by omega) (fun k f x=>by grind) g
   ·rw [if_neg (fun q=>p ((y5z _ _).1 q))];exact ybq n l s d o K r v m i ((i+j) / 2) (by omega) (by omega) (by omega) e (fun k f y=>by grind)
  ·have z:i=j:=by omega
   simp_all
theorem p_bs (n:Nat)(l:List Sta)(s:Int)(t:SS l)(u:l.length<=1100000)(v:l.length<n):∃ i:Nat,i<=l.length/\l.take i=l.filter (fun x=>decide (x.fScope<s))/\((z6m n l s=some ((i:Int),false)/\l.drop i=l.filter (fun x=>decide (s<x.fScope)))\/∃ c:i<l.length,l[i].fScope=s/\z6m n l s=some ((i:Int),true)/\l.drop (i+1)=l.filter (fun x=>decide (s<x.fScope))):=by
 have key:∃ i:Nat,i<=l.length/\(∀ k (c:k<l.length),k<i->l[k].fScope<s)/\(∀ c:i<l.length,¬l[i].fScope<s):=by
  refine ⟨(l.takeWhile (fun x=>decide (x.fScope<s))).length,(takeWhile_sublist _).length_le,?_⟩;clear t u v
  induction l with
  |nil=>simp_all
  |cons x l ih =>
   rw [takeWhile_cons];grind
 obtain ⟨i,hi,h1,y⟩:=key;have uq:∀ j:Nat,j<=l.length->(∀ k (c:k<l.length),k<j->l[k].fScope<s)->(∀ c:j<l.length,¬l[j].fScope<s)->j=i:=fun j f m g=>by
  grind
 obtain ⟨B,A,z⟩:=ydd t hi h1 y;refine ⟨i,hi,B,?_⟩;unfold z6m;simp only [length_map,z0f];have bs:=fun r w=>ybq n l s t u (fun k1_0_0y=>if k1_0_0y<((l.length:Nat):Int) then (idx l k1_0_0y fun p=>bnd (zex n p s) fun o=>some (k1_0_0y,decide (o=0))) else some (k1_0_0y,false)) r w n 0 l.length (by omega) (by omega) (by omega) (fun k _ h=>by omega) (fun k c h=>by omega)
 by_cases e:∃ c:i<l.length,l[i].fScope=s
 ·obtain ⟨c,d⟩:=e;refine Or.inr ⟨c,d,bs _ (fun j f m g=>?_),z c d⟩;obtain rfl:=uq j f m g;rw [if_pos (by omega),z0r c,yo4,z05];have:cmpI l[j].fScope s=0:=(ynb _ _).2 d;simp [this]
 ·refine Or.inl ⟨bs _ (fun j f m g=>?_),A (fun c d=>e ⟨c,d⟩)⟩;obtain rfl:=uq j f m g;by_cases c:j<l.length
  ·rw [if_pos (by omega),z0r c,yo4,z05];have:¬cmpI l[j].fScope s=0:=fun q=>e ⟨c,(ynb _ _).1 q⟩
   simp [this]
  ·rw [if_neg (by omega)]
theorem yqv {n c:Nat}{a:List α}{x:α}(h:c<=a.length)(d:a.length<=1000000000):zti n a (c:Int) [x]=some (a.take c++x::a.drop c):=by
 unfold zti;simp [h,d]
theorem zzj (n:Nat)(t:Int)(d:List Int)(x:d.length<=1100000)(K:List Sta->Option (List Sta)):∀ (m k:Nat) (c:List Sta),k<=d.length->d.length<m+k->SS c->c.length+(d.length-k)<=1100000->c.length+(d.length-k)<n->zbx n t d K m ((k:Int),c)=K ((d.drop k).foldl (fun l s=>opS l s t) c)
 |0,k,c,h1,A,p,z,y=>by omega
 |m+1,k,c,h1,A,p,z,y=>by
  unfold zbx;simp only [length_map,z0f,z12,z3g,z1s,zdk];by_cases h:k<d.length
  ·rw [if_pos (by omega),z0r h,z0e d k h,foldl_cons];have w:=ybu c d[k] t;have u:=zzj n t d x K m (k+1) (opS c d[k] t) (by omega) (by omega) (yig p _ _) (by omega) (by omega);obtain ⟨i,hi,v,C⟩:=p_bs n c d[k] p (by omega) (by omega);rcases C with ⟨r,q⟩|⟨o,B,r,q⟩
   ·rw [r,z05];simp only [zae];rw [yqv hi (by omega),y0w];have f:i<(c.take i++(⟨d[k],0⟩:Sta)::c.drop i).length:=by simp;omega
    rw [zeu f,y8n f,zxe f,z27 k (by omega)];have e:(c.take i++(⟨d[k],0⟩:Sta)::c.drop i).set i (⟨(c.take i++(⟨d[k],0⟩:Sta)::c.drop i)[i].fScope,t⟩:Sta)=opS c d[k] t:=by
     have j:(c.take i).length=i:=by rw [length_take];omega
     have g:(c.take i++(⟨d[k],0⟩:Sta)::c.drop i)[i].fScope=d[k]:=by
      rw [getElem_append_right (by omega)];simp [j]
     rw [g,set_append_right _ _ (by omega),j,Nat.sub_self,set_cons_zero];unfold opS;rw [v,q]
    rw [e];exact u
   ·rw [r,z05];simp only [z9u];rw [zeu o,y8n o,zxe o,z27 k (by omega)];have e:c.set i (⟨c[i].fScope,t⟩:Sta)=opS c d[k] t:=by
     rw [set_eq_take_append_cons_drop,if_pos o,B,v,q];rfl
    rw [e];exact u
  grind
def opL (l:List Sta)(c:List Int)(t:Int):List Sta:=c.foldl (fun l s=>opS l s t) l
theorem yl3 (n:Nat)(t:Int)(c:List Int)(l:List Sta)(d:SS l)(f:l.length+c.length<=1100000)(e:1100000<n):zjg n l c t=some (opL l c t):=by
 unfold zjg zct;rw [if_pos (by omega),zo8];have:=zzj n t c (by omega) (fun y=>some y) n 0 l (Nat.zero_le _) (by omega) d (by omega) (by omega);exact this
theorem ymp (t:Int):∀ (c:List Int) {l:List Sta},SS l->SS (opL l c t)
 |[],_,h=>h
 |s::c,l,h=>ymp t c (yig h s t)
theorem y4f (t:Int):∀ (c:List Int) (l:List Sta),(opL l c t).length<=l.length+c.length
 |[],l=>by simp [opL]
 |s::c,l=>by
  have h1:=y4f t c (opS l s t);have e:=ybu l s t;have d:opL l (s::c) t=opL (opS l s t) c t:=rfl;rw [d,length_cons];omega
theorem opL_mem (t:Int):∀ (c:List Int) {l:List Sta} {x:Sta},x∈opL l c t->(x.fScope∈c/\x.fTime=t)\/x∈l
 |[],l,x,h=>Or.inr h
 |s::c,l,x,h=>by
  rcases opL_mem t c (l:=opS l s t) h with k|k
  ·simp_all
  ·rcases opS_mem k with q|q
   all_goals simp_all
theorem fidx_cases (p:α->Bool):∀ l:List α,(l.find? p=none/\fidx p l=-1)\/∃ i,∃ h:i<l.length,fidx p l=(i:Int)/\l.find? p=some l[i]
 |[]=>Or.inl ⟨rfl,rfl⟩
 |x::l=>by
  by_cases q:p x=true
  ·refine Or.inr ⟨0,by simp,?_,?_⟩
   ·unfold fidx;rw [findIdx?_cons,if_pos q]
   ·rw [find?_cons];simp [q]
  ·rcases fidx_cases p l with ⟨h1,c⟩|⟨i,hi,h1,c⟩
   ·refine Or.inl ⟨by rw [find?_cons];simp [q,h1],?_⟩;unfold fidx at c ⊢;grind
   ·refine Or.inr ⟨i+1,by simp;omega,?_,by rw [find?_cons];simp [q,c]⟩;unfold fidx at h1 ⊢;grind
theorem zzl (n:Nat)(t:Int)(l:List Sta)(j:l.length<=1100000)(f:l.length<n)(xs:List Lim)(g:xs.length<=1100000):∀ (m k:Nat),k<=xs.length->xs.length<m+k->zby n t xs l (some true) m (k:Int)=some ((xs.drop k).all (keP l t))
 |0,k,h1,o=>by omega
 |m+1,k,h1,o=>by
  unfold zby;simp only [length_map,z0f,z3g,z1s,zdl,z9u];by_cases h:k<xs.length
  ·rw [if_pos (by omega),z0r h,z0e xs k h,all_cons,z27 k (by omega),zzl n t l j f xs g m (k+1) (by omega) (by omega),y89 n _ (fun s=>decide (s.fScope=xs[k].fScope)) l (by omega) f (fun s _=>rfl),z05];rcases fidx_cases (fun s:Sta=>decide (s.fScope=xs[k].fScope)) l with ⟨d,c⟩|⟨i,hi,d,c⟩
   ·rw [c,if_pos (by omega)];unfold keP;rw [d];rfl
   ·rw [d,if_neg (by omega),z0r hi];have e:keP l t xs[k]=decide (IntKind.wrap .i64 (t-l[i].fTime)<=xs[k].fSpan):=by unfold keP;rw [c]
    grind
  ·rw [if_neg (by omega),drop_eq_nil_of_le (by omega)];rfl
theorem yl4 (n:Nat)(t:Int)(l:List Sta)(d:l.length<=1100000)(e:1100000<n)(xs:List Lim)(c:xs.length<=1100000):zjh n l xs t=some (xs.all (keP l t)):=by
 have:=zzl n t l d (by omega) xs c n 0 (by omega) (by omega);unfold zjh;simp_all
def clP (cs:List Int)(x:Sta):Bool:=cs.any fun y=>decide (x.fScope=y)
theorem yob (n:Nat)(x:Ed)(c:x.fCloses.length<=1100000)(d:1100000<n)(s:Sta):z5x n s x=some (clP x.fCloses s):=by
 unfold z5x;rw [zt8 n _ _ (by omega) (by omega),z05];rfl
theorem yl8 (n:Nat)(x:Ed)(c:x.fCloses.length<=1100000)(d:1100000<n)(s:Sta):z4b n s x=some (clP x.fCloses s,x):=by
 unfold z4b;rw [zt8 n _ _ (by omega) (by omega),z05];rfl
abbrev ncl (x:Ed)(s:Sta):Bool:=!clP x.fCloses s
theorem y4c (n:Nat)(x:Ed)(f:x.fCloses.length<=1100000)(g:1100000<n)(l:List Sta)(u:l.length<=1100000)(K:Int->Int->Int->Int->Int->Int->List AV->Int->Int->Int->Int->Int->ByteArray->List Int->List Int->List AV->List z1j->List Int->List Sta->Option (List Sta×Ed))(r:Option (List Sta×Ed))
  (y:∀ (i:Nat) (c:List Sta),c.length=l.length->i<=l.length->c.take i=l.filter (ncl x)->K (i:Int) x.fFrom x.fTo x.fVar x.fType x.fCond.fOp x.fCond.fArgs x.fCond.fVar x.fCond.fField x.fCond.fKind x.fCond.fValue.fKind x.fCond.fValue.fNum x.fCond.fValue.fText x.fOpens x.fCloses x.fChecks x.fLimits x.fInside c=r) :
  ∀ (m i j:Nat) (c:List Sta),i<=j->j<=l.length->l.length<m+j->c.length=l.length->c.take i=(l.take j).filter (ncl x)->c.drop j=l.drop j->z75 n K m ((i:Int),(j:Int),x.fFrom,x.fTo,x.fVar,x.fType,x.fCond.fOp,x.fCond.fArgs,x.fCond.fVar,x.fCond.fField,x.fCond.fKind,x.fCond.fValue.fKind,x.fCond.fValue.fNum,x.fCond.fValue.fText,x.fOpens,x.fCloses,x.fChecks,x.fLimits,x.fInside,c)=r
 |0,i,j,c,A,h1,z,t,s,p=>by omega
 |m+1,i,j,c,A,h1,z,t,s,p=>by
  unfold z75;simp only [length_map,z0f];by_cases h:j<l.length
  ·have o:j<c.length:=by omega
   rw [if_pos (by omega),zeu o,zia o,z27 i (by omega),z27 j (by omega)];have B:z4b n c[j] (⟨x.fFrom,x.fTo,x.fVar,x.fType,⟨x.fCond.fOp,x.fCond.fArgs,x.fCond.fVar,x.fCond.fField,x.fCond.fKind,⟨x.fCond.fValue.fKind,x.fCond.fValue.fNum,x.fCond.fValue.fText⟩⟩,x.fOpens,x.fCloses,x.fChecks,x.fLimits,x.fInside⟩:Ed)=some (clP x.fCloses c[j],x):=yl8 n x f g c[j];rw [B,zbr];simp only;have k:c[j]=l[j]:=by
    have:=congrArg (fun q=>q[0]?) p;simp only [getElem?_drop,Nat.add_zero,getElem?_eq_getElem o,getElem?_eq_getElem h,Option.some.injEq] at this;exact this
   have w:c.drop (j+1)=l.drop (j+1):=by
    have:=congrArg List.tail p;simpa using this
   have e:(l.take (j+1)).filter (ncl x)=(l.take j).filter (ncl x)++(if ncl x l[j]=true then [l[j]] else []):=by
    rw [take_succ_eq_append_getElem h,filter_append,filter_cons];rfl
   rw [k];cases v:clP x.fCloses l[j] with
   |false =>
    have hi:i<c.length:=by omega
    simp only [Bool.not_false,z9u];rw [zeu hi,zxe hi];have d:ncl x l[j]=true:=by unfold ncl;rw [v];rfl
    rw [d] at e;refine y4c n x f g l u K r y m (i+1) (j+1) _ (by omega) (by omega) (by omega) (by simp [t]) ?_ ?_
    ·rw [e,if_pos rfl,<-s,take_succ_eq_append_getElem (by simpa using hi)];simp [take_set_of_le]
    ·rw [<-w,drop_set_of_lt (by omega)]
   |true =>
    simp only [Bool.not_true,zae];have d:ncl x l[j]=false:=by unfold ncl;rw [v];rfl
    rw [d] at e;exact y4c n x f g l u K r y m i (j+1) _ (by omega) (by omega) (by omega) t (by rw [e,s];simp) w
  grind
theorem yl7 (n:Nat)(x:Ed)(m:x.fCloses.length<=1100000)(p:1100000<n)(l:List Sta)(u:l.length<=1100000):zdj n x l=some (l.filter (ncl x),x):=by
 unfold zdj;rw [y88 n x (clP x.fCloses) l (by omega) (by omega) (fun s _=>yob n x m p s),z05];rcases fidx_cases (clP x.fCloses) l with ⟨h,g⟩|⟨i,hi,h,g⟩
 ·rw [g,z0f,if_pos rfl,filter_eq_self.2 (fun s o=>?_)];simp_all
 ·rw [h,z0f,if_neg (by omega),z27 i (by omega)];have d:∀ s∈l.take i,ncl x s=true:=fun s o=>by
   obtain ⟨k,v,rfl⟩:=mem_iff_getElem.1 o;rw [length_take] at v;rw [getElem_take];have w:l.findIdx? (clP x.fCloses)=some i:=by
    unfold fidx at h;cases z:l.findIdx? (clP x.fCloses) with
    |none=>simp_all
    |some j=>grind
   have:=(findIdx?_eq_some_iff_getElem.1 w).2.2 k (by omega);simpa [ncl] using this
  have f:ncl x l[i]=false:=by
   have:=find?_some g;simp [ncl,this]
  refine y4c n x m p l u _ _ (fun q c A y t=>?_) n i (i+1) l (by omega) (by omega) (by omega) rfl ?_ rfl
  ·simp only [length_map];rw [zzt (by omega),yji (by omega)];have r:=y60 c q (⟨0,0⟩:Sta) (by omega);have:=zri (l:=clrL c q (⟨0,0⟩:Sta)) (a:=0) (b:=q) (by omega) (by omega) (fun e=>some (e,x));refine this.trans ?_;rw [drop_zero,y0p c q _ (by omega),t]
  ·rw [take_succ_eq_append_getElem hi,filter_append,filter_eq_self.2 d];simp [f]
theorem yr9 (cs:List Int):∀ l:List Sta,cs.foldl clS l=l.filter (fun s=>!clP cs s):=by
 induction cs with
 |nil=>intro l;exact (filter_eq_self.2 (fun _ _=>rfl)).symm
 |cons c cs d =>
  intro l;rw [foldl_cons,d];unfold clS;rw [filter_filter];refine filter_congr (fun s _=>?_);unfold clP;grind
end Go.Proofs.YtidhlpjgifoneaaGreat
