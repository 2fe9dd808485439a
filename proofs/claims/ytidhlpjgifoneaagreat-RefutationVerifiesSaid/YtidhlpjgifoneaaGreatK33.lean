/- Layers 17 and 25, plainly. -/
import Derived.Test.YtidhlpjgifoneaaGreatK32
set_option linter.unusedVariables false
set_option linter.unusedSimpArgs false
namespace Go.Proofs.YtidhlpjgifoneaaGreat
open Go.RowKit List
open List renaming take_succ_eq_append_getElem->aA,length_map->aB,filter_eq_self->aC,getElem?_eq_getElem->aE,drop_eq_nil_of_le->aF,foldl_cons->aG,pairwise_cons->aH,filter_eq_nil_iff->aJ,find?_cons->aL,getD_eq_getElem?_getD->aM,getElem_mem->aN,filter_append->aO,filter_filter->aP,filter_cons->aR,replicate->aT
open IntKind renaming wrap->aD,bits->aU
open Option renaming getD_some->aK
open Int renaming natCast_zero->aQ,toNat->aS
abbrev Rf:=Bg
abbrev N0:Nat:=2000000000
abbrev ev0:Ev:=⟨0,0,0,0,[]⟩
variable {β:Type}
theorem X3 {e d:Type}[DecidableEq e](l:List (e×d))(k:e)(z:d)(c:d->Bool->Option β):mgv l k z c=c ((mlk l k).getD z) (mlk l k).isSome:=by unfold mgv;rfl
theorem zwv {n:Int}(c:0<=n)(h:n<=1000)(k:Nat->Option β):mkn n 24 k=k n.toNat:=by unfold mkn;grind
theorem zwq (i:Nat)(x:Option β):nst i x=x:=by unfold nst;rfl
theorem zxb (i:Nat)(x:Option β):frr i x=x:=by unfold frr;rfl
theorem Dl {n:Int}{len:Nat}(c:0<=n)(h:n.toNat<len)(x:Option β):ncx n len x=x:=by unfold ncx;rw [if_pos ⟨c,h⟩]
variable {α:Type}{l:List (List α)}
theorem zwp {k:Nat}(h:k<l.length)(c:List α->Option β):ntk l k c=c (l.getD k []):=by unfold ntk;simp [h]
theorem zws {k:Nat}(h:k<l.length)(v:List α)(c:List (List α)->Option β):npt l k v c=c (l.set k v):=by unfold npt;rw [if_pos h]
theorem zsq:∀ (l p:List Ev),chk p l=0->(∀ e∈l,Cl e=true)/\Str Co l/\(∀ h t,p=h::t->∀ e∈l,Co h e<0)
 |[],p,_=>⟨by simp,by simp [Str],by simp⟩
 |e::l,p,h=>by
  unfold chk at h;split at h
  ·cases h
  split at h
  ·cases h
  split at h
  ·cases h
  rename_i h1 g n;obtain ⟨o,m,j⟩:=zsq l (e::p) h;have f:=j e p rfl;refine ⟨fun x c=>?_,aH.2 ⟨f,m⟩,fun q t i x c=>?_⟩
  ·grind
  ·have d:Co q e<0:=by
    subst i;simp only [Sy] at g;simpa using g
   rcases mem_cons.1 c with k|k
   ·rw [k];exact d
   ·exact Jk.trans _ _ _ d (f x k)
structure y4g (l:List Ev):Prop where
 pl:∀ e∈l,Cl e=true
 st:Str Co l
 ln:l.length<=4096
theorem zcn {l:List Ev}(h:Du l=0):y4g l:=by
 unfold Du at h;split at h
 ·cases h
 ·obtain ⟨a,b,_⟩:=zsq l [] h;exact ⟨a,b,by omega⟩
def lkH (held:List Ev)(r:Rf):Option Ev:=held.find? (fun e=>decide (Bm e=r))
variable {held:List Ev}
theorem zi7 {r:Rf}{e:Ev}(h:lkH held r=some e):Bm e=r/\e∈held:=by
 have h1:=find?_some h;exact ⟨by simpa using h1,mem_of_find?_eq_some h⟩
theorem zx4 (h:Str Co held){e:Ev}(c:e∈held):lkH held (Bm e)=some e:=by
 unfold lkH
 induction held with
 |nil=>simp at c
 |cons x l ih =>
  obtain ⟨h1,d⟩:=aH.1 h;rw [aL];rcases mem_cons.1 c with k|k
  ·rw [k];simp
  ·have:Bm x≠Bm e:=fun q=>Jk.lt_ne (h1 e k) q
   simp only [this,decide_false];exact ih d k
theorem zx5 (a b:List Ev)(r:Rf):lkH (a++b) r=(lkH a r).or (lkH b r):=by unfold lkH;rw [find?_append]
theorem zgh (n:Nat)(r:Rf)(l:List Ev)(c:l.length<=1000000):∀ (m k:Nat),k<=l.length->l.length<m+k->Pn n r l (some (ev0,false)) m (k:Int)=some (match lkH (l.drop k) r with|some e=>(e,true)|none=>(ev0,false))
 |0,k,h1,d=>by omega
 |m+1,k,h1,d=>by
  unfold Pn;simp only [aB,A5];by_cases h:k<l.length
  ·rw [if_pos (by omega),A9 h,B1 l k h,Ae k (by omega),zgh n r l c m (k+1) (by omega) (by omega),y2u,A3,A9 h];have:(decide (l[k].fTime=r.fTime) && (decide (l[k].fSource=r.fSource) && (decide (l[k].fSeq=r.fSeq) && true)))=decide (Bm l[k]=r):=by
    cases r;simp [Bm]
   rw [this,A5];unfold lkH;grind
  ·rw [if_neg (by omega),aF (by omega)];rfl
theorem zwd (n:Nat)(r:Rf)(l:List Ev)(c:l.length<=1000000)(d:l.length<n):M4 n l r=some (match lkH l r with|some e=>(e,true)|none=>(ev0,false)):=by
 have:=zgh n r l c n 0 (by omega) (by omega);unfold M4;simp_all
def HM (held:List Ev)(c:List (Rf×Ev)):Prop:=∀ r,mlk c r=lkH held r
theorem zxa (r:Rf):∀ (l:List Ev) (m:List (Rf×Ev)),Str Co l->mlk (l.foldl (fun m e=>mput m (Bm e) e) m) r=(lkH l r).or (mlk m r)
 |[],m,_=>by simp [lkH]
 |e::l,m,h=>by
  obtain ⟨h1,f⟩:=aH.1 h;rw [aG,zxa r l _ f,zs1];unfold lkH;rw [aL];by_cases q:Bm e=r
  ·have:lkH l r=none:=by
    unfold lkH;rw [find?_eq_none];intro x d c;simp only [decide_eq_true_eq] at c;exact Jk.lt_ne (h1 x d) (by rw [q,c])
   unfold lkH at this;rw [this];simp [q]
  grind
def addB (held:List Ev)(vs:List (List Ev))(b:Bd):List (List Ev):=match lkH held b.fRef with|some e=>(if 0<=b.fVar/\b.fVar.toNat<vs.length then vs.set b.fVar.toNat (vs.getD b.fVar.toNat []++[e]) else vs)|none=>vs
def bndV (held:List Ev)(m:Nat)(l:List Bd):List (List Ev):=l.foldl (addB held) (aT m [])
def ev1 (held:List Ev)(l:List Bd)(v:Int):List Ev:=l.filterMap (fun b=>if b.fVar=v then lkH held b.fRef else none)
theorem Zv (held:List Ev)(vs:List (List Ev))(b:Bd):(addB held vs b).length=vs.length:=by
 unfold addB;grind
theorem zsx {vs:List (List Ev)}{b:Bd}{k:Nat}(h:∀ q∈vs,q.length<=k):∀ q∈addB held vs b,q.length<=k+1:=by
 unfold addB;grind
theorem zmb (held:List Ev):∀ (l:List Bd) (vs:List (List Ev)),(l.foldl (addB held) vs).length=vs.length
 |[],vs=>rfl
 |b::l,vs=>by rw [aG,zmb held l,Zv]
theorem Nu (held:List Ev)(m:Nat)(l:List Bd):(bndV held m l).length=m:=by unfold bndV;rw [zmb];simp
theorem y17 (held:List Ev)(vs:List (List Ev))(b:Bd)(i:Nat)(hi:i<vs.length):(addB held vs b).getD i []=vs.getD i []++(if b.fVar=(i:Int) then lkH held b.fRef else none).toList:=by
 unfold addB;grind
theorem zmc (held:List Ev)(i:Nat):∀ (l:List Bd) (vs:List (List Ev)),i<vs.length->(l.foldl (addB held) vs).getD i []=vs.getD i []++ev1 held l (i:Int)
 |[],vs,hi=>by simp [ev1]
 |b::l,vs,hi=>by
  rw [aG,zmc held i l _ (by rw [Zv];exact hi),y17 held vs b i hi];unfold ev1;grind
theorem Jh (held:List Ev)(m:Nat)(l:List Bd)(v:Int):evs (bndV held m l) v=if 0<=v/\v<(m:Int) then ev1 held l v else []:=by
 unfold evs;rw [Nu];by_cases h1:v<0
 ·rw [if_pos h1,if_neg (by omega)]
 rw [if_neg h1];by_cases c:(m:Int)<=v
 ·rw [if_pos c,if_neg (by omega)]
 rw [if_neg c,if_pos (by omega)];unfold bndV;rw [zmc held v.toNat l _ (by simp;omega)];grind
theorem y44 (held:List Ev)(l:List Bd)(v:Int):(ev1 held l v).length<=l.length:=length_filterMap_le _ _
theorem y0q {l:List Bd}{v:Int}(h:∀ b∈l,b.fVar≠v):ev1 held l v=[]:=by
 unfold ev1;simp_all
abbrev enH (held:List Ev)(l:List Bd):List (List Ev):=bndV held 16 l
theorem Jl {l:List Bd}(h:l.length<=1000000)(v:Int):(evs (enH held l) v).length<=1000000:=by
 rw [Jh];split
 ·have:=y44 held l v;omega
 ·simp
theorem zgm (n:Nat)(held:List Ev)(j:held.length<=1000000)(u:1000000<n)(x:Nat)(p:x<=16)(l:List Bd)(w:l.length<=1000000)(K:List (List Ev)->Option Ao):∀ (m k:Nat) (vs:List (List Ev)),k<=l.length->l.length<m+k->vs.length=x->(∀ q∈vs,q.length<=k)->Fn n l (x:Int) held x K m ((k:Int),vs)=K ((l.drop k).foldl (addB held) vs)
 |0,k,vs,h1,y,o,g=>by omega
 |m+1,k,vs,h1,y,o,g=>by
  unfold Fn;simp only [aB,A5];by_cases h:k<l.length
  ·rw [if_pos (by omega),A9 h,B1 l k h,Ae k (by omega),zwd n _ held j (by omega),A3,Am,aG];have s:(⟨l[k].fRef.fTime,l[k].fRef.fSource,l[k].fRef.fSeq⟩:Rf)=l[k].fRef:=rfl;rw [s];have f:∀ c,c=addB held vs l[k]->Fn n l (x:Int) held x K m (((k+1:Nat):Int),c)=K ((l.drop (k+1)).foldl (addB held) (addB held vs l[k])):=fun c r=>by
    subst r;exact zgm n held j u x p l w K m (k+1) _ (by omega) (by omega) (by rw [Zv];exact o) (zsx g)
   cases t:lkH held l[k].fRef with
   |none =>
    simp only [Aq];exact f vs (by unfold addB;rw [t])
   |some e =>
    simp only [Ap];by_cases d:0<=l[k].fVar
    ·rw [if_pos d];by_cases i:l[k].fVar<(x:Int)
     ·rw [if_pos i,Dl d (by omega),zwp (by omega)];have v:(vs.getD l[k].fVar.toNat []).length<=k:=by
       rw [aM,aE (by omega),aK];exact g _ (aN _)
      rw [C1 (by grind) (by omega),Dl d (by omega),zws (by omega)];exact f _ (by unfold addB;simp_all)
     ·rw [if_neg i];exact f vs (by unfold addB;grind)
    ·rw [if_neg d];exact f vs (by unfold addB;grind)
  ·rw [if_neg (by omega),aF (by omega)];rfl
theorem zvs (n:Nat)(f:1000000<n)(held:List Ev)(h:held.length<=1000000)(c:Cf)(g:c.fBindings.length<=1000000):Mh n held c=some ⟨enH held c.fBindings⟩:=by
 unfold Mh Xz;rw [zwv (by omega) (by omega),zwq,Am];have:=zgm n held h f 16 (by omega) c.fBindings g (fun k1_0_0y=>frr 13 <| reg <| some ⟨k1_0_0y⟩) n 0 (aT 16 []) (by omega) (by omega) (by simp) (by simp);simp only [aQ] at this;have e:aS 16=16:=rfl;have d:((16:Nat):Int)=16:=rfl;rw [e];rw [d] at this;rw [this,zxb,Am,A3];rfl
def BdOk (held:List Ev)(x:Int)(l:List Bd):Prop:=∀ b∈l,(0<=b.fVar/\b.fVar<x)/\(lkH held b.fRef).isSome=true
theorem zri (n:Nat)(held:List Ev)(r:B9)(hm:HM held r.fheld)(x:Nat)(o:x<=16)(l:List Bd)(t:l.length<=1000000)(g:BdOk held (x:Int) l)(K:List (List Ev)->Option Ao):∀ (m k:Nat) (vs:List (List Ev)),k<=l.length->l.length<m+k->vs.length=x->(∀ q∈vs,q.length<=k)->Re n l r x K m ((k:Int),vs)=K ((l.drop k).foldl (addB held) vs)
 |0,k,vs,h1,v,i,d=>by omega
 |m+1,k,vs,h1,v,i,d=>by
  unfold Re;simp only [aB,A5];by_cases h:k<l.length
  ·obtain ⟨⟨c,w⟩,j⟩:=g _ (aN h);obtain ⟨e,f⟩:=Option.isSome_iff_exists.1 j;have p:(⟨l[k].fRef.fTime,l[k].fRef.fSource,l[k].fRef.fSeq⟩:Rf)=l[k].fRef:=rfl;have s:(vs.getD l[k].fVar.toNat []).length<=k:=by
    rw [aM,aE (by omega),aK];exact d _ (aN _)
   rw [if_pos (by omega),A9 h,B1 l k h,Ae k (by omega),aG,Dl c (by omega),zwp (by omega),p,X3,hm,f,aK,C1 (by grind) (by omega),Dl c (by omega),zws (by omega)];have u:addB held vs l[k]=vs.set l[k].fVar.toNat (vs.getD l[k].fVar.toNat []++[e]):=by
    unfold addB;rw [f];simp only;rw [if_pos ⟨c,by omega⟩]
   rw [<-u];exact zri n held r hm x o l t g K m (k+1) _ (by omega) (by omega) (by rw [Zv];exact i) (zsx d)
  grind
theorem y7b (n:Nat)(g:1000000<n)(held:List Ev)(r:B9)(hm:HM held r.fheld)(d:0<=r.fa.fVars/\r.fa.fVars<=16)(l:List Bd)(e:l.length<=1000000)(f:BdOk held r.fa.fVars l):Vh n r l=some ⟨bndV held r.fa.fVars.toNat l⟩:=by
 unfold Vh;rw [zwv d.1 (by omega),zwq,Am];have c:((r.fa.fVars.toNat:Nat):Int)=r.fa.fVars:=by omega
 have:=zri n held r hm r.fa.fVars.toNat (by omega) l e (by rw [c];exact f) (fun k1_0_0y=>frr 13 <| reg <| some ⟨k1_0_0y⟩) n 0 (aT r.fa.fVars.toNat []) (by omega) (by omega) (by simp) (by simp);simp only [aQ] at this;rw [this,zxb,Am];rfl
def EvEq (a b:List (List Ev)):Prop:=∀ v,evs a v=evs b v
theorem zxm {x:Int}(e:0<=x/\x<=16){l:List Bd}(d:BdOk held x l):EvEq (enH held l) (bndV held x.toNat l):=fun v=>by
 rw [Jh,Jh];by_cases h:0<=v/\v<x
 ·grind
 ·rw [if_neg (by omega:¬(0<=v/\v<((x.toNat:Nat):Int)))];split
  ·exact y0q (fun b c q=>by have:=(d b c).1;omega)
  ·rfl
def EvS (a:List (List Ev)):Prop:=∀ v,(evs a v).length<=1000000
def trR (a:List (List Ev))(e:Exn)(own:Int)(ev:Ev):Bool:=(Ft N0 e ⟨a⟩ own ev).getD false
variable {a b:List (List Ev)}
theorem O5 (c:EvEq a b)(k:EvS a){e:Exn}(h:WfE e)(own:Int)(ev:Ev):Ft N0 e ⟨a⟩ own ev=some (trR a e own ev)/\Jb N0 e ⟨b⟩ own ev=some (trR a e own ev):=by
 obtain ⟨z,g,j⟩:=h;obtain ⟨r,d,f⟩:=zvl a b k own ev z e (fun i _=>c i) j g N0 (by decide);have:trR a e own ev=r:=by unfold trR;rw [d];rfl
 rw [this];exact ⟨d,f⟩
theorem y2c {e:Exn}(d:∀ i:Nat,Occ i e->evs a (i:Int)=evs b (i:Int))(k:EvS a)(c:EvS b)(j:WfE e)(own:Int)(ev:Ev):trR a e own ev=trR b e own ev:=by
 obtain ⟨z,f,g⟩:=j;obtain ⟨r,h,m⟩:=zvl a b k own ev z e d g f N0 (by decide);have h1:trR a e own ev=r:=by unfold trR;rw [h];rfl
 have n:=(O5 (fun v=>rfl:EvEq b b) c ⟨z,f,g⟩ own ev).2;simp_all
def vio (a:List (List Ev))(e:Ev)(g:Gd):Bool:=decide (g.fType=e.fType) && trR a g.fCond g.fVar e
theorem zvn (d:EvS a){g:Gd}(c:WfE g.fCond)(e:Ev):Ph N0 g ⟨a⟩ e=some (vio a e g):=by
 unfold Ph vio;simp only [Ax,Am,K3,A5];have:=(O5 (fun v=>rfl:EvEq a a) d c g.fVar e).1;rw [this,A3];by_cases h:g.fType=e.fType<;>simp [h]
theorem y1e (c:EvEq a b)(f:EvS a){g:Gd}(d:WfE g.fCond)(e:Ev):S6 N0 g ⟨b⟩ e=some (vio a e g):=by
 unfold S6 vio;simp only [Ax,Am,Ms,A5];have:=(O5 c f d g.fVar e).2;rw [this,A3];by_cases h:g.fType=e.fType<;>simp [h]
abbrev Lim:=C4
def SS (l:List Sta):Prop:=l.Pairwise (fun x y=>x.fScope<y.fScope)
def opS (l:List Sta)(s t:Int):List Sta:=l.filter (fun x=>decide (x.fScope<s))++(⟨s,t⟩:Sta)::l.filter (fun x=>decide (s<x.fScope))
def clS (l:List Sta)(s:Int):List Sta:=l.filter (fun x=>!decide (x.fScope=s))
theorem opS_mem {l:List Sta}{s t:Int}{x:Sta}(h:x∈opS l s t):x=⟨s,t⟩\/x∈l:=by
 unfold opS at h;grind
theorem zwn {l:List Sta}(h:SS l)(s t:Int):SS (opS l s t):=by
 unfold opS SS;rw [pairwise_append];refine ⟨h.filter _,aH.2 ⟨fun x c=>by simp_all,h.filter _⟩,fun x c y d=>?_⟩;grind
theorem zp9 (l:List Sta)(s t:Int):(opS l s t).length<=l.length+1:=by
 unfold opS;rw [length_append,length_cons]
 induction l with
 |nil=>simp
 |cons x l ih =>
  grind
theorem zqn {l:List Sta}(h:SS l){s:Int}{i:Nat}(hi:i<=l.length)(h1:∀ k (d:k<l.length),k<i->l[k].fScope<s)(o:∀ d:i<l.length,¬l[i].fScope<s):l.take i=l.filter (fun x=>decide (x.fScope<s))/\((∀ d:i<l.length,l[i].fScope≠s)->l.drop i=l.filter (fun x=>decide (s<x.fScope)))/\(∀ d:i<l.length,l[i].fScope=s->l.drop (i+1)=l.filter (fun x=>decide (s<x.fScope))):=by
 have e:∀ x∈l.take i,x.fScope<s:=fun x c=>by
  obtain ⟨k,d,rfl⟩:=mem_iff_getElem.1 c;grind
 have m:∀ d:i<l.length,∀ x∈l.drop (i+1),l[i].fScope<x.fScope:=fun d x c=>by
  have:=h.drop (i:=i);rw [B1 l i d] at this;exact (aH.1 this).1 x c
 have j:∀ x∈l.drop i,s<=x.fScope:=fun x c=>by
  by_cases d:i<l.length
  ·rw [B1 l i d] at c;grind
  grind
 have f:∀ p:Sta->Bool,l.filter p=(l.take i).filter p++(l.drop i).filter p:=fun p=>by rw [<-aO,take_append_drop]
 refine ⟨?_,fun g=>?_,fun d n=>?_⟩
 ·rw [f,aC.2 (fun x c=>by simpa using e x c),aJ.2 (fun x c=>by have:=j x c;simp;omega),append_nil]
 ·rw [f,aJ.2 (fun x c=>by have:=e x c;simp;omega),nil_append,aC.2 (fun x c=>?_)];by_cases d:i<l.length
  ·rw [B1 l i d] at c;grind
  grind
 ·rw [f,aJ.2 (fun x c=>by have:=e x c;simp;omega),nil_append,B1 l i d,aR,if_neg (by simp;omega),aC.2 (fun x c=>by have:=m d x c;simp;omega)]
theorem zad (n:Nat)(s:Int)(l:List Sta)(c:l.length<=1100000)(K:List Sta->Option (List Sta)):∀ (m k:Nat) (out:List Sta),k<=l.length->l.length<m+k->out.length<=k->Kh n s l K m ((k:Int),out)=K (out++(l.drop k).filter (fun x=>!decide (x.fScope=s)))
 |0,k,out,h1,g,f=>by omega
 |m+1,k,out,h1,g,f=>by
  unfold Kh;simp only [aB,A5,Aj];by_cases h:k<l.length
  ·have e:=zad n s l c K m (k+1) (out++[l[k]]) (by omega) (by omega) (by simp_all);have d:=zad n s l c K m (k+1) out (by omega) (by omega) (by omega);rw [if_pos (by omega),Am,A9 h,A9 h,B1 l k h,Ae k (by omega),C1 (by grind) (by omega),e,d,aR];grind
  grind
theorem zrl (n:Nat)(s:Int)(l:List Sta)(c:l.length<=1100000)(d:l.length<n):Qf n l s=some (clS l s):=by
 have:=zad n s l c (fun y=>some y) n 0 [] (by omega) (by omega) (by simp);unfold Qf clS;simp_all
theorem zc2 (n:Nat)(s t:Int)(l:List Sta)(f:l.length<=1100000)(K:List Sta->Int->List Sta->Option (List Sta))(r:Option (List Sta))
  (d:∀ i:Nat,i<=l.length->(∀ k (c:k<l.length),k<i->l[k].fScope<s)->(∀ c:i<l.length,¬l[i].fScope<s)->K l (i:Int) (l.take i)=r) :
  ∀ (m k:Nat),k<=l.length->l.length<m+k->(∀ j (o:j<l.length),j<k->l[j].fScope<s)->Hz n t s l K m ((k:Int),l.take k)=r
 |0,k,h1,p,e=>by omega
 |m+1,k,h1,p,e=>by
  unfold Hz;simp only [aB,A5,Ax,Am,Kg];by_cases h:k<l.length
  ·rw [if_pos (by omega),A9 h];by_cases q:l[k].fScope<s
   ·rw [if_pos q,A9 h,C1 (by grind) (by omega),Ae k (by omega),<-aA h];exact zc2 n s t l f K r d m (k+1) (by omega) (by omega) (fun j o g=>by
     grind)
   ·rw [if_neg q];exact d k h1 e (fun _=>q)
  ·rw [if_neg (by omega),Aq];exact d k h1 e (fun c=>absurd c h)
theorem y6h {l:List Sta}(h:SS l)(s:Int):SS (clS l s):=h.filter _
theorem zy2 (l:List Sta)(s:Int):(clS l s).length<=l.length:=length_filter_le _ _
theorem zvq (n:Nat)(s t:Int)(l:List Sta)(g:SS l)(k:l.length<=1100000)(h:l.length<n):Ty n l s t=some (opS l s t):=by
 unfold Ty;rw [zrl n s l k h,A3];have r:=zy2 l s;refine zc2 n s t (clS l s) (by omega) _ _ (fun i hi h1 m=>?_) n 0 (by omega) (by omega) (fun j _ q=>by omega);obtain ⟨p,o,_⟩:=zqn (y6h g s) hi h1 m;have e:∀ f:i<(clS l s).length,(clS l s)[i].fScope≠s:=fun f=>by
  have:=(mem_filter.1 (aN f)).2;simpa using this
 have:=Ea (l:=clS l s) hi (Nat.le_refl _) (fun d=>app ((clS l s).take i++[⟨s,t⟩]) d 16 fun c=>some c);rw [C1 (by grind) (by omega)];simp only [aB];rw [this,take_length,C1 (by grind) (by omega),p,o e];unfold opS clS;rw [aP,aP,append_assoc];congr 2;all_goals grind
def keP (l:List Sta)(t:Int)(x:Lim):Bool:=match l.find? (fun s=>decide (s.fScope=x.fScope)) with|some s=>decide (aD .i64 (t-s.fTime)<=x.fSpan)|none=>false
theorem zlp (n:Nat)(t:Int)(x:Lim)(l:List Sta)(c:l.length<=1100000):∀ (m k:Nat),k<=l.length->l.length<m+k->Q6 n t x l (some false) m (k:Int)=some (keP (l.drop k) t x)
 |0,k,h1,d=>by omega
 |m+1,k,h1,d=>by
  unfold Q6;simp only [aB,A5];by_cases h:k<l.length
  ·rw [if_pos (by omega),A9 h,A9 h,B1 l k h,Ae k (by omega),zlp n t x l c m (k+1) (by omega) (by omega)];unfold keP;grind
  ·rw [if_neg (by omega),aF (by omega)];rfl
theorem y5g (n:Nat)(t:Int)(x:Lim)(l:List Sta)(c:l.length<=1100000)(d:l.length<n):Ud n l x t=some (keP l t x):=by
 have:=zlp n t x l c n 0 (by omega) (by omega);unfold Ud;simp_all
theorem y6r (x:Int)(c:0<=x)(h1:x<=18446744073709551615):aD .u64 x=x:=IntWalk.u64_in _ ⟨c,h1⟩
theorem y3s (i j:Nat)(h:i+j<=3000000):aD .i64 (Int.fdiv (aD .u64 (aD .i64 ((i:Int)+(j:Int)))) (2 ^ min (aS (1:Int)) (aU .u64)))=(((i+j) / 2:Nat):Int):=by
 have e:aD .i64 ((i:Int)+(j:Int))=((i+j:Nat):Int):=by rw [Cq _ (by omega)];omega
 rw [e,y6r _ (by omega) (by omega)];have d:(2:Int) ^ min (aS (1:Int)) (aU .u64)=2:=by decide
 rw [d];have c:Int.fdiv ((i+j:Nat):Int) 2=(((i+j) / 2:Nat):Int):=by
  rw [Int.fdiv_eq_ediv_of_nonneg _ (by omega)];omega
 rw [c,Cq _ (by omega)]
theorem y2y (n:Nat)(a:Sta)(s:Int):N2 n a s=some (cmpI a.fScope s):=by
 unfold N2;rw [O7,A3]
theorem Wy (a b:Int):cmpI a b<0 ↔ a<b:=by unfold cmpI;split<;>(try split)<;>omega
theorem y24 (a b:Int):cmpI a b=0 ↔ a=b:=Hj.zero a b
theorem zp5 (n:Nat)(l:List Sta)(s:Int)(d:SS l)(o:l.length<=1100000)(K:Int->Option (Int×Bool))(r:Option (Int×Bool))
  (v:∀ i:Nat,i<=l.length->(∀ k (f:k<l.length),k<i->l[k].fScope<s)->(∀ f:i<l.length,¬l[i].fScope<s)->K (i:Int)=r) :
  ∀ (m i j:Nat),i<=j->j<=l.length->j-i<m->(∀ k (h:k<l.length),k<i->l[k].fScope<s)->(∀ k (h:k<l.length),j<=k->¬l[k].fScope<s)->Jz n s l K m ((i:Int),(j:Int))=r
 |0,i,j,h1,w,B,_,_=>by omega
 |m+1,i,j,h1,w,B,e,g=>by
  have mono:∀ a b (u:a<l.length) (t:b<l.length),a<=b->l[a].fScope<=l[b].fScope:=fun a b u t c=>by
   rcases Nat.eq_or_lt_of_le c with rfl|c
   ·exact Int.le_refl _
   ·have:=pairwise_iff_getElem.1 d a b u t c;omega
  unfold Jz;simp only [A5];by_cases h:i<j
  ·rw [if_pos (by omega),y4u (by omega),y3s i j (by omega)];have A:(i+j) / 2<l.length:=by omega
   rw [A9 A,y2y,A3,Ae _ (by omega)];by_cases p:l[(i+j) / 2].fScope<s
   ·rw [if_pos ((Wy _ _).2 p)];exact zp5 n l s d o K r v m ((i+j) / 2+1) j (by omega) w (by omega) (fun k f x=>by grind) g
   ·rw [if_neg (fun q=>p ((Wy _ _).1 q))];exact zp5 n l s d o K r v m i ((i+j) / 2) (by omega) (by omega) (by omega) e (fun k f y=>by grind)
  ·have z:i=j:=by omega
   simp_all
theorem p_bs (n:Nat)(l:List Sta)(s:Int)(t:SS l)(u:l.length<=1100000)(v:l.length<n):∃ i:Nat,i<=l.length/\l.take i=l.filter (fun x=>decide (x.fScope<s))/\((Pc n l s=some ((i:Int),false)/\l.drop i=l.filter (fun x=>decide (s<x.fScope)))\/∃ c:i<l.length,l[i].fScope=s/\Pc n l s=some ((i:Int),true)/\l.drop (i+1)=l.filter (fun x=>decide (s<x.fScope))):=by
 have key:∃ i:Nat,i<=l.length/\(∀ k (c:k<l.length),k<i->l[k].fScope<s)/\(∀ c:i<l.length,¬l[i].fScope<s):=by
  refine ⟨(l.takeWhile (fun x=>decide (x.fScope<s))).length,(takeWhile_sublist _).length_le,?_⟩;clear t u v
  induction l with
  |nil=>simp_all
  |cons x l ih =>
   rw [takeWhile_cons];grind
 obtain ⟨i,hi,h1,y⟩:=key;have uq:∀ j:Nat,j<=l.length->(∀ k (c:k<l.length),k<j->l[k].fScope<s)->(∀ c:j<l.length,¬l[j].fScope<s)->j=i:=fun j f m g=>by
  grind
 obtain ⟨B,A,z⟩:=zqn t hi h1 y;refine ⟨i,hi,B,?_⟩;unfold Pc;simp only [aB,A5];have bs:=fun r w=>zp5 n l s t u (fun k1_0_0y=>if k1_0_0y<((l.length:Nat):Int) then (idx l k1_0_0y fun p=>bnd (N2 n p s) fun o=>some (k1_0_0y,decide (o=0))) else some (k1_0_0y,false)) r w n 0 l.length (by omega) (by omega) (by omega) (fun k _ h=>by omega) (fun k c h=>by omega)
 by_cases e:∃ c:i<l.length,l[i].fScope=s
 ·obtain ⟨c,d⟩:=e;refine Or.inr ⟨c,d,bs _ (fun j f m g=>?_),z c d⟩;obtain rfl:=uq j f m g;rw [if_pos (by omega),A9 c,y2y,A3];have:cmpI l[j].fScope s=0:=(y24 _ _).2 d;simp [this]
 ·refine Or.inl ⟨bs _ (fun j f m g=>?_),A (fun c d=>e ⟨c,d⟩)⟩;obtain rfl:=uq j f m g;by_cases c:j<l.length
  ·rw [if_pos (by omega),A9 c,y2y,A3];have:¬cmpI l[j].fScope s=0:=fun q=>e ⟨c,(y24 _ _).1 q⟩
   simp [this]
  ·rw [if_neg (by omega)]
theorem y62 {n c:Nat}{a:List α}{x:α}(h:c<=a.length)(d:a.length<=1000000000):Sk n a (c:Int) [x]=some (a.take c++x::a.drop c):=by
 unfold Sk;simp [h,d]
theorem zdf (n:Nat)(t:Int)(d:List Int)(x:d.length<=1100000)(K:List Sta->Option (List Sta)):∀ (m k:Nat) (c:List Sta),k<=d.length->d.length<m+k->SS c->c.length+(d.length-k)<=1100000->c.length+(d.length-k)<n->J7 n t d K m ((k:Int),c)=K ((d.drop k).foldl (fun l s=>opS l s t) c)
 |0,k,c,h1,A,p,z,y=>by omega
 |m+1,k,c,h1,A,p,z,y=>by
  unfold J7;simp only [aB,A5,Aj,Ax,Am,Mx];by_cases h:k<d.length
  ·rw [if_pos (by omega),A9 h,B1 d k h,aG];have w:=zp9 c d[k] t;have u:=zdf n t d x K m (k+1) (opS c d[k] t) (by omega) (by omega) (zwn p _ _) (by omega) (by omega);obtain ⟨i,hi,v,C⟩:=p_bs n c d[k] p (by omega) (by omega);rcases C with ⟨r,q⟩|⟨o,B,r,q⟩
   ·rw [r,A3];simp only [Aq];rw [y62 hi (by omega),zej];have f:i<(c.take i++(⟨d[k],0⟩:Sta)::c.drop i).length:=by simp;omega
    rw [Ct f,X4 f,Jp f,Ae k (by omega)];have e:(c.take i++(⟨d[k],0⟩:Sta)::c.drop i).set i (⟨(c.take i++(⟨d[k],0⟩:Sta)::c.drop i)[i].fScope,t⟩:Sta)=opS c d[k] t:=by
     have j:(c.take i).length=i:=by rw [length_take];omega
     have g:(c.take i++(⟨d[k],0⟩:Sta)::c.drop i)[i].fScope=d[k]:=by
      rw [getElem_append_right (by omega)];simp [j]
     rw [g,set_append_right _ _ (by omega),j,Nat.sub_self,set_cons_zero];unfold opS;rw [v,q]
    rw [e];exact u
   ·rw [r,A3];simp only [Ap];rw [Ct o,X4 o,Jp o,Ae k (by omega)];have e:c.set i (⟨c[i].fScope,t⟩:Sta)=opS c d[k] t:=by
     rw [set_eq_take_append_cons_drop,if_pos o,B,v,q];rfl
    rw [e];exact u
  grind
def opL (l:List Sta)(c:List Int)(t:Int):List Sta:=c.foldl (fun l s=>opS l s t) l
theorem zzw (n:Nat)(t:Int)(c:List Int)(l:List Sta)(d:SS l)(f:l.length+c.length<=1100000)(e:1100000<n):W4 n l c t=some (opL l c t):=by
 unfold W4 Cg;rw [if_pos (by omega),Je];have:=zdf n t c (by omega) (fun y=>some y) n 0 l (Nat.zero_le _) (by omega) d (by omega) (by omega);exact this
theorem y1n (t:Int):∀ (c:List Int) {l:List Sta},SS l->SS (opL l c t)
 |[],_,h=>h
 |s::c,l,h=>y1n t c (zwn h s t)
theorem Zz (t:Int):∀ (c:List Int) (l:List Sta),(opL l c t).length<=l.length+c.length
 |[],l=>by simp [opL]
 |s::c,l=>by
  have h1:=Zz t c (opS l s t);have e:=zp9 l s t;have d:opL l (s::c) t=opL (opS l s t) c t:=rfl;rw [d,length_cons];omega
theorem opL_mem (t:Int):∀ (c:List Int) {l:List Sta} {x:Sta},x∈opL l c t->(x.fScope∈c/\x.fTime=t)\/x∈l
 |[],l,x,h=>Or.inr h
 |s::c,l,x,h=>by
  rcases opL_mem t c (l:=opS l s t) h with k|k
  ·simp_all
  ·rcases opS_mem k with q|q
   all_goals simp_all
theorem fidx_cases (p:α->Bool):∀ l:List α,(l.find? p=none/\fidx p l=-1)\/∃ i,∃ h:i<l.length,fidx p l=(i:Int)/\l.find? p=some l[i]
 |[]=>Or.inl ⟨rfl,rfl⟩
 |x::l=>by
  by_cases q:p x=true
  ·refine Or.inr ⟨0,by simp,?_,?_⟩
   ·unfold fidx;rw [findIdx?_cons,if_pos q]
   ·rw [aL];simp [q]
  ·rcases fidx_cases p l with ⟨h1,c⟩|⟨i,hi,h1,c⟩
   ·refine Or.inl ⟨by rw [aL];simp [q,h1],?_⟩;unfold fidx at c ⊢;grind
   ·refine Or.inr ⟨i+1,by simp;omega,?_,by rw [aL];simp [q,c]⟩;unfold fidx at h1 ⊢;grind
theorem zdh (n:Nat)(t:Int)(l:List Sta)(j:l.length<=1100000)(f:l.length<n)(xs:List Lim)(g:xs.length<=1100000):∀ (m k:Nat),k<=xs.length->xs.length<m+k->J8 n t xs l (some true) m (k:Int)=some ((xs.drop k).all (keP l t))
 |0,k,h1,o=>by omega
 |m+1,k,h1,o=>by
  unfold J8;simp only [aB,A5,Ax,Am,My,Ap];by_cases h:k<xs.length
  ·rw [if_pos (by omega),A9 h,B1 xs k h,all_cons,Ae k (by omega),zdh n t l j f xs g m (k+1) (by omega) (by omega),zlr n _ (fun s=>decide (s.fScope=xs[k].fScope)) l (by omega) f (fun s _=>rfl),A3];rcases fidx_cases (fun s:Sta=>decide (s.fScope=xs[k].fScope)) l with ⟨d,c⟩|⟨i,hi,d,c⟩
   ·rw [c,if_pos (by omega)];unfold keP;rw [d];rfl
   ·rw [d,if_neg (by omega),A9 hi];have e:keP l t xs[k]=decide (aD .i64 (t-l[i].fTime)<=xs[k].fSpan):=by unfold keP;rw [c]
    grind
  ·rw [if_neg (by omega),aF (by omega)];rfl
theorem zzx (n:Nat)(t:Int)(l:List Sta)(d:l.length<=1100000)(e:1100000<n)(xs:List Lim)(c:xs.length<=1100000):W5 n l xs t=some (xs.all (keP l t)):=by
 have:=zdh n t l d (by omega) xs c n 0 (by omega) (by omega);unfold W5;simp_all
def clP (cs:List Int)(x:Sta):Bool:=cs.any fun y=>decide (x.fScope=y)
theorem y34 (n:Nat)(x:Ed)(c:x.fCloses.length<=1100000)(d:1100000<n)(s:Sta):Lg n s x=some (clP x.fCloses s):=by
 unfold Lg;rw [Z2 n _ _ (by omega) (by omega),A3];rfl
theorem y01 (n:Nat)(x:Ed)(c:x.fCloses.length<=1100000)(d:1100000<n)(s:Sta):Oe n s x=some (clP x.fCloses s,x):=by
 unfold Oe;rw [Z2 n _ _ (by omega) (by omega),A3];rfl
abbrev ncl (x:Ed)(s:Sta):Bool:=!clP x.fCloses s
theorem zhy (n:Nat)(x:Ed)(f:x.fCloses.length<=1100000)(g:1100000<n)(l:List Sta)(u:l.length<=1100000)(K:Int->Int->Int->Int->Int->Int->List AV->Int->Int->Int->Int->Int->ByteArray->List Int->List Int->List AV->List C4->List Int->List Sta->Option (List Sta×Ed))(r:Option (List Sta×Ed))
  (y:∀ (i:Nat) (c:List Sta),c.length=l.length->i<=l.length->c.take i=l.filter (ncl x)->K (i:Int) x.fFrom x.fTo x.fVar x.fType x.fCond.fOp x.fCond.fArgs x.fCond.fVar x.fCond.fField x.fCond.fKind x.fCond.fValue.fKind x.fCond.fValue.fNum x.fCond.fValue.fText x.fOpens x.fCloses x.fChecks x.fLimits x.fInside c=r) :
  ∀ (m i j:Nat) (c:List Sta),i<=j->j<=l.length->l.length<m+j->c.length=l.length->c.take i=(l.take j).filter (ncl x)->c.drop j=l.drop j->Ly n K m ((i:Int),(j:Int),x.fFrom,x.fTo,x.fVar,x.fType,x.fCond.fOp,x.fCond.fArgs,x.fCond.fVar,x.fCond.fField,x.fCond.fKind,x.fCond.fValue.fKind,x.fCond.fValue.fNum,x.fCond.fValue.fText,x.fOpens,x.fCloses,x.fChecks,x.fLimits,x.fInside,c)=r
 |0,i,j,c,A,h1,z,t,s,p=>by omega
 |m+1,i,j,c,A,h1,z,t,s,p=>by
  unfold Ly;simp only [aB,A5];by_cases h:j<l.length
  ·have o:j<c.length:=by omega
   rw [if_pos (by omega),Ct o,D7 o,Ae i (by omega),Ae j (by omega)];have B:Oe n c[j] (⟨x.fFrom,x.fTo,x.fVar,x.fType,⟨x.fCond.fOp,x.fCond.fArgs,x.fCond.fVar,x.fCond.fField,x.fCond.fKind,⟨x.fCond.fValue.fKind,x.fCond.fValue.fNum,x.fCond.fValue.fText⟩⟩,x.fOpens,x.fCloses,x.fChecks,x.fLimits,x.fInside⟩:Ed)=some (clP x.fCloses c[j],x):=y01 n x f g c[j];rw [B,Ce];simp only;have k:c[j]=l[j]:=by
    have:=congrArg (fun q=>q[0]?) p;simp only [getElem?_drop,Nat.add_zero,aE o,aE h,Option.some.injEq] at this;exact this
   have w:c.drop (j+1)=l.drop (j+1):=by
    have:=congrArg List.tail p;simpa using this
   have e:(l.take (j+1)).filter (ncl x)=(l.take j).filter (ncl x)++(if ncl x l[j]=true then [l[j]] else []):=by
    rw [aA h,aO,aR];rfl
   rw [k];cases v:clP x.fCloses l[j] with
   |false =>
    have hi:i<c.length:=by omega
    simp only [Bool.not_false,Ap];rw [Ct hi,Jp hi];have d:ncl x l[j]=true:=by unfold ncl;rw [v];rfl
    rw [d] at e;refine zhy n x f g l u K r y m (i+1) (j+1) _ (by omega) (by omega) (by omega) (by simp [t]) ?_ ?_
    ·rw [e,if_pos rfl,<-s,aA (by simpa using hi)];simp [take_set_of_le]
    ·rw [<-w,drop_set_of_lt (by omega)]
   |true =>
    simp only [Bool.not_true,Aq];have d:ncl x l[j]=false:=by unfold ncl;rw [v];rfl
    rw [d] at e;exact zhy n x f g l u K r y m i (j+1) _ (by omega) (by omega) (by omega) t (by rw [e,s];simp) w
  grind
theorem y00 (n:Nat)(x:Ed)(m:x.fCloses.length<=1100000)(p:1100000<n)(l:List Sta)(u:l.length<=1100000):Ux n x l=some (l.filter (ncl x),x):=by
 unfold Ux;rw [zlq n x (clP x.fCloses) l (by omega) (by omega) (fun s _=>y34 n x m p s),A3];rcases fidx_cases (clP x.fCloses) l with ⟨h,g⟩|⟨i,hi,h,g⟩
 ·rw [g,A5,if_pos rfl,aC.2 (fun s o=>?_)];simp_all
 ·rw [h,A5,if_neg (by omega),Ae i (by omega)];have d:∀ s∈l.take i,ncl x s=true:=fun s o=>by
   obtain ⟨k,v,rfl⟩:=mem_iff_getElem.1 o;rw [length_take] at v;rw [getElem_take];have w:l.findIdx? (clP x.fCloses)=some i:=by
    unfold fidx at h;cases z:l.findIdx? (clP x.fCloses) with
    |none=>simp_all
    |some j=>grind
   have:=(findIdx?_eq_some_iff_getElem.1 w).2.2 k (by omega);simpa [ncl] using this
  have f:ncl x l[i]=false:=by
   have:=find?_some g;simp [ncl,this]
  refine zhy n x m p l u _ _ (fun q c A y t=>?_) n i (i+1) l (by omega) (by omega) (by omega) rfl ?_ rfl
  ·simp only [aB];rw [X0 (by omega),zy0 (by omega)];have r:=zjl c q (⟨0,0⟩:Sta) (by omega);have:=Ea (l:=clrL c q (⟨0,0⟩:Sta)) (a:=0) (b:=q) (by omega) (by omega) (fun e=>some (e,x));refine this.trans ?_;rw [drop_zero,zee c q _ (by omega),t]
  ·rw [aA hi,aO,aC.2 d];simp [f]
theorem y6i (cs:List Int):∀ l:List Sta,cs.foldl clS l=l.filter (fun s=>!clP cs s):=by
 induction cs with
 |nil=>intro l;exact (aC.2 (fun _ _=>rfl)).symm
 |cons c cs d =>
  intro l;rw [aG,d];unfold clS;rw [aP];refine filter_congr (fun s _=>?_);unfold clP;grind
end Go.Proofs.YtidhlpjgifoneaaGreat
