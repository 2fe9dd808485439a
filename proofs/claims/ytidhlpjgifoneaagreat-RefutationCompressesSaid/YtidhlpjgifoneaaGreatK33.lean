/- Layers 17 and 25, plainly. -/
import Derived.Test.YtidhlpjgifoneaaGreatK32
set_option linter.unusedVariables false
set_option linter.unusedSimpArgs false
namespace Go.Proofs.YtidhlpjgifoneaaGreat
open Go.RowKit List
open List renaming take_succ_eq_append_getElem->aA,length_map->aB,filter_eq_self->aC,getElem?_eq_getElem->aE,drop_eq_nil_of_le->aF,foldl_cons->aG,pairwise_cons->aH,filter_eq_nil_iff->aJ,find?_cons->aL,getD_eq_getElem?_getD->aM,getElem_mem->aN,filter_append->aO,filter_filter->aP,filter_cons->aR,replicate->aT
open IntKind renaming wrap->aD,bits->aU
open Option renaming getD_some->aK
open Int renaming natCast_zero->aQ,toNat->aS
abbrev Rf:=Bh
abbrev N0:Nat:=2000000000
abbrev ev0:Ev:=⟨0,0,0,0,[]⟩
variable {β:Type}
theorem Xl {e d:Type}[DecidableEq e](l:List (e×d))(k:e)(z:d)(c:d->Bool->Option β):mgv l k z c=c ((mlk l k).getD z) (mlk l k).isSome:=by unfold mgv;rfl
theorem zy2 {n:Int}(c:0<=n)(h:n<=1000)(k:Nat->Option β):mkn n 24 k=k n.toNat:=by unfold mkn;grind
theorem zxx (i:Nat)(x:Option β):nst i x=x:=by unfold nst;rfl
theorem zyi (i:Nat)(x:Option β):frr i x=x:=by unfold frr;rfl
theorem Dp {n:Int}{len:Nat}(c:0<=n)(h:n.toNat<len)(x:Option β):ncx n len x=x:=by unfold ncx;rw [if_pos ⟨c,h⟩]
variable {α:Type}{l:List (List α)}
theorem zxw {k:Nat}(h:k<l.length)(c:List α->Option β):ntk l k c=c (l.getD k []):=by unfold ntk;simp [h]
theorem zxz {k:Nat}(h:k<l.length)(v:List α)(c:List (List α)->Option β):npt l k v c=c (l.set k v):=by unfold npt;rw [if_pos h]
theorem ztz:∀ (l p:List Ev),chk p l=0->(∀ e∈l,Cl e=true)/\Str Co l/\(∀ h t,p=h::t->∀ e∈l,Co h e<0)
 |[],p,_=>⟨by simp,by simp [Str],by simp⟩
 |e::l,p,h=>by
  unfold chk at h;split at h
  ·cases h
  split at h
  ·cases h
  split at h
  ·cases h
  rename_i h1 g n;obtain ⟨o,m,j⟩:=ztz l (e::p) h;have f:=j e p rfl;refine ⟨fun x c=>?_,aH.2 ⟨f,m⟩,fun q t i x c=>?_⟩
  ·grind
  ·have d:Co q e<0:=by
    subst i;simp only [Tj] at g;simpa using g
   rcases mem_cons.1 c with k|k
   ·rw [k];exact d
   ·exact Ju.trans _ _ _ d (f x k)
structure y5p (l:List Ev):Prop where
 pl:∀ e∈l,Cl e=true
 st:Str Co l
 ln:l.length<=4096
theorem zd9 {l:List Ev}(h:Dy l=0):y5p l:=by
 unfold Dy at h;split at h
 ·cases h
 ·obtain ⟨a,b,_⟩:=ztz l [] h;exact ⟨a,b,by omega⟩
def lkH (held:List Ev)(r:Rf):Option Ev:=held.find? (fun e=>decide (Bo e=r))
variable {held:List Ev}
theorem zj3 {r:Rf}{e:Ev}(h:lkH held r=some e):Bo e=r/\e∈held:=by
 have h1:=find?_some h;exact ⟨by simpa using h1,mem_of_find?_eq_some h⟩
theorem zyb (h:Str Co held){e:Ev}(c:e∈held):lkH held (Bo e)=some e:=by
 unfold lkH
 induction held with
 |nil=>simp at c
 |cons x l ih =>
  obtain ⟨h1,d⟩:=aH.1 h;rw [aL];rcases mem_cons.1 c with k|k
  ·rw [k];simp
  ·have:Bo x≠Bo e:=fun q=>Ju.lt_ne (h1 e k) q
   simp only [this,decide_false];exact ih d k
theorem zyc (a b:List Ev)(r:Rf):lkH (a++b) r=(lkH a r).or (lkH b r):=by unfold lkH;rw [find?_append]
theorem zh7 (n:Nat)(r:Rf)(l:List Ev)(c:l.length<=1000000):∀ (m k:Nat),k<=l.length->l.length<m+k->Q2 n r l (some (ev0,false)) m (k:Int)=some (match lkH (l.drop k) r with|some e=>(e,true)|none=>(ev0,false))
 |0,k,h1,d=>by omega
 |m+1,k,h1,d=>by
  unfold Q2;simp only [aB,A5];by_cases h:k<l.length
  ·rw [if_pos (by omega),A9 h,B2 l k h,Ad k (by omega),zh7 n r l c m (k+1) (by omega) (by omega),y45,A3,A9 h];have:(decide (l[k].fTime=r.fTime) && (decide (l[k].fSource=r.fSource) && (decide (l[k].fSeq=r.fSeq) && true)))=decide (Bo l[k]=r):=by
    cases r;simp [Bo]
   rw [this,A5];unfold lkH;grind
  ·rw [if_neg (by omega),aF (by omega)];rfl
theorem zxl (n:Nat)(r:Rf)(l:List Ev)(c:l.length<=1000000)(d:l.length<n):Me n l r=some (match lkH l r with|some e=>(e,true)|none=>(ev0,false)):=by
 have:=zh7 n r l c n 0 (by omega) (by omega);unfold Me;simp_all
def HM (held:List Ev)(c:List (Rf×Ev)):Prop:=∀ r,mlk c r=lkH held r
theorem zyh (r:Rf):∀ (l:List Ev) (m:List (Rf×Ev)),Str Co l->mlk (l.foldl (fun m e=>mput m (Bo e) e) m) r=(lkH l r).or (mlk m r)
 |[],m,_=>by simp [lkH]
 |e::l,m,h=>by
  obtain ⟨h1,f⟩:=aH.1 h;rw [aG,zyh r l _ f,zta];unfold lkH;rw [aL];by_cases q:Bo e=r
  ·have:lkH l r=none:=by
    unfold lkH;rw [find?_eq_none];intro x d c;simp only [decide_eq_true_eq] at c;exact Ju.lt_ne (h1 x d) (by rw [q,c])
   unfold lkH at this;rw [this];simp [q]
  grind
def addB (held:List Ev)(vs:List (List Ev))(b:Bd):List (List Ev):=match lkH held b.fRef with|some e=>(if 0<=b.fVar/\b.fVar.toNat<vs.length then vs.set b.fVar.toNat (vs.getD b.fVar.toNat []++[e]) else vs)|none=>vs
def bndV (held:List Ev)(m:Nat)(l:List Bd):List (List Ev):=l.foldl (addB held) (aT m [])
def ev1 (held:List Ev)(l:List Bd)(v:Int):List Ev:=l.filterMap (fun b=>if b.fVar=v then lkH held b.fRef else none)
theorem zd6 (held:List Ev)(vs:List (List Ev))(b:Bd):(addB held vs b).length=vs.length:=by
 unfold addB;grind
theorem zu8 {vs:List (List Ev)}{b:Bd}{k:Nat}(h:∀ q∈vs,q.length<=k):∀ q∈addB held vs b,q.length<=k+1:=by
 unfold addB;grind
theorem znd (held:List Ev):∀ (l:List Bd) (vs:List (List Ev)),(l.foldl (addB held) vs).length=vs.length
 |[],vs=>rfl
 |b::l,vs=>by rw [aG,znd held l,zd6]
theorem O7 (held:List Ev)(m:Nat)(l:List Bd):(bndV held m l).length=m:=by unfold bndV;rw [znd];simp
theorem y2e (held:List Ev)(vs:List (List Ev))(b:Bd)(i:Nat)(hi:i<vs.length):(addB held vs b).getD i []=vs.getD i []++(if b.fVar=(i:Int) then lkH held b.fRef else none).toList:=by
 unfold addB;grind
theorem zne (held:List Ev)(i:Nat):∀ (l:List Bd) (vs:List (List Ev)),i<vs.length->(l.foldl (addB held) vs).getD i []=vs.getD i []++ev1 held l (i:Int)
 |[],vs,hi=>by simp [ev1]
 |b::l,vs,hi=>by
  rw [aG,zne held i l _ (by rw [zd6];exact hi),y2e held vs b i hi];unfold ev1;grind
theorem Jr (held:List Ev)(m:Nat)(l:List Bd)(v:Int):evs (bndV held m l) v=if 0<=v/\v<(m:Int) then ev1 held l v else []:=by
 unfold evs;rw [O7];by_cases h1:v<0
 ·rw [if_pos h1,if_neg (by omega)]
 rw [if_neg h1];by_cases c:(m:Int)<=v
 ·rw [if_pos c,if_neg (by omega)]
 rw [if_neg c,if_pos (by omega)];unfold bndV;rw [zne held v.toNat l _ (by simp;omega)];grind
theorem y5d (held:List Ev)(l:List Bd)(v:Int):(ev1 held l v).length<=l.length:=length_filterMap_le _ _
theorem y1z {l:List Bd}{v:Int}(h:∀ b∈l,b.fVar≠v):ev1 held l v=[]:=by
 unfold ev1;simp_all
abbrev enH (held:List Ev)(l:List Bd):List (List Ev):=bndV held 16 l
theorem Jv {l:List Bd}(h:l.length<=1000000)(v:Int):(evs (enH held l) v).length<=1000000:=by
 rw [Jr];split
 ·have:=y5d held l v;omega
 ·simp
theorem zhc (n:Nat)(held:List Ev)(j:held.length<=1000000)(u:1000000<n)(x:Nat)(p:x<=16)(l:List Bd)(w:l.length<=1000000)(K:List (List Ev)->Option Aq):∀ (m k:Nat) (vs:List (List Ev)),k<=l.length->l.length<m+k->vs.length=x->(∀ q∈vs,q.length<=k)->Ft n l (x:Int) held x K m ((k:Int),vs)=K ((l.drop k).foldl (addB held) vs)
 |0,k,vs,h1,y,o,g=>by omega
 |m+1,k,vs,h1,y,o,g=>by
  unfold Ft;simp only [aB,A5];by_cases h:k<l.length
  ·rw [if_pos (by omega),A9 h,B2 l k h,Ad k (by omega),zxl n _ held j (by omega),A3,Al,aG];have s:(⟨l[k].fRef.fTime,l[k].fRef.fSource,l[k].fRef.fSeq⟩:Rf)=l[k].fRef:=rfl;rw [s];have f:∀ c,c=addB held vs l[k]->Ft n l (x:Int) held x K m (((k+1:Nat):Int),c)=K ((l.drop (k+1)).foldl (addB held) (addB held vs l[k])):=fun c r=>by
    subst r;exact zhc n held j u x p l w K m (k+1) _ (by omega) (by omega) (by rw [zd6];exact o) (zu8 g)
   cases t:lkH held l[k].fRef with
   |none =>
    simp only [Ap];exact f vs (by unfold addB;rw [t])
   |some e =>
    simp only [Ao];by_cases d:0<=l[k].fVar
    ·rw [if_pos d];by_cases i:l[k].fVar<(x:Int)
     ·rw [if_pos i,Dp d (by omega),zxw (by omega)];have v:(vs.getD l[k].fVar.toNat []).length<=k:=by
       rw [aM,aE (by omega),aK];exact g _ (aN _)
      rw [Bu (by grind) (by omega),Dp d (by omega),zxz (by omega)];exact f _ (by unfold addB;simp_all)
     ·rw [if_neg i];exact f vs (by unfold addB;grind)
    ·rw [if_neg d];exact f vs (by unfold addB;grind)
  ·rw [if_neg (by omega),aF (by omega)];rfl
theorem zx5 (n:Nat)(f:1000000<n)(held:List Ev)(h:held.length<=1000000)(c:Cf)(g:c.fBindings.length<=1000000):Mu n held c=some ⟨enH held c.fBindings⟩:=by
 unfold Mu Yh;rw [zy2 (by omega) (by omega),zxx,Al];have:=zhc n held h f 16 (by omega) c.fBindings g (fun k1_0_0y=>frr 13 <| reg <| some ⟨k1_0_0y⟩) n 0 (aT 16 []) (by omega) (by omega) (by simp) (by simp);simp only [aQ] at this;have e:aS 16=16:=rfl;have d:((16:Nat):Int)=16:=rfl;rw [e];rw [d] at this;rw [this,zyi,Al,A3];rfl
def BdOk (held:List Ev)(x:Int)(l:List Bd):Prop:=∀ b∈l,(0<=b.fVar/\b.fVar<x)/\(lkH held b.fRef).isSome=true
theorem zsq (n:Nat)(held:List Ev)(r:Ba)(hm:HM held r.fheld)(x:Nat)(o:x<=16)(l:List Bd)(t:l.length<=1000000)(g:BdOk held (x:Int) l)(K:List (List Ev)->Option Aq):∀ (m k:Nat) (vs:List (List Ev)),k<=l.length->l.length<m+k->vs.length=x->(∀ q∈vs,q.length<=k)->Rv n l r x K m ((k:Int),vs)=K ((l.drop k).foldl (addB held) vs)
 |0,k,vs,h1,v,i,d=>by omega
 |m+1,k,vs,h1,v,i,d=>by
  unfold Rv;simp only [aB,A5];by_cases h:k<l.length
  ·obtain ⟨⟨c,w⟩,j⟩:=g _ (aN h);obtain ⟨e,f⟩:=Option.isSome_iff_exists.1 j;have p:(⟨l[k].fRef.fTime,l[k].fRef.fSource,l[k].fRef.fSeq⟩:Rf)=l[k].fRef:=rfl;have s:(vs.getD l[k].fVar.toNat []).length<=k:=by
    rw [aM,aE (by omega),aK];exact d _ (aN _)
   rw [if_pos (by omega),A9 h,B2 l k h,Ad k (by omega),aG,Dp c (by omega),zxw (by omega),p,Xl,hm,f,aK,Bu (by grind) (by omega),Dp c (by omega),zxz (by omega)];have u:addB held vs l[k]=vs.set l[k].fVar.toNat (vs.getD l[k].fVar.toNat []++[e]):=by
    unfold addB;rw [f];simp only;rw [if_pos ⟨c,by omega⟩]
   rw [<-u];exact zsq n held r hm x o l t g K m (k+1) _ (by omega) (by omega) (by rw [zd6];exact i) (zu8 d)
  grind
theorem y8p (n:Nat)(g:1000000<n)(held:List Ev)(r:Ba)(hm:HM held r.fheld)(d:0<=r.fa.fVars/\r.fa.fVars<=16)(l:List Bd)(e:l.length<=1000000)(f:BdOk held r.fa.fVars l):Vy n r l=some ⟨bndV held r.fa.fVars.toNat l⟩:=by
 unfold Vy;rw [zy2 d.1 (by omega),zxx,Al];have c:((r.fa.fVars.toNat:Nat):Int)=r.fa.fVars:=by omega
 have:=zsq n held r hm r.fa.fVars.toNat (by omega) l e (by rw [c];exact f) (fun k1_0_0y=>frr 13 <| reg <| some ⟨k1_0_0y⟩) n 0 (aT r.fa.fVars.toNat []) (by omega) (by omega) (by simp) (by simp);simp only [aQ] at this;rw [this,zyi,Al];rfl
def EvEq (a b:List (List Ev)):Prop:=∀ v,evs a v=evs b v
theorem zyt {x:Int}(e:0<=x/\x<=16){l:List Bd}(d:BdOk held x l):EvEq (enH held l) (bndV held x.toNat l):=fun v=>by
 rw [Jr,Jr];by_cases h:0<=v/\v<x
 ·grind
 ·rw [if_neg (by omega:¬(0<=v/\v<((x.toNat:Nat):Int)))];split
  ·exact y1z (fun b c q=>by have:=(d b c).1;omega)
  ·rfl
def EvS (a:List (List Ev)):Prop:=∀ v,(evs a v).length<=1000000
def trR (a:List (List Ev))(e:Exn)(own:Int)(ev:Ev):Bool:=(Fx N0 e ⟨a⟩ own ev).getD false
variable {a b:List (List Ev)}
theorem Oi (c:EvEq a b)(k:EvS a){e:Exn}(h:WfE e)(own:Int)(ev:Ev):Fx N0 e ⟨a⟩ own ev=some (trR a e own ev)/\Jl N0 e ⟨b⟩ own ev=some (trR a e own ev):=by
 obtain ⟨z,g,j⟩:=h;obtain ⟨r,d,f⟩:=zwx a b k own ev z e (fun i _=>c i) j g N0 (by decide);have:trR a e own ev=r:=by unfold trR;rw [d];rfl
 rw [this];exact ⟨d,f⟩
theorem y3n {e:Exn}(d:∀ i:Nat,Occ i e->evs a (i:Int)=evs b (i:Int))(k:EvS a)(c:EvS b)(j:WfE e)(own:Int)(ev:Ev):trR a e own ev=trR b e own ev:=by
 obtain ⟨z,f,g⟩:=j;obtain ⟨r,h,m⟩:=zwx a b k own ev z e d g f N0 (by decide);have h1:trR a e own ev=r:=by unfold trR;rw [h];rfl
 have n:=(Oi (fun v=>rfl:EvEq b b) c ⟨z,f,g⟩ own ev).2;simp_all
def vio (a:List (List Ev))(e:Ev)(g:Gd):Bool:=decide (g.fType=e.fType) && trR a g.fCond g.fVar e
theorem zwz (d:EvS a){g:Gd}(c:WfE g.fCond)(e:Ev):Px N0 g ⟨a⟩ e=some (vio a e g):=by
 unfold Px vio;simp only [Ay,Al,Kc,A5];have:=(Oi (fun v=>rfl:EvEq a a) d c g.fVar e).1;rw [this,A3];by_cases h:g.fType=e.fType<;>simp [h]
theorem y2l (c:EvEq a b)(f:EvS a){g:Gd}(d:WfE g.fCond)(e:Ev):Ss N0 g ⟨b⟩ e=some (vio a e g):=by
 unfold Ss vio;simp only [Ay,Al,N4,A5];have:=(Oi c f d g.fVar e).2;rw [this,A3];by_cases h:g.fType=e.fType<;>simp [h]
abbrev Lim:=C4
def SS (l:List Sta):Prop:=l.Pairwise (fun x y=>x.fScope<y.fScope)
def opS (l:List Sta)(s t:Int):List Sta:=l.filter (fun x=>decide (x.fScope<s))++(⟨s,t⟩:Sta)::l.filter (fun x=>decide (s<x.fScope))
def clS (l:List Sta)(s:Int):List Sta:=l.filter (fun x=>!decide (x.fScope=s))
theorem opS_mem {l:List Sta}{s t:Int}{x:Sta}(h:x∈opS l s t):x=⟨s,t⟩\/x∈l:=by
 unfold opS at h;grind
theorem zxu {l:List Sta}(h:SS l)(s t:Int):SS (opS l s t):=by
 unfold opS SS;rw [pairwise_append];refine ⟨h.filter _,aH.2 ⟨fun x c=>by simp_all,h.filter _⟩,fun x c y d=>?_⟩;grind
theorem zqc (l:List Sta)(s t:Int):(opS l s t).length<=l.length+1:=by
 unfold opS;rw [length_append,length_cons]
 induction l with
 |nil=>simp
 |cons x l ih =>
  grind
theorem zrq {l:List Sta}(h:SS l){s:Int}{i:Nat}(hi:i<=l.length)(h1:∀ k (d:k<l.length),k<i->l[k].fScope<s)(o:∀ d:i<l.length,¬l[i].fScope<s):l.take i=l.filter (fun x=>decide (x.fScope<s))/\((∀ d:i<l.length,l[i].fScope≠s)->l.drop i=l.filter (fun x=>decide (s<x.fScope)))/\(∀ d:i<l.length,l[i].fScope=s->l.drop (i+1)=l.filter (fun x=>decide (s<x.fScope))):=by
 have e:∀ x∈l.take i,x.fScope<s:=fun x c=>by
  obtain ⟨k,d,rfl⟩:=mem_iff_getElem.1 c;grind
 have m:∀ d:i<l.length,∀ x∈l.drop (i+1),l[i].fScope<x.fScope:=fun d x c=>by
  have:=h.drop (i:=i);rw [B2 l i d] at this;exact (aH.1 this).1 x c
 have j:∀ x∈l.drop i,s<=x.fScope:=fun x c=>by
  by_cases d:i<l.length
  ·rw [B2 l i d] at c;grind
  grind
 have f:∀ p:Sta->Bool,l.filter p=(l.take i).filter p++(l.drop i).filter p:=fun p=>by rw [<-aO,take_append_drop]
 refine ⟨?_,fun g=>?_,fun d n=>?_⟩
 ·rw [f,aC.2 (fun x c=>by simpa using e x c),aJ.2 (fun x c=>by have:=j x c;simp;omega),append_nil]
 ·rw [f,aJ.2 (fun x c=>by have:=e x c;simp;omega),nil_append,aC.2 (fun x c=>?_)];by_cases d:i<l.length
  ·rw [B2 l i d] at c;grind
  grind
 ·rw [f,aJ.2 (fun x c=>by have:=e x c;simp;omega),nil_append,B2 l i d,aR,if_neg (by simp;omega),aC.2 (fun x c=>by have:=m d x c;simp;omega)]
theorem zai (n:Nat)(s:Int)(l:List Sta)(c:l.length<=1100000)(K:List Sta->Option (List Sta)):∀ (m k:Nat) (out:List Sta),k<=l.length->l.length<m+k->out.length<=k->Kr n s l K m ((k:Int),out)=K (out++(l.drop k).filter (fun x=>!decide (x.fScope=s)))
 |0,k,out,h1,g,f=>by omega
 |m+1,k,out,h1,g,f=>by
  unfold Kr;simp only [aB,A5,Ah];by_cases h:k<l.length
  ·have e:=zai n s l c K m (k+1) (out++[l[k]]) (by omega) (by omega) (by simp_all);have d:=zai n s l c K m (k+1) out (by omega) (by omega) (by omega);rw [if_pos (by omega),Al,A9 h,A9 h,B2 l k h,Ad k (by omega),Bu (by grind) (by omega),e,d,aR];grind
  grind
theorem zsu (n:Nat)(s:Int)(l:List Sta)(c:l.length<=1100000)(d:l.length<n):Qx n l s=some (clS l s):=by
 have:=zai n s l c (fun y=>some y) n 0 [] (by omega) (by omega) (by simp);unfold Qx clS;simp_all
theorem zc9 (n:Nat)(s t:Int)(l:List Sta)(f:l.length<=1100000)(K:List Sta->Int->List Sta->Option (List Sta))(r:Option (List Sta))
  (d:∀ i:Nat,i<=l.length->(∀ k (c:k<l.length),k<i->l[k].fScope<s)->(∀ c:i<l.length,¬l[i].fScope<s)->K l (i:Int) (l.take i)=r) :
  ∀ (m k:Nat),k<=l.length->l.length<m+k->(∀ j (o:j<l.length),j<k->l[j].fScope<s)->I8 n t s l K m ((k:Int),l.take k)=r
 |0,k,h1,p,e=>by omega
 |m+1,k,h1,p,e=>by
  unfold I8;simp only [aB,A5,Ay,Al,Kq];by_cases h:k<l.length
  ·rw [if_pos (by omega),A9 h];by_cases q:l[k].fScope<s
   ·rw [if_pos q,A9 h,Bu (by grind) (by omega),Ad k (by omega),<-aA h];exact zc9 n s t l f K r d m (k+1) (by omega) (by omega) (fun j o g=>by
     grind)
   ·rw [if_neg q];exact d k h1 e (fun _=>q)
  ·rw [if_neg (by omega),Ap];exact d k h1 e (fun c=>absurd c h)
theorem y7s {l:List Sta}(h:SS l)(s:Int):SS (clS l s):=h.filter _
theorem zza (l:List Sta)(s:Int):(clS l s).length<=l.length:=length_filter_le _ _
theorem zx3 (n:Nat)(s t:Int)(l:List Sta)(g:SS l)(k:l.length<=1100000)(h:l.length<n):Uf n l s t=some (opS l s t):=by
 unfold Uf;rw [zsu n s l k h,A3];have r:=zza l s;refine zc9 n s t (clS l s) (by omega) _ _ (fun i hi h1 m=>?_) n 0 (by omega) (by omega) (fun j _ q=>by omega);obtain ⟨p,o,_⟩:=zrq (y7s g s) hi h1 m;have e:∀ f:i<(clS l s).length,(clS l s)[i].fScope≠s:=fun f=>by
  have:=(mem_filter.1 (aN f)).2;simpa using this
 have:=Eb (l:=clS l s) hi (Nat.le_refl _) (fun d=>app ((clS l s).take i++[⟨s,t⟩]) d 16 fun c=>some c);rw [Bu (by grind) (by omega)];simp only [aB];rw [this,take_length,Bu (by grind) (by omega),p,o e];unfold opS clS;rw [aP,aP,append_assoc];congr 2;all_goals grind
def keP (l:List Sta)(t:Int)(x:Lim):Bool:=match l.find? (fun s=>decide (s.fScope=x.fScope)) with|some s=>decide (aD .i64 (t-s.fTime)<=x.fSpan)|none=>false
theorem zmp (n:Nat)(t:Int)(x:Lim)(l:List Sta)(c:l.length<=1100000):∀ (m k:Nat),k<=l.length->l.length<m+k->Qm n t x l (some false) m (k:Int)=some (keP (l.drop k) t x)
 |0,k,h1,d=>by omega
 |m+1,k,h1,d=>by
  unfold Qm;simp only [aB,A5];by_cases h:k<l.length
  ·rw [if_pos (by omega),A9 h,A9 h,B2 l k h,Ad k (by omega),zmp n t x l c m (k+1) (by omega) (by omega)];unfold keP;grind
  ·rw [if_neg (by omega),aF (by omega)];rfl
theorem y6r (n:Nat)(t:Int)(x:Lim)(l:List Sta)(c:l.length<=1100000)(d:l.length<n):Uv n l x t=some (keP l t x):=by
 have:=zmp n t x l c n 0 (by omega) (by omega);unfold Uv;simp_all
theorem y82 (x:Int)(c:0<=x)(h1:x<=18446744073709551615):aD .u64 x=x:=IntWalk.u64_in _ ⟨c,h1⟩
theorem y52 (i j:Nat)(h:i+j<=3000000):aD .i64 (Int.fdiv (aD .u64 (aD .i64 ((i:Int)+(j:Int)))) (2 ^ min (aS (1:Int)) (aU .u64)))=(((i+j) / 2:Nat):Int):=by
 have e:aD .i64 ((i:Int)+(j:Int))=((i+j:Nat):Int):=by rw [Cq _ (by omega)];omega
 rw [e,y82 _ (by omega) (by omega)];have d:(2:Int) ^ min (aS (1:Int)) (aU .u64)=2:=by decide
 rw [d];have c:Int.fdiv ((i+j:Nat):Int) 2=(((i+j) / 2:Nat):Int):=by
  rw [Int.fdiv_eq_ediv_of_nonneg _ (by omega)];omega
 rw [c,Cq _ (by omega)]
theorem y48 (n:Nat)(a:Sta)(s:Int):Nf n a s=some (cmpI a.fScope s):=by
 unfold Nf;rw [Ok,A3]
theorem Xf (a b:Int):cmpI a b<0 ↔ a<b:=by unfold cmpI;split<;>(try split)<;>omega
theorem y3f (a b:Int):cmpI a b=0 ↔ a=b:=Hq.zero a b
theorem zq8 (n:Nat)(l:List Sta)(s:Int)(d:SS l)(o:l.length<=1100000)(K:Int->Option (Int×Bool))(r:Option (Int×Bool))
  (v:∀ i:Nat,i<=l.length->(∀ k (f:k<l.length),k<i->l[k].fScope<s)->(∀ f:i<l.length,¬l[i].fScope<s)->K (i:Int)=r) :
  ∀ (m i j:Nat),i<=j->j<=l.length->j-i<m->(∀ k (h:k<l.length),k<i->l[k].fScope<s)->(∀ k (h:k<l.length),j<=k->¬l[k].fScope<s)->K8 n s l K m ((i:Int),(j:Int))=r
 |0,i,j,h1,w,B,_,_=>by omega
 |m+1,i,j,h1,w,B,e,g=>by
  have mono:∀ a b (u:a<l.length) (t:b<l.length),a<=b->l[a].fScope<=l[b].fScope:=fun a b u t c=>by
   rcases Nat.eq_or_lt_of_le c with rfl|c
   ·exact Int.le_refl _
   ·have:=pairwise_iff_getElem.1 d a b u t c;omega
  unfold K8;simp only [A5];by_cases h:i<j
  ·rw [if_pos (by omega),y63 (by omega),y52 i j (by omega)];have A:(i+j) / 2<l.length:=by omega
   rw [A9 A,y48,A3,Ad _ (by omega)];by_cases p:l[(i+j) / 2].fScope<s
   ·rw [if_pos ((Xf _ _).2 p)];exact zq8 n l s d o K r v m ((i+j) / 2+1) j (by omega) w (by omega) (fun k f x=>by grind) g
   ·rw [if_neg (fun q=>p ((Xf _ _).1 q))];exact zq8 n l s d o K r v m i ((i+j) / 2) (by omega) (by omega) (by omega) e (fun k f y=>by grind)
  ·have z:i=j:=by omega
   simp_all
theorem p_bs (n:Nat)(l:List Sta)(s:Int)(t:SS l)(u:l.length<=1100000)(v:l.length<n):∃ i:Nat,i<=l.length/\l.take i=l.filter (fun x=>decide (x.fScope<s))/\((Pq n l s=some ((i:Int),false)/\l.drop i=l.filter (fun x=>decide (s<x.fScope)))\/∃ c:i<l.length,l[i].fScope=s/\Pq n l s=some ((i:Int),true)/\l.drop (i+1)=l.filter (fun x=>decide (s<x.fScope))):=by
 have key:∃ i:Nat,i<=l.length/\(∀ k (c:k<l.length),k<i->l[k].fScope<s)/\(∀ c:i<l.length,¬l[i].fScope<s):=by
  refine ⟨(l.takeWhile (fun x=>decide (x.fScope<s))).length,(takeWhile_sublist _).length_le,?_⟩;clear t u v
  induction l with
  |nil=>simp_all
  |cons x l ih =>
   rw [takeWhile_cons];grind
 obtain ⟨i,hi,h1,y⟩:=key;have uq:∀ j:Nat,j<=l.length->(∀ k (c:k<l.length),k<j->l[k].fScope<s)->(∀ c:j<l.length,¬l[j].fScope<s)->j=i:=fun j f m g=>by
  grind
 obtain ⟨B,A,z⟩:=zrq t hi h1 y;refine ⟨i,hi,B,?_⟩;unfold Pq;simp only [aB,A5];have bs:=fun r w=>zq8 n l s t u (fun k1_0_0y=>if k1_0_0y<((l.length:Nat):Int) then (idx l k1_0_0y fun p=>bnd (Nf n p s) fun o=>some (k1_0_0y,decide (o=0))) else some (k1_0_0y,false)) r w n 0 l.length (by omega) (by omega) (by omega) (fun k _ h=>by omega) (fun k c h=>by omega)
 by_cases e:∃ c:i<l.length,l[i].fScope=s
 ·obtain ⟨c,d⟩:=e;refine Or.inr ⟨c,d,bs _ (fun j f m g=>?_),z c d⟩;obtain rfl:=uq j f m g;rw [if_pos (by omega),A9 c,y48,A3];have:cmpI l[j].fScope s=0:=(y3f _ _).2 d;simp [this]
 ·refine Or.inl ⟨bs _ (fun j f m g=>?_),A (fun c d=>e ⟨c,d⟩)⟩;obtain rfl:=uq j f m g;by_cases c:j<l.length
  ·rw [if_pos (by omega),A9 c,y48,A3];have:¬cmpI l[j].fScope s=0:=fun q=>e ⟨c,(y3f _ _).1 q⟩
   simp [this]
  ·rw [if_neg (by omega)]
theorem y7d {n c:Nat}{a:List α}{x:α}(h:c<=a.length)(d:a.length<=1000000000):T6 n a (c:Int) [x]=some (a.take c++x::a.drop c):=by
 unfold T6;simp [h,d]
theorem ze4 (n:Nat)(t:Int)(d:List Int)(x:d.length<=1100000)(K:List Sta->Option (List Sta)):∀ (m k:Nat) (c:List Sta),k<=d.length->d.length<m+k->SS c->c.length+(d.length-k)<=1100000->c.length+(d.length-k)<n->Jh n t d K m ((k:Int),c)=K ((d.drop k).foldl (fun l s=>opS l s t) c)
 |0,k,c,h1,A,p,z,y=>by omega
 |m+1,k,c,h1,A,p,z,y=>by
  unfold Jh;simp only [aB,A5,Ah,Ay,Al,Na];by_cases h:k<d.length
  ·rw [if_pos (by omega),A9 h,B2 d k h,aG];have w:=zqc c d[k] t;have u:=ze4 n t d x K m (k+1) (opS c d[k] t) (by omega) (by omega) (zxu p _ _) (by omega) (by omega);obtain ⟨i,hi,v,C⟩:=p_bs n c d[k] p (by omega) (by omega);rcases C with ⟨r,q⟩|⟨o,B,r,q⟩
   ·rw [r,A3];simp only [Ap];rw [y7d hi (by omega),zf7];have f:i<(c.take i++(⟨d[k],0⟩:Sta)::c.drop i).length:=by simp;omega
    rw [Ct f,Xm f,Jz f,Ad k (by omega)];have e:(c.take i++(⟨d[k],0⟩:Sta)::c.drop i).set i (⟨(c.take i++(⟨d[k],0⟩:Sta)::c.drop i)[i].fScope,t⟩:Sta)=opS c d[k] t:=by
     have j:(c.take i).length=i:=by rw [length_take];omega
     have g:(c.take i++(⟨d[k],0⟩:Sta)::c.drop i)[i].fScope=d[k]:=by
      rw [getElem_append_right (by omega)];simp [j]
     rw [g,set_append_right _ _ (by omega),j,Nat.sub_self,set_cons_zero];unfold opS;rw [v,q]
    rw [e];exact u
   ·rw [r,A3];simp only [Ao];rw [Ct o,Xm o,Jz o,Ad k (by omega)];have e:c.set i (⟨c[i].fScope,t⟩:Sta)=opS c d[k] t:=by
     rw [set_eq_take_append_cons_drop,if_pos o,B,v,q];rfl
    rw [e];exact u
  grind
def opL (l:List Sta)(c:List Int)(t:Int):List Sta:=c.foldl (fun l s=>opS l s t) l
theorem y16 (n:Nat)(t:Int)(c:List Int)(l:List Sta)(d:SS l)(f:l.length+c.length<=1100000)(e:1100000<n):Wl n l c t=some (opL l c t):=by
 unfold Wl Cc;rw [if_pos (by omega),Jo];have:=ze4 n t c (by omega) (fun y=>some y) n 0 l (Nat.zero_le _) (by omega) d (by omega) (by omega);exact this
theorem y2v (t:Int):∀ (c:List Int) {l:List Sta},SS l->SS (opL l c t)
 |[],_,h=>h
 |s::c,l,h=>y2v t c (zxu h s t)
theorem ziw (t:Int):∀ (c:List Int) (l:List Sta),(opL l c t).length<=l.length+c.length
 |[],l=>by simp [opL]
 |s::c,l=>by
  have h1:=ziw t c (opS l s t);have e:=zqc l s t;have d:opL l (s::c) t=opL (opS l s t) c t:=rfl;rw [d,length_cons];omega
theorem opL_mem (t:Int):∀ (c:List Int) {l:List Sta} {x:Sta},x∈opL l c t->(x.fScope∈c/\x.fTime=t)\/x∈l
 |[],l,x,h=>Or.inr h
 |s::c,l,x,h=>by
  rcases opL_mem t c (l:=opS l s t) h with k|k
  ·simp_all
  ·rcases opS_mem k with q|q
   all_goals simp_all
theorem fidx_cases (p:α->Bool):∀ l:List α,(l.find? p=none/\fidx p l=-1)\/∃ i,∃ h:i<l.length,fidx p l=(i:Int)/\l.find? p=some l[i]
 |[]=>Or.inl ⟨rfl,rfl⟩
 |x::l=>by
  by_cases q:p x=true
  ·refine Or.inr ⟨0,by simp,?_,?_⟩
   ·unfold fidx;rw [findIdx?_cons,if_pos q]
   ·rw [aL];simp [q]
  ·rcases fidx_cases p l with ⟨h1,c⟩|⟨i,hi,h1,c⟩
   ·refine Or.inl ⟨by rw [aL];simp [q,h1],?_⟩;unfold fidx at c ⊢;grind
   ·refine Or.inr ⟨i+1,by simp;omega,?_,by rw [aL];simp [q,c]⟩;unfold fidx at h1 ⊢;grind
theorem ze6 (n:Nat)(t:Int)(l:List Sta)(j:l.length<=1100000)(f:l.length<n)(xs:List Lim)(g:xs.length<=1100000):∀ (m k:Nat),k<=xs.length->xs.length<m+k->Ji n t xs l (some true) m (k:Int)=some ((xs.drop k).all (keP l t))
 |0,k,h1,o=>by omega
 |m+1,k,h1,o=>by
  unfold Ji;simp only [aB,A5,Ay,Al,Nb,Ao];by_cases h:k<xs.length
  ·rw [if_pos (by omega),A9 h,B2 xs k h,all_cons,Ad k (by omega),ze6 n t l j f xs g m (k+1) (by omega) (by omega),zmr n _ (fun s=>decide (s.fScope=xs[k].fScope)) l (by omega) f (fun s _=>rfl),A3];rcases fidx_cases (fun s:Sta=>decide (s.fScope=xs[k].fScope)) l with ⟨d,c⟩|⟨i,hi,d,c⟩
   ·rw [c,if_pos (by omega)];unfold keP;rw [d];rfl
   ·rw [d,if_neg (by omega),A9 hi];have e:keP l t xs[k]=decide (aD .i64 (t-l[i].fTime)<=xs[k].fSpan):=by unfold keP;rw [c]
    grind
  ·rw [if_neg (by omega),aF (by omega)];rfl
theorem y17 (n:Nat)(t:Int)(l:List Sta)(d:l.length<=1100000)(e:1100000<n)(xs:List Lim)(c:xs.length<=1100000):Wm n l xs t=some (xs.all (keP l t)):=by
 have:=ze6 n t l d (by omega) xs c n 0 (by omega) (by omega);unfold Wm;simp_all
def clP (cs:List Int)(x:Sta):Bool:=cs.any fun y=>decide (x.fScope=y)
theorem y4f (n:Nat)(x:Ed)(c:x.fCloses.length<=1100000)(d:1100000<n)(s:Sta):Lp n s x=some (clP x.fCloses s):=by
 unfold Lp;rw [Zi n _ _ (by omega) (by omega),A3];rfl
theorem y1b (n:Nat)(x:Ed)(c:x.fCloses.length<=1100000)(d:1100000<n)(s:Sta):Ov n s x=some (clP x.fCloses s,x):=by
 unfold Ov;rw [Zi n _ _ (by omega) (by omega),A3];rfl
abbrev ncl (x:Ed)(s:Sta):Bool:=!clP x.fCloses s
theorem zit (n:Nat)(x:Ed)(f:x.fCloses.length<=1100000)(g:1100000<n)(l:List Sta)(u:l.length<=1100000)(K:Int->Int->Int->Int->Int->Int->List AV->Int->Int->Int->Int->Int->ByteArray->List Int->List Int->List AV->List C4->List Int->List Sta->Option (List Sta×Ed))(r:Option (List Sta×Ed))
  (y:∀ (i:Nat) (c:List Sta),c.length=l.length->i<=l.length->c.take i=l.filter (ncl x)->K (i:Int) x.fFrom x.fTo x.fVar x.fType x.fCond.fOp x.fCond.fArgs x.fCond.fVar x.fCond.fField x.fCond.fKind x.fCond.fValue.fKind x.fCond.fValue.fNum x.fCond.fValue.fText x.fOpens x.fCloses x.fChecks x.fLimits x.fInside c=r) :
  ∀ (m i j:Nat) (c:List Sta),i<=j->j<=l.length->l.length<m+j->c.length=l.length->c.take i=(l.take j).filter (ncl x)->c.drop j=l.drop j->M7 n K m ((i:Int),(j:Int),x.fFrom,x.fTo,x.fVar,x.fType,x.fCond.fOp,x.fCond.fArgs,x.fCond.fVar,x.fCond.fField,x.fCond.fKind,x.fCond.fValue.fKind,x.fCond.fValue.fNum,x.fCond.fValue.fText,x.fOpens,x.fCloses,x.fChecks,x.fLimits,x.fInside,c)=r
 |0,i,j,c,A,h1,z,t,s,p=>by omega
 |m+1,i,j,c,A,h1,z,t,s,p=>by
  unfold M7;simp only [aB,A5];by_cases h:j<l.length
  ·have o:j<c.length:=by omega
   rw [if_pos (by omega),Ct o,D7 o,Ad i (by omega),Ad j (by omega)];have B:Ov n c[j] (⟨x.fFrom,x.fTo,x.fVar,x.fType,⟨x.fCond.fOp,x.fCond.fArgs,x.fCond.fVar,x.fCond.fField,x.fCond.fKind,⟨x.fCond.fValue.fKind,x.fCond.fValue.fNum,x.fCond.fValue.fText⟩⟩,x.fOpens,x.fCloses,x.fChecks,x.fLimits,x.fInside⟩:Ed)=some (clP x.fCloses c[j],x):=y1b n x f g c[j];rw [B,Cd];simp only;have k:c[j]=l[j]:=by
    have:=congrArg (fun q=>q[0]?) p;simp only [getElem?_drop,Nat.add_zero,aE o,aE h,Option.some.injEq] at this;exact this
   have w:c.drop (j+1)=l.drop (j+1):=by
    have:=congrArg List.tail p;simpa using this
   have e:(l.take (j+1)).filter (ncl x)=(l.take j).filter (ncl x)++(if ncl x l[j]=true then [l[j]] else []):=by
    rw [aA h,aO,aR];rfl
   rw [k];cases v:clP x.fCloses l[j] with
   |false =>
    have hi:i<c.length:=by omega
    simp only [Bool.not_false,Ao];rw [Ct hi,Jz hi];have d:ncl x l[j]=true:=by unfold ncl;rw [v];rfl
    rw [d] at e;refine zit n x f g l u K r y m (i+1) (j+1) _ (by omega) (by omega) (by omega) (by simp [t]) ?_ ?_
    ·rw [e,if_pos rfl,<-s,aA (by simpa using hi)];simp [take_set_of_le]
    ·rw [<-w,drop_set_of_lt (by omega)]
   |true =>
    simp only [Bool.not_true,Ap];have d:ncl x l[j]=false:=by unfold ncl;rw [v];rfl
    rw [d] at e;exact zit n x f g l u K r y m i (j+1) _ (by omega) (by omega) (by omega) t (by rw [e,s];simp) w
  grind
theorem y1a (n:Nat)(x:Ed)(m:x.fCloses.length<=1100000)(p:1100000<n)(l:List Sta)(u:l.length<=1100000):Vf n x l=some (l.filter (ncl x),x):=by
 unfold Vf;rw [zmq n x (clP x.fCloses) l (by omega) (by omega) (fun s _=>y4f n x m p s),A3];rcases fidx_cases (clP x.fCloses) l with ⟨h,g⟩|⟨i,hi,h,g⟩
 ·rw [g,A5,if_pos rfl,aC.2 (fun s o=>?_)];simp_all
 ·rw [h,A5,if_neg (by omega),Ad i (by omega)];have d:∀ s∈l.take i,ncl x s=true:=fun s o=>by
   obtain ⟨k,v,rfl⟩:=mem_iff_getElem.1 o;rw [length_take] at v;rw [getElem_take];have w:l.findIdx? (clP x.fCloses)=some i:=by
    unfold fidx at h;cases z:l.findIdx? (clP x.fCloses) with
    |none=>simp_all
    |some j=>grind
   have:=(findIdx?_eq_some_iff_getElem.1 w).2.2 k (by omega);simpa [ncl] using this
  have f:ncl x l[i]=false:=by
   have:=find?_some g;simp [ncl,this]
  refine zit n x m p l u _ _ (fun q c A y t=>?_) n i (i+1) l (by omega) (by omega) (by omega) rfl ?_ rfl
  ·simp only [aB];rw [Xh (by omega),zz8 (by omega)];have r:=zkh c q (⟨0,0⟩:Sta) (by omega);have:=Eb (l:=clrL c q (⟨0,0⟩:Sta)) (a:=0) (b:=q) (by omega) (by omega) (fun e=>some (e,x));refine this.trans ?_;rw [drop_zero,zf2 c q _ (by omega),t]
  ·rw [aA hi,aO,aC.2 d];simp [f]
theorem y7t (cs:List Int):∀ l:List Sta,cs.foldl clS l=l.filter (fun s=>!clP cs s):=by
 induction cs with
 |nil=>intro l;exact (aC.2 (fun _ _=>rfl)).symm
 |cons c cs d =>
  intro l;rw [aG,d];unfold clS;rw [aP];refine filter_congr (fun s _=>?_);unfold clP;grind
end Go.Proofs.YtidhlpjgifoneaaGreat
