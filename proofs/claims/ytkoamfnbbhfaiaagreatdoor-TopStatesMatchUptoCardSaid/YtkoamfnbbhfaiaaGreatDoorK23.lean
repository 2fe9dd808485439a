/- Layer 5, plainly, as layer 25 needs it. -/
import Derived.Test.YtkoamfnbbhfaiaaGreatDoorK22
set_option linter.unusedVariables false
set_option linter.unusedSimpArgs false
namespace Go.Proofs.YtkoamfnbbhfaiaaGreatDoor
open Go.RowKit List
open List renaming length_map->aA,drop_eq_nil_of_le->aB,getElem?_eq_getElem->aC,take_succ_eq_append_getElem->aD,length_take->aF,drop_zero->aH,foldl_cons->aJ,getElem_mem->aK,filter_eq_self->aL,getD_eq_getElem?_getD->aN,find?_cons->aO,pairwise_cons->aP,getElem_take->aQ,filter_eq_nil_iff->aS,all_cons->aV,filter_append->aX,filter_filter->aY,filter_cons->bC,any_cons->bD,replicate->bF
open Int renaming natCast_zero->aE,toNat->bE
open IntKind renaming wrap->aG,bits->bG
open Nat renaming zero_le->aM
open Bool renaming not_false->aR,not_true->aW,false_eq_true->aZ,and_eq_true->bA,not_eq_true->bB
open Option renaming isSome_iff_exists->aT,getD_some->aU
def Er (e:Ev):Bool:=decide (0<=e.fTime) && (decide (e.fTime<=1099511627776) && (decide (0<=e.fSource) && (decide (e.fSource<8) && (decide (0<=e.fSeq) && decide (e.fSeq<=1099511627776)))))
def idt (e:Ev):Ix:=⟨e.fSource,e.fSeq⟩
theorem zs3 (n:Nat)(e:Ev):Tk n e=some (Er e):=by
 unfold Tk Er
 simp only [A3]
 repeat' split
 all_goals (simp_all<;>omega)
theorem zpb (n:Nat)(e:Ev):S1 n e=some (Er e):=by
 unfold S1 Er
 simp only [A3]
 repeat' split
 all_goals (simp_all<;>omega)
theorem zyw (n:Nat)(e:Ev):M9 n e=some (idt e):=rfl
theorem zvb (n:Nat)(e:Ev):Lo n e=some ⟨e.fTime,e.fSource,e.fSeq⟩:=rfl
def Bn (e:Ev):Bt:=⟨e.fTime,e.fSource,e.fSeq⟩
def Dj (a b:Ev):Int:=rCmp (Bn a) (Bn b)
theorem zz0 (n:Nat)(f:4<=n)(a b:Ev):Tm n a b=some (Dj a b):=by
 obtain ⟨m,rfl⟩:∃ m,n=m+4:=⟨n-4,by omega⟩;unfold Tm U7;simp only [A1,Rc,zwa,Bool.and_true,Aq,bA,decide_eq_true_eq];split
 ·rename_i h;obtain ⟨h1,d,c⟩:=h;simp [Dj,rCmp,Bn,or3,cmpI,h1,d,c]
 ·rfl
theorem ztt (n:Nat)(a b:Ev):Pj n a b=some (decide (idt a=idt b)):=by
 unfold Pj;simp only [A3];split
 ·rename_i h;simp [idt,h]
 ·rename_i h;simp [idt,h]
def few1 (l:List A5):Bool:=(l.take 40).all (fun v=>decide (v.fText.size<=128)) && decide (l.length<40)
theorem zgs (n:Nat)(l:List A5)(K:Option Bool):∀ (m k:Nat),k<=l.length->k<=40->40<m+k->Oy n l K m k=if ((l.take 40).drop k).all (fun v=>decide (v.fText.size<=128)) then K else some false
 |0,k,h1,g,f=>by omega
 |m+1,k,h1,g,f=>by
  unfold Oy;simp only [aA,A3];by_cases h:k<l.length
  ·rw [if_pos (by omega)];by_cases i:k<40
   ·rw [if_pos (by omega),Ab h,Ad k (by omega)];have c:k<(l.take 40).length:=by rw [aF];omega
    rw [Aw (l.take 40) k c,aV,aQ];by_cases d:l[k].fText.size<=128
    ·rw [if_neg (by omega),zgs n l K m (k+1) (by omega) (by omega) (by omega)];simp [d]
    grind
   grind
  ·rw [if_neg (by omega),aB (by rw [aF];omega)];simp
theorem zxt (n:Nat)(l:List A5)(c:41<=n):Sq n l=some (few1 l):=by
 unfold Sq few1;have:=zgs n l (some (decide ((((List.map Aa l).length:Nat):Int)<40))) n 0 (by omega) (by omega) (by omega);simp only [aE,aH] at this;rw [this];simp only [aA];split
 ·rename_i h;rw [h];simp;omega
 ·rename_i h;simp only [bB] at h;rw [h];rfl
def fewE (l:List Ev):Bool:=(l.take 20).all (fun e=>decide (e.fValues.length<=12) && few1 e.fValues) && decide (l.length<=12)
theorem zgr (n:Nat)(l:List Ev)(K:Option Bool)(c:41<=n):∀ (m k:Nat),k<=l.length->k<=20->20<m+k->Ox n l K m k=if ((l.take 20).drop k).all (fun e=>decide (e.fValues.length<=12) && few1 e.fValues) then K else some false
 |0,k,h1,g,f=>by omega
 |m+1,k,h1,g,f=>by
  unfold Ox;simp only [aA,A3,Af];by_cases h:k<l.length
  ·rw [if_pos (by omega)];by_cases j:k<20
   ·rw [if_pos (by omega),Ab h,Ad k (by omega)];have d:k<(l.take 20).length:=by rw [aF];omega
    rw [Aw (l.take 20) k d,aV,aQ];by_cases i:l[k].fValues.length<=12
    ·rw [if_neg (by omega),Ab h,zxt n _ c,A1,Aq,zgr n l K c m (k+1) (by omega) (by omega) (by omega)];grind
    grind
   grind
  ·rw [if_neg (by omega),aB (by rw [aF];omega)];simp
theorem zxs (n:Nat)(l:List Ev)(c:41<=n):Sp n l=some (fewE l):=by
 unfold Sp fewE;have:=zgr n l (some (decide ((((List.map A6 l).length:Nat):Int)<=12))) c n 0 (by omega) (by omega) (by omega);simp only [aE,aH] at this;rw [this];simp only [aA];split
 ·rename_i h;rw [h];simp;omega
 ·rename_i h;simp only [bB] at h;rw [h];rfl
variable {l:List Ev}
theorem zss (h:fewE l=true):l.length<=12/\∀ e∈l,e.fValues.length<=12:=by
 unfold fewE at h;simp only [bA,decide_eq_true_eq,all_eq_true] at h;refine ⟨h.2,fun e c=>(h.1 e ?_).1⟩;rw [take_of_length_le (by omega)];exact c
def R5:List Ev->Ev->Bool |[],_=>false |x::_,e=>decide (0<=Dj x e)
def chk:List Ev->List Ev->Int
 |_,[]=>0
 |p,e::r=>if Er e=false then 2 else if R5 p e=true then 14 else if p.any (fun x=>decide (idt x=idt e)) then 7 else chk (e::p) r
def Et (l:List Ev):Int:=if 4096<l.length then 5 else chk [] l
def V4 (m:List (Ix×Bool))(p:List Ev):Prop:=∀ k,(mlk m k).getD false=p.any (fun x=>decide (idt x=k))
variable {κ ν:Type}
theorem zmd [DecidableEq κ](l:List (κ×ν))(k:κ)(v:ν)(c:κ):mlk (mput l k v) c=if c=k then some v else mlk l c:=by
 induction l with
 |nil=>simp [mput,mlk]
 |cons a r ih =>
  obtain ⟨a,x⟩:=a;simp only [mput];by_cases h:k=a
  ·subst h;rw [if_pos rfl];simp only [mlk];simp_all
  ·rw [if_neg h];simp only [mlk,ih];grind
theorem V4.put {m:List (Ix×Bool)}{p:List Ev}(h:V4 m p)(e:Ev):V4 (mput m (idt e) true) (e::p):=fun k=>by
 rw [zmd,bD];by_cases c:k=idt e
 ·subst c;simp
 ·rw [if_neg c,h k];grind
variable {k:Nat}
theorem Xa (h:k<l.length):(l.take (k+1)).reverse=l[k]::(l.take k).reverse:=by
 simp_all
theorem zlj (c:0<k)(h:k<=l.length):∃ t,(l.take k).reverse=l[k-1]::t:=by
 obtain ⟨j,rfl⟩:∃ j,k=j+1:=⟨k-1,by omega⟩;exact ⟨_,by rw [Xa (by omega)];rfl⟩
theorem zff (c:0<k)(h:k<=1000000):aG .i64 ((k:Int)-1)=((k-1:Nat):Int):=by rw [Cu _ (by omega)];omega
variable {β:Type}
theorem zy5 [DecidableEq κ](l:List (κ×ν))(k:κ)(z:ν)(c:ν->Bool->Option β):mgt l k z c=c ((mlk l k).getD z) (mlk l k).isSome:=by unfold mgt;rfl
theorem zu0 [DecidableEq κ](l:List (κ×ν))(k:κ)(v:ν)(c:List (κ×ν)->Option β):mst l k v c=c (mput l k v):=by unfold mst;rfl
theorem zm4 (n:Nat)(g:4<=n)(l:List Ev):∀ (m k:Nat) (c:List (Ix×Bool)),k<=l.length->l.length<=1000000->l.length<m+k->V4 c (l.take k).reverse ->
  Ls n l (some 0) m ((k:Int),c)=some (chk (l.take k).reverse (l.drop k))
 |0,k,_,h1,r,v,_=>by omega
 |m+1,k,c,h1,r,v,q=>by
  unfold Ls;simp only [aA,A3,Af];by_cases h:k<l.length
  ·rw [if_pos (by omega),Ab h,Ad k (by omega)];rw [Aw l k h];conv=>rhs;unfold chk
   have p:V4 (mput c (idt l[k]) true) (l.take (k+1)).reverse:=by rw [Xa h];exact q.put _
   have j:=zm4 n g l m (k+1) _ (by omega) r (by omega) p;rw [Xa h] at j;have d:=q (idt l[k]);simp only [zs3,A1,zyw,Aq,zy5,zu0,d,zz0 n g];by_cases o:Er l[k]=true
   ·have f:¬Er l[k]=false:=by rw [o];simp
    rw [if_pos o,if_neg f];by_cases i:0<k
    ·rw [if_pos (by omega),zff i (by omega),Ab (by omega:k-1<l.length)];obtain ⟨t,s⟩:=zlj (l:=l) i h1
     try simp only [A1,decide_eq_true_eq]
     rw [s] at j ⊢;simp only [R5,decide_eq_true_eq];grind
    ·have u:k=0:=by omega
     subst u;rw [if_neg (by omega)];simp only [take_zero,reverse_nil,any_nil,R5,aZ,if_false] at j ⊢;rw [j]
   ·have f:Er l[k]=false:=by simpa using o
    rw [if_neg o,if_pos f]
  ·rw [if_neg (by omega),aB (by omega)];rfl
theorem zz2 (n:Nat)(l:List Ev)(f:l.length<n)(c:4<=n)(d:l.length<=1000000):Tp n l=some (Et l):=by
 unfold Tp Et;simp only [aA,A3];by_cases h:4096<l.length
 ·rw [if_pos (by omega),if_pos h]
 ·rw [if_neg (by omega),if_neg h];have:=zm4 n c l n 0 [] (by omega) d (by omega) (fun k=>rfl);simpa using this
theorem zgg (n:Nat)(l:List Ev)(i:Nat)(hi:i<l.length)(K:Option Int):∀ (m k:Nat),k<=i->l.length<=1000000->i<m+k->O5 n l (i:Int) K m k=if ((l.take i).drop k).any (fun x=>decide (idt x=idt l[i])) then some 7 else K
 |0,k,h1,c,f=>by omega
 |m+1,k,h1,c,f=>by
  unfold O5;simp only [A3];by_cases h:k<i
  ·rw [if_pos (by omega),Ab (by omega:k<l.length),Ab hi,Ad k (by omega),ztt,A1,A3];have d:k<(l.take i).length:=by rw [aF];omega
   rw [Aw (l.take i) k d,bD,aQ,zgg n l i hi K m (k+1) (by omega) c (by omega)];grind
  ·rw [if_neg (by omega),aB (by rw [aF];omega)];simp
theorem zgf (n:Nat)(l:List Ev)(i:Nat)(hi:i<l.length)(K:Option Int):∀ (m k:Nat),k<=i->l.length<=1000000->i<m+k->O4 n l (i:Int) K m k=if ((l.take i).drop k).any (fun x=>decide (idt x=idt l[i])) then some 7 else K
 |0,k,h1,c,f=>by omega
 |m+1,k,h1,c,f=>by
  unfold O4;simp only [A3];by_cases h:k<i
  ·rw [if_pos (by omega),Ab (by omega:k<l.length),Ab hi,Ad k (by omega),ztt,A1,A3];have d:k<(l.take i).length:=by rw [aF];omega
   rw [Aw (l.take i) k d,bD,aQ,zgf n l i hi K m (k+1) (by omega) c (by omega)];grind
  grind
theorem zgh (n:Nat)(l:List Ev)(r:l.length<n):∀ (m k:Nat),k<=l.length->l.length<=1000000->l.length<m+k->H0 n l (some 0) m (k:Int)=some (chk (l.take k).reverse (l.drop k))
 |0,k,h1,p,u=>by omega
 |m+1,k,h1,p,u=>by
  unfold H0;simp only [aA,A3,Af];by_cases h:k<l.length
  ·rw [if_pos (by omega),Ab h,Ad k (by omega)];rw [Aw l k h];conv=>rhs;unfold chk
   have j:=zgh n l r m (k+1) (by omega) p (by omega);rw [Xa h] at j;simp only [zpb,A1,Aq];by_cases o:Er l[k]=true
   ·have c:¬Er l[k]=false:=by rw [o];simp
    rw [if_pos o,if_neg c];by_cases g:0<k
    ·rw [if_pos (by omega),zff g (by omega),Ab (by omega:k-1<l.length)];obtain ⟨t,q⟩:=zlj (l:=l) g h1;simp only [A1,zvb];rw [Ab h];simp only [A1,zlt];have ec:rCmp ⟨l[k-1].fTime,l[k-1].fSource,l[k-1].fSeq⟩ ⟨l[k].fTime,l[k].fSource,l[k].fSeq⟩=Dj l[k-1] l[k]:=rfl;rw [ec];have f:=zgg n l k h (H0 n l (some 0) m ((k+1:Nat):Int)) n 0 (by omega) p (by omega);simp only [aE,aH] at f;rw [f,j];have i:(l.take k).any (fun x=>decide (idt x=idt l[k]))=(l.take k).reverse.any (fun x=>decide (idt x=idt l[k])):=by rw [any_reverse]
     rw [i,q];simp only [R5,decide_eq_true_eq];grind
    ·have s:k=0:=by omega
     subst s;rw [if_neg (by omega)];have d:=zgf n l 0 h (H0 n l (some 0) m ((0+1:Nat):Int)) n 0 (by omega) p (by omega);simp only [aE,aH] at d;simp only [aE] at d ⊢;rw [d];simp only [take_zero,reverse_nil,any_nil,R5,aZ,if_false] at j ⊢;rw [j]
   ·have c:Er l[k]=false:=by simpa using o
    rw [if_neg o,if_pos c]
  ·rw [if_neg (by omega),aB (by omega)];rfl
theorem Y4 (n:Nat)(l:List Ev)(c:l.length<n)(d:l.length<=1000000):P9 n l=some (Et l):=by
 unfold P9 Et;simp only [aA,A3];by_cases h:4096<l.length
 ·rw [if_pos (by omega),if_pos h]
 ·rw [if_neg (by omega),if_neg h];have:=zgh n l c n 0 (by omega) d (by omega);simpa using this
abbrev Rf:=Bt
abbrev N0:Nat:=2000000000
abbrev ev0:Ev:=⟨0,0,0,0,[]⟩
theorem zy4 [DecidableEq κ](l:List (κ×ν))(k:κ)(z:ν)(c:ν->Bool->Option β):mgv l k z c=c ((mlk l k).getD z) (mlk l k).isSome:=by unfold mgv;rfl
theorem zu1 {n:Int}(c:0<=n)(h:n<=1000)(k:Nat->Option β):mkn n 24 k=k n.toNat:=by unfold mkn;grind
theorem zty (i:Nat)(x:Option β):nst i x=x:=by unfold nst;rfl
theorem zu6 (i:Nat)(x:Option β):frr i x=x:=by unfold frr;rfl
theorem Y5 {n:Int}{len:Nat}(c:0<=n)(h:n.toNat<len)(x:Option β):ncx n len x=x:=by unfold ncx;rw [if_pos ⟨c,h⟩]
variable {α:Type}
theorem ztx {l:List (List α)}(h:k<l.length)(c:List α->Option β):ntk l k c=c (l.getD k []):=by unfold ntk;simp [h]
theorem ztz {l:List (List α)}(h:k<l.length)(v:List α)(c:List (List α)->Option β):npt l k v c=c (l.set k v):=by unfold npt;rw [if_pos h]
theorem zmw:∀ (l p:List Ev),chk p l=0->(∀ e∈l,Er e=true)/\Str Dj l/\(∀ h t,p=h::t->∀ e∈l,Dj h e<0)
 |[],p,_=>⟨by simp,by simp [Str],by simp⟩
 |e::l,p,h=>by
  unfold chk at h;split at h
  ·cases h
  split at h
  ·cases h
  split at h
  ·cases h
  rename_i h1 g n;obtain ⟨o,m,j⟩:=zmw l (e::p) h;have f:=j e p rfl;refine ⟨fun x c=>?_,aP.2 ⟨f,m⟩,fun q t i x c=>?_⟩
  ·grind
  ·have d:Dj q e<0:=by
    subst i;simp only [R5] at g;simpa using g
   rcases mem_cons.1 c with k|k
   ·rw [k];exact d
   ·exact Xo.trans _ _ _ d (f x k)
structure zyr (l:List Ev):Prop where
 pl:∀ e∈l,Er e=true
 st:Str Dj l
 ln:l.length<=4096
theorem zjd (h:Et l=0):zyr l:=by
 unfold Et at h;split at h
 ·cases h
 ·obtain ⟨a,b,_⟩:=zmw l [] h;exact ⟨a,b,by omega⟩
def lkH (held:List Ev)(r:Rf):Option Ev:=held.find? (fun e=>decide (Bn e=r))
variable {held:List Ev}{e:Ev}
theorem zvy {r:Rf}(h:lkH held r=some e):Bn e=r/\e∈held:=by
 have h1:=find?_some h;exact ⟨by simpa using h1,mem_of_find?_eq_some h⟩
theorem zk7 (h:Str Dj held)(c:e∈held):lkH held (Bn e)=some e:=by
 unfold lkH
 induction held with
 |nil=>simp at c
 |cons x l ih =>
  obtain ⟨h1,d⟩:=aP.1 h;rw [aO];rcases mem_cons.1 c with k|k
  ·rw [k];simp
  ·have:Bn x≠Bn e:=fun q=>Xo.lt_ne (h1 e k) q
   simp only [this,decide_false];exact ih d k
theorem zc1 (n:Nat)(r:Rf)(l:List Ev)(c:l.length<=1000000):∀ (m k:Nat),k<=l.length->l.length<m+k->O1 n r l (some (ev0,false)) m (k:Int)=some (match lkH (l.drop k) r with|some e=>(e,true)|none=>(ev0,false))
 |0,k,h1,d=>by omega
 |m+1,k,h1,d=>by
  unfold O1;simp only [aA,A3];by_cases h:k<l.length
  ·rw [if_pos (by omega),Ab h,Aw l k h,Ad k (by omega),zc1 n r l c m (k+1) (by omega) (by omega),zvb,A1,Ab h];have:(decide (l[k].fTime=r.fTime) && (decide (l[k].fSource=r.fSource) && (decide (l[k].fSeq=r.fSeq) && true)))=decide (Bn l[k]=r):=by
    cases r;simp [Bn]
   rw [this,A3];unfold lkH;grind
  ·rw [if_neg (by omega),aB (by omega)];rfl
theorem zvj (n:Nat)(r:Rf)(l:List Ev)(c:l.length<=1000000)(d:l.length<n):S6 n l r=some (match lkH l r with|some e=>(e,true)|none=>(ev0,false)):=by
 have:=zc1 n r l c n 0 (by omega) (by omega);unfold S6;simp_all
def HM (held:List Ev)(c:List (Rf×Ev)):Prop:=∀ r,mlk c r=lkH held r
theorem zq8 (r:Rf):∀ (l:List Ev) (m:List (Rf×Ev)),Str Dj l->mlk (l.foldl (fun m e=>mput m (Bn e) e) m) r=(lkH l r).or (mlk m r)
 |[],m,_=>by simp [lkH]
 |e::l,m,h=>by
  obtain ⟨h1,f⟩:=aP.1 h;rw [aJ,zq8 r l _ f,zmd];unfold lkH;rw [aO];by_cases q:Bn e=r
  ·have:lkH l r=none:=by
    unfold lkH;rw [find?_eq_none];intro x d c;simp only [decide_eq_true_eq] at c;exact Xo.lt_ne (h1 x d) (by rw [q,c])
   unfold lkH at this;rw [this];simp [q]
  grind
def addB (held:List Ev)(vs:List (List Ev))(b:Bd):List (List Ev):=match lkH held b.fRef with|some e=>(if 0<=b.fVar/\b.fVar.toNat<vs.length then vs.set b.fVar.toNat (vs.getD b.fVar.toNat []++[e]) else vs)|none=>vs
def bndV (held:List Ev)(m:Nat)(l:List Bd):List (List Ev):=l.foldl (addB held) (bF m [])
def ev1 (held:List Ev)(l:List Bd)(v:Int):List Ev:=l.filterMap (fun b=>if b.fVar=v then lkH held b.fRef else none)
theorem Xl (held:List Ev)(vs:List (List Ev))(b:Bd):(addB held vs b).length=vs.length:=by
 unfold addB;grind
theorem zn4 {vs:List (List Ev)}{b:Bd}(h:∀ q∈vs,q.length<=k):∀ q∈addB held vs b,q.length<=k+1:=by
 unfold addB;grind
theorem zh6 (held:List Ev):∀ (l:List Bd) (vs:List (List Ev)),(l.foldl (addB held) vs).length=vs.length
 |[],vs=>rfl
 |b::l,vs=>by rw [aJ,zh6 held l,Xl]
theorem Mj (held:List Ev)(m:Nat)(l:List Bd):(bndV held m l).length=m:=by unfold bndV;rw [zh6];simp
theorem ztg (held:List Ev)(vs:List (List Ev))(b:Bd)(i:Nat)(hi:i<vs.length):(addB held vs b).getD i []=vs.getD i []++(if b.fVar=(i:Int) then lkH held b.fRef else none).toList:=by
 unfold addB;grind
theorem zh7 (held:List Ev)(i:Nat):∀ (l:List Bd) (vs:List (List Ev)),i<vs.length->(l.foldl (addB held) vs).getD i []=vs.getD i []++ev1 held l (i:Int)
 |[],vs,hi=>by simp [ev1]
 |b::l,vs,hi=>by
  rw [aJ,zh7 held i l _ (by rw [Xl];exact hi),ztg held vs b i hi];unfold ev1;grind
theorem Qq (held:List Ev)(m:Nat)(l:List Bd)(v:Int):evs (bndV held m l) v=if 0<=v/\v<(m:Int) then ev1 held l v else []:=by
 unfold evs;rw [Mj];by_cases h1:v<0
 ·rw [if_pos h1,if_neg (by omega)]
 rw [if_neg h1];by_cases c:(m:Int)<=v
 ·rw [if_pos c,if_neg (by omega)]
 rw [if_neg c,if_pos (by omega)];unfold bndV;rw [zh7 held v.toNat l _ (by simp;omega)];grind
theorem zwg (held:List Ev)(l:List Bd)(v:Int):(ev1 held l v).length<=l.length:=length_filterMap_le _ _
theorem zsw {l:List Bd}{v:Int}(h:∀ b∈l,b.fVar≠v):ev1 held l v=[]:=by
 unfold ev1;simp_all
abbrev enH (held:List Ev)(l:List Bd):List (List Ev):=bndV held 16 l
theorem Qz {l:List Bd}(h:l.length<=1000000)(v:Int):(evs (enH held l) v).length<=1000000:=by
 rw [Qq];split
 ·have:=zwg held l v;omega
 ·simp
theorem zc4 (n:Nat)(held:List Ev)(j:held.length<=1000000)(u:1000000<n)(x:Nat)(p:x<=16)(l:List Bd)(w:l.length<=1000000)(K:List (List Ev)->Option Ai):∀ (m k:Nat) (vs:List (List Ev)),k<=l.length->l.length<m+k->vs.length=x->(∀ q∈vs,q.length<=k)->G1 n l (x:Int) held x K m ((k:Int),vs)=K ((l.drop k).foldl (addB held) vs)
 |0,k,vs,h1,y,o,g=>by omega
 |m+1,k,vs,h1,y,o,g=>by
  unfold G1;simp only [aA,A3];by_cases h:k<l.length
  ·rw [if_pos (by omega),Ab h,Aw l k h,Ad k (by omega),zvj n _ held j (by omega),A1,Ar,aJ];have s:(⟨l[k].fRef.fTime,l[k].fRef.fSource,l[k].fRef.fSeq⟩:Rf)=l[k].fRef:=rfl;rw [s];have f:∀ c,c=addB held vs l[k]->G1 n l (x:Int) held x K m (((k+1:Nat):Int),c)=K ((l.drop (k+1)).foldl (addB held) (addB held vs l[k])):=fun c r=>by
    subst r;exact zc4 n held j u x p l w K m (k+1) _ (by omega) (by omega) (by rw [Xl];exact o) (zn4 g)
   cases t:lkH held l[k].fRef with
   |none =>
    simp only [B3];exact f vs (by unfold addB;rw [t])
   |some e =>
    simp only [Au];by_cases d:0<=l[k].fVar
    ·rw [if_pos d];by_cases i:l[k].fVar<(x:Int)
     ·rw [if_pos i,Y5 d (by omega),ztx (by omega)];have v:(vs.getD l[k].fVar.toNat []).length<=k:=by
       rw [aN,aC (by omega),aU];exact g _ (aK _)
      rw [Bu (by grind) (by omega),Y5 d (by omega),ztz (by omega)];exact f _ (by unfold addB;simp_all)
     ·rw [if_neg i];exact f vs (by unfold addB;grind)
    ·rw [if_neg d];exact f vs (by unfold addB;grind)
  ·rw [if_neg (by omega),aB (by omega)];rfl
theorem zpe (n:Nat)(g:1000000<n)(held:List Ev)(i:held.length<=1000000)(c:Cf)(h:c.fBindings.length<=1000000):Lk n held c=some ⟨enH held c.fBindings⟩:=by
 unfold Lk Vp;rw [zu1 (by omega) (by omega),zty,Ar];have:=zc4 n held i g 16 (by omega) c.fBindings h (fun k1_0_0y=>frr 13 <| reg <| some ⟨k1_0_0y⟩) n 0 (bF 16 []) (by omega) (by omega) (by simp) (by simp);simp only [aE] at this;have f:bE 16=16:=rfl;have d:((16:Nat):Int)=16:=rfl;rw [f];rw [d] at this;rw [this,zu6,Ar,A1];rfl
def BdOk (held:List Ev)(x:Int)(l:List Bd):Prop:=∀ b∈l,(0<=b.fVar/\b.fVar<x)/\(lkH held b.fRef).isSome=true
theorem zm0 (n:Nat)(held:List Ev)(r:Bg)(hm:HM held r.fheld)(x:Nat)(o:x<=16)(l:List Bd)(t:l.length<=1000000)(g:BdOk held (x:Int) l)(K:List (List Ev)->Option Ai):∀ (m k:Nat) (vs:List (List Ev)),k<=l.length->l.length<m+k->vs.length=x->(∀ q∈vs,q.length<=k)->Pk n l r x K m ((k:Int),vs)=K ((l.drop k).foldl (addB held) vs)
 |0,k,vs,h1,v,i,d=>by omega
 |m+1,k,vs,h1,v,i,d=>by
  unfold Pk;simp only [aA,A3];by_cases h:k<l.length
  ·obtain ⟨⟨c,w⟩,j⟩:=g _ (aK h);obtain ⟨e,f⟩:=aT.1 j;have p:(⟨l[k].fRef.fTime,l[k].fRef.fSource,l[k].fRef.fSeq⟩:Rf)=l[k].fRef:=rfl;have s:(vs.getD l[k].fVar.toNat []).length<=k:=by
    rw [aN,aC (by omega),aU];exact d _ (aK _)
   rw [if_pos (by omega),Ab h,Aw l k h,Ad k (by omega),aJ,Y5 c (by omega),ztx (by omega),p,zy4,hm,f,aU,Bu (by grind) (by omega),Y5 c (by omega),ztz (by omega)];have u:addB held vs l[k]=vs.set l[k].fVar.toNat (vs.getD l[k].fVar.toNat []++[e]):=by
    unfold addB;rw [f];simp only;rw [if_pos ⟨c,by omega⟩]
   rw [<-u];exact zm0 n held r hm x o l t g K m (k+1) _ (by omega) (by omega) (by rw [Xl];exact i) (zn4 d)
  grind
theorem zz1 (n:Nat)(h:1000000<n)(held:List Ev)(r:Bg)(hm:HM held r.fheld)(d:0<=r.fa.fVars/\r.fa.fVars<=16)(l:List Bd)(f:l.length<=1000000)(g:BdOk held r.fa.fVars l):Tb n r l=some ⟨bndV held r.fa.fVars.toNat l⟩:=by
 unfold Tb;rw [zu1 d.1 (by omega),zty,Ar];have c:((r.fa.fVars.toNat:Nat):Int)=r.fa.fVars:=by omega
 have:=zm0 n held r hm r.fa.fVars.toNat (by omega) l f (by rw [c];exact g) (fun k1_0_0y=>frr 13 <| reg <| some ⟨k1_0_0y⟩) n 0 (bF r.fa.fVars.toNat []) (by omega) (by omega) (by simp) (by simp);simp only [aE] at this;rw [this,zu6,Ar];rfl
def EvEq (a b:List (List Ev)):Prop:=∀ v,evs a v=evs b v
theorem zqi {x:Int}(f:0<=x/\x<=16){l:List Bd}(d:BdOk held x l):EvEq (enH held l) (bndV held x.toNat l):=fun v=>by
 rw [Qq,Qq];by_cases h:0<=v/\v<x
 ·grind
 ·rw [if_neg (by omega:¬(0<=v/\v<((x.toNat:Nat):Int)))];split
  ·exact zsw (fun b c q=>by have:=(d b c).1;omega)
  ·rfl
def EvS (a:List (List Ev)):Prop:=∀ v,(evs a v).length<=1000000
def trR (a:List (List Ev))(e:Exn)(own:Int)(ev:Ev):Bool:=(G6 N0 e ⟨a⟩ own ev).getD false
variable {a b:List (List Ev)}
theorem R8 (c:EvEq a b)(m:EvS a){e:Exn}(h:WfE e)(own:Int)(ev:Ev):G6 N0 e ⟨a⟩ own ev=some (trR a e own ev)/\J3 N0 e ⟨b⟩ own ev=some (trR a e own ev):=by
 obtain ⟨z,g,j⟩:=h;obtain ⟨r,d,f⟩:=zv1 a b m own ev z e (fun i _=>c i) j g N0 (by decide);have:trR a e own ev=r:=by unfold trR;rw [d];rfl
 rw [this];exact ⟨d,f⟩
def vio (a:List (List Ev))(e:Ev)(g:Gd):Bool:=decide (g.fType=e.fType) && trR a g.fCond g.fVar e
theorem zp9 (d:EvS a){g:Gd}(c:WfE g.fCond)(e:Ev):Nv N0 g ⟨a⟩ e=some (vio a e g):=by
 unfold Nv vio;simp only [B1,Ar,Jz,A3];have:=(R8 (fun v=>rfl:EvEq a a) d c g.fVar e).1;rw [this,A1];by_cases h:g.fType=e.fType<;>simp [h]
theorem zts (c:EvEq a b)(f:EvS a){g:Gd}(d:WfE g.fCond)(e:Ev):Q4 N0 g ⟨b⟩ e=some (vio a e g):=by
 unfold Q4 vio;simp only [B1,Ar,Lt,A3];have:=(R8 c f d g.fVar e).2;rw [this,A1];by_cases h:g.fType=e.fType<;>simp [h]
abbrev Lim:=Bm
def SS (l:List Sta):Prop:=l.Pairwise (fun x y=>x.fScope<y.fScope)
def opS (l:List Sta)(s t:Int):List Sta:=l.filter (fun x=>decide (x.fScope<s))++(⟨s,t⟩:Sta)::l.filter (fun x=>decide (s<x.fScope))
def clS (l:List Sta)(s:Int):List Sta:=l.filter (fun x=>!decide (x.fScope=s))
theorem zps {l:List Sta}(h:SS l)(s t:Int):SS (opS l s t):=by
 unfold opS SS;rw [pairwise_append];refine ⟨h.filter _,aP.2 ⟨fun x c=>by simp_all,h.filter _⟩,fun x c y d=>?_⟩;grind
theorem zk3 (l:List Sta)(s t:Int):(opS l s t).length<=l.length+1:=by
 unfold opS;rw [length_append,length_cons]
 induction l with
 |nil=>simp
 |cons x l ih =>
  grind
theorem zle {l:List Sta}(h:SS l){s:Int}{i:Nat}(hi:i<=l.length)(h1:∀ k (d:k<l.length),k<i->l[k].fScope<s)(q:∀ d:i<l.length,¬l[i].fScope<s):l.take i=l.filter (fun x=>decide (x.fScope<s))/\((∀ d:i<l.length,l[i].fScope≠s)->l.drop i=l.filter (fun x=>decide (s<x.fScope)))/\(∀ d:i<l.length,l[i].fScope=s->l.drop (i+1)=l.filter (fun x=>decide (s<x.fScope))):=by
 have g:∀ x∈l.take i,x.fScope<s:=fun x c=>by
  obtain ⟨k,d,rfl⟩:=mem_iff_getElem.1 c;grind
 have n:∀ d:i<l.length,∀ x∈l.drop (i+1),l[i].fScope<x.fScope:=fun d x c=>by
  have:=h.drop (i:=i);rw [Aw l i d] at this;exact (aP.1 this).1 x c
 have m:∀ x∈l.drop i,s<=x.fScope:=fun x c=>by
  by_cases d:i<l.length
  ·rw [Aw l i d] at c;grind
  grind
 have f:∀ p:Sta->Bool,l.filter p=(l.take i).filter p++(l.drop i).filter p:=fun p=>by rw [<-aX,take_append_drop]
 refine ⟨?_,fun j=>?_,fun d o=>?_⟩
 ·rw [f,aL.2 (fun x c=>by simpa using g x c),aS.2 (fun x c=>by have:=m x c;simp;omega),append_nil]
 ·rw [f,aS.2 (fun x c=>by have:=g x c;simp;omega),nil_append,aL.2 (fun x c=>?_)];by_cases d:i<l.length
  ·rw [Aw l i d] at c;grind
  grind
 ·rw [f,aS.2 (fun x c=>by have:=g x c;simp;omega),nil_append,Aw l i d,bC,if_neg (by simp;omega),aL.2 (fun x c=>by have:=n d x c;simp;omega)]
theorem Z9 (n:Nat)(s:Int)(l:List Sta)(c:l.length<=1100000)(K:List Sta->Option (List Sta)):∀ (m k:Nat) (out:List Sta),k<=l.length->l.length<m+k->out.length<=k->K7 n s l K m ((k:Int),out)=K (out++(l.drop k).filter (fun x=>!decide (x.fScope=s)))
 |0,k,out,h1,i,g=>by omega
 |m+1,k,out,h1,i,g=>by
  unfold K7;simp only [aA,A3,Af];by_cases h:k<l.length
  ·have f:=Z9 n s l c K m (k+1) (out++[l[k]]) (by omega) (by omega) (by simp_all);have d:=Z9 n s l c K m (k+1) out (by omega) (by omega) (by omega);rw [if_pos (by omega),Ar,Ab h,Ab h,Aw l k h,Ad k (by omega),Bu (by grind) (by omega),f,d,bC];grind
  grind
theorem zm3 (n:Nat)(s:Int)(l:List Sta)(c:l.length<=1100000)(d:l.length<n):Ol n l s=some (clS l s):=by
 have:=Z9 n s l c (fun y=>some y) n 0 [] (by omega) (by omega) (by simp);unfold Ol clS;simp_all
theorem z8b (n:Nat)(s t:Int)(l:List Sta)(g:l.length<=1100000)(K:List Sta->Int->List Sta->Option (List Sta))(r:Option (List Sta))
  (d:∀ i:Nat,i<=l.length->(∀ k (c:k<l.length),k<i->l[k].fScope<s)->(∀ c:i<l.length,¬l[i].fScope<s)->K l (i:Int) (l.take i)=r) :
  ∀ (m k:Nat),k<=l.length->l.length<m+k->(∀ j (p:j<l.length),j<k->l[j].fScope<s)->I4 n t s l K m ((k:Int),l.take k)=r
 |0,k,h1,u,f=>by omega
 |m+1,k,h1,u,f=>by
  unfold I4;simp only [aA,A3,B1,Ar,K6];by_cases h:k<l.length
  ·rw [if_pos (by omega),Ab h];by_cases q:l[k].fScope<s
   ·rw [if_pos q,Ab h,Bu (by grind) (by omega),Ad k (by omega),<-aD h];exact z8b n s t l g K r d m (k+1) (by omega) (by omega) (fun j p o=>by
     grind)
   ·rw [if_neg q];exact d k h1 f (fun _=>q)
  ·rw [if_neg (by omega),B3];exact d k h1 f (fun c=>absurd c h)
theorem zyk {l:List Sta}(h:SS l)(s:Int):SS (clS l s):=h.filter _
theorem zqs (l:List Sta)(s:Int):(clS l s).length<=l.length:=length_filter_le _ _
theorem zpc (n:Nat)(s t:Int)(l:List Sta)(h:SS l)(o:l.length<=1100000)(m:l.length<n):Rx n l s t=some (opS l s t):=by
 unfold Rx;rw [zm3 n s l o m,A1];have v:=zqs l s;refine z8b n s t (clS l s) (by omega) _ _ (fun i hi h1 p=>?_) n 0 (by omega) (by omega) (fun j _ u=>by omega);obtain ⟨r,q,_⟩:=zle (zyk h s) hi h1 p;have f:∀ g:i<(clS l s).length,(clS l s)[i].fScope≠s:=fun g=>by
  have:=(mem_filter.1 (aK g)).2;simpa using this
 have:=Gm (l:=clS l s) hi (Nat.le_refl _) (fun d=>app ((clS l s).take i++[⟨s,t⟩]) d 16 fun c=>some c);rw [Bu (by grind) (by omega)];simp only [aA];rw [this,take_length,Bu (by grind) (by omega),r,q f];unfold opS clS;rw [aY,aY,append_assoc];congr 2;all_goals grind
def keP (l:List Sta)(t:Int)(x:Lim):Bool:=match l.find? (fun s=>decide (s.fScope=x.fScope)) with|some s=>decide (aG .i64 (t-s.fTime)<=x.fSpan)|none=>false
theorem zgl (n:Nat)(t:Int)(x:Lim)(l:List Sta)(c:l.length<=1100000):∀ (m k:Nat),k<=l.length->l.length<m+k->Oa n t x l (some false) m (k:Int)=some (keP (l.drop k) t x)
 |0,k,h1,d=>by omega
 |m+1,k,h1,d=>by
  unfold Oa;simp only [aA,A3];by_cases h:k<l.length
  ·rw [if_pos (by omega),Ab h,Ab h,Aw l k h,Ad k (by omega),zgl n t x l c m (k+1) (by omega) (by omega)];unfold keP;grind
  ·rw [if_neg (by omega),aB (by omega)];rfl
theorem zxq (n:Nat)(t:Int)(x:Lim)(l:List Sta)(c:l.length<=1100000)(d:l.length<n):Sa n l x t=some (keP l t x):=by
 have:=zgl n t x l c n 0 (by omega) (by omega);unfold Sa;simp_all
theorem zys (x:Int)(c:0<=x)(h1:x<=18446744073709551615):aG .u64 x=x:=IntWalk.u64_in _ ⟨c,h1⟩
theorem zw4 (i j:Nat)(h:i+j<=3000000):aG .i64 (Int.fdiv (aG .u64 (aG .i64 ((i:Int)+(j:Int)))) (2 ^ min (bE (1:Int)) (bG .u64)))=(((i+j) / 2:Nat):Int):=by
 have f:aG .i64 ((i:Int)+(j:Int))=((i+j:Nat):Int):=by rw [Cu _ (by omega)];omega
 rw [f,zys _ (by omega) (by omega)];have d:(2:Int) ^ min (bE (1:Int)) (bG .u64)=2:=by decide
 rw [d];have c:Int.fdiv ((i+j:Nat):Int) 2=(((i+j) / 2:Nat):Int):=by
  rw [Int.fdiv_eq_ediv_of_nonneg _ (by omega)];omega
 rw [c,Cu _ (by omega)]
theorem zve (n:Nat)(a:Sta)(s:Int):M1 n a s=some (cmpI a.fScope s):=by
 unfold M1;rw [Rc,A1]
theorem zmu (a b:Int):cmpI a b<0 ↔ a<b:=by unfold cmpI;split<;>(try split)<;>omega
theorem zuc (a b:Int):cmpI a b=0 ↔ a=b:=Jj.zero a b
theorem zjy (n:Nat)(l:List Sta)(s:Int)(d:SS l)(p:l.length<=1100000)(K:Int->Option (Int×Bool))(r:Option (Int×Bool))
  (w:∀ i:Nat,i<=l.length->(∀ k (g:k<l.length),k<i->l[k].fScope<s)->(∀ g:i<l.length,¬l[i].fScope<s)->K (i:Int)=r) :
  ∀ (m i j:Nat),i<=j->j<=l.length->j-i<m->(∀ k (h:k<l.length),k<i->l[k].fScope<s)->(∀ k (h:k<l.length),j<=k->¬l[k].fScope<s)->Jy n s l K m ((i:Int),(j:Int))=r
 |0,i,j,h1,y,D,_,_=>by omega
 |m+1,i,j,h1,y,D,f,o=>by
  have mono:∀ a b (v:a<l.length) (u:b<l.length),a<=b->l[a].fScope<=l[b].fScope:=fun a b v u c=>by
   rcases Nat.eq_or_lt_of_le c with rfl|c
   ·exact Int.le_refl _
   ·have:=pairwise_iff_getElem.1 d a b v u c;omega
  unfold Jy;simp only [A3];by_cases h:i<j
  ·rw [if_pos (by omega),zx3 (by omega),zw4 i j (by omega)];have C:(i+j) / 2<l.length:=by omega
   rw [Ab C,zve,A1,Ad _ (by omega)];by_cases t:l[(i+j) / 2].fScope<s
   ·rw [if_pos ((zmu _ _).2 t)];exact zjy n l s d p K r w m ((i+j) / 2+1) j (by omega) y (by omega) (fun k g z=>by grind) o
   ·rw [if_neg (fun q=>t ((zmu _ _).1 q))];exact zjy n l s d p K r w m i ((i+j) / 2) (by omega) (by omega) (by omega) f (fun k g A=>by grind)
  ·have B:i=j:=by omega
   simp_all
theorem p_bs (n:Nat)(l:List Sta)(s:Int)(t:SS l)(u:l.length<=1100000)(v:l.length<n):∃ i:Nat,i<=l.length/\l.take i=l.filter (fun x=>decide (x.fScope<s))/\((Ns n l s=some ((i:Int),false)/\l.drop i=l.filter (fun x=>decide (s<x.fScope)))\/∃ c:i<l.length,l[i].fScope=s/\Ns n l s=some ((i:Int),true)/\l.drop (i+1)=l.filter (fun x=>decide (s<x.fScope))):=by
 have key:∃ i:Nat,i<=l.length/\(∀ k (c:k<l.length),k<i->l[k].fScope<s)/\(∀ c:i<l.length,¬l[i].fScope<s):=by
  refine ⟨(l.takeWhile (fun x=>decide (x.fScope<s))).length,(takeWhile_sublist _).length_le,?_⟩;clear t u v
  induction l with
  |nil=>simp_all
  |cons x l ih =>
   rw [takeWhile_cons];grind
 obtain ⟨i,hi,h1,y⟩:=key;have uq:∀ j:Nat,j<=l.length->(∀ k (c:k<l.length),k<j->l[k].fScope<s)->(∀ c:j<l.length,¬l[j].fScope<s)->j=i:=fun j f m g=>by
  grind
 obtain ⟨B,A,z⟩:=zle t hi h1 y;refine ⟨i,hi,B,?_⟩;unfold Ns;simp only [aA,A3];have bs:=fun r w=>zjy n l s t u (fun k1_0_0y=>if k1_0_0y<((l.length:Nat):Int) then (idx l k1_0_0y fun p=>bnd (M1 n p s) fun o=>some (k1_0_0y,decide (o=0))) else some (k1_0_0y,false)) r w n 0 l.length (by omega) (by omega) (by omega) (fun k _ h=>by omega) (fun k c h=>by omega)
 by_cases e:∃ c:i<l.length,l[i].fScope=s
 ·obtain ⟨c,d⟩:=e;refine Or.inr ⟨c,d,bs _ (fun j f m g=>?_),z c d⟩;obtain rfl:=uq j f m g;rw [if_pos (by omega),Ab c,zve,A1];have:cmpI l[j].fScope s=0:=(zuc _ _).2 d;simp [this]
 ·refine Or.inl ⟨bs _ (fun j f m g=>?_),A (fun c d=>e ⟨c,d⟩)⟩;obtain rfl:=uq j f m g;by_cases c:j<l.length
  ·rw [if_pos (by omega),Ab c,zve,A1];have:¬cmpI l[j].fScope s=0:=fun q=>e ⟨c,(zuc _ _).1 q⟩
   simp [this]
  ·rw [if_neg (by omega)]
theorem zy8 {n c:Nat}{a:List α}{x:α}(h:c<=a.length)(d:a.length<=1000000000):Qs n a (c:Int) [x]=some (a.take c++x::a.drop c):=by
 unfold Qs;simp [h,d]
theorem z9j (n:Nat)(t:Int)(d:List Int)(y:d.length<=1100000)(K:List Sta->Option (List Sta)):∀ (m k:Nat) (c:List Sta),k<=d.length->d.length<m+k->SS c->c.length+(d.length-k)<=1100000->c.length+(d.length-k)<n->Iy n t d K m ((k:Int),c)=K ((d.drop k).foldl (fun l s=>opS l s t) c)
 |0,k,c,h1,B,p,A,z=>by omega
 |m+1,k,c,h1,B,p,A,z=>by
  unfold Iy;simp only [aA,A3,Af,B1,Ar,Lx];by_cases h:k<d.length
  ·rw [if_pos (by omega),Ab h,Aw d k h,aJ];have w:=zk3 c d[k] t;have u:=z9j n t d y K m (k+1) (opS c d[k] t) (by omega) (by omega) (zps p _ _) (by omega) (by omega);obtain ⟨i,hi,v,D⟩:=p_bs n c d[k] p (by omega) (by omega);rcases D with ⟨r,q⟩|⟨o,C,r,q⟩
   ·rw [r,A1];simp only [B3];rw [zy8 hi (by omega),za8];have f:i<(c.take i++(⟨d[k],0⟩:Sta)::c.drop i).length:=by simp;omega
    rw [Da f,V1 f,Hn f,Ad k (by omega)];have e:(c.take i++(⟨d[k],0⟩:Sta)::c.drop i).set i (⟨(c.take i++(⟨d[k],0⟩:Sta)::c.drop i)[i].fScope,t⟩:Sta)=opS c d[k] t:=by
     have j:(c.take i).length=i:=by rw [aF];omega
     have g:(c.take i++(⟨d[k],0⟩:Sta)::c.drop i)[i].fScope=d[k]:=by
      rw [getElem_append_right (by omega)];simp [j]
     rw [g,set_append_right _ _ (by omega),j,Nat.sub_self,set_cons_zero];unfold opS;rw [v,q]
    rw [e];exact u
   ·rw [r,A1];simp only [Au];rw [Da o,V1 o,Hn o,Ad k (by omega)];have e:c.set i (⟨c[i].fScope,t⟩:Sta)=opS c d[k] t:=by
     rw [set_eq_take_append_cons_drop,if_pos o,C,v,q];rfl
    rw [e];exact u
  grind
def opL (l:List Sta)(c:List Int)(t:Int):List Sta:=c.foldl (fun l s=>opS l s t) l
theorem zs4 (n:Nat)(t:Int)(c:List Int)(l:List Sta)(d:SS l)(g:l.length+c.length<=1100000)(f:1100000<n):Tx n l c t=some (opL l c t):=by
 unfold Tx Cl;rw [if_pos (by omega),Mg];have:=z9j n t c (by omega) (fun y=>some y) n 0 l (aM _) (by omega) d (by omega) (by omega);exact this
theorem ztw (t:Int):∀ (c:List Int) {l:List Sta},SS l->SS (opL l c t)
 |[],_,h=>h
 |s::c,l,h=>ztw t c (zps h s t)
theorem Xq (t:Int):∀ (c:List Int) (l:List Sta),(opL l c t).length<=l.length+c.length
 |[],l=>by simp [opL]
 |s::c,l=>by
  have h1:=Xq t c (opS l s t);have f:=zk3 l s t;have d:opL l (s::c) t=opL (opS l s t) c t:=rfl;rw [d,length_cons];omega
theorem fidx_cases (p:α->Bool):∀ l:List α,(l.find? p=none/\fidx p l=-1)\/∃ i,∃ h:i<l.length,fidx p l=(i:Int)/\l.find? p=some l[i]
 |[]=>Or.inl ⟨rfl,rfl⟩
 |x::l=>by
  by_cases q:p x=true
  ·refine Or.inr ⟨0,by simp,?_,?_⟩
   ·unfold fidx;rw [findIdx?_cons,if_pos q]
   ·rw [aO];simp [q]
  ·rcases fidx_cases p l with ⟨h1,c⟩|⟨i,hi,h1,c⟩
   ·refine Or.inl ⟨by rw [aO];simp [q,h1],?_⟩;unfold fidx at c ⊢;grind
   ·refine Or.inr ⟨i+1,by simp;omega,?_,by rw [aO];simp [q,c]⟩;unfold fidx at h1 ⊢;grind
theorem z9k (n:Nat)(t:Int)(l:List Sta)(j:l.length<=1100000)(f:l.length<n)(xs:List Lim)(g:xs.length<=1100000):∀ (m k:Nat),k<=xs.length->xs.length<m+k->Iz n t xs l (some true) m (k:Int)=some ((xs.drop k).all (keP l t))
 |0,k,h1,o=>by omega
 |m+1,k,h1,o=>by
  unfold Iz;simp only [aA,A3,B1,Ar,Ly,Au];by_cases h:k<xs.length
  ·rw [if_pos (by omega),Ab h,Aw xs k h,aV,Ad k (by omega),z9k n t l j f xs g m (k+1) (by omega) (by omega),zgn n _ (fun s=>decide (s.fScope=xs[k].fScope)) l (by omega) f (fun s _=>rfl),A1];rcases fidx_cases (fun s:Sta=>decide (s.fScope=xs[k].fScope)) l with ⟨d,c⟩|⟨i,hi,d,c⟩
   ·rw [c,if_pos (by omega)];unfold keP;rw [d];rfl
   ·rw [d,if_neg (by omega),Ab hi];have e:keP l t xs[k]=decide (aG .i64 (t-l[i].fTime)<=xs[k].fSpan):=by unfold keP;rw [c]
    grind
  ·rw [if_neg (by omega),aB (by omega)];rfl
theorem zs5 (n:Nat)(t:Int)(l:List Sta)(d:l.length<=1100000)(f:1100000<n)(xs:List Lim)(c:xs.length<=1100000):Ty n l xs t=some (xs.all (keP l t)):=by
 have:=z9k n t l d (by omega) xs c n 0 (by omega) (by omega);unfold Ty;simp_all
def clP (cs:List Int)(x:Sta):Bool:=cs.any fun y=>decide (x.fScope=y)
theorem zvk (n:Nat)(x:Ed)(c:x.fCloses.length<=1100000)(d:1100000<n)(s:Sta):Kw n s x=some (clP x.fCloses s):=by
 unfold Kw;rw [Wu n _ _ (by omega) (by omega),A1];rfl
theorem zs8 (n:Nat)(x:Ed)(c:x.fCloses.length<=1100000)(d:1100000<n)(s:Sta):N6 n s x=some (clP x.fCloses s,x):=by
 unfold N6;rw [Wu n _ _ (by omega) (by omega),A1];rfl
abbrev ncl (x:Ed)(s:Sta):Bool:=!clP x.fCloses s
theorem zdg (n:Nat)(x:Ed)(g:x.fCloses.length<=1100000)(o:1100000<n)(l:List Sta)(w:l.length<=1100000)(K:Int->Int->Int->Int->Int->Int->List AV->Int->Int->Int->Int->Int->ByteArray->List Int->List Int->List AV->List Bm->List Int->List Sta->Option (List Sta×Ed))(r:Option (List Sta×Ed))
  (A:∀ (i:Nat) (c:List Sta),c.length=l.length->i<=l.length->c.take i=l.filter (ncl x)->K (i:Int) x.fFrom x.fTo x.fVar x.fType x.fCond.fOp x.fCond.fArgs x.fCond.fVar x.fCond.fField x.fCond.fKind x.fCond.fValue.fKind x.fCond.fValue.fNum x.fCond.fValue.fText x.fOpens x.fCloses x.fChecks x.fLimits x.fInside c=r) :
  ∀ (m i j:Nat) (c:List Sta),i<=j->j<=l.length->l.length<m+j->c.length=l.length->c.take i=(l.take j).filter (ncl x)->c.drop j=l.drop j->L5 n K m ((i:Int),(j:Int),x.fFrom,x.fTo,x.fVar,x.fType,x.fCond.fOp,x.fCond.fArgs,x.fCond.fVar,x.fCond.fField,x.fCond.fKind,x.fCond.fValue.fKind,x.fCond.fValue.fNum,x.fCond.fValue.fText,x.fOpens,x.fCloses,x.fChecks,x.fLimits,x.fInside,c)=r
 |0,i,j,c,C,h1,B,v,u,t=>by omega
 |m+1,i,j,c,C,h1,B,v,u,t=>by
  unfold L5;simp only [aA,A3];by_cases h:j<l.length
  ·have s:j<c.length:=by omega
   rw [if_pos (by omega),Da s,Cv s,Ad i (by omega),Ad j (by omega)];have D:N6 n c[j] (⟨x.fFrom,x.fTo,x.fVar,x.fType,⟨x.fCond.fOp,x.fCond.fArgs,x.fCond.fVar,x.fCond.fField,x.fCond.fKind,⟨x.fCond.fValue.fKind,x.fCond.fValue.fNum,x.fCond.fValue.fText⟩⟩,x.fOpens,x.fCloses,x.fChecks,x.fLimits,x.fInside⟩:Ed)=some (clP x.fCloses c[j],x):=zs8 n x g o c[j];rw [D,D7];simp only;have p:c[j]=l[j]:=by
    have:=congrArg (fun q=>q[0]?) t;simp only [getElem?_drop,Nat.add_zero,aC s,aC h,Option.some.injEq] at this;exact this
   have z:c.drop (j+1)=l.drop (j+1):=by
    have:=congrArg List.tail t;simpa using this
   have f:(l.take (j+1)).filter (ncl x)=(l.take j).filter (ncl x)++(if ncl x l[j]=true then [l[j]] else []):=by
    rw [aD h,aX,bC];rfl
   rw [p];cases y:clP x.fCloses l[j] with
   |false =>
    have hi:i<c.length:=by omega
    simp only [aR,Au];rw [Da hi,Hn hi];have d:ncl x l[j]=true:=by unfold ncl;rw [y];rfl
    rw [d] at f;refine zdg n x g o l w K r A m (i+1) (j+1) _ (by omega) (by omega) (by omega) (by simp [v]) ?_ ?_
    ·rw [f,if_pos rfl,<-u,aD (by simpa using hi)];simp [take_set_of_le]
    ·rw [<-z,drop_set_of_lt (by omega)]
   |true =>
    simp only [aW,B3];have d:ncl x l[j]=false:=by unfold ncl;rw [y];rfl
    rw [d] at f;exact zdg n x g o l w K r A m i (j+1) _ (by omega) (by omega) (by omega) v (by rw [f,u];simp) z
  grind
theorem zs7 (n:Nat)(x:Ed)(o:x.fCloses.length<=1100000)(r:1100000<n)(l:List Sta)(v:l.length<=1100000):Sr n x l=some (l.filter (ncl x),x):=by
 unfold Sr;rw [zgm n x (clP x.fCloses) l (by omega) (by omega) (fun s _=>zvk n x o r s),A1];rcases fidx_cases (clP x.fCloses) l with ⟨m,h⟩|⟨i,hi,m,h⟩
 ·rw [h,A3,if_pos rfl,aL.2 (fun s p=>?_)];simp_all
 ·rw [m,A3,if_neg (by omega),Ad i (by omega)];have d:∀ s∈l.take i,ncl x s=true:=fun s p=>by
   obtain ⟨k,w,rfl⟩:=mem_iff_getElem.1 p;rw [aF] at w;rw [aQ];have y:l.findIdx? (clP x.fCloses)=some i:=by
    unfold fidx at m;cases A:l.findIdx? (clP x.fCloses) with
    |none=>simp_all
    |some j=>grind
   have:=(findIdx?_eq_some_iff_getElem.1 y).2.2 k (by omega);simpa [ncl] using this
  have g:ncl x l[i]=false:=by
   have:=find?_some h;simp [ncl,this]
  refine zdg n x o r l v _ _ (fun q c B z u=>?_) n i (i+1) l (by omega) (by omega) (by omega) rfl ?_ rfl
  ·simp only [aA];rw [Ut (by omega),zqp (by omega)];have t:=zeq c q (⟨0,0⟩:Sta) (by omega);have:=Gm (l:=clrL c q (⟨0,0⟩:Sta)) (a:=0) (b:=q) (by omega) (by omega) (fun f=>some (f,x));refine this.trans ?_;rw [aH,za2 c q _ (by omega),u]
  ·rw [aD hi,aX,aL.2 d];simp [g]
theorem zyl (cs:List Int):∀ l:List Sta,cs.foldl clS l=l.filter (fun s=>!clP cs s):=by
 induction cs with
 |nil=>intro l;exact (aL.2 (fun _ _=>rfl)).symm
 |cons c cs d =>
  intro l;rw [aJ,d];unfold clS;rw [aY];refine filter_congr (fun s _=>?_);unfold clP;grind
abbrev cf0:Cf:=⟨0,[],[]⟩
def hasI (l:List Int)(n:Int):Bool:=l.any fun y=>decide (n=y)
theorem zly (n:Nat)(s:Int)(l:List Int)(c:l.length<=1100000):∀ (m k:Nat),k<=l.length->l.length<m+k->Ok n s l (some false) m (k:Int)=some (hasI (l.drop k) s)
 |0,k,h1,d=>by omega
 |m+1,k,h1,d=>by
  unfold Ok;simp only [aA,A3];by_cases h:k<l.length
  ·rw [if_pos (by omega),Ab h,Aw l k h,Ad k (by omega),zly n s l c m (k+1) (by omega) (by omega)];unfold hasI;grind
  ·rw [if_neg (by omega),aB (by omega)];rfl
theorem zyz (n:Nat)(s:Int)(l:List Int)(c:l.length<=1100000)(d:l.length<n):Sj n l s=some (hasI l s):=by
 have:=zly n s l c n 0 (by omega) (by omega);unfold Sj;simp_all
def Hl (a:Aut)(s:Int):List Gd:=match a.fStates[s.toNat]? with|some s=>s.fGuards|none=>[]
def chE (x:Ed):List Exn:=x.fChecks.filterMap C8
variable {x:Ed}
theorem zud {ys:List Exn}(h:x.fChecks=ys.map Al):chE x=ys:=by
 unfold chE;rw [h,filterMap_map];have:(C8 ∘ Al)=some:=by funext y;exact W9 y
 rw [this,filterMap_some]
def ckP (x:Ed)(env:List (List Ev)):Bool:=(chE x).all (fun y=>trR env y (-1) ev0)
def gdP (a:Aut)(c:Cf)(x:Ed)(env:List (List Ev))(e:Ev):Bool:=(Hl a c.fState).any (fun g=>!hasI x.fInside g.fScope && vio env e g)
def stN (c:Cf)(x:Ed)(e:Ev):List Sta:=opL c.fStarts x.fOpens e.fTime
def bdN (c:Cf)(x:Ed)(e:Ev):List Bd:=c.fBindings++[⟨x.fVar,Bn e⟩]
def coP (a:Aut)(held:List Ev)(c:Cf)(x:Ed)(e:Ev):Option Cf :=
 if x.fType=e.fType/\gdP a c x (enH held c.fBindings) e=false/\trR (enH held c.fBindings) x.fCond x.fVar e=true/\x.fLimits.all (keP (stN c x e) e.fTime)=true/\ckP x (enH (e::held) (bdN c x e))=true then some ⟨x.fTo,bdN c x e,(stN c x e).filter (ncl x)⟩ else none
def rfC:Option Cf->Cf×Bool |some c=>(c,true) |none=>(cf0,false)
structure CB (held:List Ev) (a:Aut) (k:Nat) (c:Cf):Prop where
 st:0<=c.fState/\c.fState<a.fStates.length
 bd:BdOk held a.fVars c.fBindings
 ss:SS c.fStarts
 lb:c.fBindings.length<=k
 ls:c.fStarts.length<=100*k
structure CxA (a:Aut) (held:List Ev):Prop where
 wf:WfA a
 ok:AOk a
 lo:∀ x∈a.fEdges,x.fOpens.length<=100
 lh:held.length<=10000
theorem Uh {a:Aut}{s:Int}(h:0<=s/\s<a.fStates.length):∃ c:Stt,a.fStates[s.toNat]? = some c/\c∈a.fStates/\Hl a s=c.fGuards:=by
 have:s.toNat<a.fStates.length:=by omega
 refine ⟨a.fStates[s.toNat],aC this,aK this,?_⟩;unfold Hl;rw [aC this]
theorem Qn {l:List α}{n:Int}{x:α}(c:0<=n)(h:l[n.toNat]? = some x)(k:α->Option β):idx l n k=k x:=by
 unfold idx;rw [if_pos c,h]
theorem zkc {ys:List Exn}(h:x.fChecks=ys.map Al)(c:k<ys.length)(Q:Exn->Option β):idxD C8 x.fChecks (k:Int) Q=Q ys[k]:=by
 unfold idxD;rw [if_pos (by omega),h];simp [c,W9]
theorem zge (e:Ev)(x:Ed)(c:Cf)(held:List Ev)(env:List (List Ev))(i:EvS env)(d:Stt)(j:d.fGuards.length<=1100000)(f:∀ g∈d.fGuards,WfE g.fCond)(hi:x.fInside.length<=1100000)(K:List (List Ev)->Option (Cf×Bool)):∀ (m k:Nat),k<=d.fGuards.length->d.fGuards.length<m+k->Hz N0 e x c held ⟨env⟩ d K m (k:Int)=if (d.fGuards.drop k).any (fun g=>!hasI x.fInside g.fScope && vio env e g)=true then some (cf0,false) else K env
 |0,k,h1,n=>by omega
 |m+1,k,h1,n=>by
  unfold Hz;simp only [aA,A3,B1,Ar,K1];by_cases h:k<d.fGuards.length
  ·rw [if_pos (by omega),Ab h,Aw _ k h,bD,zyz N0 _ _ hi (by unfold N0;omega),A1,Ad k (by omega),zge e x c held env i d j f hi K m (k+1) (by omega) (by omega),Ab h,zp9 i (f _ (aK h)),A1];cases hasI x.fInside d.fGuards[k].fScope with
   |true=>simp [B3]
   |false =>
    simp only [aR,Au,Bool.true_and];cases vio env e d.fGuards[k]<;>simp [Au,B3]
  grind
theorem zgd (e:Ev)(x:Ed)(c:Cf)(held:List Ev)(i:x.fOpens.length<=1100000)(K:List Sta->Option (Cf×Bool)):∀ (m k:Nat) (d:List Sta),k<=x.fOpens.length->x.fOpens.length<m+k->SS d->d.length+(x.fOpens.length-k)<=1100000->Nc N0 e x c held K m ((k:Int),d)=K ((x.fOpens.drop k).foldl (fun l s=>opS l s e.fTime) d)
 |0,k,d,h1,n,f,j=>by omega
 |m+1,k,d,h1,n,f,j=>by
  unfold Nc;simp only [aA,A3];by_cases h:k<x.fOpens.length
  ·have g:=zk3 d x.fOpens[k] e.fTime;rw [if_pos (by omega),Ab h,Aw _ k h,aJ,zpc N0 _ _ d f (by omega) (by unfold N0;omega),A1,Ad k (by omega)];exact zgd e x c held i K m (k+1) _ (by omega) (by omega) (zps f _ _) (by omega)
  grind
theorem zgc (e:Ev)(x:Ed)(c:Cf)(held:List Ev)(f:x.fLimits.length<=1100000)(s:List Sta)(d:s.length<=1100000)(K:Option (Cf×Bool)):∀ (m k:Nat),k<=x.fLimits.length->x.fLimits.length<m+k->Nb N0 e x c held s K m (k:Int)=if (x.fLimits.drop k).all (keP s e.fTime)=true then K else some (cf0,false)
 |0,k,h1,g=>by omega
 |m+1,k,h1,g=>by
  unfold Nb;simp only [aA,A3,Af];by_cases h:k<x.fLimits.length
  ·rw [if_pos (by omega),Ab h,Aw _ k h,aV,zxq N0 _ _ s d (by unfold N0;omega),A1,Ad k (by omega),zgc e x c held f s d K m (k+1) (by omega) (by omega)];cases keP s e.fTime x.fLimits[k]<;>simp [Au,B3]
  grind
theorem zgb (x:Ed)(s:List Sta)(bs:List Bd)(env:List (List Ev))(g:EvS env)(ys:List Exn)(c:x.fChecks=ys.map Al)(f:∀ y∈ys,WfE y)(i:ys.length<=1100000)(K:List Bd->Option (Cf×Bool)):∀ (m k:Nat),k<=ys.length->ys.length<m+k->Na N0 x s bs ⟨env⟩ K m (k:Int)=if (ys.drop k).all (fun y=>trR env y (-1) ev0)=true then K bs else some (cf0,false)
 |0,k,h1,j=>by omega
 |m+1,k,h1,j=>by
  unfold Na;have d:x.fChecks.length=ys.length:=by rw [c,aA]
  simp only [aA,A3,Af,d];by_cases h:k<ys.length
  ·rw [if_pos (by omega),zkc c h,Aw _ k h,aV,(R8 (fun v=>rfl:EvEq env env) g (f _ (aK h)) (-1) ev0).1,A1,Ad k (by omega),zgb x s bs env g ys c f i K m (k+1) (by omega) (by omega)];cases trR env ys[k] (-1) ev0<;>simp [Au,B3]
  grind
theorem zga (x:Ed)(bs:List Bd)(g:x.fCloses.length<=1100000)(K:List Sta->Option (Cf×Bool)):∀ (m k:Nat) (c:List Sta),k<=x.fCloses.length->x.fCloses.length<m+k->c.length<=1100000->N9 N0 x bs K m ((k:Int),c)=K ((x.fCloses.drop k).foldl clS c)
 |0,k,c,h1,i,d=>by omega
 |m+1,k,c,h1,i,d=>by
  unfold N9;simp only [aA,A3];by_cases h:k<x.fCloses.length
  ·have f:=zqs c x.fCloses[k];rw [if_pos (by omega),Ab h,Aw _ k h,aJ,zm3 N0 _ c d (by unfold N0;omega),A1,Ad k (by omega)];exact zga x bs g K m (k+1) _ (by omega) (by omega) (by omega)
  grind
theorem znl {a:Aut}(d:CxA a held){c:Cf}(W:k<=1000)(p:CB held a k c)(j:x∈a.fEdges)(e:Ev):Kp N0 a held c x e=some (rfC (coP a held c x e)):=by
 have N:=p.lb;have J:=p.ls;have L:=d.lo x j;have M:=d.lh;have wx:=d.wf.ed x j;have O:=Xq e.fTime x.fOpens c.fStarts;obtain ⟨i,S,D,R⟩:=Uh p.st;obtain ⟨ys,z,u⟩:=wx.checks;have w:ys.length<=1100000:=by have:=wx.lc;rw [z,aA] at this;exact this
 have o:EvS (enH held c.fBindings):=Qz (by omega);have n:EvS (enH (e::held) (bdN c x e)):=Qz (by unfold bdN;simp;omega);unfold Kp;rw [zpe N0 (by decide) held (by omega) c (by omega),A1,Qn p.st.1 S];have I:=zge e x c held (enH held c.fBindings) o i (d.wf.st i D).1 (d.wf.st i D).2 wx.li (fun k1_0_0y=>jon (Ez N0 e x c held) <| reg <| cnd (!decide (x.fType=e.fType)) (Ez N0 e x c held true) <| bnd (G6 N0 x.fCond (⟨k1_0_0y⟩:Ai) x.fVar e) fun f=>Ez N0 e x c held !(f)) N0 0 (aM _) (by have:=(d.wf.st i D).1;unfold N0;omega);refine I.trans ?_;rw [aH];have A:gdP a c x (enH held c.fBindings) e=i.fGuards.any (fun g=>!hasI x.fInside g.fScope && vio (enH held c.fBindings) e g):=by unfold gdP;rw [R]
 rw [<-A];unfold coP;by_cases r:gdP a c x (enH held c.fBindings) e=true
 ·rw [if_pos r,if_neg (by rw [r];simp)];rfl
 have t:gdP a c x (enH held c.fBindings) e=false:=by simpa using r
 rw [if_neg r];simp only [B1,Ar,Af,A3];have j3t:Ez N0 e x c held true=some (cf0,false):=by unfold Ez;rw [Au]
 by_cases q:x.fType=e.fType;rotate_left
 ·rw [if_neg q,j3t,if_neg (fun h=>q h.1)];rfl
 rw [if_pos q,(R8 (fun v=>rfl:EvEq (enH held c.fBindings) (enH held c.fBindings)) o wx.cond x.fVar e).1,A1];cases V:trR (enH held c.fBindings) x.fCond x.fVar e with
 |false =>
  simp only [aR,j3t];rw [if_neg (by simp)];rfl
 |true =>
  simp only [aW];unfold Ez;rw [B3];have m:(stN c x e).length<=1100000:=by unfold stN;omega
  have H:=fun K=>zgd e x c held wx.lo K N0 0 c.fStarts (aM _) (by have:=wx.lo;unfold N0;omega) p.ss (by omega)
  refine (H _).trans ?_;rw [aH];have B:x.fOpens.foldl (fun l s=>opS l s e.fTime) c.fStarts=stN c x e:=rfl;rw [B];have G:=fun K=>zgc e x c held wx.ll (stN c x e) m K N0 0 (aM _) (by have:=wx.ll;unfold N0;omega)
  refine (G _).trans ?_;rw [aH];cases U:x.fLimits.all (keP (stN c x e) e.fTime) with
  |false =>
   rw [if_neg (by simp),if_neg (by simp)];rfl
  |true =>
   rw [if_pos rfl,Bu (by simp;omega) (by omega),zvb,A1];unfold bldS;simp only [];rw [Bu (by grind) (by omega),zu5,Ar];unfold bld;simp only [];rw [Bu (by grind) (by omega)];have Q:([]++c.fBindings++[⟨x.fVar,⟨e.fTime,e.fSource,e.fSeq⟩⟩]:List Bd)=bdN c x e:=rfl;have P:([e]++held:List Ev)=e::held:=rfl;rw [Q,P,zpe N0 (by decide) (e::held) (by simp;omega) _ (by unfold bdN;simp;omega),A1];have F:=fun K=>zgb x (stN c x e) (bdN c x e) (enH (e::held) (bdN c x e)) n ys z u w K N0 0 (aM _) (by unfold N0;omega)
   refine (F _).trans ?_;have C:ckP x (enH (e::held) (bdN c x e))=ys.all (fun y=>trR (enH (e::held) (bdN c x e)) y (-1) ev0):=by unfold ckP;rw [zud z]
   rw [aH,<-C];cases T:ckP x (enH (e::held) (bdN c x e)) with
   |false =>
    rw [if_neg (by simp),if_neg (by simp)];rfl
   |true =>
    rw [if_pos rfl,if_pos ⟨q,t,by simp⟩];have E:=fun K=>zga x (bdN c x e) wx.lcl K N0 0 (stN c x e) (aM _) (by have:=wx.lcl;unfold N0;omega) m
    refine (E _).trans ?_;rw [aH,zyl];rfl
theorem zsh (d:∀ y∈held,Bn y=Bn e->y=e){r:Rf}(h:(lkH held r).isSome=true):lkH (e::held) r=lkH held r:=by
 obtain ⟨y,c⟩:=aT.1 h;obtain ⟨h1,f⟩:=zvy c;have:lkH (e::held) r=if Bn e=r then some e else lkH held r:=by
  unfold lkH;rw [aO];grind
 grind
theorem zwf (vs:List (List Ev))(i:Nat)(hi:i<vs.length)(q:List Ev)(v:Int):evs (vs.set i q) v=if v=(i:Int) then q else evs vs v:=by
 unfold evs;grind
theorem zsy {a:Aut}(m:AOk a)(f:∀ y∈held,Bn y=Bn e->y=e){l:List Bd}(i:BdOk held a.fVars l){v:Int}(n:0<=v/\v<a.fVars):EvEq (enH (e::held) (l++[⟨v,Bn e⟩])) ((bndV held a.fVars.toNat l).set v.toNat ((bndV held a.fVars.toNat l).getD v.toNat []++[e])):=fun w=>by
 have d:=m.vars;have c:v.toNat<(bndV held a.fVars.toNat l).length:=by rw [Mj];omega
 have j:(bndV held a.fVars.toNat l).getD v.toNat []=ev1 held l v:=by
  have:=Qq held a.fVars.toNat l v;unfold evs at this;rw [if_neg (by omega),Mj,if_neg (by omega),if_pos (by omega)] at this;exact this
 have h1:ev1 (e::held) (l++[⟨v,Bn e⟩]) w=ev1 held l w++(if v=w then [e] else []):=by
  unfold ev1;rw [filterMap_append];congr 1
  ·have:∀ b∈l,(if b.fVar=w then lkH (e::held) b.fRef else none)=(if b.fVar=w then lkH held b.fRef else none):=fun b g=>by rw [zsh f (i b g).2]
   clear j
   induction l with
   |nil=>rfl
   |cons b l ih =>
    rw [filterMap_cons,filterMap_cons,this b (by simp),ih (fun b h=>i b (mem_cons_of_mem _ h)) (by simpa [Mj] using c) (fun b h=>this b (mem_cons_of_mem _ h))]
  ·have:lkH (e::held) (Bn e)=some e:=by unfold lkH;rw [aO];simp
   grind
 rw [zwf _ _ c,Qq,h1,j];by_cases q:v=w
 ·grind
 ·rw [if_neg q,append_nil,if_neg (show ¬w=((v.toNat:Nat):Int) by omega)];have:=zqi ⟨d.1,d.2⟩ i w;rw [Qq] at this;exact this
theorem zvl (c:EvEq a b)(f:EvS a){g:Gd}(d:WfE g.fCond)(x:Ed)(hi:x.fInside.length<=1100000)(e:Ev):Ij N0 g x ⟨b⟩ e=some (!hasI x.fInside g.fScope && vio a e g):=by
 unfold Ij;simp only [B1,Ar,K4];rw [Wu N0 _ _ (by omega) (by unfold N0;omega),A1,Af];have:(x.fInside.any fun y=>decide (g.fScope=y))=hasI x.fInside g.fScope:=rfl;rw [this,zts c f d e,A1];cases hasI x.fInside g.fScope<;>simp [Au,B3]
theorem zm2 (e:Ev)(x:Ed)(c:Cf)(s:List Sta)(a b:List (List Ev))(d:EvEq a b)(j:EvS a)(ys:List Exn)(f:x.fChecks=ys.map Al)(i:∀ y∈ys,WfE y)(n:ys.length<=1100000)(K:List Sta->Option (Cf×Bool)):∀ (m k:Nat),k<=ys.length->ys.length<m+k->O6 N0 e x c s b K m (k:Int)=if (ys.drop k).all (fun y=>trR a y (-1) ev0)=true then K s else some (cf0,false)
 |0,k,h1,o=>by omega
 |m+1,k,h1,o=>by
  unfold O6;have g:x.fChecks.length=ys.length:=by rw [f,aA]
  simp only [aA,A3,Af,g];by_cases h:k<ys.length
  ·rw [if_pos (by omega),zkc f h,Aw _ k h,aV,(R8 d j (i _ (aK h)) (-1) ev0).2,A1,Ad k (by omega),zm2 e x c s a b d j ys f i n K m (k+1) (by omega) (by omega)];cases trR a ys[k] (-1) ev0<;>simp [Au,B3]
  grind
theorem zgw {r:Bg}(d:CxA r.fa held){c:Cf}(Y:k<=1000)(m:CB held r.fa k c)(i:x∈r.fa.fEdges)(G:∀ y∈held,Bn y=Bn e->y=e):Pc N0 r c x ⟨bndV held r.fa.fVars.toNat c.fBindings⟩ e=some (rfC (coP r.fa held c x e)):=by
 have P:=m.lb;have M:=m.ls;have N:=d.lo x i;have O:=d.lh;have q:=d.ok.vars;have wx:=d.wf.ed x i;have xv:=(d.ok.ed x i).var;have Q:=Xq e.fTime x.fOpens c.fStarts;obtain ⟨o,T,I,S⟩:=Uh m.st;obtain ⟨ys,A,w⟩:=wx.checks;have z:ys.length<=1100000:=by have:=wx.lc;rw [A,aA] at this;exact this
 have j:EvS (enH held c.fBindings):=Qz (by omega);have t:EvS (enH (e::held) (bdN c x e)):=Qz (by unfold bdN;simp;omega);have n:=zqi ⟨q.1,q.2⟩ m.bd;have j1t:G3 N0 e ⟨bndV held r.fa.fVars.toNat c.fBindings⟩ x c true=some (cf0,false):=by unfold G3;rw [Au]
 unfold Pc;simp only [B1,Ar,Af,A3];unfold coP;by_cases u:x.fType=e.fType;rotate_left
 ·rw [if_neg (fun h=>u h.symm),j1t,if_neg (fun h=>u h.1)];rfl
 rw [if_pos u.symm,Qn m.st.1 T];rw [zjv N0 x ⟨bndV held r.fa.fVars.toNat c.fBindings⟩ e (fun g=>!hasI x.fInside g.fScope && vio (enH held c.fBindings) e g) o.fGuards (by have:=(d.wf.st o I).1;omega) (by have:=(d.wf.st o I).1;unfold N0;omega) (fun g R=>zvl n j ((d.wf.st o I).2 g R) x wx.li e),A1];have C:gdP r.fa c x (enH held c.fBindings) e=o.fGuards.any (fun g=>!hasI x.fInside g.fScope && vio (enH held c.fBindings) e g):=by unfold gdP;rw [S]
 rw [<-C];cases X:gdP r.fa c x (enH held c.fBindings) e with
 |true =>
  rw [Au,j1t,if_neg (by simp)];rfl
 |false =>
 rw [B3,(R8 n j wx.cond x.fVar e).2,A1];cases W:trR (enH held c.fBindings) x.fCond x.fVar e with
 |false =>
  simp only [aR,j1t];rw [if_neg (by simp)];rfl
 |true =>
  simp only [aW];unfold G3;have s:(stN c x e).length<=1100000:=by unfold stN;omega
  rw [B3,zs4 N0 e.fTime x.fOpens c.fStarts m.ss (by omega) (by decide),Mg];have D:opL c.fStarts x.fOpens e.fTime=stN c x e:=rfl;rw [D,zs5 N0 e.fTime (stN c x e) s (by decide) x.fLimits wx.ll,A1,Af];cases V:x.fLimits.all (keP (stN c x e) e.fTime) with
  |false =>
   rw [B3,if_neg (by simp)];rfl
  |true =>
   have f:x.fVar.toNat<(bndV held r.fa.fVars.toNat c.fBindings).length:=by rw [Mj];omega
   have L:((bndV held r.fa.fVars.toNat c.fBindings).getD x.fVar.toNat []).length<=1000000:=by
    have h1:=n x.fVar;have v:=j x.fVar;rw [h1] at v;unfold evs at v;rw [if_neg (by omega),Mj,if_neg (by omega)] at v;exact v
   have H:=Mj held r.fa.fVars.toNat c.fBindings;have p:(bndV held r.fa.fVars.toNat c.fBindings)[x.fVar.toNat]=(bndV held r.fa.fVars.toNat c.fBindings).getD x.fVar.toNat []:=by
    simp [aN,f]
   unfold Cl;rw [Au,if_pos (by rw [H];omega),Mg,zw3 xv.1 f,p,if_pos (by omega),Mg,Bu (by grind) (by omega),aA,Jg xv.1 f,Hn f];have E:=zsy d.ok G m.bd xv;have J:=fun K=>zm2 e x c (stN c x e) (enH (e::held) (bdN c x e)) _ E t ys A w z K N0 0 (aM _) (by unfold N0;omega)
   refine (J _).trans ?_;have F:ckP x (enH (e::held) (bdN c x e))=ys.all (fun y=>trR (enH (e::held) (bdN c x e)) y (-1) ev0):=by unfold ckP;rw [zud A]
   rw [aH,<-F];cases U:ckP x (enH (e::held) (bdN c x e)) with
   |false =>
    rw [if_neg (by simp),if_neg (by simp)];rfl
   |true =>
    rw [if_pos rfl,zs7 N0 x wx.lcl (by decide) _ s,D7,if_pos (by omega),Mg];have B:Qi N0 e=some ⟨e.fTime,e.fSource,e.fSeq⟩:=rfl;rw [B,A1,Bu (by grind) (by omega),if_pos (by simp [u])];rfl
end Go.Proofs.YtkoamfnbbhfaiaaGreatDoor
