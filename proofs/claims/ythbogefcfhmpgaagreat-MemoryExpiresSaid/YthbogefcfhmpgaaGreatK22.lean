/- Layer 5, plainly, as layer 25 needs it. -/
import Derived.Test.YthbogefcfhmpgaaGreatK21
set_option linter.unusedVariables false
set_option linter.unusedSimpArgs false
namespace Go.Proofs.YthbogefcfhmpgaaGreat
open Go.RowKit List
open List renaming length_map->aA,drop_eq_nil_of_le->aB,getElem?_eq_getElem->aC,take_succ_eq_append_getElem->aD,getElem_mem->aF,length_take->aG,drop_zero->aJ,foldl_cons->aK,filter_eq_self->aL,pairwise_cons->aM,getD_eq_getElem?_getD->aO,find?_cons->aP,getElem_take->aQ,filter_eq_nil_iff->aS,all_cons->aV,filter_append->aX,filter_filter->aY,replicate->bC,filter_cons->bD,any_cons->bF
open Int renaming natCast_zero->aE,toNat->bG
open IntKind renaming wrap->aH,bits->bH
open Nat renaming zero_le->aN
open Bool renaming not_false->aR,not_true->aW,false_eq_true->aZ,and_eq_true->bA,not_eq_true->bB
open Option renaming isSome_iff_exists->aT,getD_some->aU
open Or renaming inr->bE,inl->bI
def Cg (e:Ev):Bool:=decide (0<=e.fTime) && (decide (e.fTime<=1099511627776) && (decide (0<=e.fSource) && (decide (e.fSource<8) && (decide (0<=e.fSeq) && decide (e.fSeq<=1099511627776)))))
def idt (e:Ev):Iz:=⟨e.fSource,e.fSeq⟩
theorem zze (n:Nat)(e:Ev):Vr n e=some (Cg e):=by
 unfold Vr Cg
 simp only [A3]
 repeat' split
 all_goals (simp_all<;>omega)
theorem zmh (n:Nat)(e:Ev):Pu n e=some (Cg e):=by
 unfold Pu Cg
 simp only [A3]
 repeat' split
 all_goals (simp_all<;>omega)
theorem y67 (n:Nat)(e:Ev):Mr n e=some (idt e):=rfl
theorem X7 (n:Nat)(e:Ev):Hb n e=some ⟨e.fTime,e.fSource,e.fSeq⟩:=rfl
def Bb (e:Ev):Bm:=⟨e.fTime,e.fSource,e.fSeq⟩
def Ck (a b:Ev):Int:=rCmp (Bb a) (Bb b)
theorem y6a (n:Nat)(f:4<=n)(a b:Ev):Vt n a b=some (Ck a b):=by
 obtain ⟨m,rfl⟩:∃ m,n=m+4:=⟨n-4,by omega⟩;unfold Vt We;simp only [A0,Nl,y05,Bool.and_true,Ax,bA,decide_eq_true_eq];split
 ·rename_i h;obtain ⟨h1,d,c⟩:=h;simp [Ck,rCmp,Bb,or3,cmpI,h1,d,c]
 ·rfl
theorem y0x (n:Nat)(a b:Ev):Qf n a b=some (decide (idt a=idt b)):=by
 unfold Qf;simp only [A3];split
 ·rename_i h;simp [idt,h]
 ·rename_i h;simp [idt,h]
def few1 (l:List A8):Bool:=(l.take 40).all (fun v=>decide (v.fText.size<=128)) && decide (l.length<40)
theorem zn7 (n:Nat)(l:List A8)(K:Option Bool):∀ (m k:Nat),k<=l.length->k<=40->40<m+k->Pw n l K m k=if ((l.take 40).drop k).all (fun v=>decide (v.fText.size<=128)) then K else some false
 |0,k,h1,g,f=>by omega
 |m+1,k,h1,g,f=>by
  unfold Pw;simp only [aA,A3];by_cases h:k<l.length
  ·rw [if_pos (by omega)];by_cases i:k<40
   ·rw [if_pos (by omega),Af h,Ag k (by omega)];have c:k<(l.take 40).length:=by rw [aG];omega
    rw [B1 (l.take 40) k c,aV,aQ];by_cases d:l[k].fText.size<=128
    ·rw [if_neg (by omega),zn7 n l K m (k+1) (by omega) (by omega) (by omega)];simp [d]
    grind
   grind
  ·rw [if_neg (by omega),aB (by rw [aG];omega)];simp
theorem y4u (n:Nat)(l:List A8)(c:41<=n):Uq n l=some (few1 l):=by
 unfold Uq few1;have:=zn7 n l (some (decide ((((List.map Ac l).length:Nat):Int)<40))) n 0 (by omega) (by omega) (by omega);simp only [aE,aJ] at this;rw [this];simp only [aA];split
 ·rename_i h;rw [h];simp;omega
 ·rename_i h;simp only [bB] at h;rw [h];rfl
def fewE (l:List Ev):Bool:=(l.take 20).all (fun e=>decide (e.fValues.length<=12) && few1 e.fValues) && decide (l.length<=12)
theorem zn6 (n:Nat)(l:List Ev)(K:Option Bool)(c:41<=n):∀ (m k:Nat),k<=l.length->k<=20->20<m+k->Pv n l K m k=if ((l.take 20).drop k).all (fun e=>decide (e.fValues.length<=12) && few1 e.fValues) then K else some false
 |0,k,h1,g,f=>by omega
 |m+1,k,h1,g,f=>by
  unfold Pv;simp only [aA,A3,Aw];by_cases h:k<l.length
  ·rw [if_pos (by omega)];by_cases j:k<20
   ·rw [if_pos (by omega),Af h,Ag k (by omega)];have d:k<(l.take 20).length:=by rw [aG];omega
    rw [B1 (l.take 20) k d,aV,aQ];by_cases i:l[k].fValues.length<=12
    ·rw [if_neg (by omega),Af h,y4u n _ c,A0,Ax,zn6 n l K c m (k+1) (by omega) (by omega) (by omega)];grind
    grind
   grind
  ·rw [if_neg (by omega),aB (by rw [aG];omega)];simp
theorem y10 (n:Nat)(l:List Ev)(c:41<=n):Qm n l=some (fewE l):=by
 unfold Qm fewE;have:=zn6 n l (some (decide ((((List.map A7 l).length:Nat):Int)<=12))) c n 0 (by omega) (by omega) (by omega);simp only [aE,aJ] at this;rw [this];simp only [aA];split
 ·rename_i h;rw [h];simp;omega
 ·rename_i h;simp only [bB] at h;rw [h];rfl
variable {l:List Ev}
theorem y03 (h:fewE l=true):l.length<=12/\∀ e∈l,e.fValues.length<=12:=by
 unfold fewE at h;simp only [bA,decide_eq_true_eq,all_eq_true] at h;refine ⟨h.2,fun e c=>(h.1 e ?_).1⟩;rw [take_of_length_le (by omega)];exact c
def Sq:List Ev->Ev->Bool |[],_=>false |x::_,e=>decide (0<=Ck x e)
def chk:List Ev->List Ev->Int
 |_,[]=>0
 |p,e::r=>if Cg e=false then 2 else if Sq p e=true then 14 else if p.any (fun x=>decide (idt x=idt e)) then 7 else chk (e::p) r
def D7 (l:List Ev):Int:=if 4096<l.length then 5 else chk [] l
def X5 (m:List (Iz×Bool))(p:List Ev):Prop:=∀ k,(mlk m k).getD false=p.any (fun x=>decide (idt x=k))
variable {κ ν:Type}
theorem zji [DecidableEq κ](l:List (κ×ν))(k:κ)(v:ν)(c:κ):mlk (mput l k v) c=if c=k then some v else mlk l c:=by
 induction l with
 |nil=>simp [mput,mlk]
 |cons a r ih =>
  obtain ⟨a,x⟩:=a;simp only [mput];by_cases h:k=a
  ·subst h;rw [if_pos rfl];simp only [mlk];simp_all
  ·rw [if_neg h];simp only [mlk,ih];grind
theorem X5.put {m:List (Iz×Bool)}{p:List Ev}(h:X5 m p)(e:Ev):X5 (mput m (idt e) true) (e::p):=fun k=>by
 rw [zji,bF];by_cases c:k=idt e
 ·subst c;simp
 ·rw [if_neg c,h k];grind
variable {k:Nat}
theorem zdl (h:k<l.length):(l.take (k+1)).reverse=l[k]::(l.take k).reverse:=by
 simp_all
theorem zrw (c:0<k)(h:k<=l.length):∃ t,(l.take k).reverse=l[k-1]::t:=by
 obtain ⟨j,rfl⟩:∃ j,k=j+1:=⟨k-1,by omega⟩;exact ⟨_,by rw [zdl (by omega)];rfl⟩
theorem zlw (c:0<k)(h:k<=1000000):aH .i64 ((k:Int)-1)=((k-1:Nat):Int):=by rw [Cl _ (by omega)];omega
variable {β:Type}
theorem y56 [DecidableEq κ](l:List (κ×ν))(k:κ)(z:ν)(c:ν->Bool->Option β):mgt l k z c=c ((mlk l k).getD z) (mlk l k).isSome:=by unfold mgt;rfl
theorem Sk [DecidableEq κ](l:List (κ×ν))(k:κ)(v:ν)(c:List (κ×ν)->Option β):mst l k v c=c (mput l k v):=by unfold mst;rfl
theorem zsk (n:Nat)(g:4<=n)(l:List Ev):∀ (m k:Nat) (c:List (Iz×Bool)),k<=l.length->l.length<=1000000->l.length<m+k->X5 c (l.take k).reverse ->
  M1 n l (some 0) m ((k:Int),c)=some (chk (l.take k).reverse (l.drop k))
 |0,k,_,h1,q,u,_=>by omega
 |m+1,k,c,h1,q,u,hs=>by
  unfold M1;simp only [aA,A3,Aw];by_cases h:k<l.length
  ·rw [if_pos (by omega),Af h,Ag k (by omega)];rw [B1 l k h];conv=>rhs;unfold chk
   have p:X5 (mput c (idt l[k]) true) (l.take (k+1)).reverse:=by rw [zdl h];exact hs.put _
   have j:=zsk n g l m (k+1) _ (by omega) q (by omega) p;rw [zdl h] at j;have d:=hs (idt l[k]);simp only [zze,A0,y67,Ax,y56,Sk,d,y6a n g];by_cases o:Cg l[k]=true
   ·have f:¬Cg l[k]=false:=by rw [o];simp
    rw [if_pos o,if_neg f];by_cases i:0<k
    ·rw [if_pos (by omega),zlw i (by omega),Af (by omega:k-1<l.length)];obtain ⟨t,r⟩:=zrw (l:=l) i h1
     try simp only [A0,decide_eq_true_eq]
     rw [r] at j ⊢;simp only [Sq,decide_eq_true_eq];grind
    ·have s:k=0:=by omega
     subst s;rw [if_neg (by omega)];simp only [take_zero,reverse_nil,any_nil,Sq,aZ,if_false] at j ⊢;rw [j]
   ·have f:Cg l[k]=false:=by simpa using o
    rw [if_neg o,if_pos f]
  ·rw [if_neg (by omega),aB (by omega)];rfl
theorem y6c (n:Nat)(l:List Ev)(f:l.length<n)(c:4<=n)(d:l.length<=1000000):Rk n l=some (D7 l):=by
 unfold Rk D7;simp only [aA,A3];by_cases h:4096<l.length
 ·rw [if_pos (by omega),if_pos h]
 ·rw [if_neg (by omega),if_neg h];have:=zsk n c l n 0 [] (by omega) d (by omega) (fun k=>rfl);simpa using this
theorem zmo (n:Nat)(l:List Ev)(i:Nat)(hi:i<l.length)(K:Option Int):∀ (m k:Nat),k<=i->l.length<=1000000->i<m+k->P2 n l (i:Int) K m k=if ((l.take i).drop k).any (fun x=>decide (idt x=idt l[i])) then some 7 else K
 |0,k,h1,c,f=>by omega
 |m+1,k,h1,c,f=>by
  unfold P2;simp only [A3];by_cases h:k<i
  ·rw [if_pos (by omega),Af (by omega:k<l.length),Af hi,Ag k (by omega),y0x,A0,A3];have d:k<(l.take i).length:=by rw [aG];omega
   rw [B1 (l.take i) k d,bF,aQ,zmo n l i hi K m (k+1) (by omega) c (by omega)];grind
  ·rw [if_neg (by omega),aB (by rw [aG];omega)];simp
theorem zmn (n:Nat)(l:List Ev)(i:Nat)(hi:i<l.length)(K:Option Int):∀ (m k:Nat),k<=i->l.length<=1000000->i<m+k->P1 n l (i:Int) K m k=if ((l.take i).drop k).any (fun x=>decide (idt x=idt l[i])) then some 7 else K
 |0,k,h1,c,f=>by omega
 |m+1,k,h1,c,f=>by
  unfold P1;simp only [A3];by_cases h:k<i
  ·rw [if_pos (by omega),Af (by omega:k<l.length),Af hi,Ag k (by omega),y0x,A0,A3];have d:k<(l.take i).length:=by rw [aG];omega
   rw [B1 (l.take i) k d,bF,aQ,zmn n l i hi K m (k+1) (by omega) c (by omega)];grind
  grind
theorem zmp (n:Nat)(l:List Ev)(r:l.length<n):∀ (m k:Nat),k<=l.length->l.length<=1000000->l.length<m+k->Gu n l (some 0) m (k:Int)=some (chk (l.take k).reverse (l.drop k))
 |0,k,h1,p,u=>by omega
 |m+1,k,h1,p,u=>by
  unfold Gu;simp only [aA,A3,Aw];by_cases h:k<l.length
  ·rw [if_pos (by omega),Af h,Ag k (by omega)];rw [B1 l k h];conv=>rhs;unfold chk
   have j:=zmp n l r m (k+1) (by omega) p (by omega);rw [zdl h] at j;simp only [zmh,A0,Ax];by_cases o:Cg l[k]=true
   ·have c:¬Cg l[k]=false:=by rw [o];simp
    rw [if_pos o,if_neg c];by_cases g:0<k
    ·rw [if_pos (by omega),zlw g (by omega),Af (by omega:k-1<l.length)];obtain ⟨t,q⟩:=zrw (l:=l) g h1;simp only [A0,X7];rw [Af h];simp only [A0,zj8];have ec:rCmp ⟨l[k-1].fTime,l[k-1].fSource,l[k-1].fSeq⟩ ⟨l[k].fTime,l[k].fSource,l[k].fSeq⟩=Ck l[k-1] l[k]:=rfl;rw [ec];have f:=zmo n l k h (Gu n l (some 0) m ((k+1:Nat):Int)) n 0 (by omega) p (by omega);simp only [aE,aJ] at f;rw [f,j];have i:(l.take k).any (fun x=>decide (idt x=idt l[k]))=(l.take k).reverse.any (fun x=>decide (idt x=idt l[k])):=by rw [any_reverse]
     rw [i,q];simp only [Sq,decide_eq_true_eq];grind
    ·have s:k=0:=by omega
     subst s;rw [if_neg (by omega)];have d:=zmn n l 0 h (Gu n l (some 0) m ((0+1:Nat):Int)) n 0 (by omega) p (by omega);simp only [aE,aJ] at d;simp only [aE] at d ⊢;rw [d];simp only [take_zero,reverse_nil,any_nil,Sq,aZ,if_false] at j ⊢;rw [j]
   ·have c:Cg l[k]=false:=by simpa using o
    rw [if_neg o,if_pos c]
  ·rw [if_neg (by omega),aB (by omega)];rfl
theorem zw9 (n:Nat)(l:List Ev)(c:l.length<n)(d:l.length<=1000000):Io n l=some (D7 l):=by
 unfold Io D7;simp only [aA,A3];by_cases h:4096<l.length
 ·rw [if_pos (by omega),if_pos h]
 ·rw [if_neg (by omega),if_neg h];have:=zmp n l c n 0 (by omega) d (by omega);simpa using this
abbrev Rf:=Bm
abbrev N0:Nat:=2000000000
abbrev ev0:Ev:=⟨0,0,0,0,[]⟩
theorem Nd [DecidableEq κ](l:List (κ×ν))(k:κ)(z:ν)(c:ν->Bool->Option β):mgv l k z c=c ((mlk l k).getD z) (mlk l k).isSome:=by unfold mgv;rfl
theorem y16 {n:Int}(c:0<=n)(h:n<=1000)(k:Nat->Option β):mkn n 24 k=k n.toNat:=by unfold mkn;grind
theorem y13 (i:Nat)(x:Option β):nst i x=x:=by unfold nst;rfl
theorem y19 (i:Nat)(x:Option β):frr i x=x:=by unfold frr;rfl
theorem zsv {n:Int}{len:Nat}(c:0<=n)(h:n.toNat<len)(x:Option β):ncx n len x=x:=by unfold ncx;rw [if_pos ⟨c,h⟩]
variable {α:Type}
theorem y12 {l:List (List α)}(h:k<l.length)(c:List α->Option β):ntk l k c=c (l.getD k []):=by unfold ntk;simp [h]
theorem y14 {l:List (List α)}(h:k<l.length)(v:List α)(c:List (List α)->Option β):npt l k v c=c (l.set k v):=by unfold npt;rw [if_pos h]
theorem ztk:∀ (l p:List Ev),chk p l=0->(∀ e∈l,Cg e=true)/\Str Ck l/\(∀ h t,p=h::t->∀ e∈l,Ck h e<0)
 |[],p,_=>⟨by simp,by simp [Str],by simp⟩
 |e::l,p,h=>by
  unfold chk at h;split at h
  ·cases h
  split at h
  ·cases h
  split at h
  ·cases h
  rename_i h1 g n;obtain ⟨o,m,j⟩:=ztk l (e::p) h;have f:=j e p rfl;refine ⟨fun x c=>?_,aM.2 ⟨f,m⟩,fun q t i x c=>?_⟩
  ·grind
  ·have d:Ck q e<0:=by
    subst i;simp only [Sq] at g;simpa using g
   rcases mem_cons.1 c with k|k
   ·rw [k];exact d
   ·exact N8.trans _ _ _ d (f x k)
structure y3u (l:List Ev):Prop where
 pl:∀ e∈l,Cg e=true
 st:Str Ck l
 ln:l.length<=4096
theorem ze4 (h:D7 l=0):y3u l:=by
 unfold D7 at h;split at h
 ·cases h
 ·obtain ⟨a,b,_⟩:=ztk l [] h;exact ⟨a,b,by omega⟩
def lkH (held:List Ev)(r:Rf):Option Ev:=held.find? (fun e=>decide (Bb e=r))
variable {held:List Ev}{e:Ev}
theorem zjn {r:Rf}(h:lkH held r=some e):Bb e=r/\e∈held:=by
 have h1:=find?_some h;exact ⟨by simpa using h1,mem_of_find?_eq_some h⟩
theorem zjo (h:Str Ck held)(c:e∈held):lkH held (Bb e)=some e:=by
 unfold lkH
 induction held with
 |nil=>simp at c
 |cons x l ih =>
  obtain ⟨h1,d⟩:=aM.1 h;rw [aP];rcases mem_cons.1 c with k|k
  ·rw [k];simp
  ·have:Bb x≠Bb e:=fun q=>N8.lt_ne (h1 e k) q
   simp only [this,decide_false];exact ih d k
theorem y36 (a b:List Ev)(r:Rf):lkH (a++b) r=(lkH a r).or (lkH b r):=by unfold lkH;rw [find?_append]
theorem zhv (n:Nat)(r:Rf)(l:List Ev)(c:l.length<=1000000):∀ (m k:Nat),k<=l.length->l.length<m+k->Oy n r l (some (ev0,false)) m (k:Int)=some (match lkH (l.drop k) r with|some e=>(e,true)|none=>(ev0,false))
 |0,k,h1,d=>by omega
 |m+1,k,h1,d=>by
  unfold Oy;simp only [aA,A3];by_cases h:k<l.length
  ·rw [if_pos (by omega),Af h,B1 l k h,Ag k (by omega),zhv n r l c m (k+1) (by omega) (by omega),X7,A0,Af h];have:(decide (l[k].fTime=r.fTime) && (decide (l[k].fSource=r.fSource) && (decide (l[k].fSeq=r.fSeq) && true)))=decide (Bb l[k]=r):=by
    cases r;simp [Bb]
   rw [this,A3];unfold lkH;grind
  ·rw [if_neg (by omega),aB (by omega)];rfl
theorem y2n (n:Nat)(r:Rf)(l:List Ev)(c:l.length<=1000000)(d:l.length<n):U7 n l r=some (match lkH l r with|some e=>(e,true)|none=>(ev0,false)):=by
 have:=zhv n r l c n 0 (by omega) (by omega);unfold U7;simp_all
def HM (held:List Ev)(c:List (Rf×Ev)):Prop:=∀ r,mlk c r=lkH held r
theorem zx6 (r:Rf):∀ (l:List Ev) (m:List (Rf×Ev)),Str Ck l->mlk (l.foldl (fun m e=>mput m (Bb e) e) m) r=(lkH l r).or (mlk m r)
 |[],m,_=>by simp [lkH]
 |e::l,m,h=>by
  obtain ⟨h1,f⟩:=aM.1 h;rw [aK,zx6 r l _ f,zji];unfold lkH;rw [aP];by_cases q:Bb e=r
  ·have:lkH l r=none:=by
    unfold lkH;rw [find?_eq_none];intro x d c;simp only [decide_eq_true_eq] at c;exact N8.lt_ne (h1 x d) (by rw [q,c])
   unfold lkH at this;rw [this];simp [q]
  grind
def addB (held:List Ev)(vs:List (List Ev))(b:Bd):List (List Ev):=match lkH held b.fRef with|some e=>(if 0<=b.fVar/\b.fVar.toNat<vs.length then vs.set b.fVar.toNat (vs.getD b.fVar.toNat []++[e]) else vs)|none=>vs
def bndV (held:List Ev)(m:Nat)(l:List Bd):List (List Ev):=l.foldl (addB held) (bC m [])
def ev1 (held:List Ev)(l:List Bd)(v:Int):List Ev:=l.filterMap (fun b=>if b.fVar=v then lkH held b.fRef else none)
theorem ze2 (held:List Ev)(vs:List (List Ev))(b:Bd):(addB held vs b).length=vs.length:=by
 unfold addB;grind
theorem ztq {vs:List (List Ev)}{b:Bd}(h:∀ q∈vs,q.length<=k):∀ q∈addB held vs b,q.length<=k+1:=by
 unfold addB;grind
theorem znk (held:List Ev):∀ (l:List Bd) (vs:List (List Ev)),(l.foldl (addB held) vs).length=vs.length
 |[],vs=>rfl
 |b::l,vs=>by rw [aK,znk held l,ze2]
theorem N5 (held:List Ev)(m:Nat)(l:List Bd):(bndV held m l).length=m:=by unfold bndV;rw [znk];simp
theorem y0r (held:List Ev)(vs:List (List Ev))(b:Bd)(i:Nat)(hi:i<vs.length):(addB held vs b).getD i []=vs.getD i []++(if b.fVar=(i:Int) then lkH held b.fRef else none).toList:=by
 unfold addB;grind
theorem znl (held:List Ev)(i:Nat):∀ (l:List Bd) (vs:List (List Ev)),i<vs.length->(l.foldl (addB held) vs).getD i []=vs.getD i []++ev1 held l (i:Int)
 |[],vs,hi=>by simp [ev1]
 |b::l,vs,hi=>by
  rw [aK,znl held i l _ (by rw [ze2];exact hi),y0r held vs b i hi];unfold ev1;grind
theorem S7 (held:List Ev)(m:Nat)(l:List Bd)(v:Int):evs (bndV held m l) v=if 0<=v/\v<(m:Int) then ev1 held l v else []:=by
 unfold evs;rw [N5];by_cases h1:v<0
 ·rw [if_pos h1,if_neg (by omega)]
 rw [if_neg h1];by_cases c:(m:Int)<=v
 ·rw [if_pos c,if_neg (by omega)]
 rw [if_neg c,if_pos (by omega)];unfold bndV;rw [znl held v.toNat l _ (by simp;omega)];grind
theorem y3k (held:List Ev)(l:List Bd)(v:Int):(ev1 held l v).length<=l.length:=length_filterMap_le _ _
variable {v:Int}
theorem y06 {l:List Bd}(h:∀ b∈l,b.fVar≠v):ev1 held l v=[]:=by
 unfold ev1;simp_all
abbrev enH (held:List Ev)(l:List Bd):List (List Ev):=bndV held 16 l
theorem Se {l:List Bd}(h:l.length<=1000000)(v:Int):(evs (enH held l) v).length<=1000000:=by
 rw [S7];split
 ·have:=y3k held l v;omega
 ·simp
theorem zi1 (n:Nat)(held:List Ev)(j:held.length<=1000000)(u:1000000<n)(x:Nat)(p:x<=16)(l:List Bd)(y:l.length<=1000000)(K:List (List Ev)->Option Aq):∀ (m k:Nat) (vs:List (List Ev)),k<=l.length->l.length<m+k->vs.length=x->(∀ q∈vs,q.length<=k)->Fw n l (x:Int) held x K m ((k:Int),vs)=K ((l.drop k).foldl (addB held) vs)
 |0,k,vs,h1,z,o,g=>by omega
 |m+1,k,vs,h1,z,o,g=>by
  unfold Fw;simp only [aA,A3];by_cases h:k<l.length
  ·rw [if_pos (by omega),Af h,B1 l k h,Ag k (by omega),y2n n _ held j (by omega),A0,Ak,aK];have s:(⟨l[k].fRef.fTime,l[k].fRef.fSource,l[k].fRef.fSeq⟩:Rf)=l[k].fRef:=rfl;rw [s];have f:∀ c,c=addB held vs l[k]->Fw n l (x:Int) held x K m (((k+1:Nat):Int),c)=K ((l.drop (k+1)).foldl (addB held) (addB held vs l[k])):=fun c r=>by
    subst r;exact zi1 n held j u x p l y K m (k+1) _ (by omega) (by omega) (by rw [ze2];exact o) (ztq g)
   cases t:lkH held l[k].fRef with
   |none =>
    simp only [Ar];exact f vs (by unfold addB;rw [t])
   |some e =>
    simp only [Am];by_cases d:0<=l[k].fVar
    ·rw [if_pos d];by_cases i:l[k].fVar<(x:Int)
     ·rw [if_pos i,zsv d (by omega),y12 (by omega)];have w:(vs.getD l[k].fVar.toNat []).length<=k:=by
       rw [aO,aC (by omega),aU];exact g _ (aF _)
      rw [Bv (by grind) (by omega),zsv d (by omega),y14 (by omega)];exact f _ (by unfold addB;simp_all)
     ·rw [if_neg i];exact f vs (by unfold addB;grind)
    ·rw [if_neg d];exact f vs (by unfold addB;grind)
  ·rw [if_neg (by omega),aB (by omega)];rfl
theorem zw8 (n:Nat)(g:1000000<n)(held:List Ev)(i:held.length<=1000000)(c:Cf)(h:c.fBindings.length<=1000000):Lt n held c=some ⟨enH held c.fBindings⟩:=by
 unfold Lt Yd;rw [y16 (by omega) (by omega),y13,Ak];have:=zi1 n held i g 16 (by omega) c.fBindings h (fun k1_0_0y=>frr 13 <| reg <| some ⟨k1_0_0y⟩) n 0 (bC 16 []) (by omega) (by omega) (by simp) (by simp);simp only [aE] at this;have f:bG 16=16:=rfl;have d:((16:Nat):Int)=16:=rfl;rw [f];rw [d] at this;rw [this,y19,Ak,A0];rfl
def BdOk (held:List Ev)(x:Int)(l:List Bd):Prop:=∀ b∈l,(0<=b.fVar/\b.fVar<x)/\(lkH held b.fRef).isSome=true
theorem zsg (n:Nat)(held:List Ev)(r:Be)(hm:HM held r.fheld)(x:Nat)(o:x<=16)(l:List Bd)(t:l.length<=1000000)(g:BdOk held (x:Int) l)(K:List (List Ev)->Option Aq):∀ (m k:Nat) (vs:List (List Ev)),k<=l.length->l.length<m+k->vs.length=x->(∀ q∈vs,q.length<=k)->Qg n l r x K m ((k:Int),vs)=K ((l.drop k).foldl (addB held) vs)
 |0,k,vs,h1,w,i,d=>by omega
 |m+1,k,vs,h1,w,i,d=>by
  unfold Qg;simp only [aA,A3];by_cases h:k<l.length
  ·obtain ⟨⟨c,y⟩,j⟩:=g _ (aF h);obtain ⟨e,f⟩:=aT.1 j;have p:(⟨l[k].fRef.fTime,l[k].fRef.fSource,l[k].fRef.fSeq⟩:Rf)=l[k].fRef:=rfl;have s:(vs.getD l[k].fVar.toNat []).length<=k:=by
    rw [aO,aC (by omega),aU];exact d _ (aF _)
   rw [if_pos (by omega),Af h,B1 l k h,Ag k (by omega),aK,zsv c (by omega),y12 (by omega),p,Nd,hm,f,aU,Bv (by grind) (by omega),zsv c (by omega),y14 (by omega)];have u:addB held vs l[k]=vs.set l[k].fVar.toNat (vs.getD l[k].fVar.toNat []++[e]):=by
    unfold addB;rw [f];simp only;rw [if_pos ⟨c,by omega⟩]
   rw [<-u];exact zsg n held r hm x o l t g K m (k+1) _ (by omega) (by omega) (by rw [ze2];exact i) (ztq d)
  grind
theorem y6b (n:Nat)(h:1000000<n)(held:List Ev)(r:Be)(hm:HM held r.fheld)(d:0<=r.fa.fVars/\r.fa.fVars<=16)(l:List Bd)(f:l.length<=1000000)(g:BdOk held r.fa.fVars l):Vg n r l=some ⟨bndV held r.fa.fVars.toNat l⟩:=by
 unfold Vg;rw [y16 d.1 (by omega),y13,Ak];have c:((r.fa.fVars.toNat:Nat):Int)=r.fa.fVars:=by omega
 have:=zsg n held r hm r.fa.fVars.toNat (by omega) l f (by rw [c];exact g) (fun k1_0_0y=>frr 13 <| reg <| some ⟨k1_0_0y⟩) n 0 (bC r.fa.fVars.toNat []) (by omega) (by omega) (by simp) (by simp);simp only [aE] at this;rw [this,y19,Ak];rfl
def EvEq (a b:List (List Ev)):Prop:=∀ v,evs a v=evs b v
variable {x:Int}
theorem zxg (f:0<=x/\x<=16){l:List Bd}(d:BdOk held x l):EvEq (enH held l) (bndV held x.toNat l):=fun v=>by
 rw [S7,S7];by_cases h:0<=v/\v<x
 ·grind
 ·rw [if_neg (by omega:¬(0<=v/\v<((x.toNat:Nat):Int)))];split
  ·exact y06 (fun b c q=>by have:=(d b c).1;omega)
  ·rfl
def EvS (a:List (List Ev)):Prop:=∀ v,(evs a v).length<=1000000
def trR (a:List (List Ev))(e:Exn)(own:Int)(ev:Ev):Bool:=(G4 N0 e ⟨a⟩ own ev).getD false
variable {a b:List (List Ev)}
theorem Sw (c:EvEq a b)(hs:EvS a){e:Exn}(h:WfE e)(own:Int)(ev:Ev):G4 N0 e ⟨a⟩ own ev=some (trR a e own ev)/\Hl N0 e ⟨b⟩ own ev=some (trR a e own ev):=by
 obtain ⟨z,g,j⟩:=h;obtain ⟨r,d,f⟩:=zw2 a b hs own ev z e (fun i _=>c i) j g N0 (by decide);have:trR a e own ev=r:=by unfold trR;rw [d];rfl
 rw [this];exact ⟨d,f⟩
def vio (a:List (List Ev))(e:Ev)(g:Gd):Bool:=decide (g.fType=e.fType) && trR a g.fCond g.fVar e
theorem zw5 (hs:EvS a){g:Gd}(c:WfE g.fCond)(e:Ev):Ot N0 g ⟨a⟩ e=some (vio a e g):=by
 unfold Ot vio;simp only [B2,Ak,Jq,A3];have:=(Sw (fun v=>rfl:EvEq a a) hs c g.fVar e).1;rw [this,A0];by_cases h:g.fType=e.fType<;>simp [h]
theorem y0v (c:EvEq a b)(hs:EvS a){g:Gd}(d:WfE g.fCond)(e:Ev):Rl N0 g ⟨b⟩ e=some (vio a e g):=by
 unfold Rl vio;simp only [B2,Ak,M2,A3];have:=(Sw c hs d g.fVar e).2;rw [this,A0];by_cases h:g.fType=e.fType<;>simp [h]
abbrev Lim:=Bx
def SS (l:List Sta):Prop:=l.Pairwise (fun x y=>x.fScope<y.fScope)
def opS (l:List Sta)(s t:Int):List Sta:=l.filter (fun x=>decide (x.fScope<s))++(⟨s,t⟩:Sta)::l.filter (fun x=>decide (s<x.fScope))
def clS (l:List Sta)(s:Int):List Sta:=l.filter (fun x=>!decide (x.fScope=s))
theorem opS_mem {l:List Sta}{s t:Int}{x:Sta}(h:x∈opS l s t):x=⟨s,t⟩\/x∈l:=by
 unfold opS at h;grind
theorem zwn {l:List Sta}(h:SS l)(s t:Int):SS (opS l s t):=by
 unfold opS SS;rw [pairwise_append];refine ⟨h.filter _,aM.2 ⟨fun x c=>by simp_all,h.filter _⟩,fun x c y d=>?_⟩;grind
theorem zqh (l:List Sta)(s t:Int):(opS l s t).length<=l.length+1:=by
 unfold opS;rw [length_append,length_cons]
 induction l with
 |nil=>simp
 |cons x l ih =>
  grind
theorem zrr {l:List Sta}(h:SS l){s:Int}{i:Nat}(hi:i<=l.length)(h1:∀ k (d:k<l.length),k<i->l[k].fScope<s)(q:∀ d:i<l.length,¬l[i].fScope<s):l.take i=l.filter (fun x=>decide (x.fScope<s))/\((∀ d:i<l.length,l[i].fScope≠s)->l.drop i=l.filter (fun x=>decide (s<x.fScope)))/\(∀ d:i<l.length,l[i].fScope=s->l.drop (i+1)=l.filter (fun x=>decide (s<x.fScope))):=by
 have g:∀ x∈l.take i,x.fScope<s:=fun x c=>by
  obtain ⟨k,d,rfl⟩:=mem_iff_getElem.1 c;grind
 have n:∀ d:i<l.length,∀ x∈l.drop (i+1),l[i].fScope<x.fScope:=fun d x c=>by
  have:=h.drop (i:=i);rw [B1 l i d] at this;exact (aM.1 this).1 x c
 have m:∀ x∈l.drop i,s<=x.fScope:=fun x c=>by
  by_cases d:i<l.length
  ·rw [B1 l i d] at c;grind
  grind
 have f:∀ p:Sta->Bool,l.filter p=(l.take i).filter p++(l.drop i).filter p:=fun p=>by rw [<-aX,take_append_drop]
 refine ⟨?_,fun j=>?_,fun d o=>?_⟩
 ·rw [f,aL.2 (fun x c=>by simpa using g x c),aS.2 (fun x c=>by have:=m x c;simp;omega),append_nil]
 ·rw [f,aS.2 (fun x c=>by have:=g x c;simp;omega),nil_append,aL.2 (fun x c=>?_)];by_cases d:i<l.length
  ·rw [B1 l i d] at c;grind
  grind
 ·rw [f,aS.2 (fun x c=>by have:=g x c;simp;omega),nil_append,B1 l i d,bD,if_neg (by simp;omega),aL.2 (fun x c=>by have:=n d x c;simp;omega)]
theorem zak (n:Nat)(s:Int)(l:List Sta)(c:l.length<=1100000)(K:List Sta->Option (List Sta)):∀ (m k:Nat) (out:List Sta),k<=l.length->l.length<m+k->out.length<=k->K0 n s l K m ((k:Int),out)=K (out++(l.drop k).filter (fun x=>!decide (x.fScope=s)))
 |0,k,out,h1,i,g=>by omega
 |m+1,k,out,h1,i,g=>by
  unfold K0;simp only [aA,A3,Aw];by_cases h:k<l.length
  ·have f:=zak n s l c K m (k+1) (out++[l[k]]) (by omega) (by omega) (by simp_all);have d:=zak n s l c K m (k+1) out (by omega) (by omega) (by omega);rw [if_pos (by omega),Ak,Af h,Af h,B1 l k h,Ag k (by omega),Bv (by grind) (by omega),f,d,bD];grind
  grind
theorem zsj (n:Nat)(s:Int)(l:List Sta)(c:l.length<=1100000)(d:l.length<n):Pk n l s=some (clS l s):=by
 have:=zak n s l c (fun y=>some y) n 0 [] (by omega) (by omega) (by simp);unfold Pk clS;simp_all
theorem zcw (n:Nat)(s t:Int)(l:List Sta)(g:l.length<=1100000)(K:List Sta->Int->List Sta->Option (List Sta))(r:Option (List Sta))
  (d:∀ i:Nat,i<=l.length->(∀ k (c:k<l.length),k<i->l[k].fScope<s)->(∀ c:i<l.length,¬l[i].fScope<s)->K l (i:Int) (l.take i)=r) :
  ∀ (m k:Nat),k<=l.length->l.length<m+k->(∀ j (p:j<l.length),j<k->l[j].fScope<s)->I3 n t s l K m ((k:Int),l.take k)=r
 |0,k,h1,u,f=>by omega
 |m+1,k,h1,u,f=>by
  unfold I3;simp only [aA,A3,B2,Ak,Jz];by_cases h:k<l.length
  ·rw [if_pos (by omega),Af h];by_cases q:l[k].fScope<s
   ·rw [if_pos q,Af h,Bv (by grind) (by omega),Ag k (by omega),<-aD h];exact zcw n s t l g K r d m (k+1) (by omega) (by omega) (fun j p o=>by
     grind)
   ·rw [if_neg q];exact d k h1 f (fun _=>q)
  ·rw [if_neg (by omega),Ar];exact d k h1 f (fun c=>absurd c h)
theorem y5l {l:List Sta}(h:SS l)(s:Int):SS (clS l s):=h.filter _
theorem zxt (l:List Sta)(s:Int):(clS l s).length<=l.length:=length_filter_le _ _
theorem zw6 (n:Nat)(s t:Int)(l:List Sta)(hs:SS l)(m:l.length<=1100000)(h:l.length<n):Tw n l s t=some (opS l s t):=by
 unfold Tw;rw [zsj n s l m h,A0];have u:=zxt l s;refine zcw n s t (clS l s) (by omega) _ _ (fun i hi h1 o=>?_) n 0 (by omega) (by omega) (fun j _ r=>by omega);obtain ⟨q,p,_⟩:=zrr (y5l hs s) hi h1 o;have f:∀ g:i<(clS l s).length,(clS l s)[i].fScope≠s:=fun g=>by
  have:=(mem_filter.1 (aF g)).2;simpa using this
 have:=Gj (l:=clS l s) hi (Nat.le_refl _) (fun d=>app ((clS l s).take i++[⟨s,t⟩]) d 16 fun c=>some c);rw [Bv (by grind) (by omega)];simp only [aA];rw [this,take_length,Bv (by grind) (by omega),q,p f];unfold opS clS;rw [aY,aY,append_assoc];congr 2;all_goals grind
def keP (l:List Sta)(t:Int)(x:Lim):Bool:=match l.find? (fun s=>decide (s.fScope=x.fScope)) with|some s=>decide (aH .i64 (t-s.fTime)<=x.fSpan)|none=>false
theorem zmu (n:Nat)(t:Int)(x:Lim)(l:List Sta)(c:l.length<=1100000):∀ (m k:Nat),k<=l.length->l.length<m+k->Pa n t x l (some false) m (k:Int)=some (keP (l.drop k) t x)
 |0,k,h1,d=>by omega
 |m+1,k,h1,d=>by
  unfold Pa;simp only [aA,A3];by_cases h:k<l.length
  ·rw [if_pos (by omega),Af h,Af h,B1 l k h,Ag k (by omega),zmu n t x l c m (k+1) (by omega) (by omega)];unfold keP;grind
  ·rw [if_neg (by omega),aB (by omega)];rfl
theorem y4m (n:Nat)(t:Int)(x:Lim)(l:List Sta)(c:l.length<=1100000)(d:l.length<n):Uc n l x t=some (keP l t x):=by
 have:=zmu n t x l c n 0 (by omega) (by omega);unfold Uc;simp_all
theorem y5u (x:Int)(c:0<=x)(h1:x<=18446744073709551615):aH .u64 x=x:=IntWalk.u64_in _ ⟨c,h1⟩
theorem y3a (i j:Nat)(h:i+j<=3000000):aH .i64 (Int.fdiv (aH .u64 (aH .i64 ((i:Int)+(j:Int)))) (2 ^ min (bG (1:Int)) (bH .u64)))=(((i+j) / 2:Nat):Int):=by
 have f:aH .i64 ((i:Int)+(j:Int))=((i+j:Nat):Int):=by rw [Cl _ (by omega)];omega
 rw [f,y5u _ (by omega) (by omega)];have d:(2:Int) ^ min (bG (1:Int)) (bH .u64)=2:=by decide
 rw [d];have c:Int.fdiv ((i+j:Nat):Int) 2=(((i+j) / 2:Nat):Int):=by
  rw [Int.fdiv_eq_ediv_of_nonneg _ (by omega)];omega
 rw [c,Cl _ (by omega)]
theorem y2i (n:Nat)(a:Sta)(s:Int):Me n a s=some (cmpI a.fScope s):=by
 unfold Me;rw [Nl,A0]
theorem Wv (a b:Int):cmpI a b<0 ↔ a<b:=by unfold cmpI;split<;>(try split)<;>omega
theorem y1j (a b:Int):cmpI a b=0 ↔ a=b:=Hq.zero a b
theorem zqc (n:Nat)(l:List Sta)(s:Int)(hs:SS l)(o:l.length<=1100000)(K:Int->Option (Int×Bool))(r:Option (Int×Bool))
  (w:∀ i:Nat,i<=l.length->(∀ k (f:k<l.length),k<i->l[k].fScope<s)->(∀ f:i<l.length,¬l[i].fScope<s)->K (i:Int)=r) :
  ∀ (m i j:Nat),i<=j->j<=l.length->j-i<m->(∀ k (h:k<l.length),k<i->l[k].fScope<s)->(∀ k (h:k<l.length),j<=k->¬l[k].fScope<s)->Jp n s l K m ((i:Int),(j:Int))=r
 |0,i,j,h1,y,D,_,_=>by omega
 |m+1,i,j,h1,y,D,d,g=>by
  have mono:∀ a b (u:a<l.length) (t:b<l.length),a<=b->l[a].fScope<=l[b].fScope:=fun a b u t c=>by
   rcases Nat.eq_or_lt_of_le c with rfl|c
   ·exact Int.le_refl _
   ·have:=pairwise_iff_getElem.1 hs a b u t c;omega
  unfold Jp;simp only [A3];by_cases h:i<j
  ·rw [if_pos (by omega),y44 (by omega),y3a i j (by omega)];have C:(i+j) / 2<l.length:=by omega
   rw [Af C,y2i,A0,Ag _ (by omega)];by_cases p:l[(i+j) / 2].fScope<s
   ·rw [if_pos ((Wv _ _).2 p)];exact zqc n l s hs o K r w m ((i+j) / 2+1) j (by omega) y (by omega) (fun k f z=>by grind) g
   ·rw [if_neg (fun q=>p ((Wv _ _).1 q))];exact zqc n l s hs o K r w m i ((i+j) / 2) (by omega) (by omega) (by omega) d (fun k f A=>by grind)
  ·have B:i=j:=by omega
   simp_all
theorem p_bs (n:Nat)(l:List Sta)(s:Int)(hs:SS l)(t:l.length<=1100000)(u:l.length<n):∃ i:Nat,i<=l.length/\l.take i=l.filter (fun x=>decide (x.fScope<s))/\((Ok n l s=some ((i:Int),false)/\l.drop i=l.filter (fun x=>decide (s<x.fScope)))\/∃ c:i<l.length,l[i].fScope=s/\Ok n l s=some ((i:Int),true)/\l.drop (i+1)=l.filter (fun x=>decide (s<x.fScope))):=by
 have key:∃ i:Nat,i<=l.length/\(∀ k (c:k<l.length),k<i->l[k].fScope<s)/\(∀ c:i<l.length,¬l[i].fScope<s):=by
  refine ⟨(l.takeWhile (fun x=>decide (x.fScope<s))).length,(takeWhile_sublist _).length_le,?_⟩;clear hs t u
  induction l with
  |nil=>simp_all
  |cons x l ih =>
   rw [takeWhile_cons];grind
 obtain ⟨i,hi,h1,y⟩:=key;have uq:∀ j:Nat,j<=l.length->(∀ k (c:k<l.length),k<j->l[k].fScope<s)->(∀ c:j<l.length,¬l[j].fScope<s)->j=i:=fun j f m g=>by
  grind
 obtain ⟨B,A,z⟩:=zrr hs hi h1 y;refine ⟨i,hi,B,?_⟩;unfold Ok;simp only [aA,A3];have bs:=fun r w=>zqc n l s hs t (fun k1_0_0y=>if k1_0_0y<((l.length:Nat):Int) then (idx l k1_0_0y fun p=>bnd (Me n p s) fun o=>some (k1_0_0y,decide (o=0))) else some (k1_0_0y,false)) r w n 0 l.length (by omega) (by omega) (by omega) (fun k _ h=>by omega) (fun k c h=>by omega)
 by_cases e:∃ c:i<l.length,l[i].fScope=s
 ·obtain ⟨c,d⟩:=e;refine bE ⟨c,d,bs _ (fun j f m g=>?_),z c d⟩;obtain rfl:=uq j f m g;rw [if_pos (by omega),Af c,y2i,A0];have:cmpI l[j].fScope s=0:=(y1j _ _).2 d;simp [this]
 ·refine bI ⟨bs _ (fun j f m g=>?_),A (fun c d=>e ⟨c,d⟩)⟩;obtain rfl:=uq j f m g;by_cases c:j<l.length
  ·rw [if_pos (by omega),Af c,y2i,A0];have:¬cmpI l[j].fScope s=0:=fun q=>e ⟨c,(y1j _ _).1 q⟩
   simp [this]
  ·rw [if_neg (by omega)]
theorem y58 {n c:Nat}{a:List α}{x:α}(h:c<=a.length)(d:a.length<=1000000000):S8 n a (c:Int) [x]=some (a.take c++x::a.drop c):=by
 unfold S8;simp [h,d]
theorem zet (n:Nat)(t:Int)(d:List Int)(z:d.length<=1100000)(K:List Sta->Option (List Sta)):∀ (m k:Nat) (c:List Sta),k<=d.length->d.length<m+k->SS c->c.length+(d.length-k)<=1100000->c.length+(d.length-k)<n->J3 n t d K m ((k:Int),c)=K ((d.drop k).foldl (fun l s=>opS l s t) c)
 |0,k,c,h1,C,p,B,A=>by omega
 |m+1,k,c,h1,C,p,B,A=>by
  unfold J3;simp only [aA,A3,Aw,B2,Ak,M8];by_cases h:k<d.length
  ·rw [if_pos (by omega),Af h,B1 d k h,aK];have y:=zqh c d[k] t;have u:=zet n t d z K m (k+1) (opS c d[k] t) (by omega) (by omega) (zwn p _ _) (by omega) (by omega);obtain ⟨i,hi,w,E⟩:=p_bs n c d[k] p (by omega) (by omega);rcases E with ⟨r,q⟩|⟨o,D,r,q⟩
   ·rw [r,A0];simp only [Ar];rw [y58 hi (by omega),zfz];have f:i<(c.take i++(⟨d[k],0⟩:Sta)::c.drop i).length:=by simp;omega
    rw [Cp f,X3 f,Dz f,Ag k (by omega)];have e:(c.take i++(⟨d[k],0⟩:Sta)::c.drop i).set i (⟨(c.take i++(⟨d[k],0⟩:Sta)::c.drop i)[i].fScope,t⟩:Sta)=opS c d[k] t:=by
     have j:(c.take i).length=i:=by rw [aG];omega
     have g:(c.take i++(⟨d[k],0⟩:Sta)::c.drop i)[i].fScope=d[k]:=by
      rw [getElem_append_right (by omega)];simp [j]
     rw [g,set_append_right _ _ (by omega),j,Nat.sub_self,set_cons_zero];unfold opS;rw [w,q]
    rw [e];exact u
   ·rw [r,A0];simp only [Am];rw [Cp o,X3 o,Dz o,Ag k (by omega)];have e:c.set i (⟨c[i].fScope,t⟩:Sta)=opS c d[k] t:=by
     rw [set_eq_take_append_cons_drop,if_pos o,D,w,q];rfl
    rw [e];exact u
  grind
def opL (l:List Sta)(c:List Int)(t:Int):List Sta:=c.foldl (fun l s=>opS l s t) l
theorem zzf (n:Nat)(t:Int)(c:List Int)(l:List Sta)(hs:SS l)(f:l.length+c.length<=1100000)(d:1100000<n):W4 n l c t=some (opL l c t):=by
 unfold W4 Cm;rw [if_pos (by omega),Wn];have:=zet n t c (by omega) (fun y=>some y) n 0 l (aN _) (by omega) hs (by omega) (by omega);exact this
theorem y11 (t:Int):∀ (c:List Int) {l:List Sta},SS l->SS (opL l c t)
 |[],_,h=>h
 |s::c,l,h=>y11 t c (zwn h s t)
theorem zjd (t:Int):∀ (c:List Int) (l:List Sta),(opL l c t).length<=l.length+c.length
 |[],l=>by simp [opL]
 |s::c,l=>by
  have h1:=zjd t c (opS l s t);have f:=zqh l s t;have d:opL l (s::c) t=opL (opS l s t) c t:=rfl;rw [d,length_cons];omega
theorem opL_mem (t:Int):∀ (c:List Int) {l:List Sta} {x:Sta},x∈opL l c t->(x.fScope∈c/\x.fTime=t)\/x∈l
 |[],l,x,h=>bE h
 |s::c,l,x,h=>by
  rcases opL_mem t c (l:=opS l s t) h with k|k
  ·simp_all
  ·rcases opS_mem k with q|q
   all_goals simp_all
theorem fidx_cases (p:α->Bool):∀ l:List α,(l.find? p=none/\fidx p l=-1)\/∃ i,∃ h:i<l.length,fidx p l=(i:Int)/\l.find? p=some l[i]
 |[]=>bI ⟨rfl,rfl⟩
 |x::l=>by
  by_cases q:p x=true
  ·refine bE ⟨0,by simp,?_,?_⟩
   ·unfold fidx;rw [findIdx?_cons,if_pos q]
   ·rw [aP];simp [q]
  ·rcases fidx_cases p l with ⟨h1,c⟩|⟨i,hi,h1,c⟩
   ·refine bI ⟨by rw [aP];simp [q,h1],?_⟩;unfold fidx at c ⊢;grind
   ·refine bE ⟨i+1,by simp;omega,?_,by rw [aP];simp [q,c]⟩;unfold fidx at h1 ⊢;grind
theorem zev (n:Nat)(t:Int)(l:List Sta)(j:l.length<=1100000)(f:l.length<n)(xs:List Lim)(g:xs.length<=1100000):∀ (m k:Nat),k<=xs.length->xs.length<m+k->J4 n t xs l (some true) m (k:Int)=some ((xs.drop k).all (keP l t))
 |0,k,h1,o=>by omega
 |m+1,k,h1,o=>by
  unfold J4;simp only [aA,A3,B2,Ak,M9,Am];by_cases h:k<xs.length
  ·rw [if_pos (by omega),Af h,B1 xs k h,aV,Ag k (by omega),zev n t l j f xs g m (k+1) (by omega) (by omega),zmw n _ (fun s=>decide (s.fScope=xs[k].fScope)) l (by omega) f (fun s _=>rfl),A0];rcases fidx_cases (fun s:Sta=>decide (s.fScope=xs[k].fScope)) l with ⟨d,c⟩|⟨i,hi,d,c⟩
   ·rw [c,if_pos (by omega)];unfold keP;rw [d];rfl
   ·rw [d,if_neg (by omega),Af hi];have e:keP l t xs[k]=decide (aH .i64 (t-l[i].fTime)<=xs[k].fSpan):=by unfold keP;rw [c]
    grind
  ·rw [if_neg (by omega),aB (by omega)];rfl
theorem zzg (n:Nat)(t:Int)(l:List Sta)(d:l.length<=1100000)(f:1100000<n)(xs:List Lim)(c:xs.length<=1100000):W5 n l xs t=some (xs.all (keP l t)):=by
 have:=zev n t l d (by omega) xs c n 0 (by omega) (by omega);unfold W5;simp_all
def clP (cs:List Int)(x:Sta):Bool:=cs.any fun y=>decide (x.fScope=y)
theorem y2o (n:Nat)(x:Ed)(c:x.fCloses.length<=1100000)(d:1100000<n)(s:Sta):Ky n s x=some (clP x.fCloses s):=by
 unfold Ky;rw [Fa n _ _ (by omega) (by omega),A0];rfl
theorem zzk (n:Nat)(x:Ed)(c:x.fCloses.length<=1100000)(d:1100000<n)(s:Sta):Nt n s x=some (clP x.fCloses s,x):=by
 unfold Nt;rw [Fa n _ _ (by omega) (by omega),A0];rfl
abbrev ncl (x:Ed)(s:Sta):Bool:=!clP x.fCloses s
theorem zja (n:Nat)(x:Ed)(g:x.fCloses.length<=1100000)(o:1100000<n)(l:List Sta)(y:l.length<=1100000)(K:Int->Int->Int->Int->Int->Int->List AV->Int->Int->Int->Int->Int->ByteArray->List Int->List Int->List AV->List Bx->List Int->List Sta->Option (List Sta×Ed))(r:Option (List Sta×Ed))
  (B:∀ (i:Nat) (c:List Sta),c.length=l.length->i<=l.length->c.take i=l.filter (ncl x)->K (i:Int) x.fFrom x.fTo x.fVar x.fType x.fCond.fOp x.fCond.fArgs x.fCond.fVar x.fCond.fField x.fCond.fKind x.fCond.fValue.fKind x.fCond.fValue.fNum x.fCond.fValue.fText x.fOpens x.fCloses x.fChecks x.fLimits x.fInside c=r) :
  ∀ (m i j:Nat) (c:List Sta),i<=j->j<=l.length->l.length<m+j->c.length=l.length->c.take i=(l.take j).filter (ncl x)->c.drop j=l.drop j->Lc n K m ((i:Int),(j:Int),x.fFrom,x.fTo,x.fVar,x.fType,x.fCond.fOp,x.fCond.fArgs,x.fCond.fVar,x.fCond.fField,x.fCond.fKind,x.fCond.fValue.fKind,x.fCond.fValue.fNum,x.fCond.fValue.fText,x.fOpens,x.fCloses,x.fChecks,x.fLimits,x.fInside,c)=r
 |0,i,j,c,D,h1,C,w,u,t=>by omega
 |m+1,i,j,c,D,h1,C,w,u,t=>by
  unfold Lc;simp only [aA,A3];by_cases h:j<l.length
  ·have s:j<c.length:=by omega
   rw [if_pos (by omega),Cp s,Cr s,Ag i (by omega),Ag j (by omega)];have E:Nt n c[j] (⟨x.fFrom,x.fTo,x.fVar,x.fType,⟨x.fCond.fOp,x.fCond.fArgs,x.fCond.fVar,x.fCond.fField,x.fCond.fKind,⟨x.fCond.fValue.fKind,x.fCond.fValue.fNum,x.fCond.fValue.fText⟩⟩,x.fOpens,x.fCloses,x.fChecks,x.fLimits,x.fInside⟩:Ed)=some (clP x.fCloses c[j],x):=zzk n x g o c[j];rw [E,Ct];simp only;have p:c[j]=l[j]:=by
    have:=congrArg (fun q=>q[0]?) t;simp only [getElem?_drop,Nat.add_zero,aC s,aC h,Option.some.injEq] at this;exact this
   have A:c.drop (j+1)=l.drop (j+1):=by
    have:=congrArg List.tail t;simpa using this
   have f:(l.take (j+1)).filter (ncl x)=(l.take j).filter (ncl x)++(if ncl x l[j]=true then [l[j]] else []):=by
    rw [aD h,aX,bD];rfl
   rw [p];cases z:clP x.fCloses l[j] with
   |false =>
    have hi:i<c.length:=by omega
    simp only [aR,Am];rw [Cp hi,Dz hi];have d:ncl x l[j]=true:=by unfold ncl;rw [z];rfl
    rw [d] at f;refine zja n x g o l y K r B m (i+1) (j+1) _ (by omega) (by omega) (by omega) (by simp [w]) ?_ ?_
    ·rw [f,if_pos rfl,<-u,aD (by simpa using hi)];simp [take_set_of_le]
    ·rw [<-A,drop_set_of_lt (by omega)]
   |true =>
    simp only [aW,Ar];have d:ncl x l[j]=false:=by unfold ncl;rw [z];rfl
    rw [d] at f;exact zja n x g o l y K r B m i (j+1) _ (by omega) (by omega) (by omega) w (by rw [f,u];simp) A
  grind
theorem zzj (n:Nat)(x:Ed)(o:x.fCloses.length<=1100000)(p:1100000<n)(l:List Sta)(u:l.length<=1100000):Ur n x l=some (l.filter (ncl x),x):=by
 unfold Ur;rw [zmv n x (clP x.fCloses) l (by omega) (by omega) (fun s _=>y2o n x o p s),A0];rcases fidx_cases (clP x.fCloses) l with ⟨m,h⟩|⟨i,hi,m,h⟩
 ·rw [h,A3,if_pos rfl,aL.2 (fun s hs=>?_)];simp_all
 ·rw [m,A3,if_neg (by omega),Ag i (by omega)];have d:∀ s∈l.take i,ncl x s=true:=fun s hs=>by
   obtain ⟨k,w,rfl⟩:=mem_iff_getElem.1 hs;rw [aG] at w;rw [aQ];have y:l.findIdx? (clP x.fCloses)=some i:=by
    unfold fidx at m;cases A:l.findIdx? (clP x.fCloses) with
    |none=>simp_all
    |some j=>grind
   have:=(findIdx?_eq_some_iff_getElem.1 y).2.2 k (by omega);simpa [ncl] using this
  have g:ncl x l[i]=false:=by
   have:=find?_some h;simp [ncl,this]
  refine zja n x o p l u _ _ (fun q c B z t=>?_) n i (i+1) l (by omega) (by omega) (by omega) rfl ?_ rfl
  ·simp only [aA];rw [Wx (by omega),zxr (by omega)];have r:=zl1 c q (⟨0,0⟩:Sta) (by omega);have:=Gj (l:=clrL c q (⟨0,0⟩:Sta)) (a:=0) (b:=q) (by omega) (by omega) (fun f=>some (f,x));refine this.trans ?_;rw [aJ,zfu c q _ (by omega),t]
  ·rw [aD hi,aX,aL.2 d];simp [g]
theorem y5m (cs:List Int):∀ l:List Sta,cs.foldl clS l=l.filter (fun s=>!clP cs s):=by
 induction cs with
 |nil=>intro l;exact (aL.2 (fun _ _=>rfl)).symm
 |cons c cs d =>
  intro l;rw [aK,d];unfold clS;rw [aY];refine filter_congr (fun s _=>?_);unfold clP;grind
abbrev cf0:Cf:=⟨0,[],[]⟩
def hasI (l:List Int)(n:Int):Bool:=l.any fun y=>decide (n=y)
theorem zs9 (n:Nat)(s:Int)(l:List Int)(c:l.length<=1100000):∀ (m k:Nat),k<=l.length->l.length<m+k->Pj n s l (some false) m (k:Int)=some (hasI (l.drop k) s)
 |0,k,h1,d=>by omega
 |m+1,k,h1,d=>by
  unfold Pj;simp only [aA,A3];by_cases h:k<l.length
  ·rw [if_pos (by omega),Af h,B1 l k h,Ag k (by omega),zs9 n s l c m (k+1) (by omega) (by omega)];unfold hasI;grind
  ·rw [if_neg (by omega),aB (by omega)];rfl
theorem y69 (n:Nat)(s:Int)(l:List Int)(c:l.length<=1100000)(d:l.length<n):Uk n l s=some (hasI l s):=by
 have:=zs9 n s l c n 0 (by omega) (by omega);unfold Uk;simp_all
def zdv (a:Aut)(s:Int):List Gd:=match a.fStates[s.toNat]? with|some s=>s.fGuards|none=>[]
def chE (x:Ed):List Exn:=x.fChecks.filterMap Cb
theorem y1k {x:Ed}{ys:List Exn}(h:x.fChecks=ys.map Au):chE x=ys:=by
 unfold chE;rw [h,filterMap_map];have:(Cb ∘ Au)=some:=by funext y;exact Re y
 rw [this,filterMap_some]
def ckP (x:Ed)(env:List (List Ev)):Bool:=(chE x).all (fun y=>trR env y (-1) ev0)
def gdP (a:Aut)(c:Cf)(x:Ed)(env:List (List Ev))(e:Ev):Bool:=(zdv a c.fState).any (fun g=>!hasI x.fInside g.fScope && vio env e g)
def stN (c:Cf)(x:Ed)(e:Ev):List Sta:=opL c.fStarts x.fOpens e.fTime
def bdN (c:Cf)(x:Ed)(e:Ev):List Bd:=c.fBindings++[⟨x.fVar,Bb e⟩]
def coP (a:Aut)(held:List Ev)(c:Cf)(x:Ed)(e:Ev):Option Cf :=
 if x.fType=e.fType/\gdP a c x (enH held c.fBindings) e=false/\trR (enH held c.fBindings) x.fCond x.fVar e=true/\x.fLimits.all (keP (stN c x e) e.fTime)=true/\ckP x (enH (e::held) (bdN c x e))=true then some ⟨x.fTo,bdN c x e,(stN c x e).filter (ncl x)⟩ else none
def rfC:Option Cf->Cf×Bool |some c=>(c,true) |none=>(cf0,false)
structure CB (held:List Ev) (a:Aut) (k:Nat) (c:Cf):Prop where
 st:0<=c.fState/\c.fState<a.fStates.length
 bd:BdOk held a.fVars c.fBindings
 ss:SS c.fStarts
 lb:c.fBindings.length<=k
 ls:c.fStarts.length<=100*k
structure CxA (a:Aut) (held:List Ev):Prop where
 wf:WfA a
 ok:AOk a
 lo:∀ x∈a.fEdges,x.fOpens.length<=100
 lh:held.length<=10000
theorem zbi {a:Aut}{s:Int}(h:0<=s/\s<a.fStates.length):∃ c:Stt,a.fStates[s.toNat]? = some c/\c∈a.fStates/\zdv a s=c.fGuards:=by
 have:s.toNat<a.fStates.length:=by omega
 refine ⟨a.fStates[s.toNat],aC this,aF this,?_⟩;unfold zdv;rw [aC this]
theorem zdu {l:List α}{n:Int}{x:α}(c:0<=n)(h:l[n.toNat]? = some x)(k:α->Option β):idx l n k=k x:=by
 unfold idx;rw [if_pos c,h]
theorem zqp {x:Ed}{ys:List Exn}(h:x.fChecks=ys.map Au)(c:k<ys.length)(Q:Exn->Option β):idxD Cb x.fChecks (k:Int) Q=Q ys[k]:=by
 unfold idxD;rw [if_pos (by omega),h];simp [c,Re]
theorem zmm (e:Ev)(x:Ed)(c:Cf)(held:List Ev)(env:List (List Ev))(hs:EvS env)(d:Stt)(i:d.fGuards.length<=1100000)(f:∀ g∈d.fGuards,WfE g.fCond)(hi:x.fInside.length<=1100000)(K:List (List Ev)->Option (Cf×Bool)):∀ (m k:Nat),k<=d.fGuards.length->d.fGuards.length<m+k->Hy N0 e x c held ⟨env⟩ d K m (k:Int)=if (d.fGuards.drop k).any (fun g=>!hasI x.fInside g.fScope && vio env e g)=true then some (cf0,false) else K env
 |0,k,h1,j=>by omega
 |m+1,k,h1,j=>by
  unfold Hy;simp only [aA,A3,B2,Ak,Js];by_cases h:k<d.fGuards.length
  ·rw [if_pos (by omega),Af h,B1 _ k h,bF,y69 N0 _ _ hi (by unfold N0;omega),A0,Ag k (by omega),zmm e x c held env hs d i f hi K m (k+1) (by omega) (by omega),Af h,zw5 hs (f _ (aF h)),A0];cases hasI x.fInside d.fGuards[k].fScope with
   |true=>simp [Ar]
   |false =>
    simp only [aR,Am,Bool.true_and];cases vio env e d.fGuards[k]<;>simp [Am,Ar]
  grind
theorem zml (e:Ev)(x:Ed)(c:Cf)(held:List Ev)(i:x.fOpens.length<=1100000)(K:List Sta->Option (Cf×Bool)):∀ (m k:Nat) (d:List Sta),k<=x.fOpens.length->x.fOpens.length<m+k->SS d->d.length+(x.fOpens.length-k)<=1100000->O0 N0 e x c held K m ((k:Int),d)=K ((x.fOpens.drop k).foldl (fun l s=>opS l s e.fTime) d)
 |0,k,d,h1,n,f,j=>by omega
 |m+1,k,d,h1,n,f,j=>by
  unfold O0;simp only [aA,A3];by_cases h:k<x.fOpens.length
  ·have g:=zqh d x.fOpens[k] e.fTime;rw [if_pos (by omega),Af h,B1 _ k h,aK,zw6 N0 _ _ d f (by omega) (by unfold N0;omega),A0,Ag k (by omega)];exact zml e x c held i K m (k+1) _ (by omega) (by omega) (zwn f _ _) (by omega)
  grind
theorem zmk (e:Ev)(x:Ed)(c:Cf)(held:List Ev)(d:x.fLimits.length<=1100000)(s:List Sta)(hs:s.length<=1100000)(K:Option (Cf×Bool)):∀ (m k:Nat),k<=x.fLimits.length->x.fLimits.length<m+k->Nz N0 e x c held s K m (k:Int)=if (x.fLimits.drop k).all (keP s e.fTime)=true then K else some (cf0,false)
 |0,k,h1,f=>by omega
 |m+1,k,h1,f=>by
  unfold Nz;simp only [aA,A3,Aw];by_cases h:k<x.fLimits.length
  ·rw [if_pos (by omega),Af h,B1 _ k h,aV,y4m N0 _ _ s hs (by unfold N0;omega),A0,Ag k (by omega),zmk e x c held d s hs K m (k+1) (by omega) (by omega)];cases keP s e.fTime x.fLimits[k]<;>simp [Am,Ar]
  grind
theorem zmj (x:Ed)(s:List Sta)(bs:List Bd)(env:List (List Ev))(hs:EvS env)(ys:List Exn)(c:x.fChecks=ys.map Au)(f:∀ y∈ys,WfE y)(g:ys.length<=1100000)(K:List Bd->Option (Cf×Bool)):∀ (m k:Nat),k<=ys.length->ys.length<m+k->Ny N0 x s bs ⟨env⟩ K m (k:Int)=if (ys.drop k).all (fun y=>trR env y (-1) ev0)=true then K bs else some (cf0,false)
 |0,k,h1,i=>by omega
 |m+1,k,h1,i=>by
  unfold Ny;have d:x.fChecks.length=ys.length:=by rw [c,aA]
  simp only [aA,A3,Aw,d];by_cases h:k<ys.length
  ·rw [if_pos (by omega),zqp c h,B1 _ k h,aV,(Sw (fun v=>rfl:EvEq env env) hs (f _ (aF h)) (-1) ev0).1,A0,Ag k (by omega),zmj x s bs env hs ys c f g K m (k+1) (by omega) (by omega)];cases trR env ys[k] (-1) ev0<;>simp [Am,Ar]
  grind
theorem zmi (x:Ed)(bs:List Bd)(g:x.fCloses.length<=1100000)(K:List Sta->Option (Cf×Bool)):∀ (m k:Nat) (c:List Sta),k<=x.fCloses.length->x.fCloses.length<m+k->c.length<=1100000->Nx N0 x bs K m ((k:Int),c)=K ((x.fCloses.drop k).foldl clS c)
 |0,k,c,h1,i,d=>by omega
 |m+1,k,c,h1,i,d=>by
  unfold Nx;simp only [aA,A3];by_cases h:k<x.fCloses.length
  ·have f:=zxt c x.fCloses[k];rw [if_pos (by omega),Af h,B1 _ k h,aK,zsj N0 _ c d (by unfold N0;omega),A0,Ag k (by omega)];exact zmi x bs g K m (k+1) _ (by omega) (by omega) (by omega)
  grind
theorem zu7 {a:Aut}(d:CxA a held){c:Cf}(W:k<=1000)(p:CB held a k c){x:Ed}(j:x∈a.fEdges)(e:Ev):Kp N0 a held c x e=some (rfC (coP a held c x e)):=by
 have N:=p.lb;have J:=p.ls;have L:=d.lo x j;have M:=d.lh;have wx:=d.wf.ed x j;have O:=zjd e.fTime x.fOpens c.fStarts;obtain ⟨i,S,D,R⟩:=zbi p.st;obtain ⟨ys,z,u⟩:=wx.checks;have w:ys.length<=1100000:=by have:=wx.lc;rw [z,aA] at this;exact this
 have o:EvS (enH held c.fBindings):=Se (by omega);have n:EvS (enH (e::held) (bdN c x e)):=Se (by unfold bdN;simp;omega);unfold Kp;rw [zw8 N0 (by decide) held (by omega) c (by omega),A0,zdu p.st.1 S];have I:=zmm e x c held (enH held c.fBindings) o i (d.wf.st i D).1 (d.wf.st i D).2 wx.li (fun k1_0_0y=>jon (Ei N0 e x c held) <| reg <| cnd (!decide (x.fType=e.fType)) (Ei N0 e x c held true) <| bnd (G4 N0 x.fCond (⟨k1_0_0y⟩:Aq) x.fVar e) fun f=>Ei N0 e x c held !(f)) N0 0 (aN _) (by have:=(d.wf.st i D).1;unfold N0;omega);refine I.trans ?_;rw [aJ];have A:gdP a c x (enH held c.fBindings) e=i.fGuards.any (fun g=>!hasI x.fInside g.fScope && vio (enH held c.fBindings) e g):=by unfold gdP;rw [R]
 rw [<-A];unfold coP;by_cases r:gdP a c x (enH held c.fBindings) e=true
 ·rw [if_pos r,if_neg (by rw [r];simp)];rfl
 have t:gdP a c x (enH held c.fBindings) e=false:=by simpa using r
 rw [if_neg r];simp only [B2,Ak,Aw,A3];have j3t:Ei N0 e x c held true=some (cf0,false):=by unfold Ei;rw [Am]
 by_cases q:x.fType=e.fType;rotate_left
 ·rw [if_neg q,j3t,if_neg (fun h=>q h.1)];rfl
 rw [if_pos q,(Sw (fun v=>rfl:EvEq (enH held c.fBindings) (enH held c.fBindings)) o wx.cond x.fVar e).1,A0];cases V:trR (enH held c.fBindings) x.fCond x.fVar e with
 |false =>
  simp only [aR,j3t];rw [if_neg (by simp)];rfl
 |true =>
  simp only [aW];unfold Ei;rw [Ar];have m:(stN c x e).length<=1100000:=by unfold stN;omega
  have H:=fun K=>zml e x c held wx.lo K N0 0 c.fStarts (aN _) (by have:=wx.lo;unfold N0;omega) p.ss (by omega)
  refine (H _).trans ?_;rw [aJ];have B:x.fOpens.foldl (fun l s=>opS l s e.fTime) c.fStarts=stN c x e:=rfl;rw [B];have G:=fun K=>zmk e x c held wx.ll (stN c x e) m K N0 0 (aN _) (by have:=wx.ll;unfold N0;omega)
  refine (G _).trans ?_;rw [aJ];cases U:x.fLimits.all (keP (stN c x e) e.fTime) with
  |false =>
   rw [if_neg (by simp),if_neg (by simp)];rfl
  |true =>
   rw [if_pos rfl,Bv (by simp;omega) (by omega),X7,A0];unfold bldS;simp only [];rw [Bv (by grind) (by omega),zx7,Ak];unfold bld;simp only [];rw [Bv (by grind) (by omega)];have Q:([]++c.fBindings++[⟨x.fVar,⟨e.fTime,e.fSource,e.fSeq⟩⟩]:List Bd)=bdN c x e:=rfl;have P:([e]++held:List Ev)=e::held:=rfl;rw [Q,P,zw8 N0 (by decide) (e::held) (by simp;omega) _ (by unfold bdN;simp;omega),A0];have F:=fun K=>zmj x (stN c x e) (bdN c x e) (enH (e::held) (bdN c x e)) n ys z u w K N0 0 (aN _) (by unfold N0;omega)
   refine (F _).trans ?_;have C:ckP x (enH (e::held) (bdN c x e))=ys.all (fun y=>trR (enH (e::held) (bdN c x e)) y (-1) ev0):=by unfold ckP;rw [y1k z]
   rw [aJ,<-C];cases T:ckP x (enH (e::held) (bdN c x e)) with
   |false =>
    rw [if_neg (by simp),if_neg (by simp)];rfl
   |true =>
    rw [if_pos rfl,if_pos ⟨q,t,by simp⟩];have E:=fun K=>zmi x (bdN c x e) wx.lcl K N0 0 (stN c x e) (aN _) (by have:=wx.lcl;unfold N0;omega) m
    refine (E _).trans ?_;rw [aJ,y5m];rfl
theorem zzt (d:∀ y∈held,Bb y=Bb e->y=e){r:Rf}(h:(lkH held r).isSome=true):lkH (e::held) r=lkH held r:=by
 obtain ⟨y,c⟩:=aT.1 h;obtain ⟨h1,f⟩:=zjn c;have:lkH (e::held) r=if Bb e=r then some e else lkH held r:=by
  unfold lkH;rw [aP];grind
 grind
theorem y3j (vs:List (List Ev))(i:Nat)(hi:i<vs.length)(q:List Ev)(v:Int):evs (vs.set i q) v=if v=(i:Int) then q else evs vs v:=by
 unfold evs;grind
theorem y09 {a:Aut}(m:AOk a)(f:∀ y∈held,Bb y=Bb e->y=e){l:List Bd}(i:BdOk held a.fVars l)(n:0<=v/\v<a.fVars):EvEq (enH (e::held) (l++[⟨v,Bb e⟩])) ((bndV held a.fVars.toNat l).set v.toNat ((bndV held a.fVars.toNat l).getD v.toNat []++[e])):=fun w=>by
 have d:=m.vars;have c:v.toNat<(bndV held a.fVars.toNat l).length:=by rw [N5];omega
 have j:(bndV held a.fVars.toNat l).getD v.toNat []=ev1 held l v:=by
  have:=S7 held a.fVars.toNat l v;unfold evs at this;rw [if_neg (by omega),N5,if_neg (by omega),if_pos (by omega)] at this;exact this
 have h1:ev1 (e::held) (l++[⟨v,Bb e⟩]) w=ev1 held l w++(if v=w then [e] else []):=by
  unfold ev1;rw [filterMap_append];congr 1
  ·have:∀ b∈l,(if b.fVar=w then lkH (e::held) b.fRef else none)=(if b.fVar=w then lkH held b.fRef else none):=fun b g=>by rw [zzt f (i b g).2]
   clear j
   induction l with
   |nil=>rfl
   |cons b l ih =>
    rw [filterMap_cons,filterMap_cons,this b (by simp),ih (fun b h=>i b (mem_cons_of_mem _ h)) (by simpa [N5] using c) (fun b h=>this b (mem_cons_of_mem _ h))]
  ·have:lkH (e::held) (Bb e)=some e:=by unfold lkH;rw [aP];simp
   grind
 rw [y3j _ _ c,S7,h1,j];by_cases q:v=w
 ·grind
 ·rw [if_neg q,append_nil,if_neg (show ¬w=((v.toNat:Nat):Int) by omega)];have:=zxg ⟨d.1,d.2⟩ i w;rw [S7] at this;exact this
theorem y2p (c:EvEq a b)(hs:EvS a){g:Gd}(d:WfE g.fCond)(x:Ed)(hi:x.fInside.length<=1100000)(e:Ev):Ib N0 g x ⟨b⟩ e=some (!hasI x.fInside g.fScope && vio a e g):=by
 unfold Ib;simp only [B2,Ak,Jw];rw [Fa N0 _ _ (by omega) (by unfold N0;omega),A0,Aw];have:(x.fInside.any fun y=>decide (g.fScope=y))=hasI x.fInside g.fScope:=rfl;rw [this,y0v c hs d e,A0];cases hasI x.fInside g.fScope<;>simp [Am,Ar]
theorem zsi (e:Ev)(x:Ed)(c:Cf)(s:List Sta)(a b:List (List Ev))(d:EvEq a b)(hs:EvS a)(ys:List Exn)(f:x.fChecks=ys.map Au)(i:∀ y∈ys,WfE y)(j:ys.length<=1100000)(K:List Sta->Option (Cf×Bool)):∀ (m k:Nat),k<=ys.length->ys.length<m+k->P3 N0 e x c s b K m (k:Int)=if (ys.drop k).all (fun y=>trR a y (-1) ev0)=true then K s else some (cf0,false)
 |0,k,h1,n=>by omega
 |m+1,k,h1,n=>by
  unfold P3;have g:x.fChecks.length=ys.length:=by rw [f,aA]
  simp only [aA,A3,Aw,g];by_cases h:k<ys.length
  ·rw [if_pos (by omega),zqp f h,B1 _ k h,aV,(Sw d hs (i _ (aF h)) (-1) ev0).2,A0,Ag k (by omega),zsi e x c s a b d hs ys f i j K m (k+1) (by omega) (by omega)];cases trR a ys[k] (-1) ev0<;>simp [Am,Ar]
  grind
theorem znb {r:Be}(d:CxA r.fa held){c:Cf}(Z:k<=1000)(m:CB held r.fa k c){x:Ed}(i:x∈r.fa.fEdges)(H:∀ y∈held,Bb y=Bb e->y=e):Q9 N0 r c x ⟨bndV held r.fa.fVars.toNat c.fBindings⟩ e=some (rfC (coP r.fa held c x e)):=by
 have Q:=m.lb;have N:=m.ls;have O:=d.lo x i;have P:=d.lh;have q:=d.ok.vars;have wx:=d.wf.ed x i;have xv:=(d.ok.ed x i).var;have R:=zjd e.fTime x.fOpens c.fStarts;obtain ⟨o,U,J,T⟩:=zbi m.st;obtain ⟨ys,B,z⟩:=wx.checks;have A:ys.length<=1100000:=by have:=wx.lc;rw [B,aA] at this;exact this
 have j:EvS (enH held c.fBindings):=Se (by omega);have t:EvS (enH (e::held) (bdN c x e)):=Se (by unfold bdN;simp;omega);have n:=zxg ⟨q.1,q.2⟩ m.bd;have j1t:Fz N0 e ⟨bndV held r.fa.fVars.toNat c.fBindings⟩ x c true=some (cf0,false):=by unfold Fz;rw [Am]
 unfold Q9;simp only [B2,Ak,Aw,A3];unfold coP;by_cases u:x.fType=e.fType;rotate_left
 ·rw [if_neg (fun h=>u h.symm),j1t,if_neg (fun h=>u h.1)];rfl
 rw [if_pos u.symm,zdu m.st.1 U];rw [zq9 N0 x ⟨bndV held r.fa.fVars.toNat c.fBindings⟩ e (fun g=>!hasI x.fInside g.fScope && vio (enH held c.fBindings) e g) o.fGuards (by have:=(d.wf.st o J).1;omega) (by have:=(d.wf.st o J).1;unfold N0;omega) (fun g S=>y2p n j ((d.wf.st o J).2 g S) x wx.li e),A0];have D:gdP r.fa c x (enH held c.fBindings) e=o.fGuards.any (fun g=>!hasI x.fInside g.fScope && vio (enH held c.fBindings) e g):=by unfold gdP;rw [T]
 rw [<-D];cases Y:gdP r.fa c x (enH held c.fBindings) e with
 |true =>
  rw [Am,j1t,if_neg (by simp)];rfl
 |false =>
 rw [Ar,(Sw n j wx.cond x.fVar e).2,A0];cases X:trR (enH held c.fBindings) x.fCond x.fVar e with
 |false =>
  simp only [aR,j1t];rw [if_neg (by simp)];rfl
 |true =>
  simp only [aW];unfold Fz;have s:(stN c x e).length<=1100000:=by unfold stN;omega
  rw [Ar,zzf N0 e.fTime x.fOpens c.fStarts m.ss (by omega) (by decide),Wn];have E:opL c.fStarts x.fOpens e.fTime=stN c x e:=rfl;rw [E,zzg N0 e.fTime (stN c x e) s (by decide) x.fLimits wx.ll,A0,Aw];cases W:x.fLimits.all (keP (stN c x e) e.fTime) with
  |false =>
   rw [Ar,if_neg (by simp)];rfl
  |true =>
   have f:x.fVar.toNat<(bndV held r.fa.fVars.toNat c.fBindings).length:=by rw [N5];omega
   have M:((bndV held r.fa.fVars.toNat c.fBindings).getD x.fVar.toNat []).length<=1000000:=by
    have h1:=n x.fVar;have w:=j x.fVar;rw [h1] at w;unfold evs at w;rw [if_neg (by omega),N5,if_neg (by omega)] at w;exact w
   have I:=N5 held r.fa.fVars.toNat c.fBindings;have p:(bndV held r.fa.fVars.toNat c.fBindings)[x.fVar.toNat]=(bndV held r.fa.fVars.toNat c.fBindings).getD x.fVar.toNat []:=by
    simp [aO,f]
   unfold Cm;rw [Am,if_pos (by rw [I];omega),Wn,zqo xv.1 f,p,if_pos (by omega),Wn,Bv (by grind) (by omega),aA,Fi xv.1 f,Dz f];have F:=y09 d.ok H m.bd xv;have L:=fun K=>zsi e x c (stN c x e) (enH (e::held) (bdN c x e)) _ F t ys B z A K N0 0 (aN _) (by unfold N0;omega)
   refine (L _).trans ?_;have G:ckP x (enH (e::held) (bdN c x e))=ys.all (fun y=>trR (enH (e::held) (bdN c x e)) y (-1) ev0):=by unfold ckP;rw [y1k B]
   rw [aJ,<-G];cases V:ckP x (enH (e::held) (bdN c x e)) with
   |false =>
    rw [if_neg (by simp),if_neg (by simp)];rfl
   |true =>
    rw [if_pos rfl,zzj N0 x wx.lcl (by decide) _ s,Ct,if_pos (by omega),Wn];have C:Ja N0 e=some ⟨e.fTime,e.fSource,e.fSeq⟩:=rfl;rw [C,A0,Bv (by grind) (by omega),if_pos (by simp [u])];rfl
abbrev Mp:=List (Int×Bool)
def ixs (k n:Nat):List (Option Nat):=(range k).map some++bC (n-k) none
section
variable {β:Type}
theorem y5q {ix:List (Option Nat)}{os:List Mp}{j:Nat}{l:Mp}(d:os[j]? = some l)(hs:Srt l)(k:Int)(v:Bool)(c:Ars Mp->Option β):aup (ix,os) j k v c=c (ix,os.set j (sput l k v)):=by
 unfold aup;simp only [d];rw [if_pos (show (l.map (·.1)).Pairwise (· < ·) from hs)]
theorem y55 {n:Nat}(h:n<=1000000)(k:Nat->Option β):mkm (n:Int) 8 k=k n:=by unfold mkm;grind
theorem y5r (i:Nat)(x:Option β):are i x=x:=by unfold are;rfl
end
structure Hu (l:Mp):Prop where
 srt:Srt l
 all:∀ p∈l,p.2=true/\0<=p.1/\p.1<16
def has (l:Mp)(v:Int):Prop:=v∈l.map (·.1)
theorem zrq {l:Mp}{k:Int}{v:Bool}:∀ p,p∈sput l k v->p=(k,v)\/p∈l:=by
 induction l with
 |nil=>intro p c;simpa [sput] using c
 |cons q r ih =>
  obtain ⟨a,b⟩:=q;intro p c;simp only [sput] at c;grind
theorem Hu.put {l:Mp}(h:Hu l)(c:0<=v/\v<16):Hu (sput l v true) :=
 ⟨S3 h.srt,fun p d=>(zrq p d).elim (fun e=>by rw [e];exact ⟨rfl,c⟩) (h.all p)⟩
theorem has_put {l:Mp}:has (sput l v true) x ↔ x=v\/has l x:=zrp x
structure OsOk (k:Nat) (os:List Mp):Prop where
 len:os.length=k
 map:∀ l∈os,Hu l
def hasO (os:List Mp)(s:Nat)(v:Int):Prop:=∃ l,os[s]? = some l/\has l v
variable {os:List Mp}
theorem OsOk.at (h:OsOk k os){s:Nat}(hs:s<k):∃ l,os[s]? = some l/\Hu l:=by
 have c:s<os.length:=by rw [h.len];exact hs
 exact ⟨os[s],aC c,h.map _ (aF c)⟩
theorem OsOk.put (h:OsOk k os){s:Nat}{l:Mp}(f:os[s]? = some l)(i:0<=v/\v<16):OsOk k (os.set s (sput l v true))/\∀ t x,hasO (os.set s (sput l v true)) t x ↔ hasO os t x\/(t=s/\x=v):=by
 obtain ⟨hs,j⟩:=List.getElem?_eq_some_iff.1 f;have hm:Hu l:=by rw [<-j];exact h.map _ (aF hs)
 refine ⟨⟨by rw [length_set];exact h.len,fun q c=>?_⟩,fun t x=>?_⟩
 ·rcases mem_or_eq_of_mem_set c with g|g
  ·exact h.map q g
  ·rw [g];exact hm.put i
 ·unfold hasO;rw [getElem?_set];by_cases e:s=t
  ·subst e;rw [if_pos rfl,if_pos hs];constructor
   ·rintro ⟨q,c,d⟩;injection c with c
    subst c;exact (has_put.1 d).elim (fun e=>bE ⟨rfl,e⟩) (fun d=>bI ⟨l,f,d⟩)
   ·rintro (⟨q,c,d⟩|⟨_,e⟩)
    ·rw [f] at c;injection c with c;subst c
     exact ⟨_,rfl,has_put.2 (bE d)⟩
    ·exact ⟨_,rfl,has_put.2 (bI e)⟩
  grind
def OccV (v:Int)(e:Exn):Prop:=∃ i:Nat,i<16/\v=(i:Int)/\Occ i e
theorem zx3 {es:List Exn}(h:k<es.length)(K:Exn->Option β):idxD Cb (es.map Au) (k:Int) K=K es[k]:=by
 unfold idxD;rw [if_pos (by omega)];simp only [Int.toNat_natCast,getElem?_map,aC h,Option.map_some,Re]
def OwnG (a:Aut)(t:Nat)(x:Int):Prop:=∃ c,a.fStates[t]? = some c/\∃ g∈c.fGuards,OccV x g.fCond
def OwnX (ed:Ed)(x:Int):Prop:=∃ e∈chE ed++[ed.fCond],OccV x e
def OwnV (a:Aut)(t:Nat)(x:Int):Prop:=OwnG a t x\/∃ ed∈a.fEdges,ed.fFrom=(t:Int)/\OwnX ed x
inductive Rd (a:Aut):Nat->Int->Prop
 |own (t:Nat) (x:Int) (h:OwnV a t x):Rd a t x
 |step (ed:Ed) (he:ed∈a.fEdges) (t s:Nat) (x:Int) (ht:ed.fFrom=(t:Int)) (hs:ed.fTo=(s:Int)) (h:Rd a s x):Rd a t x
theorem zuc {e:Exn}(h:OccV x e):0<=x/\x<16:=by obtain ⟨i,hi,e,_⟩:=h;omega
theorem zub {a:Aut}{t:Nat}(h:OwnV a t x):0<=x/\x<16:=by
 rcases h with ⟨_,_,_,_,h⟩|⟨_,_,_,_,_,h⟩<;>exact zuc h
theorem zyw {a:Aut}{t:Nat}(h:Rd a t x):0<=x/\x<16:=by
 induction h with
 |own t x h=>exact zub h
 |step _ _ _ _ _ _ _ _ ih=>exact ih
theorem zwv:Hu []:=⟨by simp [Srt],by simp⟩
theorem OsOk.push (h:OsOk k os):OsOk (k+1) (os++[[]]):=⟨by rw [length_append,h.len];rfl,fun l c=>(mem_append.1 c).elim (h.map l) (fun c=>by rw [mem_singleton.1 c];exact zwv)⟩
open Classical in
inductive Bk (bk:List (List Int)):Nat->Nat->Prop
 |refl (s:Nat):Bk bk s s
 |step (t y s:Nat) (h:(y:Int)∈bk.getD s []) (ht:Bk bk t y):Bk bk t s
structure BkOk (n:Nat) (bk:List (List Int)):Prop where
 len:bk.length=n
 big:∀ q∈bk,q.length<=1100000
 mem:∀ q∈bk,∀ y∈q,0<=y/\y<(n:Int)
structure Sp (n:Nat) (bk:List (List Int)) (v:Int) (os:List Mp) (ss:Nat->Prop) (os':List Mp):Prop where
 ok:OsOk n os'
 mono:∀ t x,hasO os t x->hasO os' t x
 snd:∀ t x,hasO os' t x->hasO os t x\/(x=v/\∃ s,ss s/\Bk bk t s)
 mark:∀ s,ss s->hasO os' s v
 clo:∀ t,hasO os' t v->hasO os t v\/∀ y:Nat,(y:Int)∈bk.getD t []->hasO os' y v
section
variable {β α:Type}
theorem zqj (a b:Option β):nxt ([]:List α) a b=a:=by unfold nxt;rfl
theorem zje (x:α)(l:List α)(a b:Option β):nxt (x::l) a b=b:=by unfold nxt;rfl
end
structure Mk (a:Aut) (bk:List (List Int)) (os:List Mp):Prop where
 ok:OsOk a.fStates.length os
 snd:∀ t x,hasO os t x->Rd a t x
 clo:∀ t x,hasO os t x->∀ y:Nat,(y:Int)∈bk.getD t []->hasO os y x
structure BkA (a:Aut) (bk:List (List Int)):Prop where
 ok:BkOk a.fStates.length bk
 mem:∀ (t y:Nat),t<a.fStates.length->((y:Int)∈bk.getD t [] ↔ ∃ ed∈a.fEdges,ed.fTo=(t:Int)/\ed.fFrom=(y:Int))
open Classical in
noncomputable def Ht (a:Aut):List Mp:=(range a.fStates.length).map fun t=>((range 16).filter (fun i:Nat=>decide (Rd a t (i:Int)))).map (fun i:Nat=>((i:Int),true))
open Classical in
theorem y0o (a:Aut):OsOk a.fStates.length (Ht a)/\∀ t x,hasO (Ht a) t x ↔ t<a.fStates.length/\Rd a t x:=by
 unfold Ht;refine ⟨⟨by simp,fun l c=>?_⟩,fun t x=>?_⟩
 ·obtain ⟨t,_,rfl⟩:=mem_map.1 c;refine ⟨?_,fun p f=>?_⟩
  ·unfold Srt;rw [map_map,pairwise_map];refine Pairwise.imp (fun {a b} (h:a<b)=>?_) (pairwise_lt_range.filter _);simp_all
  grind
 ·unfold hasO has;constructor
  ·grind
  ·rintro ⟨h1,d⟩;refine ⟨_,by rw [getElem?_map,getElem?_range h1];rfl,?_⟩;rw [map_map];have g:=zyw d;refine mem_map.2 ⟨x.toNat,mem_filter.2 ⟨mem_range.2 (by omega),?_⟩,?_⟩;all_goals grind
theorem Hu.len {l:Mp}(h:Hu l):l.length<=16:=by
 have s:Str cmpI (l.map (·.1)):=h.srt.imp (fun q=>(Wv _ _).2 q);have key:∀ (q:List Int) (c:Int),q.Pairwise (· < ·)->(∀ x∈q,c<=x/\x<16)->(q.length:Int)<=max 0 (16-c):=fun q=>by
  induction q with
  |nil=>intro c _ _;simp;omega
  |cons y r i =>
   intro c d j;have h1:=j y (by simp);obtain ⟨m,g⟩:=aM.1 d;have:=i (y+1) g (fun x f=>by grind);grind
 have:=key (l.map (·.1)) 0 (show (l.map (·.1)).Pairwise (· < ·) from h.srt) (fun x f=>by
  obtain ⟨p,d,rfl⟩:=mem_map.1 f;exact (h.all p d).2)
 grind
end Go.Proofs.YthbogefcfhmpgaaGreat
