/- Layer 25. -/
import Derived.Test.YtidhlpjgifoneaaGreatK19
set_option linter.unusedVariables false
set_option linter.unusedSimpArgs false
namespace Go.Proofs.YtidhlpjgifoneaaGreat
open Go.RowKit List
open List renaming drop_eq_nil_of_le->aA,getD_eq_getElem?_getD->aB,length_map->aD,getElem_append_right->aE,map_cons->aJ,length_cons->aL,length_take->aM,getElem?_eq_getElem->aP,drop->aQ,getElem_append_left->aR,range->aS,length_nil->aT,getElem_cons_zero->aU,getElem_cons_succ->aV,drop_zero->aW,getElem_map->aX,map_nil->bD
open IntKind renaming wrap->aC
open Int renaming natCast_zero->aF
open _root_.Array renaming getElem?_eq_some_iff->aG
open Option.some renaming injEq->aH
open Nat renaming succ_mul->aK
open Tryz renaming laysSlF06_f161->aN,laysSlF06_f128->aO,func122->bA,func92->bE
open Or renaming inl->bB,inr->bC
variable {f:FuncId}
theorem Con.lo {a:Bool}{avs:List AV}{res:AV}(h:Con E0d a f avs res):Con E0 a f avs res :=
 ⟨h.1,fun S w vs b=>(h.2 S w vs b).mono fun e w' ⟨v,h1,i,d⟩=>⟨v,h1,y92 i.1,d⟩⟩
abbrev Bd:=B6
abbrev Sta:=Ak
abbrev Ma:=Ac
abbrev Cf:=A0
variable {α:Type}
theorem B2 (l:List α)(k:Nat)(h:k<l.length):l.drop k=l[k]::l.drop (k+1):=drop_eq_getElem_cons h
def cmpI (a b:Int):Int:=if a<b then -1 else if b<a then 1 else 0
def or2 (a b:Int):Int:=if a=0 then b else a
def or3 (a b c:Int):Int:=if a=0 then (if b=0 then c else b) else a
structure TO {α:Type} (c:α->α->Int):Prop where
 one:∀ a b,c a b=-1\/c a b=0\/c a b=1
 zero:∀ a b,c a b=0 ↔ a=b
 neg:∀ a b,c b a=- c a b
 trans:∀ a b d,c a b<0->c b d<0->c a d<0
theorem Hq:TO cmpI where
 one a b:=by unfold cmpI;split<;>(try split)<;>omega
 zero a b:=by unfold cmpI;split<;>(try split)<;>omega
 neg a b:=by unfold cmpI;omega
 trans a b d:=by unfold cmpI;omega
theorem TO.or2 {o γ:Type}{c:o->o->Int}{d:γ->γ->Int}(i:TO c)(l:TO d)(f:α->o)(g:α->γ)(hi:∀ a b,f a=f b->g a=g b->a=b):TO (fun a b=>or2 (c (f a) (f b)) (d (g a) (g b))) where
 one a b:=by
  unfold Proofs.YtidhlpjgifoneaaGreat.or2;split
  ·exact l.one _ _
  ·exact i.one _ _
 zero a b:=by
  unfold Proofs.YtidhlpjgifoneaaGreat.or2;split
  ·rename_i h;rw [l.zero];exact ⟨fun k=>hi a b ((i.zero _ _).1 h) k,fun k=>by rw [k]⟩
  ·rename_i h;exact ⟨fun k=>absurd k h,fun k=>absurd ((i.zero _ _).2 (by rw [k])) h⟩
 neg a b:=by
  unfold Proofs.YtidhlpjgifoneaaGreat.or2;rw [i.neg (f a) (f b),l.neg (g a) (g b)];omega
 trans a b e:=by
  unfold Proofs.YtidhlpjgifoneaaGreat.or2;intro h1 m;by_cases q:c (f a) (f b)=0
  ·rw [if_pos q] at h1;have p:=(i.zero _ _).1 q;rw [p];by_cases j:c (f b) (f e)=0
   ·rw [if_pos j] at m ⊢;exact l.trans _ _ _ h1 m
   omega
  ·rw [if_neg q] at h1;by_cases j:c (f b) (f e)=0
   ·have r:=(i.zero _ _).1 j;simp_all
   ·rw [if_neg j] at m;have:=i.trans _ _ _ h1 m;omega
theorem TO.map {i:Type}{c:i->i->Int}(e:TO c)(f:α->i)(hi:∀ a b,f a=f b->a=b):TO (fun a b=>c (f a) (f b)) where
 one a b:=e.one _ _
 zero a b:=⟨fun h=>hi _ _ ((e.zero _ _).1 h),fun h=>by rw [h];exact (e.zero _ _).2 rfl⟩
 neg a b:=e.neg _ _
 trans a b d:=e.trans _ _ _
def lexC (c:α->α->Int):List α->List α->Int |[],[]=>0 |[],_::_=>-1 |_::_,[]=>1 |a::x,b::y=>Proofs.YtidhlpjgifoneaaGreat.or2 (c a b) (lexC c x y)
theorem TO.lex {c:α->α->Int}(e:TO c):TO (lexC c) where
 one a b:=by
  induction a generalizing b with
  |nil=>cases b<;>simp [lexC]
  |cons x a i =>
   cases b with
   |nil=>simp [lexC]
   |cons y b =>
    unfold lexC Proofs.YtidhlpjgifoneaaGreat.or2;split
    ·exact i b
    ·exact e.one _ _
 zero a b:=by
  induction a generalizing b with
  |nil=>cases b<;>simp [lexC]
  |cons x a i =>
   cases b with
   |nil=>simp [lexC]
   |cons y b =>
    unfold lexC Proofs.YtidhlpjgifoneaaGreat.or2;by_cases h:c x y=0
    ·rw [if_pos h,i,(e.zero _ _).1 h];simp
    ·rw [if_neg h];exact ⟨fun k=>absurd k h,fun k=>by injection k with k _;exact absurd ((e.zero _ _).2 k) h⟩
 neg a b:=by
  induction a generalizing b with
  |nil=>cases b<;>simp [lexC]
  |cons x a i =>
   cases b with
   |nil=>simp [lexC]
   |cons y b =>
    unfold lexC Proofs.YtidhlpjgifoneaaGreat.or2;rw [e.neg x y,i b];omega
 trans a b d:=by
  induction a generalizing b d with
  |nil =>
   intro h1 j;cases b with
   |nil=>simp [lexC] at h1
   |cons y b=>cases d with
    |nil=>simp [lexC] at j
    |cons z d=>simp [lexC]
  |cons x a i =>
   intro h1 j;cases b with
   |nil=>simp [lexC] at h1
   |cons y b =>
    cases d with
    |nil=>simp [lexC] at j
    |cons z d =>
     unfold lexC Proofs.YtidhlpjgifoneaaGreat.or2 at h1 j ⊢;by_cases l:c x y=0
     ·rw [if_pos l] at h1;have p:=(e.zero _ _).1 l;grind
     ·rw [if_neg l] at h1;by_cases m:c y z=0
      ·have o:=(e.zero _ _).1 m;simp_all
      ·rw [if_neg m] at j;have:=e.trans _ _ _ h1 j;omega
section
variable {α:Type} {c:α->α->Int}
theorem TO.irr (h:TO c)(a:α):¬c a a<0:=by rw [(h.zero a a).2 rfl];decide
theorem TO.tri (h:TO c)(a b:α):c a b<0\/a=b\/c b a<0:=by
 have h1:=h.zero a b;have d:=h.neg a b;grind
theorem TO.swo (h:TO c):Go.Sort.SWO (ltOf c):=by
 have b:∀ x y,ltOf c x y=decide (c x y<0):=fun x y=>rfl
 refine ⟨fun x=>?_,fun x y z h1 a=>?_,fun x y z h1 a=>?_⟩<;>simp only [b,decide_eq_true_eq,decide_eq_false_iff_not] at *
 ·exact h.irr x
 ·exact h.trans _ _ _ h1 a
 ·intro d;rcases h.tri y x with k|k|k
  ·rcases h.tri z y with q|q|q
   ·exact h.irr x (h.trans _ _ _ (h.trans _ _ _ d q) k)
   all_goals grind
  all_goals simp_all
theorem TO.ties (h:TO c)(l:List α):∀ x∈l,∀ y∈l,ltOf c x y=false->ltOf c y x=false->x=y:=fun x _ y _ h1 a=>by
 have h1:¬c x y<0:=of_decide_eq_false h1;have a:¬c y x<0:=of_decide_eq_false a;rcases h.tri x y with k|k|k
 all_goals simp_all
end
def rCmp (a b:Bh):Int:=or3 (cmpI a.fTime b.fTime) (cmpI a.fSource b.fSource) (cmpI a.fSeq b.fSeq)
theorem Ju:TO rCmp:=(Hq.or2 (Hq.or2 Hq (fun p:Int×Int=>p.1) (fun p=>p.2) (fun a b h k=>Prod.ext h k)) (fun r:Bh=>r.fTime) (fun r=>(r.fSource,r.fSeq)) (fun a b h k=>by
 cases a;simp_all))
def Df (a b:Bd):Int:=or2 (rCmp a.fRef b.fRef) (cmpI a.fVar b.fVar)
theorem zu3:TO Df:=Ju.or2 Hq (fun b:Bd=>b.fRef) (fun b=>b.fVar) (fun a b h k=>by cases a;simp_all)
def Ec (a b:Sta):Int:=or2 (cmpI a.fScope b.fScope) (cmpI a.fTime b.fTime)
theorem y0e:TO Ec:=Hq.or2 Hq (fun b:Sta=>b.fScope) (fun b=>b.fTime) (fun a b h k=>by cases a;simp_all)
def Bi (a b:Ma):Int:=lexC Df a.fBindings b.fBindings
theorem El:TO Bi:=zu3.lex.map (fun m:Ma=>m.fBindings) (fun a b h=>by cases a;cases b;simp only at h;rw [h])
def Bn (a b:Cf):Int:=or3 (cmpI a.fState b.fState) (lexC Df a.fBindings b.fBindings) (lexC Ec a.fStarts b.fStarts)
theorem cfCmp_to:TO Bn:=(Hq.or2 (zu3.lex.or2 y0e.lex (fun p:List Bd×List Sta=>p.1) (fun p=>p.2) (fun a b h k=>Prod.ext h k)) (fun c:Cf=>c.fState) (fun c=>(c.fBindings,c.fStarts)) (fun a b h k=>by
 cases a;simp_all))
theorem zjc (n:Nat)(a b:Int):Fa n a b=some (cmpI a b):=by
 unfold Fa Wg;simp only [A3,decide_true,Bool.not_true,Ap,A5,cmpI];split
 ·rfl
 ·split<;>rfl
theorem zyn (n:Nat)(a b:Int):G9 (n+3) [a,b]=some (or2 a b):=by
 have w0:aC .i64 ((0:Int)+1)=1:=by decide
 have w1:aC .i64 ((1:Int)+1)=2:=by decide
 unfold G9 or2;simp only [Sx,aJ,bD,aL,aT,A5,Ah,w0,w1];simp only [idx];by_cases d:a=0
 ·by_cases e:b=0<;>simp [d,e]
 ·simp [d]
theorem zym (n:Nat)(a b c:Int):G9 (n+4) [a,b,c]=some (or3 a b c):=by
 have w0:aC .i64 ((0:Int)+1)=1:=by decide
 have w1:aC .i64 ((1:Int)+1)=2:=by decide
 have h:aC .i64 ((2:Int)+1)=3:=by decide
 unfold G9 or3;simp only [Sx,aJ,bD,aL,aT,A5,Ah,w0,w1,h];simp only [idx];by_cases d:a=0
 ·by_cases e:b=0
  ·by_cases i:c=0<;>simp [d,e,i]
  ·simp [d,e]
 ·simp [d]
theorem y1x (n:Nat)(a b:Bh):We (n+4) a b=some (rCmp a b):=by
 unfold We;simp only [A3,zjc,zym];rfl
theorem y7l (n:Nat)(a b:Bd):Vg (n+4) a b=some (Df a b):=by
 unfold Vg;simp only [A3,zjc,y1x,show n+4=(n+1)+3 from rfl,zyn];rfl
theorem y7i (n:Nat)(a b:Sta):Vz (n+4) a b=some (Ec a b):=by
 unfold Vz;simp only [A3,zjc,show n+4=(n+1)+3 from rfl,zyn];rfl
theorem zhn (n:Nat)(b a:List Bd)(i:b.length<=1000000000)(e:a.length<=1000000000):∀ (m k:Nat),k<=a.length->k<=b.length->a.length<m+k ->
  Pp (n+4) b a (if a.length<b.length then some (-1) else some 0) m k=some (lexC Df (a.drop k) (b.drop k))
 |0,k,h1,_,j=>by omega
 |m+1,k,h1,l,j=>by
  unfold Pp;simp only [aD,A5,Ah];by_cases h:k<a.length
  ·rw [if_pos (by omega),A9 h,B2 a k h];by_cases d:b.length<=k
   ·rw [if_pos (by omega),aA d];rfl
   ·rw [if_neg (by omega),A9 (by omega:k<b.length),B2 b k (by omega)];rw [y7l,A3,Ad k (by omega),zhn n b a i e m (k+1) (by omega) (by omega) (by omega)];show _=some (or2 (Df _ _) _);unfold or2;split<;>rfl
  ·rw [if_neg (by omega),aA (by omega:a.length<=k)];by_cases d:a.length<b.length
   ·rw [if_pos d,B2 b k (by omega)];rfl
   ·rw [if_neg d,aA (by omega)];rfl
theorem y5a (n:Nat)(a b:List Bd)(h:a.length<n)(i:4<=n)(e:b.length<=1000000000)(d:a.length<=1000000000):Um n a b=some (lexC Df a b):=by
 obtain ⟨m,rfl⟩:∃ m,n=m+4:=⟨n-4,by omega⟩;unfold Um;have:=zhn m b a e d (m+4) 0 (by omega) (by omega) (by omega);simp only [aF,aW] at this;rw [<-this];congr 1;simp only [aD,A5];split<;>split<;>first|rfl|omega
theorem zhm (n:Nat)(b a:List Sta)(i:b.length<=1000000000)(e:a.length<=1000000000):∀ (m k:Nat),k<=a.length->k<=b.length->a.length<m+k ->
  Ot (n+4) b a (if a.length<b.length then some (-1) else some 0) m k=some (lexC Ec (a.drop k) (b.drop k))
 |0,k,h1,_,j=>by omega
 |m+1,k,h1,l,j=>by
  unfold Ot;simp only [aD,A5,Ah];by_cases h:k<a.length
  ·rw [if_pos (by omega),A9 h,B2 a k h];by_cases d:b.length<=k
   ·rw [if_pos (by omega),aA d];rfl
   ·rw [if_neg (by omega),A9 (by omega:k<b.length),B2 b k (by omega)];rw [y7i,A3,Ad k (by omega),zhm n b a i e m (k+1) (by omega) (by omega) (by omega)];show _=some (or2 (Ec _ _) _);unfold or2;split<;>rfl
  ·rw [if_neg (by omega),aA (by omega:a.length<=k)];by_cases d:a.length<b.length
   ·rw [if_pos d,B2 b k (by omega)];rfl
   ·rw [if_neg d,aA (by omega)];rfl
theorem y59 (n:Nat)(a b:List Sta)(h:a.length<n)(i:4<=n)(e:b.length<=1000000000)(d:a.length<=1000000000):U3 n a b=some (lexC Ec a b):=by
 obtain ⟨m,rfl⟩:∃ m,n=m+4:=⟨n-4,by omega⟩;unfold U3;have:=zhm m b a e d (m+4) 0 (by omega) (by omega) (by omega);simp only [aF,aW] at this;rw [<-this];congr 1;simp only [aD,A5];split<;>split<;>first|rfl|omega
theorem y35 (n:Nat)(a b:Ma)(e:a.fBindings.length<n)(i:4<=n)(h:b.fBindings.length<=1000000000)(d:a.fBindings.length<=1000000000):W3 n a b=some (Bi a b):=by
 unfold W3;rw [y5a n _ _ e i h d,A3];rfl
theorem y58 (n:Nat)(a b:Cf)(k:a.fBindings.length<n)(e:a.fStarts.length<n)(j:4<=n)(l:b.fBindings.length<=1000000000)(i:a.fBindings.length<=1000000000)(h:b.fStarts.length<=1000000000)(d:a.fStarts.length<=1000000000):Z3 n a b=some (Bn a b):=by
 unfold Z3;rw [zjc,A3,y35 n _ _ k j l i,A3,y59 n _ _ e j h d,A3];obtain ⟨m,rfl⟩:∃ m,n=m+4:=⟨n-4,by omega⟩;rw [zym,A3];rfl
theorem Ok (n:Nat)(a b:Int):Cy n a b=some (cmpI a b):=by
 unfold Cy Wu;simp only [A3,decide_true,Bool.not_true,Ap,A5,cmpI];split
 ·rfl
 ·split<;>rfl
theorem y7k (n:Nat)(a b:Int):En (n+3) [a,b]=some (or2 a b):=by
 have w0:aC .i64 ((0:Int)+1)=1:=by decide
 have w1:aC .i64 ((1:Int)+1)=2:=by decide
 unfold En or2;simp only [T1,aJ,bD,aL,aT,A5,Ah,w0,w1];simp only [idx];by_cases d:a=0
 ·by_cases e:b=0<;>simp [d,e]
 ·simp [d]
theorem y1y (n:Nat)(a b c:Int):En (n+4) [a,b,c]=some (or3 a b c):=by
 have w0:aC .i64 ((0:Int)+1)=1:=by decide
 have w1:aC .i64 ((1:Int)+1)=2:=by decide
 have h:aC .i64 ((2:Int)+1)=3:=by decide
 unfold En or3;simp only [T1,aJ,bD,aL,aT,A5,Ah,w0,w1,h];simp only [idx];by_cases d:a=0
 ·by_cases e:b=0
  ·by_cases i:c=0<;>simp [d,e,i]
  ·simp [d,e]
 ·simp [d]
theorem y7j (n:Nat)(a b:Bh):Wn (n+4) a b=some (rCmp a b):=by
 unfold Wn;simp only [A3,Ok,y1y];rfl
theorem f_bd (n:Nat)(a b:Bd):W4 (n+4) a b=some (Df a b):=by
 unfold W4;simp only [A3,Ok,y7j,show n+4=(n+1)+3 from rfl,y7k];rfl
theorem f_st (n:Nat)(a b:Sta):Wb (n+4) a b=some (Ec a b):=by
 unfold Wb;simp only [A3,Ok,show n+4=(n+1)+3 from rfl,y7k];rfl
theorem ztn (n:Nat)(b a:List Bd)(i:b.length<=1000000000)(e:a.length<=1000000000):∀ (m k:Nat),k<=a.length->k<=b.length->a.length<m+k ->
  Qr (n+4) b a (if a.length<b.length then some (-1) else some 0) m k=some (lexC Df (a.drop k) (b.drop k))
 |0,k,h1,_,j=>by omega
 |m+1,k,h1,l,j=>by
  unfold Qr;simp only [aD,A5,Ah];by_cases h:k<a.length
  ·rw [if_pos (by omega),A9 h,B2 a k h];by_cases d:b.length<=k
   ·rw [if_pos (by omega),aA d];rfl
   ·rw [if_neg (by omega),A9 (by omega:k<b.length),B2 b k (by omega)];rw [f_bd,A3,Ad k (by omega),ztn n b a i e m (k+1) (by omega) (by omega) (by omega)];show _=some (or2 (Df _ _) _);unfold or2;split<;>rfl
  ·rw [if_neg (by omega),aA (by omega:a.length<=k)];by_cases d:a.length<b.length
   ·rw [if_pos d,B2 b k (by omega)];rfl
   ·rw [if_neg d,aA (by omega)];rfl
theorem y8y (n:Nat)(a b:List Bd)(h:a.length<n)(i:4<=n)(e:b.length<=1000000000)(d:a.length<=1000000000):Uz n a b=some (lexC Df a b):=by
 obtain ⟨m,rfl⟩:∃ m,n=m+4:=⟨n-4,by omega⟩;unfold Uz;have:=ztn m b a e d (m+4) 0 (by omega) (by omega) (by omega);simp only [aF,aW] at this;rw [<-this];congr 1;simp only [aD,A5];split<;>split<;>first|rfl|omega
theorem ztm (n:Nat)(b a:List Sta)(i:b.length<=1000000000)(e:a.length<=1000000000):∀ (m k:Nat),k<=a.length->k<=b.length->a.length<m+k ->
  Ox (n+4) b a (if a.length<b.length then some (-1) else some 0) m k=some (lexC Ec (a.drop k) (b.drop k))
 |0,k,h1,_,j=>by omega
 |m+1,k,h1,l,j=>by
  unfold Ox;simp only [aD,A5,Ah];by_cases h:k<a.length
  ·rw [if_pos (by omega),A9 h,B2 a k h];by_cases d:b.length<=k
   ·rw [if_pos (by omega),aA d];rfl
   ·rw [if_neg (by omega),A9 (by omega:k<b.length),B2 b k (by omega)];rw [f_st,A3,Ad k (by omega),ztm n b a i e m (k+1) (by omega) (by omega) (by omega)];show _=some (or2 (Ec _ _) _);unfold or2;split<;>rfl
  ·rw [if_neg (by omega),aA (by omega:a.length<=k)];by_cases d:a.length<b.length
   ·rw [if_pos d,B2 b k (by omega)];rfl
   ·rw [if_neg d,aA (by omega)];rfl
theorem y8x (n:Nat)(a b:List Sta)(h:a.length<n)(i:4<=n)(e:b.length<=1000000000)(d:a.length<=1000000000):U7 n a b=some (lexC Ec a b):=by
 obtain ⟨m,rfl⟩:∃ m,n=m+4:=⟨n-4,by omega⟩;unfold U7;have:=ztm m b a e d (m+4) 0 (by omega) (by omega) (by omega);simp only [aF,aW] at this;rw [<-this];congr 1;simp only [aD,A5];split<;>split<;>first|rfl|omega
theorem f_ma (n:Nat)(a b:Ma)(e:a.fBindings.length<n)(i:4<=n)(h:b.fBindings.length<=1000000000)(d:a.fBindings.length<=1000000000):Sn n a b=some (Bi a b):=by
 unfold Sn;rw [y8y n _ _ e i h d,A3];rfl
theorem y8w (n:Nat)(a b:Cf)(k:a.fBindings.length<n)(e:a.fStarts.length<n)(j:4<=n)(l:b.fBindings.length<=1000000000)(i:a.fBindings.length<=1000000000)(h:b.fStarts.length<=1000000000)(d:a.fStarts.length<=1000000000):Wf n a b=some (Bn a b):=by
 unfold Wf;rw [Ok,A3,f_ma n _ _ k j l i,A3,y8x n _ _ e j h d,A3];obtain ⟨m,rfl⟩:∃ m,n=m+4:=⟨n-4,by omega⟩;rw [y1y,A3];rfl
def cfOk (c:Cf):Bool:=decide (c.fBindings.length<=1000000000) && decide (c.fStarts.length<=1000000000)
def maOk (c:Ma):Bool:=decide (c.fBindings.length<=1000000000)
theorem Dn (c:Cf):cfOk c=true ↔ c.fBindings.length<=1000000000/\c.fStarts.length<=1000000000:=by simp [cfOk]
theorem Ek (c:Ma):maOk c=true ↔ c.fBindings.length<=1000000000:=by simp [maOk]
def Jx {T:Type}[DecidableEq T](ok:T->Bool)(cmp:T->T->Int)(n:Nat)(l:List T):Option (List T) :=
 if h:∀ x∈l,ok x=true then (Tm (fun a b:{ x:T // ok x=true }=>cmp a.1 b.1) n (l.attachWith (fun x=>ok x=true) h)).map (fun q=>q.map (·.1)) else none
section
variable {T:Type} [DecidableEq T]
omit [DecidableEq T] in
theorem ztf {U:Type}{d:U->U->Int}{c:T->T->Int}(f:U->T)(h:∀ a b,d a b=c (f a) (f b))(x:U):∀ l:List U,(insF d x l).map f=insF c (f x) (l.map f)
 |[]=>rfl
 |y::l=>by
  have e:ltOf d y x=ltOf c (f y) (f x):=by unfold ltOf;rw [h]
  simp only [insF,aJ,e];cases ltOf c (f y) (f x) with
  |true=>simp only [aJ,ztf f h x l]
  |false=>rfl
omit [DecidableEq T] in
theorem zlg {U:Type}{d:U->U->Int}{c:T->T->Int}(f:U->T)(h:∀ a b,d a b=c (f a) (f b)):∀ l:List U,(Et d l).map f=Et c (l.map f)
 |[]=>rfl
 |x::l=>by simp only [Et,aJ,ztf f h,zlg f h l]
variable {cmp:T->T->Int}
theorem zrs {ok:T->Bool}(e:TO cmp)(n:Nat)(l:List T)(h:∀ x∈l,ok x=true)(i:l.length<=1000000000):Jx ok cmp n l=some (Et cmp l):=by
 unfold Jx;rw [dif_pos h];have d:TO (fun a b:{ x:T // ok x=true }=>cmp a.1 b.1):=e.map (fun x:{ x:T // ok x=true }=>x.1) (fun a b h=>Subtype.ext h);unfold Tm;rw [if_pos ⟨by simp_all,d.ties _⟩];simp only [Option.map_some];rw [zlg (c:=cmp) (fun x:{ x:T // ok x=true }=>x.1) (fun a b=>rfl),attachWith_map_subtype_val]
theorem zlf {f g ty sz:Nat}{ok:T->Bool}{enc:T->AV}{n:Nat}{l j:List T}(H:∀ {q i:List { x:T // ok x=true }},Tm (fun a b:{ x:T // ok x=true }=>cmp a.1 b.1) n q=some i->ConC true E0 f [.row 0,.fn g []] ty sz (q.map fun x=>enc x.1) ty sz (i.map fun x=>enc x.1) (.tup []))(d:Jx ok cmp n l=some j) :
  ConC true E0 f [.row 0,.fn g []] ty sz (l.map enc) ty sz (j.map enc) (.tup []):=by
 unfold Jx at d;split at d
 ·rename_i h;cases e:Tm (fun a b:{ x:T // ok x=true }=>cmp a.1 b.1) n (l.attachWith (fun x=>ok x=true) h) with
  |none=>rw [e] at d;cases d
  |some q =>
   rw [e] at d;injection d with d
   have:=H e;simp_all
 ·cases d
end
theorem zr1 (a b:{ x:Cf // cfOk x=true }):Con E0d true 122 [A4 a.1,A4 b.1] (.int .i64 (Bn a.1 b.1)):=by
 obtain ⟨h1,h⟩:=(Dn a.1).1 a.2;obtain ⟨e,d⟩:=(Dn b.1).1 b.2;exact zbs (y58 1000000010 a.1 b.1 (by omega) (by omega) (by omega) e h1 d h)
theorem zqy (a b:{ x:Ma // maOk x=true }):Con E0d true 92 [Au a.1,Au b.1] (.int .i64 (Bi a.1 b.1)):=by
 have h1:=(Ek a.1).1 a.2;have d:=(Ek b.1).1 b.2;exact z1r (y35 1000000010 a.1 b.1 (by omega) (by omega) d h1)
variable {n:Nat}
theorem zuc {l m:List Cf}(t:Jx cfOk Bn n l=some m):ConC true E0 161 [.row 0,.fn 122 []] 60 3 (l.map A4) 60 3 (m.map A4) (.tup []) :=
 zlf (fun o=>zrr (Ed:=E0d) rfl rfl (B0 Tryz.func161 rfl rfl) (B0 bA rfl rfl) (by omega) (fun x=>⟨_,rfl,rfl⟩)
  (fun α _ enc q h1 cf r blk off e d w i s j k=>AnyQ.slices_SortFunc aN 3 Tryz.isAgg60 Tryz.sizeOf60 enc q h1 cf r 122 #[] blk off e d w (B0 bA rfl rfl) i s j k)
  (fun p e fv w=>AnyF.slices_SortFunc_none aN p e fv w) zr1 (cfCmp_to.map (fun x:{ x:Cf // cfOk x=true }=>x.1) (fun a b h=>Subtype.ext h)).swo o) t
theorem zub {l m:List Ma}(t:Jx maOk Bi n l=some m):ConC true E0 128 [.row 0,.fn 92 []] 44 1 (l.map Au) 44 1 (m.map Au) (.tup []) :=
 zlf (fun o=>zrr (Ed:=E0d) rfl rfl (B0 Tryz.func128 rfl rfl) (B0 bE rfl rfl) (by omega) (fun x=>⟨_,rfl,rfl⟩)
  (fun α _ enc q h1 cf r blk off e d w i s j k=>AnyQ.slices_SortFunc aO 1 Tryz.isAgg44 Tryz.sizeOf44 enc q h1 cf r 92 #[] blk off e d w (B0 bE rfl rfl) i s j k)
  (fun p e fv w=>AnyF.slices_SortFunc_none aO p e fv w) zqy (El.map (fun x:{ x:Ma // maOk x=true }=>x.1) (fun a b h=>Subtype.ext h)).swo o) t
abbrev Cel (n:Nat):={ l:List Value // l.length=n/\∀ u∈l,u.oneCell'=true }
def encC (x:Cel n):List Value:=x.1
variable {P:Program}{sz:Nat}
theorem eokC {T e eb:Nat}{i ie:TyI}(l:TyOk P T i)(k:i.shape=.slc e sz eb)(d:TyOk P e ie)(h:0<sz)(a:ie.zero.cells.size=sz):EOk P T e sz ie.bytes (encC (n:=sz)):=by
 obtain ⟨j,b,_⟩:=Cn l k;obtain ⟨x,h1,p,o,m⟩:=d.both;exact ⟨j,⟨x,ie.zero,h1,m,by rw [p,<-d.cells,b],o,a⟩,h,fun x=>x.2.1,fun x=>x.2.2⟩
def Cc (n:Nat)(l:List α):Option (List α):=if l.length<=1000000000 then some l else none
variable {E:Env}
theorem Ny {e:Nat}(W:E.P=P)(Y:Ci E f)(any:∀ (l:List (Cel sz)) (S:Nat->Prop) (v:Value) (w:World),Sl w S sz encC v l->l.length<=1000000000->Calls P f #[v] w (K2 e sz encC l w)){enc:α->AV}{a r:List α}(t:Cc n a=some r) :
  ConT E f [.sl sz (List.map enc a)] e sz (List.map enc r) (.row 0):=by
 unfold Cc at t;split at t
 ·rename_i R;injection t with t
  subst t;refine .ofRow ⟨Y,fun S w vs ⟨Q,O⟩=>?_⟩;have e1:=y8v Q;have I:Rep w S G0 (.sl sz (List.map enc a)) (vs.getD 0 undef):=O 0 (by simp);rw [e1,W];obtain ⟨A,c,N,U,m,cell,G,F,h1⟩:=I.sl_inv;let l:List (Cel sz):=(aS (List.map enc a).length).map fun k=>⟨(aS sz).map fun j=>cell k j,by simp,fun u i=>by
   obtain ⟨j,_,rfl⟩:=mem_map.1 i;exact h1 k j⟩
  have d:l.length=(List.map enc a).length:=by simp [l]
  have y:∀ k (o:k<l.length),(encC l[k])=(aS sz).map fun j=>cell k j:=fun k o=>by simp [l,encC]
  have D:Sl w S sz encC (vs.getD 0 undef) l:=by
   refine ⟨A,c,by rw [N,d],by rw [d];exact U,fun I=>?_⟩;obtain ⟨b,off,Z,V,p,q⟩:=G (by rw [<-d];exact I);refine ⟨b,off,Z,V,p,fun k o j u i=>?_⟩;rw [y k o] at i;have s:j<sz:=by have:=(List.getElem?_eq_some_iff.1 i).1;simpa using this
   rw [getElem?_map,getElem?_range s] at i;simp only [Option.map_some,aH] at i;subst i;exact q k j (by rw [<-d];exact o) s
  refine (any l S _ w D (by rw [d,aD];exact R)).mono fun ed w' ⟨A',K,L,J,C⟩=>?_
  refine ⟨_,l.flatMap encC,L,C,?_,m,fun k o j s=>?_,fun u i=>?_⟩
  ·have:w'.ownsRow w.heap.size e sz (.slice A' l.length K) l.length (l.flatMap encC):=J;rw [d] at this;rw [d];exact this
  ·have B:j<sz:=by rw [m k o] at s;exact s
   have z:k<l.length:=by rw [d];exact o
   have H:=Wx (enc:=encC (n:=sz)) (fun x _=>x.2.1) k z j B (cell k j) (by rw [y k z,getElem?_map,getElem?_range B];rfl);rw [aB,H];refine (F k o j s).mono C.size (fun b G p=>⟨C.block b p,bB G,fun e=>?_⟩);have h2:w'.ownsRow w.heap.size _ sz (.slice A' l.length K) l.length (l.flatMap encC):=J;rcases h2.2 with ⟨h,_⟩|⟨g,ab,aa,h,hg,_⟩
   ·rw [h] at e;simp [Value.ownBlock] at e
   ·rw [h] at e;simp only [Value.ownBlock,aH] at e;subst e;omega
  ·obtain ⟨x,_,M⟩:=mem_flatMap.1 i;exact x.2.2 u M
 ·cases t
theorem ConT.close {args xs:List AV}{ty:Nat}(h:ConT E f args ty sz xs (.row 0))(q:E.dr=false):Con E false f args (.sl sz xs) :=
 ⟨h.1,fun S w vs p=>(h.2.2 S w vs p).mono fun e w' ⟨u,v,us,h1,z,j,y,x,t,r⟩=>by
  have o:=r (fun _=>some (some (v.ownBlock,v))) rfl;have k:u=v:=o.row_inv rfl (Fc (Cw j));subst k;refine ⟨u,h1,⟨z,fun h=>absurd (q.symm.trans h) (by simp)⟩,?_⟩;have i:Bq w' (fun b=>(S b\/w.heap.size<=b)/\u.ownBlock≠some b) G0 w.heap.size (some (u.ownBlock,u)) (.row ty sz xs):=⟨u,us,rfl,Cw j,j,y,x,t⟩;obtain ⟨s,d,l⟩:=Fh (S':=fun b=>(false=false/\S b)\/w.heap.size<=b) i (fun b m _=>m.1.elim (fun h=>bB ⟨rfl,h⟩) bC) (fun s g a=>by
   injection a with a
   injection a with a _
   rcases j.2 with ⟨h,_⟩|⟨C,B,A,h,m,_⟩
   ·rw [h] at a;simp [Value.ownBlock] at a
   ·rw [h] at a;simp only [Value.ownBlock,aH] at a;subst a;exact bC m) G0
  injection d with d
  injection d with _ d
  rw [d];exact l⟩
theorem ConT.sub {avs bvs xs:List AV}{ty:Nat}{res:AV}(h:SubL avs bvs)(a:ConT E f bvs ty sz xs res):ConT E f avs ty sz xs res :=
 ⟨a.1,a.2.1,fun S w vs ⟨d,b⟩=>a.2.2 S w vs ⟨by rw [d,h.len],fun i hi=>(b i (by rw [h.len];exact hi)).sub (h.at i _ hi)⟩⟩
def Xk (w:World)(g off:Nat)(X:List Value):Prop:=∃ a ty b,w.heap[g]? = some (.cells a ty b)/\0<a.size/\∀ j u,X[j]? = some u->a[off+j]? = some u
section
variable {w w':World} {g off:Nat} {X:List Value}
theorem Xk.lt (h:Xk w g off X):g<w.heap.size:=by
 obtain ⟨a,ty,b,h,_⟩:=h;exact (aG.1 h).1
theorem Xk.cell (h:Xk w g off X){j:Nat}{u:Value}(a:X[j]? = some u):w.cell? ⟨g,off+j,none⟩=some u:=by
 obtain ⟨d,ty,e,h,_,b⟩:=h;simp [World.cell?,h,b j u a]
theorem Xk.grown {row:Option Nat}(h:Xk w g off X)(e:w.grownBy w' row)(d:some g≠row):Xk w' g off X:=by
 have b:=h.lt;obtain ⟨a,ty,j,h,i⟩:=h;exact ⟨a,ty,j,(e.block g b d).trans h,i⟩
theorem Xk.alloc (h:Xk w g off X)(o:Obj):Xk (w.alloc o) g off X:=by
 have b:=h.lt;obtain ⟨a,ty,e,h,d⟩:=h;exact ⟨a,ty,e,(Below.heap_alloc w o g b).trans h,d⟩
theorem Xk.shape (h:Xk w g off X):∃ t k,k≠0/\w.shape? g=some (t,k):=by
 obtain ⟨a,ty,b,h,h1,_⟩:=h;exact ⟨ty,a.size,by omega,by simp [World.shape?,h]⟩
theorem Sl.one_x {enc:α->List Value}{c:Nat}{x:α}(d:1<=c)(h:Xk w g off (enc x)):Sl w (fun _=>True) sz enc (.slice (some ⟨g,off,none⟩) 1 c) [x] :=
 ⟨_,c,rfl,d,fun _=>⟨g,off,rfl,trivial,h.lt,fun k b j u a=>by
  have:k=0:=by simpa using b
  subst this;simpa using h.cell (by simpa using a)⟩⟩
end
theorem zfj (w:World)(tS tR e:TypeId)(v:P.underlying tS=some (.slice e))(size:Nat)(u:∀ w,(Go.sizeOf e).run P w=.ok size w)
  (a b:Addr) (la ca lb cb:Nat) (h:a.block≠b.block) (d:∃ t k,k≠0/\w.shape? a.block=some (t,k)) (tB:TypeId) (kB:Nat) (l:w.shape? b.block=some (tB,kB)) (o:kB≠0)
  (r:w.frozen? b=false) (q:w.frozen? { block:=b.block,off:=kB }=false) :
  (Extern.SlicesOverlaps.overlaps #[tS,tS] #[tR] #[.slice (some a) la ca,.slice (some b) lb cb]).run P w=.ok (.bool false) w:=by
 have m:(a.block != b.block)=true:=by simpa using h
 have i:(a.block == b.block)=false:=by simpa using h
 obtain ⟨tA,kA,p,d⟩:=d;change Sem.run P (α:=Value) (underlying tS >>= _) w=_;by_cases x:la=0\/lb=0\/size=0
 ·simp [run_underlying v,u,x]
 ·cases kB with
  |zero=>exact absurd rfl o
  |succ kB =>
   cases kA with
   |zero=>exact absurd rfl p
   |succ kA =>
    cases s:w.frozen? a<;>cases j:w.frozen? { block:=a.block,off:=kA+1 } <;>
    simp [run_underlying v,u,x,m,i,frozen,noView,viewAt,mayBeOne,stringish,shape,Sem.run,d,l,s,j,r,q]
def zzu (e:TypeId)(sz:Nat)(enc:α->List Value)(base:Nat)(v:Value)(l:List α)(w0:World)(r:Ending)(w':World):Prop:=∃ A c,r=.returned (.slice A l.length c)/\Own w' base e sz enc (.slice A l.length c) l/\w0.grownBy w' v.ownBlock/\((Value.slice A l.length c).ownBlock=v.ownBlock\/(Value.slice A l.length c).ownBlock=some w0.heap.size)
def T6 (n:Nat)(a:List α)(i:Int)(v:List α):Option (List α) :=
 match v with
 |[x]=>if 0<=i/\i.toNat<=a.length/\a.length<=1000000000 then some (a.take i.toNat++x::a.drop i.toNat) else none
 |_=>none
theorem zzb (d:Value)(us:List Value)(n:Nat)(h:us.length=n*sz):(aS n).flatMap (fun k=>(aS sz).map fun j=>us.getD (k*sz+j) d)=us:=by
 induction n generalizing us with
 |zero=>simp at h;subst h;rfl
 |succ n ih =>
  rw [range_succ_eq_map,flatMap_cons,flatMap_map];have h1:(aS sz).map (fun j=>us.getD (0*sz+j) d)=us.take sz:=by
   apply ext_getElem
   ·simp [h,aK]
   ·intro j h1 a;have b:j<us.length:=by simp at a;omega
    simp [aP b]
  have a:(fun k=>(aS sz).map fun j=>us.getD (k.succ*sz+j) d)=fun k=>(aS sz).map fun j=>(us.drop sz).getD (k*sz+j) d:=by
   funext k;refine map_congr_left fun j _=>?_
   rw [aB,aB,getElem?_drop,aK,Nat.add_right_comm,Nat.add_comm (k*sz+j) sz]
  rw [h1,a,ih (us.drop sz) (by rw [length_drop,h,aK];omega),take_append_drop]
theorem zv5 {e:Nat}(hP:E.P=P)(hE:Ci E f)(hz:0<sz)
  (any:∀ (l:List (Cel sz)) (x:Cel sz) (i base:Nat) (A:Option Addr) (c g off c1:Nat) (w:World),Own w base e sz encC (.slice A l.length c) l->Xk w g off (encC x)->1<=c1->(Value.slice A l.length c).ownBlock≠some g->i<=l.length->l.length<=1000000000->base<=w.heap.size ->
    Calls P f #[.slice A l.length c,.int .i64 i,.slice (some ⟨g,off,none⟩) 1 c1] w (zzu e sz encC base (.slice A l.length c) (l.take i++x::l.drop i) w))  {enc:α->AV}  {a v r:List α} {i:Int} (K:T6 n a i v=some r) :
  ConC false E f [.row 0,aI i,.sl sz (List.map enc v)] e sz (List.map enc a) e sz (List.map enc r) (.row 0):=by
 unfold T6 at K;split at K
 ·rename_i x;split at K
  ·rename_i hc;obtain ⟨d,rfl⟩:=Int.eq_ofNat_of_zero_le hc.1;simp only [Int.toNat_natCast] at hc K;injection K with K
   subst K;refine ⟨hE,rfl,fun S w0 w vs v us al o ae an ac M hn V=>?_⟩;have e3:∃ p q s,vs=#[p,q,s]:=by
    obtain ⟨l⟩:=vs
    match l,hn with
    |[p,q,s],_=>exact ⟨p,q,s,rfl⟩
   obtain ⟨p,q,s,rfl⟩:=e3;have ha:=V (fun _=>some (some (v.ownBlock,v))) rfl;have hp:Rep w S (fun _=>some (some (v.ownBlock,v))) (.row 0) p:=ha 0 (by simp);have hq:Rep w S (fun _=>some (some (v.ownBlock,v))) (aI d) q:=ha 1 (by simp);have hs:Rep w S (fun _=>some (some (v.ownBlock,v))) (.sl sz [enc x]) s:=ha 2 (by simp);have ao:p=v:=hp.row_inv rfl (Fc (Cw o));subst ao;rw [hq.int_inv];obtain ⟨A',c1,rfl,av,ak,cell,Y,am,h1⟩:=hs.sl_inv;obtain ⟨g,off,rfl,ax,ba,G⟩:=Y (by simp);have aa:(enc x).cells.length=sz:=ak 0 (by simp);let X:Cel sz:=⟨(aS sz).map (fun j=>cell 0 j),by simp,fun u I=>by obtain ⟨j,_,rfl⟩:=mem_map.1 I;exact h1 0 j⟩;have ai:∀ j,j<sz->(encC X)[j]? = some (cell 0 j):=fun j t=>by simp [encC,X,t]
   have hX:Xk w g off (encC X):=by
    have h0:=G 0 0 (by simp) hz;simp only [Nat.zero_mul,Nat.add_zero] at h0;have ad:∃ C ty fr,w.heap[g]? = some (.cells C ty fr):=by
     unfold World.cell? at h0;split at h0
     ·rename_i C ty fr hh;exact ⟨C,ty,fr,hh⟩
     ·cases h0
    obtain ⟨C,ty,fr,hh⟩:=ad;have ah:∀ j,j<sz->C[off+j]? = some (cell 0 j):=fun j t=>by
     have:=G 0 j (by simp) t;simpa [World.cell?,hh] using this
    refine ⟨C,ty,fr,hh,?_,fun j u I=>?_⟩
    ·have:=(aG.1 (ah 0 hz)).1;omega
    ·have t:j<sz:=by have:=(List.getElem?_eq_some_iff.1 I).1;simpa [encC,X] using this
     rw [ai j t] at I;rw [ah j t,I]
   let l:List (Cel sz):=(aS (List.map enc a).length).map fun k=>⟨(aS sz).map fun j=>us.getD (k*sz+j) (.bool true),by simp,fun u I=>by
    obtain ⟨j,_,rfl⟩:=mem_map.1 I;rw [aB];cases hq:us[k*sz+j]? with
    |none=>rfl
    |some u=>exact ac u (mem_of_getElem? hq)⟩
   have z:l.length=(List.map enc a).length:=by simp [l]
   have au:l.flatMap encC=us:=by
    have:=zzb (sz:=sz) (.bool true) us (List.map enc a).length o.1;rw [<-this];simp [l,encC,flatMap_map]
   have ho:Own w w0.heap.size e sz encC p l:=by
    show w.ownsRow _ e sz p l.length (l.flatMap encC);rw [au,z];exact o
   obtain ⟨A,c,ap,ay,_⟩:=ho.val;subst ap;have hi:d<=l.length:=by rw [z,aD];exact hc.2.1
   rw [hP];refine (any l X d w0.heap.size A c g off c1 w ho hX (by simpa using av) (fun e=>M g e ax) hi (by rw [z,aD];exact hc.2.2) al.size).mono ?_;rintro ed w' ⟨A2,c2,rfl,aq,J,aw⟩;have N:(List.take d l++X::aQ d l).length=(List.map enc (List.take d a++x::aQ d a)).length:=by
    simp [z]
   have ab:∀ b,(Value.slice A2 (List.take d l++X::aQ d l).length c2).ownBlock=some b->(Value.slice A l.length c).ownBlock=some b\/w.heap.size<=b:=fun b Y=>by
    rcases aw with h|h
    ·exact bB (h▸Y)
    ·rw [h] at Y;injection Y with Y;exact bC (by omega)
   have O:w'.ownsRow w0.heap.size e sz (Value.slice A2 (List.take d l++X::aQ d l).length c2) (List.take d l++X::aQ d l).length ((List.take d l++X::aQ d l).flatMap encC):=aq;have ag:∀ y∈a,(enc y).cells.length=sz:=fun y hy=>by
    obtain ⟨k,H,rfl⟩:=mem_iff_getElem.1 hy;have:=ae k (by simpa using H);simpa using this
   -- every element of the new row,with its cells
   have af:∀ k (H:k<(List.take d l++X::aQ d l).length) (B:k<(List.take d a++x::aQ d a).length),((List.take d l++X::aQ d l)[k]=X/\(List.take d a++x::aQ d a)[k]=x) \/
     ∃ m,∃ hm:m<l.length,∃ D:m<a.length,(List.take d l++X::aQ d l)[k]=l[m]/\(List.take d a++x::aQ d a)[k]=a[m]:=fun k H B=>by
    have az:l.length=a.length:=by rw [z,aD]
    by_cases h1:k<d
    ·refine bC ⟨k,by omega,by omega,?_,?_⟩
     ·rw [aR (by simp;omega)];simp
     ·rw [aR (by simp;omega)];simp
    ·by_cases h2:k=d
     ·refine bB ⟨?_,?_⟩
      ·rw [aE (by simp;omega)];simp only [aM,show k-min d l.length=0 by omega,aU]
      ·rw [aE (by simp;omega)];simp only [aM,show k-min d a.length=0 by omega,aU]
     ·refine bC ⟨k-1,by simp at H;omega,by simp at B;omega,?_,?_⟩
      ·rw [aE (by simp;omega)];simp only [aM,show k-min d l.length=(k-1-d)+1 by omega,aV,getElem_drop];congr 1;omega
      ·rw [aE (by simp;omega)];simp only [aM,show k-min d a.length=(k-1-d)+1 by omega,aV,getElem_drop];congr 1;omega
   refine ⟨_,_,(List.take d l++X::aQ d l).flatMap encC,rfl,J,by rw [<-N];exact O,fun h=>(by cases h),ab,fun k H=>?_,fun k H j t=>?_,fun u I=>?_,fun γ' Z=>.row Z (fun g s e _=>by injection e with e;injection e with _ e)⟩
   ·have B:k<(List.take d a++x::aQ d a).length:=by simpa using H
    rw [aX];rcases af k (by rw [N];exact H) B with ⟨_,h⟩|⟨m,hm,D,_,h⟩
    ·rw [h];exact aa
    ·rw [h];exact ag _ (getElem_mem D)
   ·have B:k<(List.take d a++x::aQ d a).length:=by simpa using H
    have R:k<(List.take d l++X::aQ d l).length:=by rw [N];exact H
    have aj:∀ b,S b->b<w.heap.size->w'.heap[b]? = w.heap[b]? /\ ((S b\/w.heap.size<=b)/\(Value.slice A2 (List.take d l++X::aQ d l).length c2).ownBlock≠some b):=fun b hS Q =>
     ⟨J.block b Q (fun e=>M b e.symm hS),bB hS,fun e=>by
      rcases ab b e with h|h
      ·exact M b h hS
      ·omega⟩
    simp only [aX] at t ⊢;rcases af k R B with ⟨W,L⟩|⟨m,hm,D,W,L⟩
    ·simp only [L] at t ⊢;have F:j<sz:=by omega
     have U:=Wx (enc:=encC (n:=sz)) (fun y _=>y.2.1) k R j F (cell 0 j) (by rw [W];exact ai j F);rw [aB,U];have:=am 0 (by simp) j t;exact Rep.mono this J.size aj
    ·simp only [L] at t ⊢;have F:j<sz:=by rw [ag _ (getElem_mem D)] at t;exact t
     have ar:(encC l[m])[j]? = some (us.getD (m*sz+j) undef):=by
      have Q:m*sz+j<us.length:=by
       rw [o.1,<-z];have:(m+1)*sz<=l.length*sz:=Nat.mul_le_mul_right _ hm;rw [aK] at this;omega
      simp [l,encC,F,aP Q]
     have U:=Wx (enc:=encC (n:=sz)) (fun y _=>y.2.1) k R j F _ (by rw [W];exact ar);rw [aB,U];have:=an m (by simpa using D) j (by simpa using t);simp only [aX] at this;exact Rep.mono this J.size aj
   ·obtain ⟨y,_,hy⟩:=mem_flatMap.1 I;exact y.2.2 u hy
  ·cases K
 ·cases K
end Go.Proofs.YtidhlpjgifoneaaGreat
