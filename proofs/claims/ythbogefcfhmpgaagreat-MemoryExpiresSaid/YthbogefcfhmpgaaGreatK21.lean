/- Layer 8, plainly. -/
import Derived.Test.YthbogefcfhmpgaaGreatK20
set_option linter.unusedVariables false
set_option linter.unusedSimpArgs false
namespace Go.Proofs.YthbogefcfhmpgaaGreat
open Go.RowKit List
open List renaming length_map->aA,take_succ_eq_append_getElem->aC,getElem_mem->aD,drop_eq_nil_of_le->aE,drop_zero->aG,length_take->aH,getElem?_eq_getElem->aJ,getLast_eq_getElem->aK,take_of_length_le->aL,length_nil->aM,length_zipIdx->aN,getElem_take->aP,mem_singleton->aR,append_nil->aS,mem_append->aW,getElem_cons_zero->aX,getElem_set_self->aZ,length_cons->bA,length_drop->bB
open Int renaming natCast_zero->aB
open IntKind renaming wrap->aF
open Nat renaming zero_le->aO,lt_of_le_of_lt->aQ,le_refl->aV,zero_add->bD
open Option.some renaming inj->aT
open Bool renaming and_eq_false_iff->aU,and_eq_true->aY,or_eq_true->bC
section
variable {α β:Type}
theorem zjh {len:Nat}(h:0<len)(k:Nat->Option β):nat 0 len k=k 0:=by have:=Cp (i:=0) h k;simpa using this
theorem zsw {len:Nat}(h:1<len)(k:Nat->Option β):nat 1 len k=k 1:=by have:=Cp (i:=1) h k;simpa using this
theorem y39 {x y:α}{l:List α}(k:α->Option β):idx (x::y::l) 1 k=k y:=by have:=Af (l:=x::y::l) (i:=1) (by simp) k;simpa using this
end
theorem w21:aF .i64 (((2:Nat):Int)-1)=1:=by decide
theorem w11:aF .i64 (((1:Nat):Int)-1)=0:=by decide
theorem zzn (n:Nat)(op:Int)(h:5<=op/\op<=11)(x y:Va):∃ v,Lj n op [x,y]=some v /\
  (cnd (decide (op=9))
    (nat 0 (List.map Ac [x,y]).length fun g=>elt [x,y] g fun c=>nat 1 (List.map Ac [x,y]).length fun f=>elt [x,y] f fun b =>
      bnd (Dy n (decide (c.fKind=b.fKind) && (decide (c.fNum=b.fNum) && ((c.fText.toList == b.fText.toList) && true)))) fun d=>some (d,(0:Int)))
  <| natc op 5 (bnd (V0 n x.fNum y.fNum) fun a=>some (a,0))
  <| natc op 6 (bnd (Uz n x.fNum y.fNum) fun a=>some (a,0))
  <| natc op 7 (bnd (Uy n x.fNum y.fNum) fun a=>some (a,0))
  <| natc op 8 (bnd (Ux n x.fNum y.fNum) fun a=>some (a,0))
  <| natc op 10 (bnd (Uw n x.fNum y.fNum) fun a=>some (a,0))
  <| natc op 11 (bnd (Uv n x.fNum y.fNum) fun a=>some (a,0))
  <| natc op 12 (bnd (Lw n x.fNum y.fNum) fun a=>some (a,0))
  <| none)=some (v,0):=by
 have:op=5\/op=6\/op=7\/op=8\/op=9\/op=10\/op=11:=by omega
 have m:(List.map Ac [x,y]).length=2:=rfl;have j:∀ k:Nat->Option (Va×Int),nat 0 2 k=k 0:=fun k=>zjh (by omega) k
 have i:∀ k:Nat->Option (Va×Int),nat 1 2 k=k 1:=fun k=>zsw (by omega) k
 have p:∀ k:Va->Option (Va×Int),elt [x,y] 0 k=k x:=fun k=>Cr (by simp) k
 have o:∀ k:Va->Option (Va×Int),elt [x,y] 1 k=k y:=fun k=>Cr (by simp) k
 unfold Lj V0 Uz Uy Ux Uw Uv Lw V1;simp only [m,j,i,p,o,zdt,y39,A3,N9,zwf,zq4,A0,B2,Ak,Lg,Lf,Kf,Ke];rcases this with rfl|rfl|rfl|rfl|rfl|rfl|rfl
 ·exact ⟨_,rfl,rfl⟩
 ·exact ⟨_,rfl,rfl⟩
 ·exact ⟨_,rfl,rfl⟩
 ·exact ⟨_,rfl,rfl⟩
 ·exact ⟨_,rfl,rfl⟩
 ·by_cases q:x.fNum=1
  ·simp [q,A0]
  ·simp [q,A0]
 ·by_cases q:x.fNum=1
  ·simp [q,A0]
  ·simp [q,A0]
theorem zzo (n:Nat)(x:Va):∃ v,Lj n 12 [x]=some v/\Lw n x.fNum x.fNum=some v:=by
 unfold Lj Lw;simp only [zdt,A3,zwf,zq4,A0];exact ⟨_,rfl,rfl⟩
variable {e:Exn}
theorem ETrO.pos {s:Nat}(h:ETrO s e):1<=s:=by cases h;omega
theorem zn8 (n:Nat)(l:List (Nat×Exn))(e:Exn)(f:e.fArgs=l.map (fun p=>Au p.2))(o:l.length<=4000000)(a b:List (List Ev))(own:Int)(ev:Ev)
  (d:∀ p∈l,∃ r,H6 n p.2 ⟨a⟩ own ev=some r/\Gy n ⟨b⟩ own ev p.2=some r) (K K':List Va->List Int->Option (Va×Int)) (q:∀ vs,vs.length=l.length->∃ r,K vs (vs.map (·.fKind))=some r/\K' vs (vs.map (·.fKind))=some r) :
  ∀ (m k:Nat) (vs:List Va),k<=l.length->l.length<m+k->vs.length=k->∃ r,Pd n (H6 n) ev own ⟨a⟩ e K m ((k:Int),vs,vs.map (·.fKind))=some r/\Om n (Gy n) e ev own ⟨b⟩ K' m ((k:Int),vs,vs.map (·.fKind))=some r
 |0,k,vs,h1,s,_=>by omega
 |m+1,k,vs,h1,s,t=>by
  unfold Pd Om;simp only [f,aA,A3,Aw];by_cases h:k<l.length
  ·have c:((k:Nat):Int)<((l.length:Nat):Int):=by omega
   simp only [c,if_true];rw [Hp h,Hp h];obtain ⟨⟨v,x⟩,i,g⟩:=d l[k] (aD h);rw [i,g,A0,A0];by_cases j:x=0
   ·simp only [j,if_true];rw [Bv (by simp;omega) (by omega),Bv (by simp;omega) (by omega),Bv (by simp;omega) (by omega),Bv (by simp;omega) (by omega),Ag k (by omega)];have:=zn8 n l e f o a b own ev d K K' q m (k+1) (vs++[v]) (by omega) (by omega) (by simp;omega);simpa using this
   simp_all
  grind
theorem y4v (a b:List (List Ev))(Q:∀ v,(evs a v).length<=1000000)(own:Int)(ev:Ev):∀ (s:Nat) (e:Exn),ETrO s e->(∀ i:Nat,Occ i e->evs a (i:Int)=evs b (i:Int))->s<=4000000->∀ n,s+5000000<n->∃ r,H6 n e ⟨a⟩ own ev=some r/\Gy n ⟨b⟩ own ev e=some r:=by
 intro s
 induction s using Nat.strongRecOn with
 |ind s IH =>
  intro e N j hs n U;cases N with
  |mk l e g h G =>
   obtain ⟨d,rfl⟩:∃ d,n=d + 1:=⟨n-1,by omega⟩;have V:l.length<=(l.map (·.1)).sum:=S9 (l:=l) (fun p q=>(h p q).pos);obtain ⟨H,D,X,W⟩:=zsu g;simp only [H6,Gy,aA,A3,Aw];by_cases R:e.fArgs.length=0
   ·have:((e.fArgs.length:Nat):Int)=0:=by omega
    simp only [this,if_true];obtain ⟨r,o,m⟩:=y4l d (by omega) e g R a b j Q own ev;rw [o,m,A0];exact ⟨_,rfl,rfl⟩
   ·have:¬((e.fArgs.length:Nat):Int)=0:=by omega
    simp only [this,if_false];have P:e.fArgs.length=l.length:=by rw [G,aA]
    have c:5<=e.fOp/\e.fOp<=12/\(e.fOp=12->l.length=1)/\(e.fOp≠12->l.length=2):=by
     unfold arP at H D;by_cases F:e.fOp<0
     ·rw [if_pos F] at H;omega
     by_cases J:12<e.fOp
     ·omega
     rw [if_neg F,if_neg J] at D;by_cases I:e.fOp<5
     ·rw [if_pos I] at D;omega
     ·omega
    refine zn8 d l e G (by omega) a b own ev (fun p q=>by
     have:=Jc q;exact IH p.1 (by omega) p.2 (h p q) (fun i hi=>j i (.sub e p.2 (by grind) hi)) (by omega) d (by omega)) _ _ (fun vs M=>?_) d 0 [] (by omega) (by omega) rfl
    obtain ⟨r,o,m,T⟩:=zb5 d e.fOp ⟨c.1,c.2.1⟩ (vs.map (·.fKind)) (by rw [aA];omega) d 0 (by omega) (by rw [aA];omega);simp only [aB] at o m;unfold Xn Z9;rw [o,m,A0,A0];by_cases O:r=0
    ·simp only [O,if_true];by_cases f:e.fOp=12
     ·have C:vs.length=1:=by have:=c.2.2.1 f;omega
      match vs,C with
      |[x],_ =>
       obtain ⟨v,u,t⟩:=zzo d x;rw [f,u,A0];have w:∀ k:Nat->Option (Va×Int),nat 0 1 k=k 0:=fun k=>zjh (by omega) k
       have E:∀ k:Va->Option (Va×Int),elt [x] 0 k=k x:=fun k=>Cr (by simp) k
       have A:∀ z:Option (Va×Int),ltx 0 1 z=z:=fun z=>X3 (by omega) z
       simp only [N9,bA,aM,bD,w11,w,E,A,t,A0];exact ⟨_,rfl,rfl⟩
     ·have B:vs.length=2:=by have:=c.2.2.2 f;omega
      match vs,B with
      |[x,y],_ =>
       obtain ⟨v,u,t⟩:=zzn d e.fOp ⟨c.1,by omega⟩ x y;rw [u,A0];refine ⟨(v,0),rfl,?_⟩;rw [<-t];have w:∀ k:Nat->Option (Va×Int),nat 0 2 k=k 0:=fun k=>zjh (by omega) k
       have K:∀ k:Nat->Option (Va×Int),nat 1 2 k=k 1:=fun k=>zsw (by omega) k
       have E:∀ k:Va->Option (Va×Int),elt [x,y] 0 k=k x:=fun k=>Cr (by simp) k
       have S:∀ k:Va->Option (Va×Int),elt [x,y] 1 k=k y:=fun k=>Cr (by simp) k
       have A:∀ z:Option (Va×Int),ltx 0 2 z=z:=fun z=>X3 (by omega) z
       have L:∀ z:Option (Va×Int),ltx 1 2 z=z:=fun z=>X3 (by omega) z
       simp only [N9,A3,aA,bA,aM,bD,Nat.reduceAdd,w21,w,K,E,S,A,L]
    simp_all
theorem zw2 (a b:List (List Ev))(k:∀ v,(evs a v).length<=1000000)(own:Int)(ev:Ev)(s:Nat)(e:Exn)(f:∀ i:Nat,Occ i e->evs a (i:Int)=evs b (i:Int))(j:ETr s e)(hs:s<=4000000)(n:Nat)(q:10000000<n) :
  ∃ r,G4 n e ⟨a⟩ own ev=some r/\Hl n e ⟨b⟩ own ev=some r:=by
 obtain ⟨c,p,o,m⟩:=zwj s e j hs n (by omega);unfold G4 Hl Yp Zo;rw [p,o];simp only [A0,A3,Aw,zwf,zq4,B2,Ak,Kg,Md];by_cases d:c=0
 ·simp only [d,if_true];obtain ⟨r,h,g⟩:=y4v a b k own ev s e (m d) f hs n (by omega);rw [h,g];simp only [A0];split;all_goals simp_all
 ·simp only [d,if_false,A0];exact ⟨_,rfl,rfl⟩
variable {α:Type}
def fidx (p:α->Bool)(l:List α):Int:=match l.findIdx? p with|some j=>(j:Int)|none=>-1
theorem N4 (p:α->Bool)(l:List α):decide (0<=fidx p l)=l.any p:=by
 unfold fidx;grind
def Ds (p:α->Bool)(k:Nat)(l:List α):Int:=match l.findIdx? p with|some j=>((k+j:Nat):Int)|none=>-1
theorem Ge (p:α->Bool)(k:Nat)(x:α)(l:List α):Ds p k (x::l)=if p x=true then (k:Int) else Ds p (k+1) l:=by
 unfold Ds;grind
theorem Fb (p:α->Bool)(l:List α):Ds p 0 l=fidx p l:=by
 unfold Ds fidx;simp_all
theorem zmz (n:Nat)(x:Int)(l:List Int)(a:l.length<=1000000000):∀ (m k:Nat),k<=l.length->l.length<m+k->Qw n x l (some (-1)) m (k:Int)=some (Ds (fun y=>decide (x=y)) k (l.drop k))
 |0,k,h1,b=>by omega
 |m+1,k,h1,b=>by
  unfold Qw;simp only [aA,A3];by_cases h:k<l.length
  ·rw [if_pos (by omega),Af h,B1 l k h,Ge,Ag k (by omega),zmz n x l a m (k+1) (by omega) (by omega)];grind
  ·rw [if_neg (by omega),aE (by omega)];rfl
theorem Fa (n:Nat)(x:Int)(l:List Int)(a:l.length<=1000000000)(b:l.length<n):Dl n l x=some (l.any fun y=>decide (x=y)):=by
 unfold Dl Za;have:=zmz n x l a n 0 (by omega) (by omega);simp only [aB,aG,Fb] at this;rw [this,A0,N4]
theorem zhu (n:Nat)(a1c0:B9)(p:B9->Bool)(l:List B9)(b:l.length<=1000000000)(a:∀ x∈l,Qi n x a1c0=some (p x)):∀ (m k:Nat),k<=l.length->l.length<m+k->Q6 n a1c0 l (some (-1)) m (k:Int)=some (Ds p k (l.drop k))
 |0,k,h1,c=>by omega
 |m+1,k,h1,c=>by
  unfold Q6;simp only [aA,A3];by_cases h:k<l.length
  ·rw [if_pos (by omega),Af h,B1 l k h,Ge,a _ (aD h),A0,Ag k (by omega),zhu n a1c0 p l b a m (k+1) (by omega) (by omega)];cases p l[k]<;>simp [Ax]
  ·rw [if_neg (by omega),aE (by omega)];rfl
theorem y2k (n:Nat)(a1c0:B9)(p:B9->Bool)(l:List B9)(a:l.length<=1000000000)(c:l.length<n)(b:∀ x∈l,Qi n x a1c0=some (p x)):V6 n l a1c0=some (fidx p l):=by
 unfold V6;have:=zhu n a1c0 p l a b n 0 (by omega) (by omega);simpa only [aB,aG,Fb] using this
theorem y51 (n:Nat)(a1c0:B9)(p:B9->Bool)(l:List B9)(b:l.length<=1000000000)(a:l.length<n)(c:∀ x∈l,Qi n x a1c0=some (p x)):Q7 n l a1c0=some (l.any p):=by
 unfold Q7;rw [y2k n a1c0 p l b a c,A0,N4]
theorem zab (n:Nat)(p:Bx->Bool)(l:List Bx)(b:l.length<=1000000000)(a:∀ x∈l,Iy n x=some (p x)):∀ (m k:Nat),k<=l.length->l.length<m+k->Oh n l (some (-1)) m (k:Int)=some (Ds p k (l.drop k))
 |0,k,h1,c=>by omega
 |m+1,k,h1,c=>by
  unfold Oh;simp only [aA,A3];by_cases h:k<l.length
  ·rw [if_pos (by omega),Af h,B1 l k h,Ge,a _ (aD h),A0,Ag k (by omega),zab n p l b a m (k+1) (by omega) (by omega)];cases p l[k]<;>simp [Ax]
  ·rw [if_neg (by omega),aE (by omega)];rfl
theorem zq8 (n:Nat)(p:Bx->Bool)(l:List Bx)(a:l.length<=1000000000)(c:l.length<n)(b:∀ x∈l,Iy n x=some (p x)):U2 n l=some (fidx p l):=by
 unfold U2;have:=zab n p l a b n 0 (by omega) (by omega);simpa only [aB,aG,Fb] using this
theorem zhy (n:Nat)(p:Bx->Bool)(l:List Bx)(b:l.length<=1000000000)(a:l.length<n)(c:∀ x∈l,Iy n x=some (p x)):Oi n l=some (l.any p):=by
 unfold Oi;rw [zq8 n p l b a c,A0,N4]
theorem za9 (n:Nat)(a1c0:A6)(p:Bh->Bool)(l:List Bh)(b:l.length<=1000000000)(a:∀ x∈l,Mm n (⟨x.fVar,⟨x.fRef.fTime,x.fRef.fSource,x.fRef.fSeq⟩⟩:Bh) a1c0=some (p x)):∀ (m k:Nat),k<=l.length->l.length<m+k->Oe n a1c0 l (some (-1)) m (k:Int)=some (Ds p k (l.drop k))
 |0,k,h1,c=>by omega
 |m+1,k,h1,c=>by
  unfold Oe;simp only [aA,A3];by_cases h:k<l.length
  ·rw [if_pos (by omega),Af h,B1 l k h,Ge,a _ (aD h),A0,Ag k (by omega),za9 n a1c0 p l b a m (k+1) (by omega) (by omega)];cases p l[k]<;>simp [Ax]
  ·rw [if_neg (by omega),aE (by omega)];rfl
theorem zq6 (n:Nat)(a1c0:A6)(p:Bh->Bool)(l:List Bh)(a:l.length<=1000000000)(c:l.length<n)(b:∀ x∈l,Mm n (⟨x.fVar,⟨x.fRef.fTime,x.fRef.fSource,x.fRef.fSeq⟩⟩:Bh) a1c0=some (p x)):U0 n l a1c0=some (fidx p l):=by
 unfold U0;have:=za9 n a1c0 p l a b n 0 (by omega) (by omega);simpa only [aB,aG,Fb] using this
theorem zu9 (n:Nat)(a1c0:A6)(p:Bh->Bool)(l:List Bh)(b:l.length<=1000000000)(a:l.length<n)(c:∀ x∈l,Mm n (⟨x.fVar,⟨x.fRef.fTime,x.fRef.fSource,x.fRef.fSeq⟩⟩:Bh) a1c0=some (p x)):Tc n l a1c0=some (l.any p):=by
 unfold Tc;rw [zq6 n a1c0 p l b a c,A0,N4]
theorem zaa (n:Nat)(a1c0:A6)(p:A5->Bool)(l:List A5)(b:l.length<=1000000000)(a:∀ x∈l,Mn n x a1c0=some (p x)):∀ (m k:Nat),k<=l.length->l.length<m+k->Og n a1c0 l (some (-1)) m (k:Int)=some (Ds p k (l.drop k))
 |0,k,h1,c=>by omega
 |m+1,k,h1,c=>by
  unfold Og;simp only [aA,A3];by_cases h:k<l.length
  ·rw [if_pos (by omega),Af h,B1 l k h,Ge,a _ (aD h),A0,Ag k (by omega),zaa n a1c0 p l b a m (k+1) (by omega) (by omega)];cases p l[k]<;>simp [Ax]
  ·rw [if_neg (by omega),aE (by omega)];rfl
theorem zq7 (n:Nat)(a1c0:A6)(p:A5->Bool)(l:List A5)(a:l.length<=1000000000)(c:l.length<n)(b:∀ x∈l,Mn n x a1c0=some (p x)):U1 n l a1c0=some (fidx p l):=by
 unfold U1;have:=zaa n a1c0 p l a b n 0 (by omega) (by omega);simpa only [aB,aG,Fb] using this
theorem zua (n:Nat)(a1c0:A6)(p:A5->Bool)(l:List A5)(b:l.length<=1000000000)(a:l.length<n)(c:∀ x∈l,Mn n x a1c0=some (p x)):Td n l a1c0=some (l.any p):=by
 unfold Td;rw [zq7 n a1c0 p l b a c,A0,N4]
theorem z8s (n:Nat)(a1c0:Aq)(a1c1:A6)(p:B9->Bool)(l:List B9)(b:l.length<=1000000000)(a:∀ x∈l,K6 n x (⟨a1c0.fVars⟩:Aq) a1c1=some (p x)):∀ (m k:Nat),k<=l.length->l.length<m+k->O6 n a1c1 a1c0 l (some (-1)) m (k:Int)=some (Ds p k (l.drop k))
 |0,k,h1,c=>by omega
 |m+1,k,h1,c=>by
  unfold O6;simp only [aA,A3];by_cases h:k<l.length
  ·rw [if_pos (by omega),Af h,B1 l k h,Ge,a _ (aD h),A0,Ag k (by omega),z8s n a1c0 a1c1 p l b a m (k+1) (by omega) (by omega)];cases p l[k]<;>simp [Ax]
  ·rw [if_neg (by omega),aE (by omega)];rfl
theorem zmy (n:Nat)(a1c0:Aq)(a1c1:A6)(p:B9->Bool)(l:List B9)(a:l.length<=1000000000)(c:l.length<n)(b:∀ x∈l,K6 n x (⟨a1c0.fVars⟩:Aq) a1c1=some (p x)):Tq n l a1c0 a1c1=some (fidx p l):=by
 unfold Tq;have:=z8s n a1c0 a1c1 p l a b n 0 (by omega) (by omega);simpa only [aB,aG,Fb] using this
theorem zqa (n:Nat)(a1c0:Aq)(a1c1:A6)(p:B9->Bool)(l:List B9)(b:l.length<=1000000000)(a:l.length<n)(c:∀ x∈l,K6 n x (⟨a1c0.fVars⟩:Aq) a1c1=some (p x)):Ta n l a1c0 a1c1=some (l.any p):=by
 unfold Ta;rw [zmy n a1c0 a1c1 p l b a c,A0,N4]
theorem z8r (n:Nat)(a1c0:Ae)(a1c1:Aq)(a1c2:A6)(p:B9->Bool)(l:List B9)(b:l.length<=1000000000)(a:∀ x∈l,Ib n x a1c0 (⟨a1c1.fVars⟩:Aq) a1c2=some (p x)):∀ (m k:Nat),k<=l.length->l.length<m+k->O4 n a1c2 a1c1 a1c0 l (some (-1)) m (k:Int)=some (Ds p k (l.drop k))
 |0,k,h1,c=>by omega
 |m+1,k,h1,c=>by
  unfold O4;simp only [aA,A3];by_cases h:k<l.length
  ·rw [if_pos (by omega),Af h,B1 l k h,Ge,a _ (aD h),A0,Ag k (by omega),z8r n a1c0 a1c1 a1c2 p l b a m (k+1) (by omega) (by omega)];cases p l[k]<;>simp [Ax]
  ·rw [if_neg (by omega),aE (by omega)];rfl
theorem zmx (n:Nat)(a1c0:Ae)(a1c1:Aq)(a1c2:A6)(p:B9->Bool)(l:List B9)(a:l.length<=1000000000)(c:l.length<n)(b:∀ x∈l,Ib n x a1c0 (⟨a1c1.fVars⟩:Aq) a1c2=some (p x)):Tn n l a1c0 a1c1 a1c2=some (fidx p l):=by
 unfold Tn;have:=z8r n a1c0 a1c1 a1c2 p l a b n 0 (by omega) (by omega);simpa only [aB,aG,Fb] using this
theorem zq9 (n:Nat)(a1c0:Ae)(a1c1:Aq)(a1c2:A6)(p:B9->Bool)(l:List B9)(b:l.length<=1000000000)(a:l.length<n)(c:∀ x∈l,Ib n x a1c0 (⟨a1c1.fVars⟩:Aq) a1c2=some (p x)):T9 n l a1c0 a1c1 a1c2=some (l.any p):=by
 unfold T9;rw [zmx n a1c0 a1c1 a1c2 p l b a c,A0,N4]
theorem z8q (n:Nat)(a1c0:Bx)(p:Ap->Bool)(l:List Ap)(b:l.length<=1000000000)(a:∀ x∈l,Vv n x a1c0=some (p x)):∀ (m k:Nat),k<=l.length->l.length<m+k->O3 n a1c0 l (some (-1)) m (k:Int)=some (Ds p k (l.drop k))
 |0,k,h1,c=>by omega
 |m+1,k,h1,c=>by
  unfold O3;simp only [aA,A3];by_cases h:k<l.length
  ·rw [if_pos (by omega),Af h,B1 l k h,Ge,a _ (aD h),A0,Ag k (by omega),z8q n a1c0 p l b a m (k+1) (by omega) (by omega)];cases p l[k]<;>simp [Ax]
  ·rw [if_neg (by omega),aE (by omega)];rfl
theorem zmw (n:Nat)(a1c0:Bx)(p:Ap->Bool)(l:List Ap)(a:l.length<=1000000000)(c:l.length<n)(b:∀ x∈l,Vv n x a1c0=some (p x)):Tm n l a1c0=some (fidx p l):=by
 unfold Tm;have:=z8q n a1c0 p l a b n 0 (by omega) (by omega);simpa only [aB,aG,Fb] using this
theorem z8p (n:Nat)(a1c0:Ae)(p:Ap->Bool)(l:List Ap)(b:l.length<=1000000000)(a:∀ x∈l,Ky n x a1c0=some (p x)):∀ (m k:Nat),k<=l.length->l.length<m+k->O2 n a1c0 l (some (-1)) m (k:Int)=some (Ds p k (l.drop k))
 |0,k,h1,c=>by omega
 |m+1,k,h1,c=>by
  unfold O2;simp only [aA,A3];by_cases h:k<l.length
  ·rw [if_pos (by omega),Af h,B1 l k h,Ge,a _ (aD h),A0,Ag k (by omega),z8p n a1c0 p l b a m (k+1) (by omega) (by omega)];cases p l[k]<;>simp [Ax]
  ·rw [if_neg (by omega),aE (by omega)];rfl
theorem zmv (n:Nat)(a1c0:Ae)(p:Ap->Bool)(l:List Ap)(a:l.length<=1000000000)(c:l.length<n)(b:∀ x∈l,Ky n x a1c0=some (p x)):Tl n l a1c0=some (fidx p l):=by
 unfold Tl;have:=z8p n a1c0 p l a b n 0 (by omega) (by omega);simpa only [aB,aG,Fb] using this
abbrev Gd:=B9
abbrev Stt:=Dm
abbrev Ed:=Ae
abbrev Aut:=Ad
def WfE (e:Exn):Prop:=∃ z,z<=4000000/\ETr z e
structure WfX (x:Ed):Prop where
 cond:WfE x.fCond
 checks:∃ ys:List Exn,x.fChecks=ys.map Au/\∀ y∈ys,WfE y
 lc:x.fChecks.length<=1100000
 lo:x.fOpens.length<=1100000
 lcl:x.fCloses.length<=1100000
 li:x.fInside.length<=1100000
 ll:x.fLimits.length<=1100000
structure WfA (a:Aut):Prop where
 ls:a.fStates.length<=1100000
 le:a.fEdges.length<=1100000
 st:∀ s∈a.fStates,s.fGuards.length<=1100000/\∀ g∈s.fGuards,WfE g.fCond
 ed:∀ x∈a.fEdges,WfX x
theorem WfE.check (h:WfE e)(n:Nat)(f:10000000<n):∃ r:Int,G7 n e=some r/\Hm n e=some r:=by
 obtain ⟨z,c,d⟩:=h;obtain ⟨r,b,a,_⟩:=zwj z e d c n (by omega);exact ⟨r,b,a⟩
theorem X8 (n:Nat)(a b:Int):D4 n a b=some (decide (a<0) || decide (b<a)):=by
 unfold D4;simp only [B2,Ak,L6,A3];by_cases h:a<0<;>simp [h]
theorem Wq (n:Nat)(a b:Int):Ek n a b=some (decide (0<=a) && decide (a<b)):=by
 unfold Ek;simp only [B2,Ak,Lm,A3];by_cases h:0<=a<;>simp [h]
theorem Wg (a b:Int):(decide (a<0) || decide (b-1<a))=!(decide (0<=a) && decide (a<b)):=by
 grind
theorem ztp {q:α->Bool}{l:List α}{i k:Nat}(a:k<i)(hi:i<=l.length):((l.take i).drop k).any q=(q (l[k]'(by omega)) || ((l.take i).drop (k+1)).any q):=by
 rw [B1 _ k (by simp;omega),any_cons,aP]
theorem zcx (n:Nat)(l:List Gd)(a:Aut)(i:Nat)(hi:i<l.length)(b:l.length<=1100000)(K:Option Int):∀ (m k:Nat),k<=i->i<m+k->Oc n l a (i:Int) K m (k:Int)=if ((l.take i).drop k).any (fun h=>decide (h.fScope=l[i].fScope))=true then some 7 else K
 |0,k,h1,c=>by omega
 |m+1,k,h1,c=>by
  unfold Oc;simp only [A3];by_cases h:k<i
  ·rw [if_pos (by omega),Af (by omega:k<l.length),Af hi,ztp h (by omega),Ag k (by omega),zcx n l a i hi b K m (k+1) (by omega) (by omega)];grind
  ·rw [if_neg (by omega),aE (by simp;omega)];simp
theorem zey (n:Nat)(t:10000000<n)(a:Aut)(hs:0<=a.fScopes/\a.fScopes<=64)(A:0<=a.fVars/\a.fVars<=16)(l:List Gd)(u:l.length<=1100000)(s:∀ g∈l,WfE g.fCond):∀ (m k:Nat),k<=l.length->l.length<m+k->∃ r:Int,Ft n l a (some 0) m (k:Int)=some r/\G8 n l a (some 0) m (k:Int)=some r
 |0,k,h1,B=>by omega
 |m+1,k,h1,B=>by
  unfold Ft G8;simp only [aA,A3,Aw,B2,Ak,I5,Ir,X8,Wq];by_cases h:k<l.length
  ·have d:((k:Nat):Int)<((l.length:Nat):Int):=by omega
   simp only [d,if_true,Af h,A0];have wS:aF .i64 (a.fScopes-1)=a.fScopes-1:=Cl _ (by omega);have wV:aF .i64 (a.fVars-1)=a.fVars-1:=Cl _ (by omega);have q:∀ x:Int,(decide (x<0) || decide (15<x))=!(decide (0<=x) && decide (x<16)):=fun x=>Wg x 16
   simp only [wS,wV,Wg,q];obtain ⟨r,z,y⟩:=zey n t a hs A l u s m (k+1) (by omega) (by omega);obtain ⟨c,D,C⟩:=(s _ (aD h)).check n t;have w:=zcx n l a k h u (bnd (G7 n l[k].fCond) fun f=>if f=0 then Ft n l a (some 0) m (aF .i64 ((k:Int)+1)) else some f) n 0 (by omega) (by omega);simp only [aB,aG] at w;rw [w,D,C];have v:=Gj (l:=l) (a:=0) (b:=k) (aO _) (by omega) (fun p=>bnd (Q7 n p l[k]) fun o=>cnd o (some (7:Int)) (bnd (some c) fun i=>if i=0 then G8 n l a (some 0) m (aF .i64 ((k:Int)+1)) else some i));simp only [aB,aG] at v;rw [v,y51 n l[k] (fun h=>decide (h.fScope=l[k].fScope)) (l.take k) (by simp;omega) (by simp;omega) (fun x _=>rfl),A0,Ag k (by omega),z,y];simp only [A0];generalize (decide (0<=l[k].fScope) && decide (l[k].fScope<a.fScopes))=H;generalize (decide (0<=l[k].fType) && decide (l[k].fType<16))=G;generalize (decide (0<=l[k].fVar) && decide (l[k].fVar<a.fVars))=F;generalize ((l.take k).any fun h=>decide (h.fScope=l[k].fScope))=E;cases H with
   |false=>exact ⟨2,by simp [Ax],by simp [Ax]⟩
   |true=>cases G with
    |false=>exact ⟨2,by simp [Ax],by simp [Ax]⟩
    |true=>cases F with
     |false=>exact ⟨2,by simp [Ax],by simp [Ax]⟩
     |true=>cases E with
      |true=>exact ⟨7,by simp [Ax],by simp [Ax]⟩
      |false =>
       by_cases j:c=0
       ·exact ⟨r,by simp [Ax,j],by simp [Ax,j]⟩
       ·exact ⟨c,by simp [Ax,j],by simp [Ax,j]⟩
  ·have d:¬((k:Nat):Int)<((l.length:Nat):Int):=by omega
   simp only [d,if_false];exact ⟨0,rfl,rfl⟩
theorem zzh (n:Nat)(d:10000000<n)(a:Aut)(hs:0<=a.fScopes/\a.fScopes<=64)(c:0<=a.fVars/\a.fVars<=16)(l:List Gd)(f:l.length<=1100000)(b:∀ g∈l,WfE g.fCond):∃ r:Int,Ty n a l=some r/\Vb n a l=some r:=by
 unfold Ty Vb;simp only [aA,A3];by_cases h:64<((l.length:Nat):Int)
 ·simp_all
 ·simp only [h,if_false];have:=zey n d a hs c l f b n 0 (by omega) (by omega);omega
theorem zme (n:Nat)(sc:Int)(l:List Int)(i:Nat)(hi:i<l.length)(a:l.length<=1100000)(K:Option Int):∀ (m k:Nat),k<=i->i<m+k->Ob n sc l (i:Int) K m (k:Int)=if ((l.take i).drop k).any (fun h=>decide (l[i]=h))=true then some 7 else K
 |0,k,h1,b=>by omega
 |m+1,k,h1,b=>by
  unfold Ob;simp only [A3];by_cases h:k<i
  ·rw [if_pos (by omega),Af (by omega:k<l.length),Af hi,ztp h (by omega),Ag k (by omega),zme n sc l i hi a K m (k+1) (by omega) (by omega)];grind
  ·rw [if_neg (by omega),aE (by simp;omega)];simp
theorem zer (n:Nat)(t:10000000<n)(a:Aut)(hs:0<=a.fScopes/\a.fScopes<=64)(A:List (List Int))(j:Int)(l:List Int)(i:l.length<=1100000)(K:Option Int):∀ (m k:Nat),k<=l.length->l.length<m+k->∃ r:Int,K2 n a.fScopes l (some 0) m (k:Int)=some r/\H4 n A a j l K m (k:Int)=(if r=0 then K else some r)/\(r=0->∀ y∈l.drop k,0<=y/\y<a.fScopes)
 |0,k,h1,u=>by omega
 |m+1,k,h1,u=>by
  unfold K2 H4;simp only [aA,A3,Aw,X8,Wq];by_cases h:k<l.length
  ·have c:((k:Nat):Int)<((l.length:Nat):Int):=by omega
   simp only [c,if_true,Af h,A0];rw [Cl _ (by omega),Wg];obtain ⟨r,s,q,x⟩:=zer n t a hs A j l i K m (k+1) (by omega) (by omega);have p:=zme n a.fScopes l k h i (K2 n a.fScopes l (some 0) m (aF .i64 ((k:Int)+1))) n 0 (by omega) (by omega);simp only [aB,aG] at p;have o:=Gj (l:=l) (a:=0) (b:=k) (aO _) (by omega) (fun f=>bnd (Dl n f l[k]) fun d=>cnd d (some (7:Int)) (H4 n A a j l K m (aF .i64 ((k:Int)+1))));simp only [aB,aG] at o;rw [p,o,Fa n l[k] (l.take k) (by simp;omega) (by simp;omega),A0,Ag k (by omega),s,q];have g:(decide (0<=l[k]) && decide (l[k]<a.fScopes))=true->0<=l[k]/\l[k]<a.fScopes:=fun h=>by simpa using h
   rw [B1 l k h];revert g;generalize (decide (0<=l[k]) && decide (l[k]<a.fScopes))=w;generalize ((l.take k).any fun y=>decide (l[k]=y))=v;intro g;cases w with
   |false=>exact ⟨2,by simp [Ax],by simp [Ax],fun h=>by cases h⟩
   |true=>cases v with
    |true=>exact ⟨7,by simp [Ax],by simp [Ax],fun h=>by cases h⟩
    |false =>
     refine ⟨r,by simp [Ax],by simp [Ax],fun h y z=>?_⟩;grind
  ·have c:¬((k:Nat):Int)<((l.length:Nat):Int):=by omega
   simp only [c,if_false];grind
theorem zs8 (n:Nat)(x:Ed)(a:Aut)(c:x.fLimits.length<=1100000)(K K':List Int->Option Int)(r:Option Int)(h1:K (x.fLimits.map (·.fScope))=r):∀ (m k:Nat) (acc:List Int),k<=x.fLimits.length->x.fLimits.length<m+k->acc=(x.fLimits.take k).map (·.fScope)->Ov n x a K m ((k:Int),acc)=r
 |0,k,acc,f,d,_=>by omega
 |m+1,k,acc,f,d,b=>by
  unfold Ov;simp only [aA,A3];by_cases h:k<x.fLimits.length
  ·rw [if_pos (by omega),Af h,Bv (by subst b;simp;omega) (by omega),Ag k (by omega)];exact zs8 n x a c K K' r h1 m (k+1) _ (by omega) (by omega) (by subst b;rw [aC h,map_append];rfl)
  grind
theorem zcy (n:Nat)(l:List Bx)(b:l.length<=1100000):∀ (m k:Nat) (acc:List Int),k<=l.length->l.length<m+k->acc=(l.take k).map (·.fScope)->Py n l (fun y=>some y) m ((k:Int),acc)=some (l.map (·.fScope))
 |0,k,acc,d,c,_=>by omega
 |m+1,k,acc,d,c,a=>by
  unfold Py;simp only [aA,A3];by_cases h:k<l.length
  ·rw [if_pos (by omega),Af h,Bv (by subst a;simp;omega) (by omega),Ag k (by omega)];exact zcy n l b m (k+1) _ (by omega) (by omega) (by subst a;rw [aC h,map_append];rfl)
  grind
theorem zwd (n:Nat)(b:10000000<n)(l:List Bx)(a:l.length<=1100000):Qn n l=some (l.map (·.fScope)):=by
 unfold Qn;exact zcy n l a n 0 [] (by omega) (by omega) (by simp)
theorem zmf (n:Nat)(x:Ed)(a:x.fLimits.length<=1100000):∀ (m k:Nat),k<=x.fLimits.length->x.fLimits.length<m+k->Kd n x (some 0) m (k:Int)=some (if (x.fLimits.drop k).any (fun l=>decide (l.fSpan<0) || decide (1099511627776<l.fSpan))=true then 2 else 0)
 |0,k,h1,c=>by omega
 |m+1,k,h1,c=>by
  unfold Kd;simp only [aA,A3,X8,A0];by_cases h:k<x.fLimits.length
  ·rw [if_pos (by omega),Af h,B1 _ k h,any_cons,Ag k (by omega),zmf n x a m (k+1) (by omega) (by omega)];generalize (decide (x.fLimits[k].fSpan<0) || decide (1099511627776<x.fLimits[k].fSpan))=b;cases b<;>simp [Ax]
  grind
theorem y2j (n:Nat)(H:10000000<n)(a:Aut)(hs:0<=a.fScopes/\a.fScopes<=64)(x:Ed)(d:WfX x):∃ r:Int,Q2 n a x=some r /\
  (bnd (Qn n x.fLimits) fun w=>bnd (V9 n a ([x.fOpens,x.fCloses,x.fInside,w])) fun s=>if s=0 then (bnd (Oi n x.fLimits) fun v=>cnd v (some (2:Int)) (some 0)) else some s)=some r/\(r=0->∀ y∈x.fOpens,0<=y/\y<a.fScopes):=by
 have t:=zmf n x d.ll n 0 (by omega) (by have:=d.ll;omega);simp only [aB,aG] at t;rw [zwd n H x.fLimits d.ll,A0];have A:=zhy n (fun l=>decide (l.fSpan<0) || decide (1099511627776<l.fSpan)) x.fLimits (by have:=d.ll;omega) (by have:=d.ll;omega) (fun y _=>by
  unfold Iy;simp only [B2,Ak,Iu,A3];grind)
 rw [A];simp only [A0];have z:(x.fLimits.map (·.fScope)).length<=1100000:=by rw [aA];exact d.ll
 generalize N:x.fLimits.map (·.fScope)=S at *;generalize (x.fLimits.any fun l=>decide (l.fSpan<0) || decide (1099511627776<l.fSpan))=sp at *;unfold V9
 -- the four lists
 have step:∀ (l:List Int),l.length<=1100000->∀ (j:Int) (K:Option Int),∃ r:Int,Pp n l a.fScopes=some r/\H4 n [x.fOpens,x.fCloses,x.fInside,S] a j l K n 0=(if r=0 then K else some r)/\(r=0->∀ y∈l,0<=y/\y<a.fScopes):=fun l u j K=>by
  have:=zer n H a hs [x.fOpens,x.fCloses,x.fInside,S] j l u K n 0 (by omega) (by omega);unfold Pp;simp_all
 have uq:∀ l:List Int,l.length<=1100000->∃ r:Int,Pp n l a.fScopes=some r/\(∀ (j:Int) (K:Option Int),H4 n [x.fOpens,x.fCloses,x.fInside,S] a j l K n 0=if r=0 then K else some r)/\(r=0->∀ y∈l,0<=y/\y<a.fScopes):=fun l u=>by
  obtain ⟨r,M,_,I⟩:=step l u 0 none;refine ⟨r,M,fun j K=>?_,I⟩;obtain ⟨Y,L,J,_⟩:=step l u j K;simp_all
 obtain ⟨q,X,T,O⟩:=uq x.fOpens d.lo;obtain ⟨p,W,R,_⟩:=uq x.fCloses d.lcl;obtain ⟨o,V,Q,_⟩:=uq x.fInside d.li;obtain ⟨k,U,P,_⟩:=uq S z;have w0:aF .i64 ((0:Int)+1)=1:=by decide
 have w1:aF .i64 ((1:Int)+1)=2:=by decide
 have C:aF .i64 ((2:Int)+1)=3:=by decide
 have B:aF .i64 ((3:Int)+1)=4:=by decide
 have G:∀ K:List Int->Option Int,idx ([x.fOpens,x.fCloses,x.fInside,S]:List (List Int)) 0 K=K x.fOpens:=fun K=>by have:=Af (l:=[x.fOpens,x.fCloses,x.fInside,S]) (i:=0) (by simp) K;simpa using this
 have F:∀ K:List Int->Option Int,idx ([x.fOpens,x.fCloses,x.fInside,S]:List (List Int)) 1 K=K x.fCloses:=fun K=>by have:=Af (l:=[x.fOpens,x.fCloses,x.fInside,S]) (i:=1) (by simp) K;simpa using this
 have E:∀ K:List Int->Option Int,idx ([x.fOpens,x.fCloses,x.fInside,S]:List (List Int)) 2 K=K x.fInside:=fun K=>by have:=Af (l:=[x.fOpens,x.fCloses,x.fInside,S]) (i:=2) (by simp) K;simpa using this
 have D:∀ K:List Int->Option Int,idx ([x.fOpens,x.fCloses,x.fInside,S]:List (List Int)) 3 K=K S:=fun K=>by have:=Af (l:=[x.fOpens,x.fCloses,x.fInside,S]) (i:=3) (by simp) K;simpa using this
 have hm:∃ m,n=m+1+1+1+1+1:=⟨n-5,by omega⟩;have rl:∀ K:Option Int,Gp n x a S K n 0=if q=0 then (if p=0 then (if o=0 then (if k=0 then K else some k) else some o) else some p) else some q:=fun K=>by
  obtain ⟨m,hm⟩:=hm;conv=>lhs;rw [show Gp n x a S K n 0=Gp n x a S K (m+1+1+1+1+1) 0 by rw [<-hm]]
  simp only [Gp,A3,Aw,G,F,E,D,w0,w1,C,B,X,W,V,U,A0];simp
 have pl:∀ K:Option Int,Iq n [x.fOpens,x.fCloses,x.fInside,S] a K n 0=if q=0 then (if p=0 then (if o=0 then (if k=0 then K else some k) else some o) else some p) else some q:=fun K=>by
  obtain ⟨m,hm⟩:=hm;conv=>lhs;rw [show Iq n [x.fOpens,x.fCloses,x.fInside,S] a K n 0=Iq n [x.fOpens,x.fCloses,x.fInside,S] a K (m+1+1+1+1+1) 0 by rw [<-hm]]
  simp only [Iq,A3,G,F,E,D,w0,w1,C,B,aA,bA,aM,T,R,Q,P];simp
 unfold Q2;have el:=zs8 n x a d.ll (fun k1_0_0y=>frz 7026 <| reg <| Gp n x a k1_0_0y (Kd n x (some 0) n 0) n 0) (fun _=>none) _ rfl n 0 [] (by omega) (by have:=d.ll;omega) (by simp);simp only [aB] at el;rw [el,N,zx7,Ak,rl,t,pl];by_cases b:q=0;rotate_left
 ·exact ⟨q,by simp [b],by simp [b,A0],fun h=>absurd h b⟩
 by_cases c:p=0;rotate_left
 ·exact ⟨p,by simp [b,c],by simp [b,c,A0],fun h=>absurd h c⟩
 by_cases f:o=0;rotate_left
 ·exact ⟨o,by simp [b,c,f],by simp [b,c,f,A0],fun h=>absurd h f⟩
 by_cases g:k=0;rotate_left
 ·exact ⟨k,by simp [b,c,f,g],by simp [b,c,f,g,A0],fun h=>absurd h g⟩
 cases sp with
 |true=>exact ⟨2,by simp [b,c,f,g],by simp [b,c,f,g,A0,Ax],fun h=>by cases h⟩
 |false=>exact ⟨0,by simp [b,c,f,g],by simp [b,c,f,g,A0,Ax],fun _=>O b⟩
theorem zf4 (n:Nat)(g:10000000<n)(x:Ed)(a:Aut)(ys:List Exn)(d:x.fChecks=ys.map Au)(f:∀ y∈ys,WfE y)(o:ys.length<=1100000)(P:Prop)(K K':Option Int)(p:∃ r:Int,K=some r/\K'=some r/\(r=0->P)):∀ (m k:Nat),k<=ys.length->ys.length<m+k->∃ r:Int,Pb n x a K m (k:Int)=some r/\He n x a K' m (k:Int)=some r/\(r=0->P)
 |0,k,h1,q=>by omega
 |m+1,k,h1,q=>by
  unfold Pb He;simp only [d,aA,A3,Aw];by_cases h:k<ys.length
  ·have b:((k:Nat):Int)<((ys.length:Nat):Int):=by omega
   simp only [b,if_true];have hi:∀ (Q:Exn->Option Int),idxD Cb (ys.map Au) (k:Int) Q=Q ys[k]:=fun Q=>by
    have:=Hp (l:=ys.map fun y=>(0,y)) (k:=k) (by simpa using h) Q;simp only [map_map,getElem_map] at this;exact this
   rw [hi,hi];obtain ⟨c,t,s⟩:=(f _ (aD h)).check n g;obtain ⟨r,j,i,u⟩:=zf4 n g x a ys d f o P K K' p m (k+1) (by omega) (by omega);rw [t,s,A0,A0,Ag k (by omega),j,i];grind
  grind
structure EdOk (a:Aut) (x:Ed):Prop where
 frm:0<=x.fFrom/\x.fFrom<a.fStates.length
 tgt:-1<=x.fTo/\x.fTo<a.fStates.length
 var:0<=x.fVar/\x.fVar<a.fVars
 opn:∀ y∈x.fOpens,0<=y/\y<a.fScopes
theorem y4y (n:Nat)(o:10000000<n)(a:Aut)(hs:0<=a.fScopes/\a.fScopes<=64)(N:0<=a.fVars/\a.fVars<=16)(F:1<=a.fStates.length/\a.fStates.length<=256)(x:Ed)(f:WfX x)(before:Int):∃ r:Int,Ud n a x before=some r/\J2 n a x before=some r/\(r=0->EdOk a x):=by
 unfold Ud J2;simp only [aA,A3,Aw,B2,Ak,X8,Wq,A0];have wS:aF .i64 (((a.fStates.length:Nat):Int)-1)=((a.fStates.length:Nat):Int)-1:=Cl _ (by omega);have wV:aF .i64 (a.fVars-1)=a.fVars-1:=Cl _ (by omega);have s:∀ x:Int,(decide (x<0) || decide (15<x))=!(decide (0<=x) && decide (x<16)):=fun x=>Wg x 16
 simp only [wS,wV,Wg,s];have tailE:∃ r:Int,Dt n before x a false=some r/\Df n before x a false=some r/\(r=0->∀ y∈x.fOpens,0<=y/\y<a.fScopes):=by
  unfold Dt Df;simp only [aA,A3,Aw,Ar];by_cases I:x.fFrom<before
  ·simp_all
  simp only [I,if_false];obtain ⟨c,K,J⟩:=f.cond.check n o;rw [K,J,A0,A0];by_cases H:c=0;rotate_left
  ·simp_all
  simp only [H,if_true];by_cases p:64<((x.fChecks.length:Nat):Int)
  ·simp_all
  simp only [p,if_false];obtain ⟨ys,v,E⟩:=f.checks;obtain ⟨r,d,k,j⟩:=y2j n o a hs x f;have m:ys.length<=1100000:=by have:=f.lc;rw [v,aA] at this;exact this
  have:=zf4 n o x a ys v E m (∀ y∈x.fOpens,0<=y/\y<a.fScopes) (bnd (Q2 n a x) fun i=>some i) _ ⟨r,by rw [d,A0],k,j⟩ n 0 (by omega) (by omega);simpa only [aB] using this
 have b:Dt n before x a true=some 2/\Df n before x a true=some 2:=by
  unfold Dt Df;exact ⟨Am _ _,Am _ _⟩
 obtain ⟨r,d,k,j⟩:=tailE;rw [b.1,b.2];by_cases h1:0<=x.fFrom/\x.fFrom<((a.fStates.length:Nat):Int);rotate_left
 ·have:(decide (0<=x.fFrom) && decide (x.fFrom<((a.fStates.length:Nat):Int)))=false:=by
   rw [aU,decide_eq_false_iff_not,decide_eq_false_iff_not];omega
  exact ⟨2,by simp [this,Ax],by simp [this,Ax],fun h=>by cases h⟩
 have g:(decide (0<=x.fFrom) && decide (x.fFrom<((a.fStates.length:Nat):Int)))=true:=by simp [h1.1];omega
 by_cases w:-1<=x.fTo/\x.fTo<((a.fStates.length:Nat):Int);rotate_left
 ·have B:¬x.fTo=-1:=by omega
  have A:(decide (0<=x.fTo) && decide (x.fTo<((a.fStates.length:Nat):Int)))=false:=by
   rw [aU,decide_eq_false_iff_not,decide_eq_false_iff_not];omega
  refine ⟨2,by simp [g,B,A,Ax],?_,fun h=>by cases h⟩;by_cases u:x.fTo < -1
  ·simp [g,u,Ax]
  ·have z:((a.fStates.length:Nat):Int)<=x.fTo:=by omega
   simp [g,u,z,Ax]
 have D:¬x.fTo < -1:=by omega
 have C:¬((a.fStates.length:Nat):Int)<=x.fTo:=by omega
 have ok:(decide (0<=x.fVar) && decide (x.fVar<a.fVars))=true->r=0->EdOk a x:=fun h G=>by
  simp only [aY,decide_eq_true_eq] at h;exact ⟨⟨h1.1,h1.2⟩,⟨w.1,w.2⟩,h,j G⟩
 have t:¬x.fTo=-1->(decide (0<=x.fTo) && decide (x.fTo<((a.fStates.length:Nat):Int)))=true:=fun h=>by grind
 revert ok;generalize (decide (0<=x.fVar) && decide (x.fVar<a.fVars))=M;generalize (decide (0<=x.fType) && decide (x.fType<16))=L;intro ok;simp only [g,D,C,if_false,Am,Bool.not_true];cases M with
 |false =>
  refine ⟨2,?_,by simp [Ax],fun h=>by cases h⟩;by_cases q:x.fTo=-1
  ·simp [q,Ax]
  ·simp [q,t q,Ax]
 |true =>
  cases L with
  |false =>
   refine ⟨2,?_,by simp [Ax,b.2],fun h=>by cases h⟩;by_cases q:x.fTo=-1
   ·simp [q,Ax,b.1]
   ·simp [q,t q,Ax,b.1]
  |true =>
   refine ⟨r,?_,by simp [Ax,k],fun q=>ok rfl q⟩;by_cases q:x.fTo=-1
   ·simp [q,Ax,d]
   ·simp [q,t q,Ax,d]
theorem zhw (n:Nat)(j:10000000<n)(a:Aut)(hs:0<=a.fScopes/\a.fScopes<=64)(i:0<=a.fVars/\a.fVars<=16)(d:1<=a.fStates.length/\a.fStates.length<=256)(g:WfA a):∀ (m k:Nat) (before:Int),k<=a.fEdges.length->a.fEdges.length<m+k->(∀ x∈a.fEdges.take k,EdOk a x)->∃ r:Int,Ow n a (some 0) m (before,(k:Int))=some r/\H8 n a (some 0) m (before,(k:Int))=some r/\(r=0->∀ x∈a.fEdges,EdOk a x)
 |0,k,before,h1,s,_=>by omega
 |m+1,k,before,h1,s,v=>by
  have p:=g.le;unfold Ow H8;simp only [aA,A3,Aw];by_cases h:k<a.fEdges.length
  ·have b:((k:Nat):Int)<((a.fEdges.length:Nat):Int):=by omega
   simp only [b,if_true,Af h];obtain ⟨c,u,t,w⟩:=y4y n j a hs i d _ (g.ed _ (aD h)) before;rw [u,t,A0,A0,Ag k (by omega)];by_cases f:c=0
   ·simp only [f,if_true];refine zhw n j a hs i d g m (k+1) _ (by omega) (by omega) (fun x o=>?_);rw [aC h,aW,aR] at o;grind
   ·exact ⟨c,by simp [f],by simp [f],fun q=>absurd q f⟩
  ·have b:¬((k:Nat):Int)<((a.fEdges.length:Nat):Int):=by omega
   simp only [b,if_false];grind
theorem zeq (n:Nat)(g:10000000<n)(a:Aut)(hs:0<=a.fScopes/\a.fScopes<=64)(f:0<=a.fVars/\a.fVars<=16)(b:WfA a)(K K':Option Int)(P:Prop)(o:∃ r:Int,K=some r/\K'=some r/\(r=0->P)):∀ (m k:Nat),k<=a.fStates.length->a.fStates.length<m+k->∃ r:Int,Ox n a K m (k:Int)=some r/\H9 n a K' m (k:Int)=some r/\(r=0->P)
 |0,k,h1,p=>by omega
 |m+1,k,h1,p=>by
  have i:=b.ls;unfold Ox H9;simp only [aA,A3,Aw];by_cases h:k<a.fStates.length
  ·have d:((k:Nat):Int)<((a.fStates.length:Nat):Int):=by omega
   simp only [d,if_true,Af h];obtain ⟨s,q⟩:=b.st _ (aD h);obtain ⟨c,u,t⟩:=zzh n g a hs f _ s q;rw [u,t,A0,A0,Ag k (by omega)];by_cases j:c=0
   ·simp only [j,if_true];exact zeq n g a hs f b K K' P o m (k+1) (by omega) (by omega)
   simp_all
  grind
structure AOk (a:Aut):Prop where
 vars:0<=a.fVars/\a.fVars<=16
 st:1<=a.fStates.length/\a.fStates.length<=256
 ed:∀ x∈a.fEdges,EdOk a x
theorem zjb (n:Nat)(j:10000000<n)(a:Aut)(c:WfA a):∃ r:Int,G3 n a=some r/\Cs n a=some r/\(r=0->AOk a):=by
 have t:=c.ls;have u:=c.le;unfold G3 Cs;simp only [B2,Ak,X8,A0,A3];have f:Gq n a true=some 2/\Dx n a true=some 2:=by
  unfold Gq Dx;exact ⟨Am _ _,Am _ _⟩
 rw [f.1,f.2];by_cases d:0<=a.fVars/\a.fVars<=16;rotate_left
 ·refine ⟨2,?_,?_,fun h=>by cases h⟩
  ·have:(decide (a.fVars<0) || decide (16<a.fVars))=true:=by
    rw [bC,decide_eq_true_eq,decide_eq_true_eq];omega
   rw [this,Am]
  simp_all
 have i:¬a.fVars<0:=by omega
 have g:¬16<a.fVars:=by omega
 by_cases hs:0<=a.fScopes/\a.fScopes<=64;rotate_left
 ·have:(decide (a.fScopes<0) || decide (64<a.fScopes))=true:=by
   rw [bC,decide_eq_true_eq,decide_eq_true_eq];omega
  refine ⟨2,by simp [i,g,this,Ax,f.1],?_,fun h=>by cases h⟩;simp_all
 have s:¬a.fScopes<0:=by omega
 have q:¬64<a.fScopes:=by omega
 simp only [i,g,s,q,if_false,decide_false,Bool.or_false,Ar];unfold Gq Dx;simp only [B2,Ak,aA,A3,Ar];have k:Fv n a true=some 5/\Dw n a true=some 5:=by
  unfold Fv Dw;exact ⟨Am _ _,Am _ _⟩
 rw [k.1,k.2];by_cases h1:((a.fStates.length:Nat):Int)<1
 ·simp_all
 by_cases w:256<((a.fStates.length:Nat):Int)
 ·simp_all
 simp only [h1,w,if_false];by_cases v:2048<((a.fEdges.length:Nat):Int)
 ·simp_all
 simp only [v,decide_false];unfold Fv Dw;simp only [Ar];have b:1<=a.fStates.length/\a.fStates.length<=256:=by omega
 obtain ⟨r,p,o,m⟩:=zhw n j a hs d b c n 0 0 (by omega) (by omega) (by simp);have:=zeq n j a hs d c _ _ (AOk a) ⟨r,p,o,fun h=>⟨d,b,m h⟩⟩ n 0 (by omega) (by omega);omega
abbrev T16:=Bool×Bool×Bool×Bool×Bool×Bool×Bool×Bool×Bool×Bool×Bool×Bool×Bool×Bool×Bool×Bool
def l16 (t:T16):List Bool:=[t.1,t.2.1,t.2.2.1,t.2.2.2.1,t.2.2.2.2.1,t.2.2.2.2.2.1,t.2.2.2.2.2.2.1,t.2.2.2.2.2.2.2.1,t.2.2.2.2.2.2.2.2.1,t.2.2.2.2.2.2.2.2.2.1,t.2.2.2.2.2.2.2.2.2.2.1,t.2.2.2.2.2.2.2.2.2.2.2.1,t.2.2.2.2.2.2.2.2.2.2.2.2.1,t.2.2.2.2.2.2.2.2.2.2.2.2.2.1,t.2.2.2.2.2.2.2.2.2.2.2.2.2.2.1,t.2.2.2.2.2.2.2.2.2.2.2.2.2.2.2]
theorem Gi (t:T16):(l16 t).length=16:=rfl
def own1 (i:Nat)(e:Exn):Prop:=usV e.fOp=true/\e.fVar=(i:Int)
theorem y4g (n:Nat)(e:Exn)(t:T16):∃ a:T16,V8 n e t=some (0,a)/\∀ i,i<16->((l16 a)[i]? = some true ↔ (l16 t)[i]? = some true\/own1 i e):=by
 unfold V8;rw [y0w,A0];simp only [A3,N9];by_cases c:usV e.fOp=true;rotate_left
 ·have b:usV e.fOp=false:=by cases h:usV e.fOp<;>simp_all
  rw [b,Ar];exact ⟨t,rfl,fun i _=>⟨Or.inl,fun h=>h.elim id (fun h=>absurd h.1 c)⟩⟩
 rw [c,Am];have m:¬(0<=e.fVar/\e.fVar<16)->∀ i,i<16->((l16 t)[i]? = some true ↔ (l16 t)[i]? = some true\/own1 i e):=fun h i hi=>⟨Or.inl,fun g=>g.elim id (fun g=>absurd g.2 (by omega))⟩
 by_cases k:0<=e.fVar;rotate_left
 ·rw [if_neg k];simp_all
 rw [if_pos k];by_cases h1:e.fVar<16;rotate_left
 ·rw [if_neg h1];simp_all
 rw [if_pos h1];have key:∀ (j:Nat) (a:T16),e.fVar=(j:Int)->j<16->l16 a=(l16 t).set j true->∀ i,i<16->((l16 a)[i]? = some true ↔ (l16 t)[i]? = some true\/own1 i e):=fun j a o d hs i hi=>by
  rw [hs,getElem?_set];unfold own1;by_cases f:j=i
  ·subst f;simp [Gi,d,c,o]
  grind
 have:e.fVar=0\/e.fVar=1\/e.fVar=2\/e.fVar=3\/e.fVar=4\/e.fVar=5\/e.fVar=6\/e.fVar=7\/e.fVar=8\/e.fVar=9\/e.fVar=10\/e.fVar=11\/e.fVar=12\/e.fVar=13\/e.fVar=14\/e.fVar=15:=by omega
 rcases this with h|h|h|h|h|h|h|h|h|h|h|h|h|h|h|h
 ·rw [h];exact ⟨_,rfl,key 0 _ h (by decide) rfl⟩
 ·rw [h];exact ⟨_,rfl,key 1 _ h (by decide) rfl⟩
 ·rw [h];exact ⟨_,rfl,key 2 _ h (by decide) rfl⟩
 ·rw [h];exact ⟨_,rfl,key 3 _ h (by decide) rfl⟩
 ·rw [h];exact ⟨_,rfl,key 4 _ h (by decide) rfl⟩
 ·rw [h];exact ⟨_,rfl,key 5 _ h (by decide) rfl⟩
 ·rw [h];exact ⟨_,rfl,key 6 _ h (by decide) rfl⟩
 ·rw [h];exact ⟨_,rfl,key 7 _ h (by decide) rfl⟩
 ·rw [h];exact ⟨_,rfl,key 8 _ h (by decide) rfl⟩
 ·rw [h];exact ⟨_,rfl,key 9 _ h (by decide) rfl⟩
 ·rw [h];exact ⟨_,rfl,key 10 _ h (by decide) rfl⟩
 ·rw [h];exact ⟨_,rfl,key 11 _ h (by decide) rfl⟩
 ·rw [h];exact ⟨_,rfl,key 12 _ h (by decide) rfl⟩
 ·rw [h];exact ⟨_,rfl,key 13 _ h (by decide) rfl⟩
 ·rw [h];exact ⟨_,rfl,key 14 _ h (by decide) rfl⟩
 ·rw [h];exact ⟨_,rfl,key 15 _ h (by decide) rfl⟩
theorem y6l {x y:Exn}(h:Au x=Au y):x=y:=by
 have:=congrArg Cb h;rw [Re,Re] at this;exact aT this
theorem y2w {i:Nat}{l:List (Nat×Exn)}(f:e.fArgs=l.map (fun p=>Au p.2)):Occ i e ↔ own1 i e\/∃ p∈l,Occ i p.2:=by
 constructor
 ·intro h;cases h with
  |here _ h d=>exact Or.inl ⟨h,d⟩
  |sub _ y b h =>
   rw [f] at b;obtain ⟨p,c,a⟩:=mem_map.1 b;exact Or.inr ⟨p,c,by rw [y6l a];exact h⟩
 ·rintro (h|⟨p,c,h⟩)
  ·exact .here _ h.1 h.2
  ·exact .sub _ p.2 (by grind) h
theorem zeo (n:Nat)(l:List (Nat×Exn))(e:Exn)(d:e.fArgs=l.map (fun p=>Au p.2))(j:l.length<=4000000)
  (c:∀ p∈l,∀ t:T16,∃ a:T16,J1 n p.2 t=some (0,a)/\∀ i,i<16->((l16 a)[i]? = some true ↔ (l16 t)[i]? = some true\/Occ i p.2)) (b:T16) :
  ∀ (m k:Nat) (t:T16),k<=l.length->l.length<m+k->(∀ i,i<16->((l16 t)[i]? = some true ↔ (l16 b)[i]? = some true\/own1 i e\/∃ p∈l.take k,Occ i p.2)) ->
   ∃ a:T16,Qh n (J1 n) e (fun k1_0_0y0 k1_0_0y1 k1_0_0y2 k1_0_0y3 k1_0_0y4 k1_0_0y5 k1_0_0y6 k1_0_0y7 k1_0_0y8 k1_0_0y9 k1_0_0y10 k1_0_0y11 k1_0_0y12 k1_0_0y13 k1_0_0y14 k1_0_0y15=>some (0,(k1_0_0y0,k1_0_0y1,k1_0_0y2,k1_0_0y3,k1_0_0y4,k1_0_0y5,k1_0_0y6,k1_0_0y7,k1_0_0y8,k1_0_0y9,k1_0_0y10,k1_0_0y11,k1_0_0y12,k1_0_0y13,k1_0_0y14,k1_0_0y15))) m ((k:Int),t)=some (0,a)/\∀ i,i<16->((l16 a)[i]? = some true ↔ (l16 b)[i]? = some true\/own1 i e\/∃ p∈l,Occ i p.2)
 |0,k,t,h1,q,_=>by omega
 |m+1,k,t,h1,q,o=>by
  unfold Qh;simp only [d,aA,A3,Aw];by_cases h:k<l.length
  ·rw [if_pos (by omega),Hp h];obtain ⟨a,g,f⟩:=c l[k] (aD h) t;rw [g,Ct,if_pos rfl,Ag k (by omega)];refine zeo n l e d j c b m (k+1) a (by omega) (by omega) (fun i hi=>?_);rw [f i hi,o i hi,aC h];simp only [aW,aR];grind
  ·rw [if_neg (by omega)];grind
theorem zz6:∀ (s:Nat) (e:Exn),ETr s e->s<=4000000->∀ n,s+1<n->∀ t:T16,∃ b:T16,J1 n e t=some (0,b)/\∀ i,i<16->((l16 b)[i]? = some true ↔ (l16 t)[i]? = some true\/Occ i e):=by
 intro s
 induction s using Nat.strongRecOn with
 |ind s IH =>
  intro e o hs n q t;cases o with
  |mk l e h d =>
   obtain ⟨a,rfl⟩:∃ a,n=a + 1:=⟨n-1,by omega⟩;have r:=S9 (l:=l) (fun p c=>(h p c).pos);simp only [J1];obtain ⟨f,m,k⟩:=y4g a e t;rw [m,Ct,Aw,A3,if_pos rfl];obtain ⟨b,j,g⟩:=zeo a l e d (by omega) (fun p c t=>by
    have:=Jc c;exact IH p.1 (by omega) p.2 (h p c) (by omega) a (by omega) t) t a 0 f (by omega) (by omega) (fun i hi=>by
     rw [k i hi];simp)
   exact ⟨b,j,fun i hi=>by rw [g i hi,y2w d]⟩
def Fm (t:T16)(k:Nat):List Int:=((l16 t).zipIdx.drop k).filterMap (fun p=>if p.1 then some (p.2:Int) else none)
theorem y02 (t:T16)(k:Nat)(h:k<16):Fm t k=(if (l16 t)[k]'(by rw [Gi];exact h)=true then [(k:Int)] else [])++Fm t (k+1):=by
 unfold Fm;have a:k<(l16 t).zipIdx.length:=by rw [aN,Gi];exact h
 rw [drop_eq_getElem_cons a,filterMap_cons];grind
theorem zep (n:Nat)(t:T16)(K:List Int->Option (List Int)):∀ (m k:Nat) (out:List Int),k<=16->16<m+k->out.length<=k->Br n (0,t) K m ((k:Int),out)=K (out++Fm t k)
 |0,k,out,h1,d,_=>by omega
 |m+1,k,out,h1,d,f=>by
  by_cases h:k=16
  ·subst h;unfold Br;simp only [A3];rw [if_neg (by omega)];have:Fm t 16=[]:=by unfold Fm;rw [aE (by rw [aN,Gi];omega)];rfl
   rw [this,aS]
  ·have a:k<16:=by omega
   have iha:=zep n t K m (k+1) (out++[(k:Int)]) (by omega) (by omega) (by simp;omega);have ihb:=zep n t K m (k+1) out (by omega) (by omega) (by omega);rw [y02 t k a];have step:∀ (b:Bool),(l16 t)[k]'(by rw [Gi];exact a)=b->reg (cnd b (app out [(k:Int)] 8 fun x=>Br n (0,t) K m ((aF .i64 ((k:Int)+1)),x)) (Br n (0,t) K m ((aF .i64 ((k:Int)+1)),out)))=K (out++((if (l16 t)[k]'(by rw [Gi];exact a)=true then [(k:Int)] else [])++Fm t (k+1))):=fun b c=>by
    rw [c,Ak,Bv (by simp;omega) (by omega),Ag k (by omega),iha,ihb];cases b
    ·rw [Ar];simp
    ·rw [Am];simp
   unfold Br;simp only [A3,N9];have:k=0\/k=1\/k=2\/k=3\/k=4\/k=5\/k=6\/k=7\/k=8\/k=9\/k=10\/k=11\/k=12\/k=13\/k=14\/k=15:=by omega
   rcases this with rfl|rfl|rfl|rfl|rfl|rfl|rfl|rfl|rfl|rfl|rfl|rfl|rfl|rfl|rfl|rfl<;>exact step _ rfl
theorem y37 (t:T16)(k:Nat)(v:Int):v∈Fm t k ↔ ∃ i:Nat,k<=i/\i<16/\v=(i:Int)/\(l16 t)[i]? = some true:=by
 unfold Fm;rw [mem_filterMap];constructor
 ·rintro ⟨⟨b,i⟩,hm,d⟩;obtain ⟨j,c,a⟩:=mem_iff_getElem.1 hm;rw [getElem_drop,getElem_zipIdx] at a;injection a with m h
  rw [bB,aN,Gi] at c;grind
 ·rintro ⟨i,h1,g,rfl,f⟩;refine ⟨(true,i),?_,by simp⟩;refine mem_iff_getElem.2 ⟨i-k,by rw [bB,aN,Gi];omega,?_⟩;grind
theorem zq3 (c:WfE e)(n:Nat)(g:10000000<n):∃ vs:List Int,Vo n e=some vs/\vs.length<=16/\∀ v,v∈vs ↔ ∃ i:Nat,i<16/\v=(i:Int)/\Occ i e:=by
 obtain ⟨z,b,d⟩:=c;obtain ⟨t,a,f⟩:=zz6 z e d b n (by omega) (false,false,false,false,false,false,false,false,false,false,false,false,false,false,false,false);have j:∀ i:Nat,¬(l16 (false,false,false,false,false,false,false,false,false,false,false,false,false,false,false,false))[i]? = some true:=fun i h=>by
  obtain ⟨hi,h⟩:=List.getElem?_eq_some_iff.1 h;rw [Gi] at hi;have:i=0\/i=1\/i=2\/i=3\/i=4\/i=5\/i=6\/i=7\/i=8\/i=9\/i=10\/i=11\/i=12\/i=13\/i=14\/i=15:=by omega
  rcases this with rfl|rfl|rfl|rfl|rfl|rfl|rfl|rfl|rfl|rfl|rfl|rfl|rfl|rfl|rfl|rfl<;>cases h
 refine ⟨Fm t 0,?_,?_,fun v=>?_⟩
 ·unfold Vo;rw [a,Ct];have:=zep n t (fun y=>some y) n 0 [] (by omega) (by omega) (by simp);simpa using this
 ·unfold Fm;refine Nat.le_trans (length_filterMap_le _ _) ?_;rw [bB,aN,Gi];omega
 ·rw [y37];grind
variable {β:Type}
theorem Wx {i len:Nat}(h:i<=len)(k:Nat->Option β):nle (i:Int) len k=k i:=by unfold nle;simp [h]
theorem y18 {a b:Nat}(h:a<=b)(x:Option β):gle a b x=x:=by unfold gle;simp [h]
theorem zxr {l:List α}{lo:Nat}(h:lo<=l.length)(z:α)(k:List α->Option β):clr l lo z k=k (clrL l lo z):=by unfold clr;simp [h]
theorem zt4 (i:Nat)(x:Option β):frb i x=x:=by unfold frb;rfl
theorem zfu (l:List α)(lo:Nat)(z:α)(h:lo<=l.length):(clrL l lo z).take lo=l.take lo:=by
 unfold clrL;simp_all
theorem zl1 (l:List α)(lo:Nat)(z:α)(h:lo<=l.length):(clrL l lo z).length=l.length:=by
 unfold clrL;simp;omega
theorem Sv (k:Nat)(h:1<=k)(a:k<=1000000000000):aF .i64 ((k:Int)-1)=((k-1:Nat):Int):=by rw [Cl _ (by omega)];omega
theorem zj8 (n:Nat)(a b:Bm):Ll n a b=some (rCmp a b):=by
 unfold Ll rCmp or3 cmpI;simp only [A3,Aw];grind
theorem zzm (n:Nat)(a b:Bd):U6 n a b=some (Di a b):=by
 unfold U6;rw [zj8,A0];simp only [A3,Aw,Di,or2];have e:rCmp ⟨a.fRef.fTime,a.fRef.fSource,a.fRef.fSeq⟩ ⟨b.fRef.fTime,b.fRef.fSource,b.fRef.fSeq⟩=rCmp a.fRef b.fRef:=rfl;rw [e];unfold cmpI;grind
theorem zs4 (n:Nat)(b a:Ma)(g:b.fBindings.length<=1000000000)(d:a.fBindings.length<=1000000000)(K:Option Int)(f:K=if a.fBindings.length<b.fBindings.length then some (-1) else if b.fBindings.length<a.fBindings.length then some 1 else some 0):∀ (m k:Nat),k<=a.fBindings.length->k<=b.fBindings.length->a.fBindings.length<m+k ->
  I1 n b a K m k=some (lexC Di (a.fBindings.drop k) (b.fBindings.drop k))
 |0,k,h1,_,i=>by omega
 |m+1,k,h1,j,i=>by
  unfold I1;simp only [B2,Ak,Jv,aA,A3,Am,Ar,Aw];by_cases h:k<a.fBindings.length
  ·rw [if_pos (by omega)];by_cases c:k<b.fBindings.length
   ·rw [if_pos (by omega),Af h,Af c,B1 _ k h,B1 _ k c];rw [zzm,A0,Ag k (by omega),zs4 n b a g d K f m (k+1) (by omega) (by omega) (by omega)];show _=some (or2 (Di _ _) _);unfold or2;split<;>rfl
   ·rw [if_neg (by omega),f,if_neg (by omega),if_pos (by omega),B1 _ k h,aE (by omega:b.fBindings.length<=k)];rfl
  ·rw [if_neg (by omega),f,aE (by omega:a.fBindings.length<=k)];by_cases c:a.fBindings.length<b.fBindings.length
   ·rw [if_pos c,B1 _ k (by omega:k<b.fBindings.length)];rfl
   ·rw [if_neg c,if_neg (by omega),aE (by omega)];rfl
theorem y2d (n:Nat)(a b:Ma)(f:a.fBindings.length<n)(d:b.fBindings.length<=1000000000)(c:a.fBindings.length<=1000000000):Kt n a b=some (B4 a b):=by
 unfold Kt;have:=zs4 n b a d c _ rfl n 0 (by omega) (by omega) (by omega);simp only [aB,aG] at this;rw [show B4 a b=lexC Di a.fBindings b.fBindings from rfl,<-this];congr 1;simp only [aA,A3];simp_all
theorem zs6 (n:Nat)(b a:Cf)(g:b.fStarts.length<=1000000000)(d:a.fStarts.length<=1000000000)(K:Option Int)(f:K=if a.fStarts.length<b.fStarts.length then some (-1) else if b.fStarts.length<a.fStarts.length then some 1 else some 0):∀ (m k:Nat),k<=a.fStarts.length->k<=b.fStarts.length->a.fStarts.length<m+k ->
  Hz n b a K m k=some (lexC Ee (a.fStarts.drop k) (b.fStarts.drop k))
 |0,k,h1,_,i=>by omega
 |m+1,k,h1,j,i=>by
  unfold Hz;simp only [B2,Ak,Jt,I0,aA,A3,Am,Ar,Aw];by_cases h:k<a.fStarts.length
  ·rw [if_pos (by omega)];by_cases c:k<b.fStarts.length
   ·rw [if_pos (by omega),Af h,Af c,B1 _ k h,B1 _ k c];rw [Ag k (by omega),zs6 n b a g d K f m (k+1) (by omega) (by omega) (by omega)];show _=some (or2 (Ee _ _) _);unfold Ee or2 cmpI;generalize a.fStarts[k]=x;generalize b.fStarts[k]=y;simp only [Ax,Bool.and_true,aY,decide_eq_true_eq];grind
   ·rw [if_neg (by omega),f,if_neg (by omega),if_pos (by omega),B1 _ k h,aE (by omega:b.fStarts.length<=k)];rfl
  ·rw [if_neg (by omega),f,aE (by omega:a.fStarts.length<=k)];by_cases c:a.fStarts.length<b.fStarts.length
   ·rw [if_pos c,B1 _ k (by omega:k<b.fStarts.length)];rfl
   ·rw [if_neg c,if_neg (by omega),aE (by omega)];rfl
theorem y2g (n:Nat)(a b:Cf)(g:cfOk a=true)(f:cfOk b=true)(d:a.fBindings.length<n)(c:a.fStarts.length<n):I7 n a b=some (Bl a b):=by
 obtain ⟨k,j⟩:=(En a).1 g;obtain ⟨i,h⟩:=(En b).1 f;unfold I7;rw [y2d n _ _ d i k,A0];have:=zs6 n b a h j _ rfl n 0 (by omega) (by omega) (by omega);simp only [aB,aG] at this;simp only [aA,A3,Aw];have e:(if (a.fStarts.length:Int)<(b.fStarts.length:Int) then some (-1:Int) else if (b.fStarts.length:Int)<(a.fStarts.length:Int) then some 1 else some 0)=(if a.fStarts.length<b.fStarts.length then some (-1) else if b.fStarts.length<a.fStarts.length then some 1 else some 0):=by
  simp_all
 rw [e,this];show _=some (or3 (cmpI a.fState b.fState) (B4 ⟨a.fBindings⟩ ⟨b.fBindings⟩) _);unfold or3 cmpI;grind
theorem y4x (n:Nat)(a b:Cf)(d:cfOk a=true)(c:cfOk b=true)(j:1000000000<n):R2 n a b=some (decide (a=b)):=by
 unfold R2;obtain ⟨i,h⟩:=(En a).1 d;obtain ⟨g,f⟩:=(En b).1 c;rw [y6i n a b (by omega) (by omega) (by omega) g i f h];rw [A0];congr 1;exact decide_eq_decide.2 (Ea.zero a b)
theorem zf2 (n:Nat)(w:1000000000<n)(l:List Cf)(d:∀ x∈l,cfOk x=true)(D:l.length<=1000000000)(a:Nat)(C:1<=a)(K:Int->List Cf->Option (List Cf))(r:Option (List Cf))
  (y:∀ (i:Nat) (b:List Cf),b.length=l.length->i<=l.length->b.take i=dd l->K (i:Int) b=r) :
  ∀ (m k j:Nat) (b:List Cf),1<=j->k<=a+j-1->a+j<=l.length->l.length<m+j+a->b.length=l.length->b.take k=dd (l.take (a+j))->b.drop (a+j-1)=l.drop (a+j-1)->Kx n a K m ((k:Int),(j:Int),b)=r
 |0,k,j,b,F,h1,v,E,u,t,A=>by omega
 |m+1,k,j,b,F,h1,v,E,u,t,A=>by
  unfold Kx;simp only [aA];rw [y18 (by omega)];simp only [A3];by_cases h:a+j<l.length
  ·have G:∀ i (h1:a+j-1<=i) (v:i<l.length),∃ E:i<b.length,b[i]=l[i]:=fun i h1 v=>by
    refine ⟨by omega,?_⟩;have:=congrArg (fun q=>q[i-(a+j-1)]?) A;simp only [getElem?_drop,show a+j-1+(i-(a+j-1))=i by omega] at this;rw [aJ (by omega),aJ v] at this;exact aT this
   obtain ⟨I,H⟩:=G (a+j) (by omega) h;obtain ⟨M,L⟩:=G (a+(j-1)) (by omega) (by omega);rw [if_pos (by omega),Cp (by omega),Cr I,Sv j F (by omega),Cp (by omega),Cr M,H,L];rw [y4x n _ _ (d _ (aD _)) (d _ (aD _)) w,A0,Aw,A3,Ag j (by omega)];have g:l.take (a+(j+1))=l.take (a+j)++[l[a+j]]:=by rw [show a+(j+1)=(a+j)+1 by omega,aC h]
   have f:l.take (a+j)≠[]:=by
    intro e;have:=congrArg length e;rw [aH,aM] at this;omega
   have c:(l.take (a+j)).getLast f=l[a+(j-1)]:=by
    rw [aK];simp only [aP];congr 1;simp only [aH];omega
   have p:b.drop (a+(j+1)-1)=l.drop (a+(j+1)-1):=by
    have:=congrArg List.tail A;simp only [tail_drop] at this;rw [show a+(j+1)-1=a+j-1+1 by omega];exact this
   by_cases s:l[a+j]=l[a+(j-1)]
   ·rw [if_pos s];refine zf2 n w l d D a C K r y m k (j+1) b (by omega) (by omega) (by omega) (by omega) u ?_ p;rw [g,Jf _ _ f,c,if_pos s,aS,t]
   ·rw [if_neg s,Cp (by omega),Cr I,Cp (by omega),Dz (by omega),Ag k (by omega)];have o:∀ z:Cf,(b.set k z).take (k+1)=b.take k++[z]:=fun z=>by
     have J:k<b.length:=by omega
     rw [aC (by simpa using J),aZ,take_set_of_le (aV _)]
    have B:b[a+j]=l[a+j]:=H;refine zf2 n w l d D a C K r y m (k+1) (j+1) _ (by omega) (by omega) (by omega) (by omega) (by simpa using u) ?_ ?_
    ·rw [o,g,Jf _ _ f,c,if_neg s,t];exact congrArg (fun q=>dd (l.take (a+j))++[q]) B
    ·rw [drop_set_of_lt (by omega)];exact p
  ·rw [if_neg (by omega)];refine y k b u (by omega) ?_;rw [t,aL (by omega)]
theorem zna (n:Nat)(t:1000000000<n)(l:List Cf)(f:∀ x∈l,cfOk x=true)(w:l.length<=1000000000)(u:1<=l.length):∀ (m k:Nat),1<=k->k<=l.length->l.length<m+k->dd (l.take k)=l.take k->Pf n l (some l) m (k:Int)=some (dd l)
 |0,k,v,h1,z,_=>by omega
 |m+1,k,v,h1,z,s=>by
  unfold Pf;simp only [aA,A3];by_cases h:k<l.length
  ·rw [if_pos (by omega),Cp h,Cr h,Sv k v (by omega),Cp (by omega),Cr (by omega)];rw [y4x n _ _ (f _ (aD _)) (f _ (aD _)) t,A0,A3,Ag k (by omega)];have q:l.take (k+1)=l.take k++[l[k]]:=aC h;have o:l.take k≠[]:=by
    intro e;have:=congrArg length e;rw [aH,aM] at this;omega
   have d:(l.take k).getLast o=l[k-1]:=by
    rw [aK];simp only [aP];congr 1;simp only [aH];omega
   by_cases r:l[k]=l[k-1]
   ·rw [if_pos r,Wx (by omega)];have:=zf2 n t l f w k v (fun k2_1_0y0 k2_1_0y1=>nle k2_1_0y0 k2_1_0y1.length fun j =>
     clr k2_1_0y1 j (⟨0,[],[]⟩:A5) fun g =>
     sls g 0 k2_1_0y0 fun c=>some c) (some (dd l)) (fun i p B hi y=>by
      show nle (i:Int) p.length (fun j=>clr p j (⟨0,[],[]⟩:A5) fun g=>sls g 0 (i:Int) fun c=>some c)=some (dd l);rw [Wx (by omega),zxr (by omega)];have:=Gj (l:=clrL p i (⟨0,[],[]⟩:A5)) (a:=0) (b:=i) (aO _) (by rw [zl1 _ _ _ (by omega)];omega) (fun c=>some c);simp only [aB] at this;rw [this,aG,zfu _ _ _ (by omega),y]) n k 1 l (by omega) (by omega) (by omega) (by omega) rfl (by rw [q,Jf _ _ o,d,if_pos r,aS,s]) rfl
    have A:((1:Nat):Int)=1:=rfl;rw [A] at this;exact this
   ·rw [if_neg r];refine zna n t l f w u m (k+1) (by omega) (by omega) (by omega) ?_;rw [q,Jf _ _ o,d,if_neg r,s]
  ·rw [if_neg (by omega)];rw [aL (by omega)] at s;rw [s]
theorem y50 (n:Nat)(b:1000000000<n)(l:List Cf)(a:∀ x∈l,cfOk x=true)(c:l.length<=1000000000):Ui n l=some (dd l):=by
 unfold Ui;simp only [aA,A3];by_cases h:l.length<2
 ·rw [if_pos (by omega)]
  match l,h with
  |[],_=>rfl
  |[x],_=>rfl
 ·rw [if_neg (by omega)];refine zna n b l a c (by omega) n 1 (by omega) (by omega) (by omega) ?_
  match l,h with
  |[],h=>exact absurd (by simp) h
  |[x],h=>exact absurd (by simp) h
  |x::y::q,_=>rfl
theorem y27 (n:Nat)(f:1000000000<n)(l:List Cf)(a:∀ x∈l,cfOk x=true)(c:l.length<=1000000000):W0 n l=some (setL Bl l):=by
 unfold W0;rw [zrt Ea n l a c];simp only [zfz,zt4,Ak];have b:=Ms Bl l;rw [y50 n f _ (fun x d=>a x (b.mem_iff.1 d)) (by rw [b.length_eq];exact c),Ct,zxi Ea]
theorem zmr (n:Nat)(j:1000000000<n)(x:Cf)(g:cfOk x=true)(l:List Cf)(a:∀ x∈l,cfOk x=true)(o:l.length<=1000000)(K:Int->Option (List Cf))(r:Option (List Cf))
  (d:∀ i:Nat,i<=l.length->(∀ y∈l.take i,Bl y x<0)->(∀ h:i<l.length,¬Bl l[i] x<0)->K i=r):∀ (m k:Nat),k<=l.length->l.length<m+k->(∀ y∈l.take k,Bl y x<0)->Ig n x l K m (k:Int)=r
 |0,k,h1,p,_=>by omega
 |m+1,k,h1,p,f=>by
  unfold Ig;simp only [B2,Ak,L3,aA,A3,Ar];by_cases h:k<l.length
  ·rw [if_pos (by omega),Af h,y2g n _ x (a _ (aD h)) g (by have:=(En _).1 (a _ (aD h));omega) (by have:=(En _).1 (a _ (aD h));omega),A0];by_cases c:Bl l[k] x<0
   ·rw [if_pos c,Ag k (by omega)];refine zmr n j x g l a o K r d m (k+1) (by omega) (by omega) (fun y b=>?_);rw [aC h,aW,aR] at b;rcases b with b|b
    ·exact f y b
    ·rw [b];exact c
   ·rw [if_neg c];exact d k h1 f (fun _=>c)
  ·rw [if_neg (by omega)];exact d k h1 f (fun q=>absurd q h)
theorem zt1 (x:Cf):∀ (l:List Cf) (i:Nat),i<=l.length->(∀ y∈l.take i,Bl y x<0)->(∀ h:i<l.length,¬Bl l[i] x<0)->insU Bl x l=if ∃ h:i<l.length,Bl l[i] x=0 then l else l.take i++x::l.drop i
 |[],i,h1,_,_=>by
  have:i=0:=by simpa using h1
  subst this;simp [insU]
 |y::l,0,_,_,a=>by
  have:=a (by simp);simp only [aX] at this;unfold insU;rw [if_neg this];simp_all
 |y::l,i+1,h1,b,a=>by
  have d:=b y (by simp);unfold insU;rw [if_pos d,zt1 x l i (by simpa using h1) (fun z c=>b z (by simp [c])) (fun h=>by simp_all)];by_cases q:∃ h:i<l.length,Bl l[i] x=0;all_goals simp_all
theorem zwb (n:Nat)(s:1000000000<n)(x:Cf)(o:cfOk x=true)(l:List Cf)(c:∀ x∈l,cfOk x=true)(t:l.length<=1000000):Ls n l x=some (insU Bl x l):=by
 unfold Ls;refine zmr n s x o l c t _ _ (fun i hi h1 u=>?_) n 0 (by omega) (by omega) (by simp);rw [zt1 x l i hi h1 u];simp only [B2,Ak,L4,aA,A3,Ar];have m:∀ z:Cf,z=x->(sls l 0 (i:Int) fun k=>app ([]:List Cf) k 56 fun j=>app j [z] 56 fun g=>sls l (i:Int) ((l.length:Nat):Int) fun f=>app g f 56 fun d=>some d)=some (l.take i++x::l.drop i):=fun z r=>by
  subst r;have p:=Gj (l:=l) (a:=0) (b:=i) (aO _) hi (fun k=>app ([]:List Cf) k 56 fun j=>app j [z] 56 fun g=>sls l (i:Int) ((l.length:Nat):Int) fun f=>app g f 56 fun d=>some d);simp only [aB] at p;rw [p,aG,Bv (by simp;omega) (by omega),nil_append,Bv (by simp;omega) (by omega),Gj hi (aV _),Bv (by simp;omega) (by omega),take_length];simp
 by_cases h:i<l.length
 ·rw [if_pos (by omega),Af h,y2g n _ x (c _ (aD h)) o (by have:=(En _).1 (c _ (aD h));omega) (by have:=(En _).1 (c _ (aD h));omega),A0];by_cases q:Bl l[i] x=0;all_goals simp_all
 grind
variable {l:List Cf}
theorem zsz {x:Cf}(b:cfOk x=true)(c:∀ y∈l,cfOk y=true):∀ y∈insU Bl x l,cfOk y=true:=fun y a=>by
 rcases (Ws Ea x y l).1 a with h|h
 all_goals simp_all
theorem zz4 {s:List Cf}(hs:∀ y∈s,cfOk y=true)(b:∀ y∈l,cfOk y=true):∀ y∈puts Bl s l,cfOk y=true:=fun y a=>by
 rcases (S5 Ea y l s).1 a with h|h
 ·exact hs y h
 ·exact b y h
theorem y4w (n:Nat)(a b:Ma)(c:maOk a=true)(f:maOk b=true)(d:1000000000<n):R1 n a b=some (decide (a=b)):=by
 unfold R1;rw [f_ma n _ _ (by have:=(Em _).1 c;exact aQ this d) (by omega) ((Em _).1 f) ((Em _).1 c)];rw [A0];congr 1;exact decide_eq_decide.2 (D5.zero a b)
theorem zf1 (n:Nat)(w:1000000000<n)(l:List Ma)(d:∀ x∈l,maOk x=true)(D:l.length<=1000000000)(a:Nat)(C:1<=a)(K:Int->List Ma->Option (List Ma))(r:Option (List Ma))
  (y:∀ (i:Nat) (b:List Ma),b.length=l.length->i<=l.length->b.take i=dd l->K (i:Int) b=r) :
  ∀ (m k j:Nat) (b:List Ma),1<=j->k<=a+j-1->a+j<=l.length->l.length<m+j+a->b.length=l.length->b.take k=dd (l.take (a+j))->b.drop (a+j-1)=l.drop (a+j-1)->Jo n a K m ((k:Int),(j:Int),b)=r
 |0,k,j,b,F,h1,v,E,u,t,A=>by omega
 |m+1,k,j,b,F,h1,v,E,u,t,A=>by
  unfold Jo;simp only [aA];rw [y18 (by omega)];simp only [A3];by_cases h:a+j<l.length
  ·have G:∀ i (h1:a+j-1<=i) (v:i<l.length),∃ E:i<b.length,b[i]=l[i]:=fun i h1 v=>by
    refine ⟨by omega,?_⟩;have:=congrArg (fun q=>q[i-(a+j-1)]?) A;simp only [getElem?_drop,show a+j-1+(i-(a+j-1))=i by omega] at this;rw [aJ (by omega),aJ v] at this;exact aT this
   obtain ⟨I,H⟩:=G (a+j) (by omega) h;obtain ⟨M,L⟩:=G (a+(j-1)) (by omega) (by omega);rw [if_pos (by omega),Cp (by omega),Cr I,Sv j F (by omega),Cp (by omega),Cr M,H,L];rw [y4w n _ _ (d _ (aD _)) (d _ (aD _)) w,A0,Aw,A3,Ag j (by omega)];have g:l.take (a+(j+1))=l.take (a+j)++[l[a+j]]:=by rw [show a+(j+1)=(a+j)+1 by omega,aC h]
   have f:l.take (a+j)≠[]:=by
    intro e;have:=congrArg length e;rw [aH,aM] at this;omega
   have c:(l.take (a+j)).getLast f=l[a+(j-1)]:=by
    rw [aK];simp only [aP];congr 1;simp only [aH];omega
   have p:b.drop (a+(j+1)-1)=l.drop (a+(j+1)-1):=by
    have:=congrArg List.tail A;simp only [tail_drop] at this;rw [show a+(j+1)-1=a+j-1+1 by omega];exact this
   by_cases s:l[a+j]=l[a+(j-1)]
   ·rw [if_pos s];refine zf1 n w l d D a C K r y m k (j+1) b (by omega) (by omega) (by omega) (by omega) u ?_ p;rw [g,Jf _ _ f,c,if_pos s,aS,t]
   ·rw [if_neg s,Cp (by omega),Cr I,Cp (by omega),Dz (by omega),Ag k (by omega)];have o:∀ z:Ma,(b.set k z).take (k+1)=b.take k++[z]:=fun z=>by
     have J:k<b.length:=by omega
     rw [aC (by simpa using J),aZ,take_set_of_le (aV _)]
    have B:b[a+j]=l[a+j]:=H;refine zf1 n w l d D a C K r y m (k+1) (j+1) _ (by omega) (by omega) (by omega) (by omega) (by simpa using u) ?_ ?_
    ·rw [o,g,Jf _ _ f,c,if_neg s,t];exact congrArg (fun q=>dd (l.take (a+j))++[q]) B
    ·rw [drop_set_of_lt (by omega)];exact p
  ·rw [if_neg (by omega)];refine y k b u (by omega) ?_;rw [t,aL (by omega)]
theorem zn9 (n:Nat)(t:1000000000<n)(l:List Ma)(f:∀ x∈l,maOk x=true)(w:l.length<=1000000000)(u:1<=l.length):∀ (m k:Nat),1<=k->k<=l.length->l.length<m+k->dd (l.take k)=l.take k->Ns n l (some l) m (k:Int)=some (dd l)
 |0,k,v,h1,z,_=>by omega
 |m+1,k,v,h1,z,s=>by
  unfold Ns;simp only [aA,A3];by_cases h:k<l.length
  ·rw [if_pos (by omega),Cp h,Cr h,Sv k v (by omega),Cp (by omega),Cr (by omega)];rw [y4w n _ _ (f _ (aD _)) (f _ (aD _)) t,A0,A3,Ag k (by omega)];have q:l.take (k+1)=l.take k++[l[k]]:=aC h;have o:l.take k≠[]:=by
    intro e;have:=congrArg length e;rw [aH,aM] at this;omega
   have d:(l.take k).getLast o=l[k-1]:=by
    rw [aK];simp only [aP];congr 1;simp only [aH];omega
   by_cases r:l[k]=l[k-1]
   ·rw [if_pos r,Wx (by omega)];have:=zf1 n t l f w k v (fun k2_1_0y0 k2_1_0y1=>nle k2_1_0y0 k2_1_0y1.length fun j =>
     clr k2_1_0y1 j (⟨[]⟩:Aa) fun g =>
     sls g 0 k2_1_0y0 fun c=>some c) (some (dd l)) (fun i p B hi y=>by
      show nle (i:Int) p.length (fun j=>clr p j (⟨[]⟩:Aa) fun g=>sls g 0 (i:Int) fun c=>some c)=some (dd l);rw [Wx (by omega),zxr (by omega)];have:=Gj (l:=clrL p i (⟨[]⟩:Aa)) (a:=0) (b:=i) (aO _) (by rw [zl1 _ _ _ (by omega)];omega) (fun c=>some c);simp only [aB] at this;rw [this,aG,zfu _ _ _ (by omega),y]) n k 1 l (by omega) (by omega) (by omega) (by omega) rfl (by rw [q,Jf _ _ o,d,if_pos r,aS,s]) rfl
    have A:((1:Nat):Int)=1:=rfl;rw [A] at this;exact this
   ·rw [if_neg r];refine zn9 n t l f w u m (k+1) (by omega) (by omega) (by omega) ?_;rw [q,Jf _ _ o,d,if_neg r,s]
  ·rw [if_neg (by omega)];rw [aL (by omega)] at s;rw [s]
theorem y4z (n:Nat)(b:1000000000<n)(l:List Ma)(a:∀ x∈l,maOk x=true)(c:l.length<=1000000000):Tf n l=some (dd l):=by
 unfold Tf;simp only [aA,A3];by_cases h:l.length<2
 ·rw [if_pos (by omega)]
  match l,h with
  |[],_=>rfl
  |[x],_=>rfl
 ·rw [if_neg (by omega)];refine zn9 n b l a c (by omega) n 1 (by omega) (by omega) (by omega) ?_
  match l,h with
  |[],h=>exact absurd (by simp) h
  |[x],h=>exact absurd (by simp) h
  |x::y::q,_=>rfl
theorem zw1 (n:Nat)(f:1000000000<n)(l:List Ma)(a:∀ x∈l,maOk x=true)(c:l.length<=1000000000):M3 n l=some (setL B4 l):=by
 unfold M3;rw [zrt D5 n l a c];simp only [zfz,zt4,Ak];have b:=Ms B4 l;rw [y4z n f _ (fun x d=>a x (b.mem_iff.1 d)) (by rw [b.length_eq];exact c),Ct,zxi D5]
theorem zmq (n:Nat)(j:1000000000<n)(x:Ma)(g:maOk x=true)(l:List Ma)(a:∀ x∈l,maOk x=true)(o:l.length<=1000000)(K:Int->Option (List Ma))(r:Option (List Ma))
  (d:∀ i:Nat,i<=l.length->(∀ y∈l.take i,B4 y x<0)->(∀ h:i<l.length,¬B4 l[i] x<0)->K i=r):∀ (m k:Nat),k<=l.length->l.length<m+k->(∀ y∈l.take k,B4 y x<0)->Ik n x l K m (k:Int)=r
 |0,k,h1,p,_=>by omega
 |m+1,k,h1,p,f=>by
  unfold Ik;simp only [B2,Ak,L8,aA,A3,Ar];by_cases h:k<l.length
  ·rw [if_pos (by omega),Af h,y2d n _ _ (by have:=(Em _).1 (a _ (aD h));exact aQ this j) ((Em _).1 g) ((Em _).1 (a _ (aD h))),A0];by_cases c:B4 l[k] x<0
   ·rw [if_pos c,Ag k (by omega)];refine zmq n j x g l a o K r d m (k+1) (by omega) (by omega) (fun y b=>?_);rw [aC h,aW,aR] at b;rcases b with b|b
    ·exact f y b
    ·rw [b];exact c
   ·rw [if_neg c];exact d k h1 f (fun _=>c)
  ·rw [if_neg (by omega)];exact d k h1 f (fun q=>absurd q h)
theorem zt0 (x:Ma):∀ (l:List Ma) (i:Nat),i<=l.length->(∀ y∈l.take i,B4 y x<0)->(∀ h:i<l.length,¬B4 l[i] x<0)->insU B4 x l=if ∃ h:i<l.length,B4 l[i] x=0 then l else l.take i++x::l.drop i
 |[],i,h1,_,_=>by
  have:i=0:=by simpa using h1
  subst this;simp [insU]
 |y::l,0,_,_,a=>by
  have:=a (by simp);simp only [aX] at this;unfold insU;rw [if_neg this];simp_all
 |y::l,i+1,h1,b,a=>by
  have d:=b y (by simp);unfold insU;rw [if_pos d,zt0 x l i (by simpa using h1) (fun z c=>b z (by simp [c])) (fun h=>by simp_all)];by_cases q:∃ h:i<l.length,B4 l[i] x=0;all_goals simp_all
theorem zwa (n:Nat)(p:1000000000<n)(x:Ma)(o:maOk x=true)(l:List Ma)(k:∀ x∈l,maOk x=true)(t:l.length<=1000000):Lu n l x=some (insU B4 x l):=by
 unfold Lu;refine zmq n p x o l k t _ _ (fun i hi h1 u=>?_) n 0 (by omega) (by omega) (by simp);rw [zt0 x l i hi h1 u];simp only [B2,Ak,L9,aA,A3,Ar];have m:∀ z:Ma,z=x->(sls l 0 (i:Int) fun j=>app ([]:List Ma) j 24 fun g=>app g [z] 24 fun f=>sls l (i:Int) ((l.length:Nat):Int) fun d=>app f d 24 fun c=>some c)=some (l.take i++x::l.drop i):=fun z s=>by
  subst s;have r:=Gj (l:=l) (a:=0) (b:=i) (aO _) hi (fun j=>app ([]:List Ma) j 24 fun g=>app g [z] 24 fun f=>sls l (i:Int) ((l.length:Nat):Int) fun d=>app f d 24 fun c=>some c);simp only [aB] at r;rw [r,aG,Bv (by simp;omega) (by omega),nil_append,Bv (by simp;omega) (by omega),Gj hi (aV _),Bv (by simp;omega) (by omega),take_length];simp
 by_cases h:i<l.length
 ·rw [if_pos (by omega),Af h,y2d n _ _ (by have:=(Em _).1 (k _ (aD h));exact aQ this p) ((Em _).1 o) ((Em _).1 (k _ (aD h))),A0];by_cases q:B4 l[i] x=0;all_goals simp_all
 grind
theorem zjt {x:Ma}(b:maOk x=true){l:List Ma}(c:∀ y∈l,maOk y=true):∀ y∈insU B4 x l,maOk y=true:=fun y a=>by
 rcases (Ws D5 x y l).1 a with h|h
 all_goals simp_all
theorem zrz {s l:List Ma}(hs:∀ y∈s,maOk y=true)(b:∀ y∈l,maOk y=true):∀ y∈puts B4 s l,maOk y=true:=fun y a=>by
 rcases (S5 D5 y l s).1 a with h|h
 ·exact hs y h
 ·exact b y h
theorem y1x (h:∀ x∈l,cfOk x=true):∀ x∈setL Bl l,cfOk x=true:=fun x a=>h x ((Fd Ea x l).1 a)
end Go.Proofs.YthbogefcfhmpgaaGreat
