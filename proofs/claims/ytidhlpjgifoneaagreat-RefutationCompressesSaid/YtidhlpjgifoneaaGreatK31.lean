/- Searching in slices, plainly. -/
import Derived.Test.YtidhlpjgifoneaaGreatK30
set_option linter.unusedVariables false
set_option linter.unusedSimpArgs false
namespace Go.Proofs.YtidhlpjgifoneaaGreat
open Go.RowKit List
open Int renaming natCast_zero->aA
open List renaming length_map->aB,drop_eq_nil_of_le->aC,getElem_mem->aE,take_succ_eq_append_getElem->aF,drop_zero->aG,length_zipIdx->aH,length_drop->aK
open IntKind renaming wrap->aD
open Bool renaming and_eq_false_iff->aJ,or_eq_true->aL
def fidx {α:Type}(p:α->Bool)(l:List α):Int:=match l.findIdx? p with|some j=>(j:Int)|none=>-1
theorem O5 {α:Type}(p:α->Bool)(l:List α):decide (0<=fidx p l)=l.any p:=by
 unfold fidx;grind
def E1 {α:Type}(p:α->Bool)(k:Nat)(l:List α):Int:=match l.findIdx? p with|some j=>((k+j:Nat):Int)|none=>-1
theorem Ho {α:Type}(p:α->Bool)(k:Nat)(x:α)(l:List α):E1 p k (x::l)=if p x=true then (k:Int) else E1 p (k+1) l:=by
 unfold E1;grind
theorem Hn {α:Type}(p:α->Bool)(l:List α):E1 p 0 l=fidx p l:=by
 unfold E1 fidx;simp_all
theorem zmu (n:Nat)(x:Int)(l:List Int)(a:l.length<=1000000000):∀ (m k:Nat),k<=l.length->l.length<m+k->S9 n x l (some (-1)) m (k:Int)=some (E1 (fun y=>decide (x=y)) k (l.drop k))
 |0,k,h1,b=>by omega
 |m+1,k,h1,b=>by
  unfold S9;simp only [aB,A5];by_cases h:k<l.length
  ·rw [if_pos (by omega),A9 h,B2 l k h,Ho,Ad k (by omega),zmu n x l a m (k+1) (by omega) (by omega)];grind
  ·rw [if_neg (by omega),aC (by omega)];rfl
theorem Zi (n:Nat)(x:Int)(l:List Int)(a:l.length<=1000000000)(b:l.length<n):Hi n l x=some (l.any fun y=>decide (x=y)):=by
 unfold Hi Z6;have:=zmu n x l a n 0 (by omega) (by omega);simp only [aA,aG,Hn] at this;rw [this,A3,O5]
theorem zh5 (n:Nat)(a1c0:Bg)(p:Bg->Bool)(l:List Bg)(b:l.length<=1000000000)(a:∀ x∈l,Rx n x a1c0=some (p x)):∀ (m k:Nat),k<=l.length->l.length<m+k->Rl n a1c0 l (some (-1)) m (k:Int)=some (E1 p k (l.drop k))
 |0,k,h1,c=>by omega
 |m+1,k,h1,c=>by
  unfold Rl;simp only [aB,A5];by_cases h:k<l.length
  ·rw [if_pos (by omega),A9 h,B2 l k h,Ho,a _ (aE h),A3,Ad k (by omega),zh5 n a1c0 p l b a m (k+1) (by omega) (by omega)];cases p l[k]<;>simp [Aw]
  ·rw [if_neg (by omega),aC (by omega)];rfl
theorem y4a (n:Nat)(a1c0:Bg)(p:Bg->Bool)(l:List Bg)(a:l.length<=1000000000)(c:l.length<n)(b:∀ x∈l,Rx n x a1c0=some (p x)):Vq n l a1c0=some (fidx p l):=by
 unfold Vq;have:=zh5 n a1c0 p l a b n 0 (by omega) (by omega);simpa only [aA,aG,Hn] using this
theorem y72 (n:Nat)(a1c0:Bg)(p:Bg->Bool)(l:List Bg)(b:l.length<=1000000000)(a:l.length<n)(c:∀ x∈l,Rx n x a1c0=some (p x)):Rn n l a1c0=some (l.any p):=by
 unfold Rn;rw [y4a n a1c0 p l b a c,A3,O5]
theorem zab (n:Nat)(p:C4->Bool)(l:List C4)(b:l.length<=1000000000)(a:∀ x∈l,Mz n x=some (p x)):∀ (m k:Nat),k<=l.length->l.length<m+k->Pn n l (some (-1)) m (k:Int)=some (E1 p k (l.drop k))
 |0,k,h1,c=>by omega
 |m+1,k,h1,c=>by
  unfold Pn;simp only [aB,A5];by_cases h:k<l.length
  ·rw [if_pos (by omega),A9 h,B2 l k h,Ho,a _ (aE h),A3,Ad k (by omega),zab n p l b a m (k+1) (by omega) (by omega)];cases p l[k]<;>simp [Aw]
  ·rw [if_neg (by omega),aC (by omega)];rfl
theorem zq4 (n:Nat)(p:C4->Bool)(l:List C4)(a:l.length<=1000000000)(c:l.length<n)(b:∀ x∈l,Mz n x=some (p x)):Ul n l=some (fidx p l):=by
 unfold Ul;have:=zab n p l a b n 0 (by omega) (by omega);simpa only [aA,aG,Hn] using this
theorem zv2 (n:Nat)(p:C4->Bool)(l:List C4)(b:l.length<=1000000000)(a:l.length<n)(c:∀ x∈l,Mz n x=some (p x)):Po n l=some (l.any p):=by
 unfold Po;rw [zq4 n p l b a c,A3,O5]
theorem za8 (n:Nat)(a1c0:A8)(p:B6->Bool)(l:List B6)(b:l.length<=1000000000)(a:∀ x∈l,Nl n (⟨x.fVar,⟨x.fRef.fTime,x.fRef.fSource,x.fRef.fSeq⟩⟩:B6) a1c0=some (p x)):∀ (m k:Nat),k<=l.length->l.length<m+k->Pk n a1c0 l (some (-1)) m (k:Int)=some (E1 p k (l.drop k))
 |0,k,h1,c=>by omega
 |m+1,k,h1,c=>by
  unfold Pk;simp only [aB,A5];by_cases h:k<l.length
  ·rw [if_pos (by omega),A9 h,B2 l k h,Ho,a _ (aE h),A3,Ad k (by omega),za8 n a1c0 p l b a m (k+1) (by omega) (by omega)];cases p l[k]<;>simp [Aw]
  ·rw [if_neg (by omega),aC (by omega)];rfl
theorem zq2 (n:Nat)(a1c0:A8)(p:B6->Bool)(l:List B6)(a:l.length<=1000000000)(c:l.length<n)(b:∀ x∈l,Nl n (⟨x.fVar,⟨x.fRef.fTime,x.fRef.fSource,x.fRef.fSeq⟩⟩:B6) a1c0=some (p x)):Uj n l a1c0=some (fidx p l):=by
 unfold Uj;have:=za8 n a1c0 p l a b n 0 (by omega) (by omega);simpa only [aA,aG,Hn] using this
theorem zuy (n:Nat)(a1c0:A8)(p:B6->Bool)(l:List B6)(b:l.length<=1000000000)(a:l.length<n)(c:∀ x∈l,Nl n (⟨x.fVar,⟨x.fRef.fTime,x.fRef.fSource,x.fRef.fSeq⟩⟩:B6) a1c0=some (p x)):U1 n l a1c0=some (l.any p):=by
 unfold U1;rw [zq2 n a1c0 p l b a c,A3,O5]
theorem za9 (n:Nat)(a1c0:A8)(p:A0->Bool)(l:List A0)(b:l.length<=1000000000)(a:∀ x∈l,Nm n x a1c0=some (p x)):∀ (m k:Nat),k<=l.length->l.length<m+k->Pm n a1c0 l (some (-1)) m (k:Int)=some (E1 p k (l.drop k))
 |0,k,h1,c=>by omega
 |m+1,k,h1,c=>by
  unfold Pm;simp only [aB,A5];by_cases h:k<l.length
  ·rw [if_pos (by omega),A9 h,B2 l k h,Ho,a _ (aE h),A3,Ad k (by omega),za9 n a1c0 p l b a m (k+1) (by omega) (by omega)];cases p l[k]<;>simp [Aw]
  ·rw [if_neg (by omega),aC (by omega)];rfl
theorem zq3 (n:Nat)(a1c0:A8)(p:A0->Bool)(l:List A0)(a:l.length<=1000000000)(c:l.length<n)(b:∀ x∈l,Nm n x a1c0=some (p x)):Uk n l a1c0=some (fidx p l):=by
 unfold Uk;have:=za9 n a1c0 p l a b n 0 (by omega) (by omega);simpa only [aA,aG,Hn] using this
theorem zv0 (n:Nat)(a1c0:A8)(p:A0->Bool)(l:List A0)(b:l.length<=1000000000)(a:l.length<n)(c:∀ x∈l,Nm n x a1c0=some (p x)):U2 n l a1c0=some (l.any p):=by
 unfold U2;rw [zq3 n a1c0 p l b a c,A3,O5]
theorem z8p (n:Nat)(a1c0:Aq)(a1c1:A8)(p:Bg->Bool)(l:List Bg)(b:l.length<=1000000000)(a:∀ x∈l,Kx n x (⟨a1c0.fVars⟩:Aq) a1c1=some (p x)):∀ (m k:Nat),k<=l.length->l.length<m+k->P6 n a1c1 a1c0 l (some (-1)) m (k:Int)=some (E1 p k (l.drop k))
 |0,k,h1,c=>by omega
 |m+1,k,h1,c=>by
  unfold P6;simp only [aB,A5];by_cases h:k<l.length
  ·rw [if_pos (by omega),A9 h,B2 l k h,Ho,a _ (aE h),A3,Ad k (by omega),z8p n a1c0 a1c1 p l b a m (k+1) (by omega) (by omega)];cases p l[k]<;>simp [Aw]
  ·rw [if_neg (by omega),aC (by omega)];rfl
theorem zmt (n:Nat)(a1c0:Aq)(a1c1:A8)(p:Bg->Bool)(l:List Bg)(a:l.length<=1000000000)(c:l.length<n)(b:∀ x∈l,Kx n x (⟨a1c0.fVars⟩:Aq) a1c1=some (p x)):Ud n l a1c0 a1c1=some (fidx p l):=by
 unfold Ud;have:=z8p n a1c0 a1c1 p l a b n 0 (by omega) (by omega);simpa only [aA,aG,Hn] using this
theorem zq6 (n:Nat)(a1c0:Aq)(a1c1:A8)(p:Bg->Bool)(l:List Bg)(b:l.length<=1000000000)(a:l.length<n)(c:∀ x∈l,Kx n x (⟨a1c0.fVars⟩:Aq) a1c1=some (p x)):Ty n l a1c0 a1c1=some (l.any p):=by
 unfold Ty;rw [zmt n a1c0 a1c1 p l b a c,A3,O5]
theorem z8o (n:Nat)(a1c0:B5)(a1c1:Aq)(a1c2:A8)(p:Bg->Bool)(l:List Bg)(b:l.length<=1000000000)(a:∀ x∈l,Il n x a1c0 (⟨a1c1.fVars⟩:Aq) a1c2=some (p x)):∀ (m k:Nat),k<=l.length->l.length<m+k->P5 n a1c2 a1c1 a1c0 l (some (-1)) m (k:Int)=some (E1 p k (l.drop k))
 |0,k,h1,c=>by omega
 |m+1,k,h1,c=>by
  unfold P5;simp only [aB,A5];by_cases h:k<l.length
  ·rw [if_pos (by omega),A9 h,B2 l k h,Ho,a _ (aE h),A3,Ad k (by omega),z8o n a1c0 a1c1 a1c2 p l b a m (k+1) (by omega) (by omega)];cases p l[k]<;>simp [Aw]
  ·rw [if_neg (by omega),aC (by omega)];rfl
theorem zms (n:Nat)(a1c0:B5)(a1c1:Aq)(a1c2:A8)(p:Bg->Bool)(l:List Bg)(a:l.length<=1000000000)(c:l.length<n)(b:∀ x∈l,Il n x a1c0 (⟨a1c1.fVars⟩:Aq) a1c2=some (p x)):Uc n l a1c0 a1c1 a1c2=some (fidx p l):=by
 unfold Uc;have:=z8o n a1c0 a1c1 a1c2 p l a b n 0 (by omega) (by omega);simpa only [aA,aG,Hn] using this
theorem zq5 (n:Nat)(a1c0:B5)(a1c1:Aq)(a1c2:A8)(p:Bg->Bool)(l:List Bg)(b:l.length<=1000000000)(a:l.length<n)(c:∀ x∈l,Il n x a1c0 (⟨a1c1.fVars⟩:Aq) a1c2=some (p x)):Tx n l a1c0 a1c1 a1c2=some (l.any p):=by
 unfold Tx;rw [zms n a1c0 a1c1 a1c2 p l b a c,A3,O5]
theorem z8n (n:Nat)(a1c0:C4)(p:Ak->Bool)(l:List Ak)(b:l.length<=1000000000)(a:∀ x∈l,Wd n x a1c0=some (p x)):∀ (m k:Nat),k<=l.length->l.length<m+k->P4 n a1c0 l (some (-1)) m (k:Int)=some (E1 p k (l.drop k))
 |0,k,h1,c=>by omega
 |m+1,k,h1,c=>by
  unfold P4;simp only [aB,A5];by_cases h:k<l.length
  ·rw [if_pos (by omega),A9 h,B2 l k h,Ho,a _ (aE h),A3,Ad k (by omega),z8n n a1c0 p l b a m (k+1) (by omega) (by omega)];cases p l[k]<;>simp [Aw]
  ·rw [if_neg (by omega),aC (by omega)];rfl
theorem zmr (n:Nat)(a1c0:C4)(p:Ak->Bool)(l:List Ak)(a:l.length<=1000000000)(c:l.length<n)(b:∀ x∈l,Wd n x a1c0=some (p x)):Ub n l a1c0=some (fidx p l):=by
 unfold Ub;have:=z8n n a1c0 p l a b n 0 (by omega) (by omega);simpa only [aA,aG,Hn] using this
theorem z8m (n:Nat)(a1c0:B5)(p:Ak->Bool)(l:List Ak)(b:l.length<=1000000000)(a:∀ x∈l,Lp n x a1c0=some (p x)):∀ (m k:Nat),k<=l.length->l.length<m+k->P3 n a1c0 l (some (-1)) m (k:Int)=some (E1 p k (l.drop k))
 |0,k,h1,c=>by omega
 |m+1,k,h1,c=>by
  unfold P3;simp only [aB,A5];by_cases h:k<l.length
  ·rw [if_pos (by omega),A9 h,B2 l k h,Ho,a _ (aE h),A3,Ad k (by omega),z8m n a1c0 p l b a m (k+1) (by omega) (by omega)];cases p l[k]<;>simp [Aw]
  ·rw [if_neg (by omega),aC (by omega)];rfl
theorem zmq (n:Nat)(a1c0:B5)(p:Ak->Bool)(l:List Ak)(a:l.length<=1000000000)(c:l.length<n)(b:∀ x∈l,Lp n x a1c0=some (p x)):Ua n l a1c0=some (fidx p l):=by
 unfold Ua;have:=z8m n a1c0 p l a b n 0 (by omega) (by omega);simpa only [aA,aG,Hn] using this
abbrev Gd:=Bg
abbrev Stt:=G7
abbrev Ed:=B5
abbrev Aut:=Ai
def WfE (e:Exn):Prop:=∃ z,z<=4000000/\ETr z e
structure WfX (x:Ed):Prop where
 cond:WfE x.fCond
 checks:∃ ys:List Exn,x.fChecks=ys.map Av/\∀ y∈ys,WfE y
 lc:x.fChecks.length<=1100000
 lo:x.fOpens.length<=1100000
 lcl:x.fCloses.length<=1100000
 li:x.fInside.length<=1100000
 ll:x.fLimits.length<=1100000
structure WfA (a:Aut):Prop where
 ls:a.fStates.length<=1100000
 le:a.fEdges.length<=1100000
 st:∀ s∈a.fStates,s.fGuards.length<=1100000/\∀ g∈s.fGuards,WfE g.fCond
 ed:∀ x∈a.fEdges,WfX x
theorem WfE.check {e:Exn}(h:WfE e)(n:Nat)(f:10000000<n):∃ r:Int,G1 n e=some r/\Hl n e=some r:=by
 obtain ⟨z,c,d⟩:=h;obtain ⟨r,b,a,_⟩:=zxp z e d c n (by omega);exact ⟨r,b,a⟩
theorem Xr (n:Nat)(a b:Int):D3 n a b=some (decide (a<0) || decide (b<a)):=by
 unfold D3;simp only [Ay,Al,M1,A5];by_cases h:a<0<;>simp [h]
theorem zik (n:Nat)(a b:Int):F8 n a b=some (decide (0<=a) && decide (a<b)):=by
 unfold F8;simp only [Ay,Al,Mj,A5];by_cases h:0<=a<;>simp [h]
theorem Ww (a b:Int):(decide (a<0) || decide (b-1<a))=!(decide (0<=a) && decide (a<b)):=by
 grind
theorem zu7 {α:Type}{q:α->Bool}{l:List α}{i k:Nat}(a:k<i)(hi:i<=l.length):((l.take i).drop k).any q=(q (l[k]'(by omega)) || ((l.take i).drop (k+1)).any q):=by
 rw [B2 _ k (by simp;omega),any_cons,getElem_take]
theorem zca (n:Nat)(l:List Gd)(a:Aut)(i:Nat)(hi:i<l.length)(b:l.length<=1100000)(K:Option Int):∀ (m k:Nat),k<=i->i<m+k->Pg n l a (i:Int) K m (k:Int)=if ((l.take i).drop k).any (fun h=>decide (h.fScope=l[i].fScope))=true then some 7 else K
 |0,k,h1,c=>by omega
 |m+1,k,h1,c=>by
  unfold Pg;simp only [A5];by_cases h:k<i
  ·rw [if_pos (by omega),A9 (by omega:k<l.length),A9 hi,zu7 h (by omega),Ad k (by omega),zca n l a i hi b K m (k+1) (by omega) (by omega)];grind
  ·rw [if_neg (by omega),aC (by simp;omega)];simp
theorem ze7 (n:Nat)(s:10000000<n)(a:Aut)(A:0<=a.fScopes/\a.fScopes<=64)(z:0<=a.fVars/\a.fVars<=16)(l:List Gd)(t:l.length<=1100000)(q:∀ g∈l,WfE g.fCond):∀ (m k:Nat),k<=l.length->l.length<m+k->∃ r:Int,Fo n l a (some 0) m (k:Int)=some r/\G2 n l a (some 0) m (k:Int)=some r
 |0,k,h1,B=>by omega
 |m+1,k,h1,B=>by
  unfold Fo G2;simp only [aB,A5,Ah,Ay,Al,Ia,J6,Xr,zik];by_cases h:k<l.length
  ·have d:((k:Nat):Int)<((l.length:Nat):Int):=by omega
   simp only [d,if_true,A9 h,A3];have wS:aD .i64 (a.fScopes-1)=a.fScopes-1:=Cq _ (by omega);have wV:aD .i64 (a.fVars-1)=a.fVars-1:=Cq _ (by omega);have p:∀ x:Int,(decide (x<0) || decide (15<x))=!(decide (0<=x) && decide (x<16)):=fun x=>Ww x 16
   simp only [wS,wV,Ww,p];obtain ⟨r,y,w⟩:=ze7 n s a A z l t q m (k+1) (by omega) (by omega);obtain ⟨c,D,C⟩:=(q _ (aE h)).check n s;have v:=zca n l a k h t (bnd (G1 n l[k].fCond) fun e=>if e=0 then Fo n l a (some 0) m (aD .i64 ((k:Int)+1)) else some e) n 0 (by omega) (by omega);simp only [aA,aG] at v;rw [v,D,C];have u:=Eb (l:=l) (a:=0) (b:=k) (Nat.zero_le _) (by omega) (fun o=>bnd (Rn n o l[k]) fun j=>cnd j (some (7:Int)) (bnd (some c) fun f=>if f=0 then G2 n l a (some 0) m (aD .i64 ((k:Int)+1)) else some f));simp only [aA,aG] at u;rw [u,y72 n l[k] (fun h=>decide (h.fScope=l[k].fScope)) (l.take k) (by simp;omega) (by simp;omega) (fun x _=>rfl),A3,Ad k (by omega),y,w];simp only [A3];generalize (decide (0<=l[k].fScope) && decide (l[k].fScope<a.fScopes))=H;generalize (decide (0<=l[k].fType) && decide (l[k].fType<16))=G;generalize (decide (0<=l[k].fVar) && decide (l[k].fVar<a.fVars))=F;generalize ((l.take k).any fun h=>decide (h.fScope=l[k].fScope))=E;cases H with
   |false=>exact ⟨2,by simp [Aw],by simp [Aw]⟩
   |true=>cases G with
    |false=>exact ⟨2,by simp [Aw],by simp [Aw]⟩
    |true=>cases F with
     |false=>exact ⟨2,by simp [Aw],by simp [Aw]⟩
     |true=>cases E with
      |true=>exact ⟨7,by simp [Aw],by simp [Aw]⟩
      |false =>
       by_cases i:c=0
       ·exact ⟨r,by simp [Aw,i],by simp [Aw,i]⟩
       ·exact ⟨c,by simp [Aw,i],by simp [Aw,i]⟩
  ·have d:¬((k:Nat):Int)<((l.length:Nat):Int):=by omega
   simp only [d,if_false];exact ⟨0,rfl,rfl⟩
theorem y18 (n:Nat)(e:10000000<n)(a:Aut)(d:0<=a.fScopes/\a.fScopes<=64)(c:0<=a.fVars/\a.fVars<=16)(l:List Gd)(f:l.length<=1100000)(b:∀ g∈l,WfE g.fCond):∃ r:Int,Uh n a l=some r/\Vu n a l=some r:=by
 unfold Uh Vu;simp only [aB,A5];by_cases h:64<((l.length:Nat):Int)
 ·simp_all
 ·simp only [h,if_false];have:=ze7 n e a d c l f b n 0 (by omega) (by omega);omega
theorem zm2 (n:Nat)(sc:Int)(l:List Int)(i:Nat)(hi:i<l.length)(a:l.length<=1100000)(K:Option Int):∀ (m k:Nat),k<=i->i<m+k->Pf n sc l (i:Int) K m (k:Int)=if ((l.take i).drop k).any (fun h=>decide (l[i]=h))=true then some 7 else K
 |0,k,h1,b=>by omega
 |m+1,k,h1,b=>by
  unfold Pf;simp only [A5];by_cases h:k<i
  ·rw [if_pos (by omega),A9 (by omega:k<l.length),A9 hi,zu7 h (by omega),Ad k (by omega),zm2 n sc l i hi a K m (k+1) (by omega) (by omega)];grind
  ·rw [if_neg (by omega),aC (by simp;omega)];simp
theorem zdx (n:Nat)(t:10000000<n)(a:Aut)(s:0<=a.fScopes/\a.fScopes<=64)(A:List (List Int))(j:Int)(l:List Int)(g:l.length<=1100000)(K:Option Int):∀ (m k:Nat),k<=l.length->l.length<m+k->∃ r:Int,Ku n a.fScopes l (some 0) m (k:Int)=some r/\Hc n A a j l K m (k:Int)=(if r=0 then K else some r)/\(r=0->∀ y∈l.drop k,0<=y/\y<a.fScopes)
 |0,k,h1,u=>by omega
 |m+1,k,h1,u=>by
  unfold Ku Hc;simp only [aB,A5,Ah,Xr,zik];by_cases h:k<l.length
  ·have c:((k:Nat):Int)<((l.length:Nat):Int):=by omega
   simp only [c,if_true,A9 h,A3];rw [Cq _ (by omega),Ww];obtain ⟨r,q,p,x⟩:=zdx n t a s A j l g K m (k+1) (by omega) (by omega);have o:=zm2 n a.fScopes l k h g (Ku n a.fScopes l (some 0) m (aD .i64 ((k:Int)+1))) n 0 (by omega) (by omega);simp only [aA,aG] at o;have i:=Eb (l:=l) (a:=0) (b:=k) (Nat.zero_le _) (by omega) (fun e=>bnd (Hi n e l[k]) fun d=>cnd d (some (7:Int)) (Hc n A a j l K m (aD .i64 ((k:Int)+1))));simp only [aA,aG] at i;rw [o,i,Zi n l[k] (l.take k) (by simp;omega) (by simp;omega),A3,Ad k (by omega),q,p];have f:(decide (0<=l[k]) && decide (l[k]<a.fScopes))=true->0<=l[k]/\l[k]<a.fScopes:=fun h=>by simpa using h
   rw [B2 l k h];revert f;generalize (decide (0<=l[k]) && decide (l[k]<a.fScopes))=w;generalize ((l.take k).any fun y=>decide (l[k]=y))=v;intro f;cases w with
   |false=>exact ⟨2,by simp [Aw],by simp [Aw],fun h=>by cases h⟩
   |true=>cases v with
    |true=>exact ⟨7,by simp [Aw],by simp [Aw],fun h=>by cases h⟩
    |false =>
     refine ⟨r,by simp [Aw],by simp [Aw],fun h y z=>?_⟩;grind
  ·have c:¬((k:Nat):Int)<((l.length:Nat):Int):=by omega
   simp only [c,if_false];grind
theorem zsg (n:Nat)(x:Ed)(a:Aut)(c:x.fLimits.length<=1100000)(K K':List Int->Option Int)(r:Option Int)(h1:K (x.fLimits.map (·.fScope))=r):∀ (m k:Nat) (acc:List Int),k<=x.fLimits.length->x.fLimits.length<m+k->acc=(x.fLimits.take k).map (·.fScope)->Pz n x a K m ((k:Int),acc)=r
 |0,k,acc,e,d,_=>by omega
 |m+1,k,acc,e,d,b=>by
  unfold Pz;simp only [aB,A5];by_cases h:k<x.fLimits.length
  ·rw [if_pos (by omega),A9 h,Bu (by subst b;simp;omega) (by omega),Ad k (by omega)];exact zsg n x a c K K' r h1 m (k+1) _ (by omega) (by omega) (by subst b;rw [aF h,map_append];rfl)
  grind
theorem zcb (n:Nat)(l:List C4)(b:l.length<=1100000):∀ (m k:Nat) (acc:List Int),k<=l.length->l.length<m+k->acc=(l.take k).map (·.fScope)->Rb n l (fun y=>some y) m ((k:Int),acc)=some (l.map (·.fScope))
 |0,k,acc,d,c,_=>by omega
 |m+1,k,acc,d,c,a=>by
  unfold Rb;simp only [aB,A5];by_cases h:k<l.length
  ·rw [if_pos (by omega),A9 h,Bu (by subst a;simp;omega) (by omega),Ad k (by omega)];exact zcb n l b m (k+1) _ (by omega) (by omega) (by subst a;rw [aF h,map_append];rfl)
  grind
theorem zxg (n:Nat)(b:10000000<n)(l:List C4)(a:l.length<=1100000):S3 n l=some (l.map (·.fScope)):=by
 unfold S3;exact zcb n l a n 0 [] (by omega) (by omega) (by simp)
theorem zm3 (n:Nat)(x:Ed)(a:x.fLimits.length<=1100000):∀ (m k:Nat),k<=x.fLimits.length->x.fLimits.length<m+k->L3 n x (some 0) m (k:Int)=some (if (x.fLimits.drop k).any (fun l=>decide (l.fSpan<0) || decide (1099511627776<l.fSpan))=true then 2 else 0)
 |0,k,h1,c=>by omega
 |m+1,k,h1,c=>by
  unfold L3;simp only [aB,A5,Xr,A3];by_cases h:k<x.fLimits.length
  ·rw [if_pos (by omega),A9 h,B2 _ k h,any_cons,Ad k (by omega),zm3 n x a m (k+1) (by omega) (by omega)];generalize (decide (x.fLimits[k].fSpan<0) || decide (1099511627776<x.fLimits[k].fSpan))=b;cases b<;>simp [Aw]
  grind
theorem y49 (n:Nat)(G:10000000<n)(a:Aut)(M:0<=a.fScopes/\a.fScopes<=64)(x:Ed)(d:WfX x):∃ r:Int,Re n a x=some r /\
  (bnd (S3 n x.fLimits) fun v=>bnd (Vt n a ([x.fOpens,x.fCloses,x.fInside,v])) fun q=>if q=0 then (bnd (Po n x.fLimits) fun u=>cnd u (some (2:Int)) (some 0)) else some q)=some r/\(r=0->∀ y∈x.fOpens,0<=y/\y<a.fScopes):=by
 have s:=zm3 n x d.ll n 0 (by omega) (by have:=d.ll;omega);simp only [aA,aG] at s;rw [zxg n G x.fLimits d.ll,A3];have z:=zv2 n (fun l=>decide (l.fSpan<0) || decide (1099511627776<l.fSpan)) x.fLimits (by have:=d.ll;omega) (by have:=d.ll;omega) (fun y _=>by
  unfold Mz;simp only [Ay,Al,Ml,A5];grind)
 rw [z];simp only [A3];have w:(x.fLimits.map (·.fScope)).length<=1100000:=by rw [aB];exact d.ll
 generalize N:x.fLimits.map (·.fScope)=S at *;generalize (x.fLimits.any fun l=>decide (l.fSpan<0) || decide (1099511627776<l.fSpan))=sp at *;unfold Vt
 -- the four lists
 have step:∀ (l:List Int),l.length<=1100000->∀ (j:Int) (K:Option Int),∃ r:Int,R2 n l a.fScopes=some r/\Hc n [x.fOpens,x.fCloses,x.fInside,S] a j l K n 0=(if r=0 then K else some r)/\(r=0->∀ y∈l,0<=y/\y<a.fScopes):=fun l t j K=>by
  have:=zdx n G a M [x.fOpens,x.fCloses,x.fInside,S] j l t K n 0 (by omega) (by omega);unfold R2;simp_all
 have uq:∀ l:List Int,l.length<=1100000->∃ r:Int,R2 n l a.fScopes=some r/\(∀ (j:Int) (K:Option Int),Hc n [x.fOpens,x.fCloses,x.fInside,S] a j l K n 0=if r=0 then K else some r)/\(r=0->∀ y∈l,0<=y/\y<a.fScopes):=fun l t=>by
  obtain ⟨r,L,_,H⟩:=step l t 0 none;refine ⟨r,L,fun j K=>?_,H⟩;obtain ⟨Y,J,I,_⟩:=step l t j K;simp_all
 obtain ⟨p,X,T,O⟩:=uq x.fOpens d.lo;obtain ⟨o,W,R,_⟩:=uq x.fCloses d.lcl;obtain ⟨k,V,Q,_⟩:=uq x.fInside d.li;obtain ⟨g,U,P,_⟩:=uq S w;have w0:aD .i64 ((0:Int)+1)=1:=by decide
 have w1:aD .i64 ((1:Int)+1)=2:=by decide
 have B:aD .i64 ((2:Int)+1)=3:=by decide
 have A:aD .i64 ((3:Int)+1)=4:=by decide
 have F:∀ K:List Int->Option Int,idx ([x.fOpens,x.fCloses,x.fInside,S]:List (List Int)) 0 K=K x.fOpens:=fun K=>by have:=A9 (l:=[x.fOpens,x.fCloses,x.fInside,S]) (i:=0) (by simp) K;simpa using this
 have E:∀ K:List Int->Option Int,idx ([x.fOpens,x.fCloses,x.fInside,S]:List (List Int)) 1 K=K x.fCloses:=fun K=>by have:=A9 (l:=[x.fOpens,x.fCloses,x.fInside,S]) (i:=1) (by simp) K;simpa using this
 have D:∀ K:List Int->Option Int,idx ([x.fOpens,x.fCloses,x.fInside,S]:List (List Int)) 2 K=K x.fInside:=fun K=>by have:=A9 (l:=[x.fOpens,x.fCloses,x.fInside,S]) (i:=2) (by simp) K;simpa using this
 have C:∀ K:List Int->Option Int,idx ([x.fOpens,x.fCloses,x.fInside,S]:List (List Int)) 3 K=K S:=fun K=>by have:=A9 (l:=[x.fOpens,x.fCloses,x.fInside,S]) (i:=3) (by simp) K;simpa using this
 have hm:∃ m,n=m+1+1+1+1+1:=⟨n-5,by omega⟩;have rl:∀ K:Option Int,Gn n x a S K n 0=if p=0 then (if o=0 then (if k=0 then (if g=0 then K else some g) else some k) else some o) else some p:=fun K=>by
  obtain ⟨m,hm⟩:=hm;conv=>lhs;rw [show Gn n x a S K n 0=Gn n x a S K (m+1+1+1+1+1) 0 by rw [<-hm]]
  simp only [Gn,A5,Ah,F,E,D,C,w0,w1,B,A,X,W,V,U,A3];simp
 have pl:∀ K:Option Int,J5 n [x.fOpens,x.fCloses,x.fInside,S] a K n 0=if p=0 then (if o=0 then (if k=0 then (if g=0 then K else some g) else some k) else some o) else some p:=fun K=>by
  obtain ⟨m,hm⟩:=hm;conv=>lhs;rw [show J5 n [x.fOpens,x.fCloses,x.fInside,S] a K n 0=J5 n [x.fOpens,x.fCloses,x.fInside,S] a K (m+1+1+1+1+1) 0 by rw [<-hm]]
  simp only [J5,A5,F,E,D,C,w0,w1,B,A,aB,length_cons,length_nil,T,R,Q,P];simp
 unfold Re;have el:=zsg n x a d.ll (fun k1_0_0y=>frz 7026 <| reg <| Gn n x a k1_0_0y (L3 n x (some 0) n 0) n 0) (fun _=>none) _ rfl n 0 [] (by omega) (by have:=d.ll;omega) (by simp);simp only [aA] at el;rw [el,N,y34,Al,rl,s,pl];by_cases b:p=0;rotate_left
 ·exact ⟨p,by simp [b],by simp [b,A3],fun h=>absurd h b⟩
 by_cases c:o=0;rotate_left
 ·exact ⟨o,by simp [b,c],by simp [b,c,A3],fun h=>absurd h c⟩
 by_cases e:k=0;rotate_left
 ·exact ⟨k,by simp [b,c,e],by simp [b,c,e,A3],fun h=>absurd h e⟩
 by_cases f:g=0;rotate_left
 ·exact ⟨g,by simp [b,c,e,f],by simp [b,c,e,f,A3],fun h=>absurd h f⟩
 cases sp with
 |true=>exact ⟨2,by simp [b,c,e,f],by simp [b,c,e,f,A3,Aw],fun h=>by cases h⟩
 |false=>exact ⟨0,by simp [b,c,e,f],by simp [b,c,e,f,A3,Aw],fun _=>O b⟩
theorem zec (n:Nat)(f:10000000<n)(x:Ed)(a:Aut)(ys:List Exn)(d:x.fChecks=ys.map Av)(e:∀ y∈ys,WfE y)(j:ys.length<=1100000)(P:Prop)(K K':Option Int)(o:∃ r:Int,K=some r/\K'=some r/\(r=0->P)):∀ (m k:Nat),k<=ys.length->ys.length<m+k->∃ r:Int,Qo n x a K m (k:Int)=some r/\S4 n x a K' m (k:Int)=some r/\(r=0->P)
 |0,k,h1,p=>by omega
 |m+1,k,h1,p=>by
  unfold Qo S4;simp only [d,aB,A5,Ah];by_cases h:k<ys.length
  ·have b:((k:Nat):Int)<((ys.length:Nat):Int):=by omega
   simp only [b,if_true];have hi:∀ (Q:Exn->Option Int),idxD C3 (ys.map Av) (k:Int) Q=Q ys[k]:=fun Q=>by
    have:=Gb (l:=ys.map fun y=>(0,y)) (k:=k) (by simpa using h) Q;simp only [map_map,getElem_map] at this;exact this
   rw [hi,hi];obtain ⟨c,s,q⟩:=(e _ (aE h)).check n f;obtain ⟨r,i,g,t⟩:=zec n f x a ys d e j P K K' o m (k+1) (by omega) (by omega);rw [s,q,A3,A3,Ad k (by omega),i,g];grind
  grind
structure EdOk (a:Aut) (x:Ed):Prop where
 frm:0<=x.fFrom/\x.fFrom<a.fStates.length
 tgt:-1<=x.fTo/\x.fTo<a.fStates.length
 var:0<=x.fVar/\x.fVar<a.fVars
 opn:∀ y∈x.fOpens,0<=y/\y<a.fScopes
theorem y6z (n:Nat)(l:10000000<n)(a:Aut)(E:0<=a.fScopes/\a.fScopes<=64)(M:0<=a.fVars/\a.fVars<=16)(D:1<=a.fStates.length/\a.fStates.length<=256)(x:Ed)(e:WfX x)(before:Int):∃ r:Int,Ux n a x before=some r/\W7 n a x before=some r/\(r=0->EdOk a x):=by
 unfold Ux W7;simp only [aB,A5,Ah,Ay,Al,Xr,zik,A3];have wS:aD .i64 (((a.fStates.length:Nat):Int)-1)=((a.fStates.length:Nat):Int)-1:=Cq _ (by omega);have wV:aD .i64 (a.fVars-1)=a.fVars-1:=Cq _ (by omega);have o:∀ x:Int,(decide (x<0) || decide (15<x))=!(decide (0<=x) && decide (x<16)):=fun x=>Ww x 16
 simp only [wS,wV,Ww,o];have tailE:∃ r:Int,Ds n before x a false=some r/\E7 n before x a false=some r/\(r=0->∀ y∈x.fOpens,0<=y/\y<a.fScopes):=by
  unfold Ds E7;simp only [aB,A5,Ah,Ap];by_cases H:x.fFrom<before
  ·simp_all
  simp only [H,if_false];obtain ⟨c,J,I⟩:=e.cond.check n l;rw [J,I,A3,A3];by_cases G:c=0;rotate_left
  ·simp_all
  simp only [G,if_true];by_cases m:64<((x.fChecks.length:Nat):Int)
  ·simp_all
  simp only [m,if_false];obtain ⟨ys,t,C⟩:=e.checks;obtain ⟨r,d,j,i⟩:=y49 n l a E x e;have k:ys.length<=1100000:=by have:=e.lc;rw [t,aB] at this;exact this
  have:=zec n l x a ys t C k (∀ y∈x.fOpens,0<=y/\y<a.fScopes) (bnd (Re n a x) fun g=>some g) _ ⟨r,by rw [d,A3],j,i⟩ n 0 (by omega) (by omega);simpa only [aA] using this
 have b:Ds n before x a true=some 2/\E7 n before x a true=some 2:=by
  unfold Ds E7;exact ⟨Ao _ _,Ao _ _⟩
 obtain ⟨r,d,j,i⟩:=tailE;rw [b.1,b.2];by_cases h1:0<=x.fFrom/\x.fFrom<((a.fStates.length:Nat):Int);rotate_left
 ·have:(decide (0<=x.fFrom) && decide (x.fFrom<((a.fStates.length:Nat):Int)))=false:=by
   rw [aJ,decide_eq_false_iff_not,decide_eq_false_iff_not];omega
  exact ⟨2,by simp [this,Aw],by simp [this,Aw],fun h=>by cases h⟩
 have f:(decide (0<=x.fFrom) && decide (x.fFrom<((a.fStates.length:Nat):Int)))=true:=by simp [h1.1];omega
 by_cases u:-1<=x.fTo/\x.fTo<((a.fStates.length:Nat):Int);rotate_left
 ·have z:¬x.fTo=-1:=by omega
  have w:(decide (0<=x.fTo) && decide (x.fTo<((a.fStates.length:Nat):Int)))=false:=by
   rw [aJ,decide_eq_false_iff_not,decide_eq_false_iff_not];omega
  refine ⟨2,by simp [f,z,w,Aw],?_,fun h=>by cases h⟩;by_cases s:x.fTo < -1
  ·simp [f,s,Aw]
  ·have v:((a.fStates.length:Nat):Int)<=x.fTo:=by omega
   simp [f,s,v,Aw]
 have B:¬x.fTo < -1:=by omega
 have A:¬((a.fStates.length:Nat):Int)<=x.fTo:=by omega
 have ok:(decide (0<=x.fVar) && decide (x.fVar<a.fVars))=true->r=0->EdOk a x:=fun h F=>by
  simp only [Bool.and_eq_true,decide_eq_true_eq] at h;exact ⟨⟨h1.1,h1.2⟩,⟨u.1,u.2⟩,h,i F⟩
 have p:¬x.fTo=-1->(decide (0<=x.fTo) && decide (x.fTo<((a.fStates.length:Nat):Int)))=true:=fun h=>by grind
 revert ok;generalize (decide (0<=x.fVar) && decide (x.fVar<a.fVars))=L;generalize (decide (0<=x.fType) && decide (x.fType<16))=K;intro ok;simp only [f,B,A,if_false,Ao,Bool.not_true];cases L with
 |false =>
  refine ⟨2,?_,by simp [Aw],fun h=>by cases h⟩;by_cases q:x.fTo=-1
  ·simp [q,Aw]
  ·simp [q,p q,Aw]
 |true =>
  cases K with
  |false =>
   refine ⟨2,?_,by simp [Aw,b.2],fun h=>by cases h⟩;by_cases q:x.fTo=-1
   ·simp [q,Aw,b.1]
   ·simp [q,p q,Aw,b.1]
  |true =>
   refine ⟨r,?_,by simp [Aw,j],fun q=>ok rfl q⟩;by_cases q:x.fTo=-1
   ·simp [q,Aw,d]
   ·simp [q,p q,Aw,d]
theorem zh8 (n:Nat)(j:10000000<n)(a:Aut)(i:0<=a.fScopes/\a.fScopes<=64)(g:0<=a.fVars/\a.fVars<=16)(d:1<=a.fStates.length/\a.fStates.length<=256)(f:WfA a):∀ (m k:Nat) (before:Int),k<=a.fEdges.length->a.fEdges.length<m+k->(∀ x∈a.fEdges.take k,EdOk a x)->∃ r:Int,Q0 n a (some 0) m (before,(k:Int))=some r/\Ry n a (some 0) m (before,(k:Int))=some r/\(r=0->∀ x∈a.fEdges,EdOk a x)
 |0,k,before,h1,p,_=>by omega
 |m+1,k,before,h1,p,u=>by
  have o:=f.le;unfold Q0 Ry;simp only [aB,A5,Ah];by_cases h:k<a.fEdges.length
  ·have b:((k:Nat):Int)<((a.fEdges.length:Nat):Int):=by omega
   simp only [b,if_true,A9 h];obtain ⟨c,t,s,v⟩:=y6z n j a i g d _ (f.ed _ (aE h)) before;rw [t,s,A3,A3,Ad k (by omega)];by_cases e:c=0
   ·simp only [e,if_true];refine zh8 n j a i g d f m (k+1) _ (by omega) (by omega) (fun x l=>?_);rw [aF h,mem_append,mem_singleton] at l;grind
   ·exact ⟨c,by simp [e],by simp [e],fun q=>absurd q e⟩
  ·have b:¬((k:Nat):Int)<((a.fEdges.length:Nat):Int):=by omega
   simp only [b,if_false];grind
theorem zdw (n:Nat)(g:10000000<n)(a:Aut)(f:0<=a.fScopes/\a.fScopes<=64)(e:0<=a.fVars/\a.fVars<=16)(b:WfA a)(K K':Option Int)(P:Prop)(l:∃ r:Int,K=some r/\K'=some r/\(r=0->P)):∀ (m k:Nat),k<=a.fStates.length->a.fStates.length<m+k->∃ r:Int,Q1 n a K m (k:Int)=some r/\Rz n a K' m (k:Int)=some r/\(r=0->P)
 |0,k,h1,o=>by omega
 |m+1,k,h1,o=>by
  have i:=b.ls;unfold Q1 Rz;simp only [aB,A5,Ah];by_cases h:k<a.fStates.length
  ·have d:((k:Nat):Int)<((a.fStates.length:Nat):Int):=by omega
   simp only [d,if_true,A9 h];obtain ⟨q,p⟩:=b.st _ (aE h);obtain ⟨c,t,s⟩:=y18 n g a f e _ q p;rw [t,s,A3,A3,Ad k (by omega)];by_cases j:c=0
   ·simp only [j,if_true];exact zdw n g a f e b K K' P l m (k+1) (by omega) (by omega)
   simp_all
  grind
structure AOk (a:Aut):Prop where
 vars:0<=a.fVars/\a.fVars<=16
 st:1<=a.fStates.length/\a.fStates.length<=256
 ed:∀ x∈a.fEdges,EdOk a x
theorem ziu (n:Nat)(j:10000000<n)(a:Aut)(c:WfA a):∃ r:Int,J3 n a=some r/\N5 n a=some r/\(r=0->AOk a):=by
 have s:=c.ls;have t:=c.le;unfold J3 N5;simp only [Ay,Al,Xr,A3,A5];have e:Gp n a true=some 2/\F6 n a true=some 2:=by
  unfold Gp F6;exact ⟨Ao _ _,Ao _ _⟩
 rw [e.1,e.2];by_cases d:0<=a.fVars/\a.fVars<=16;rotate_left
 ·refine ⟨2,?_,?_,fun h=>by cases h⟩
  ·have:(decide (a.fVars<0) || decide (16<a.fVars))=true:=by
    rw [aL,decide_eq_true_eq,decide_eq_true_eq];omega
   rw [this,Ao]
  simp_all
 have g:¬a.fVars<0:=by omega
 have f:¬16<a.fVars:=by omega
 by_cases i:0<=a.fScopes/\a.fScopes<=64;rotate_left
 ·have:(decide (a.fScopes<0) || decide (64<a.fScopes))=true:=by
   rw [aL,decide_eq_true_eq,decide_eq_true_eq];omega
  refine ⟨2,by simp [g,f,this,Aw,e.1],?_,fun h=>by cases h⟩;simp_all
 have q:¬a.fScopes<0:=by omega
 have p:¬64<a.fScopes:=by omega
 simp only [g,f,q,p,if_false,decide_false,Bool.or_false,Ap];unfold Gp F6;simp only [Ay,Al,aB,A5,Ap];have k:Fq n a true=some 5/\G3 n a true=some 5:=by
  unfold Fq G3;exact ⟨Ao _ _,Ao _ _⟩
 rw [k.1,k.2];by_cases h1:((a.fStates.length:Nat):Int)<1
 ·simp_all
 by_cases v:256<((a.fStates.length:Nat):Int)
 ·simp_all
 simp only [h1,v,if_false];by_cases u:2048<((a.fEdges.length:Nat):Int)
 ·simp_all
 simp only [u,decide_false];unfold Fq G3;simp only [Ap];have b:1<=a.fStates.length/\a.fStates.length<=256:=by omega
 obtain ⟨r,o,m,l⟩:=zh8 n j a i d b c n 0 0 (by omega) (by omega) (by simp);have:=zdw n j a i d c _ _ (AOk a) ⟨r,o,m,fun h=>⟨d,b,l h⟩⟩ n 0 (by omega) (by omega);omega
abbrev T16:=Bool×Bool×Bool×Bool×Bool×Bool×Bool×Bool×Bool×Bool×Bool×Bool×Bool×Bool×Bool×Bool
def l16 (t:T16):List Bool:=[t.1,t.2.1,t.2.2.1,t.2.2.2.1,t.2.2.2.2.1,t.2.2.2.2.2.1,t.2.2.2.2.2.2.1,t.2.2.2.2.2.2.2.1,t.2.2.2.2.2.2.2.2.1,t.2.2.2.2.2.2.2.2.2.1,t.2.2.2.2.2.2.2.2.2.2.1,t.2.2.2.2.2.2.2.2.2.2.2.1,t.2.2.2.2.2.2.2.2.2.2.2.2.1,t.2.2.2.2.2.2.2.2.2.2.2.2.2.1,t.2.2.2.2.2.2.2.2.2.2.2.2.2.2.1,t.2.2.2.2.2.2.2.2.2.2.2.2.2.2.2]
theorem Ga (t:T16):(l16 t).length=16:=rfl
def own1 (i:Nat)(e:Exn):Prop:=usV e.fOp=true/\e.fVar=(i:Int)
theorem y6h (n:Nat)(e:Exn)(t:T16):∃ a:T16,Vs n e t=some (0,a)/\∀ i,i<16->((l16 a)[i]? = some true ↔ (l16 t)[i]? = some true\/own1 i e):=by
 unfold Vs;rw [y2m,A3];simp only [A5,Oa];by_cases c:usV e.fOp=true;rotate_left
 ·have b:usV e.fOp=false:=by cases h:usV e.fOp<;>simp_all
  rw [b,Ap];exact ⟨t,rfl,fun i _=>⟨Or.inl,fun h=>h.elim id (fun h=>absurd h.1 c)⟩⟩
 rw [c,Ao];have m:¬(0<=e.fVar/\e.fVar<16)->∀ i,i<16->((l16 t)[i]? = some true ↔ (l16 t)[i]? = some true\/own1 i e):=fun h i hi=>⟨Or.inl,fun g=>g.elim id (fun g=>absurd g.2 (by omega))⟩
 by_cases k:0<=e.fVar;rotate_left
 ·rw [if_neg k];simp_all
 rw [if_pos k];by_cases h1:e.fVar<16;rotate_left
 ·rw [if_neg h1];simp_all
 rw [if_pos h1];have key:∀ (j:Nat) (a:T16),e.fVar=(j:Int)->j<16->l16 a=(l16 t).set j true->∀ i,i<16->((l16 a)[i]? = some true ↔ (l16 t)[i]? = some true\/own1 i e):=fun j a o d l i hi=>by
  rw [l,getElem?_set];unfold own1;by_cases f:j=i
  ·subst f;simp [Ga,d,c,o]
  grind
 have:e.fVar=0\/e.fVar=1\/e.fVar=2\/e.fVar=3\/e.fVar=4\/e.fVar=5\/e.fVar=6\/e.fVar=7\/e.fVar=8\/e.fVar=9\/e.fVar=10\/e.fVar=11\/e.fVar=12\/e.fVar=13\/e.fVar=14\/e.fVar=15:=by omega
 rcases this with h|h|h|h|h|h|h|h|h|h|h|h|h|h|h|h
 ·rw [h];exact ⟨_,rfl,key 0 _ h (by decide) rfl⟩
 ·rw [h];exact ⟨_,rfl,key 1 _ h (by decide) rfl⟩
 ·rw [h];exact ⟨_,rfl,key 2 _ h (by decide) rfl⟩
 ·rw [h];exact ⟨_,rfl,key 3 _ h (by decide) rfl⟩
 ·rw [h];exact ⟨_,rfl,key 4 _ h (by decide) rfl⟩
 ·rw [h];exact ⟨_,rfl,key 5 _ h (by decide) rfl⟩
 ·rw [h];exact ⟨_,rfl,key 6 _ h (by decide) rfl⟩
 ·rw [h];exact ⟨_,rfl,key 7 _ h (by decide) rfl⟩
 ·rw [h];exact ⟨_,rfl,key 8 _ h (by decide) rfl⟩
 ·rw [h];exact ⟨_,rfl,key 9 _ h (by decide) rfl⟩
 ·rw [h];exact ⟨_,rfl,key 10 _ h (by decide) rfl⟩
 ·rw [h];exact ⟨_,rfl,key 11 _ h (by decide) rfl⟩
 ·rw [h];exact ⟨_,rfl,key 12 _ h (by decide) rfl⟩
 ·rw [h];exact ⟨_,rfl,key 13 _ h (by decide) rfl⟩
 ·rw [h];exact ⟨_,rfl,key 14 _ h (by decide) rfl⟩
 ·rw [h];exact ⟨_,rfl,key 15 _ h (by decide) rfl⟩
theorem y8z {x y:Exn}(h:Av x=Av y):x=y:=by
 have:=congrArg C3 h;rw [N9,N9] at this;exact Option.some.inj this
theorem zqd {i:Nat}{l:List (Nat×Exn)}{e:Exn}(f:e.fArgs=l.map (fun p=>Av p.2)):Occ i e ↔ own1 i e\/∃ p∈l,Occ i p.2:=by
 constructor
 ·intro h;cases h with
  |here _ h d=>exact Or.inl ⟨h,d⟩
  |sub _ y b h =>
   rw [f] at b;obtain ⟨p,c,a⟩:=mem_map.1 b;exact Or.inr ⟨p,c,by rw [y8z a];exact h⟩
 ·rintro (h|⟨p,c,h⟩)
  ·exact .here _ h.1 h.2
  ·exact .sub _ p.2 (by grind) h
theorem zdt (n:Nat)(l:List (Nat×Exn))(e:Exn)(d:e.fArgs=l.map (fun p=>Av p.2))(j:l.length<=4000000)
  (c:∀ p∈l,∀ t:T16,∃ a:T16,Jf n p.2 t=some (0,a)/\∀ i,i<16->((l16 a)[i]? = some true ↔ (l16 t)[i]? = some true\/Occ i p.2)) (b:T16) :
  ∀ (m k:Nat) (t:T16),k<=l.length->l.length<m+k->(∀ i,i<16->((l16 t)[i]? = some true ↔ (l16 b)[i]? = some true\/own1 i e\/∃ p∈l.take k,Occ i p.2)) ->
   ∃ a:T16,Rw n (Jf n) e (fun k1_0_0y0 k1_0_0y1 k1_0_0y2 k1_0_0y3 k1_0_0y4 k1_0_0y5 k1_0_0y6 k1_0_0y7 k1_0_0y8 k1_0_0y9 k1_0_0y10 k1_0_0y11 k1_0_0y12 k1_0_0y13 k1_0_0y14 k1_0_0y15=>some (0,(k1_0_0y0,k1_0_0y1,k1_0_0y2,k1_0_0y3,k1_0_0y4,k1_0_0y5,k1_0_0y6,k1_0_0y7,k1_0_0y8,k1_0_0y9,k1_0_0y10,k1_0_0y11,k1_0_0y12,k1_0_0y13,k1_0_0y14,k1_0_0y15))) m ((k:Int),t)=some (0,a)/\∀ i,i<16->((l16 a)[i]? = some true ↔ (l16 b)[i]? = some true\/own1 i e\/∃ p∈l,Occ i p.2)
 |0,k,t,h1,q,_=>by omega
 |m+1,k,t,h1,q,o=>by
  unfold Rw;simp only [d,aB,A5,Ah];by_cases h:k<l.length
  ·rw [if_pos (by omega),Gb h];obtain ⟨a,g,f⟩:=c l[k] (aE h) t;rw [g,Cd,if_pos rfl,Ad k (by omega)];refine zdt n l e d j c b m (k+1) a (by omega) (by omega) (fun i hi=>?_);rw [f i hi,o i hi,aF h];simp only [mem_append,mem_singleton];grind
  ·rw [if_neg (by omega)];grind
theorem y0u:∀ (s:Nat) (e:Exn),ETr s e->s<=4000000->∀ n,s+1<n->∀ t:T16,∃ b:T16,Jf n e t=some (0,b)/\∀ i,i<16->((l16 b)[i]? = some true ↔ (l16 t)[i]? = some true\/Occ i e):=by
 intro s
 induction s using Nat.strongRecOn with
 |ind s IH =>
  intro e o q n r t;cases o with
  |mk l e h d =>
   obtain ⟨a,rfl⟩:∃ a,n=a + 1:=⟨n-1,by omega⟩;have u:=T7 (l:=l) (fun p c=>(h p c).pos);simp only [Jf];obtain ⟨f,m,k⟩:=y6h a e t;rw [m,Cd,Ah,A5,if_pos rfl];obtain ⟨b,j,g⟩:=zdt a l e d (by omega) (fun p c t=>by
    have:=Jt c;exact IH p.1 (by omega) p.2 (h p c) (by omega) a (by omega) t) t a 0 f (by omega) (by omega) (fun i hi=>by
     rw [k i hi];simp)
   exact ⟨b,j,fun i hi=>by rw [g i hi,zqd d]⟩
def Fk (t:T16)(k:Nat):List Int:=((l16 t).zipIdx.drop k).filterMap (fun p=>if p.1 then some (p.2:Int) else none)
theorem y1u (t:T16)(k:Nat)(h:k<16):Fk t k=(if (l16 t)[k]'(by rw [Ga];exact h)=true then [(k:Int)] else [])++Fk t (k+1):=by
 unfold Fk;have a:k<(l16 t).zipIdx.length:=by rw [aH,Ga];exact h
 rw [drop_eq_getElem_cons a,filterMap_cons];grind
theorem zdu (n:Nat)(t:T16)(K:List Int->Option (List Int)):∀ (m k:Nat) (out:List Int),k<=16->16<m+k->out.length<=k->Bs n (0,t) K m ((k:Int),out)=K (out++Fk t k)
 |0,k,out,h1,d,_=>by omega
 |m+1,k,out,h1,d,e=>by
  by_cases h:k=16
  ·subst h;unfold Bs;simp only [A5];rw [if_neg (by omega)];have:Fk t 16=[]:=by unfold Fk;rw [aC (by rw [aH,Ga];omega)];rfl
   rw [this,append_nil]
  ·have a:k<16:=by omega
   have iha:=zdu n t K m (k+1) (out++[(k:Int)]) (by omega) (by omega) (by simp;omega);have ihb:=zdu n t K m (k+1) out (by omega) (by omega) (by omega);rw [y1u t k a];have step:∀ (b:Bool),(l16 t)[k]'(by rw [Ga];exact a)=b->reg (cnd b (app out [(k:Int)] 8 fun x=>Bs n (0,t) K m ((aD .i64 ((k:Int)+1)),x)) (Bs n (0,t) K m ((aD .i64 ((k:Int)+1)),out)))=K (out++((if (l16 t)[k]'(by rw [Ga];exact a)=true then [(k:Int)] else [])++Fk t (k+1))):=fun b c=>by
    rw [c,Al,Bu (by simp;omega) (by omega),Ad k (by omega),iha,ihb];cases b
    ·rw [Ap];simp
    ·rw [Ao];simp
   unfold Bs;simp only [A5,Oa];have:k=0\/k=1\/k=2\/k=3\/k=4\/k=5\/k=6\/k=7\/k=8\/k=9\/k=10\/k=11\/k=12\/k=13\/k=14\/k=15:=by omega
   rcases this with rfl|rfl|rfl|rfl|rfl|rfl|rfl|rfl|rfl|rfl|rfl|rfl|rfl|rfl|rfl|rfl<;>exact step _ rfl
theorem y4v (t:T16)(k:Nat)(v:Int):v∈Fk t k ↔ ∃ i:Nat,k<=i/\i<16/\v=(i:Int)/\(l16 t)[i]? = some true:=by
 unfold Fk;rw [mem_filterMap];constructor
 ·rintro ⟨⟨b,i⟩,hm,d⟩;obtain ⟨j,c,a⟩:=mem_iff_getElem.1 hm;rw [getElem_drop,getElem_zipIdx] at a;injection a with h g
  rw [aK,aH,Ga] at c;grind
 ·rintro ⟨i,h1,f,rfl,e⟩;refine ⟨(true,i),?_,by simp⟩;refine mem_iff_getElem.2 ⟨i-k,by rw [aK,aH,Ga];omega,?_⟩;grind
theorem zdv {e:Exn}(c:WfE e)(n:Nat)(g:10000000<n):∃ vs:List Int,Sm n e=some vs/\vs.length<=16/\∀ v,v∈vs ↔ ∃ i:Nat,i<16/\v=(i:Int)/\Occ i e:=by
 obtain ⟨z,b,d⟩:=c;obtain ⟨t,a,f⟩:=y0u z e d b n (by omega) (false,false,false,false,false,false,false,false,false,false,false,false,false,false,false,false);have j:∀ i:Nat,¬(l16 (false,false,false,false,false,false,false,false,false,false,false,false,false,false,false,false))[i]? = some true:=fun i h=>by
  obtain ⟨hi,h⟩:=List.getElem?_eq_some_iff.1 h;rw [Ga] at hi;have:i=0\/i=1\/i=2\/i=3\/i=4\/i=5\/i=6\/i=7\/i=8\/i=9\/i=10\/i=11\/i=12\/i=13\/i=14\/i=15:=by omega
  rcases this with rfl|rfl|rfl|rfl|rfl|rfl|rfl|rfl|rfl|rfl|rfl|rfl|rfl|rfl|rfl|rfl<;>cases h
 refine ⟨Fk t 0,?_,?_,fun v=>?_⟩
 ·unfold Sm;rw [a,Cd];have:=zdu n t (fun y=>some y) n 0 [] (by omega) (by omega) (by simp);simpa using this
 ·unfold Fk;refine Nat.le_trans (length_filterMap_le _ _) ?_;rw [aK,aH,Ga];omega
 ·rw [y4v];grind
end Go.Proofs.YtidhlpjgifoneaaGreat
