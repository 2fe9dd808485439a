/- Searching in slices, plainly. -/
import Derived.Test.YtidhlpjgifoneaaGreatK29
set_option linter.unusedVariables false
set_option linter.unusedSimpArgs false
namespace Go.Proofs.YtidhlpjgifoneaaGreat
open Go.RowKit List
def fidx {α:Type}(p:α->Bool)(l:List α):Int:=match l.findIdx? p with|some j=>(j:Int)|none=>-1
theorem zph {α:Type}(p:α->Bool)(l:List α):decide (0<=fidx p l)=l.any p:=by
 unfold fidx;grind
def zvu {α:Type}(p:α->Bool)(k:Nat)(l:List α):Int:=match l.findIdx? p with|some j=>((k+j:Nat):Int)|none=>-1
theorem zha {α:Type}(p:α->Bool)(k:Nat)(x:α)(l:List α):zvu p k (x::l)=if p x=true then (k:Int) else zvu p (k+1) l:=by
 unfold zvu;grind
theorem zh9 {α:Type}(p:α->Bool)(l:List α):zvu p 0 l=fidx p l:=by
 unfold zvu fidx;simp_all
theorem y8c (n:Nat)(x:Int)(l:List Int)(a:l.length<=1000000000):∀ (m k:Nat),k<=l.length->l.length<m+k->zcy n x l (some (-1)) m (k:Int)=some (zvu (fun y=>decide (x=y)) k (l.drop k))
 |0,k,h1,b=>by omega
 |m+1,k,h1,b=>by
  unfold zcy;simp only [length_map,z0f];by_cases h:k<l.length
  ·rw [if_pos (by omega),z0r h,z0e l k h,zha,z27 k (by omega),y8c n x l a m (k+1) (by omega) (by omega)];grind
  ·rw [if_neg (by omega),drop_eq_nil_of_le (by omega)];rfl
theorem zt8 (n:Nat)(x:Int)(l:List Int)(a:l.length<=1000000000)(b:l.length<n):z8o n l x=some (l.any fun y=>decide (x=y)):=by
 unfold z8o zj5;have:=y8c n x l a n 0 (by omega) (by omega);simp only [Int.natCast_zero,drop_zero,zh9] at this;rw [this,z05,zph]
theorem y2q (n:Nat)(a1c0:z0w)(p:z0w->Bool)(l:List z0w)(b:l.length<=1000000000)(a:∀ x∈l,zax n x a1c0=some (p x)):∀ (m k:Nat),k<=l.length->l.length<m+k->za5 n a1c0 l (some (-1)) m (k:Int)=some (zvu p k (l.drop k))
 |0,k,h1,c=>by omega
 |m+1,k,h1,c=>by
  unfold za5;simp only [length_map,z0f];by_cases h:k<l.length
  ·rw [if_pos (by omega),z0r h,z0e l k h,zha,a _ (getElem_mem h),z05,z27 k (by omega),y2q n a1c0 p l b a m (k+1) (by omega) (by omega)];cases p l[k]<;>simp [z52]
  ·rw [if_neg (by omega),drop_eq_nil_of_le (by omega)];rfl
theorem yo6 (n:Nat)(a1c0:z0w)(p:z0w->Bool)(l:List z0w)(a:l.length<=1000000000)(c:l.length<n)(b:∀ x∈l,zax n x a1c0=some (p x)):zee n l a1c0=some (fidx p l):=by
 unfold zee;have:=y2q n a1c0 p l a b n 0 (by omega) (by omega);simpa only [Int.natCast_zero,drop_zero,zh9] using this
theorem yqm (n:Nat)(a1c0:z0w)(p:z0w->Bool)(l:List z0w)(b:l.length<=1000000000)(a:l.length<n)(c:∀ x∈l,zax n x a1c0=some (p x)):za6 n l a1c0=some (l.any p):=by
 unfold za6;rw [yo6 n a1c0 p l b a c,z05,zph]
theorem zua (n:Nat)(p:z1j->Bool)(l:List z1j)(b:l.length<=1000000000)(a:∀ x∈l,zao n x=some (p x)):∀ (m k:Nat),k<=l.length->l.length<m+k->z6j n l (some (-1)) m (k:Int)=some (zvu p k (l.drop k))
 |0,k,h1,c=>by omega
 |m+1,k,h1,c=>by
  unfold z6j;simp only [length_map,z0f];by_cases h:k<l.length
  ·rw [if_pos (by omega),z0r h,z0e l k h,zha,a _ (getElem_mem h),z05,z27 k (by omega),zua n p l b a m (k+1) (by omega) (by omega)];cases p l[k]<;>simp [z52]
  ·rw [if_neg (by omega),drop_eq_nil_of_le (by omega)];rfl
theorem ybm (n:Nat)(p:z1j->Bool)(l:List z1j)(a:l.length<=1000000000)(c:l.length<n)(b:∀ x∈l,zao n x=some (p x)):zbd n l=some (fidx p l):=by
 unfold zbd;have:=zua n p l a b n 0 (by omega) (by omega);simpa only [Int.natCast_zero,drop_zero,zh9] using this
theorem yg5 (n:Nat)(p:z1j->Bool)(l:List z1j)(b:l.length<=1000000000)(a:l.length<n)(c:∀ x∈l,zao n x=some (p x)):z6k n l=some (l.any p):=by
 unfold z6k;rw [ybm n p l b a c,z05,zph]
theorem zu7 (n:Nat)(a1c0:z03)(p:z0g->Bool)(l:List z0g)(b:l.length<=1000000000)(a:∀ x∈l,zgy n (⟨x.fVar,⟨x.fRef.fTime,x.fRef.fSource,x.fRef.fSeq⟩⟩:z0g) a1c0=some (p x)):∀ (m k:Nat),k<=l.length->l.length<m+k->z6h n a1c0 l (some (-1)) m (k:Int)=some (zvu p k (l.drop k))
 |0,k,h1,c=>by omega
 |m+1,k,h1,c=>by
  unfold z6h;simp only [length_map,z0f];by_cases h:k<l.length
  ·rw [if_pos (by omega),z0r h,z0e l k h,zha,a _ (getElem_mem h),z05,z27 k (by omega),zu7 n a1c0 p l b a m (k+1) (by omega) (by omega)];cases p l[k]<;>simp [z52]
  ·rw [if_neg (by omega),drop_eq_nil_of_le (by omega)];rfl
theorem ybk (n:Nat)(a1c0:z03)(p:z0g->Bool)(l:List z0g)(a:l.length<=1000000000)(c:l.length<n)(b:∀ x∈l,zgy n (⟨x.fVar,⟨x.fRef.fTime,x.fRef.fSource,x.fRef.fSeq⟩⟩:z0g) a1c0=some (p x)):zbb n l a1c0=some (fidx p l):=by
 unfold zbb;have:=zu7 n a1c0 p l a b n 0 (by omega) (by omega);simpa only [Int.natCast_zero,drop_zero,zh9] using this
theorem yg3 (n:Nat)(a1c0:z03)(p:z0g->Bool)(l:List z0g)(b:l.length<=1000000000)(a:l.length<n)(c:∀ x∈l,zgy n (⟨x.fVar,⟨x.fRef.fTime,x.fRef.fSource,x.fRef.fSeq⟩⟩:z0g) a1c0=some (p x)):z9i n l a1c0=some (l.any p):=by
 unfold z9i;rw [ybk n a1c0 p l b a c,z05,zph]
theorem zu8 (n:Nat)(a1c0:z03)(p:z00->Bool)(l:List z00)(b:l.length<=1000000000)(a:∀ x∈l,zgz n x a1c0=some (p x)):∀ (m k:Nat),k<=l.length->l.length<m+k->z6i n a1c0 l (some (-1)) m (k:Int)=some (zvu p k (l.drop k))
 |0,k,h1,c=>by omega
 |m+1,k,h1,c=>by
  unfold z6i;simp only [length_map,z0f];by_cases h:k<l.length
  ·rw [if_pos (by omega),z0r h,z0e l k h,zha,a _ (getElem_mem h),z05,z27 k (by omega),zu8 n a1c0 p l b a m (k+1) (by omega) (by omega)];cases p l[k]<;>simp [z52]
  ·rw [if_neg (by omega),drop_eq_nil_of_le (by omega)];rfl
theorem ybl (n:Nat)(a1c0:z03)(p:z00->Bool)(l:List z00)(a:l.length<=1000000000)(c:l.length<n)(b:∀ x∈l,zgz n x a1c0=some (p x)):zbc n l a1c0=some (fidx p l):=by
 unfold zbc;have:=zu8 n a1c0 p l a b n 0 (by omega) (by omega);simpa only [Int.natCast_zero,drop_zero,zh9] using this
theorem yg4 (n:Nat)(a1c0:z03)(p:z00->Bool)(l:List z00)(b:l.length<=1000000000)(a:l.length<n)(c:∀ x∈l,zgz n x a1c0=some (p x)):z9j n l a1c0=some (l.any p):=by
 unfold z9j;rw [ybl n a1c0 p l b a c,z05,zph]
theorem zrt (n:Nat)(a1c0:z0h)(a1c1:z03)(p:z0w->Bool)(l:List z0w)(b:l.length<=1000000000)(a:∀ x∈l,z43 n x (⟨a1c0.fVars⟩:z0h) a1c1=some (p x)):∀ (m k:Nat),k<=l.length->l.length<m+k->z5i n a1c1 a1c0 l (some (-1)) m (k:Int)=some (zvu p k (l.drop k))
 |0,k,h1,c=>by omega
 |m+1,k,h1,c=>by
  unfold z5i;simp only [length_map,z0f];by_cases h:k<l.length
  ·rw [if_pos (by omega),z0r h,z0e l k h,zha,a _ (getElem_mem h),z05,z27 k (by omega),zrt n a1c0 a1c1 p l b a m (k+1) (by omega) (by omega)];cases p l[k]<;>simp [z52]
  ·rw [if_neg (by omega),drop_eq_nil_of_le (by omega)];rfl
theorem y8b (n:Nat)(a1c0:z0h)(a1c1:z03)(p:z0w->Bool)(l:List z0w)(a:l.length<=1000000000)(c:l.length<n)(b:∀ x∈l,z43 n x (⟨a1c0.fVars⟩:z0h) a1c1=some (p x)):zal n l a1c0 a1c1=some (fidx p l):=by
 unfold zal;have:=zrt n a1c0 a1c1 p l a b n 0 (by omega) (by omega);simpa only [Int.natCast_zero,drop_zero,zh9] using this
theorem ybo (n:Nat)(a1c0:z0h)(a1c1:z03)(p:z0w->Bool)(l:List z0w)(b:l.length<=1000000000)(a:l.length<n)(c:∀ x∈l,z43 n x (⟨a1c0.fVars⟩:z0h) a1c1=some (p x)):z8v n l a1c0 a1c1=some (l.any p):=by
 unfold z8v;rw [y8b n a1c0 a1c1 p l b a c,z05,zph]
theorem zrs (n:Nat)(a1c0:z0t)(a1c1:z0h)(a1c2:z03)(p:z0w->Bool)(l:List z0w)(b:l.length<=1000000000)(a:∀ x∈l,z3s n x a1c0 (⟨a1c1.fVars⟩:z0h) a1c2=some (p x)):∀ (m k:Nat),k<=l.length->l.length<m+k->z5h n a1c2 a1c1 a1c0 l (some (-1)) m (k:Int)=some (zvu p k (l.drop k))
 |0,k,h1,c=>by omega
 |m+1,k,h1,c=>by
  unfold z5h;simp only [length_map,z0f];by_cases h:k<l.length
  ·rw [if_pos (by omega),z0r h,z0e l k h,zha,a _ (getElem_mem h),z05,z27 k (by omega),zrs n a1c0 a1c1 a1c2 p l b a m (k+1) (by omega) (by omega)];cases p l[k]<;>simp [z52]
  ·rw [if_neg (by omega),drop_eq_nil_of_le (by omega)];rfl
theorem y8a (n:Nat)(a1c0:z0t)(a1c1:z0h)(a1c2:z03)(p:z0w->Bool)(l:List z0w)(a:l.length<=1000000000)(c:l.length<n)(b:∀ x∈l,z3s n x a1c0 (⟨a1c1.fVars⟩:z0h) a1c2=some (p x)):zak n l a1c0 a1c1 a1c2=some (fidx p l):=by
 unfold zak;have:=zrs n a1c0 a1c1 a1c2 p l a b n 0 (by omega) (by omega);simpa only [Int.natCast_zero,drop_zero,zh9] using this
theorem ybn (n:Nat)(a1c0:z0t)(a1c1:z0h)(a1c2:z03)(p:z0w->Bool)(l:List z0w)(b:l.length<=1000000000)(a:l.length<n)(c:∀ x∈l,z3s n x a1c0 (⟨a1c1.fVars⟩:z0h) a1c2=some (p x)):z8u n l a1c0 a1c1 a1c2=some (l.any p):=by
 unfold z8u;rw [y8a n a1c0 a1c1 a1c2 p l b a c,z05,zph]
theorem zrr (n:Nat)(a1c0:z1j)(p:z0a->Bool)(l:List z0a)(b:l.length<=1000000000)(a:∀ x∈l,zhs n x a1c0=some (p x)):∀ (m k:Nat),k<=l.length->l.length<m+k->z5g n a1c0 l (some (-1)) m (k:Int)=some (zvu p k (l.drop k))
 |0,k,h1,c=>by omega
 |m+1,k,h1,c=>by
  unfold z5g;simp only [length_map,z0f];by_cases h:k<l.length
  ·rw [if_pos (by omega),z0r h,z0e l k h,zha,a _ (getElem_mem h),z05,z27 k (by omega),zrr n a1c0 p l b a m (k+1) (by omega) (by omega)];cases p l[k]<;>simp [z52]
  ·rw [if_neg (by omega),drop_eq_nil_of_le (by omega)];rfl
theorem y89 (n:Nat)(a1c0:z1j)(p:z0a->Bool)(l:List z0a)(a:l.length<=1000000000)(c:l.length<n)(b:∀ x∈l,zhs n x a1c0=some (p x)):zaj n l a1c0=some (fidx p l):=by
 unfold zaj;have:=zrr n a1c0 p l a b n 0 (by omega) (by omega);simpa only [Int.natCast_zero,drop_zero,zh9] using this
theorem zrq (n:Nat)(a1c0:z0t)(p:z0a->Bool)(l:List z0a)(b:l.length<=1000000000)(a:∀ x∈l,z5x n x a1c0=some (p x)):∀ (m k:Nat),k<=l.length->l.length<m+k->z5f n a1c0 l (some (-1)) m (k:Int)=some (zvu p k (l.drop k))
 |0,k,h1,c=>by omega
 |m+1,k,h1,c=>by
  unfold z5f;simp only [length_map,z0f];by_cases h:k<l.length
  ·rw [if_pos (by omega),z0r h,z0e l k h,zha,a _ (getElem_mem h),z05,z27 k (by omega),zrq n a1c0 p l b a m (k+1) (by omega) (by omega)];cases p l[k]<;>simp [z52]
  ·rw [if_neg (by omega),drop_eq_nil_of_le (by omega)];rfl
theorem y88 (n:Nat)(a1c0:z0t)(p:z0a->Bool)(l:List z0a)(a:l.length<=1000000000)(c:l.length<n)(b:∀ x∈l,z5x n x a1c0=some (p x)):zai n l a1c0=some (fidx p l):=by
 unfold zai;have:=zrq n a1c0 p l a b n 0 (by omega) (by omega);simpa only [Int.natCast_zero,drop_zero,zh9] using this
abbrev Gd:=z0w
abbrev Stt:=zd9
abbrev Ed:=z0t
abbrev Aut:=z07
def WfE (e:Exn):Prop:=∃ z,z<=4000000/\ETr z e
structure WfX (x:Ed):Prop where
 cond:WfE x.fCond
 checks:∃ ys:List Exn,x.fChecks=ys.map z0n/\∀ y∈ys,WfE y
 lc:x.fChecks.length<=1100000
 lo:x.fOpens.length<=1100000
 lcl:x.fCloses.length<=1100000
 li:x.fInside.length<=1100000
 ll:x.fLimits.length<=1100000
structure WfA (a:Aut):Prop where
 ls:a.fStates.length<=1100000
 le:a.fEdges.length<=1100000
 st:∀ s∈a.fStates,s.fGuards.length<=1100000/\∀ g∈s.fGuards,WfE g.fCond
 ed:∀ x∈a.fEdges,WfX x
theorem WfE.check {e:Exn}(h:WfE e)(n:Nat)(f:10000000<n):∃ r:Int,z2z n e=some r/\zek n e=some r:=by
 obtain ⟨z,c,d⟩:=h;obtain ⟨r,b,a,_⟩:=yib z e d c n (by omega);exact ⟨r,b,a⟩
theorem yi4 (n:Nat)(a b:Int):z1c n a b=some (decide (a<0) || decide (b<a)):=by
 unfold z1c;simp only [z3g,z1s,z6y,z0f];by_cases h:a<0<;>simp [h]
theorem y48 (n:Nat)(a b:Int):z3v n a b=some (decide (0<=a) && decide (a<b)):=by
 unfold z3v;simp only [z3g,z1s,z8d,z0f];by_cases h:0<=a<;>simp [h]
theorem zo4 (a b:Int):(decide (a<0) || decide (b-1<a))=!(decide (0<=a) && decide (a<b)):=by
 grind
theorem yfd {α:Type}{q:α->Bool}{l:List α}{i k:Nat}(a:k<i)(hi:i<=l.length):((l.take i).drop k).any q=(q (l[k]'(by omega)) || ((l.take i).drop (k+1)).any q):=by
 rw [z0e _ k (by simp;omega),any_cons,getElem_take]
theorem zxn (n:Nat)(l:List Gd)(a:Aut)(i:Nat)(hi:i<l.length)(b:l.length<=1100000)(K:Option Int):∀ (m k:Nat),k<=i->i<m+k->z6d n l a (i:Int) K m (k:Int)=if ((l.take i).drop k).any (fun h=>decide (h.fScope=l[i].fScope))=true then some 7 else K
 |0,k,h1,c=>by omega
 |m+1,k,h1,c=>by
  unfold z6d;simp only [z0f];by_cases h:k<i
  ·rw [if_pos (by omega),z0r (by omega:k<l.length),z0r hi,yfd h (by omega),z27 k (by omega),zxn n l a i hi b K m (k+1) (by omega) (by omega)];grind
  ·rw [if_neg (by omega),drop_eq_nil_of_le (by simp;omega)];simp
theorem zzm (n:Nat)(s:10000000<n)(a:Aut)(A:0<=a.fScopes/\a.fScopes<=64)(z:0<=a.fVars/\a.fVars<=16)(l:List Gd)(t:l.length<=1100000)(q:∀ g∈l,WfE g.fCond):∀ (m k:Nat),k<=l.length->l.length<m+k->∃ r:Int,z1p n l a (some 0) m (k:Int)=some r/\z32 n l a (some 0) m (k:Int)=some r
 |0,k,h1,B=>by omega
 |m+1,k,h1,B=>by
  unfold z1p z32;simp only [length_map,z0f,z12,z3g,z1s,z2v,z59,yi4,y48];by_cases h:k<l.length
  ·have d:((k:Nat):Int)<((l.length:Nat):Int):=by omega
   simp only [d,if_true,z0r h,z05];have wS:IntKind.wrap .i64 (a.fScopes-1)=a.fScopes-1:=zga _ (by omega);have wV:IntKind.wrap .i64 (a.fVars-1)=a.fVars-1:=zga _ (by omega);have p:∀ x:Int,(decide (x<0) || decide (15<x))=!(decide (0<=x) && decide (x<16)):=fun x=>zo4 x 16
   simp only [wS,wV,zo4,p];obtain ⟨r,y,w⟩:=zzm n s a A z l t q m (k+1) (by omega) (by omega);obtain ⟨c,D,C⟩:=(q _ (getElem_mem h)).check n s;have v:=zxn n l a k h t (bnd (z2z n l[k].fCond) fun e=>if e=0 then z1p n l a (some 0) m (IntKind.wrap .i64 ((k:Int)+1)) else some e) n 0 (by omega) (by omega);simp only [Int.natCast_zero,drop_zero] at v;rw [v,D,C];have u:=zri (l:=l) (a:=0) (b:=k) (Nat.zero_le _) (by omega) (fun o=>bnd (za6 n o l[k]) fun j=>cnd j (some (7:Int)) (bnd (some c) fun f=>if f=0 then z32 n l a (some 0) m (IntKind.wrap .i64 ((k:Int)+1)) else some f));simp only [Int.natCast_zero,drop_zero] at u;rw [u,yqm n l[k] (fun h=>decide (h.fScope=l[k].fScope)) (l.take k) (by simp;omega) (by simp;omega) (fun x _=>rfl),z05,z27 k (by omega),y,w];simp only [z05];generalize (decide (0<=l[k].fScope) && decide (l[k].fScope<a.fScopes))=H;generalize (decide (0<=l[k].fType) && decide (l[k].fType<16))=G;generalize (decide (0<=l[k].fVar) && decide (l[k].fVar<a.fVars))=F;generalize ((l.take k).any fun h=>decide (h.fScope=l[k].fScope))=E;cases H with
   |false=>exact ⟨2,by simp [z52],by simp [z52]⟩
   |true=>cases G with
    |false=>exact ⟨2,by simp [z52],by simp [z52]⟩
    |true=>cases F with
     |false=>exact ⟨2,by simp [z52],by simp [z52]⟩
     |true=>cases E with
      |true=>exact ⟨7,by simp [z52],by simp [z52]⟩
      |false =>
       by_cases i:c=0
       ·exact ⟨r,by simp [z52,i],by simp [z52,i]⟩
       ·exact ⟨c,by simp [z52,i],by simp [z52,i]⟩
  ·have d:¬((k:Nat):Int)<((l.length:Nat):Int):=by omega
   simp only [d,if_false];exact ⟨0,rfl,rfl⟩
theorem yl5 (n:Nat)(e:10000000<n)(a:Aut)(d:0<=a.fScopes/\a.fScopes<=64)(c:0<=a.fVars/\a.fVars<=16)(l:List Gd)(f:l.length<=1100000)(b:∀ g∈l,WfE g.fCond):∃ r:Int,zb9 n a l=some r/\zem n a l=some r:=by
 unfold zb9 zem;simp only [length_map,z0f];by_cases h:64<((l.length:Nat):Int)
 ·simp_all
 ·simp only [h,if_false];have:=zzm n e a d c l f b n 0 (by omega) (by omega);omega
theorem y7n (n:Nat)(sc:Int)(l:List Int)(i:Nat)(hi:i<l.length)(a:l.length<=1100000)(K:Option Int):∀ (m k:Nat),k<=i->i<m+k->z6c n sc l (i:Int) K m (k:Int)=if ((l.take i).drop k).any (fun h=>decide (l[i]=h))=true then some 7 else K
 |0,k,h1,b=>by omega
 |m+1,k,h1,b=>by
  unfold z6c;simp only [z0f];by_cases h:k<i
  ·rw [if_pos (by omega),z0r (by omega:k<l.length),z0r hi,yfd h (by omega),z27 k (by omega),y7n n sc l i hi a K m (k+1) (by omega) (by omega)];grind
  ·rw [if_neg (by omega),drop_eq_nil_of_le (by simp;omega)];simp
theorem zzh (n:Nat)(t:10000000<n)(a:Aut)(s:0<=a.fScopes/\a.fScopes<=64)(A:List (List Int))(j:Int)(l:List Int)(g:l.length<=1100000)(K:Option Int):∀ (m k:Nat),k<=l.length->l.length<m+k->∃ r:Int,z40 n a.fScopes l (some 0) m (k:Int)=some r/\z3w n A a j l K m (k:Int)=(if r=0 then K else some r)/\(r=0->∀ y∈l.drop k,0<=y/\y<a.fScopes)
 |0,k,h1,u=>by omega
 |m+1,k,h1,u=>by
  unfold z40 z3w;simp only [length_map,z0f,z12,yi4,y48];by_cases h:k<l.length
  ·have c:((k:Nat):Int)<((l.length:Nat):Int):=by omega
   simp only [c,if_true,z0r h,z05];rw [zga _ (by omega),zo4];obtain ⟨r,q,p,x⟩:=zzh n t a s A j l g K m (k+1) (by omega) (by omega);have o:=y7n n a.fScopes l k h g (z40 n a.fScopes l (some 0) m (IntKind.wrap .i64 ((k:Int)+1))) n 0 (by omega) (by omega);simp only [Int.natCast_zero,drop_zero] at o;have i:=zri (l:=l) (a:=0) (b:=k) (Nat.zero_le _) (by omega) (fun e=>bnd (z8o n e l[k]) fun d=>cnd d (some (7:Int)) (z3w n A a j l K m (IntKind.wrap .i64 ((k:Int)+1))));simp only [Int.natCast_zero,drop_zero] at i;rw [o,i,zt8 n l[k] (l.take k) (by simp;omega) (by simp;omega),z05,z27 k (by omega),q,p];have f:(decide (0<=l[k]) && decide (l[k]<a.fScopes))=true->0<=l[k]/\l[k]<a.fScopes:=fun h=>by simpa using h
   rw [z0e l k h];revert f;generalize (decide (0<=l[k]) && decide (l[k]<a.fScopes))=w;generalize ((l.take k).any fun y=>decide (l[k]=y))=v;intro f;cases w with
   |false=>exact ⟨2,by simp [z52],by simp [z52],fun h=>by cases h⟩
   |true=>cases v with
    |true=>exact ⟨7,by simp [z52],by simp [z52],fun h=>by cases h⟩
    |false =>
     refine ⟨r,by simp [z52],by simp [z52],fun h y z=>?_⟩;grind
  ·have c:¬((k:Nat):Int)<((l.length:Nat):Int):=by omega
   simp only [c,if_false];grind
theorem ydv (n:Nat)(x:Ed)(a:Aut)(c:x.fLimits.length<=1100000)(K K':List Int->Option Int)(r:Option Int)(h1:K (x.fLimits.map (·.fScope))=r):∀ (m k:Nat) (acc:List Int),k<=x.fLimits.length->x.fLimits.length<m+k->acc=(x.fLimits.take k).map (·.fScope)->z7m n x a K m ((k:Int),acc)=r
 |0,k,acc,e,d,_=>by omega
 |m+1,k,acc,e,d,b=>by
  unfold z7m;simp only [length_map,z0f];by_cases h:k<x.fLimits.length
  ·rw [if_pos (by omega),z0r h,zcu (by subst b;simp;omega) (by omega),z27 k (by omega)];exact ydv n x a c K K' r h1 m (k+1) _ (by omega) (by omega) (by subst b;rw [take_succ_eq_append_getElem h,map_append];rfl)
  grind
theorem zxo (n:Nat)(l:List z1j)(b:l.length<=1100000):∀ (m k:Nat) (acc:List Int),k<=l.length->l.length<m+k->acc=(l.take k).map (·.fScope)->z9e n l (fun y=>some y) m ((k:Int),acc)=some (l.map (·.fScope))
 |0,k,acc,d,c,_=>by omega
 |m+1,k,acc,d,c,a=>by
  unfold z9e;simp only [length_map,z0f];by_cases h:k<l.length
  ·rw [if_pos (by omega),z0r h,zcu (by subst a;simp;omega) (by omega),z27 k (by omega)];exact zxo n l b m (k+1) _ (by omega) (by omega) (by subst a;rw [take_succ_eq_append_getElem h,map_append];rfl)
  grind
theorem yi6 (n:Nat)(b:10000000<n)(l:List z1j)(a:l.length<=1100000):zbk n l=some (l.map (·.fScope)):=by
 unfold zbk;exact zxo n l a n 0 [] (by omega) (by omega) (by simp)
theorem y7o (n:Nat)(x:Ed)(a:x.fLimits.length<=1100000):∀ (m k:Nat),k<=x.fLimits.length->x.fLimits.length<m+k->z4q n x (some 0) m (k:Int)=some (if (x.fLimits.drop k).any (fun l=>decide (l.fSpan<0) || decide (1099511627776<l.fSpan))=true then 2 else 0)
 |0,k,h1,c=>by omega
 |m+1,k,h1,c=>by
  unfold z4q;simp only [length_map,z0f,yi4,z05];by_cases h:k<x.fLimits.length
  ·rw [if_pos (by omega),z0r h,z0e _ k h,any_cons,z27 k (by omega),y7o n x a m (k+1) (by omega) (by omega)];generalize (decide (x.fLimits[k].fSpan<0) || decide (1099511627776<x.fLimits[k].fSpan))=b;cases b<;>simp [z52]
  grind
theorem yo5 (n:Nat)(H:10000000<n)(a:Aut)(N:0<=a.fScopes/\a.fScopes<=64)(x:Ed)(d:WfX x):∃ r:Int,z9y n a x=some r /\
  (bnd (zbk n x.fLimits) fun v=>bnd (zel n a ([x.fOpens,x.fCloses,x.fInside,v])) fun q=>if q=0 then (bnd (z6k n x.fLimits) fun u=>cnd u (some (2:Int)) (some 0)) else some q)=some r/\(r=0->∀ y∈x.fOpens,0<=y/\y<a.fScopes):=by
 have s:=y7o n x d.ll n 0 (by omega) (by have:=d.ll;omega);simp only [Int.natCast_zero,drop_zero] at s;rw [yi6 n H x.fLimits d.ll,z05];have z:=yg5 n (fun l=>decide (l.fSpan<0) || decide (1099511627776<l.fSpan)) x.fLimits (by have:=d.ll;omega) (by have:=d.ll;omega) (fun y _=>by
  unfold zao;simp only [z3g,z1s,z8e,z0f];grind)
 rw [z];simp only [z05];have w:(x.fLimits.map (·.fScope)).length<=1100000:=by rw [length_map];exact d.ll
 generalize O:x.fLimits.map (·.fScope)=S at *;generalize (x.fLimits.any fun l=>decide (l.fSpan<0) || decide (1099511627776<l.fSpan))=sp at *;unfold zel
 -- the four lists
 have step:∀ (l:List Int),l.length<=1100000->∀ (j:Int) (K:Option Int),∃ r:Int,z97 n l a.fScopes=some r/\z3w n [x.fOpens,x.fCloses,x.fInside,S] a j l K n 0=(if r=0 then K else some r)/\(r=0->∀ y∈l,0<=y/\y<a.fScopes):=fun l t j K=>by
  have:=zzh n H a N [x.fOpens,x.fCloses,x.fInside,S] j l t K n 0 (by omega) (by omega);unfold z97;simp_all
 have uq:∀ l:List Int,l.length<=1100000->∃ r:Int,z97 n l a.fScopes=some r/\(∀ (j:Int) (K:Option Int),z3w n [x.fOpens,x.fCloses,x.fInside,S] a j l K n 0=if r=0 then K else some r)/\(r=0->∀ y∈l,0<=y/\y<a.fScopes):=fun l t=>by
  obtain ⟨r,M,_,I⟩:=step l t 0 none;refine ⟨r,M,fun j K=>?_,I⟩;obtain ⟨Z,L,J,_⟩:=step l t j K;simp_all
 obtain ⟨p,Y,U,P⟩:=uq x.fOpens d.lo;obtain ⟨o,X,T,_⟩:=uq x.fCloses d.lcl;obtain ⟨k,W,R,_⟩:=uq x.fInside d.li;obtain ⟨g,V,Q,_⟩:=uq S w;have w0:IntKind.wrap .i64 ((0:Int)+1)=1:=by decide
 have C:IntKind.wrap .i64 ((1:Int)+1)=2:=by decide
 have B:IntKind.wrap .i64 ((2:Int)+1)=3:=by decide
 have A:IntKind.wrap .i64 ((3:Int)+1)=4:=by decide
 have G:∀ K:List Int->Option Int,idx ([x.fOpens,x.fCloses,x.fInside,S]:List (List Int)) 0 K=K x.fOpens:=fun K=>by have:=z0r (l:=[x.fOpens,x.fCloses,x.fInside,S]) (i:=0) (by simp) K;simpa using this
 have F:∀ K:List Int->Option Int,idx ([x.fOpens,x.fCloses,x.fInside,S]:List (List Int)) 1 K=K x.fCloses:=fun K=>by have:=z0r (l:=[x.fOpens,x.fCloses,x.fInside,S]) (i:=1) (by simp) K;simpa using this
 have E:∀ K:List Int->Option Int,idx ([x.fOpens,x.fCloses,x.fInside,S]:List (List Int)) 2 K=K x.fInside:=fun K=>by have:=z0r (l:=[x.fOpens,x.fCloses,x.fInside,S]) (i:=2) (by simp) K;simpa using this
 have D:∀ K:List Int->Option Int,idx ([x.fOpens,x.fCloses,x.fInside,S]:List (List Int)) 3 K=K S:=fun K=>by have:=z0r (l:=[x.fOpens,x.fCloses,x.fInside,S]) (i:=3) (by simp) K;simpa using this
 have hm:∃ m,n=m+1+1+1+1+1:=⟨n-5,by omega⟩;have rl:∀ K:Option Int,z29 n x a S K n 0=if p=0 then (if o=0 then (if k=0 then (if g=0 then K else some g) else some k) else some o) else some p:=fun K=>by
  obtain ⟨m,hm⟩:=hm;conv=>lhs;rw [show z29 n x a S K n 0=z29 n x a S K (m+1+1+1+1+1) 0 by rw [<-hm]]
  simp only [z29,z0f,z12,G,F,E,D,w0,C,B,A,Y,X,W,V,z05];simp
 have pl:∀ K:Option Int,z58 n [x.fOpens,x.fCloses,x.fInside,S] a K n 0=if p=0 then (if o=0 then (if k=0 then (if g=0 then K else some g) else some k) else some o) else some p:=fun K=>by
  obtain ⟨m,hm⟩:=hm;conv=>lhs;rw [show z58 n [x.fOpens,x.fCloses,x.fInside,S] a K n 0=z58 n [x.fOpens,x.fCloses,x.fInside,S] a K (m+1+1+1+1+1) 0 by rw [<-hm]]
  simp only [z58,z0f,G,F,E,D,w0,C,B,A,length_map,length_cons,length_nil,U,T,R,Q];simp
 unfold z9y;have el:=ydv n x a d.ll (fun k1_0_0y=>frz 7026 <| reg <| z29 n x a k1_0_0y (z4q n x (some 0) n 0) n 0) (fun _=>none) _ rfl n 0 [] (by omega) (by have:=d.ll;omega) (by simp);simp only [Int.natCast_zero] at el;rw [el,O,ymz,z1s,rl,s,pl];by_cases b:p=0;rotate_left
 ·exact ⟨p,by simp [b],by simp [b,z05],fun h=>absurd h b⟩
 by_cases c:o=0;rotate_left
 ·exact ⟨o,by simp [b,c],by simp [b,c,z05],fun h=>absurd h c⟩
 by_cases e:k=0;rotate_left
 ·exact ⟨k,by simp [b,c,e],by simp [b,c,e,z05],fun h=>absurd h e⟩
 by_cases f:g=0;rotate_left
 ·exact ⟨g,by simp [b,c,e,f],by simp [b,c,e,f,z05],fun h=>absurd h f⟩
 cases sp with
 |true=>exact ⟨2,by simp [b,c,e,f],by simp [b,c,e,f,z05,z52],fun h=>by cases h⟩
 |false=>exact ⟨0,by simp [b,c,e,f],by simp [b,c,e,f,z05,z52],fun _=>P b⟩
theorem zzr (n:Nat)(f:10000000<n)(x:Ed)(a:Aut)(ys:List Exn)(d:x.fChecks=ys.map z0n)(e:∀ y∈ys,WfE y)(j:ys.length<=1100000)(P:Prop)(K K':Option Int)(o:∃ r:Int,K=some r/\K'=some r/\(r=0->P)):∀ (m k:Nat),k<=ys.length->ys.length<m+k->∃ r:Int,z8l n x a K m (k:Int)=some r/\zbl n x a K' m (k:Int)=some r/\(r=0->P)
 |0,k,h1,p=>by omega
 |m+1,k,h1,p=>by
  unfold z8l zbl;simp only [d,length_map,z0f,z12];by_cases h:k<ys.length
  ·have b:((k:Nat):Int)<((ys.length:Nat):Int):=by omega
   simp only [b,if_true];have hi:∀ (Q:Exn->Option Int),idxD z1l (ys.map z0n) (k:Int) Q=Q ys[k]:=fun Q=>by
    have:=zpg (l:=ys.map fun y=>(0,y)) (k:=k) (by simpa using h) Q;simp only [map_map,getElem_map] at this;exact this
   rw [hi,hi];obtain ⟨c,s,q⟩:=(e _ (getElem_mem h)).check n f;obtain ⟨r,i,g,t⟩:=zzr n f x a ys d e j P K K' o m (k+1) (by omega) (by omega);rw [s,q,z05,z05,z27 k (by omega),i,g];grind
  grind
structure EdOk (a:Aut) (x:Ed):Prop where
 frm:0<=x.fFrom/\x.fFrom<a.fStates.length
 tgt:-1<=x.fTo/\x.fTo<a.fStates.length
 var:0<=x.fVar/\x.fVar<a.fVars
 opn:∀ y∈x.fOpens,0<=y/\y<a.fScopes
theorem yqj (n:Nat)(l:10000000<n)(a:Aut)(E:0<=a.fScopes/\a.fScopes<=64)(M:0<=a.fVars/\a.fVars<=16)(D:1<=a.fStates.length/\a.fStates.length<=256)(x:Ed)(e:WfX x)(before:Int):∃ r:Int,zcg n a x before=some r/\zg3 n a x before=some r/\(r=0->EdOk a x):=by
 unfold zcg zg3;simp only [length_map,z0f,z12,z3g,z1s,yi4,y48,z05];have wS:IntKind.wrap .i64 (((a.fStates.length:Nat):Int)-1)=((a.fStates.length:Nat):Int)-1:=zga _ (by omega);have wV:IntKind.wrap .i64 (a.fVars-1)=a.fVars-1:=zga _ (by omega);have o:∀ x:Int,(decide (x<0) || decide (15<x))=!(decide (0<=x) && decide (x<16)):=fun x=>zo4 x 16
 simp only [wS,wV,zo4,o];have tailE:∃ r:Int,z1a n before x a false=some r/\z20 n before x a false=some r/\(r=0->∀ y∈x.fOpens,0<=y/\y<a.fScopes):=by
  unfold z1a z20;simp only [length_map,z0f,z12,zae];by_cases H:x.fFrom<before
  ·simp_all
  simp only [H,if_false];obtain ⟨c,J,I⟩:=e.cond.check n l;rw [J,I,z05,z05];by_cases G:c=0;rotate_left
  ·simp_all
  simp only [G,if_true];by_cases m:64<((x.fChecks.length:Nat):Int)
  ·simp_all
  simp only [m,if_false];obtain ⟨ys,t,C⟩:=e.checks;obtain ⟨r,d,j,i⟩:=yo5 n l a E x e;have k:ys.length<=1100000:=by have:=e.lc;rw [t,length_map] at this;exact this
  have:=zzr n l x a ys t C k (∀ y∈x.fOpens,0<=y/\y<a.fScopes) (bnd (z9y n a x) fun g=>some g) _ ⟨r,by rw [d,z05],j,i⟩ n 0 (by omega) (by omega);simpa only [Int.natCast_zero] using this
 have b:z1a n before x a true=some 2/\z20 n before x a true=some 2:=by
  unfold z1a z20;exact ⟨z9u _ _,z9u _ _⟩
 obtain ⟨r,d,j,i⟩:=tailE;rw [b.1,b.2];by_cases h1:0<=x.fFrom/\x.fFrom<((a.fStates.length:Nat):Int);rotate_left
 ·have:(decide (0<=x.fFrom) && decide (x.fFrom<((a.fStates.length:Nat):Int)))=false:=by
   rw [Bool.and_eq_false_iff,decide_eq_false_iff_not,decide_eq_false_iff_not];omega
  exact ⟨2,by simp [this,z52],by simp [this,z52],fun h=>by cases h⟩
 have f:(decide (0<=x.fFrom) && decide (x.fFrom<((a.fStates.length:Nat):Int)))=true:=by simp [h1.1];omega
 by_cases u:-1<=x.fTo/\x.fTo<((a.fStates.length:Nat):Int);rotate_left
 ·have z:¬x.fTo=-1:=by omega
  have w:(decide (0<=x.fTo) && decide (x.fTo<((a.fStates.length:Nat):Int)))=false:=by
   rw [Bool.and_eq_false_iff,decide_eq_false_iff_not,decide_eq_false_iff_not];omega
  refine ⟨2,by simp [f,z,w,z52],?_,fun h=>by cases h⟩;by_cases s:x.fTo < -1
  ·simp [f,s,z52]
  ·have v:((a.fStates.length:Nat):Int)<=x.fTo:=by omega
   simp [f,s,v,z52]
 have B:¬x.fTo < -1:=by omega
 have A:¬((a.fStates.length:Nat):Int)<=x.fTo:=by omega
 have ok:(decide (0<=x.fVar) && decide (x.fVar<a.fVars))=true->r=0->EdOk a x:=fun h F=>by
  simp only [Bool.and_eq_true,decide_eq_true_eq] at h;exact ⟨⟨h1.1,h1.2⟩,⟨u.1,u.2⟩,h,i F⟩
 have p:¬x.fTo=-1->(decide (0<=x.fTo) && decide (x.fTo<((a.fStates.length:Nat):Int)))=true:=fun h=>by grind
 revert ok;generalize (decide (0<=x.fVar) && decide (x.fVar<a.fVars))=L;generalize (decide (0<=x.fType) && decide (x.fType<16))=K;intro ok;simp only [f,B,A,if_false,z9u,Bool.not_true];cases L with
 |false =>
  refine ⟨2,?_,by simp [z52],fun h=>by cases h⟩;by_cases q:x.fTo=-1
  ·simp [q,z52]
  ·simp [q,p q,z52]
 |true =>
  cases K with
  |false =>
   refine ⟨2,?_,by simp [z52,b.2],fun h=>by cases h⟩;by_cases q:x.fTo=-1
   ·simp [q,z52,b.1]
   ·simp [q,p q,z52,b.1]
  |true =>
   refine ⟨r,?_,by simp [z52,j],fun q=>ok rfl q⟩;by_cases q:x.fTo=-1
   ·simp [q,z52,d]
   ·simp [q,p q,z52,d]
theorem y2s (n:Nat)(j:10000000<n)(a:Aut)(i:0<=a.fScopes/\a.fScopes<=64)(g:0<=a.fVars/\a.fVars<=16)(d:1<=a.fStates.length/\a.fStates.length<=256)(f:WfA a):∀ (m k:Nat) (before:Int),k<=a.fEdges.length->a.fEdges.length<m+k->(∀ x∈a.fEdges.take k,EdOk a x)->∃ r:Int,z7n n a (some 0) m (before,(k:Int))=some r/\zay n a (some 0) m (before,(k:Int))=some r/\(r=0->∀ x∈a.fEdges,EdOk a x)
 |0,k,before,h1,p,_=>by omega
 |m+1,k,before,h1,p,u=>by
  have o:=f.le;unfold z7n zay;simp only [length_map,z0f,z12];by_cases h:k<a.fEdges.length
  ·have b:((k:Nat):Int)<((a.fEdges.length:Nat):Int):=by omega
   simp only [b,if_true,z0r h];obtain ⟨c,t,s,v⟩:=yqj n j a i g d _ (f.ed _ (getElem_mem h)) before;rw [t,s,z05,z05,z27 k (by omega)];by_cases e:c=0
   ·simp only [e,if_true];refine y2s n j a i g d f m (k+1) _ (by omega) (by omega) (fun x l=>?_);rw [take_succ_eq_append_getElem h,mem_append,mem_singleton] at l;grind
   ·exact ⟨c,by simp [e],by simp [e],fun q=>absurd q e⟩
  ·have b:¬((k:Nat):Int)<((a.fEdges.length:Nat):Int):=by omega
   simp only [b,if_false];grind
theorem zzg (n:Nat)(g:10000000<n)(a:Aut)(f:0<=a.fScopes/\a.fScopes<=64)(e:0<=a.fVars/\a.fVars<=16)(b:WfA a)(K K':Option Int)(P:Prop)(l:∃ r:Int,K=some r/\K'=some r/\(r=0->P)):∀ (m k:Nat),k<=a.fStates.length->a.fStates.length<m+k->∃ r:Int,z7o n a K m (k:Int)=some r/\zaz n a K' m (k:Int)=some r/\(r=0->P)
 |0,k,h1,o=>by omega
 |m+1,k,h1,o=>by
  have i:=b.ls;unfold z7o zaz;simp only [length_map,z0f,z12];by_cases h:k<a.fStates.length
  ·have d:((k:Nat):Int)<((a.fStates.length:Nat):Int):=by omega
   simp only [d,if_true,z0r h];obtain ⟨q,p⟩:=b.st _ (getElem_mem h);obtain ⟨c,t,s⟩:=yl5 n g a f e _ q p;rw [t,s,z05,z05,z27 k (by omega)];by_cases j:c=0
   ·simp only [j,if_true];exact zzg n g a f e b K K' P l m (k+1) (by omega) (by omega)
   simp_all
  grind
structure AOk (a:Aut):Prop where
 vars:0<=a.fVars/\a.fVars<=16
 st:1<=a.fStates.length/\a.fStates.length<=256
 ed:∀ x∈a.fEdges,EdOk a x
theorem y4d (n:Nat)(j:10000000<n)(a:Aut)(c:WfA a):∃ r:Int,z56 n a=some r/\zbm n a=some r/\(r=0->AOk a):=by
 have s:=c.ls;have t:=c.le;unfold z56 zbm;simp only [z3g,z1s,yi4,z05,z0f];have e:z2a n a true=some 2/\z2k n a true=some 2:=by
  unfold z2a z2k;exact ⟨z9u _ _,z9u _ _⟩
 rw [e.1,e.2];by_cases d:0<=a.fVars/\a.fVars<=16;rotate_left
 ·refine ⟨2,?_,?_,fun h=>by cases h⟩
  ·have:(decide (a.fVars<0) || decide (16<a.fVars))=true:=by
    rw [Bool.or_eq_true,decide_eq_true_eq,decide_eq_true_eq];omega
   rw [this,z9u]
  simp_all
 have g:¬a.fVars<0:=by omega
 have f:¬16<a.fVars:=by omega
 by_cases i:0<=a.fScopes/\a.fScopes<=64;rotate_left
 ·have:(decide (a.fScopes<0) || decide (64<a.fScopes))=true:=by
   rw [Bool.or_eq_true,decide_eq_true_eq,decide_eq_true_eq];omega
  refine ⟨2,by simp [g,f,this,z52,e.1],?_,fun h=>by cases h⟩;simp_all
 have q:¬a.fScopes<0:=by omega
 have p:¬64<a.fScopes:=by omega
 simp only [g,f,q,p,if_false,decide_false,Bool.or_false,zae];unfold z2a z2k;simp only [z3g,z1s,length_map,z0f,zae];have k:z1u n a true=some 5/\z3f n a true=some 5:=by
  unfold z1u z3f;exact ⟨z9u _ _,z9u _ _⟩
 rw [k.1,k.2];by_cases h1:((a.fStates.length:Nat):Int)<1
 ·simp_all
 by_cases v:256<((a.fStates.length:Nat):Int)
 ·simp_all
 simp only [h1,v,if_false];by_cases u:2048<((a.fEdges.length:Nat):Int)
 ·simp_all
 simp only [u,decide_false];unfold z1u z3f;simp only [zae];have b:1<=a.fStates.length/\a.fStates.length<=256:=by omega
 obtain ⟨r,o,m,l⟩:=y2s n j a i d b c n 0 0 (by omega) (by omega) (by simp);have:=zzg n j a i d c _ _ (AOk a) ⟨r,o,m,fun h=>⟨d,b,l h⟩⟩ n 0 (by omega) (by omega);omega
def own1 (i:Nat)(e:Exn):Prop:=usV e.fOp=true/\e.fVar=(i:Int)
theorem ysa {x y:Exn}(h:z0n x=z0n y):x=y:=by
 have:=congrArg z1l h;rw [zfb,zfb] at this;exact Option.some.inj this
theorem yih {i:Nat}{l:List (Nat×Exn)}{e:Exn}(ha:e.fArgs=l.map (fun p=>z0n p.2)):Occ i e ↔ own1 i e\/∃ p∈l,Occ i p.2:=by
 constructor
 ·intro h
  cases h with
  |here _ h hv=>exact Or.inl ⟨h,hv⟩
  |sub _ y hy h =>
   rw [ha] at hy
   obtain ⟨p,hp,hpe⟩:=mem_map.1 hy
   exact Or.inr ⟨p,hp,by rw [ysa hpe];exact h⟩
 ·rintro (h|⟨p,hp,h⟩)
  ·exact .here _ h.1 h.2
  ·exact .sub _ p.2 (by grind) h
end Go.Proofs.YtidhlpjgifoneaaGreat
