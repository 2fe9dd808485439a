/- Searching in slices, plainly. -/
import Derived.Test.YtidhlpjgifoneaaGreatK27
set_option linter.unusedVariables false
set_option linter.unusedSimpArgs false
namespace Go.Proofs.YtidhlpjgifoneaaGreat
open Go.RowKit List
def fidx {α:Type}(p:α->Bool)(l:List α):Int:=match l.findIdx? p with|some j=>(j:Int)|none=>-1
theorem zog {α:Type}(p:α->Bool)(l:List α):decide (0<=fidx p l)=l.any p:=by
 unfold fidx
 grind
def zua {α:Type}(p:α->Bool)(k:Nat)(l:List α):Int:=match l.findIdx? p with|some j=>((k+j:Nat):Int)|none=>-1
theorem zgq {α:Type}(p:α->Bool)(k:Nat)(x:α)(l:List α):zua p k (x::l)=if p x=true then (k:Int) else zua p (k+1) l:=by
 unfold zua
 grind
theorem zgp {α:Type}(p:α->Bool)(l:List α):zua p 0 l=fidx p l:=by
 unfold zua fidx
 simp_all
theorem y72 (n:Nat)(x:Int)(l:List Int)(hl:l.length<=1000000000):∀ (m k:Nat),k<=l.length->l.length<m+k->zcs n x l (some (-1)) m (k:Int)=some (zua (fun y=>decide (x=y)) k (l.drop k))
 |0,k,h1,h2=>by omega
 |m+1,k,h1,h2=>by
  unfold zcs
  simp only [length_map,z0c]
  by_cases h:k<l.length
  ·rw [if_pos (by omega),z0j h,z0e l k h,zgq,z1o k (by omega),y72 n x l hl m (k+1) (by omega) (by omega)]
   grind
  ·rw [if_neg (by omega),drop_eq_nil_of_le (by omega)]
   rfl
theorem zrq (n:Nat)(x:Int)(l:List Int)(hl:l.length<=1000000000)(hn:l.length<n):z8k n l x=some (l.any fun y=>decide (x=y)):=by
 unfold z8k zi9
 have:=y72 n x l hl n 0 (by omega) (by omega)
 simp only [Int.natCast_zero,drop_zero,zgp] at this
 rw [this,z04,zog]
theorem y1l (n:Nat)(a1c0:z0v)(p:z0v->Bool)(l:List z0v)(hl:l.length<=1000000000)(hb:∀ x∈l,zat n x a1c0=some (p x)):∀ (m k:Nat),k<=l.length->l.length<m+k->za1 n a1c0 l (some (-1)) m (k:Int)=some (zua p k (l.drop k))
 |0,k,h1,h2=>by omega
 |m+1,k,h1,h2=>by
  unfold za1
  simp only [length_map,z0c]
  by_cases h:k<l.length
  ·rw [if_pos (by omega),z0j h,z0e l k h,zgq,hb _ (getElem_mem h),z04,z1o k (by omega),y1l n a1c0 p l hl hb m (k+1) (by omega) (by omega)]
   cases p l[k]<;>simp [z5a]
  ·rw [if_neg (by omega),drop_eq_nil_of_le (by omega)]
   rfl
theorem ynz (n:Nat)(a1c0:z0v)(p:z0v->Bool)(l:List z0v)(hl:l.length<=1000000000)(hn:l.length<n)(hb:∀ x∈l,zat n x a1c0=some (p x)):ze5 n l a1c0=some (fidx p l):=by
 unfold ze5
 have:=y1l n a1c0 p l hl hb n 0 (by omega) (by omega)
 simpa only [Int.natCast_zero,drop_zero,zgp] using this
theorem yqt (n:Nat)(a1c0:z0v)(p:z0v->Bool)(l:List z0v)(hl:l.length<=1000000000)(hn:l.length<n)(hb:∀ x∈l,zat n x a1c0=some (p x)):za3 n l a1c0=some (l.any p):=by
 unfold za3
 rw [ynz n a1c0 p l hl hn hb,z04,zog]
theorem zst (n:Nat)(p:z1g->Bool)(l:List z1g)(hl:l.length<=1000000000)(hb:∀ x∈l,zaj n x=some (p x)):∀ (m k:Nat),k<=l.length->l.length<m+k->z6k n l (some (-1)) m (k:Int)=some (zua p k (l.drop k))
 |0,k,h1,h2=>by omega
 |m+1,k,h1,h2=>by
  unfold z6k
  simp only [length_map,z0c]
  by_cases h:k<l.length
  ·rw [if_pos (by omega),z0j h,z0e l k h,zgq,hb _ (getElem_mem h),z04,z1o k (by omega),zst n p l hl hb m (k+1) (by omega) (by omega)]
   cases p l[k]<;>simp [z5a]
  ·rw [if_neg (by omega),drop_eq_nil_of_le (by omega)]
   rfl
theorem yad (n:Nat)(p:z1g->Bool)(l:List z1g)(hl:l.length<=1000000000)(hn:l.length<n)(hb:∀ x∈l,zaj n x=some (p x)):zb7 n l=some (fidx p l):=by
 unfold zb7
 have:=zst n p l hl hb n 0 (by omega) (by omega)
 simpa only [Int.natCast_zero,drop_zero,zgp] using this
theorem yfb (n:Nat)(p:z1g->Bool)(l:List z1g)(hl:l.length<=1000000000)(hn:l.length<n)(hb:∀ x∈l,zaj n x=some (p x)):z6l n l=some (l.any p):=by
 unfold z6l
 rw [yad n p l hl hn hb,z04,zog]
theorem zsq (n:Nat)(a1c0:z03)(p:z0h->Bool)(l:List z0h)(hl:l.length<=1000000000)(hb:∀ x∈l,zgh n (⟨x.fVar,⟨x.fRef.fTime,x.fRef.fSource,x.fRef.fSeq⟩⟩:z0h) a1c0=some (p x)):∀ (m k:Nat),k<=l.length->l.length<m+k->z6i n a1c0 l (some (-1)) m (k:Int)=some (zua p k (l.drop k))
 |0,k,h1,h2=>by omega
 |m+1,k,h1,h2=>by
  unfold z6i
  simp only [length_map,z0c]
  by_cases h:k<l.length
  ·rw [if_pos (by omega),z0j h,z0e l k h,zgq,hb _ (getElem_mem h),z04,z1o k (by omega),zsq n a1c0 p l hl hb m (k+1) (by omega) (by omega)]
   cases p l[k]<;>simp [z5a]
  ·rw [if_neg (by omega),drop_eq_nil_of_le (by omega)]
   rfl
theorem yab (n:Nat)(a1c0:z03)(p:z0h->Bool)(l:List z0h)(hl:l.length<=1000000000)(hn:l.length<n)(hb:∀ x∈l,zgh n (⟨x.fVar,⟨x.fRef.fTime,x.fRef.fSource,x.fRef.fSeq⟩⟩:z0h) a1c0=some (p x)):zb5 n l a1c0=some (fidx p l):=by
 unfold zb5
 have:=zsq n a1c0 p l hl hb n 0 (by omega) (by omega)
 simpa only [Int.natCast_zero,drop_zero,zgp] using this
theorem yf9 (n:Nat)(a1c0:z03)(p:z0h->Bool)(l:List z0h)(hl:l.length<=1000000000)(hn:l.length<n)(hb:∀ x∈l,zgh n (⟨x.fVar,⟨x.fRef.fTime,x.fRef.fSource,x.fRef.fSeq⟩⟩:z0h) a1c0=some (p x)):z9h n l a1c0=some (l.any p):=by
 unfold z9h
 rw [yab n a1c0 p l hl hn hb,z04,zog]
theorem zsr (n:Nat)(a1c0:z03)(p:z00->Bool)(l:List z00)(hl:l.length<=1000000000)(hb:∀ x∈l,zgi n x a1c0=some (p x)):∀ (m k:Nat),k<=l.length->l.length<m+k->z6j n a1c0 l (some (-1)) m (k:Int)=some (zua p k (l.drop k))
 |0,k,h1,h2=>by omega
 |m+1,k,h1,h2=>by
  unfold z6j
  simp only [length_map,z0c]
  by_cases h:k<l.length
  ·rw [if_pos (by omega),z0j h,z0e l k h,zgq,hb _ (getElem_mem h),z04,z1o k (by omega),zsr n a1c0 p l hl hb m (k+1) (by omega) (by omega)]
   cases p l[k]<;>simp [z5a]
  ·rw [if_neg (by omega),drop_eq_nil_of_le (by omega)]
   rfl
theorem yac (n:Nat)(a1c0:z03)(p:z00->Bool)(l:List z00)(hl:l.length<=1000000000)(hn:l.length<n)(hb:∀ x∈l,zgi n x a1c0=some (p x)):zb6 n l a1c0=some (fidx p l):=by
 unfold zb6
 have:=zsr n a1c0 p l hl hb n 0 (by omega) (by omega)
 simpa only [Int.natCast_zero,drop_zero,zgp] using this
theorem yfa (n:Nat)(a1c0:z03)(p:z00->Bool)(l:List z00)(hl:l.length<=1000000000)(hn:l.length<n)(hb:∀ x∈l,zgi n x a1c0=some (p x)):z9i n l a1c0=some (l.any p):=by
 unfold z9i
 rw [yac n a1c0 p l hl hn hb,z04,zog]
theorem zqf (n:Nat)(a1c0:z0i)(a1c1:z03)(p:z0v->Bool)(l:List z0v)(hl:l.length<=1000000000)(hb:∀ x∈l,z4b n x (⟨a1c0.fVars⟩:z0i) a1c1=some (p x)):∀ (m k:Nat),k<=l.length->l.length<m+k->z5n n a1c1 a1c0 l (some (-1)) m (k:Int)=some (zua p k (l.drop k))
 |0,k,h1,h2=>by omega
 |m+1,k,h1,h2=>by
  unfold z5n
  simp only [length_map,z0c]
  by_cases h:k<l.length
  ·rw [if_pos (by omega),z0j h,z0e l k h,zgq,hb _ (getElem_mem h),z04,z1o k (by omega),zqf n a1c0 a1c1 p l hl hb m (k+1) (by omega) (by omega)]
   cases p l[k]<;>simp [z5a]
  ·rw [if_neg (by omega),drop_eq_nil_of_le (by omega)]
   rfl
theorem y71 (n:Nat)(a1c0:z0i)(a1c1:z03)(p:z0v->Bool)(l:List z0v)(hl:l.length<=1000000000)(hn:l.length<n)(hb:∀ x∈l,z4b n x (⟨a1c0.fVars⟩:z0i) a1c1=some (p x)):zah n l a1c0 a1c1=some (fidx p l):=by
 unfold zah
 have:=zqf n a1c0 a1c1 p l hl hb n 0 (by omega) (by omega)
 simpa only [Int.natCast_zero,drop_zero,zgp] using this
theorem yaf (n:Nat)(a1c0:z0i)(a1c1:z03)(p:z0v->Bool)(l:List z0v)(hl:l.length<=1000000000)(hn:l.length<n)(hb:∀ x∈l,z4b n x (⟨a1c0.fVars⟩:z0i) a1c1=some (p x)):z8r n l a1c0 a1c1=some (l.any p):=by
 unfold z8r
 rw [y71 n a1c0 a1c1 p l hl hn hb,z04,zog]
theorem zqe (n:Nat)(a1c0:z0t)(a1c1:z0i)(a1c2:z03)(p:z0v->Bool)(l:List z0v)(hl:l.length<=1000000000)(hb:∀ x∈l,z3x n x a1c0 (⟨a1c1.fVars⟩:z0i) a1c2=some (p x)):∀ (m k:Nat),k<=l.length->l.length<m+k->z5m n a1c2 a1c1 a1c0 l (some (-1)) m (k:Int)=some (zua p k (l.drop k))
 |0,k,h1,h2=>by omega
 |m+1,k,h1,h2=>by
  unfold z5m
  simp only [length_map,z0c]
  by_cases h:k<l.length
  ·rw [if_pos (by omega),z0j h,z0e l k h,zgq,hb _ (getElem_mem h),z04,z1o k (by omega),zqe n a1c0 a1c1 a1c2 p l hl hb m (k+1) (by omega) (by omega)]
   cases p l[k]<;>simp [z5a]
  ·rw [if_neg (by omega),drop_eq_nil_of_le (by omega)]
   rfl
theorem y70 (n:Nat)(a1c0:z0t)(a1c1:z0i)(a1c2:z03)(p:z0v->Bool)(l:List z0v)(hl:l.length<=1000000000)(hn:l.length<n)(hb:∀ x∈l,z3x n x a1c0 (⟨a1c1.fVars⟩:z0i) a1c2=some (p x)):zag n l a1c0 a1c1 a1c2=some (fidx p l):=by
 unfold zag
 have:=zqe n a1c0 a1c1 a1c2 p l hl hb n 0 (by omega) (by omega)
 simpa only [Int.natCast_zero,drop_zero,zgp] using this
theorem yae (n:Nat)(a1c0:z0t)(a1c1:z0i)(a1c2:z03)(p:z0v->Bool)(l:List z0v)(hl:l.length<=1000000000)(hn:l.length<n)(hb:∀ x∈l,z3x n x a1c0 (⟨a1c1.fVars⟩:z0i) a1c2=some (p x)):z8q n l a1c0 a1c1 a1c2=some (l.any p):=by
 unfold z8q
 rw [y70 n a1c0 a1c1 a1c2 p l hl hn hb,z04,zog]
theorem zqd (n:Nat)(a1c0:z1g)(p:z0a->Bool)(l:List z0a)(hl:l.length<=1000000000)(hb:∀ x∈l,zh7 n x a1c0=some (p x)):∀ (m k:Nat),k<=l.length->l.length<m+k->z5l n a1c0 l (some (-1)) m (k:Int)=some (zua p k (l.drop k))
 |0,k,h1,h2=>by omega
 |m+1,k,h1,h2=>by
  unfold z5l
  simp only [length_map,z0c]
  by_cases h:k<l.length
  ·rw [if_pos (by omega),z0j h,z0e l k h,zgq,hb _ (getElem_mem h),z04,z1o k (by omega),zqd n a1c0 p l hl hb m (k+1) (by omega) (by omega)]
   cases p l[k]<;>simp [z5a]
  ·rw [if_neg (by omega),drop_eq_nil_of_le (by omega)]
   rfl
theorem y6z (n:Nat)(a1c0:z1g)(p:z0a->Bool)(l:List z0a)(hl:l.length<=1000000000)(hn:l.length<n)(hb:∀ x∈l,zh7 n x a1c0=some (p x)):zaf n l a1c0=some (fidx p l):=by
 unfold zaf
 have:=zqd n a1c0 p l hl hb n 0 (by omega) (by omega)
 simpa only [Int.natCast_zero,drop_zero,zgp] using this
theorem zqc (n:Nat)(a1c0:z0t)(p:z0a->Bool)(l:List z0a)(hl:l.length<=1000000000)(hb:∀ x∈l,z64 n x a1c0=some (p x)):∀ (m k:Nat),k<=l.length->l.length<m+k->z5k n a1c0 l (some (-1)) m (k:Int)=some (zua p k (l.drop k))
 |0,k,h1,h2=>by omega
 |m+1,k,h1,h2=>by
  unfold z5k
  simp only [length_map,z0c]
  by_cases h:k<l.length
  ·rw [if_pos (by omega),z0j h,z0e l k h,zgq,hb _ (getElem_mem h),z04,z1o k (by omega),zqc n a1c0 p l hl hb m (k+1) (by omega) (by omega)]
   cases p l[k]<;>simp [z5a]
  ·rw [if_neg (by omega),drop_eq_nil_of_le (by omega)]
   rfl
theorem y6y (n:Nat)(a1c0:z0t)(p:z0a->Bool)(l:List z0a)(hl:l.length<=1000000000)(hn:l.length<n)(hb:∀ x∈l,z64 n x a1c0=some (p x)):zae n l a1c0=some (fidx p l):=by
 unfold zae
 have:=zqc n a1c0 p l hl hb n 0 (by omega) (by omega)
 simpa only [Int.natCast_zero,drop_zero,zgp] using this
abbrev Gd:=z0v
abbrev Stt:=zem
abbrev Ed:=z0t
abbrev Aut:=z07
def WfE (e:Exn):Prop:=∃ z,z<=4000000/\ETr z e
structure WfX (x:Ed):Prop where
 cond:WfE x.fCond
 checks:∃ ys:List Exn,x.fChecks=ys.map z0l/\∀ y∈ys,WfE y
 lc:x.fChecks.length<=1100000
 lo:x.fOpens.length<=1100000
 lcl:x.fCloses.length<=1100000
 li:x.fInside.length<=1100000
 ll:x.fLimits.length<=1100000
structure WfA (a:Aut):Prop where
 ls:a.fStates.length<=1100000
 le:a.fEdges.length<=1100000
 st:∀ s∈a.fStates,s.fGuards.length<=1100000/\∀ g∈s.fGuards,WfE g.fCond
 ed:∀ x∈a.fEdges,WfX x
theorem WfE.check {e:Exn}(h:WfE e)(n:Nat)(hn:10000000<n):∃ r:Int,z34 n e=some r/\zeb n e=some r:=by
 obtain ⟨z,hz,ht⟩:=h
 obtain ⟨r,r1,r2,_⟩:=yhp z e ht hz n (by omega)
 exact ⟨r,r1,r2⟩
theorem yhe (n:Nat)(a b:Int):z19 n a b=some (decide (a<0) || decide (b<a)):=by
 unfold z19
 simp only [z2k,z1d,z6x,z0c]
 by_cases h:a<0<;>simp [h]
theorem y35 (n:Nat)(a b:Int):z40 n a b=some (decide (0<=a) && decide (a<b)):=by
 unfold z40
 simp only [z2k,z1d,z87,z0c]
 by_cases h:0<=a<;>simp [h]
theorem zn1 (a b:Int):(decide (a<0) || decide (b-1<a))=!(decide (0<=a) && decide (a<b)):=by
 grind
theorem yej {α:Type}{q:α->Bool}{l:List α}{i k:Nat}(hk:k<i)(hi:i<=l.length):((l.take i).drop k).any q=(q (l[k]'(by omega)) || ((l.take i).drop (k+1)).any q):=by
 rw [z0e _ k (by simp;omega),any_cons,getElem_take]
theorem zw0 (n:Nat)(l:List Gd)(a:Aut)(i:Nat)(hi:i<l.length)(hl:l.length<=1100000)(K:Option Int):∀ (m k:Nat),k<=i->i<m+k->z6h n l a (i:Int) K m (k:Int)=if ((l.take i).drop k).any (fun h=>decide (h.fScope=l[i].fScope))=true then some 7 else K
 |0,k,h1,h2=>by omega
 |m+1,k,h1,h2=>by
  unfold z6h
  simp only [z0c]
  by_cases h:k<i
  ·rw [if_pos (by omega),z0j (by omega:k<l.length),z0j hi,yej h (by omega),z1o k (by omega),zw0 n l a i hi hl K m (k+1) (by omega) (by omega)]
   grind
  ·rw [if_neg (by omega),drop_eq_nil_of_le (by simp;omega)]
   simp
theorem zyh (n:Nat)(hn:10000000<n)(a:Aut)(hs:0<=a.fScopes/\a.fScopes<=64)(hv:0<=a.fVars/\a.fVars<=16)(l:List Gd)(hl:l.length<=1100000)(hw:∀ g∈l,WfE g.fCond):∀ (m k:Nat),k<=l.length->l.length<m+k->∃ r:Int,z1p n l a (some 0) m (k:Int)=some r/\z35 n l a (some 0) m (k:Int)=some r
 |0,k,h1,h2=>by omega
 |m+1,k,h1,h2=>by
  unfold z1p z35
  simp only [length_map,z0c,z0y,z2k,z1d,z30,z5f,yhe,y35]
  by_cases h:k<l.length
  ·have hlt:((k:Nat):Int)<((l.length:Nat):Int):=by omega
   simp only [hlt,if_true,z0j h,z04]
   have wS:IntKind.wrap .i64 (a.fScopes-1)=a.fScopes-1:=zex _ (by omega)
   have wV:IntKind.wrap .i64 (a.fVars-1)=a.fVars-1:=zex _ (by omega)
   have e16:∀ x:Int,(decide (x<0) || decide (15<x))=!(decide (0<=x) && decide (x<16)):=fun x=>zn1 x 16
   simp only [wS,wV,zn1,e16]
   obtain ⟨r,r1,r2⟩:=zyh n hn a hs hv l hl hw m (k+1) (by omega) (by omega)
   obtain ⟨c,c1,c2⟩:=(hw _ (getElem_mem h)).check n hn
   have e1:=zw0 n l a k h hl (bnd (z34 n l[k].fCond) fun x89=>if x89=0 then z1p n l a (some 0) m (IntKind.wrap .i64 ((k:Int)+1)) else some x89) n 0 (by omega) (by omega)
   simp only [Int.natCast_zero,drop_zero] at e1
   rw [e1,c1,c2]
   have e2:=zmq (l:=l) (a:=0) (b:=k) (Nat.zero_le _) (by omega) (fun x46=>bnd (za3 n x46 l[k]) fun x47=>cnd x47 (some (7:Int)) (bnd (some c) fun x48=>if x48=0 then z35 n l a (some 0) m (IntKind.wrap .i64 ((k:Int)+1)) else some x48))
   simp only [Int.natCast_zero,drop_zero] at e2
   rw [e2,yqt n l[k] (fun h=>decide (h.fScope=l[k].fScope)) (l.take k) (by simp;omega) (by simp;omega) (fun x _=>rfl),z04,z1o k (by omega),r1,r2]
   simp only [z04]
   generalize (decide (0<=l[k].fScope) && decide (l[k].fScope<a.fScopes))=b1
   generalize (decide (0<=l[k].fType) && decide (l[k].fType<16))=b2
   generalize (decide (0<=l[k].fVar) && decide (l[k].fVar<a.fVars))=b3
   generalize ((l.take k).any fun h=>decide (h.fScope=l[k].fScope))=b4
   cases b1 with
   |false=>exact ⟨2,by simp [z5a],by simp [z5a]⟩
   |true=>cases b2 with
    |false=>exact ⟨2,by simp [z5a],by simp [z5a]⟩
    |true=>cases b3 with
     |false=>exact ⟨2,by simp [z5a],by simp [z5a]⟩
     |true=>cases b4 with
      |true=>exact ⟨7,by simp [z5a],by simp [z5a]⟩
      |false =>
       by_cases hc:c=0
       ·exact ⟨r,by simp [z5a,hc],by simp [z5a,hc]⟩
       ·exact ⟨c,by simp [z5a,hc],by simp [z5a,hc]⟩
  ·have hlt:¬((k:Nat):Int)<((l.length:Nat):Int):=by omega
   simp only [hlt,if_false]
   exact ⟨0,rfl,rfl⟩
theorem yl0 (n:Nat)(hn:10000000<n)(a:Aut)(hs:0<=a.fScopes/\a.fScopes<=64)(hv:0<=a.fVars/\a.fVars<=16)(l:List Gd)(hl:l.length<=1100000)(hw:∀ g∈l,WfE g.fCond):∃ r:Int,zb3 n a l=some r/\zed n a l=some r:=by
 unfold zb3 zed
 simp only [length_map,z0c]
 by_cases h:64<((l.length:Nat):Int)
 ·simp_all
 ·simp only [h,if_false]
  have:=zyh n hn a hs hv l hl hw n 0 (by omega) (by omega)
  omega
theorem y6e (n:Nat)(sc:Int)(l:List Int)(i:Nat)(hi:i<l.length)(hl:l.length<=1100000)(K:Option Int):∀ (m k:Nat),k<=i->i<m+k->z6g n sc l (i:Int) K m (k:Int)=if ((l.take i).drop k).any (fun h=>decide (l[i]=h))=true then some 7 else K
 |0,k,h1,h2=>by omega
 |m+1,k,h1,h2=>by
  unfold z6g
  simp only [z0c]
  by_cases h:k<i
  ·rw [if_pos (by omega),z0j (by omega:k<l.length),z0j hi,yej h (by omega),z1o k (by omega),y6e n sc l i hi hl K m (k+1) (by omega) (by omega)]
   grind
  ·rw [if_neg (by omega),drop_eq_nil_of_le (by simp;omega)]
   simp
theorem zyd (n:Nat)(hn:10000000<n)(a:Aut)(hs:0<=a.fScopes/\a.fScopes<=64)(A:List (List Int))(j:Int)(l:List Int)(hl:l.length<=1100000)(K:Option Int):∀ (m k:Nat),k<=l.length->l.length<m+k->∃ r:Int,z48 n a.fScopes l (some 0) m (k:Int)=some r/\z41 n A a j l K m (k:Int)=(if r=0 then K else some r)/\(r=0->∀ y∈l.drop k,0<=y/\y<a.fScopes)
 |0,k,h1,h2=>by omega
 |m+1,k,h1,h2=>by
  unfold z48 z41
  simp only [length_map,z0c,z0y,yhe,y35]
  by_cases h:k<l.length
  ·have hlt:((k:Nat):Int)<((l.length:Nat):Int):=by omega
   simp only [hlt,if_true,z0j h,z04]
   rw [zex _ (by omega),zn1]
   obtain ⟨r,r1,r2,r3⟩:=zyd n hn a hs A j l hl K m (k+1) (by omega) (by omega)
   have e1:=y6e n a.fScopes l k h hl (z48 n a.fScopes l (some 0) m (IntKind.wrap .i64 ((k:Int)+1))) n 0 (by omega) (by omega)
   simp only [Int.natCast_zero,drop_zero] at e1
   have e2:=zmq (l:=l) (a:=0) (b:=k) (Nat.zero_le _) (by omega) (fun x84=>bnd (z8k n x84 l[k]) fun x85=>cnd x85 (some (7:Int)) (z41 n A a j l K m (IntKind.wrap .i64 ((k:Int)+1))))
   simp only [Int.natCast_zero,drop_zero] at e2
   rw [e1,e2,zrq n l[k] (l.take k) (by simp;omega) (by simp;omega),z04,z1o k (by omega),r1,r2]
   have hr:(decide (0<=l[k]) && decide (l[k]<a.fScopes))=true->0<=l[k]/\l[k]<a.fScopes:=fun h=>by simpa using h
   rw [z0e l k h]
   revert hr
   generalize (decide (0<=l[k]) && decide (l[k]<a.fScopes))=b1
   generalize ((l.take k).any fun y=>decide (l[k]=y))=b4
   intro hr
   cases b1 with
   |false=>exact ⟨2,by simp [z5a],by simp [z5a],fun h=>by cases h⟩
   |true=>cases b4 with
    |true=>exact ⟨7,by simp [z5a],by simp [z5a],fun h=>by cases h⟩
    |false =>
     refine ⟨r,by simp [z5a],by simp [z5a],fun h y hy=>?_⟩
     grind
  ·have hlt:¬((k:Nat):Int)<((l.length:Nat):Int):=by omega
   simp only [hlt,if_false]
   grind
theorem ycy (n:Nat)(x:Ed)(a:Aut)(hl:x.fLimits.length<=1100000)(K K':List Int->Option Int)(r:Option Int)(h1:K (x.fLimits.map (·.fScope))=r):∀ (m k:Nat) (acc:List Int),k<=x.fLimits.length->x.fLimits.length<m+k->acc=(x.fLimits.take k).map (·.fScope)->z7h n x a K m ((k:Int),acc)=r
 |0,k,acc,h2,h3,_=>by omega
 |m+1,k,acc,h2,h3,h4=>by
  unfold z7h
  simp only [length_map,z0c]
  by_cases h:k<x.fLimits.length
  ·rw [if_pos (by omega),z0j h,zbi (by subst h4;simp;omega) (by omega),z1o k (by omega)]
   exact ycy n x a hl K K' r h1 m (k+1) _ (by omega) (by omega) (by subst h4;rw [take_succ_eq_append_getElem h,map_append];rfl)
  grind
theorem zw1 (n:Nat)(l:List z1g)(hl:l.length<=1100000):∀ (m k:Nat) (acc:List Int),k<=l.length->l.length<m+k->acc=(l.take k).map (·.fScope)->z9e n l (fun y=>some y) m ((k:Int),acc)=some (l.map (·.fScope))
 |0,k,acc,h2,h3,_=>by omega
 |m+1,k,acc,h2,h3,h4=>by
  unfold z9e
  simp only [length_map,z0c]
  by_cases h:k<l.length
  ·rw [if_pos (by omega),z0j h,zbi (by subst h4;simp;omega) (by omega),z1o k (by omega)]
   exact zw1 n l hl m (k+1) _ (by omega) (by omega) (by subst h4;rw [take_succ_eq_append_getElem h,map_append];rfl)
  grind
theorem yhg (n:Nat)(hn:10000000<n)(l:List z1g)(hl:l.length<=1100000):zbe n l=some (l.map (·.fScope)):=by
 unfold zbe
 exact zw1 n l hl n 0 [] (by omega) (by omega) (by simp)
theorem y6f (n:Nat)(x:Ed)(hl:x.fLimits.length<=1100000):∀ (m k:Nat),k<=x.fLimits.length->x.fLimits.length<m+k->z4v n x (some 0) m (k:Int)=some (if (x.fLimits.drop k).any (fun l=>decide (l.fSpan<0) || decide (1099511627776<l.fSpan))=true then 2 else 0)
 |0,k,h1,h2=>by omega
 |m+1,k,h1,h2=>by
  unfold z4v
  simp only [length_map,z0c,yhe,z04]
  by_cases h:k<x.fLimits.length
  ·rw [if_pos (by omega),z0j h,z0e _ k h,any_cons,z1o k (by omega),y6f n x hl m (k+1) (by omega) (by omega)]
   generalize (decide (x.fLimits[k].fSpan<0) || decide (1099511627776<x.fLimits[k].fSpan))=b
   cases b<;>simp [z5a]
  grind
theorem yny (n:Nat)(hn:10000000<n)(a:Aut)(hs:0<=a.fScopes/\a.fScopes<=64)(x:Ed)(hx:WfX x):∃ r:Int,z9u n a x=some r /\
  (bnd (zbe n x.fLimits) fun x46=>bnd (zec n a ([x.fOpens,x.fCloses,x.fInside,x46])) fun x47=>if x47=0 then (bnd (z6l n x.fLimits) fun x48=>cnd x48 (some (2:Int)) (some 0)) else some x47)=some r/\(r=0->∀ y∈x.fOpens,0<=y/\y<a.fScopes):=by
 have hsp:=y6f n x hx.ll n 0 (by omega) (by have:=hx.ll;omega)
 simp only [Int.natCast_zero,drop_zero] at hsp
 rw [yhg n hn x.fLimits hx.ll,z04]
 have hcs:=yfb n (fun l=>decide (l.fSpan<0) || decide (1099511627776<l.fSpan)) x.fLimits (by have:=hx.ll;omega) (by have:=hx.ll;omega) (fun y _=>by
  unfold zaj
  simp only [z2k,z1d,z88,z0c]
  grind)
 rw [hcs]
 simp only [z04]
 have hlm:(x.fLimits.map (·.fScope)).length<=1100000:=by rw [length_map];exact hx.ll
 generalize hS:x.fLimits.map (·.fScope)=S at *
 generalize (x.fLimits.any fun l=>decide (l.fSpan<0) || decide (1099511627776<l.fSpan))=sp at *
 unfold zec
 -- the four lists
 have step:∀ (l:List Int),l.length<=1100000->∀ (j:Int) (K:Option Int),∃ r:Int,z95 n l a.fScopes=some r/\z41 n [x.fOpens,x.fCloses,x.fInside,S] a j l K n 0=(if r=0 then K else some r)/\(r=0->∀ y∈l,0<=y/\y<a.fScopes):=fun l hl j K=>by
  have:=zyd n hn a hs [x.fOpens,x.fCloses,x.fInside,S] j l hl K n 0 (by omega) (by omega)
  unfold z95
  simp_all
 have uq:∀ l:List Int,l.length<=1100000->∃ r:Int,z95 n l a.fScopes=some r/\(∀ (j:Int) (K:Option Int),z41 n [x.fOpens,x.fCloses,x.fInside,S] a j l K n 0=if r=0 then K else some r)/\(r=0->∀ y∈l,0<=y/\y<a.fScopes):=fun l hl=>by
  obtain ⟨r,r1,_,r3⟩:=step l hl 0 none
  refine ⟨r,r1,fun j K=>?_,r3⟩
  obtain ⟨r',r1',r2',_⟩:=step l hl j K
  simp_all
 obtain ⟨u1,a1,b1,d1⟩:=uq x.fOpens hx.lo
 obtain ⟨u2,a2,b2,_⟩:=uq x.fCloses hx.lcl
 obtain ⟨u3,a3,b3,_⟩:=uq x.fInside hx.li
 obtain ⟨u4,a4,b4,_⟩:=uq S hlm
 have w0:IntKind.wrap .i64 ((0:Int)+1)=1:=by decide
 have w1:IntKind.wrap .i64 ((1:Int)+1)=2:=by decide
 have w2:IntKind.wrap .i64 ((2:Int)+1)=3:=by decide
 have w3:IntKind.wrap .i64 ((3:Int)+1)=4:=by decide
 have i0:∀ K:List Int->Option Int,idx ([x.fOpens,x.fCloses,x.fInside,S]:List (List Int)) 0 K=K x.fOpens:=fun K=>by have:=z0j (l:=[x.fOpens,x.fCloses,x.fInside,S]) (i:=0) (by simp) K;simpa using this
 have i1:∀ K:List Int->Option Int,idx ([x.fOpens,x.fCloses,x.fInside,S]:List (List Int)) 1 K=K x.fCloses:=fun K=>by have:=z0j (l:=[x.fOpens,x.fCloses,x.fInside,S]) (i:=1) (by simp) K;simpa using this
 have i2:∀ K:List Int->Option Int,idx ([x.fOpens,x.fCloses,x.fInside,S]:List (List Int)) 2 K=K x.fInside:=fun K=>by have:=z0j (l:=[x.fOpens,x.fCloses,x.fInside,S]) (i:=2) (by simp) K;simpa using this
 have i3:∀ K:List Int->Option Int,idx ([x.fOpens,x.fCloses,x.fInside,S]:List (List Int)) 3 K=K S:=fun K=>by have:=z0j (l:=[x.fOpens,x.fCloses,x.fInside,S]) (i:=3) (by simp) K;simpa using this
 have hm:∃ m,n=m+1+1+1+1+1:=⟨n-5,by omega⟩
 have rl:∀ K:Option Int,z2b n x a S K n 0=if u1=0 then (if u2=0 then (if u3=0 then (if u4=0 then K else some u4) else some u3) else some u2) else some u1:=fun K=>by
  obtain ⟨m,hm⟩:=hm
  conv=>lhs;rw [show z2b n x a S K n 0=z2b n x a S K (m+1+1+1+1+1) 0 by rw [<-hm]]
  simp only [z2b,z0c,z0y,i0,i1,i2,i3,w0,w1,w2,w3,a1,a2,a3,a4,z04]
  simp
 have pl:∀ K:Option Int,z5e n [x.fOpens,x.fCloses,x.fInside,S] a K n 0=if u1=0 then (if u2=0 then (if u3=0 then (if u4=0 then K else some u4) else some u3) else some u2) else some u1:=fun K=>by
  obtain ⟨m,hm⟩:=hm
  conv=>lhs;rw [show z5e n [x.fOpens,x.fCloses,x.fInside,S] a K n 0=z5e n [x.fOpens,x.fCloses,x.fInside,S] a K (m+1+1+1+1+1) 0 by rw [<-hm]]
  simp only [z5e,z0c,i0,i1,i2,i3,w0,w1,w2,w3,length_map,length_cons,length_nil,b1,b2,b3,b4]
  simp
 unfold z9u
 have el:=ycy n x a hx.ll (fun k1_0_0y=>frz 7026 <| reg <| z2b n x a k1_0_0y (z4v n x (some 0) n 0) n 0) (fun _=>none) _ rfl n 0 [] (by omega) (by have:=hx.ll;omega) (by simp)
 simp only [Int.natCast_zero] at el
 rw [el,hS,yms,z1d,rl,hsp,pl]
 by_cases q1:u1=0
 rotate_left
 ·exact ⟨u1,by simp [q1],by simp [q1,z04],fun h=>absurd h q1⟩
 by_cases q2:u2=0
 rotate_left
 ·exact ⟨u2,by simp [q1,q2],by simp [q1,q2,z04],fun h=>absurd h q2⟩
 by_cases q3:u3=0
 rotate_left
 ·exact ⟨u3,by simp [q1,q2,q3],by simp [q1,q2,q3,z04],fun h=>absurd h q3⟩
 by_cases q4:u4=0
 rotate_left
 ·exact ⟨u4,by simp [q1,q2,q3,q4],by simp [q1,q2,q3,q4,z04],fun h=>absurd h q4⟩
 cases sp with
 |true=>exact ⟨2,by simp [q1,q2,q3,q4],by simp [q1,q2,q3,q4,z04,z5a],fun h=>by cases h⟩
 |false=>exact ⟨0,by simp [q1,q2,q3,q4],by simp [q1,q2,q3,q4,z04,z5a],fun _=>d1 q1⟩
theorem zym (n:Nat)(hn:10000000<n)(x:Ed)(a:Aut)(ys:List Exn)(hy:x.fChecks=ys.map z0l)(hw:∀ y∈ys,WfE y)(hl:ys.length<=1100000)(P:Prop)(K K':Option Int)(hK:∃ r:Int,K=some r/\K'=some r/\(r=0->P)):∀ (m k:Nat),k<=ys.length->ys.length<m+k->∃ r:Int,z8g n x a K m (k:Int)=some r/\zbf n x a K' m (k:Int)=some r/\(r=0->P)
 |0,k,h1,h2=>by omega
 |m+1,k,h1,h2=>by
  unfold z8g zbf
  simp only [hy,length_map,z0c,z0y]
  by_cases h:k<ys.length
  ·have hlt:((k:Nat):Int)<((ys.length:Nat):Int):=by omega
   simp only [hlt,if_true]
   have hi:∀ (Q:Exn->Option Int),idxD z1z (ys.map z0l) (k:Int) Q=Q ys[k]:=fun Q=>by
    have:=zof (l:=ys.map fun y=>(0,y)) (k:=k) (by simpa using h) Q
    simp only [map_map,getElem_map] at this
    exact this
   rw [hi,hi]
   obtain ⟨c,c1,c2⟩:=(hw _ (getElem_mem h)).check n hn
   obtain ⟨r,r1,r2,r3⟩:=zym n hn x a ys hy hw hl P K K' hK m (k+1) (by omega) (by omega)
   rw [c1,c2,z04,z04,z1o k (by omega),r1,r2]
   grind
  grind
structure EdOk (a:Aut) (x:Ed):Prop where
 frm:0<=x.fFrom/\x.fFrom<a.fStates.length
 tgt:-1<=x.fTo/\x.fTo<a.fStates.length
 var:0<=x.fVar/\x.fVar<a.fVars
 opn:∀ y∈x.fOpens,0<=y/\y<a.fScopes
theorem yqq (n:Nat)(hn:10000000<n)(a:Aut)(hs:0<=a.fScopes/\a.fScopes<=64)(hv:0<=a.fVars/\a.fVars<=16)(hst:1<=a.fStates.length/\a.fStates.length<=256)(x:Ed)(hx:WfX x)(before:Int):∃ r:Int,zc7 n a x before=some r/\zfr n a x before=some r/\(r=0->EdOk a x):=by
 unfold zc7 zfr
 simp only [length_map,z0c,z0y,z2k,z1d,yhe,y35,z04]
 have wS:IntKind.wrap .i64 (((a.fStates.length:Nat):Int)-1)=((a.fStates.length:Nat):Int)-1:=zex _ (by omega)
 have wV:IntKind.wrap .i64 (a.fVars-1)=a.fVars-1:=zex _ (by omega)
 have e16:∀ x:Int,(decide (x<0) || decide (15<x))=!(decide (0<=x) && decide (x<16)):=fun x=>zn1 x 16
 simp only [wS,wV,zn1,e16]
 have tailE:∃ r:Int,z17 n before x a false=some r/\z21 n before x a false=some r/\(r=0->∀ y∈x.fOpens,0<=y/\y<a.fScopes):=by
  unfold z17 z21
  simp only [length_map,z0c,z0y,z6e]
  by_cases hb:x.fFrom<before
  ·simp_all
  simp only [hb,if_false]
  obtain ⟨c,c1,c2⟩:=hx.cond.check n hn
  rw [c1,c2,z04,z04]
  by_cases hc:c=0
  rotate_left
  ·simp_all
  simp only [hc,if_true]
  by_cases h64:64<((x.fChecks.length:Nat):Int)
  ·simp_all
  simp only [h64,if_false]
  obtain ⟨ys,hy,hw⟩:=hx.checks
  obtain ⟨r,r1,r2,r3⟩:=yny n hn a hs x hx
  have hyl:ys.length<=1100000:=by have:=hx.lc;rw [hy,length_map] at this;exact this
  have:=zym n hn x a ys hy hw hyl (∀ y∈x.fOpens,0<=y/\y<a.fScopes) (bnd (z9u n a x) fun x49=>some x49) _ ⟨r,by rw [r1,z04],r2,r3⟩ n 0 (by omega) (by omega)
  simpa only [Int.natCast_zero] using this
 have e2:z17 n before x a true=some 2/\z21 n before x a true=some 2:=by
  unfold z17 z21
  exact ⟨z6c _ _,z6c _ _⟩
 obtain ⟨r,r1,r2,r3⟩:=tailE
 rw [e2.1,e2.2]
 by_cases h1:0<=x.fFrom/\x.fFrom<((a.fStates.length:Nat):Int)
 rotate_left
 ·have:(decide (0<=x.fFrom) && decide (x.fFrom<((a.fStates.length:Nat):Int)))=false:=by
   rw [Bool.and_eq_false_iff,decide_eq_false_iff_not,decide_eq_false_iff_not];omega
  exact ⟨2,by simp [this,z5a],by simp [this,z5a],fun h=>by cases h⟩
 have b1:(decide (0<=x.fFrom) && decide (x.fFrom<((a.fStates.length:Nat):Int)))=true:=by simp [h1.1];omega
 by_cases h2:-1<=x.fTo/\x.fTo<((a.fStates.length:Nat):Int)
 rotate_left
 ·have q1:¬x.fTo=-1:=by omega
  have q2:(decide (0<=x.fTo) && decide (x.fTo<((a.fStates.length:Nat):Int)))=false:=by
   rw [Bool.and_eq_false_iff,decide_eq_false_iff_not,decide_eq_false_iff_not];omega
  refine ⟨2,by simp [b1,q1,q2,z5a],?_,fun h=>by cases h⟩
  by_cases q3:x.fTo < -1
  ·simp [b1,q3,z5a]
  ·have q4:((a.fStates.length:Nat):Int)<=x.fTo:=by omega
   simp [b1,q3,q4,z5a]
 have n1:¬x.fTo < -1:=by omega
 have n2:¬((a.fStates.length:Nat):Int)<=x.fTo:=by omega
 have ok:(decide (0<=x.fVar) && decide (x.fVar<a.fVars))=true->r=0->EdOk a x:=fun h hr=>by
  simp only [Bool.and_eq_true,decide_eq_true_eq] at h
  exact ⟨⟨h1.1,h1.2⟩,⟨h2.1,h2.2⟩,h,r3 hr⟩
 have b2:¬x.fTo=-1->(decide (0<=x.fTo) && decide (x.fTo<((a.fStates.length:Nat):Int)))=true:=fun h=>by grind
 revert ok
 generalize (decide (0<=x.fVar) && decide (x.fVar<a.fVars))=b3
 generalize (decide (0<=x.fType) && decide (x.fType<16))=b4
 intro ok
 simp only [b1,n1,n2,if_false,z6c,Bool.not_true]
 cases b3 with
 |false =>
  refine ⟨2,?_,by simp [z5a],fun h=>by cases h⟩
  by_cases q:x.fTo=-1
  ·simp [q,z5a]
  ·simp [q,b2 q,z5a]
 |true =>
  cases b4 with
  |false =>
   refine ⟨2,?_,by simp [z5a,e2.2],fun h=>by cases h⟩
   by_cases q:x.fTo=-1
   ·simp [q,z5a,e2.1]
   ·simp [q,b2 q,z5a,e2.1]
  |true =>
   refine ⟨r,?_,by simp [z5a,r2],fun q=>ok rfl q⟩
   by_cases q:x.fTo=-1
   ·simp [q,z5a,r1]
   ·simp [q,b2 q,z5a,r1]
theorem y1n (n:Nat)(hn:10000000<n)(a:Aut)(hs:0<=a.fScopes/\a.fScopes<=64)(hv:0<=a.fVars/\a.fVars<=16)(hst:1<=a.fStates.length/\a.fStates.length<=256)(hw:WfA a):∀ (m k:Nat) (before:Int),k<=a.fEdges.length->a.fEdges.length<m+k->(∀ x∈a.fEdges.take k,EdOk a x)->∃ r:Int,z7i n a (some 0) m (before,(k:Int))=some r/\zau n a (some 0) m (before,(k:Int))=some r/\(r=0->∀ x∈a.fEdges,EdOk a x)
 |0,k,before,h1,h2,_=>by omega
 |m+1,k,before,h1,h2,h3=>by
  have hle:=hw.le
  unfold z7i zau
  simp only [length_map,z0c,z0y]
  by_cases h:k<a.fEdges.length
  ·have hlt:((k:Nat):Int)<((a.fEdges.length:Nat):Int):=by omega
   simp only [hlt,if_true,z0j h]
   obtain ⟨c,c1,c2,c3⟩:=yqq n hn a hs hv hst _ (hw.ed _ (getElem_mem h)) before
   rw [c1,c2,z04,z04,z1o k (by omega)]
   by_cases hc:c=0
   ·simp only [hc,if_true]
    refine y1n n hn a hs hv hst hw m (k+1) _ (by omega) (by omega) (fun x hx=>?_)
    rw [take_succ_eq_append_getElem h,mem_append,mem_singleton] at hx
    grind
   ·exact ⟨c,by simp [hc],by simp [hc],fun q=>absurd q hc⟩
  ·have hlt:¬((k:Nat):Int)<((a.fEdges.length:Nat):Int):=by omega
   simp only [hlt,if_false]
   grind
theorem zyb (n:Nat)(hn:10000000<n)(a:Aut)(hs:0<=a.fScopes/\a.fScopes<=64)(hv:0<=a.fVars/\a.fVars<=16)(hw:WfA a)(K K':Option Int)(P:Prop)(hK:∃ r:Int,K=some r/\K'=some r/\(r=0->P)):∀ (m k:Nat),k<=a.fStates.length->a.fStates.length<m+k->∃ r:Int,z7j n a K m (k:Int)=some r/\zav n a K' m (k:Int)=some r/\(r=0->P)
 |0,k,h1,h2=>by omega
 |m+1,k,h1,h2=>by
  have hls:=hw.ls
  unfold z7j zav
  simp only [length_map,z0c,z0y]
  by_cases h:k<a.fStates.length
  ·have hlt:((k:Nat):Int)<((a.fStates.length:Nat):Int):=by omega
   simp only [hlt,if_true,z0j h]
   obtain ⟨g1,g2⟩:=hw.st _ (getElem_mem h)
   obtain ⟨c,c1,c2⟩:=yl0 n hn a hs hv _ g1 g2
   rw [c1,c2,z04,z04,z1o k (by omega)]
   by_cases hc:c=0
   ·simp only [hc,if_true]
    exact zyb n hn a hs hv hw K K' P hK m (k+1) (by omega) (by omega)
   simp_all
  grind
structure AOk (a:Aut):Prop where
 vars:0<=a.fVars/\a.fVars<=16
 st:1<=a.fStates.length/\a.fStates.length<=256
 ed:∀ x∈a.fEdges,EdOk a x
theorem ydh (n:Nat)(hn:10000000<n)(a:Aut)(hw:WfA a):∃ r:Int,z5c n a=some r/\zbg n a=some r/\(r=0->AOk a):=by
 have hls:=hw.ls
 have hle:=hw.le
 unfold z5c zbg
 simp only [z2k,z1d,yhe,z04,z0c]
 have e2:z2c n a true=some 2/\z2r n a true=some 2:=by
  unfold z2c z2r
  exact ⟨z6c _ _,z6c _ _⟩
 rw [e2.1,e2.2]
 by_cases hv:0<=a.fVars/\a.fVars<=16
 rotate_left
 ·refine ⟨2,?_,?_,fun h=>by cases h⟩
  ·have:(decide (a.fVars<0) || decide (16<a.fVars))=true:=by
    rw [Bool.or_eq_true,decide_eq_true_eq,decide_eq_true_eq];omega
   rw [this,z6c]
  simp_all
 have q1:¬a.fVars<0:=by omega
 have q2:¬16<a.fVars:=by omega
 by_cases hs:0<=a.fScopes/\a.fScopes<=64
 rotate_left
 ·have:(decide (a.fScopes<0) || decide (64<a.fScopes))=true:=by
   rw [Bool.or_eq_true,decide_eq_true_eq,decide_eq_true_eq];omega
  refine ⟨2,by simp [q1,q2,this,z5a,e2.1],?_,fun h=>by cases h⟩
  simp_all
 have q3:¬a.fScopes<0:=by omega
 have q4:¬64<a.fScopes:=by omega
 simp only [q1,q2,q3,q4,if_false,decide_false,Bool.or_false,z6e]
 unfold z2c z2r
 simp only [z2k,z1d,length_map,z0c,z6e]
 have e5:z1u n a true=some 5/\z3h n a true=some 5:=by
  unfold z1u z3h
  exact ⟨z6c _ _,z6c _ _⟩
 rw [e5.1,e5.2]
 by_cases h1:((a.fStates.length:Nat):Int)<1
 ·simp_all
 by_cases h2:256<((a.fStates.length:Nat):Int)
 ·simp_all
 simp only [h1,h2,if_false]
 by_cases h3:2048<((a.fEdges.length:Nat):Int)
 ·simp_all
 simp only [h3,decide_false]
 unfold z1u z3h
 simp only [z6e]
 have hst:1<=a.fStates.length/\a.fStates.length<=256:=by omega
 obtain ⟨r,r1,r2,r3⟩:=y1n n hn a hs hv hst hw n 0 0 (by omega) (by omega) (by simp)
 have:=zyb n hn a hs hv hw _ _ (AOk a) ⟨r,r1,r2,fun h=>⟨hv,hst,r3 h⟩⟩ n 0 (by omega) (by omega)
 omega
abbrev T16:=Bool×Bool×Bool×Bool×Bool×Bool×Bool×Bool×Bool×Bool×Bool×Bool×Bool×Bool×Bool×Bool
def l16 (t:T16):List Bool:=[t.1,t.2.1,t.2.2.1,t.2.2.2.1,t.2.2.2.2.1,t.2.2.2.2.2.1,t.2.2.2.2.2.2.1,t.2.2.2.2.2.2.2.1,t.2.2.2.2.2.2.2.2.1,t.2.2.2.2.2.2.2.2.2.1,t.2.2.2.2.2.2.2.2.2.2.1,t.2.2.2.2.2.2.2.2.2.2.2.1,t.2.2.2.2.2.2.2.2.2.2.2.2.1,t.2.2.2.2.2.2.2.2.2.2.2.2.2.1,t.2.2.2.2.2.2.2.2.2.2.2.2.2.2.1,t.2.2.2.2.2.2.2.2.2.2.2.2.2.2.2]
theorem zlk (t:T16):(l16 t).length=16:=rfl
def own1 (i:Nat)(e:Exn):Prop:=usV e.fOp=true/\e.fVar=(i:Int)
theorem yq8 (n:Nat)(e:Exn)(t:T16):∃ t':T16,zea n e t=some (0,t')/\∀ i,i<16->((l16 t')[i]? = some true ↔ (l16 t)[i]? = some true\/own1 i e):=by
 unfold zea
 rw [ymd,z04]
 simp only [z0c,zt6]
 by_cases hu:usV e.fOp=true
 rotate_left
 ·have hu':usV e.fOp=false:=by cases h:usV e.fOp<;>simp_all
  rw [hu',z6e]
  exact ⟨t,rfl,fun i _=>⟨Or.inl,fun h=>h.elim id (fun h=>absurd h.1 hu)⟩⟩
 rw [hu,z6c]
 have hno:¬(0<=e.fVar/\e.fVar<16)->∀ i,i<16->((l16 t)[i]? = some true ↔ (l16 t)[i]? = some true\/own1 i e):=fun h i hi=>⟨Or.inl,fun h'=>h'.elim id (fun h'=>absurd h'.2 (by omega))⟩
 by_cases h0:0<=e.fVar
 rotate_left
 ·rw [if_neg h0];simp_all
 rw [if_pos h0]
 by_cases h1:e.fVar<16
 rotate_left
 ·rw [if_neg h1];simp_all
 rw [if_pos h1]
 have key:∀ (j:Nat) (t':T16),e.fVar=(j:Int)->j<16->l16 t'=(l16 t).set j true->∀ i,i<16->((l16 t')[i]? = some true ↔ (l16 t)[i]? = some true\/own1 i e):=fun j t' hj hlt hs i hi=>by
  rw [hs,getElem?_set]
  unfold own1
  by_cases hij:j=i
  ·subst hij
   simp [zlk,hlt,hu,hj]
  grind
 have:e.fVar=0\/e.fVar=1\/e.fVar=2\/e.fVar=3\/e.fVar=4\/e.fVar=5\/e.fVar=6\/e.fVar=7\/e.fVar=8\/e.fVar=9\/e.fVar=10\/e.fVar=11\/e.fVar=12\/e.fVar=13\/e.fVar=14\/e.fVar=15:=by omega
 rcases this with h|h|h|h|h|h|h|h|h|h|h|h|h|h|h|h
 ·rw [h];exact ⟨_,rfl,key 0 _ h (by decide) rfl⟩
 ·rw [h];exact ⟨_,rfl,key 1 _ h (by decide) rfl⟩
 ·rw [h];exact ⟨_,rfl,key 2 _ h (by decide) rfl⟩
 ·rw [h];exact ⟨_,rfl,key 3 _ h (by decide) rfl⟩
 ·rw [h];exact ⟨_,rfl,key 4 _ h (by decide) rfl⟩
 ·rw [h];exact ⟨_,rfl,key 5 _ h (by decide) rfl⟩
 ·rw [h];exact ⟨_,rfl,key 6 _ h (by decide) rfl⟩
 ·rw [h];exact ⟨_,rfl,key 7 _ h (by decide) rfl⟩
 ·rw [h];exact ⟨_,rfl,key 8 _ h (by decide) rfl⟩
 ·rw [h];exact ⟨_,rfl,key 9 _ h (by decide) rfl⟩
 ·rw [h];exact ⟨_,rfl,key 10 _ h (by decide) rfl⟩
 ·rw [h];exact ⟨_,rfl,key 11 _ h (by decide) rfl⟩
 ·rw [h];exact ⟨_,rfl,key 12 _ h (by decide) rfl⟩
 ·rw [h];exact ⟨_,rfl,key 13 _ h (by decide) rfl⟩
 ·rw [h];exact ⟨_,rfl,key 14 _ h (by decide) rfl⟩
 ·rw [h];exact ⟨_,rfl,key 15 _ h (by decide) rfl⟩
theorem yso {x y:Exn}(h:z0l x=z0l y):x=y:=by
 have:=congrArg z1z h
 rw [zd3,zd3] at this
 exact Option.some.inj this
theorem yof {i:Nat}{l:List (Nat×Exn)}{e:Exn}(ha:e.fArgs=l.map (fun p=>z0l p.2)):Occ i e ↔ own1 i e\/∃ p∈l,Occ i p.2:=by
 constructor
 ·intro h
  cases h with
  |here _ h hv=>exact Or.inl ⟨h,hv⟩
  |sub _ y hy h =>
   rw [ha] at hy
   obtain ⟨p,hp,hpe⟩:=mem_map.1 hy
   exact Or.inr ⟨p,hp,by rw [yso hpe];exact h⟩
 ·rintro (h|⟨p,hp,h⟩)
  ·exact .here _ h.1 h.2
  ·exact .sub _ p.2 (by grind) h
theorem zy7 (n:Nat)(l:List (Nat×Exn))(e:Exn)(ha:e.fArgs=l.map (fun p=>z0l p.2))(hl:l.length<=4000000)
  (ih:∀ p∈l,∀ t:T16,∃ t':T16,za7 n p.2 t=some (0,t')/\∀ i,i<16->((l16 t')[i]? = some true ↔ (l16 t)[i]? = some true\/Occ i p.2)) (t0:T16) :
  ∀ (m k:Nat) (t:T16),k<=l.length->l.length<m+k->(∀ i,i<16->((l16 t)[i]? = some true ↔ (l16 t0)[i]? = some true\/own1 i e\/∃ p∈l.take k,Occ i p.2)) ->
   ∃ t':T16,zas n (za7 n) e (fun k1_0_0y0 k1_0_0y1 k1_0_0y2 k1_0_0y3 k1_0_0y4 k1_0_0y5 k1_0_0y6 k1_0_0y7 k1_0_0y8 k1_0_0y9 k1_0_0y10 k1_0_0y11 k1_0_0y12 k1_0_0y13 k1_0_0y14 k1_0_0y15=>some (0,(k1_0_0y0,k1_0_0y1,k1_0_0y2,k1_0_0y3,k1_0_0y4,k1_0_0y5,k1_0_0y6,k1_0_0y7,k1_0_0y8,k1_0_0y9,k1_0_0y10,k1_0_0y11,k1_0_0y12,k1_0_0y13,k1_0_0y14,k1_0_0y15))) m ((k:Int),t)=some (0,t')/\∀ i,i<16->((l16 t')[i]? = some true ↔ (l16 t0)[i]? = some true\/own1 i e\/∃ p∈l,Occ i p.2)
 |0,k,t,h1,h2,_=>by omega
 |m+1,k,t,h1,h2,h3=>by
  unfold zas
  simp only [ha,length_map,z0c,z0y]
  by_cases h:k<l.length
  ·rw [if_pos (by omega),zof h]
   obtain ⟨t',q1,q2⟩:=ih l[k] (getElem_mem h) t
   rw [q1,z8n,if_pos rfl,z1o k (by omega)]
   refine zy7 n l e ha hl ih t0 m (k+1) t' (by omega) (by omega) (fun i hi=>?_)
   rw [q2 i hi,h3 i hi,take_succ_eq_append_getElem h]
   simp only [mem_append,mem_singleton]
   grind
  ·rw [if_neg (by omega)]
   grind
theorem ykp:∀ (s:Nat) (e:Exn),ETr s e->s<=4000000->∀ n,s+1<n->∀ t:T16,∃ t':T16,za7 n e t=some (0,t')/\∀ i,i<16->((l16 t')[i]? = some true ↔ (l16 t)[i]? = some true\/Occ i e):=by
 intro s
 induction s using Nat.strongRecOn with
 |ind s IH =>
  intro e ht hs n hn t
  cases ht with
  |mk l e h ha =>
   obtain ⟨n',rfl⟩:∃ n',n=n' + 1:=⟨n-1,by omega⟩
   have hl:=zxm (l:=l) (fun p hp=>(h p hp).pos)
   simp only [za7]
   obtain ⟨t1,q1,q2⟩:=yq8 n' e t
   rw [q1,z8n,z0y,z0c,if_pos rfl]
   obtain ⟨t',r1,r2⟩:=zy7 n' l e ha (by omega) (fun p hp t=>by
    have:=zsz hp
    exact IH p.1 (by omega) p.2 (h p hp) (by omega) n' (by omega) t) t n' 0 t1 (by omega) (by omega) (fun i hi=>by
     rw [q2 i hi];simp)
   exact ⟨t',r1,fun i hi=>by rw [r2 i hi,yof ha]⟩
def zyz (t:T16)(k:Nat):List Int:=((l16 t).zipIdx.drop k).filterMap (fun p=>if p.1 then some (p.2:Int) else none)
theorem ylk (t:T16)(k:Nat)(h:k<16):zyz t k=(if (l16 t)[k]'(by rw [zlk];exact h)=true then [(k:Int)] else [])++zyz t (k+1):=by
 unfold zyz
 have hk:k<(l16 t).zipIdx.length:=by rw [length_zipIdx,zlk];exact h
 rw [drop_eq_getElem_cons hk,filterMap_cons]
 grind
theorem zy9 (n:Nat)(t:T16)(K:List Int->Option (List Int)):∀ (m k:Nat) (out:List Int),k<=16->16<m+k->out.length<=k->z0f n (0,t) K m ((k:Int),out)=K (out++zyz t k)
 |0,k,out,h1,h2,_=>by omega
 |m+1,k,out,h1,h2,h3=>by
  by_cases h:k=16
  ·subst h
   unfold z0f
   simp only [z0c]
   rw [if_neg (by omega)]
   have:zyz t 16=[]:=by unfold zyz;rw [drop_eq_nil_of_le (by rw [length_zipIdx,zlk];omega)];rfl
   rw [this,append_nil]
  ·have hk:k<16:=by omega
   have iha:=zy9 n t K m (k+1) (out++[(k:Int)]) (by omega) (by omega) (by simp;omega)
   have ihb:=zy9 n t K m (k+1) out (by omega) (by omega) (by omega)
   rw [ylk t k hk]
   have step:∀ (b:Bool),(l16 t)[k]'(by rw [zlk];exact hk)=b->reg (cnd b (app out [(k:Int)] 8 fun x=>z0f n (0,t) K m ((IntKind.wrap .i64 ((k:Int)+1)),x)) (z0f n (0,t) K m ((IntKind.wrap .i64 ((k:Int)+1)),out)))=K (out++((if (l16 t)[k]'(by rw [zlk];exact hk)=true then [(k:Int)] else [])++zyz t (k+1))):=fun b hb=>by
    rw [hb,z1d,zbi (by simp;omega) (by omega),z1o k (by omega),iha,ihb]
    cases b
    ·rw [z6e];simp
    ·rw [z6c];simp
   unfold z0f
   simp only [z0c,zt6]
   have:k=0\/k=1\/k=2\/k=3\/k=4\/k=5\/k=6\/k=7\/k=8\/k=9\/k=10\/k=11\/k=12\/k=13\/k=14\/k=15:=by omega
   rcases this with rfl|rfl|rfl|rfl|rfl|rfl|rfl|rfl|rfl|rfl|rfl|rfl|rfl|rfl|rfl|rfl<;>exact step _ rfl
theorem yoo (t:T16)(k:Nat)(v:Int):v∈zyz t k ↔ ∃ i:Nat,k<=i/\i<16/\v=(i:Int)/\(l16 t)[i]? = some true:=by
 unfold zyz
 rw [mem_filterMap]
 constructor
 ·rintro ⟨⟨b,i⟩,hm,hv⟩
  obtain ⟨j,hj,he⟩:=mem_iff_getElem.1 hm
  rw [getElem_drop,getElem_zipIdx] at he
  injection he with e1 e2
  rw [length_drop,length_zipIdx,zlk] at hj
  grind
 ·rintro ⟨i,h1,h2,rfl,h3⟩
  refine ⟨(true,i),?_,by simp⟩
  refine mem_iff_getElem.2 ⟨i-k,by rw [length_drop,length_zipIdx,zlk];omega,?_⟩
  grind
theorem zya {e:Exn}(hw:WfE e)(n:Nat)(hn:10000000<n):∃ vs:List Int,zdv n e=some vs/\vs.length<=16/\∀ v,v∈vs ↔ ∃ i:Nat,i<16/\v=(i:Int)/\Occ i e:=by
 obtain ⟨z,hz,ht⟩:=hw
 obtain ⟨t,q1,q2⟩:=ykp z e ht hz n (by omega) (false,false,false,false,false,false,false,false,false,false,false,false,false,false,false,false)
 have hf:∀ i:Nat,¬(l16 (false,false,false,false,false,false,false,false,false,false,false,false,false,false,false,false))[i]? = some true:=fun i h=>by
  obtain ⟨hi,h⟩:=List.getElem?_eq_some_iff.1 h
  rw [zlk] at hi
  have:i=0\/i=1\/i=2\/i=3\/i=4\/i=5\/i=6\/i=7\/i=8\/i=9\/i=10\/i=11\/i=12\/i=13\/i=14\/i=15:=by omega
  rcases this with rfl|rfl|rfl|rfl|rfl|rfl|rfl|rfl|rfl|rfl|rfl|rfl|rfl|rfl|rfl|rfl<;>cases h
 refine ⟨zyz t 0,?_,?_,fun v=>?_⟩
 ·unfold zdv
  rw [q1,z8n]
  have:=zy9 n t (fun y=>some y) n 0 [] (by omega) (by omega) (by simp)
  simpa using this
 ·unfold zyz
  refine Nat.le_trans (length_filterMap_le _ _) ?_
  rw [length_drop,length_zipIdx,zlk]
  omega
 ·rw [yoo]
  grind
end Go.Proofs.YtidhlpjgifoneaaGreat
