/- Searching in slices, plainly. -/
import Derived.Test.YtidhlpjgifoneaaGreatK30
set_option linter.unusedVariables false
set_option linter.unusedSimpArgs false
namespace Go.Proofs.YtidhlpjgifoneaaGreat
open Go.RowKit List
def fidx {α:Type}(p:α->Bool)(l:List α):Int:=match l.findIdx? p with|some j=>(j:Int)|none=>-1
theorem Nd {α:Type}(p:α->Bool)(l:List α):decide (0<=fidx p l)=l.any p:=by
 unfold fidx;grind
def Dx {α:Type}(p:α->Bool)(k:Nat)(l:List α):Int:=match l.findIdx? p with|some j=>((k+j:Nat):Int)|none=>-1
theorem Hf {α:Type}(p:α->Bool)(k:Nat)(x:α)(l:List α):Dx p k (x::l)=if p x=true then (k:Int) else Dx p (k+1) l:=by
 unfold Dx;grind
theorem He {α:Type}(p:α->Bool)(l:List α):Dx p 0 l=fidx p l:=by
 unfold Dx fidx;simp_all
theorem zl5 (n:Nat)(x:Int)(l:List Int)(a:l.length<=1000000000):∀ (m k:Nat),k<=l.length->l.length<m+k->R8 n x l (some (-1)) m (k:Int)=some (Dx (fun y=>decide (x=y)) k (l.drop k))
 |0,k,h1,b=>by omega
 |m+1,k,h1,b=>by
  unfold R8;simp only [length_map,A5];by_cases h:k<l.length
  ·rw [if_pos (by omega),Ac h,B0 l k h,Hf,Ag k (by omega),zl5 n x l a m (k+1) (by omega) (by omega)];grind
  ·rw [if_neg (by omega),drop_eq_nil_of_le (by omega)];rfl
theorem Yb (n:Nat)(x:Int)(l:List Int)(a:l.length<=1000000000)(b:l.length<n):H7 n l x=some (l.any fun y=>decide (x=y)):=by
 unfold H7 Y1;have:=zl5 n x l a n 0 (by omega) (by omega);simp only [Int.natCast_zero,drop_zero,He] at this;rw [this,A3,Nd]
theorem zg3 (n:Nat)(a1c0:Be)(p:Be->Bool)(l:List Be)(b:l.length<=1000000000)(a:∀ x∈l,Qy n x a1c0=some (p x)):∀ (m k:Nat),k<=l.length->l.length<m+k->Qk n a1c0 l (some (-1)) m (k:Int)=some (Dx p k (l.drop k))
 |0,k,h1,c=>by omega
 |m+1,k,h1,c=>by
  unfold Qk;simp only [length_map,A5];by_cases h:k<l.length
  ·rw [if_pos (by omega),Ac h,B0 l k h,Hf,a _ (getElem_mem h),A3,Ag k (by omega),zg3 n a1c0 p l b a m (k+1) (by omega) (by omega)];cases p l[k]<;>simp [Au]
  ·rw [if_neg (by omega),drop_eq_nil_of_le (by omega)];rfl
theorem y1n (n:Nat)(a1c0:Be)(p:Be->Bool)(l:List Be)(a:l.length<=1000000000)(c:l.length<n)(b:∀ x∈l,Qy n x a1c0=some (p x)):Uv n l a1c0=some (fidx p l):=by
 unfold Uv;have:=zg3 n a1c0 p l a b n 0 (by omega) (by omega);simpa only [Int.natCast_zero,drop_zero,He] using this
theorem y4e (n:Nat)(a1c0:Be)(p:Be->Bool)(l:List Be)(b:l.length<=1000000000)(a:l.length<n)(c:∀ x∈l,Qy n x a1c0=some (p x)):Qm n l a1c0=some (l.any p):=by
 unfold Qm;rw [y1n n a1c0 p l b a c,A3,Nd]
theorem z9u (n:Nat)(p:C2->Bool)(l:List C2)(b:l.length<=1000000000)(a:∀ x∈l,M6 n x=some (p x)):∀ (m k:Nat),k<=l.length->l.length<m+k->Oo n l (some (-1)) m (k:Int)=some (Dx p k (l.drop k))
 |0,k,h1,c=>by omega
 |m+1,k,h1,c=>by
  unfold Oo;simp only [length_map,A5];by_cases h:k<l.length
  ·rw [if_pos (by omega),Ac h,B0 l k h,Hf,a _ (getElem_mem h),A3,Ag k (by omega),z9u n p l b a m (k+1) (by omega) (by omega)];cases p l[k]<;>simp [Au]
  ·rw [if_neg (by omega),drop_eq_nil_of_le (by omega)];rfl
theorem zob (n:Nat)(p:C2->Bool)(l:List C2)(a:l.length<=1000000000)(c:l.length<n)(b:∀ x∈l,M6 n x=some (p x)):Tq n l=some (fidx p l):=by
 unfold Tq;have:=z9u n p l a b n 0 (by omega) (by omega);simpa only [Int.natCast_zero,drop_zero,He] using this
theorem zsn (n:Nat)(p:C2->Bool)(l:List C2)(b:l.length<=1000000000)(a:l.length<n)(c:∀ x∈l,M6 n x=some (p x)):Oq n l=some (l.any p):=by
 unfold Oq;rw [zob n p l b a c,A3,Nd]
theorem z9s (n:Nat)(a1c0:A8)(p:B8->Bool)(l:List B8)(b:l.length<=1000000000)(a:∀ x∈l,Mv n (⟨x.fVar,⟨x.fRef.fTime,x.fRef.fSource,x.fRef.fSeq⟩⟩:B8) a1c0=some (p x)):∀ (m k:Nat),k<=l.length->l.length<m+k->Ol n a1c0 l (some (-1)) m (k:Int)=some (Dx p k (l.drop k))
 |0,k,h1,c=>by omega
 |m+1,k,h1,c=>by
  unfold Ol;simp only [length_map,A5];by_cases h:k<l.length
  ·rw [if_pos (by omega),Ac h,B0 l k h,Hf,a _ (getElem_mem h),A3,Ag k (by omega),z9s n a1c0 p l b a m (k+1) (by omega) (by omega)];cases p l[k]<;>simp [Au]
  ·rw [if_neg (by omega),drop_eq_nil_of_le (by omega)];rfl
theorem zo9 (n:Nat)(a1c0:A8)(p:B8->Bool)(l:List B8)(a:l.length<=1000000000)(c:l.length<n)(b:∀ x∈l,Mv n (⟨x.fVar,⟨x.fRef.fTime,x.fRef.fSource,x.fRef.fSeq⟩⟩:B8) a1c0=some (p x)):Tn n l a1c0=some (fidx p l):=by
 unfold Tn;have:=z9s n a1c0 p l a b n 0 (by omega) (by omega);simpa only [Int.natCast_zero,drop_zero,He] using this
theorem zsl (n:Nat)(a1c0:A8)(p:B8->Bool)(l:List B8)(b:l.length<=1000000000)(a:l.length<n)(c:∀ x∈l,Mv n (⟨x.fVar,⟨x.fRef.fTime,x.fRef.fSource,x.fRef.fSeq⟩⟩:B8) a1c0=some (p x)):T5 n l a1c0=some (l.any p):=by
 unfold T5;rw [zo9 n a1c0 p l b a c,A3,Nd]
theorem z9t (n:Nat)(a1c0:A8)(p:A0->Bool)(l:List A0)(b:l.length<=1000000000)(a:∀ x∈l,Mw n x a1c0=some (p x)):∀ (m k:Nat),k<=l.length->l.length<m+k->Om n a1c0 l (some (-1)) m (k:Int)=some (Dx p k (l.drop k))
 |0,k,h1,c=>by omega
 |m+1,k,h1,c=>by
  unfold Om;simp only [length_map,A5];by_cases h:k<l.length
  ·rw [if_pos (by omega),Ac h,B0 l k h,Hf,a _ (getElem_mem h),A3,Ag k (by omega),z9t n a1c0 p l b a m (k+1) (by omega) (by omega)];cases p l[k]<;>simp [Au]
  ·rw [if_neg (by omega),drop_eq_nil_of_le (by omega)];rfl
theorem zoa (n:Nat)(a1c0:A8)(p:A0->Bool)(l:List A0)(a:l.length<=1000000000)(c:l.length<n)(b:∀ x∈l,Mw n x a1c0=some (p x)):Tp n l a1c0=some (fidx p l):=by
 unfold Tp;have:=z9t n a1c0 p l a b n 0 (by omega) (by omega);simpa only [Int.natCast_zero,drop_zero,He] using this
theorem zsm (n:Nat)(a1c0:A8)(p:A0->Bool)(l:List A0)(b:l.length<=1000000000)(a:l.length<n)(c:∀ x∈l,Mw n x a1c0=some (p x)):T6 n l a1c0=some (l.any p):=by
 unfold T6;rw [zoa n a1c0 p l b a c,A3,Nd]
theorem z8a (n:Nat)(a1c0:Ao)(a1c1:A8)(p:Be->Bool)(l:List Be)(b:l.length<=1000000000)(a:∀ x∈l,K4 n x (⟨a1c0.fVars⟩:Ao) a1c1=some (p x)):∀ (m k:Nat),k<=l.length->l.length<m+k->O9 n a1c1 a1c0 l (some (-1)) m (k:Int)=some (Dx p k (l.drop k))
 |0,k,h1,c=>by omega
 |m+1,k,h1,c=>by
  unfold O9;simp only [length_map,A5];by_cases h:k<l.length
  ·rw [if_pos (by omega),Ac h,B0 l k h,Hf,a _ (getElem_mem h),A3,Ag k (by omega),z8a n a1c0 a1c1 p l b a m (k+1) (by omega) (by omega)];cases p l[k]<;>simp [Au]
  ·rw [if_neg (by omega),drop_eq_nil_of_le (by omega)];rfl
theorem zl4 (n:Nat)(a1c0:Ao)(a1c1:A8)(p:Be->Bool)(l:List Be)(a:l.length<=1000000000)(c:l.length<n)(b:∀ x∈l,K4 n x (⟨a1c0.fVars⟩:Ao) a1c1=some (p x)):Tj n l a1c0 a1c1=some (fidx p l):=by
 unfold Tj;have:=z8a n a1c0 a1c1 p l a b n 0 (by omega) (by omega);simpa only [Int.natCast_zero,drop_zero,He] using this
theorem zod (n:Nat)(a1c0:Ao)(a1c1:A8)(p:Be->Bool)(l:List Be)(b:l.length<=1000000000)(a:l.length<n)(c:∀ x∈l,K4 n x (⟨a1c0.fVars⟩:Ao) a1c1=some (p x)):T2 n l a1c0 a1c1=some (l.any p):=by
 unfold T2;rw [zl4 n a1c0 a1c1 p l b a c,A3,Nd]
theorem z89 (n:Nat)(a1c0:B4)(a1c1:Ao)(a1c2:A8)(p:Be->Bool)(l:List Be)(b:l.length<=1000000000)(a:∀ x∈l,I8 n x a1c0 (⟨a1c1.fVars⟩:Ao) a1c2=some (p x)):∀ (m k:Nat),k<=l.length->l.length<m+k->O8 n a1c2 a1c1 a1c0 l (some (-1)) m (k:Int)=some (Dx p k (l.drop k))
 |0,k,h1,c=>by omega
 |m+1,k,h1,c=>by
  unfold O8;simp only [length_map,A5];by_cases h:k<l.length
  ·rw [if_pos (by omega),Ac h,B0 l k h,Hf,a _ (getElem_mem h),A3,Ag k (by omega),z89 n a1c0 a1c1 a1c2 p l b a m (k+1) (by omega) (by omega)];cases p l[k]<;>simp [Au]
  ·rw [if_neg (by omega),drop_eq_nil_of_le (by omega)];rfl
theorem zl3 (n:Nat)(a1c0:B4)(a1c1:Ao)(a1c2:A8)(p:Be->Bool)(l:List Be)(a:l.length<=1000000000)(c:l.length<n)(b:∀ x∈l,I8 n x a1c0 (⟨a1c1.fVars⟩:Ao) a1c2=some (p x)):Th n l a1c0 a1c1 a1c2=some (fidx p l):=by
 unfold Th;have:=z89 n a1c0 a1c1 a1c2 p l a b n 0 (by omega) (by omega);simpa only [Int.natCast_zero,drop_zero,He] using this
theorem zoc (n:Nat)(a1c0:B4)(a1c1:Ao)(a1c2:A8)(p:Be->Bool)(l:List Be)(b:l.length<=1000000000)(a:l.length<n)(c:∀ x∈l,I8 n x a1c0 (⟨a1c1.fVars⟩:Ao) a1c2=some (p x)):T1 n l a1c0 a1c1 a1c2=some (l.any p):=by
 unfold T1;rw [zl3 n a1c0 a1c1 a1c2 p l b a c,A3,Nd]
theorem z87 (n:Nat)(a1c0:C2)(p:Ai->Bool)(l:List Ai)(b:l.length<=1000000000)(a:∀ x∈l,Vg n x a1c0=some (p x)):∀ (m k:Nat),k<=l.length->l.length<m+k->O7 n a1c0 l (some (-1)) m (k:Int)=some (Dx p k (l.drop k))
 |0,k,h1,c=>by omega
 |m+1,k,h1,c=>by
  unfold O7;simp only [length_map,A5];by_cases h:k<l.length
  ·rw [if_pos (by omega),Ac h,B0 l k h,Hf,a _ (getElem_mem h),A3,Ag k (by omega),z87 n a1c0 p l b a m (k+1) (by omega) (by omega)];cases p l[k]<;>simp [Au]
  ·rw [if_neg (by omega),drop_eq_nil_of_le (by omega)];rfl
theorem zl2 (n:Nat)(a1c0:C2)(p:Ai->Bool)(l:List Ai)(a:l.length<=1000000000)(c:l.length<n)(b:∀ x∈l,Vg n x a1c0=some (p x)):Tg n l a1c0=some (fidx p l):=by
 unfold Tg;have:=z87 n a1c0 p l a b n 0 (by omega) (by omega);simpa only [Int.natCast_zero,drop_zero,He] using this
theorem z85 (n:Nat)(a1c0:B4)(p:Ai->Bool)(l:List Ai)(b:l.length<=1000000000)(a:∀ x∈l,Kv n x a1c0=some (p x)):∀ (m k:Nat),k<=l.length->l.length<m+k->O6 n a1c0 l (some (-1)) m (k:Int)=some (Dx p k (l.drop k))
 |0,k,h1,c=>by omega
 |m+1,k,h1,c=>by
  unfold O6;simp only [length_map,A5];by_cases h:k<l.length
  ·rw [if_pos (by omega),Ac h,B0 l k h,Hf,a _ (getElem_mem h),A3,Ag k (by omega),z85 n a1c0 p l b a m (k+1) (by omega) (by omega)];cases p l[k]<;>simp [Au]
  ·rw [if_neg (by omega),drop_eq_nil_of_le (by omega)];rfl
theorem zl1 (n:Nat)(a1c0:B4)(p:Ai->Bool)(l:List Ai)(a:l.length<=1000000000)(c:l.length<n)(b:∀ x∈l,Kv n x a1c0=some (p x)):Tf n l a1c0=some (fidx p l):=by
 unfold Tf;have:=z85 n a1c0 p l a b n 0 (by omega) (by omega);simpa only [Int.natCast_zero,drop_zero,He] using this
abbrev Gd:=Be
abbrev Stt:=F6
abbrev Ed:=B4
abbrev Aut:=Ak
def WfE (e:Exn):Prop:=∃ z,z<=4000000/\ETr z e
structure WfX (x:Ed):Prop where
 cond:WfE x.fCond
 checks:∃ ys:List Exn,x.fChecks=ys.map Ar/\∀ y∈ys,WfE y
 lc:x.fChecks.length<=1100000
 lo:x.fOpens.length<=1100000
 lcl:x.fCloses.length<=1100000
 li:x.fInside.length<=1100000
 ll:x.fLimits.length<=1100000
structure WfA (a:Aut):Prop where
 ls:a.fStates.length<=1100000
 le:a.fEdges.length<=1100000
 st:∀ s∈a.fStates,s.fGuards.length<=1100000/\∀ g∈s.fGuards,WfE g.fCond
 ed:∀ x∈a.fEdges,WfX x
theorem WfE.check {e:Exn}(h:WfE e)(n:Nat)(f:10000000<n):∃ r:Int,Fz n e=some r/\Hb n e=some r:=by
 obtain ⟨z,c,d⟩:=h;obtain ⟨r,b,a,_⟩:=zv4 z e d c n (by omega);exact ⟨r,b,a⟩
theorem Wo (n:Nat)(a b:Int):D5 n a b=some (decide (a<0) || decide (b<a)):=by
 unfold D5;simp only [B3,Am,L8,A5];by_cases h:a<0<;>simp [h]
theorem zhc (n:Nat)(a b:Int):F0 n a b=some (decide (0<=a) && decide (a<b)):=by
 unfold F0;simp only [B3,Am,Ls,A5];by_cases h:0<=a<;>simp [h]
theorem W3 (a b:Int):(decide (a<0) || decide (b-1<a))=!(decide (0<=a) && decide (a<b)):=by
 grind
theorem zrx {α:Type}{q:α->Bool}{l:List α}{i k:Nat}(a:k<i)(hi:i<=l.length):((l.take i).drop k).any q=(q (l[k]'(by omega)) || ((l.take i).drop (k+1)).any q):=by
 rw [B0 _ k (by simp;omega),any_cons,getElem_take]
theorem zbu (n:Nat)(l:List Gd)(a:Aut)(i:Nat)(hi:i<l.length)(b:l.length<=1100000)(K:Option Int):∀ (m k:Nat),k<=i->i<m+k->Oh n l a (i:Int) K m (k:Int)=if ((l.take i).drop k).any (fun h=>decide (h.fScope=l[i].fScope))=true then some 7 else K
 |0,k,h1,c=>by omega
 |m+1,k,h1,c=>by
  unfold Oh;simp only [A5];by_cases h:k<i
  ·rw [if_pos (by omega),Ac (by omega:k<l.length),Ac hi,zrx h (by omega),Ag k (by omega),zbu n l a i hi b K m (k+1) (by omega) (by omega)];grind
  ·rw [if_neg (by omega),drop_eq_nil_of_le (by simp;omega)];simp
theorem zd8 (n:Nat)(s:10000000<n)(a:Aut)(A:0<=a.fScopes/\a.fScopes<=64)(z:0<=a.fVars/\a.fVars<=16)(l:List Gd)(t:l.length<=1100000)(q:∀ g∈l,WfE g.fCond):∀ (m k:Nat),k<=l.length->l.length<m+k->∃ r:Int,Fl n l a (some 0) m (k:Int)=some r/\G1 n l a (some 0) m (k:Int)=some r
 |0,k,h1,B=>by omega
 |m+1,k,h1,B=>by
  unfold Fl G1;simp only [length_map,A5,Al,B3,Am,I0,Ip,Wo,zhc];by_cases h:k<l.length
  ·have d:((k:Nat):Int)<((l.length:Nat):Int):=by omega
   simp only [d,if_true,Ac h,A3];have wS:IntKind.wrap .i64 (a.fScopes-1)=a.fScopes-1:=Cy _ (by omega);have wV:IntKind.wrap .i64 (a.fVars-1)=a.fVars-1:=Cy _ (by omega);have p:∀ x:Int,(decide (x<0) || decide (15<x))=!(decide (0<=x) && decide (x<16)):=fun x=>W3 x 16
   simp only [wS,wV,W3,p];obtain ⟨r,y,w⟩:=zd8 n s a A z l t q m (k+1) (by omega) (by omega);obtain ⟨c,D,C⟩:=(q _ (getElem_mem h)).check n s;have v:=zbu n l a k h t (bnd (Fz n l[k].fCond) fun e=>if e=0 then Fl n l a (some 0) m (IntKind.wrap .i64 ((k:Int)+1)) else some e) n 0 (by omega) (by omega);simp only [Int.natCast_zero,drop_zero] at v;rw [v,D,C];have u:=Fe (l:=l) (a:=0) (b:=k) (Nat.zero_le _) (by omega) (fun o=>bnd (Qm n o l[k]) fun j=>cnd j (some (7:Int)) (bnd (some c) fun f=>if f=0 then G1 n l a (some 0) m (IntKind.wrap .i64 ((k:Int)+1)) else some f));simp only [Int.natCast_zero,drop_zero] at u;rw [u,y4e n l[k] (fun h=>decide (h.fScope=l[k].fScope)) (l.take k) (by simp;omega) (by simp;omega) (fun x _=>rfl),A3,Ag k (by omega),y,w];simp only [A3];generalize (decide (0<=l[k].fScope) && decide (l[k].fScope<a.fScopes))=H;generalize (decide (0<=l[k].fType) && decide (l[k].fType<16))=G;generalize (decide (0<=l[k].fVar) && decide (l[k].fVar<a.fVars))=F;generalize ((l.take k).any fun h=>decide (h.fScope=l[k].fScope))=E;cases H with
   |false=>exact ⟨2,by simp [Au],by simp [Au]⟩
   |true=>cases G with
    |false=>exact ⟨2,by simp [Au],by simp [Au]⟩
    |true=>cases F with
     |false=>exact ⟨2,by simp [Au],by simp [Au]⟩
     |true=>cases E with
      |true=>exact ⟨7,by simp [Au],by simp [Au]⟩
      |false =>
       by_cases i:c=0
       ·exact ⟨r,by simp [Au,i],by simp [Au,i]⟩
       ·exact ⟨c,by simp [Au,i],by simp [Au,i]⟩
  ·have d:¬((k:Nat):Int)<((l.length:Nat):Int):=by omega
   simp only [d,if_false];exact ⟨0,rfl,rfl⟩
theorem zyj (n:Nat)(e:10000000<n)(a:Aut)(d:0<=a.fScopes/\a.fScopes<=64)(c:0<=a.fVars/\a.fVars<=16)(l:List Gd)(f:l.length<=1100000)(b:∀ g∈l,WfE g.fCond):∃ r:Int,Tl n a l=some r/\Uz n a l=some r:=by
 unfold Tl Uz;simp only [length_map,A5];by_cases h:64<((l.length:Nat):Int)
 ·simp_all
 ·simp only [h,if_false];have:=zd8 n e a d c l f b n 0 (by omega) (by omega);omega
theorem zkb (n:Nat)(sc:Int)(l:List Int)(i:Nat)(hi:i<l.length)(a:l.length<=1100000)(K:Option Int):∀ (m k:Nat),k<=i->i<m+k->Og n sc l (i:Int) K m (k:Int)=if ((l.take i).drop k).any (fun h=>decide (l[i]=h))=true then some 7 else K
 |0,k,h1,b=>by omega
 |m+1,k,h1,b=>by
  unfold Og;simp only [A5];by_cases h:k<i
  ·rw [if_pos (by omega),Ac (by omega:k<l.length),Ac hi,zrx h (by omega),Ag k (by omega),zkb n sc l i hi a K m (k+1) (by omega) (by omega)];grind
  ·rw [if_neg (by omega),drop_eq_nil_of_le (by simp;omega)];simp
theorem zcz (n:Nat)(t:10000000<n)(a:Aut)(s:0<=a.fScopes/\a.fScopes<=64)(A:List (List Int))(j:Int)(l:List Int)(g:l.length<=1100000)(K:Option Int):∀ (m k:Nat),k<=l.length->l.length<m+k->∃ r:Int,K1 n a.fScopes l (some 0) m (k:Int)=some r/\Gz n A a j l K m (k:Int)=(if r=0 then K else some r)/\(r=0->∀ y∈l.drop k,0<=y/\y<a.fScopes)
 |0,k,h1,u=>by omega
 |m+1,k,h1,u=>by
  unfold K1 Gz;simp only [length_map,A5,Al,Wo,zhc];by_cases h:k<l.length
  ·have c:((k:Nat):Int)<((l.length:Nat):Int):=by omega
   simp only [c,if_true,Ac h,A3];rw [Cy _ (by omega),W3];obtain ⟨r,q,p,x⟩:=zcz n t a s A j l g K m (k+1) (by omega) (by omega);have o:=zkb n a.fScopes l k h g (K1 n a.fScopes l (some 0) m (IntKind.wrap .i64 ((k:Int)+1))) n 0 (by omega) (by omega);simp only [Int.natCast_zero,drop_zero] at o;have i:=Fe (l:=l) (a:=0) (b:=k) (Nat.zero_le _) (by omega) (fun e=>bnd (H7 n e l[k]) fun d=>cnd d (some (7:Int)) (Gz n A a j l K m (IntKind.wrap .i64 ((k:Int)+1))));simp only [Int.natCast_zero,drop_zero] at i;rw [o,i,Yb n l[k] (l.take k) (by simp;omega) (by simp;omega),A3,Ag k (by omega),q,p];have f:(decide (0<=l[k]) && decide (l[k]<a.fScopes))=true->0<=l[k]/\l[k]<a.fScopes:=fun h=>by simpa using h
   rw [B0 l k h];revert f;generalize (decide (0<=l[k]) && decide (l[k]<a.fScopes))=w;generalize ((l.take k).any fun y=>decide (l[k]=y))=v;intro f;cases w with
   |false=>exact ⟨2,by simp [Au],by simp [Au],fun h=>by cases h⟩
   |true=>cases v with
    |true=>exact ⟨7,by simp [Au],by simp [Au],fun h=>by cases h⟩
    |false =>
     refine ⟨r,by simp [Au],by simp [Au],fun h y z=>?_⟩;grind
  ·have c:¬((k:Nat):Int)<((l.length:Nat):Int):=by omega
   simp only [c,if_false];grind
theorem zqj (n:Nat)(x:Ed)(a:Aut)(c:x.fLimits.length<=1100000)(K K':List Int->Option Int)(r:Option Int)(h1:K (x.fLimits.map (·.fScope))=r):∀ (m k:Nat) (acc:List Int),k<=x.fLimits.length->x.fLimits.length<m+k->acc=(x.fLimits.take k).map (·.fScope)->P2 n x a K m ((k:Int),acc)=r
 |0,k,acc,e,d,_=>by omega
 |m+1,k,acc,e,d,b=>by
  unfold P2;simp only [length_map,A5];by_cases h:k<x.fLimits.length
  ·rw [if_pos (by omega),Ac h,Bq (by subst b;simp;omega) (by omega),Ag k (by omega)];exact zqj n x a c K K' r h1 m (k+1) _ (by omega) (by omega) (by subst b;rw [take_succ_eq_append_getElem h,map_append];rfl)
  grind
theorem zbv (n:Nat)(l:List C2)(b:l.length<=1100000):∀ (m k:Nat) (acc:List Int),k<=l.length->l.length<m+k->acc=(l.take k).map (·.fScope)->Qb n l (fun y=>some y) m ((k:Int),acc)=some (l.map (·.fScope))
 |0,k,acc,d,c,_=>by omega
 |m+1,k,acc,d,c,a=>by
  unfold Qb;simp only [length_map,A5];by_cases h:k<l.length
  ·rw [if_pos (by omega),Ac h,Bq (by subst a;simp;omega) (by omega),Ag k (by omega)];exact zbv n l b m (k+1) _ (by omega) (by omega) (by subst a;rw [take_succ_eq_append_getElem h,map_append];rfl)
  grind
theorem zuu (n:Nat)(b:10000000<n)(l:List C2)(a:l.length<=1100000):R2 n l=some (l.map (·.fScope)):=by
 unfold R2;exact zbv n l a n 0 [] (by omega) (by omega) (by simp)
theorem zkc (n:Nat)(x:Ed)(a:x.fLimits.length<=1100000):∀ (m k:Nat),k<=x.fLimits.length->x.fLimits.length<m+k->K9 n x (some 0) m (k:Int)=some (if (x.fLimits.drop k).any (fun l=>decide (l.fSpan<0) || decide (1099511627776<l.fSpan))=true then 2 else 0)
 |0,k,h1,c=>by omega
 |m+1,k,h1,c=>by
  unfold K9;simp only [length_map,A5,Wo,A3];by_cases h:k<x.fLimits.length
  ·rw [if_pos (by omega),Ac h,B0 _ k h,any_cons,Ag k (by omega),zkc n x a m (k+1) (by omega) (by omega)];generalize (decide (x.fLimits[k].fSpan<0) || decide (1099511627776<x.fLimits[k].fSpan))=b;cases b<;>simp [Au]
  grind
theorem y1m (n:Nat)(G:10000000<n)(a:Aut)(M:0<=a.fScopes/\a.fScopes<=64)(x:Ed)(d:WfX x):∃ r:Int,Qe n a x=some r /\
  (bnd (R2 n x.fLimits) fun v=>bnd (Uy n a ([x.fOpens,x.fCloses,x.fInside,v])) fun q=>if q=0 then (bnd (Oq n x.fLimits) fun u=>cnd u (some (2:Int)) (some 0)) else some q)=some r/\(r=0->∀ y∈x.fOpens,0<=y/\y<a.fScopes):=by
 have s:=zkc n x d.ll n 0 (by omega) (by have:=d.ll;omega);simp only [Int.natCast_zero,drop_zero] at s;rw [zuu n G x.fLimits d.ll,A3];have z:=zsn n (fun l=>decide (l.fSpan<0) || decide (1099511627776<l.fSpan)) x.fLimits (by have:=d.ll;omega) (by have:=d.ll;omega) (fun y _=>by
  unfold M6;simp only [B3,Am,Lt,A5];grind)
 rw [z];simp only [A3];have w:(x.fLimits.map (·.fScope)).length<=1100000:=by rw [length_map];exact d.ll
 generalize N:x.fLimits.map (·.fScope)=S at *;generalize (x.fLimits.any fun l=>decide (l.fSpan<0) || decide (1099511627776<l.fSpan))=sp at *;unfold Uy
 -- the four lists
 have step:∀ (l:List Int),l.length<=1100000->∀ (j:Int) (K:Option Int),∃ r:Int,Q4 n l a.fScopes=some r/\Gz n [x.fOpens,x.fCloses,x.fInside,S] a j l K n 0=(if r=0 then K else some r)/\(r=0->∀ y∈l,0<=y/\y<a.fScopes):=fun l t j K=>by
  have:=zcz n G a M [x.fOpens,x.fCloses,x.fInside,S] j l t K n 0 (by omega) (by omega);unfold Q4;simp_all
 have uq:∀ l:List Int,l.length<=1100000->∃ r:Int,Q4 n l a.fScopes=some r/\(∀ (j:Int) (K:Option Int),Gz n [x.fOpens,x.fCloses,x.fInside,S] a j l K n 0=if r=0 then K else some r)/\(r=0->∀ y∈l,0<=y/\y<a.fScopes):=fun l t=>by
  obtain ⟨r,L,_,H⟩:=step l t 0 none;refine ⟨r,L,fun j K=>?_,H⟩;obtain ⟨Y,J,I,_⟩:=step l t j K;simp_all
 obtain ⟨p,X,T,O⟩:=uq x.fOpens d.lo;obtain ⟨o,W,R,_⟩:=uq x.fCloses d.lcl;obtain ⟨k,V,Q,_⟩:=uq x.fInside d.li;obtain ⟨g,U,P,_⟩:=uq S w;have w0:IntKind.wrap .i64 ((0:Int)+1)=1:=by decide
 have w1:IntKind.wrap .i64 ((1:Int)+1)=2:=by decide
 have B:IntKind.wrap .i64 ((2:Int)+1)=3:=by decide
 have A:IntKind.wrap .i64 ((3:Int)+1)=4:=by decide
 have F:∀ K:List Int->Option Int,idx ([x.fOpens,x.fCloses,x.fInside,S]:List (List Int)) 0 K=K x.fOpens:=fun K=>by have:=Ac (l:=[x.fOpens,x.fCloses,x.fInside,S]) (i:=0) (by simp) K;simpa using this
 have E:∀ K:List Int->Option Int,idx ([x.fOpens,x.fCloses,x.fInside,S]:List (List Int)) 1 K=K x.fCloses:=fun K=>by have:=Ac (l:=[x.fOpens,x.fCloses,x.fInside,S]) (i:=1) (by simp) K;simpa using this
 have D:∀ K:List Int->Option Int,idx ([x.fOpens,x.fCloses,x.fInside,S]:List (List Int)) 2 K=K x.fInside:=fun K=>by have:=Ac (l:=[x.fOpens,x.fCloses,x.fInside,S]) (i:=2) (by simp) K;simpa using this
 have C:∀ K:List Int->Option Int,idx ([x.fOpens,x.fCloses,x.fInside,S]:List (List Int)) 3 K=K S:=fun K=>by have:=Ac (l:=[x.fOpens,x.fCloses,x.fInside,S]) (i:=3) (by simp) K;simpa using this
 have hm:∃ m,n=m+1+1+1+1+1:=⟨n-5,by omega⟩;have rl:∀ K:Option Int,Gi n x a S K n 0=if p=0 then (if o=0 then (if k=0 then (if g=0 then K else some g) else some k) else some o) else some p:=fun K=>by
  obtain ⟨m,hm⟩:=hm;conv=>lhs;rw [show Gi n x a S K n 0=Gi n x a S K (m+1+1+1+1+1) 0 by rw [<-hm]]
  simp only [Gi,A5,Al,F,E,D,C,w0,w1,B,A,X,W,V,U,A3];simp
 have pl:∀ K:Option Int,Io n [x.fOpens,x.fCloses,x.fInside,S] a K n 0=if p=0 then (if o=0 then (if k=0 then (if g=0 then K else some g) else some k) else some o) else some p:=fun K=>by
  obtain ⟨m,hm⟩:=hm;conv=>lhs;rw [show Io n [x.fOpens,x.fCloses,x.fInside,S] a K n 0=Io n [x.fOpens,x.fCloses,x.fInside,S] a K (m+1+1+1+1+1) 0 by rw [<-hm]]
  simp only [Io,A5,F,E,D,C,w0,w1,B,A,length_map,length_cons,length_nil,T,R,Q,P];simp
 unfold Qe;have el:=zqj n x a d.ll (fun k1_0_0y=>frz 7026 <| reg <| Gi n x a k1_0_0y (K9 n x (some 0) n 0) n 0) (fun _=>none) _ rfl n 0 [] (by omega) (by have:=d.ll;omega) (by simp);simp only [Int.natCast_zero] at el;rw [el,N,y0f,Am,rl,s,pl];by_cases b:p=0;rotate_left
 ·exact ⟨p,by simp [b],by simp [b,A3],fun h=>absurd h b⟩
 by_cases c:o=0;rotate_left
 ·exact ⟨o,by simp [b,c],by simp [b,c,A3],fun h=>absurd h c⟩
 by_cases e:k=0;rotate_left
 ·exact ⟨k,by simp [b,c,e],by simp [b,c,e,A3],fun h=>absurd h e⟩
 by_cases f:g=0;rotate_left
 ·exact ⟨g,by simp [b,c,e,f],by simp [b,c,e,f,A3],fun h=>absurd h f⟩
 cases sp with
 |true=>exact ⟨2,by simp [b,c,e,f],by simp [b,c,e,f,A3,Au],fun h=>by cases h⟩
 |false=>exact ⟨0,by simp [b,c,e,f],by simp [b,c,e,f,A3,Au],fun _=>O b⟩
theorem zdd (n:Nat)(f:10000000<n)(x:Ed)(a:Aut)(ys:List Exn)(d:x.fChecks=ys.map Ar)(e:∀ y∈ys,WfE y)(j:ys.length<=1100000)(P:Prop)(K K':Option Int)(o:∃ r:Int,K=some r/\K'=some r/\(r=0->P)):∀ (m k:Nat),k<=ys.length->ys.length<m+k->∃ r:Int,Po n x a K m (k:Int)=some r/\R3 n x a K' m (k:Int)=some r/\(r=0->P)
 |0,k,h1,p=>by omega
 |m+1,k,h1,p=>by
  unfold Po R3;simp only [d,length_map,A5,Al];by_cases h:k<ys.length
  ·have b:((k:Nat):Int)<((ys.length:Nat):Int):=by omega
   simp only [b,if_true];have hi:∀ (Q:Exn->Option Int),idxD C1 (ys.map Ar) (k:Int) Q=Q ys[k]:=fun Q=>by
    have:=G9 (l:=ys.map fun y=>(0,y)) (k:=k) (by simpa using h) Q;simp only [map_map,getElem_map] at this;exact this
   rw [hi,hi];obtain ⟨c,s,q⟩:=(e _ (getElem_mem h)).check n f;obtain ⟨r,i,g,t⟩:=zdd n f x a ys d e j P K K' o m (k+1) (by omega) (by omega);rw [s,q,A3,A3,Ag k (by omega),i,g];grind
  grind
structure EdOk (a:Aut) (x:Ed):Prop where
 frm:0<=x.fFrom/\x.fFrom<a.fStates.length
 tgt:-1<=x.fTo/\x.fTo<a.fStates.length
 var:0<=x.fVar/\x.fVar<a.fVars
 opn:∀ y∈x.fOpens,0<=y/\y<a.fScopes
theorem y4a (n:Nat)(l:10000000<n)(a:Aut)(E:0<=a.fScopes/\a.fScopes<=64)(M:0<=a.fVars/\a.fVars<=16)(D:1<=a.fStates.length/\a.fStates.length<=256)(x:Ed)(e:WfX x)(before:Int):∃ r:Int,U5 n a x before=some r/\V9 n a x before=some r/\(r=0->EdOk a x):=by
 unfold U5 V9;simp only [length_map,A5,Al,B3,Am,Wo,zhc,A3];have wS:IntKind.wrap .i64 (((a.fStates.length:Nat):Int)-1)=((a.fStates.length:Nat):Int)-1:=Cy _ (by omega);have wV:IntKind.wrap .i64 (a.fVars-1)=a.fVars-1:=Cy _ (by omega);have o:∀ x:Int,(decide (x<0) || decide (15<x))=!(decide (0<=x) && decide (x<16)):=fun x=>W3 x 16
 simp only [wS,wV,W3,o];have tailE:∃ r:Int,Dn n before x a false=some r/\E4 n before x a false=some r/\(r=0->∀ y∈x.fOpens,0<=y/\y<a.fScopes):=by
  unfold Dn E4;simp only [length_map,A5,Al,Az];by_cases H:x.fFrom<before
  ·simp_all
  simp only [H,if_false];obtain ⟨c,J,I⟩:=e.cond.check n l;rw [J,I,A3,A3];by_cases G:c=0;rotate_left
  ·simp_all
  simp only [G,if_true];by_cases m:64<((x.fChecks.length:Nat):Int)
  ·simp_all
  simp only [m,if_false];obtain ⟨ys,t,C⟩:=e.checks;obtain ⟨r,d,j,i⟩:=y1m n l a E x e;have k:ys.length<=1100000:=by have:=e.lc;rw [t,length_map] at this;exact this
  have:=zdd n l x a ys t C k (∀ y∈x.fOpens,0<=y/\y<a.fScopes) (bnd (Qe n a x) fun g=>some g) _ ⟨r,by rw [d,A3],j,i⟩ n 0 (by omega) (by omega);simpa only [Int.natCast_zero] using this
 have b:Dn n before x a true=some 2/\E4 n before x a true=some 2:=by
  unfold Dn E4;exact ⟨Av _ _,Av _ _⟩
 obtain ⟨r,d,j,i⟩:=tailE;rw [b.1,b.2];by_cases h1:0<=x.fFrom/\x.fFrom<((a.fStates.length:Nat):Int);rotate_left
 ·have:(decide (0<=x.fFrom) && decide (x.fFrom<((a.fStates.length:Nat):Int)))=false:=by
   rw [Bool.and_eq_false_iff,decide_eq_false_iff_not,decide_eq_false_iff_not];omega
  exact ⟨2,by simp [this,Au],by simp [this,Au],fun h=>by cases h⟩
 have f:(decide (0<=x.fFrom) && decide (x.fFrom<((a.fStates.length:Nat):Int)))=true:=by simp [h1.1];omega
 by_cases u:-1<=x.fTo/\x.fTo<((a.fStates.length:Nat):Int);rotate_left
 ·have z:¬x.fTo=-1:=by omega
  have w:(decide (0<=x.fTo) && decide (x.fTo<((a.fStates.length:Nat):Int)))=false:=by
   rw [Bool.and_eq_false_iff,decide_eq_false_iff_not,decide_eq_false_iff_not];omega
  refine ⟨2,by simp [f,z,w,Au],?_,fun h=>by cases h⟩;by_cases s:x.fTo < -1
  ·simp [f,s,Au]
  ·have v:((a.fStates.length:Nat):Int)<=x.fTo:=by omega
   simp [f,s,v,Au]
 have B:¬x.fTo < -1:=by omega
 have A:¬((a.fStates.length:Nat):Int)<=x.fTo:=by omega
 have ok:(decide (0<=x.fVar) && decide (x.fVar<a.fVars))=true->r=0->EdOk a x:=fun h F=>by
  simp only [Bool.and_eq_true,decide_eq_true_eq] at h;exact ⟨⟨h1.1,h1.2⟩,⟨u.1,u.2⟩,h,i F⟩
 have p:¬x.fTo=-1->(decide (0<=x.fTo) && decide (x.fTo<((a.fStates.length:Nat):Int)))=true:=fun h=>by grind
 revert ok;generalize (decide (0<=x.fVar) && decide (x.fVar<a.fVars))=L;generalize (decide (0<=x.fType) && decide (x.fType<16))=K;intro ok;simp only [f,B,A,if_false,Av,Bool.not_true];cases L with
 |false =>
  refine ⟨2,?_,by simp [Au],fun h=>by cases h⟩;by_cases q:x.fTo=-1
  ·simp [q,Au]
  ·simp [q,p q,Au]
 |true =>
  cases K with
  |false =>
   refine ⟨2,?_,by simp [Au,b.2],fun h=>by cases h⟩;by_cases q:x.fTo=-1
   ·simp [q,Au,b.1]
   ·simp [q,p q,Au,b.1]
  |true =>
   refine ⟨r,?_,by simp [Au,j],fun q=>ok rfl q⟩;by_cases q:x.fTo=-1
   ·simp [q,Au,d]
   ·simp [q,p q,Au,d]
theorem zg5 (n:Nat)(j:10000000<n)(a:Aut)(i:0<=a.fScopes/\a.fScopes<=64)(g:0<=a.fVars/\a.fVars<=16)(d:1<=a.fStates.length/\a.fStates.length<=256)(f:WfA a):∀ (m k:Nat) (before:Int),k<=a.fEdges.length->a.fEdges.length<m+k->(∀ x∈a.fEdges.take k,EdOk a x)->∃ r:Int,P3 n a (some 0) m (before,(k:Int))=some r/\Qz n a (some 0) m (before,(k:Int))=some r/\(r=0->∀ x∈a.fEdges,EdOk a x)
 |0,k,before,h1,p,_=>by omega
 |m+1,k,before,h1,p,u=>by
  have o:=f.le;unfold P3 Qz;simp only [length_map,A5,Al];by_cases h:k<a.fEdges.length
  ·have b:((k:Nat):Int)<((a.fEdges.length:Nat):Int):=by omega
   simp only [b,if_true,Ac h];obtain ⟨c,t,s,v⟩:=y4a n j a i g d _ (f.ed _ (getElem_mem h)) before;rw [t,s,A3,A3,Ag k (by omega)];by_cases e:c=0
   ·simp only [e,if_true];refine zg5 n j a i g d f m (k+1) _ (by omega) (by omega) (fun x l=>?_);rw [take_succ_eq_append_getElem h,mem_append,mem_singleton] at l;grind
   ·exact ⟨c,by simp [e],by simp [e],fun q=>absurd q e⟩
  ·have b:¬((k:Nat):Int)<((a.fEdges.length:Nat):Int):=by omega
   simp only [b,if_false];grind
theorem zcy (n:Nat)(g:10000000<n)(a:Aut)(f:0<=a.fScopes/\a.fScopes<=64)(e:0<=a.fVars/\a.fVars<=16)(b:WfA a)(K K':Option Int)(P:Prop)(l:∃ r:Int,K=some r/\K'=some r/\(r=0->P)):∀ (m k:Nat),k<=a.fStates.length->a.fStates.length<m+k->∃ r:Int,P4 n a K m (k:Int)=some r/\R0 n a K' m (k:Int)=some r/\(r=0->P)
 |0,k,h1,o=>by omega
 |m+1,k,h1,o=>by
  have i:=b.ls;unfold P4 R0;simp only [length_map,A5,Al];by_cases h:k<a.fStates.length
  ·have d:((k:Nat):Int)<((a.fStates.length:Nat):Int):=by omega
   simp only [d,if_true,Ac h];obtain ⟨q,p⟩:=b.st _ (getElem_mem h);obtain ⟨c,t,s⟩:=zyj n g a f e _ q p;rw [t,s,A3,A3,Ag k (by omega)];by_cases j:c=0
   ·simp only [j,if_true];exact zcy n g a f e b K K' P l m (k+1) (by omega) (by omega)
   simp_all
  grind
structure AOk (a:Aut):Prop where
 vars:0<=a.fVars/\a.fVars<=16
 st:1<=a.fStates.length/\a.fStates.length<=256
 ed:∀ x∈a.fEdges,EdOk a x
theorem zhj (n:Nat)(j:10000000<n)(a:Aut)(c:WfA a):∃ r:Int,Il n a=some r/\Md n a=some r/\(r=0->AOk a):=by
 have s:=c.ls;have t:=c.le;unfold Il Md;simp only [B3,Am,Wo,A3,A5];have e:Gj n a true=some 2/\Ey n a true=some 2:=by
  unfold Gj Ey;exact ⟨Av _ _,Av _ _⟩
 rw [e.1,e.2];by_cases d:0<=a.fVars/\a.fVars<=16;rotate_left
 ·refine ⟨2,?_,?_,fun h=>by cases h⟩
  ·have:(decide (a.fVars<0) || decide (16<a.fVars))=true:=by
    rw [Bool.or_eq_true,decide_eq_true_eq,decide_eq_true_eq];omega
   rw [this,Av]
  simp_all
 have g:¬a.fVars<0:=by omega
 have f:¬16<a.fVars:=by omega
 by_cases i:0<=a.fScopes/\a.fScopes<=64;rotate_left
 ·have:(decide (a.fScopes<0) || decide (64<a.fScopes))=true:=by
   rw [Bool.or_eq_true,decide_eq_true_eq,decide_eq_true_eq];omega
  refine ⟨2,by simp [g,f,this,Au,e.1],?_,fun h=>by cases h⟩;simp_all
 have q:¬a.fScopes<0:=by omega
 have p:¬64<a.fScopes:=by omega
 simp only [g,f,q,p,if_false,decide_false,Bool.or_false,Az];unfold Gj Ey;simp only [B3,Am,length_map,A5,Az];have k:Fn n a true=some 5/\G2 n a true=some 5:=by
  unfold Fn G2;exact ⟨Av _ _,Av _ _⟩
 rw [k.1,k.2];by_cases h1:((a.fStates.length:Nat):Int)<1
 ·simp_all
 by_cases v:256<((a.fStates.length:Nat):Int)
 ·simp_all
 simp only [h1,v,if_false];by_cases u:2048<((a.fEdges.length:Nat):Int)
 ·simp_all
 simp only [u,decide_false];unfold Fn G2;simp only [Az];have b:1<=a.fStates.length/\a.fStates.length<=256:=by omega
 obtain ⟨r,o,m,l⟩:=zg5 n j a i d b c n 0 0 (by omega) (by omega) (by simp);have:=zcy n j a i d c _ _ (AOk a) ⟨r,o,m,fun h=>⟨d,b,l h⟩⟩ n 0 (by omega) (by omega);omega
abbrev T16:=Bool×Bool×Bool×Bool×Bool×Bool×Bool×Bool×Bool×Bool×Bool×Bool×Bool×Bool×Bool×Bool
def l16 (t:T16):List Bool:=[t.1,t.2.1,t.2.2.1,t.2.2.2.1,t.2.2.2.2.1,t.2.2.2.2.2.1,t.2.2.2.2.2.2.1,t.2.2.2.2.2.2.2.1,t.2.2.2.2.2.2.2.2.1,t.2.2.2.2.2.2.2.2.2.1,t.2.2.2.2.2.2.2.2.2.2.1,t.2.2.2.2.2.2.2.2.2.2.2.1,t.2.2.2.2.2.2.2.2.2.2.2.2.1,t.2.2.2.2.2.2.2.2.2.2.2.2.2.1,t.2.2.2.2.2.2.2.2.2.2.2.2.2.2.1,t.2.2.2.2.2.2.2.2.2.2.2.2.2.2.2]
theorem G8 (t:T16):(l16 t).length=16:=rfl
def own1 (i:Nat)(e:Exn):Prop:=usV e.fOp=true/\e.fVar=(i:Int)
theorem y3v (n:Nat)(e:Exn)(t:T16):∃ a:T16,Ux n e t=some (0,a)/\∀ i,i<16->((l16 a)[i]? = some true ↔ (l16 t)[i]? = some true\/own1 i e):=by
 unfold Ux;rw [zzy,A3];simp only [A5,Nj];by_cases c:usV e.fOp=true;rotate_left
 ·have b:usV e.fOp=false:=by cases h:usV e.fOp<;>simp_all
  rw [b,Az];exact ⟨t,rfl,fun i _=>⟨Or.inl,fun h=>h.elim id (fun h=>absurd h.1 c)⟩⟩
 rw [c,Av];have m:¬(0<=e.fVar/\e.fVar<16)->∀ i,i<16->((l16 t)[i]? = some true ↔ (l16 t)[i]? = some true\/own1 i e):=fun h i hi=>⟨Or.inl,fun g=>g.elim id (fun g=>absurd g.2 (by omega))⟩
 by_cases k:0<=e.fVar;rotate_left
 ·rw [if_neg k];simp_all
 rw [if_pos k];by_cases h1:e.fVar<16;rotate_left
 ·rw [if_neg h1];simp_all
 rw [if_pos h1];have key:∀ (j:Nat) (a:T16),e.fVar=(j:Int)->j<16->l16 a=(l16 t).set j true->∀ i,i<16->((l16 a)[i]? = some true ↔ (l16 t)[i]? = some true\/own1 i e):=fun j a o d l i hi=>by
  rw [l,getElem?_set];unfold own1;by_cases f:j=i
  ·subst f;simp [G8,d,c,o]
  grind
 have:e.fVar=0\/e.fVar=1\/e.fVar=2\/e.fVar=3\/e.fVar=4\/e.fVar=5\/e.fVar=6\/e.fVar=7\/e.fVar=8\/e.fVar=9\/e.fVar=10\/e.fVar=11\/e.fVar=12\/e.fVar=13\/e.fVar=14\/e.fVar=15:=by omega
 rcases this with h|h|h|h|h|h|h|h|h|h|h|h|h|h|h|h
 ·rw [h];exact ⟨_,rfl,key 0 _ h (by decide) rfl⟩
 ·rw [h];exact ⟨_,rfl,key 1 _ h (by decide) rfl⟩
 ·rw [h];exact ⟨_,rfl,key 2 _ h (by decide) rfl⟩
 ·rw [h];exact ⟨_,rfl,key 3 _ h (by decide) rfl⟩
 ·rw [h];exact ⟨_,rfl,key 4 _ h (by decide) rfl⟩
 ·rw [h];exact ⟨_,rfl,key 5 _ h (by decide) rfl⟩
 ·rw [h];exact ⟨_,rfl,key 6 _ h (by decide) rfl⟩
 ·rw [h];exact ⟨_,rfl,key 7 _ h (by decide) rfl⟩
 ·rw [h];exact ⟨_,rfl,key 8 _ h (by decide) rfl⟩
 ·rw [h];exact ⟨_,rfl,key 9 _ h (by decide) rfl⟩
 ·rw [h];exact ⟨_,rfl,key 10 _ h (by decide) rfl⟩
 ·rw [h];exact ⟨_,rfl,key 11 _ h (by decide) rfl⟩
 ·rw [h];exact ⟨_,rfl,key 12 _ h (by decide) rfl⟩
 ·rw [h];exact ⟨_,rfl,key 13 _ h (by decide) rfl⟩
 ·rw [h];exact ⟨_,rfl,key 14 _ h (by decide) rfl⟩
 ·rw [h];exact ⟨_,rfl,key 15 _ h (by decide) rfl⟩
theorem y6b {x y:Exn}(h:Ar x=Ar y):x=y:=by
 have:=congrArg C1 h;rw [Mh,Mh] at this;exact Option.some.inj this
theorem zok {i:Nat}{l:List (Nat×Exn)}{e:Exn}(f:e.fArgs=l.map (fun p=>Ar p.2)):Occ i e ↔ own1 i e\/∃ p∈l,Occ i p.2:=by
 constructor
 ·intro h;cases h with
  |here _ h d=>exact Or.inl ⟨h,d⟩
  |sub _ y b h =>
   rw [f] at b;obtain ⟨p,c,a⟩:=mem_map.1 b;exact Or.inr ⟨p,c,by rw [y6b a];exact h⟩
 ·rintro (h|⟨p,c,h⟩)
  ·exact .here _ h.1 h.2
  ·exact .sub _ p.2 (by grind) h
theorem zcv (n:Nat)(l:List (Nat×Exn))(e:Exn)(d:e.fArgs=l.map (fun p=>Ar p.2))(j:l.length<=4000000)
  (c:∀ p∈l,∀ t:T16,∃ a:T16,Ix n p.2 t=some (0,a)/\∀ i,i<16->((l16 a)[i]? = some true ↔ (l16 t)[i]? = some true\/Occ i p.2)) (b:T16) :
  ∀ (m k:Nat) (t:T16),k<=l.length->l.length<m+k->(∀ i,i<16->((l16 t)[i]? = some true ↔ (l16 b)[i]? = some true\/own1 i e\/∃ p∈l.take k,Occ i p.2)) ->
   ∃ a:T16,Qx n (Ix n) e (fun k1_0_0y0 k1_0_0y1 k1_0_0y2 k1_0_0y3 k1_0_0y4 k1_0_0y5 k1_0_0y6 k1_0_0y7 k1_0_0y8 k1_0_0y9 k1_0_0y10 k1_0_0y11 k1_0_0y12 k1_0_0y13 k1_0_0y14 k1_0_0y15=>some (0,(k1_0_0y0,k1_0_0y1,k1_0_0y2,k1_0_0y3,k1_0_0y4,k1_0_0y5,k1_0_0y6,k1_0_0y7,k1_0_0y8,k1_0_0y9,k1_0_0y10,k1_0_0y11,k1_0_0y12,k1_0_0y13,k1_0_0y14,k1_0_0y15))) m ((k:Int),t)=some (0,a)/\∀ i,i<16->((l16 a)[i]? = some true ↔ (l16 b)[i]? = some true\/own1 i e\/∃ p∈l,Occ i p.2)
 |0,k,t,h1,q,_=>by omega
 |m+1,k,t,h1,q,o=>by
  unfold Qx;simp only [d,length_map,A5,Al];by_cases h:k<l.length
  ·rw [if_pos (by omega),G9 h];obtain ⟨a,g,f⟩:=c l[k] (getElem_mem h) t;rw [g,Cb,if_pos rfl,Ag k (by omega)];refine zcv n l e d j c b m (k+1) a (by omega) (by omega) (fun i hi=>?_);rw [f i hi,o i hi,take_succ_eq_append_getElem h];simp only [mem_append,mem_singleton];grind
  ·rw [if_neg (by omega)];grind
theorem zy9:∀ (s:Nat) (e:Exn),ETr s e->s<=4000000->∀ n,s+1<n->∀ t:T16,∃ b:T16,Ix n e t=some (0,b)/\∀ i,i<16->((l16 b)[i]? = some true ↔ (l16 t)[i]? = some true\/Occ i e):=by
 intro s
 induction s using Nat.strongRecOn with
 |ind s IH =>
  intro e o q n r t;cases o with
  |mk l e h d =>
   obtain ⟨a,rfl⟩:∃ a,n=a + 1:=⟨n-1,by omega⟩;have u:=S5 (l:=l) (fun p c=>(h p c).pos);simp only [Ix];obtain ⟨f,m,k⟩:=y3v a e t;rw [m,Cb,Al,A5,if_pos rfl];obtain ⟨b,j,g⟩:=zcv a l e d (by omega) (fun p c t=>by
    have:=J9 c;exact IH p.1 (by omega) p.2 (h p c) (by omega) a (by omega) t) t a 0 f (by omega) (by omega) (fun i hi=>by
     rw [k i hi];simp)
   exact ⟨b,j,fun i hi=>by rw [g i hi,zok d]⟩
def Fi (t:T16)(k:Nat):List Int:=((l16 t).zipIdx.drop k).filterMap (fun p=>if p.1 then some (p.2:Int) else none)
theorem zz5 (t:T16)(k:Nat)(h:k<16):Fi t k=(if (l16 t)[k]'(by rw [G8];exact h)=true then [(k:Int)] else [])++Fi t (k+1):=by
 unfold Fi;have a:k<(l16 t).zipIdx.length:=by rw [length_zipIdx,G8];exact h
 rw [drop_eq_getElem_cons a,filterMap_cons];grind
theorem zcw (n:Nat)(t:T16)(K:List Int->Option (List Int)):∀ (m k:Nat) (out:List Int),k<=16->16<m+k->out.length<=k->Bp n (0,t) K m ((k:Int),out)=K (out++Fi t k)
 |0,k,out,h1,d,_=>by omega
 |m+1,k,out,h1,d,e=>by
  by_cases h:k=16
  ·subst h;unfold Bp;simp only [A5];rw [if_neg (by omega)];have:Fi t 16=[]:=by unfold Fi;rw [drop_eq_nil_of_le (by rw [length_zipIdx,G8];omega)];rfl
   rw [this,append_nil]
  ·have a:k<16:=by omega
   have iha:=zcw n t K m (k+1) (out++[(k:Int)]) (by omega) (by omega) (by simp;omega);have ihb:=zcw n t K m (k+1) out (by omega) (by omega) (by omega);rw [zz5 t k a];have step:∀ (b:Bool),(l16 t)[k]'(by rw [G8];exact a)=b->reg (cnd b (app out [(k:Int)] 8 fun x=>Bp n (0,t) K m ((IntKind.wrap .i64 ((k:Int)+1)),x)) (Bp n (0,t) K m ((IntKind.wrap .i64 ((k:Int)+1)),out)))=K (out++((if (l16 t)[k]'(by rw [G8];exact a)=true then [(k:Int)] else [])++Fi t (k+1))):=fun b c=>by
    rw [c,Am,Bq (by simp;omega) (by omega),Ag k (by omega),iha,ihb];cases b
    ·rw [Az];simp
    ·rw [Av];simp
   unfold Bp;simp only [A5,Nj];have:k=0\/k=1\/k=2\/k=3\/k=4\/k=5\/k=6\/k=7\/k=8\/k=9\/k=10\/k=11\/k=12\/k=13\/k=14\/k=15:=by omega
   rcases this with rfl|rfl|rfl|rfl|rfl|rfl|rfl|rfl|rfl|rfl|rfl|rfl|rfl|rfl|rfl|rfl<;>exact step _ rfl
theorem y28 (t:T16)(k:Nat)(v:Int):v∈Fi t k ↔ ∃ i:Nat,k<=i/\i<16/\v=(i:Int)/\(l16 t)[i]? = some true:=by
 unfold Fi;rw [mem_filterMap];constructor
 ·rintro ⟨⟨b,i⟩,hm,d⟩;obtain ⟨j,c,a⟩:=mem_iff_getElem.1 hm;rw [getElem_drop,getElem_zipIdx] at a;injection a with h g
  rw [length_drop,length_zipIdx,G8] at c;grind
 ·rintro ⟨i,h1,f,rfl,e⟩;refine ⟨(true,i),?_,by simp⟩;refine mem_iff_getElem.2 ⟨i-k,by rw [length_drop,length_zipIdx,G8];omega,?_⟩;grind
theorem zcx {e:Exn}(c:WfE e)(n:Nat)(g:10000000<n):∃ vs:List Int,Rk n e=some vs/\vs.length<=16/\∀ v,v∈vs ↔ ∃ i:Nat,i<16/\v=(i:Int)/\Occ i e:=by
 obtain ⟨z,b,d⟩:=c;obtain ⟨t,a,f⟩:=zy9 z e d b n (by omega) (false,false,false,false,false,false,false,false,false,false,false,false,false,false,false,false);have j:∀ i:Nat,¬(l16 (false,false,false,false,false,false,false,false,false,false,false,false,false,false,false,false))[i]? = some true:=fun i h=>by
  obtain ⟨hi,h⟩:=List.getElem?_eq_some_iff.1 h;rw [G8] at hi;have:i=0\/i=1\/i=2\/i=3\/i=4\/i=5\/i=6\/i=7\/i=8\/i=9\/i=10\/i=11\/i=12\/i=13\/i=14\/i=15:=by omega
  rcases this with rfl|rfl|rfl|rfl|rfl|rfl|rfl|rfl|rfl|rfl|rfl|rfl|rfl|rfl|rfl|rfl<;>cases h
 refine ⟨Fi t 0,?_,?_,fun v=>?_⟩
 ·unfold Rk;rw [a,Cb];have:=zcw n t (fun y=>some y) n 0 [] (by omega) (by omega) (by simp);simpa using this
 ·unfold Fi;refine Nat.le_trans (length_filterMap_le _ _) ?_;rw [length_drop,length_zipIdx,G8];omega
 ·rw [y28];grind
end Go.Proofs.YtidhlpjgifoneaaGreat
