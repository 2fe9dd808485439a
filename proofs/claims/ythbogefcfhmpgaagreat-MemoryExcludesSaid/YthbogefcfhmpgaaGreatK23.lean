/- Layer 56, plainly. -/
import Derived.Test.YthbogefcfhmpgaaGreatK22
import Derived.Test.YthbogefcfhmpgaaGreatRows
import Derived.ProofKit
import Derived.Lib.SmallJoins
import Derived.Deep.Slices
import Derived.Below
set_option linter.unusedVariables false
set_option linter.unusedSimpArgs false
set_option maxRecDepth 100000
namespace Go.Proofs.YthbogefcfhmpgaaGreat
open Go.RowKit List
open _root_.Go.Proofs.Tryz renaming prog->aA,underlying3->aB,underlying43->aJ,underlying9->aN,underlying142->aY,underlying39->bA,underlying28->bB
open List renaming length_map->aC,take_succ_eq_append_getElem->aF,map_cons->aG,getElem_map->aH,take_of_length_le->aK,getElem_mem->aL,mem_cons_of_mem->aO,range->aP,getD_eq_getElem?_getD->aQ,mem_cons->aR,map_nil->aS,getElem?_eq_getElem->aT,mem_singleton->aU,getElem_range->aV,length_append->aW,mem_filter->aZ,drop_eq_nil_of_le->bC,mem_append_right->bD,length_cons->bE,all_eq_true->bF,sum_cons->bG
open Int renaming natCast_zero->aD
open Bool renaming and_eq_true->aE,not_true->aM
open Or renaming inl->aX,inr->bH
theorem zfs {s:ByteArray}{i:Nat}(h:i<s.size):Qh s i≠none:=by
 unfold Qh
 rw [Array.getElem?_eq_getElem (show i<s.data.size from h)]
 simp
variable {β:Type}
theorem W7 {s:ByteArray}{i:Nat}(h:i<s.size)(k:Int->Option β):∃ b,idb s (i:Int) k=k b:=by
 unfold idb
 rw [if_pos (by omega)]
 simp only [Int.toNat_natCast]
 cases e:Qh s i with
 |some b=>exact ⟨_,rfl⟩
 |none=>exact absurd e (zfs h)
theorem zgu (n:Nat)(c:Int):∃ r,M6 n c=some r:=by
 unfold M6
 simp only [Ao,Aa,E3,A3]
 repeat' split
 all_goals exact ⟨_,rfl⟩
theorem zev (n:Nat)(c:Int):∃ r,Fw n c=some r:=by
 unfold Fw
 simp only [Ao,Aa,J9,A3]
 repeat' split
 all_goals exact ⟨_,rfl⟩
theorem Zx (n:Nat)(s:ByteArray)(hs:s.size<=24):∀ (m k:Nat),k<=s.size->s.size<m+k->∃ r,Df n s (some true) m (k:Int)=some r
 |0,k,h1,h2=>by omega
 |m+1,k,h1,h2=>by
  unfold Df
  rw [A3]
  by_cases h:k<s.size
  ·have ih:=Zx n s hs m (k+1) (by omega) (by omega)
   have key:∀ b,∃ r,E5 n s (k:Int) (Df n s (some true) m) b=some r:=fun b=>by
    unfold E5
    rw [Ai k (by omega)]
    cases b with
    |true=>rw [Ab];exact ⟨_,rfl⟩
    |false=>rw [Ae];exact ih
   rw [if_pos (by omega)]
   simp only [Ao,Aa]
   obtain ⟨b,hb⟩:=W7 h (fun x49=>bnd (M6 n x49) fun x50 =>
   cnd (!(x50))
    (idb s (k:Int) fun x51 =>
    bnd (Fw n x51) fun x52 =>
    E5 n s (k:Int) (Df n s (some true) m) !(x52))
   <| E5 n s (k:Int) (Df n s (some true) m) false)
   rw [hb]
   obtain ⟨c,hc⟩:=zgu n b
   rw [hc,A0,Ak]
   cases c with
   |true=>rw [Ab];exact key _
   |false =>
    rw [Ae]
    obtain ⟨b2,hb2⟩:=W7 h (fun x51=>bnd (Fw n x51) fun x52=>E5 n s (k:Int) (Df n s (some true) m) !(x52))
    obtain ⟨d,hd⟩:=zev n b2
    rw [hb2,hd,A0]
    exact key _
  ·rw [if_neg (by omega)]
   exact ⟨_,rfl⟩
theorem zi6 (n:Nat)(hn:10000000<n)(s:ByteArray):∃ r,Md n s=some r:=by
 unfold Md
 simp only [Ao,Aa,A3]
 have k1:∀ b,(s.size<=24)->∃ r,Dg n s b=some r:=fun b hs=>by
  unfold Dg
  cases b with
  |true=>rw [Ab];exact ⟨_,rfl⟩
  |false =>
   rw [Ae]
   have:=Zx n s hs n 0 (by omega) (by omega)
   simpa using this
 have k2:∃ r,Dg n s true=some r:=by
  unfold Dg
  rw [Ab];exact ⟨_,rfl⟩
 split
 ·exact k2
 ·split
  ·exact k2
  ·obtain ⟨b,hb⟩:=W7 (s:=s) (i:=0) (by omega) (fun x53=>bnd (Fw n x53) fun x54=>Dg n s x54)
   obtain ⟨d,hd⟩:=zev n b
   simp only [aD] at hb
   rw [hb,hd,A0]
   exact k1 d (by omega)
def FdOk (S:Aw):Prop:=S.fFields.length<=8/\∀ f∈S.fFields,0<=f.fKind/\f.fKind<3
theorem Yp (n:Nat)(hn:10000000<n)(S:Aw)(hS:S.fFields.length<=8):∀ (m k:Nat) (M:List (ByteArray×Bool)),k<=S.fFields.length->S.fFields.length<m+k->(∀ f∈S.fFields.take k,0<=f.fKind/\f.fKind<3)->∃ r,Fp n S (some 0) m ((k:Int),M)=some r/\(r=0->FdOk S)
 |0,k,M,h1,h2,h3=>by omega
 |m+1,k,M,h1,h2,h3=>by
  unfold Fp
  simp only [aC]
  rw [A3]
  by_cases h:k<S.fFields.length
  ·rw [if_pos (by omega),Aj h]
   obtain ⟨c,hc⟩:=zi6 n hn S.fFields[k].fName
   have hf:∃ r,Ox n S.fFields[k].fName=some r:=by
    unfold Ox
    simp only [Ao,Aa,Io]
    rw [hc,A0]
    cases c with
    |true=>rw [Ab];exact ⟨_,rfl⟩
    |false=>rw [Ae];exact ⟨_,rfl⟩
   obtain ⟨d,hd⟩:=hf
   have j0:∀ b M',(b=false->0<=S.fFields[k].fKind/\S.fFields[k].fKind<3)->∃ r,H9 n S ((k:Int),M') (Fp n S (some 0) m) S.fFields[k] b=some r/\(r=0->FdOk S):=fun b M' hb=>by
    unfold H9
    cases b with
    |true=>rw [Ab];exact ⟨_,rfl,fun h=>by cases h⟩
    |false =>
     rw [Ae,Dm,Ai k (by omega)]
     refine Yp n hn S hS m (k+1) _ (by omega) (by omega) (fun f hf=>?_)
     rw [aF h,mem_append,aU] at hf
     exact hf.elim (h3 f) (fun e=>e▸hb rfl)
   rw [hd,A0,Ak]
   cases d with
   |false=>rw [Ae];exact ⟨_,rfl,fun h=>by cases h⟩
   |true =>
    rw [Ab,K2]
    cases (mlk M S.fFields[k].fName).getD false with
    |true=>rw [Ab];exact ⟨_,rfl,fun h=>by cases h⟩
    |false =>
     rw [Ae]
     simp only [Ao,Aa]
     rw [A3]
     split
     ·exact j0 true M (fun h=>by cases h)
     ·exact j0 _ M (fun h=>by simp at h;omega)
  ·rw [if_neg (by omega)]
   rw [aK (by omega)] at h3
   exact ⟨0,rfl,fun _=>⟨hS,h3⟩⟩
theorem zgn (n:Nat)(hn:10000000<n)(S:Aw):∃ r,Pg n S=some r/\(r=0->FdOk S):=by
 obtain ⟨c,hc⟩:=zi6 n hn S.fName
 unfold Pg
 simp only [aC]
 rw [hc,A0,Ak]
 cases c with
 |false=>rw [Ae];exact ⟨_,rfl,fun h=>by cases h⟩
 |true =>
  rw [Ab,A3]
  split
  ·exact ⟨_,rfl,fun h=>by cases h⟩
  ·have:=Yp n hn S (by omega) n 0 [] (by omega) (by omega) (by simp)
   simpa using this
theorem z8c (n:Nat)(hn:10000000<n)(T:List Aw)(hT:T.length<=16):∀ (m k:Nat) (M:List (ByteArray×Bool)),k<=T.length->T.length<m+k->(∀ S∈T.take k,FdOk S)->∃ r,Ln n T (some 0) m ((k:Int),M)=some r/\(r=0->∀ S∈T,FdOk S)
 |0,k,M,h1,h2,h3=>by omega
 |m+1,k,M,h1,h2,h3=>by
  unfold Ln
  simp only [aC]
  rw [A3]
  by_cases h:k<T.length
  ·obtain ⟨c,hc,hc2⟩:=zgn n hn T[k]
   rw [if_pos (by omega),Aj h,hc,A0,Ak,A3]
   split
   ·rename_i q
    rw [K2]
    cases (mlk M T[k].fName).getD false with
    |true=>rw [Ab];exact ⟨_,rfl,fun h=>by cases h⟩
    |false =>
     rw [Ae,Dm,Ai k (by omega)]
     refine z8c n hn T hT m (k+1) _ (by omega) (by omega) (fun S hS=>?_)
     rw [aF h,mem_append,aU] at hS
     exact hS.elim (h3 S) (fun e=>e▸hc2 q)
   ·rename_i q
    exact ⟨c,rfl,fun e=>absurd e q⟩
  ·rw [if_neg (by omega)]
   rw [aK (by omega)] at h3
   exact ⟨0,rfl,fun _=>h3⟩
theorem zl7 (n:Nat)(hn:10000000<n)(T:List Aw):∃ r,D6 n T=some r/\(r=0->T.length<=16/\∀ S∈T,FdOk S):=by
 unfold D6
 simp only [aC]
 rw [A3]
 split
 ·exact ⟨_,rfl,fun h=>by cases h⟩
 ·have hT:T.length<=16:=by omega
  obtain ⟨r,r1,r2⟩:=z8c n hn T hT n 0 [] (by omega) (by omega) (by simp)
  simp only [aD] at r1
  exact ⟨r,r1,fun h=>⟨hT,r2 h⟩⟩
theorem zjc (n:Nat)(e:Ev):∃ r,Pc n e=some r/\(0<=e.fSource/\e.fSource<8/\0<=e.fSeq/\e.fSeq<=1099511627776/\0<=e.fTime/\e.fTime<=1099511627776->r=0):=by
 unfold Pc
 simp only [Ao,Aa,J5,Fm,A3,Af,decide_eq_true_eq]
 repeat' split
 all_goals first|exact ⟨_,rfl,fun _=>rfl⟩|exact ⟨_,rfl,fun h=>by omega⟩|exact ⟨_,rfl,fun h=>by simp_all⟩|exact ⟨_,rfl,fun h=>by simp_all;omega⟩
theorem Yb (n:Nat)(e:Ev)(S:Aw)(hl:e.fValues.length=S.fFields.length)(h8:S.fFields.length<=8):∀ (m k:Nat),k<=e.fValues.length->e.fValues.length<m+k->∃ r,M5 n e S (some 0) m (k:Int)=some r/\((∀ j (h:j<e.fValues.length),vcP e.fValues[j]=0/\e.fValues[j].fKind=(S.fFields[j]'(by omega)).fKind)->r=0)
 |0,k,h1,h2=>by omega
 |m+1,k,h1,h2=>by
  unfold M5
  simp only [aC]
  rw [A3]
  by_cases h:k<e.fValues.length
  ·rw [if_pos (by omega),Aj h,p_vc,A0,Ak,A3]
   split
   ·rw [Aj (by omega),Ak,A3,Ai k (by omega)]
    split
    ·exact Yb n e S hl h8 m (k+1) (by omega) (by omega)
    ·rename_i q;exact ⟨_,rfl,fun hq=>absurd (hq k h).2 q⟩
   ·rename_i q;exact ⟨_,rfl,fun hq=>absurd (hq k h).1 q⟩
  ·rw [if_neg (by omega)]
   exact ⟨0,rfl,fun _=>rfl⟩
theorem z8a (n:Nat)(hn:10000000<n)(T:List Aw)(hc:D6 n T=some 0)(hT:∀ S∈T,FdOk S)(e:Ev):∃ r,Fz n T e=some r/\(0<=e.fSource/\e.fSource<8/\0<=e.fSeq/\e.fSeq<=1099511627776/\0<=e.fTime/\e.fTime<=1099511627776->(∃ (h0:0<=e.fType) (h:e.fType.toNat<T.length),∃ hl:e.fValues.length=T[e.fType.toNat].fFields.length,∀ j (h:j<e.fValues.length),vcP e.fValues[j]=0/\e.fValues[j].fKind=(T[e.fType.toNat].fFields[j]'(by omega)).fKind)->r=0):=by
 obtain ⟨c,c1,c2⟩:=zjc n e
 unfold Fz Sk
 rw [hc,A0]
 simp only [Ak,A3,if_true,Ao,Aa,aC]
 rw [c1,A0]
 by_cases q:c=0
 ·rw [if_pos q]
  have bad:∃ r,bnd (Ft n e T true) (fun x2=>some x2)=some r/\r=6:=by
   unfold Ft
   rw [Ab,A0]
   exact ⟨6,rfl,rfl⟩
  by_cases q1:e.fType<0
  ·rw [if_pos q1]
   obtain ⟨r,r1,r2⟩:=bad
   exact ⟨r,r1,fun _ ⟨h0,_⟩=>by omega⟩
  ·rw [if_neg q1]
   by_cases q2:(T.length:Int)<=e.fType
   ·rw [decide_eq_true q2]
    obtain ⟨r,r1,r2⟩:=bad
    exact ⟨r,r1,fun _ ⟨h0,h,_⟩=>by omega⟩
   ·rw [decide_eq_false q2]
    have ht:e.fType.toNat<T.length:=by omega
    have hS:=hT _ (aL ht)
    unfold Ft
    simp only [aC]
    rw [Ae,G6 (by omega) ht,Ak,A3]
    by_cases q3:e.fValues.length=T[e.fType.toNat].fFields.length
    ·rw [if_pos (by omega)]
     obtain ⟨r,r1,r2⟩:=Yb n e T[e.fType.toNat] q3 hS.1 n 0 (by omega) (by have:=hS.1;omega)
     simp only [aD] at r1
     rw [r1,A0]
     exact ⟨r,rfl,fun _ ⟨_,_,_,hq⟩=>r2 hq⟩
    ·rw [if_neg (by omega),A0]
     exact ⟨_,rfl,fun _ ⟨_,_,hq,_⟩=>absurd hq q3⟩
 ·rw [if_neg q,A0]
  exact ⟨c,rfl,fun h=>absurd (c2 h) q⟩
theorem zj0 (n:Nat)(hn:10000000<n)(T:List Aw)(a:Aut)(hw:WfA a)(rate:Int):∃ r,Fx n T a rate=some r/\(r=0->D6 n T=some 0/\(T.length<=16/\∀ S∈T,FdOk S)/\C3 n a=some 0/\AOk a/\1<=rate/\rate<=4096):=by
 obtain ⟨c,c1,c2⟩:=zl7 n hn T
 obtain ⟨d,_,d1,d2⟩:=zh1 n hn a hw
 unfold Fx
 simp only [Ak,A3,Ao,Aa,Ja]
 rw [c1,A0]
 by_cases q:c=0
 ·rw [if_pos q,d1,A0]
  by_cases q1:d=0
  ·rw [if_pos q1]
   subst q q1
   split
   ·rw [Ab];exact ⟨_,rfl,fun h=>by cases h⟩
   ·split
    ·exact ⟨_,rfl,fun h=>by cases h⟩
    ·exact ⟨_,rfl,fun _=>⟨rfl,c2 rfl,rfl,d2 rfl,by omega,by omega⟩⟩
  ·rw [if_neg q1];exact ⟨d,rfl,fun h=>absurd h q1⟩
 ·rw [if_neg q];exact ⟨c,rfl,fun h=>absurd h q⟩
variable {α:Type}
theorem Mu {o:Option α}{k:α->Option β}{r:β}(h:bnd o k=some r):∃ a,o=some a/\k a=some r:=by
 unfold bnd at h
 cases o with
 |none=>cases h
 |some a=>exact ⟨a,rfl,h⟩
theorem cnd_inv {b:Bool}{x y:Option β}{r:β}(h:cnd b x y=some r):(b=true/\x=some r)\/(b=false/\y=some r):=by
 cases b with
 |true=>rw [Ab] at h;exact aX ⟨rfl,h⟩
 |false=>rw [Ae] at h;exact bH ⟨rfl,h⟩
variable {n:Nat}{a:Aut}
theorem Yv {x:Ed}{K:Option Int}:∀ (m:Nat) (k:Int),Fk n x a K m k=some 0->K=some 0
 |0,k,h=>by unfold Fk at h;cases h
 |m+1,k,h=>by
  unfold Fk at h
  rcases cnd_inv h with ⟨_,h⟩|⟨_,h⟩
  ·unfold idxD at h
   split at h
   ·split at h
    ·split at h
     ·obtain ⟨c,_,h⟩:=Mu h
      rcases cnd_inv h with ⟨q,h⟩|⟨_,h⟩
      ·injection h with h;subst h;simp at q
      ·exact Yv m _ h
     ·cases h
    ·cases h
   ·cases h
  ·exact h
theorem zhi (hn:10000000<n){x:Ed}(hx:WfX x){bf:Int}(h:Hb n a x bf=some 0):0<=x.fType/\∀ l∈x.fLimits,0<=l.fSpan/\l.fSpan<=1099511627776:=by
 have t2:Ci n bf x a true≠some 0:=by
  unfold Ci
  rw [Ab]
  intro h;cases h
 have hll:=hx.ll
 unfold Hb at h
 simp only [Ao,Aa,Q5,A0] at h
 rcases cnd_inv h with ⟨_,h⟩|⟨_,h⟩
 ·exact absurd h t2
 rcases cnd_inv h with ⟨_,h⟩|⟨_,h⟩
 ·exact absurd h t2
 rcases cnd_inv h with ⟨_,h⟩|⟨_,h⟩
 ·exact absurd h t2
 rcases cnd_inv h with ⟨_,h⟩|⟨_,h⟩
 ·exact absurd h t2
 cases q:(decide (0<=x.fType) && decide (x.fType<16)) with
 |false=>rw [q] at h;exact absurd h t2
 |true =>
  rw [q] at h
  simp only [aE,decide_eq_true_eq] at q
  refine ⟨q.1,?_⟩
  unfold Ci at h
  rw [aM,Ae] at h
  rcases cnd_inv h with ⟨_,h⟩|⟨_,h⟩
  ·cases h
  obtain ⟨c,_,h⟩:=Mu h
  rcases cnd_inv h with ⟨q',h⟩|⟨_,h⟩
  ·injection h with h;subst h;simp at q'
  rcases cnd_inv h with ⟨_,h⟩|⟨_,h⟩
  ·cases h
  have h:=Yv _ _ h
  obtain ⟨_,_,h⟩:=Mu h
  obtain ⟨c,_,h⟩:=Mu h
  rcases cnd_inv h with ⟨q',h⟩|⟨_,h⟩
  ·injection h with h;subst h;simp at q'
  rw [Ze n (fun l=>decide (l.fSpan<0) || decide (1099511627776<l.fSpan)) x.fLimits (by omega) (by omega) (fun l _=>by
   unfold H8
   simp only [Ao,Aa,H3,A3]
   by_cases q:l.fSpan<0<;>simp [q]),A0] at h
  rcases cnd_inv h with ⟨_,h⟩|⟨q',_⟩
  ·cases h
  intro l hl
  have:=any_eq_false.1 q' l hl
  simp only [Bool.or_eq_true,decide_eq_true_eq,not_or] at this
  omega
theorem Yg (hl:a.fEdges.length<=1100000):∀ (m k:Nat) (bf:Int),Fg n a (some 0) m (bf,(k:Int))=some 0->∀ x∈a.fEdges.drop k,∃ bf,Hb n a x bf=some 0
 |0,k,bf,h=>by unfold Fg at h;cases h
 |m+1,k,bf,h=>by
  unfold Fg at h
  simp only [aC] at h
  rcases cnd_inv h with ⟨q,h⟩|⟨q,_⟩
  ·have hk:k<a.fEdges.length:=by have:=of_decide_eq_true q;omega
   rw [Aj hk,Ai k (by omega)] at h
   obtain ⟨c,c1,h⟩:=Mu h
   rcases cnd_inv h with ⟨q',h⟩|⟨q',h⟩
   ·injection h with h;subst h;simp at q'
   ·intro x hx
    rw [drop_eq_getElem_cons hk] at hx
    rcases aR.1 hx with e|hx
    ·rw [e]
     refine ⟨bf,?_⟩
     rw [c1]
     simp at q'
     rw [q']
    ·exact Yg hl m (k+1) _ h x hx
  ·have:¬(k:Int)<(a.fEdges.length:Int):=of_decide_eq_false q
   rw [bC (by omega)]
   simp
theorem Yh {K:Option Int}:∀ (m:Nat) (k:Int),Fh n a K m k=some 0->K=some 0
 |0,k,h=>by unfold Fh at h;cases h
 |m+1,k,h=>by
  unfold Fh at h
  rcases cnd_inv h with ⟨_,h⟩|⟨_,h⟩
  ·unfold idx at h
   split at h
   ·split at h
    ·obtain ⟨c,_,h⟩:=Mu h
     rcases cnd_inv h with ⟨q,h⟩|⟨_,h⟩
     ·injection h with h;subst h;simp at q
     ·exact Yh m _ h
    ·cases h
   ·cases h
  ·exact h
theorem z9i (hn:10000000<n)(hw:WfA a)(h:C3 n a=some 0):(0<=a.fScopes/\a.fScopes<=64)/\∀ x∈a.fEdges,0<=x.fType/\∀ l∈x.fLimits,0<=l.fSpan/\l.fSpan<=1099511627776:=by
 have t1:Cz n a true≠some 0:=by
  unfold Cz
  rw [Ab]
  intro h;cases h
 have t2:Cy n a true≠some 0:=by
  unfold Cy
  rw [Ab]
  intro h;cases h
 unfold C3 at h
 simp only [Ao,Aa] at h
 rcases cnd_inv h with ⟨_,h⟩|⟨_,h⟩
 ·exact absurd h t1
 rcases cnd_inv h with ⟨_,h⟩|⟨_,h⟩
 ·exact absurd h t1
 rcases cnd_inv h with ⟨_,h⟩|⟨q1,h⟩
 ·exact absurd h t1
 cases q:decide (64<a.fScopes) with
 |true=>rw [q] at h;exact absurd h t1
 |false =>
  rw [q] at h
  have q2:=of_decide_eq_false q
  have q1:=of_decide_eq_false q1
  refine ⟨by omega,fun x hx=>?_⟩
  unfold Cz at h
  rw [Ae] at h
  simp only [Ao,Aa] at h
  have h':Cy n a false=some 0:=by
   rcases cnd_inv h with ⟨_,h⟩|⟨_,h⟩
   ·exact absurd h t2
   rcases cnd_inv h with ⟨_,h⟩|⟨_,h⟩
   ·exact absurd h t2
   cases q9:decide ((2048:Int)<((List.map A5 a.fEdges).length:Int)) with
   |true=>rw [q9] at h;exact absurd h t2
   |false=>rw [q9] at h;exact h
  unfold Cy at h'
  rw [Ae] at h'
  have h2:=Yh _ _ h'
  have h3:=Yg hw.le n 0 0 (by simpa using h2)
  obtain ⟨bf,h4⟩:=h3 x (by simpa using hx)
  exact zhi hn (hw.ed x hx) h4
variable {T:List Aw}
theorem scR (hw:WfA a)(h:AOk a)(hn:10000000<n)(hc:C3 n a=some 0):ScR ⟨T,a⟩:=by
 obtain ⟨c1,c2⟩:=z9i hn hw hc
 exact ⟨⟨⟨h.st,fun x hx=>⟨(h.ed x hx).frm.1,(h.ed x hx).frm.2,(h.ed x hx).tgt.1,(h.ed x hx).tgt.2⟩,hw.le⟩,c1,fun x hx=>⟨(hw.ed x hx).lo,(hw.ed x hx).lcl,(hw.ed x hx).li,(hw.ed x hx).ll⟩,fun x hx=>(c2 x hx).2⟩,hw⟩
theorem zbs (n:Nat)(g:Bm)(hl:g.fPrefix.length<=1000000):∃ r,Fu n g=some r/\((∀ h:0<g.fPrefix.length,0<=g.fPrefix[0].fTime/\g.fPrefix[0].fTime<=g.fPrefix[g.fPrefix.length-1].fTime/\g.fPrefix[g.fPrefix.length-1].fTime<=mxT/\g.fPrefix[g.fPrefix.length-1].fTime-g.fPrefix[0].fTime<g.fPeriod)->0<g.fPeriod->g.fPeriod<=mxT->r=0):=by
 have hm:mxT=1099511627776:=rfl
 unfold Fu
 simp only [Ao,Aa,J2,J1,A3,aC,Af,decide_eq_true_eq]
 by_cases q:(0:Int)<(g.fPrefix.length:Int)
 ·rw [if_pos q,C0 _ (by omega)]
  have e:((g.fPrefix.length:Int)-1).toNat=g.fPrefix.length-1:=by omega
  have h0:(g.fPrefix.length-1)<g.fPrefix.length:=by omega
  have e1:∀ K:Ev->Option Int,idx g.fPrefix ((g.fPrefix.length:Int)-1) K=K g.fPrefix[g.fPrefix.length-1]:=fun K=>by
   rw [G6 (by omega) (by omega)]
   simp only [e]
  have e2:∀ K:Ev->Option Int,idx g.fPrefix 0 K=K g.fPrefix[0]:=fun K=>G6 (l:=g.fPrefix) (n:=0) (by omega) (by simp;omega) K
  rw [e1,e2]
  by_cases q3:g.fPeriod<=IntKind.wrap .i64 (g.fPrefix[g.fPrefix.length-1].fTime-g.fPrefix[0].fTime)
  ·rw [if_pos q3]
   refine ⟨_,rfl,fun h1 h2 h3=>?_⟩
   have h1:=h1 (by omega)
   rw [C0 _ (by omega)] at q3
   omega
  ·rw [if_neg q3]
   split
   ·exact ⟨_,rfl,fun _ _ h3=>by omega⟩
   ·exact ⟨_,rfl,fun _ _ _=>rfl⟩
 ·rw [if_neg q]
  split
  ·exact ⟨_,rfl,fun _ h2 _=>by omega⟩
  ·split
   ·exact ⟨_,rfl,fun _ _ h3=>by omega⟩
   ·exact ⟨_,rfl,fun _ _ _=>rfl⟩
theorem zbq (n:Nat)(g:Bm)(hl:g.fPrefix.length<=1000000)(rt:Nat)(h1r:1<=rt)(hr:rt<=4096)(sc:Scn)(y:List Int)(K:Option Int)(r0:Int)(hK:K=some r0):∀ (m k:Nat),rt<=k->g.fPrefix.length<m+k->0<m->k<=2000000->∃ r,Ho n g (rt:Int) sc y K m (k:Int)=some r/\(r=0->r0=0)/\((∀ i j (hi:i<g.fPrefix.length) (hj:j<g.fPrefix.length),i<j->g.fPrefix[i].fTime≠g.fPrefix[j].fTime)->r=r0)
 |0,k,h1,h2,h3,h4=>by omega
 |m+1,k,h1,h2,h3,h4=>by
  unfold Ho
  simp only [aC]
  rw [A3]
  by_cases hk:k<g.fPrefix.length
  ·have e:IntKind.wrap .i64 ((k:Int)-(rt:Int))=((k-rt:Nat):Int):=by rw [C0 _ (by omega)];omega
   rw [if_pos (by omega),Aj hk,e,Aj (by omega:k-rt<g.fPrefix.length),A3,Ai k (by omega)]
   split
   ·rename_i q
    exact ⟨5,rfl,(fun h=>by cases h),fun h=>absurd q.symm (h (k-rt) k (by omega) hk (by omega))⟩
   ·exact zbq n g hl rt h1r hr sc y K r0 hK m (k+1) (by omega) (by omega) (by omega) (by omega)
  ·rw [if_neg (by omega)]
   exact ⟨r0,hK,id,fun _=>rfl⟩
theorem zbr (n:Nat)(hn:10000000<n)(g:Bm)(hl:g.fPrefix.length<=1000000)(rate:Int)(sc:Scn)(hc:D6 n sc.ftypes=some 0)(hT:∀ S∈sc.ftypes,FdOk S)(K:List Int->Option Int)(r0:Int)(P:Prop)(hK:K (g.fPrefix.map (·.fType))=some r0):∀ (m k:Nat),k<=g.fPrefix.length->g.fPrefix.length<m+k->∃ r,Kd n g rate sc K m ((k:Int),(g.fPrefix.map (·.fType)).take k)=some r/\(r=0->r0=0)/\((∀ x∈g.fPrefix,Fz n sc.ftypes x=some 0)->r=r0)
 |0,k,h1,h2=>by omega
 |m+1,k,h1,h2=>by
  unfold Kd
  simp only [aC]
  rw [A3]
  by_cases hk:k<g.fPrefix.length
  ·obtain ⟨c,c1,_⟩:=z8a n hn sc.ftypes hc hT g.fPrefix[k]
   rw [if_pos (by omega),Aj hk,c1,A0,Ak,A3]
   by_cases q:c=0
   ·have hk':k<(g.fPrefix.map (·.fType)).length:=by simpa using hk
    have e:(g.fPrefix.map (·.fType)).take k++[g.fPrefix[k].fType]=(g.fPrefix.map (·.fType)).take (k+1):=by
     rw [aF hk',aH]
    rw [if_pos q,Bv (by simp;omega) (by decide),Ai k (by omega),e]
    exact zbr n hn g hl rate sc hc hT K r0 P hK m (k+1) (by omega) (by omega)
   ·rw [if_neg q]
    exact ⟨c,rfl,fun h=>absurd h q,fun h=>absurd (by have:=h _ (aL hk);rw [c1] at this;injection this) q⟩
  ·rw [if_neg (by omega),aK (by simp;omega)]
   exact ⟨r0,hK,id,fun _=>rfl⟩
theorem zd5 (n:Nat)(hn:10000000<n)(g:Bm)(hl:g.fPrefix.length<=1000000)(rate:Int)(hr:1<=rate/\rate<=4096)(sc:Scn)(h:ScR sc)(hc:D6 n sc.ftypes=some 0)(hT:∀ S∈sc.ftypes,FdOk S):∃ r,Nr n sc rate g=some r/\(r=0->GrP n sc (g.fPrefix.map (·.fType)))/\(G8 g.fPrefix=0->(∀ x∈g.fPrefix,Fz n sc.ftypes x=some 0)->(∀ i j (hi:i<g.fPrefix.length) (hj:j<g.fPrefix.length),i<j->g.fPrefix[i].fTime≠g.fPrefix[j].fTime)->Fu n g=some 0->GrP n sc (g.fPrefix.map (·.fType))->r=0):=by
 obtain ⟨rt,rfl⟩:∃ rt:Nat,rate=(rt:Int):=⟨rate.toNat,by omega⟩
 obtain ⟨pd,pd1,_⟩:=zbs n g hl
 obtain ⟨gw,gw1,gw2⟩:=zj8 n hn sc h (g.fPrefix.map (·.fType)) (by simpa using hl)
 unfold Nr
 rw [zmb n g.fPrefix (by omega) (by omega) hl,A0,Ak,A3]
 by_cases q:G8 g.fPrefix=0
 ·rw [if_pos q]
  have hK2:∃ r0,(bnd (Fu n g) fun x83=>cnd (!decide (x83=0)) (some x83) <| bnd (Ip n sc (g.fPrefix.map (·.fType))) fun x84=>cnd (!(x84)) (some 18) <| some 0)=some r0/\(r0=0 ↔ pd=0/\GrP n sc (g.fPrefix.map (·.fType))):=by
   rw [pd1,A0,Ak,A3]
   by_cases q1:pd=0
   ·rw [if_pos q1,gw1,A0,Ak]
    cases gw with
    |true=>rw [Ab];exact ⟨0,rfl,fun _=>⟨q1,gw2.1 rfl⟩,fun _=>rfl⟩
    |false=>rw [Ae];exact ⟨18,rfl,(fun h=>by cases h),fun h=>absurd (gw2.2 h.2) (by simp)⟩
   ·rw [if_neg q1];exact ⟨pd,rfl,fun h=>absurd h q1,fun h=>absurd h.1 q1⟩
  obtain ⟨r0,k1,k2⟩:=hK2
  obtain ⟨r1,l1,l2,l3⟩:=zbq n g hl rt (by omega) (by omega) sc (g.fPrefix.map (·.fType)) _ r0 k1 n rt (by omega) (by omega) (by omega) (by omega)
  obtain ⟨r2,m1,m2,m3⟩:=zbr n hn g hl (rt:Int) sc hc hT (fun k1_0_0y=>Ho n g (rt:Int) sc k1_0_0y
  (bnd (Fu n g) fun x83 =>
 cnd (!decide (x83=0))
  (some x83)
 <| bnd (Ip n sc k1_0_0y) fun x84 =>
 cnd (!(x84))
  (some 18)
 <| some 0) n (rt:Int)) r1 True l1 n 0 (by omega) (by omega)
  simp only [aD,take_zero] at m1
  refine ⟨r2,m1,fun e=>(k2.1 (l2 (m2 e))).2,fun _ h2 h3 h4 h5=>?_⟩
  rw [m3 h2,l3 h3,k2]
  rw [pd1] at h4
  injection h4 with h4
  exact ⟨h4,h5⟩
 ·rw [if_neg q]
  exact ⟨_,rfl,fun e=>absurd e q,fun e=>absurd e q⟩
theorem Ve (n:Nat)(hn:10000000<n)(T:List Aw)(a:Aut)(rate:Int)(hr:1<=rate/\rate<=4096)(g:Bm)(hl:g.fPrefix.length<=1000000)(h:ScR ⟨T,a⟩)(hR:Fx n T a rate=some 0)(hc:D6 n T=some 0)(hT:∀ S∈T,FdOk S)(b:Int)(ok:Bool)(hL:Fy n a rate=some (b,ok)):∃ v,D7 n T a rate g=some v/\(v=0->(g.fVerdict=1/\ok=true/\b<=g.fBound)\/(g.fVerdict=2/\GrP n ⟨T,a⟩ (g.fPrefix.map (·.fType))))/\(g.fVerdict=1->g.fPrefix=[]->g.fPeriod=0->ok=true->v=if g.fBound<b then 18 else 0) /\
  (g.fVerdict=2->g.fBound=0->G8 g.fPrefix=0->(∀ x∈g.fPrefix,Fz n T x=some 0)->(∀ i j (hi:i<g.fPrefix.length) (hj:j<g.fPrefix.length),i<j->g.fPrefix[i].fTime≠g.fPrefix[j].fTime)->Fu n g=some 0->GrP n ⟨T,a⟩ (g.fPrefix.map (·.fType))->v=0):=by
 unfold D7
 rw [hR,A0]
 simp only [Ak,A3,if_true,Ao,Aa,aC]
 by_cases q1:g.fVerdict=1
 ·rw [if_pos q1]
  have key:∀ w,∃ v,H5 n g rate a w=some v/\(v=0->ok=true/\b<=g.fBound)/\(w=false->ok=true->v=if g.fBound<b then 18 else 0):=fun w=>by
   unfold H5
   cases w with
   |true=>rw [Ab];exact ⟨3,rfl,(fun h=>by cases h),fun h=>by cases h⟩
   |false =>
    rw [Ae,hL,A0]
    simp only [Ao,Aa,J4,Ak]
    cases ok with
    |false=>rw [Ae,Ab];exact ⟨18,rfl,(fun h=>by cases h),fun _ h=>by cases h⟩
    |true =>
     rw [Ab,A3]
     split
     ·exact ⟨18,rfl,(fun h=>by cases h),fun _ _=>rfl⟩
     ·exact ⟨0,rfl,fun _=>⟨rfl,by omega⟩,fun _ _=>rfl⟩
  split
  ·rename_i q2
   obtain ⟨v,v1,v2,v3⟩:=key true
   exact ⟨v,v1,fun e=>aX ⟨q1,v2 e⟩,fun _ e=>by rw [e] at q2;simp at q2,fun e=>by omega⟩
  ·obtain ⟨v,v1,v2,v3⟩:=key (!decide (g.fPeriod=0))
   exact ⟨v,v1,fun e=>aX ⟨q1,v2 e⟩,fun _ _ e o=>v3 (by simp [e]) o,fun e=>by omega⟩
 ·rw [if_neg q1]
  by_cases q2:g.fVerdict=2
  ·rw [if_pos q2]
   by_cases q3:g.fBound=0
   ·rw [if_pos q3]
    obtain ⟨r,r1,r2,r3⟩:=zd5 n hn g hl rate hr ⟨T,a⟩ h hc hT
    rw [r1,A0]
    exact ⟨r,rfl,fun e=>bH ⟨q2,r2 e⟩,fun e=>absurd e q1,fun _ _=>r3⟩
   ·rw [if_neg q3]
    exact ⟨3,rfl,(fun e=>by cases e),fun e=>absurd e q1,fun _ e=>absurd e q3⟩
  ·rw [if_neg q2]
   exact ⟨1,rfl,(fun e=>by cases e),fun e=>absurd e q1,fun e=>absurd e q2⟩
def NoP (n:Nat)(sc:Scn)(tt:Int):Prop:=∃ M:Mp,(∀ t,has M t->∀ x∈ptE n sc tt,x.fFrom=t->has M x.fTo/\x.fTo≠tt)/\∀ x∈ptE n sc tt,x.fFrom=0->has M x.fTo/\x.fTo≠tt
structure YesP (n:Nat) (sc:Scn) (M:Mp) (w:List Int):Prop where
 ne:w≠[]
 len:w.length<=300
 tt:∃ t,has M t/\Pth (ptE n sc t) t 0 w
theorem Zp (h:ScR ⟨T,a⟩)(hn:10000000<n)(ht:∀ x∈a.fEdges,0<=x.fType){tt s:Int}{w:List Int}(p:Pth (ptE n ⟨T,a⟩ tt) tt s w):∀ k∈w,0<=k/\k.toNat<T.length:=by
 have hE:∀ x∈ptE n ⟨T,a⟩ tt,0<=x.fType/\x.fType.toNat<T.length:=fun x hx=>by
  obtain ⟨h1,h2⟩:=aZ.1 hx
  simp only [aE] at h2
  have h3:=((h.free n hn h1).2 h2.1).1
  have h4:=ht x h1
  simp only at h3
  omega
 induction p with
 |one x hx e=>exact fun k hk=>by rw [aU] at hk;rw [hk];exact hE x hx
 |cons x hx _ ih=>exact fun k hk=>(aR.1 hk).elim (fun e=>e▸hE x hx) (ih k)
theorem W4 (n:Nat)(hn:30000000<n)(T:List Aw)(a:Aut)(h:ScR ⟨T,a⟩)(hT:∀ S∈T,FdOk S)(ht:∀ x∈a.fEdges,0<=x.fType)(M:Mp)(hM:MK M):∀ (m k:Nat),k<=a.fStates.length->a.fStates.length<m+k->(∀ t:Nat,t<k->has M (t:Int)->NoP n ⟨T,a⟩ (t:Int))->(∃ w,H6 n a T M (some (⟨0,0,[],0⟩,0)) m (k:Int)=some (⟨2,0,pfxL T 0 w,(w.length:Int)⟩,0)/\YesP n ⟨T,a⟩ M w)\/(H6 n a T M (some (⟨0,0,[],0⟩,0)) m (k:Int)=some (⟨0,0,[],0⟩,0)/\∀ t:Nat,t<a.fStates.length->has M (t:Int)->NoP n ⟨T,a⟩ (t:Int))
 |0,k,h1,h2,h3=>by omega
 |m+1,k,h1,h2,h3=>by
  unfold H6
  simp only [aC]
  rw [A3]
  have hst:=h.st
  simp only at hst
  by_cases hk:k<a.fStates.length
  ·rw [if_pos (by omega),Mz,Ak,Ai k (by omega)]
   cases q:(mlk M (k:Int)).getD false with
   |false =>
    rw [Ae]
    refine W4 n hn T a h hT ht M hM m (k+1) (by omega) (by omega) (fun t h4 h5=>?_)
    by_cases e:t=k
    ·subst e;rw [(hM.get _).2 h5] at q;cases q
    ·exact h3 t (by omega) h5
   |true =>
    obtain ⟨w,A,w1,w2,w3,w4⟩:=zks n hn ⟨T,a⟩ h (k:Int) ⟨by omega,by simpa using hk⟩
    rw [Ab,w1,A0]
    cases w with
    |nil =>
     rw [aS,List.isEmpty_nil,aM,Ae]
     refine W4 n hn T a h hT ht M hM m (k+1) (by omega) (by omega) (fun t h4 h5=>?_)
     by_cases e:t=k
     ·subst e;exact ⟨A,w4 rfl⟩
     ·exact h3 t (by omega) h5
    |cons c w =>
     have hp:=w3 (by simp)
     have hty:=Zp h (by omega) ht hp
     have hpx:=zgr n (by omega) (c::w) (by omega) ⟨T,a⟩ hty (fun S hS=>by have:=(hT S hS).1;omega)
     refine aX ⟨c::w,?_,by simp,w2,(k:Int),(hM.get _).1 q,hp⟩
     rw [aG,List.isEmpty_cons,Bool.not_false,Ab,K1,Aa,hpx,A0]
  ·rw [if_neg (by omega)]
   exact bH ⟨rfl,fun t h4=>h3 t (by omega)⟩
theorem zd7 (n:Nat)(hn:30000000<n)(T:List Aw)(a:Aut)(rate:Int)(h:ScR ⟨T,a⟩)(hR:Fx n T a rate=some 0)(hT:∀ S∈T,FdOk S)(ht:∀ x∈a.fEdges,0<=x.fType)(b:Int)(ok:Bool)(hL:Fy n a rate=some (b,ok)):∃ M,Dd n ⟨T,a⟩=some M/\((ok=true/\D8 n T a rate=some (⟨1,b,[],0⟩,0))\/(ok=false/\((∃ w,D8 n T a rate=some (⟨2,0,pfxL T 0 w,(w.length:Int)⟩,0)/\YesP n ⟨T,a⟩ M w)\/(D8 n T a rate=some (⟨0,0,[],0⟩,0)/\∀ t:Nat,t<a.fStates.length->has M (t:Int)->NoP n ⟨T,a⟩ (t:Int))))):=by
 obtain ⟨M,m1,m2,m3⟩:=Tv n (by omega) ⟨T,a⟩ h
 have hst:=h.st
 simp only at hst
 refine ⟨M,m1,?_⟩
 unfold D8
 rw [hR,A0]
 simp only [Ak,A3,if_true]
 rw [hL,A0]
 cases ok with
 |true=>simp only;rw [Ab];exact aX ⟨by trivial,rfl⟩
 |false =>
  simp only
  rw [Ae,m1,A0]
  have:=W4 n hn T a h hT ht M m2 n 0 (by omega) (by omega) (fun t h=>by omega)
  simp only [aD] at this
  exact bH ⟨by trivial,this⟩
theorem zdq:E2 2000000000=some true:=by kernel_rfl
variable {kinds:List Int}
theorem zle (hn:10000000<n)(h:ScR ⟨T,a⟩){p:Bq}(hp:PtOk a p){ok:Bool}(hb:ok=true->∀ t,has p.finner t->Bdd n a t)(hg:GrP n ⟨T,a⟩ kinds):ok=false:=by
 cases ok with
 |false=>rfl
 |true =>
  exfalso
  obtain ⟨ne,_,M,i,m1,hi,hat,_⟩:=hg
  obtain ⟨M',m1',_,m3⟩:=Tv n hn ⟨T,a⟩ h
  rw [m1] at m1'
  injection m1' with m1'
  subst m1'
  obtain ⟨_,_,hop⟩:=m3 i hi
  have hE:∀ x∈frE n ⟨T,a⟩,x∈a.fEdges/\∀ l∈x.fLimits,l.fScope∈x.fOpens:=fun x hx=>by
   obtain ⟨h1,h2⟩:=aZ.1 hx
   exact ⟨h1,((h.free n hn h1).2 h2).2⟩
  have hS:=zlt (E:=frE n ⟨T,a⟩) (kinds:=kinds) (P:=fun t=>t=0) (S:=fun t=>∃ x∈a.fEdges,0<=x.fTo/\has p.freachable x.fFrom/\x.fTo=t) (fun x hx h0 _ hq=>by
   refine ⟨x,(hE x hx).1,h0,?_,rfl⟩
   rcases hq with hq|⟨y,hy,y0,y1,y2⟩
   ·rw [hq];exact hp.r0
   ·rw [<-y2];exact hp.rn y hy y1 y0) kinds (fun k hk=>hk) (fun t=>t=0) (fun t ht=>aX ht) i hat
  obtain ⟨x,hx,x0,x1,x2⟩:=hS.resolve_left (fun q=>ne q.1)
  obtain ⟨U,u1,u2⟩:=hp.us
  have hU:∀ t,OpP (frE n ⟨T,a⟩) t->U t:=fun t ht=>by
   induction ht with
   |last y hy hlt=>exact u1 y (hE y hy).1 (aX hlt)
   |step y hy _ ih=>exact u1 y (hE y hy).1 (bH ih)
  obtain ⟨s,hs⟩:=hb rfl i ((u2 i).2 ⟨x,hx,x0,x1,x2▸hU i hop,x2⟩)
  have hfree:∃ y∈frE n ⟨T,a⟩,y.fFrom=i:=by
   cases hop with
   |last y hy _=>exact ⟨y,hy,rfl⟩
   |step y hy _=>exact ⟨y,hy,rfl⟩
  obtain ⟨y,hy,y1⟩:=hfree
  obtain ⟨q1,q2⟩:=hE y hy
  have hlo:=h.lo y q1
  obtain ⟨l,l1,l2,l3⟩:=(Wg n hn y hlo.1 hlo.2.2.2 s).2.2 (hs y q1 y1)
  exact l3 (l2▸q2 l l1)
theorem zjv (hn:10000000<n)(h:ScR ⟨T,a⟩){M:Mp}(m1:Dd n ⟨T,a⟩=some M)(hN:∀ t:Nat,t<a.fStates.length->has M (t:Int)->NoP n ⟨T,a⟩ (t:Int)):¬GrP n ⟨T,a⟩ kinds:=by
 rintro ⟨ne,g0,M',i,m1',hi,hat,gi⟩
 rw [m1] at m1'
 injection m1' with m1'
 subst m1'
 obtain ⟨M',m2,_,m3⟩:=Tv n hn ⟨T,a⟩ h
 rw [m1] at m2
 injection m2 with m2
 subst m2
 obtain ⟨i0,i1,_⟩:=m3 i hi
 obtain ⟨j,rfl⟩:∃ j:Nat,i=(j:Int):=⟨i.toNat,by omega⟩
 obtain ⟨A,a1,a2⟩:=hN j (by simpa using i1) hi
 have hS:=zlt (E:=frE n ⟨T,a⟩) (kinds:=kinds) (P:=fun t=>t=0) (S:=fun t=>has A t/\t≠(j:Int)) (fun x hx h0 hk hq=>by
  obtain ⟨h1,h2⟩:=aZ.1 hx
  have hx':x∈ptE n ⟨T,a⟩ (j:Int):=aZ.2 ⟨h1,by
   unfold ptP
   simp only [aE,decide_eq_true_eq,Bool.not_eq_true']
   exact ⟨h2,h0,g0 _ hk,gi _ hk⟩⟩
  rcases hq with hq|hq
  ·exact a2 x hx' hq
  ·exact a1 _ hq.1 x hx' rfl) kinds (fun k hk=>hk) (fun t=>t=0) (fun t ht=>aX ht) (j:Int) hat
 exact (hS.resolve_left (fun q=>ne q.1)).2 rfl
theorem zis {a b:Da}(h:a.fTime<b.fTime):rCmp a b<0:=by
 have h1:cmpI a.fTime b.fTime=-1:=by unfold cmpI;rw [if_pos h]
 unfold rCmp or3
 rw [h1,if_neg (by decide)]
 decide
theorem zeo (T:List Aw):∀ (w:List Int) (i:Nat) (p:List Ev),i+w.length<=1000000->(∀ x∈p,x.fTime<(i:Int)/\x.fSeq<(i:Int))->chk p (pfxL T i w)=0
 |[],i,p,h,hp=>by unfold pfxL chk;rfl
 |k::r,i,p,h,hp=>by
  simp only [bE] at h
  have h1:D3 (pfxE T i k)=true:=by
   unfold D3 pfxE
   simp only [aE,decide_eq_true_eq]
   omega
  have h2:N3 p (pfxE T i k)=false:=by
   cases p with
   |nil=>rfl
   |cons x q =>
    have hx:=(hp x (by simp)).1
    have:=zis (a:=Dr x) (b:=Dr (pfxE T i k)) hx
    unfold N3 C6
    exact decide_eq_false (by omega)
  have h3:(p.any fun x=>decide (idt x=idt (pfxE T i k)))=false:=by
   rw [any_eq_false]
   intro x hx
   have:=(hp x hx).2
   simp only [decide_eq_true_eq]
   intro e
   have:x.fSeq=(i:Int):=congrArg Fo.fseq e
   omega
  unfold pfxL chk
  rw [if_neg (by simp [h1]),if_neg (by simp [h2]),if_neg (by simp [h3])]
  exact zeo T r (i+1) _ (by omega) (fun x hx=>(aR.1 hx).elim (fun e=>by rw [e];unfold pfxE;simp only;omega) (fun hx=>by have:=hp x hx;omega))
theorem zko (hn:10000000<n)(hc:D6 n T=some 0)(hT:∀ S∈T,FdOk S){i:Nat}(hi:i<=1000000){k:Int}(hk:0<=k/\k.toNat<T.length):Fz n T (pfxE T i k)=some 0:=by
 obtain ⟨r,r1,r2⟩:=z8a n hn T hc hT (pfxE T i k)
 have hv:(pfxE T i k).fValues=T[k.toNat].fFields.map fun f=>⟨f.fKind,0,ByteArray.empty⟩:=by
  unfold pfxE
  simp only
  rw [aT hk.2]
  rfl
 have hr:=r2 (by unfold pfxE;simp only;omega) ⟨hk.1,hk.2,by rw [hv,aC];rfl,fun j hj=>by
  have hj':j<T[k.toNat].fFields.length:=by rw [hv,aC] at hj;exact hj
  have hf:=(hT _ (aL hk.2)).2 _ (aL hj')
  have e:(pfxE T i k).fValues[j]=⟨T[k.toNat].fFields[j].fKind,0,ByteArray.empty⟩:=by
   simp only [hv,aH]
  rw [e]
  refine ⟨?_,rfl⟩
  unfold vcP
  simp only
  rcases (show T[k.toNat].fFields[j].fKind=0\/T[k.toNat].fFields[j].fKind=1\/T[k.toNat].fFields[j].fKind=2 by omega) with e|e|e<;>rw [e]<;>simp⟩
 rw [r1,hr]
theorem zit (hn:10000000<n){rate:Int}(hr:1<=rate/\rate<=4096)(h:ScR ⟨T,a⟩)(hR:Fx n T a rate=some 0)(hc:D6 n T=some 0)(hT:∀ S∈T,FdOk S)(ht:∀ x∈a.fEdges,0<=x.fType){b:Int}{ok:Bool}(hL:Fy n a rate=some (b,ok)){M:Mp}(m1:Dd n ⟨T,a⟩=some M){w:List Int}(hw:YesP n ⟨T,a⟩ M w):D7 n T a rate ⟨2,0,pfxL T 0 w,(w.length:Int)⟩=some 0:=by
 obtain ⟨ne,len,t,mt,hp⟩:=hw
 have hty:=Zp h hn ht hp
 obtain ⟨q1,q2⟩:=zkn hp (fun t=>t=0) rfl
 have hl:=zbn T 0 w
 have hmap:(pfxL T 0 w).map (·.fType)=w:=by
  apply ext_getElem
  ·rw [aC,hl]
  ·intro j j1 j2
   rw [aH,Vz T 0 w j j2]
   rfl
 have hget:∀ j (hj:j<(pfxL T 0 w).length),(pfxL T 0 w)[j].fTime=(j:Int):=fun j hj=>by
  rw [Vz T 0 w j (by omega)]
  unfold pfxE
  simp
 have hpos:0<w.length:=length_pos_iff.2 ne
 obtain ⟨v,v1,_,_,v4⟩:=Ve n hn T a rate hr ⟨2,0,pfxL T 0 w,(w.length:Int)⟩ (by simp only;omega) h hR hc hT b ok hL
 obtain ⟨pd,pd1,pd2⟩:=zbs n ⟨2,0,pfxL T 0 w,(w.length:Int)⟩ (by simp only;omega)
 have hm:mxT=1099511627776:=rfl
 have hpd:pd=0:=pd2 (fun h0=>by
  simp only [hget]
  simp only [hl]
  omega) (by simp only;omega) (by simp only;omega)
 rw [v1]
 refine congrArg some (v4 rfl rfl ?_ (fun x hx=>?_) (fun i j hi hj hij=>?_) (by rw [pd1,hpd]) ?_)
 ·unfold G8
  simp only
  rw [if_neg (by omega)]
  exact zeo T w 0 [] (by omega) (by simp)
 ·simp only at hx
  obtain ⟨j,hj,rfl⟩:=mem_iff_getElem.1 hx
  rw [Vz T 0 w j (by omega)]
  exact zko hn hc hT (by omega) (hty _ (aL _))
 ·simp only [hget]
  omega
 ·simp only [hmap]
  exact ⟨ne,fun k hk=>(q2 k hk).1,M,t,m1,mt,q1,fun k hk=>(q2 k hk).2⟩
theorem z88 (n:Nat)(T:List Aw)(hT:T.length<=1100000)(K:Option Bool)(r0:Bool)(hK:K=some r0):∀ (m k:Nat),k<=T.length->T.length<m+k->∃ r,Fa n T K m (k:Int)=some r
 |0,k,h1,h2=>by omega
 |m+1,k,h1,h2=>by
  unfold Fa
  simp only [aC]
  rw [A3]
  by_cases h:k<T.length
  ·have key:∀ b,∃ r,Gx n T (k:Int) (Fa n T K m) b=some r:=fun b=>by
    unfold Gx
    cases b with
    |true=>rw [Ab];exact ⟨_,rfl⟩
    |false=>rw [Ae,Ai k (by omega)];exact z88 n T hT K r0 hK m (k+1) (by omega) (by omega)
   rw [if_pos (by omega)]
   simp only [Ao,Aa]
   rw [Aj h,Aj h,A3]
   split
   ·exact key _
   ·exact key _
  ·rw [if_neg (by omega)]
   exact ⟨r0,hK⟩
theorem zja (T:List Aw)(hT:T.length<=1100000)(a:Aut)(hw:WfA a):∃ r,Ob N0 T a=some r:=by
 obtain ⟨b,b1⟩:=z88 N0 T hT (some (decide ((T.length:Int)<=20))) _ rfl N0 0 (by omega) (by unfold N0;omega)
 obtain ⟨c,c1,_⟩:=zjb a hw
 simp only [aD] at b1
 unfold Ob S7
 simp only [Ao,Aa,F9,aC]
 rw [b1,A0]
 cases b with
 |false=>rw [Ae];exact ⟨_,rfl⟩
 |true =>
  rw [Ab,c1,A0]
  cases c with
  |false=>rw [Ae];exact ⟨_,rfl⟩
  |true=>rw [Ab,A3];split<;>exact ⟨_,rfl⟩
theorem z6a (c:Fe)(hw:WfA c.fA)(hT:c.fTypes.length<=1100000)(g:Bm):Qm N0 c g=some true:=by
 have hN:30000000<N0:=by unfold N0;omega
 have haw:E2 N0=some true:=zdq
 obtain ⟨T,a,rate⟩:=c
 simp only at hw hT
 have skip:F5 N0 g ⟨T,a,rate⟩ true=some true:=by
  unfold F5
  rw [Ab,haw,A0]
 obtain ⟨f,f1⟩:=zja T hT a hw
 unfold Qm Qu
 simp only [Ao,Aa]
 rw [f1,A0,A0,Ak]
 cases f with
 |false=>rw [Ae];exact skip
 |true =>
  rw [Ab,zl1 N0 g.fPrefix (by omega),A0]
  cases hf:fewE g.fPrefix with
  |false=>exact skip
  |true =>
   have hl:g.fPrefix.length<=1000000:=by
    unfold fewE at hf
    simp only [aE,decide_eq_true_eq] at hf
    omega
   unfold F5
   simp only [aM]
   rw [Ae]
   obtain ⟨r,r1,r2⟩:=zj0 N0 (by omega) T a hw rate
   by_cases hr:r=0
   ·subst hr
    obtain ⟨hc,hT2,hC,hA,hrt⟩:=r2 rfl
    have h:=scR (T:=T) hw hA (by omega:10000000<N0) hC
    have ht:=fun x hx=>((z9i (by omega:10000000<N0) hw hC).2 x hx).1
    obtain ⟨b,ok,p,hL,hb,hp,hB⟩:=zj6 N0 hN a h.toAutR hw hC rate hrt
    have hno:=fun kinds (hg:GrP N0 ⟨T,a⟩ kinds)=>zle (by omega:10000000<N0) h hp hB hg
    obtain ⟨v,v1,v2,_,_⟩:=Ve N0 (by omega) T a rate hrt g hl h r1 hc hT2.2 b ok hL
    obtain ⟨M,m1,hd⟩:=zd7 N0 hN T a rate h r1 hT2.2 ht b ok hL
    rcases hd with ⟨hok,hd⟩|⟨hok,⟨w,hd,hy⟩|⟨hd,hu⟩⟩
    ·have hv:∀ B,D7 N0 T a rate ⟨1,B,[],0⟩=some (if B<b then 18 else 0):=fun B=>by
      obtain ⟨u,u1,_,u3,_⟩:=Ve N0 (by omega) T a rate hrt ⟨1,B,[],0⟩ (by simp) h r1 hc hT2.2 b ok hL
      rw [u1,u3 rfl rfl rfl hok]
     rw [hd,A0]
     simp only [Ak,A3,if_true]
     rw [v1,A0]
     simp only [Ao,Aa]
     rw [hv,A0,if_neg (by omega:¬b<b),C0 _ (by omega),C0 _ (by omega)]
     simp only [if_true]
     rw [hv,A0,if_neg (by omega:¬b+1<b)]
     simp only [if_true]
     rw [hv,A0,if_pos (by omega:b-1<b)]
     unfold Ge
     simp only [Ao,Aa,F4,Ak,A3,decide_true,aM,Ae,haw,A0]
     by_cases q:v=0
     ·rw [if_pos q]
      rcases v2 q with ⟨q1,_,q2⟩|⟨_,q2⟩
      ·rw [if_pos q1,if_pos q2]
      ·exact absurd (hno _ q2) (by rw [hok];simp)
     ·rw [if_neg q]
    ·rw [hd,A0]
     simp only [Ak,A3,if_true]
     rw [v1,A0,if_neg (by omega)]
     simp only [Ao,Aa,F0]
     rw [zit (by omega:10000000<N0) hrt h r1 hc hT2.2 ht hL m1 hy,A0,if_pos rfl,haw,A0]
     by_cases q:v=0
     ·rw [if_pos q]
      rcases v2 q with ⟨_,q2,_⟩|⟨q1,_⟩
      ·rw [hok] at q2;cases q2
      ·rw [if_pos q1]
     ·rw [if_neg q]
    ·rw [hd,A0]
     simp only [Ak,A3,if_true]
     rw [v1,A0,if_neg (by omega),if_neg (by omega)]
     simp only [Ao,Aa,Gc,haw,A0]
     by_cases q:v=0
     ·rcases v2 q with ⟨_,q2,_⟩|⟨_,q2⟩
      ·rw [hok] at q2;cases q2
      ·exact absurd q2 (zjv (by omega:10000000<N0) h m1 hu)
     ·rw [if_neg q]
   ·have hd:D8 N0 T a rate=some (⟨0,0,[],0⟩,r):=by
     unfold D8
     rw [r1,A0,Ak,A3,if_neg hr]
    rw [hd,A0]
    simp only [Ak,A3]
    rw [if_neg hr,haw,A0]
open Go.ChangeShapes Go.WideShapes Go.ChangeAt
theorem zhy {w:World}{S:Nat->Prop}{a b:AV}{x y:Value}(ha:Rep w S G0 a x)(hb:Rep w S G0 b y):Args w S [a,b] #[x,y] :=
 ⟨rfl,fun i hi=>by
  have hi':i<2:=hi
  rcases i with _|_|i
  ·exact ha
  ·exact hb
  ·omega⟩
theorem zh3:ownKnob Tryz.prog.godebug=none:=by kernel_rfl
theorem zh9:laidOutB aA=true:=by kernel_rfl
section
variable {H:Type} {enc:TypeId×Value->H}
theorem Y0 {W W':World}{sp':Nat->Bool}(hb:Below W.heap.size W W')(ts:List TypeId):∀ (vs:List Value) (ds:List (DataW H)) (p:List MemPlace),ts.all (fun t=>Tryz.prog.readableRec t && decide (t<Tryz.prog.types.size))=true ->
  DataW.TrodAll enc aA W 0 (fun _=>true) true ts vs ds p->(∀ x∈p,x.block<W.heap.size)->(∀ x∈p,sp' x.block=true)->DataW.TrodAll enc aA W' 0 sp' true ts vs ds p:=by
 induction ts with
 |nil =>
  intro vs ds p _ h _ _
  match vs,ds,h with
  |[],[],h=>exact h
  |_::_,_,h=>exact h.elim
  |[],_::_,h=>exact h.elim
 |cons t ts ih =>
  intro vs ds p hr h hlt hs
  match vs,ds,h with
  |v::vs,d::ds,h =>
   obtain ⟨q,r,h1,h2,rfl⟩:=h
   have hr1:Tryz.prog.readableRec t=true/\t<Tryz.prog.types.size:=by
    have:=bF.mp hr t (mem_cons_self ..)
    rw [aE,decide_eq_true_eq] at this;exact this
   have hr2:ts.all (fun t=>Tryz.prog.readableRec t && decide (t<Tryz.prog.types.size))=true :=
    bF.mpr fun x hx=>bF.mp hr x (aO _ hx)
   exact ⟨q,r,WideElems.Trod_stays zh9 hr1.1 hr1.2 h1 (fun x hx=>hb.same (hlt x (mem_append_left _ hx))) (fun x hx=>hs x (mem_append_left _ hx)),
    ih vs ds r hr2 h2 (fun x hx=>hlt x (bD _ hx)) (fun x hx=>hs x (bD _ hx)),rfl⟩
  |[],_,h=>exact h.elim
  |_::_,[],h=>exact h.elim
theorem za3 {W:World}{b:Nat}{sp:Nat->Bool}(ts:List TypeId):∀ (vs:List Value) (ds:List (DataW H)) (p:List MemPlace),DataW.TrodAll enc aA W b sp true ts vs ds p->ds.length=ts.length:=by
 induction ts with
 |nil =>
  intro vs ds p h
  match vs,ds,h with
  |[],[],h=>rfl
  |_::_,_,h=>exact h.elim
  |[],_::_,h=>exact h.elim
 |cons t ts ih =>
  intro vs ds p h
  match vs,ds,h with
  |v::vs,d::ds,h =>
   obtain ⟨q,r,h1,h2,rfl⟩:=h
   simp only [bE]
   rw [ih vs ds r h2]
  |[],_,h=>exact h.elim
  |_::_,[],h=>exact h.elim
end
open Go.Joins Go.Deep
section
variable {H:Type} {enc:TypeId×Value->H} {W:World} {base:Nat} {v:Value} {d:DataW H} {p:List MemPlace}
variable {u:Value}
theorem Zm {a:Addr}(h:W.cell? a=some u):a.spot=none/\a.block<W.heap.size:=by
 unfold World.cell? at h
 split at h
 ·rename_i c _ _ hg
  split at h
  ·cases h
  ·rename_i hs
   refine ⟨by cases hh:a.spot with|none=>rfl|some _=>simp [hh] at hs,?_⟩
   rcases Nat.lt_or_ge a.block W.heap.size with hlt|hge
   ·exact hlt
   ·rw [Array.getElem?_eq_none hge] at hg;cases hg
 ·cases h
theorem Hk (b off k:Nat):(⟨b,off,none⟩:Addr).add k=⟨b,off+k,none⟩:=by
 by_cases h:k=0<;>simp [Addr.add,h]
theorem z8e {f:α->Option β}:∀ {l:List α} {r:List β},l.mapM f=some r->r.length=l.length/\∀ k (hk:k<l.length) (hr:k<r.length),f l[k]=some r[k]
 |[],r,h=>by simp at h;subst h;exact ⟨rfl,fun k hk=>absurd hk (by simp)⟩
 |a::l,r,h=>by
  simp only [mapM_cons] at h
  cases ha:f a with
  |none=>rw [ha] at h;simp at h
  |some b =>
   rw [ha] at h
   cases hl:l.mapM f with
   |none=>rw [hl] at h;simp at h
   |some s =>
    rw [hl] at h
    simp at h
    subst h
    obtain ⟨i1,i2⟩:=z8e hl
    refine ⟨by simp [i1],fun k hk hr=>?_⟩
    cases k with
    |zero=>exact ha
    |succ k=>exact i2 k (by simpa using hk) (by simpa using hr)
theorem Sx {a:Addr}{cs:List Value}(h:W.cells? 0 a n=some cs):cs.length=n/\∀ j,j<n->W.cell? (a.add j)=some (cs.getD j undef):=by
 unfold World.cells? at h
 rw [if_pos (Nat.zero_le _)] at h
 obtain ⟨i1,i2⟩:=z8e h
 have hl:cs.length=n:=by simpa using i1
 refine ⟨hl,fun j hj=>?_⟩
 have:=i2 j (by simpa using hj) (by omega)
 rw [aV] at this
 rw [this]
 simp [aT (show j<cs.length by omega)]
def Qd (W:World)(a:α->AV)(m:α)(cs:List Value):Prop :=
 cs.length=(a m).cells.length/\∀ j (hj:j<(a m).cells.length),Rep W (fun _=>True) G0 ((a m).cells[j]) (cs.getD j undef)/\(cs.getD j undef).oneCell'=true
theorem zim {a:α->AV}{t e:TypeId}{sz:Nat}(ht:Tryz.prog.underlying t=some (.slice e))(hsz:Tryz.prog.cellsOf e=sz)(h0:0<sz)(i0:Inhabited α)(hlen:∀ m,(a m).cells.length=sz)
  (each:∀ (n:Nat) (cs:List Value) (x:DataW H×List MemPlace),cs.length=sz->DataW.trod enc aA W 0 (fun _=>true) true n e cs=some x->∃ m:α,Qd W a m cs)
    {x:DataW H×List MemPlace} (h:DataW.trod enc aA W 0 (fun _=>true) true n t [u]=some x):∃ l:List α,Rep W (fun _=>True) G0 (.sl sz (l.map a)) u:=by
 rcases open_slice ht h with ⟨h1,_⟩|⟨A,len,cap,m,n',D,Pl,h1,_,hlc,hm,hmm,_,hc⟩
 ·simp only [List.cons.injEq,and_true] at h1
  subst h1
  exact ⟨[],.sl none 0 (fun _ _=>.bool true) (by simp) (fun k hk=>absurd hk (by simp)) (fun h=>absurd h (by simp)) (fun k hk=>absurd hk (by simp)) (fun _ _=>rfl)⟩
 ·simp only [List.cons.injEq,and_true] at h1
  subst h1
  simp only [if_true] at hmm
  subst hmm
  rw [hsz] at hc
  have every:∀ i,∃ q:α×List Value,i<len->W.cells? 0 (A.add (i*sz)) sz=some q.2/\Qd W a q.1 q.2:=fun i=>by
   by_cases hi:i<len
   ·obtain ⟨cs,c1,c2⟩:=hc i (by omega)
    obtain ⟨k,hk⟩:=each n' cs _ (Sx c1).1 c2
    exact ⟨(k,cs),fun _=>⟨c1,hk⟩⟩
   ·exact ⟨(i0.default,[]),fun h=>absurd h hi⟩
  obtain ⟨f,hf⟩:=Classical.axiomOfChoice every
  have hl:((aP len).map fun i=>(f i).1).length=len:=by simp
  refine ⟨(aP len).map fun i=>(f i).1,?_⟩
  have e:len=(((aP len).map fun i=>(f i).1).map a).length:=by simp
  have hcell:∀ k j,k<len->j<sz->W.cell? ((A.add (k*sz)).add j)=some ((f k).2.getD j undef):=fun k j hk hj=>(Sx (hf k hk).1).2 j hj
  have:Rep W (fun _=>True) G0 (.sl sz (((aP len).map fun i=>(f i).1).map a)) (.slice (some A) (((aP len).map fun i=>(f i).1).map a).length m):=by
   refine .sl (some A) m (fun k j=>if k<len/\j<sz then (f k).2.getD j undef else .bool true) (by simpa using hlc) (fun k hk=>?_) (fun h0'=>?_) (fun k hk j hj=>?_) (fun k j=>?_)
   ·simp only [aH];exact hlen _
   ·have hlp:0<len:=by simpa using h0'
    have c0:=Zm (hcell 0 0 hlp h0)
    obtain ⟨b,off,sp⟩:=A
    have e1:sp=none:=by simpa [Addr.add] using c0.1
    subst e1
    rw [Hk,Hk] at c0
    refine ⟨b,off,rfl,trivial,c0.2,fun k j hk hj=>?_⟩
    have hk':k<len:=by simpa using hk
    have:=hcell k j hk' hj
    rw [Hk,Hk] at this
    rw [if_pos ⟨hk',hj⟩,<-this]
    congr 2
    omega
   ·have hk':k<len:=by simpa using hk
    simp only [aH,aV] at hj ⊢
    have hj':j<sz:=by rw [hlen] at hj;exact hj
    rw [if_pos ⟨hk',hj'⟩]
    exact ((hf k hk').2.2 j hj).1
   ·by_cases hkj:k<len/\j<sz
    ·rw [if_pos hkj]
     exact ((hf k hkj.1).2.2 j (by rw [hlen];exact hkj.2)).2
    ·rw [if_neg hkj];rfl
  rw [<-e] at this
  exact this
theorem Rep.one_sl {sz:Nat}{xs:List AV}(h:Rep W (fun _=>True) G0 (.sl sz xs) u):u.oneCell'=true:=by
 cases h;rfl
theorem zif {a:α->AV}{m:α}{cs:Array Value}{xs:List AV}(hm:a m=.agg xs)(h:Qd W a m cs.toList):Rep W (fun _=>True) G0 (a m) (.agg cs):=by
 obtain ⟨h1,h2⟩:=h
 rw [hm] at h1 h2 ⊢
 have hl:cs.size=xs.length:=by simpa [AV.cells] using h1
 have g:∀ i,cs.toList.getD i undef=cs.getD i undef:=fun i=>by
  by_cases hi:i<cs.size
  ·simp [Array.getD,hi]
  ·simp [Array.getD,hi]
 refine .agg _ hl (fun i hi=>?_) (fun i hi=>?_)
 ·have:=(h2 i hi).1
  rw [g] at this
  exact this
 ·have:=(h2 i (show i<xs.length by rw [<-hl];exact hi)).2
  rw [g] at this
  exact this
end
section
variable {H:Type} {enc:TypeId×Value->H} {W:World} {base:Nat} {v:Value} {d:DataW H} {p:List MemPlace}
def B5 (W:World)(xs:List AV)(cs:List Value):Prop :=
 cs.length=xs.length/\∀ j (hj:j<xs.length),Rep W (fun _=>True) G0 (xs[j]) (cs.getD j undef)/\(cs.getD j undef).oneCell'=true
theorem B5.one {a:AV}{c:Value}(h:Rep W (fun _=>True) G0 a c)(h1:c.oneCell'=true):B5 W [a] [c]:=by
 refine ⟨rfl,fun j hj=>?_⟩
 have hj':j<1:=hj
 rcases j with _|j
 ·exact ⟨h,h1⟩
 ·omega
variable {cs:List Value}
theorem B5.append {xs ys:List AV}{ds:List Value}(h1:B5 W xs cs)(h2:B5 W ys ds):B5 W (xs++ys) (cs++ds):=by
 refine ⟨by rw [aW,aW,h1.1,h2.1],fun j hj=>?_⟩
 by_cases h:j<xs.length
 ·have:=h1.2 j h
  rw [getElem_append_left h]
  have e:(cs++ds).getD j undef=cs.getD j undef:=by
   simp only [aQ]
   rw [getElem?_append_left (by rw [h1.1];exact h)]
  rw [e];exact this
 ·have hj':j-xs.length<ys.length:=by rw [aW] at hj;omega
  have:=h2.2 (j-xs.length) hj'
  rw [getElem_append_right (by omega)]
  have e:(cs++ds).getD j undef=ds.getD (j-xs.length) undef:=by
   simp only [aQ]
   rw [getElem?_append_right (by rw [h1.1];omega),h1.1]
  rw [e];exact this
theorem B5.cut {o s:Nat}{xs ys:List AV}(h1:B5 W xs ((cs.drop o).take s))(h2:B5 W ys (cs.drop (o+s))):B5 W (xs++ys) (cs.drop o):=by
 have:cs.drop o=(cs.drop o).take s++cs.drop (o+s):=by rw [<-drop_drop,take_append_drop]
 rw [this]
 exact h1.append h2
theorem B5.done {o:Nat}(h:cs.length<=o):B5 W [] (cs.drop o):=by
 rw [bC h]
 exact ⟨rfl,fun j hj=>absurd hj (by simp)⟩
theorem Ax {o s:Nat}(h:o+s<=cs.length):((cs.drop o).take s).length=s:=by rw [length_take,length_drop];omega
abbrev FO (enc:TypeId×Value->H)(W:World)(t:TypeId)(sz:Nat){α:Type}(e:α->List AV):Prop :=
 ∀ (n:Nat) (cs:List Value) (x:DataW H×List MemPlace),cs.length=sz->DataW.trod enc aA W 0 (fun _=>true) true n t cs=some x->∃ m:α,B5 W (e m) cs
variable {t:TypeId}
theorem Bo (ht:Tryz.prog.underlying t=some (.int .i64)):FO enc W t 1 (fun z:Int=>[aI z]):=fun n cs x hl h=>by
 obtain ⟨z,rfl,_⟩:=DataW.trod_int (k:=.i64) ht h
 exact ⟨z,.one (.int _ _) rfl⟩
theorem Wv (ht:Tryz.prog.underlying t=some .string):FO enc W t 1 (fun z:ByteArray=>[AV.str z]):=fun n cs x hl h=>by
 obtain ⟨z,rfl,_⟩:=DataW.trod_string ht h
 exact ⟨z,.one (.str _) rfl⟩
theorem X6 {e:TypeId}{sz:Nat}{a:α->AV}(ht:Tryz.prog.underlying t=some (.slice e))(hsz:Tryz.prog.cellsOf e=sz)(h0:0<sz)(i0:Inhabited α)(hlen:∀ m,(a m).cells.length=sz)
  (each:FO enc W e sz (fun m:α=>(a m).cells)):FO enc W t 1 (fun l:List α=>[AV.sl sz (l.map a)]):=fun n cs x hl h=>by
 match cs,hl with
 |[c],_ =>
  obtain ⟨l,hl⟩:=zim (a:=a) ht hsz h0 i0 hlen each h
  exact ⟨l,.one hl hl.one_sl⟩
theorem X7 (ht:Tryz.prog.underlying t=some (.int .i64)):FO enc W t 1 (fun z:Int=>(aI z).cells):=Bo ht
theorem zdr {fs:Array Field}{sz:Nat}{a:α->AV}(ht:Tryz.prog.underlying t=some (.struct fs))(hsz:Tryz.prog.cellsOf t=sz)(ha:∀ m,∃ xs,a m=.agg xs)(each:FO enc W t sz (fun m:α=>(a m).cells))
  (hv:Value.okWide aA W .any base t v) (h:DataW.Trod enc aA W 0 (fun _=>true) true t v d p):∃ m:α,Rep W (fun _=>True) G0 (a m) v:=by
 obtain ⟨cs,rfl,hz⟩:=okWide_struct ht hv
 obtain ⟨fuel,hf⟩:=h
 obtain ⟨m,hm⟩:=each fuel cs.toList _ (by simpa using hz.trans hsz) hf
 obtain ⟨xs,hx⟩:=ha m
 exact ⟨m,zif hx hm⟩
end
theorem zlq {H:Type}(d:DataW H):1<=Rows.uptoBulk d:=by
 cases d with
 |lit l=>cases l<;>simp [Rows.uptoBulk]
 |nil=>simp [Rows.uptoBulk]
 |ptr d=>simp [Rows.uptoBulk]
 |slice elems spare=>simp [Rows.uptoBulk]
 |agg parts=>simp [Rows.uptoBulk]
 |iface t d=>simp [Rows.uptoBulk]
 |map entries=>simp [Rows.uptoBulk]
 |held h=>simp [Rows.uptoBulk]
theorem zlr {H:Type}{d:DataW H}{l:List (DataW H)}(h:d∈l):Rows.uptoBulk d<=Rows.uptoBulkAll l:=by
 induction l with
 |nil=>cases h
 |cons x r ih =>
  simp only [Rows.uptoBulkAll]
  rcases aR.1 h with e|e
  ·subst e;omega
  ·have:=ih e;omega
def SlQ (Q:Nat->α->Prop)(b:Nat)(l:List α):Prop:=∃ ps:List (Nat×α),ps.map (·.2)=l/\(∀ p∈ps,1<=p.1/\Q p.1 p.2)/\(ps.map (·.1)).sum<b
variable {Q:Nat->α->Prop}{b:Nat}
theorem SlQ.len {l:List α}(h:SlQ Q b l):l.length<b:=by
 obtain ⟨ps,rfl,h2,h3⟩:=h
 rw [aC]
 refine Nat.lt_of_le_of_lt ?_ h3
 clear h3
 induction ps with
 |nil=>simp
 |cons p ps ih =>
  have:=(h2 p (by simp)).1
  have:=ih (fun q hq=>h2 q (aO _ hq))
  simp only [aG,bG,bE];omega
theorem SlQ.mem {l:List α}(h:SlQ Q b l):∀ m∈l,∃ b',b' < b/\Q b' m:=fun m hm=>by
 obtain ⟨ps,rfl,h2,h3⟩:=h
 obtain ⟨p,hp,rfl⟩:=mem_map.1 hm
 refine ⟨p.1,?_,(h2 p hp).2⟩
 have:p.1<=(ps.map (·.1)).sum:=by
  clear h2 h3 hm
  induction ps with
  |nil=>cases hp
  |cons x ps ih =>
   simp only [aG,bG]
   rcases aR.1 hp with e|e
   ·subst e;omega
   ·have:=ih e;omega
 omega
section
variable {H:Type} {enc:TypeId×Value->H} {W:World} {base:Nat} {v:Value} {d:DataW H} {p:List MemPlace}
variable {t:TypeId}{sz:Nat}
theorem zgb {a:α->AV}{e:TypeId}(ht:Tryz.prog.underlying t=some (.slice e))(hsz:Tryz.prog.cellsOf e=sz)(h0:0<sz)(i0:Inhabited α)(hlen:∀ m,(a m).cells.length=sz)
    {u:Value} {x:DataW H×List MemPlace} (each:∀ (n:Nat) (cs:List Value) (y:DataW H×List MemPlace),Rows.uptoBulk y.1<Rows.uptoBulk x.1->cs.length=sz->DataW.trod enc aA W 0 (fun _=>true) true n e cs=some y->∃ m:α,Qd W a m cs/\Q (Rows.uptoBulk y.1) m)
  (h:DataW.trod enc aA W 0 (fun _=>true) true n t [u]=some x):∃ l:List α,Rep W (fun _=>True) G0 (.sl sz (l.map a)) u/\SlQ Q (Rows.uptoBulk x.1) l:=by
 rcases open_slice ht h with ⟨h1,hx⟩|⟨A,len,cap,m,n',D,Pl,h1,_,hlc,hm,hmm,hx,hc⟩
 ·simp only [List.cons.injEq,and_true] at h1
  subst h1
  exact ⟨[],.sl none 0 (fun _ _=>.bool true) (by simp) (fun k hk=>absurd hk (by simp)) (fun h=>absurd h (by simp)) (fun k hk=>absurd hk (by simp)) (fun _ _=>rfl),[],rfl,by simp,by rw [hx];simp [Rows.uptoBulk]⟩
 ·simp only [List.cons.injEq,and_true] at h1
  subst h1
  simp only [if_true] at hmm
  subst hmm
  rw [hsz] at hc
  have hbx:Rows.uptoBulkAll ((aP len).map D)<Rows.uptoBulk x.1:=by
   rw [hx]
   simp only [Rows.uptoBulk]
   omega
  have every:∀ i,∃ q:α×List Value,i<len->W.cells? 0 (A.add (i*sz)) sz=some q.2/\Qd W a q.1 q.2/\Q (Rows.uptoBulk (D i)) q.1:=fun i=>by
   by_cases hi:i<len
   ·obtain ⟨cs,c1,c2⟩:=hc i (by omega)
    have hlt:Rows.uptoBulk (D i)<Rows.uptoBulk x.1:=by
     have:=zlr (l:=(aP len).map D) (mem_map.2 ⟨i,mem_range.2 hi,rfl⟩)
     omega
    obtain ⟨k,hk,hq⟩:=each n' cs _ hlt (Sx c1).1 c2
    exact ⟨(k,cs),fun _=>⟨c1,hk,hq⟩⟩
   ·exact ⟨(i0.default,[]),fun h=>absurd h hi⟩
  obtain ⟨f,hf⟩:=Classical.axiomOfChoice every
  have hl:((aP len).map fun i=>(f i).1).length=len:=by simp
  refine ⟨(aP len).map fun i=>(f i).1,?_,(aP len).map (fun i=>(Rows.uptoBulk (D i),(f i).1)),by simp,?_,?_⟩
  rotate_left
  ·intro p hp
   obtain ⟨i,hi,rfl⟩:=mem_map.1 hp
   exact ⟨zlq _,(hf i (mem_range.1 hi)).2.2⟩
  ·rw [map_map]
   have:∀ l:List Nat,(l.map ((fun p:Nat×α=>p.1) ∘ fun i=>(Rows.uptoBulk (D i),(f i).1))).sum=Rows.uptoBulkAll (l.map D):=fun l=>by
    induction l with
    |nil=>simp [Rows.uptoBulkAll]
    |cons i l ih=>simp only [aG,bG,ih,Rows.uptoBulkAll,Function.comp]
   rw [this]
   exact hbx
  have e:len=(((aP len).map fun i=>(f i).1).map a).length:=by simp
  have hcell:∀ k j,k<len->j<sz->W.cell? ((A.add (k*sz)).add j)=some ((f k).2.getD j undef):=fun k j hk hj=>(Sx (hf k hk).1).2 j hj
  have:Rep W (fun _=>True) G0 (.sl sz (((aP len).map fun i=>(f i).1).map a)) (.slice (some A) (((aP len).map fun i=>(f i).1).map a).length m):=by
   refine .sl (some A) m (fun k j=>if k<len/\j<sz then (f k).2.getD j undef else .bool true) (by simpa using hlc) (fun k hk=>?_) (fun h0'=>?_) (fun k hk j hj=>?_) (fun k j=>?_)
   ·simp only [aH];exact hlen _
   ·have hlp:0<len:=by simpa using h0'
    have c0:=Zm (hcell 0 0 hlp h0)
    obtain ⟨b,off,sp⟩:=A
    have e1:sp=none:=by simpa [Addr.add] using c0.1
    subst e1
    rw [Hk,Hk] at c0
    refine ⟨b,off,rfl,trivial,c0.2,fun k j hk hj=>?_⟩
    have hk':k<len:=by simpa using hk
    have:=hcell k j hk' hj
    rw [Hk,Hk] at this
    rw [if_pos ⟨hk',hj⟩,<-this]
    congr 2
    omega
   ·have hk':k<len:=by simpa using hk
    simp only [aH,aV] at hj ⊢
    have hj':j<sz:=by rw [hlen] at hj;exact hj
    rw [if_pos ⟨hk',hj'⟩]
    exact ((hf k hk').2.1.2 j hj).1
   ·by_cases hkj:k<len/\j<sz
    ·rw [if_pos hkj]
     exact ((hf k hkj.1).2.1.2 j (by rw [hlen];exact hkj.2)).2
    ·rw [if_neg hkj];rfl
  rw [<-e] at this
  exact this
abbrev FQ (enc:TypeId×Value->H)(W:World)(t:TypeId)(sz:Nat){α:Type}(e:α->List AV)(Q:Nat->α->Prop)(B:Nat):Prop :=
 ∀ (n:Nat) (cs:List Value) (x:DataW H×List MemPlace),Rows.uptoBulk x.1<B->cs.length=sz->DataW.trod enc aA W 0 (fun _=>true) true n t cs=some x->∃ m:α,B5 W (e m) cs/\Q (Rows.uptoBulk x.1) m
theorem C4 {B:Nat}{e:α->List AV}(h:FO enc W t sz e):FQ enc W t sz e (fun _ _=>True) B:=fun n cs x _ hl ht=>by
 obtain ⟨m,hm⟩:=h n cs x hl ht
 exact ⟨m,hm,trivial⟩
theorem Ez {e:TypeId}{B:Nat}{a:α->AV}(ht:Tryz.prog.underlying t=some (.slice e))(hsz:Tryz.prog.cellsOf e=sz)(h0:0<sz)(i0:Inhabited α)(hlen:∀ m,(a m).cells.length=sz)
  (each:FQ enc W e sz (fun m:α=>(a m).cells) Q B):FQ enc W t 1 (fun l:List α=>[AV.sl sz (l.map a)]) (SlQ Q) B:=fun n cs x hb hl h=>by
 match cs,hl with
 |[c],_ =>
  obtain ⟨l,hl,hq⟩:=zgb (a:=a) ht hsz h0 i0 hlen (fun n cs y hy hl h=>each n cs y (by omega) hl h) h
  exact ⟨l,.one hl hl.one_sl,hq⟩
theorem zba {fs:Array Field}{a:α->AV}(ht:Tryz.prog.underlying t=some (.struct fs))(hsz:Tryz.prog.cellsOf t=sz)(ha:∀ m,∃ xs,a m=.agg xs)(each:∀ B,FQ enc W t sz (fun m:α=>(a m).cells) Q B)
  (hv:Value.okWide aA W .any base t v) (h:DataW.Trod enc aA W 0 (fun _=>true) true t v d p):∃ m:α,Rep W (fun _=>True) G0 (a m) v/\Q (Rows.uptoBulk d) m:=by
 obtain ⟨cs,rfl,hz⟩:=okWide_struct ht hv
 obtain ⟨fuel,hf⟩:=h
 obtain ⟨m,hm,hq⟩:=each (Rows.uptoBulk d+1) fuel cs.toList _ (by show Rows.uptoBulk d<Rows.uptoBulk d+1;omega) (by simpa using hz.trans hsz) hf
 obtain ⟨xs,hx⟩:=ha m
 exact ⟨m,zif hx hm,hq⟩
def QE (b:Nat)(m:Exn):Prop:=∃ z,z<=b/\ETr z m
def QG (b:Nat)(g:Gd):Prop:=∃ b',b' < b/\QE b' g.fCond
def QS (b:Nat)(s:Stt):Prop:=∃ b',b' < b/\SlQ QG b' s.fGuards
abbrev QT {α:Type}(_:Nat)(_:α):Prop:=True
def QX (b:Nat)(x:Ed):Prop:=(∃ b',b' < b/\QE b' x.fCond)/\(∃ b',b' < b/\SlQ QT b' x.fOpens)/\(∃ b',b' < b/\SlQ QT b' x.fCloses)/\(∃ b',b' < b/\∃ l:List Exn,x.fChecks=l.map Ag/\SlQ QE b' l)/\(∃ b',b' < b/\SlQ QT b' x.fLimits)/\(∃ b',b' < b/\SlQ QT b' x.fInside)
def QA (b:Nat)(a:Aut):Prop:=(∃ b',b' < b/\SlQ QS b' a.fStates)/\(∃ b',b' < b/\SlQ QX b' a.fEdges)
theorem zli {l:List Exn}(h:SlQ QE b l):∃ qs:List (Nat×Exn),qs.map (·.2)=l/\(∀ q∈qs,ETr q.1 q.2)/\(qs.map (·.1)).sum<b:=by
 obtain ⟨ps,rfl,h2,h3⟩:=h
 have:∃ qs:List (Nat×Exn),qs.map (·.2)=ps.map (·.2)/\(∀ q∈qs,ETr q.1 q.2)/\(qs.map (·.1)).sum<=(ps.map (·.1)).sum:=by
  clear h3
  induction ps with
  |nil=>exact ⟨[],rfl,by simp,by simp⟩
  |cons p ps ih =>
   obtain ⟨qs,q1,q2,q3⟩:=ih (fun q hq=>h2 q (aO _ hq))
   obtain ⟨z,hz,ht⟩:=(h2 p (by simp)).2
   refine ⟨(z,p.2)::qs,by simp [q1],fun q hq=>?_,by simp only [aG,bG];omega⟩
   rcases aR.1 hq with e|e
   ·rw [e];exact ht
   ·exact q2 q e
 obtain ⟨qs,q1,q2,q3⟩:=this
 exact ⟨qs,q1,q2,by omega⟩
theorem Wo {e:Exn}(h:QE b e)(hb:b<=1048576):WfE e:=by
 obtain ⟨z,hz,ht⟩:=h
 exact ⟨z,by omega,ht⟩
theorem zka (h:QA b a)(hb:b<=1048576):WfA a:=by
 obtain ⟨⟨b1,h1,s1⟩,⟨b2,h2,s2⟩⟩:=h
 refine ⟨by have:=s1.len;omega,by have:=s2.len;omega,fun s hs=>?_,fun x hx=>?_⟩
 ·obtain ⟨b3,h3,b4,h4,s4⟩:=s1.mem s hs
  refine ⟨by have:=s4.len;omega,fun g hg=>?_⟩
  obtain ⟨b5,h5,b6,h6,q6⟩:=s4.mem g hg
  exact Wo q6 (by omega)
 ·obtain ⟨b3,h3,⟨c1,d1,q1⟩,⟨c2,d2,q2⟩,⟨c3,d3,q3⟩,⟨c4,d4,l,hl,q4⟩,⟨c5,d5,q5⟩,⟨c6,d6,q6⟩⟩:=s2.mem x hx
  refine ⟨Wo q1 (by omega),⟨l,hl,fun y hy=>?_⟩,?_,?_,?_,?_,?_⟩
  ·obtain ⟨b7,h7,q7⟩:=q4.mem y hy
   exact Wo q7 (by omega)
  ·rw [hl,aC];have:=q4.len;omega
  ·have:=q2.len;omega
  ·have:=q3.len;omega
  ·have:=q6.len;omega
  ·have:=q5.len;omega
theorem zcd:FO enc W 144 3 (fun m:A4=>(A6 m).cells):=fun n cs x hl h=>by
 obtain ⟨xs,n',_,hx,_,hlen,hf⟩:=DataW.trod_struct Tryz.underlying144 h
 match xs,hlen with
 |[y0,y1,y2],_ =>
  have c0:Tryz.prog.cellsOf 3=1:=by kernel_rfl
  have g0:DataW.trod enc aA W 0 (fun _=>true) true n' 3 ((cs.drop 0).take (Tryz.prog.cellsOf 3))=some y0:=hf 0 _ rfl
  rw [c0] at g0
  obtain ⟨m0,h0⟩:=(Bo aB) n' _ _ (Ax (by omega)) g0
  have c1:Tryz.prog.cellsOf 3=1:=by kernel_rfl
  have g1:DataW.trod enc aA W 0 (fun _=>true) true n' 3 ((cs.drop 1).take (Tryz.prog.cellsOf 3))=some y1:=hf 1 _ rfl
  rw [c1] at g1
  obtain ⟨m1,h1⟩:=(Bo aB) n' _ _ (Ax (by omega)) g1
  have c2:Tryz.prog.cellsOf 9=1:=by kernel_rfl
  have g2:DataW.trod enc aA W 0 (fun _=>true) true n' 9 ((cs.drop 2).take (Tryz.prog.cellsOf 9))=some y2:=hf 2 _ rfl
  rw [c2] at g2
  obtain ⟨m2,h2⟩:=(Wv aN) n' _ _ (Ax (by omega)) g2
  have r:=(show B5 W _ (cs.drop 0) from (.cut h0 (.cut h1 (.cut h2 (B5.done (by omega))))))
  exact ⟨⟨m0,m1,m2⟩,r⟩
theorem Tp:∀ B,FQ enc W 146 8 (fun m:Exn=>(Ag m).cells) QE B
 |0=>fun n cs x hb hl h=>absurd hb (Nat.not_lt_zero _)
 |B+1=>fun n cs x hb hl h=>by
  obtain ⟨xs,n',_,hx,_,hlen,hf⟩:=DataW.trod_struct Tryz.underlying146 h
  match xs,hlen with
  |[y0,y1,y2,y3,y4,y5],_ =>
   have hk:Rows.uptoBulk x.1=Rows.uptoBulk y0.1+Rows.uptoBulk y1.1+Rows.uptoBulk y2.1+Rows.uptoBulk y3.1+Rows.uptoBulk y4.1+Rows.uptoBulk y5.1+1:=by rw [hx];simp only [Rows.uptoBulk,Rows.uptoBulkAll,aG,aS]<;>omega
   have c0:Tryz.prog.cellsOf 3=1:=by kernel_rfl
   have g0:DataW.trod enc aA W 0 (fun _=>true) true n' 3 ((cs.drop 0).take (Tryz.prog.cellsOf 3))=some y0:=hf 0 _ rfl
   rw [c0] at g0
   obtain ⟨m0,h0,q0⟩:=(C4 (Bo aB)) n' _ _ (show Rows.uptoBulk y0.1<B by omega) (Ax (by omega)) g0
   have c1:Tryz.prog.cellsOf 142=1:=by kernel_rfl
   have g1:DataW.trod enc aA W 0 (fun _=>true) true n' 142 ((cs.drop 1).take (Tryz.prog.cellsOf 142))=some y1:=hf 1 _ rfl
   rw [c1] at g1
   obtain ⟨m1,h1,q1⟩:=(Ez (sz:=8) (a:=Ag) aY (by kernel_rfl) (by omega) inferInstance (fun _=>rfl) (Tp B)) n' _ _ (show Rows.uptoBulk y1.1<B by omega) (Ax (by omega)) g1
   have c2:Tryz.prog.cellsOf 3=1:=by kernel_rfl
   have g2:DataW.trod enc aA W 0 (fun _=>true) true n' 3 ((cs.drop 2).take (Tryz.prog.cellsOf 3))=some y2:=hf 2 _ rfl
   rw [c2] at g2
   obtain ⟨m2,h2,q2⟩:=(C4 (Bo aB)) n' _ _ (show Rows.uptoBulk y2.1<B by omega) (Ax (by omega)) g2
   have c3:Tryz.prog.cellsOf 3=1:=by kernel_rfl
   have g3:DataW.trod enc aA W 0 (fun _=>true) true n' 3 ((cs.drop 3).take (Tryz.prog.cellsOf 3))=some y3:=hf 3 _ rfl
   rw [c3] at g3
   obtain ⟨m3,h3,q3⟩:=(C4 (Bo aB)) n' _ _ (show Rows.uptoBulk y3.1<B by omega) (Ax (by omega)) g3
   have c4:Tryz.prog.cellsOf 3=1:=by kernel_rfl
   have g4:DataW.trod enc aA W 0 (fun _=>true) true n' 3 ((cs.drop 4).take (Tryz.prog.cellsOf 3))=some y4:=hf 4 _ rfl
   rw [c4] at g4
   obtain ⟨m4,h4,q4⟩:=(C4 (Bo aB)) n' _ _ (show Rows.uptoBulk y4.1<B by omega) (Ax (by omega)) g4
   have c5:Tryz.prog.cellsOf 144=3:=by kernel_rfl
   have g5:DataW.trod enc aA W 0 (fun _=>true) true n' 144 ((cs.drop 5).take (Tryz.prog.cellsOf 144))=some y5:=hf 5 _ rfl
   rw [c5] at g5
   obtain ⟨m5,h5,q5⟩:=(C4 zcd) n' _ _ (show Rows.uptoBulk y5.1<B by omega) (Ax (by omega)) g5
   have h1:B5 W [AV.sl 8 (List.map idA (List.map Ag m1))] ((cs.drop 1).take 1):=by rw [Mr];exact h1
   have r:=(show B5 W _ (cs.drop 0) from (.cut h0 (.cut h1 (.cut h2 (.cut h3 (.cut h4 (.cut h5 (B5.done (by omega)))))))))
   obtain ⟨qs,r1,r2,r3⟩:=zli q1
   refine ⟨⟨m0,m1.map Ag,m2,m3,m4,m5⟩,r,1+(qs.map (·.1)).sum,by omega,.mk qs _ r2 ?_⟩
   show m1.map Ag=_
   rw [<-r1,map_map]
   rfl
theorem zhc (B:Nat):FQ enc W 216 11 (fun m:Gd=>(B4 m).cells) QG B:=fun n cs x hb hl h=>by
 obtain ⟨xs,n',_,hx,_,hlen,hf⟩:=DataW.trod_struct Tryz.underlying216 h
 match xs,hlen with
 |[y0,y1,y2,y3],_ =>
  have hk:Rows.uptoBulk x.1=Rows.uptoBulk y0.1+Rows.uptoBulk y1.1+Rows.uptoBulk y2.1+Rows.uptoBulk y3.1+1:=by rw [hx];simp only [Rows.uptoBulk,Rows.uptoBulkAll,aG,aS]<;>omega
  have c0:Tryz.prog.cellsOf 3=1:=by kernel_rfl
  have g0:DataW.trod enc aA W 0 (fun _=>true) true n' 3 ((cs.drop 0).take (Tryz.prog.cellsOf 3))=some y0:=hf 0 _ rfl
  rw [c0] at g0
  obtain ⟨m0,h0,q0⟩:=(C4 (Bo aB)) n' _ _ (show Rows.uptoBulk y0.1<B by omega) (Ax (by omega)) g0
  have c1:Tryz.prog.cellsOf 3=1:=by kernel_rfl
  have g1:DataW.trod enc aA W 0 (fun _=>true) true n' 3 ((cs.drop 1).take (Tryz.prog.cellsOf 3))=some y1:=hf 1 _ rfl
  rw [c1] at g1
  obtain ⟨m1,h1,q1⟩:=(C4 (Bo aB)) n' _ _ (show Rows.uptoBulk y1.1<B by omega) (Ax (by omega)) g1
  have c2:Tryz.prog.cellsOf 3=1:=by kernel_rfl
  have g2:DataW.trod enc aA W 0 (fun _=>true) true n' 3 ((cs.drop 2).take (Tryz.prog.cellsOf 3))=some y2:=hf 2 _ rfl
  rw [c2] at g2
  obtain ⟨m2,h2,q2⟩:=(C4 (Bo aB)) n' _ _ (show Rows.uptoBulk y2.1<B by omega) (Ax (by omega)) g2
  have c3:Tryz.prog.cellsOf 146=8:=by kernel_rfl
  have g3:DataW.trod enc aA W 0 (fun _=>true) true n' 146 ((cs.drop 3).take (Tryz.prog.cellsOf 146))=some y3:=hf 3 _ rfl
  rw [c3] at g3
  obtain ⟨m3,h3,q3⟩:=(Tp B) n' _ _ (show Rows.uptoBulk y3.1<B by omega) (Ax (by omega)) g3
  have r:=(show B5 W _ (cs.drop 0) from (.cut h0 (.cut h1 (.cut h2 (.cut h3 (B5.done (by omega)))))))
  exact ⟨⟨m0,m1,m2,m3⟩,r,_,(show Rows.uptoBulk y3.1<_ by omega),q3⟩
theorem zhb (B:Nat):FQ enc W 140 1 (fun m:Stt=>(Al m).cells) QS B:=fun n cs x hb hl h=>by
 obtain ⟨xs,n',_,hx,_,hlen,hf⟩:=DataW.trod_struct Tryz.underlying140 h
 match xs,hlen with
 |[y0],_ =>
  have hk:Rows.uptoBulk x.1=Rows.uptoBulk y0.1+1:=by rw [hx];simp only [Rows.uptoBulk,Rows.uptoBulkAll,aG,aS]<;>omega
  have c0:Tryz.prog.cellsOf 138=1:=by kernel_rfl
  have g0:DataW.trod enc aA W 0 (fun _=>true) true n' 138 ((cs.drop 0).take (Tryz.prog.cellsOf 138))=some y0:=hf 0 _ rfl
  rw [c0] at g0
  obtain ⟨m0,h0,q0⟩:=(Ez (sz:=11) (a:=B4) Tryz.underlying138 (by kernel_rfl) (by omega) inferInstance (fun _=>rfl) (zhc B)) n' _ _ (show Rows.uptoBulk y0.1<B by omega) (Ax (by omega)) g0
  have r:=(show B5 W _ (cs.drop 0) from (.cut h0 (B5.done (by omega))))
  exact ⟨⟨m0⟩,r,_,(show Rows.uptoBulk y0.1<_ by omega),q0⟩
theorem zhd:FO enc W 230 2 (fun m:Bz=>(Bi m).cells):=fun n cs x hl h=>by
 obtain ⟨xs,n',_,hx,_,hlen,hf⟩:=DataW.trod_struct Tryz.underlying230 h
 match xs,hlen with
 |[y0,y1],_ =>
  have c0:Tryz.prog.cellsOf 3=1:=by kernel_rfl
  have g0:DataW.trod enc aA W 0 (fun _=>true) true n' 3 ((cs.drop 0).take (Tryz.prog.cellsOf 3))=some y0:=hf 0 _ rfl
  rw [c0] at g0
  obtain ⟨m0,h0⟩:=(Bo aB) n' _ _ (Ax (by omega)) g0
  have c1:Tryz.prog.cellsOf 3=1:=by kernel_rfl
  have g1:DataW.trod enc aA W 0 (fun _=>true) true n' 3 ((cs.drop 1).take (Tryz.prog.cellsOf 3))=some y1:=hf 1 _ rfl
  rw [c1] at g1
  obtain ⟨m1,h1⟩:=(Bo aB) n' _ _ (Ax (by omega)) g1
  have r:=(show B5 W _ (cs.drop 0) from (.cut h0 (.cut h1 (B5.done (by omega)))))
  exact ⟨⟨m0,m1⟩,r⟩
theorem zjw (B:Nat):FQ enc W 149 17 (fun m:Ed=>(A5 m).cells) QX B:=fun n cs x hb hl h=>by
 obtain ⟨xs,n',_,hx,_,hlen,hf⟩:=DataW.trod_struct Tryz.underlying149 h
 match xs,hlen with
 |[y0,y1,y2,y3,y4,y5,y6,y7,y8,y9],_ =>
  have hk:Rows.uptoBulk x.1=Rows.uptoBulk y0.1+Rows.uptoBulk y1.1+Rows.uptoBulk y2.1+Rows.uptoBulk y3.1+Rows.uptoBulk y4.1+Rows.uptoBulk y5.1+Rows.uptoBulk y6.1+Rows.uptoBulk y7.1+Rows.uptoBulk y8.1+Rows.uptoBulk y9.1+1:=by rw [hx];simp only [Rows.uptoBulk,Rows.uptoBulkAll,aG,aS]<;>omega
  have c0:Tryz.prog.cellsOf 3=1:=by kernel_rfl
  have g0:DataW.trod enc aA W 0 (fun _=>true) true n' 3 ((cs.drop 0).take (Tryz.prog.cellsOf 3))=some y0:=hf 0 _ rfl
  rw [c0] at g0
  obtain ⟨m0,h0,q0⟩:=(C4 (Bo aB)) n' _ _ (show Rows.uptoBulk y0.1<B by omega) (Ax (by omega)) g0
  have c1:Tryz.prog.cellsOf 3=1:=by kernel_rfl
  have g1:DataW.trod enc aA W 0 (fun _=>true) true n' 3 ((cs.drop 1).take (Tryz.prog.cellsOf 3))=some y1:=hf 1 _ rfl
  rw [c1] at g1
  obtain ⟨m1,h1,q1⟩:=(C4 (Bo aB)) n' _ _ (show Rows.uptoBulk y1.1<B by omega) (Ax (by omega)) g1
  have c2:Tryz.prog.cellsOf 3=1:=by kernel_rfl
  have g2:DataW.trod enc aA W 0 (fun _=>true) true n' 3 ((cs.drop 2).take (Tryz.prog.cellsOf 3))=some y2:=hf 2 _ rfl
  rw [c2] at g2
  obtain ⟨m2,h2,q2⟩:=(C4 (Bo aB)) n' _ _ (show Rows.uptoBulk y2.1<B by omega) (Ax (by omega)) g2
  have c3:Tryz.prog.cellsOf 3=1:=by kernel_rfl
  have g3:DataW.trod enc aA W 0 (fun _=>true) true n' 3 ((cs.drop 3).take (Tryz.prog.cellsOf 3))=some y3:=hf 3 _ rfl
  rw [c3] at g3
  obtain ⟨m3,h3,q3⟩:=(C4 (Bo aB)) n' _ _ (show Rows.uptoBulk y3.1<B by omega) (Ax (by omega)) g3
  have c4:Tryz.prog.cellsOf 146=8:=by kernel_rfl
  have g4:DataW.trod enc aA W 0 (fun _=>true) true n' 146 ((cs.drop 4).take (Tryz.prog.cellsOf 146))=some y4:=hf 4 _ rfl
  rw [c4] at g4
  obtain ⟨m4,h4,q4⟩:=(Tp B) n' _ _ (show Rows.uptoBulk y4.1<B by omega) (Ax (by omega)) g4
  have c5:Tryz.prog.cellsOf 43=1:=by kernel_rfl
  have g5:DataW.trod enc aA W 0 (fun _=>true) true n' 43 ((cs.drop 12).take (Tryz.prog.cellsOf 43))=some y5:=hf 5 _ rfl
  rw [c5] at g5
  obtain ⟨m5,h5,q5⟩:=(Ez (sz:=1) (a:=aI) aJ (by kernel_rfl) (by omega) inferInstance (fun _=>rfl) (C4 (X7 aB))) n' _ _ (show Rows.uptoBulk y5.1<B by omega) (Ax (by omega)) g5
  have c6:Tryz.prog.cellsOf 43=1:=by kernel_rfl
  have g6:DataW.trod enc aA W 0 (fun _=>true) true n' 43 ((cs.drop 13).take (Tryz.prog.cellsOf 43))=some y6:=hf 6 _ rfl
  rw [c6] at g6
  obtain ⟨m6,h6,q6⟩:=(Ez (sz:=1) (a:=aI) aJ (by kernel_rfl) (by omega) inferInstance (fun _=>rfl) (C4 (X7 aB))) n' _ _ (show Rows.uptoBulk y6.1<B by omega) (Ax (by omega)) g6
  have c7:Tryz.prog.cellsOf 142=1:=by kernel_rfl
  have g7:DataW.trod enc aA W 0 (fun _=>true) true n' 142 ((cs.drop 14).take (Tryz.prog.cellsOf 142))=some y7:=hf 7 _ rfl
  rw [c7] at g7
  obtain ⟨m7,h7,q7⟩:=(Ez (sz:=8) (a:=Ag) aY (by kernel_rfl) (by omega) inferInstance (fun _=>rfl) (Tp B)) n' _ _ (show Rows.uptoBulk y7.1<B by omega) (Ax (by omega)) g7
  have c8:Tryz.prog.cellsOf 147=1:=by kernel_rfl
  have g8:DataW.trod enc aA W 0 (fun _=>true) true n' 147 ((cs.drop 15).take (Tryz.prog.cellsOf 147))=some y8:=hf 8 _ rfl
  rw [c8] at g8
  obtain ⟨m8,h8,q8⟩:=(Ez (sz:=2) (a:=Bi) Tryz.underlying147 (by kernel_rfl) (by omega) inferInstance (fun _=>rfl) (C4 zhd)) n' _ _ (show Rows.uptoBulk y8.1<B by omega) (Ax (by omega)) g8
  have c9:Tryz.prog.cellsOf 43=1:=by kernel_rfl
  have g9:DataW.trod enc aA W 0 (fun _=>true) true n' 43 ((cs.drop 16).take (Tryz.prog.cellsOf 43))=some y9:=hf 9 _ rfl
  rw [c9] at g9
  obtain ⟨m9,h9,q9⟩:=(Ez (sz:=1) (a:=aI) aJ (by kernel_rfl) (by omega) inferInstance (fun _=>rfl) (C4 (X7 aB))) n' _ _ (show Rows.uptoBulk y9.1<B by omega) (Ax (by omega)) g9
  have h7:B5 W [AV.sl 8 (List.map idA (List.map Ag m7))] ((cs.drop 14).take 1):=by rw [Mr];exact h7
  have r:=(show B5 W _ (cs.drop 0) from (.cut h0 (.cut h1 (.cut h2 (.cut h3 (.cut h4 (.cut h5 (.cut h6 (.cut h7 (.cut h8 (.cut h9 (B5.done (by omega)))))))))))))
  exact ⟨⟨m0,m1,m2,m3,m4,m5,m6,m7.map Ag,m8,m9⟩,r,⟨_,(show Rows.uptoBulk y4.1<_ by omega),q4⟩,⟨_,(show Rows.uptoBulk y5.1<_ by omega),q5⟩,⟨_,(show Rows.uptoBulk y6.1<_ by omega),q6⟩,⟨_,(show Rows.uptoBulk y7.1<_ by omega),m7,rfl,q7⟩,⟨_,(show Rows.uptoBulk y8.1<_ by omega),q8⟩,⟨_,(show Rows.uptoBulk y9.1<_ by omega),q9⟩⟩
theorem zlh (B:Nat):FQ enc W 26 4 (fun m:Aut=>(Br m).cells) QA B:=fun n cs x hb hl h=>by
 obtain ⟨xs,n',_,hx,_,hlen,hf⟩:=DataW.trod_struct Tryz.underlying26 h
 match xs,hlen with
 |[y0,y1,y2,y3],_ =>
  have hk:Rows.uptoBulk x.1=Rows.uptoBulk y0.1+Rows.uptoBulk y1.1+Rows.uptoBulk y2.1+Rows.uptoBulk y3.1+1:=by rw [hx];simp only [Rows.uptoBulk,Rows.uptoBulkAll,aG,aS]<;>omega
  have c0:Tryz.prog.cellsOf 3=1:=by kernel_rfl
  have g0:DataW.trod enc aA W 0 (fun _=>true) true n' 3 ((cs.drop 0).take (Tryz.prog.cellsOf 3))=some y0:=hf 0 _ rfl
  rw [c0] at g0
  obtain ⟨m0,h0,q0⟩:=(C4 (Bo aB)) n' _ _ (show Rows.uptoBulk y0.1<B by omega) (Ax (by omega)) g0
  have c1:Tryz.prog.cellsOf 3=1:=by kernel_rfl
  have g1:DataW.trod enc aA W 0 (fun _=>true) true n' 3 ((cs.drop 1).take (Tryz.prog.cellsOf 3))=some y1:=hf 1 _ rfl
  rw [c1] at g1
  obtain ⟨m1,h1,q1⟩:=(C4 (Bo aB)) n' _ _ (show Rows.uptoBulk y1.1<B by omega) (Ax (by omega)) g1
  have c2:Tryz.prog.cellsOf 23=1:=by kernel_rfl
  have g2:DataW.trod enc aA W 0 (fun _=>true) true n' 23 ((cs.drop 2).take (Tryz.prog.cellsOf 23))=some y2:=hf 2 _ rfl
  rw [c2] at g2
  obtain ⟨m2,h2,q2⟩:=(Ez (sz:=1) (a:=Al) Tryz.underlying23 (by kernel_rfl) (by omega) inferInstance (fun _=>rfl) (zhb B)) n' _ _ (show Rows.uptoBulk y2.1<B by omega) (Ax (by omega)) g2
  have c3:Tryz.prog.cellsOf 24=1:=by kernel_rfl
  have g3:DataW.trod enc aA W 0 (fun _=>true) true n' 24 ((cs.drop 3).take (Tryz.prog.cellsOf 24))=some y3:=hf 3 _ rfl
  rw [c3] at g3
  obtain ⟨m3,h3,q3⟩:=(Ez (sz:=17) (a:=A5) Tryz.underlying24 (by kernel_rfl) (by omega) inferInstance (fun _=>rfl) (zjw B)) n' _ _ (show Rows.uptoBulk y3.1<B by omega) (Ax (by omega)) g3
  have r:=(show B5 W _ (cs.drop 0) from (.cut h0 (.cut h1 (.cut h2 (.cut h3 (B5.done (by omega)))))))
  exact ⟨⟨m0,m1,m2,m3⟩,r,⟨_,(show Rows.uptoBulk y2.1<_ by omega),q2⟩,⟨_,(show Rows.uptoBulk y3.1<_ by omega),q3⟩⟩
theorem zhf:FO enc W 37 5 (fun m:Au=>(Am m).cells):=fun n cs x hl h=>by
 obtain ⟨xs,n',_,hx,_,hlen,hf⟩:=DataW.trod_struct Tryz.underlying37 h
 match xs,hlen with
 |[y0,y1,y2,y3,y4],_ =>
  have c0:Tryz.prog.cellsOf 3=1:=by kernel_rfl
  have g0:DataW.trod enc aA W 0 (fun _=>true) true n' 3 ((cs.drop 0).take (Tryz.prog.cellsOf 3))=some y0:=hf 0 _ rfl
  rw [c0] at g0
  obtain ⟨m0,h0⟩:=(Bo aB) n' _ _ (Ax (by omega)) g0
  have c1:Tryz.prog.cellsOf 3=1:=by kernel_rfl
  have g1:DataW.trod enc aA W 0 (fun _=>true) true n' 3 ((cs.drop 1).take (Tryz.prog.cellsOf 3))=some y1:=hf 1 _ rfl
  rw [c1] at g1
  obtain ⟨m1,h1⟩:=(Bo aB) n' _ _ (Ax (by omega)) g1
  have c2:Tryz.prog.cellsOf 3=1:=by kernel_rfl
  have g2:DataW.trod enc aA W 0 (fun _=>true) true n' 3 ((cs.drop 2).take (Tryz.prog.cellsOf 3))=some y2:=hf 2 _ rfl
  rw [c2] at g2
  obtain ⟨m2,h2⟩:=(Bo aB) n' _ _ (Ax (by omega)) g2
  have c3:Tryz.prog.cellsOf 3=1:=by kernel_rfl
  have g3:DataW.trod enc aA W 0 (fun _=>true) true n' 3 ((cs.drop 3).take (Tryz.prog.cellsOf 3))=some y3:=hf 3 _ rfl
  rw [c3] at g3
  obtain ⟨m3,h3⟩:=(Bo aB) n' _ _ (Ax (by omega)) g3
  have c4:Tryz.prog.cellsOf 35=1:=by kernel_rfl
  have g4:DataW.trod enc aA W 0 (fun _=>true) true n' 35 ((cs.drop 4).take (Tryz.prog.cellsOf 35))=some y4:=hf 4 _ rfl
  rw [c4] at g4
  obtain ⟨m4,h4⟩:=(X6 (sz:=3) (a:=A6) Tryz.underlying35 (by kernel_rfl) (by omega) inferInstance (fun _=>rfl) zcd) n' _ _ (Ax (by omega)) g4
  have r:=(show B5 W _ (cs.drop 0) from (.cut h0 (.cut h1 (.cut h2 (.cut h3 (.cut h4 (B5.done (by omega))))))))
  exact ⟨⟨m0,m1,m2,m3,m4⟩,r⟩
end
def V0 (x:Bm):AV:=.agg [aI x.fVerdict,aI x.fBound,.sl 5 (x.fPrefix.map Am),aI x.fPeriod]
def S2 (x:Fe):AV:=.agg [.sl 2 (x.fTypes.map Ap),aI x.fA.fVars,aI x.fA.fScopes,.sl 1 (x.fA.fStates.map Al),.sl 17 (x.fA.fEdges.map A5),aI x.fRate]
section
variable {H:Type} {enc:TypeId×Value->H} {W:World} {base:Nat} {v:Value} {d:DataW H} {p:List MemPlace}
theorem zhe:FO enc W 164 2 (fun m:Ps=>(Cu m).cells):=fun n cs x hl h=>by
 obtain ⟨xs,n',_,_,_,hlen,hf⟩:=DataW.trod_struct Tryz.underlying164 h
 match xs,hlen with
 |[y0,y1],_ =>
  have c0:Tryz.prog.cellsOf 9=1:=by kernel_rfl
  have g0:DataW.trod enc aA W 0 (fun _=>true) true n' 9 ((cs.drop 0).take (Tryz.prog.cellsOf 9))=some y0:=hf 0 _ rfl
  rw [c0] at g0
  obtain ⟨m0,h0⟩:=(Wv aN) n' _ _ (Ax (by omega)) g0
  have c1:Tryz.prog.cellsOf 3=1:=by kernel_rfl
  have g1:DataW.trod enc aA W 0 (fun _=>true) true n' 3 ((cs.drop 1).take (Tryz.prog.cellsOf 3))=some y1:=hf 1 _ rfl
  rw [c1] at g1
  obtain ⟨m1,h1⟩:=(Bo aB) n' _ _ (Ax (by omega)) g1
  have r:=(show B5 W _ (cs.drop 0) from (.cut h0 (.cut h1 (B5.done (by omega)))))
  exact ⟨⟨m0,m1⟩,r⟩
theorem zfe:FO enc W 99 2 (fun m:Aw=>(Ap m).cells):=fun n cs x hl h=>by
 obtain ⟨xs,n',_,_,_,hlen,hf⟩:=DataW.trod_struct Tryz.underlying99 h
 match xs,hlen with
 |[y0,y1],_ =>
  have c0:Tryz.prog.cellsOf 9=1:=by kernel_rfl
  have g0:DataW.trod enc aA W 0 (fun _=>true) true n' 9 ((cs.drop 0).take (Tryz.prog.cellsOf 9))=some y0:=hf 0 _ rfl
  rw [c0] at g0
  obtain ⟨m0,h0⟩:=(Wv aN) n' _ _ (Ax (by omega)) g0
  have c1:Tryz.prog.cellsOf 97=1:=by kernel_rfl
  have g1:DataW.trod enc aA W 0 (fun _=>true) true n' 97 ((cs.drop 1).take (Tryz.prog.cellsOf 97))=some y1:=hf 1 _ rfl
  rw [c1] at g1
  obtain ⟨m1,h1⟩:=(X6 (sz:=2) (a:=Cu) Tryz.underlying97 (by kernel_rfl) (by omega) inferInstance (fun _=>rfl) (zhe)) n' _ _ (Ax (by omega)) g1
  have r:=(show B5 W _ (cs.drop 0) from (.cut h0 (.cut h1 (B5.done (by omega)))))
  exact ⟨⟨m0,m1⟩,r⟩
theorem zff:FO enc W 39 4 (fun m:Bm=>(V0 m).cells):=fun n cs x hl h=>by
 obtain ⟨xs,n',_,_,_,hlen,hf⟩:=DataW.trod_struct bA h
 match xs,hlen with
 |[y0,y1,y2,y3],_ =>
  have c0:Tryz.prog.cellsOf 3=1:=by kernel_rfl
  have g0:DataW.trod enc aA W 0 (fun _=>true) true n' 3 ((cs.drop 0).take (Tryz.prog.cellsOf 3))=some y0:=hf 0 _ rfl
  rw [c0] at g0
  obtain ⟨m0,h0⟩:=(Bo aB) n' _ _ (Ax (by omega)) g0
  have g1:DataW.trod enc aA W 0 (fun _=>true) true n' 3 ((cs.drop 1).take (Tryz.prog.cellsOf 3))=some y1:=hf 1 _ rfl
  rw [c0] at g1
  obtain ⟨m1,h1⟩:=(Bo aB) n' _ _ (Ax (by omega)) g1
  have c2:Tryz.prog.cellsOf 29=1:=by kernel_rfl
  have g2:DataW.trod enc aA W 0 (fun _=>true) true n' 29 ((cs.drop 2).take (Tryz.prog.cellsOf 29))=some y2:=hf 2 _ rfl
  rw [c2] at g2
  obtain ⟨m2,h2⟩:=(X6 (sz:=5) (a:=Am) Tryz.underlying29 (by kernel_rfl) (by omega) inferInstance (fun _=>rfl) zhf) n' _ _ (Ax (by omega)) g2
  have g3:DataW.trod enc aA W 0 (fun _=>true) true n' 3 ((cs.drop 3).take (Tryz.prog.cellsOf 3))=some y3:=hf 3 _ rfl
  rw [c0] at g3
  obtain ⟨m3,h3⟩:=(Bo aB) n' _ _ (Ax (by omega)) g3
  have r:=(show B5 W _ (cs.drop 0) from (.cut h0 (.cut h1 (.cut h2 (.cut h3 (B5.done (by omega)))))))
  exact ⟨⟨m0,m1,m2,m3⟩,r⟩
theorem zdu (hv:Value.okWide aA W .any base 39 v)(h:DataW.Trod enc aA W 0 (fun _=>true) true 39 v d p):∃ m:Bm,Rep W (fun _=>True) G0 (V0 m) v :=
 zdr bA (by kernel_rfl) (fun _=>⟨_,rfl⟩) zff hv h
def zmk (b:Nat)(m:Fe):Prop:=(∃ b',b' < b/\SlQ (fun _ _=>True) b' m.fTypes)/\∃ b',b' < b/\QA b' m.fA
theorem zjx (B:Nat):FQ enc W 28 6 (fun m:Fe=>(S2 m).cells) zmk B:=fun n cs x hb hl h=>by
 obtain ⟨xs,n',_,hx,_,hlen,hf⟩:=DataW.trod_struct bB h
 match xs,hlen with
 |[y0,y1,y2],_ =>
  have hk:Rows.uptoBulk x.1=Rows.uptoBulk y0.1+Rows.uptoBulk y1.1+Rows.uptoBulk y2.1+1:=by rw [hx];simp only [Rows.uptoBulk,Rows.uptoBulkAll,aG,aS]<;>omega
  have c0:Tryz.prog.cellsOf 22=1:=by kernel_rfl
  have g0:DataW.trod enc aA W 0 (fun _=>true) true n' 22 ((cs.drop 0).take (Tryz.prog.cellsOf 22))=some y0:=hf 0 _ rfl
  rw [c0] at g0
  obtain ⟨m0,h0,q0⟩:=(Ez (sz:=2) (a:=Ap) Tryz.underlying22 (by kernel_rfl) (by omega) inferInstance (fun _=>rfl) (C4 zfe)) n' _ _ (show Rows.uptoBulk y0.1<B by omega) (Ax (by omega)) g0
  have c1:Tryz.prog.cellsOf 26=4:=by kernel_rfl
  have g1:DataW.trod enc aA W 0 (fun _=>true) true n' 26 ((cs.drop 1).take (Tryz.prog.cellsOf 26))=some y1:=hf 1 _ rfl
  rw [c1] at g1
  obtain ⟨m1,h1,q1⟩:=(zlh B) n' _ _ (show Rows.uptoBulk y1.1<B by omega) (Ax (by omega)) g1
  have c2:Tryz.prog.cellsOf 3=1:=by kernel_rfl
  have g2:DataW.trod enc aA W 0 (fun _=>true) true n' 3 ((cs.drop 5).take (Tryz.prog.cellsOf 3))=some y2:=hf 2 _ rfl
  rw [c2] at g2
  obtain ⟨m2,h2,q2⟩:=(C4 (Bo aB)) n' _ _ (show Rows.uptoBulk y2.1<B by omega) (Ax (by omega)) g2
  have r:=(show B5 W _ (cs.drop 0) from (.cut h0 (.cut h1 (.cut h2 (B5.done (by omega))))))
  exact ⟨⟨m0,m1,m2⟩,r,⟨_,(show Rows.uptoBulk y0.1<_ by omega),q0⟩,⟨_,(show Rows.uptoBulk y1.1<_ by omega),q1⟩⟩
theorem zi1 (hv:Value.okWide aA W .any base 28 v)(h:DataW.Trod enc aA W 0 (fun _=>true) true 28 v d p)(hb:Rows.uptoBulk d<=1048576):∃ m:Fe,Rep W (fun _=>True) G0 (S2 m) v/\WfA m.fA/\m.fTypes.length<=1100000:=by
 obtain ⟨m,r,⟨b0,q0,q1⟩,⟨b1,q2,q3⟩⟩:=zba (sz:=6) (a:=S2) bB (by kernel_rfl) (fun _=>⟨_,rfl⟩) (fun B=>zjx B) hv h
 have:=q1.len
 exact ⟨m,r,zka q3 (by omega),by omega⟩
end
theorem z6k (c:Fe)(hw:WfA c.fA)(hT:c.fTypes.length<=1100000)(g:Bm):Con E0 true 7 [S2 c,V0 g] (.bool true):=z05 (z6a c hw hT g)
end Go.Proofs.YthbogefcfhmpgaaGreat
