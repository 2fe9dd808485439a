/- Layer 57, plainly. -/
import Derived.Test.YtidhlpjgifoneaaGreatK37
import Derived.Test.YtidhlpjgifoneaaGreatRows
import Derived.ProofKit
import Derived.Lib.SmallJoins
import Derived.Deep.Slices
import Derived.Below
set_option linter.unusedVariables false
set_option linter.unusedSimpArgs false
namespace Go.Proofs.YtidhlpjgifoneaaGreat
open Go.RowKit List
open Nat renaming zero_le->aA
open _root_.Go.Proofs.Tryz renaming prog->aB,underlying3->aF,underlying31->aP
open List renaming length_map->aC,getElem_mem->aD,getD_eq_getElem?_getD->aG,drop_eq_nil_of_le->aH,drop_eq_getElem_cons->aJ,getElem?_eq_getElem->aK,take_append_drop->aM,mem_iff_getElem->aN,length_append->aO,mem_append_right->aQ,all_eq_true->aR,drop_zero->aT
open Int renaming natCast_zero->aE
open Bool renaming and_eq_true->aL,true_and->aS
theorem zbf (r:B9)(c:Cf)(z:c.fStarts.length<=1000000):∀ (m k:Nat),k<=c.fStarts.length->c.fStarts.length<m+k->∃ v:Int,Dg N0 c r (some 0) m (k:Int)=some v/\(v=0->∀ j (f:j<c.fStarts.length),k<=j->((0<=c.fStarts[j].fScope/\c.fStarts[j].fScope<r.fa.fScopes)/\0<=c.fStarts[j].fTime/\c.fStarts[j].fTime<=1099511627776)/\(0<j->(c.fStarts[j-1]'(by omega)).fScope<c.fStarts[j].fScope))
 |0,k,h1,A=>by omega
 |m+1,k,h1,A=>by
  unfold Dg;simp only [aC,A5,Ax,Am,Ez,Gu,Ap,Aq];by_cases h:k<c.fStarts.length
  ·obtain ⟨v,n,g⟩:=zbf r c z m (k+1) (by omega) (by omega);rw [if_pos (by omega),A9 h];by_cases y:c.fStarts[k].fScope<0
   ·rw [if_pos y];exact ⟨_,rfl,fun q=>absurd q (by decide)⟩
   rw [if_neg y];by_cases x:r.fa.fScopes<=c.fStarts[k].fScope
   ·rw [if_pos x];exact ⟨_,rfl,fun q=>absurd q (by decide)⟩
   rw [if_neg x];by_cases w:c.fStarts[k].fTime<0
   ·rw [if_pos w];exact ⟨_,rfl,fun q=>absurd q (by decide)⟩
   rw [if_neg w];by_cases s:1099511627776<c.fStarts[k].fTime
   ·rw [if_pos s];exact ⟨_,rfl,fun q=>absurd q (by decide)⟩
   rw [if_neg s,Ae k (by omega)];by_cases B:0<k
   ·rw [if_pos (by omega),Ga k (by omega) (by omega),A9 (by omega:k-1<c.fStarts.length)];by_cases o:c.fStarts[k].fScope<=c.fStarts[k-1].fScope
    ·rw [if_pos o];exact ⟨_,rfl,fun q=>absurd q (by decide)⟩
    rw [if_neg o];refine ⟨v,n,fun q j f b=>?_⟩;by_cases e:j=k
    ·subst e;exact ⟨⟨⟨by omega,by omega⟩,by omega,by omega⟩,fun _=>by omega⟩
    ·exact g q j f (by omega)
   ·rw [if_neg (by omega)];refine ⟨v,n,fun q j f b=>?_⟩;by_cases e:j=k
    ·subst e;exact ⟨⟨⟨by omega,by omega⟩,by omega,by omega⟩,fun h=>absurd h B⟩
    ·exact g q j f (by omega)
  ·rw [if_neg (by omega)];exact ⟨0,rfl,fun _ j f b=>by omega⟩
theorem zg4 (r:B9)(held:List Ev)(hm:HM held r.fheld)(c:Cf)(C:c.fBindings.length<=1000000)(K:Option Int)(b:Int)(w:K=some b):∀ (m k:Nat),k<=c.fBindings.length->c.fBindings.length<m+k->∃ v:Int,E3 N0 c r K m (k:Int)=some v/\(v=0->b=0/\∀ j (f:j<c.fBindings.length),k<=j->((0<=c.fBindings[j].fVar/\c.fBindings[j].fVar<r.fa.fVars)/\(lkH held c.fBindings[j].fRef).isSome=true)/\(0<j->rCmp (c.fBindings[j-1]'(by omega)).fRef c.fBindings[j].fRef<0))
 |0,k,h1,D=>by omega
 |m+1,k,h1,D=>by
  unfold E3;simp only [aC,A5,Ax,Am,Gt,Gs,Ap,Aq,Aj];by_cases h:k<c.fBindings.length
  ·obtain ⟨v,s,o⟩:=zg4 r held hm c C K b w m (k+1) (by omega) (by omega);have G:(⟨c.fBindings[k].fRef.fTime,c.fBindings[k].fRef.fSource,c.fBindings[k].fRef.fSeq⟩:Rf)=c.fBindings[k].fRef:=rfl;rw [if_pos (by omega),A9 h,G,X3,hm];by_cases z:c.fBindings[k].fVar<0
   ·rw [if_pos z];exact ⟨_,rfl,fun q=>absurd q (by decide)⟩
   rw [if_neg z];by_cases y:r.fa.fVars<=c.fBindings[k].fVar
   ·rw [if_pos y];exact ⟨_,rfl,fun q=>absurd q (by decide)⟩
   rw [if_neg y,Ae k (by omega)];have fin:(lkH held c.fBindings[k].fRef).isSome=true->(0<k->rCmp (c.fBindings[k-1]'(by omega)).fRef c.fBindings[k].fRef<0)->v=0->b=0/\∀ j (f:j<c.fBindings.length),k<=j->((0<=c.fBindings[j].fVar/\c.fBindings[j].fVar<r.fa.fVars)/\(lkH held c.fBindings[j].fRef).isSome=true)/\(0<j->rCmp (c.fBindings[j-1]'(by omega)).fRef c.fBindings[j].fRef<0):=fun B A q=>by
    refine ⟨(o q).1,fun j f n=>?_⟩;by_cases e:j=k
    ·subst e;exact ⟨⟨⟨by omega,by omega⟩,B⟩,A⟩
    ·exact (o q).2 j f (by omega)
   by_cases E:0<k
   ·have F:(⟨c.fBindings[k-1].fRef.fTime,c.fBindings[k-1].fRef.fSource,c.fBindings[k-1].fRef.fSeq⟩:Rf)=c.fBindings[k-1].fRef:=rfl;rw [if_pos (by omega),Ga k (by omega) (by omega),A9 (by omega:k-1<c.fBindings.length),F,zr8,A3];by_cases x:0<=rCmp c.fBindings[k-1].fRef c.fBindings[k].fRef
    ·rw [if_pos x];exact ⟨_,rfl,fun q=>absurd q (by decide)⟩
    rw [if_neg x];cases g:(lkH held c.fBindings[k].fRef).isSome
    ·rw [Aq];exact ⟨_,rfl,fun q=>absurd q (by decide)⟩
    ·rw [Ap];exact ⟨v,s,fin g (fun _=>by omega)⟩
   ·rw [if_neg (by omega)];cases g:(lkH held c.fBindings[k].fRef).isSome
    ·rw [Aq];exact ⟨_,rfl,fun q=>absurd q (by decide)⟩
    ·rw [Ap];exact ⟨v,s,fin g (fun h=>absurd h E)⟩
  ·rw [if_neg (by omega)];exact ⟨b,w,fun q=>⟨q,fun j f n=>by omega⟩⟩
variable {α:Type}
theorem zca {R:α->α->Prop}(tr:∀ x y z,R x y->R y z->R x z){l:List α}(h:∀ j (c:j<l.length),0<j->R (l[j-1]'(by omega)) l[j]):l.Pairwise R:=by
 rw [pairwise_iff_getElem];intro i j hi c f
 induction j with
 |zero=>omega
 |succ j ih =>
  have b:=h (j+1) c (by omega);simp only [Nat.add_sub_cancel] at b;by_cases e:i=j
  ·subst e;exact b
  ·exact tr _ _ _ (ih (by omega) (by omega)) b
variable {a:Aut}{l:List Ev}{i:Nat}{mp:List (Rf×Ev)}
theorem zg3 (h:GS a l)(hm:HM (l.take i) mp)(c:Cf)(U:c.fBindings.length<=12)(T:c.fStarts.length<=12):∃ v:Int,Eh N0 ⟨a,mp⟩ c=some v/\(v=0->Gd57 a l i c):=by
 unfold Eh;simp only [Ax,Am,Gy,A5,Ap,aC];by_cases J:c.fState<0
 ·rw [if_pos J];exact ⟨_,rfl,fun q=>absurd q (by decide)⟩
 rw [if_neg J];by_cases I:(a.fStates.length:Int)<=c.fState
 ·rw [if_pos I];exact ⟨_,rfl,fun q=>absurd q (by decide)⟩
 rw [if_neg I,if_neg (by omega)];obtain ⟨M,w1,K⟩:=zbf ⟨a,mp⟩ c (by omega) N0 0 (aA _) (by unfold N0;omega);simp only [aE] at w1;obtain ⟨v,E,L⟩:=zg4 ⟨a,mp⟩ (l.take i) hm c (by omega) _ M w1 N0 0 (aA _) (by unfold N0;omega);simp only [aE] at E;refine ⟨v,E,fun q=>?_⟩;obtain ⟨N,G⟩:=L q;have F:=K N;have n:=h.so.st;have o:∀ b∈c.fBindings,(0<=b.fVar/\b.fVar<a.fVars)/\∃ e∈l.take i,Bm e=b.fRef/\lkH l b.fRef=some e:=fun b f=>by
  obtain ⟨j,g,rfl⟩:=aN.1 f;obtain ⟨⟨m,k⟩,_⟩:=G j g (aA _);refine ⟨m,?_⟩;obtain ⟨e,w⟩:=Option.isSome_iff_exists.1 k;obtain ⟨P,O⟩:=zi7 w;exact ⟨e,O,P,by rw [<-aM i l,zx5,w];rfl⟩
 have r:c.fBindings.Pairwise (fun x y=>rCmp x.fRef y.fRef<0):=by
  refine zca (R:=fun x y:Bd=>rCmp x.fRef y.fRef<0) ?_ ?_
  ·intro x y z h1 C;exact Jk.trans _ _ _ h1 C
  ·intro j g D;exact (G j g (aA _)).2 D
 have A:SS c.fStarts:=by
  unfold SS;refine zca (R:=fun x y:Sta=>x.fScope<y.fScope) ?_ ?_
  ·intro x y z h1 C;exact Int.lt_trans h1 C
  ·intro j g D;exact (F j g (aA _)).2 D
 refine ⟨⟨⟨by omega,by omega⟩,fun b f=>?_,A,by omega,by omega⟩,r,fun b f e w=>?_,fun s B=>?_⟩
 ·obtain ⟨m,e,_,_,k⟩:=o b f;exact ⟨m,by rw [k];rfl⟩
 ·obtain ⟨_,Q,m,k,_⟩:=o b f;rw [<-k];rw [<-aM i l] at n;exact (pairwise_append.1 n).2.2 Q m e w
 ·obtain ⟨j,g,rfl⟩:=aN.1 B;exact (F j g (aA _)).1
theorem zc0 (h:GS a l)(c:Cf)(j:c.fBindings.length<=12)(g:c.fStarts.length<=12):∃ v:Int,Nf N0 a (l.take i) c=some v/\(v=0->Gd57 a l i c):=by
 obtain ⟨mp,hm,b⟩:=h.begin i;obtain ⟨v,f,e⟩:=zg3 h hm c j g;refine ⟨v,?_,e⟩;unfold Nf bndP;rw [b];simp only [Aj,A5];rw [if_pos trivial,f,A3]
structure FewR (S:List (List Cf)):Prop where
 ln:S.length<=14
 st:∀ s∈S,s.length<=60/\∀ c∈s,c.fBindings.length<=12/\c.fStarts.length<=12
variable {S:List (List Cf)}
theorem q_form_l2 (h:GS a l)(o:FewR S)(c:i<S.length)(x:i<=l.length)(K:Option Int):∀ (m k:Nat),k<=S[i].length->S[i].length<m+k->(∃ f:Int,f≠0/\Dh N0 ⟨S⟩ l a (i:Int) S[i] K m (k:Int)=some f)\/(Dh N0 ⟨S⟩ l a (i:Int) S[i] K m (k:Int)=K/\∀ j (g:j<S[i].length),k<=j->Gd57 a l i S[i][j])
 |0,k,h1,J=>by omega
 |m+1,k,h1,J=>by
  have O:=(o.st _ (aD c)).1;have G:=h.len;have F:=o.ln;unfold Dh;simp only [aC,A5,Aj,Ax,Am,J0];by_cases z:k<S[i].length
  ·have A:=(o.st _ (aD c)).2 _ (aD z);have s:∀ (K:List Ev->Option Int),sls l 0 (i:Int) K=K (l.take i):=fun K=>by
    have:=Ea (l:=l) (a:=0) (b:=i) (aA _) (by omega) K;simpa using this
   obtain ⟨v,C,B⟩:=zc0 h (i:=i) S[i][k] A.1 A.2;rw [if_pos (by omega),A9 z,s,C,A3];by_cases r:v=0;rotate_left
   ·rw [if_neg r];exact Or.inl ⟨v,r,rfl⟩
   rw [if_pos r,Ae k (by omega)];have fin:((∃ f:Int,f≠0/\Dh N0 ⟨S⟩ l a (i:Int) S[i] K m ((k+1:Nat):Int)=some f)\/(Dh N0 ⟨S⟩ l a (i:Int) S[i] K m ((k+1:Nat):Int)=K/\∀ j (g:j<S[i].length),k+1<=j->Gd57 a l i S[i][j]))->((∃ f:Int,f≠0/\Dh N0 ⟨S⟩ l a (i:Int) S[i] K m ((k+1:Nat):Int)=some f)\/(Dh N0 ⟨S⟩ l a (i:Int) S[i] K m ((k+1:Nat):Int)=K/\∀ j (g:j<S[i].length),k<=j->Gd57 a l i S[i][j])):=fun q=>q.imp id (fun ⟨E,D⟩=>⟨E,fun j g w=>by
    by_cases e:j=k
    ·subst e;exact B r
    ·exact D j g (by omega)⟩)
   have y:=fin (q_form_l2 h o c x K m (k+1) (by omega) (by omega));by_cases L:k=0
   ·subst L;rw [if_neg (by simp),Aq];exact y
   ·obtain ⟨j,rfl⟩:∃ j,k=j+1:=⟨k-1,by omega⟩;have g:j<S[i].length:=by omega
    have I:=(o.st _ (aD c)).2 _ (aD g);have M:IntKind.wrap .i64 (((j+1:Nat):Int)-1)=(j:Int):=by rw [Cq _ (by omega)];omega
    obtain ⟨v',w1,N⟩:=zwg S[i][j] S[i][j+1] (by omega) (by omega) (by omega) (by omega);rw [if_pos (by omega),M,A9 g,w1,A3];by_cases n:0<=v'
    ·rw [if_pos n];exact Or.inl ⟨14,by decide,rfl⟩
    ·rw [if_neg n];exact y
  ·rw [if_neg (by omega)];exact Or.inr ⟨rfl,fun j g w=>by omega⟩
theorem zkz (h:GS a l)(n:FewR S)(b:S.length=l.length+1):∀ (m i:Nat),i<=S.length->S.length<m+i->∃ f:Int,Iz N0 ⟨S⟩ l a (some 0) m (i:Int)=some f/\(f=0->∀ j (o:j<S.length),i<=j->∀ c∈S[j],Gd57 a l j c)
 |0,i,h1,B=>by omega
 |m+1,i,h1,B=>by
  have z:=h.len;have y:=n.ln;unfold Iz;simp only [aC,A5];by_cases hi:i<S.length
  ·have E:=(n.st _ (aD hi)).1;obtain ⟨f,D,C⟩:=zkz h n b m (i+1) (by omega) (by omega);rw [if_pos (by omega),A9 hi,if_neg (by omega),Ae i (by omega),D];rcases q_form_l2 h n hi (by omega) (some f) N0 0 (aA _) (by unfold N0;omega) with ⟨g,w,s⟩|⟨w,s⟩
   ·exact ⟨g,s,fun q=>absurd q w⟩
   ·refine ⟨f,w,fun q j o r c x=>?_⟩;by_cases e:j=i
    ·subst e;obtain ⟨k,A,rfl⟩:=aN.1 x;exact s k A (aA _)
    ·exact C q j o (by omega) c x
  ·rw [if_neg (by omega)];exact ⟨0,rfl,fun _ j o r=>by omega⟩
theorem y1c (h:GS a l)(b:FewR S):∃ f:Int,J4 N0 a l ⟨S⟩=some f/\(f=0->G9 a l S):=by
 have g:=h.len;have c:=b.ln;unfold J4;simp only [aC,A5,Aj];rw [Ae l.length (by omega)];by_cases e:S.length=l.length+1
 ·rw [if_pos (by omega)];obtain ⟨f,k,j⟩:=zkz h b e N0 0 (aA _) (by unfold N0;omega);exact ⟨f,k,fun q=>⟨e,fun i hi=>by have:=(b.st _ (aD hi)).1;omega,fun i hi=>j q i hi (aA _)⟩⟩
 ·rw [if_neg (by omega)];exact ⟨_,rfl,fun q=>absurd q (by decide)⟩
theorem zzh (h:GS a l)(g:FewR S):∃ v:Int,E4 N0 a l ⟨S⟩=some v/\(v=0->msI a l l.length=[]):=by
 obtain ⟨f,e,j⟩:=y1c h g;by_cases b:f=0
 ·have ok:=j b;rw [b] at e;rw [zr1 h ok e];refine ⟨_,rfl,fun q=>?_⟩;by_cases c:(covd (Bb a) (S.getD 0 []) cf0 && vOk a l S l 0)=true
  ·rw [aL] at c;exact zzk h ok c.1 c.2
  ·rw [if_neg c] at q;cases q
 ·refine ⟨f,?_,fun q=>absurd q b⟩;unfold E4;rw [zdo h,A3,Aj,A5,if_pos rfl,e,A3,Aj,A5,if_neg b]
theorem zgg (S:List (List Cf))(K:Option Bool):∀ (m k:Nat),k<=20->20<m+k->Ig N0 ⟨S⟩ K m (k:Int)=if ∀ s∈(S.take 20).drop k,(s.length<=60/\∀ x∈s,O0 x=true) then K else some false
 |0,k,h1,f=>by omega
 |m+1,k,h1,f=>by
  unfold Ig;simp only [Ax,Am,Lm,aC,A5,Aq,Aj,decide_eq_true_eq];by_cases h:k<S.length
  ·rw [if_pos (by omega)];by_cases g:k<20
   ·rw [if_pos (by omega),A9 h,Ae k (by omega),zgg S K m (k+1) (by omega) (by omega),y78 N0 (by decide),A3];have e:(S.take 20).drop k=S[k]::(S.take 20).drop (k+1):=by
     rw [B1 _ k (by simp;omega),getElem_take]
    rw [e];simp only [forall_mem_cons];by_cases q:S[k].length<=60/\∀ x∈S[k],O0 x=true
    ·rw [decide_eq_true q,Ap];split
     ·rename_i b;rw [if_pos ⟨q,b⟩]
     ·rename_i b;rw [if_neg (fun c=>b c.2)]
    ·rw [decide_eq_false q,Aq,if_neg (fun c=>q c.1)]
   ·rw [if_neg (by omega),aH (by simp;omega)];simp
  ·rw [if_neg (by omega),aH (by simp;omega)];simp
theorem y32 (S:List (List Cf)):∃ b:Bool,Um N0 ⟨S⟩=some b/\(b=true->FewR S):=by
 unfold Um;have:=zgg S (some (decide ((((List.map (fun q=>AV.sl 3 (List.map A4 q)) S).length:Nat):Int)<=14))) N0 0 (by omega) (by decide);simp only [aE,aT] at this;rw [this];split
 ·rename_i q;refine ⟨_,rfl,fun h=>?_⟩;rw [decide_eq_true_eq,aC] at h;rw [take_of_length_le (by omega)] at q;refine ⟨by omega,fun s e=>⟨(q s e).1,fun c f=>?_⟩⟩;have:=(q s e).2 c f;unfold O0 at this;rw [aL,decide_eq_true_eq,decide_eq_true_eq] at this;exact this
 ·exact ⟨_,rfl,fun h=>by cases h⟩
theorem zcx (r:B9)(c:Cf)(n:c.fStarts.length<=1000000):∀ (m k:Nat),k<=c.fStarts.length->c.fStarts.length<m+k->Dg N0 c r (some 0) m (k:Int)=Fk N0 c.fStarts r.fa (some 0) m (k:Int)
 |0,k,h1,o=>by omega
 |m+1,k,h1,o=>by
  unfold Dg Fk;simp only [aC,A5,Ax,Am,Ez,Gu,Gg,Kf,Ap,Aq];by_cases h:k<c.fStarts.length
  ·have j:=zcx r c n m (k+1) (by omega) (by omega);rw [if_pos (by omega),if_pos (by omega),A9 h,A9 h,A9 h,A9 h,A9 h,Ae k (by omega),j];by_cases g:c.fStarts[k].fScope<0
   ·rw [if_pos g,if_pos g]
   rw [if_neg g,if_neg g];by_cases f:r.fa.fScopes<=c.fStarts[k].fScope
   ·rw [if_pos f,if_pos f]
   rw [if_neg f,if_neg f];by_cases e:c.fStarts[k].fTime<0
   ·rw [if_pos e,if_pos e]
   rw [if_neg e,if_neg e];by_cases b:1099511627776<c.fStarts[k].fTime
   ·rw [if_pos b,if_pos b]
   rw [if_neg b,if_neg b];by_cases q:0<k
   ·rw [if_pos (by omega),if_pos (by omega),Ga k (by omega) (by omega),A9 (by omega:k-1<c.fStarts.length),A9 (by omega:k-1<c.fStarts.length),A9 h]
   simp_all
  grind
theorem y2j (held:List Ev)(b:held.length<=1000000)(r:Rf):∃ x,M4 N0 held r=some (x,(lkH held r).isSome):=by
 rw [zwd N0 r held b (by unfold N0;omega)];cases lkH held r<;>exact ⟨_,rfl⟩
theorem r_bind_rel (r:B9)(held:List Ev)(hm:HM held r.fheld)(f:held.length<=1000000)(c:Cf)(s:c.fBindings.length<=1000000)(K K':Option Int):∀ (m k:Nat),k<=c.fBindings.length->c.fBindings.length<m+k->(E3 N0 c r K m (k:Int)=K/\Gc N0 c.fBindings held r.fa K' m (k:Int)=K')\/∃ e:Int,e≠0/\E3 N0 c r K m (k:Int)=some e/\Gc N0 c.fBindings held r.fa K' m (k:Int)=some e
 |0,k,h1,w=>by omega
 |m+1,k,h1,w=>by
  unfold E3 Gc;simp only [aC,A5,Ax,Am,Gt,Gs,K2,K1,Ap,Aq,Aj];by_cases h:k<c.fBindings.length
  ·have b:=r_bind_rel r held hm f c s K K' m (k+1) (by omega) (by omega);have o:(⟨c.fBindings[k].fRef.fTime,c.fBindings[k].fRef.fSource,c.fBindings[k].fRef.fSeq⟩:Rf)=c.fBindings[k].fRef:=rfl;obtain ⟨x,q⟩:=y2j held f c.fBindings[k].fRef;rw [if_pos (by omega),if_pos (by omega),A9 h,A9 h,A9 h,A9 h,o,X3,hm,q,A3,Ae k (by omega)];by_cases n:c.fBindings[k].fVar<0
   ·simp_all
   rw [if_neg n,if_neg n];by_cases j:r.fa.fVars<=c.fBindings[k].fVar
   ·simp_all
   rw [if_neg j,if_neg j];by_cases z:0<k
   ·have y:(⟨c.fBindings[k-1].fRef.fTime,c.fBindings[k-1].fRef.fSource,c.fBindings[k-1].fRef.fSeq⟩:Rf)=c.fBindings[k-1].fRef:=rfl;rw [if_pos (by omega),if_pos (by omega),Ga k (by omega) (by omega),A9 (by omega:k-1<c.fBindings.length),A9 (by omega:k-1<c.fBindings.length),A9 h,y,o,zr8,zhu,A3,A3];by_cases g:0<=rCmp c.fBindings[k-1].fRef c.fBindings[k].fRef
    ·simp_all
    rw [if_neg g,if_neg g];cases (lkH held c.fBindings[k].fRef).isSome
    ·rw [Aq,Aq];simp_all
    ·rw [Ap,Ap];exact b
   ·rw [if_neg (by omega),if_neg (by omega)];cases (lkH held c.fBindings[k].fRef).isSome
    ·rw [Aq,Aq];simp_all
    ·rw [Ap,Ap];exact b
  grind
theorem zzd {held:List Ev}(hm:HM held mp)(o:held.length<=1000000)(c:Cf)(r:c.fBindings.length<=12)(q:c.fStarts.length<=12){k:Int}(m:Dg N0 c ⟨a,mp⟩ (some 0) N0 0=some k):Qg N0 a held c=Eh N0 ⟨a,mp⟩ c:=by
 unfold Qg Eh;simp only [Ax,Am,Gy,Kj,A5,Ap,aC];by_cases j:c.fState<0
 ·rw [if_pos j,if_pos j]
 rw [if_neg j,if_neg j];by_cases h:(a.fStates.length:Int)<=c.fState
 ·rw [if_pos h,if_pos h]
 rw [if_neg h,if_neg h,if_neg (by omega)];unfold Xi Xs;rw [A5,aC,if_neg (by omega)];have g:=zcx ⟨a,mp⟩ c (by omega) N0 0 (aA _) (by unfold N0;omega);simp only [aE] at g;rw [g] at m ⊢;rw [m];rcases r_bind_rel ⟨a,mp⟩ held hm o c (by omega) (some k) (some 0) N0 0 (aA _) (by unfold N0;omega) with ⟨f,b⟩|⟨e,n,f,b⟩
 ·simp only [aE] at f b;rw [f,b,A3,Aj,A5,if_pos rfl,A3]
 ·simp only [aE] at f b;rw [f,b,A3,Aj,A5,if_neg n]
theorem zte (h:GS a l)(i:Nat)(c:Cf)(f:c.fBindings.length<=12)(e:c.fStarts.length<=12):Qg N0 a (l.take i) c=Nf N0 a (l.take i) c:=by
 obtain ⟨mp,hm,b⟩:=h.begin i;obtain ⟨j,w1,_⟩:=zbf ⟨a,mp⟩ c (by omega) N0 0 (aA _) (by unfold N0;omega);simp only [aE] at w1;obtain ⟨v,g,_⟩:=zg3 h hm c f e;rw [zzd hm (by have:=h.len;rw [length_take];omega) c f e w1];unfold Nf bndP;rw [b];simp only [Aj,A5];rw [if_pos trivial,g,A3]
theorem zku (h:GS a l)(n:FewR S)(c:i<S.length)(w:i<=l.length)(K:Option Int):∀ (m k:Nat),k<=S[i].length->S[i].length<m+k->I7 N0 ⟨S⟩ l a (i:Int) S[i] K m (k:Int)=Dh N0 ⟨S⟩ l a (i:Int) S[i] K m (k:Int)
 |0,k,h1,B=>by omega
 |m+1,k,h1,B=>by
  have E:=(n.st _ (aD c)).1;have z:=h.len;unfold Dh I7;simp only [aC,A5,Aj,Ax,Am,J0,L4];by_cases x:k<S[i].length
  ·have g:=(n.st _ (aD c)).2 _ (aD x);have r:∀ (K:List Ev->Option Int),sls l 0 (i:Int) K=K (l.take i):=fun K=>by
    have:=Ea (l:=l) (a:=0) (b:=i) (aA _) (by omega) K;simpa using this
   obtain ⟨v,y,_⟩:=zc0 h (i:=i) S[i][k] g.1 g.2;have e:((k:Nat):Int)<((S[i].length:Nat):Int):=by omega
   rw [if_pos e,if_pos e];simp only [r,A9 x,zte h i _ g.1 g.2,y,A3];by_cases f:v=0;rotate_left
   ·rw [if_neg f,if_neg f]
   rw [if_pos f,if_pos f,Ae k (by omega),zku h n c w K m (k+1) (by omega) (by omega)];by_cases F:k=0
   ·simp_all
   ·obtain ⟨j,rfl⟩:∃ j,k=j+1:=⟨k-1,by omega⟩;have s:j<S[i].length:=by omega
    have A:=(n.st _ (aD c)).2 _ (aD s);have C:IntKind.wrap .i64 (((j+1:Nat):Int)-1)=(j:Int):=by rw [Cq _ (by omega)];omega
    obtain ⟨v',w1,D⟩:=zwg S[i][j] S[i][j+1] (by omega) (by omega) (by omega) (by omega);have q:cfOk S[i][j]=true:=by unfold cfOk;simp;omega
    have o:cfOk S[i][j+1]=true:=by unfold cfOk;simp;omega
    rw [if_pos (by omega),if_pos (by omega),C,A9 s,A9 s,w1,y2x N0 _ _ q o (by unfold N0;omega) (by unfold N0;omega),A3,A3];grind
  grind
theorem zkv (h:GS a l)(c:FewR S)(b:S.length=l.length+1):∀ (m i:Nat),i<=S.length->S.length<m+i->Q4 N0 ⟨S⟩ l a (some 0) m (i:Int)=Iz N0 ⟨S⟩ l a (some 0) m (i:Int)
 |0,i,h1,f=>by omega
 |m+1,i,h1,f=>by
  have e:=h.len;unfold Iz Q4;simp only [aC,A5];by_cases hi:i<S.length
  ·have g:=(c.st _ (aD hi)).1;rw [if_pos (by omega),if_pos (by omega),A9 hi,A9 hi,if_neg (by omega),if_neg (by omega),Ae i (by omega),zkv h c b m (i+1) (by omega) (by omega)];exact zku h c hi (by omega) _ N0 0 (aA _) (by unfold N0;omega)
  grind
theorem y50 (h:GS a l)(b:FewR S):Uc N0 a l ⟨S⟩=J4 N0 a l ⟨S⟩:=by
 have f:=h.len;have c:=b.ln;unfold J4 Uc;simp only [aC,A5,Aj];rw [Ae l.length (by omega)];by_cases e:S.length=l.length+1
 ·rw [if_pos (by omega),if_pos (by omega)];exact zkv h b e N0 0 (aA _) (by unfold N0;omega)
 grind
variable {rs:List (List Bool)}
theorem zby (g:AOk a)(e:RsOk a rs){l:List Cf}{d:Cf}(j:l.length<=1000000)(b:∀ c∈l,CR a c)(f:CR a d):∀ (m k:Nat),k<=l.length->l.length<m+k->Oh N0 d l rs (some false) m (k:Int)=some (covd (Bb a) (l.drop k) d)
 |0,k,h1,n=>by omega
 |m+1,k,h1,n=>by
  unfold Oh;rw [aC,A5];by_cases h:k<l.length
  ·rw [if_pos (by omega),A9 h,zw1 g e (b _ (aD h)) f,A3,Ae k (by omega),zby g e j b f m (k+1) (by omega) (by omega),aJ h];unfold covd;rw [any_cons];cases cov (Bb a) l[k] d
   ·rw [Aq,Bool.false_or]
   ·rw [Ap,Bool.true_or]
  ·rw [if_neg (by omega),aH (by omega)];rfl
theorem zkw (h:AOk a)(e:RsOk a rs){l:List Cf}{d:Cf}(f:l.length<=1000000)(b:∀ c∈l,CR a c)(g:CR a d):Q5 N0 rs l d=some (covd (Bb a) l d):=by
 unfold Q5;have:=zby h e f b g N0 0 (aA _) (by unfold N0;omega);simpa using this
theorem zqt (j:AOk a)(g:RsOk a rs)(hi:i+1<S.length)(e:i<=1000)(n:S[i+1].length<=1000000)(b:∀ c∈S[i+1],CR a c)(v:Int)(x:List Cf×List Ma)(o:x.1.length<=1000000)(f:∀ c∈x.1,CR a c)(K:Option Bool):∀ (m k:Nat),k<=x.1.length->x.1.length<m+k->Ox N0 ⟨S⟩ l a (rs,(i:Int)) v x K m (k:Int)=if (x.1.drop k).all (covd (Bb a) S[i+1])=true then K else some false
 |0,k,h1,q=>by omega
 |m+1,k,h1,q=>by
  unfold Ox;rw [aC,A5];by_cases h:k<x.1.length
  ·rw [if_pos (by omega),Ae i (by omega),A9 hi,A9 h,zkw j g n b (f _ (aD h)),A3,Ae k (by omega),zqt j g hi e n b v x o f K m (k+1) (by omega) (by omega),aJ h,Aj,all_cons];cases covd (Bb a) S[i+1] x.1[k]
   ·rw [Aq,Bool.false_and];rfl
   ·rw [Ap,aS]
  grind
theorem y6x (h:GS a l)(hi:i<=12){c:Cf}(b:Gd57 a l i c)(e:Ev):Mg N0 a l c e=some (cfN a l [c] e,maN a l [c] e):=by
 rw [y5d h.cx (by have:=h.edges;omega) (by omega:i+20<=1000) b.cb e];unfold cfN maN;simp
theorem zqu (h:GS a l)(o:RsOk a rs)(f:G9 a l S)(hi:i<l.length)(b:i<S.length)(K:Option Bool):∀ (m k:Nat),k<=S[i].length->S[i].length<m+k->Oy N0 ⟨S⟩ l a (rs,(i:Int)) K m (k:Int)=if (S[i].drop k).all (okC a l S i l[i])=true then K else some false
 |0,k,h1,z=>by omega
 |m+1,k,h1,z=>by
  have r:=h.len;have q:=f.ln;have B:=f.few i b;have e:i+1<S.length:=by omega
  unfold Oy;simp only [aC,A5];rw [A9 b];by_cases j:k<S[i].length
  ·have n:=f.gd i b _ (aD j);have A:=zy6 a l S[i][k] l[i];have w:=h.edges;have g:∀ d∈cfN a l [S[i][k]] l[i],CR a d:=fun d x=>(Gd57.next h hi (fun c y=>by simp_all) d x).cr h (by omega)
   have s:S.getD (i+1) []=S[i+1]:=by rw [aG,aK e];rfl
   rw [if_pos (by omega),A9 b,A9 j,A9 hi,y6x h (by omega) n,A3,aJ j,all_cons,Ae k (by omega),zqu h o f hi b K m (k+1) (by omega) (by omega)];unfold okC;rw [s];by_cases hm:maN a l [S[i][k]] l[i]=[]
   ·rw [if_neg (by simp [hm])];refine (zqt h.ok o e (by omega) (by have:=f.few (i+1) e;omega) (fun c n=>(f.gd (i+1) e c n).cr h (by omega)) (k:Int) (cfN a l [S[i][k]] l[i],maN a l [S[i][k]] l[i]) (by simp only;omega) g _ N0 0 (aA _) (by simp only;unfold N0;omega)).trans ?_;grind
   simp_all
  grind
theorem zqv (h:GS a l)(e:RsOk a rs)(c:G9 a l S):∀ (m i:Nat),i<=l.length->l.length<m+i->Oz N0 ⟨S⟩ l a (some true) m (rs,(i:Int))=some (vOk a l S (l.drop i) i)
 |0,i,h1,k=>by omega
 |m+1,i,h1,k=>by
  have g:=h.len;have f:=c.ln;unfold Oz;simp only [aC,A5];by_cases hi:i<l.length
  ·have b:i<S.length:=by omega
   have n:=c.few i b;have j:S.getD i []=S[i]:=by rw [aG,aK b];rfl
   rw [if_pos (by omega),aJ hi,Zg,j];refine (zqu h e c hi b _ N0 0 (aA _) (by unfold N0;omega)).trans ?_;rw [aT,Ae i (by omega),zqv h e c m (i+1) (by omega) (by omega)];grind
  ·rw [if_neg (by omega),aH (by omega)];rfl
theorem zzb (h:GS a l)(B:Fy N0 a l=some 0)(r:FewR S):Ll N0 a l ⟨S⟩=E4 N0 a l ⟨S⟩:=by
 obtain ⟨f,j,C⟩:=y1c h r;have m:=y50 h r;unfold Ll;rw [B,A3,Aj,A5,if_pos rfl,m,j,A3,Aj,A5];by_cases g:f=0
 ·have ok:=C g;rw [g] at j;rw [if_pos g,zr1 h ok j];obtain ⟨rs,x,o,n⟩:=y2h h;have e:RsOk a rs:=⟨o,n⟩;have w:=ok.ln;have b:0<S.length:=by omega
  have z:S.getD 0 []=S[0]:=by rw [aG,aK b];rfl
  have D:Qv N0=some cf0:=rfl;have s:∀ (k:List Cf->Option Bool),idx S 0 k=k S[0]:=fun k=>A9 (i:=0) b k
  have y:Tw N0 a l ⟨S⟩=some (covd (Bb a) S[0] cf0 && vOk a l S l 0):=by
   unfold Tw;have:=ok.few 0 b;rw [x,A3,s,D,A3,zkw h.ok e (by omega) (fun c A=>(ok.gd 0 b c A).cr h (by omega)) ((gd0 h).cr h (by omega)),A3,Aj];have q:=zqv h e ok N0 0 (aA _) (by have:=h.len;unfold N0;omega);rw [aT] at q;cases covd (Bb a) S[0] cf0
   ·rw [Aq];rfl
   ·rw [Ap,aS];exact q
  rw [y,A3,z,Aj];cases (covd (Bb a) S[0] cf0 && vOk a l S l 0)
  ·rw [Aq];rfl
  ·rw [Ap];rfl
 ·rw [if_neg g];unfold E4;rw [zdo h,A3,Aj,A5,if_pos rfl,j,A3,Aj,A5,if_neg g]
theorem zf6 (a:Aut)(j:WfA a)(l:List Ev)(r:Bq):Xb N0 a l r=some true:=by
 have c:R1 N0=some true:=zu3;obtain ⟨b,n,_⟩:=zov a j l;obtain ⟨S⟩:=r;obtain ⟨y,x,w⟩:=y32 S;have skip:Fi N0 ⟨S⟩ l a true=some true:=by
  unfold Fi;rw [Ap,c,A3]
 unfold Xb;rw [Ax,Am,n,A3,Aj];cases b with
 |false=>rw [Aq];exact skip
 |true =>
  rw [Ap,x,A3];cases y with
  |false=>exact skip
  |true =>
   have k:=w rfl;have key:∀ v:Int,E4 N0 a l ⟨S⟩=some v->Ll N0 a l ⟨S⟩=some v->Fi N0 ⟨S⟩ l a (!true)=some true:=fun v h1 o=>by
    unfold Fi;rw [Bool.not_true,Aq,Ax,Am,h1,o,A3,A3,A5,if_pos rfl,c,A3];unfold Jw;rfl
   obtain ⟨e,s,m,q⟩:=y6k j n;by_cases f:e=0
   ·have h:=q f;obtain ⟨v,g,_⟩:=zzh h k;exact key v g ((zzb h (by rw [m,f]) k).trans g)
   ·refine key e ?_ ?_
    ·unfold E4;rw [s,A3,Aj,A5,if_neg f]
    ·unfold Ll;rw [m,A3,Aj,A5,if_neg f]
open Go.ChangeShapes Go.WideShapes Go.ChangeAt
theorem zu4 {w:World}{S:Nat->Prop}{a b c:AV}{x y z:Value}(h:Rep w S G0 a x)(g:Rep w S G0 b y)(f:Rep w S G0 c z):Args w S [a,b,c] #[x,y,z] :=
 ⟨rfl,fun i hi=>by
  have e:i<3:=hi;rcases i with _|_|_|i
  ·exact h
  ·exact g
  ·exact f
  ·omega⟩
theorem y05:ownKnob Tryz.prog.godebug=none:=by kernel_rfl
theorem y0c:laidOutB aB=true:=by kernel_rfl
section
variable {H:Type} {enc:TypeId×Value->H}
theorem zar {W W':World}{sp':Nat->Bool}(m:Below W.heap.size W W')(c:List TypeId):∀ (vs:List Value) (ds:List (DataW H)) (p:List MemPlace),c.all (fun t=>Tryz.prog.readableRec t && decide (t<Tryz.prog.types.size))=true ->
  DataW.TrodAll enc aB W 0 (fun _=>true) true c vs ds p->(∀ x∈p,x.block<W.heap.size)->(∀ x∈p,sp' x.block=true)->DataW.TrodAll enc aB W' 0 sp' true c vs ds p:=by
 induction c with
 |nil =>
  intro vs ds p _ h _ _
  match vs,ds,h with
  |[],[],h=>exact h
  |_::_,_,h=>exact h.elim
  |[],_::_,h=>exact h.elim
 |cons t c ih =>
  intro vs ds p k h f j
  match vs,ds,h with
  |v::vs,d::ds,h =>
   obtain ⟨q,r,h1,n,rfl⟩:=h;have e:Tryz.prog.readableRec t=true/\t<Tryz.prog.types.size:=by
    have:=aR.mp k t (mem_cons_self ..);rw [aL,decide_eq_true_eq] at this;exact this
   have g:c.all (fun t=>Tryz.prog.readableRec t && decide (t<Tryz.prog.types.size))=true :=
    aR.mpr fun x b=>aR.mp k x (mem_cons_of_mem _ b)
   exact ⟨q,r,WideElems.Trod_stays y0c e.1 e.2 h1 (fun x b=>m.same (f x (mem_append_left _ b))) (fun x b=>j x (mem_append_left _ b)),
    ih vs ds r g n (fun x b=>f x (aQ _ b)) (fun x b=>j x (aQ _ b)),rfl⟩
  |[],_,h=>exact h.elim
  |_::_,[],h=>exact h.elim
theorem zo8 {W:World}{b:Nat}{sp:Nat->Bool}(c:List TypeId):∀ (vs:List Value) (ds:List (DataW H)) (p:List MemPlace),DataW.TrodAll enc aB W b sp true c vs ds p->ds.length=c.length:=by
 induction c with
 |nil =>
  intro vs ds p h
  match vs,ds,h with
  |[],[],h=>rfl
  |_::_,_,h=>exact h.elim
  |[],_::_,h=>exact h.elim
 |cons t c e =>
  intro vs ds p h
  match vs,ds,h with
  |v::vs,d::ds,h =>
   obtain ⟨q,r,h1,f,rfl⟩:=h;simp only [length_cons];rw [e vs ds r f]
  |[],_,h=>exact h.elim
  |_::_,[],h=>exact h.elim
end
open Go.Joins Go.Deep
section
variable {H:Type} {enc:TypeId×Value->H} {W:World} {base:Nat} {v:Value} {d:DataW H} {p:List MemPlace}
variable {u:Value}
theorem zkg {a:Addr}(h:W.cell? a=some u):a.spot=none/\a.block<W.heap.size:=by
 unfold World.cell? at h;split at h
 ·rename_i c _ _ f;split at h
  ·cases h
  ·rename_i g;refine ⟨by cases j:a.spot with|none=>rfl|some _=>simp [j] at g,?_⟩;rcases Nat.lt_or_ge a.block W.heap.size with b|e
   ·exact b
   ·rw [Array.getElem?_eq_none e] at f;cases f
 ·cases h
theorem Jr (b off k:Nat):(⟨b,off,none⟩:Addr).add k=⟨b,off+k,none⟩:=by
 by_cases h:k=0<;>simp [Addr.add,h]
theorem zm5 {j:Type}{f:α->Option j}:∀ {l:List α} {r:List j},l.mapM f=some r->r.length=l.length/\∀ k (c:k<l.length) (m:k<r.length),f l[k]=some r[k]
 |[],r,h=>by simp at h;subst h;exact ⟨rfl,fun k c=>absurd c (by simp)⟩
 |a::l,r,h=>by
  simp only [mapM_cons] at h;cases g:f a with
  |none=>rw [g] at h;simp at h
  |some b =>
   rw [g] at h;cases e:l.mapM f with
   |none=>rw [e] at h;simp at h
   |some s =>
    rw [e] at h;simp at h;subst h;obtain ⟨o,n⟩:=zm5 e;refine ⟨by simp [o],fun k c m=>?_⟩;cases k with
    |zero=>exact g
    |succ k=>exact n k (by simpa using c) (by simpa using m)
theorem Z7 {a:Addr}{n:Nat}{cs:List Value}(h:W.cells? 0 a n=some cs):cs.length=n/\∀ j,j<n->W.cell? (a.add j)=some (cs.getD j undef):=by
 unfold World.cells? at h;rw [if_pos (aA _)] at h;obtain ⟨c,b⟩:=zm5 h;have e:cs.length=n:=by simpa using c
 refine ⟨e,fun j f=>?_⟩;have:=b j (by simpa using f) (by omega);rw [getElem_range] at this;rw [this];simp [aK (show j<cs.length by omega)]
set_option maxRecDepth 100000
def Su (W:World)(a:α->AV)(m:α)(cs:List Value):Prop:=cs.length=(a m).cells.length/\∀ j (b:j<(a m).cells.length),Rep W (fun _=>True) G0 ((a m).cells[j]) (cs.getD j undef)/\(cs.getD j undef).oneCell'=true
variable {sz:Nat}
theorem zur {a:α->AV}{t e:TypeId}(N:Tryz.prog.underlying t=some (.slice e))(z:Tryz.prog.cellsOf e=sz)(O:0<sz)(M:Inhabited α)(g:∀ m,(a m).cells.length=sz)
  (each:∀ (n:Nat) (cs:List Value) (x:DataW H×List MemPlace),cs.length=sz->DataW.trod enc aB W 0 (fun _=>true) true n e cs=some x->∃ m:α,Su W a m cs)
  {n:Nat}  {x:DataW H×List MemPlace} (h:DataW.trod enc aB W 0 (fun _=>true) true n t [u]=some x):∃ l:List α,Rep W (fun _=>True) G0 (.sl sz (l.map a)) u:=by
 rcases open_slice N h with ⟨h1,_⟩|⟨A,len,Q,m,L,D,Pl,h1,_,C,hm,y,_,J⟩
 ·simp only [List.cons.injEq,and_true] at h1;subst h1;exact ⟨[],.sl none 0 (fun _ _=>.bool true) (by simp) (fun k c=>absurd c (by simp)) (fun h=>absurd h (by simp)) (fun k c=>absurd c (by simp)) (fun _ _=>rfl)⟩
 ·simp only [List.cons.injEq,and_true] at h1;subst h1;simp only [if_true] at y;subst y;rw [z] at J;have every:∀ i,∃ q:α×List Value,i<len->W.cells? 0 (A.add (i*sz)) sz=some q.2/\Su W a q.1 q.2:=fun i=>by
   by_cases hi:i<len
   ·obtain ⟨cs,K,R⟩:=J i (by omega);obtain ⟨k,c⟩:=each L cs _ (Z7 K).1 R;exact ⟨(k,cs),fun _=>⟨K,c⟩⟩
   ·exact ⟨(M.default,[]),fun h=>absurd h hi⟩
  obtain ⟨f,F⟩:=Classical.axiomOfChoice every;have T:((range len).map fun i=>(f i).1).length=len:=by simp
  refine ⟨(range len).map fun i=>(f i).1,?_⟩;have e:len=(((range len).map fun i=>(f i).1).map a).length:=by simp
  have r:∀ k j,k<len->j<sz->W.cell? ((A.add (k*sz)).add j)=some ((f k).2.getD j undef):=fun k j c w=>(Z7 (F k c).1).2 j w
  have:Rep W (fun _=>True) G0 (.sl sz (((range len).map fun i=>(f i).1).map a)) (.slice (some A) (((range len).map fun i=>(f i).1).map a).length m):=by
   refine .sl (some A) m (fun k j=>if k<len/\j<sz then (f k).2.getD j undef else .bool true) (by simpa using C) (fun k c=>?_) (fun G=>?_) (fun k c j w=>?_) (fun k j=>?_)
   ·simp only [getElem_map];exact g _
   ·have B:0<len:=by simpa using G
    have I:=zkg (r 0 0 B O);obtain ⟨b,off,sp⟩:=A;have P:sp=none:=by simpa [Addr.add] using I.1
    subst P;rw [Jr,Jr] at I;refine ⟨b,off,rfl,trivial,I.2,fun k j c w=>?_⟩;have o:k<len:=by simpa using c
    have:=r k j o w;rw [Jr,Jr] at this;rw [if_pos ⟨o,w⟩,<-this];congr 2;omega
   ·have o:k<len:=by simpa using c
    simp only [getElem_map,getElem_range] at w ⊢;have E:j<sz:=by rw [g] at w;exact w
    rw [if_pos ⟨o,E⟩];exact ((F k o).2.2 j w).1
   ·by_cases s:k<len/\j<sz
    ·rw [if_pos s];exact ((F k s.1).2.2 j (by rw [g];exact s.2)).2
    ·rw [if_neg s];rfl
  rw [<-e] at this;exact this
theorem Rep.one_sl {xs:List AV}(h:Rep W (fun _=>True) G0 (.sl sz xs) u):u.oneCell'=true:=by
 cases h;rfl
theorem zt4 {a:α->AV}{t e:TypeId}(f:Tryz.prog.underlying t=some (.slice e))(c:Tryz.prog.cellsOf e=sz)(o:0<sz)(g:Inhabited α)(b:∀ m,(a m).cells.length=sz)
  (each:∀ (n:Nat) (cs:List Value) (x:DataW H×List MemPlace),cs.length=sz->DataW.trod enc aB W 0 (fun _=>true) true n e cs=some x->∃ m:α,Su W a m cs)
  (j:Value.okWide aB W .any base t v) (h:DataW.Trod enc aB W 0 (fun _=>true) true t v d p):∃ l:List α,Rep W (fun _=>True) G0 (.sl sz (l.map a)) v:=by
 obtain ⟨A,len,q,rfl⟩:=okWide_slice f j;obtain ⟨fuel,k⟩:=h;exact zur f c o g b each k
theorem y29 {a:α->AV}{m:α}{cs:Array Value}{xs:List AV}(hm:a m=.agg xs)(h:Su W a m cs.toList):Rep W (fun _=>True) G0 (a m) (.agg cs):=by
 obtain ⟨h1,b⟩:=h;rw [hm] at h1 b ⊢;have c:cs.size=xs.length:=by simpa [AV.cells] using h1
 have g:∀ i,cs.toList.getD i undef=cs.getD i undef:=fun i=>by
  by_cases hi:i<cs.size
  ·simp [Array.getD,hi]
  ·simp [Array.getD,hi]
 refine .agg _ c (fun i hi=>?_) (fun i hi=>?_)
 ·have:=(b i hi).1;rw [g] at this;exact this
 ·have:=(b i (show i<xs.length by rw [<-c];exact hi)).2;rw [g] at this;exact this
end
section
variable {H:Type} {enc:TypeId×Value->H} {W:World} {base:Nat} {v:Value} {d:DataW H} {p:List MemPlace}
set_option maxRecDepth 100000
def Br (W:World)(xs:List AV)(cs:List Value):Prop:=cs.length=xs.length/\∀ j (b:j<xs.length),Rep W (fun _=>True) G0 (xs[j]) (cs.getD j undef)/\(cs.getD j undef).oneCell'=true
theorem Br.one {a:AV}{c:Value}(h:Rep W (fun _=>True) G0 a c)(h1:c.oneCell'=true):Br W [a] [c]:=by
 refine ⟨rfl,fun j e=>?_⟩;have b:j<1:=e;rcases j with _|j
 ·exact ⟨h,h1⟩
 ·omega
variable {cs:List Value}
theorem Br.append {xs ys:List AV}{ds:List Value}(h1:Br W xs cs)(c:Br W ys ds):Br W (xs++ys) (cs++ds):=by
 refine ⟨by rw [aO,aO,h1.1,c.1],fun j f=>?_⟩;by_cases h:j<xs.length
 ·have:=h1.2 j h;rw [getElem_append_left h];have e:(cs++ds).getD j undef=cs.getD j undef:=by
   simp only [aG];rw [getElem?_append_left (by rw [h1.1];exact h)]
  rw [e];exact this
 ·have b:j-xs.length<ys.length:=by rw [aO] at f;omega
  have:=c.2 (j-xs.length) b;rw [getElem_append_right (by omega)];have e:(cs++ds).getD j undef=ds.getD (j-xs.length) undef:=by
   simp only [aG];rw [getElem?_append_right (by rw [h1.1];omega),h1.1]
  rw [e];exact this
theorem Br.cut {o s:Nat}{xs ys:List AV}(h1:Br W xs ((cs.drop o).take s))(b:Br W ys (cs.drop (o+s))):Br W (xs++ys) (cs.drop o):=by
 have:cs.drop o=(cs.drop o).take s++cs.drop (o+s):=by rw [<-drop_drop,aM]
 rw [this];exact h1.append b
theorem Br.done {o:Nat}(h:cs.length<=o):Br W [] (cs.drop o):=by
 rw [aH h];exact ⟨rfl,fun j b=>absurd b (by simp)⟩
theorem Bn {o s:Nat}(h:o+s<=cs.length):((cs.drop o).take s).length=s:=by rw [length_take,length_drop];omega
abbrev FO (enc:TypeId×Value->H)(W:World)(t:TypeId)(sz:Nat){α:Type}(e:α->List AV):Prop:=∀ (n:Nat) (cs:List Value) (x:DataW H×List MemPlace),cs.length=sz->DataW.trod enc aB W 0 (fun _=>true) true n t cs=some x->∃ m:α,Br W (e m) cs
variable {t:TypeId}
theorem C8 (b:Tryz.prog.underlying t=some (.int .i64)):FO enc W t 1 (fun z:Int=>[aI z]):=fun n cs x c h=>by
 obtain ⟨z,rfl,_⟩:=DataW.trod_int (k:=.i64) b h;exact ⟨z,.one (.int _ _) rfl⟩
theorem y65 (b:Tryz.prog.underlying t=some .string):FO enc W t 1 (fun z:ByteArray=>[AV.str z]):=fun n cs x c h=>by
 obtain ⟨z,rfl,_⟩:=DataW.trod_string b h;exact ⟨z,.one (.str _) rfl⟩
variable {sz:Nat}
theorem Xa {e:TypeId}{a:α->AV}(k:Tryz.prog.underlying t=some (.slice e))(g:Tryz.prog.cellsOf e=sz)(o:0<sz)(j:Inhabited α)(b:∀ m,(a m).cells.length=sz)
  (each:FO enc W e sz (fun m:α=>(a m).cells)):FO enc W t 1 (fun l:List α=>[AV.sl sz (l.map a)]):=fun n cs x f h=>by
 match cs,f with
 |[c],_ =>
  obtain ⟨l,f⟩:=zur (a:=a) k g o j b each h;exact ⟨l,.one f f.one_sl⟩
theorem y3w (b:Tryz.prog.underlying t=some (.int .i64)):FO enc W t 1 (fun z:Int=>(aI z).cells):=C8 b
theorem zu5 {fs:Array Field}{a:α->AV}(g:Tryz.prog.underlying t=some (.struct fs))(b:Tryz.prog.cellsOf t=sz)(k:∀ m,∃ xs,a m=.agg xs)(each:FO enc W t sz (fun m:α=>(a m).cells))
  (f:Value.okWide aB W .any base t v) (h:DataW.Trod enc aB W 0 (fun _=>true) true t v d p):∃ m:α,Rep W (fun _=>True) G0 (a m) v:=by
 obtain ⟨cs,rfl,c⟩:=okWide_struct g f;obtain ⟨fuel,j⟩:=h;obtain ⟨m,hm⟩:=each fuel cs.toList _ (by simpa using c.trans b) j;obtain ⟨xs,e⟩:=k m;exact ⟨m,y29 e hm⟩
theorem zye {a:α->AV}{e:TypeId}(j:Tryz.prog.underlying t=some (.slice e))(c:Tryz.prog.cellsOf e=sz)(k:0<sz)(f:Inhabited α)(b:∀ m,(a m).cells.length=sz)
  (each:FO enc W e sz (fun m:α=>(a m).cells)) (g:Value.okWide aB W .any base t v) (h:DataW.Trod enc aB W 0 (fun _=>true) true t v d p):∃ l:List α,Rep W (fun _=>True) G0 (.sl sz (l.map a)) v :=
 zt4 j c k f b each g h
end
section
variable {H:Type} {enc:TypeId×Value->H} {W:World} {base:Nat} {v:Value} {d:DataW H} {p:List MemPlace}
set_option maxRecDepth 100000
def z0z (x:Bq):AV:=.agg [.sl 1 (List.map (fun q=>AV.sl 3 (List.map A4 q)) x.fSets)]
theorem y66:FO enc W 74 3 (fun m:Bg=>(Be m).cells):=fun n cs x E h=>by
 obtain ⟨xs,b,_,_,_,c,e⟩:=DataW.trod_struct Tryz.underlying74 h
 match xs,c with
 |[q,o,k],_ =>
  have D:Tryz.prog.cellsOf 3=1:=by kernel_rfl
  have j:DataW.trod enc aB W 0 (fun _=>true) true b 3 ((cs.drop 0).take (Tryz.prog.cellsOf 3))=some q:=e 0 _ rfl;rw [D] at j;obtain ⟨y,A⟩:=(C8 aF) b _ _ (Bn (by omega)) j;have C:Tryz.prog.cellsOf 3=1:=by kernel_rfl
  have g:DataW.trod enc aB W 0 (fun _=>true) true b 3 ((cs.drop 1).take (Tryz.prog.cellsOf 3))=some o:=e 1 _ rfl;rw [C] at g;obtain ⟨w,h1⟩:=(C8 aF) b _ _ (Bn (by omega)) g;have B:Tryz.prog.cellsOf 3=1:=by kernel_rfl
  have f:DataW.trod enc aB W 0 (fun _=>true) true b 3 ((cs.drop 2).take (Tryz.prog.cellsOf 3))=some k:=e 2 _ rfl;rw [B] at f;obtain ⟨s,z⟩:=(C8 aF) b _ _ (Bn (by omega)) f;have r:=(show Br W _ (cs.drop 0) from (.cut A (.cut h1 (.cut z (Br.done (by omega))))));exact ⟨⟨y,w,s⟩,r⟩
theorem ztu:FO enc W 76 4 (fun m:B5=>(Ar m).cells):=fun n cs x z h=>by
 obtain ⟨xs,c,_,_,_,b,e⟩:=DataW.trod_struct Tryz.underlying76 h
 match xs,b with
 |[k,j],_ =>
  have y:Tryz.prog.cellsOf 3=1:=by kernel_rfl
  have g:DataW.trod enc aB W 0 (fun _=>true) true c 3 ((cs.drop 0).take (Tryz.prog.cellsOf 3))=some k:=e 0 _ rfl;rw [y] at g;obtain ⟨q,s⟩:=(C8 aF) c _ _ (Bn (by omega)) g;have w:Tryz.prog.cellsOf 74=3:=by kernel_rfl
  have f:DataW.trod enc aB W 0 (fun _=>true) true c 74 ((cs.drop 1).take (Tryz.prog.cellsOf 74))=some j:=e 1 _ rfl;rw [w] at f;obtain ⟨o,h1⟩:=(y66) c _ _ (Bn (by omega)) f;have r:=(show Br W _ (cs.drop 0) from (.cut s (.cut h1 (Br.done (by omega)))));exact ⟨⟨q,o⟩,r⟩
theorem y0i:FO enc W 102 2 (fun m:Ak=>(Ad m).cells):=fun n cs x z h=>by
 obtain ⟨xs,c,_,_,_,b,e⟩:=DataW.trod_struct Tryz.underlying102 h
 match xs,b with
 |[k,j],_ =>
  have y:Tryz.prog.cellsOf 3=1:=by kernel_rfl
  have g:DataW.trod enc aB W 0 (fun _=>true) true c 3 ((cs.drop 0).take (Tryz.prog.cellsOf 3))=some k:=e 0 _ rfl;rw [y] at g;obtain ⟨q,s⟩:=(C8 aF) c _ _ (Bn (by omega)) g;have w:Tryz.prog.cellsOf 3=1:=by kernel_rfl
  have f:DataW.trod enc aB W 0 (fun _=>true) true c 3 ((cs.drop 1).take (Tryz.prog.cellsOf 3))=some j:=e 1 _ rfl;rw [w] at f;obtain ⟨o,h1⟩:=(C8 aF) c _ _ (Bn (by omega)) f;have r:=(show Br W _ (cs.drop 0) from (.cut s (.cut h1 (Br.done (by omega)))));exact ⟨⟨q,o⟩,r⟩
theorem zxc:FO enc W 60 3 (fun m:A0=>(A4 m).cells):=fun n cs x E h=>by
 obtain ⟨xs,b,_,_,_,c,e⟩:=DataW.trod_struct Tryz.underlying60 h
 match xs,c with
 |[q,o,k],_ =>
  have D:Tryz.prog.cellsOf 3=1:=by kernel_rfl
  have j:DataW.trod enc aB W 0 (fun _=>true) true b 3 ((cs.drop 0).take (Tryz.prog.cellsOf 3))=some q:=e 0 _ rfl;rw [D] at j;obtain ⟨y,A⟩:=(C8 aF) b _ _ (Bn (by omega)) j;have C:Tryz.prog.cellsOf 42=1:=by kernel_rfl
  have g:DataW.trod enc aB W 0 (fun _=>true) true b 42 ((cs.drop 1).take (Tryz.prog.cellsOf 42))=some o:=e 1 _ rfl;rw [C] at g;obtain ⟨w,h1⟩:=(Xa (sz:=4) (a:=Ar) Tryz.underlying42 (by kernel_rfl) (by omega) inferInstance (fun _=>rfl) (ztu)) b _ _ (Bn (by omega)) g;have B:Tryz.prog.cellsOf 58=1:=by kernel_rfl
  have f:DataW.trod enc aB W 0 (fun _=>true) true b 58 ((cs.drop 2).take (Tryz.prog.cellsOf 58))=some k:=e 2 _ rfl;rw [B] at f;obtain ⟨s,z⟩:=(Xa (sz:=2) (a:=Ad) Tryz.underlying58 (by kernel_rfl) (by omega) inferInstance (fun _=>rfl) (y0i)) b _ _ (Bn (by omega)) f;have r:=(show Br W _ (cs.drop 0) from (.cut A (.cut h1 (.cut z (Br.done (by omega))))));exact ⟨⟨y,w,s⟩,r⟩
theorem zif:FO enc W 31 1 (fun m:Bq=>(z0z m).cells):=fun n cs x q h=>by
 obtain ⟨xs,c,_,_,_,b,j⟩:=DataW.trod_struct aP h
 match xs,b with
 |[f],_ =>
  have o:Tryz.prog.cellsOf 29=1:=by kernel_rfl
  have e:DataW.trod enc aB W 0 (fun _=>true) true c 29 ((cs.drop 0).take (Tryz.prog.cellsOf 29))=some f:=j 0 _ rfl;rw [o] at e;obtain ⟨g,k⟩:=(Xa (sz:=1) (a:=(fun l:List A0=>AV.sl 3 (l.map A4))) Tryz.underlying29 (by kernel_rfl) (by omega) inferInstance (fun _=>rfl) (Xa (sz:=3) (a:=A4) Tryz.underlying57 (by kernel_rfl) (by omega) inferInstance (fun _=>rfl) (zxc))) c _ _ (Bn (by omega)) e;have r:=(show Br W _ (cs.drop 0) from (.cut k (Br.done (by omega))));exact ⟨⟨g⟩,r⟩
theorem zfz (b:Value.okWide aB W .any base 31 v)(h:DataW.Trod enc aB W 0 (fun _=>true) true 31 v d p):∃ m:Bq,Rep W (fun _=>True) G0 (z0z m) v :=
 zu5 aP (by kernel_rfl) (fun _=>⟨_,rfl⟩) zif b h
end
theorem zeu (a:Ah)(b:WfA a)(l:List A8)(q:Bq):Con E0 true 4 [Bl a,.sl 5 (l.map A7),z0z q] (.bool true):=z0f (zf6 a b l q)
end Go.Proofs.YtidhlpjgifoneaaGreat
