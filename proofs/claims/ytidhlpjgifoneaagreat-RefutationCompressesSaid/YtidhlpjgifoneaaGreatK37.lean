/- Layer 57, plainly. -/
import Derived.Test.YtidhlpjgifoneaaGreatK35
import Derived.Test.YtidhlpjgifoneaaGreatK36
set_option linter.unusedVariables false
set_option linter.unusedSimpArgs false
set_option maxRecDepth 100000
namespace Go.Proofs.YtidhlpjgifoneaaGreat
open Go.RowKit List
open List renaming drop_eq_getElem_cons->aA,getElem_mem->aC,length_map->aD,getD_eq_getElem?_getD->aF,take_append_drop->aG,getElem?_eq_getElem->aH,eq_nil_iff_forall_not_mem->aJ,length_take->aK,drop_eq_nil_of_le->aL
open Nat renaming zero_le->aB,le_trans->aM
open Option.some renaming inj->aE
structure GS (a:Aut) (l:List Ev):Prop where
 wf:WfA a
 few:FewA a
 ok:AOk a
 chk:J3 N0 a=some 0
 acheck:N5 N0 a=some 0
 str:Dy l=0
 len:l.length<=12
 sm:(wiP 150 a l l [cf0] []).2.2=true
variable {a:Aut}{l:List Ev}
theorem GS.so (h:GS a l):y5p l:=zd9 h.str
theorem GS.cx (h:GS a l):CxA a l:=⟨h.wf,h.ok,fun x b=>by have:=h.few.2 x b;omega,by have:=h.len;omega⟩
theorem GS.pre (h:GS a l)(i:Nat):Dy (l.take i)=0:=by
 have:=h.str;rw [<-aG i l] at this;exact zua this
theorem GS.cxp (h:GS a l)(i:Nat):CxA a (l.take i):=⟨h.wf,h.ok,fun x b=>by have:=h.few.2 x b;omega,by have:=h.len;rw [aK];omega⟩
theorem GS.edges (h:GS a l):a.fEdges.length<=100:=by have:=h.few.1;omega
theorem GS.begin (h:GS a l)(i:Nat):∃ mp,HM (l.take i) mp/\G8 N0 a (l.take i)=some (some ⟨a,mp⟩,0):=by
 have f:=h.len;obtain ⟨q,b,d⟩:=zq9 a h.wf (l.take i) (by rw [aK];omega);have e:q=0:=by
  unfold Hd at b;rw [h.chk,A3,Ah,A5,if_pos rfl,zxc N0 _ (by grind) (by rw [aK];omega),A3,h.pre i] at b;exact (aE b).symm
 simp_all
theorem zn4 (h:GS a l)(i:Nat):F7 N0 a (l.take i)=some 0:=by
 have b:=h.len;unfold F7;rw [h.acheck,A3,Ah,A5,if_pos rfl,y4h N0 _ (by grind) (by decide) (by rw [aK];omega),A3,h.pre i]
structure Gd57 (a:Aut) (l:List Ev) (i:Nat) (c:Cf):Prop where
 cb:CB l a (i+20) c
 ci:CIv a (l.drop i) c
variable {c:Cf}
theorem CB.mono {k m:Nat}(h:CB l a k c)(b:k<=m):CB l a m c:=⟨h.st,h.bd,h.ss,aM h.lb b,aM h.ls (Nat.mul_le_mul_left _ b)⟩
theorem gd0 (h:GS a l):Gd57 a l 0 cf0:=⟨(cb0 h.ok).mono (aB _),by simp,fun b e=>by simp at e,fun s d=>by simp at d⟩
variable {i:Nat}
theorem Gd57.held (h:GS a l)(d:Gd57 a l i c):CB (l.take i) a (i+20) c:=by
 refine ⟨d.cb.st,fun b f=>⟨(d.cb.bd b f).1,?_⟩,d.cb.ss,d.cb.lb,d.cb.ls⟩;have h1:=(d.cb.bd b f).2;rw [<-aG i l,zyc] at h1;cases g:lkH (l.take i) b.fRef with
 |some e=>rfl
 |none =>
  rw [g] at h1;obtain ⟨e,j⟩:=Option.isSome_iff_exists.1 h1;obtain ⟨m,k⟩:=zj3 (by simpa using j);have:=d.ci.bef b f e k;rw [m] at this;have:=Ju.lt_ne this;exact absurd rfl this
theorem Gd57.ok (h:GS a l)(hi:i<=12)(b:Gd57 a l i c):cfOk c=true:=b.cb.sz.ok (by omega)
theorem Gd57.cs (h:GS a l)(hi:i<=12)(b:Gd57 a l i c):CS (Az a) c:=by
 have h1:=b.cb.st;have e:=b.cb.lb;have d:=b.cb.ls;exact ⟨by rw [(O6 a).1.len];exact h1,by omega,by omega⟩
theorem y5g (hi:i<l.length):l.drop i=l[i]::l.drop (i+1):=aA hi
theorem y0c (h:Str Co l)(i:Nat):Str Co (l.drop i):=Pairwise.sublist (drop_sublist i l) h
theorem Gd57.next (h:GS a l)(hi:i<l.length){cs:List Cf}(j:∀ c∈cs,Gd57 a l i c):∀ d∈cfN a l cs l[i],Gd57 a l (i+1) d:=fun d g=>by
 have so:=h.so;have e:=y5g hi;refine ⟨(y3h h.cx so.st (fun c b=>(j c b).cb) (aC hi) d g).mono (by omega),?_⟩;have f:=y0c so.st i;rw [e] at f;refine y7u h.ok f (so.pl _ (aC hi)) (fun c b=>?_) d g;have:=(j c b).ci;rw [e] at this;exact this
theorem Gd57.lk (h:GS a l){cs:List Cf}(f:∀ c∈cs,Gd57 a l i c):∀ c∈cs,∀ b∈c.fBindings,lkH (l.take i) b.fRef=lkH l b.fRef :=
 y90 h.so.st (fun y e=>mem_of_mem_take e) (fun c d=>(f c d).held h)
theorem y8t (h:GS a l)(hi:i<l.length):∀ y∈l.take i,Bo y=Bo l[i]->y=l[i]:=fun y e d=>by
 have b:=h.so.st;obtain ⟨j,f,rfl⟩:=mem_iff_getElem.1 e;rw [aK] at f;rw [getElem_take] at d;have:=pairwise_iff_getElem.1 b j i (by omega) hi (by omega);exact absurd d (Ju.lt_ne this)
variable {mp:List (Rf×Ev)}
theorem y75 (h:GS a l)(hi:i<l.length)(hm:HM (l.take i) mp){cs:List Cf}(e:∀ c∈cs,Gd57 a l i c)(g:cs.length<=5000):J4 N0 ⟨a,mp⟩ cs l[i]=some (cfN a l cs l[i],maN a l cs l[i]):=by
 have f:=h.len;have b:=zxs (r:=⟨a,mp⟩) (h.cxp i) hm (by omega:i+20<=1000) (y8t h hi) h.edges cs (fun c d=>(e c d).held h) g;rw [zzg (Gd57.lk h e),zy9 (Gd57.lk h e)] at b;exact b
theorem zuu (h:GS a l)(hi:i<=l.length)(hm:HM (l.take i) mp)(b:Gd57 a l i c):Ei N0 ⟨a,mp⟩ c=some 0 :=
 y11 (r:=⟨a,mp⟩) hm (by have:=h.len;omega:i+20<=1000) (b.held h) b.ci
theorem y19 (h:GS a l)(hi:i<l.length){cs:List Cf}(d:∀ c∈cs,Gd57 a l i c)(f:cs.length<=5000):Nv N0 cs l[i]=some 0:=by
 have e:=h.len;refine y6s (a:=a) (r:=l.drop (i+1)) (h.so.pl _ (aC hi)) cs (by omega) (fun c b=>by have:=(d c b).cb.lb;omega) (fun c b=>?_);have:=(d c b).ci;simp_all
theorem y0w (h:GS a l)(hi:i<l.length)(e:Gd57 a l i c):X1 N0 a (l.take i) c l[i]=some (cfN a l [c] l[i],maN a l [c] l[i],0):=by
 obtain ⟨mp,hm,f⟩:=h.begin i;have b:∀ d∈[c],Gd57 a l i d:=fun d g=>by simp_all
 unfold X1 bndP;rw [f];simp only [Ah,A5];rw [if_pos trivial,zuu h (by omega) hm e,A3,if_pos rfl,y19 h hi b (by simp),A3,if_pos rfl,y75 h hi hm b (by simp),A3]
theorem zsn (a b:List Sta)(f:a.length=b.length)(g:a.length<=1000000):∀ (m k:Nat),k<=a.length->a.length<m+k->R8 N0 b a (some true) m (k:Int)=some (decide (a.drop k=b.drop k))
 |0,k,h1,j=>by omega
 |m+1,k,h1,j=>by
  unfold R8;have e:∀ x y:Sta,(decide (x.fScope=y.fScope) && (decide (x.fTime=y.fTime) && true))=decide (x=y):=fun x y=>by
   obtain ⟨v,t⟩:=x;obtain ⟨v',n⟩:=y;simp
  simp only [aD,A5,e];by_cases h:k<a.length
  ·have d:k<b.length:=by omega
   rw [if_pos (by omega),A9 h,A9 d,aA h,aA d,Ad k (by omega)];have o:=zsn a b f g m (k+1) (by omega) (by omega);rw [Ah,A5];by_cases e:a[k]=b[k]
   ·have q:(a[k]::a.drop (k+1)=b[k]::b.drop (k+1)) ↔ a.drop (k+1)=b.drop (k+1):=⟨fun h=>(List.cons.inj h).2,fun h=>by rw [e,h]⟩;simp_all
   ·have q:¬(a[k]::a.drop (k+1)=b[k]::b.drop (k+1)):=fun h=>e (List.cons.inj h).1
    rw [if_neg e,decide_eq_false q]
  grind
theorem y8o (a b:List Sta)(d:a.length<=1000000):Ve N0 a b=some (decide (a=b)):=by
 unfold Ve;simp only [aD,Ah,A5];by_cases h:a.length=b.length
 ·rw [if_pos (by omega)];have:=zsn a b h d N0 0 (aB _) (by unfold N0;omega);simpa using this
 ·rw [if_neg (by omega)];have:a≠b:=fun e=>h (by rw [e])
  simp [this]
theorem zil (c d:Cf)(h1:c.fBindings.length<=1000000)(e:c.fStarts.length<=1000000):W0 N0 c d=some (decide (c=d)):=by
 unfold W0;simp only [Ay,Al,J8,A5,y6y _ _ h1,y8o _ _ e,A3];obtain ⟨s,b,t⟩:=c;obtain ⟨g,h,f⟩:=d;simp only [A0.mk.injEq];grind
theorem zxo (c d:Cf)(h1:c.fBindings.length<=1000000)(g:c.fStarts.length<=1000000)(n:d.fBindings.length<=1000000)(m:d.fStarts.length<=1000000):∃ v:Int,V1 N0 c d=some v/\(v<0 ↔ Bn c d<0):=by
 have oc:cfOk c=true:=(Dn c).2 ⟨by omega,by omega⟩;have od:cfOk d=true:=(Dn d).2 ⟨by omega,by omega⟩;unfold V1;rw [y6i N0 (by decide) [c,d] (fun x o=>by
  grind) (by simp),A3]
 have key:∀ s:List Cf,Str Bn s->(∀ x,x∈s ↔ x∈[c,d])->setL Bn [c,d]=s:=fun s h hm=>(zw7 cfCmp_to (fun x=>(hm x).symm)).trans (zpc cfCmp_to h)
 rcases cfCmp_to.one c d with j|heq|k
 ·have e:=key [c,d] (by simp [Str];omega) (fun x=>Iff.rfl);rw [e];simp only [length_cons,length_nil,Ay,Al,H0,A5,Ah,aD,Ao,Ap,Xc,zil c c h1 g,A3];refine ⟨-1,?_,by omega⟩;simp [Ao,Ap,Xc,zil c c h1 g,A3]
 ·have f:=(cfCmp_to.zero c d).1 heq;subst f;have e:=key [c] (by simp [Str]) (fun x=>by simp);rw [e];refine ⟨0,?_,by omega⟩;simp [Ay,Al,H0,A5,Ao,Ap]
 ·have p:=cfCmp_to.neg c d;have e:=key [d,c] (by simp [Str];omega) (fun x=>by simp [or_comm]);rw [e];have b:¬d=c:=fun q=>by
   simp_all
  refine ⟨1,?_,by omega⟩;simp [Ay,Al,H0,A5,Ao,Ap,Xc,zil d c n m,A3,b]
theorem zn3 {α:Type}{n:Nat}{l:List α}(h:l.length<=1000000000):Cc n l=some l:=by unfold Cc;exact if_pos h
theorem zsf {l:List Cf}(d:l.length<=1000000)(b:∀ c∈l,c.fBindings.length<=1000000/\c.fStarts.length<=1000000)(K:List Cf->Option (List Cf)):∀ (m k:Nat) (out:List Cf),k<=l.length->l.length<m+k->out.length<=k->S2 N0 l K m ((k:Int),out)=K (out++l.drop k)
 |0,k,out,h1,e,_=>by omega
 |m+1,k,out,h1,e,j=>by
  unfold S2;simp only [aD,A5];by_cases h:k<l.length
  ·have g:=b _ (aC h);have f:(⟨l[k].fState,l[k].fBindings,l[k].fStarts⟩:Cf)=l[k]:=rfl;rw [if_pos (by omega),A9 h,zn3 (by omega),A3,zn3 (by omega),A3,aA h,Ad k (by omega),f,Bu (by simp;omega) (by omega),zsf d b K m (k+1) _ (by omega) (by omega) (by simp;omega)];simp
  grind
theorem y8k {l:List Cf}(d:l.length<=1000000)(b:∀ c∈l,c.fBindings.length<=1000000/\c.fStarts.length<=1000000):N7 N0 l=some l:=by
 unfold N7;have:=zsf d b (fun y=>some y) N0 0 [] (aB _) (by unfold N0;omega) (by simp);simpa using this
def covd (R:List Mp)(l:List Cf)(d:Cf):Bool:=l.any (fun c=>cov R c d)
variable {R:List Mp}
theorem zxi {l:List Cf}{d:Cf}(g:l.length<=1000000)(b:∀ c∈l,CS R c)(e:CS R d):∀ (m k:Nat),k<=l.length->l.length<m+k->∃ y:Int,Ki N0 d R l (some (-1)) m (k:Int)=some y/\(0<=y ↔ covd R (l.drop k) d=true)
 |0,k,h1,j=>by omega
 |m+1,k,h1,j=>by
  unfold Ki Y8;simp only [aD,A5];by_cases h:k<l.length
  ·obtain ⟨y,n,f⟩:=zxi g b e m (k+1) (by omega) (by omega);rw [if_pos (by omega),A9 h,y4e (b _ (aC h)) e,A3,A3,aA h,Ad k (by omega)];unfold covd at f ⊢;rw [any_cons];cases o:cov R l[k] d
   ·rw [Ap];simp_all
   ·rw [Ao];exact ⟨k,rfl,by simp⟩
  ·rw [if_neg (by omega),aL (by omega)];exact ⟨-1,rfl,by simp [covd]⟩
theorem zn0 {l:List Cf}{d:Cf}(g:l.length<=1000000)(f:∀ c∈l,CS R c)(h:CS R d):Rp N0 l d R=some (covd R l d):=by
 obtain ⟨y,b,j⟩:=zxi g f h N0 0 (aB _) (by unfold N0;omega);unfold Rp Xx Y6;have e:Ki N0 d R l (some (-1)) N0 0=some y:=by simpa using b
 rw [e,A3,A3];simp_all
variable {S:List (List Cf)}
theorem zxh {l:List Cf}(hi:i+1<S.length)(d:i<=1000)(f:S[i+1].length<=1000000)(b:∀ c∈S[i+1],CS R c)(g:l.length<=1000000)(e:∀ c∈l,CS R c):∀ (m k:Nat),k<=l.length->l.length<m+k->∃ y:Int,Kh N0 (i:Int) ⟨S⟩ R l (some (-1)) m (k:Int)=some y/\(y<0 ↔ (l.drop k).all (covd R S[i+1])=true)
 |0,k,h1,j=>by omega
 |m+1,k,h1,j=>by
  unfold Kh Yj;simp only [aD,A5];by_cases h:k<l.length
  ·obtain ⟨y,o,n⟩:=zxh hi d f b g e m (k+1) (by omega) (by omega);rw [if_pos (by omega),A9 h,Ad i (by omega),A9 hi,zn0 f b (e _ (aC h)),A3,A3,aA h,Ad k (by omega),all_cons];cases p:covd R S[i+1] l[k]
   ·rw [show (!false)=true from rfl,Ao];exact ⟨k,rfl,by simp⟩
   ·rw [show (!true)=false from rfl,Ap];simp_all
  ·rw [if_neg (by omega),aL (by omega)];exact ⟨-1,rfl,by simp⟩
theorem zxn {l:List Cf}(hi:i+1<S.length)(b:i<=1000)(j:S[i+1].length<=1000000)(d:∀ c∈S[i+1],CS R c)(h:l.length<=1000000)(g:∀ c∈l,CS R c):Tw N0 l R ⟨S⟩ (i:Int)=some (!l.all (covd R S[i+1])):=by
 obtain ⟨y,f,k⟩:=zxh hi b j d h g N0 0 (aB _) (by unfold N0;omega);unfold Tw Y5;have e:Kh N0 (i:Int) ⟨S⟩ R l (some (-1)) N0 0=some y:=by simpa using f
 rw [e,A3];grind
theorem zze (a:Aut)(held:List Ev)(c:Cf)(e:Ev):(cfN a held [c] e).length<=a.fEdges.length+1:=by
 unfold cfN;refine aM (zcq _) ?_;have:=T4 (a:=a) (held:=held) (c:=c) (e:=e);have b:(cfO (outP a held c e)).length<=(outP a held c e).length:=by unfold cfO;exact length_filter_le _ _
 simp;omega
noncomputable def okC (a:Aut)(l:List Ev)(S:List (List Cf))(i:Nat)(e:Ev)(c:Cf):Bool:=(maN a l [c] e).isEmpty && (cfN a l [c] e).all (covd (Az a) (S.getD (i+1) []))
noncomputable def vOk (a:Aut)(l:List Ev)(S:List (List Cf)):List Ev->Nat->Bool |[],_=>true |e::r,i=>(S.getD i []).all (okC a l S i e) && vOk a l S r (i+1)
theorem Zw (a:Aut)(l:List Ev)(S:List (List Cf))(e:Ev)(r:List Ev)(i:Nat):vOk a l S (e::r) i=((S.getD i []).all (okC a l S i e) && vOk a l S r (i+1)):=rfl
structure Dc (a:Aut) (l:List Ev) (S:List (List Cf)):Prop where
 ln:S.length=l.length+1
 few:∀ i (hi:i<S.length),S[i].length<=4096
 gd:∀ i (hi:i<S.length),∀ c∈S[i],Gd57 a l i c
theorem Dc.cs (h:GS a l)(b:Dc a l S)(hi:i<S.length):∀ c∈S[i],CS (Az a) c:=fun c d=>(b.gd i hi c d).cs h (by have:=b.ln;have:=h.len;omega)
theorem zs6 (h:GS a l)(f:Dc a l S)(hi:i<l.length)(e:i<S.length)(K:Option Int):∀ (m k:Nat),k<=S[i].length->S[i].length<m+k->H6 N0 ⟨S⟩ l a (Az a,(i:Int)) l[i] S[i] K m (k:Int)=if (S[i].drop k).all (okC a l S i l[i])=true then K else some 18
 |0,k,h1,v=>by omega
 |m+1,k,h1,v=>by
  have w:=f.few i e;have s:=h.len;have r:=f.ln;unfold H6;simp only [aD,A5,Ah,Ay,Al,J1];by_cases p:k<S[i].length
  ·have u:=f.gd i e _ (aC p);have n:∀ (K:List Ev->Option Int),sls l 0 (i:Int) K=K (l.take i):=fun K=>by
    have:=Eb (l:=l) (a:=0) (b:=i) (aB _) (by omega) K;simpa using this
   rw [if_pos (by omega),A9 p,n,y0w h hi u,A3,if_pos rfl,aA p,all_cons,Ad k (by omega)];have q:=zs6 h f hi e K m (k+1) (by omega) (by omega);have t:S.getD (i+1) []=S[i+1]'(by omega):=by rw [aF,aH (by omega)];rfl
   have o:=Gd57.next h hi (cs:=[S[i][k]]) (fun c g=>by simp_all);by_cases hm:maN a l [S[i][k]] l[i]=[]
   ·have j:=zxn (R:=Az a) (S:=S) (l:=cfN a l [S[i][k]] l[i]) (i:=i) (by omega) (by omega) (by have:=f.few (i+1) (by omega);omega) (f.cs h (by omega)) (by have:=zze a l S[i][k] l[i];have:=h.edges;omega) (fun c g=>(o c g).cs h (by omega));have d:okC a l S i l[i] S[i][k]=(cfN a l [S[i][k]] l[i]).all (covd (Az a) (S[i+1]'(by omega))):=by unfold okC;rw [hm,t];simp
    rw [hm,if_neg (by simp),j,A3,d];cases x:(cfN a l [S[i][k]] l[i]).all (covd (Az a) (S[i+1]'(by omega)))
    ·rw [show (!false)=true from rfl,Ao];simp
    ·rw [show (!true)=false from rfl,Ap,Bool.true_and];exact q
   ·have d:okC a l S i l[i] S[i][k]=false:=by
     unfold okC;rw [isEmpty_eq_false_iff.2 hm];rfl
    have:0<(maN a l [S[i][k]] l[i]).length:=length_pos_iff.2 hm;rw [if_pos (by simp_all),Ao,d,if_neg (by simp)]
  grind
theorem zs7 (h:GS a l)(d:Dc a l S):∀ (m i:Nat),i<=l.length->l.length<m+i->J0 N0 ⟨S⟩ l a (some 0) m (Az a,(i:Int))=if vOk a l S (l.drop i) i=true then some 0 else some 18
 |0,i,h1,k=>by omega
 |m+1,i,h1,k=>by
  have g:=h.len;have f:=d.ln;unfold J0;simp only [aD,A5];by_cases hi:i<l.length
  ·have b:i<S.length:=by omega
   have n:=d.few i b;rw [if_pos (by omega),A9 hi,A9 b,Ad i (by omega)];have e:=zs6 h d hi b (J0 N0 ⟨S⟩ l a (some 0) m (Az a,((i+1:Nat):Int))) N0 0 (aB _) (by unfold N0;omega);refine (e).trans ?_;have j:S.getD i []=S[i]:=by rw [aF,aH b];rfl
   rw [zs7 h d m (i+1) (by omega) (by omega),drop_zero,aA hi];rw [Zw,j];grind
  ·rw [if_neg (by omega),aL (by omega)];rfl
theorem cs0 (h:GS a l):CS (Az a) cf0:=(gd0 h).cs h (by omega)
theorem zs5 (h:GS a l)(d:Dc a l S)(r:Je N0 a l ⟨S⟩=some 0):Dj N0 a l ⟨S⟩=some (if (covd (Az a) (S.getD 0 []) cf0 && vOk a l S l 0)=true then 0 else 18):=by
 have o:=h.len;have m:=d.ln;have e:0<S.length:=by omega
 have p:S.getD 0 []=S[0]:=by rw [aF,aH e];rfl
 have b:=zn4 h l.length;rw [take_length] at b;have n:Hb N0 a=some (Az a):=by
  unfold Hb;rw [zh2 h.wf h.ok (fun x k=>(h.wf.ed x k).lc),A3]
 have g:∀ (K:List Cf->Option Int),idx S 0 K=K S[0]:=fun K=>by
  have:=A9 (l:=S) (i:=0) e K;simpa using this
 have j:=zs7 h d N0 0 (aB _) (by unfold N0;omega);have f:J0 N0 ⟨S⟩ l a (some 0) N0 (Az a,0)=if vOk a l S l 0=true then some 0 else some 18:=by simpa using j
 unfold Dj;have q:=d.few 0 e;have s:Jm N0=some cf0:=rfl;rw [b,A3,Ah,A5,if_pos rfl,r,A3,Ah,A5,if_pos rfl,n,Cd,ztg,ztg,Al,g,s,A3,zn0 (by omega) (d.cs h e) (cs0 h),A3,f,p];cases covd (Az a) S[0] cf0
 ·rw [show (!false)=true from rfl,Ao];simp
 ·rw [show (!true)=false from rfl,Ap];cases vOk a l S l 0<;>simp
theorem y2w {α:Type}[DecidableEq α]:∀ {l m:List α},l.Nodup->(∀ x∈l,x∈m)->l.length<=m.length
 |[],m,_,_=>by simp
 |x::r,m,h1,g=>by
  have d:=g x (by simp);have f:=nodup_cons.1 h1;have h:=y2w (m:=m.erase x) f.2 (fun y b=>(mem_erase_of_ne (fun e=>f.1 (by rw [<-e];exact b))).2 (g y (mem_cons_of_mem _ b)));rw [length_erase_of_mem d] at h;have:0<m.length:=length_pos_of_mem d;simp only [length_cons];omega
theorem y61 {α:Type}{c:α->α->Int}(h:TO c){l:List α}(d:Str c l):l.Nodup:=by
 refine Pairwise.imp (fun {x y} b e=>?_) d;subst e;have:=(h.zero x x).2 rfl;omega
theorem y2g {held:List Ev}:∀ (p r:List Ev) (cs:List Cf) (b:List Ma),(wiP 150 a held (p++r) cs b).2.2=true->(wiP 150 a held p cs b).2.2=true
 |[],r,cs,b,h=>rfl
 |f::p,r,cs,b,h=>by
  rw [cons_append] at h;unfold wiP at h ⊢;split at h
  ·cases h
  ·rename_i q;rw [if_neg q];exact y2g p r _ _ h
noncomputable def xsI (a:Aut)(l:List Ev)(i:Nat):List Cf:=(wiP 150 a l (l.take i) [cf0] []).1
noncomputable def msI (a:Aut)(l:List Ev)(i:Nat):List Ma:=(wiP 150 a l (l.take i) [cf0] []).2.1
theorem y5v (h:GS a l)(i:Nat):wiP 150 a l (l.take i) [cf0] []=(xsI a l i,msI a l i,true):=by
 have h1:=h.sm;rw [<-aG i l] at h1;have b:=y2g (l.take i) (l.drop i) [cf0] [] (by rw [aG] at h1 ⊢;exact h1);unfold xsI msI;rw [<-b]
theorem zid (a:Aut)(l:List Ev):xsI a l 0=[cf0]/\msI a l 0=[]:=by unfold xsI msI;rw [take_zero];exact ⟨rfl,rfl⟩
theorem Xg (h:GS a l)(hi:i<l.length):xsI a l (i+1)=cfN a l (xsI a l i) l[i]/\msI a l (i+1)=puts Bi (msI a l i) (maN a l (xsI a l i) l[i])/\(xsI a l (i+1)).length<=150/\(msI a l (i+1)).length<=150:=by
 have e:l.take (i+1)=l.take i++[l[i]]:=by rw [take_append_getElem]
 have h1:=y5v h (i+1);rw [e] at h1;obtain ⟨x,m,n,f,j,d⟩:=zrl (l.take i) [cf0] [] (by rw [h1]);rw [y5v h i] at n;injection n with w1 g
 injection g with g _
 rw [<-w1] at f j d;rw [<-g] at f d;rw [h1] at f;injection f with k b
 injection b with b _
 rw [<-k] at j;rw [<-b] at d;exact ⟨k,b,j,d⟩
theorem y5w (h:GS a l)(hi:i<=l.length):(xsI a l i).length<=150:=by
 cases i with
 |zero=>rw [(zid a l).1];simp
 |succ i=>exact (Xg h (by omega)).2.2.1
theorem y3l (h:GS a l):∀ {i:Nat},i<=l.length->∀ c∈xsI a l i,Gd57 a l i c
 |0,hi=>fun c b=>by
  rw [(zid a l).1] at b;rw [mem_singleton.1 b];exact gd0 h
 |i+1,hi=>fun c b=>by
  rw [(Xg h (by omega)).1] at b;exact Gd57.next h (by omega) (y3l h (by omega)) c b
theorem y2c {held:List Ev}{cs xs:List Cf}(h:∀ c∈cs,c∈xs)(e:Ev):∀ d∈cfN a held cs e,d∈cfN a held xs e:=fun d b=>by
 unfold cfN at b ⊢;rw [Dm cfCmp_to,mem_flatMap] at b ⊢;obtain ⟨c,h1,f⟩:=b;exact ⟨c,h c h1,f⟩
structure Sb (a:Aut) (l:List Ev) (i:Nat) (cs:List Cf):Prop where
 sub:∀ c∈cs,c∈xsI a l i
 str:Str Bn cs
theorem Sb.len (h:GS a l)(hi:i<=l.length){cs:List Cf}(b:Sb a l i cs):cs.length<=150 :=
 aM (y2w (y61 cfCmp_to b.str) b.sub) (y5w h hi)
theorem Sb.gd (h:GS a l)(hi:i<=l.length){cs:List Cf}(d:Sb a l i cs):∀ c∈cs,Gd57 a l i c:=fun c b=>y3l h hi c (d.sub c b)
theorem Sb.next (h:GS a l)(hi:i<l.length){cs:List Cf}(b:Sb a l i cs):Sb a l (i+1) (cfN a l cs l[i]) :=
 ⟨by rw [(Xg h hi).1];exact y2c b.sub _,X9 cfCmp_to _⟩
theorem zvd:Rk 2000000000=some true:=by kernel_rfl
theorem GS.of (f:WfA a)(h1:Md N0 a l=some true)(y:F5 N0 a l=some 0):GS a l:=by
 obtain ⟨b,n,B⟩:=zpy a f l;rw [h1] at n;obtain rfl:=aE n;obtain ⟨w,v,q,h,u⟩:=B rfl;have m:q=0:=by
  have e:Hd N0 a l=F5 N0 a l:=by unfold Hd F5;rfl
  rw [e,y] at h;exact (aE h).symm
 obtain ⟨p,k,s⟩:=zq9 a f l (by omega);rw [h] at k;obtain rfl:=aE k;rcases s with ⟨z,_⟩|⟨_,x,t,d,g,_⟩
 ·exact absurd m z
 obtain ⟨r,j,o,C⟩:=ziu N0 (by decide) a f;rw [d] at j;obtain rfl:=aE j;exact ⟨f,w,x,d,o,g,v,u m⟩
def NM (a:Aut)(l:List Ev)(i:Nat):Prop:=∀ j,i<=j->(b:j<l.length)->maN a l (xsI a l j) l[j]=[]
theorem zwr {s m:List Ma}:puts Bi s m=[] ↔ s=[]/\m=[]:=by
 constructor
 ·intro h;have k:=fun z=>Xa El z m s
  rw [h] at k;exact ⟨aJ.2 (fun z b=>by simp_all),aJ.2 (fun z b=>by have:=(k z).2 (Or.inr b);simp at this)⟩
 ·rintro ⟨rfl,rfl⟩;rfl
theorem y78 (h:GS a l):msI a l l.length=[] ↔ NM a l 0:=by
 have key:∀ i,i<=l.length->(msI a l i=[] ↔ ∀ j,(b:j<l.length)->j<i->maN a l (xsI a l j) l[j]=[]):=by
  intro i
  induction i with
  |zero=>intro _;rw [(zid a l).2];simp
  |succ i e =>
   intro hi;rw [(Xg h (by omega)).2.1,zwr,e (by omega)];grind
 rw [key l.length (Nat.le_refl _)];exact ⟨fun d j _ b=>d j b b,fun d j b _=>d j (aB _) b⟩
noncomputable def tS (f:List Cf->List Cf)(a:Aut)(l:List Ev):List Ev->List Cf->List (List Cf) |[],_=>[] |e::r,cs=>f (cfN a l cs e)::tS f a l r (f (cfN a l cs e))
structure Ch (a:Aut) (l:List Ev) (f:List Cf->List Cf):Prop where
 sub:∀ i cs,Sb a l i cs->Sb a l i (f cs)
 cov:∀ cs,∀ c∈cs,covd (Az a) (f cs) c=true
theorem y4d (h:GS a l):Hb N0 a=some (Az a):=by
 unfold Hb;rw [zh2 h.wf h.ok (fun x b=>(h.wf.ed x b).lc),A3]
theorem zaj (h:GS a l):F7 N0 a l=some 0:=by
 have:=zn4 h l.length;simp_all
variable {A:List (List Cf)}
theorem zm5 {B:List (List Cf)}(j:A.length=B.length)(n:A.length<=1000000)(d:∀ x∈A,x.length<=1000000/\∀ c∈x,cfOk c=true)(b:∀ x∈B,∀ c∈x,cfOk c=true):∀ (m k:Nat),k<=A.length->A.length<m+k->Ql N0 ⟨B⟩ ⟨A⟩ (some true) m (k:Int)=some (decide (A.drop k=B.drop k))
 |0,k,h1,o=>by omega
 |m+1,k,h1,o=>by
  unfold Ql;simp only [aD,A5];by_cases h:k<A.length
  ·have f:k<B.length:=by omega
   have g:=d _ (aC h);rw [if_pos (by omega),A9 h,A9 f,y41 N0 (by decide) _ _ g.2 (b _ (aC f)) g.1,A3,aA h,aA f,Ad k (by omega)];have p:=zm5 j n d b m (k+1) (by omega) (by omega);rw [Ah,A5];by_cases e:A[k]=B[k]
   ·have q:(A[k]::A.drop (k+1)=B[k]::B.drop (k+1)) ↔ A.drop (k+1)=B.drop (k+1):=⟨fun h=>(List.cons.inj h).2,fun h=>by rw [e,h]⟩;simp_all
   ·have q:¬(A[k]::A.drop (k+1)=B[k]::B.drop (k+1)):=fun h=>e (List.cons.inj h).1
    rw [if_neg e,decide_eq_false q]
  grind
theorem y2p (e:A.length<=1000000)(b:∀ x∈A,x.length<=1000000/\∀ c∈x,cfOk c=true):Mn N0 ⟨A⟩ ⟨A⟩=some true:=by
 unfold Mn;simp only [aD,Ah,A5];rw [if_pos trivial];have:=zm5 (A:=A) (B:=A) rfl e b (fun x d=>(b x d).2) N0 0 (aB _) (by unfold N0;omega);simpa using this
theorem zw5 (h:GS a l)(b:Dc a l S):∀ x∈S,x.length<=1000000/\∀ c∈x,cfOk c=true:=fun x d=>by
 obtain ⟨i,hi,rfl⟩:=mem_iff_getElem.1 d;have h1:=b.few i hi;have g:=b.ln;have f:=h.len;exact ⟨by omega,fun c e=>(b.gd i hi c e).ok h (by omega)⟩
end Go.Proofs.YtidhlpjgifoneaaGreat
