/- Layer 25, plainly. -/
import Derived.Test.YtidhlpjgifoneaaGreatK34
set_option linter.unusedVariables false
set_option linter.unusedSimpArgs false
namespace Go.Proofs.YtidhlpjgifoneaaGreat
open Go.RowKit List
open List renaming length_map->aA,getElem_mem->aC,drop_eq_nil_of_le->aD,mem_singleton->aE,length_append->aF,flatMap_cons->aG,append_assoc->aH,mem_cons_of_mem->aJ,mem_append->aK,drop_zero->aL,mem_flatMap->aM,length_filter_le->aN,length_singleton->aO,filterMap_cons->aP,pairwise_iff_getElem->aQ,mem_filterMap->aR,filter_cons->aS,mem_filter->aT,nil_append->aU,foldl_cons->aV
open Nat renaming zero_le->aB
def cfO (l:List Cf):List Cf:=l.filter (fun d=>!decide (d.fState<0))
def maO (l:List Cf):List Ma:=(l.filter (fun d=>decide (d.fState<0))).map (fun d=>⟨d.fBindings⟩)
def De (a:Aut)(s:Int):List Ed:=a.fEdges.filter (fun x=>decide (x.fFrom=s))
def skP (a:Aut)(held:List Ev)(c:Cf)(e:Ev):Bool:=!(Xd a c.fState).any (vio (enH held c.fBindings) e)
def outP (a:Aut)(held:List Ev)(c:Cf)(e:Ev):List Cf:=(if skP a held c e=true then [c] else [])++(De a c.fState).filterMap (fun x=>coP a held c x e)
theorem zkk (d:Cf)(l:List Cf):cfO (d::l)=if d.fState<0 then cfO l else d::cfO l:=by
 unfold cfO;grind
theorem zj0 (d:Cf)(l:List Cf):maO (d::l)=if d.fState<0 then (⟨d.fBindings⟩:Ma)::maO l else maO l:=by
 unfold maO;grind
theorem zkl (l m:List Cf):cfO (l++m)=cfO l++cfO m:=by unfold cfO;rw [filter_append]
theorem zj1 (l m:List Cf):maO (l++m)=maO l++maO m:=by unfold maO;simp_all
theorem Td (l:List Cf):(cfO l).length<=l.length:=aN _ _
theorem Ob (l:List Cf):(maO l).length<=l.length:=by unfold maO;grind
variable {l:List Cf}{d:Cf}
theorem zrc (h:d∈cfO l):d∈l/\0<=d.fState:=by
 have:=aT.1 h;exact ⟨this.1,by simpa using this.2⟩
theorem y4s {m:Ma}(h:m∈maO l):∃ d∈l,m=⟨d.fBindings⟩:=by
 obtain ⟨d,b,rfl⟩:=mem_map.1 h;grind
def Sz (k:Nat)(c:Cf):Prop:=c.fBindings.length<=k/\c.fStarts.length<=100*k
variable {k:Nat}{c:Cf}
theorem Sz.ok (b:k<=1001)(h:Sz k c):cfOk c=true:=(Dn c).2 ⟨by have:=h.1;omega,by have:=h.2;omega⟩
variable {a:Aut}{held:List Ev}{x:Ed}{e:Ev}
theorem zd5 (h:coP a held c x e=some d):d=⟨x.fTo,bdN c x e,(stN c x e).filter (ncl x)⟩:=by
 unfold coP at h;simp_all
theorem zz6 (g:CxA a held)(f:CB held a k c)(b:x∈a.fEdges)(h:coP a held c x e=some d):Sz (k+1) d:=by
 rw [zd5 h];have h1:=f.lb;have h2:=f.ls;have m:=g.lo x b;have j:=ziw e.fTime x.fOpens c.fStarts;have i:=aN (ncl x) (stN c x e);refine ⟨by unfold bdN;simp;omega,?_⟩;unfold stN at i ⊢;simp only;omega
theorem CB.sz (h:CB held a k c):Sz k c:=⟨h.lb,h.ls⟩
theorem X6 {s:Int}(h:x∈De a s):x∈a.fEdges/\x.fFrom=s:=by
 have:=aT.1 h;exact ⟨this.1,by simpa using this.2⟩
theorem zxt (g:CxA a held)(f:CB held a k c)(h:d∈outP a held c e):Sz (k+1) d:=by
 unfold outP at h;rcases aK.1 h with h|h
 ·split at h
  ·rw [aE.1 h];have:=f.sz;exact ⟨by have:=this.1;omega,by have:=this.2;omega⟩
  ·simp at h
 ·obtain ⟨x,b,i⟩:=aR.1 h;exact zz6 g f (X6 b).1 i
theorem T4:(outP a held c e).length<=a.fEdges.length+1:=by
 unfold outP De;grind
theorem zqf (b:k<=1001)(h:Sz k c):maOk ⟨c.fBindings⟩=true:=(Ek _).2 (by have:=h.1;simp;omega)
theorem zgw (e:Ev)(env:List (List Ev))(i:EvS env)(b:Stt)(j:b.fGuards.length<=1100000)(f:∀ g∈b.fGuards,WfE g.fCond):∀ (m k:Nat),k<=b.fGuards.length->b.fGuards.length<m+k->Py N0 e ⟨env⟩ b (some true) m (k:Int)=some (!(b.fGuards.drop k).any (vio env e))
 |0,k,h1,h2=>by omega
 |m+1,k,h1,h2=>by
  unfold Py;simp only [aA,A5];by_cases h:k<b.fGuards.length
  ·rw [if_pos (by omega),A9 h,B2 _ k h,any_cons,zwz i (f _ (aC h)),A3,Ad k (by omega),zgw e env i b j f m (k+1) (by omega) (by omega)];cases vio env e b.fGuards[k]<;>simp [Ao,Ap]
  grind
theorem y0z (f:CxA a held)(o:k<=1000)(g:CB held a k c)(e:Ev):Uo N0 a held c e=some (skP a held c e):=by
 have j:=g.lb;have i:=f.lh;obtain ⟨b,n,h,m⟩:=X5 g.st;unfold Uo skP;rw [zx5 N0 (by decide) held (by omega) c (by omega),A3,zcz g.st.1 n,m];have:=zgw e (enH held c.fBindings) (Jv (by omega)) b (f.wf.st b h).1 (f.wf.st b h).2 N0 0 (aB _) (by have:=(f.wf.st b h).1;unfold N0;omega);simp_all
theorem ze8 (s:Int)(a:Aut)(b:a.fEdges.length<=1000000)(K:List Ed->Option (List Ed)):∀ (m k:Nat) (out:List Ed),k<=a.fEdges.length->a.fEdges.length<m+k->out.length<=k->Lh N0 s a K m ((k:Int),out)=K (out++(a.fEdges.drop k).filter (fun x=>decide (x.fFrom=s)))
 |0,k,out,h1,h2,i=>by omega
 |m+1,k,out,h1,h2,i=>by
  unfold Lh;simp only [aA,A5];by_cases h:k<a.fEdges.length
  ·have g:=ze8 s a b K m (k+1) (out++[a.fEdges[k]]) (by omega) (by omega) (by simp_all);have f:=ze8 s a b K m (k+1) out (by omega) (by omega) (by omega);rw [if_pos (by omega),Al,A9 h,A9 h,B2 _ k h,Ad k (by omega),Bu (by grind) (by omega),g,f,aS];grind
  ·rw [if_neg (by omega),aD (by omega)];simp
theorem y2t (s:Int)(a:Aut)(b:a.fEdges.length<=1000000):J7 N0 a s=some (De a s):=by
 have:=ze8 s a b (fun y=>some y) N0 0 [] (aB _) (by unfold N0;omega) (by simp);unfold J7 De;exact this
variable {kk:Nat}
theorem zcv (p:CxA a held)(u:kk<=1000)(q:CB held a kk c)(e:Ev)(es:List Ed)(g:∀ x∈es,x∈a.fEdges)(w:es.length<=100000)(K:List Cf->List Ma->Option (List Cf×List Ma)) :
  ∀ (m k:Nat) (cs:List Cf) (f:List Ma),k<=es.length->es.length<m+k->cs.length<=k+1->f.length<=k->(∀ d∈cs,cfOk d=true)->(∀ d∈f,maOk d=true)->Iu N0 e c held a es K m (cs,f,(k:Int))=K (puts Bn cs (cfO ((es.drop k).filterMap (fun x=>coP a held c x e)))) (puts Bi f (maO ((es.drop k).filterMap (fun x=>coP a held c x e))))
 |0,k,cs,f,h1,h2,A,z,t,s=>by omega
 |m+1,k,cs,f,h1,h2,A,z,t,s=>by
  unfold Iu;simp only [aA,A5,Ah];by_cases h:k<es.length
  ·have o:=g _ (aC h);have i:=zut p u q o e;rw [if_pos (by omega),A9 h,B2 _ k h,aP,Ad k (by omega)];cases j:coP a held c es[k] e with
   |none =>
    have b:Lg N0 a held c es[k] e=some (cf0,false):=i.trans (by rw [j];rfl);rw [b,A3];simp only [Ap];exact zcv p u q e es g w K m (k+1) cs f (by omega) (by omega) (by omega) (by omega) t s
   |some d =>
    have v:=zz6 p q o j;have b:Lg N0 a held c es[k] e=some (d,true):=i.trans (by rw [j];rfl);rw [b,A3];simp only [Ao,Al];rw [zkk,zj0];by_cases n:d.fState<0
    ·rw [if_pos n,if_pos n,if_pos n,zxd N0 (by decide) _ (zqf (by omega) v) f s (by omega),A3,Jn];have y:=O3 Bi (⟨d.fBindings⟩:Ma) f;exact zcv p u q e es g w K m (k+1) cs _ (by omega) (by omega) (by omega) (by omega) t (zj8 (zqf (by omega) v) s)
    ·rw [if_neg n,if_neg n,if_neg n,zxe N0 (by decide) _ (v.ok (by omega)) cs t (by omega),A3,Jn];have y:=O3 Bn d cs;exact zcv p u q e es g w K m (k+1) _ f (by omega) (by omega) (by omega) (by omega) (ztc (v.ok (by omega)) t) s
  ·rw [if_neg (by omega),aD (by omega)];rfl
theorem y6o (m:CxA a held)(o:a.fEdges.length<=100000)(n:kk<=1000)(g:CB held a kk c)(e:Ev):Mt N0 a held c e=some (setL Bn (cfO (outP a held c e)),setL Bi (maO (outP a held c e))):=by
 have i:(De a c.fState).length<=100000:=by
  have:=aN (fun x:Ed=>decide (x.fFrom=c.fState)) a.fEdges;unfold De;omega
 have j:=fun cs q p=>zcv m n g e (De a c.fState) (fun x h=>(X6 h).1) i (fun k1_1_0y0 k1_1_0y1=>some (k1_1_0y0,k1_1_0y1)) N0 0 cs [] (aB _) (by unfold N0;omega) q (by simp) p (by simp)
 have f:¬c.fState<0:=by have:=g.st;omega
 unfold Mt;simp only [Ay,Al,Ly];rw [y0z m n g e,A3,y2t _ a (by omega)];simp only [A3];unfold outP setL;rw [zkl,zj1,Zd,Zd];cases skP a held c e with
 |true =>
  have b:=zxe N0 (by decide) c (g.sz.ok (by omega)) [] (by simp) (by simp);rw [Ao,b,A3];have:=j (insU Bn c []) (by simp [insU]) (by simp [insU];exact g.sz.ok (by omega));refine this.trans ?_;have t:puts Bn [] (cfO (if true=true then [c] else []))=insU Bn c []:=by
   rw [if_pos rfl,zkk,if_neg f];rfl
  have s:puts Bi [] (maO (if true=true then [c] else []))=[]:=by
   rw [if_pos rfl,zj0,if_neg f];rfl
  rw [t,s];rfl
 |false =>
  rw [Ap];refine (j [] (by simp) (by simp)).trans ?_;rfl
theorem zsx (e:Ev)(l:List Cf)(held:List Ev)(a:Aut)(v:List Cf×List Ma×Int)(x:List Cf×List Ma)(b:∀ d∈x.1,cfOk d=true)(i:x.1.length<=100000)(K:List Cf->List Ma->Option (List Cf×List Ma)):∀ (m k:Nat) (cs:List Cf),k<=x.1.length->x.1.length<m+k->cs.length+(x.1.length-k)<=1000000->(∀ d∈cs,cfOk d=true)->R0 N0 e l held a v x K m (cs,(k:Int))=K (puts Bn cs (x.1.drop k)) x.2
 |0,k,cs,h1,h2,n,f=>by omega
 |m+1,k,cs,h1,h2,n,f=>by
  unfold R0;simp only [aA,A5];by_cases h:k<x.1.length
  ·have g:=b _ (aC h);have j:=O3 Bn x.1[k] cs;rw [if_pos (by omega),A9 h,zxe N0 (by decide) _ g cs f (by omega),A3,B2 _ k h,Jn,Ad k (by omega)];exact zsx e l held a v x b i K m (k+1) _ (by omega) (by omega) (by omega) (ztc g f)
  ·rw [if_neg (by omega),aD (by omega)];rfl
theorem zsw (e:Ev)(l:List Cf)(held:List Ev)(a:Aut)(v:List Cf×List Ma×Int)(g:List Cf)(x:List Ma)(b:∀ d∈x,maOk d=true)(n:x.length<=100000)(K:List Ma->Option (List Cf×List Ma)):∀ (m k:Nat) (cs:List Ma),k<=x.length->x.length<m+k->cs.length+(x.length-k)<=1000000->(∀ d∈cs,maOk d=true)->Qz N0 e l held a v g x K m (cs,(k:Int))=K (puts Bi cs (x.drop k))
 |0,k,cs,h1,h2,p,f=>by omega
 |m+1,k,cs,h1,h2,p,f=>by
  unfold Qz;simp only [aA,A5];by_cases h:k<x.length
  ·have i:=b _ (aC h);have o:=O3 Bi x[k] cs;have j:=zxd N0 (by decide) x[k] i cs f (by omega);rw [if_pos (by omega),A9 h,B2 _ k h,Jn,Ad k (by omega),j,A3];exact zsw e l held a v g x b n K m (k+1) _ (by omega) (by omega) (by omega) (zj8 i f)
  ·rw [if_neg (by omega),aD (by omega)];rfl
theorem zm1 (most:Int)(l:List Ev)(a:Aut)(v:List Cf×List Ma×Int)(x:List Cf×List Ma)(b:∀ d∈x.2,maOk d=true)(j:x.2.length<=1000000)(K:List Ma->List Cf->Option (List Cf×List Ma×Bool)):∀ (m k:Nat) (cs:List Ma),k<=x.2.length->x.2.length<m+k->cs.length+(x.2.length-k)<=1000000->(∀ d∈cs,maOk d=true)->Pe N0 most l a v x K m (cs,(k:Int))=K (puts Bi cs (x.2.drop k)) x.1
 |0,k,cs,h1,h2,o,f=>by omega
 |m+1,k,cs,h1,h2,o,f=>by
  unfold Pe;simp only [aA,A5];by_cases h:k<x.2.length
  ·have g:=b _ (aC h);have n:=O3 Bi x.2[k] cs;have i:=zxd N0 (by decide) x.2[k] g cs f (by omega);rw [if_pos (by omega),A9 h,B2 _ k h,Jn,Ad k (by omega),i,A3];exact zm1 most l a v x b j K m (k+1) _ (by omega) (by omega) (by omega) (zj8 g f)
  ·rw [if_neg (by omega),aD (by omega)];rfl
theorem y3p {l:List Ma}(h:∀ x∈l,maOk x=true):∀ x∈setL Bi l,maOk x=true:=fun x b=>h x ((Dm El x l).1 b)
theorem y3g (b:CxA a held)(h:kk<=1000)(g:CB held a kk c)(e:Ev):∀ d∈cfO (outP a held c e),cfOk d=true:=fun d f=>(zxt b g (zrc f).1).ok (by omega)
theorem zy7 (b:CxA a held)(i:kk<=1000)(h:CB held a kk c)(e:Ev):∀ d∈maO (outP a held c e),maOk d=true:=fun d g=>by
 obtain ⟨q,f,rfl⟩:=y4s g;exact zqf (by omega) (zxt b h f)
theorem zt0 (g:CxA a held)(j:a.fEdges.length<=100)(i:kk<=1000)(e:Ev)(l:List Cf)(q:∀ c∈l,CB held a kk c)(w:l.length<=5000)(K:List Cf->List Ma->Option (List Cf×List Ma)) :
  ∀ (m k:Nat) (cs:List Cf) (b:List Ma),k<=l.length->l.length<m+k->cs.length<=101*k->b.length<=101*k->(∀ d∈cs,cfOk d=true)->(∀ d∈b,maOk d=true)->R1 N0 e l held a K m (cs,b,(k:Int))=K (puts Bn cs ((l.drop k).flatMap (fun c=>setL Bn (cfO (outP a held c e))))) (puts Bi b ((l.drop k).flatMap (fun c=>setL Bi (maO (outP a held c e)))))
 |0,k,cs,b,h1,h2,z,y,o,n=>by omega
 |m+1,k,cs,b,h1,h2,z,y,o,n=>by
  unfold R1;simp only [aA,A5];by_cases h:k<l.length
  ·have f:=q _ (aC h);have E:=zcq (c:=Bn) (cfO (outP a held l[k] e));have D:=zcq (c:=Bi) (maO (outP a held l[k] e));have C:=Td (outP a held l[k] e);have B:=Ob (outP a held l[k] e);have A:(outP a held l[k] e).length<=a.fEdges.length+1:=T4;have p:=y3q (y3g g i f e);have o2:=y3p (zy7 g i f e);have G:=zct (c:=Bn) (setL Bn (cfO (outP a held l[k] e))) cs;have F:=zct (c:=Bi) (setL Bi (maO (outP a held l[k] e))) b;rw [if_pos (by omega),A9 h,y6o g (by omega) i f e,A3,B2 _ k h,aG,aG,Zd,Zd,Ad k (by omega)];have u:=fun K=>zsx e l held a (cs,b,(k:Int)) (setL Bn (cfO (outP a held l[k] e)),setL Bi (maO (outP a held l[k] e))) p (by grind) K N0 0 cs (aB _) (by show (setL Bn (cfO (outP a held l[k] e))).length<2000000000+0;omega) (by show cs.length+((setL Bn (cfO (outP a held l[k] e))).length-0)<=1000000;omega) o
   refine (u _).trans ?_;have t:=fun v s K=>zsw e l held a v s (setL Bi (maO (outP a held l[k] e))) o2 (by omega) K N0 0 b (aB _) (by unfold N0;omega) (by omega) n
   refine (t _ _ _).trans ?_;rw [aL,aL];exact zt0 g j i e l q w K m (k+1) (puts Bn cs (setL Bn (cfO (outP a held l[k] e)))) (puts Bi b (setL Bi (maO (outP a held l[k] e)))) (by omega) (by omega) (by omega) (by omega) (y0q o p) (zs2 n o2)
  ·rw [if_neg (by omega),aD (by omega)];rfl
variable {α β:Type}
theorem zli {c:α->α->Int}(h:TO c)(f:β->List α)(l:List β):setL c (l.flatMap (fun x=>setL c (f x)))=setL c (l.flatMap f):=by
 refine zw7 h (fun x=>?_);rw [aM,aM];constructor
 ·rintro ⟨y,b,g⟩;exact ⟨y,b,(Dm h _ _).1 g⟩
 ·rintro ⟨y,b,g⟩;exact ⟨y,b,(Dm h _ _).2 g⟩
def cfN (a:Aut)(held:List Ev)(l:List Cf)(e:Ev):List Cf:=setL Bn (l.flatMap (fun c=>cfO (outP a held c e)))
def maN (a:Aut)(held:List Ev)(l:List Cf)(e:Ev):List Ma:=setL Bi (l.flatMap (fun c=>maO (outP a held c e)))
theorem y8s (h:CxA a held)(b:a.fEdges.length<=100)(j:kk<=1000)(e:Ev)(l:List Cf)(m:∀ c∈l,CB held a kk c)(i:l.length<=5000):S1 N0 a held l e=some (cfN a held l e,maN a held l e):=by
 have:=zt0 h b j e l m i (fun g f=>some (g,f)) N0 0 [] [] (aB _) (by unfold N0;omega) (by simp) (by simp) (by simp) (by simp);unfold S1 cfN maN;refine this.trans ?_;rw [aL,<-zli cfCmp_to,<-zli El];rfl
theorem zxr (d:Cf)(f:List Cf)(b:List Ma)(g:f.length<=100000000)(h1:b.length<=100000000):Qc N0 d f b=some (f++cfO [d],b++maO [d]):=by
 unfold Qc;rw [A5,zkk,zj0,Bu (by grind) (by omega),Bu (by simp only [aO];omega) (by omega)];by_cases h:d.fState<0
 ·simp [h,cfO,maO]
 ·simp [h,cfO,maO]
variable {r:Ba}
theorem zcx (j:CxA r.fa held)(n:kk<=1000)(o:CB held r.fa kk c)(g:∀ y∈held,Bo y=Bo e->y=e)(i:r.fa.fEdges.length<=100)(K:List Cf->List Ma->Option (List Cf×List Ma×Ba×Cf×Ev)) :
  ∀ (m k:Nat) (f:List Cf) (b:List Ma),k<=r.fa.fEdges.length->r.fa.fEdges.length<m+k->f.length<=90000000+k->b.length<=90000000+k->Hy N0 e c r ⟨bndV held r.fa.fVars.toNat c.fBindings⟩ K m ((k:Int),f,b)=K (f++cfO (((r.fa.fEdges.drop k).filter (fun x=>decide (x.fFrom=c.fState))).filterMap (fun x=>coP r.fa held c x e))) (b++maO (((r.fa.fEdges.drop k).filter (fun x=>decide (x.fFrom=c.fState))).filterMap (fun x=>coP r.fa held c x e)))
 |0,k,f,b,h1,h2,z,w=>by omega
 |m+1,k,f,b,h1,h2,z,w=>by
  unfold Hy;simp only [aA,A5,Ah];by_cases h:k<r.fa.fEdges.length
  ·have p:=aC h;rw [if_pos (by omega),A9 h,B2 _ k h,Ad k (by omega),aS];by_cases q:r.fa.fEdges[k].fFrom=c.fState;rotate_left
   ·rw [if_neg q,if_neg (by simpa using q)];exact zcx j n o g i K m (k+1) f b (by omega) (by omega) (by omega) (by omega)
   rw [if_pos q,if_pos (by simpa using q),zn1 j n o p g,A3,aP];cases v:coP r.fa held c r.fa.fEdges[k] e with
   |none =>
    simp only [rfC,Ap];exact zcx j n o g i K m (k+1) f b (by omega) (by omega) (by omega) (by omega)
   |some d =>
    simp only [rfC,Ao];have t:=Td [d];have s:=Ob [d];simp only [aO] at t s;rw [zxr d f b (by omega) (by omega),Cd];have u:=zcx j n o g i K m (k+1) (f++cfO [d]) (b++maO [d]) (by omega) (by omega) (by rw [aF];omega) (by rw [aF];omega);refine u.trans ?_;rw [aH,aH,<-zkl,<-zj1];rfl
  ·rw [if_neg (by omega),aD (by omega)];simp [cfO,maO]
theorem zcw (j:CxA r.fa held)(n:kk<=1000)(o:CB held r.fa kk c)(g:∀ y∈held,Bo y=Bo e->y=e)(i:r.fa.fEdges.length<=100)(K:List Cf->List Ma->Option (List Cf×List Ma×Ba×Cf×Ev)) :
  ∀ (m k:Nat) (f:List Cf) (b:List Ma),k<=r.fa.fEdges.length->r.fa.fEdges.length<m+k->f.length<=90000000+k->b.length<=90000000+k->Hx N0 e c r ⟨bndV held r.fa.fVars.toNat c.fBindings⟩ K m ((k:Int),f,b)=K (f++cfO (((r.fa.fEdges.drop k).filter (fun x=>decide (x.fFrom=c.fState))).filterMap (fun x=>coP r.fa held c x e))) (b++maO (((r.fa.fEdges.drop k).filter (fun x=>decide (x.fFrom=c.fState))).filterMap (fun x=>coP r.fa held c x e)))
 |0,k,f,b,h1,h2,z,w=>by omega
 |m+1,k,f,b,h1,h2,z,w=>by
  unfold Hx;simp only [aA,A5,Ah];by_cases h:k<r.fa.fEdges.length
  ·have p:=aC h;rw [if_pos (by omega),A9 h,B2 _ k h,Ad k (by omega),aS];by_cases q:r.fa.fEdges[k].fFrom=c.fState;rotate_left
   ·rw [if_neg q,if_neg (by simpa using q)];exact zcw j n o g i K m (k+1) f b (by omega) (by omega) (by omega) (by omega)
   rw [if_pos q,if_pos (by simpa using q),zn1 j n o p g,A3,aP];cases v:coP r.fa held c r.fa.fEdges[k] e with
   |none =>
    simp only [rfC,Ap];exact zcw j n o g i K m (k+1) f b (by omega) (by omega) (by omega) (by omega)
   |some d =>
    simp only [rfC,Ao];have t:=Td [d];have s:=Ob [d];simp only [aO] at t s;rw [zxr d f b (by omega) (by omega),Cd];have u:=zcw j n o g i K m (k+1) (f++cfO [d]) (b++maO [d]) (by omega) (by omega) (by rw [aF];omega) (by rw [aF];omega);refine u.trans ?_;rw [aH,aH,<-zkl,<-zj1];rfl
  ·rw [if_neg (by omega),aD (by omega)];simp [cfO,maO]
theorem zxq (j:CxA r.fa held)(hm:HM held r.fheld)(u:kk<=1000)(b:CB held r.fa kk c)(n:∀ y∈held,Bo y=Bo e->y=e)(m:r.fa.fEdges.length<=100)(i:List Cf)(h:List Ma)(L:i.length<=10000000)(h1:h.length<=10000000):Tv N0 i h r c e=some (i++cfO (outP r.fa held c e),h++maO (outP r.fa held c e),r,c,e):=by
 have E:=b.lb;have D:=j.lh;have f:=j.ok.vars;have C:¬c.fState<0:=by have:=b.st;omega
 obtain ⟨p,I,v,H⟩:=X5 b.st;have s:EvS (enH held c.fBindings):=Jv (by omega);have t:=zyt ⟨f.1,f.2⟩ b.bd;have F:=(j.wf.st p v).1;unfold Tv;rw [y8p N0 (by decide) held r hm f c.fBindings (by omega) b.bd,A3,zcz b.st.1 I];rw [zq6 N0 ⟨bndV held r.fa.fVars.toNat c.fBindings⟩ e (vio (enH held c.fBindings) e) p.fGuards (by omega) (by unfold N0;omega) (fun g G=>by
  unfold Kx;have:=y2l t s ((j.wf.st p v).2 g G) e;refine (congrArg (fun o=>bnd o fun z=>some z) this).trans ?_;rw [A3]),A3]
 have q:skP r.fa held c e=!(p.fGuards.any (vio (enH held c.fBindings) e)):=by unfold skP;rw [H]
 rw [<-q];unfold outP;rw [zkl,zj1];cases skP r.fa held c e with
 |true =>
  rw [Ao,zxr c i h (by omega) (by omega),Cd];have J:=Td [c];have w:=Ob [c];have B:=fun K=>zcx j u b n m K N0 0 (i++cfO [c]) (h++maO [c]) (aB _) (by unfold N0;omega) (by grind) (by rw [aF];simp at w;omega)
  refine (B _).trans ?_;rw [aL];simp [aH,De]
 |false =>
  rw [Ap];have A:=fun K=>zcw j u b n m K N0 0 i h (aB _) (by unfold N0;omega) (by omega) (by omega)
  refine (A _).trans ?_;rw [aL];simp [De,cfO,maO]
theorem zt1 (n:CxA r.fa held)(hm:HM held r.fheld)(o:kk<=1000)(i:∀ y∈held,Bo y=Bo e->y=e)(g:r.fa.fEdges.length<=100)(l:List Cf)(p:∀ c∈l,CB held r.fa kk c)(q:l.length<=5000)(K:List Cf->List Ma->Option (List Cf×List Ma)):∀ (m k:Nat) (f:List Cf) (b:List Ma),k<=l.length->l.length<m+k->f.length<=101*k->b.length<=101*k->Qb N0 e l r K m ((k:Int),f,b)=K (f++(l.drop k).flatMap (fun c=>cfO (outP r.fa held c e))) (b++(l.drop k).flatMap (fun c=>maO (outP r.fa held c e)))
 |0,k,f,b,h1,h2,u,t=>by omega
 |m+1,k,f,b,h1,h2,u,t=>by
  unfold Qb;simp only [aA,A5];by_cases h:k<l.length
  ·have j:=p _ (aC h);have z:=Td (outP r.fa held l[k] e);have w:=Ob (outP r.fa held l[k] e);have v:(outP r.fa held l[k] e).length<=r.fa.fEdges.length+1:=T4;have s:Yi N0 r l[k] e=some (r,l[k],e):=rfl;rw [if_pos (by omega),A9 h,s,Cd];simp only;rw [zxq n hm o j i g f b (by omega) (by omega),Cd,B2 _ k h,aG,aG,<-aH,<-aH,Ad k (by omega)];exact zt1 n hm o i g l p q K m (k+1) _ _ (by omega) (by omega) (by rw [aF];omega) (by rw [aF];omega)
  grind
theorem zd0 (f:α->List β)(n:Nat):∀ l:List α,(∀ x∈l,(f x).length<=n)->(l.flatMap f).length<=n*l.length
 |[],_=>by simp
 |x::l,h=>by
  have h1:=h x (by simp);have h2:=zd0 f n l (fun y b=>h y (aJ _ b));rw [aG,aF,length_cons,Nat.mul_succ];omega
theorem zxs (g:CxA r.fa held)(hm:HM held r.fheld)(i:kk<=1000)(m:∀ y∈held,Bo y=Bo e->y=e)(h:r.fa.fEdges.length<=100)(l:List Cf)(n:∀ c∈l,CB held r.fa kk c)(p:l.length<=5000):J4 N0 r l e=some (cfN r.fa held l e,maN r.fa held l e):=by
 have o:=fun K=>zt1 g hm i m h l n p K N0 0 [] [] (aB _) (by unfold N0;omega) (by simp) (by simp)
 unfold J4;refine (o _).trans ?_;rw [aL,aU,aU];have s:=zd0 (fun c=>cfO (outP r.fa held c e)) 101 l (fun c _=>by have:=Td (outP r.fa held c e);have:(outP r.fa held c e).length<=r.fa.fEdges.length+1:=T4;omega);have q:=zd0 (fun c=>maO (outP r.fa held c e)) 101 l (fun c _=>by have:=Ob (outP r.fa held c e);have:(outP r.fa held c e).length<=r.fa.fEdges.length+1:=T4;omega);rw [zww N0 (by decide) _ (fun d j=>by
  obtain ⟨c,f,b⟩:=aM.1 j;exact y3g g i (n c f) e d b) (by omega),Cd,y3z N0 (by decide) _ (fun d j=>by
  obtain ⟨c,f,b⟩:=aM.1 j;exact zy7 g i (n c f) e d b) (by omega),Cd]
 rfl
theorem zq0 {e:Exn}(h:WfE e):∃ b:Bool,Mw N0 e=some b:=by
 obtain ⟨z,f,g⟩:=h;obtain ⟨c,j,_⟩:=zxm 200 (by omega) (by omega) z e g f N0 (by unfold N0;omega);obtain ⟨d,i,_⟩:=y2o z e g f N0 (by unfold N0;omega);unfold Mw;simp only [Ay,Al,M5];rw [j,A3,i,A3,A5];split
 ·exact ⟨_,rfl⟩
 ·exact ⟨_,rfl⟩
theorem zx4 (l:List Gd)(f:∀ g∈l,WfE g.fCond)(i:l.length<=1100000):∀ (m k:Nat),k<=l.length->l.length<m+k->∃ b:Bool,R3 N0 l (some true) m (k:Int)=some b
 |0,k,h1,h2=>by omega
 |m+1,k,h1,h2=>by
  unfold R3;simp only [aA,A5,Ah];by_cases h:k<l.length
  ·obtain ⟨b,j⟩:=zq0 (f _ (aC h));rw [if_pos (by omega),A9 h,j,A3,Ad k (by omega)];cases b with
   |true=>rw [Ao];exact zx4 l f i m (k+1) (by omega) (by omega)
   |false=>rw [Ap];exact ⟨_,rfl⟩
  ·rw [if_neg (by omega)];exact ⟨_,rfl⟩
theorem y44 (f:Stt)(h:f.fGuards.length<=1100000/\∀ g∈f.fGuards,WfE g.fCond):∃ b:Bool,V8 N0 f.fGuards=some b:=zx4 f.fGuards h.2 h.1 N0 0 (aB _) (by have:=h.1;unfold N0;omega)
theorem zsi (a:Aut)(v:Int)(x:Ed)(ys:List Exn)(f:x.fChecks=ys.map Av)(i:∀ y∈ys,WfE y)(n:ys.length<=1100000)(P:Prop)(K:Option Bool)(j:∃ b:Bool,K=some b/\(b=true->P)):∀ (m k:Nat),k<=ys.length->ys.length<m+k->∃ b:Bool,R4 N0 a v x K m (k:Int)=some b/\(b=true->P)
 |0,k,h1,h2=>by omega
 |m+1,k,h1,h2=>by
  unfold R4;have g:x.fChecks.length=ys.length:=by rw [f,aA]
  simp only [aA,A5,Ah,g];by_cases h:k<ys.length
  ·obtain ⟨b,o⟩:=zq0 (i _ (aC h));rw [if_pos (by omega),zqi f h,o,A3,Ad k (by omega)];cases b with
   |true=>rw [Ao];exact zsi a v x ys f i n P K j m (k+1) (by omega) (by omega)
   |false=>rw [Ap];exact ⟨false,rfl,fun h=>by cases h⟩
  ·rw [if_neg (by omega)];exact j
def FewA (a:Aut):Prop:=a.fEdges.length<=40/\∀ x∈a.fEdges,x.fOpens.length<=12
theorem zsk (a:Aut)(q:WfA a)(K:Option Bool)(s:∃ b:Bool,K=some b/\(b=true->a.fEdges.length<=40)):∀ (m k:Nat),k<=a.fEdges.length->k<=60->60<m+k->(∀ x∈a.fEdges.take k,x.fOpens.length<=12)->∃ b:Bool,Iw N0 a K m (k:Int)=some b/\(b=true->FewA a)
 |0,k,h1,h2,w,o=>by omega
 |m+1,k,h1,h2,w,o=>by
  have g:(60<=k\/a.fEdges.length<=k)->∃ b:Bool,K=some b/\(b=true->FewA a):=fun E=>by
   obtain ⟨b,y,t⟩:=s;refine ⟨b,y,fun i=>⟨t i,fun x f=>o x ?_⟩⟩;have:=t i;rw [take_of_length_le (by omega)];exact f
  have no:∃ b:Bool,some false=some b/\(b=true->FewA a):=⟨false,rfl,fun h=>by cases h⟩;unfold Iw;simp only [aA,A5,Ay,Al,Lj,F0,Ah,Ao,Ap];by_cases h:k<a.fEdges.length;rotate_left
  ·rw [if_neg (by omega)];exact g (by omega)
  rw [if_pos (by omega)];by_cases v:k<60;rotate_left
  ·rw [if_neg (by omega)];exact g (by omega)
  rw [if_pos (by omega),A9 h,Ad k (by omega)];have wx:=q.ed _ (aC h);obtain ⟨b,i⟩:=zq0 wx.cond;rw [i,A3];cases b with
  |false=>rw [Ap];exact no
  |true =>
  rw [Ao];split
  ·exact no
  split
  ·exact no
  split
  ·exact no
  split
  ·exact no
  split
  ·exact no
  rename_i D C B A z;obtain ⟨ys,p,j⟩:=wx.checks;have n:ys.length<=1100000:=by have:=wx.lc;rw [p,aA] at this;exact this
  have u:=zsk a q K s m (k+1) (by omega) (by omega) (by omega) (fun x f=>by
   rw [take_succ_eq_append_getElem h] at f;rcases aK.1 f with f|f
   ·exact o x f
   ·rw [aE.1 f];omega)
  exact zsi a (k:Int) _ ys p j n (FewA a) _ u N0 0 (aB _) (by unfold N0;omega)
theorem zsm (a:Aut)(g:WfA a)(P:Prop)(K:Option Bool)(f:∃ b:Bool,K=some b/\(b=true->P)):∀ (m k:Nat),k<=a.fStates.length->k<=30->30<m+k->∃ b:Bool,Ix N0 a K m (k:Int)=some b/\(b=true->P)
 |0,k,h1,h2,o=>by omega
 |m+1,k,h1,h2,o=>by
  have no:∃ b:Bool,some false=some b/\(b=true->P):=⟨false,rfl,fun h=>by cases h⟩;unfold Ix;simp only [aA,A5,Ay,Al,Li,Fw,Ah,Ao,Ap];by_cases h:k<a.fStates.length;rotate_left
  ·rw [if_neg (by omega)];exact f
  rw [if_pos (by omega)];by_cases n:k<30;rotate_left
  ·rw [if_neg (by omega)];exact f
  have i:=zsm a g P K f m (k+1) (by omega) (by omega) (by omega);obtain ⟨b,j⟩:=y44 _ (g.st _ (aC h));have hi:∀ Q:Stt->Option Bool,idx a.fStates (k:Int) Q=Q a.fStates[k]:=fun Q=>A9 h Q
  rw [if_pos (by omega),Ad k (by omega)];simp only [hi,j,A3];repeat' split;all_goals first|exact no|(cases b<;>first|(rw [Ao];exact i)|(rw [Ap];exact no))|skip
theorem y4c (a:Aut)(f:WfA a):∃ b:Bool,V9 N0 a=some b/\(b=true->FewA a):=by
 unfold V9;refine zsm a f (FewA a) _ ?_ N0 0 (aB _) (by omega) (by unfold N0;omega);refine zsk a f _ ?_ N0 0 (aB _) (by omega) (by unfold N0;omega) (by simp);simp only [Ay,Al,M2,aA,A5];split
 ·exact ⟨_,rfl,fun h=>by simp at h;omega⟩
 ·exact ⟨_,rfl,fun h=>by cases h⟩
theorem zhd (l:List Ev)(g:l.length<=1000000)(a:Aut)(K:List (Rf×Ev)->Option (Option Ba×Int)):∀ (m k:Nat) (b:List (Rf×Ev)),k<=l.length->l.length<m+k->Su N0 l a K m ((k:Int),b)=K ((l.drop k).foldl (fun m e=>mput m (Bo e) e) b)
 |0,k,b,h1,h2=>by omega
 |m+1,k,b,h1,h2=>by
  unfold Su;simp only [aA,A5];by_cases h:k<l.length
  ·have f:Jp N0 l[k]=some (Bo l[k]):=rfl;rw [if_pos (by omega),A9 h,f,A3,y2x,B2 _ k h,aV,Ad k (by omega)];exact zhd l g a K m (k+1) _ (by omega) (by omega)
  grind
theorem zq9 (a:Aut)(p:WfA a)(l:List Ev)(g:l.length<=1000000):∃ q:Int,Hd N0 a l=some q/\((q≠0/\G8 N0 a l=some (none,q))\/(q=0/\AOk a/\y5p l/\J3 N0 a=some 0/\Dy l=0/\∃ i,HM l i/\G8 N0 a l=some (some ⟨a,i⟩,0))):=by
 obtain ⟨r,o,n,j⟩:=ziu N0 (by decide) a p;unfold Hd G8;rw [o,n,A3,A3,Ah,A5,Ah,A5];by_cases h:r=0;rotate_left
 ·simp_all
 rw [if_pos h,if_pos h,zxc N0 l (by unfold N0;omega) g,y4h N0 l (by unfold N0;omega) (by decide) g,A3,A3,Ah,A5];refine ⟨Dy l,rfl,?_⟩;by_cases f:Dy l=0;rotate_left
 ·simp_all
 rw [if_pos f];have b:=zd9 f;refine Or.inr ⟨f,j h,b,by rw [h] ,f,l.foldl (fun m e=>mput m (Bo e) e) [],fun r=>?_,?_⟩
 ·rw [zyh r l [] b.st];simp [mlk]
 ·refine (zhd l g a _ N0 0 [] (aB _) (by unfold N0;omega)).trans ?_;rw [aL]
theorem y7r (o:CxA a held)(i:Str Co held)(m:CB held a k c)(f:x∈a.fEdges)(q:e∈held)(h:coP a held c x e=some d)(p:0<=d.fState):CB held a (k+1) d:=by
 have n:=zz6 o m f h;have j:=zd5 h;have eo:=o.ok.ed x f;refine ⟨?_,?_,?_,n.1,n.2⟩
 ·rw [j] at p ⊢;exact ⟨p,eo.tgt.2⟩
 ·rw [j];intro b g;rcases aK.1 g with g|g
  ·exact m.bd b g
  ·rw [aE.1 g];refine ⟨eo.var,?_⟩;rw [zyb i q];rfl
 ·rw [j];exact (y2v e.fTime x.fOpens m.ss).filter _
theorem CB.up (h:CB held a k c):CB held a (k+1) c:=⟨h.st,h.bd,h.ss,by have:=h.lb;omega,by have:=h.ls;omega⟩
theorem y4l (i:CxA a held)(f:Str Co held)(g:CB held a k c)(j:e∈held)(h:d∈outP a held c e)(n:0<=d.fState):CB held a (k+1) d:=by
 unfold outP at h;rcases aK.1 h with h|h
 ·split at h
  ·rw [aE.1 h];exact g.up
  ·simp at h
 ·obtain ⟨x,b,m⟩:=aR.1 h;exact y7r i f g (X6 b).1 j m n
theorem zzf (h:d∈cfN a held l e):∃ c∈l,d∈outP a held c e/\0<=d.fState:=by
 unfold cfN at h;obtain ⟨c,h1,h2⟩:=aM.1 ((Dm cfCmp_to _ _).1 h);exact ⟨c,h1,zrc h2⟩
theorem y3h (f:CxA a held)(b:Str Co held)(i:∀ c∈l,CB held a k c)(g:e∈held):∀ d∈cfN a held l e,CB held a (k+1) d:=fun d h=>by
 obtain ⟨c,h1,h2,j⟩:=zzf h;exact y4l f b (i c h1) g h2 j
theorem y7c (f:CxA a held)(g:k<=1000)(h:∀ c∈l,CB held a k c)(e:Ev):∀ d∈maN a held l e,maOk d=true:=fun d b=>by
 unfold maN at b;obtain ⟨c,h1,h2⟩:=aM.1 ((Dm El _ _).1 b);exact zy7 f g (h c h1) e d h2
theorem y4t (b:a.fEdges.length<=100)(l:List Cf)(e:Ev):(maN a held l e).length<=101*l.length:=by
 unfold maN;have f:=zd0 (fun c=>maO (outP a held c e)) 101 l (fun c _=>by have:=Ob (outP a held c e);have:(outP a held c e).length<=a.fEdges.length+1:=T4;omega);have:=zcq (c:=Bi) (l.flatMap (fun c=>maO (outP a held c e)));omega
def wiP (most:Nat)(a:Aut)(held:List Ev):List Ev->List Cf->List Ma->List Cf×List Ma×Bool
 |[],cs,b=>(cs,b,true)
 |e::r,cs,b=>if most<(cfN a held cs e).length\/most<(puts Bi b (maN a held cs e)).length then ([],[],false) else wiP most a held r (cfN a held cs e) (puts Bi b (maN a held cs e))
theorem zc8 {l:List Ev}(i:CxA a l)(g:Str Co l)(f:a.fEdges.length<=100)(most:Nat)(hm:most<=4096)(n:1<=most)(v:l.length<=900) :
  ∀ (m k:Nat) (cs:List Cf) (b:List Ma),k<=l.length->l.length<m+k->cs.length<=most->b.length<=most->(∀ c∈cs,CB l a k c)->(∀ d∈b,maOk d=true)->I9 N0 (most:Int) l a (fun s q=>some (s,q,true)) m (cs,b,(k:Int))=some (wiP most a l (l.drop k) cs b)
 |0,k,cs,b,h1,h2,A,y,j,p=>by omega
 |m+1,k,cs,b,h1,h2,A,y,j,p=>by
  unfold I9;simp only [aA,A5];by_cases h:k<l.length
  ·have w:=aC h;have z:=y4t (held:=l) f cs l[k];have o:=y7c i (by omega) j l[k];rw [if_pos (by omega),A9 h,y8s i f (by omega) l[k] cs j (by omega),A3,B2 _ k h];have t:=fun K=>zm1 (most:Int) l a (cs,b,(k:Int)) (cfN a l cs l[k],maN a l cs l[k]) o (by grind) K N0 0 b (aB _) (by show (maN a l cs l[k]).length<2000000000+0;omega) (by show b.length+((maN a l cs l[k]).length-0)<=1000000;omega) p
   refine (t _).trans ?_;rw [aL];simp only [Ay,Al,Ks,A5,Ao];have u:=zc8 i g f most hm n v m (k+1) (cfN a l cs l[k]) (puts Bi b (maN a l cs l[k])) (by omega) (by omega);unfold wiP;by_cases C:most<(cfN a l cs l[k]).length
   ·simp_all
   rw [if_neg (by omega)];by_cases B:most<(puts Bi b (maN a l cs l[k])).length
   ·simp_all
   rw [if_neg (by omega),if_neg (by omega),Ad k (by omega)];exact u (by omega) (by omega) (y3h i g j w) (zs2 p o)
  ·rw [if_neg (by omega),aD (by omega)];rfl
theorem cb0 {l:List Ev}(g:AOk a):CB l a 0 cf0:=⟨⟨by simp,by have:=g.st;simp;omega⟩,fun b f=>by simp at f,by simp [SS],by simp,by simp⟩
theorem zwy {l:List Ev}(h:CxA a l)(b:Str Co l)(g:a.fEdges.length<=100)(most:Nat)(hm:most<=4096)(f:1<=most)(i:l.length<=900):Ug N0 a l (most:Int)=some (wiP most a l l [cf0] []):=by
 unfold Ug;have m:Rc N0=some cf0:=rfl;rw [m,A3];exact zc8 h b g most hm f i N0 0 [cf0] [] (aB _) (by unfold N0;omega) (by simp;omega) (by simp) (fun c j=>by rw [aE.1 j];exact cb0 h.ok) (by simp)
theorem zpy (a:Aut)(g:WfA a)(l:List Ev):∃ b:Bool,Md N0 a l=some b/\(b=true->FewA a/\l.length<=12/\∃ q:Int,Hd N0 a l=some q/\(q=0->(wiP 150 a l l [cf0] []).2.2=true)):=by
 obtain ⟨b,v,u⟩:=y4c a g;unfold Md;simp only [Ay,Al,L2];rw [v,A3,y6t N0 l (by decide),Ah,A3];cases b with
 |false=>rw [Ap,Ao];simp_all
 |true =>
  rw [Ao];cases i:fewE l with
  |false=>simp only [Bool.not_false,Ao];simp_all
  |true =>
   simp only [Bool.not_true,Ap];obtain ⟨w,_⟩:=y1w i;obtain ⟨q,o,n⟩:=zq9 a g l (by omega);rw [o,A3,Ah,A5];rcases n with ⟨h,_⟩|⟨h,s,p,_,_,_⟩
   ·simp_all
   ·have m:=u rfl;have f:CxA a l:=⟨g,s,fun x f=>by have:=m.2 x f;omega,by omega⟩;have j:=zwy f p.st (by have:=m.1;omega) 150 (by omega) (by omega) (by omega);have t:((150:Nat):Int)=150:=rfl;rw [t] at j;rw [if_pos h,j,A3];simp_all
variable {h1 h2:List Ev}
theorem zei:∀ (l:List Bd) (vs:List (List Ev)),(∀ b∈l,lkH h1 b.fRef=lkH h2 b.fRef)->l.foldl (addB h1) vs=l.foldl (addB h2) vs
 |[],vs,_=>rfl
 |b::l,vs,h=>by
  rw [aV,aV];have:addB h1 vs b=addB h2 vs b:=by unfold addB;rw [h b (by simp)]
  rw [this];exact zei l _ (fun x f=>h x (aJ _ f))
theorem zep {l:List Bd}(h:∀ b∈l,lkH h1 b.fRef=lkH h2 b.fRef):enH h1 l=enH h2 l:=zei l _ h
theorem zz7 (h:∀ b∈c.fBindings,lkH h1 b.fRef=lkH h2 b.fRef)(x:Ed)(e:Ev):coP a h1 c x e=coP a h2 c x e:=by
 have g:enH (e::h1) (bdN c x e)=enH (e::h2) (bdN c x e):=zep (fun b f=>by
  unfold lkH;rw [find?_cons,find?_cons];by_cases q:Bo e=b.fRef
  ·simp [q]
  ·simp only [q,decide_false];rcases aK.1 f with f|f
   ·exact h b f
   ·rw [aE.1 f] at q;exact absurd rfl q)
 unfold coP;rw [zep h,g]
theorem zhf (h:∀ b∈c.fBindings,lkH h1 b.fRef=lkH h2 b.fRef)(e:Ev):outP a h1 c e=outP a h2 c e:=by
 unfold outP skP;rw [zep h];congr 1;exact congrArg (fun f=>filterMap f (De a c.fState)) (funext fun x=>zz7 h x e)
theorem zbq {f g:α->List β}:∀ {l:List α},(∀ x∈l,f x=g x)->l.flatMap f=l.flatMap g
 |[],_=>rfl
 |x::l,h=>by rw [aG,aG,h x (by simp),zbq (fun y b=>h y (aJ _ b))]
theorem zzg (h:∀ c∈l,∀ b∈c.fBindings,lkH h1 b.fRef=lkH h2 b.fRef)(e:Ev):cfN a h1 l e=cfN a h2 l e:=by
 unfold cfN;rw [zbq (fun c f=>by rw [zhf (h c f) e])]
theorem zy9 (h:∀ c∈l,∀ b∈c.fBindings,lkH h1 b.fRef=lkH h2 b.fRef)(e:Ev):maN a h1 l e=maN a h2 l e:=by
 unfold maN;rw [zbq (fun c f=>by rw [zhf (h c f) e])]
theorem y4u {l more:List Ev}(f:Str Co more)(hm:∀ x∈l,x∈more){r:Rf}(h:(lkH l r).isSome=true):lkH l r=lkH more r:=by
 obtain ⟨y,b⟩:=Option.isSome_iff_exists.1 h;obtain ⟨h1,h2⟩:=zj3 b;have:=zyb f (hm y h2);rw [h1] at this;rw [b,this]
theorem y90 {l more:List Ev}(f:Str Co more)(hm:∀ x∈l,x∈more){cs:List Cf}(g:∀ c∈cs,CB l a k c):∀ c∈cs,∀ b∈c.fBindings,lkH l b.fRef=lkH more b.fRef:=fun c h b i=>y4u f hm ((g c h).bd b i).2
theorem zsc (a b:Rf):Nu N0 a b=some (rCmp a b):=by
 have:Nu (1999999996+4) a b=some (rCmp a b):=by
  unfold Nu;simp only [A3,Ok,y1y];rfl
 exact this
structure CIv (a:Aut) (rest:List Ev) (c:Cf):Prop where
 asc:c.fBindings.Pairwise (fun x y=>rCmp x.fRef y.fRef<0)
 bef:∀ b∈c.fBindings,∀ e∈rest,rCmp b.fRef (Bo e)<0
 scp:∀ s∈c.fStarts,(0<=s.fScope/\s.fScope<a.fScopes)/\0<=s.fTime/\s.fTime<=1099511627776
theorem CIv.tail {r:List Ev}(h:CIv a (e::r) c):CIv a r c:=⟨h.asc,fun b g x f=>h.bef b g x (aJ _ f),h.scp⟩
theorem y7q (v:AOk a){r:List Ev}(j:Str Co (e::r))(i:Cl e=true)(h:CIv a (e::r) c)(q:x∈a.fEdges)(u:coP a held c x e=some d):CIv a r d:=by
 rw [zd5 u];obtain ⟨n,w⟩:=pairwise_cons.1 j;refine ⟨?_,fun b f y g=>?_,fun s t=>?_⟩
 ·show Pairwise _ (bdN c x e);unfold bdN;rw [pairwise_append];exact ⟨h.asc,pairwise_singleton _ _,fun b f y g=>by rw [aE.1 g];exact h.bef b f e (by simp)⟩
 ·rcases aK.1 f with f|f
  ·exact h.bef b f y (aJ _ g)
  ·rw [aE.1 f];exact n y g
 ·have m:=(aT.1 t).1;rcases opL_mem e.fTime x.fOpens m with ⟨p,o⟩|k
  ·refine ⟨(v.ed x q).opn _ p,?_⟩;rw [o];unfold Cl at i;simp only [Bool.and_eq_true,decide_eq_true_eq] at i;exact ⟨i.1,i.2.1⟩
  ·exact h.scp s k
theorem y4j (j:AOk a){r:List Ev}(f:Str Co (e::r))(i:Cl e=true)(h:CIv a (e::r) c)(b:d∈outP a held c e):CIv a r d:=by
 unfold outP at b;rcases aK.1 b with b|b
 ·split at b
  ·rw [aE.1 b];exact h.tail
  ·simp at b
 ·obtain ⟨x,g,b⟩:=aR.1 b;exact y7q j f i h (X6 g).1 b
theorem y7u (i:AOk a){r:List Ev}(b:Str Co (e::r))(f:Cl e=true){cs:List Cf}(h:∀ c∈cs,CIv a (e::r) c):∀ d∈cfN a held cs e,CIv a r d:=fun d g=>by
 obtain ⟨c,h1,h2,_⟩:=zzf g;exact y4j i b f (h c h1) h2
theorem zrl:∀ (p:List Ev) (cs:List Cf) (b:List Ma),(wiP 150 a held (p++[e]) cs b).2.2=true->∃ x m,wiP 150 a held p cs b=(x,m,true)/\wiP 150 a held (p++[e]) cs b=(cfN a held x e,puts Bi m (maN a held x e),true)/\(cfN a held x e).length<=150/\(puts Bi m (maN a held x e)).length<=150
 |[],cs,b,h=>by
  refine ⟨cs,b,rfl,?_⟩;rw [aU] at h ⊢;unfold wiP at h ⊢;split at h
  ·cases h
  ·rename_i q;rw [if_neg q];exact ⟨rfl,by omega,by omega⟩
 |f::p,cs,b,h=>by
  rw [cons_append] at h ⊢;unfold wiP at h ⊢;split at h
  ·cases h
  ·rename_i q;rw [if_neg q,if_neg q];exact zrl p _ _ h
theorem zha (r:Ba)(c:Cf)(i:c.fStarts.length<=1000000)(f:∀ s∈c.fStarts,(0<=s.fScope/\s.fScope<r.fa.fScopes)/\0<=s.fTime/\s.fTime<=1099511627776)(g:SS c.fStarts):∀ (m k:Nat),k<=c.fStarts.length->c.fStarts.length<m+k->Dh N0 c r (some 0) m (k:Int)=some 0
 |0,k,h1,h2=>by omega
 |m+1,k,h1,h2=>by
  unfold Dh;simp only [aA,A5,Ay,Al,F4,Gz,Ao,Ap];by_cases h:k<c.fStarts.length
  ·obtain ⟨⟨p,o⟩,n,j⟩:=f _ (aC h);have b:=zha r c i f g m (k+1) (by omega) (by omega);rw [if_pos (by omega),A9 h,if_neg (by omega),if_neg (by omega),if_neg (by omega),if_neg (by omega),Ad k (by omega)];by_cases q:0<k
   ·have:=aQ.1 g (k-1) k (by omega) h (by omega);rw [if_pos (by omega),Gc k (by omega) (by omega),A9 (by omega:k-1<c.fStarts.length),if_neg (by omega)];exact b
   ·rw [if_neg (by omega)];exact b
  ·rw [if_neg (by omega)]
theorem zhb (r:Ba)(held:List Ev)(hm:HM held r.fheld)(c:Cf)(n:c.fBindings.length<=1000000)(f:BdOk held r.fa.fVars c.fBindings)(g:c.fBindings.Pairwise (fun x y=>rCmp x.fRef y.fRef<0))(K:Option Int)(i:K=some 0):∀ (m k:Nat),k<=c.fBindings.length->c.fBindings.length<m+k->E6 N0 c r K m (k:Int)=some 0
 |0,k,h1,h2=>by omega
 |m+1,k,h1,h2=>by
  unfold E6;simp only [aA,A5,Ay,Al,Gy,Gx,Ao,Ap,Ah];by_cases h:k<c.fBindings.length
  ·obtain ⟨⟨s,q⟩,j⟩:=f _ (aC h);have b:=zhb r held hm c n f g K i m (k+1) (by omega) (by omega);have p:(⟨c.fBindings[k].fRef.fTime,c.fBindings[k].fRef.fSource,c.fBindings[k].fRef.fSeq⟩:Rf)=c.fBindings[k].fRef:=rfl;rw [if_pos (by omega),A9 h,p,Xl,hm,j];simp only [Ao];rw [if_neg (by omega),if_neg (by omega),Ad k (by omega)];by_cases t:0<k
   ·have:=aQ.1 g (k-1) k (by omega) h (by omega);have o:(⟨c.fBindings[k-1].fRef.fTime,c.fBindings[k-1].fRef.fSource,c.fBindings[k-1].fRef.fSeq⟩:Rf)=c.fBindings[k-1].fRef:=rfl;rw [if_pos (by omega),Gc k (by omega) (by omega),A9 (by omega:k-1<c.fBindings.length),o,zsc,A3,if_neg (by omega)];exact b
   ·rw [if_neg (by omega)];exact b
  ·rw [if_neg (by omega)];exact i
theorem y11 (hm:HM held r.fheld)(g:k<=1000)(f:CB held r.fa k c){b:List Ev}(hi:CIv r.fa b c):Ei N0 r c=some 0:=by
 have h1:=f.lb;have h2:=f.ls;have h:=f.st;unfold Ei;simp only [Ay,Al,H5,A5,Ao,aA];rw [if_neg (by omega),if_neg (by omega),if_neg (by omega)];have:=zha r c (by omega) hi.scp f.ss N0 0 (aB _) (by unfold N0;omega);exact zhb r held hm c (by omega) f.bd hi.asc _ this N0 0 (aB _) (by unfold N0;omega)
theorem y6k (e:Ev):Wk N0 e=some (Cl e):=by
 unfold Wk Cl
 simp only [Ay,Al,F9,A5]
 repeat' split
 all_goals (simp_all<;>omega)
theorem y6s {r:List Ev}(j:Cl e=true)(l:List Cf)(q:l.length<=1000000)(n:∀ c∈l,c.fBindings.length<=1000000)(h:∀ c∈l,CIv a (e::r) c):Nv N0 l e=some 0:=by
 unfold Nv;rw [y6k,j,A3,Ah,Ao];rw [zv0 N0 e (fun _=>false) l (by omega) (by unfold N0;omega) (fun c g=>by
  have m:=n c g;unfold Nm Zp;rw [zuy N0 e (fun b=>decide (0<=rCmp b.fRef (Bo e))) c.fBindings (by omega) (by unfold N0;omega) (fun b _=>by
   unfold Nl;have i:Jp N0 e=some (Bo e):=rfl;rw [i,A3];have p:(⟨b.fRef.fTime,b.fRef.fSource,b.fRef.fSeq⟩:Rf)=b.fRef:=rfl;have o:(⟨(Bo e).fTime,(Bo e).fSource,(Bo e).fSeq⟩:Rf)=Bo e:=rfl;simp only [p,o,zsc,A3]),A3,A3]
  congr 1;rw [any_eq_false];intro b f;have:=(h c g).bef b f e (by simp);simp only [decide_eq_true_eq];omega),A3]
 have:(l.any fun _=>false)=false:=by rw [any_eq_false];simp
 rw [this,Ap]
theorem zzc:∀ (l p r:List Ev),chk p (l++r)=0->chk p l=0
 |[],p,r,_=>by unfold chk;rfl
 |e::l,p,r,h=>by
  rw [cons_append] at h;unfold chk at h ⊢;split at h
  ·cases h
  split at h
  ·cases h
  split at h
  ·cases h
  rename_i h1 h2 b;rw [if_neg h1,if_neg h2,if_neg b];exact zzc l (e::p) r h
theorem zua {l r:List Ev}(h:Dy (l++r)=0):Dy l=0:=by
 unfold Dy at h ⊢;split at h
 ·cases h
 ·rename_i q;rw [aF] at q;rw [if_neg (by omega)];exact zzc l [] r h
end Go.Proofs.YtidhlpjgifoneaaGreat
