/- Layer 25, plainly. -/
import Derived.Test.YtkoamfnbbhfaiaaGreatDoorK23
set_option linter.unusedVariables false
set_option linter.unusedSimpArgs false
namespace Go.Proofs.YtkoamfnbbhfaiaaGreatDoor
open Go.RowKit List
open List renaming length_map->aA,getElem_mem->aC,drop_eq_nil_of_le->aD,take_succ_eq_append_getElem->aE,length_append->aF,mem_flatMap->aG,mem_singleton->aH,length_filter_le->aJ,append_assoc->aK,filter_cons->aL,drop_zero->aM,take_of_length_le->aN,getElem?_eq_getElem->aO,mem_map->aP,mem_append->aQ,drop_eq_getElem_cons->aR,mem_cons_of_mem->aS,flatMap_cons->aT,mem_cons_self->aU,length_singleton->aV,mem_iff_getElem->aW,filterMap_cons->aX,mem_filterMap->aY,filter_eq_nil_iff->aZ,length_cons->bB,nil_append->bD,range->bF
open Nat renaming zero_le->aB
def cfO (l:List Cf):List Cf:=l.filter (fun d=>!decide (d.fState<0))
def maO (l:List Cf):List Ma:=(l.filter (fun d=>decide (d.fState<0))).map (fun d=>⟨d.fBindings⟩)
def Bk (a:Aut)(s:Int):List Ed:=a.fEdges.filter (fun x=>decide (x.fFrom=s))
def skP (a:Aut)(held:List Ev)(c:Cf)(e:Ev):Bool:=!(Hl a c.fState).any (vio (enH held c.fBindings) e)
def outP (a:Aut)(held:List Ev)(c:Cf)(e:Ev):List Cf:=(if skP a held c e=true then [c] else [])++(Bk a c.fState).filterMap (fun x=>coP a held c x e)
theorem Ur (d:Cf)(l:List Cf):cfO (d::l)=if d.fState<0 then cfO l else d::cfO l:=by
 unfold cfO;grind
theorem Um (d:Cf)(l:List Cf):maO (d::l)=if d.fState<0 then (⟨d.fBindings⟩:Ma)::maO l else maO l:=by
 unfold maO;grind
theorem Y0 (l m:List Cf):cfO (l++m)=cfO l++cfO m:=by unfold cfO;rw [filter_append]
theorem Xs (l m:List Cf):maO (l++m)=maO l++maO m:=by unfold maO;simp_all
theorem R0 (l:List Cf):(cfO l).length<=l.length:=aJ _ _
theorem Ml (l:List Cf):(maO l).length<=l.length:=by unfold maO;grind
variable {l:List Cf}{d:Cf}
theorem zqx (h:d∈cfO l):d∈l/\0<=d.fState:=by
 have:=mem_filter.1 h;exact ⟨this.1,by simpa using this.2⟩
theorem zvv {m:Ma}(h:m∈maO l):∃ d∈l,m=⟨d.fBindings⟩:=by
 obtain ⟨d,f,rfl⟩:=aP.1 h;grind
def Sz (k:Nat)(c:Cf):Prop:=c.fBindings.length<=k/\c.fStarts.length<=100*k
variable {k:Nat}{c:Cf}
theorem Sz.ok (f:k<=1001)(h:Sz k c):cfOk c=true:=(Fo c).2 ⟨by have:=h.1;omega,by have:=h.2;omega⟩
variable {a:Aut}{held:List Ev}{x:Ed}{e:Ev}
theorem zeo (h:coP a held c x e=some d):d=⟨x.fTo,bdN c x e,(stN c x e).filter (ncl x)⟩:=by
 unfold coP at h;simp_all
theorem zqo (j:CxA a held)(g:CB held a k c)(f:x∈a.fEdges)(h:coP a held c x e=some d):Sz (k+1) d:=by
 rw [zeo h];have h1:=g.lb;have q:=g.ls;have p:=j.lo x f;have o:=Xq e.fTime x.fOpens c.fStarts;have m:=aJ (ncl x) (stN c x e);refine ⟨by unfold bdN;simp;omega,?_⟩;unfold stN at m ⊢;simp only;omega
theorem CB.sz (h:CB held a k c):Sz k c:=⟨h.lb,h.ls⟩
variable {s:Int}
theorem Hj (h:x∈Bk a s):x∈a.fEdges/\x.fFrom=s:=by
 have:=mem_filter.1 h;exact ⟨this.1,by simpa using this.2⟩
theorem zpr (j:CxA a held)(g:CB held a k c)(h:d∈outP a held c e):Sz (k+1) d:=by
 unfold outP at h;rcases aQ.1 h with h|h
 ·split at h
  ·rw [aH.1 h];have:=g.sz;exact ⟨by have:=this.1;omega,by have:=this.2;omega⟩
  ·simp at h
 ·obtain ⟨x,f,m⟩:=aY.1 h;exact zqo j g (Hj f).1 m
theorem Ul:(outP a held c e).length<=a.fEdges.length+1:=by
 unfold outP Bk;grind
theorem zk5 (f:k<=1001)(h:Sz k c):maOk ⟨c.fBindings⟩=true:=(Dy _).2 (by have:=h.1;simp;omega)
theorem zbu (e:Ev)(env:List (List Ev))(j:EvS env)(st:Stt)(o:st.fGuards.length<=1100000)(f:∀ g∈st.fGuards,WfE g.fCond):∀ (m k:Nat),k<=st.fGuards.length->st.fGuards.length<m+k->Nx N0 e ⟨env⟩ st (some true) m (k:Int)=some (!(st.fGuards.drop k).any (vio env e))
 |0,k,h1,p=>by omega
 |m+1,k,h1,p=>by
  unfold Nx;simp only [aA,A3];by_cases h:k<st.fGuards.length
  ·rw [if_pos (by omega),Ab h,Aw _ k h,any_cons,zp9 j (f _ (aC h)),A1,Ad k (by omega),zbu e env j st o f m (k+1) (by omega) (by omega)];cases vio env e st.fGuards[k]<;>simp [Au,B3]
  grind
theorem zs0 (f:CxA a held)(q:k<=1000)(g:CB held a k c)(e:Ev):S4 N0 a held c e=some (skP a held c e):=by
 have m:=g.lb;have j:=f.lh;obtain ⟨st,p,h,o⟩:=Uh g.st;unfold S4 skP;rw [zpe N0 (by decide) held (by omega) c (by omega),A1,Qn g.st.1 p,o];have:=zbu e (enH held c.fBindings) (Qz (by omega)) st (f.wf.st st h).1 (f.wf.st st h).2 N0 0 (aB _) (by have:=(f.wf.st st h).1;unfold N0;omega);simp_all
theorem Zr (s:Int)(a:Aut)(f:a.fEdges.length<=1000000)(K:List Ed->Option (List Ed)):∀ (m k:Nat) (out:List Ed),k<=a.fEdges.length->a.fEdges.length<m+k->out.length<=k->Kq N0 s a K m ((k:Int),out)=K (out++(a.fEdges.drop k).filter (fun x=>decide (x.fFrom=s)))
 |0,k,out,h1,p,o=>by omega
 |m+1,k,out,h1,p,o=>by
  unfold Kq;simp only [aA,A3];by_cases h:k<a.fEdges.length
  ·have j:=Zr s a f K m (k+1) (out++[a.fEdges[k]]) (by omega) (by omega) (by simp_all);have g:=Zr s a f K m (k+1) out (by omega) (by omega) (by omega);rw [if_pos (by omega),Ar,Ab h,Ab h,Aw _ k h,Ad k (by omega),Bu (by grind) (by omega),j,g,aL];grind
  ·rw [if_neg (by omega),aD (by omega)];simp
theorem zxr (s:Int)(a:Aut)(f:a.fEdges.length<=1000000):Sc N0 a s=some (Bk a s):=by
 have:=Zr s a f (fun y=>some y) N0 0 [] (aB _) (by unfold N0;omega) (by simp);unfold Sc Bk;exact this
variable {kk:Nat}
theorem Xg (u:CxA a held)(z:kk<=1000)(v:CB held a kk c)(e:Ev)(es:List Ed)(j:∀ x∈es,x∈a.fEdges)(B:es.length<=100000)(K:List Cf->List Ma->Option (List Cf×List Ma)) :
  ∀ (m k:Nat) (cs:List Cf) (g:List Ma),k<=es.length->es.length<m+k->cs.length<=k+1->g.length<=k->(∀ d∈cs,cfOk d=true)->(∀ d∈g,maOk d=true)->Il N0 e c held a es K m (cs,g,(k:Int))=K (puts Ba cs (cfO ((es.drop k).filterMap (fun x=>coP a held c x e)))) (puts Az g (maO ((es.drop k).filterMap (fun x=>coP a held c x e))))
 |0,k,cs,g,h1,F,E,D,y,w=>by omega
 |m+1,k,cs,g,h1,F,E,D,y,w=>by
  unfold Il;simp only [aA,A3,Af];by_cases h:k<es.length
  ·have t:=j _ (aC h);have o:=znl u z v t e;rw [if_pos (by omega),Ab h,Aw _ k h,aX,Ad k (by omega)];cases p:coP a held c es[k] e with
   |none =>
    have f:Kp N0 a held c es[k] e=some (cf0,false):=o.trans (by rw [p];rfl);rw [f,A1];simp only [B3];exact Xg u z v e es j B K m (k+1) cs g (by omega) (by omega) (by omega) (by omega) y w
   |some d =>
    have A:=zqo u v t p;have f:Kp N0 a held c es[k] e=some (d,true):=o.trans (by rw [p];rfl);rw [f,A1];simp only [Au,Ar];rw [Ur,Um];by_cases q:d.fState<0
    ·rw [if_pos q,if_pos q,if_pos q,zpf N0 (by decide) _ (zk5 (by omega) A) g w (by omega),A1,Hi];have C:=Mi Az (⟨d.fBindings⟩:Ma) g;exact Xg u z v e es j B K m (k+1) cs _ (by omega) (by omega) (by omega) (by omega) y (zdp (zk5 (by omega) A) w)
    ·rw [if_neg q,if_neg q,if_neg q,zpg N0 (by decide) _ (A.ok (by omega)) cs y (by omega),A1,Hi];have C:=Mi Ba d cs;exact Xg u z v e es j B K m (k+1) _ g (by omega) (by omega) (by omega) (by omega) (zmf (A.ok (by omega)) y) w
  ·rw [if_neg (by omega),aD (by omega)];rfl
theorem zyx (p:CxA a held)(t:a.fEdges.length<=100000)(q:kk<=1000)(j:CB held a kk c)(e:Ev):Sk N0 a held c e=some (setL Ba (cfO (outP a held c e)),setL Az (maO (outP a held c e))):=by
 have m:(Bk a c.fState).length<=100000:=by
  have:=aJ (fun x:Ed=>decide (x.fFrom=c.fState)) a.fEdges;unfold Bk;omega
 have o:=fun cs v u=>Xg p q j e (Bk a c.fState) (fun x h=>(Hj h).1) m (fun k1_1_0y0 k1_1_0y1=>some (k1_1_0y0,k1_1_0y1)) N0 0 cs [] (aB _) (by unfold N0;omega) v (by simp) u (by simp)
 have g:¬c.fState<0:=by have:=j.st;omega
 unfold Sk;simp only [B1,Ar,Kz];rw [zs0 p q j e,A1,zxr _ a (by omega)];simp only [A1];unfold outP setL;rw [Y0,Xs,U2,U2];cases skP a held c e with
 |true =>
  have f:=zpg N0 (by decide) c (j.sz.ok (by omega)) [] (by simp) (by simp);rw [Au,f,A1];have:=o (insU Ba c []) (by simp [insU]) (by simp [insU];exact j.sz.ok (by omega));refine this.trans ?_;have y:puts Ba [] (cfO (if true=true then [c] else []))=insU Ba c []:=by
   rw [if_pos rfl,Ur,if_neg g];rfl
  have w:puts Az [] (maO (if true=true then [c] else []))=[]:=by
   rw [if_pos rfl,Um,if_neg g];rfl
  rw [y,w];rfl
 |false =>
  rw [B3];refine (o [] (by simp) (by simp)).trans ?_;rfl
theorem zm6 (e:Ev)(l:List Cf)(held:List Ev)(a:Aut)(v:List Cf×List Ma×Int)(x:List Cf×List Ma)(f:∀ d∈x.1,cfOk d=true)(o:x.1.length<=100000)(K:List Cf->List Ma->Option (List Cf×List Ma)):∀ (m k:Nat) (cs:List Cf),k<=x.1.length->x.1.length<m+k->cs.length+(x.1.length-k)<=1000000->(∀ d∈cs,cfOk d=true)->Oo N0 e l held a v x K m (cs,(k:Int))=K (puts Ba cs (x.1.drop k)) x.2
 |0,k,cs,h1,t,q,g=>by omega
 |m+1,k,cs,h1,t,q,g=>by
  unfold Oo;simp only [aA,A3];by_cases h:k<x.1.length
  ·have j:=f _ (aC h);have p:=Mi Ba x.1[k] cs;rw [if_pos (by omega),Ab h,zpg N0 (by decide) _ j cs g (by omega),A1,Aw _ k h,Hi,Ad k (by omega)];exact zm6 e l held a v x f o K m (k+1) _ (by omega) (by omega) (by omega) (zmf j g)
  ·rw [if_neg (by omega),aD (by omega)];rfl
theorem zm5 (e:Ev)(l:List Cf)(held:List Ev)(a:Aut)(v:List Cf×List Ma×Int)(j:List Cf)(x:List Ma)(f:∀ d∈x,maOk d=true)(q:x.length<=100000)(K:List Ma->Option (List Cf×List Ma)):∀ (m k:Nat) (cs:List Ma),k<=x.length->x.length<m+k->cs.length+(x.length-k)<=1000000->(∀ d∈cs,maOk d=true)->Om N0 e l held a v j x K m (cs,(k:Int))=K (puts Az cs (x.drop k))
 |0,k,cs,h1,w,u,g=>by omega
 |m+1,k,cs,h1,w,u,g=>by
  unfold Om;simp only [aA,A3];by_cases h:k<x.length
  ·have o:=f _ (aC h);have t:=Mi Az x[k] cs;have p:=zpf N0 (by decide) x[k] o cs g (by omega);rw [if_pos (by omega),Ab h,Aw _ k h,Hi,Ad k (by omega),p,A1];exact zm5 e l held a v j x f q K m (k+1) _ (by omega) (by omega) (by omega) (zdp o g)
  ·rw [if_neg (by omega),aD (by omega)];rfl
theorem zg5 (most:Int)(l:List Ev)(a:Aut)(v:List Cf×List Ma×Int)(x:List Cf×List Ma)(f:∀ d∈x.2,maOk d=true)(p:x.2.length<=1000000)(K:List Ma->List Cf->Option (List Cf×List Ma×Bool)):∀ (m k:Nat) (cs:List Ma),k<=x.2.length->x.2.length<m+k->cs.length+(x.2.length-k)<=1000000->(∀ d∈cs,maOk d=true)->Nk N0 most l a v x K m (cs,(k:Int))=K (puts Az cs (x.2.drop k)) x.1
 |0,k,cs,h1,u,t,g=>by omega
 |m+1,k,cs,h1,u,t,g=>by
  unfold Nk;simp only [aA,A3];by_cases h:k<x.2.length
  ·have j:=f _ (aC h);have q:=Mi Az x.2[k] cs;have o:=zpf N0 (by decide) x.2[k] j cs g (by omega);rw [if_pos (by omega),Ab h,Aw _ k h,Hi,Ad k (by omega),o,A1];exact zg5 most l a v x f p K m (k+1) _ (by omega) (by omega) (by omega) (zdp j g)
  ·rw [if_neg (by omega),aD (by omega)];rfl
theorem zoq {l:List Ma}(h:∀ x∈l,maOk x=true):∀ x∈setL Az l,maOk x=true:=fun x f=>h x ((Cs Ci x l).1 f)
theorem zue (f:CxA a held)(j:kk<=1000)(h:CB held a kk c)(e:Ev):∀ d∈cfO (outP a held c e),cfOk d=true:=fun d g=>(zpr f h (zqx g).1).ok (by omega)
theorem zq0 (f:CxA a held)(m:kk<=1000)(j:CB held a kk c)(e:Ev):∀ d∈maO (outP a held c e),maOk d=true:=fun d h=>by
 obtain ⟨q,g,rfl⟩:=zvv h;exact zk5 (by omega) (zpr f j g)
theorem zm7 (j:CxA a held)(p:a.fEdges.length<=100)(o:kk<=1000)(e:Ev)(l:List Cf)(w:∀ c∈l,CB held a kk c)(B:l.length<=5000)(K:List Cf->List Ma->Option (List Cf×List Ma)) :
  ∀ (m k:Nat) (cs:List Cf) (f:List Ma),k<=l.length->l.length<m+k->cs.length<=101*k->f.length<=101*k->(∀ d∈cs,cfOk d=true)->(∀ d∈f,maOk d=true)->Oq N0 e l held a K m (cs,f,(k:Int))=K (puts Ba cs ((l.drop k).flatMap (fun c=>setL Ba (cfO (outP a held c e))))) (puts Az f ((l.drop k).flatMap (fun c=>setL Az (maO (outP a held c e)))))
 |0,k,cs,f,h1,E,D,C,t,q=>by omega
 |m+1,k,cs,f,h1,E,D,C,t,q=>by
  unfold Oq;simp only [aA,A3];by_cases h:k<l.length
  ·have g:=w _ (aC h);have L:=X8 (c:=Ba) (cfO (outP a held l[k] e));have J:=X8 (c:=Az) (maO (outP a held l[k] e));have I:=R0 (outP a held l[k] e);have G:=Ml (outP a held l[k] e);have F:(outP a held l[k] e).length<=a.fEdges.length+1:=Ul;have u:=zus (zue j o g e);have o2:=zoq (zq0 j o g e);have N:=Xd (c:=Ba) (setL Ba (cfO (outP a held l[k] e))) cs;have M:=Xd (c:=Az) (setL Az (maO (outP a held l[k] e))) f;rw [if_pos (by omega),Ab h,zyx j (by omega) o g e,A1,Aw _ k h,aT,aT,U2,U2,Ad k (by omega)];have A:=fun K=>zm6 e l held a (cs,f,(k:Int)) (setL Ba (cfO (outP a held l[k] e)),setL Az (maO (outP a held l[k] e))) u (by grind) K N0 0 cs (aB _) (by show (setL Ba (cfO (outP a held l[k] e))).length<2000000000+0;omega) (by show cs.length+((setL Ba (cfO (outP a held l[k] e))).length-0)<=1000000;omega) t
   refine (A _).trans ?_;have z:=fun v y K=>zm5 e l held a v y (setL Az (maO (outP a held l[k] e))) o2 (by omega) K N0 0 f (aB _) (by unfold N0;omega) (by omega) q
   refine (z _ _ _).trans ?_;rw [aM,aM];exact zm7 j p o e l w B K m (k+1) (puts Ba cs (setL Ba (cfO (outP a held l[k] e)))) (puts Az f (setL Az (maO (outP a held l[k] e)))) (by omega) (by omega) (by omega) (by omega) (zrx t u) (zlo q o2)
  ·rw [if_neg (by omega),aD (by omega)];rfl
variable {α β:Type}
theorem zfm {c:α->α->Int}(h:TO c)(f:β->List α)(l:List β):setL c (l.flatMap (fun x=>setL c (f x)))=setL c (l.flatMap f):=by
 refine zut h (fun x=>?_);rw [aG,aG];constructor
 ·rintro ⟨y,g,j⟩;exact ⟨y,g,(Cs h _ _).1 j⟩
 ·rintro ⟨y,g,j⟩;exact ⟨y,g,(Cs h _ _).2 j⟩
def cfN (a:Aut)(held:List Ev)(l:List Cf)(e:Ev):List Cf:=setL Ba (l.flatMap (fun c=>cfO (outP a held c e)))
def maN (a:Aut)(held:List Ev)(l:List Cf)(e:Ev):List Ma:=setL Az (l.flatMap (fun c=>maO (outP a held c e)))
theorem zz3 (j:CxA a held)(f:a.fEdges.length<=100)(o:kk<=1000)(e:Ev)(l:List Cf)(p:∀ c∈l,CB held a kk c)(m:l.length<=5000):Sm N0 a held l e=some (cfN a held l e,maN a held l e):=by
 have:=zm7 j f o e l p m (fun h g=>some (h,g)) N0 0 [] [] (aB _) (by unfold N0;omega) (by simp) (by simp) (by simp) (by simp);unfold Sm cfN maN;refine this.trans ?_;rw [aM,<-zfm Cq,<-zfm Ci];rfl
theorem zpo (d:Cf)(g:List Cf)(f:List Ma)(j:g.length<=100000000)(h1:f.length<=100000000):O8 N0 d g f=some (g++cfO [d],f++maO [d]):=by
 unfold O8;rw [A3,Ur,Um,Bu (by grind) (by omega),Bu (by simp only [aV];omega) (by omega)];by_cases h:d.fState<0
 ·simp [h,cfO,maO]
 ·simp [h,cfO,maO]
variable {r:Bg}
theorem Xi (p:CxA r.fa held)(t:kk<=1000)(u:CB held r.fa kk c)(j:∀ y∈held,Bn y=Bn e->y=e)(o:r.fa.fEdges.length<=100)(K:List Cf->List Ma->Option (List Cf×List Ma×Bg×Cf×Ev)) :
  ∀ (m k:Nat) (g:List Cf) (f:List Ma),k<=r.fa.fEdges.length->r.fa.fEdges.length<m+k->g.length<=90000000+k->f.length<=90000000+k->Hw N0 e c r ⟨bndV held r.fa.fVars.toNat c.fBindings⟩ K m ((k:Int),g,f)=K (g++cfO (((r.fa.fEdges.drop k).filter (fun x=>decide (x.fFrom=c.fState))).filterMap (fun x=>coP r.fa held c x e))) (f++maO (((r.fa.fEdges.drop k).filter (fun x=>decide (x.fFrom=c.fState))).filterMap (fun x=>coP r.fa held c x e)))
 |0,k,g,f,h1,E,D,C=>by omega
 |m+1,k,g,f,h1,E,D,C=>by
  unfold Hw;simp only [aA,A3,Af];by_cases h:k<r.fa.fEdges.length
  ·have v:=aC h;rw [if_pos (by omega),Ab h,Aw _ k h,Ad k (by omega),aL];by_cases q:r.fa.fEdges[k].fFrom=c.fState;rotate_left
   ·rw [if_neg q,if_neg (by simpa using q)];exact Xi p t u j o K m (k+1) g f (by omega) (by omega) (by omega) (by omega)
   rw [if_pos q,if_pos (by simpa using q),zgw p t u v j,A1,aX];cases B:coP r.fa held c r.fa.fEdges[k] e with
   |none =>
    simp only [rfC,B3];exact Xi p t u j o K m (k+1) g f (by omega) (by omega) (by omega) (by omega)
   |some d =>
    simp only [rfC,Au];have z:=R0 [d];have w:=Ml [d];simp only [aV] at z w;rw [zpo d g f (by omega) (by omega),D7];have A:=Xi p t u j o K m (k+1) (g++cfO [d]) (f++maO [d]) (by omega) (by omega) (by rw [aF];omega) (by rw [aF];omega);refine A.trans ?_;rw [aK,aK,<-Y0,<-Xs];rfl
  ·rw [if_neg (by omega),aD (by omega)];simp [cfO,maO]
theorem Xh (p:CxA r.fa held)(t:kk<=1000)(u:CB held r.fa kk c)(j:∀ y∈held,Bn y=Bn e->y=e)(o:r.fa.fEdges.length<=100)(K:List Cf->List Ma->Option (List Cf×List Ma×Bg×Cf×Ev)) :
  ∀ (m k:Nat) (g:List Cf) (f:List Ma),k<=r.fa.fEdges.length->r.fa.fEdges.length<m+k->g.length<=90000000+k->f.length<=90000000+k->Hv N0 e c r ⟨bndV held r.fa.fVars.toNat c.fBindings⟩ K m ((k:Int),g,f)=K (g++cfO (((r.fa.fEdges.drop k).filter (fun x=>decide (x.fFrom=c.fState))).filterMap (fun x=>coP r.fa held c x e))) (f++maO (((r.fa.fEdges.drop k).filter (fun x=>decide (x.fFrom=c.fState))).filterMap (fun x=>coP r.fa held c x e)))
 |0,k,g,f,h1,E,D,C=>by omega
 |m+1,k,g,f,h1,E,D,C=>by
  unfold Hv;simp only [aA,A3,Af];by_cases h:k<r.fa.fEdges.length
  ·have v:=aC h;rw [if_pos (by omega),Ab h,Aw _ k h,Ad k (by omega),aL];by_cases q:r.fa.fEdges[k].fFrom=c.fState;rotate_left
   ·rw [if_neg q,if_neg (by simpa using q)];exact Xh p t u j o K m (k+1) g f (by omega) (by omega) (by omega) (by omega)
   rw [if_pos q,if_pos (by simpa using q),zgw p t u v j,A1,aX];cases B:coP r.fa held c r.fa.fEdges[k] e with
   |none =>
    simp only [rfC,B3];exact Xh p t u j o K m (k+1) g f (by omega) (by omega) (by omega) (by omega)
   |some d =>
    simp only [rfC,Au];have z:=R0 [d];have w:=Ml [d];simp only [aV] at z w;rw [zpo d g f (by omega) (by omega),D7];have A:=Xh p t u j o K m (k+1) (g++cfO [d]) (f++maO [d]) (by omega) (by omega) (by rw [aF];omega) (by rw [aF];omega);refine A.trans ?_;rw [aK,aK,<-Y0,<-Xs];rfl
  ·rw [if_neg (by omega),aD (by omega)];simp [cfO,maO]
theorem zpn (p:CxA r.fa held)(hm:HM held r.fheld)(z:kk<=1000)(f:CB held r.fa kk c)(t:∀ y∈held,Bn y=Bn e->y=e)(q:r.fa.fEdges.length<=100)(m:List Cf)(j:List Ma)(P:m.length<=10000000)(h1:j.length<=10000000):Ri N0 m j r c e=some (m++cfO (outP r.fa held c e),j++maO (outP r.fa held c e),r,c,e):=by
 have I:=f.lb;have G:=p.lh;have h:=p.ok.vars;have F:¬c.fState<0:=by have:=f.st;omega
 obtain ⟨st,N,A,M⟩:=Uh f.st;have v:EvS (enH held c.fBindings):=Qz (by omega);have w:=zqi ⟨h.1,h.2⟩ f.bd;have J:=(p.wf.st st A).1;unfold Ri;rw [zz1 N0 (by decide) held r hm h c.fBindings (by omega) f.bd,A1,Qn f.st.1 N];rw [zjw N0 ⟨bndV held r.fa.fVars.toNat c.fBindings⟩ e (vio (enH held c.fBindings) e) st.fGuards (by omega) (by unfold N0;omega) (fun g L=>by
  unfold Kc;have:=zts w v ((p.wf.st st A).2 g L) e;refine (congrArg (fun o=>bnd o fun C=>some C) this).trans ?_;rw [A1]),A1]
 have u:skP r.fa held c e=!(st.fGuards.any (vio (enH held c.fBindings) e)):=by unfold skP;rw [M]
 rw [<-u];unfold outP;rw [Y0,Xs];cases skP r.fa held c e with
 |true =>
  rw [Au,zpo c m j (by omega) (by omega),D7];have O:=R0 [c];have B:=Ml [c];have E:=fun K=>Xi p z f t q K N0 0 (m++cfO [c]) (j++maO [c]) (aB _) (by unfold N0;omega) (by grind) (by rw [aF];simp at B;omega)
  refine (E _).trans ?_;rw [aM];simp [aK,Bk]
 |false =>
  rw [B3];have D:=fun K=>Xh p z f t q K N0 0 m j (aB _) (by unfold N0;omega) (by omega) (by omega)
  refine (D _).trans ?_;rw [aM];simp [Bk,cfO,maO]
theorem zm8 (q:CxA r.fa held)(hm:HM held r.fheld)(t:kk<=1000)(o:∀ y∈held,Bn y=Bn e->y=e)(j:r.fa.fEdges.length<=100)(l:List Cf)(u:∀ c∈l,CB held r.fa kk c)(v:l.length<=5000)(K:List Cf->List Ma->Option (List Cf×List Ma)):∀ (m k:Nat) (g:List Cf) (f:List Ma),k<=l.length->l.length<m+k->g.length<=101*k->f.length<=101*k->O7 N0 e l r K m ((k:Int),g,f)=K (g++(l.drop k).flatMap (fun c=>cfO (outP r.fa held c e))) (f++(l.drop k).flatMap (fun c=>maO (outP r.fa held c e)))
 |0,k,g,f,h1,A,z,w=>by omega
 |m+1,k,g,f,h1,A,z,w=>by
  unfold O7;simp only [aA,A3];by_cases h:k<l.length
  ·have p:=u _ (aC h);have D:=R0 (outP r.fa held l[k] e);have C:=Ml (outP r.fa held l[k] e);have B:(outP r.fa held l[k] e).length<=r.fa.fEdges.length+1:=Ul;have hb:Vq N0 r l[k] e=some (r,l[k],e):=rfl;rw [if_pos (by omega),Ab h,hb,D7];simp only;rw [zpn q hm t p o j g f (by omega) (by omega),D7,Aw _ k h,aT,aT,<-aK,<-aK,Ad k (by omega)];exact zm8 q hm t o j l u v K m (k+1) _ _ (by omega) (by omega) (by rw [aF];omega) (by rw [aF];omega)
  grind
theorem Up (f:α->List β)(n:Nat):∀ l:List α,(∀ x∈l,(f x).length<=n)->(l.flatMap f).length<=n*l.length
 |[],_=>by simp
 |x::l,h=>by
  have h1:=h x (by simp);have j:=Up f n l (fun y g=>h y (aS _ g));rw [aT,aF,bB,Nat.mul_succ];omega
theorem zpp (h:CxA r.fa held)(hm:HM held r.fheld)(m:kk<=1000)(p:∀ y∈held,Bn y=Bn e->y=e)(j:r.fa.fEdges.length<=100)(l:List Cf)(q:∀ c∈l,CB held r.fa kk c)(u:l.length<=5000):S8 N0 r l e=some (cfN r.fa held l e,maN r.fa held l e):=by
 have t:=fun K=>zm8 h hm m p j l q u K N0 0 [] [] (aB _) (by unfold N0;omega) (by simp) (by simp)
 unfold S8;refine (t _).trans ?_;rw [aM,bD,bD];have w:=Up (fun c=>cfO (outP r.fa held c e)) 101 l (fun c _=>by have:=R0 (outP r.fa held c e);have:(outP r.fa held c e).length<=r.fa.fEdges.length+1:=Ul;omega);have v:=Up (fun c=>maO (outP r.fa held c e)) 101 l (fun c _=>by have:=Ml (outP r.fa held c e);have:(outP r.fa held c e).length<=r.fa.fEdges.length+1:=Ul;omega);rw [zv0 N0 (by decide) _ (fun d o=>by
  obtain ⟨c,g,f⟩:=aG.1 o;exact zue h m (q c g) e d f) (by omega),D7,zp6 N0 (by decide) _ (fun d o=>by
  obtain ⟨c,g,f⟩:=aG.1 o;exact zq0 h m (q c g) e d f) (by omega),D7]
 rfl
theorem Xp {e:Exn}(h:WfE e):∃ b:Bool,Ln N0 e=some b:=by
 obtain ⟨z,f,g⟩:=h;obtain ⟨c,m,_⟩:=zpl 200 (by omega) (by omega) z e g f N0 (by unfold N0;omega);obtain ⟨d,j,_⟩:=ztu z e g f N0 (by unfold N0;omega);unfold Ln;simp only [B1,Ar,L3];rw [m,A1,j,A1,A3];split
 ·exact ⟨_,rfl⟩
 ·exact ⟨_,rfl⟩
theorem zpd (l:List Gd)(f:∀ g∈l,WfE g.fCond)(j:l.length<=1100000):∀ (m k:Nat),k<=l.length->l.length<m+k->∃ b:Bool,Ou N0 l (some true) m (k:Int)=some b
 |0,k,h1,o=>by omega
 |m+1,k,h1,o=>by
  unfold Ou;simp only [aA,A3,Af];by_cases h:k<l.length
  ·obtain ⟨b,hb⟩:=Xp (f _ (aC h));rw [if_pos (by omega),Ab h,hb,A1,Ad k (by omega)];cases b with
   |true=>rw [Au];exact zpd l f j m (k+1) (by omega) (by omega)
   |false=>rw [B3];exact ⟨_,rfl⟩
  ·rw [if_neg (by omega)];exact ⟨_,rfl⟩
theorem zva (st:Stt)(f:st.fGuards.length<=1100000/\∀ g∈st.fGuards,WfE g.fCond):∃ b:Bool,Sn N0 st.fGuards=some b:=zpd st.fGuards f.2 f.1 N0 0 (aB _) (by have:=f.1;unfold N0;omega)
theorem zdd (a:Aut)(v:Int)(x:Ed)(ys:List Exn)(f:x.fChecks=ys.map Al)(j:∀ y∈ys,WfE y)(p:ys.length<=1100000)(P:Prop)(K:Option Bool)(o:∃ b:Bool,K=some b/\(b=true->P)):∀ (m k:Nat),k<=ys.length->ys.length<m+k->∃ b:Bool,Ov N0 a v x K m (k:Int)=some b/\(b=true->P)
 |0,k,h1,q=>by omega
 |m+1,k,h1,q=>by
  unfold Ov;have g:x.fChecks.length=ys.length:=by rw [f,aA]
  simp only [aA,A3,Af,g];by_cases h:k<ys.length
  ·obtain ⟨b,hb⟩:=Xp (j _ (aC h));rw [if_pos (by omega),zkc f h,hb,A1,Ad k (by omega)];cases b with
   |true=>rw [Au];exact zdd a v x ys f j p P K o m (k+1) (by omega) (by omega)
   |false=>rw [B3];exact ⟨false,rfl,fun h=>by cases h⟩
  ·rw [if_neg (by omega)];exact o
def FewA (a:Aut):Prop:=a.fEdges.length<=40/\∀ x∈a.fEdges,x.fOpens.length<=12
theorem zlz (a:Aut)(t:WfA a)(K:Option Bool)(u:∃ b:Bool,K=some b/\(b=true->a.fEdges.length<=40)):∀ (m k:Nat),k<=a.fEdges.length->k<=60->60<m+k->(∀ x∈a.fEdges.take k,x.fOpens.length<=12)->∃ b:Bool,G5 N0 a K m (k:Int)=some b/\(b=true->FewA a)
 |0,k,h1,A,z,p=>by omega
 |m+1,k,h1,A,z,p=>by
  have g:(60<=k\/a.fEdges.length<=k)->∃ b:Bool,K=some b/\(b=true->FewA a):=fun I=>by
   obtain ⟨b,B,v⟩:=u;refine ⟨b,B,fun hb=>⟨v hb,fun x f=>p x ?_⟩⟩;have:=v hb;rw [aN (by omega)];exact f
  have no:∃ b:Bool,some false=some b/\(b=true->FewA a):=⟨false,rfl,fun h=>by cases h⟩;unfold G5;simp only [aA,A3,B1,Ar,Ic,F4,Af,Au,B3];by_cases h:k<a.fEdges.length;rotate_left
  ·rw [if_neg (by omega)];exact g (by omega)
  rw [if_pos (by omega)];by_cases y:k<60;rotate_left
  ·rw [if_neg (by omega)];exact g (by omega)
  rw [if_pos (by omega),Ab h,Ad k (by omega)];have wx:=t.ed _ (aC h);obtain ⟨b,hb⟩:=Xp wx.cond;rw [hb,A1];cases b with
  |false=>rw [B3];exact no
  |true =>
  rw [Au];split
  ·exact no
  split
  ·exact no
  split
  ·exact no
  split
  ·exact no
  split
  ·exact no
  rename_i G F E D C;obtain ⟨ys,q,j⟩:=wx.checks;have o:ys.length<=1100000:=by have:=wx.lc;rw [q,aA] at this;exact this
  have w:=zlz a t K u m (k+1) (by omega) (by omega) (by omega) (fun x f=>by
   rw [aE h] at f;rcases aQ.1 f with f|f
   ·exact p x f
   ·rw [aH.1 f];omega)
  exact zdd a (k:Int) _ ys q j o (FewA a) _ w N0 0 (aB _) (by unfold N0;omega)
theorem zde (a:Aut)(g:WfA a)(P:Prop)(K:Option Bool)(f:∃ b:Bool,K=some b/\(b=true->P)):∀ (m k:Nat),k<=a.fStates.length->k<=30->30<m+k->∃ b:Bool,Im N0 a K m (k:Int)=some b/\(b=true->P)
 |0,k,h1,q,p=>by omega
 |m+1,k,h1,q,p=>by
  have no:∃ b:Bool,some false=some b/\(b=true->P):=⟨false,rfl,fun h=>by cases h⟩;unfold Im;simp only [aA,A3,B1,Ar,Kr,G4,Af,Au,B3];by_cases h:k<a.fStates.length;rotate_left
  ·rw [if_neg (by omega)];exact f
  rw [if_pos (by omega)];by_cases o:k<30;rotate_left
  ·rw [if_neg (by omega)];exact f
  have j:=zde a g P K f m (k+1) (by omega) (by omega) (by omega);obtain ⟨b,hb⟩:=zva _ (g.st _ (aC h));have hi:∀ Q:Stt->Option Bool,idx a.fStates (k:Int) Q=Q a.fStates[k]:=fun Q=>Ab h Q
  rw [if_pos (by omega),Ad k (by omega)];simp only [hi,hb,A1];repeat' split;all_goals first|exact no|(cases b<;>first|(rw [Au];exact j)|(rw [B3];exact no))|skip
theorem zvh (a:Aut)(f:WfA a):∃ b:Bool,Ll N0 a=some b/\(b=true->FewA a):=by
 unfold Ll;refine zde a f (FewA a) _ ?_ N0 0 (aB _) (by omega) (by unfold N0;omega);refine zlz a f _ ?_ N0 0 (aB _) (by omega) (by unfold N0;omega) (by simp);simp only [B1,Ar,Io,aA,A3];split
 ·exact ⟨_,rfl,fun h=>by simp at h;omega⟩
 ·exact ⟨_,rfl,fun h=>by cases h⟩
theorem zc5 (l:List Ev)(j:l.length<=1000000)(a:Aut)(K:List (Rf×Ev)->Option (Option Bg×Int)):∀ (m k:Nat) (f:List (Rf×Ev)),k<=l.length->l.length<m+k->Q5 N0 l a K m ((k:Int),f)=K ((l.drop k).foldl (fun m e=>mput m (Bn e) e) f)
 |0,k,f,h1,o=>by omega
 |m+1,k,f,h1,o=>by
  unfold Q5;simp only [aA,A3];by_cases h:k<l.length
  ·have g:Qi N0 l[k]=some (Bn l[k]):=rfl;rw [if_pos (by omega),Ab h,g,A1,zu0,Aw _ k h,foldl_cons,Ad k (by omega)];exact zc5 l j a K m (k+1) _ (by omega) (by omega)
  grind
theorem zjz (a:Aut)(v:WfA a)(l:List Ev)(j:l.length<=1000000):∃ q:Int,El N0 a l=some q/\((q≠0/\Qa N0 a l=some (none,q))\/(q=0/\AOk a/\zyr l/\Lb N0 a=some 0/\Et l=0/\∃ o,HM l o/\Qa N0 a l=some (some ⟨a,o⟩,0))):=by
 obtain ⟨r,u,t,p⟩:=zdh N0 (by decide) a v;unfold El Qa;rw [u,t,A1,A1,Af,A3,Af,A3];by_cases h:r=0;rotate_left
 ·simp_all
 rw [if_pos h,if_pos h,Y4 N0 l (by unfold N0;omega) j,zz2 N0 l (by unfold N0;omega) (by decide) j,A1,A1,Af,A3];refine ⟨Et l,rfl,?_⟩;by_cases g:Et l=0;rotate_left
 ·simp_all
 rw [if_pos g];have f:=zjd g;refine Or.inr ⟨g,p h,f,by rw [h] ,g,l.foldl (fun m e=>mput m (Bn e) e) [],fun r=>?_,?_⟩
 ·rw [zq8 r l [] f.st];simp [mlk]
 ·refine (zc5 l j a _ N0 0 [] (aB _) (by unfold N0;omega)).trans ?_;rw [aM]
theorem zyj (p:CxA a held)(g:Str Dj held)(m:CB held a k c)(f:x∈a.fEdges)(t:e∈held)(h:coP a held c x e=some d)(q:0<=d.fState):CB held a (k+1) d:=by
 have o:=zqo p m f h;have j:=zeo h;have eo:=p.ok.ed x f;refine ⟨?_,?_,?_,o.1,o.2⟩
 ·rw [j] at q ⊢;exact ⟨q,eo.tgt.2⟩
 ·rw [j];intro b hb;rcases aQ.1 hb with hb|hb
  ·exact m.bd b hb
  ·rw [aH.1 hb];refine ⟨eo.var,?_⟩;rw [zk7 g t];rfl
 ·rw [j];exact (ztw e.fTime x.fOpens m.ss).filter _
theorem CB.up (h:CB held a k c):CB held a (k+1) c:=⟨h.st,h.bd,h.ss,by have:=h.lb;omega,by have:=h.ls;omega⟩
theorem zvn (m:CxA a held)(g:Str Dj held)(j:CB held a k c)(o:e∈held)(h:d∈outP a held c e)(q:0<=d.fState):CB held a (k+1) d:=by
 unfold outP at h;rcases aQ.1 h with h|h
 ·split at h
  ·rw [aH.1 h];exact j.up
  ·simp at h
 ·obtain ⟨x,f,p⟩:=aY.1 h;exact zyj m g j (Hj f).1 o p q
theorem zwn (h:d∈cfN a held l e):∃ c∈l,d∈outP a held c e/\0<=d.fState:=by
 unfold cfN at h;obtain ⟨c,h1,f⟩:=aG.1 ((Cs Cq _ _).1 h);exact ⟨c,h1,zqx f⟩
theorem zqy (g:CxA a held)(f:Str Dj held)(m:∀ c∈l,CB held a k c)(h:e∈held):∀ d∈cfN a held l e,CB held a (k+1) d:=fun d j=>by
 obtain ⟨c,h1,p,o⟩:=zwn j;exact zvn g f (m c h1) h p o
theorem zu2 (g:CxA a held)(h:k<=1000)(j:∀ c∈l,CB held a k c)(e:Ev):∀ d∈maN a held l e,maOk d=true:=fun d f=>by
 unfold maN at f;obtain ⟨c,h1,m⟩:=aG.1 ((Cs Ci _ _).1 f);exact zq0 g h (j c h1) e d m
theorem zvw (f:a.fEdges.length<=100)(l:List Cf)(e:Ev):(maN a held l e).length<=101*l.length:=by
 unfold maN;have g:=Up (fun c=>maO (outP a held c e)) 101 l (fun c _=>by have:=Ml (outP a held c e);have:(outP a held c e).length<=a.fEdges.length+1:=Ul;omega);have:=X8 (c:=Az) (l.flatMap (fun c=>maO (outP a held c e)));omega
theorem zuy (l s:List Ma)(f:Str Az s)(g:Str Az l):l.length<=(puts Az s l).length:=by
 have:puts Az s l=puts Az l s:=Str.uniq Ci (Xb Ci _ _ f) (Xb Ci _ _ g) (fun x=>by rw [Qk Ci,Qk Ci,Or.comm]);rw [this];exact zg2 s l
def wiP (most:Nat)(a:Aut)(held:List Ev):List Ev->List Cf->List Ma->List Cf×List Ma×Bool
 |[],cs,f=>(cs,f,true)
 |e::r,cs,f=>if most<(cfN a held cs e).length\/most<(puts Az f (maN a held cs e)).length then ([],[],false) else wiP most a held r (cfN a held cs e) (puts Az f (maN a held cs e))
theorem z8a {l:List Ev}(p:CxA a l)(j:Str Dj l)(g:a.fEdges.length<=100)(most:Nat)(hm:most<=4096)(t:1<=most)(B:l.length<=900) :
  ∀ (m k:Nat) (cs:List Cf) (f:List Ma),k<=l.length->l.length<m+k->cs.length<=most->f.length<=most->(∀ c∈cs,CB l a k c)->(∀ d∈f,maOk d=true)->I5 N0 (most:Int) l a (fun w v=>some (w,v,true)) m (cs,f,(k:Int))=some (wiP most a l (l.drop k) cs f)
 |0,k,cs,f,h1,F,E,D,q,u=>by omega
 |m+1,k,cs,f,h1,F,E,D,q,u=>by
  unfold I5;simp only [aA,A3];by_cases h:k<l.length
  ·have C:=aC h;have z:=zvw (held:=l) g cs l[k];have o:=zu2 p (by omega) q l[k];rw [if_pos (by omega),Ab h,zz3 p g (by omega) l[k] cs q (by omega),A1,Aw _ k h];have y:=fun K=>zg5 (most:Int) l a (cs,f,(k:Int)) (cfN a l cs l[k],maN a l cs l[k]) o (by grind) K N0 0 f (aB _) (by show (maN a l cs l[k]).length<2000000000+0;omega) (by show f.length+((maN a l cs l[k]).length-0)<=1000000;omega) u
   refine (y _).trans ?_;rw [aM];simp only [B1,Ar,K8,A3,Au];have A:=z8a p j g most hm t B m (k+1) (cfN a l cs l[k]) (puts Az f (maN a l cs l[k])) (by omega) (by omega);unfold wiP;by_cases I:most<(cfN a l cs l[k]).length
   ·simp_all
   rw [if_neg (by omega)];by_cases G:most<(puts Az f (maN a l cs l[k])).length
   ·simp_all
   rw [if_neg (by omega),if_neg (by omega),Ad k (by omega)];exact A (by omega) (by omega) (zqy p j q C) (zlo u o)
  ·rw [if_neg (by omega),aD (by omega)];rfl
theorem cb0 {l:List Ev}(ha:AOk a):CB l a 0 cf0:=⟨⟨by simp,by have:=ha.st;simp;omega⟩,fun b hb=>by simp at hb,by simp [SS],by simp,by simp⟩
theorem zp8 {l:List Ev}(j:CxA a l)(f:Str Dj l)(h:a.fEdges.length<=100)(most:Nat)(hm:most<=4096)(g:1<=most)(m:l.length<=900):Ry N0 a l (most:Int)=some (wiP most a l l [cf0] []):=by
 unfold Ry;have hb:Vo N0=some cf0:=rfl;rw [hb,A1];exact z8a j f h most hm g m N0 0 [cf0] [] (aB _) (by unfold N0;omega) (by simp;omega) (by simp) (fun c o=>by rw [aH.1 o];exact cb0 j.ok) (by simp)
theorem zls {l:List Ev}(v:CxA r.fa l)(hm:HM l r.fheld)(j:Str Dj l)(t:r.fa.fEdges.length<=100)(E:l.length<=20)(K:List Cf->List Ma->Option (List Cf×List Ma×Int)) :
  ∀ (m k:Nat) (cs:List Cf) (all:List Ma),k<=l.length->l.length<m+k->cs.length<=150->all.length<=150*k->(∀ c∈cs,CB l r.fa k c)->(∀ d∈all,maOk d=true)->(wiP 150 r.fa l (l.drop k) cs (setL Az all)).2.2=true ->
   ∃ g f,He N0 l r K m (cs,(k:Int),all)=K g f/\wiP 150 r.fa l (l.drop k) cs (setL Az all)=(g,setL Az f,true)/\(∀ d∈f,maOk d=true)/\f.length<=4096/\g.length<=150/\(setL Az f).length<=max 150 (setL Az all).length/\(∀ c∈g,CB l r.fa l.length c)
 |0,k,cs,all,h1,J,B,I,u,A,p=>by omega
 |m+1,k,cs,all,h1,J,B,I,u,A,p=>by
  unfold He;simp only [aA,A3];by_cases h:k<l.length
  ·have z:=aC h;have w:∀ y∈l,Bn y=Bn l[k]->y=l[k]:=fun y C L=>by
    have O:=zk7 j C;have N:=zk7 j z;simp_all
   rw [Aw _ k h] at p ⊢;unfold wiP at p ⊢;have eM:puts Az (setL Az all) (maN r.fa l cs l[k])=setL Az (all++maN r.fa l cs l[k]):=by unfold setL;rw [<-U2]
   have G:=zuy (maN r.fa l cs l[k]) (setL Az all) (Gi Ci _) (Gi Ci _);by_cases q:150<(cfN r.fa l cs l[k]).length\/150<(puts Az (setL Az all) (maN r.fa l cs l[k])).length
   ·rw [if_pos q] at p;cases p
   rw [if_neg q] at p ⊢;have o:=zu2 v (by omega) u l[k];rw [if_pos (by omega),Ab h,zpp v hm (by omega) w t cs u (by omega),A1];have D:IntKind.wrap .i64 (((all.length:Nat):Int)+(((maN r.fa l cs l[k]).length:Nat):Int))=((all.length+(maN r.fa l cs l[k]).length:Nat):Int):=by rw [Cu _ (by omega)];omega
   simp only [B1,Ar,J2,Au,A3];rw [if_neg (by omega),if_neg (by omega),D,if_neg (by omega),Bu (by omega) (by omega),Ad k (by omega)];rw [eM] at p ⊢;obtain ⟨g,f,V,U,T,S,R,Q,P⟩:=zls v hm j t E K m (k+1) (cfN r.fa l cs l[k]) (all++maN r.fa l cs l[k]) (by omega) (by omega) (by omega) (by rw [aF];omega) (zqy v j u z) (fun d M=>by
    grind) p
   grind
  ·rw [if_neg (by omega)];have F:k=l.length:=by omega
   rw [aD (by omega)];exact ⟨cs,all,rfl,rfl,A,by omega,B,by omega,by rw [<-F];exact u⟩
theorem zv3 (a:Aut)(g:WfA a)(l:List Ev):∃ b:Bool,La N0 a l=some b/\(b=true->FewA a/\l.length<=12/\∃ q:Int,El N0 a l=some q/\(q=0->(wiP 150 a l l [cf0] []).2.2=true)):=by
 obtain ⟨b,y,w⟩:=zvh a g;unfold La;simp only [B1,Ar,Ia];rw [y,A1,zxs N0 l (by decide),Af,A1];cases b with
 |false=>rw [B3,Au];simp_all
 |true =>
  rw [Au];cases j:fewE l with
  |false=>simp only [Bool.not_false,Au];simp_all
  |true =>
   simp only [Bool.not_true,B3];obtain ⟨z,_⟩:=zss j;obtain ⟨q,t,p⟩:=zjz a g l (by omega);rw [t,A1,Af,A3];rcases p with ⟨h,_⟩|⟨h,ha,u,_,_,_⟩
   ·simp_all
   ·have o:=w rfl;have f:CxA a l:=⟨g,ha,fun x f=>by have:=o.2 x f;omega,by omega⟩;have m:=zp8 f u.st (by have:=o.1;omega) 150 (by omega) (by omega) (by omega);have v:((150:Nat):Int)=150:=rfl;rw [v] at m;rw [if_pos h,m,A1];simp_all
theorem zpa {l:List Ev}(v:WfA a)(w:FewA a)(I:l.length<=20)(hb:El N0 a l=some 0)(o:(wiP 150 a l l [cf0] []).2.2=true) :
  ∃ cs g,wiP 150 a l l [cf0] []=(cs,g,true)/\Uj N0 a l=some (cs,g,0)/\g.length<=150/\(∀ d∈g,maOk d=true):=by
 obtain ⟨q,u,D⟩:=zjz a v l (by omega);rw [hb] at u;have E:q=0:=(Option.some.inj u).symm;rcases D with ⟨h,_⟩|⟨_,ha,G,_,_,F,hm,f⟩
 ·exact absurd E h
 have m:CxA a l:=⟨v,ha,fun x m=>by have:=w.2 x m;omega,by omega⟩;have p:a.fEdges.length<=100:=by have:=w.1;omega
 have t:setL Az ([]:List Ma)=[]:=rfl;obtain ⟨cs,all,L,A,z,O,N,y,M⟩:=zls (r:=⟨a,F⟩) m hm G.st p I (fun C B=>bndM 62 (Lu N0 B) fun j=>some (C,j,0)) N0 0 [cf0] [] (aB _) (by unfold N0;omega) (by simp) (by simp) (fun c J=>by rw [aH.1 J];exact cb0 ha) (by simp) (by rw [aM,t];exact o);rw [aM,t] at A;refine ⟨cs,setL Az all,A,?_,by rw [t] at y;simpa using y,zoq z⟩;unfold Uj bndP;rw [f];simp only [Af,A3];have K:U4 N0=some cf0:=rfl;rw [if_pos trivial,K,A1];refine L.trans ?_;rw [zp6 N0 (by decide) all z (by omega),D7]
def tau (n:Nat)(i:Int):Int:=if i<=0 then i else (n:Int)-i
variable {n:Nat}{i:Int}
theorem Fq (h:i<n):tau n (tau n i)=i:=by unfold tau;split<;>(try split)<;>omega
theorem Ft (f:0<=i)(h:i<n):0<=tau n i/\tau n i<n:=by unfold tau;split<;>omega
theorem zjc (h:i<n):tau n i<0 ↔ i<0:=by unfold tau;split<;>omega
theorem ztj (h:i<n):tau n i<n:=by unfold tau;split<;>omega
def rnE (n:Nat)(x:Ed):Ed:={ x with fFrom:=tau n x.fFrom,fTo:=tau n x.fTo }
def rnC (n:Nat)(c:Cf):Cf:={ c with fState:=tau n c.fState }
structure Rn (a b:Aut):Prop where
 vars:b.fVars=a.fVars
 scopes:b.fScopes=a.fScopes
 len:b.fStates.length=a.fStates.length
 st:∀ s:Int,0<=s->s<a.fStates.length->b.fStates[(tau a.fStates.length s).toNat]? = a.fStates[s.toNat]?
 ed:∀ s:Int,0<=s->s<a.fStates.length->Bk b (tau a.fStates.length s)=(Bk a s).map (rnE a.fStates.length)
section
variable {a b:Aut} (H:Rn a b)
include H
theorem zfr (f:0<=s)(h:s<a.fStates.length):Hl b (tau a.fStates.length s)=Hl a s:=by
 unfold Hl;rw [H.st s f h]
theorem zyu (held:List Ev)(g:0<=c.fState)(h:c.fState<a.fStates.length)(x:Ed)(e:Ev):coP b held (rnC a.fStates.length c) (rnE a.fStates.length x) e=(coP a held c x e).map (rnC a.fStates.length):=by
 have f:gdP b (rnC a.fStates.length c) (rnE a.fStates.length x) (enH held c.fBindings) e=gdP a c x (enH held c.fBindings) e:=by
  unfold gdP;show (Hl b (tau a.fStates.length c.fState)).any _=_;rw [zfr H g h];rfl
 unfold coP;show (if x.fType=e.fType/\gdP b (rnC a.fStates.length c) (rnE a.fStates.length x) (enH held c.fBindings) e=false/\trR (enH held c.fBindings) x.fCond x.fVar e=true/\x.fLimits.all (keP (stN c x e) e.fTime)=true/\ckP x (enH (e::held) (bdN c x e))=true then some (⟨tau a.fStates.length x.fTo,bdN c x e,(stN c x e).filter (ncl x)⟩:Cf) else none)=_;rw [f];split<;>rfl
theorem ztk (held:List Ev)(f:0<=c.fState)(h:c.fState<a.fStates.length)(e:Ev):outP b held (rnC a.fStates.length c) e=(outP a held c e).map (rnC a.fStates.length):=by
 have g:skP b held (rnC a.fStates.length c) e=skP a held c e:=by
  unfold skP;show (!(Hl b (tau a.fStates.length c.fState)).any _)=_;rw [zfr H f h];rfl
 unfold outP;rw [g,map_append];congr 1
 ·split<;>rfl
 ·show (Bk b (tau a.fStates.length c.fState)).filterMap _=_;rw [H.ed _ f h,filterMap_map,List.map_filterMap];congr 1;funext x;exact zyu H held f h x e
omit H in
theorem ztm:∀ {l:List Cf},(∀ d∈l,d.fState<n)->cfO (l.map (rnC n))=(cfO l).map (rnC n)
 |[],_=>rfl
 |d::l,h=>by
  have f:(rnC n d).fState<0 ↔ d.fState<0:=zjc (h d (aU ..));rw [map_cons,Ur,Ur,ztm (fun d f=>h d (aS _ f))];by_cases q:d.fState<0
  ·rw [if_pos q,if_pos (f.2 q)]
  ·rw [if_neg q,if_neg (fun k=>q (f.1 k))];rfl
omit H in
theorem ztl:∀ {l:List Cf},(∀ d∈l,d.fState<n)->maO (l.map (rnC n))=maO l
 |[],_=>rfl
 |d::l,h=>by
  have f:(rnC n d).fState<0 ↔ d.fState<0:=zjc (h d (aU ..));rw [map_cons,Um,Um,ztl (fun d f=>h d (aS _ f))];by_cases q:d.fState<0
  ·rw [if_pos q,if_pos (f.2 q)];rfl
  ·rw [if_neg q,if_neg (fun k=>q (f.1 k))]
omit H in
theorem ztv (ha:AOk a)(h:c.fState<a.fStates.length):∀ d∈outP a held c e,d.fState<a.fStates.length:=fun d f=>by
 unfold outP at f;rcases aQ.1 f with f|f
 ·split at f
  ·rw [aH.1 f];exact h
  ·simp at f
 ·obtain ⟨x,g,f⟩:=aY.1 f;rw [zeo f];exact (ha.ed x (Hj g).1).tgt.2
theorem zx7 (ha:AOk a){cs:List Cf}(g:∀ c∈cs,CB held a k c)(e:Ev):cfN b held (setL Ba (cs.map (rnC a.fStates.length))) e=setL Ba ((cfN a held cs e).map (rnC a.fStates.length)):=by
 refine Str.uniq Cq (Gi Cq _) (Gi Cq _) (fun d=>?_);have key:∀ c∈cs,cfO (outP b held (rnC a.fStates.length c) e)=(cfO (outP a held c e)).map (rnC a.fStates.length):=fun c h=>by
  rw [ztk H held (g c h).st.1 (g c h).st.2,ztm (ztv ha (g c h).st.2)]
 unfold cfN;rw [Cs Cq,Cs Cq,aG,aP];constructor
 ·rintro ⟨p,h1,o⟩;obtain ⟨c,f,rfl⟩:=aP.1 ((Cs Cq _ _).1 h1);rw [key c f] at o;obtain ⟨m,j,rfl⟩:=aP.1 o;exact ⟨m,(Cs Cq _ _).2 (aG.2 ⟨c,f,j⟩),rfl⟩
 ·rintro ⟨m,h1,rfl⟩;obtain ⟨c,f,j⟩:=aG.1 ((Cs Cq _ _).1 h1);exact ⟨rnC a.fStates.length c,(Cs Cq _ _).2 (aP.2 ⟨c,f,rfl⟩),by rw [key c f];exact aP.2 ⟨m,j,rfl⟩⟩
theorem zx6 (ha:AOk a){cs:List Cf}(j:∀ c∈cs,CB held a k c)(e:Ev):maN b held (setL Ba (cs.map (rnC a.fStates.length))) e=maN a held cs e:=by
 refine Str.uniq Ci (Gi Ci _) (Gi Ci _) (fun d=>?_);have key:∀ c∈cs,maO (outP b held (rnC a.fStates.length c) e)=maO (outP a held c e):=fun c h=>by
  rw [ztk H held (j c h).st.1 (j c h).st.2,ztl (ztv ha (j c h).st.2)]
 unfold maN;rw [Cs Ci,Cs Ci,aG,aG];constructor
 ·rintro ⟨m,h1,g⟩;obtain ⟨c,f,rfl⟩:=aP.1 ((Cs Cq _ _).1 h1);rw [key c f] at g;exact ⟨c,f,g⟩
 ·rintro ⟨c,f,g⟩;exact ⟨rnC a.fStates.length c,(Cs Cq _ _).2 (aP.2 ⟨c,f,rfl⟩),by rw [key c f];exact g⟩
theorem zx5 {l:List Ev}(j:CxA a l)(g:Str Dj l):∀ (r:List Ev) (k:Nat) (cs:List Cf) (f:List Ma),(∀ e∈r,e∈l)->(∀ c∈cs,CB l a k c)->(wiP 150 a l r cs f).2.2=true ->
  (wiP 150 b l r (setL Ba (cs.map (rnC a.fStates.length))) f).2.1=(wiP 150 a l r cs f).2.1/\(wiP 150 b l r (setL Ba (cs.map (rnC a.fStates.length))) f).2.2=true
 |[],k,cs,f,_,_,_=>⟨rfl,rfl⟩
 |e::r,k,cs,f,o,m,h=>by
  unfold wiP at h ⊢;rw [zx7 H j.ok m,zx6 H j.ok m];by_cases q:150<(cfN a l cs e).length\/150<(puts Az f (maN a l cs e)).length
  ·rw [if_pos q] at h;simp at h
  rw [if_neg q] at h ⊢;have p:=X8 (c:=Ba) ((cfN a l cs e).map (rnC a.fStates.length));rw [aA] at p;rw [if_neg (by omega)];exact zx5 j g r (k+1) _ _ (fun e t=>o e (aS _ t)) (zqy j g m (o e (aU ..))) h
theorem znd {l:List Ev}(f:WfA a)(u:WfA b)(o:FewA a)(v:FewA b)(B:l.length<=20)(p:El N0 a l=some 0)(w:El N0 b l=some 0)(m:(wiP 150 a l l [cf0] []).2.2=true) :
  ∃ g,Gf N0 a l=some (g,0)/\Gf N0 b l=some (g,0)/\(∀ d∈g,maOk d=true)/\g.length<=150:=by
 obtain ⟨cs,g,O,N,M,L⟩:=zpa f o B p m;obtain ⟨q,A,C⟩:=zjz a f l (by omega);rw [p] at A;have D:q=0:=(Option.some.inj A).symm;rcases C with ⟨h,_⟩|⟨_,ha,E,_⟩
 ·exact absurd D h
 have t:CxA a l:=⟨f,ha,fun x t=>by have:=o.2 x t;omega,by omega⟩;have I:setL Ba ([cf0].map (rnC a.fStates.length))=[cf0]:=zjf Cq (by simp [Str,rnC,tau]);obtain ⟨w1,z⟩:=zx5 H t E.st l 0 [cf0] [] (fun e F=>F) (fun c G=>by rw [aH.1 G];exact cb0 ha) m;have y:setL Ba ([cf0].map (rnC a.fStates.length))=[cf0]:=I;rw [y] at w1 z;obtain ⟨P,j,K,J,_,_⟩:=zpa u v B w z;rw [O,K] at w1;have:j=g:=w1;subst this;refine ⟨j,?_,?_,L,M⟩
 ·unfold Gf;rw [N,A1]
 ·unfold Gf;rw [J,A1]
end
def FewB (a:Aut):Prop:=FewA a/\a.fStates.length<=20
theorem zc0 (a:Aut)(u:WfA a)(K:Option Bool)(v:∃ b:Bool,K=some b/\(b=true->a.fEdges.length<=40/\a.fStates.length<=20)):∀ (m k:Nat),k<=a.fEdges.length->k<=60->60<m+k->(∀ x∈a.fEdges.take k,x.fOpens.length<=12)->∃ b:Bool,G5 N0 a K m (k:Int)=some b/\(b=true->FewB a)
 |0,k,h1,A,z,p=>by omega
 |m+1,k,h1,A,z,p=>by
  have g:(60<=k\/a.fEdges.length<=k)->∃ b:Bool,K=some b/\(b=true->FewB a):=fun I=>by
   obtain ⟨b,B,q⟩:=v;refine ⟨b,B,fun hb=>⟨⟨(q hb).1,fun x f=>p x ?_⟩,(q hb).2⟩⟩;have:=(q hb).1;rw [aN (by omega)];exact f
  have no:∃ b:Bool,some false=some b/\(b=true->FewB a):=⟨false,rfl,fun h=>by cases h⟩;unfold G5;simp only [aA,A3,B1,Ar,Ic,F4,Af,Au,B3];by_cases h:k<a.fEdges.length;rotate_left
  ·rw [if_neg (by omega)];exact g (by omega)
  rw [if_pos (by omega)];by_cases y:k<60;rotate_left
  ·rw [if_neg (by omega)];exact g (by omega)
  rw [if_pos (by omega),Ab h,Ad k (by omega)];have wx:=u.ed _ (aC h);obtain ⟨b,hb⟩:=Xp wx.cond;rw [hb,A1];cases b with
  |false=>rw [B3];exact no
  |true =>
  rw [Au];split
  ·exact no
  split
  ·exact no
  split
  ·exact no
  split
  ·exact no
  split
  ·exact no
  rename_i G F E D C;obtain ⟨ys,t,j⟩:=wx.checks;have o:ys.length<=1100000:=by have:=wx.lc;rw [t,aA] at this;exact this
  have w:=zc0 a u K v m (k+1) (by omega) (by omega) (by omega) (fun x f=>by
   rw [aE h] at f;rcases aQ.1 f with f|f
   ·exact p x f
   ·rw [aH.1 f];omega)
  exact zdd a (k:Int) _ ys t j o (FewB a) _ w N0 0 (aB _) (by unfold N0;omega)
theorem zvi (a:Aut)(f:WfA a):∃ b:Bool,Ll N0 a=some b/\(b=true->FewB a):=by
 unfold Ll;refine zde a f (FewB a) _ ?_ N0 0 (aB _) (by omega) (by unfold N0;omega);refine zc0 a f _ ?_ N0 0 (aB _) (by omega) (by unfold N0;omega) (by simp);simp only [B1,Ar,Io,aA,A3];split
 ·exact ⟨_,rfl,fun h=>by simp at h;omega⟩
 ·exact ⟨_,rfl,fun h=>by cases h⟩
theorem zp7 (a:Aut)(f:WfA a)(l:List Ev)(h:La N0 a l=some true):FewB a:=by
 obtain ⟨b,j,g⟩:=zvi a f;cases b with
 |true=>exact g rfl
 |false =>
  unfold La at h;simp only [B1,Ar,Ia] at h;rw [j,A1,Af,B3,Au] at h;cases h
theorem X4 {l:List α}(h:l.length<=1000000000):Cl n l=some l:=by unfold Cl;exact if_pos h
theorem R4 {es:List Exn}(h:k<es.length)(K:Exn->Option β):idxD C8 (es.map Al) (k:Int) K=K es[k]:=by
 unfold idxD;rw [if_pos (by omega)];simp only [Int.toNat_natCast,getElem?_map,aO h,Option.map_some,W9]
theorem z9m (n:Nat)(rF:Exn->Option Exn)(ys:List Exn)(f:ys.length<=4000000)(rec:∀ y∈ys,rF y=some y):∀ (m k:Nat),k<=ys.length->ys.length<m+k->Pd n rF (ys.map Al) (fun y=>some y) m ((k:Int),(ys.map Al).take k)=some (ys.map Al)
 |0,k,h1,g=>by omega
 |m+1,k,h1,g=>by
  unfold Pd;simp only [aA,A3];by_cases h:k<ys.length
  ·have j:k<(ys.map Al).length:=by simpa using h
   rw [if_pos (by omega),R4 h,rec _ (aC h),A1,Bu (by simp;omega) (by decide),Ad k (by omega)];have e:(ys.map Al).take k++[Al ys[k]]=(ys.map Al).take (k+1):=by
    rw [aE j,getElem_map]
   rw [e];exact z9m n rF ys f rec m (k+1) (by omega) (by omega)
  ·rw [if_neg (by omega),aN (by simp;omega)]
theorem zm1:∀ (s:Nat) (e:Exn),ETr s e->s<=4000000->∀ n,s+4000002<n->Ge n e=some e:=by
 intro s
 induction s using Nat.strongRecOn with
 |ind s IH =>
  intro e q t n u;cases q with
  |mk l e h ha =>
   obtain ⟨f,rfl⟩:∃ f,n=f + 1:=⟨n-1,by omega⟩;have v:=Qu (l:=l) (fun p g=>(h p g).pos);simp only [Ge];unfold W3;have m:e.fArgs=(l.map (·.2)).map Al:=by rw [ha,map_map];rfl
   have j:=z9m f (Ge f) (l.map (·.2)) (by rw [aA];omega) (fun y o=>by
    obtain ⟨p,g,rfl⟩:=aP.1 o;have:=Je g;exact IH p.1 (by omega) p.2 (h p g) (by omega) f (by omega)) f 0 (by omega) (by rw [aA];omega)
   simp only [Int.natCast_zero,take_zero] at j;rw [m,j,A1,<-m]
theorem z8e (n:Nat)(ys:List Exn)(f:ys.length<=4000000)(rec:∀ y∈ys,Ge n y=some y):∀ (m k:Nat),k<=ys.length->ys.length<m+k->Nu n (ys.map Al) (fun y=>some y) m ((k:Int),(ys.map Al).take k)=some (ys.map Al)
 |0,k,h1,g=>by omega
 |m+1,k,h1,g=>by
  unfold Nu;simp only [aA,A3];by_cases h:k<ys.length
  ·have j:k<(ys.map Al).length:=by simpa using h
   rw [if_pos (by omega),R4 h,rec _ (aC h),A1,Bu (by simp;omega) (by decide),Ad k (by omega)];have e:(ys.map Al).take k++[Al ys[k]]=(ys.map Al).take (k+1):=by
    rw [aE j,getElem_map]
   rw [e];exact z8e n ys f rec m (k+1) (by omega) (by omega)
  ·rw [if_neg (by omega),aN (by simp;omega)]
theorem zvd (n:Nat)(B:10000000<n)(x:Ed)(f:WfX x):Tn n x=some x:=by
 obtain ⟨z,h,o⟩:=f.cond;obtain ⟨ys,m,t⟩:=f.checks;have g:=f.lc;have u:ys.length<=1100000:=by rw [m,aA] at g;exact g
 have v:=f.lo;have p:=f.lcl;have A:=f.li;have w:=f.ll;have q:=z8e n ys (by omega) (fun y j=>by
  obtain ⟨z,h,o⟩:=t y j;exact zm1 z y o h n (by omega)) n 0 (by omega) (by omega)
 simp only [Int.natCast_zero,take_zero] at q;unfold Tn Vh;rw [zm1 z _ o h n (by omega),A1,m,q,A1,X4 (by omega),A1,X4 (by omega),A1,X4 (by omega),A1,X4 (by omega),A1,<-m]
def lv (s:Int):List Ed->Nat->List Int
 |[],_=>[]
 |x::r,k=>if x.fFrom=s then (k:Int)::lv s r (k+1) else lv s r (k+1)
theorem Fa (s:Int):∀ (l:List Ed) (k:Nat),(lv s l k).length=(l.filter (fun x=>decide (x.fFrom=s))).length
 |[],k=>rfl
 |x::r,k=>by
  unfold lv;rw [aL];by_cases h:x.fFrom=s
  ·rw [if_pos h,if_pos (by simpa using h),bB,bB,Fa s r (k+1)]
  ·rw [if_neg h,if_neg (by simpa using h),Fa s r (k+1)]
theorem zvx (s:Int):∀ (l:List Ed) (k i:Nat) (hi:i<(lv s l k).length),∃ j:Nat,(lv s l k)[i]=((k+j:Nat):Int)/\l[j]? = (l.filter (fun x=>decide (x.fFrom=s)))[i]?
 |[],k,i,hi=>by simp [lv] at hi
 |x::r,k,i,hi=>by
  by_cases h:x.fFrom=s
  ·have e:lv s (x::r) k=(k:Int)::lv s r (k+1):=by rw [lv,if_pos h]
   rw [aL,if_pos (by simpa using h)];cases i with
   |zero=>exact ⟨0,by simp [e],rfl⟩
   |succ i =>
    have f:i<(lv s r (k+1)).length:=by rw [e] at hi;simpa using hi
    obtain ⟨j,m,g⟩:=zvx s r (k+1) i f;refine ⟨j+1,?_,by simpa using g⟩;simp only [e,getElem_cons_succ,m];omega
  ·have e:lv s (x::r) k=lv s r (k+1):=by rw [lv,if_neg h]
   rw [aL,if_neg (by simpa using h)];have f:i<(lv s r (k+1)).length:=by rw [e] at hi;exact hi
   obtain ⟨j,m,g⟩:=zvx s r (k+1) i f;refine ⟨j+1,?_,by simpa using g⟩;simp only [e,m];omega
theorem zjt (n:Nat)(s:Int)(a:Aut)(f:a.fEdges.length<=1100000):∀ (m k:Nat) (acc:List Int),k<=a.fEdges.length->a.fEdges.length<m+k->acc.length<=k->L8 n s a (fun y=>some y) m ((k:Int),acc)=some (acc++lv s (a.fEdges.drop k) k)
 |0,k,acc,h1,j,g=>by omega
 |m+1,k,acc,h1,j,g=>by
  unfold L8;simp only [aA,A3,Ar];by_cases h:k<a.fEdges.length
  ·rw [if_pos (by omega),Ab h,Ad k (by omega),aR h,lv];by_cases q:a.fEdges[k].fFrom=s
   ·rw [if_pos q,if_pos q,Bu (by simp;omega) (by decide),zjt n s a f m (k+1) (acc++[(k:Int)]) (by omega) (by omega) (by simp;omega),aK];rfl
   ·rw [if_neg q,if_neg q,zjt n s a f m (k+1) acc (by omega) (by omega) (by omega)]
  ·rw [if_neg (by omega),aD (by omega)];simp [lv]
theorem p_lv (n:Nat)(g:10000000<n)(s:Int)(a:Aut)(f:a.fEdges.length<=1100000):Iu n a s=some (lv s a.fEdges 0) :=
 (zjt n s a f n 0 [] (by omega) (by omega) (by simp)).trans (by simp)
theorem zk6 {i:Nat}(hi:i<(lv s a.fEdges 0).length):∃ j:Nat,∃ h:j<a.fEdges.length,∃ f:i<(Bk a s).length,(lv s a.fEdges 0)[i]=(j:Int)/\a.fEdges[j]=(Bk a s)[i]:=by
 obtain ⟨j,o,g⟩:=zvx s a.fEdges 0 i hi;have f:i<(Bk a s).length:=by rw [Fa] at hi;exact hi
 have e:(a.fEdges.filter (fun x=>decide (x.fFrom=s)))[i]? = some (Bk a s)[i]:=aO f;rw [e] at g;obtain ⟨h,m⟩:=List.getElem?_eq_some_iff.1 g;exact ⟨j,h,f,by rw [o];simp,m⟩
theorem z8f (n:Nat)(o:10000000<n)(a:Aut)(g:WfA a)(s:Int):∀ (m k:Nat) (acc:List Ed),k<=(lv s a.fEdges 0).length->(lv s a.fEdges 0).length<m+k->acc=(Bk a s).take k->Po n a (lv s a.fEdges 0) (fun y=>some (y,0)) m ((k:Int),acc)=some (Bk a s,0)
 |0,k,acc,h1,u,f=>by omega
 |m+1,k,acc,h1,u,f=>by
  have t:=g.le;have q:(lv s a.fEdges 0).length<=a.fEdges.length:=by rw [Fa];exact aJ _ _
  unfold Po;simp only [aA,A3];by_cases h:k<(lv s a.fEdges 0).length
  ·obtain ⟨j,p,v,z,w⟩:=zk6 h;rw [if_pos (by omega),Ab h,Ad k (by omega),z,Ab p,zvd n o _ (g.ed _ (aC p)),A1,Bu (by rw [f];simp;omega) (by decide)];refine z8f n o a g s m (k+1) _ (by omega) (by omega) ?_;rw [f,w,aE v]
  ·rw [if_neg (by omega),f,aN (by rw [Fa] at h;exact Nat.le_of_not_lt h)]
theorem zpq (n:Nat)(j:10000000<n)(a:Aut)(g:WfA a)(o:D5 n a=some 0)(s:Int)(p:0<=s)(h:s<a.fStates.length):Tf n a s=some (Bk a s,0):=by
 have f:=g.le;have m:(lv s a.fEdges 0).length<=a.fEdges.length:=by rw [Fa];exact aJ _ _
 unfold Tf;rw [o,A1,Uk,A1];simp only [aA,Af,A3,if_true];rw [decide_eq_true p,decide_eq_true h,Bool.and_self,Au,p_lv n j s a f,A1];exact z8f n j a g s n 0 [] (by omega) (by omega) (by simp)
theorem p_to (n:Nat){N:Nat}(f:N<=1000000)(g:-1<=i)(h:i<=N):Jw n i (N:Int)=some (tau N i,(N:Int)):=by
 unfold Jw tau;rw [A3,Cu _ (by omega)];split<;>rfl
theorem p_l3 (l:List Ev)(a:Aut)(N:Nat)(t:N<=1000000)(o:List Stt)(i:Nat)(f es:List Ed)(j:es.length<=1000000)(q:∀ x∈es,-1<=x.fTo/\x.fTo<N)(K:Int->List Ed->Option Bool)(g:Int×Int×List Ed)(p:g.1=(i:Int)):∀ (m k:Nat) (acc:List Ed),k<=es.length->es.length<m+k->acc.length<=1000000+k ->
  N2 N0 l a (N:Int) o g (es,0) K m ((k:Int),(N:Int),acc)=K (N:Int) (acc++(es.drop k).map (fun x=>{ x with fFrom:=(i:Int),fTo:=tau N x.fTo }))
 |0,k,acc,h1,w,v=>by omega
 |m+1,k,acc,h1,w,v=>by
  unfold N2;simp only [aA,A3];by_cases h:k<es.length
  ·obtain ⟨u,y⟩:=q _ (aC h);rw [if_pos (by omega),Ab h,p_to N0 t u (by omega),D7,Ad k (by omega),Bu (by simp;omega) (by decide),p_l3 l a N t o i f es j q K g p m (k+1) _ (by omega) (by omega) (by simp;omega),aR h,map_cons,aK,p];rfl
  ·rw [if_neg (by omega),aD (by omega),map_nil,append_nil]
def bEd (a:Aut)(k:Nat):List Ed:=(bF k).flatMap (fun (i:Nat)=>(Bk a (tau a.fStates.length i)).map (rnE a.fStates.length))
theorem zwq (a:Aut)(k:Nat):(bEd a k).length<=k*a.fEdges.length:=by
 have:=Up (fun (i:Nat)=>(Bk a (tau a.fStates.length i)).map (rnE a.fStates.length)) a.fEdges.length (bF k) (fun i _=>by rw [aA];exact aJ _ _);rw [length_range,Nat.mul_comm] at this;exact this
theorem zes (a:Aut)(g:k<a.fStates.length):bEd a (k+1)=bEd a k++(Bk a (tau a.fStates.length k)).map (fun x=>{ x with fFrom:=(k:Int),fTo:=tau a.fStates.length x.fTo }):=by
 unfold bEd;rw [range_succ,flatMap_append,List.flatMap_singleton];congr 1;refine map_congr_left fun x f=>?_
 have:=(Hj f).2;unfold rnE;rw [this,Fq (by omega)]
theorem p_l2 (l:List Ev)(o:WfA a)(f:AOk a)(t:D5 N0 a=some 0)(j:FewB a)(g:List Stt)(K:List Ed->Option Bool):∀ (m k:Nat),k<=a.fStates.length->a.fStates.length<m+k ->
  Jv N0 l a (a.fStates.length:Int) g K m ((k:Int),(a.fStates.length:Int),bEd a k)=K (bEd a a.fStates.length)
 |0,k,h1,w=>by omega
 |m+1,k,h1,w=>by
  have y:=j.2;have q:=j.1.1;unfold Jv;simp only [A3];by_cases h:k<a.fStates.length
  ·have p:=Ft (n:=a.fStates.length) (i:=(k:Int)) (by omega) (by omega);rw [if_pos (by omega),p_to N0 (by omega) (by omega) (by omega),D7,zpq N0 (by decide) a o t _ p.1 p.2,A1,Af,A3,if_pos rfl];have z:=zwq a k;have v:(Bk a (tau a.fStates.length k)).length<=40:=Nat.le_trans (aJ _ _) q;have hm:k*a.fEdges.length<=20*40:=Nat.mul_le_mul (by omega) q;refine (p_l3 l a a.fStates.length (by omega) g k [] _ (by omega) (fun x u=>(f.ed x (Hj u).1).tgt) _ _ rfl N0 0 (bEd a k) (by omega) (by unfold N0;omega) (by omega)).trans ?_;rw [aM,<-zes a h,Ad k (by omega)];exact p_l2 l o f t j g K m (k+1) (by omega) (by omega)
  ·rw [if_neg (by omega),show k=a.fStates.length by omega]
structure BSt (a:Aut) (k:Nat) (st:List Stt):Prop where
 len:st.length=a.fStates.length
 at_:∀ i:Nat,i<k->st[(tau a.fStates.length i).toNat]? = a.fStates[i]?
theorem p_l1 (l:List Ev)(p:a.fStates.length<=1000000)(K:Int->List Stt->Option Bool):∀ (m k:Nat) (st:List Stt),k<=a.fStates.length->a.fStates.length<m+k->BSt a k st ->
  ∃ g,BSt a a.fStates.length g/\N3 N0 l a K m ((k:Int),(a.fStates.length:Int),st)=K (a.fStates.length:Int) g
 |0,k,st,h1,y,j=>by omega
 |m+1,k,st,h1,y,j=>by
  unfold N3;simp only [aA,A3];by_cases h:k<a.fStates.length
  ·have v:=Ft (n:=a.fStates.length) (i:=(k:Int)) (by omega) (by omega);have w:=j.len;have f:(tau a.fStates.length k).toNat<st.length:=by omega
   rw [if_pos (by omega),p_to N0 p (by omega) (by omega),D7,Ab h,Jg v.1 f,Hn f,Ad k (by omega)];refine p_l1 l p K m (k+1) _ (by omega) (by omega) ⟨by rw [length_set,w],fun i hi=>?_⟩;have u:=Ft (n:=a.fStates.length) (i:=(i:Int)) (by omega) (by omega);by_cases e:i=k
   ·subst e;rw [getElem?_set_self f,aO h]
   ·have o:(tau a.fStates.length k).toNat≠(tau a.fStates.length i).toNat:=fun q=>by
     have t:tau a.fStates.length k=tau a.fStates.length i:=by omega
     have:=congrArg (tau a.fStates.length) t;rw [Fq (by omega),Fq (by omega)] at this;omega
    rw [getElem?_set_ne o];exact j.at_ i (by omega)
  ·obtain rfl:k=a.fStates.length:=by omega
   rw [if_neg (by omega)];exact ⟨st,j,rfl⟩
abbrev bAu (a:Aut)(st:List Stt):Aut:=⟨a.fVars,a.fScopes,st,bEd a a.fStates.length⟩
theorem zft (f:Nat->List β)(j:Nat):∀ k:Nat,(bF k).flatMap (fun i=>if i=j then f i else [])=if j<k then f j else []
 |0=>by simp
 |k+1=>by
  rw [range_succ,flatMap_append,List.flatMap_singleton,zft f j k];by_cases h:j<k
  ·rw [if_pos h,if_neg (by omega),if_pos (by omega),append_nil]
  ·rw [if_neg h,bD];by_cases e:k=j
   ·rw [if_pos e,if_pos (by omega),e]
   ·rw [if_neg e,if_neg (by omega)]
theorem ztd (a:Aut){j:Nat}(o:j<a.fStates.length):(bEd a a.fStates.length).filter (fun x=>decide (x.fFrom=(j:Int)))=(Bk a (tau a.fStates.length j)).map (rnE a.fStates.length):=by
 unfold bEd;rw [List.filter_flatMap];have e:∀ i:Nat,i∈bF a.fStates.length->((Bk a (tau a.fStates.length i)).map (rnE a.fStates.length)).filter (fun x=>decide (x.fFrom=(j:Int)))=if i=j then (Bk a (tau a.fStates.length i)).map (rnE a.fStates.length) else []:=fun i hi=>by
  have hi:=mem_range.1 hi;have f:∀ x∈(Bk a (tau a.fStates.length i)).map (rnE a.fStates.length),x.fFrom=(i:Int):=fun x f=>by
   obtain ⟨y,m,rfl⟩:=aP.1 f;show tau a.fStates.length y.fFrom=_;rw [(Hj m).2,Fq (by omega)]
  by_cases h:i=j
  ·rw [if_pos h,filter_eq_self.2 (fun x g=>by rw [f x g];simp [h])]
  ·rw [if_neg h,aZ.2 (fun x g=>by rw [f x g];simp;omega)]
 have p:(bF a.fStates.length).flatMap (fun (i:Nat)=>((Bk a (tau a.fStates.length i)).map (rnE a.fStates.length)).filter (fun x=>decide (x.fFrom=(j:Int))))=(bF a.fStates.length).flatMap (fun (i:Nat)=>if i=j then (Bk a (tau a.fStates.length i)).map (rnE a.fStates.length) else []):=by
  rw [List.flatMap_def,List.flatMap_def,map_congr_left e]
 rw [p,zft,if_pos o]
theorem zcb (p q r:α->Bool)(h:∀ x,r x=(p x || q x))(f:∀ x,p x=true->q x=false):∀ l:List α,(l.filter r).length=(l.filter p).length+(l.filter q).length
 |[]=>rfl
 |x::l=>by
  have g:=zcb p q r h f l;have h1:=h x;have o:=f x;rw [aL,aL,aL];cases m:p x<;>cases j:q x<;>simp_all<;>omega
theorem zn1 (a:Aut)(ha:AOk a):∀ k:Nat,k<=a.fStates.length->(bEd a k).length=(a.fEdges.filter (fun x=>decide (tau a.fStates.length x.fFrom<((k:Nat):Int)/\0<=x.fFrom/\x.fFrom<(a.fStates.length:Int)))).length
 |0,_=>by
  have:a.fEdges.filter (fun x=>decide (tau a.fStates.length x.fFrom<((0:Nat):Int)/\0<=x.fFrom/\x.fFrom<(a.fStates.length:Int)))=[]:=aZ.2 (fun x _=>by
   simp only [decide_eq_true_eq];rintro ⟨h1,g,f⟩;have:=Ft g f;omega)
  rw [this];rfl
 |k+1,m=>by
  rw [zes a (by omega),aF,aA,zn1 a ha k (by omega)];unfold Bk;refine (zcb _ _ _ (fun x=>?_) (fun x j=>?_) a.fEdges).symm
  ·rw [<-Bool.decide_or];refine decide_eq_decide.2 ⟨fun ⟨h1,g,f⟩=>?_,fun h=>?_⟩
   ·by_cases e:tau a.fStates.length x.fFrom<k
    ·exact Or.inl ⟨e,g,f⟩
    ·have:tau a.fStates.length x.fFrom=k:=by omega
     exact Or.inr (by rw [<-this,Fq f])
   ·rcases h with ⟨h1,g,f⟩|h
    ·exact ⟨by omega,g,f⟩
    ·have:=Ft (n:=a.fStates.length) (i:=(k:Int)) (by omega) (by omega);rw [h,Fq (by omega)];exact ⟨by omega,this⟩
  ·simp only [decide_eq_true_eq] at j;simp only [decide_eq_false_iff_not];intro h;rw [h,Fq (by omega)] at j;omega
theorem zl6 (a:Aut)(ha:AOk a):(bEd a a.fStates.length).length=a.fEdges.length:=by
 rw [zn1 a ha _ (Nat.le_refl _),filter_eq_self.2 (fun x f=>?_)];have:=(ha.ed x f).frm;exact decide_eq_true ⟨ztj this.2,this.1,this.2⟩
theorem zl5 (h:x∈bEd a k):∃ y∈a.fEdges,x=rnE a.fStates.length y:=by
 obtain ⟨i,_,g⟩:=aG.1 h;obtain ⟨y,f,rfl⟩:=aP.1 g;exact ⟨y,(Hj f).1,rfl⟩
variable {st:List Stt}
theorem zr1 (h:BSt a a.fStates.length st)(g:0<=s)(f:s<a.fStates.length):st[(tau a.fStates.length s).toNat]? = a.fStates[s.toNat]? := by
 have:=h.at_ s.toNat (by omega)
 rwa [show ((s.toNat:Nat):Int)=s by omega] at this
theorem zr0 (h:BSt a a.fStates.length st){s:Stt}(f:s∈st):s∈a.fStates:=by
 obtain ⟨j,g,rfl⟩:=aW.1 f;have m:=h.len;have t:=Ft (n:=a.fStates.length) (i:=(j:Int)) (by omega) (by omega);have:=zr1 h t.1 t.2;rw [Fq (by omega),show ((j:Int)).toNat=j by omega,aO g] at this;exact mem_of_getElem? this.symm
section
variable {a:Aut} {st:List Stt} (ha:AOk a) (hb:BSt a a.fStates.length st)
include ha hb
omit ha in
theorem b_rn:Rn a (bAu a st):=⟨rfl,rfl,hb.len,fun s f h=>zr1 hb f h,fun s f h=>by
 have t:=Ft (n:=a.fStates.length) f h;have e:=ztd a (j:=(tau a.fStates.length s).toNat) (by omega);rw [show (((tau a.fStates.length s).toNat:Nat):Int)=tau a.fStates.length s by omega,Fq h] at e;exact e⟩
theorem b_wf (f:WfA a):WfA (bAu a st) where
 ls:=by have:=f.ls;have:=hb.len;show st.length<=_;omega
 le:=by have:=f.le;show (bEd a a.fStates.length).length<=_;rw [zl6 a ha];omega
 st:=fun s j=>f.st s (zr0 hb j)
 ed:=fun x h=>by
  obtain ⟨y,g,rfl⟩:=zl5 h;have:=f.ed y g;exact ⟨this.cond,this.checks,this.lc,this.lo,this.lcl,this.li,this.ll⟩
theorem zzc (f:FewB a):FewB (bAu a st):=⟨⟨by show (bEd a a.fStates.length).length<=_;rw [zl6 a ha];exact f.1.1,fun x h=>by
  obtain ⟨y,g,rfl⟩:=zl5 h;exact f.1.2 y g⟩,by show st.length<=_;rw [hb.len];exact f.2⟩
end
theorem zmz (k:α->Option β):bnd (none:Option α) k=none:=by unfold bnd;rfl
variable {b:Aut}
theorem zh4 (n:Nat)(h1:b.fVars=a.fVars)(h:b.fScopes=a.fScopes)(g:List Gd):Fh n b g=Fh n a g:=by
 have key:∀ m,E8 n g b (some 0) m=E8 n g a (some 0) m:=by
  intro m
  induction m with
  |zero=>funext v;unfold E8;rfl
  |succ m f =>
   funext v;simp only [E8,f,h1,h];unfold H7;rfl
 unfold Fh;rw [key]
theorem zfn (n:Nat)(h:b.fScopes=a.fScopes)(L:List (List Int)):Iw n b L=Iw n a L:=by
 have g:∀ (v:Int) (x:List Int) (K:Option Int) m,Ek n L b v x K m=Ek n L a v x K m:=by
  intro v x K m
  induction m with
  |zero=>funext v;unfold Ek;rfl
  |succ m f=>funext v;simp only [Ek,f,h]
 have key:∀ m,F5 n L b (some 0) m=F5 n L a (some 0) m:=by
  intro m
  induction m with
  |zero=>funext v;unfold F5;rfl
  |succ m f=>funext v;simp only [F5,f,g]
 unfold Iw;rw [key]
theorem zif (n N:Nat)(x:Ed)(K:Option Int)(m:Nat):Gb n (rnE N x) b K m=Gb n x a K m:=by
 induction m with
 |zero=>funext v;unfold Gb;rfl
 |succ m ih=>funext v;simp only [Gb,ih];rfl
theorem zwj (n N:Nat)(j:N=a.fStates.length)(h1:b.fVars=a.fVars)(y:b.fScopes=a.fScopes)(w:b.fStates.length=a.fStates.length)(f:EdOk a x){p g:Int}(E:g<=tau N x.fFrom)(h:Fi n a x p=some 0):Fi n b (rnE N x) g=some 0:=by
 have m:=Ft (n:=N) f.frm.1 (by rw [j];exact f.frm.2);have D:-1<=tau N x.fTo/\tau N x.fTo<N:=⟨by have:=f.tgt;unfold tau;split<;>omega,ztj (by rw [j];exact f.tgt.2)⟩;unfold Fi at h ⊢;simp only [B1,Ar,Uk,A1,aA,A3,Af] at h ⊢;have B:(decide (0<=x.fFrom) && decide (x.fFrom<((a.fStates.length:Nat):Int)))=true:=by simp [f.frm.1,f.frm.2]
 have A:(decide (0<=(rnE N x).fFrom) && decide ((rnE N x).fFrom<((b.fStates.length:Nat):Int)))=true:=by
  rw [w,<-j];show (decide (0<=tau N x.fFrom) && decide (tau N x.fFrom<(N:Int)))=true;simp [m.1,m.2]
 have C:=f.tgt;have v:¬x.fTo < -1:=by omega
 have u:¬((a.fStates.length:Nat):Int)<=x.fTo:=by omega
 have t:¬(rnE N x).fTo < -1:=by show ¬tau N x.fTo < -1;omega
 have q:¬((b.fStates.length:Nat):Int)<=(rnE N x).fTo:=by show ¬_<=tau N x.fTo;omega
 have o:(decide (0<=x.fVar) && decide (x.fVar<a.fVars))=true:=by simp [f.var.1,f.var.2]
 have z:(decide (0<=(rnE N x).fVar) && decide ((rnE N x).fVar<b.fVars))=true:=by rw [h1];exact o
 rw [B,Au,if_neg v,if_neg u,o,Au] at h;rw [A,Au,if_neg t,if_neg q,z,Au];show Dm n g (rnE N x) b (!(decide (0<=x.fType) && decide (x.fType<16)))=some 0;revert h;cases (!(decide (0<=x.fType) && decide (x.fType<16))) with
 |true=>unfold Dm;rw [Au];intro h;cases h
 |false =>
  unfold Dm;simp only [B3,A3];intro h;split at h
  ·cases h
  rw [if_neg (by show ¬tau N x.fFrom<g;omega)];refine Eq.trans ?_ h;simp only [zfn n y,zif n N (a:=a) (b:=b) x];rfl
theorem zcw {K:Option Int}(u:a.fStates.length<=1000000):∀ (m k:Nat),F6 n a K m (k:Int)=some 0->(∀ j (h:j<a.fStates.length),k<=j->Fh n a a.fStates[j].fGuards=some 0)/\K=some 0
 |0,k,h=>by unfold F6 at h;cases h
 |m+1,k,h=>by
  unfold F6 at h;simp only [aA,A3,Af] at h;by_cases v:k<a.fStates.length
  ·rw [if_pos (by omega),Ab v,Ad k (by omega)] at h;cases o:Fh n a a.fStates[k].fGuards with
   |none=>rw [o,zmz] at h;cases h
   |some c =>
    rw [o,A1] at h;by_cases f:c=0
    ·rw [if_pos f] at h;obtain ⟨t,q⟩:=zcw u m (k+1) h;refine ⟨fun j p g=>?_,q⟩;by_cases e:j=k
     ·subst e;rw [o,f]
     ·exact t j p (by omega)
    ·rw [if_neg f] at h;injection h with h;exact absurd h f
  ·rw [if_neg (by omega)] at h;exact ⟨fun j p g=>by omega,h⟩
theorem zcu (o:a.fEdges.length<=1000000):∀ (m k:Nat) (p:Int),En n a (some 0) m (p,(k:Int))=some 0->∀ j (h:j<a.fEdges.length),k<=j->∃ p,Fi n a a.fEdges[j] p=some 0
 |0,k,p,h=>by unfold En at h;cases h
 |m+1,k,p,h=>by
  unfold En at h;simp only [aA,A3,Af] at h;intro j u q;have t:k<a.fEdges.length:=by omega
  rw [if_pos (by omega),Ab t,Ad k (by omega)] at h;cases g:Fi n a a.fEdges[k] p with
  |none=>rw [g,zmz] at h;cases h
  |some c =>
   rw [g,A1] at h;by_cases f:c=0
   ·rw [if_pos f] at h;by_cases e:j=k
    ·subst e;exact ⟨p,by rw [g,f]⟩
    ·exact zcu o m (k+1) _ h j u (by omega)
   ·rw [if_neg f] at h;injection h with h;exact absurd h f
theorem zcx {K:Option Int}(h:a.fStates.length<=1000000)(g:∀ s∈a.fStates,Fh n a s.fGuards=some 0):∀ (m k:Nat),k<=a.fStates.length->a.fStates.length<m+k->F6 n a K m (k:Int)=K
 |0,k,h1,j=>by omega
 |m+1,k,h1,j=>by
  unfold F6;simp only [aA,A3,Af];by_cases f:k<a.fStates.length
  ·rw [if_pos (by omega),Ab f,Ad k (by omega),g _ (aC f),A1,if_pos rfl];exact zcx h g m (k+1) (by omega) (by omega)
  ·rw [if_neg (by omega)]
theorem zcv (q:a.fEdges.length<=1000000)(o:∀ x∈a.fEdges,∀ p,p<=x.fFrom->Fi n a x p=some 0)(j:a.fEdges.Pairwise (fun x y=>x.fFrom<=y.fFrom)):∀ (m k:Nat) (p:Int),k<=a.fEdges.length->a.fEdges.length<m+k->(∀ x∈a.fEdges.drop k,p<=x.fFrom)->En n a (some 0) m (p,(k:Int))=some 0
 |0,k,p,h1,u,h=>by omega
 |m+1,k,p,h1,u,h=>by
  unfold En;simp only [aA,A3,Af];by_cases g:k<a.fEdges.length
  ·have t:=aR g;have f:(a.fEdges.drop k).Pairwise (fun x y=>x.fFrom<=y.fFrom):=j.sublist (drop_sublist _ _);rw [t] at f h;rw [if_pos (by omega),Ab g,Ad k (by omega),o _ (aC g) p (h _ (aU ..)),A1,if_pos rfl];exact zcv q o j m (k+1) _ (by omega) (by omega) (pairwise_cons.1 f).1
  ·rw [if_neg (by omega)]
def ChkP (c:Aut):Prop:=(¬c.fVars<0/\¬16<c.fVars)/\(¬c.fScopes<0/\¬64<c.fScopes)/\¬((c.fStates.length:Nat):Int)<1/\¬256<((c.fStates.length:Nat):Int)/\¬2048<((c.fEdges.length:Nat):Int)
theorem zqu (n:Nat)(c:Aut):D5 n c=some 0 ↔ ChkP c/\F6 n c (En n c (some 0) n (0,0)) n 0=some 0:=by
 unfold D5 F7 Fg ChkP;simp only [B1,Ar,A3,Au,aA];by_cases f:c.fVars<0
 ·simp [f]
 by_cases g:16<c.fVars
 ·simp [f,g]
 by_cases h:c.fScopes<0
 ·simp [f,g,h]
 by_cases j:64<c.fScopes
 ·simp [f,g,h,j]
 by_cases m:((c.fStates.length:Nat):Int)<1
 ·simp only [f,g,h,j,m];simp
 by_cases o:256<((c.fStates.length:Nat):Int)
 ·simp only [f,g,h,j,m,o];simp
 by_cases p:2048<((c.fEdges.length:Nat):Int)
 ·simp only [f,g,h,j,m,o,p];simp
 simp only [f,g,h,j,m,o,p];simp
theorem zcy {a:Aut}:∀ k:Nat,k<=a.fStates.length->(bEd a k).Pairwise (fun x y=>x.fFrom<=y.fFrom)/\∀ x∈bEd a k,0<=x.fFrom/\x.fFrom<k
 |0,_=>⟨by simp [bEd],by simp [bEd]⟩
 |k+1,m=>by
  obtain ⟨h1,h⟩:=zcy (a:=a) k (by omega);rw [zes a (by omega)];have g:∀ x∈(Bk a (tau a.fStates.length k)).map (fun x=>({ x with fFrom:=(k:Int),fTo:=tau a.fStates.length x.fTo }:Ed)),x.fFrom=(k:Int):=fun x f=>by
   obtain ⟨y,_,rfl⟩:=aP.1 f;rfl
  refine ⟨pairwise_append.2 ⟨h1,?_,fun x f y j=>?_⟩,fun x f=>?_⟩
  ·refine pairwise_map.2 (List.pairwise_of_forall (fun _ _=>Int.le_refl _))
  ·rw [g y j];have:=h x f;omega
  ·rcases aQ.1 f with f|f
   ·have:=h x f;omega
   ·rw [g x f];omega
theorem zr2 (ha:AOk a)(hb:BSt a a.fStates.length st)(t:FewB a)(A:D5 N0 a=some 0):D5 N0 (bAu a st)=some 0:=by
 obtain ⟨u,F⟩:=(zqu N0 a).1 A;have I:=t.2;have J:=t.1.1;have o:=zl6 a ha;obtain ⟨D,C⟩:=zcw (by omega) N0 0 F;have B:=zcu (by omega) N0 0 0 C;obtain ⟨w,v⟩:=zcy (a:=a) a.fStates.length (Nat.le_refl _);refine (zqu N0 _).2 ⟨?_,?_⟩
 ·unfold ChkP at u ⊢;show (¬a.fVars<0/\¬16<a.fVars)/\(¬a.fScopes<0/\¬64<a.fScopes)/\¬((st.length:Nat):Int)<1/\¬256<((st.length:Nat):Int)/\¬2048<(((bEd a a.fStates.length).length:Nat):Int);rw [hb.len,o];exact u
 ·have E:En N0 (bAu a st) (some 0) N0 (0,0)=some 0:=by
   refine zcv (a:=bAu a st) (by show (bEd a a.fStates.length).length<=_;omega) (fun x f p z=>?_) w N0 0 0 (aB _) (by show (bEd a a.fStates.length).length<N0+0;unfold N0;omega) (fun x f=>(v x (by simpa using f)).1);obtain ⟨y,q,rfl⟩:=zl5 f;obtain ⟨j,m,rfl⟩:=aW.1 q;obtain ⟨G,h⟩:=B j m (aB _);exact zwj (a:=a) (b:=bAu a st) N0 a.fStates.length rfl rfl rfl hb.len (ha.ed _ q) z h
  rw [E];refine zcx (a:=bAu a st) (by show st.length<=_;have:=hb.len;omega) (fun s g=>?_) N0 0 (aB _) (by show st.length<N0+0;have:=hb.len;unfold N0;omega);rw [zh4 N0 (a:=a) (b:=bAu a st) rfl rfl];obtain ⟨j,m,rfl⟩:=aW.1 (zr0 hb g);exact D j m (aB _)
theorem zyp (ha:AOk a)(hb:BSt a a.fStates.length st)(o:FewB a)(h:WfA a)(p:D5 N0 a=some 0){l:List Ev}(m:l.length<=1000000)(j:Et l=0):El N0 (bAu a st) l=some 0:=by
 obtain ⟨r,g,f,_⟩:=zdh N0 (by decide) (bAu a st) (b_wf ha hb h);rw [zr2 ha hb o p] at f;injection f with f
 unfold El;rw [g,A1,Af,A3,if_pos f.symm,Y4 N0 l (by unfold N0;omega) m,j,A1]
end Go.Proofs.YtkoamfnbbhfaiaaGreatDoor
