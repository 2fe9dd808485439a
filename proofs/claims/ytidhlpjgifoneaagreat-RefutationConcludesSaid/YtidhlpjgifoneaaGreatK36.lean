/- Layer 25, plainly. -/
import Derived.Test.YtidhlpjgifoneaaGreatK34
set_option linter.unusedVariables false
set_option linter.unusedSimpArgs false
namespace Go.Proofs.YtidhlpjgifoneaaGreat
open Go.RowKit List
def cfO (l:List Cf):List Cf:=l.filter (fun d=>!decide (d.fState<0))
def maO (l:List Cf):List Ma:=(l.filter (fun d=>decide (d.fState<0))).map (fun d=>⟨d.fBindings⟩)
def Df (a:Aut)(s:Int):List Ed:=a.fEdges.filter (fun x=>decide (x.fFrom=s))
def skP (a:Aut)(held:List Ev)(c:Cf)(e:Ev):Bool:=!(Z5 a c.fState).any (vio (enH held c.fBindings) e)
def outP (a:Aut)(held:List Ev)(c:Cf)(e:Ev):List Cf:=(if skP a held c e=true then [c] else [])++(Df a c.fState).filterMap (fun x=>coP a held c x e)
theorem ziy (d:Cf)(l:List Cf):cfO (d::l)=if d.fState<0 then cfO l else d::cfO l:=by
 unfold cfO;grind
theorem zhn (d:Cf)(l:List Cf):maO (d::l)=if d.fState<0 then (⟨d.fBindings⟩:Ma)::maO l else maO l:=by
 unfold maO;grind
theorem Zm (l m:List Cf):cfO (l++m)=cfO l++cfO m:=by unfold cfO;rw [filter_append]
theorem Zc (l m:List Cf):maO (l++m)=maO l++maO m:=by unfold maO;simp_all
theorem Sc (l:List Cf):(cfO l).length<=l.length:=length_filter_le _ _
theorem Nk (l:List Cf):(maO l).length<=l.length:=by unfold maO;grind
variable {l:List Cf}{d:Cf}
theorem zws (h:d∈cfO l):d∈l/\0<=d.fState:=by
 have:=mem_filter.1 h;exact ⟨this.1,by simpa using this.2⟩
theorem y24 {m:Ma}(h:m∈maO l):∃ d∈l,m=⟨d.fBindings⟩:=by
 obtain ⟨d,b,rfl⟩:=mem_map.1 h;grind
def Sz (k:Nat)(c:Cf):Prop:=c.fBindings.length<=k/\c.fStarts.length<=100*k
variable {k:Nat}{c:Cf}
theorem Sz.ok (b:k<=1001)(h:Sz k c):cfOk c=true:=(E8 c).2 ⟨by have:=h.1;omega,by have:=h.2;omega⟩
variable {a:Aut}{held:List Ev}{x:Ed}{e:Ev}
theorem ziv (h:coP a held c x e=some d):d=⟨x.fTo,bdN c x e,(stN c x e).filter (ncl x)⟩:=by
 unfold coP at h;simp_all
theorem zwk (g:CxA a held)(f:CB held a k c)(b:x∈a.fEdges)(h:coP a held c x e=some d):Sz (k+1) d:=by
 rw [ziv h];have h1:=f.lb;have h2:=f.ls;have m:=g.lo x b;have j:=Zb e.fTime x.fOpens c.fStarts;have i:=length_filter_le (ncl x) (stN c x e);refine ⟨by unfold bdN;simp;omega,?_⟩;unfold stN at i ⊢;simp only;omega
theorem CB.sz (h:CB held a k c):Sz k c:=⟨h.lb,h.ls⟩
theorem Yo {s:Int}(h:x∈Df a s):x∈a.fEdges/\x.fFrom=s:=by
 have:=mem_filter.1 h;exact ⟨this.1,by simpa using this.2⟩
theorem zv7 (g:CxA a held)(f:CB held a k c)(h:d∈outP a held c e):Sz (k+1) d:=by
 unfold outP at h;rcases mem_append.1 h with h|h
 ·split at h
  ·rw [mem_singleton.1 h];have:=f.sz;exact ⟨by have:=this.1;omega,by have:=this.2;omega⟩
  ·simp at h
 ·obtain ⟨x,b,i⟩:=mem_filterMap.1 h;exact zwk g f (Yo b).1 i
theorem Wc:(outP a held c e).length<=a.fEdges.length+1:=by
 unfold outP Df;grind
theorem zon (b:k<=1001)(h:Sz k c):maOk ⟨c.fBindings⟩=true:=(E7 _).2 (by have:=h.1;simp;omega)
theorem zfs (e:Ev)(env:List (List Ev))(i:EvS env)(b:Stt)(j:b.fGuards.length<=1100000)(f:∀ g∈b.fGuards,WfE g.fCond):∀ (m k:Nat),k<=b.fGuards.length->b.fGuards.length<m+k->P1 N0 e ⟨env⟩ b (some true) m (k:Int)=some (!(b.fGuards.drop k).any (vio env e))
 |0,k,h1,h2=>by omega
 |m+1,k,h1,h2=>by
  unfold P1;simp only [length_map,A5];by_cases h:k<b.fGuards.length
  ·rw [if_pos (by omega),Ac h,B0 _ k h,any_cons,zud i (f _ (getElem_mem h)),A3,Ag k (by omega),zfs e env i b j f m (k+1) (by omega) (by omega)];cases vio env e b.fGuards[k]<;>simp [Av,Az]
  grind
theorem zyb (f:CxA a held)(o:k<=1000)(g:CB held a k c)(e:Ev):Tw N0 a held c e=some (skP a held c e):=by
 have j:=g.lb;have i:=f.lh;obtain ⟨b,n,h,m⟩:=Ym g.st;unfold Tw skP;rw [zui N0 (by decide) held (by omega) c (by omega),A3,Z4 g.st.1 n,m];have:=zfs e (enH held c.fBindings) (S9 (by omega)) b (f.wf.st b h).1 (f.wf.st b h).2 N0 0 (Nat.zero_le _) (by have:=(f.wf.st b h).1;unfold N0;omega);simp_all
theorem zd9 (s:Int)(a:Aut)(b:a.fEdges.length<=1000000)(K:List Ed->Option (List Ed)):∀ (m k:Nat) (out:List Ed),k<=a.fEdges.length->a.fEdges.length<m+k->out.length<=k->Ko N0 s a K m ((k:Int),out)=K (out++(a.fEdges.drop k).filter (fun x=>decide (x.fFrom=s)))
 |0,k,out,h1,h2,i=>by omega
 |m+1,k,out,h1,h2,i=>by
  unfold Ko;simp only [length_map,A5];by_cases h:k<a.fEdges.length
  ·have g:=zd9 s a b K m (k+1) (out++[a.fEdges[k]]) (by omega) (by omega) (by simp_all);have f:=zd9 s a b K m (k+1) out (by omega) (by omega) (by omega);rw [if_pos (by omega),Am,Ac h,Ac h,B0 _ k h,Ag k (by omega),Bq (by grind) (by omega),g,f,filter_cons];grind
  ·rw [if_neg (by omega),drop_eq_nil_of_le (by omega)];simp
theorem y06 (s:Int)(a:Aut)(b:a.fEdges.length<=1000000):Ir N0 a s=some (Df a s):=by
 have:=zd9 s a b (fun y=>some y) N0 0 [] (Nat.zero_le _) (by unfold N0;omega) (by simp);unfold Ir Df;exact this
variable {kk:Nat}
theorem Z0 (p:CxA a held)(u:kk<=1000)(q:CB held a kk c)(e:Ev)(es:List Ed)(g:∀ x∈es,x∈a.fEdges)(w:es.length<=100000)(K:List Cf->List Ma->Option (List Cf×List Ma)) :
  ∀ (m k:Nat) (cs:List Cf) (f:List Ma),k<=es.length->es.length<m+k->cs.length<=k+1->f.length<=k->(∀ d∈cs,cfOk d=true)->(∀ d∈f,maOk d=true)->Ie N0 e c held a es K m (cs,f,(k:Int))=K (puts Bn cs (cfO ((es.drop k).filterMap (fun x=>coP a held c x e)))) (puts B1 f (maO ((es.drop k).filterMap (fun x=>coP a held c x e))))
 |0,k,cs,f,h1,h2,A,z,t,s=>by omega
 |m+1,k,cs,f,h1,h2,A,z,t,s=>by
  unfold Ie;simp only [length_map,A5,Al];by_cases h:k<es.length
  ·have o:=g _ (getElem_mem h);have i:=zsh p u q o e;rw [if_pos (by omega),Ac h,B0 _ k h,filterMap_cons,Ag k (by omega)];cases j:coP a held c es[k] e with
   |none =>
    have b:Kl N0 a held c es[k] e=some (cf0,false):=i.trans (by rw [j];rfl);rw [b,A3];simp only [Az];exact Z0 p u q e es g w K m (k+1) cs f (by omega) (by omega) (by omega) (by omega) t s
   |some d =>
    have v:=zwk p q o j;have b:Kl N0 a held c es[k] e=some (d,true):=i.trans (by rw [j];rfl);rw [b,A3];simp only [Av,Am];rw [ziy,zhn];by_cases n:d.fState<0
    ·rw [if_pos n,if_pos n,if_pos n,zur N0 (by decide) _ (zon (by omega) v) f s (by omega),A3,Hh];have y:=Nb B1 (⟨d.fBindings⟩:Ma) f;exact Z0 p u q e es g w K m (k+1) cs _ (by omega) (by omega) (by omega) (by omega) t (zhq (zon (by omega) v) s)
    ·rw [if_neg n,if_neg n,if_neg n,zus N0 (by decide) _ (v.ok (by omega)) cs t (by omega),A3,Hh];have y:=Nb Bn d cs;exact Z0 p u q e es g w K m (k+1) _ f (by omega) (by omega) (by omega) (by omega) (zr8 (v.ok (by omega)) t) s
  ·rw [if_neg (by omega),drop_eq_nil_of_le (by omega)];rfl
theorem y5x (m:CxA a held)(o:a.fEdges.length<=100000)(n:kk<=1000)(g:CB held a kk c)(e:Ev):Ud N0 a held c e=some (setL Bn (cfO (outP a held c e)),setL B1 (maO (outP a held c e))):=by
 have i:(Df a c.fState).length<=100000:=by
  have:=length_filter_le (fun x:Ed=>decide (x.fFrom=c.fState)) a.fEdges;unfold Df;omega
 have j:=fun cs q p=>Z0 m n g e (Df a c.fState) (fun x h=>(Yo h).1) i (fun k1_1_0y0 k1_1_0y1=>some (k1_1_0y0,k1_1_0y1)) N0 0 cs [] (Nat.zero_le _) (by unfold N0;omega) q (by simp) p (by simp)
 have f:¬c.fState<0:=by have:=g.st;omega
 unfold Ud;simp only [B3,Am,L7];rw [zyb m n g e,A3,y06 _ a (by omega)];simp only [A3];unfold outP setL;rw [Zm,Zc,Vv,Vv];cases skP a held c e with
 |true =>
  have b:=zus N0 (by decide) c (g.sz.ok (by omega)) [] (by simp) (by simp);rw [Av,b,A3];have:=j (insU Bn c []) (by simp [insU]) (by simp [insU];exact g.sz.ok (by omega));refine this.trans ?_;have t:puts Bn [] (cfO (if true=true then [c] else []))=insU Bn c []:=by
   rw [if_pos rfl,ziy,if_neg f];rfl
  have s:puts B1 [] (maO (if true=true then [c] else []))=[]:=by
   rw [if_pos rfl,zhn,if_neg f];rfl
  rw [t,s];rfl
 |false =>
  rw [Az];refine (j [] (by simp) (by simp)).trans ?_;rfl
theorem zqv (e:Ev)(l:List Cf)(held:List Ev)(a:Aut)(v:List Cf×List Ma×Int)(x:List Cf×List Ma)(b:∀ d∈x.1,cfOk d=true)(i:x.1.length<=100000)(K:List Cf->List Ma->Option (List Cf×List Ma)):∀ (m k:Nat) (cs:List Cf),k<=x.1.length->x.1.length<m+k->cs.length+(x.1.length-k)<=1000000->(∀ d∈cs,cfOk d=true)->Q2 N0 e l held a v x K m (cs,(k:Int))=K (puts Bn cs (x.1.drop k)) x.2
 |0,k,cs,h1,h2,n,f=>by omega
 |m+1,k,cs,h1,h2,n,f=>by
  unfold Q2;simp only [length_map,A5];by_cases h:k<x.1.length
  ·have g:=b _ (getElem_mem h);have j:=Nb Bn x.1[k] cs;rw [if_pos (by omega),Ac h,zus N0 (by decide) _ g cs f (by omega),A3,B0 _ k h,Hh,Ag k (by omega)];exact zqv e l held a v x b i K m (k+1) _ (by omega) (by omega) (by omega) (zr8 g f)
  ·rw [if_neg (by omega),drop_eq_nil_of_le (by omega)];rfl
theorem zqu (e:Ev)(l:List Cf)(held:List Ev)(a:Aut)(v:List Cf×List Ma×Int)(g:List Cf)(x:List Ma)(b:∀ d∈x,maOk d=true)(n:x.length<=100000)(K:List Ma->Option (List Cf×List Ma)):∀ (m k:Nat) (cs:List Ma),k<=x.length->x.length<m+k->cs.length+(x.length-k)<=1000000->(∀ d∈cs,maOk d=true)->Q1 N0 e l held a v g x K m (cs,(k:Int))=K (puts B1 cs (x.drop k))
 |0,k,cs,h1,h2,p,f=>by omega
 |m+1,k,cs,h1,h2,p,f=>by
  unfold Q1;simp only [length_map,A5];by_cases h:k<x.length
  ·have i:=b _ (getElem_mem h);have o:=Nb B1 x[k] cs;have j:=zur N0 (by decide) x[k] i cs f (by omega);rw [if_pos (by omega),Ac h,B0 _ k h,Hh,Ag k (by omega),j,A3];exact zqu e l held a v g x b n K m (k+1) _ (by omega) (by omega) (by omega) (zhq i f)
  ·rw [if_neg (by omega),drop_eq_nil_of_le (by omega)];rfl
theorem zka (most:Int)(l:List Ev)(a:Aut)(v:List Cf×List Ma×Int)(x:List Cf×List Ma)(b:∀ d∈x.2,maOk d=true)(j:x.2.length<=1000000)(K:List Ma->List Cf->Option (List Cf×List Ma×Bool)):∀ (m k:Nat) (cs:List Ma),k<=x.2.length->x.2.length<m+k->cs.length+(x.2.length-k)<=1000000->(∀ d∈cs,maOk d=true)->Oe N0 most l a v x K m (cs,(k:Int))=K (puts B1 cs (x.2.drop k)) x.1
 |0,k,cs,h1,h2,o,f=>by omega
 |m+1,k,cs,h1,h2,o,f=>by
  unfold Oe;simp only [length_map,A5];by_cases h:k<x.2.length
  ·have g:=b _ (getElem_mem h);have n:=Nb B1 x.2[k] cs;have i:=zur N0 (by decide) x.2[k] g cs f (by omega);rw [if_pos (by omega),Ac h,B0 _ k h,Hh,Ag k (by omega),i,A3];exact zka most l a v x b j K m (k+1) _ (by omega) (by omega) (by omega) (zhq g f)
  ·rw [if_neg (by omega),drop_eq_nil_of_le (by omega)];rfl
theorem ztm {l:List Ma}(h:∀ x∈l,maOk x=true):∀ x∈setL B1 l,maOk x=true:=fun x b=>h x ((F9 Cj x l).1 b)
theorem y0r (b:CxA a held)(h:kk<=1000)(g:CB held a kk c)(e:Ev):∀ d∈cfO (outP a held c e),cfOk d=true:=fun d f=>(zv7 b g (zws f).1).ok (by omega)
theorem zvq (b:CxA a held)(i:kk<=1000)(h:CB held a kk c)(e:Ev):∀ d∈maO (outP a held c e),maOk d=true:=fun d g=>by
 obtain ⟨q,f,rfl⟩:=y24 g;exact zon (by omega) (zv7 b h f)
theorem zqw (g:CxA a held)(j:a.fEdges.length<=100)(i:kk<=1000)(e:Ev)(l:List Cf)(q:∀ c∈l,CB held a kk c)(w:l.length<=5000)(K:List Cf->List Ma->Option (List Cf×List Ma)) :
  ∀ (m k:Nat) (cs:List Cf) (b:List Ma),k<=l.length->l.length<m+k->cs.length<=101*k->b.length<=101*k->(∀ d∈cs,cfOk d=true)->(∀ d∈b,maOk d=true)->Q3 N0 e l held a K m (cs,b,(k:Int))=K (puts Bn cs ((l.drop k).flatMap (fun c=>setL Bn (cfO (outP a held c e))))) (puts B1 b ((l.drop k).flatMap (fun c=>setL B1 (maO (outP a held c e)))))
 |0,k,cs,b,h1,h2,z,y,o,n=>by omega
 |m+1,k,cs,b,h1,h2,z,y,o,n=>by
  unfold Q3;simp only [length_map,A5];by_cases h:k<l.length
  ·have f:=q _ (getElem_mem h);have E:=zh7 (c:=Bn) (cfO (outP a held l[k] e));have D:=zh7 (c:=B1) (maO (outP a held l[k] e));have C:=Sc (outP a held l[k] e);have B:=Nk (outP a held l[k] e);have A:(outP a held l[k] e).length<=a.fEdges.length+1:=Wc;have p:=y0z (y0r g i f e);have o2:=ztm (zvq g i f e);have G:=Yy (c:=Bn) (setL Bn (cfO (outP a held l[k] e))) cs;have F:=Yy (c:=B1) (setL B1 (maO (outP a held l[k] e))) b;rw [if_pos (by omega),Ac h,y5x g (by omega) i f e,A3,B0 _ k h,flatMap_cons,flatMap_cons,Vv,Vv,Ag k (by omega)];have u:=fun K=>zqv e l held a (cs,b,(k:Int)) (setL Bn (cfO (outP a held l[k] e)),setL B1 (maO (outP a held l[k] e))) p (by grind) K N0 0 cs (Nat.zero_le _) (by show (setL Bn (cfO (outP a held l[k] e))).length<2000000000+0;omega) (by show cs.length+((setL Bn (cfO (outP a held l[k] e))).length-0)<=1000000;omega) o
   refine (u _).trans ?_;have t:=fun v s K=>zqu e l held a v s (setL B1 (maO (outP a held l[k] e))) o2 (by omega) K N0 0 b (Nat.zero_le _) (by unfold N0;omega) (by omega) n
   refine (t _ _ _).trans ?_;rw [drop_zero,drop_zero];exact zqw g j i e l q w K m (k+1) (puts Bn cs (setL Bn (cfO (outP a held l[k] e)))) (puts B1 b (setL B1 (maO (outP a held l[k] e)))) (by omega) (by omega) (by omega) (by omega) (zy5 o p) (zq7 n o2)
  ·rw [if_neg (by omega),drop_eq_nil_of_le (by omega)];rfl
variable {α β:Type}
theorem zju {c:α->α->Int}(h:TO c)(f:β->List α)(l:List β):setL c (l.flatMap (fun x=>setL c (f x)))=setL c (l.flatMap f):=by
 refine y10 h (fun x=>?_);rw [mem_flatMap,mem_flatMap];constructor
 ·rintro ⟨y,b,g⟩;exact ⟨y,b,(F9 h _ _).1 g⟩
 ·rintro ⟨y,b,g⟩;exact ⟨y,b,(F9 h _ _).2 g⟩
def cfN (a:Aut)(held:List Ev)(l:List Cf)(e:Ev):List Cf:=setL Bn (l.flatMap (fun c=>cfO (outP a held c e)))
def maN (a:Aut)(held:List Ev)(l:List Cf)(e:Ev):List Ma:=setL B1 (l.flatMap (fun c=>maO (outP a held c e)))
theorem y4g (h:CxA a held)(b:a.fEdges.length<=100)(j:kk<=1000)(e:Ev)(l:List Cf)(m:∀ c∈l,CB held a kk c)(i:l.length<=5000):M1 N0 a held l e=some (cfN a held l e,maN a held l e):=by
 have:=zqw h b j e l m i (fun g f=>some (g,f)) N0 0 [] [] (Nat.zero_le _) (by unfold N0;omega) (by simp) (by simp) (by simp) (by simp);unfold M1 cfN maN;refine this.trans ?_;rw [drop_zero,<-zju Ds,<-zju Cj];rfl
theorem zv6 (d:Cf)(f:List Cf)(b:List Ma)(g:f.length<=100000000)(h1:b.length<=100000000):Pf N0 d f b=some (f++cfO [d],b++maO [d]):=by
 unfold Pf;rw [A5,ziy,zhn,Bq (by grind) (by omega),Bq (by simp only [length_singleton];omega) (by omega)];by_cases h:d.fState<0
 ·simp [h,cfO,maO]
 ·simp [h,cfO,maO]
variable {r:B9}
theorem Z2 (j:CxA r.fa held)(n:kk<=1000)(o:CB held r.fa kk c)(g:∀ y∈held,Bh y=Bh e->y=e)(i:r.fa.fEdges.length<=100)(K:List Cf->List Ma->Option (List Cf×List Ma×B9×Cf×Ev)) :
  ∀ (m k:Nat) (f:List Cf) (b:List Ma),k<=r.fa.fEdges.length->r.fa.fEdges.length<m+k->f.length<=90000000+k->b.length<=90000000+k->Ho N0 e c r ⟨bndV held r.fa.fVars.toNat c.fBindings⟩ K m ((k:Int),f,b)=K (f++cfO (((r.fa.fEdges.drop k).filter (fun x=>decide (x.fFrom=c.fState))).filterMap (fun x=>coP r.fa held c x e))) (b++maO (((r.fa.fEdges.drop k).filter (fun x=>decide (x.fFrom=c.fState))).filterMap (fun x=>coP r.fa held c x e)))
 |0,k,f,b,h1,h2,z,w=>by omega
 |m+1,k,f,b,h1,h2,z,w=>by
  unfold Ho;simp only [length_map,A5,Al];by_cases h:k<r.fa.fEdges.length
  ·have p:=getElem_mem h;rw [if_pos (by omega),Ac h,B0 _ k h,Ag k (by omega),filter_cons];by_cases q:r.fa.fEdges[k].fFrom=c.fState;rotate_left
   ·rw [if_neg q,if_neg (by simpa using q)];exact Z2 j n o g i K m (k+1) f b (by omega) (by omega) (by omega) (by omega)
   rw [if_pos q,if_pos (by simpa using q),zlb j n o p g,A3,filterMap_cons];cases v:coP r.fa held c r.fa.fEdges[k] e with
   |none =>
    simp only [rfC,Az];exact Z2 j n o g i K m (k+1) f b (by omega) (by omega) (by omega) (by omega)
   |some d =>
    simp only [rfC,Av];have t:=Sc [d];have s:=Nk [d];simp only [length_singleton] at t s;rw [zv6 d f b (by omega) (by omega),Cb];have u:=Z2 j n o g i K m (k+1) (f++cfO [d]) (b++maO [d]) (by omega) (by omega) (by rw [length_append];omega) (by rw [length_append];omega);refine u.trans ?_;rw [append_assoc,append_assoc,<-Zm,<-Zc];rfl
  ·rw [if_neg (by omega),drop_eq_nil_of_le (by omega)];simp [cfO,maO]
theorem Z1 (j:CxA r.fa held)(n:kk<=1000)(o:CB held r.fa kk c)(g:∀ y∈held,Bh y=Bh e->y=e)(i:r.fa.fEdges.length<=100)(K:List Cf->List Ma->Option (List Cf×List Ma×B9×Cf×Ev)) :
  ∀ (m k:Nat) (f:List Cf) (b:List Ma),k<=r.fa.fEdges.length->r.fa.fEdges.length<m+k->f.length<=90000000+k->b.length<=90000000+k->Hn N0 e c r ⟨bndV held r.fa.fVars.toNat c.fBindings⟩ K m ((k:Int),f,b)=K (f++cfO (((r.fa.fEdges.drop k).filter (fun x=>decide (x.fFrom=c.fState))).filterMap (fun x=>coP r.fa held c x e))) (b++maO (((r.fa.fEdges.drop k).filter (fun x=>decide (x.fFrom=c.fState))).filterMap (fun x=>coP r.fa held c x e)))
 |0,k,f,b,h1,h2,z,w=>by omega
 |m+1,k,f,b,h1,h2,z,w=>by
  unfold Hn;simp only [length_map,A5,Al];by_cases h:k<r.fa.fEdges.length
  ·have p:=getElem_mem h;rw [if_pos (by omega),Ac h,B0 _ k h,Ag k (by omega),filter_cons];by_cases q:r.fa.fEdges[k].fFrom=c.fState;rotate_left
   ·rw [if_neg q,if_neg (by simpa using q)];exact Z1 j n o g i K m (k+1) f b (by omega) (by omega) (by omega) (by omega)
   rw [if_pos q,if_pos (by simpa using q),zlb j n o p g,A3,filterMap_cons];cases v:coP r.fa held c r.fa.fEdges[k] e with
   |none =>
    simp only [rfC,Az];exact Z1 j n o g i K m (k+1) f b (by omega) (by omega) (by omega) (by omega)
   |some d =>
    simp only [rfC,Av];have t:=Sc [d];have s:=Nk [d];simp only [length_singleton] at t s;rw [zv6 d f b (by omega) (by omega),Cb];have u:=Z1 j n o g i K m (k+1) (f++cfO [d]) (b++maO [d]) (by omega) (by omega) (by rw [length_append];omega) (by rw [length_append];omega);refine u.trans ?_;rw [append_assoc,append_assoc,<-Zm,<-Zc];rfl
  ·rw [if_neg (by omega),drop_eq_nil_of_le (by omega)];simp [cfO,maO]
theorem zv5 (j:CxA r.fa held)(hm:HM held r.fheld)(u:kk<=1000)(b:CB held r.fa kk c)(n:∀ y∈held,Bh y=Bh e->y=e)(m:r.fa.fEdges.length<=100)(i:List Cf)(h:List Ma)(L:i.length<=10000000)(h1:h.length<=10000000):T0 N0 i h r c e=some (i++cfO (outP r.fa held c e),h++maO (outP r.fa held c e),r,c,e):=by
 have E:=b.lb;have D:=j.lh;have f:=j.ok.vars;have C:¬c.fState<0:=by have:=b.st;omega
 obtain ⟨p,I,v,H⟩:=Ym b.st;have s:EvS (enH held c.fBindings):=S9 (by omega);have t:=zwb ⟨f.1,f.2⟩ b.bd;have F:=(j.wf.st p v).1;unfold T0;rw [y61 N0 (by decide) held r hm f c.fBindings (by omega) b.bd,A3,Z4 b.st.1 I];rw [zod N0 ⟨bndV held r.fa.fVars.toNat c.fBindings⟩ e (vio (enH held c.fBindings) e) p.fGuards (by omega) (by unfold N0;omega) (fun g G=>by
  unfold K4;have:=zzx t s ((j.wf.st p v).2 g G) e;refine (congrArg (fun o=>bnd o fun z=>some z) this).trans ?_;rw [A3]),A3]
 have q:skP r.fa held c e=!(p.fGuards.any (vio (enH held c.fBindings) e)):=by unfold skP;rw [H]
 rw [<-q];unfold outP;rw [Zm,Zc];cases skP r.fa held c e with
 |true =>
  rw [Av,zv6 c i h (by omega) (by omega),Cb];have J:=Sc [c];have w:=Nk [c];have B:=fun K=>Z2 j u b n m K N0 0 (i++cfO [c]) (h++maO [c]) (Nat.zero_le _) (by unfold N0;omega) (by grind) (by rw [length_append];simp at w;omega)
  refine (B _).trans ?_;rw [drop_zero];simp [append_assoc,Df]
 |false =>
  rw [Az];have A:=fun K=>Z1 j u b n m K N0 0 i h (Nat.zero_le _) (by unfold N0;omega) (by omega) (by omega)
  refine (A _).trans ?_;rw [drop_zero];simp [Df,cfO,maO]
theorem zqy (n:CxA r.fa held)(hm:HM held r.fheld)(o:kk<=1000)(i:∀ y∈held,Bh y=Bh e->y=e)(g:r.fa.fEdges.length<=100)(l:List Cf)(p:∀ c∈l,CB held r.fa kk c)(q:l.length<=5000)(K:List Cf->List Ma->Option (List Cf×List Ma)):∀ (m k:Nat) (f:List Cf) (b:List Ma),k<=l.length->l.length<m+k->f.length<=101*k->b.length<=101*k->Pe N0 e l r K m ((k:Int),f,b)=K (f++(l.drop k).flatMap (fun c=>cfO (outP r.fa held c e))) (b++(l.drop k).flatMap (fun c=>maO (outP r.fa held c e)))
 |0,k,f,b,h1,h2,u,t=>by omega
 |m+1,k,f,b,h1,h2,u,t=>by
  unfold Pe;simp only [length_map,A5];by_cases h:k<l.length
  ·have j:=p _ (getElem_mem h);have z:=Sc (outP r.fa held l[k] e);have w:=Nk (outP r.fa held l[k] e);have v:(outP r.fa held l[k] e).length<=r.fa.fEdges.length+1:=Wc;have s:Xa N0 r l[k] e=some (r,l[k],e):=rfl;rw [if_pos (by omega),Ac h,s,Cb];simp only;rw [zv5 n hm o j i g f b (by omega) (by omega),Cb,B0 _ k h,flatMap_cons,flatMap_cons,<-append_assoc,<-append_assoc,Ag k (by omega)];exact zqy n hm o i g l p q K m (k+1) _ _ (by omega) (by omega) (by rw [length_append];omega) (by rw [length_append];omega)
  grind
theorem Z6 (f:α->List β)(n:Nat):∀ l:List α,(∀ x∈l,(f x).length<=n)->(l.flatMap f).length<=n*l.length
 |[],_=>by simp
 |x::l,h=>by
  have h1:=h x (by simp);have h2:=Z6 f n l (fun y b=>h y (mem_cons_of_mem _ b));rw [flatMap_cons,length_append,length_cons,Nat.mul_succ];omega
theorem zld (g:CxA r.fa held)(hm:HM held r.fheld)(i:kk<=1000)(m:∀ y∈held,Bh y=Bh e->y=e)(h:r.fa.fEdges.length<=100)(l:List Cf)(n:∀ c∈l,CB held r.fa kk c)(p:l.length<=5000):Im N0 r l e=some (cfN r.fa held l e,maN r.fa held l e):=by
 have o:=fun K=>zqy g hm i m h l n p K N0 0 [] [] (Nat.zero_le _) (by unfold N0;omega) (by simp) (by simp)
 unfold Im;refine (o _).trans ?_;rw [drop_zero,nil_append,nil_append];have s:=Z6 (fun c=>cfO (outP r.fa held c e)) 101 l (fun c _=>by have:=Sc (outP r.fa held c e);have:(outP r.fa held c e).length<=r.fa.fEdges.length+1:=Wc;omega);have q:=Z6 (fun c=>maO (outP r.fa held c e)) 101 l (fun c _=>by have:=Nk (outP r.fa held c e);have:(outP r.fa held c e).length<=r.fa.fEdges.length+1:=Wc;omega);rw [y1b N0 (by decide) _ (fun d j=>by
  obtain ⟨c,f,b⟩:=mem_flatMap.1 j;exact y0r g i (n c f) e d b) (by omega),Cb,zub N0 (by decide) _ (fun d j=>by
  obtain ⟨c,f,b⟩:=mem_flatMap.1 j;exact zvq g i (n c f) e d b) (by omega),Cb]
 rfl
theorem zo6 {e:Exn}(h:WfE e):∃ b:Bool,M3 N0 e=some b:=by
 obtain ⟨z,f,g⟩:=h;obtain ⟨c,j,_⟩:=zv2 200 (by omega) (by omega) z e g f N0 (by unfold N0;omega);obtain ⟨d,i,_⟩:=y00 z e g f N0 (by unfold N0;omega);unfold M3;simp only [B3,Am,Lc];rw [j,A3,i,A3,A5];split
 ·exact ⟨_,rfl⟩
 ·exact ⟨_,rfl⟩
theorem zuh (l:List Gd)(f:∀ g∈l,WfE g.fCond)(i:l.length<=1100000):∀ (m k:Nat),k<=l.length->l.length<m+k->∃ b:Bool,Q5 N0 l (some true) m (k:Int)=some b
 |0,k,h1,h2=>by omega
 |m+1,k,h1,h2=>by
  unfold Q5;simp only [length_map,A5,Al];by_cases h:k<l.length
  ·obtain ⟨b,j⟩:=zo6 (f _ (getElem_mem h));rw [if_pos (by omega),Ac h,j,A3,Ag k (by omega)];cases b with
   |true=>rw [Av];exact zuh l f i m (k+1) (by omega) (by omega)
   |false=>rw [Az];exact ⟨_,rfl⟩
  ·rw [if_neg (by omega)];exact ⟨_,rfl⟩
theorem y1g (f:Stt)(h:f.fGuards.length<=1100000/\∀ g∈f.fGuards,WfE g.fCond):∃ b:Bool,Ue N0 f.fGuards=some b:=zuh f.fGuards h.2 h.1 N0 0 (Nat.zero_le _) (by have:=h.1;unfold N0;omega)
theorem zql (a:Aut)(v:Int)(x:Ed)(ys:List Exn)(f:x.fChecks=ys.map Ar)(i:∀ y∈ys,WfE y)(n:ys.length<=1100000)(P:Prop)(K:Option Bool)(j:∃ b:Bool,K=some b/\(b=true->P)):∀ (m k:Nat),k<=ys.length->ys.length<m+k->∃ b:Bool,Q6 N0 a v x K m (k:Int)=some b/\(b=true->P)
 |0,k,h1,h2=>by omega
 |m+1,k,h1,h2=>by
  unfold Q6;have g:x.fChecks.length=ys.length:=by rw [f,length_map]
  simp only [length_map,A5,Al,g];by_cases h:k<ys.length
  ·obtain ⟨b,o⟩:=zo6 (i _ (getElem_mem h));rw [if_pos (by omega),zor f h,o,A3,Ag k (by omega)];cases b with
   |true=>rw [Av];exact zql a v x ys f i n P K j m (k+1) (by omega) (by omega)
   |false=>rw [Az];exact ⟨false,rfl,fun h=>by cases h⟩
  ·rw [if_neg (by omega)];exact j
def FewA (a:Aut):Prop:=a.fEdges.length<=40/\∀ x∈a.fEdges,x.fOpens.length<=12
theorem zqm (a:Aut)(q:WfA a)(K:Option Bool)(s:∃ b:Bool,K=some b/\(b=true->a.fEdges.length<=40)):∀ (m k:Nat),k<=a.fEdges.length->k<=60->60<m+k->(∀ x∈a.fEdges.take k,x.fOpens.length<=12)->∃ b:Bool,Ig N0 a K m (k:Int)=some b/\(b=true->FewA a)
 |0,k,h1,h2,w,o=>by omega
 |m+1,k,h1,h2,w,o=>by
  have g:(60<=k\/a.fEdges.length<=k)->∃ b:Bool,K=some b/\(b=true->FewA a):=fun E=>by
   obtain ⟨b,y,t⟩:=s;refine ⟨b,y,fun i=>⟨t i,fun x f=>o x ?_⟩⟩;have:=t i;rw [take_of_length_le (by omega)];exact f
  have no:∃ b:Bool,some false=some b/\(b=true->FewA a):=⟨false,rfl,fun h=>by cases h⟩;unfold Ig;simp only [length_map,A5,B3,Am,Kq,Ex,Al,Av,Az];by_cases h:k<a.fEdges.length;rotate_left
  ·rw [if_neg (by omega)];exact g (by omega)
  rw [if_pos (by omega)];by_cases v:k<60;rotate_left
  ·rw [if_neg (by omega)];exact g (by omega)
  rw [if_pos (by omega),Ac h,Ag k (by omega)];have wx:=q.ed _ (getElem_mem h);obtain ⟨b,i⟩:=zo6 wx.cond;rw [i,A3];cases b with
  |false=>rw [Az];exact no
  |true =>
  rw [Av];split
  ·exact no
  split
  ·exact no
  split
  ·exact no
  split
  ·exact no
  split
  ·exact no
  rename_i D C B A z;obtain ⟨ys,p,j⟩:=wx.checks;have n:ys.length<=1100000:=by have:=wx.lc;rw [p,length_map] at this;exact this
  have u:=zqm a q K s m (k+1) (by omega) (by omega) (by omega) (fun x f=>by
   rw [take_succ_eq_append_getElem h] at f;rcases mem_append.1 f with f|f
   ·exact o x f
   ·rw [mem_singleton.1 f];omega)
  exact zql a (k:Int) _ ys p j n (FewA a) _ u N0 0 (Nat.zero_le _) (by unfold N0;omega)
theorem zqn (a:Aut)(g:WfA a)(P:Prop)(K:Option Bool)(f:∃ b:Bool,K=some b/\(b=true->P)):∀ (m k:Nat),k<=a.fStates.length->k<=30->30<m+k->∃ b:Bool,Ih N0 a K m (k:Int)=some b/\(b=true->P)
 |0,k,h1,h2,o=>by omega
 |m+1,k,h1,h2,o=>by
  have no:∃ b:Bool,some false=some b/\(b=true->P):=⟨false,rfl,fun h=>by cases h⟩;unfold Ih;simp only [length_map,A5,B3,Am,Kp,Ft,Al,Av,Az];by_cases h:k<a.fStates.length;rotate_left
  ·rw [if_neg (by omega)];exact f
  rw [if_pos (by omega)];by_cases n:k<30;rotate_left
  ·rw [if_neg (by omega)];exact f
  have i:=zqn a g P K f m (k+1) (by omega) (by omega) (by omega);obtain ⟨b,j⟩:=y1g _ (g.st _ (getElem_mem h));have hi:∀ Q:Stt->Option Bool,idx a.fStates (k:Int) Q=Q a.fStates[k]:=fun Q=>Ac h Q
  rw [if_pos (by omega),Ag k (by omega)];simp only [hi,j,A3];repeat' split;all_goals first|exact no|(cases b<;>first|(rw [Av];exact i)|(rw [Az];exact no))|skip
theorem y1o (a:Aut)(f:WfA a):∃ b:Bool,Uf N0 a=some b/\(b=true->FewA a):=by
 unfold Uf;refine zqn a f (FewA a) _ ?_ N0 0 (Nat.zero_le _) (by omega) (by unfold N0;omega);refine zqm a f _ ?_ N0 0 (Nat.zero_le _) (by omega) (by unfold N0;omega) (by simp);simp only [B3,Am,L9,length_map,A5];split
 ·exact ⟨_,rfl,fun h=>by simp at h;omega⟩
 ·exact ⟨_,rfl,fun h=>by cases h⟩
theorem zga (l:List Ev)(g:l.length<=1000000)(a:Aut)(K:List (Rf×Ev)->Option (Option B9×Int)):∀ (m k:Nat) (b:List (Rf×Ev)),k<=l.length->l.length<m+k->Rq N0 l a K m ((k:Int),b)=K ((l.drop k).foldl (fun m e=>mput m (Bh e) e) b)
 |0,k,b,h1,h2=>by omega
 |m+1,k,b,h1,h2=>by
  unfold Rq;simp only [length_map,A5];by_cases h:k<l.length
  ·have f:J5 N0 l[k]=some (Bh l[k]):=rfl;rw [if_pos (by omega),Ac h,f,A3,y08,B0 _ k h,foldl_cons,Ag k (by omega)];exact zga l g a K m (k+1) _ (by omega) (by omega)
  grind
theorem zog (a:Aut)(p:WfA a)(l:List Ev)(g:l.length<=1000000):∃ q:Int,Eg N0 a l=some q/\((q≠0/\G6 N0 a l=some (none,q))\/(q=0/\AOk a/\y33 l/\Il N0 a=some 0/\Du l=0/\∃ i,HM l i/\G6 N0 a l=some (some ⟨a,i⟩,0))):=by
 obtain ⟨r,o,n,j⟩:=zhj N0 (by decide) a p;unfold Eg G6;rw [o,n,A3,A3,Al,A5,Al,A5];by_cases h:r=0;rotate_left
 ·simp_all
 rw [if_pos h,if_pos h,zuq N0 l (by unfold N0;omega) g,y1s N0 l (by unfold N0;omega) (by decide) g,A3,A3,Al,A5];refine ⟨Du l,rfl,?_⟩;by_cases f:Du l=0;rotate_left
 ·simp_all
 rw [if_pos f];have b:=zcc f;refine Or.inr ⟨f,j h,b,by rw [h] ,f,l.foldl (fun m e=>mput m (Bh e) e) [],fun r=>?_,?_⟩
 ·rw [zvz r l [] b.st];simp [mlk]
 ·refine (zga l g a _ N0 0 [] (Nat.zero_le _) (by unfold N0;omega)).trans ?_;rw [drop_zero]
theorem y52 (o:CxA a held)(i:Str Cl held)(m:CB held a k c)(f:x∈a.fEdges)(q:e∈held)(h:coP a held c x e=some d)(p:0<=d.fState):CB held a (k+1) d:=by
 have n:=zwk o m f h;have j:=ziv h;have eo:=o.ok.ed x f;refine ⟨?_,?_,?_,n.1,n.2⟩
 ·rw [j] at p ⊢;exact ⟨p,eo.tgt.2⟩
 ·rw [j];intro b g;rcases mem_append.1 g with g|g
  ·exact m.bd b g
  ·rw [mem_singleton.1 g];refine ⟨eo.var,?_⟩;rw [Ze i q];rfl
 ·rw [j];exact (y07 e.fTime x.fOpens m.ss).filter _
theorem CB.up (h:CB held a k c):CB held a (k+1) c:=⟨h.st,h.bd,h.ss,by have:=h.lb;omega,by have:=h.ls;omega⟩
theorem y1w (i:CxA a held)(f:Str Cl held)(g:CB held a k c)(j:e∈held)(h:d∈outP a held c e)(n:0<=d.fState):CB held a (k+1) d:=by
 unfold outP at h;rcases mem_append.1 h with h|h
 ·split at h
  ·rw [mem_singleton.1 h];exact g.up
  ·simp at h
 ·obtain ⟨x,b,m⟩:=mem_filterMap.1 h;exact y52 i f g (Yo b).1 j m n
theorem zwt (h:d∈cfN a held l e):∃ c∈l,d∈outP a held c e/\0<=d.fState:=by
 unfold cfN at h;obtain ⟨c,h1,h2⟩:=mem_flatMap.1 ((F9 Ds _ _).1 h);exact ⟨c,h1,zws h2⟩
theorem zwv (f:CxA a held)(b:Str Cl held)(i:∀ c∈l,CB held a k c)(g:e∈held):∀ d∈cfN a held l e,CB held a (k+1) d:=fun d h=>by
 obtain ⟨c,h1,h2,j⟩:=zwt h;exact y1w f b (i c h1) g h2 j
theorem y0c (f:CxA a held)(g:k<=1000)(h:∀ c∈l,CB held a k c)(e:Ev):∀ d∈maN a held l e,maOk d=true:=fun d b=>by
 unfold maN at b;obtain ⟨c,h1,h2⟩:=mem_flatMap.1 ((F9 Cj _ _).1 b);exact zvq f g (h c h1) e d h2
theorem y25 (b:a.fEdges.length<=100)(l:List Cf)(e:Ev):(maN a held l e).length<=101*l.length:=by
 unfold maN;have f:=Z6 (fun c=>maO (outP a held c e)) 101 l (fun c _=>by have:=Nk (outP a held c e);have:(outP a held c e).length<=a.fEdges.length+1:=Wc;omega);have:=zh7 (c:=B1) (l.flatMap (fun c=>maO (outP a held c e)));omega
theorem y18 (l s:List Ma)(b:Str B1 s)(f:Str B1 l):l.length<=(puts B1 s l).length:=by
 have:puts B1 s l=puts B1 l s:=Str.uniq Cj (Yx Cj _ _ b) (Yx Cj _ _ f) (fun x=>by rw [J6 Cj,J6 Cj,Or.comm]);rw [this];exact zk7 s l
def wiP (most:Nat)(a:Aut)(held:List Ev):List Ev->List Cf->List Ma->List Cf×List Ma×Bool
 |[],cs,b=>(cs,b,true)
 |e::r,cs,b=>if most<(cfN a held cs e).length\/most<(puts B1 b (maN a held cs e)).length then ([],[],false) else wiP most a held r (cfN a held cs e) (puts B1 b (maN a held cs e))
theorem zbs {l:List Ev}(i:CxA a l)(g:Str Cl l)(f:a.fEdges.length<=100)(most:Nat)(hm:most<=4096)(n:1<=most)(v:l.length<=900) :
  ∀ (m k:Nat) (cs:List Cf) (b:List Ma),k<=l.length->l.length<m+k->cs.length<=most->b.length<=most->(∀ c∈cs,CB l a k c)->(∀ d∈b,maOk d=true)->Hz N0 (most:Int) l a (fun s q=>some (s,q,true)) m (cs,b,(k:Int))=some (wiP most a l (l.drop k) cs b)
 |0,k,cs,b,h1,h2,A,y,j,p=>by omega
 |m+1,k,cs,b,h1,h2,A,y,j,p=>by
  unfold Hz;simp only [length_map,A5];by_cases h:k<l.length
  ·have w:=getElem_mem h;have z:=y25 (held:=l) f cs l[k];have o:=y0c i (by omega) j l[k];rw [if_pos (by omega),Ac h,y4g i f (by omega) l[k] cs j (by omega),A3,B0 _ k h];have t:=fun K=>zka (most:Int) l a (cs,b,(k:Int)) (cfN a l cs l[k],maN a l cs l[k]) o (by grind) K N0 0 b (Nat.zero_le _) (by show (maN a l cs l[k]).length<2000000000+0;omega) (by show b.length+((maN a l cs l[k]).length-0)<=1000000;omega) p
   refine (t _).trans ?_;rw [drop_zero];simp only [B3,Am,K0,A5,Av];have u:=zbs i g f most hm n v m (k+1) (cfN a l cs l[k]) (puts B1 b (maN a l cs l[k])) (by omega) (by omega);unfold wiP;by_cases C:most<(cfN a l cs l[k]).length
   ·simp_all
   rw [if_neg (by omega)];by_cases B:most<(puts B1 b (maN a l cs l[k])).length
   ·simp_all
   rw [if_neg (by omega),if_neg (by omega),Ag k (by omega)];exact u (by omega) (by omega) (zwv i g j w) (zq7 p o)
  ·rw [if_neg (by omega),drop_eq_nil_of_le (by omega)];rfl
theorem cb0 {l:List Ev}(g:AOk a):CB l a 0 cf0:=⟨⟨by simp,by have:=g.st;simp;omega⟩,fun b f=>by simp at f,by simp [SS],by simp,by simp⟩
theorem zkf {l:List Ev}(h:CxA a l)(b:Str Cl l)(g:a.fEdges.length<=100)(most:Nat)(hm:most<=4096)(f:1<=most)(i:l.length<=900):L4 N0 a l (most:Int)=some (wiP most a l l [cf0] []):=by
 unfold L4;have m:Qd N0=some cf0:=rfl;rw [m,A3];exact zbs h b g most hm f i N0 0 [cf0] [] (Nat.zero_le _) (by unfold N0;omega) (by simp;omega) (by simp) (fun c j=>by rw [mem_singleton.1 j];exact cb0 h.ok) (by simp)
theorem zqb {l:List Ev}(p:CxA r.fa l)(hm:HM l r.fheld)(g:Str Cl l)(j:r.fa.fEdges.length<=100)(A:l.length<=20)(K:List Cf->List Ma->Option (List Cf×List Ma×Int)) :
  ∀ (m k:Nat) (cs:List Cf) (all:List Ma),k<=l.length->l.length<m+k->cs.length<=150->all.length<=150*k->(∀ c∈cs,CB l r.fa k c)->(∀ d∈all,maOk d=true)->(wiP 150 r.fa l (l.drop k) cs (setL B1 all)).2.2=true ->
   ∃ f b,H9 N0 l r K m (cs,(k:Int),all)=K f b/\wiP 150 r.fa l (l.drop k) cs (setL B1 all)=(f,setL B1 b,true)/\(∀ d∈b,maOk d=true)/\b.length<=4096/\f.length<=150/\(setL B1 b).length<=max 150 (setL B1 all).length/\(∀ c∈f,CB l r.fa l.length c)
 |0,k,cs,all,h1,h2,v,D,n,u,i=>by omega
 |m+1,k,cs,all,h1,h2,v,D,n,u,i=>by
  unfold H9;simp only [length_map,A5];by_cases h:k<l.length
  ·have t:=getElem_mem h;have s:∀ y∈l,Bh y=Bh l[k]->y=l[k]:=fun y w E=>by
    have H:=Ze g w;have G:=Ze g t;simp_all
   rw [B0 _ k h] at i ⊢;unfold wiP at i ⊢;have eM:puts B1 (setL B1 all) (maN r.fa l cs l[k])=setL B1 (all++maN r.fa l cs l[k]):=by unfold setL;rw [<-Vv]
   have C:=y18 (maN r.fa l cs l[k]) (setL B1 all) (N8 Cj _) (N8 Cj _);by_cases q:150<(cfN r.fa l cs l[k]).length\/150<(puts B1 (setL B1 all) (maN r.fa l cs l[k])).length
   ·rw [if_pos q] at i;cases i
   rw [if_neg q] at i ⊢;have o:=y0c p (by omega) n l[k];rw [if_pos (by omega),Ac h,zld p hm (by omega) s j cs n (by omega),A3];have z:IntKind.wrap .i64 (((all.length:Nat):Int)+(((maN r.fa l cs l[k]).length:Nat):Int))=((all.length+(maN r.fa l cs l[k]).length:Nat):Int):=by rw [Cy _ (by omega)];omega
   simp only [B3,Am,J3,Av,A5];rw [if_neg (by omega),if_neg (by omega),z,if_neg (by omega),Bq (by omega) (by omega),Ag k (by omega)];rw [eM] at i ⊢;obtain ⟨f,b,P,O,N,M,L,J,I⟩:=zqb p hm g j A K m (k+1) (cfN r.fa l cs l[k]) (all++maN r.fa l cs l[k]) (by omega) (by omega) (by omega) (by rw [length_append];omega) (zwv p g n t) (fun d F=>by
    grind) i
   grind
  ·rw [if_neg (by omega)];have B:k=l.length:=by omega
   rw [drop_eq_nil_of_le (by omega)];exact ⟨cs,all,rfl,rfl,u,by omega,v,by omega,by rw [<-B];exact n⟩
theorem zo4 (a:Aut)(g:WfA a)(l:List Ev):∃ b:Bool,Lo N0 a l=some b/\(b=true->FewA a/\l.length<=12/\∃ q:Int,Eg N0 a l=some q/\(q=0->(wiP 150 a l l [cf0] []).2.2=true)):=by
 obtain ⟨b,v,u⟩:=y1o a g;unfold Lo;simp only [B3,Am,K8];rw [v,A3,y45 N0 l (by decide),Al,A3];cases b with
 |false=>rw [Az,Av];simp_all
 |true =>
  rw [Av];cases i:fewE l with
  |false=>simp only [Bool.not_false,Av];simp_all
  |true =>
   simp only [Bool.not_true,Az];obtain ⟨w,_⟩:=zz7 i;obtain ⟨q,o,n⟩:=zog a g l (by omega);rw [o,A3,Al,A5];rcases n with ⟨h,_⟩|⟨h,s,p,_,_,_⟩
   ·simp_all
   ·have m:=u rfl;have f:CxA a l:=⟨g,s,fun x f=>by have:=m.2 x f;omega,by omega⟩;have j:=zkf f p.st (by have:=m.1;omega) 150 (by omega) (by omega) (by omega);have t:((150:Nat):Int)=150:=rfl;rw [t] at j;rw [if_pos h,j,A3];simp_all
variable {h1 h2:List Ev}
theorem zdl:∀ (l:List Bd) (vs:List (List Ev)),(∀ b∈l,lkH h1 b.fRef=lkH h2 b.fRef)->l.foldl (addB h1) vs=l.foldl (addB h2) vs
 |[],vs,_=>rfl
 |b::l,vs,h=>by
  rw [foldl_cons,foldl_cons];have:addB h1 vs b=addB h2 vs b:=by unfold addB;rw [h b (by simp)]
  rw [this];exact zdl l _ (fun x f=>h x (mem_cons_of_mem _ f))
theorem zds {l:List Bd}(h:∀ b∈l,lkH h1 b.fRef=lkH h2 b.fRef):enH h1 l=enH h2 l:=zdl l _ h
theorem zwl (h:∀ b∈c.fBindings,lkH h1 b.fRef=lkH h2 b.fRef)(x:Ed)(e:Ev):coP a h1 c x e=coP a h2 c x e:=by
 have g:enH (e::h1) (bdN c x e)=enH (e::h2) (bdN c x e):=zds (fun b f=>by
  unfold lkH;rw [find?_cons,find?_cons];by_cases q:Bh e=b.fRef
  ·simp [q]
  ·simp only [q,decide_false];rcases mem_append.1 f with f|f
   ·exact h b f
   ·rw [mem_singleton.1 f] at q;exact absurd rfl q)
 unfold coP;rw [zds h,g]
theorem zgc (h:∀ b∈c.fBindings,lkH h1 b.fRef=lkH h2 b.fRef)(e:Ev):outP a h1 c e=outP a h2 c e:=by
 unfold outP skP;rw [zds h];congr 1;exact congrArg (fun f=>filterMap f (Df a c.fState)) (funext fun x=>zwl h x e)
theorem zba {f g:α->List β}:∀ {l:List α},(∀ x∈l,f x=g x)->l.flatMap f=l.flatMap g
 |[],_=>rfl
 |x::l,h=>by rw [flatMap_cons,flatMap_cons,h x (by simp),zba (fun y b=>h y (mem_cons_of_mem _ b))]
theorem zwu (h:∀ c∈l,∀ b∈c.fBindings,lkH h1 b.fRef=lkH h2 b.fRef)(e:Ev):cfN a h1 l e=cfN a h2 l e:=by
 unfold cfN;rw [zba (fun c f=>by rw [zgc (h c f) e])]
theorem zvr (h:∀ c∈l,∀ b∈c.fBindings,lkH h1 b.fRef=lkH h2 b.fRef)(e:Ev):maN a h1 l e=maN a h2 l e:=by
 unfold maN;rw [zba (fun c f=>by rw [zgc (h c f) e])]
theorem y26 {l more:List Ev}(f:Str Cl more)(hm:∀ x∈l,x∈more){r:Rf}(h:(lkH l r).isSome=true):lkH l r=lkH more r:=by
 obtain ⟨y,b⟩:=Option.isSome_iff_exists.1 h;obtain ⟨h1,h2⟩:=zoo b;have:=Ze f (hm y h2);rw [h1] at this;rw [b,this]
theorem y6c {l more:List Ev}(f:Str Cl more)(hm:∀ x∈l,x∈more){cs:List Cf}(g:∀ c∈cs,CB l a k c):∀ c∈cs,∀ b∈c.fBindings,lkH l b.fRef=lkH more b.fRef:=fun c h b i=>y26 f hm ((g c h).bd b i).2
end Go.Proofs.YtidhlpjgifoneaaGreat
