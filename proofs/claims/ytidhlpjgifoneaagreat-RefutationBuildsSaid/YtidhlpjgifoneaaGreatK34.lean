/- Layer 25, plainly. -/
import Derived.Test.YtidhlpjgifoneaaGreatK33
set_option linter.unusedVariables false
set_option linter.unusedSimpArgs false
namespace Go.Proofs.YtidhlpjgifoneaaGreat
open Go.RowKit List
def cfO (l:List Cf):List Cf:=l.filter (fun d=>!decide (d.fState<0))
def maO (l:List Cf):List Ma:=(l.filter (fun d=>decide (d.fState<0))).map (fun d=>⟨d.fBindings⟩)
def ztt (a:Aut)(s:Int):List Ed:=a.fEdges.filter (fun x=>decide (x.fFrom=s))
def skP (a:Aut)(held:List Ev)(c:Cf)(e:Ev):Bool:=!(zyl a c.fState).any (vio (enH held c.fBindings) e)
def outP (a:Aut)(held:List Ev)(c:Cf)(e:Ev):List Cf:=(if skP a held c e=true then [c] else [])++(ztt a c.fState).filterMap (fun x=>coP a held c x e)
theorem y63 (d:Cf)(l:List Cf):cfO (d::l)=if d.fState<0 then cfO l else d::cfO l:=by
 unfold cfO;grind
theorem y4i (d:Cf)(l:List Cf):maO (d::l)=if d.fState<0 then (⟨d.fBindings⟩:Ma)::maO l else maO l:=by
 unfold maO;grind
theorem y64 (l m:List Cf):cfO (l++m)=cfO l++cfO m:=by unfold cfO;rw [filter_append]
theorem y4j (l m:List Cf):maO (l++m)=maO l++maO m:=by unfold maO;simp_all
theorem zx1 (l:List Cf):(cfO l).length<=l.length:=length_filter_le _ _
theorem zun (l:List Cf):(maO l).length<=l.length:=by unfold maO;grind
variable {l:List Cf}{d:Cf}
theorem yjo (h:d∈cfO l):d∈l/\0<=d.fState:=by
 have:=mem_filter.1 h;exact ⟨this.1,by simpa using this.2⟩
theorem yoo {m:Ma}(h:m∈maO l):∃ d∈l,m=⟨d.fBindings⟩:=by
 obtain ⟨d,b,rfl⟩:=mem_map.1 h;grind
def Sz (k:Nat)(c:Cf):Prop:=c.fBindings.length<=k/\c.fStarts.length<=100*k
variable {k:Nat}{c:Cf}
theorem Sz.ok (b:k<=1001)(h:Sz k c):cfOk c=true:=(zhc c).2 ⟨by have:=h.1;omega,by have:=h.2;omega⟩
variable {a:Aut}{held:List Ev}{x:Ed}{e:Ev}
theorem y5x (h:coP a held c x e=some d):d=⟨x.fTo,bdN c x e,(stN c x e).filter (ncl x)⟩:=by
 unfold coP at h;simp_all
theorem yjg (g:CxA a held)(f:CB held a k c)(b:x∈a.fEdges)(h:coP a held c x e=some d):Sz (k+1) d:=by
 rw [y5x h];have h1:=f.lb;have h2:=f.ls;have m:=g.lo x b;have j:=y4f e.fTime x.fOpens c.fStarts;have i:=length_filter_le (ncl x) (stN c x e);refine ⟨by unfold bdN;simp;omega,?_⟩;unfold stN at i ⊢;simp only;omega
theorem CB.sz (h:CB held a k c):Sz k c:=⟨h.lb,h.ls⟩
theorem zvr {s:Int}(h:x∈ztt a s):x∈a.fEdges/\x.fFrom=s:=by
 have:=mem_filter.1 h;exact ⟨this.1,by simpa using this.2⟩
theorem yif (g:CxA a held)(f:CB held a k c)(h:d∈outP a held c e):Sz (k+1) d:=by
 unfold outP at h;rcases mem_append.1 h with h|h
 ·split at h
  ·rw [mem_singleton.1 h];have:=f.sz;exact ⟨by have:=this.1;omega,by have:=this.2;omega⟩
  ·simp at h
 ·obtain ⟨x,b,i⟩:=mem_filterMap.1 h;exact yjg g f (zvr b).1 i
theorem zvg:(outP a held c e).length<=a.fEdges.length+1:=by
 unfold outP ztt;grind
theorem ybw (b:k<=1001)(h:Sz k c):maOk ⟨c.fBindings⟩=true:=(zhu _).2 (by have:=h.1;simp;omega)
theorem y2i (e:Ev)(env:List (List Ev))(i:EvS env)(b:Stt)(j:b.fGuards.length<=1100000)(f:∀ g∈b.fGuards,WfE g.fCond):∀ (m k:Nat),k<=b.fGuards.length->b.fGuards.length<m+k->z7l N0 e ⟨env⟩ b (some true) m (k:Int)=some (!(b.fGuards.drop k).any (vio env e))
 |0,k,h1,h2=>by omega
 |m+1,k,h1,h2=>by
  unfold z7l;simp only [length_map,z0f];by_cases h:k<b.fGuards.length
  ·rw [if_pos (by omega),z0r h,z0e _ k h,any_cons,yhu i (f _ (getElem_mem h)),z05,z27 k (by omega),y2i e env i b j f m (k+1) (by omega) (by omega)];cases vio env e b.fGuards[k]<;>simp [z9u,zae]
  grind
theorem yky (f:CxA a held)(o:k<=1000)(g:CB held a k c)(e:Ev):zbt N0 a held c e=some (skP a held c e):=by
 have j:=g.lb;have i:=f.lh;obtain ⟨b,n,h,m⟩:=zvn g.st;unfold zbt skP;rw [yi0 N0 (by decide) held (by omega) c (by omega),z05,zyk g.st.1 n,m];have:=y2i e (enH held c.fBindings) (zwx (by omega)) b (f.wf.st b h).1 (f.wf.st b h).2 N0 0 (Nat.zero_le _) (by have:=(f.wf.st b h).1;unfold N0;omega);simp_all
theorem zzn (s:Int)(a:Aut)(b:a.fEdges.length<=1000000)(K:List Ed->Option (List Ed)):∀ (m k:Nat) (out:List Ed),k<=a.fEdges.length->a.fEdges.length<m+k->out.length<=k->z5p N0 s a K m ((k:Int),out)=K (out++(a.fEdges.drop k).filter (fun x=>decide (x.fFrom=s)))
 |0,k,out,h1,h2,i=>by omega
 |m+1,k,out,h1,h2,i=>by
  unfold z5p;simp only [length_map,z0f];by_cases h:k<a.fEdges.length
  ·have g:=zzn s a b K m (k+1) (out++[a.fEdges[k]]) (by omega) (by omega) (by simp_all);have f:=zzn s a b K m (k+1) out (by omega) (by omega) (by omega);rw [if_pos (by omega),z1s,z0r h,z0r h,z0e _ k h,z27 k (by omega),zcu (by grind) (by omega),g,f,filter_cons];grind
  ·rw [if_neg (by omega),drop_eq_nil_of_le (by omega)];simp
theorem ymo (s:Int)(a:Aut)(b:a.fEdges.length<=1000000):z6q N0 a s=some (ztt a s):=by
 have:=zzn s a b (fun y=>some y) N0 0 [] (Nat.zero_le _) (by unfold N0;omega) (by simp);unfold z6q ztt;exact this
variable {kk:Nat}
theorem zyg (p:CxA a held)(u:kk<=1000)(q:CB held a kk c)(e:Ev)(es:List Ed)(g:∀ x∈es,x∈a.fEdges)(w:es.length<=100000)(K:List Cf->List Ma->Option (List Cf×List Ma)) :
  ∀ (m k:Nat) (cs:List Cf) (f:List Ma),k<=es.length->es.length<m+k->cs.length<=k+1->f.length<=k->(∀ d∈cs,cfOk d=true)->(∀ d∈f,maOk d=true)->z4f N0 e c held a es K m (cs,f,(k:Int))=K (puts zev cs (cfO ((es.drop k).filterMap (fun x=>coP a held c x e)))) (puts zc0 f (maO ((es.drop k).filterMap (fun x=>coP a held c x e))))
 |0,k,cs,f,h1,h2,A,z,t,s=>by omega
 |m+1,k,cs,f,h1,h2,A,z,t,s=>by
  unfold z4f;simp only [length_map,z0f,z12];by_cases h:k<es.length
  ·have o:=g _ (getElem_mem h);have i:=yg0 p u q o e;rw [if_pos (by omega),z0r h,z0e _ k h,filterMap_cons,z27 k (by omega)];cases j:coP a held c es[k] e with
   |none =>
    have b:z5n N0 a held c es[k] e=some (cf0,false):=i.trans (by rw [j];rfl);rw [b,z05];simp only [zae];exact zyg p u q e es g w K m (k+1) cs f (by omega) (by omega) (by omega) (by omega) t s
   |some d =>
    have v:=yjg p q o j;have b:z5n N0 a held c es[k] e=some (d,true):=i.trans (by rw [j];rfl);rw [b,z05];simp only [z9u,z1s];rw [y63,y4i];by_cases n:d.fState<0
    ·rw [if_pos n,if_pos n,if_pos n,yi2 N0 (by decide) _ (ybw (by omega) v) f s (by omega),z05,zj8];have y:=zpe zc0 (⟨d.fBindings⟩:Ma) f;exact zyg p u q e es g w K m (k+1) cs _ (by omega) (by omega) (by omega) (by omega) t (y4p (ybw (by omega) v) s)
    ·rw [if_neg n,if_neg n,if_neg n,yi3 N0 (by decide) _ (v.ok (by omega)) cs t (by omega),z05,zj8];have y:=zpe zev d cs;exact zyg p u q e es g w K m (k+1) _ f (by omega) (by omega) (by omega) (by omega) (yek (v.ok (by omega)) t) s
  ·rw [if_neg (by omega),drop_eq_nil_of_le (by omega)];rfl
theorem yry (m:CxA a held)(o:a.fEdges.length<=100000)(n:kk<=1000)(g:CB held a kk c)(e:Ev):zdd N0 a held c e=some (setL zev (cfO (outP a held c e)),setL zc0 (maO (outP a held c e))):=by
 have i:(ztt a c.fState).length<=100000:=by
  have:=length_filter_le (fun x:Ed=>decide (x.fFrom=c.fState)) a.fEdges;unfold ztt;omega
 have j:=fun cs q p=>zyg m n g e (ztt a c.fState) (fun x h=>(zvr h).1) i (fun k1_1_0y0 k1_1_0y1=>some (k1_1_0y0,k1_1_0y1)) N0 0 cs [] (Nat.zero_le _) (by unfold N0;omega) q (by simp) p (by simp)
 have f:¬c.fState<0:=by have:=g.st;omega
 unfold zdd;simp only [z3g,z1s,z6x];rw [yky m n g e,z05,ymo _ a (by omega)];simp only [z05];unfold outP setL;rw [y64,y4j,zpc,zpc];cases skP a held c e with
 |true =>
  have b:=yi3 N0 (by decide) c (g.sz.ok (by omega)) [] (by simp) (by simp);rw [z9u,b,z05];have:=j (insU zev c []) (by simp [insU]) (by simp [insU];exact g.sz.ok (by omega));refine this.trans ?_;have t:puts zev [] (cfO (if true=true then [c] else []))=insU zev c []:=by
   rw [if_pos rfl,y63,if_neg f];rfl
  have s:puts zc0 [] (maO (if true=true then [c] else []))=[]:=by
   rw [if_pos rfl,y4i,if_neg f];rfl
  rw [t,s];rfl
 |false =>
  rw [zae];refine (j [] (by simp) (by simp)).trans ?_;rfl
theorem ye5 (e:Ev)(l:List Cf)(held:List Ev)(a:Aut)(v:List Cf×List Ma×Int)(x:List Cf×List Ma)(b:∀ d∈x.1,cfOk d=true)(i:x.1.length<=100000)(K:List Cf->List Ma->Option (List Cf×List Ma)):∀ (m k:Nat) (cs:List Cf),k<=x.1.length->x.1.length<m+k->cs.length+(x.1.length-k)<=1000000->(∀ d∈cs,cfOk d=true)->z95 N0 e l held a v x K m (cs,(k:Int))=K (puts zev cs (x.1.drop k)) x.2
 |0,k,cs,h1,h2,n,f=>by omega
 |m+1,k,cs,h1,h2,n,f=>by
  unfold z95;simp only [length_map,z0f];by_cases h:k<x.1.length
  ·have g:=b _ (getElem_mem h);have j:=zpe zev x.1[k] cs;rw [if_pos (by omega),z0r h,yi3 N0 (by decide) _ g cs f (by omega),z05,z0e _ k h,zj8,z27 k (by omega)];exact ye5 e l held a v x b i K m (k+1) _ (by omega) (by omega) (by omega) (yek g f)
  ·rw [if_neg (by omega),drop_eq_nil_of_le (by omega)];rfl
theorem ye4 (e:Ev)(l:List Cf)(held:List Ev)(a:Aut)(v:List Cf×List Ma×Int)(g:List Cf)(x:List Ma)(b:∀ d∈x,maOk d=true)(n:x.length<=100000)(K:List Ma->Option (List Cf×List Ma)):∀ (m k:Nat) (cs:List Ma),k<=x.length->x.length<m+k->cs.length+(x.length-k)<=1000000->(∀ d∈cs,maOk d=true)->z94 N0 e l held a v g x K m (cs,(k:Int))=K (puts zc0 cs (x.drop k))
 |0,k,cs,h1,h2,p,f=>by omega
 |m+1,k,cs,h1,h2,p,f=>by
  unfold z94;simp only [length_map,z0f];by_cases h:k<x.length
  ·have i:=b _ (getElem_mem h);have o:=zpe zc0 x[k] cs;have j:=yi2 N0 (by decide) x[k] i cs f (by omega);rw [if_pos (by omega),z0r h,z0e _ k h,zj8,z27 k (by omega),j,z05];exact ye4 e l held a v g x b n K m (k+1) _ (by omega) (by omega) (by omega) (y4p i f)
  ·rw [if_neg (by omega),drop_eq_nil_of_le (by omega)];rfl
theorem y7m (most:Int)(l:List Ev)(a:Aut)(v:List Cf×List Ma×Int)(x:List Cf×List Ma)(b:∀ d∈x.2,maOk d=true)(j:x.2.length<=1000000)(K:List Ma->List Cf->Option (List Cf×List Ma×Bool)):∀ (m k:Nat) (cs:List Ma),k<=x.2.length->x.2.length<m+k->cs.length+(x.2.length-k)<=1000000->(∀ d∈cs,maOk d=true)->z6b N0 most l a v x K m (cs,(k:Int))=K (puts zc0 cs (x.2.drop k)) x.1
 |0,k,cs,h1,h2,o,f=>by omega
 |m+1,k,cs,h1,h2,o,f=>by
  unfold z6b;simp only [length_map,z0f];by_cases h:k<x.2.length
  ·have g:=b _ (getElem_mem h);have n:=zpe zc0 x.2[k] cs;have i:=yi2 N0 (by decide) x.2[k] g cs f (by omega);rw [if_pos (by omega),z0r h,z0e _ k h,zj8,z27 k (by omega),i,z05];exact y7m most l a v x b j K m (k+1) _ (by omega) (by omega) (by omega) (y4p g f)
  ·rw [if_neg (by omega),drop_eq_nil_of_le (by omega)];rfl
theorem ynh {l:List Ma}(h:∀ x∈l,maOk x=true):∀ x∈setL zc0 l,maOk x=true:=fun x b=>h x ((zi7 zge x l).1 b)
theorem ync (b:CxA a held)(h:kk<=1000)(g:CB held a kk c)(e:Ev):∀ d∈cfO (outP a held c e),cfOk d=true:=fun d f=>(yif b g (yjo f).1).ok (by omega)
theorem yiq (b:CxA a held)(i:kk<=1000)(h:CB held a kk c)(e:Ev):∀ d∈maO (outP a held c e),maOk d=true:=fun d g=>by
 obtain ⟨q,f,rfl⟩:=yoo g;exact ybw (by omega) (yif b h f)
theorem ye6 (g:CxA a held)(j:a.fEdges.length<=100)(i:kk<=1000)(e:Ev)(l:List Cf)(q:∀ c∈l,CB held a kk c)(w:l.length<=5000)(K:List Cf->List Ma->Option (List Cf×List Ma)) :
  ∀ (m k:Nat) (cs:List Cf) (b:List Ma),k<=l.length->l.length<m+k->cs.length<=101*k->b.length<=101*k->(∀ d∈cs,cfOk d=true)->(∀ d∈b,maOk d=true)->z96 N0 e l held a K m (cs,b,(k:Int))=K (puts zev cs ((l.drop k).flatMap (fun c=>setL zev (cfO (outP a held c e))))) (puts zc0 b ((l.drop k).flatMap (fun c=>setL zc0 (maO (outP a held c e)))))
 |0,k,cs,b,h1,h2,z,y,o,n=>by omega
 |m+1,k,cs,b,h1,h2,z,y,o,n=>by
  unfold z96;simp only [length_map,z0f];by_cases h:k<l.length
  ·have f:=q _ (getElem_mem h);have E:=y42 (c:=zev) (cfO (outP a held l[k] e));have D:=y42 (c:=zc0) (maO (outP a held l[k] e));have C:=zx1 (outP a held l[k] e);have B:=zun (outP a held l[k] e);have A:(outP a held l[k] e).length<=a.fEdges.length+1:=zvg;have p:=yni (ync g i f e);have o2:=ynh (yiq g i f e);have G:=zye (c:=zev) (setL zev (cfO (outP a held l[k] e))) cs;have F:=zye (c:=zc0) (setL zc0 (maO (outP a held l[k] e))) b;rw [if_pos (by omega),z0r h,yry g (by omega) i f e,z05,z0e _ k h,flatMap_cons,flatMap_cons,zpc,zpc,z27 k (by omega)];have u:=fun K=>ye5 e l held a (cs,b,(k:Int)) (setL zev (cfO (outP a held l[k] e)),setL zc0 (maO (outP a held l[k] e))) p (by grind) K N0 0 cs (Nat.zero_le _) (by show (setL zev (cfO (outP a held l[k] e))).length<2000000000+0;omega) (by show cs.length+((setL zev (cfO (outP a held l[k] e))).length-0)<=1000000;omega) o
   refine (u _).trans ?_;have t:=fun v s K=>ye4 e l held a v s (setL zc0 (maO (outP a held l[k] e))) o2 (by omega) K N0 0 b (Nat.zero_le _) (by unfold N0;omega) (by omega) n
   refine (t _ _ _).trans ?_;rw [drop_zero,drop_zero];exact ye6 g j i e l q w K m (k+1) (puts zev cs (setL zev (cfO (outP a held l[k] e)))) (puts zc0 b (setL zc0 (maO (outP a held l[k] e)))) (by omega) (by omega) (by omega) (by omega) (ykv o p) (ydn n o2)
  ·rw [if_neg (by omega),drop_eq_nil_of_le (by omega)];rfl
variable {α β:Type}
theorem y76 {c:α->α->Int}(h:TO c)(f:β->List α)(l:List β):setL c (l.flatMap (fun x=>setL c (f x)))=setL c (l.flatMap f):=by
 refine ynj h (fun x=>?_);rw [mem_flatMap,mem_flatMap];constructor
 ·rintro ⟨y,b,g⟩;exact ⟨y,b,(zi7 h _ _).1 g⟩
 ·rintro ⟨y,b,g⟩;exact ⟨y,b,(zi7 h _ _).2 g⟩
def cfN (a:Aut)(held:List Ev)(l:List Cf)(e:Ev):List Cf:=setL zev (l.flatMap (fun c=>cfO (outP a held c e)))
def maN (a:Aut)(held:List Ev)(l:List Cf)(e:Ev):List Ma:=setL zc0 (l.flatMap (fun c=>maO (outP a held c e)))
theorem yqo (h:CxA a held)(b:a.fEdges.length<=100)(j:kk<=1000)(e:Ev)(l:List Cf)(m:∀ c∈l,CB held a kk c)(i:l.length<=5000):z9p N0 a held l e=some (cfN a held l e,maN a held l e):=by
 have:=ye6 h b j e l m i (fun g f=>some (g,f)) N0 0 [] [] (Nat.zero_le _) (by unfold N0;omega) (by simp) (by simp) (by simp) (by simp);unfold z9p cfN maN;refine this.trans ?_;rw [drop_zero,<-y76 zgf,<-y76 zge];rfl
theorem yid (d:Cf)(f:List Cf)(b:List Ma)(g:f.length<=100000000)(h1:b.length<=100000000):z7z N0 d f b=some (f++cfO [d],b++maO [d]):=by
 unfold z7z;rw [z0f,y63,y4i,zcu (by grind) (by omega),zcu (by simp only [length_singleton];omega) (by omega)];by_cases h:d.fState<0
 ·simp [h,cfO,maO]
 ·simp [h,cfO,maO]
variable {r:z0l}
theorem zyi (j:CxA r.fa held)(n:kk<=1000)(o:CB held r.fa kk c)(g:∀ y∈held,ze0 y=ze0 e->y=e)(i:r.fa.fEdges.length<=100)(K:List Cf->List Ma->Option (List Cf×List Ma×z0l×Cf×Ev)) :
  ∀ (m k:Nat) (f:List Cf) (b:List Ma),k<=r.fa.fEdges.length->r.fa.fEdges.length<m+k->f.length<=90000000+k->b.length<=90000000+k->z1o N0 e c r ⟨bndV held r.fa.fVars.toNat c.fBindings⟩ K m ((k:Int),f,b)=K (f++cfO (((r.fa.fEdges.drop k).filter (fun x=>decide (x.fFrom=c.fState))).filterMap (fun x=>coP r.fa held c x e))) (b++maO (((r.fa.fEdges.drop k).filter (fun x=>decide (x.fFrom=c.fState))).filterMap (fun x=>coP r.fa held c x e)))
 |0,k,f,b,h1,h2,z,w=>by omega
 |m+1,k,f,b,h1,h2,z,w=>by
  unfold z1o;simp only [length_map,z0f,z12];by_cases h:k<r.fa.fEdges.length
  ·have p:=getElem_mem h;rw [if_pos (by omega),z0r h,z0e _ k h,z27 k (by omega),filter_cons];by_cases q:r.fa.fEdges[k].fFrom=c.fState;rotate_left
   ·rw [if_neg q,if_neg (by simpa using q)];exact zyi j n o g i K m (k+1) f b (by omega) (by omega) (by omega) (by omega)
   rw [if_pos q,if_pos (by simpa using q),y8j j n o p g,z05,filterMap_cons];cases v:coP r.fa held c r.fa.fEdges[k] e with
   |none =>
    simp only [rfC,zae];exact zyi j n o g i K m (k+1) f b (by omega) (by omega) (by omega) (by omega)
   |some d =>
    simp only [rfC,z9u];have t:=zx1 [d];have s:=zun [d];simp only [length_singleton] at t s;rw [yid d f b (by omega) (by omega),zbr];have u:=zyi j n o g i K m (k+1) (f++cfO [d]) (b++maO [d]) (by omega) (by omega) (by rw [length_append];omega) (by rw [length_append];omega);refine u.trans ?_;rw [append_assoc,append_assoc,<-y64,<-y4j];rfl
  ·rw [if_neg (by omega),drop_eq_nil_of_le (by omega)];simp [cfO,maO]
theorem zyh (j:CxA r.fa held)(n:kk<=1000)(o:CB held r.fa kk c)(g:∀ y∈held,ze0 y=ze0 e->y=e)(i:r.fa.fEdges.length<=100)(K:List Cf->List Ma->Option (List Cf×List Ma×z0l×Cf×Ev)) :
  ∀ (m k:Nat) (f:List Cf) (b:List Ma),k<=r.fa.fEdges.length->r.fa.fEdges.length<m+k->f.length<=90000000+k->b.length<=90000000+k->z1n N0 e c r ⟨bndV held r.fa.fVars.toNat c.fBindings⟩ K m ((k:Int),f,b)=K (f++cfO (((r.fa.fEdges.drop k).filter (fun x=>decide (x.fFrom=c.fState))).filterMap (fun x=>coP r.fa held c x e))) (b++maO (((r.fa.fEdges.drop k).filter (fun x=>decide (x.fFrom=c.fState))).filterMap (fun x=>coP r.fa held c x e)))
 |0,k,f,b,h1,h2,z,w=>by omega
 |m+1,k,f,b,h1,h2,z,w=>by
  unfold z1n;simp only [length_map,z0f,z12];by_cases h:k<r.fa.fEdges.length
  ·have p:=getElem_mem h;rw [if_pos (by omega),z0r h,z0e _ k h,z27 k (by omega),filter_cons];by_cases q:r.fa.fEdges[k].fFrom=c.fState;rotate_left
   ·rw [if_neg q,if_neg (by simpa using q)];exact zyh j n o g i K m (k+1) f b (by omega) (by omega) (by omega) (by omega)
   rw [if_pos q,if_pos (by simpa using q),y8j j n o p g,z05,filterMap_cons];cases v:coP r.fa held c r.fa.fEdges[k] e with
   |none =>
    simp only [rfC,zae];exact zyh j n o g i K m (k+1) f b (by omega) (by omega) (by omega) (by omega)
   |some d =>
    simp only [rfC,z9u];have t:=zx1 [d];have s:=zun [d];simp only [length_singleton] at t s;rw [yid d f b (by omega) (by omega),zbr];have u:=zyh j n o g i K m (k+1) (f++cfO [d]) (b++maO [d]) (by omega) (by omega) (by rw [length_append];omega) (by rw [length_append];omega);refine u.trans ?_;rw [append_assoc,append_assoc,<-y64,<-y4j];rfl
  ·rw [if_neg (by omega),drop_eq_nil_of_le (by omega)];simp [cfO,maO]
theorem yic (j:CxA r.fa held)(hm:HM held r.fheld)(u:kk<=1000)(b:CB held r.fa kk c)(n:∀ y∈held,ze0 y=ze0 e->y=e)(m:r.fa.fEdges.length<=100)(i:List Cf)(h:List Ma)(L:i.length<=10000000)(h1:h.length<=10000000):z7g N0 i h r c e=some (i++cfO (outP r.fa held c e),h++maO (outP r.fa held c e),r,c,e):=by
 have E:=b.lb;have D:=j.lh;have f:=j.ok.vars;have C:¬c.fState<0:=by have:=b.st;omega
 obtain ⟨p,I,v,H⟩:=zvn b.st;have s:EvS (enH held c.fBindings):=zwx (by omega);have t:=yj9 ⟨f.1,f.2⟩ b.bd;have F:=(j.wf.st p v).1;unfold z7g;rw [ys1 N0 (by decide) held r hm f c.fBindings (by omega) b.bd,z05,zyk b.st.1 I];rw [ybo N0 ⟨bndV held r.fa.fVars.toNat c.fBindings⟩ e (vio (enH held c.fBindings) e) p.fGuards (by omega) (by unfold N0;omega) (fun g G=>by
  unfold z43;have:=ymi t s ((j.wf.st p v).2 g G) e;refine (congrArg (fun o=>bnd o fun z=>some z) this).trans ?_;rw [z05]),z05]
 have q:skP r.fa held c e=!(p.fGuards.any (vio (enH held c.fBindings) e)):=by unfold skP;rw [H]
 rw [<-q];unfold outP;rw [y64,y4j];cases skP r.fa held c e with
 |true =>
  rw [z9u,yid c i h (by omega) (by omega),zbr];have J:=zx1 [c];have w:=zun [c];have B:=fun K=>zyi j u b n m K N0 0 (i++cfO [c]) (h++maO [c]) (Nat.zero_le _) (by unfold N0;omega) (by grind) (by rw [length_append];simp at w;omega)
  refine (B _).trans ?_;rw [drop_zero];simp [append_assoc,ztt]
 |false =>
  rw [zae];have A:=fun K=>zyh j u b n m K N0 0 i h (Nat.zero_le _) (by unfold N0;omega) (by omega) (by omega)
  refine (A _).trans ?_;rw [drop_zero];simp [ztt,cfO,maO]
theorem ye8 (n:CxA r.fa held)(hm:HM held r.fheld)(o:kk<=1000)(i:∀ y∈held,ze0 y=ze0 e->y=e)(g:r.fa.fEdges.length<=100)(l:List Cf)(p:∀ c∈l,CB held r.fa kk c)(q:l.length<=5000)(K:List Cf->List Ma->Option (List Cf×List Ma)):∀ (m k:Nat) (f:List Cf) (b:List Ma),k<=l.length->l.length<m+k->f.length<=101*k->b.length<=101*k->z7y N0 e l r K m ((k:Int),f,b)=K (f++(l.drop k).flatMap (fun c=>cfO (outP r.fa held c e))) (b++(l.drop k).flatMap (fun c=>maO (outP r.fa held c e)))
 |0,k,f,b,h1,h2,u,t=>by omega
 |m+1,k,f,b,h1,h2,u,t=>by
  unfold z7y;simp only [length_map,z0f];by_cases h:k<l.length
  ·have j:=p _ (getElem_mem h);have z:=zx1 (outP r.fa held l[k] e);have w:=zun (outP r.fa held l[k] e);have v:(outP r.fa held l[k] e).length<=r.fa.fEdges.length+1:=zvg;have s:zeg N0 r l[k] e=some (r,l[k],e):=rfl;rw [if_pos (by omega),z0r h,s,zbr];simp only;rw [yic n hm o j i g f b (by omega) (by omega),zbr,z0e _ k h,flatMap_cons,flatMap_cons,<-append_assoc,<-append_assoc,z27 k (by omega)];exact ye8 n hm o i g l p q K m (k+1) _ _ (by omega) (by omega) (by rw [length_append];omega) (by rw [length_append];omega)
  grind
theorem zym (f:α->List β)(n:Nat):∀ l:List α,(∀ x∈l,(f x).length<=n)->(l.flatMap f).length<=n*l.length
 |[],_=>by simp
 |x::l,h=>by
  have h1:=h x (by simp);have h2:=zym f n l (fun y b=>h y (mem_cons_of_mem _ b));rw [flatMap_cons,length_append,length_cons,Nat.mul_succ];omega
theorem yie (g:CxA r.fa held)(hm:HM held r.fheld)(i:kk<=1000)(m:∀ y∈held,ze0 y=ze0 e->y=e)(h:r.fa.fEdges.length<=100)(l:List Cf)(n:∀ c∈l,CB held r.fa kk c)(p:l.length<=5000):z57 N0 r l e=some (cfN r.fa held l e,maN r.fa held l e):=by
 have o:=fun K=>ye8 g hm i m h l n p K N0 0 [] [] (Nat.zero_le _) (by unfold N0;omega) (by simp) (by simp)
 unfold z57;refine (o _).trans ?_;rw [drop_zero,nil_append,nil_append];have s:=zym (fun c=>cfO (outP r.fa held c e)) 101 l (fun c _=>by have:=zx1 (outP r.fa held c e);have:(outP r.fa held c e).length<=r.fa.fEdges.length+1:=zvg;omega);have q:=zym (fun c=>maO (outP r.fa held c e)) 101 l (fun c _=>by have:=zun (outP r.fa held c e);have:(outP r.fa held c e).length<=r.fa.fEdges.length+1:=zvg;omega);rw [ynt N0 (by decide) _ (fun d j=>by
  obtain ⟨c,f,b⟩:=mem_flatMap.1 j;exact ync g i (n c f) e d b) (by omega),zbr,yns N0 (by decide) _ (fun d j=>by
  obtain ⟨c,f,b⟩:=mem_flatMap.1 j;exact yiq g i (n c f) e d b) (by omega),zbr]
 rfl
theorem ybi {e:Exn}(h:WfE e):∃ b:Bool,z9r N0 e=some b:=by
 obtain ⟨z,f,g⟩:=h;obtain ⟨c,j,_⟩:=yi9 200 (by omega) (by omega) z e g f N0 (by unfold N0;omega);obtain ⟨d,i,_⟩:=ymk z e g f N0 (by unfold N0;omega);unfold z9r;simp only [z3g,z1s,z73];rw [j,z05,i,z05,z0f];split
 ·exact ⟨_,rfl⟩
 ·exact ⟨_,rfl⟩
theorem yhy (l:List Gd)(f:∀ g∈l,WfE g.fCond)(i:l.length<=1100000):∀ (m k:Nat),k<=l.length->l.length<m+k->∃ b:Bool,z98 N0 l (some true) m (k:Int)=some b
 |0,k,h1,h2=>by omega
 |m+1,k,h1,h2=>by
  unfold z98;simp only [length_map,z0f,z12];by_cases h:k<l.length
  ·obtain ⟨b,j⟩:=ybi (f _ (getElem_mem h));rw [if_pos (by omega),z0r h,j,z05,z27 k (by omega)];cases b with
   |true=>rw [z9u];exact yhy l f i m (k+1) (by omega) (by omega)
   |false=>rw [zae];exact ⟨_,rfl⟩
  ·rw [if_neg (by omega)];exact ⟨_,rfl⟩
theorem ynz (f:Stt)(h:f.fGuards.length<=1100000/\∀ g∈f.fGuards,WfE g.fCond):∃ b:Bool,zde N0 f.fGuards=some b:=yhy f.fGuards h.2 h.1 N0 0 (Nat.zero_le _) (by have:=h.1;unfold N0;omega)
theorem ydx (a:Aut)(v:Int)(x:Ed)(ys:List Exn)(f:x.fChecks=ys.map z0n)(i:∀ y∈ys,WfE y)(n:ys.length<=1100000)(P:Prop)(K:Option Bool)(j:∃ b:Bool,K=some b/\(b=true->P)):∀ (m k:Nat),k<=ys.length->ys.length<m+k->∃ b:Bool,z99 N0 a v x K m (k:Int)=some b/\(b=true->P)
 |0,k,h1,h2=>by omega
 |m+1,k,h1,h2=>by
  unfold z99;have g:x.fChecks.length=ys.length:=by rw [f,length_map]
  simp only [length_map,z0f,z12,g];by_cases h:k<ys.length
  ·obtain ⟨b,o⟩:=ybi (i _ (getElem_mem h));rw [if_pos (by omega),yc1 f h,o,z05,z27 k (by omega)];cases b with
   |true=>rw [z9u];exact ydx a v x ys f i n P K j m (k+1) (by omega) (by omega)
   |false=>rw [zae];exact ⟨false,rfl,fun h=>by cases h⟩
  ·rw [if_neg (by omega)];exact j
def FewA (a:Aut):Prop:=a.fEdges.length<=40/\∀ x∈a.fEdges,x.fOpens.length<=12
theorem ydy (a:Aut)(q:WfA a)(K:Option Bool)(s:∃ b:Bool,K=some b/\(b=true->a.fEdges.length<=40)):∀ (m k:Nat),k<=a.fEdges.length->k<=60->60<m+k->(∀ x∈a.fEdges.take k,x.fOpens.length<=12)->∃ b:Bool,z4g N0 a K m (k:Int)=some b/\(b=true->FewA a)
 |0,k,h1,h2,w,o=>by omega
 |m+1,k,h1,h2,w,o=>by
  have g:(60<=k\/a.fEdges.length<=k)->∃ b:Bool,K=some b/\(b=true->FewA a):=fun E=>by
   obtain ⟨b,y,t⟩:=s;refine ⟨b,y,fun i=>⟨t i,fun x f=>o x ?_⟩⟩;have:=t i;rw [take_of_length_le (by omega)];exact f
  have no:∃ b:Bool,some false=some b/\(b=true->FewA a):=⟨false,rfl,fun h=>by cases h⟩;unfold z4g;simp only [length_map,z0f,z3g,z1s,z5r,z1q,z12,z9u,zae];by_cases h:k<a.fEdges.length;rotate_left
  ·rw [if_neg (by omega)];exact g (by omega)
  rw [if_pos (by omega)];by_cases v:k<60;rotate_left
  ·rw [if_neg (by omega)];exact g (by omega)
  rw [if_pos (by omega),z0r h,z27 k (by omega)];have wx:=q.ed _ (getElem_mem h);obtain ⟨b,i⟩:=ybi wx.cond;rw [i,z05];cases b with
  |false=>rw [zae];exact no
  |true =>
  rw [z9u];split
  ·exact no
  split
  ·exact no
  split
  ·exact no
  split
  ·exact no
  split
  ·exact no
  rename_i D C B A z;obtain ⟨ys,p,j⟩:=wx.checks;have n:ys.length<=1100000:=by have:=wx.lc;rw [p,length_map] at this;exact this
  have u:=ydy a q K s m (k+1) (by omega) (by omega) (by omega) (fun x f=>by
   rw [take_succ_eq_append_getElem h] at f;rcases mem_append.1 f with f|f
   ·exact o x f
   ·rw [mem_singleton.1 f];omega)
  exact ydx a (k:Int) _ ys p j n (FewA a) _ u N0 0 (Nat.zero_le _) (by unfold N0;omega)
theorem ydz (a:Aut)(g:WfA a)(P:Prop)(K:Option Bool)(f:∃ b:Bool,K=some b/\(b=true->P)):∀ (m k:Nat),k<=a.fStates.length->k<=30->30<m+k->∃ b:Bool,z4h N0 a K m (k:Int)=some b/\(b=true->P)
 |0,k,h1,h2,o=>by omega
 |m+1,k,h1,h2,o=>by
  have no:∃ b:Bool,some false=some b/\(b=true->P):=⟨false,rfl,fun h=>by cases h⟩;unfold z4h;simp only [length_map,z0f,z3g,z1s,z5q,z21,z12,z9u,zae];by_cases h:k<a.fStates.length;rotate_left
  ·rw [if_neg (by omega)];exact f
  rw [if_pos (by omega)];by_cases n:k<30;rotate_left
  ·rw [if_neg (by omega)];exact f
  have i:=ydz a g P K f m (k+1) (by omega) (by omega) (by omega);obtain ⟨b,j⟩:=ynz _ (g.st _ (getElem_mem h));have hi:∀ Q:Stt->Option Bool,idx a.fStates (k:Int) Q=Q a.fStates[k]:=fun Q=>z0r h Q
  rw [if_pos (by omega),z27 k (by omega)];simp only [hi,j,z05];repeat' split;all_goals first|exact no|(cases b<;>first|(rw [z9u];exact i)|(rw [zae];exact no))|skip
theorem yo8 (a:Aut)(f:WfA a):∃ b:Bool,zdf N0 a=some b/\(b=true->FewA a):=by
 unfold zdf;refine ydz a f (FewA a) _ ?_ N0 0 (Nat.zero_le _) (by omega) (by unfold N0;omega);refine ydy a f _ ?_ N0 0 (Nat.zero_le _) (by omega) (by unfold N0;omega) (by simp);simp only [z3g,z1s,z6z,length_map,z0f];split
 ·exact ⟨_,rfl,fun h=>by simp at h;omega⟩
 ·exact ⟨_,rfl,fun h=>by cases h⟩
theorem y2x (l:List Ev)(g:l.length<=1000000)(a:Aut)(K:List (Rf×Ev)->Option (Option z0l×Int)):∀ (m k:Nat) (b:List (Rf×Ev)),k<=l.length->l.length<m+k->zg6 N0 l a K m ((k:Int),b)=K ((l.drop k).foldl (fun m e=>mput m (ze0 e) e) b)
 |0,k,b,h1,h2=>by omega
 |m+1,k,b,h1,h2=>by
  unfold zg6;simp only [length_map,z0f];by_cases h:k<l.length
  ·have f:zje N0 l[k]=some (ze0 l[k]):=rfl;rw [if_pos (by omega),z0r h,f,z05,ymu,z0e _ k h,foldl_cons,z27 k (by omega)];exact y2x l g a K m (k+1) _ (by omega) (by omega)
  grind
theorem ybr (a:Aut)(p:WfA a)(l:List Ev)(g:l.length<=1000000):∃ q:Int,z4l N0 a l=some q/\((q≠0/\zey N0 a l=some (none,q))\/(q=0/\AOk a/\yph l/\z56 N0 a=some 0/\zlh l=0/\∃ i,HM l i/\zey N0 a l=some (some ⟨a,i⟩,0))):=by
 obtain ⟨r,o,n,j⟩:=y4d N0 (by decide) a p;unfold z4l zey;rw [o,n,z05,z05,z12,z0f,z12,z0f];by_cases h:r=0;rotate_left
 ·simp_all
 rw [if_pos h,if_pos h,yi1 N0 l (by unfold N0;omega) g,yod N0 l (by unfold N0;omega) (by decide) g,z05,z05,z12,z0f];refine ⟨zlh l,rfl,?_⟩;by_cases f:zlh l=0;rotate_left
 ·simp_all
 rw [if_pos f];have b:=zyv f;refine Or.inr ⟨f,j h,b,by rw [h] ,f,l.foldl (fun m e=>mput m (ze0 e) e) [],fun r=>?_,?_⟩
 ·rw [yiy r l [] b.st];simp [mlk]
 ·refine (y2x l g a _ N0 0 [] (Nat.zero_le _) (by unfold N0;omega)).trans ?_;rw [drop_zero]
theorem yr7 (o:CxA a held)(i:Str zlf held)(m:CB held a k c)(f:x∈a.fEdges)(q:e∈held)(h:coP a held c x e=some d)(p:0<=d.fState):CB held a (k+1) d:=by
 have n:=yjg o m f h;have j:=y5x h;have eo:=o.ok.ed x f;refine ⟨?_,?_,?_,n.1,n.2⟩
 ·rw [j] at p ⊢;exact ⟨p,eo.tgt.2⟩
 ·rw [j];intro b g;rcases mem_append.1 g with g|g
  ·exact m.bd b g
  ·rw [mem_singleton.1 g];refine ⟨eo.var,?_⟩;rw [yit i q];rfl
 ·rw [j];exact (ymp e.fTime x.fOpens m.ss).filter _
theorem CB.up (h:CB held a k c):CB held a (k+1) c:=⟨h.st,h.bd,h.ss,by have:=h.lb;omega,by have:=h.ls;omega⟩
theorem yoi (i:CxA a held)(f:Str zlf held)(g:CB held a k c)(j:e∈held)(h:d∈outP a held c e)(n:0<=d.fState):CB held a (k+1) d:=by
 unfold outP at h;rcases mem_append.1 h with h|h
 ·split at h
  ·rw [mem_singleton.1 h];exact g.up
  ·simp at h
 ·obtain ⟨x,b,m⟩:=mem_filterMap.1 h;exact yr7 i f g (zvr b).1 j m n
theorem yjp (h:d∈cfN a held l e):∃ c∈l,d∈outP a held c e/\0<=d.fState:=by
 unfold cfN at h;obtain ⟨c,h1,h2⟩:=mem_flatMap.1 ((zi7 zgf _ _).1 h);exact ⟨c,h1,yjo h2⟩
theorem ynd (f:CxA a held)(b:Str zlf held)(i:∀ c∈l,CB held a k c)(g:e∈held):∀ d∈cfN a held l e,CB held a (k+1) d:=fun d h=>by
 obtain ⟨c,h1,h2,j⟩:=yjp h;exact yoi f b (i c h1) g h2 j
theorem yqu (f:CxA a held)(g:k<=1000)(h:∀ c∈l,CB held a k c)(e:Ev):∀ d∈maN a held l e,maOk d=true:=fun d b=>by
 unfold maN at b;obtain ⟨c,h1,h2⟩:=mem_flatMap.1 ((zi7 zge _ _).1 b);exact yiq f g (h c h1) e d h2
theorem yop (b:a.fEdges.length<=100)(l:List Cf)(e:Ev):(maN a held l e).length<=101*l.length:=by
 unfold maN;have f:=zym (fun c=>maO (outP a held c e)) 101 l (fun c _=>by have:=zun (outP a held c e);have:(outP a held c e).length<=a.fEdges.length+1:=zvg;omega);have:=y42 (c:=zc0) (l.flatMap (fun c=>maO (outP a held c e)));omega
def wiP (most:Nat)(a:Aut)(held:List Ev):List Ev->List Cf->List Ma->List Cf×List Ma×Bool
 |[],cs,b=>(cs,b,true)
 |e::r,cs,b=>if most<(cfN a held cs e).length\/most<(puts zc0 b (maN a held cs e)).length then ([],[],false) else wiP most a held r (cfN a held cs e) (puts zc0 b (maN a held cs e))
theorem zxl {l:List Ev}(i:CxA a l)(g:Str zlf l)(f:a.fEdges.length<=100)(most:Nat)(hm:most<=4096)(n:1<=most)(v:l.length<=900) :
  ∀ (m k:Nat) (cs:List Cf) (b:List Ma),k<=l.length->l.length<m+k->cs.length<=most->b.length<=most->(∀ c∈cs,CB l a k c)->(∀ d∈b,maOk d=true)->z2u N0 (most:Int) l a (fun s q=>some (s,q,true)) m (cs,b,(k:Int))=some (wiP most a l (l.drop k) cs b)
 |0,k,cs,b,h1,h2,A,y,j,p=>by omega
 |m+1,k,cs,b,h1,h2,A,y,j,p=>by
  unfold z2u;simp only [length_map,z0f];by_cases h:k<l.length
  ·have w:=getElem_mem h;have z:=yop (held:=l) f cs l[k];have o:=yqu i (by omega) j l[k];rw [if_pos (by omega),z0r h,yqo i f (by omega) l[k] cs j (by omega),z05,z0e _ k h];have t:=fun K=>y7m (most:Int) l a (cs,b,(k:Int)) (cfN a l cs l[k],maN a l cs l[k]) o (by grind) K N0 0 b (Nat.zero_le _) (by show (maN a l cs l[k]).length<2000000000+0;omega) (by show b.length+((maN a l cs l[k]).length-0)<=1000000;omega) p
   refine (t _).trans ?_;rw [drop_zero];simp only [z3g,z1s,z3z,z0f,z9u];have u:=zxl i g f most hm n v m (k+1) (cfN a l cs l[k]) (puts zc0 b (maN a l cs l[k])) (by omega) (by omega);unfold wiP;by_cases C:most<(cfN a l cs l[k]).length
   ·simp_all
   rw [if_neg (by omega)];by_cases B:most<(puts zc0 b (maN a l cs l[k])).length
   ·simp_all
   rw [if_neg (by omega),if_neg (by omega),z27 k (by omega)];exact u (by omega) (by omega) (ynd i g j w) (ydn p o)
  ·rw [if_neg (by omega),drop_eq_nil_of_le (by omega)];rfl
theorem cb0 {l:List Ev}(g:AOk a):CB l a 0 cf0:=⟨⟨by simp,by have:=g.st;simp;omega⟩,fun b f=>by simp at f,by simp [SS],by simp,by simp⟩
theorem yht {l:List Ev}(h:CxA a l)(b:Str zlf l)(g:a.fEdges.length<=100)(most:Nat)(hm:most<=4096)(f:1<=most)(i:l.length<=900):zb8 N0 a l (most:Int)=some (wiP most a l l [cf0] []):=by
 unfold zb8;have m:z9x N0=some cf0:=rfl;rw [m,z05];exact zxl h b g most hm f i N0 0 [cf0] [] (Nat.zero_le _) (by unfold N0;omega) (by simp;omega) (by simp) (fun c j=>by rw [mem_singleton.1 j];exact cb0 h.ok) (by simp)
theorem ybg (a:Aut)(g:WfA a)(l:List Ev):∃ b:Bool,z87 N0 a l=some b/\(b=true->FewA a/\l.length<=12/\∃ q:Int,z4l N0 a l=some q/\(q=0->(wiP 150 a l l [cf0] []).2.2=true)):=by
 obtain ⟨b,v,u⟩:=yo8 a g;unfold z87;simp only [z3g,z1s,z4p];rw [v,z05,yqe N0 l (by decide),z12,z05];cases b with
 |false=>rw [zae,z9u];simp_all
 |true =>
  rw [z9u];cases i:fewE l with
  |false=>simp only [Bool.not_false,z9u];simp_all
  |true =>
   simp only [Bool.not_true,zae];obtain ⟨w,_⟩:=ylp i;obtain ⟨q,o,n⟩:=ybr a g l (by omega);rw [o,z05,z12,z0f];rcases n with ⟨h,_⟩|⟨h,s,p,_,_,_⟩
   ·simp_all
   ·have m:=u rfl;have f:CxA a l:=⟨g,s,fun x f=>by have:=m.2 x f;omega,by omega⟩;have j:=yht f p.st (by have:=m.1;omega) 150 (by omega) (by omega) (by omega);have t:((150:Nat):Int)=150:=rfl;rw [t] at j;rw [if_pos h,j,z05];simp_all
variable {h1 h2:List Ev}
theorem y02:∀ (l:List Bd) (vs:List (List Ev)),(∀ b∈l,lkH h1 b.fRef=lkH h2 b.fRef)->l.foldl (addB h1) vs=l.foldl (addB h2) vs
 |[],vs,_=>rfl
 |b::l,vs,h=>by
  rw [foldl_cons,foldl_cons];have:addB h1 vs b=addB h2 vs b:=by unfold addB;rw [h b (by simp)]
  rw [this];exact y02 l _ (fun x f=>h x (mem_cons_of_mem _ f))
theorem y0d {l:List Bd}(h:∀ b∈l,lkH h1 b.fRef=lkH h2 b.fRef):enH h1 l=enH h2 l:=y02 l _ h
theorem yjh (h:∀ b∈c.fBindings,lkH h1 b.fRef=lkH h2 b.fRef)(x:Ed)(e:Ev):coP a h1 c x e=coP a h2 c x e:=by
 have g:enH (e::h1) (bdN c x e)=enH (e::h2) (bdN c x e):=y0d (fun b f=>by
  unfold lkH;rw [find?_cons,find?_cons];by_cases q:ze0 e=b.fRef
  ·simp [q]
  ·simp only [q,decide_false];rcases mem_append.1 f with f|f
   ·exact h b f
   ·rw [mem_singleton.1 f] at q;exact absurd rfl q)
 unfold coP;rw [y0d h,g]
theorem y2z (h:∀ b∈c.fBindings,lkH h1 b.fRef=lkH h2 b.fRef)(e:Ev):outP a h1 c e=outP a h2 c e:=by
 unfold outP skP;rw [y0d h];congr 1;exact congrArg (fun f=>filterMap f (ztt a c.fState)) (funext fun x=>yjh h x e)
theorem zws {f g:α->List β}:∀ {l:List α},(∀ x∈l,f x=g x)->l.flatMap f=l.flatMap g
 |[],_=>rfl
 |x::l,h=>by rw [flatMap_cons,flatMap_cons,h x (by simp),zws (fun y b=>h y (mem_cons_of_mem _ b))]
theorem yjq (h:∀ c∈l,∀ b∈c.fBindings,lkH h1 b.fRef=lkH h2 b.fRef)(e:Ev):cfN a h1 l e=cfN a h2 l e:=by
 unfold cfN;rw [zws (fun c f=>by rw [y2z (h c f) e])]
theorem yir (h:∀ c∈l,∀ b∈c.fBindings,lkH h1 b.fRef=lkH h2 b.fRef)(e:Ev):maN a h1 l e=maN a h2 l e:=by
 unfold maN;rw [zws (fun c f=>by rw [y2z (h c f) e])]
theorem yoq {l more:List Ev}(f:Str zlf more)(hm:∀ x∈l,x∈more){r:Rf}(h:(lkH l r).isSome=true):lkH l r=lkH more r:=by
 obtain ⟨y,b⟩:=Option.isSome_iff_exists.1 h;obtain ⟨h1,h2⟩:=ybx b;have:=yit f (hm y h2);rw [h1] at this;rw [b,this]
theorem ysb {l more:List Ev}(f:Str zlf more)(hm:∀ x∈l,x∈more){cs:List Cf}(g:∀ c∈cs,CB l a k c):∀ c∈cs,∀ b∈c.fBindings,lkH l b.fRef=lkH more b.fRef:=fun c h b i=>yoq f hm ((g c h).bd b i).2
theorem ymn (a b:Rf):ziy N0 a b=some (rCmp a b):=by
 have:ziy (1999999996+4) a b=some (rCmp a b):=by
  unfold ziy;simp only [z05,yc5,ylr];rfl
 exact this
structure CIv (a:Aut) (rest:List Ev) (c:Cf):Prop where
 asc:c.fBindings.Pairwise (fun x y=>rCmp x.fRef y.fRef<0)
 bef:∀ b∈c.fBindings,∀ e∈rest,rCmp b.fRef (ze0 e)<0
 scp:∀ s∈c.fStarts,(0<=s.fScope/\s.fScope<a.fScopes)/\0<=s.fTime/\s.fTime<=1099511627776
theorem CIv.tail {r:List Ev}(h:CIv a (e::r) c):CIv a r c:=⟨h.asc,fun b g x f=>h.bef b g x (mem_cons_of_mem _ f),h.scp⟩
theorem yr6 (v:AOk a){r:List Ev}(j:Str zlf (e::r))(i:zfa e=true)(h:CIv a (e::r) c)(q:x∈a.fEdges)(u:coP a held c x e=some d):CIv a r d:=by
 rw [y5x u];obtain ⟨n,w⟩:=pairwise_cons.1 j;refine ⟨?_,fun b f y g=>?_,fun s t=>?_⟩
 ·show Pairwise _ (bdN c x e);unfold bdN;rw [pairwise_append];exact ⟨h.asc,pairwise_singleton _ _,fun b f y g=>by rw [mem_singleton.1 g];exact h.bef b f e (by simp)⟩
 ·rcases mem_append.1 f with f|f
  ·exact h.bef b f y (mem_cons_of_mem _ g)
  ·rw [mem_singleton.1 f];exact n y g
 ·have m:=(mem_filter.1 t).1;rcases opL_mem e.fTime x.fOpens m with ⟨p,o⟩|k
  ·refine ⟨(v.ed x q).opn _ p,?_⟩;rw [o];unfold zfa at i;simp only [Bool.and_eq_true,decide_eq_true_eq] at i;exact ⟨i.1,i.2.1⟩
  ·exact h.scp s k
theorem yoh (j:AOk a){r:List Ev}(f:Str zlf (e::r))(i:zfa e=true)(h:CIv a (e::r) c)(b:d∈outP a held c e):CIv a r d:=by
 unfold outP at b;rcases mem_append.1 b with b|b
 ·split at b
  ·rw [mem_singleton.1 b];exact h.tail
  ·simp at b
 ·obtain ⟨x,g,b⟩:=mem_filterMap.1 b;exact yr6 j f i h (zvr g).1 b
theorem yrb (i:AOk a){r:List Ev}(b:Str zlf (e::r))(f:zfa e=true){cs:List Cf}(h:∀ c∈cs,CIv a (e::r) c):∀ d∈cfN a held cs e,CIv a r d:=fun d g=>by
 obtain ⟨c,h1,h2,_⟩:=yjp g;exact yoh i b f (h c h1) h2
theorem yd8:∀ (p:List Ev) (cs:List Cf) (b:List Ma),(wiP 150 a held (p++[e]) cs b).2.2=true->∃ x m,wiP 150 a held p cs b=(x,m,true)/\wiP 150 a held (p++[e]) cs b=(cfN a held x e,puts zc0 m (maN a held x e),true)/\(cfN a held x e).length<=150/\(puts zc0 m (maN a held x e)).length<=150
 |[],cs,b,h=>by
  refine ⟨cs,b,rfl,?_⟩;rw [nil_append] at h ⊢;unfold wiP at h ⊢;split at h
  ·cases h
  ·rename_i q;rw [if_neg q];exact ⟨rfl,by omega,by omega⟩
 |f::p,cs,b,h=>by
  rw [cons_append] at h ⊢;unfold wiP at h ⊢;split at h
  ·cases h
  ·rename_i q;rw [if_neg q,if_neg q];exact yd8 p _ _ h
theorem y2u (r:z0l)(c:Cf)(i:c.fStarts.length<=1000000)(f:∀ s∈c.fStarts,(0<=s.fScope/\s.fScope<r.fa.fScopes)/\0<=s.fTime/\s.fTime<=1099511627776)(g:SS c.fStarts):∀ (m k:Nat),k<=c.fStarts.length->c.fStarts.length<m+k->z2f N0 c r (some 0) m (k:Int)=some 0
 |0,k,h1,h2=>by omega
 |m+1,k,h1,h2=>by
  unfold z2f;simp only [length_map,z0f,z3g,z1s,z2p,z60,z9u,zae];by_cases h:k<c.fStarts.length
  ·obtain ⟨⟨p,o⟩,n,j⟩:=f _ (getElem_mem h);have b:=y2u r c i f g m (k+1) (by omega) (by omega);rw [if_pos (by omega),z0r h,if_neg (by omega),if_neg (by omega),if_neg (by omega),if_neg (by omega),z27 k (by omega)];by_cases q:0<k
   ·have:=pairwise_iff_getElem.1 g (k-1) k (by omega) h (by omega);rw [if_pos (by omega),yfg k (by omega) (by omega),z0r (by omega:k-1<c.fStarts.length),if_neg (by omega)];exact b
   ·rw [if_neg (by omega)];exact b
  ·rw [if_neg (by omega)]
theorem y2v (r:z0l)(held:List Ev)(hm:HM held r.fheld)(c:Cf)(n:c.fBindings.length<=1000000)(f:BdOk held r.fa.fVars c.fBindings)(g:c.fBindings.Pairwise (fun x y=>rCmp x.fRef y.fRef<0))(K:Option Int)(i:K=some 0):∀ (m k:Nat),k<=c.fBindings.length->c.fBindings.length<m+k->z4k N0 c r K m (k:Int)=some 0
 |0,k,h1,h2=>by omega
 |m+1,k,h1,h2=>by
  unfold z4k;simp only [length_map,z0f,z3g,z1s,z5z,z5y,z9u,zae,z12];by_cases h:k<c.fBindings.length
  ·obtain ⟨⟨s,q⟩,j⟩:=f _ (getElem_mem h);have b:=y2v r held hm c n f g K i m (k+1) (by omega) (by omega);have p:(⟨c.fBindings[k].fRef.fTime,c.fBindings[k].fRef.fSource,c.fBindings[k].fRef.fSeq⟩:Rf)=c.fBindings[k].fRef:=rfl;rw [if_pos (by omega),z0r h,p,ymw,hm,j];simp only [z9u];rw [if_neg (by omega),if_neg (by omega),z27 k (by omega)];by_cases t:0<k
   ·have:=pairwise_iff_getElem.1 g (k-1) k (by omega) h (by omega);have o:(⟨c.fBindings[k-1].fRef.fTime,c.fBindings[k-1].fRef.fSource,c.fBindings[k-1].fRef.fSeq⟩:Rf)=c.fBindings[k-1].fRef:=rfl;rw [if_pos (by omega),yfg k (by omega) (by omega),z0r (by omega:k-1<c.fBindings.length),o,ymn,z05,if_neg (by omega)];exact b
   ·rw [if_neg (by omega)];exact b
  ·rw [if_neg (by omega)];exact i
theorem yl0 (hm:HM held r.fheld)(g:k<=1000)(f:CB held r.fa k c){b:List Ev}(hi:CIv r.fa b c):z61 N0 r c=some 0:=by
 have h1:=f.lb;have h2:=f.ls;have h:=f.st;unfold z61;simp only [z3g,z1s,z78,z0f,z9u,length_map];rw [if_neg (by omega),if_neg (by omega),if_neg (by omega)];have:=y2u r c (by omega) hi.scp f.ss N0 0 (Nat.zero_le _) (by unfold N0;omega);exact y2v r held hm c (by omega) f.bd hi.asc _ this N0 0 (Nat.zero_le _) (by unfold N0;omega)
theorem yq6 (e:Ev):zjf N0 e=some (zfa e):=by
 unfold zjf zfa
 simp only [z3g,z1s,z8b,z0f]
 repeat' split
 all_goals (simp_all<;>omega)
theorem yqd {r:List Ev}(j:zfa e=true)(l:List Cf)(q:l.length<=1000000)(n:∀ c∈l,c.fBindings.length<=1000000)(h:∀ c∈l,CIv a (e::r) c):ziz N0 l e=some 0:=by
 unfold ziz;rw [yq6,j,z05,z12,z9u];rw [yg4 N0 e (fun _=>false) l (by omega) (by unfold N0;omega) (fun c g=>by
  have m:=n c g;unfold zgz zth;rw [yg3 N0 e (fun b=>decide (0<=rCmp b.fRef (ze0 e))) c.fBindings (by omega) (by unfold N0;omega) (fun b _=>by
   unfold zgy;have i:zje N0 e=some (ze0 e):=rfl;rw [i,z05];have p:(⟨b.fRef.fTime,b.fRef.fSource,b.fRef.fSeq⟩:Rf)=b.fRef:=rfl;have o:(⟨(ze0 e).fTime,(ze0 e).fSource,(ze0 e).fSeq⟩:Rf)=ze0 e:=rfl;simp only [p,o,ymn,z05]),z05,z05]
  congr 1;rw [any_eq_false];intro b f;have:=(h c g).bef b f e (by simp);simp only [decide_eq_true_eq];omega),z05]
 have:(l.any fun _=>false)=false:=by rw [any_eq_false];simp
 rw [this,zae]
theorem ye7 (e:Ev)(l:List Cf)(f:l.length<=1000000)(h:∀ c∈l,z61 N0 r c=some 0)(K:Int->Int->List zd9->List z0t->List (z18×z03)->Option (List Cf×List Ma×Int)):∀ (m k:Nat),k<=l.length->l.length<m+k->ze4 N0 e l r K m (k:Int)=K r.fa.fVars r.fa.fScopes r.fa.fStates r.fa.fEdges r.fheld
 |0,k,h1,h2=>by omega
 |m+1,k,h1,h2=>by
  unfold ze4;simp only [length_map,z0f,z12];by_cases b:k<l.length
  ·rw [if_pos (by omega),z0r b,h _ (getElem_mem b),z05,if_pos rfl,z27 k (by omega)];exact ye7 e l f h K m (k+1) (by omega) (by omega)
  ·rw [if_neg (by omega)]
theorem yjm:∀ (l p r:List Ev),chk p (l++r)=0->chk p l=0
 |[],p,r,_=>by unfold chk;rfl
 |e::l,p,r,h=>by
  rw [cons_append] at h;unfold chk at h ⊢;split at h
  ·cases h
  split at h
  ·cases h
  split at h
  ·cases h
  rename_i h1 h2 b;rw [if_neg h1,if_neg h2,if_neg b];exact yjm l (e::p) r h
theorem yfi {l r:List Ev}(h:zlh (l++r)=0):zlh l=0:=by
 unfold zlh at h ⊢;split at h
 ·cases h
 ·rename_i q;rw [length_append] at q;rw [if_neg (by omega)];exact yjm l [] r h
end Go.Proofs.YtidhlpjgifoneaaGreat
