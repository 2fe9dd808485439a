/- Layer 25, plainly. -/
import Derived.Test.YthbogefcfhmpgaaGreatK22
set_option linter.unusedVariables false
set_option linter.unusedSimpArgs false
set_option maxRecDepth 100000
namespace Go.Proofs.YthbogefcfhmpgaaGreat
open Go.RowKit List
open List renaming length_map->aA,getElem_mem->aC,drop_eq_nil_of_le->aD,drop_eq_getElem_cons->aE,mem_singleton->aF,length_append->aG,mem_cons_of_mem->aH,mem_flatMap->aJ,pairwise_iff_getElem->aK,flatMap_cons->aL,append_assoc->aM,drop_zero->aN,getD_eq_getElem?_getD->aO,length_filter_le->aP,mem_append->aQ,take_append_drop->aR,getElem?_eq_getElem->aS,length_take->aU,length_singleton->aW,filterMap_cons->aX,mem_filterMap->aY,filter_cons->aZ,length_cons->bA,cons_append->bB,mem_filter->bC,nil_append->bD,foldl_cons->bE
open Nat renaming zero_le->aB,le_trans->aT
open Option renaming isSome_iff_exists->aV
def cfO (l:List Cf):List Cf:=l.filter (fun d=>!decide (d.fState<0))
def maO (l:List Cf):List Ma:=(l.filter (fun d=>decide (d.fState<0))).map (fun d=>⟨d.fBindings⟩)
def Fl (a:Aut)(s:Int):List Ed:=a.fEdges.filter (fun x=>decide (x.fFrom=s))
def skP (a:Aut)(held:List Ev)(c:Cf)(e:Ev):Bool:=!(Xh a c.fState).any (vio (enH held c.fBindings) e)
def outP (a:Aut)(held:List Ev)(c:Cf)(e:Ev):List Cf:=(if skP a held c e=true then [c] else [])++(Fl a c.fState).filterMap (fun x=>coP a held c x e)
theorem znz (d:Cf)(l:List Cf):cfO (d::l)=if d.fState<0 then cfO l else d::cfO l:=by
 unfold cfO;grind
theorem zmc (d:Cf)(l:List Cf):maO (d::l)=if d.fState<0 then (⟨d.fBindings⟩:Ma)::maO l else maO l:=by
 unfold maO;grind
theorem zo0 (l m:List Cf):cfO (l++m)=cfO l++cfO m:=by unfold cfO;rw [filter_append]
theorem zmd (l m:List Cf):maO (l++m)=maO l++maO m:=by unfold maO;simp_all
theorem T0 (l:List Cf):(cfO l).length<=l.length:=aP _ _
theorem Nt (l:List Cf):(maO l).length<=l.length:=by unfold maO;grind
variable {l:List Cf}{d:Cf}
theorem zut (h:d∈cfO l):d∈l/\0<=d.fState:=by
 have:=bC.1 h;exact ⟨this.1,by simpa using this.2⟩
theorem y7w {m:Ma}(h:m∈maO l):∃ d∈l,m=⟨d.fBindings⟩:=by
 obtain ⟨d,b,rfl⟩:=mem_map.1 h;grind
def Sz (k:Nat)(c:Cf):Prop:=c.fBindings.length<=k/\c.fStarts.length<=100*k
variable {k:Nat}{c:Cf}
theorem Sz.ok (b:k<=1001)(h:Sz k c):cfOk c=true:=(Ee c).2 ⟨by have:=h.1;omega,by have:=h.2;omega⟩
variable {a:Aut}{x:Ed}{e:Ev}
theorem zgn {held:List Ev}(h:coP a held c x e=some d):d=⟨x.fTo,bdN c x e,(stN c x e).filter (ncl x)⟩:=by
 unfold coP at h;simp_all
theorem y2h {held:List Ev}(g:CxA a held)(f:CB held a k c)(b:x∈a.fEdges)(h:coP a held c x e=some d):Sz (k+1) d:=by
 rw [zgn h];have h1:=f.lb;have h2:=f.ls;have n:=g.lo x b;have m:=zm8 e.fTime x.fOpens c.fStarts;have j:=aP (ncl x) (stN c x e);refine ⟨by unfold bdN;simp;omega,?_⟩;unfold stN at j ⊢;simp only;omega
theorem CB.sz {held:List Ev}(h:CB held a k c):Sz k c:=⟨h.lb,h.ls⟩
theorem Xb {s:Int}(h:x∈Fl a s):x∈a.fEdges/\x.fFrom=s:=by
 have:=bC.1 h;exact ⟨this.1,by simpa using this.2⟩
theorem y13 {held:List Ev}(g:CxA a held)(f:CB held a k c)(h:d∈outP a held c e):Sz (k+1) d:=by
 unfold outP at h;rcases aQ.1 h with h|h
 ·split at h
  ·rw [aF.1 h];have:=f.sz;exact ⟨by have:=this.1;omega,by have:=this.2;omega⟩
  ·simp at h
 ·obtain ⟨x,b,j⟩:=aY.1 h;exact y2h g f (Xb b).1 j
theorem So {held:List Ev}:(outP a held c e).length<=a.fEdges.length+1:=by
 unfold outP Fl;grind
theorem ztx (b:k<=1001)(h:Sz k c):maOk ⟨c.fBindings⟩=true:=(Ec _).2 (by have:=h.1;simp;omega)
theorem zki (e:Ev)(env:List (List Ev))(j:EvS env)(b:Stt)(n:b.fGuards.length<=1100000)(f:∀ g∈b.fGuards,WfE g.fCond):∀ (m k:Nat),k<=b.fGuards.length->b.fGuards.length<m+k->Pb N0 e ⟨env⟩ b (some true) m (k:Int)=some (!(b.fGuards.drop k).any (vio env e))
 |0,k,h1,h2=>by omega
 |m+1,k,h1,h2=>by
  unfold Pb;simp only [aA,A4];by_cases h:k<b.fGuards.length
  ·rw [if_pos (by omega),Ae h,B4 _ k h,any_cons,y0b j (f _ (aC h)),A0,Ai k (by omega),zki e env j b n f m (k+1) (by omega) (by omega)];cases vio env e b.fGuards[k]<;>simp [Au,Aw]
  grind
theorem y48 {held:List Ev}(f:CxA a held)(p:k<=1000)(g:CB held a k c)(e:Ev):Uo N0 a held c e=some (skP a held c e):=by
 have m:=g.lb;have j:=f.lh;obtain ⟨b,o,h,n⟩:=Xa g.st;unfold Uo skP;rw [y0f N0 (by decide) held (by omega) c (by omega),A0,zge g.st.1 o,n];have:=zki e (enH held c.fBindings) (Jm (by omega)) b (f.wf.st b h).1 (f.wf.st b h).2 N0 0 (aB _) (by have:=(f.wf.st b h).1;unfold N0;omega);simp_all
theorem zhh (s:Int)(a:Aut)(b:a.fEdges.length<=1000000)(K:List Ed->Option (List Ed)):∀ (m k:Nat) (out:List Ed),k<=a.fEdges.length->a.fEdges.length<m+k->out.length<=k->L6 N0 s a K m ((k:Int),out)=K (out++(a.fEdges.drop k).filter (fun x=>decide (x.fFrom=s)))
 |0,k,out,h1,h2,j=>by omega
 |m+1,k,out,h1,h2,j=>by
  unfold L6;simp only [aA,A4];by_cases h:k<a.fEdges.length
  ·have g:=zhh s a b K m (k+1) (out++[a.fEdges[k]]) (by omega) (by omega) (by simp_all);have f:=zhh s a b K m (k+1) out (by omega) (by omega) (by omega);rw [if_pos (by omega),Ar,Ae h,Ae h,B4 _ k h,Ai k (by omega),C1 (by grind) (by omega),g,f,aZ];grind
  ·rw [if_neg (by omega),aD (by omega)];simp
theorem y9t (s:Int)(a:Aut)(b:a.fEdges.length<=1000000):Uy N0 a s=some (Fl a s):=by
 have:=zhh s a b (fun y=>some y) N0 0 [] (aB _) (by unfold N0;omega) (by simp);unfold Uy Fl;exact this
variable {kk:Nat}
theorem zga {held:List Ev}(q:CxA a held)(v:kk<=1000)(s:CB held a kk c)(e:Ev)(es:List Ed)(g:∀ x∈es,x∈a.fEdges)(y:es.length<=100000)(K:List Cf->List Ma->Option (List Cf×List Ma)) :
  ∀ (m k:Nat) (cs:List Cf) (f:List Ma),k<=es.length->es.length<m+k->cs.length<=k+1->f.length<=k->(∀ d∈cs,cfOk d=true)->(∀ d∈f,maOk d=true)->Ij N0 e c held a es K m (cs,f,(k:Int))=K (puts Bi cs (cfO ((es.drop k).filterMap (fun x=>coP a held c x e)))) (puts B6 f (maO ((es.drop k).filterMap (fun x=>coP a held c x e))))
 |0,k,cs,f,h1,h2,B,A,u,t=>by omega
 |m+1,k,cs,f,h1,h2,B,A,u,t=>by
  unfold Ij;simp only [aA,A4,Am];by_cases h:k<es.length
  ·have p:=g _ (aC h);have j:=zy1 q v s p e;rw [if_pos (by omega),Ae h,B4 _ k h,aX,Ai k (by omega)];cases n:coP a held c es[k] e with
   |none =>
    have b:L5 N0 a held c es[k] e=some (cf0,false):=j.trans (by rw [n];rfl);rw [b,A0];simp only [Aw];exact zga q v s e es g y K m (k+1) cs f (by omega) (by omega) (by omega) (by omega) u t
   |some d =>
    have w:=y2h q s p n;have b:L5 N0 a held c es[k] e=some (d,true):=j.trans (by rw [n];rfl);rw [b,A0];simp only [Au,Ar];rw [znz,zmc];by_cases o:d.fState<0
    ·rw [if_pos o,if_pos o,if_pos o,y0n N0 (by decide) _ (ztx (by omega) w) f t (by omega),A0,Hi];have z:=Ni B6 (⟨d.fBindings⟩:Ma) f;exact zga q v s e es g y K m (k+1) cs _ (by omega) (by omega) (by omega) (by omega) u (zml (ztx (by omega) w) t)
    ·rw [if_neg o,if_neg o,if_neg o,y0o N0 (by decide) _ (w.ok (by omega)) cs u (by omega),A0,Hi];have z:=Ni Bi d cs;exact zga q v s e es g y K m (k+1) _ f (by omega) (by omega) (by omega) (by omega) (zwo (w.ok (by omega)) u) t
  ·rw [if_neg (by omega),aD (by omega)];rfl
theorem ybk {held:List Ev}(n:CxA a held)(p:a.fEdges.length<=100000)(o:kk<=1000)(g:CB held a kk c)(e:Ev):V7 N0 a held c e=some (setL Bi (cfO (outP a held c e)),setL B6 (maO (outP a held c e))):=by
 have j:(Fl a c.fState).length<=100000:=by
  have:=aP (fun x:Ed=>decide (x.fFrom=c.fState)) a.fEdges;unfold Fl;omega
 have m:=fun cs s q=>zga n o g e (Fl a c.fState) (fun x h=>(Xb h).1) j (fun k1_1_0y0 k1_1_0y1=>some (k1_1_0y0,k1_1_0y1)) N0 0 cs [] (aB _) (by unfold N0;omega) s (by simp) q (by simp)
 have f:¬c.fState<0:=by have:=g.st;omega
 unfold V7;simp only [B5,Ar,Li];rw [y48 n o g e,A0,y9t _ a (by omega)];simp only [A0];unfold outP setL;rw [zo0,zmd,Ww,Ww];cases skP a held c e with
 |true =>
  have b:=y0o N0 (by decide) c (g.sz.ok (by omega)) [] (by simp) (by simp);rw [Au,b,A0];have:=m (insU Bi c []) (by simp [insU]) (by simp [insU];exact g.sz.ok (by omega));refine this.trans ?_;have u:puts Bi [] (cfO (if true=true then [c] else []))=insU Bi c []:=by
   rw [if_pos rfl,znz,if_neg f];rfl
  have t:puts B6 [] (maO (if true=true then [c] else []))=[]:=by
   rw [if_pos rfl,zmc,if_neg f];rfl
  rw [u,t];rfl
 |false =>
  rw [Aw];refine (m [] (by simp) (by simp)).trans ?_;rfl
theorem zw8 (e:Ev)(l:List Cf)(held:List Ev)(a:Aut)(v:List Cf×List Ma×Int)(x:List Cf×List Ma)(b:∀ d∈x.1,cfOk d=true)(j:x.1.length<=100000)(K:List Cf->List Ma->Option (List Cf×List Ma)):∀ (m k:Nat) (cs:List Cf),k<=x.1.length->x.1.length<m+k->cs.length+(x.1.length-k)<=1000000->(∀ d∈cs,cfOk d=true)->Q9 N0 e l held a v x K m (cs,(k:Int))=K (puts Bi cs (x.1.drop k)) x.2
 |0,k,cs,h1,h2,o,f=>by omega
 |m+1,k,cs,h1,h2,o,f=>by
  unfold Q9;simp only [aA,A4];by_cases h:k<x.1.length
  ·have g:=b _ (aC h);have n:=Ni Bi x.1[k] cs;rw [if_pos (by omega),Ae h,y0o N0 (by decide) _ g cs f (by omega),A0,B4 _ k h,Hi,Ai k (by omega)];exact zw8 e l held a v x b j K m (k+1) _ (by omega) (by omega) (by omega) (zwo g f)
  ·rw [if_neg (by omega),aD (by omega)];rfl
theorem zw7 (e:Ev)(l:List Cf)(held:List Ev)(a:Aut)(v:List Cf×List Ma×Int)(g:List Cf)(x:List Ma)(b:∀ d∈x,maOk d=true)(o:x.length<=100000)(K:List Ma->Option (List Cf×List Ma)):∀ (m k:Nat) (cs:List Ma),k<=x.length->x.length<m+k->cs.length+(x.length-k)<=1000000->(∀ d∈cs,maOk d=true)->Q8 N0 e l held a v g x K m (cs,(k:Int))=K (puts B6 cs (x.drop k))
 |0,k,cs,h1,h2,q,f=>by omega
 |m+1,k,cs,h1,h2,q,f=>by
  unfold Q8;simp only [aA,A4];by_cases h:k<x.length
  ·have j:=b _ (aC h);have p:=Ni B6 x[k] cs;have n:=y0n N0 (by decide) x[k] j cs f (by omega);rw [if_pos (by omega),Ae h,B4 _ k h,Hi,Ai k (by omega),n,A0];exact zw7 e l held a v g x b o K m (k+1) _ (by omega) (by omega) (by omega) (zml j f)
  ·rw [if_neg (by omega),aD (by omega)];rfl
theorem zpd (most:Int)(l:List Ev)(a:Aut)(v:List Cf×List Ma×Int)(x:List Cf×List Ma)(b:∀ d∈x.2,maOk d=true)(n:x.2.length<=1000000)(K:List Ma->List Cf->Option (List Cf×List Ma×Bool)):∀ (m k:Nat) (cs:List Ma),k<=x.2.length->x.2.length<m+k->cs.length+(x.2.length-k)<=1000000->(∀ d∈cs,maOk d=true)->Ow N0 most l a v x K m (cs,(k:Int))=K (puts B6 cs (x.2.drop k)) x.1
 |0,k,cs,h1,h2,p,f=>by omega
 |m+1,k,cs,h1,h2,p,f=>by
  unfold Ow;simp only [aA,A4];by_cases h:k<x.2.length
  ·have g:=b _ (aC h);have o:=Ni B6 x.2[k] cs;have j:=y0n N0 (by decide) x.2[k] g cs f (by omega);rw [if_pos (by omega),Ae h,B4 _ k h,Hi,Ai k (by omega),j,A0];exact zpd most l a v x b n K m (k+1) _ (by omega) (by omega) (by omega) (zml g f)
  ·rw [if_neg (by omega),aD (by omega)];rfl
theorem zzm {l:List Ma}(h:∀ x∈l,maOk x=true):∀ x∈setL B6 l,maOk x=true:=fun x b=>h x ((Di Cl x l).1 b)
theorem y6k {held:List Ev}(b:CxA a held)(h:kk<=1000)(g:CB held a kk c)(e:Ev):∀ d∈cfO (outP a held c e),cfOk d=true:=fun d f=>(y13 b g (zut f).1).ok (by omega)
theorem y1j {held:List Ev}(b:CxA a held)(j:kk<=1000)(h:CB held a kk c)(e:Ev):∀ d∈maO (outP a held c e),maOk d=true:=fun d g=>by
 obtain ⟨q,f,rfl⟩:=y7w g;exact ztx (by omega) (y13 b h f)
theorem zw9 {held:List Ev}(g:CxA a held)(n:a.fEdges.length<=100)(j:kk<=1000)(e:Ev)(l:List Cf)(s:∀ c∈l,CB held a kk c)(y:l.length<=5000)(K:List Cf->List Ma->Option (List Cf×List Ma)) :
  ∀ (m k:Nat) (cs:List Cf) (b:List Ma),k<=l.length->l.length<m+k->cs.length<=101*k->b.length<=101*k->(∀ d∈cs,cfOk d=true)->(∀ d∈b,maOk d=true)->Qa N0 e l held a K m (cs,b,(k:Int))=K (puts Bi cs ((l.drop k).flatMap (fun c=>setL Bi (cfO (outP a held c e))))) (puts B6 b ((l.drop k).flatMap (fun c=>setL B6 (maO (outP a held c e)))))
 |0,k,cs,b,h1,h2,A,z,p,o=>by omega
 |m+1,k,cs,b,h1,h2,A,z,p,o=>by
  unfold Qa;simp only [aA,A4];by_cases h:k<l.length
  ·have f:=s _ (aC h);have F:=zg5 (c:=Bi) (cfO (outP a held l[k] e));have E:=zg5 (c:=B6) (maO (outP a held l[k] e));have D:=T0 (outP a held l[k] e);have C:=Nt (outP a held l[k] e);have B:(outP a held l[k] e).length<=a.fEdges.length+1:=So;have q:=y6w (y6k g j f e);have o2:=zzm (y1j g j f e);have H:=zg8 (c:=Bi) (setL Bi (cfO (outP a held l[k] e))) cs;have G:=zg8 (c:=B6) (setL B6 (maO (outP a held l[k] e))) b;rw [if_pos (by omega),Ae h,ybk g (by omega) j f e,A0,B4 _ k h,aL,aL,Ww,Ww,Ai k (by omega)];have w:=fun K=>zw8 e l held a (cs,b,(k:Int)) (setL Bi (cfO (outP a held l[k] e)),setL B6 (maO (outP a held l[k] e))) q (by grind) K N0 0 cs (aB _) (by show (setL Bi (cfO (outP a held l[k] e))).length<2000000000+0;omega) (by show cs.length+((setL Bi (cfO (outP a held l[k] e))).length-0)<=1000000;omega) p
   refine (w _).trans ?_;have u:=fun v t K=>zw7 e l held a v t (setL B6 (maO (outP a held l[k] e))) o2 (by omega) K N0 0 b (aB _) (by unfold N0;omega) (by omega) o
   refine (u _ _ _).trans ?_;rw [aN,aN];exact zw9 g n j e l s y K m (k+1) (puts Bi cs (setL Bi (cfO (outP a held l[k] e)))) (puts B6 b (setL B6 (maO (outP a held l[k] e)))) (by omega) (by omega) (by omega) (by omega) (y41 p q) (zvf o o2)
  ·rw [if_neg (by omega),aD (by omega)];rfl
variable {α β:Type}
theorem zoy {c:α->α->Int}(h:TO c)(f:β->List α)(l:List β):setL c (l.flatMap (fun x=>setL c (f x)))=setL c (l.flatMap f):=by
 refine zzn h (fun x=>?_);rw [aJ,aJ];constructor
 ·rintro ⟨y,b,g⟩;exact ⟨y,b,(Di h _ _).1 g⟩
 ·rintro ⟨y,b,g⟩;exact ⟨y,b,(Di h _ _).2 g⟩
def cfN (a:Aut)(held:List Ev)(l:List Cf)(e:Ev):List Cf:=setL Bi (l.flatMap (fun c=>cfO (outP a held c e)))
def maN (a:Aut)(held:List Ev)(l:List Cf)(e:Ev):List Ma:=setL B6 (l.flatMap (fun c=>maO (outP a held c e)))
theorem ybs {held:List Ev}(h:CxA a held)(b:a.fEdges.length<=100)(m:kk<=1000)(e:Ev)(l:List Cf)(n:∀ c∈l,CB held a kk c)(j:l.length<=5000):V9 N0 a held l e=some (cfN a held l e,maN a held l e):=by
 have:=zw9 h b m e l n j (fun g f=>some (g,f)) N0 0 [] [] (aB _) (by unfold N0;omega) (by simp) (by simp) (by simp) (by simp);unfold V9 cfN maN;refine this.trans ?_;rw [aN,<-zoy cfCmp_to,<-zoy Cl];rfl
theorem y12 (d:Cf)(f:List Cf)(b:List Ma)(g:f.length<=100000000)(h1:b.length<=100000000):Pn N0 d f b=some (f++cfO [d],b++maO [d]):=by
 unfold Pn;rw [A4,znz,zmc,C1 (by grind) (by omega),C1 (by simp only [aW];omega) (by omega)];by_cases h:d.fState<0
 ·simp [h,cfO,maO]
 ·simp [h,cfO,maO]
variable {r:B9}
theorem zgc {held:List Ev}(n:CxA r.fa held)(o:kk<=1000)(p:CB held r.fa kk c)(g:∀ y∈held,Bl y=Bl e->y=e)(j:r.fa.fEdges.length<=100)(K:List Cf->List Ma->Option (List Cf×List Ma×B9×Cf×Ev)) :
  ∀ (m k:Nat) (f:List Cf) (b:List Ma),k<=r.fa.fEdges.length->r.fa.fEdges.length<m+k->f.length<=90000000+k->b.length<=90000000+k->Ht N0 e c r ⟨bndV held r.fa.fVars.toNat c.fBindings⟩ K m ((k:Int),f,b)=K (f++cfO (((r.fa.fEdges.drop k).filter (fun x=>decide (x.fFrom=c.fState))).filterMap (fun x=>coP r.fa held c x e))) (b++maO (((r.fa.fEdges.drop k).filter (fun x=>decide (x.fFrom=c.fState))).filterMap (fun x=>coP r.fa held c x e)))
 |0,k,f,b,h1,h2,A,z=>by omega
 |m+1,k,f,b,h1,h2,A,z=>by
  unfold Ht;simp only [aA,A4,Am];by_cases h:k<r.fa.fEdges.length
  ·have s:=aC h;rw [if_pos (by omega),Ae h,B4 _ k h,Ai k (by omega),aZ];by_cases q:r.fa.fEdges[k].fFrom=c.fState;rotate_left
   ·rw [if_neg q,if_neg (by simpa using q)];exact zgc n o p g j K m (k+1) f b (by omega) (by omega) (by omega) (by omega)
   rw [if_pos q,if_pos (by simpa using q),zq8 n o p s g,A0,aX];cases w:coP r.fa held c r.fa.fEdges[k] e with
   |none =>
    simp only [rfC,Aw];exact zgc n o p g j K m (k+1) f b (by omega) (by omega) (by omega) (by omega)
   |some d =>
    simp only [rfC,Au];have u:=T0 [d];have t:=Nt [d];simp only [aW] at u t;rw [y12 d f b (by omega) (by omega),Cn];have v:=zgc n o p g j K m (k+1) (f++cfO [d]) (b++maO [d]) (by omega) (by omega) (by rw [aG];omega) (by rw [aG];omega);refine v.trans ?_;rw [aM,aM,<-zo0,<-zmd];rfl
  ·rw [if_neg (by omega),aD (by omega)];simp [cfO,maO]
theorem zgb {held:List Ev}(n:CxA r.fa held)(o:kk<=1000)(p:CB held r.fa kk c)(g:∀ y∈held,Bl y=Bl e->y=e)(j:r.fa.fEdges.length<=100)(K:List Cf->List Ma->Option (List Cf×List Ma×B9×Cf×Ev)) :
  ∀ (m k:Nat) (f:List Cf) (b:List Ma),k<=r.fa.fEdges.length->r.fa.fEdges.length<m+k->f.length<=90000000+k->b.length<=90000000+k->Hs N0 e c r ⟨bndV held r.fa.fVars.toNat c.fBindings⟩ K m ((k:Int),f,b)=K (f++cfO (((r.fa.fEdges.drop k).filter (fun x=>decide (x.fFrom=c.fState))).filterMap (fun x=>coP r.fa held c x e))) (b++maO (((r.fa.fEdges.drop k).filter (fun x=>decide (x.fFrom=c.fState))).filterMap (fun x=>coP r.fa held c x e)))
 |0,k,f,b,h1,h2,A,z=>by omega
 |m+1,k,f,b,h1,h2,A,z=>by
  unfold Hs;simp only [aA,A4,Am];by_cases h:k<r.fa.fEdges.length
  ·have s:=aC h;rw [if_pos (by omega),Ae h,B4 _ k h,Ai k (by omega),aZ];by_cases q:r.fa.fEdges[k].fFrom=c.fState;rotate_left
   ·rw [if_neg q,if_neg (by simpa using q)];exact zgb n o p g j K m (k+1) f b (by omega) (by omega) (by omega) (by omega)
   rw [if_pos q,if_pos (by simpa using q),zq8 n o p s g,A0,aX];cases w:coP r.fa held c r.fa.fEdges[k] e with
   |none =>
    simp only [rfC,Aw];exact zgb n o p g j K m (k+1) f b (by omega) (by omega) (by omega) (by omega)
   |some d =>
    simp only [rfC,Au];have u:=T0 [d];have t:=Nt [d];simp only [aW] at u t;rw [y12 d f b (by omega) (by omega),Cn];have v:=zgb n o p g j K m (k+1) (f++cfO [d]) (b++maO [d]) (by omega) (by omega) (by rw [aG];omega) (by rw [aG];omega);refine v.trans ?_;rw [aM,aM,<-zo0,<-zmd];rfl
  ·rw [if_neg (by omega),aD (by omega)];simp [cfO,maO]
theorem y11 {held:List Ev}(m:CxA r.fa held)(hm:HM held r.fheld)(v:kk<=1000)(b:CB held r.fa kk c)(p:∀ y∈held,Bl y=Bl e->y=e)(n:r.fa.fEdges.length<=100)(j:List Cf)(h:List Ma)(M:j.length<=10000000)(h1:h.length<=10000000):Tk N0 j h r c e=some (j++cfO (outP r.fa held c e),h++maO (outP r.fa held c e),r,c,e):=by
 have F:=b.lb;have E:=m.lh;have f:=m.ok.vars;have D:¬c.fState<0:=by have:=b.st;omega
 obtain ⟨q,J,w,I⟩:=Xa b.st;have t:EvS (enH held c.fBindings):=Jm (by omega);have u:=y21 ⟨f.1,f.2⟩ b.bd;have G:=(m.wf.st q w).1;unfold Tk;rw [ybp N0 (by decide) held r hm f c.fBindings (by omega) b.bd,A0,zge b.st.1 J];rw [zto N0 ⟨bndV held r.fa.fVars.toNat c.fBindings⟩ e (vio (enH held c.fBindings) e) q.fGuards (by omega) (by unfold N0;omega) (fun g H=>by
  unfold Kl;have:=y5u u t ((m.wf.st q w).2 g H) e;refine (congrArg (fun o=>bnd o fun A=>some A) this).trans ?_;rw [A0]),A0]
 have s:skP r.fa held c e=!(q.fGuards.any (vio (enH held c.fBindings) e)):=by unfold skP;rw [I]
 rw [<-s];unfold outP;rw [zo0,zmd];cases skP r.fa held c e with
 |true =>
  rw [Au,y12 c j h (by omega) (by omega),Cn];have L:=T0 [c];have z:=Nt [c];have C:=fun K=>zgc m v b p n K N0 0 (j++cfO [c]) (h++maO [c]) (aB _) (by unfold N0;omega) (by grind) (by rw [aG];simp at z;omega)
  refine (C _).trans ?_;rw [aN];simp [aM,Fl]
 |false =>
  rw [Aw];have B:=fun K=>zgb m v b p n K N0 0 j h (aB _) (by unfold N0;omega) (by omega) (by omega)
  refine (B _).trans ?_;rw [aN];simp [Fl,cfO,maO]
theorem zwb {held:List Ev}(o:CxA r.fa held)(hm:HM held r.fheld)(p:kk<=1000)(j:∀ y∈held,Bl y=Bl e->y=e)(g:r.fa.fEdges.length<=100)(l:List Cf)(q:∀ c∈l,CB held r.fa kk c)(s:l.length<=5000)(K:List Cf->List Ma->Option (List Cf×List Ma)):∀ (m k:Nat) (f:List Cf) (b:List Ma),k<=l.length->l.length<m+k->f.length<=101*k->b.length<=101*k->Pm N0 e l r K m ((k:Int),f,b)=K (f++(l.drop k).flatMap (fun c=>cfO (outP r.fa held c e))) (b++(l.drop k).flatMap (fun c=>maO (outP r.fa held c e)))
 |0,k,f,b,h1,h2,v,u=>by omega
 |m+1,k,f,b,h1,h2,v,u=>by
  unfold Pm;simp only [aA,A4];by_cases h:k<l.length
  ·have n:=q _ (aC h);have A:=T0 (outP r.fa held l[k] e);have z:=Nt (outP r.fa held l[k] e);have w:(outP r.fa held l[k] e).length<=r.fa.fEdges.length+1:=So;have t:Zb N0 r l[k] e=some (r,l[k],e):=rfl;rw [if_pos (by omega),Ae h,t,Cn];simp only;rw [y11 o hm p n j g f b (by omega) (by omega),Cn,B4 _ k h,aL,aL,<-aM,<-aM,Ai k (by omega)];exact zwb o hm p j g l q s K m (k+1) _ _ (by omega) (by omega) (by rw [aG];omega) (by rw [aG];omega)
  grind
theorem zgf (f:α->List β)(n:Nat):∀ l:List α,(∀ x∈l,(f x).length<=n)->(l.flatMap f).length<=n*l.length
 |[],_=>by simp
 |x::l,h=>by
  have h1:=h x (by simp);have h2:=zgf f n l (fun y b=>h y (aH _ b));rw [aL,aG,bA,Nat.mul_succ];omega
theorem zqb {held:List Ev}(g:CxA r.fa held)(hm:HM held r.fheld)(j:kk<=1000)(n:∀ y∈held,Bl y=Bl e->y=e)(h:r.fa.fEdges.length<=100)(l:List Cf)(o:∀ c∈l,CB held r.fa kk c)(q:l.length<=5000):Iw N0 r l e=some (cfN r.fa held l e,maN r.fa held l e):=by
 have p:=fun K=>zwb g hm j n h l o q K N0 0 [] [] (aB _) (by unfold N0;omega) (by simp) (by simp)
 unfold Iw;refine (p _).trans ?_;rw [aN,bD,bD];have t:=zgf (fun c=>cfO (outP r.fa held c e)) 101 l (fun c _=>by have:=T0 (outP r.fa held c e);have:(outP r.fa held c e).length<=r.fa.fEdges.length+1:=So;omega);have s:=zgf (fun c=>maO (outP r.fa held c e)) 101 l (fun c _=>by have:=Nt (outP r.fa held c e);have:(outP r.fa held c e).length<=r.fa.fEdges.length+1:=So;omega);rw [y07 N0 (by decide) _ (fun d m=>by
  obtain ⟨c,f,b⟩:=aJ.1 m;exact y6k g j (o c f) e d b) (by omega),Cn,y06 N0 (by decide) _ (fun d m=>by
  obtain ⟨c,f,b⟩:=aJ.1 m;exact y1j g j (o c f) e d b) (by omega),Cn]
 rfl
theorem zti {e:Exn}(h:WfE e):∃ b:Bool,M6 N0 e=some b:=by
 obtain ⟨z,f,g⟩:=h;obtain ⟨c,m,_⟩:=y0x 200 (by omega) (by omega) z e g f N0 (by unfold N0;omega);obtain ⟨d,j,_⟩:=y5x z e g f N0 (by unfold N0;omega);unfold M6;simp only [B5,Ar,Lp];rw [m,A0,j,A0,A4];split
 ·exact ⟨_,rfl⟩
 ·exact ⟨_,rfl⟩
theorem y0e (l:List Gd)(f:∀ g∈l,WfE g.fCond)(j:l.length<=1100000):∀ (m k:Nat),k<=l.length->l.length<m+k->∃ b:Bool,Qc N0 l (some true) m (k:Int)=some b
 |0,k,h1,h2=>by omega
 |m+1,k,h1,h2=>by
  unfold Qc;simp only [aA,A4,Am];by_cases h:k<l.length
  ·obtain ⟨b,n⟩:=zti (f _ (aC h));rw [if_pos (by omega),Ae h,n,A0,Ai k (by omega)];cases b with
   |true=>rw [Au];exact y0e l f j m (k+1) (by omega) (by omega)
   |false=>rw [Aw];exact ⟨_,rfl⟩
  ·rw [if_neg (by omega)];exact ⟨_,rfl⟩
theorem y7a (f:Stt)(h:f.fGuards.length<=1100000/\∀ g∈f.fGuards,WfE g.fCond):∃ b:Bool,Vb N0 f.fGuards=some b:=y0e f.fGuards h.2 h.1 N0 0 (aB _) (by have:=h.1;unfold N0;omega)
theorem zvw (a:Aut)(v:Int)(x:Ed)(ys:List Exn)(f:x.fChecks=ys.map Ay)(j:∀ y∈ys,WfE y)(o:ys.length<=1100000)(P:Prop)(K:Option Bool)(n:∃ b:Bool,K=some b/\(b=true->P)):∀ (m k:Nat),k<=ys.length->ys.length<m+k->∃ b:Bool,Qd N0 a v x K m (k:Int)=some b/\(b=true->P)
 |0,k,h1,h2=>by omega
 |m+1,k,h1,h2=>by
  unfold Qd;have g:x.fChecks.length=ys.length:=by rw [f,aA]
  simp only [aA,A4,Am,g];by_cases h:k<ys.length
  ·obtain ⟨b,p⟩:=zti (j _ (aC h));rw [if_pos (by omega),zu1 f h,p,A0,Ai k (by omega)];cases b with
   |true=>rw [Au];exact zvw a v x ys f j o P K n m (k+1) (by omega) (by omega)
   |false=>rw [Aw];exact ⟨false,rfl,fun h=>by cases h⟩
  ·rw [if_neg (by omega)];exact n
def FewA (a:Aut):Prop:=a.fEdges.length<=40/\∀ x∈a.fEdges,x.fOpens.length<=12
theorem zvx (a:Aut)(s:WfA a)(K:Option Bool)(t:∃ b:Bool,K=some b/\(b=true->a.fEdges.length<=40)):∀ (m k:Nat),k<=a.fEdges.length->k<=60->60<m+k->(∀ x∈a.fEdges.take k,x.fOpens.length<=12)->∃ b:Bool,Il N0 a K m (k:Int)=some b/\(b=true->FewA a)
 |0,k,h1,h2,y,p=>by omega
 |m+1,k,h1,h2,y,p=>by
  have g:(60<=k\/a.fEdges.length<=k)->∃ b:Bool,K=some b/\(b=true->FewA a):=fun F=>by
   obtain ⟨b,z,u⟩:=t;refine ⟨b,z,fun j=>⟨u j,fun x f=>p x ?_⟩⟩;have:=u j;rw [take_of_length_le (by omega)];exact f
  have no:∃ b:Bool,some false=some b/\(b=true->FewA a):=⟨false,rfl,fun h=>by cases h⟩;unfold Il;simp only [aA,A4,B5,Ar,L8,F6,Am,Au,Aw];by_cases h:k<a.fEdges.length;rotate_left
  ·rw [if_neg (by omega)];exact g (by omega)
  rw [if_pos (by omega)];by_cases w:k<60;rotate_left
  ·rw [if_neg (by omega)];exact g (by omega)
  rw [if_pos (by omega),Ae h,Ai k (by omega)];have wx:=s.ed _ (aC h);obtain ⟨b,j⟩:=zti wx.cond;rw [j,A0];cases b with
  |false=>rw [Aw];exact no
  |true =>
  rw [Au];split
  ·exact no
  split
  ·exact no
  split
  ·exact no
  split
  ·exact no
  split
  ·exact no
  rename_i E D C B A;obtain ⟨ys,q,n⟩:=wx.checks;have o:ys.length<=1100000:=by have:=wx.lc;rw [q,aA] at this;exact this
  have v:=zvx a s K t m (k+1) (by omega) (by omega) (by omega) (fun x f=>by
   rw [take_succ_eq_append_getElem h] at f;rcases aQ.1 f with f|f
   ·exact p x f
   ·rw [aF.1 f];omega)
  exact zvw a (k:Int) _ ys q n o (FewA a) _ v N0 0 (aB _) (by unfold N0;omega)
theorem zvz (a:Aut)(g:WfA a)(P:Prop)(K:Option Bool)(f:∃ b:Bool,K=some b/\(b=true->P)):∀ (m k:Nat),k<=a.fStates.length->k<=30->30<m+k->∃ b:Bool,Im N0 a K m (k:Int)=some b/\(b=true->P)
 |0,k,h1,h2,p=>by omega
 |m+1,k,h1,h2,p=>by
  have no:∃ b:Bool,some false=some b/\(b=true->P):=⟨false,rfl,fun h=>by cases h⟩;unfold Im;simp only [aA,A4,B5,Ar,L7,Fw,Am,Au,Aw];by_cases h:k<a.fStates.length;rotate_left
  ·rw [if_neg (by omega)];exact f
  rw [if_pos (by omega)];by_cases o:k<30;rotate_left
  ·rw [if_neg (by omega)];exact f
  have j:=zvz a g P K f m (k+1) (by omega) (by omega) (by omega);obtain ⟨b,n⟩:=y7a _ (g.st _ (aC h));have hi:∀ Q:Stt->Option Bool,idx a.fStates (k:Int) Q=Q a.fStates[k]:=fun Q=>Ae h Q
  rw [if_pos (by omega),Ai k (by omega)];simp only [hi,n,A0];repeat' split;all_goals first|exact no|(cases b<;>first|(rw [Au];exact j)|(rw [Aw];exact no))|skip
theorem y7g (a:Aut)(f:WfA a):∃ b:Bool,Vc N0 a=some b/\(b=true->FewA a):=by
 unfold Vc;refine zvz a f (FewA a) _ ?_ N0 0 (aB _) (by omega) (by unfold N0;omega);refine zvx a f _ ?_ N0 0 (aB _) (by omega) (by unfold N0;omega) (by simp);simp only [B5,Ar,Lm,aA,A4];split
 ·exact ⟨_,rfl,fun h=>by simp at h;omega⟩
 ·exact ⟨_,rfl,fun h=>by cases h⟩
theorem zku (l:List Ev)(f:l.length<=1000000)(a:Aut)(K:List (Rf×Ev)->Option (Option B9×Int)):∀ (m k:Nat) (mp:List (Rf×Ev)),k<=l.length->l.length<m+k->Sa N0 l a K m ((k:Int),mp)=K ((l.drop k).foldl (fun m e=>mput m (Bl e) e) mp)
 |0,k,mp,h1,h2=>by omega
 |m+1,k,mp,h1,h2=>by
  unfold Sa;simp only [aA,A4];by_cases h:k<l.length
  ·have b:Jg N0 l[k]=some (Bl l[k]):=rfl;rw [if_pos (by omega),Ae h,b,A0,y64,B4 _ k h,bE,Ai k (by omega)];exact zku l f a K m (k+1) _ (by omega) (by omega)
  grind
theorem ztr (a:Aut)(p:WfA a)(l:List Ev)(g:l.length<=1000000):∃ q:Int,G6 N0 a l=some q/\((q≠0/\Gc N0 a l=some (none,q))\/(q=0/\AOk a/\y8w l/\Fz N0 a=some 0/\Dz l=0/\∃ mp,HM l mp/\Gc N0 a l=some (some ⟨a,mp⟩,0))):=by
 obtain ⟨r,o,n,j⟩:=zwc N0 (by decide) a p;unfold G6 Gc;rw [o,n,A0,A0,Am,A4,Am,A4];by_cases h:r=0;rotate_left
 ·simp_all
 rw [if_pos h,if_pos h,y5z N0 l (by unfold N0;omega) g,ya7 N0 l (by unfold N0;omega) (by decide) g,A0,A0,Am,A4];refine ⟨Dz l,rfl,?_⟩;by_cases f:Dz l=0;rotate_left
 ·simp_all
 rw [if_pos f];have b:=z8c f;refine Or.inr ⟨f,j h,b,by rw [h] ,f,l.foldl (fun m e=>mput m (Bl e) e) [],fun r=>?_,?_⟩
 ·rw [y1q r l [] b.st];simp [mlk]
 ·refine (zku l g a _ N0 0 [] (aB _) (by unfold N0;omega)).trans ?_;rw [aN]
theorem yat {held:List Ev}(p:CxA a held)(j:Str Ck held)(n:CB held a k c)(f:x∈a.fEdges)(s:e∈held)(h:coP a held c x e=some d)(q:0<=d.fState):CB held a (k+1) d:=by
 have o:=y2h p n f h;have m:=zgn h;have eo:=p.ok.ed x f;refine ⟨?_,?_,?_,o.1,o.2⟩
 ·rw [m] at q ⊢;exact ⟨q,eo.tgt.2⟩
 ·rw [m];intro b g;rcases aQ.1 g with g|g
  ·exact n.bd b g
  ·rw [aF.1 g];refine ⟨eo.var,?_⟩;rw [zmh j s];rfl
 ·rw [m];exact (y63 e.fTime x.fOpens n.ss).filter _
theorem CB.up {held:List Ev}(h:CB held a k c):CB held a (k+1) c:=⟨h.st,h.bd,h.ss,by have:=h.lb;omega,by have:=h.ls;omega⟩
theorem y7p {held:List Ev}(j:CxA a held)(f:Str Ck held)(g:CB held a k c)(m:e∈held)(h:d∈outP a held c e)(o:0<=d.fState):CB held a (k+1) d:=by
 unfold outP at h;rcases aQ.1 h with h|h
 ·split at h
  ·rw [aF.1 h];exact g.up
  ·simp at h
 ·obtain ⟨x,b,n⟩:=aY.1 h;exact yat j f g (Xb b).1 m n o
theorem y2p {held:List Ev}(h:d∈cfN a held l e):∃ c∈l,d∈outP a held c e/\0<=d.fState:=by
 unfold cfN at h;obtain ⟨c,h1,h2⟩:=aJ.1 ((Di cfCmp_to _ _).1 h);exact ⟨c,h1,zut h2⟩
theorem zxc {held:List Ev}(f:CxA a held)(b:Str Ck held)(j:∀ c∈l,CB held a k c)(g:e∈held):∀ d∈cfN a held l e,CB held a (k+1) d:=fun d h=>by
 obtain ⟨c,h1,h2,m⟩:=y2p h;exact y7p f b (j c h1) g h2 m
theorem y67 {held:List Ev}(f:CxA a held)(g:k<=1000)(h:∀ c∈l,CB held a k c)(e:Ev):∀ d∈maN a held l e,maOk d=true:=fun d b=>by
 unfold maN at b;obtain ⟨c,h1,h2⟩:=aJ.1 ((Di Cl _ _).1 b);exact y1j f g (h c h1) e d h2
theorem y7x {held:List Ev}(b:a.fEdges.length<=100)(l:List Cf)(e:Ev):(maN a held l e).length<=101*l.length:=by
 unfold maN;have f:=zgf (fun c=>maO (outP a held c e)) 101 l (fun c _=>by have:=Nt (outP a held c e);have:(outP a held c e).length<=a.fEdges.length+1:=So;omega);have:=zg5 (c:=B6) (l.flatMap (fun c=>maO (outP a held c e)));omega
theorem y73 (l s:List Ma)(b:Str B6 s)(f:Str B6 l):l.length<=(puts B6 s l).length:=by
 have:puts B6 s l=puts B6 l s:=Str.uniq Cl (zg7 Cl _ _ b) (zg7 Cl _ _ f) (fun x=>by rw [Ji Cl,Ji Cl,Or.comm]);rw [this];exact zpa s l
def wiP (most:Nat)(a:Aut)(held:List Ev):List Ev->List Cf->List Ma->List Cf×List Ma×Bool
 |[],cs,b=>(cs,b,true)
 |e::r,cs,b=>if most<(cfN a held cs e).length\/most<(puts B6 b (maN a held cs e)).length then ([],[],false) else wiP most a held r (cfN a held cs e) (puts B6 b (maN a held cs e))
theorem zfk {l:List Ev}(j:CxA a l)(g:Str Ck l)(f:a.fEdges.length<=100)(most:Nat)(hm:most<=4096)(p:1<=most)(w:l.length<=900) :
  ∀ (m k:Nat) (cs:List Cf) (b:List Ma),k<=l.length->l.length<m+k->cs.length<=most->b.length<=most->(∀ c∈cs,CB l a k c)->(∀ d∈b,maOk d=true)->I2 N0 (most:Int) l a (fun t s=>some (t,s,true)) m (cs,b,(k:Int))=some (wiP most a l (l.drop k) cs b)
 |0,k,cs,b,h1,h2,B,A,n,q=>by omega
 |m+1,k,cs,b,h1,h2,B,A,n,q=>by
  unfold I2;simp only [aA,A4];by_cases h:k<l.length
  ·have y:=aC h;have z:=y7x (held:=l) f cs l[k];have o:=y67 j (by omega) n l[k];rw [if_pos (by omega),Ae h,ybs j f (by omega) l[k] cs n (by omega),A0,B4 _ k h];have u:=fun K=>zpd (most:Int) l a (cs,b,(k:Int)) (cfN a l cs l[k],maN a l cs l[k]) o (by grind) K N0 0 b (aB _) (by show (maN a l cs l[k]).length<2000000000+0;omega) (by show b.length+((maN a l cs l[k]).length-0)<=1000000;omega) q
   refine (u _).trans ?_;rw [aN];simp only [B5,Ar,Kh,A4,Au];have v:=zfk j g f most hm p w m (k+1) (cfN a l cs l[k]) (puts B6 b (maN a l cs l[k])) (by omega) (by omega);unfold wiP;by_cases D:most<(cfN a l cs l[k]).length
   ·simp_all
   rw [if_neg (by omega)];by_cases C:most<(puts B6 b (maN a l cs l[k])).length
   ·simp_all
   rw [if_neg (by omega),if_neg (by omega),Ai k (by omega)];exact v (by omega) (by omega) (zxc j g n y) (zvf q o)
  ·rw [if_neg (by omega),aD (by omega)];rfl
theorem cb0 {l:List Ev}(g:AOk a):CB l a 0 cf0:=⟨⟨by simp,by have:=g.st;simp;omega⟩,fun b f=>by simp at f,by simp [SS],by simp,by simp⟩
theorem y0a {l:List Ev}(h:CxA a l)(b:Str Ck l)(g:a.fEdges.length<=100)(most:Nat)(hm:most<=4096)(f:1<=most)(j:l.length<=900):Ud N0 a l (most:Int)=some (wiP most a l l [cf0] []):=by
 unfold Ud;have n:Z9 N0=some cf0:=rfl;rw [n,A0];exact zfk h b g most hm f j N0 0 [cf0] [] (aB _) (by unfold N0;omega) (by simp;omega) (by simp) (fun c m=>by rw [aF.1 m];exact cb0 h.ok) (by simp)
theorem zvm {l:List Ev}(s:CxA r.fa l)(hm:HM l r.fheld)(g:Str Ck l)(n:r.fa.fEdges.length<=100)(B:l.length<=20)(K:List Cf->List Ma->Option (List Cf×List Ma×Int)) :
  ∀ (m k:Nat) (cs:List Cf) (all:List Ma),k<=l.length->l.length<m+k->cs.length<=150->all.length<=150*k->(∀ c∈cs,CB l r.fa k c)->(∀ d∈all,maOk d=true)->(wiP 150 r.fa l (l.drop k) cs (setL B6 all)).2.2=true ->
   ∃ f b,H9 N0 l r K m (cs,(k:Int),all)=K f b/\wiP 150 r.fa l (l.drop k) cs (setL B6 all)=(f,setL B6 b,true)/\(∀ d∈b,maOk d=true)/\b.length<=4096/\f.length<=150/\(setL B6 b).length<=max 150 (setL B6 all).length/\(∀ c∈f,CB l r.fa l.length c)
 |0,k,cs,all,h1,h2,w,E,p,v,j=>by omega
 |m+1,k,cs,all,h1,h2,w,E,p,v,j=>by
  unfold H9;simp only [aA,A4];by_cases h:k<l.length
  ·have u:=aC h;have t:∀ y∈l,Bl y=Bl l[k]->y=l[k]:=fun y z F=>by
    have I:=zmh g z;have H:=zmh g u;simp_all
   rw [B4 _ k h] at j ⊢;unfold wiP at j ⊢;have eM:puts B6 (setL B6 all) (maN r.fa l cs l[k])=setL B6 (all++maN r.fa l cs l[k]):=by unfold setL;rw [<-Ww]
   have D:=y73 (maN r.fa l cs l[k]) (setL B6 all) (Jh Cl _) (Jh Cl _);by_cases q:150<(cfN r.fa l cs l[k]).length\/150<(puts B6 (setL B6 all) (maN r.fa l cs l[k])).length
   ·rw [if_pos q] at j;cases j
   rw [if_neg q] at j ⊢;have o:=y67 s (by omega) p l[k];rw [if_pos (by omega),Ae h,zqb s hm (by omega) t n cs p (by omega),A0];have A:IntKind.wrap .i64 (((all.length:Nat):Int)+(((maN r.fa l cs l[k]).length:Nat):Int))=((all.length+(maN r.fa l cs l[k]).length:Nat):Int):=by rw [Cq _ (by omega)];omega
   simp only [B5,Ar,Jd,Au,A4];rw [if_neg (by omega),if_neg (by omega),A,if_neg (by omega),C1 (by omega) (by omega),Ai k (by omega)];rw [eM] at j ⊢;obtain ⟨f,b,Q,P,O,N,M,L,J⟩:=zvm s hm g n B K m (k+1) (cfN r.fa l cs l[k]) (all++maN r.fa l cs l[k]) (by omega) (by omega) (by omega) (by rw [aG];omega) (zxc s g p u) (fun d G=>by
    grind) j
   grind
  ·rw [if_neg (by omega)];have C:k=l.length:=by omega
   rw [aD (by omega)];exact ⟨cs,all,rfl,rfl,v,by omega,w,by omega,by rw [<-C];exact p⟩
theorem y09 (a:Aut)(g:WfA a)(l:List Ev):∃ b:Bool,Ql N0 a l=some b/\(b=true->FewA a/\l.length<=12/\∃ q:Int,G6 N0 a l=some q/\(q=0->(wiP 150 a l l [cf0] []).2.2=true)):=by
 obtain ⟨b,w,v⟩:=y7g a g;unfold Ql;simp only [B5,Ar,Kt];rw [w,A0,y9w N0 l (by decide),Am,A0];cases b with
 |false=>rw [Aw,Au];simp_all
 |true =>
  rw [Au];cases j:fewE l with
  |false=>simp only [Bool.not_false,Au];simp_all
  |true =>
   simp only [Bool.not_true,Aw];obtain ⟨y,_⟩:=y53 j;obtain ⟨q,p,o⟩:=ztr a g l (by omega);rw [p,A0,Am,A4];rcases o with ⟨h,_⟩|⟨h,t,s,_,_,_⟩
   ·simp_all
   ·have n:=v rfl;have f:CxA a l:=⟨g,t,fun x f=>by have:=n.2 x f;omega,by omega⟩;have m:=y0a f s.st (by have:=n.1;omega) 150 (by omega) (by omega) (by omega);have u:((150:Nat):Int)=150:=rfl;rw [u] at m;rw [if_pos h,m,A0];simp_all
variable {h1 h2:List Ev}
theorem zhu:∀ (l:List Bd) (vs:List (List Ev)),(∀ b∈l,lkH h1 b.fRef=lkH h2 b.fRef)->l.foldl (addB h1) vs=l.foldl (addB h2) vs
 |[],vs,_=>rfl
 |b::l,vs,h=>by
  rw [bE,bE];have:addB h1 vs b=addB h2 vs b:=by unfold addB;rw [h b (by simp)]
  rw [this];exact zhu l _ (fun x f=>h x (aH _ f))
theorem zi1 {l:List Bd}(h:∀ b∈l,lkH h1 b.fRef=lkH h2 b.fRef):enH h1 l=enH h2 l:=zhu l _ h
theorem y2i (h:∀ b∈c.fBindings,lkH h1 b.fRef=lkH h2 b.fRef)(x:Ed)(e:Ev):coP a h1 c x e=coP a h2 c x e:=by
 have g:enH (e::h1) (bdN c x e)=enH (e::h2) (bdN c x e):=zi1 (fun b f=>by
  unfold lkH;rw [find?_cons,find?_cons];by_cases q:Bl e=b.fRef
  ·simp [q]
  ·simp only [q,decide_false];rcases aQ.1 f with f|f
   ·exact h b f
   ·rw [aF.1 f] at q;exact absurd rfl q)
 unfold coP;rw [zi1 h,g]
theorem zkw (h:∀ b∈c.fBindings,lkH h1 b.fRef=lkH h2 b.fRef)(e:Ev):outP a h1 c e=outP a h2 c e:=by
 unfold outP skP;rw [zi1 h];congr 1;exact congrArg (fun f=>filterMap f (Fl a c.fState)) (funext fun x=>y2i h x e)
theorem zf1 {f g:α->List β}:∀ {l:List α},(∀ x∈l,f x=g x)->l.flatMap f=l.flatMap g
 |[],_=>rfl
 |x::l,h=>by rw [aL,aL,h x (by simp),zf1 (fun y b=>h y (aH _ b))]
theorem zeg (h:∀ c∈l,∀ b∈c.fBindings,lkH h1 b.fRef=lkH h2 b.fRef)(e:Ev):cfN a h1 l e=cfN a h2 l e:=by
 unfold cfN;rw [zf1 (fun c f=>by rw [zkw (h c f) e])]
theorem zqg (h:∀ c∈l,∀ b∈c.fBindings,lkH h1 b.fRef=lkH h2 b.fRef)(e:Ev):maN a h1 l e=maN a h2 l e:=by
 unfold maN;rw [zf1 (fun c f=>by rw [zkw (h c f) e])]
variable {more:List Ev}
theorem y7y {l:List Ev}(f:Str Ck more)(hm:∀ x∈l,x∈more){r:Rf}(h:(lkH l r).isSome=true):lkH l r=lkH more r:=by
 obtain ⟨y,b⟩:=aV.1 h;obtain ⟨h1,h2⟩:=zmg b;have:=zmh f (hm y h2);rw [h1] at this;rw [b,this]
theorem y8s {l:List Ev}(f:Str Ck more)(hm:∀ x∈l,x∈more){cs:List Cf}(g:∀ c∈cs,CB l a k c):∀ c∈cs,∀ b∈c.fBindings,lkH l b.fRef=lkH more b.fRef:=fun c h b j=>y7y f hm ((g c h).bd b j).2
theorem zv3 {l:List Ev}(g:CxA a l)(b:Str Ck l)(h:Str Ck more)(hm:∀ x∈l,x∈more):∀ (r:List Ev) (k:Nat) (cs:List Cf) (f:List Ma),(∀ e∈r,e∈l)->(∀ c∈cs,CB l a k c)->wiP 150 a l r cs f=wiP 150 a more r cs f
 |[],k,cs,f,_,_=>rfl
 |e::r,k,cs,f,j,m=>by
  have q:=y8s h hm m;unfold wiP;rw [zeg q,zqg q];split
  ·rfl
  ·refine zv3 g b h hm r (k+1) _ _ (fun x g=>j x (aH _ g)) ?_;rw [<-zeg q];exact zxc g b m (j e (by simp))
theorem y0g (a b:Rf):N9 N0 a b=some (rCmp a b):=by
 have:N9 (1999999996+4) a b=some (rCmp a b):=by
  unfold N9;simp only [A0,O2,y55];rfl
 exact this
structure CIv (a:Aut) (rest:List Ev) (c:Cf):Prop where
 asc:c.fBindings.Pairwise (fun x y=>rCmp x.fRef y.fRef<0)
 bef:∀ b∈c.fBindings,∀ e∈rest,rCmp b.fRef (Bl e)<0
 scp:∀ s∈c.fStarts,(0<=s.fScope/\s.fScope<a.fScopes)/\0<=s.fTime/\s.fTime<=1099511627776
theorem CIv.tail {r:List Ev}(h:CIv a (e::r) c):CIv a r c:=⟨h.asc,fun b g x f=>h.bef b g x (aH _ f),h.scp⟩
theorem yas (w:AOk a){held:List Ev}{r:List Ev}(m:Str Ck (e::r))(j:Co e=true)(h:CIv a (e::r) c)(t:x∈a.fEdges)(v:coP a held c x e=some d):CIv a r d:=by
 rw [zgn v];obtain ⟨o,z⟩:=pairwise_cons.1 m;refine ⟨?_,fun b f y g=>?_,fun s u=>?_⟩
 ·show Pairwise _ (bdN c x e);unfold bdN;rw [pairwise_append];exact ⟨h.asc,pairwise_singleton _ _,fun b f y g=>by rw [aF.1 g];exact h.bef b f e (by simp)⟩
 ·rcases aQ.1 f with f|f
  ·exact h.bef b f y (aH _ g)
  ·rw [aF.1 f];exact o y g
 ·have n:=(bC.1 u).1;rcases opL_mem e.fTime x.fOpens n with ⟨q,p⟩|k
  ·refine ⟨(w.ed x t).opn _ q,?_⟩;rw [p];unfold Co at j;simp only [Bool.and_eq_true,decide_eq_true_eq] at j;exact ⟨j.1,j.2.1⟩
  ·exact h.scp s k
theorem y7o (m:AOk a){held:List Ev}{r:List Ev}(f:Str Ck (e::r))(j:Co e=true)(h:CIv a (e::r) c)(b:d∈outP a held c e):CIv a r d:=by
 unfold outP at b;rcases aQ.1 b with b|b
 ·split at b
  ·rw [aF.1 b];exact h.tail
  ·simp at b
 ·obtain ⟨x,g,b⟩:=aY.1 b;exact yas m f j h (Xb g).1 b
theorem yaw (j:AOk a){held:List Ev}{r:List Ev}(b:Str Ck (e::r))(f:Co e=true){cs:List Cf}(h:∀ c∈cs,CIv a (e::r) c):∀ d∈cfN a held cs e,CIv a r d:=fun d g=>by
 obtain ⟨c,h1,h2,_⟩:=y2p g;exact y7o j b f (h c h1) h2
theorem zv2 {held:List Ev}:∀ (p:List Ev) (cs:List Cf) (b:List Ma),(wiP 150 a held (p++[e]) cs b).2.2=true->∃ x m,wiP 150 a held p cs b=(x,m,true)/\wiP 150 a held (p++[e]) cs b=(cfN a held x e,puts B6 m (maN a held x e),true)/\(cfN a held x e).length<=150/\(puts B6 m (maN a held x e)).length<=150
 |[],cs,b,h=>by
  refine ⟨cs,b,rfl,?_⟩;rw [bD] at h ⊢;unfold wiP at h ⊢;split at h
  ·cases h
  ·rename_i q;rw [if_neg q];exact ⟨rfl,by omega,by omega⟩
 |f::p,cs,b,h=>by
  rw [bB] at h ⊢;unfold wiP at h ⊢;split at h
  ·cases h
  ·rename_i q;rw [if_neg q,if_neg q];exact zv2 p _ _ h
theorem zkr (r:B9)(c:Cf)(j:c.fStarts.length<=1000000)(f:∀ s∈c.fStarts,(0<=s.fScope/\s.fScope<r.fa.fScopes)/\0<=s.fTime/\s.fTime<=1099511627776)(g:SS c.fStarts):∀ (m k:Nat),k<=c.fStarts.length->c.fStarts.length<m+k->Ei N0 c r (some 0) m (k:Int)=some 0
 |0,k,h1,h2=>by omega
 |m+1,k,h1,h2=>by
  unfold Ei;simp only [aA,A4,B5,Ar,Fx,Ie,Au,Aw];by_cases h:k<c.fStarts.length
  ·obtain ⟨⟨q,p⟩,o,n⟩:=f _ (aC h);have b:=zkr r c j f g m (k+1) (by omega) (by omega);rw [if_pos (by omega),Ae h,if_neg (by omega),if_neg (by omega),if_neg (by omega),if_neg (by omega),Ai k (by omega)];by_cases t:0<k
   ·have:=aK.1 g (k-1) k (by omega) h (by omega);rw [if_pos (by omega),Ju k (by omega) (by omega),Ae (by omega:k-1<c.fStarts.length),if_neg (by omega)];exact b
   ·rw [if_neg (by omega)];exact b
  ·rw [if_neg (by omega)]
theorem zks (r:B9)(held:List Ev)(hm:HM held r.fheld)(c:Cf)(o:c.fBindings.length<=1000000)(f:BdOk held r.fa.fVars c.fBindings)(g:c.fBindings.Pairwise (fun x y=>rCmp x.fRef y.fRef<0))(K:Option Int)(j:K=some 0):∀ (m k:Nat),k<=c.fBindings.length->c.fBindings.length<m+k->Fy N0 c r K m (k:Int)=some 0
 |0,k,h1,h2=>by omega
 |m+1,k,h1,h2=>by
  unfold Fy;simp only [aA,A4,B5,Ar,Ic,Ib,Au,Aw,Am];by_cases h:k<c.fBindings.length
  ·obtain ⟨⟨t,s⟩,n⟩:=f _ (aC h);have b:=zks r held hm c o f g K j m (k+1) (by omega) (by omega);have q:(⟨c.fBindings[k].fRef.fTime,c.fBindings[k].fRef.fSource,c.fBindings[k].fRef.fSeq⟩:Rf)=c.fBindings[k].fRef:=rfl;rw [if_pos (by omega),Ae h,q,zwm,hm,n];simp only [Au];rw [if_neg (by omega),if_neg (by omega),Ai k (by omega)];by_cases u:0<k
   ·have:=aK.1 g (k-1) k (by omega) h (by omega);have p:(⟨c.fBindings[k-1].fRef.fTime,c.fBindings[k-1].fRef.fSource,c.fBindings[k-1].fRef.fSeq⟩:Rf)=c.fBindings[k-1].fRef:=rfl;rw [if_pos (by omega),Ju k (by omega) (by omega),Ae (by omega:k-1<c.fBindings.length),p,y0g,A0,if_neg (by omega)];exact b
   ·rw [if_neg (by omega)];exact b
  ·rw [if_neg (by omega)];exact j
theorem y4b {held:List Ev}(hm:HM held r.fheld)(g:k<=1000)(f:CB held r.fa k c){b:List Ev}(hi:CIv r.fa b c):F8 N0 r c=some 0:=by
 have h1:=f.lb;have h2:=f.ls;have h:=f.st;unfold F8;simp only [B5,Ar,Iq,A4,Au,aA];rw [if_neg (by omega),if_neg (by omega),if_neg (by omega)];have:=zkr r c (by omega) hi.scp f.ss N0 0 (aB _) (by unfold N0;omega);exact zks r held hm c (by omega) f.bd hi.asc _ this N0 0 (aB _) (by unfold N0;omega)
theorem y9n (e:Ev):Wq N0 e=some (Co e):=by
 unfold Wq Co
 simp only [B5,Ar,Fa,A4]
 repeat' split
 all_goals (simp_all<;>omega)
theorem y9v {r:List Ev}(m:Co e=true)(l:List Cf)(s:l.length<=1000000)(o:∀ c∈l,c.fBindings.length<=1000000)(h:∀ c∈l,CIv a (e::r) c):Na N0 l e=some 0:=by
 unfold Na;rw [y9n,m,A0,Am,Au];rw [zy4 N0 e (fun _=>false) l (by omega) (by unfold N0;omega) (fun c g=>by
  have n:=o c g;unfold N3 zc9;rw [zy3 N0 e (fun b=>decide (0<=rCmp b.fRef (Bl e))) c.fBindings (by omega) (by unfold N0;omega) (fun b _=>by
   unfold N2;have j:Jg N0 e=some (Bl e):=rfl;rw [j,A0];have q:(⟨b.fRef.fTime,b.fRef.fSource,b.fRef.fSeq⟩:Rf)=b.fRef:=rfl;have p:(⟨(Bl e).fTime,(Bl e).fSource,(Bl e).fSeq⟩:Rf)=Bl e:=rfl;simp only [q,p,y0g,A0]),A0,A0]
  congr 1;rw [any_eq_false];intro b f;have:=(h c g).bef b f e (by simp);simp only [decide_eq_true_eq];omega),A0]
 have:(l.any fun _=>false)=false:=by rw [any_eq_false];simp
 rw [this,Aw]
theorem zwa (e:Ev)(l:List Cf)(f:l.length<=1000000)(h:∀ c∈l,F8 N0 r c=some 0)(K:Int->Int->List Dh->List Ag->List (Bp×A8)->Option (List Cf×List Ma×Int)):∀ (m k:Nat),k<=l.length->l.length<m+k->S3 N0 e l r K m (k:Int)=K r.fa.fVars r.fa.fScopes r.fa.fStates r.fa.fEdges r.fheld
 |0,k,h1,h2=>by omega
 |m+1,k,h1,h2=>by
  unfold S3;simp only [aA,A4,Am];by_cases b:k<l.length
  ·rw [if_pos (by omega),Ae b,h _ (aC b),A0,if_pos rfl,Ai k (by omega)];exact zwa e l f h K m (k+1) (by omega) (by omega)
  ·rw [if_neg (by omega)]
theorem y2n:∀ (l p r:List Ev),chk p (l++r)=0->chk p l=0
 |[],p,r,_=>by unfold chk;rfl
 |e::l,p,r,h=>by
  rw [bB] at h;unfold chk at h ⊢;split at h
  ·cases h
  split at h
  ·cases h
  split at h
  ·cases h
  rename_i h1 h2 b;rw [if_neg h1,if_neg h2,if_neg b];exact y2n l (e::p) r h
theorem zxj {l r:List Ev}(h:Dz (l++r)=0):Dz l=0:=by
 unfold Dz at h ⊢;split at h
 ·cases h
 ·rename_i q;rw [aG] at q;rw [if_neg (by omega)];exact y2n l [] r h
structure GS (a:Aut) (l:List Ev):Prop where
 wf:WfA a
 few:FewA a
 ok:AOk a
 chk:Fz N0 a=some 0
 acheck:Ek N0 a=some 0
 str:Dz l=0
 len:l.length<=12
 sm:(wiP 150 a l l [cf0] []).2.2=true
theorem GS.so {l:List Ev}(h:GS a l):y8w l:=z8c h.str
theorem GS.cx {l:List Ev}(h:GS a l):CxA a l:=⟨h.wf,h.ok,fun x b=>by have:=h.few.2 x b;omega,by have:=h.len;omega⟩
theorem GS.pre {l:List Ev}(h:GS a l)(i:Nat):Dz (l.take i)=0:=by
 have:=h.str;rw [<-aR i l] at this;exact zxj this
theorem GS.cxp {l:List Ev}(h:GS a l)(i:Nat):CxA a (l.take i):=⟨h.wf,h.ok,fun x b=>by have:=h.few.2 x b;omega,by have:=h.len;rw [aU];omega⟩
theorem GS.edges {l:List Ev}(h:GS a l):a.fEdges.length<=100:=by have:=h.few.1;omega
theorem GS.begin {l:List Ev}(h:GS a l)(i:Nat):∃ mp,HM (l.take i) mp/\Gc N0 a (l.take i)=some (some ⟨a,mp⟩,0):=by
 have j:=h.len;obtain ⟨q,b,f⟩:=ztr a h.wf (l.take i) (by rw [aU];omega);have g:q=0:=by
  unfold G6 at b;rw [h.chk,A0,Am,A4,if_pos rfl,y5z N0 _ (by grind) (by rw [aU];omega),A0,h.pre i] at b;exact (Option.some.inj b).symm
 simp_all
theorem zqa {l:List Ev}(h:GS a l)(i:Nat):M9 N0 a (l.take i)=some 0:=by
 have b:=h.len;unfold M9;rw [h.acheck,A0,Am,A4,if_pos rfl,ya7 N0 _ (by grind) (by decide) (by rw [aU];omega),A0,h.pre i]
structure Gd57 (a:Aut) (l:List Ev) (i:Nat) (c:Cf):Prop where
 cb:CB l a (i+20) c
 ci:CIv a (l.drop i) c
theorem CB.mono {l:List Ev}{m:Nat}(h:CB l a k c)(b:k<=m):CB l a m c:=⟨h.st,h.bd,h.ss,aT h.lb b,aT h.ls (Nat.mul_le_mul_left _ b)⟩
theorem gd0 {l:List Ev}(h:GS a l):Gd57 a l 0 cf0:=⟨(cb0 h.ok).mono (aB _),by simp,fun b g=>by simp at g,fun s f=>by simp at f⟩
variable {i:Nat}
theorem Gd57.held {l:List Ev}(h:GS a l)(f:Gd57 a l i c):CB (l.take i) a (i+20) c:=by
 refine ⟨f.cb.st,fun b g=>⟨(f.cb.bd b g).1,?_⟩,f.cb.ss,f.cb.lb,f.cb.ls⟩;have h1:=(f.cb.bd b g).2;rw [<-aR i l,y1l] at h1;cases j:lkH (l.take i) b.fRef with
 |some e=>rfl
 |none =>
  rw [j] at h1;obtain ⟨e,m⟩:=aV.1 h1;obtain ⟨o,n⟩:=zmg (by simpa using m);have:=f.ci.bef b g e n;rw [o] at this;have:=Nr.lt_ne this;exact absurd rfl this
theorem Gd57.ok {l:List Ev}(h:GS a l)(hi:i<=12)(b:Gd57 a l i c):cfOk c=true:=b.cb.sz.ok (by omega)
theorem Gd57.cs {l:List Ev}(h:GS a l)(hi:i<=12)(b:Gd57 a l i c):CS (Be a) c:=by
 have h1:=b.cb.st;have h2:=b.cb.lb;have f:=b.cb.ls;exact ⟨by rw [(zgo a).1.len];exact h1,by omega,by omega⟩
theorem y8k {l:List Ev}(hi:i<l.length):l.drop i=l[i]::l.drop (i+1):=aE hi
theorem y3n {l:List Ev}(h:Str Ck l)(i:Nat):Str Ck (l.drop i):=Pairwise.sublist (drop_sublist i l) h
theorem Gd57.next {l:List Ev}(h:GS a l)(hi:i<l.length){cs:List Cf}(j:∀ c∈cs,Gd57 a l i c):∀ d∈cfN a l cs l[i],Gd57 a l (i+1) d:=fun d g=>by
 have so:=h.so;have e:=y8k hi;refine ⟨(zxc h.cx so.st (fun c b=>(j c b).cb) (aC hi) d g).mono (by omega),?_⟩;have f:=y3n so.st i;rw [e] at f;refine yaw h.ok f (so.pl _ (aC hi)) (fun c b=>?_) d g;have:=(j c b).ci;rw [e] at this;exact this
theorem Gd57.lk {l:List Ev}(h:GS a l){cs:List Cf}(j:∀ c∈cs,Gd57 a l i c):∀ c∈cs,∀ b∈c.fBindings,lkH (l.take i) b.fRef=lkH l b.fRef :=
 y8s h.so.st (fun y g=>mem_of_mem_take g) (fun c f=>(j c f).held h)
theorem ybu {l:List Ev}(h:GS a l)(hi:i<l.length):∀ y∈l.take i,Bl y=Bl l[i]->y=l[i]:=fun y g f=>by
 have b:=h.so.st;obtain ⟨j,m,rfl⟩:=mem_iff_getElem.1 g;rw [aU] at m;rw [getElem_take] at f;have:=aK.1 b j i (by omega) hi (by omega);exact absurd f (Nr.lt_ne this)
variable {mp:List (Rf×Ev)}
theorem y61 {l:List Ev}(h:GS a l)(hi:i<l.length)(hm:HM (l.take i) mp){cs:List Cf}(g:∀ c∈cs,Gd57 a l i c)(m:cs.length<=5000):Iw N0 ⟨a,mp⟩ cs l[i]=some (cfN a l cs l[i],maN a l cs l[i]):=by
 have j:=h.len;have b:=zqb (r:=⟨a,mp⟩) (h.cxp i) hm (by omega:i+20<=1000) (ybu h hi) h.edges cs (fun c f=>(g c f).held h) m;rw [zeg (Gd57.lk h g),zqg (Gd57.lk h g)] at b;exact b
theorem zeu {l:List Ev}(h:GS a l)(hi:i<=l.length)(hm:HM (l.take i) mp)(b:Gd57 a l i c):F8 N0 ⟨a,mp⟩ c=some 0 :=
 y4b (r:=⟨a,mp⟩) hm (by have:=h.len;omega:i+20<=1000) (b.held h) b.ci
theorem zvv {l:List Ev}(h:GS a l)(hi:i<l.length){cs:List Cf}(f:∀ c∈cs,Gd57 a l i c)(j:cs.length<=5000):Na N0 cs l[i]=some 0:=by
 have g:=h.len;refine y9v (a:=a) (r:=l.drop (i+1)) (h.so.pl _ (aC hi)) cs (by omega) (fun c b=>by have:=(f c b).cb.lb;omega) (fun c b=>?_);have:=(f c b).ci;simp_all
theorem y7n {l:List Ev}(h:GS a l)(hi:i<l.length){cs:List Cf}(f:∀ c∈cs,Gd57 a l i c)(m:cs.length<=4000)(h1:(cfN a l cs l[i]).length<=4096)(h2:(maN a l cs l[i]).length<=4096):Sf N0 a (l.take i) cs l[i]=some (cfN a l cs l[i],maN a l cs l[i],0):=by
 obtain ⟨mp,hm,j⟩:=h.begin i;unfold Sf bndP;rw [j];simp only [Am,A4,aA];rw [if_pos trivial,if_neg (by omega)];have g:=fun K=>zwa (r:=⟨a,mp⟩) l[i] cs (by omega) (fun c b=>zeu h (by omega) hm (f c b)) K N0 0 (aB _) (by unfold N0;omega)
 refine (g _).trans ?_;rw [zvv h hi f (by omega),A0,if_pos rfl];have eta:(⟨⟨a.fVars,a.fScopes,a.fStates,a.fEdges⟩,mp⟩:B9)=⟨a,mp⟩:=rfl;simp only [eta,y61 h hi hm f (by omega),A0,B5,Ar,Ml,Au,A4];grind
theorem y46 {l:List Ev}(h:GS a l)(hi:i<l.length)(f:Gd57 a l i c):X6 N0 a (l.take i) c l[i]=some (cfN a l [c] l[i],maN a l [c] l[i],0):=by
 obtain ⟨mp,hm,g⟩:=h.begin i;have b:∀ d∈[c],Gd57 a l i d:=fun d j=>by simp_all
 unfold X6 bndP;rw [g];simp only [Am,A4];rw [if_pos trivial,zeu h (by omega) hm f,A0,if_pos rfl,zvv h hi b (by simp),A0,if_pos rfl,y61 h hi hm b (by simp),A0]
theorem zph {l:List Ev}(h:GS a l)(hi:i<=l.length)(b:Gd57 a l i c):N6 N0 a (l.take i) c=some 0:=by
 obtain ⟨mp,hm,f⟩:=h.begin i;unfold N6 bndP;rw [f];simp only [Am,A4];rw [if_pos trivial,zeu h hi hm b,A0]
theorem zw0 (a b:List Sta)(g:a.length=b.length)(j:a.length<=1000000):∀ (m k:Nat),k<=a.length->a.length<m+k->Qh N0 b a (some true) m (k:Int)=some (decide (a.drop k=b.drop k))
 |0,k,h1,h2=>by omega
 |m+1,k,h1,h2=>by
  unfold Qh;have e:∀ x y:Sta,(decide (x.fScope=y.fScope) && (decide (x.fTime=y.fTime) && true))=decide (x=y):=fun x y=>by
   obtain ⟨v,t⟩:=x;obtain ⟨v',n⟩:=y;simp
  simp only [aA,A4,e];by_cases h:k<a.length
  ·have f:k<b.length:=by omega
   rw [if_pos (by omega),Ae h,Ae f,aE h,aE f,Ai k (by omega)];have o:=zw0 a b g j m (k+1) (by omega) (by omega);rw [Am,A4];by_cases e:a[k]=b[k]
   ·have q:(a[k]::a.drop (k+1)=b[k]::b.drop (k+1)) ↔ a.drop (k+1)=b.drop (k+1):=⟨fun h=>(List.cons.inj h).2,fun h=>by rw [e,h]⟩;simp_all
   ·have q:¬(a[k]::a.drop (k+1)=b[k]::b.drop (k+1)):=fun h=>e (List.cons.inj h).1
    rw [if_neg e,decide_eq_false q]
  grind
theorem ybo (a b:List Sta)(f:a.length<=1000000):Vg N0 a b=some (decide (a=b)):=by
 unfold Vg;simp only [aA,Am,A4];by_cases h:a.length=b.length
 ·rw [if_pos (by omega)];have:=zw0 a b h f N0 0 (aB _) (by unfold N0;omega);simpa using this
 ·rw [if_neg (by omega)];have:a≠b:=fun e=>h (by rw [e])
  simp [this]
theorem zm1 (c d:Cf)(h1:c.fBindings.length<=1000000)(h2:c.fStarts.length<=1000000):W6 N0 c d=some (decide (c=d)):=by
 unfold W6;simp only [B5,Ar,J0,A4,ya1 _ _ h1,ybo _ _ h2,A0];obtain ⟨s,b,t⟩:=c;obtain ⟨g,h,f⟩:=d;simp only [A1.mk.injEq];grind
theorem y0z (c d:Cf)(h1:c.fBindings.length<=1000000)(h2:c.fStarts.length<=1000000)(n:d.fBindings.length<=1000000)(m:d.fStarts.length<=1000000):∃ v:Int,V3 N0 c d=some v/\(v<0 ↔ Bi c d<0):=by
 have oc:cfOk c=true:=(Ee c).2 ⟨by omega,by omega⟩;have od:cfOk d=true:=(Ee d).2 ⟨by omega,by omega⟩;unfold V3;rw [y9m N0 (by decide) [c,d] (fun x o=>by
  grind) (by simp),A0]
 have key:∀ s:List Cf,Str Bi s->(∀ x,x∈s ↔ x∈[c,d])->setL Bi [c,d]=s:=fun s g hm=>(zzn cfCmp_to (fun x=>(hm x).symm)).trans (zsw cfCmp_to g)
 rcases cfCmp_to.one c d with h|heq|j
 ·have e:=key [c,d] (by simp [Str];omega) (fun x=>Iff.rfl);rw [e];simp only [bA,length_nil,B5,Ar,Gv,A4,Am,aA,Au,Aw,Nk,zm1 c c h1 h2,A0];refine ⟨-1,?_,by omega⟩;simp [Au,Aw,Nk,zm1 c c h1 h2,A0]
 ·have f:=(cfCmp_to.zero c d).1 heq;subst f;have e:=key [c] (by simp [Str]) (fun x=>by simp);rw [e];refine ⟨0,?_,by omega⟩;simp [B5,Ar,Gv,A4,Au,Aw]
 ·have p:=cfCmp_to.neg c d;have e:=key [d,c] (by simp [Str];omega) (fun x=>by simp [or_comm]);rw [e];have b:¬d=c:=fun q=>by
   simp_all
  refine ⟨1,?_,by omega⟩;simp [B5,Ar,Gv,A4,Au,Aw,Nk,zm1 d c n m,A0,b]
theorem zq9 {n:Nat}{l:List α}(h:l.length<=1000000000):C4 n l=some l:=by unfold C4;exact if_pos h
theorem zvs (f:l.length<=1000000)(b:∀ c∈l,c.fBindings.length<=1000000/\c.fStarts.length<=1000000)(K:List Cf->Option (List Cf)):∀ (m k:Nat) (out:List Cf),k<=l.length->l.length<m+k->out.length<=k->R8 N0 l K m ((k:Int),out)=K (out++l.drop k)
 |0,k,out,h1,h2,_=>by omega
 |m+1,k,out,h1,h2,n=>by
  unfold R8;simp only [aA,A4];by_cases h:k<l.length
  ·have j:=b _ (aC h);have g:(⟨l[k].fState,l[k].fBindings,l[k].fStarts⟩:Cf)=l[k]:=rfl;rw [if_pos (by omega),Ae h,zq9 (by omega),A0,zq9 (by omega),A0,aE h,Ai k (by omega),g,C1 (by simp;omega) (by omega),zvs f b K m (k+1) _ (by omega) (by omega) (by simp;omega)];simp
  grind
theorem ybj (f:l.length<=1000000)(b:∀ c∈l,c.fBindings.length<=1000000/\c.fStarts.length<=1000000):Wa N0 l=some l:=by
 unfold Wa;have:=zvs f b (fun y=>some y) N0 0 [] (aB _) (by unfold N0;omega) (by simp);simpa using this
def covd (R:List Mp)(l:List Cf)(d:Cf):Bool:=l.any (fun c=>cov R c d)
variable {R:List Mp}
theorem y0s (j:l.length<=1000000)(b:∀ c∈l,CS R c)(f:CS R d):∀ (m k:Nat),k<=l.length->l.length<m+k->∃ y:Int,Ka N0 d R l (some (-1)) m (k:Int)=some y/\(0<=y ↔ covd R (l.drop k) d=true)
 |0,k,h1,h2=>by omega
 |m+1,k,h1,h2=>by
  unfold Ka Yu;simp only [aA,A4];by_cases h:k<l.length
  ·obtain ⟨y,n,g⟩:=y0s j b f m (k+1) (by omega) (by omega);rw [if_pos (by omega),Ae h,y7j (b _ (aC h)) f,A0,A0,aE h,Ai k (by omega)];unfold covd at g ⊢;rw [any_cons];cases o:cov R l[k] d
   ·rw [Aw];simp_all
   ·rw [Au];exact ⟨k,rfl,by simp⟩
  ·rw [if_neg (by omega),aD (by omega)];exact ⟨-1,rfl,by simp [covd]⟩
theorem zq7 (g:l.length<=1000000)(f:∀ c∈l,CS R c)(h:CS R d):Qw N0 l d R=some (covd R l d):=by
 obtain ⟨y,b,j⟩:=y0s g f h N0 0 (aB _) (by unfold N0;omega);unfold Qw Y9 Ys;have e:Ka N0 d R l (some (-1)) N0 0=some y:=by simpa using b
 rw [e,A0,A0];simp_all
variable {S:List (List Cf)}
theorem y0r (hi:i+1<S.length)(f:i<=1000)(j:S[i+1].length<=1000000)(b:∀ c∈S[i+1],CS R c)(n:l.length<=1000000)(g:∀ c∈l,CS R c):∀ (m k:Nat),k<=l.length->l.length<m+k->∃ y:Int,K9 N0 (i:Int) ⟨S⟩ R l (some (-1)) m (k:Int)=some y/\(y<0 ↔ (l.drop k).all (covd R S[i+1])=true)
 |0,k,h1,h2=>by omega
 |m+1,k,h1,h2=>by
  unfold K9 Zc;simp only [aA,A4];by_cases h:k<l.length
  ·obtain ⟨y,p,o⟩:=y0r hi f j b n g m (k+1) (by omega) (by omega);rw [if_pos (by omega),Ae h,Ai i (by omega),Ae hi,zq7 j b (g _ (aC h)),A0,A0,aE h,Ai k (by omega),all_cons];cases q:covd R S[i+1] l[k]
   ·rw [show (!false)=true from rfl,Au];exact ⟨k,rfl,by simp⟩
   ·rw [show (!true)=false from rfl,Aw];simp_all
  ·rw [if_neg (by omega),aD (by omega)];exact ⟨-1,rfl,by simp⟩
theorem y0y (hi:i+1<S.length)(b:i<=1000)(m:S[i+1].length<=1000000)(f:∀ c∈S[i+1],CS R c)(j:l.length<=1000000)(h:∀ c∈l,CS R c):Tn N0 l R ⟨S⟩ (i:Int)=some (!l.all (covd R S[i+1])):=by
 obtain ⟨y,g,n⟩:=y0r hi b m f j h N0 0 (aB _) (by unfold N0;omega);unfold Tn Yr;have e:K9 N0 (i:Int) ⟨S⟩ R l (some (-1)) N0 0=some y:=by simpa using g
 rw [e,A0];grind
theorem y8r (a:Aut)(held:List Ev)(c:Cf)(e:Ev):(cfN a held [c] e).length<=a.fEdges.length+1:=by
 unfold cfN;refine aT (zg5 _) ?_;have:=So (a:=a) (held:=held) (c:=c) (e:=e);have h2:(cfO (outP a held c e)).length<=(outP a held c e).length:=by unfold cfO;exact aP _ _
 simp;omega
noncomputable def okC (a:Aut)(l:List Ev)(S:List (List Cf))(i:Nat)(e:Ev)(c:Cf):Bool:=(maN a l [c] e).isEmpty && (cfN a l [c] e).all (covd (Be a) (S.getD (i+1) []))
noncomputable def vOk (a:Aut)(l:List Ev)(S:List (List Cf)):List Ev->Nat->Bool |[],_=>true |e::r,i=>(S.getD i []).all (okC a l S i e) && vOk a l S r (i+1)
theorem zg3 (a:Aut)(l:List Ev)(S:List (List Cf))(e:Ev)(r:List Ev)(i:Nat):vOk a l S (e::r) i=((S.getD i []).all (okC a l S i e) && vOk a l S r (i+1)):=rfl
structure Eu (a:Aut) (l:List Ev) (S:List (List Cf)):Prop where
 ln:S.length=l.length+1
 few:∀ i (hi:i<S.length),S[i].length<=4096
 gd:∀ i (hi:i<S.length),∀ c∈S[i],Gd57 a l i c
theorem Eu.cs {l:List Ev}(h:GS a l)(b:Eu a l S)(hi:i<S.length):∀ c∈S[i],CS (Be a) c:=fun c f=>(b.gd i hi c f).cs h (by have:=b.ln;have:=h.len;omega)
theorem zvi {l:List Ev}(h:GS a l)(j:Eu a l S)(hi:i<l.length)(g:i<S.length)(K:Option Int):∀ (m k:Nat),k<=S[i].length->S[i].length<m+k->Gx N0 ⟨S⟩ l a (Be a,(i:Int)) l[i] S[i] K m (k:Int)=if (S[i].drop k).all (okC a l S i l[i])=true then K else some 18
 |0,k,h1,h2=>by omega
 |m+1,k,h1,h2=>by
  have z:=j.few i g;have v:=h.len;have u:=j.ln;unfold Gx;simp only [aA,A4,Am,B5,Ar,Iu];by_cases s:k<S[i].length
  ·have y:=j.gd i g _ (aC s);have p:∀ (K:List Ev->Option Int),sls l 0 (i:Int) K=K (l.take i):=fun K=>by
    have:=Dk (l:=l) (a:=0) (b:=i) (aB _) (by omega) K;simpa using this
   rw [if_pos (by omega),Ae s,p,y46 h hi y,A0,if_pos rfl,aE s,all_cons,Ai k (by omega)];have t:=zvi h j hi g K m (k+1) (by omega) (by omega);have w:S.getD (i+1) []=S[i+1]'(by omega):=by rw [aO,aS (by omega)];rfl
   have q:=Gd57.next h hi (cs:=[S[i][k]]) (fun c n=>by simp_all);by_cases hm:maN a l [S[i][k]] l[i]=[]
   ·have o:=y0y (R:=Be a) (S:=S) (l:=cfN a l [S[i][k]] l[i]) (i:=i) (by omega) (by omega) (by have:=j.few (i+1) (by omega);omega) (j.cs h (by omega)) (by have:=y8r a l S[i][k] l[i];have:=h.edges;omega) (fun c n=>(q c n).cs h (by omega));have f:okC a l S i l[i] S[i][k]=(cfN a l [S[i][k]] l[i]).all (covd (Be a) (S[i+1]'(by omega))):=by unfold okC;rw [hm,w];simp
    rw [hm,if_neg (by simp),o,A0,f];cases A:(cfN a l [S[i][k]] l[i]).all (covd (Be a) (S[i+1]'(by omega)))
    ·rw [show (!false)=true from rfl,Au];simp
    ·rw [show (!true)=false from rfl,Aw,Bool.true_and];exact t
   ·have f:okC a l S i l[i] S[i][k]=false:=by
     unfold okC;rw [isEmpty_eq_false_iff.2 hm];rfl
    have:0<(maN a l [S[i][k]] l[i]).length:=length_pos_iff.2 hm;rw [if_pos (by simp_all),Au,f,if_neg (by simp)]
  grind
theorem zvj {l:List Ev}(h:GS a l)(f:Eu a l S):∀ (m i:Nat),i<=l.length->l.length<m+i->Ir N0 ⟨S⟩ l a (some 0) m (Be a,(i:Int))=if vOk a l S (l.drop i) i=true then some 0 else some 18
 |0,i,h1,h2=>by omega
 |m+1,i,h1,h2=>by
  have n:=h.len;have j:=f.ln;unfold Ir;simp only [aA,A4];by_cases hi:i<l.length
  ·have b:i<S.length:=by omega
   have p:=f.few i b;rw [if_pos (by omega),Ae hi,Ae b,Ai i (by omega)];have g:=zvi h f hi b (Ir N0 ⟨S⟩ l a (some 0) m (Be a,((i+1:Nat):Int))) N0 0 (aB _) (by unfold N0;omega);refine (g).trans ?_;have o:S.getD i []=S[i]:=by rw [aO,aS b];rfl
   rw [zvj h f m (i+1) (by omega) (by omega),aN,aE hi];rw [zg3,o];grind
  ·rw [if_neg (by omega),aD (by omega)];rfl
theorem zq0 {l:List Ev}(h:GS a l)(g:Eu a l S)(f:i<S.length)(n:Str Bi S[i])(K:Option Int):∀ (m k:Nat),k<=S[i].length->S[i].length<m+k->Dn N0 ⟨S⟩ l a (i:Int) S[i] K m (k:Int)=K
 |0,k,h1,h2=>by omega
 |m+1,k,h1,h2=>by
  have G:=g.few i f;have B:=h.len;have A:=g.ln;unfold Dn;simp only [aA,A4,Am,B5,Ar,J2];by_cases q:k<S[i].length
  ·have C:=g.gd i f _ (aC q);have s:∀ (K:List Ev->Option Int),sls l 0 (i:Int) K=K (l.take i):=fun K=>by
    have:=Dk (l:=l) (a:=0) (b:=i) (aB _) (by omega) K;simpa using this
   have w:=zq0 h g f n K m (k+1) (by omega) (by omega);rw [if_pos (by omega),Ae q,s,zph h (by omega) C,A0,if_pos rfl,Ai k (by omega)];by_cases D:k=0
   ·subst D;rw [if_neg (by simp),Aw];exact w
   ·obtain ⟨j,rfl⟩:∃ j,k=j+1:=⟨k-1,by omega⟩;have u:j<S[i].length:=by omega
    have p:=(g.cs h f) _ (aC u);have o:=(g.cs h f) _ (aC q);have E:IntKind.wrap .i64 (((j+1:Nat):Int)-1)=(j:Int):=by rw [Cq _ (by omega)];omega
    obtain ⟨v,z,y⟩:=y0z S[i][j] S[i][j+1] p.lb p.ls o.lb o.ls;have t:Bi S[i][j] S[i][j+1]<0:=aK.1 n j (j+1) u q (by omega);have F:=y.2 t;rw [if_pos (by omega),E,Ae u,z,A0,if_neg (by omega)];exact w
  ·rw [if_neg (by omega)]
theorem zq1 {l:List Ev}(h:GS a l)(f:Eu a l S)(b:∀ i (hi:i<S.length),Str Bi S[i]):∀ (m i:Nat),i<=S.length->S.length<m+i->J1 N0 ⟨S⟩ l a (some 0) m (i:Int)=some 0
 |0,i,h1,h2=>by omega
 |m+1,i,h1,h2=>by
  have j:=h.len;have g:=f.ln;unfold J1;simp only [aA,A4];by_cases hi:i<S.length
  ·have n:=f.few i hi;rw [if_pos (by omega),Ae hi,if_neg (by omega),Ai i (by omega),zq1 h f b m (i+1) (by omega) (by omega)];exact zq0 h f hi (b i hi) _ N0 0 (aB _) (by unfold N0;omega)
  ·rw [if_neg (by omega)]
theorem y9u {l:List Ev}(h:GS a l)(f:Eu a l S)(b:∀ i (hi:i<S.length),Str Bi S[i]):J7 N0 a l ⟨S⟩=some 0:=by
 have j:=h.len;have g:=f.ln;unfold J7;simp only [aA,A4,Am];rw [Ai l.length (by omega),if_pos (by omega)];exact zq1 h f b N0 0 (aB _) (by unfold N0;omega)
theorem cs0 {l:List Ev}(h:GS a l):CS (Be a) cf0:=(gd0 h).cs h (by omega)
theorem zvh {l:List Ev}(h:GS a l)(f:Eu a l S)(v:J7 N0 a l ⟨S⟩=some 0):F9 N0 a l ⟨S⟩=some (if (covd (Be a) (S.getD 0 []) cf0 && vOk a l S l 0)=true then 0 else 18):=by
 have s:=h.len;have p:=f.ln;have g:0<S.length:=by omega
 have t:S.getD 0 []=S[0]:=by rw [aO,aS g];rfl
 have b:=zqa h l.length;rw [take_length] at b;have q:Ix N0 a=some (Be a):=by
  unfold Ix;rw [zkk h.wf h.ok (fun x o=>(h.wf.ed x o).lc),A0]
 have m:∀ (K:List Cf->Option Int),idx S 0 K=K S[0]:=fun K=>by
  have:=Ae (l:=S) (i:=0) g K;simpa using this
 have n:=zvj h f N0 0 (aB _) (by unfold N0;omega);have j:Ir N0 ⟨S⟩ l a (some 0) N0 (Be a,0)=if vOk a l S l 0=true then some 0 else some 18:=by simpa using n
 unfold F9;have u:=f.few 0 g;have w:He N0=some cf0:=rfl;rw [b,A0,Am,A4,if_pos rfl,v,A0,Am,A4,if_pos rfl,q,Cn,T9,T9,Ar,m,w,A0,zq7 (by omega) (f.cs h g) (cs0 h),A0,j,t];cases covd (Be a) S[0] cf0
 ·rw [show (!false)=true from rfl,Au];simp
 ·rw [show (!true)=false from rfl,Aw];cases vOk a l S l 0<;>simp
theorem y1d {α:Type}[DecidableEq α]:∀ {l m:List α},l.Nodup->(∀ x∈l,x∈m)->l.length<=m.length
 |[],m,_,_=>by simp
 |x::r,m,h1,h2=>by
  have f:=h2 x (by simp);have g:=nodup_cons.1 h1;have h:=y1d (m:=m.erase x) g.2 (fun y b=>(mem_erase_of_ne (fun e=>g.1 (by rw [<-e];exact b))).2 (h2 y (aH _ b)));rw [length_erase_of_mem f] at h;have:0<m.length:=length_pos_of_mem f;simp only [bA];omega
theorem y2r (l:List α)(k:List α->Option β):bldS l k=k l:=rfl
theorem yax (l:List α)(k:List α->Option β):bld l k=k l:=rfl
theorem y5t {c:α->α->Int}(h:TO c){l:List α}(f:Str c l):l.Nodup:=by
 refine Pairwise.imp (fun {x y} b e=>?_) f;subst e;have:=(h.zero x x).2 rfl;omega
theorem y5p {held:List Ev}:∀ (p r:List Ev) (cs:List Cf) (b:List Ma),(wiP 150 a held (p++r) cs b).2.2=true->(wiP 150 a held p cs b).2.2=true
 |[],r,cs,b,h=>rfl
 |f::p,r,cs,b,h=>by
  rw [bB] at h;unfold wiP at h ⊢;split at h
  ·cases h
  ·rename_i q;rw [if_neg q];exact y5p p r _ _ h
noncomputable def xsI (a:Aut)(l:List Ev)(i:Nat):List Cf:=(wiP 150 a l (l.take i) [cf0] []).1
noncomputable def msI (a:Aut)(l:List Ev)(i:Nat):List Ma:=(wiP 150 a l (l.take i) [cf0] []).2.1
theorem y3i {l:List Ev}(h:GS a l)(i:Nat):wiP 150 a l (l.take i) [cf0] []=(xsI a l i,msI a l i,true):=by
 have h1:=h.sm;rw [<-aR i l] at h1;have h2:=y5p (l.take i) (l.drop i) [cf0] [] (by rw [aR] at h1 ⊢;exact h1);unfold xsI msI;rw [<-h2]
theorem Ss (a:Aut)(l:List Ev):xsI a l 0=[cf0]/\msI a l 0=[]:=by unfold xsI msI;rw [take_zero];exact ⟨rfl,rfl⟩
theorem Jl {l:List Ev}(h:GS a l)(hi:i<l.length):xsI a l (i+1)=cfN a l (xsI a l i) l[i]/\msI a l (i+1)=puts B6 (msI a l i) (maN a l (xsI a l i) l[i])/\(xsI a l (i+1)).length<=150/\(msI a l (i+1)).length<=150:=by
 have e:l.take (i+1)=l.take i++[l[i]]:=by rw [take_append_getElem]
 have h1:=y3i h (i+1);rw [e] at h1;obtain ⟨x,m,p,g,n,f⟩:=zv2 (l.take i) [cf0] [] (by rw [h1]);rw [y3i h i] at p;injection p with w1 j
 injection j with j _
 rw [<-w1] at g n f;rw [<-j] at g f;rw [h1] at g;injection g with o b
 injection b with b _
 rw [<-o] at n;rw [<-b] at f;exact ⟨o,b,n,f⟩
theorem y92 {l:List Ev}(h:GS a l)(hi:i<=l.length):(xsI a l i).length<=150:=by
 cases i with
 |zero=>rw [(Ss a l).1];simp
 |succ i=>exact (Jl h (by omega)).2.2.1
theorem y6q {l:List Ev}(h:GS a l):∀ {i:Nat},i<=l.length->∀ c∈xsI a l i,Gd57 a l i c
 |0,hi=>fun c b=>by
  rw [(Ss a l).1] at b;rw [aF.1 b];exact gd0 h
 |i+1,hi=>fun c b=>by
  rw [(Jl h (by omega)).1] at b;exact Gd57.next h (by omega) (y6q h (by omega)) c b
theorem zxb {held:List Ev}{cs xs:List Cf}(h:∀ c∈cs,c∈xs)(e:Ev):∀ d∈cfN a held cs e,d∈cfN a held xs e:=fun d b=>by
 unfold cfN at b ⊢;rw [Di cfCmp_to,aJ] at b ⊢;obtain ⟨c,h1,h2⟩:=b;exact ⟨c,h c h1,h2⟩
theorem zme {held:List Ev}{cs xs:List Cf}(h:∀ c∈cs,c∈xs)(e:Ev):∀ d∈maN a held cs e,d∈maN a held xs e:=fun d b=>by
 unfold maN at b ⊢;rw [Di Cl,aJ] at b ⊢;obtain ⟨c,h1,h2⟩:=b;exact ⟨c,h c h1,h2⟩
structure Sb (a:Aut) (l:List Ev) (i:Nat) (cs:List Cf):Prop where
 sub:∀ c∈cs,c∈xsI a l i
 str:Str Bi cs
theorem Sb.len {l:List Ev}(h:GS a l)(hi:i<=l.length){cs:List Cf}(b:Sb a l i cs):cs.length<=150 :=
 aT (y1d (y5t cfCmp_to b.str) b.sub) (y92 h hi)
theorem Sb.gd {l:List Ev}(h:GS a l)(hi:i<=l.length){cs:List Cf}(f:Sb a l i cs):∀ c∈cs,Gd57 a l i c:=fun c b=>y6q h hi c (f.sub c b)
theorem Sb.next {l:List Ev}(h:GS a l)(hi:i<l.length){cs:List Cf}(b:Sb a l i cs):Sb a l (i+1) (cfN a l cs l[i]) :=
 ⟨by rw [(Jl h hi).1];exact zxb b.sub _,Jh cfCmp_to _⟩
theorem Sb.ma {l:List Ev}(h:GS a l)(hi:i<l.length){cs:List Cf}(f:Sb a l i cs):(∀ d∈maN a l cs l[i],d∈msI a l (i+1))/\(maN a l cs l[i]).length<=150:=by
 have h1:∀ d∈maN a l cs l[i],d∈msI a l (i+1):=fun d b=>by
  rw [(Jl h hi).2.1,Ji Cl];exact Or.inr (zme f.sub _ d b)
 exact ⟨h1,aT (y1d (y5t Cl (Jh Cl _)) h1) (Jl h hi).2.2.2⟩
theorem Sb.adv {l:List Ev}(h:GS a l)(hi:i<l.length){cs:List Cf}(b:Sb a l i cs):Sf N0 a (l.take i) cs l[i]=some (cfN a l cs l[i],maN a l cs l[i],0) :=
 y7n h hi (b.gd h (by omega)) (by have:=b.len h (by omega);omega) (by have:=(b.next h hi).len h (by omega);omega) (by have:=(b.ma h hi).2;omega)
theorem Sb.red {l:List Ev}{cs:List Cf}(b:Sb a l i cs)(R:List Mp):Sb a l i (redP R cs) :=
 ⟨fun c h=>b.sub c ((zvc R cs).subset h),Pairwise.sublist (zvc R cs) b.str⟩
noncomputable def bS (f:List Cf->List Cf)(a:Aut)(l:List Ev):List Ev->List Cf->List (List Cf)->List (List Cf)×Int
 |[],_,acc=>(acc,0)
 |e::r,cs,acc=>if maN a l cs e=[] then bS f a l r (f (cfN a l cs e)) (acc++[f (cfN a l cs e)]) else ([],22)
theorem y2u (f:List Cf->List Cf)(a:Aut)(l:List Ev)(e:Ev)(r:List Ev)(cs:List Cf)(acc:List (List Cf)):bS f a l (e::r) cs acc=if maN a l cs e=[] then bS f a l r (f (cfN a l cs e)) (acc++[f (cfN a l cs e)]) else ([],22):=rfl
theorem Sb.sizes {l:List Ev}(h:GS a l)(hi:i<=l.length){cs:List Cf}(f:Sb a l i cs):∀ c∈cs,c.fBindings.length<=1000000/\c.fStarts.length<=1000000:=fun c b=>by
 have:=(f.gd h hi c b).cs h (by have:=h.len;omega);exact ⟨this.lb,this.ls⟩
theorem zkj {l:List Ev}(h:GS a l):∀ (m i:Nat) (cs:List Cf) (out:List (List Cf)),i<=l.length->l.length<m+i->(t:out.length=i+1)->out[i]=cs->Sb a l i cs->P5 N0 (Be a) l a (fun y=>some (y,0)) m ((i:Int),out)=some (bS (redP (Be a)) a l (l.drop i) cs out)
 |0,i,cs,out,h1,h2,_,_,_=>by omega
 |m+1,i,cs,out,h1,h2,s,q,o=>by
  have p:=h.len;unfold P5;simp only [aA,A4,Am];by_cases hi:i<l.length
  ·have f:∀ (K:List Ev->Option (List (List Cf)×Int)),sls l 0 (i:Int) K=K (l.take i):=fun K=>by
    have:=Dk (l:=l) (a:=0) (b:=i) (aB _) (by omega) K;simpa using this
   have j:=o.next h hi;have g:=j.red (Be a);rw [if_pos (by omega),Ae hi,f,Cv (by omega),Dc (by omega),q,o.adv h hi,A0,if_pos rfl,aE hi,y2u,Ai i (by omega)];by_cases hm:maN a l cs l[i]=[]
   ·rw [if_neg (by rw [hm];simp),if_pos hm];unfold Zd;rw [ybi (by have:=j.len h (by omega);omega) (fun c n=>(j.gd h (by omega) c n).cs h (by omega)),A0,ybj (by have:=g.len h (by omega);omega) (g.sizes h (by omega)),A0,A0];rw [y2r,C1 (by simp;omega) (by omega)];exact zkj h m (i+1) (redP (Be a) (cfN a l cs l[i])) _ (by omega) (by omega) (by simp;omega) (by rw [getElem_append_right (by omega)];simp [s]) g
   ·have:0<(maN a l cs l[i]).length:=length_pos_iff.2 hm;rw [if_pos (by show (0:Int)<((maN a l cs l[i]).length:Int);omega),if_neg hm]
  ·rw [if_neg (by omega),aD (by omega)];rfl
theorem sb0 (a:Aut)(l:List Ev):Sb a l 0 [cf0]:=⟨fun c b=>by rw [(Ss a l).1];exact b,by simp [Str]⟩
theorem y77 {l:List Ev}(h:GS a l):Uk N0 a l (Be a)=some (bS (redP (Be a)) a l l [cf0] [[cf0]]):=by
 have:=zkj h N0 0 [cf0] [[cf0]] (aB _) (by have:=h.len;unfold N0;omega) rfl rfl (sb0 a l);unfold Uk;have b:He N0=some cf0:=rfl;rw [b,A0,y2r,yax];simpa using this
end Go.Proofs.YthbogefcfhmpgaaGreat
