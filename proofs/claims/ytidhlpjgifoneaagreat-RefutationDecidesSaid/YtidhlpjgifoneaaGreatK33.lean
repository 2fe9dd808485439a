/- Layer 25, plainly. -/
import Derived.Test.YtidhlpjgifoneaaGreatK31
set_option linter.unusedVariables false
set_option linter.unusedSimpArgs false
namespace Go.Proofs.YtidhlpjgifoneaaGreat
open Go.RowKit List
def cfO (l:List Cf):List Cf:=l.filter (fun d=>!decide (d.fState<0))
def maO (l:List Cf):List Ma:=(l.filter (fun d=>decide (d.fState<0))).map (fun d=>⟨d.fBindings⟩)
def zxt (a:Aut)(s:Int):List Ed:=a.fEdges.filter (fun x=>decide (x.fFrom=s))
def skP (a:Aut)(held:List Ev)(c:Cf)(e:Ev):Bool:=!(zwf a c.fState).any (vio (enH held c.fBindings) e)
def outP (a:Aut)(held:List Ev)(c:Cf)(e:Ev):List Cf:=(if skP a held c e=true then [c] else [])++(zxt a c.fState).filterMap (fun x=>coP a held c x e)
theorem y3o (d:Cf)(l:List Cf):cfO (d::l)=if d.fState<0 then cfO l else d::cfO l:=by
 unfold cfO;grind
theorem y25 (d:Cf)(l:List Cf):maO (d::l)=if d.fState<0 then (⟨d.fBindings⟩:Ma)::maO l else maO l:=by
 unfold maO;grind
theorem y3p (l m:List Cf):cfO (l++m)=cfO l++cfO m:=by unfold cfO;rw [filter_append]
theorem y26 (l m:List Cf):maO (l++m)=maO l++maO m:=by unfold maO;simp_all
theorem zut (l:List Cf):(cfO l).length<=l.length:=length_filter_le _ _
theorem zsi (l:List Cf):(maO l).length<=l.length:=by unfold maO;grind
variable {l:List Cf}{d:Cf}
theorem yhg (h:d∈cfO l):d∈l/\0<=d.fState:=by
 have:=mem_filter.1 h
 exact ⟨this.1,by simpa using this.2⟩
theorem ymc {m:Ma}(h:m∈maO l):∃ d∈l,m=⟨d.fBindings⟩:=by
 obtain ⟨d,hd,rfl⟩:=mem_map.1 h
 grind
def Sz (k:Nat)(c:Cf):Prop:=c.fBindings.length<=k/\c.fStarts.length<=100*k
variable {k:Nat}{c:Cf}
theorem Sz.ok (hk:k<=1001)(h:Sz k c):cfOk c=true:=(zge c).2 ⟨by have:=h.1;omega,by have:=h.2;omega⟩
variable {a:Aut}{held:List Ev}{x:Ed}{e:Ev}
theorem y3j (h:coP a held c x e=some d):d=⟨x.fTo,bdN c x e,(stN c x e).filter (ncl x)⟩:=by
 unfold coP at h
 simp_all
theorem yh8 (hx:CxA a held)(hc:CB held a k c)(hxe:x∈a.fEdges)(h:coP a held c x e=some d):Sz (k+1) d:=by
 rw [y3j h]
 have h1:=hc.lb
 have h2:=hc.ls
 have h3:=hx.lo x hxe
 have h4:=y22 e.fTime x.fOpens c.fStarts
 have h5:=length_filter_le (ncl x) (stN c x e)
 refine ⟨by unfold bdN;simp;omega,?_⟩
 unfold stN at h5 ⊢
 simp only
 omega
theorem CB.sz (h:CB held a k c):Sz k c:=⟨h.lb,h.ls⟩
theorem zti {s:Int}(h:x∈zxt a s):x∈a.fEdges/\x.fFrom=s:=by
 have:=mem_filter.1 h
 exact ⟨this.1,by simpa using this.2⟩
theorem yg2 (hx:CxA a held)(hc:CB held a k c)(h:d∈outP a held c e):Sz (k+1) d:=by
 unfold outP at h
 rcases mem_append.1 h with h|h
 ·split at h
  ·rw [mem_singleton.1 h]
   have:=hc.sz
   exact ⟨by have:=this.1;omega,by have:=this.2;omega⟩
  ·simp at h
 ·obtain ⟨x,hx',hd⟩:=mem_filterMap.1 h
  exact yh8 hx hc (zti hx').1 hd
theorem zr2:(outP a held c e).length<=a.fEdges.length+1:=by
 unfold outP zxt
 grind
theorem y99 (hk:k<=1001)(h:Sz k c):maOk ⟨c.fBindings⟩=true:=(zga _).2 (by have:=h.1;simp;omega)
theorem y09 (e:Ev)(env:List (List Ev))(hs:EvS env)(st:Stt)(hg:st.fGuards.length<=1100000)(hw:∀ g∈st.fGuards,WfE g.fCond):∀ (m k:Nat),k<=st.fGuards.length->st.fGuards.length<m+k->z7b N0 e ⟨env⟩ st (some true) m (k:Int)=some (!(st.fGuards.drop k).any (vio env e))
 |0,k,h1,h2=>by omega
 |m+1,k,h1,h2=>by
  unfold z7b
  simp only [length_map,z0d]
  by_cases h:k<st.fGuards.length
  ·rw [if_pos (by omega),z0k h,z0e _ k h,any_cons,yfd hs (hw _ (getElem_mem h)),z04,z1o k (by omega),y09 e env hs st hg hw m (k+1) (by omega) (by omega)]
   cases vio env e st.fGuards[k]<;>simp [z67,z68]
  grind
theorem yix (hx:CxA a held)(hk:k<=1000)(hc:CB held a k c)(e:Ev):zbi N0 a held c e=some (skP a held c e):=by
 have hlb:=hc.lb
 have hlh:=hx.lh
 obtain ⟨st,g1,g2,g3⟩:=zte hc.st
 unfold zbi skP
 rw [yfh N0 (by decide) held (by omega) c (by omega),z04,zwe hc.st.1 g1,g3]
 have:=y09 e (enH held c.fBindings) (zun (by omega)) st (hx.wf.st st g2).1 (hx.wf.st st g2).2 N0 0 (Nat.zero_le _) (by have:=(hx.wf.st st g2).1;unfold N0;omega)
 simp_all
theorem zxi (s:Int)(a:Aut)(hl:a.fEdges.length<=1000000)(K:List Ed->Option (List Ed)):∀ (m k:Nat) (out:List Ed),k<=a.fEdges.length->a.fEdges.length<m+k->out.length<=k->z5s N0 s a K m ((k:Int),out)=K (out++(a.fEdges.drop k).filter (fun x=>decide (x.fFrom=s)))
 |0,k,out,h1,h2,h3=>by omega
 |m+1,k,out,h1,h2,h3=>by
  unfold z5s
  simp only [length_map,z0d]
  by_cases h:k<a.fEdges.length
  ·have i1:=zxi s a hl K m (k+1) (out++[a.fEdges[k]]) (by omega) (by omega) (by simp_all)
   have i2:=zxi s a hl K m (k+1) out (by omega) (by omega) (by omega)
   rw [if_pos (by omega),z1d,z0k h,z0k h,z0e _ k h,z1o k (by omega),zau (by grind) (by omega),i1,i2,filter_cons]
   grind
  ·rw [if_neg (by omega),drop_eq_nil_of_le (by omega)]
   simp
theorem yo5 (s:Int)(a:Aut)(hl:a.fEdges.length<=1000000):zc0 N0 a s=some (zxt a s):=by
 have:=zxi s a hl (fun y=>some y) N0 0 [] (Nat.zero_le _) (by unfold N0;omega) (by simp)
 unfold zc0 zxt
 exact this
variable {kk:Nat}
theorem zwa (hx:CxA a held)(hk:kk<=1000)(hc:CB held a kk c)(e:Ev)(es:List Ed)(hes:∀ x∈es,x∈a.fEdges)(hl:es.length<=100000)(K:List Cf->List Ma->Option (List Cf×List Ma)) :
  ∀ (m k:Nat) (cs:List Cf) (ms:List Ma),k<=es.length->es.length<m+k->cs.length<=k+1->ms.length<=k->(∀ d∈cs,cfOk d=true)->(∀ d∈ms,maOk d=true)->z4h N0 e c held a es K m (cs,ms,(k:Int))=K (puts zbq cs (cfO ((es.drop k).filterMap (fun x=>coP a held c x e)))) (puts z7t ms (maO ((es.drop k).filterMap (fun x=>coP a held c x e))))
 |0,k,cs,ms,h1,h2,h3,h4,h5,h6=>by omega
 |m+1,k,cs,ms,h1,h2,h3,h4,h5,h6=>by
  unfold z4h
  simp only [length_map,z0d,z0w]
  by_cases h:k<es.length
  ·have hxe:=hes _ (getElem_mem h)
   have hcon:=ydj hx hk hc hxe e
   rw [if_pos (by omega),z0k h,z0e _ k h,filterMap_cons,z1o k (by omega)]
   cases hco:coP a held c es[k] e with
   |none =>
    have hcon':z5r N0 a held c es[k] e=some (cf0,false):=hcon.trans (by rw [hco];rfl)
    rw [hcon',z04]
    simp only [z68]
    exact zwa hx hk hc e es hes hl K m (k+1) cs ms (by omega) (by omega) (by omega) (by omega) h5 h6
   |some d =>
    have hd:=yh8 hx hc hxe hco
    have hcon':z5r N0 a held c es[k] e=some (d,true):=hcon.trans (by rw [hco];rfl)
    rw [hcon',z04]
    simp only [z67,z1d]
    rw [y3o,y25]
    by_cases hs:d.fState<0
    ·rw [if_pos hs,if_pos hs,if_pos hs,yfo N0 (by decide) _ (y99 (by omega) hd) ms h6 (by omega),z04,zh6]
     have hil:=znr z7t (⟨d.fBindings⟩:Ma) ms
     exact zwa hx hk hc e es hes hl K m (k+1) cs _ (by omega) (by omega) (by omega) (by omega) h5 (y2e (y99 (by omega) hd) h6)
    ·rw [if_neg hs,if_neg hs,if_neg hs,yfp N0 (by decide) _ (hd.ok (by omega)) cs h5 (by omega),z04,zh6]
     have hil:=znr zbq d cs
     exact zwa hx hk hc e es hes hl K m (k+1) _ ms (by omega) (by omega) (by omega) (by omega) (yc8 (hd.ok (by omega)) h5) h6
  ·rw [if_neg (by omega),drop_eq_nil_of_le (by omega)]
   rfl
theorem ypv (hx:CxA a held)(hle:a.fEdges.length<=100000)(hk:kk<=1000)(hc:CB held a kk c)(e:Ev):zcy N0 a held c e=some (setL zbq (cfO (outP a held c e)),setL z7t (maO (outP a held c e))):=by
 have hfl:(zxt a c.fState).length<=100000:=by
  have:=length_filter_le (fun x:Ed=>decide (x.fFrom=c.fState)) a.fEdges
  unfold zxt;omega
 have l1:=fun cs h3 h5=>zwa hx hk hc e (zxt a c.fState) (fun x h=>(zti h).1) hfl (fun k1_1_0y0 k1_1_0y1=>some (k1_1_0y0,k1_1_0y1)) N0 0 cs [] (Nat.zero_le _) (by unfold N0;omega) h3 (by simp) h5 (by simp)
 have hns:¬c.fState<0:=by have:=hc.st;omega
 unfold zcy
 simp only [z29,z1d,z6q]
 rw [yix hx hk hc e,z04,yo5 _ a (by omega)]
 simp only [z04]
 unfold outP setL
 rw [y3p,y26,ziz,ziz]
 cases skP a held c e with
 |true =>
  have hput:=yfp N0 (by decide) c (hc.sz.ok (by omega)) [] (by simp) (by simp)
  rw [z67,hput,z04]
  have:=l1 (insU zbq c []) (by simp [insU]) (by simp [insU];exact hc.sz.ok (by omega))
  refine this.trans ?_
  have e1:puts zbq [] (cfO (if true=true then [c] else []))=insU zbq c []:=by
   rw [if_pos rfl,y3o,if_neg hns];rfl
  have e2:puts z7t [] (maO (if true=true then [c] else []))=[]:=by
   rw [if_pos rfl,y25,if_neg hns];rfl
  rw [e1,e2]
  rfl
 |false =>
  rw [z68]
  refine (l1 [] (by simp) (by simp)).trans ?_
  rfl
theorem ybs (e:Ev)(l:List Cf)(held:List Ev)(a:Aut)(v:List Cf×List Ma×Int)(x:List Cf×List Ma)(hok:∀ d∈x.1,cfOk d=true)(hl:x.1.length<=100000)(K:List Cf->List Ma->Option (List Cf×List Ma)):∀ (m k:Nat) (cs:List Cf),k<=x.1.length->x.1.length<m+k->cs.length+(x.1.length-k)<=1000000->(∀ d∈cs,cfOk d=true)->z8w N0 e l held a v x K m (cs,(k:Int))=K (puts zbq cs (x.1.drop k)) x.2
 |0,k,cs,h1,h2,h3,h4=>by omega
 |m+1,k,cs,h1,h2,h3,h4=>by
  unfold z8w
  simp only [length_map,z0d]
  by_cases h:k<x.1.length
  ·have ho:=hok _ (getElem_mem h)
   have hil:=znr zbq x.1[k] cs
   rw [if_pos (by omega),z0k h,yfp N0 (by decide) _ ho cs h4 (by omega),z04,z0e _ k h,zh6,z1o k (by omega)]
   exact ybs e l held a v x hok hl K m (k+1) _ (by omega) (by omega) (by omega) (yc8 ho h4)
  ·rw [if_neg (by omega),drop_eq_nil_of_le (by omega)]
   rfl
theorem ybr (e:Ev)(l:List Cf)(held:List Ev)(a:Aut)(v:List Cf×List Ma×Int)(y0:List Cf)(x:List Ma)(hok:∀ d∈x,maOk d=true)(hl:x.length<=100000)(K:List Ma->Option (List Cf×List Ma)):∀ (m k:Nat) (cs:List Ma),k<=x.length->x.length<m+k->cs.length+(x.length-k)<=1000000->(∀ d∈cs,maOk d=true)->z8v N0 e l held a v y0 x K m (cs,(k:Int))=K (puts z7t cs (x.drop k))
 |0,k,cs,h1,h2,h3,h4=>by omega
 |m+1,k,cs,h1,h2,h3,h4=>by
  unfold z8v
  simp only [length_map,z0d]
  by_cases h:k<x.length
  ·have ho:=hok _ (getElem_mem h)
   have hil:=znr z7t x[k] cs
   have hp:=yfo N0 (by decide) x[k] ho cs h4 (by omega)
   rw [if_pos (by omega),z0k h,z0e _ k h,zh6,z1o k (by omega),hp,z04]
   exact ybr e l held a v y0 x hok hl K m (k+1) _ (by omega) (by omega) (by omega) (y2e ho h4)
  ·rw [if_neg (by omega),drop_eq_nil_of_le (by omega)]
   rfl
theorem y53 (most:Int)(l:List Ev)(a:Aut)(v:List Cf×List Ma×Int)(x:List Cf×List Ma)(hok:∀ d∈x.2,maOk d=true)(hl:x.2.length<=1000000)(K:List Ma->List Cf->Option (List Cf×List Ma×Bool)):∀ (m k:Nat) (cs:List Ma),k<=x.2.length->x.2.length<m+k->cs.length+(x.2.length-k)<=1000000->(∀ d∈cs,maOk d=true)->z69 N0 most l a v x K m (cs,(k:Int))=K (puts z7t cs (x.2.drop k)) x.1
 |0,k,cs,h1,h2,h3,h4=>by omega
 |m+1,k,cs,h1,h2,h3,h4=>by
  unfold z69
  simp only [length_map,z0d]
  by_cases h:k<x.2.length
  ·have ho:=hok _ (getElem_mem h)
   have hil:=znr z7t x.2[k] cs
   have hp:=yfo N0 (by decide) x.2[k] ho cs h4 (by omega)
   rw [if_pos (by omega),z0k h,z0e _ k h,zh6,z1o k (by omega),hp,z04]
   exact y53 most l a v x hok hl K m (k+1) _ (by omega) (by omega) (by omega) (y2e ho h4)
  ·rw [if_neg (by omega),drop_eq_nil_of_le (by omega)]
   rfl
theorem yeq {l:List Ma}(h:∀ x∈l,maOk x=true):∀ x∈setL z7t l,maOk x=true:=fun x hx=>h x ((zgv zar x l).1 hx)
theorem yl1 (hx:CxA a held)(hk:kk<=1000)(hc:CB held a kk c)(e:Ev):∀ d∈cfO (outP a held c e),cfOk d=true:=fun d hd=>(yg2 hx hc (yhg hd).1).ok (by omega)
theorem ygk (hx:CxA a held)(hk:kk<=1000)(hc:CB held a kk c)(e:Ev):∀ d∈maO (outP a held c e),maOk d=true:=fun d hd=>by
 obtain ⟨q,hq,rfl⟩:=ymc hd
 exact y99 (by omega) (yg2 hx hc hq)
theorem ybt (hx:CxA a held)(hle:a.fEdges.length<=100)(hk:kk<=1000)(e:Ev)(l:List Cf)(hc:∀ c∈l,CB held a kk c)(hl:l.length<=5000)(K:List Cf->List Ma->Option (List Cf×List Ma)) :
  ∀ (m k:Nat) (cs:List Cf) (ms:List Ma),k<=l.length->l.length<m+k->cs.length<=101*k->ms.length<=101*k->(∀ d∈cs,cfOk d=true)->(∀ d∈ms,maOk d=true)->z8x N0 e l held a K m (cs,ms,(k:Int))=K (puts zbq cs ((l.drop k).flatMap (fun c=>setL zbq (cfO (outP a held c e))))) (puts z7t ms ((l.drop k).flatMap (fun c=>setL z7t (maO (outP a held c e)))))
 |0,k,cs,ms,h1,h2,h3,h4,h5,h6=>by omega
 |m+1,k,cs,ms,h1,h2,h3,h4,h5,h6=>by
  unfold z8x
  simp only [length_map,z0d]
  by_cases h:k<l.length
  ·have hck:=hc _ (getElem_mem h)
   have z1:=zw5 (c:=zbq) (cfO (outP a held l[k] e))
   have z2:=zw5 (c:=z7t) (maO (outP a held l[k] e))
   have z3:=zut (outP a held l[k] e)
   have z4:=zsi (outP a held l[k] e)
   have z5:(outP a held l[k] e).length<=a.fEdges.length+1:=zr2
   have o1:=yl8 (yl1 hx hk hck e)
   have o2:=yeq (ygk hx hk hck e)
   have p1:=zw8 (c:=zbq) (setL zbq (cfO (outP a held l[k] e))) cs
   have p2:=zw8 (c:=z7t) (setL z7t (maO (outP a held l[k] e))) ms
   rw [if_pos (by omega),z0k h,ypv hx (by omega) hk hck e,z04,z0e _ k h,flatMap_cons,flatMap_cons,ziz,ziz,z1o k (by omega)]
   have l2:=fun K=>ybs e l held a (cs,ms,(k:Int)) (setL zbq (cfO (outP a held l[k] e)),setL z7t (maO (outP a held l[k] e))) o1 (by grind) K N0 0 cs (Nat.zero_le _) (by show (setL zbq (cfO (outP a held l[k] e))).length<2000000000+0;omega) (by show cs.length+((setL zbq (cfO (outP a held l[k] e))).length-0)<=1000000;omega) h5
   refine (l2 _).trans ?_
   have l3:=fun v y0 K=>ybr e l held a v y0 (setL z7t (maO (outP a held l[k] e))) o2 (by omega) K N0 0 ms (Nat.zero_le _) (by unfold N0;omega) (by omega) h6
   refine (l3 _ _ _).trans ?_
   rw [drop_zero,drop_zero]
   exact ybt hx hle hk e l hc hl K m (k+1) (puts zbq cs (setL zbq (cfO (outP a held l[k] e)))) (puts z7t ms (setL z7t (maO (outP a held l[k] e)))) (by omega) (by omega) (by omega) (by omega) (yiq h5 o1) (yb1 h6 o2)
  ·rw [if_neg (by omega),drop_eq_nil_of_le (by omega)]
   rfl
variable {α β:Type}
theorem y4p {c:α->α->Int}(h:TO c)(f:β->List α)(l:List β):setL c (l.flatMap (fun x=>setL c (f x)))=setL c (l.flatMap f):=by
 refine yer h (fun x=>?_)
 rw [mem_flatMap,mem_flatMap]
 constructor
 ·rintro ⟨y,hy,hx⟩
  exact ⟨y,hy,(zgv h _ _).1 hx⟩
 ·rintro ⟨y,hy,hx⟩
  exact ⟨y,hy,(zgv h _ _).2 hx⟩
def cfN (a:Aut)(held:List Ev)(l:List Cf)(e:Ev):List Cf:=setL zbq (l.flatMap (fun c=>cfO (outP a held c e)))
def maN (a:Aut)(held:List Ev)(l:List Cf)(e:Ev):List Ma:=setL z7t (l.flatMap (fun c=>maO (outP a held c e)))
theorem yq2 (hx:CxA a held)(hle:a.fEdges.length<=100)(hk:kk<=1000)(e:Ev)(l:List Cf)(hc:∀ c∈l,CB held a kk c)(hl:l.length<=5000):zcz N0 a held l e=some (cfN a held l e,maN a held l e):=by
 have:=ybt hx hle hk e l hc hl (fun y0 y1=>some (y0,y1)) N0 0 [] [] (Nat.zero_le _) (by unfold N0;omega) (by simp) (by simp) (by simp) (by simp)
 unfold zcz cfN maN
 refine this.trans ?_
 rw [drop_zero,<-y4p cfCmp_to,<-y4p zar]
 rfl
theorem yg1 (d:Cf)(m0:List Cf)(m1:List Ma)(h0:m0.length<=100000000)(h1:m1.length<=100000000):z7p N0 d m0 m1=some (m0++cfO [d],m1++maO [d]):=by
 unfold z7p
 rw [z0d,y3o,y25,zau (by grind) (by omega),zau (by simp only [length_singleton];omega) (by omega)]
 by_cases h:d.fState<0
 ·simp [h,cfO,maO]
 ·simp [h,cfO,maO]
variable {r:z0m}
theorem zwc (hx:CxA r.fa held)(hk:kk<=1000)(hc:CB held r.fa kk c)(hch:∀ y∈held,zci y=zci e->y=e)(hle:r.fa.fEdges.length<=100)(K:List Cf->List Ma->Option (List Cf×List Ma×z0m×Cf×Ev)) :
  ∀ (m k:Nat) (m0:List Cf) (m1:List Ma),k<=r.fa.fEdges.length->r.fa.fEdges.length<m+k->m0.length<=90000000+k->m1.length<=90000000+k->z1m N0 e c r ⟨bndV held r.fa.fVars.toNat c.fBindings⟩ K m ((k:Int),m0,m1)=K (m0++cfO (((r.fa.fEdges.drop k).filter (fun x=>decide (x.fFrom=c.fState))).filterMap (fun x=>coP r.fa held c x e))) (m1++maO (((r.fa.fEdges.drop k).filter (fun x=>decide (x.fFrom=c.fState))).filterMap (fun x=>coP r.fa held c x e)))
 |0,k,m0,m1,h1,h2,h3,h4=>by omega
 |m+1,k,m0,m1,h1,h2,h3,h4=>by
  unfold z1m
  simp only [length_map,z0d,z0w]
  by_cases h:k<r.fa.fEdges.length
  ·have hxe:=getElem_mem h
   rw [if_pos (by omega),z0k h,z0e _ k h,z1o k (by omega),filter_cons]
   by_cases q:r.fa.fEdges[k].fFrom=c.fState
   rotate_left
   ·rw [if_neg q,if_neg (by simpa using q)]
    exact zwc hx hk hc hch hle K m (k+1) m0 m1 (by omega) (by omega) (by omega) (by omega)
   rw [if_pos q,if_pos (by simpa using q),y5z hx hk hc hxe hch,z04,filterMap_cons]
   cases hco:coP r.fa held c r.fa.fEdges[k] e with
   |none =>
    simp only [rfC,z68]
    exact zwc hx hk hc hch hle K m (k+1) m0 m1 (by omega) (by omega) (by omega) (by omega)
   |some d =>
    simp only [rfC,z67]
    have z1:=zut [d]
    have z2:=zsi [d]
    simp only [length_singleton] at z1 z2
    rw [yg1 d m0 m1 (by omega) (by omega),z7v]
    have ih:=zwc hx hk hc hch hle K m (k+1) (m0++cfO [d]) (m1++maO [d]) (by omega) (by omega) (by rw [length_append];omega) (by rw [length_append];omega)
    refine ih.trans ?_
    rw [append_assoc,append_assoc,<-y3p,<-y26]
    rfl
  ·rw [if_neg (by omega),drop_eq_nil_of_le (by omega)]
   simp [cfO,maO]
theorem zwb (hx:CxA r.fa held)(hk:kk<=1000)(hc:CB held r.fa kk c)(hch:∀ y∈held,zci y=zci e->y=e)(hle:r.fa.fEdges.length<=100)(K:List Cf->List Ma->Option (List Cf×List Ma×z0m×Cf×Ev)) :
  ∀ (m k:Nat) (m0:List Cf) (m1:List Ma),k<=r.fa.fEdges.length->r.fa.fEdges.length<m+k->m0.length<=90000000+k->m1.length<=90000000+k->z1l N0 e c r ⟨bndV held r.fa.fVars.toNat c.fBindings⟩ K m ((k:Int),m0,m1)=K (m0++cfO (((r.fa.fEdges.drop k).filter (fun x=>decide (x.fFrom=c.fState))).filterMap (fun x=>coP r.fa held c x e))) (m1++maO (((r.fa.fEdges.drop k).filter (fun x=>decide (x.fFrom=c.fState))).filterMap (fun x=>coP r.fa held c x e)))
 |0,k,m0,m1,h1,h2,h3,h4=>by omega
 |m+1,k,m0,m1,h1,h2,h3,h4=>by
  unfold z1l
  simp only [length_map,z0d,z0w]
  by_cases h:k<r.fa.fEdges.length
  ·have hxe:=getElem_mem h
   rw [if_pos (by omega),z0k h,z0e _ k h,z1o k (by omega),filter_cons]
   by_cases q:r.fa.fEdges[k].fFrom=c.fState
   rotate_left
   ·rw [if_neg q,if_neg (by simpa using q)]
    exact zwb hx hk hc hch hle K m (k+1) m0 m1 (by omega) (by omega) (by omega) (by omega)
   rw [if_pos q,if_pos (by simpa using q),y5z hx hk hc hxe hch,z04,filterMap_cons]
   cases hco:coP r.fa held c r.fa.fEdges[k] e with
   |none =>
    simp only [rfC,z68]
    exact zwb hx hk hc hch hle K m (k+1) m0 m1 (by omega) (by omega) (by omega) (by omega)
   |some d =>
    simp only [rfC,z67]
    have z1:=zut [d]
    have z2:=zsi [d]
    simp only [length_singleton] at z1 z2
    rw [yg1 d m0 m1 (by omega) (by omega),z7v]
    have ih:=zwb hx hk hc hch hle K m (k+1) (m0++cfO [d]) (m1++maO [d]) (by omega) (by omega) (by rw [length_append];omega) (by rw [length_append];omega)
    refine ih.trans ?_
    rw [append_assoc,append_assoc,<-y3p,<-y26]
    rfl
  ·rw [if_neg (by omega),drop_eq_nil_of_le (by omega)]
   simp [cfO,maO]
theorem yg0 (hx:CxA r.fa held)(hm:HM held r.fheld)(hk:kk<=1000)(hc:CB held r.fa kk c)(hch:∀ y∈held,zci y=zci e->y=e)(hle:r.fa.fEdges.length<=100)(m0:List Cf)(m1:List Ma)(h0:m0.length<=10000000)(h1:m1.length<=10000000):z75 N0 m0 m1 r c e=some (m0++cfO (outP r.fa held c e),m1++maO (outP r.fa held c e),r,c,e):=by
 have hlb:=hc.lb
 have hlh:=hx.lh
 have hva:=hx.ok.vars
 have hns:¬c.fState<0:=by have:=hc.st;omega
 obtain ⟨st,g1,g2,g3⟩:=zte hc.st
 have hes:EvS (enH held c.fBindings):=zun (by omega)
 have hab:=yh0 ⟨hva.1,hva.2⟩ hc.bd
 have hgl:=(hx.wf.st st g2).1
 unfold z75
 rw [ypz N0 (by decide) held r hm hva c.fBindings (by omega) hc.bd,z04,zwe hc.st.1 g1]
 rw [y92 N0 ⟨bndV held r.fa.fVars.toNat c.fBindings⟩ e (vio (enH held c.fBindings) e) st.fGuards (by omega) (by unfold N0;omega) (fun g hg=>by
  unfold z49
  have:=ykc hab hes ((hx.wf.st st g2).2 g hg) e
  refine (congrArg (fun o=>bnd o fun x1=>some x1) this).trans ?_
  rw [z04]),z04]
 have hsk:skP r.fa held c e=!(st.fGuards.any (vio (enH held c.fBindings) e)):=by unfold skP;rw [g3]
 rw [<-hsk]
 unfold outP
 rw [y3p,y26]
 cases skP r.fa held c e with
 |true =>
  rw [z67,yg1 c m0 m1 (by omega) (by omega),z7v]
  have z1:=zut [c]
  have z2:=zsi [c]
  have l1:=fun K=>zwc hx hk hc hch hle K N0 0 (m0++cfO [c]) (m1++maO [c]) (Nat.zero_le _) (by unfold N0;omega) (by grind) (by rw [length_append];simp at z2;omega)
  refine (l1 _).trans ?_
  rw [drop_zero]
  simp [append_assoc,zxt]
 |false =>
  rw [z68]
  have l2:=fun K=>zwb hx hk hc hch hle K N0 0 m0 m1 (Nat.zero_le _) (by unfold N0;omega) (by omega) (by omega)
  refine (l2 _).trans ?_
  rw [drop_zero]
  simp [zxt,cfO,maO]
theorem ybv (hx:CxA r.fa held)(hm:HM held r.fheld)(hk:kk<=1000)(hch:∀ y∈held,zci y=zci e->y=e)(hle:r.fa.fEdges.length<=100)(l:List Cf)(hc:∀ c∈l,CB held r.fa kk c)(hl:l.length<=5000)(K:List Cf->List Ma->Option (List Cf×List Ma)):∀ (m k:Nat) (m0:List Cf) (m1:List Ma),k<=l.length->l.length<m+k->m0.length<=101*k->m1.length<=101*k->z7o N0 e l r K m ((k:Int),m0,m1)=K (m0++(l.drop k).flatMap (fun c=>cfO (outP r.fa held c e))) (m1++(l.drop k).flatMap (fun c=>maO (outP r.fa held c e)))
 |0,k,m0,m1,h1,h2,h3,h4=>by omega
 |m+1,k,m0,m1,h1,h2,h3,h4=>by
  unfold z7o
  simp only [length_map,z0d]
  by_cases h:k<l.length
  ·have hck:=hc _ (getElem_mem h)
   have z3:=zut (outP r.fa held l[k] e)
   have z4:=zsi (outP r.fa held l[k] e)
   have z5:(outP r.fa held l[k] e).length<=r.fa.fEdges.length+1:=zr2
   have hb:zdz N0 r l[k] e=some (r,l[k],e):=rfl
   rw [if_pos (by omega),z0k h,hb,z7v]
   simp only
   rw [yg0 hx hm hk hck hch hle m0 m1 (by omega) (by omega),z7v,z0e _ k h,flatMap_cons,flatMap_cons,<-append_assoc,<-append_assoc,z1o k (by omega)]
   exact ybv hx hm hk hch hle l hc hl K m (k+1) _ _ (by omega) (by omega) (by rw [length_append];omega) (by rw [length_append];omega)
  grind
theorem zwg (f:α->List β)(n:Nat):∀ l:List α,(∀ x∈l,(f x).length<=n)->(l.flatMap f).length<=n*l.length
 |[],_=>by simp
 |x::l,h=>by
  have h1:=h x (by simp)
  have h2:=zwg f n l (fun y hy=>h y (mem_cons_of_mem _ hy))
  rw [flatMap_cons,length_append,length_cons,Nat.mul_succ]
  omega
theorem y62 (hx:CxA r.fa held)(hm:HM held r.fheld)(hk:kk<=1000)(hch:∀ y∈held,zci y=zci e->y=e)(hle:r.fa.fEdges.length<=100)(l:List Cf)(hc:∀ c∈l,CB held r.fa kk c)(hl:l.length<=5000):z5a N0 r l e=some (cfN r.fa held l e,maN r.fa held l e):=by
 have l1:=fun K=>ybv hx hm hk hch hle l hc hl K N0 0 [] [] (Nat.zero_le _) (by unfold N0;omega) (by simp) (by simp)
 unfold z5a
 refine (l1 _).trans ?_
 rw [drop_zero,nil_append,nil_append]
 have f1:=zwg (fun c=>cfO (outP r.fa held c e)) 101 l (fun c _=>by have:=zut (outP r.fa held c e);have:(outP r.fa held c e).length<=r.fa.fEdges.length+1:=zr2;omega)
 have f2:=zwg (fun c=>maO (outP r.fa held c e)) 101 l (fun c _=>by have:=zsi (outP r.fa held c e);have:(outP r.fa held c e).length<=r.fa.fEdges.length+1:=zr2;omega)
 rw [yfa N0 (by decide) _ (fun d hd=>by
  obtain ⟨c,hc1,hc2⟩:=mem_flatMap.1 hd
  exact yl1 hx hk (hc c hc1) e d hc2) (by omega),z7v,yf9 N0 (by decide) _ (fun d hd=>by
  obtain ⟨c,hc1,hc2⟩:=mem_flatMap.1 hd
  exact ygk hx hk (hc c hc1) e d hc2) (by omega),z7v]
 rfl
theorem y8w {e:Exn}(h:WfE e):∃ b:Bool,z9h N0 e=some b:=by
 obtain ⟨z,hz,ht⟩:=h
 obtain ⟨c,c1,_⟩:=yfx 200 (by omega) (by omega) z e ht hz N0 (by unfold N0;omega)
 obtain ⟨d,d1,_⟩:=ykf z e ht hz N0 (by unfold N0;omega)
 unfold z9h
 simp only [z29,z1d,z6v]
 rw [c1,z04,d1,z04,z0d]
 split
 ·exact ⟨_,rfl⟩
 ·exact ⟨_,rfl⟩
theorem yfg (l:List Gd)(hw:∀ g∈l,WfE g.fCond)(hl:l.length<=1100000):∀ (m k:Nat),k<=l.length->l.length<m+k->∃ b:Bool,z8z N0 l (some true) m (k:Int)=some b
 |0,k,h1,h2=>by omega
 |m+1,k,h1,h2=>by
  unfold z8z
  simp only [length_map,z0d,z0w]
  by_cases h:k<l.length
  ·obtain ⟨b,hb⟩:=y8w (hw _ (getElem_mem h))
   rw [if_pos (by omega),z0k h,hb,z04,z1o k (by omega)]
   cases b with
   |true=>rw [z67];exact yfg l hw hl m (k+1) (by omega) (by omega)
   |false=>rw [z68];exact ⟨_,rfl⟩
  ·rw [if_neg (by omega)]
   exact ⟨_,rfl⟩
theorem ylo (st:Stt)(hw:st.fGuards.length<=1100000/\∀ g∈st.fGuards,WfE g.fCond):∃ b:Bool,zd0 N0 st.fGuards=some b:=yfg st.fGuards hw.2 hw.1 N0 0 (Nat.zero_le _) (by have:=hw.1;unfold N0;omega)
theorem ybh (a:Aut)(v:Int)(x:Ed)(ys:List Exn)(hy:x.fChecks=ys.map z0l)(hw:∀ y∈ys,WfE y)(hl:ys.length<=1100000)(P:Prop)(K:Option Bool)(hK:∃ b:Bool,K=some b/\(b=true->P)):∀ (m k:Nat),k<=ys.length->ys.length<m+k->∃ b:Bool,z90 N0 a v x K m (k:Int)=some b/\(b=true->P)
 |0,k,h1,h2=>by omega
 |m+1,k,h1,h2=>by
  unfold z90
  have hll:x.fChecks.length=ys.length:=by rw [hy,length_map]
  simp only [length_map,z0d,z0w,hll]
  by_cases h:k<ys.length
  ·obtain ⟨b,hb⟩:=y8w (hw _ (getElem_mem h))
   rw [if_pos (by omega),y9e hy h,hb,z04,z1o k (by omega)]
   cases b with
   |true=>rw [z67];exact ybh a v x ys hy hw hl P K hK m (k+1) (by omega) (by omega)
   |false=>rw [z68];exact ⟨false,rfl,fun h=>by cases h⟩
  ·rw [if_neg (by omega)]
   exact hK
def FewA (a:Aut):Prop:=a.fEdges.length<=40/\∀ x∈a.fEdges,x.fOpens.length<=12
theorem ybi (a:Aut)(hw:WfA a)(K:Option Bool)(hK:∃ b:Bool,K=some b/\(b=true->a.fEdges.length<=40)):∀ (m k:Nat),k<=a.fEdges.length->k<=60->60<m+k->(∀ x∈a.fEdges.take k,x.fOpens.length<=12)->∃ b:Bool,z4i N0 a K m (k:Int)=some b/\(b=true->FewA a)
 |0,k,h1,h2,h3,h4=>by omega
 |m+1,k,h1,h2,h3,h4=>by
  have hex:(60<=k\/a.fEdges.length<=k)->∃ b:Bool,K=some b/\(b=true->FewA a):=fun hq=>by
   obtain ⟨b,b1,b2⟩:=hK
   refine ⟨b,b1,fun hb=>⟨b2 hb,fun x hx=>h4 x ?_⟩⟩
   have:=b2 hb
   rw [take_of_length_le (by omega)]
   exact hx
  have no:∃ b:Bool,some false=some b/\(b=true->FewA a):=⟨false,rfl,fun h=>by cases h⟩
  unfold z4i
  simp only [length_map,z0d,z29,z1d,z5u,z1r,z0w,z67,z68]
  by_cases h:k<a.fEdges.length
  rotate_left
  ·rw [if_neg (by omega)];exact hex (by omega)
  rw [if_pos (by omega)]
  by_cases h60:k<60
  rotate_left
  ·rw [if_neg (by omega)];exact hex (by omega)
  rw [if_pos (by omega),z0k h,z1o k (by omega)]
  have wx:=hw.ed _ (getElem_mem h)
  obtain ⟨b,hb⟩:=y8w wx.cond
  rw [hb,z04]
  cases b with
  |false=>rw [z68];exact no
  |true =>
  rw [z67]
  split
  ·exact no
  split
  ·exact no
  split
  ·exact no
  split
  ·exact no
  split
  ·exact no
  rename_i q1 q2 q3 q4 q5
  obtain ⟨ys,hy,hyw⟩:=wx.checks
  have hyl:ys.length<=1100000:=by have:=wx.lc;rw [hy,length_map] at this;exact this
  have ih:=ybi a hw K hK m (k+1) (by omega) (by omega) (by omega) (fun x hx=>by
   rw [take_succ_eq_append_getElem h] at hx
   rcases mem_append.1 hx with hx|hx
   ·exact h4 x hx
   ·rw [mem_singleton.1 hx];omega)
  exact ybh a (k:Int) _ ys hy hyw hyl (FewA a) _ ih N0 0 (Nat.zero_le _) (by unfold N0;omega)
theorem ybj (a:Aut)(hw:WfA a)(P:Prop)(K:Option Bool)(hK:∃ b:Bool,K=some b/\(b=true->P)):∀ (m k:Nat),k<=a.fStates.length->k<=30->30<m+k->∃ b:Bool,z4j N0 a K m (k:Int)=some b/\(b=true->P)
 |0,k,h1,h2,h3=>by omega
 |m+1,k,h1,h2,h3=>by
  have no:∃ b:Bool,some false=some b/\(b=true->P):=⟨false,rfl,fun h=>by cases h⟩
  unfold z4j
  simp only [length_map,z0d,z29,z1d,z5t,z21,z0w,z67,z68]
  by_cases h:k<a.fStates.length
  rotate_left
  ·rw [if_neg (by omega)];exact hK
  rw [if_pos (by omega)]
  by_cases h60:k<30
  rotate_left
  ·rw [if_neg (by omega)];exact hK
  have ih:=ybj a hw P K hK m (k+1) (by omega) (by omega) (by omega)
  obtain ⟨b,hb⟩:=ylo _ (hw.st _ (getElem_mem h))
  have hi:∀ Q:Stt->Option Bool,idx a.fStates (k:Int) Q=Q a.fStates[k]:=fun Q=>z0k h Q
  rw [if_pos (by omega),z1o k (by omega)]
  simp only [hi,hb,z04]
  repeat' split
  all_goals first|exact no|(cases b<;>first|(rw [z67];exact ih)|(rw [z68];exact no))|skip
theorem ylu (a:Aut)(hw:WfA a):∃ b:Bool,zd1 N0 a=some b/\(b=true->FewA a):=by
 unfold zd1
 refine ybj a hw (FewA a) _ ?_ N0 0 (Nat.zero_le _) (by omega) (by unfold N0;omega)
 refine ybi a hw _ ?_ N0 0 (Nat.zero_le _) (by omega) (by unfold N0;omega) (by simp)
 simp only [z29,z1d,z6s,length_map,z0d]
 split
 ·exact ⟨_,rfl,fun h=>by simp at h;omega⟩
 ·exact ⟨_,rfl,fun h=>by cases h⟩
theorem y0l (l:List Ev)(hl:l.length<=1000000)(a:Aut)(K:List (Rf×Ev)->Option (Option z0m×Int)):∀ (m k:Nat) (mp:List (Rf×Ev)),k<=l.length->l.length<m+k->zfm N0 l a K m ((k:Int),mp)=K ((l.drop k).foldl (fun m e=>mput m (zci e) e) mp)
 |0,k,mp,h1,h2=>by omega
 |m+1,k,mp,h1,h2=>by
  unfold zfm
  simp only [length_map,z0d]
  by_cases h:k<l.length
  ·have hr:zi2 N0 l[k]=some (zci l[k]):=rfl
   rw [if_pos (by omega),z0k h,hr,z04,ykm,z0e _ k h,foldl_cons,z1o k (by omega)]
   exact y0l l hl a K m (k+1) _ (by omega) (by omega)
  grind
theorem y95 (a:Aut)(hw:WfA a)(l:List Ev)(hl:l.length<=1000000):∃ q:Int,z2q N0 a l=some q/\((q≠0/\zei N0 a l=some (none,q))\/(q=0/\AOk a/\yn8 l/\z59 N0 a=some 0/\zkb l=0/\∃ mp,HM l mp/\zei N0 a l=some (some ⟨a,mp⟩,0))):=by
 obtain ⟨r,r1,r2,r3⟩:=ybw N0 (by decide) a hw
 unfold z2q zei
 rw [r1,r2,z04,z04,z0w,z0d,z0w,z0d]
 by_cases h:r=0
 rotate_left
 ·simp_all
 rw [if_pos h,if_pos h,yki N0 l (by unfold N0;omega) hl,yoj N0 l (by unfold N0;omega) (by decide) hl,z04,z04,z0w,z0d]
 refine ⟨zkb l,rfl,?_⟩
 by_cases hs:zkb l=0
 rotate_left
 ·simp_all
 rw [if_pos hs]
 have hso:=zwq hs
 refine Or.inr ⟨hs,r3 h,hso,by rw [h] ,hs,l.foldl (fun m e=>mput m (zci e) e) [],fun r=>?_,?_⟩
 ·rw [ygr r l [] hso.st]
  simp [mlk]
 ·refine (y0l l hl a _ N0 0 [] (Nat.zero_le _) (by unfold N0;omega)).trans ?_
  rw [drop_zero]
theorem yp4 (hx:CxA a held)(hst:Str zj4 held)(hc:CB held a k c)(hxe:x∈a.fEdges)(he:e∈held)(h:coP a held c x e=some d)(h0:0<=d.fState):CB held a (k+1) d:=by
 have hz:=yh8 hx hc hxe h
 have hd:=y3j h
 have eo:=hx.ok.ed x hxe
 refine ⟨?_,?_,?_,hz.1,hz.2⟩
 ·rw [hd] at h0 ⊢
  exact ⟨h0,eo.tgt.2⟩
 ·rw [hd]
  intro b hb
  rcases mem_append.1 hb with hb|hb
  ·exact hc.bd b hb
  ·rw [mem_singleton.1 hb]
   refine ⟨eo.var,?_⟩
   rw [y29 hst he]
   rfl
 ·rw [hd]
  exact (ykl e.fTime x.fOpens hc.ss).filter _
theorem CB.up (h:CB held a k c):CB held a (k+1) c:=⟨h.st,h.bd,h.ss,by have:=h.lb;omega,by have:=h.ls;omega⟩
theorem ym5 (hx:CxA a held)(hst:Str zj4 held)(hc:CB held a k c)(he:e∈held)(h:d∈outP a held c e)(h0:0<=d.fState):CB held a (k+1) d:=by
 unfold outP at h
 rcases mem_append.1 h with h|h
 ·split at h
  ·rw [mem_singleton.1 h]
   exact hc.up
  ·simp at h
 ·obtain ⟨x,hx',hd⟩:=mem_filterMap.1 h
  exact yp4 hx hst hc (zti hx').1 he hd h0
theorem yhh (h:d∈cfN a held l e):∃ c∈l,d∈outP a held c e/\0<=d.fState:=by
 unfold cfN at h
 obtain ⟨c,h1,h2⟩:=mem_flatMap.1 ((zgv cfCmp_to _ _).1 h)
 exact ⟨c,h1,yhg h2⟩
theorem yhj (hx:CxA a held)(hst:Str zj4 held)(hc:∀ c∈l,CB held a k c)(he:e∈held):∀ d∈cfN a held l e,CB held a (k+1) d:=fun d hd=>by
 obtain ⟨c,h1,h2,h3⟩:=yhh hd
 exact ym5 hx hst (hc c h1) he h2 h3
theorem yko (hx:CxA a held)(hk:k<=1000)(hc:∀ c∈l,CB held a k c)(e:Ev):∀ d∈maN a held l e,maOk d=true:=fun d hd=>by
 unfold maN at hd
 obtain ⟨c,h1,h2⟩:=mem_flatMap.1 ((zgv zar _ _).1 hd)
 exact ygk hx hk (hc c h1) e d h2
theorem ymd (hle:a.fEdges.length<=100)(l:List Cf)(e:Ev):(maN a held l e).length<=101*l.length:=by
 unfold maN
 have f2:=zwg (fun c=>maO (outP a held c e)) 101 l (fun c _=>by have:=zsi (outP a held c e);have:(outP a held c e).length<=a.fEdges.length+1:=zr2;omega)
 have:=zw5 (c:=z7t) (l.flatMap (fun c=>maO (outP a held c e)))
 omega
theorem ylg (l s:List Ma)(hs:Str z7t s)(hl:Str z7t l):l.length<=(puts z7t s l).length:=by
 have:puts z7t s l=puts z7t l s:=Str.uniq zar (zw7 zar _ _ hs) (zw7 zar _ _ hl) (fun x=>by rw [zkf zar,zkf zar,Or.comm])
 rw [this]
 exact y4z s l
def wiP (most:Nat)(a:Aut)(held:List Ev):List Ev->List Cf->List Ma->List Cf×List Ma×Bool
 |[],cs,ms=>(cs,ms,true)
 |e::r,cs,ms=>if most<(cfN a held cs e).length\/most<(puts z7t ms (maN a held cs e)).length then ([],[],false) else wiP most a held r (cfN a held cs e) (puts z7t ms (maN a held cs e))
theorem zva {l:List Ev}(hx:CxA a l)(hst:Str zj4 l)(hle:a.fEdges.length<=100)(most:Nat)(hm:most<=4096)(hm1:1<=most)(hl:l.length<=900) :
  ∀ (m k:Nat) (cs:List Cf) (ms:List Ma),k<=l.length->l.length<m+k->cs.length<=most->ms.length<=most->(∀ c∈cs,CB l a k c)->(∀ d∈ms,maOk d=true)->z30 N0 (most:Int) l a (fun y0 y1=>some (y0,y1,true)) m (cs,ms,(k:Int))=some (wiP most a l (l.drop k) cs ms)
 |0,k,cs,ms,h1,h2,h3,h4,h5,h6=>by omega
 |m+1,k,cs,ms,h1,h2,h3,h4,h5,h6=>by
  unfold z30
  simp only [length_map,z0d]
  by_cases h:k<l.length
  ·have he:=getElem_mem h
   have z:=ymd (held:=l) hle cs l[k]
   have o:=yko hx (by omega) h5 l[k]
   rw [if_pos (by omega),z0k h,yq2 hx hle (by omega) l[k] cs h5 (by omega),z04,z0e _ k h]
   have l2:=fun K=>y53 (most:Int) l a (cs,ms,(k:Int)) (cfN a l cs l[k],maN a l cs l[k]) o (by grind) K N0 0 ms (Nat.zero_le _) (by show (maN a l cs l[k]).length<2000000000+0;omega) (by show ms.length+((maN a l cs l[k]).length-0)<=1000000;omega) h6
   refine (l2 _).trans ?_
   rw [drop_zero]
   simp only [z29,z1d,z43,z0d,z67]
   have ih:=zva hx hst hle most hm hm1 hl m (k+1) (cfN a l cs l[k]) (puts z7t ms (maN a l cs l[k])) (by omega) (by omega)
   unfold wiP
   by_cases q1:most<(cfN a l cs l[k]).length
   ·simp_all
   rw [if_neg (by omega)]
   by_cases q2:most<(puts z7t ms (maN a l cs l[k])).length
   ·simp_all
   rw [if_neg (by omega),if_neg (by omega),z1o k (by omega)]
   exact ih (by omega) (by omega) (yhj hx hst h5 he) (yb1 h6 o)
  ·rw [if_neg (by omega),drop_eq_nil_of_le (by omega)]
   rfl
theorem cb0 {l:List Ev}(ha:AOk a):CB l a 0 cf0:=⟨⟨by simp,by have:=ha.st;simp;omega⟩,fun b hb=>by simp at hb,by simp [SS],by simp,by simp⟩
theorem yfc {l:List Ev}(hx:CxA a l)(hst:Str zj4 l)(hle:a.fEdges.length<=100)(most:Nat)(hm:most<=4096)(hm1:1<=most)(hl:l.length<=900):zaw N0 a l (most:Int)=some (wiP most a l l [cf0] []):=by
 unfold zaw
 have hb:zdv N0=some cf0:=rfl
 rw [hb,z04]
 exact zva hx hst hle most hm hm1 hl N0 0 [cf0] [] (Nat.zero_le _) (by unfold N0;omega) (by simp;omega) (by simp) (fun c hc=>by rw [mem_singleton.1 hc];exact cb0 hx.ok) (by simp)
theorem yb7 {l:List Ev}(hx:CxA r.fa l)(hm:HM l r.fheld)(hst:Str zj4 l)(hle:r.fa.fEdges.length<=100)(hl:l.length<=20)(K:List Cf->List Ma->Option (List Cf×List Ma×Int)) :
  ∀ (m k:Nat) (cs:List Cf) (all:List Ma),k<=l.length->l.length<m+k->cs.length<=150->all.length<=150*k->(∀ c∈cs,CB l r.fa k c)->(∀ d∈all,maOk d=true)->(wiP 150 r.fa l (l.drop k) cs (setL z7t all)).2.2=true ->
   ∃ cs' all',ze0 N0 l r K m (cs,(k:Int),all)=K cs' all'/\wiP 150 r.fa l (l.drop k) cs (setL z7t all)=(cs',setL z7t all',true)/\(∀ d∈all',maOk d=true)/\all'.length<=4096/\cs'.length<=150/\(setL z7t all').length<=max 150 (setL z7t all).length/\(∀ c∈cs',CB l r.fa l.length c)
 |0,k,cs,all,h1,h2,h3,h4,h5,h6,h7=>by omega
 |m+1,k,cs,all,h1,h2,h3,h4,h5,h6,h7=>by
  unfold ze0
  simp only [length_map,z0d]
  by_cases h:k<l.length
  ·have he:=getElem_mem h
   have hch:∀ y∈l,zci y=zci l[k]->y=l[k]:=fun y hy hr=>by
    have e1:=y29 hst hy
    have e2:=y29 hst he
    simp_all
   rw [z0e _ k h] at h7 ⊢
   unfold wiP at h7 ⊢
   have eM:puts z7t (setL z7t all) (maN r.fa l cs l[k])=setL z7t (all++maN r.fa l cs l[k]):=by unfold setL;rw [<-ziz]
   have hge:=ylg (maN r.fa l cs l[k]) (setL z7t all) (zkd zar _) (zkd zar _)
   by_cases q:150<(cfN r.fa l cs l[k]).length\/150<(puts z7t (setL z7t all) (maN r.fa l cs l[k])).length
   ·rw [if_pos q] at h7;cases h7
   rw [if_neg q] at h7 ⊢
   have o:=yko hx (by omega) h5 l[k]
   rw [if_pos (by omega),z0k h,y62 hx hm (by omega) hch hle cs h5 (by omega),z04]
   have hw:IntKind.wrap .i64 (((all.length:Nat):Int)+(((maN r.fa l cs l[k]).length:Nat):Int))=((all.length+(maN r.fa l cs l[k]).length:Nat):Int):=by rw [zer _ (by omega)];omega
   simp only [z29,z1d,zf8,z67,z0d]
   rw [if_neg (by omega),if_neg (by omega),hw,if_neg (by omega),zau (by omega) (by omega),z1o k (by omega)]
   rw [eM] at h7 ⊢
   obtain ⟨cs',all',a1,a2,a3,a4,a5,a6,a7⟩:=yb7 hx hm hst hle hl K m (k+1) (cfN r.fa l cs l[k]) (all++maN r.fa l cs l[k]) (by omega) (by omega) (by omega) (by rw [length_append];omega) (yhj hx hst h5 he) (fun d hd=>by
    grind) h7
   grind
  ·rw [if_neg (by omega)]
   have hk:k=l.length:=by omega
   rw [drop_eq_nil_of_le (by omega)]
   exact ⟨cs,all,rfl,rfl,h6,by omega,h3,by omega,by rw [<-hk];exact h5⟩
theorem yfb (a:Aut)(hw:WfA a)(l:List Ev):∃ b:Bool,z7x N0 a l=some b/\(b=true->FewA a/\l.length<=12/\∃ q:Int,z2q N0 a l=some q/\(q=0->(wiP 150 a l l [cf0] []).2.2=true)):=by
 obtain ⟨b,b1,b2⟩:=ylu a hw
 unfold z7x
 simp only [z29,z1d,z4s]
 rw [b1,z04,yo8 N0 l (by decide),z0w,z04]
 cases b with
 |false=>rw [z68,z67];simp_all
 |true =>
  rw [z67]
  cases hfl:fewE l with
  |false=>simp only [Bool.not_false,z67];simp_all
  |true =>
   simp only [Bool.not_true,z68]
   obtain ⟨hl,_⟩:=yjq hfl
   obtain ⟨q,q1,q2⟩:=y95 a hw l (by omega)
   rw [q1,z04,z0w,z0d]
   rcases q2 with ⟨h,_⟩|⟨h,ha,hs,_,_,_⟩
   ·simp_all
   ·have hf:=b2 rfl
    have hx:CxA a l:=⟨hw,ha,fun x hx=>by have:=hf.2 x hx;omega,by omega⟩
    have hr:=yfc hx hs.st (by have:=hf.1;omega) 150 (by omega) (by omega) (by omega)
    have h4:((150:Nat):Int)=150:=rfl
    rw [h4] at hr
    rw [if_pos h,hr,z04]
    simp_all
variable {h1 h2:List Ev}
theorem zxu:∀ (l:List Bd) (vs:List (List Ev)),(∀ b∈l,lkH h1 b.fRef=lkH h2 b.fRef)->l.foldl (addB h1) vs=l.foldl (addB h2) vs
 |[],vs,_=>rfl
 |b::l,vs,h=>by
  rw [foldl_cons,foldl_cons]
  have:addB h1 vs b=addB h2 vs b:=by unfold addB;rw [h b (by simp)]
  rw [this]
  exact zxu l _ (fun x hx=>h x (mem_cons_of_mem _ hx))
theorem zy5 {l:List Bd}(h:∀ b∈l,lkH h1 b.fRef=lkH h2 b.fRef):enH h1 l=enH h2 l:=zxu l _ h
theorem yh9 (h:∀ b∈c.fBindings,lkH h1 b.fRef=lkH h2 b.fRef)(x:Ed)(e:Ev):coP a h1 c x e=coP a h2 c x e:=by
 have e2:enH (e::h1) (bdN c x e)=enH (e::h2) (bdN c x e):=zy5 (fun b hb=>by
  unfold lkH
  rw [find?_cons,find?_cons]
  by_cases q:zci e=b.fRef
  ·simp [q]
  ·simp only [q,decide_false]
   rcases mem_append.1 hb with hb|hb
   ·exact h b hb
   ·rw [mem_singleton.1 hb] at q;exact absurd rfl q)
 unfold coP
 rw [zy5 h,e2]
theorem y0n (h:∀ b∈c.fBindings,lkH h1 b.fRef=lkH h2 b.fRef)(e:Ev):outP a h1 c e=outP a h2 c e:=by
 unfold outP skP
 rw [zy5 h]
 congr 1
 exact congrArg (fun f=>filterMap f (zxt a c.fState)) (funext fun x=>yh9 h x e)
theorem zuk {f g:α->List β}:∀ {l:List α},(∀ x∈l,f x=g x)->l.flatMap f=l.flatMap g
 |[],_=>rfl
 |x::l,h=>by rw [flatMap_cons,flatMap_cons,h x (by simp),zuk (fun y hy=>h y (mem_cons_of_mem _ hy))]
theorem yhi (h:∀ c∈l,∀ b∈c.fBindings,lkH h1 b.fRef=lkH h2 b.fRef)(e:Ev):cfN a h1 l e=cfN a h2 l e:=by
 unfold cfN;rw [zuk (fun c hc=>by rw [y0n (h c hc) e])]
theorem ygl (h:∀ c∈l,∀ b∈c.fBindings,lkH h1 b.fRef=lkH h2 b.fRef)(e:Ev):maN a h1 l e=maN a h2 l e:=by
 unfold maN;rw [zuk (fun c hc=>by rw [y0n (h c hc) e])]
theorem yme {l more:List Ev}(hs:Str zj4 more)(hm:∀ x∈l,x∈more){r:Rf}(h:(lkH l r).isSome=true):lkH l r=lkH more r:=by
 obtain ⟨y,hy⟩:=Option.isSome_iff_exists.1 h
 obtain ⟨h1,h2⟩:=y9a hy
 have:=y29 hs (hm y h2)
 rw [h1] at this
 rw [hy,this]
theorem yqb {l more:List Ev}(hs:Str zj4 more)(hm:∀ x∈l,x∈more){cs:List Cf}(hc:∀ c∈cs,CB l a k c):∀ c∈cs,∀ b∈c.fBindings,lkH l b.fRef=lkH more b.fRef:=fun c h b hb=>yme hs hm ((hc c h).bd b hb).2
end Go.Proofs.YtidhlpjgifoneaaGreat
