/- Layer 25, plainly. -/
import Derived.Test.YtidhlpjgifoneaaGreatK31
set_option linter.unusedVariables false
set_option linter.unusedSimpArgs false
namespace Go.Proofs.YtidhlpjgifoneaaGreat
open Go.RowKit List
def cfO (l:List Cf):List Cf:=l.filter (fun d=>!decide (d.fState<0))
def maO (l:List Cf):List Ma:=(l.filter (fun d=>decide (d.fState<0))).map (fun d=>⟨d.fBindings⟩)
def zyu (a:Aut)(s:Int):List Ed:=a.fEdges.filter (fun x=>decide (x.fFrom=s))
def skP (a:Aut)(held:List Ev)(c:Cf)(e:Ev):Bool:=!(zxa a c.fState).any (vio (enH held c.fBindings) e)
def outP (a:Aut)(held:List Ev)(c:Cf)(e:Ev):List Cf:=(if skP a held c e=true then [c] else [])++(zyu a c.fState).filterMap (fun x=>coP a held c x e)
theorem y4y (d:Cf)(l:List Cf):cfO (d::l)=if d.fState<0 then cfO l else d::cfO l:=by
 unfold cfO;grind
theorem y3g (d:Cf)(l:List Cf):maO (d::l)=if d.fState<0 then (⟨d.fBindings⟩:Ma)::maO l else maO l:=by
 unfold maO;grind
theorem y4z (l m:List Cf):cfO (l++m)=cfO l++cfO m:=by unfold cfO;rw [filter_append]
theorem y3h (l m:List Cf):maO (l++m)=maO l++maO m:=by unfold maO;simp_all
theorem zvh (l:List Cf):(cfO l).length<=l.length:=length_filter_le _ _
theorem zt7 (l:List Cf):(maO l).length<=l.length:=by unfold maO;grind
variable {l:List Cf}{d:Cf}
theorem yjc (h:d∈cfO l):d∈l/\0<=d.fState:=by
 have:=mem_filter.1 h
 exact ⟨this.1,by simpa using this.2⟩
theorem yok {m:Ma}(h:m∈maO l):∃ d∈l,m=⟨d.fBindings⟩:=by
 obtain ⟨d,hd,rfl⟩:=mem_map.1 h
 grind
def Sz (k:Nat)(c:Cf):Prop:=c.fBindings.length<=k/\c.fStarts.length<=100*k
variable {k:Nat}{c:Cf}
theorem Sz.ok (hk:k<=1001)(h:Sz k c):cfOk c=true:=(zfi c).2 ⟨by have:=h.1;omega,by have:=h.2;omega⟩
variable {a:Aut}{held:List Ev}{x:Ed}{e:Ev}
theorem y4t (h:coP a held c x e=some d):d=⟨x.fTo,bdN c x e,(stN c x e).filter (ncl x)⟩:=by
 unfold coP at h
 simp_all
theorem yj3 (hx:CxA a held)(hc:CB held a k c)(hxe:x∈a.fEdges)(h:coP a held c x e=some d):Sz (k+1) d:=by
 rw [y4t h]
 have h1:=hc.lb
 have h2:=hc.ls
 have h3:=hx.lo x hxe
 have h4:=y3d e.fTime x.fOpens c.fStarts
 have h5:=length_filter_le (ncl x) (stN c x e)
 refine ⟨by unfold bdN;simp;omega,?_⟩
 unfold stN at h5 ⊢
 simp only
 omega
theorem CB.sz (h:CB held a k c):Sz k c:=⟨h.lb,h.ls⟩
theorem zu6 {s:Int}(h:x∈zyu a s):x∈a.fEdges/\x.fFrom=s:=by
 have:=mem_filter.1 h
 exact ⟨this.1,by simpa using this.2⟩
theorem yht (hx:CxA a held)(hc:CB held a k c)(h:d∈outP a held c e):Sz (k+1) d:=by
 unfold outP at h
 rcases mem_append.1 h with h|h
 ·split at h
  ·rw [mem_singleton.1 h]
   have:=hc.sz
   exact ⟨by have:=this.1;omega,by have:=this.2;omega⟩
  ·simp at h
 ·obtain ⟨x,hx',hd⟩:=mem_filterMap.1 h
  exact yj3 hx hc (zu6 hx').1 hd
theorem zrr:(outP a held c e).length<=a.fEdges.length+1:=by
 unfold outP zyu
 grind
theorem yap (hk:k<=1001)(h:Sz k c):maOk ⟨c.fBindings⟩=true:=(zha _).2 (by have:=h.1;simp;omega)
theorem y1g (e:Ev)(env:List (List Ev))(hs:EvS env)(st:Stt)(hg:st.fGuards.length<=1100000)(hw:∀ g∈st.fGuards,WfE g.fCond):∀ (m k:Nat),k<=st.fGuards.length->st.fGuards.length<m+k->z7g N0 e ⟨env⟩ st (some true) m (k:Int)=some (!(st.fGuards.drop k).any (vio env e))
 |0,k,h1,h2=>by omega
 |m+1,k,h1,h2=>by
  unfold z7g
  simp only [length_map,z0c]
  by_cases h:k<st.fGuards.length
  ·rw [if_pos (by omega),z0j h,z0e _ k h,any_cons,yh1 hs (hw _ (getElem_mem h)),z04,z1o k (by omega),y1g e env hs st hg hw m (k+1) (by omega) (by omega)]
   cases vio env e st.fGuards[k]<;>simp [z6c,z6e]
  grind
theorem yks (hx:CxA a held)(hk:k<=1000)(hc:CB held a k c)(e:Ev):zbn N0 a held c e=some (skP a held c e):=by
 have hlb:=hc.lb
 have hlh:=hx.lh
 obtain ⟨st,g1,g2,g3⟩:=zu2 hc.st
 unfold zbn skP
 rw [yh5 N0 (by decide) held (by omega) c (by omega),z04,zx8 hc.st.1 g1,g3]
 have:=y1g e (enH held c.fBindings) (zvc (by omega)) st (hx.wf.st st g2).1 (hx.wf.st st g2).2 N0 0 (Nat.zero_le _) (by have:=(hx.wf.st st g2).1;unfold N0;omega)
 simp_all
theorem zyi (s:Int)(a:Aut)(hl:a.fEdges.length<=1000000)(K:List Ed->Option (List Ed)):∀ (m k:Nat) (out:List Ed),k<=a.fEdges.length->a.fEdges.length<m+k->out.length<=k->z5u N0 s a K m ((k:Int),out)=K (out++(a.fEdges.drop k).filter (fun x=>decide (x.fFrom=s)))
 |0,k,out,h1,h2,h3=>by omega
 |m+1,k,out,h1,h2,h3=>by
  unfold z5u
  simp only [length_map,z0c]
  by_cases h:k<a.fEdges.length
  ·have i1:=zyi s a hl K m (k+1) (out++[a.fEdges[k]]) (by omega) (by omega) (by simp_all)
   have i2:=zyi s a hl K m (k+1) out (by omega) (by omega) (by omega)
   rw [if_pos (by omega),z1d,z0j h,z0j h,z0e _ k h,z1o k (by omega),zbi (by grind) (by omega),i1,i2,filter_cons]
   grind
  ·rw [if_neg (by omega),drop_eq_nil_of_le (by omega)]
   simp
theorem yqi (s:Int)(a:Aut)(hl:a.fEdges.length<=1000000):zc8 N0 a s=some (zyu a s):=by
 have:=zyi s a hl (fun y=>some y) N0 0 [] (Nat.zero_le _) (by unfold N0;omega) (by simp)
 unfold zc8 zyu
 exact this
variable {kk:Nat}
theorem zx3 (hx:CxA a held)(hk:kk<=1000)(hc:CB held a kk c)(e:Ev)(es:List Ed)(hes:∀ x∈es,x∈a.fEdges)(hl:es.length<=100000)(K:List Cf->List Ma->Option (List Cf×List Ma)) :
  ∀ (m k:Nat) (cs:List Cf) (ms:List Ma),k<=es.length->es.length<m+k->cs.length<=k+1->ms.length<=k->(∀ d∈cs,cfOk d=true)->(∀ d∈ms,maOk d=true)->z4j N0 e c held a es K m (cs,ms,(k:Int))=K (puts zbk cs (cfO ((es.drop k).filterMap (fun x=>coP a held c x e)))) (puts zbv ms (maO ((es.drop k).filterMap (fun x=>coP a held c x e))))
 |0,k,cs,ms,h1,h2,h3,h4,h5,h6=>by omega
 |m+1,k,cs,ms,h1,h2,h3,h4,h5,h6=>by
  unfold z4j
  simp only [length_map,z0c,z0y]
  by_cases h:k<es.length
  ·have hxe:=hes _ (getElem_mem h)
   have hcon:=yf6 hx hk hc hxe e
   rw [if_pos (by omega),z0j h,z0e _ k h,filterMap_cons,z1o k (by omega)]
   cases hco:coP a held c es[k] e with
   |none =>
    have hcon':z5t N0 a held c es[k] e=some (cf0,false):=hcon.trans (by rw [hco];rfl)
    rw [hcon',z04]
    simp only [z6e]
    exact zx3 hx hk hc e es hes hl K m (k+1) cs ms (by omega) (by omega) (by omega) (by omega) h5 h6
   |some d =>
    have hd:=yj3 hx hc hxe hco
    have hcon':z5t N0 a held c es[k] e=some (d,true):=hcon.trans (by rw [hco];rfl)
    rw [hcon',z04]
    simp only [z6c,z1d]
    rw [y4y,y3g]
    by_cases hs:d.fState<0
    ·rw [if_pos hs,if_pos hs,if_pos hs,yhc N0 (by decide) _ (yap (by omega) hd) ms h6 (by omega),z04,zia]
     have hil:=zod zbv (⟨d.fBindings⟩:Ma) ms
     exact zx3 hx hk hc e es hes hl K m (k+1) cs _ (by omega) (by omega) (by omega) (by omega) h5 (y3n (yap (by omega) hd) h6)
    ·rw [if_neg hs,if_neg hs,if_neg hs,yhd N0 (by decide) _ (hd.ok (by omega)) cs h5 (by omega),z04,zia]
     have hil:=zod zbk d cs
     exact zx3 hx hk hc e es hes hl K m (k+1) _ ms (by omega) (by omega) (by omega) (by omega) (yds (hd.ok (by omega)) h5) h6
  ·rw [if_neg (by omega),drop_eq_nil_of_le (by omega)]
   rfl
theorem ys9 (hx:CxA a held)(hle:a.fEdges.length<=100000)(hk:kk<=1000)(hc:CB held a kk c)(e:Ev):zd7 N0 a held c e=some (setL zbk (cfO (outP a held c e)),setL zbv (maO (outP a held c e))):=by
 have hfl:(zyu a c.fState).length<=100000:=by
  have:=length_filter_le (fun x:Ed=>decide (x.fFrom=c.fState)) a.fEdges
  unfold zyu;omega
 have l1:=fun cs h3 h5=>zx3 hx hk hc e (zyu a c.fState) (fun x h=>(zu6 h).1) hfl (fun k1_1_0y0 k1_1_0y1=>some (k1_1_0y0,k1_1_0y1)) N0 0 cs [] (Nat.zero_le _) (by unfold N0;omega) h3 (by simp) h5 (by simp)
 have hns:¬c.fState<0:=by have:=hc.st;omega
 unfold zd7
 simp only [z2k,z1d,z6w]
 rw [yks hx hk hc e,z04,yqi _ a (by omega)]
 simp only [z04]
 unfold outP setL
 rw [y4z,y3h,zob,zob]
 cases skP a held c e with
 |true =>
  have hput:=yhd N0 (by decide) c (hc.sz.ok (by omega)) [] (by simp) (by simp)
  rw [z6c,hput,z04]
  have:=l1 (insU zbk c []) (by simp [insU]) (by simp [insU];exact hc.sz.ok (by omega))
  refine this.trans ?_
  have e1:puts zbk [] (cfO (if true=true then [c] else []))=insU zbk c []:=by
   rw [if_pos rfl,y4y,if_neg hns];rfl
  have e2:puts zbv [] (maO (if true=true then [c] else []))=[]:=by
   rw [if_pos rfl,y3g,if_neg hns];rfl
  rw [e1,e2]
  rfl
 |false =>
  rw [z6e]
  refine (l1 [] (by simp) (by simp)).trans ?_
  rfl
theorem ydd (e:Ev)(l:List Cf)(held:List Ev)(a:Aut)(v:List Cf×List Ma×Int)(x:List Cf×List Ma)(hok:∀ d∈x.1,cfOk d=true)(hl:x.1.length<=100000)(K:List Cf->List Ma->Option (List Cf×List Ma)):∀ (m k:Nat) (cs:List Cf),k<=x.1.length->x.1.length<m+k->cs.length+(x.1.length-k)<=1000000->(∀ d∈cs,cfOk d=true)->z93 N0 e l held a v x K m (cs,(k:Int))=K (puts zbk cs (x.1.drop k)) x.2
 |0,k,cs,h1,h2,h3,h4=>by omega
 |m+1,k,cs,h1,h2,h3,h4=>by
  unfold z93
  simp only [length_map,z0c]
  by_cases h:k<x.1.length
  ·have ho:=hok _ (getElem_mem h)
   have hil:=zod zbk x.1[k] cs
   rw [if_pos (by omega),z0j h,yhd N0 (by decide) _ ho cs h4 (by omega),z04,z0e _ k h,zia,z1o k (by omega)]
   exact ydd e l held a v x hok hl K m (k+1) _ (by omega) (by omega) (by omega) (yds ho h4)
  ·rw [if_neg (by omega),drop_eq_nil_of_le (by omega)]
   rfl
theorem ydc (e:Ev)(l:List Cf)(held:List Ev)(a:Aut)(v:List Cf×List Ma×Int)(y0:List Cf)(x:List Ma)(hok:∀ d∈x,maOk d=true)(hl:x.length<=100000)(K:List Ma->Option (List Cf×List Ma)):∀ (m k:Nat) (cs:List Ma),k<=x.length->x.length<m+k->cs.length+(x.length-k)<=1000000->(∀ d∈cs,maOk d=true)->z92 N0 e l held a v y0 x K m (cs,(k:Int))=K (puts zbv cs (x.drop k))
 |0,k,cs,h1,h2,h3,h4=>by omega
 |m+1,k,cs,h1,h2,h3,h4=>by
  unfold z92
  simp only [length_map,z0c]
  by_cases h:k<x.length
  ·have ho:=hok _ (getElem_mem h)
   have hil:=zod zbv x[k] cs
   have hp:=yhc N0 (by decide) x[k] ho cs h4 (by omega)
   rw [if_pos (by omega),z0j h,z0e _ k h,zia,z1o k (by omega),hp,z04]
   exact ydc e l held a v y0 x hok hl K m (k+1) _ (by omega) (by omega) (by omega) (y3n ho h4)
  ·rw [if_neg (by omega),drop_eq_nil_of_le (by omega)]
   rfl
theorem y6d (most:Int)(l:List Ev)(a:Aut)(v:List Cf×List Ma×Int)(x:List Cf×List Ma)(hok:∀ d∈x.2,maOk d=true)(hl:x.2.length<=1000000)(K:List Ma->List Cf->Option (List Cf×List Ma×Bool)):∀ (m k:Nat) (cs:List Ma),k<=x.2.length->x.2.length<m+k->cs.length+(x.2.length-k)<=1000000->(∀ d∈cs,maOk d=true)->z6f N0 most l a v x K m (cs,(k:Int))=K (puts zbv cs (x.2.drop k)) x.1
 |0,k,cs,h1,h2,h3,h4=>by omega
 |m+1,k,cs,h1,h2,h3,h4=>by
  unfold z6f
  simp only [length_map,z0c]
  by_cases h:k<x.2.length
  ·have ho:=hok _ (getElem_mem h)
   have hil:=zod zbv x.2[k] cs
   have hp:=yhc N0 (by decide) x.2[k] ho cs h4 (by omega)
   rw [if_pos (by omega),z0j h,z0e _ k h,zia,z1o k (by omega),hp,z04]
   exact y6d most l a v x hok hl K m (k+1) _ (by omega) (by omega) (by omega) (y3n ho h4)
  ·rw [if_neg (by omega),drop_eq_nil_of_le (by omega)]
   rfl
theorem yna {l:List Ma}(h:∀ x∈l,maOk x=true):∀ x∈setL zbv l,maOk x=true:=fun x hx=>h x ((zh9 zg1 x l).1 hx)
theorem yn3 (hx:CxA a held)(hk:kk<=1000)(hc:CB held a kk c)(e:Ev):∀ d∈cfO (outP a held c e),cfOk d=true:=fun d hd=>(yht hx hc (yjc hd).1).ok (by omega)
theorem yic (hx:CxA a held)(hk:kk<=1000)(hc:CB held a kk c)(e:Ev):∀ d∈maO (outP a held c e),maOk d=true:=fun d hd=>by
 obtain ⟨q,hq,rfl⟩:=yok hd
 exact yap (by omega) (yht hx hc hq)
theorem yde (hx:CxA a held)(hle:a.fEdges.length<=100)(hk:kk<=1000)(e:Ev)(l:List Cf)(hc:∀ c∈l,CB held a kk c)(hl:l.length<=5000)(K:List Cf->List Ma->Option (List Cf×List Ma)) :
  ∀ (m k:Nat) (cs:List Cf) (ms:List Ma),k<=l.length->l.length<m+k->cs.length<=101*k->ms.length<=101*k->(∀ d∈cs,cfOk d=true)->(∀ d∈ms,maOk d=true)->z94 N0 e l held a K m (cs,ms,(k:Int))=K (puts zbk cs ((l.drop k).flatMap (fun c=>setL zbk (cfO (outP a held c e))))) (puts zbv ms ((l.drop k).flatMap (fun c=>setL zbv (maO (outP a held c e)))))
 |0,k,cs,ms,h1,h2,h3,h4,h5,h6=>by omega
 |m+1,k,cs,ms,h1,h2,h3,h4,h5,h6=>by
  unfold z94
  simp only [length_map,z0c]
  by_cases h:k<l.length
  ·have hck:=hc _ (getElem_mem h)
   have z1:=zwx (c:=zbk) (cfO (outP a held l[k] e))
   have z2:=zwx (c:=zbv) (maO (outP a held l[k] e))
   have z3:=zvh (outP a held l[k] e)
   have z4:=zt7 (outP a held l[k] e)
   have z5:(outP a held l[k] e).length<=a.fEdges.length+1:=zrr
   have o1:=ynb (yn3 hx hk hck e)
   have o2:=yna (yic hx hk hck e)
   have p1:=zx0 (c:=zbk) (setL zbk (cfO (outP a held l[k] e))) cs
   have p2:=zx0 (c:=zbv) (setL zbv (maO (outP a held l[k] e))) ms
   rw [if_pos (by omega),z0j h,ys9 hx (by omega) hk hck e,z04,z0e _ k h,flatMap_cons,flatMap_cons,zob,zob,z1o k (by omega)]
   have l2:=fun K=>ydd e l held a (cs,ms,(k:Int)) (setL zbk (cfO (outP a held l[k] e)),setL zbv (maO (outP a held l[k] e))) o1 (by grind) K N0 0 cs (Nat.zero_le _) (by show (setL zbk (cfO (outP a held l[k] e))).length<2000000000+0;omega) (by show cs.length+((setL zbk (cfO (outP a held l[k] e))).length-0)<=1000000;omega) h5
   refine (l2 _).trans ?_
   have l3:=fun v y0 K=>ydc e l held a v y0 (setL zbv (maO (outP a held l[k] e))) o2 (by omega) K N0 0 ms (Nat.zero_le _) (by unfold N0;omega) (by omega) h6
   refine (l3 _ _ _).trans ?_
   rw [drop_zero,drop_zero]
   exact yde hx hle hk e l hc hl K m (k+1) (puts zbk cs (setL zbk (cfO (outP a held l[k] e)))) (puts zbv ms (setL zbv (maO (outP a held l[k] e)))) (by omega) (by omega) (by omega) (by omega) (ykm h5 o1) (yci h6 o2)
  ·rw [if_neg (by omega),drop_eq_nil_of_le (by omega)]
   rfl
variable {α β:Type}
theorem y60 {c:α->α->Int}(h:TO c)(f:β->List α)(l:List β):setL c (l.flatMap (fun x=>setL c (f x)))=setL c (l.flatMap f):=by
 refine ygf h (fun x=>?_)
 rw [mem_flatMap,mem_flatMap]
 constructor
 ·rintro ⟨y,hy,hx⟩
  exact ⟨y,hy,(zh9 h _ _).1 hx⟩
 ·rintro ⟨y,hy,hx⟩
  exact ⟨y,hy,(zh9 h _ _).2 hx⟩
def cfN (a:Aut)(held:List Ev)(l:List Cf)(e:Ev):List Cf:=setL zbk (l.flatMap (fun c=>cfO (outP a held c e)))
def maN (a:Aut)(held:List Ev)(l:List Cf)(e:Ev):List Ma:=setL zbv (l.flatMap (fun c=>maO (outP a held c e)))
theorem ysg (hx:CxA a held)(hle:a.fEdges.length<=100)(hk:kk<=1000)(e:Ev)(l:List Cf)(hc:∀ c∈l,CB held a kk c)(hl:l.length<=5000):zd8 N0 a held l e=some (cfN a held l e,maN a held l e):=by
 have:=yde hx hle hk e l hc hl (fun y0 y1=>some (y0,y1)) N0 0 [] [] (Nat.zero_le _) (by unfold N0;omega) (by simp) (by simp) (by simp) (by simp)
 unfold zd8 cfN maN
 refine this.trans ?_
 rw [drop_zero,<-y60 cfCmp_to,<-y60 zg1]
 rfl
theorem yhr (d:Cf)(m0:List Cf)(m1:List Ma)(h0:m0.length<=100000000)(h1:m1.length<=100000000):z7u N0 d m0 m1=some (m0++cfO [d],m1++maO [d]):=by
 unfold z7u
 rw [z0c,y4y,y3g,zbi (by grind) (by omega),zbi (by simp only [length_singleton];omega) (by omega)]
 by_cases h:d.fState<0
 ·simp [h,cfO,maO]
 ·simp [h,cfO,maO]
variable {r:z0m}
theorem zx5 (hx:CxA r.fa held)(hk:kk<=1000)(hc:CB held r.fa kk c)(hch:∀ y∈held,zdt y=zdt e->y=e)(hle:r.fa.fEdges.length<=100)(K:List Cf->List Ma->Option (List Cf×List Ma×z0m×Cf×Ev)) :
  ∀ (m k:Nat) (m0:List Cf) (m1:List Ma),k<=r.fa.fEdges.length->r.fa.fEdges.length<m+k->m0.length<=90000000+k->m1.length<=90000000+k->z1n N0 e c r ⟨bndV held r.fa.fVars.toNat c.fBindings⟩ K m ((k:Int),m0,m1)=K (m0++cfO (((r.fa.fEdges.drop k).filter (fun x=>decide (x.fFrom=c.fState))).filterMap (fun x=>coP r.fa held c x e))) (m1++maO (((r.fa.fEdges.drop k).filter (fun x=>decide (x.fFrom=c.fState))).filterMap (fun x=>coP r.fa held c x e)))
 |0,k,m0,m1,h1,h2,h3,h4=>by omega
 |m+1,k,m0,m1,h1,h2,h3,h4=>by
  unfold z1n
  simp only [length_map,z0c,z0y]
  by_cases h:k<r.fa.fEdges.length
  ·have hxe:=getElem_mem h
   rw [if_pos (by omega),z0j h,z0e _ k h,z1o k (by omega),filter_cons]
   by_cases q:r.fa.fEdges[k].fFrom=c.fState
   rotate_left
   ·rw [if_neg q,if_neg (by simpa using q)]
    exact zx5 hx hk hc hch hle K m (k+1) m0 m1 (by omega) (by omega) (by omega) (by omega)
   rw [if_pos q,if_pos (by simpa using q),y7b hx hk hc hxe hch,z04,filterMap_cons]
   cases hco:coP r.fa held c r.fa.fEdges[k] e with
   |none =>
    simp only [rfC,z6e]
    exact zx5 hx hk hc hch hle K m (k+1) m0 m1 (by omega) (by omega) (by omega) (by omega)
   |some d =>
    simp only [rfC,z6c]
    have z1:=zvh [d]
    have z2:=zt7 [d]
    simp only [length_singleton] at z1 z2
    rw [yhr d m0 m1 (by omega) (by omega),z8n]
    have ih:=zx5 hx hk hc hch hle K m (k+1) (m0++cfO [d]) (m1++maO [d]) (by omega) (by omega) (by rw [length_append];omega) (by rw [length_append];omega)
    refine ih.trans ?_
    rw [append_assoc,append_assoc,<-y4z,<-y3h]
    rfl
  ·rw [if_neg (by omega),drop_eq_nil_of_le (by omega)]
   simp [cfO,maO]
theorem zx4 (hx:CxA r.fa held)(hk:kk<=1000)(hc:CB held r.fa kk c)(hch:∀ y∈held,zdt y=zdt e->y=e)(hle:r.fa.fEdges.length<=100)(K:List Cf->List Ma->Option (List Cf×List Ma×z0m×Cf×Ev)) :
  ∀ (m k:Nat) (m0:List Cf) (m1:List Ma),k<=r.fa.fEdges.length->r.fa.fEdges.length<m+k->m0.length<=90000000+k->m1.length<=90000000+k->z1m N0 e c r ⟨bndV held r.fa.fVars.toNat c.fBindings⟩ K m ((k:Int),m0,m1)=K (m0++cfO (((r.fa.fEdges.drop k).filter (fun x=>decide (x.fFrom=c.fState))).filterMap (fun x=>coP r.fa held c x e))) (m1++maO (((r.fa.fEdges.drop k).filter (fun x=>decide (x.fFrom=c.fState))).filterMap (fun x=>coP r.fa held c x e)))
 |0,k,m0,m1,h1,h2,h3,h4=>by omega
 |m+1,k,m0,m1,h1,h2,h3,h4=>by
  unfold z1m
  simp only [length_map,z0c,z0y]
  by_cases h:k<r.fa.fEdges.length
  ·have hxe:=getElem_mem h
   rw [if_pos (by omega),z0j h,z0e _ k h,z1o k (by omega),filter_cons]
   by_cases q:r.fa.fEdges[k].fFrom=c.fState
   rotate_left
   ·rw [if_neg q,if_neg (by simpa using q)]
    exact zx4 hx hk hc hch hle K m (k+1) m0 m1 (by omega) (by omega) (by omega) (by omega)
   rw [if_pos q,if_pos (by simpa using q),y7b hx hk hc hxe hch,z04,filterMap_cons]
   cases hco:coP r.fa held c r.fa.fEdges[k] e with
   |none =>
    simp only [rfC,z6e]
    exact zx4 hx hk hc hch hle K m (k+1) m0 m1 (by omega) (by omega) (by omega) (by omega)
   |some d =>
    simp only [rfC,z6c]
    have z1:=zvh [d]
    have z2:=zt7 [d]
    simp only [length_singleton] at z1 z2
    rw [yhr d m0 m1 (by omega) (by omega),z8n]
    have ih:=zx4 hx hk hc hch hle K m (k+1) (m0++cfO [d]) (m1++maO [d]) (by omega) (by omega) (by rw [length_append];omega) (by rw [length_append];omega)
    refine ih.trans ?_
    rw [append_assoc,append_assoc,<-y4z,<-y3h]
    rfl
  ·rw [if_neg (by omega),drop_eq_nil_of_le (by omega)]
   simp [cfO,maO]
theorem yhq (hx:CxA r.fa held)(hm:HM held r.fheld)(hk:kk<=1000)(hc:CB held r.fa kk c)(hch:∀ y∈held,zdt y=zdt e->y=e)(hle:r.fa.fEdges.length<=100)(m0:List Cf)(m1:List Ma)(h0:m0.length<=10000000)(h1:m1.length<=10000000):z7d N0 m0 m1 r c e=some (m0++cfO (outP r.fa held c e),m1++maO (outP r.fa held c e),r,c,e):=by
 have hlb:=hc.lb
 have hlh:=hx.lh
 have hva:=hx.ok.vars
 have hns:¬c.fState<0:=by have:=hc.st;omega
 obtain ⟨st,g1,g2,g3⟩:=zu2 hc.st
 have hes:EvS (enH held c.fBindings):=zvc (by omega)
 have hab:=yiu ⟨hva.1,hva.2⟩ hc.bd
 have hgl:=(hx.wf.st st g2).1
 unfold z7d
 rw [ysd N0 (by decide) held r hm hva c.fBindings (by omega) hc.bd,z04,zx8 hc.st.1 g1]
 rw [yaf N0 ⟨bndV held r.fa.fVars.toNat c.fBindings⟩ e (vio (enH held c.fBindings) e) st.fGuards (by omega) (by unfold N0;omega) (fun g hg=>by
  unfold z4b
  have:=ymc hab hes ((hx.wf.st st g2).2 g hg) e
  refine (congrArg (fun o=>bnd o fun x1=>some x1) this).trans ?_
  rw [z04]),z04]
 have hsk:skP r.fa held c e=!(st.fGuards.any (vio (enH held c.fBindings) e)):=by unfold skP;rw [g3]
 rw [<-hsk]
 unfold outP
 rw [y4z,y3h]
 cases skP r.fa held c e with
 |true =>
  rw [z6c,yhr c m0 m1 (by omega) (by omega),z8n]
  have z1:=zvh [c]
  have z2:=zt7 [c]
  have l1:=fun K=>zx5 hx hk hc hch hle K N0 0 (m0++cfO [c]) (m1++maO [c]) (Nat.zero_le _) (by unfold N0;omega) (by grind) (by rw [length_append];simp at z2;omega)
  refine (l1 _).trans ?_
  rw [drop_zero]
  simp [append_assoc,zyu]
 |false =>
  rw [z6e]
  have l2:=fun K=>zx4 hx hk hc hch hle K N0 0 m0 m1 (Nat.zero_le _) (by unfold N0;omega) (by omega) (by omega)
  refine (l2 _).trans ?_
  rw [drop_zero]
  simp [zyu,cfO,maO]
theorem ydg (hx:CxA r.fa held)(hm:HM held r.fheld)(hk:kk<=1000)(hch:∀ y∈held,zdt y=zdt e->y=e)(hle:r.fa.fEdges.length<=100)(l:List Cf)(hc:∀ c∈l,CB held r.fa kk c)(hl:l.length<=5000)(K:List Cf->List Ma->Option (List Cf×List Ma)):∀ (m k:Nat) (m0:List Cf) (m1:List Ma),k<=l.length->l.length<m+k->m0.length<=101*k->m1.length<=101*k->z7t N0 e l r K m ((k:Int),m0,m1)=K (m0++(l.drop k).flatMap (fun c=>cfO (outP r.fa held c e))) (m1++(l.drop k).flatMap (fun c=>maO (outP r.fa held c e)))
 |0,k,m0,m1,h1,h2,h3,h4=>by omega
 |m+1,k,m0,m1,h1,h2,h3,h4=>by
  unfold z7t
  simp only [length_map,z0c]
  by_cases h:k<l.length
  ·have hck:=hc _ (getElem_mem h)
   have z3:=zvh (outP r.fa held l[k] e)
   have z4:=zt7 (outP r.fa held l[k] e)
   have z5:(outP r.fa held l[k] e).length<=r.fa.fEdges.length+1:=zrr
   have hb:ze7 N0 r l[k] e=some (r,l[k],e):=rfl
   rw [if_pos (by omega),z0j h,hb,z8n]
   simp only
   rw [yhq hx hm hk hck hch hle m0 m1 (by omega) (by omega),z8n,z0e _ k h,flatMap_cons,flatMap_cons,<-append_assoc,<-append_assoc,z1o k (by omega)]
   exact ydg hx hm hk hch hle l hc hl K m (k+1) _ _ (by omega) (by omega) (by rw [length_append];omega) (by rw [length_append];omega)
  grind
theorem zxb (f:α->List β)(n:Nat):∀ l:List α,(∀ x∈l,(f x).length<=n)->(l.flatMap f).length<=n*l.length
 |[],_=>by simp
 |x::l,h=>by
  have h1:=h x (by simp)
  have h2:=zxb f n l (fun y hy=>h y (mem_cons_of_mem _ hy))
  rw [flatMap_cons,length_append,length_cons,Nat.mul_succ]
  omega
theorem yhs (hx:CxA r.fa held)(hm:HM held r.fheld)(hk:kk<=1000)(hch:∀ y∈held,zdt y=zdt e->y=e)(hle:r.fa.fEdges.length<=100)(l:List Cf)(hc:∀ c∈l,CB held r.fa kk c)(hl:l.length<=5000):z5d N0 r l e=some (cfN r.fa held l e,maN r.fa held l e):=by
 have l1:=fun K=>ydg hx hm hk hch hle l hc hl K N0 0 [] [] (Nat.zero_le _) (by unfold N0;omega) (by simp) (by simp)
 unfold z5d
 refine (l1 _).trans ?_
 rw [drop_zero,nil_append,nil_append]
 have f1:=zxb (fun c=>cfO (outP r.fa held c e)) 101 l (fun c _=>by have:=zvh (outP r.fa held c e);have:(outP r.fa held c e).length<=r.fa.fEdges.length+1:=zrr;omega)
 have f2:=zxb (fun c=>maO (outP r.fa held c e)) 101 l (fun c _=>by have:=zt7 (outP r.fa held c e);have:(outP r.fa held c e).length<=r.fa.fEdges.length+1:=zrr;omega)
 rw [ygy N0 (by decide) _ (fun d hd=>by
  obtain ⟨c,hc1,hc2⟩:=mem_flatMap.1 hd
  exact yn3 hx hk (hc c hc1) e d hc2) (by omega),z8n,ynm N0 (by decide) _ (fun d hd=>by
  obtain ⟨c,hc1,hc2⟩:=mem_flatMap.1 hd
  exact yic hx hk (hc c hc1) e d hc2) (by omega),z8n]
 rfl
theorem yaa {e:Exn}(h:WfE e):∃ b:Bool,z9p N0 e=some b:=by
 obtain ⟨z,hz,ht⟩:=h
 obtain ⟨c,c1,_⟩:=yhm 200 (by omega) (by omega) z e ht hz N0 (by unfold N0;omega)
 obtain ⟨d,d1,_⟩:=ymg z e ht hz N0 (by unfold N0;omega)
 unfold z9p
 simp only [z2k,z1d,z72]
 rw [c1,z04,d1,z04,z0c]
 split
 ·exact ⟨_,rfl⟩
 ·exact ⟨_,rfl⟩
theorem yh4 (l:List Gd)(hw:∀ g∈l,WfE g.fCond)(hl:l.length<=1100000):∀ (m k:Nat),k<=l.length->l.length<m+k->∃ b:Bool,z96 N0 l (some true) m (k:Int)=some b
 |0,k,h1,h2=>by omega
 |m+1,k,h1,h2=>by
  unfold z96
  simp only [length_map,z0c,z0y]
  by_cases h:k<l.length
  ·obtain ⟨b,hb⟩:=yaa (hw _ (getElem_mem h))
   rw [if_pos (by omega),z0j h,hb,z04,z1o k (by omega)]
   cases b with
   |true=>rw [z6c];exact yh4 l hw hl m (k+1) (by omega) (by omega)
   |false=>rw [z6e];exact ⟨_,rfl⟩
  ·rw [if_neg (by omega)]
   exact ⟨_,rfl⟩
theorem ynu (st:Stt)(hw:st.fGuards.length<=1100000/\∀ g∈st.fGuards,WfE g.fCond):∃ b:Bool,zd9 N0 st.fGuards=some b:=yh4 st.fGuards hw.2 hw.1 N0 0 (Nat.zero_le _) (by have:=hw.1;unfold N0;omega)
theorem yd1 (a:Aut)(v:Int)(x:Ed)(ys:List Exn)(hy:x.fChecks=ys.map z0l)(hw:∀ y∈ys,WfE y)(hl:ys.length<=1100000)(P:Prop)(K:Option Bool)(hK:∃ b:Bool,K=some b/\(b=true->P)):∀ (m k:Nat),k<=ys.length->ys.length<m+k->∃ b:Bool,z97 N0 a v x K m (k:Int)=some b/\(b=true->P)
 |0,k,h1,h2=>by omega
 |m+1,k,h1,h2=>by
  unfold z97
  have hll:x.fChecks.length=ys.length:=by rw [hy,length_map]
  simp only [length_map,z0c,z0y,hll]
  by_cases h:k<ys.length
  ·obtain ⟨b,hb⟩:=yaa (hw _ (getElem_mem h))
   rw [if_pos (by omega),yav hy h,hb,z04,z1o k (by omega)]
   cases b with
   |true=>rw [z6c];exact yd1 a v x ys hy hw hl P K hK m (k+1) (by omega) (by omega)
   |false=>rw [z6e];exact ⟨false,rfl,fun h=>by cases h⟩
  ·rw [if_neg (by omega)]
   exact hK
def FewA (a:Aut):Prop:=a.fEdges.length<=40/\∀ x∈a.fEdges,x.fOpens.length<=12
theorem yd2 (a:Aut)(hw:WfA a)(K:Option Bool)(hK:∃ b:Bool,K=some b/\(b=true->a.fEdges.length<=40)):∀ (m k:Nat),k<=a.fEdges.length->k<=60->60<m+k->(∀ x∈a.fEdges.take k,x.fOpens.length<=12)->∃ b:Bool,z4k N0 a K m (k:Int)=some b/\(b=true->FewA a)
 |0,k,h1,h2,h3,h4=>by omega
 |m+1,k,h1,h2,h3,h4=>by
  have hex:(60<=k\/a.fEdges.length<=k)->∃ b:Bool,K=some b/\(b=true->FewA a):=fun hq=>by
   obtain ⟨b,b1,b2⟩:=hK
   refine ⟨b,b1,fun hb=>⟨b2 hb,fun x hx=>h4 x ?_⟩⟩
   have:=b2 hb
   rw [take_of_length_le (by omega)]
   exact hx
  have no:∃ b:Bool,some false=some b/\(b=true->FewA a):=⟨false,rfl,fun h=>by cases h⟩
  unfold z4k
  simp only [length_map,z0c,z2k,z1d,z5w,z1r,z0y,z6c,z6e]
  by_cases h:k<a.fEdges.length
  rotate_left
  ·rw [if_neg (by omega)];exact hex (by omega)
  rw [if_pos (by omega)]
  by_cases h60:k<60
  rotate_left
  ·rw [if_neg (by omega)];exact hex (by omega)
  rw [if_pos (by omega),z0j h,z1o k (by omega)]
  have wx:=hw.ed _ (getElem_mem h)
  obtain ⟨b,hb⟩:=yaa wx.cond
  rw [hb,z04]
  cases b with
  |false=>rw [z6e];exact no
  |true =>
  rw [z6c]
  split
  ·exact no
  split
  ·exact no
  split
  ·exact no
  split
  ·exact no
  split
  ·exact no
  rename_i q1 q2 q3 q4 q5
  obtain ⟨ys,hy,hyw⟩:=wx.checks
  have hyl:ys.length<=1100000:=by have:=wx.lc;rw [hy,length_map] at this;exact this
  have ih:=yd2 a hw K hK m (k+1) (by omega) (by omega) (by omega) (fun x hx=>by
   rw [take_succ_eq_append_getElem h] at hx
   rcases mem_append.1 hx with hx|hx
   ·exact h4 x hx
   ·rw [mem_singleton.1 hx];omega)
  exact yd1 a (k:Int) _ ys hy hyw hyl (FewA a) _ ih N0 0 (Nat.zero_le _) (by unfold N0;omega)
theorem yd3 (a:Aut)(hw:WfA a)(P:Prop)(K:Option Bool)(hK:∃ b:Bool,K=some b/\(b=true->P)):∀ (m k:Nat),k<=a.fStates.length->k<=30->30<m+k->∃ b:Bool,z4l N0 a K m (k:Int)=some b/\(b=true->P)
 |0,k,h1,h2,h3=>by omega
 |m+1,k,h1,h2,h3=>by
  have no:∃ b:Bool,some false=some b/\(b=true->P):=⟨false,rfl,fun h=>by cases h⟩
  unfold z4l
  simp only [length_map,z0c,z2k,z1d,z5v,z23,z0y,z6c,z6e]
  by_cases h:k<a.fStates.length
  rotate_left
  ·rw [if_neg (by omega)];exact hK
  rw [if_pos (by omega)]
  by_cases h60:k<30
  rotate_left
  ·rw [if_neg (by omega)];exact hK
  have ih:=yd3 a hw P K hK m (k+1) (by omega) (by omega) (by omega)
  obtain ⟨b,hb⟩:=ynu _ (hw.st _ (getElem_mem h))
  have hi:∀ Q:Stt->Option Bool,idx a.fStates (k:Int) Q=Q a.fStates[k]:=fun Q=>z0j h Q
  rw [if_pos (by omega),z1o k (by omega)]
  simp only [hi,hb,z04]
  repeat' split
  all_goals first|exact no|(cases b<;>first|(rw [z6c];exact ih)|(rw [z6e];exact no))|skip
theorem yo0 (a:Aut)(hw:WfA a):∃ b:Bool,zda N0 a=some b/\(b=true->FewA a):=by
 unfold zda
 refine yd3 a hw (FewA a) _ ?_ N0 0 (Nat.zero_le _) (by omega) (by unfold N0;omega)
 refine yd2 a hw _ ?_ N0 0 (Nat.zero_le _) (by omega) (by unfold N0;omega) (by simp)
 simp only [z2k,z1d,z6y,length_map,z0c]
 split
 ·exact ⟨_,rfl,fun h=>by simp at h;omega⟩
 ·exact ⟨_,rfl,fun h=>by cases h⟩
theorem y1s (l:List Ev)(hl:l.length<=1000000)(a:Aut)(K:List (Rf×Ev)->Option (Option z0m×Int)):∀ (m k:Nat) (mp:List (Rf×Ev)),k<=l.length->l.length<m+k->zfv N0 l a K m ((k:Int),mp)=K ((l.drop k).foldl (fun m e=>mput m (zdt e) e) mp)
 |0,k,mp,h1,h2=>by omega
 |m+1,k,mp,h1,h2=>by
  unfold zfv
  simp only [length_map,z0c]
  by_cases h:k<l.length
  ·have hr:zih N0 l[k]=some (zdt l[k]):=rfl
   rw [if_pos (by omega),z0j h,hr,z04,ymp,z0e _ k h,foldl_cons,z1o k (by omega)]
   exact y1s l hl a K m (k+1) _ (by omega) (by omega)
  grind
theorem yaj (a:Aut)(hw:WfA a)(l:List Ev)(hl:l.length<=1000000):∃ q:Int,z2q N0 a l=some q/\((q≠0/\zeo N0 a l=some (none,q))\/(q=0/\AOk a/\ypi l/\z5c N0 a=some 0/\zkq l=0/\∃ mp,HM l mp/\zeo N0 a l=some (some ⟨a,mp⟩,0))):=by
 obtain ⟨r,r1,r2,r3⟩:=ydh N0 (by decide) a hw
 unfold z2q zeo
 rw [r1,r2,z04,z04,z0y,z0c,z0y,z0c]
 by_cases h:r=0
 rotate_left
 ·simp_all
 rw [if_pos h,if_pos h,ymj N0 l (by unfold N0;omega) hl,yqv N0 l (by unfold N0;omega) (by decide) hl,z04,z04,z0y,z0c]
 refine ⟨zkq l,rfl,?_⟩
 by_cases hs:zkq l=0
 rotate_left
 ·simp_all
 rw [if_pos hs]
 have hso:=zxn hs
 refine Or.inr ⟨hs,r3 h,hso,by rw [h] ,hs,l.foldl (fun m e=>mput m (zdt e) e) [],fun r=>?_,?_⟩
 ·rw [yik r l [] hso.st]
  simp [mlk]
 ·refine (y1s l hl a _ N0 0 [] (Nat.zero_le _) (by unfold N0;omega)).trans ?_
  rw [drop_zero]
theorem yrh (hx:CxA a held)(hst:Str zkn held)(hc:CB held a k c)(hxe:x∈a.fEdges)(he:e∈held)(h:coP a held c x e=some d)(h0:0<=d.fState):CB held a (k+1) d:=by
 have hz:=yj3 hx hc hxe h
 have hd:=y4t h
 have eo:=hx.ok.ed x hxe
 refine ⟨?_,?_,?_,hz.1,hz.2⟩
 ·rw [hd] at h0 ⊢
  exact ⟨h0,eo.tgt.2⟩
 ·rw [hd]
  intro b hb
  rcases mem_append.1 hb with hb|hb
  ·exact hc.bd b hb
  ·rw [mem_singleton.1 hb]
   refine ⟨eo.var,?_⟩
   rw [yif hst he]
   rfl
 ·rw [hd]
  exact (ymo e.fTime x.fOpens hc.ss).filter _
theorem CB.up (h:CB held a k c):CB held a (k+1) c:=⟨h.st,h.bd,h.ss,by have:=h.lb;omega,by have:=h.ls;omega⟩
theorem yod (hx:CxA a held)(hst:Str zkn held)(hc:CB held a k c)(he:e∈held)(h:d∈outP a held c e)(h0:0<=d.fState):CB held a (k+1) d:=by
 unfold outP at h
 rcases mem_append.1 h with h|h
 ·split at h
  ·rw [mem_singleton.1 h]
   exact hc.up
  ·simp at h
 ·obtain ⟨x,hx',hd⟩:=mem_filterMap.1 h
  exact yrh hx hst hc (zu6 hx').1 he hd h0
theorem yjd (h:d∈cfN a held l e):∃ c∈l,d∈outP a held c e/\0<=d.fState:=by
 unfold cfN at h
 obtain ⟨c,h1,h2⟩:=mem_flatMap.1 ((zh9 cfCmp_to _ _).1 h)
 exact ⟨c,h1,yjc h2⟩
theorem yn4 (hx:CxA a held)(hst:Str zkn held)(hc:∀ c∈l,CB held a k c)(he:e∈held):∀ d∈cfN a held l e,CB held a (k+1) d:=fun d hd=>by
 obtain ⟨c,h1,h2,h3⟩:=yjd hd
 exact yod hx hst (hc c h1) he h2 h3
theorem yr0 (hx:CxA a held)(hk:k<=1000)(hc:∀ c∈l,CB held a k c)(e:Ev):∀ d∈maN a held l e,maOk d=true:=fun d hd=>by
 unfold maN at hd
 obtain ⟨c,h1,h2⟩:=mem_flatMap.1 ((zh9 zg1 _ _).1 hd)
 exact yic hx hk (hc c h1) e d h2
theorem yol (hle:a.fEdges.length<=100)(l:List Cf)(e:Ev):(maN a held l e).length<=101*l.length:=by
 unfold maN
 have f2:=zxb (fun c=>maO (outP a held c e)) 101 l (fun c _=>by have:=zt7 (outP a held c e);have:(outP a held c e).length<=a.fEdges.length+1:=zrr;omega)
 have:=zwx (c:=zbv) (l.flatMap (fun c=>maO (outP a held c e)))
 omega
def wiP (most:Nat)(a:Aut)(held:List Ev):List Ev->List Cf->List Ma->List Cf×List Ma×Bool
 |[],cs,ms=>(cs,ms,true)
 |e::r,cs,ms=>if most<(cfN a held cs e).length\/most<(puts zbv ms (maN a held cs e)).length then ([],[],false) else wiP most a held r (cfN a held cs e) (puts zbv ms (maN a held cs e))
theorem zvy {l:List Ev}(hx:CxA a l)(hst:Str zkn l)(hle:a.fEdges.length<=100)(most:Nat)(hm:most<=4096)(hm1:1<=most)(hl:l.length<=900) :
  ∀ (m k:Nat) (cs:List Cf) (ms:List Ma),k<=l.length->l.length<m+k->cs.length<=most->ms.length<=most->(∀ c∈cs,CB l a k c)->(∀ d∈ms,maOk d=true)->z2z N0 (most:Int) l a (fun y0 y1=>some (y0,y1,true)) m (cs,ms,(k:Int))=some (wiP most a l (l.drop k) cs ms)
 |0,k,cs,ms,h1,h2,h3,h4,h5,h6=>by omega
 |m+1,k,cs,ms,h1,h2,h3,h4,h5,h6=>by
  unfold z2z
  simp only [length_map,z0c]
  by_cases h:k<l.length
  ·have he:=getElem_mem h
   have z:=yol (held:=l) hle cs l[k]
   have o:=yr0 hx (by omega) h5 l[k]
   rw [if_pos (by omega),z0j h,ysg hx hle (by omega) l[k] cs h5 (by omega),z04,z0e _ k h]
   have l2:=fun K=>y6d (most:Int) l a (cs,ms,(k:Int)) (cfN a l cs l[k],maN a l cs l[k]) o (by grind) K N0 0 ms (Nat.zero_le _) (by show (maN a l cs l[k]).length<2000000000+0;omega) (by show ms.length+((maN a l cs l[k]).length-0)<=1000000;omega) h6
   refine (l2 _).trans ?_
   rw [drop_zero]
   simp only [z2k,z1d,z47,z0c,z6c]
   have ih:=zvy hx hst hle most hm hm1 hl m (k+1) (cfN a l cs l[k]) (puts zbv ms (maN a l cs l[k])) (by omega) (by omega)
   unfold wiP
   by_cases q1:most<(cfN a l cs l[k]).length
   ·simp_all
   rw [if_neg (by omega)]
   by_cases q2:most<(puts zbv ms (maN a l cs l[k])).length
   ·simp_all
   rw [if_neg (by omega),if_neg (by omega),z1o k (by omega)]
   exact ih (by omega) (by omega) (yn4 hx hst h5 he) (yci h6 o)
  ·rw [if_neg (by omega),drop_eq_nil_of_le (by omega)]
   rfl
theorem cb0 {l:List Ev}(ha:AOk a):CB l a 0 cf0:=⟨⟨by simp,by have:=ha.st;simp;omega⟩,fun b hb=>by simp at hb,by simp [SS],by simp,by simp⟩
theorem yh0 {l:List Ev}(hx:CxA a l)(hst:Str zkn l)(hle:a.fEdges.length<=100)(most:Nat)(hm:most<=4096)(hm1:1<=most)(hl:l.length<=900):zb2 N0 a l (most:Int)=some (wiP most a l l [cf0] []):=by
 unfold zb2
 have hb:ze3 N0=some cf0:=rfl
 rw [hb,z04]
 exact zvy hx hst hle most hm hm1 hl N0 0 [cf0] [] (Nat.zero_le _) (by unfold N0;omega) (by simp;omega) (by simp) (fun c hc=>by rw [mem_singleton.1 hc];exact cb0 hx.ok) (by simp)
theorem ygz (a:Aut)(hw:WfA a)(l:List Ev):∃ b:Bool,z9t N0 a l=some b/\(b=true->FewA a/\l.length<=12/\∃ q:Int,z2q N0 a l=some q/\(q=0->(wiP 150 a l l [cf0] []).2.2=true)):=by
 obtain ⟨b,b1,b2⟩:=yo0 a hw
 unfold z9t
 simp only [z2k,z1d,z4u]
 rw [b1,z04,yqk N0 l (by decide),z0y,z04]
 cases b with
 |false=>rw [z6e,z6c];simp_all
 |true =>
  rw [z6c]
  cases hfl:fewE l with
  |false=>simp only [Bool.not_false,z6c];simp_all
  |true =>
   simp only [Bool.not_true,z6e]
   obtain ⟨hl,_⟩:=yll hfl
   obtain ⟨q,q1,q2⟩:=yaj a hw l (by omega)
   rw [q1,z04,z0y,z0c]
   rcases q2 with ⟨h,_⟩|⟨h,ha,hs,_,_,_⟩
   ·simp_all
   ·have hf:=b2 rfl
    have hx:CxA a l:=⟨hw,ha,fun x hx=>by have:=hf.2 x hx;omega,by omega⟩
    have hr:=yh0 hx hs.st (by have:=hf.1;omega) 150 (by omega) (by omega) (by omega)
    have h4:((150:Nat):Int)=150:=rfl
    rw [h4] at hr
    rw [if_pos h,hr,z04]
    simp_all
variable {h1 h2:List Ev}
theorem zyv:∀ (l:List Bd) (vs:List (List Ev)),(∀ b∈l,lkH h1 b.fRef=lkH h2 b.fRef)->l.foldl (addB h1) vs=l.foldl (addB h2) vs
 |[],vs,_=>rfl
 |b::l,vs,h=>by
  rw [foldl_cons,foldl_cons]
  have:addB h1 vs b=addB h2 vs b:=by unfold addB;rw [h b (by simp)]
  rw [this]
  exact zyv l _ (fun x hx=>h x (mem_cons_of_mem _ hx))
theorem zz8 {l:List Bd}(h:∀ b∈l,lkH h1 b.fRef=lkH h2 b.fRef):enH h1 l=enH h2 l:=zyv l _ h
theorem yj4 (h:∀ b∈c.fBindings,lkH h1 b.fRef=lkH h2 b.fRef)(x:Ed)(e:Ev):coP a h1 c x e=coP a h2 c x e:=by
 have e2:enH (e::h1) (bdN c x e)=enH (e::h2) (bdN c x e):=zz8 (fun b hb=>by
  unfold lkH
  rw [find?_cons,find?_cons]
  by_cases q:zdt e=b.fRef
  ·simp [q]
  ·simp only [q,decide_false]
   rcases mem_append.1 hb with hb|hb
   ·exact h b hb
   ·rw [mem_singleton.1 hb] at q;exact absurd rfl q)
 unfold coP
 rw [zz8 h,e2]
theorem y1u (h:∀ b∈c.fBindings,lkH h1 b.fRef=lkH h2 b.fRef)(e:Ev):outP a h1 c e=outP a h2 c e:=by
 unfold outP skP
 rw [zz8 h]
 congr 1
 exact congrArg (fun f=>filterMap f (zyu a c.fState)) (funext fun x=>yj4 h x e)
theorem zv9 {f g:α->List β}:∀ {l:List α},(∀ x∈l,f x=g x)->l.flatMap f=l.flatMap g
 |[],_=>rfl
 |x::l,h=>by rw [flatMap_cons,flatMap_cons,h x (by simp),zv9 (fun y hy=>h y (mem_cons_of_mem _ hy))]
theorem yje (h:∀ c∈l,∀ b∈c.fBindings,lkH h1 b.fRef=lkH h2 b.fRef)(e:Ev):cfN a h1 l e=cfN a h2 l e:=by
 unfold cfN;rw [zv9 (fun c hc=>by rw [y1u (h c hc) e])]
theorem yid (h:∀ c∈l,∀ b∈c.fBindings,lkH h1 b.fRef=lkH h2 b.fRef)(e:Ev):maN a h1 l e=maN a h2 l e:=by
 unfold maN;rw [zv9 (fun c hc=>by rw [y1u (h c hc) e])]
theorem yom {l more:List Ev}(hs:Str zkn more)(hm:∀ x∈l,x∈more){r:Rf}(h:(lkH l r).isSome=true):lkH l r=lkH more r:=by
 obtain ⟨y,hy⟩:=Option.isSome_iff_exists.1 h
 obtain ⟨h1,h2⟩:=yaq hy
 have:=yif hs (hm y h2)
 rw [h1] at this
 rw [hy,this]
theorem ysp {l more:List Ev}(hs:Str zkn more)(hm:∀ x∈l,x∈more){cs:List Cf}(hc:∀ c∈cs,CB l a k c):∀ c∈cs,∀ b∈c.fBindings,lkH l b.fRef=lkH more b.fRef:=fun c h b hb=>yom hs hm ((hc c h).bd b hb).2
theorem ymh (a b:Rf):zi5 N0 a b=some (rCmp a b):=by
 have:zi5 (1999999996+4) a b=some (rCmp a b):=by
  unfold zi5
  simp only [z04,yaz,yln]
  rfl
 exact this
structure CIv (a:Aut) (rest:List Ev) (c:Cf):Prop where
 asc:c.fBindings.Pairwise (fun x y=>rCmp x.fRef y.fRef<0)
 bef:∀ b∈c.fBindings,∀ e∈rest,rCmp b.fRef (zdt e)<0
 scp:∀ s∈c.fStarts,(0<=s.fScope/\s.fScope<a.fScopes)/\0<=s.fTime/\s.fTime<=1099511627776
theorem CIv.tail {r:List Ev}(h:CIv a (e::r) c):CIv a r c:=⟨h.asc,fun b hb x hx=>h.bef b hb x (mem_cons_of_mem _ hx),h.scp⟩
theorem yrg (ha:AOk a){r:List Ev}(hst:Str zkn (e::r))(hp:zf0 e=true)(h:CIv a (e::r) c)(hx:x∈a.fEdges)(hd:coP a held c x e=some d):CIv a r d:=by
 rw [y4t hd]
 obtain ⟨s1,s2⟩:=pairwise_cons.1 hst
 refine ⟨?_,fun b hb y hy=>?_,fun s hs=>?_⟩
 ·show Pairwise _ (bdN c x e)
  unfold bdN
  rw [pairwise_append]
  exact ⟨h.asc,pairwise_singleton _ _,fun b hb y hy=>by rw [mem_singleton.1 hy];exact h.bef b hb e (by simp)⟩
 ·rcases mem_append.1 hb with hb|hb
  ·exact h.bef b hb y (mem_cons_of_mem _ hy)
  ·rw [mem_singleton.1 hb];exact s1 y hy
 ·have hs':=(mem_filter.1 hs).1
  rcases opL_mem e.fTime x.fOpens hs' with ⟨k1,k2⟩|k
  ·refine ⟨(ha.ed x hx).opn _ k1,?_⟩
   rw [k2]
   unfold zf0 at hp
   simp only [Bool.and_eq_true,decide_eq_true_eq] at hp
   exact ⟨hp.1,hp.2.1⟩
  ·exact h.scp s k
theorem yoc (ha:AOk a){r:List Ev}(hst:Str zkn (e::r))(hp:zf0 e=true)(h:CIv a (e::r) c)(hd:d∈outP a held c e):CIv a r d:=by
 unfold outP at hd
 rcases mem_append.1 hd with hd|hd
 ·split at hd
  ·rw [mem_singleton.1 hd];exact h.tail
  ·simp at hd
 ·obtain ⟨x,hx,hd⟩:=mem_filterMap.1 hd
  exact yrg ha hst hp h (zu6 hx).1 hd
theorem yrk (ha:AOk a){r:List Ev}(hst:Str zkn (e::r))(hp:zf0 e=true){cs:List Cf}(h:∀ c∈cs,CIv a (e::r) c):∀ d∈cfN a held cs e,CIv a r d:=fun d hd=>by
 obtain ⟨c,h1,h2,_⟩:=yjd hd
 exact yoc ha hst hp (h c h1) h2
theorem yc2:∀ (p:List Ev) (cs:List Cf) (ms:List Ma),(wiP 150 a held (p++[e]) cs ms).2.2=true->∃ x m,wiP 150 a held p cs ms=(x,m,true)/\wiP 150 a held (p++[e]) cs ms=(cfN a held x e,puts zbv m (maN a held x e),true)/\(cfN a held x e).length<=150/\(puts zbv m (maN a held x e)).length<=150
 |[],cs,ms,h=>by
  refine ⟨cs,ms,rfl,?_⟩
  rw [nil_append] at h ⊢
  unfold wiP at h ⊢
  split at h
  ·cases h
  ·rename_i q
   rw [if_neg q]
   exact ⟨rfl,by omega,by omega⟩
 |f::p,cs,ms,h=>by
  rw [cons_append] at h ⊢
  unfold wiP at h ⊢
  split at h
  ·cases h
  ·rename_i q
   rw [if_neg q,if_neg q]
   exact yc2 p _ _ h
theorem y1p (r:z0m)(c:Cf)(hl:c.fStarts.length<=1000000)(hs:∀ s∈c.fStarts,(0<=s.fScope/\s.fScope<r.fa.fScopes)/\0<=s.fTime/\s.fTime<=1099511627776)(ha:SS c.fStarts):∀ (m k:Nat),k<=c.fStarts.length->c.fStarts.length<m+k->z2j N0 c r (some 0) m (k:Int)=some 0
 |0,k,h1,h2=>by omega
 |m+1,k,h1,h2=>by
  unfold z2j
  simp only [length_map,z0c,z2k,z1d,z2v,z68,z6c,z6e]
  by_cases h:k<c.fStarts.length
  ·obtain ⟨⟨q1,q2⟩,q3,q4⟩:=hs _ (getElem_mem h)
   have ih:=y1p r c hl hs ha m (k+1) (by omega) (by omega)
   rw [if_pos (by omega),z0j h,if_neg (by omega),if_neg (by omega),if_neg (by omega),if_neg (by omega),z1o k (by omega)]
   by_cases h0:0<k
   ·have:=pairwise_iff_getElem.1 ha (k-1) k (by omega) h (by omega)
    rw [if_pos (by omega),yel k (by omega) (by omega),z0j (by omega:k-1<c.fStarts.length),if_neg (by omega)]
    exact ih
   ·rw [if_neg (by omega)]
    exact ih
  ·rw [if_neg (by omega)]
theorem y1q (r:z0m)(held:List Ev)(hm:HM held r.fheld)(c:Cf)(hl:c.fBindings.length<=1000000)(hb:BdOk held r.fa.fVars c.fBindings)(ha:c.fBindings.Pairwise (fun x y=>rCmp x.fRef y.fRef<0))(K:Option Int)(hK:K=some 0):∀ (m k:Nat),k<=c.fBindings.length->c.fBindings.length<m+k->z4o N0 c r K m (k:Int)=some 0
 |0,k,h1,h2=>by omega
 |m+1,k,h1,h2=>by
  unfold z4o
  simp only [length_map,z0c,z2k,z1d,z67,z65,z6c,z6e,z0y]
  by_cases h:k<c.fBindings.length
  ·obtain ⟨⟨q1,q2⟩,q3⟩:=hb _ (getElem_mem h)
   have ih:=y1q r held hm c hl hb ha K hK m (k+1) (by omega) (by omega)
   have e1:(⟨c.fBindings[k].fRef.fTime,c.fBindings[k].fRef.fSource,c.fBindings[k].fRef.fSeq⟩:Rf)=c.fBindings[k].fRef:=rfl
   rw [if_pos (by omega),z0j h,e1,yi8,hm,q3]
   simp only [z6c]
   rw [if_neg (by omega),if_neg (by omega),z1o k (by omega)]
   by_cases h0:0<k
   ·have:=pairwise_iff_getElem.1 ha (k-1) k (by omega) h (by omega)
    have e2:(⟨c.fBindings[k-1].fRef.fTime,c.fBindings[k-1].fRef.fSource,c.fBindings[k-1].fRef.fSeq⟩:Rf)=c.fBindings[k-1].fRef:=rfl
    rw [if_pos (by omega),yel k (by omega) (by omega),z0j (by omega:k-1<c.fBindings.length),e2,ymh,z04,if_neg (by omega)]
    exact ih
   ·rw [if_neg (by omega)]
    exact ih
  ·rw [if_neg (by omega)]
   exact hK
theorem yku (hm:HM held r.fheld)(hk:k<=1000)(hc:CB held r.fa k c){rest:List Ev}(hi:CIv r.fa rest c):z69 N0 r c=some 0:=by
 have h1:=hc.lb
 have h2:=hc.ls
 have h3:=hc.st
 unfold z69
 simp only [z2k,z1d,z75,z0c,z6c,length_map]
 rw [if_neg (by omega),if_neg (by omega),if_neg (by omega)]
 have:=y1p r c (by omega) hi.scp hc.ss N0 0 (Nat.zero_le _) (by unfold N0;omega)
 exact y1q r held hm c (by omega) hc.bd hi.asc _ this N0 0 (Nat.zero_le _) (by unfold N0;omega)
theorem yqc (e:Ev):zii N0 e=some (zf0 e):=by
 unfold zii zf0
 simp only [z2k,z1d,z84,z0c]
 repeat' split
 all_goals (simp_all<;>omega)
theorem yqj {r:List Ev}(hp:zf0 e=true)(l:List Cf)(hl:l.length<=1000000)(hb:∀ c∈l,c.fBindings.length<=1000000)(h:∀ c∈l,CIv a (e::r) c):zi6 N0 l e=some 0:=by
 unfold zi6
 rw [yqc,hp,z04,z0y,z6c]
 rw [yfa N0 e (fun _=>false) l (by omega) (by unfold N0;omega) (fun c hc=>by
  have hbl:=hb c hc
  unfold zgi zs0
  rw [yf9 N0 e (fun b=>decide (0<=rCmp b.fRef (zdt e))) c.fBindings (by omega) (by unfold N0;omega) (fun b _=>by
   unfold zgh
   have hr:zih N0 e=some (zdt e):=rfl
   rw [hr,z04]
   have e1:(⟨b.fRef.fTime,b.fRef.fSource,b.fRef.fSeq⟩:Rf)=b.fRef:=rfl
   have e2:(⟨(zdt e).fTime,(zdt e).fSource,(zdt e).fSeq⟩:Rf)=zdt e:=rfl
   simp only [e1,e2,ymh,z04]),z04,z04]
  congr 1
  rw [any_eq_false]
  intro b hb'
  have:=(h c hc).bef b hb' e (by simp)
  simp only [decide_eq_true_eq]
  omega),z04]
 have:(l.any fun _=>false)=false:=by rw [any_eq_false];simp
 rw [this,z6e]
theorem ydf (e:Ev)(l:List Cf)(hl:l.length<=1000000)(h:∀ c∈l,z69 N0 r c=some 0)(K:Int->Int->List zem->List z0t->List (z1f×z03)->Option (List Cf×List Ma×Int)):∀ (m k:Nat),k<=l.length->l.length<m+k->zdu N0 e l r K m (k:Int)=K r.fa.fVars r.fa.fScopes r.fa.fStates r.fa.fEdges r.fheld
 |0,k,h1,h2=>by omega
 |m+1,k,h1,h2=>by
  unfold zdu
  simp only [length_map,z0c,z0y]
  by_cases hk:k<l.length
  ·rw [if_pos (by omega),z0j hk,h _ (getElem_mem hk),z04,if_pos rfl,z1o k (by omega)]
   exact ydf e l hl h K m (k+1) (by omega) (by omega)
  ·rw [if_neg (by omega)]
theorem yja:∀ (l p r:List Ev),chk p (l++r)=0->chk p l=0
 |[],p,r,_=>by unfold chk;rfl
 |e::l,p,r,h=>by
  rw [cons_append] at h
  unfold chk at h ⊢
  split at h
  ·cases h
  split at h
  ·cases h
  split at h
  ·cases h
  rename_i h1 h2 h3
  rw [if_neg h1,if_neg h2,if_neg h3]
  exact yja l (e::p) r h
theorem yen {l r:List Ev}(h:zkq (l++r)=0):zkq l=0:=by
 unfold zkq at h ⊢
 split at h
 ·cases h
 ·rename_i q
  rw [length_append] at q
  rw [if_neg (by omega)]
  exact yja l [] r h
end Go.Proofs.YtidhlpjgifoneaaGreat
