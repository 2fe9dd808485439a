/- Layer 25, plainly. -/
import Derived.Test.YtidhlpjgifoneaaGreatK31
set_option linter.unusedVariables false
set_option linter.unusedSimpArgs false
namespace Go.Proofs.YtidhlpjgifoneaaGreat
open Go.RowKit List
def cfO (l:List Cf):List Cf:=l.filter (fun d=>!decide (d.fState<0))
def maO (l:List Cf):List Ma:=(l.filter (fun d=>decide (d.fState<0))).map (fun d=>⟨d.fBindings⟩)
def zy7 (a:Aut)(s:Int):List Ed:=a.fEdges.filter (fun x=>decide (x.fFrom=s))
def skP (a:Aut)(held:List Ev)(c:Cf)(e:Ev):Bool:=!(zwq a c.fState).any (vio (enH held c.fBindings) e)
def outP (a:Aut)(held:List Ev)(c:Cf)(e:Ev):List Cf:=(if skP a held c e=true then [c] else [])++(zy7 a c.fState).filterMap (fun x=>coP a held c x e)
theorem y4b (d:Cf)(l:List Cf):cfO (d::l)=if d.fState<0 then cfO l else d::cfO l:=by
 unfold cfO;grind
theorem y2p (d:Cf)(l:List Cf):maO (d::l)=if d.fState<0 then (⟨d.fBindings⟩:Ma)::maO l else maO l:=by
 unfold maO;grind
theorem y4c (l m:List Cf):cfO (l++m)=cfO l++cfO m:=by unfold cfO;rw [filter_append]
theorem y2q (l m:List Cf):maO (l++m)=maO l++maO m:=by unfold maO;simp_all
theorem zuv (l:List Cf):(cfO l).length<=l.length:=length_filter_le _ _
theorem zsm (l:List Cf):(maO l).length<=l.length:=by unfold maO;grind
variable {l:List Cf}{d:Cf}
theorem yik (h:d∈cfO l):d∈l/\0<=d.fState:=by
 have:=mem_filter.1 h
 exact ⟨this.1,by simpa using this.2⟩
theorem ynq {m:Ma}(h:m∈maO l):∃ d∈l,m=⟨d.fBindings⟩:=by
 obtain ⟨d,hd,rfl⟩:=mem_map.1 h
 grind
def Sz (k:Nat)(c:Cf):Prop:=c.fBindings.length<=k/\c.fStarts.length<=100*k
variable {k:Nat}{c:Cf}
theorem Sz.ok (hk:k<=1001)(h:Sz k c):cfOk c=true:=(zfd c).2 ⟨by have:=h.1;omega,by have:=h.2;omega⟩
variable {a:Aut}{held:List Ev}{x:Ed}{e:Ev}
theorem y46 (h:coP a held c x e=some d):d=⟨x.fTo,bdN c x e,(stN c x e).filter (ncl x)⟩:=by
 unfold coP at h
 simp_all
theorem yic (hx:CxA a held)(hc:CB held a k c)(hxe:x∈a.fEdges)(h:coP a held c x e=some d):Sz (k+1) d:=by
 rw [y46 h]
 have h1:=hc.lb
 have h2:=hc.ls
 have h3:=hx.lo x hxe
 have h4:=y2m e.fTime x.fOpens c.fStarts
 have h5:=length_filter_le (ncl x) (stN c x e)
 refine ⟨by unfold bdN;simp;omega,?_⟩
 unfold stN at h5 ⊢
 simp only
 omega
theorem CB.sz (h:CB held a k c):Sz k c:=⟨h.lb,h.ls⟩
theorem ztl {s:Int}(h:x∈zy7 a s):x∈a.fEdges/\x.fFrom=s:=by
 have:=mem_filter.1 h
 exact ⟨this.1,by simpa using this.2⟩
theorem yh4 (hx:CxA a held)(hc:CB held a k c)(h:d∈outP a held c e):Sz (k+1) d:=by
 unfold outP at h
 rcases mem_append.1 h with h|h
 ·split at h
  ·rw [mem_singleton.1 h]
   have:=hc.sz
   exact ⟨by have:=this.1;omega,by have:=this.2;omega⟩
  ·simp at h
 ·obtain ⟨x,hx',hd⟩:=mem_filterMap.1 h
  exact yic hx hc (ztl hx').1 hd
theorem zr4:(outP a held c e).length<=a.fEdges.length+1:=by
 unfold outP zy7
 grind
theorem ya1 (hk:k<=1001)(h:Sz k c):maOk ⟨c.fBindings⟩=true:=(zgt _).2 (by have:=h.1;simp;omega)
theorem y0o (e:Ev)(env:List (List Ev))(hs:EvS env)(st:Stt)(hg:st.fGuards.length<=1100000)(hw:∀ g∈st.fGuards,WfE g.fCond):∀ (m k:Nat),k<=st.fGuards.length->st.fGuards.length<m+k->z79 N0 e ⟨env⟩ st (some true) m (k:Int)=some (!(st.fGuards.drop k).any (vio env e))
 |0,k,h1,h2=>by omega
 |m+1,k,h1,h2=>by
  unfold z79
  simp only [length_map,z0c]
  by_cases h:k<st.fGuards.length
  ·rw [if_pos (by omega),z0k h,z0e _ k h,any_cons,ygd hs (hw _ (getElem_mem h)),z04,z1m k (by omega),y0o e env hs st hg hw m (k+1) (by omega) (by omega)]
   cases vio env e st.fGuards[k]<;>simp [z52,z65]
  grind
theorem yk3 (hx:CxA a held)(hk:k<=1000)(hc:CB held a k c)(e:Ev):zbg N0 a held c e=some (skP a held c e):=by
 have hlb:=hc.lb
 have hlh:=hx.lh
 obtain ⟨st,g1,g2,g3⟩:=zth hc.st
 unfold zbg skP
 rw [ygi N0 (by decide) held (by omega) c (by omega),z04,zwp hc.st.1 g1,g3]
 have:=y0o e (enH held c.fBindings) (zur (by omega)) st (hx.wf.st st g2).1 (hx.wf.st st g2).2 N0 0 (Nat.zero_le _) (by have:=(hx.wf.st st g2).1;unfold N0;omega)
 simp_all
theorem zxw (s:Int)(a:Aut)(hl:a.fEdges.length<=1000000)(K:List Ed->Option (List Ed)):∀ (m k:Nat) (out:List Ed),k<=a.fEdges.length->a.fEdges.length<m+k->out.length<=k->z5p N0 s a K m ((k:Int),out)=K (out++(a.fEdges.drop k).filter (fun x=>decide (x.fFrom=s)))
 |0,k,out,h1,h2,h3=>by omega
 |m+1,k,out,h1,h2,h3=>by
  unfold z5p
  simp only [length_map,z0c]
  by_cases h:k<a.fEdges.length
  ·have i1:=zxw s a hl K m (k+1) (out++[a.fEdges[k]]) (by omega) (by omega) (by simp_all)
   have i2:=zxw s a hl K m (k+1) out (by omega) (by omega) (by omega)
   rw [if_pos (by omega),z1e,z0k h,z0k h,z0e _ k h,z1m k (by omega),zbc (by grind) (by omega),i1,i2,filter_cons]
   grind
  ·rw [if_neg (by omega),drop_eq_nil_of_le (by omega)]
   simp
theorem ypo (s:Int)(a:Aut)(hl:a.fEdges.length<=1000000):zbz N0 a s=some (zy7 a s):=by
 have:=zxw s a hl (fun y=>some y) N0 0 [] (Nat.zero_le _) (by unfold N0;omega) (by simp)
 unfold zbz zy7
 exact this
variable {kk:Nat}
theorem zwk (hx:CxA a held)(hk:kk<=1000)(hc:CB held a kk c)(e:Ev)(es:List Ed)(hes:∀ x∈es,x∈a.fEdges)(hl:es.length<=100000)(K:List Cf->List Ma->Option (List Cf×List Ma)) :
  ∀ (m k:Nat) (cs:List Cf) (ms:List Ma),k<=es.length->es.length<m+k->cs.length<=k+1->ms.length<=k->(∀ d∈cs,cfOk d=true)->(∀ d∈ms,maOk d=true)->z4c N0 e c held a es K m (cs,ms,(k:Int))=K (puts zbo cs (cfO ((es.drop k).filterMap (fun x=>coP a held c x e)))) (puts z7s ms (maO ((es.drop k).filterMap (fun x=>coP a held c x e))))
 |0,k,cs,ms,h1,h2,h3,h4,h5,h6=>by omega
 |m+1,k,cs,ms,h1,h2,h3,h4,h5,h6=>by
  unfold z4c
  simp only [length_map,z0c,z0x]
  by_cases h:k<es.length
  ·have hxe:=hes _ (getElem_mem h)
   have hcon:=yef hx hk hc hxe e
   rw [if_pos (by omega),z0k h,z0e _ k h,filterMap_cons,z1m k (by omega)]
   cases hco:coP a held c es[k] e with
   |none =>
    have hcon':z5n N0 a held c es[k] e=some (cf0,false):=hcon.trans (by rw [hco];rfl)
    rw [hcon',z04]
    simp only [z65]
    exact zwk hx hk hc e es hes hl K m (k+1) cs ms (by omega) (by omega) (by omega) (by omega) h5 h6
   |some d =>
    have hd:=yic hx hc hxe hco
    have hcon':z5n N0 a held c es[k] e=some (d,true):=hcon.trans (by rw [hco];rfl)
    rw [hcon',z04]
    simp only [z52,z1e]
    rw [y4b,y2p]
    by_cases hs:d.fState<0
    ·rw [if_pos hs,if_pos hs,if_pos hs,ygq N0 (by decide) _ (ya1 (by omega) hd) ms h6 (by omega),z04,zh5]
     have hil:=znw z7s (⟨d.fBindings⟩:Ma) ms
     exact zwk hx hk hc e es hes hl K m (k+1) cs _ (by omega) (by omega) (by omega) (by omega) h5 (y2x (ya1 (by omega) hd) h6)
    ·rw [if_neg hs,if_neg hs,if_neg hs,ygr N0 (by decide) _ (hd.ok (by omega)) cs h5 (by omega),z04,zh5]
     have hil:=znw zbo d cs
     exact zwk hx hk hc e es hes hl K m (k+1) _ ms (by omega) (by omega) (by omega) (by omega) (yd1 (hd.ok (by omega)) h5) h6
  ·rw [if_neg (by omega),drop_eq_nil_of_le (by omega)]
   rfl
theorem yrh (hx:CxA a held)(hle:a.fEdges.length<=100000)(hk:kk<=1000)(hc:CB held a kk c)(e:Ev):zcy N0 a held c e=some (setL zbo (cfO (outP a held c e)),setL z7s (maO (outP a held c e))):=by
 have hfl:(zy7 a c.fState).length<=100000:=by
  have:=length_filter_le (fun x:Ed=>decide (x.fFrom=c.fState)) a.fEdges
  unfold zy7;omega
 have l1:=fun cs h3 h5=>zwk hx hk hc e (zy7 a c.fState) (fun x h=>(ztl h).1) hfl (fun k1_1_0y0 k1_1_0y1=>some (k1_1_0y0,k1_1_0y1)) N0 0 cs [] (Nat.zero_le _) (by unfold N0;omega) h3 (by simp) h5 (by simp)
 have hns:¬c.fState<0:=by have:=hc.st;omega
 unfold zcy
 simp only [z2i,z1e,z6p]
 rw [yk3 hx hk hc e,z04,ypo _ a (by omega)]
 simp only [z04]
 unfold outP setL
 rw [y4c,y2q,zj3,zj3]
 cases skP a held c e with
 |true =>
  have hput:=ygr N0 (by decide) c (hc.sz.ok (by omega)) [] (by simp) (by simp)
  rw [z52,hput,z04]
  have:=l1 (insU zbo c []) (by simp [insU]) (by simp [insU];exact hc.sz.ok (by omega))
  refine this.trans ?_
  have e1:puts zbo [] (cfO (if true=true then [c] else []))=insU zbo c []:=by
   rw [if_pos rfl,y4b,if_neg hns];rfl
  have e2:puts z7s [] (maO (if true=true then [c] else []))=[]:=by
   rw [if_pos rfl,y2p,if_neg hns];rfl
  rw [e1,e2]
  rfl
 |false =>
  rw [z65]
  refine (l1 [] (by simp) (by simp)).trans ?_
  rfl
theorem ycm (e:Ev)(l:List Cf)(held:List Ev)(a:Aut)(v:List Cf×List Ma×Int)(x:List Cf×List Ma)(hok:∀ d∈x.1,cfOk d=true)(hl:x.1.length<=100000)(K:List Cf->List Ma->Option (List Cf×List Ma)):∀ (m k:Nat) (cs:List Cf),k<=x.1.length->x.1.length<m+k->cs.length+(x.1.length-k)<=1000000->(∀ d∈cs,cfOk d=true)->z8w N0 e l held a v x K m (cs,(k:Int))=K (puts zbo cs (x.1.drop k)) x.2
 |0,k,cs,h1,h2,h3,h4=>by omega
 |m+1,k,cs,h1,h2,h3,h4=>by
  unfold z8w
  simp only [length_map,z0c]
  by_cases h:k<x.1.length
  ·have ho:=hok _ (getElem_mem h)
   have hil:=znw zbo x.1[k] cs
   rw [if_pos (by omega),z0k h,ygr N0 (by decide) _ ho cs h4 (by omega),z04,z0e _ k h,zh5,z1m k (by omega)]
   exact ycm e l held a v x hok hl K m (k+1) _ (by omega) (by omega) (by omega) (yd1 ho h4)
  ·rw [if_neg (by omega),drop_eq_nil_of_le (by omega)]
   rfl
theorem ycl (e:Ev)(l:List Cf)(held:List Ev)(a:Aut)(v:List Cf×List Ma×Int)(y0:List Cf)(x:List Ma)(hok:∀ d∈x,maOk d=true)(hl:x.length<=100000)(K:List Ma->Option (List Cf×List Ma)):∀ (m k:Nat) (cs:List Ma),k<=x.length->x.length<m+k->cs.length+(x.length-k)<=1000000->(∀ d∈cs,maOk d=true)->z8v N0 e l held a v y0 x K m (cs,(k:Int))=K (puts z7s cs (x.drop k))
 |0,k,cs,h1,h2,h3,h4=>by omega
 |m+1,k,cs,h1,h2,h3,h4=>by
  unfold z8v
  simp only [length_map,z0c]
  by_cases h:k<x.length
  ·have ho:=hok _ (getElem_mem h)
   have hil:=znw z7s x[k] cs
   have hp:=ygq N0 (by decide) x[k] ho cs h4 (by omega)
   rw [if_pos (by omega),z0k h,z0e _ k h,zh5,z1m k (by omega),hp,z04]
   exact ycl e l held a v y0 x hok hl K m (k+1) _ (by omega) (by omega) (by omega) (y2x ho h4)
  ·rw [if_neg (by omega),drop_eq_nil_of_le (by omega)]
   rfl
theorem y5q (most:Int)(l:List Ev)(a:Aut)(v:List Cf×List Ma×Int)(x:List Cf×List Ma)(hok:∀ d∈x.2,maOk d=true)(hl:x.2.length<=1000000)(K:List Ma->List Cf->Option (List Cf×List Ma×Bool)):∀ (m k:Nat) (cs:List Ma),k<=x.2.length->x.2.length<m+k->cs.length+(x.2.length-k)<=1000000->(∀ d∈cs,maOk d=true)->z67 N0 most l a v x K m (cs,(k:Int))=K (puts z7s cs (x.2.drop k)) x.1
 |0,k,cs,h1,h2,h3,h4=>by omega
 |m+1,k,cs,h1,h2,h3,h4=>by
  unfold z67
  simp only [length_map,z0c]
  by_cases h:k<x.2.length
  ·have ho:=hok _ (getElem_mem h)
   have hil:=znw z7s x.2[k] cs
   have hp:=ygq N0 (by decide) x.2[k] ho cs h4 (by omega)
   rw [if_pos (by omega),z0k h,z0e _ k h,zh5,z1m k (by omega),hp,z04]
   exact y5q most l a v x hok hl K m (k+1) _ (by omega) (by omega) (by omega) (y2x ho h4)
  ·rw [if_neg (by omega),drop_eq_nil_of_le (by omega)]
   rfl
theorem yfr {l:List Ma}(h:∀ x∈l,maOk x=true):∀ x∈setL z7s l,maOk x=true:=fun x hx=>h x ((zgs zbe x l).1 hx)
theorem ym9 (hx:CxA a held)(hk:kk<=1000)(hc:CB held a kk c)(e:Ev):∀ d∈cfO (outP a held c e),cfOk d=true:=fun d hd=>(yh4 hx hc (yik hd).1).ok (by omega)
theorem yhn (hx:CxA a held)(hk:kk<=1000)(hc:CB held a kk c)(e:Ev):∀ d∈maO (outP a held c e),maOk d=true:=fun d hd=>by
 obtain ⟨q,hq,rfl⟩:=ynq hd
 exact ya1 (by omega) (yh4 hx hc hq)
theorem ycn (hx:CxA a held)(hle:a.fEdges.length<=100)(hk:kk<=1000)(e:Ev)(l:List Cf)(hc:∀ c∈l,CB held a kk c)(hl:l.length<=5000)(K:List Cf->List Ma->Option (List Cf×List Ma)) :
  ∀ (m k:Nat) (cs:List Cf) (ms:List Ma),k<=l.length->l.length<m+k->cs.length<=101*k->ms.length<=101*k->(∀ d∈cs,cfOk d=true)->(∀ d∈ms,maOk d=true)->z8x N0 e l held a K m (cs,ms,(k:Int))=K (puts zbo cs ((l.drop k).flatMap (fun c=>setL zbo (cfO (outP a held c e))))) (puts z7s ms ((l.drop k).flatMap (fun c=>setL z7s (maO (outP a held c e)))))
 |0,k,cs,ms,h1,h2,h3,h4,h5,h6=>by omega
 |m+1,k,cs,ms,h1,h2,h3,h4,h5,h6=>by
  unfold z8x
  simp only [length_map,z0c]
  by_cases h:k<l.length
  ·have hck:=hc _ (getElem_mem h)
   have z1:=zwe (c:=zbo) (cfO (outP a held l[k] e))
   have z2:=zwe (c:=z7s) (maO (outP a held l[k] e))
   have z3:=zuv (outP a held l[k] e)
   have z4:=zsm (outP a held l[k] e)
   have z5:(outP a held l[k] e).length<=a.fEdges.length+1:=zr4
   have o1:=ymh (ym9 hx hk hck e)
   have o2:=yfr (yhn hx hk hck e)
   have p1:=zwh (c:=zbo) (setL zbo (cfO (outP a held l[k] e))) cs
   have p2:=zwh (c:=z7s) (setL z7s (maO (outP a held l[k] e))) ms
   rw [if_pos (by omega),z0k h,yrh hx (by omega) hk hck e,z04,z0e _ k h,flatMap_cons,flatMap_cons,zj3,zj3,z1m k (by omega)]
   have l2:=fun K=>ycm e l held a (cs,ms,(k:Int)) (setL zbo (cfO (outP a held l[k] e)),setL z7s (maO (outP a held l[k] e))) o1 (by grind) K N0 0 cs (Nat.zero_le _) (by show (setL zbo (cfO (outP a held l[k] e))).length<2000000000+0;omega) (by show cs.length+((setL zbo (cfO (outP a held l[k] e))).length-0)<=1000000;omega) h5
   refine (l2 _).trans ?_
   have l3:=fun v y0 K=>ycl e l held a v y0 (setL z7s (maO (outP a held l[k] e))) o2 (by omega) K N0 0 ms (Nat.zero_le _) (by unfold N0;omega) (by omega) h6
   refine (l3 _ _ _).trans ?_
   rw [drop_zero,drop_zero]
   exact ycn hx hle hk e l hc hl K m (k+1) (puts zbo cs (setL zbo (cfO (outP a held l[k] e)))) (puts z7s ms (setL z7s (maO (outP a held l[k] e)))) (by omega) (by omega) (by omega) (by omega) (yjw h5 o1) (ybt h6 o2)
  ·rw [if_neg (by omega),drop_eq_nil_of_le (by omega)]
   rfl
variable {α β:Type}
theorem y5c {c:α->α->Int}(h:TO c)(f:β->List α)(l:List β):setL c (l.flatMap (fun x=>setL c (f x)))=setL c (l.flatMap f):=by
 refine yfs h (fun x=>?_)
 rw [mem_flatMap,mem_flatMap]
 constructor
 ·rintro ⟨y,hy,hx⟩
  exact ⟨y,hy,(zgs h _ _).1 hx⟩
 ·rintro ⟨y,hy,hx⟩
  exact ⟨y,hy,(zgs h _ _).2 hx⟩
def cfN (a:Aut)(held:List Ev)(l:List Cf)(e:Ev):List Cf:=setL zbo (l.flatMap (fun c=>cfO (outP a held c e)))
def maN (a:Aut)(held:List Ev)(l:List Cf)(e:Ev):List Ma:=setL z7s (l.flatMap (fun c=>maO (outP a held c e)))
theorem yrp (hx:CxA a held)(hle:a.fEdges.length<=100)(hk:kk<=1000)(e:Ev)(l:List Cf)(hc:∀ c∈l,CB held a kk c)(hl:l.length<=5000):zcz N0 a held l e=some (cfN a held l e,maN a held l e):=by
 have:=ycn hx hle hk e l hc hl (fun y0 y1=>some (y0,y1)) N0 0 [] [] (Nat.zero_le _) (by unfold N0;omega) (by simp) (by simp) (by simp) (by simp)
 unfold zcz cfN maN
 refine this.trans ?_
 rw [drop_zero,<-y5c cfCmp_to,<-y5c zbe]
 rfl
theorem yh3 (d:Cf)(m0:List Cf)(m1:List Ma)(h0:m0.length<=100000000)(h1:m1.length<=100000000):z7n N0 d m0 m1=some (m0++cfO [d],m1++maO [d]):=by
 unfold z7n
 rw [z0c,y4b,y2p,zbc (by grind) (by omega),zbc (by simp only [length_singleton];omega) (by omega)]
 by_cases h:d.fState<0
 ·simp [h,cfO,maO]
 ·simp [h,cfO,maO]
variable {r:z0m}
theorem zwn (hx:CxA r.fa held)(hk:kk<=1000)(hc:CB held r.fa kk c)(hch:∀ y∈held,zci y=zci e->y=e)(hle:r.fa.fEdges.length<=100)(K:List Cf->List Ma->Option (List Cf×List Ma×z0m×Cf×Ev)) :
  ∀ (m k:Nat) (m0:List Cf) (m1:List Ma),k<=r.fa.fEdges.length->r.fa.fEdges.length<m+k->m0.length<=90000000+k->m1.length<=90000000+k->z1l N0 e c r ⟨bndV held r.fa.fVars.toNat c.fBindings⟩ K m ((k:Int),m0,m1)=K (m0++cfO (((r.fa.fEdges.drop k).filter (fun x=>decide (x.fFrom=c.fState))).filterMap (fun x=>coP r.fa held c x e))) (m1++maO (((r.fa.fEdges.drop k).filter (fun x=>decide (x.fFrom=c.fState))).filterMap (fun x=>coP r.fa held c x e)))
 |0,k,m0,m1,h1,h2,h3,h4=>by omega
 |m+1,k,m0,m1,h1,h2,h3,h4=>by
  unfold z1l
  simp only [length_map,z0c,z0x]
  by_cases h:k<r.fa.fEdges.length
  ·have hxe:=getElem_mem h
   rw [if_pos (by omega),z0k h,z0e _ k h,z1m k (by omega),filter_cons]
   by_cases q:r.fa.fEdges[k].fFrom=c.fState
   rotate_left
   ·rw [if_neg q,if_neg (by simpa using q)]
    exact zwn hx hk hc hch hle K m (k+1) m0 m1 (by omega) (by omega) (by omega) (by omega)
   rw [if_pos q,if_pos (by simpa using q),y6m hx hk hc hxe hch,z04,filterMap_cons]
   cases hco:coP r.fa held c r.fa.fEdges[k] e with
   |none =>
    simp only [rfC,z65]
    exact zwn hx hk hc hch hle K m (k+1) m0 m1 (by omega) (by omega) (by omega) (by omega)
   |some d =>
    simp only [rfC,z52]
    have z1:=zuv [d]
    have z2:=zsm [d]
    simp only [length_singleton] at z1 z2
    rw [yh3 d m0 m1 (by omega) (by omega),z7u]
    have ih:=zwn hx hk hc hch hle K m (k+1) (m0++cfO [d]) (m1++maO [d]) (by omega) (by omega) (by rw [length_append];omega) (by rw [length_append];omega)
    refine ih.trans ?_
    rw [append_assoc,append_assoc,<-y4c,<-y2q]
    rfl
  ·rw [if_neg (by omega),drop_eq_nil_of_le (by omega)]
   simp [cfO,maO]
theorem zwm (hx:CxA r.fa held)(hk:kk<=1000)(hc:CB held r.fa kk c)(hch:∀ y∈held,zci y=zci e->y=e)(hle:r.fa.fEdges.length<=100)(K:List Cf->List Ma->Option (List Cf×List Ma×z0m×Cf×Ev)) :
  ∀ (m k:Nat) (m0:List Cf) (m1:List Ma),k<=r.fa.fEdges.length->r.fa.fEdges.length<m+k->m0.length<=90000000+k->m1.length<=90000000+k->z1k N0 e c r ⟨bndV held r.fa.fVars.toNat c.fBindings⟩ K m ((k:Int),m0,m1)=K (m0++cfO (((r.fa.fEdges.drop k).filter (fun x=>decide (x.fFrom=c.fState))).filterMap (fun x=>coP r.fa held c x e))) (m1++maO (((r.fa.fEdges.drop k).filter (fun x=>decide (x.fFrom=c.fState))).filterMap (fun x=>coP r.fa held c x e)))
 |0,k,m0,m1,h1,h2,h3,h4=>by omega
 |m+1,k,m0,m1,h1,h2,h3,h4=>by
  unfold z1k
  simp only [length_map,z0c,z0x]
  by_cases h:k<r.fa.fEdges.length
  ·have hxe:=getElem_mem h
   rw [if_pos (by omega),z0k h,z0e _ k h,z1m k (by omega),filter_cons]
   by_cases q:r.fa.fEdges[k].fFrom=c.fState
   rotate_left
   ·rw [if_neg q,if_neg (by simpa using q)]
    exact zwm hx hk hc hch hle K m (k+1) m0 m1 (by omega) (by omega) (by omega) (by omega)
   rw [if_pos q,if_pos (by simpa using q),y6m hx hk hc hxe hch,z04,filterMap_cons]
   cases hco:coP r.fa held c r.fa.fEdges[k] e with
   |none =>
    simp only [rfC,z65]
    exact zwm hx hk hc hch hle K m (k+1) m0 m1 (by omega) (by omega) (by omega) (by omega)
   |some d =>
    simp only [rfC,z52]
    have z1:=zuv [d]
    have z2:=zsm [d]
    simp only [length_singleton] at z1 z2
    rw [yh3 d m0 m1 (by omega) (by omega),z7u]
    have ih:=zwm hx hk hc hch hle K m (k+1) (m0++cfO [d]) (m1++maO [d]) (by omega) (by omega) (by rw [length_append];omega) (by rw [length_append];omega)
    refine ih.trans ?_
    rw [append_assoc,append_assoc,<-y4c,<-y2q]
    rfl
  ·rw [if_neg (by omega),drop_eq_nil_of_le (by omega)]
   simp [cfO,maO]
theorem yh2 (hx:CxA r.fa held)(hm:HM held r.fheld)(hk:kk<=1000)(hc:CB held r.fa kk c)(hch:∀ y∈held,zci y=zci e->y=e)(hle:r.fa.fEdges.length<=100)(m0:List Cf)(m1:List Ma)(h0:m0.length<=10000000)(h1:m1.length<=10000000):z73 N0 m0 m1 r c e=some (m0++cfO (outP r.fa held c e),m1++maO (outP r.fa held c e),r,c,e):=by
 have hlb:=hc.lb
 have hlh:=hx.lh
 have hva:=hx.ok.vars
 have hns:¬c.fState<0:=by have:=hc.st;omega
 obtain ⟨st,g1,g2,g3⟩:=zth hc.st
 have hes:EvS (enH held c.fBindings):=zur (by omega)
 have hab:=yi4 ⟨hva.1,hva.2⟩ hc.bd
 have hgl:=(hx.wf.st st g2).1
 unfold z73
 rw [yrm N0 (by decide) held r hm hva c.fBindings (by omega) hc.bd,z04,zwp hc.st.1 g1]
 rw [y9s N0 ⟨bndV held r.fa.fVars.toNat c.fBindings⟩ e (vio (enH held c.fBindings) e) st.fGuards (by omega) (by unfold N0;omega) (fun g hg=>by
  unfold z42
  have:=yli hab hes ((hx.wf.st st g2).2 g hg) e
  refine (congrArg (fun o=>bnd o fun x1=>some x1) this).trans ?_
  rw [z04]),z04]
 have hsk:skP r.fa held c e=!(st.fGuards.any (vio (enH held c.fBindings) e)):=by unfold skP;rw [g3]
 rw [<-hsk]
 unfold outP
 rw [y4c,y2q]
 cases skP r.fa held c e with
 |true =>
  rw [z52,yh3 c m0 m1 (by omega) (by omega),z7u]
  have z1:=zuv [c]
  have z2:=zsm [c]
  have l1:=fun K=>zwn hx hk hc hch hle K N0 0 (m0++cfO [c]) (m1++maO [c]) (Nat.zero_le _) (by unfold N0;omega) (by grind) (by rw [length_append];simp at z2;omega)
  refine (l1 _).trans ?_
  rw [drop_zero]
  simp [append_assoc,zy7]
 |false =>
  rw [z65]
  have l2:=fun K=>zwm hx hk hc hch hle K N0 0 m0 m1 (Nat.zero_le _) (by unfold N0;omega) (by omega) (by omega)
  refine (l2 _).trans ?_
  rw [drop_zero]
  simp [zy7,cfO,maO]
theorem ycp (hx:CxA r.fa held)(hm:HM held r.fheld)(hk:kk<=1000)(hch:∀ y∈held,zci y=zci e->y=e)(hle:r.fa.fEdges.length<=100)(l:List Cf)(hc:∀ c∈l,CB held r.fa kk c)(hl:l.length<=5000)(K:List Cf->List Ma->Option (List Cf×List Ma)):∀ (m k:Nat) (m0:List Cf) (m1:List Ma),k<=l.length->l.length<m+k->m0.length<=101*k->m1.length<=101*k->z7m N0 e l r K m ((k:Int),m0,m1)=K (m0++(l.drop k).flatMap (fun c=>cfO (outP r.fa held c e))) (m1++(l.drop k).flatMap (fun c=>maO (outP r.fa held c e)))
 |0,k,m0,m1,h1,h2,h3,h4=>by omega
 |m+1,k,m0,m1,h1,h2,h3,h4=>by
  unfold z7m
  simp only [length_map,z0c]
  by_cases h:k<l.length
  ·have hck:=hc _ (getElem_mem h)
   have z3:=zuv (outP r.fa held l[k] e)
   have z4:=zsm (outP r.fa held l[k] e)
   have z5:(outP r.fa held l[k] e).length<=r.fa.fEdges.length+1:=zr4
   have hb:zdy N0 r l[k] e=some (r,l[k],e):=rfl
   rw [if_pos (by omega),z0k h,hb,z7u]
   simp only
   rw [yh2 hx hm hk hck hch hle m0 m1 (by omega) (by omega),z7u,z0e _ k h,flatMap_cons,flatMap_cons,<-append_assoc,<-append_assoc,z1m k (by omega)]
   exact ycp hx hm hk hch hle l hc hl K m (k+1) _ _ (by omega) (by omega) (by rw [length_append];omega) (by rw [length_append];omega)
  grind
theorem zws (f:α->List β)(n:Nat):∀ l:List α,(∀ x∈l,(f x).length<=n)->(l.flatMap f).length<=n*l.length
 |[],_=>by simp
 |x::l,h=>by
  have h1:=h x (by simp)
  have h2:=zws f n l (fun y hy=>h y (mem_cons_of_mem _ hy))
  rw [flatMap_cons,length_append,length_cons,Nat.mul_succ]
  omega
theorem y6q (hx:CxA r.fa held)(hm:HM held r.fheld)(hk:kk<=1000)(hch:∀ y∈held,zci y=zci e->y=e)(hle:r.fa.fEdges.length<=100)(l:List Cf)(hc:∀ c∈l,CB held r.fa kk c)(hl:l.length<=5000):z56 N0 r l e=some (cfN r.fa held l e,maN r.fa held l e):=by
 have l1:=fun K=>ycp hx hm hk hch hle l hc hl K N0 0 [] [] (Nat.zero_le _) (by unfold N0;omega) (by simp) (by simp)
 unfold z56
 refine (l1 _).trans ?_
 rw [drop_zero,nil_append,nil_append]
 have f1:=zws (fun c=>cfO (outP r.fa held c e)) 101 l (fun c _=>by have:=zuv (outP r.fa held c e);have:(outP r.fa held c e).length<=r.fa.fEdges.length+1:=zr4;omega)
 have f2:=zws (fun c=>maO (outP r.fa held c e)) 101 l (fun c _=>by have:=zsm (outP r.fa held c e);have:(outP r.fa held c e).length<=r.fa.fEdges.length+1:=zr4;omega)
 rw [yga N0 (by decide) _ (fun d hd=>by
  obtain ⟨c,hc1,hc2⟩:=mem_flatMap.1 hd
  exact ym9 hx hk (hc c hc1) e d hc2) (by omega),z7u,yg9 N0 (by decide) _ (fun d hd=>by
  obtain ⟨c,hc1,hc2⟩:=mem_flatMap.1 hd
  exact yhn hx hk (hc c hc1) e d hc2) (by omega),z7u]
 rfl
theorem y9n {e:Exn}(h:WfE e):∃ b:Bool,z9h N0 e=some b:=by
 obtain ⟨z,hz,ht⟩:=h
 obtain ⟨c,c1,_⟩:=ygz 200 (by omega) (by omega) z e ht hz N0 (by unfold N0;omega)
 obtain ⟨d,d1,_⟩:=yll z e ht hz N0 (by unfold N0;omega)
 unfold z9h
 simp only [z2i,z1e,z6u]
 rw [c1,z04,d1,z04,z0c]
 split
 ·exact ⟨_,rfl⟩
 ·exact ⟨_,rfl⟩
theorem ygg (l:List Gd)(hw:∀ g∈l,WfE g.fCond)(hl:l.length<=1100000):∀ (m k:Nat),k<=l.length->l.length<m+k->∃ b:Bool,z8z N0 l (some true) m (k:Int)=some b
 |0,k,h1,h2=>by omega
 |m+1,k,h1,h2=>by
  unfold z8z
  simp only [length_map,z0c,z0x]
  by_cases h:k<l.length
  ·obtain ⟨b,hb⟩:=y9n (hw _ (getElem_mem h))
   rw [if_pos (by omega),z0k h,hb,z04,z1m k (by omega)]
   cases b with
   |true=>rw [z52];exact ygg l hw hl m (k+1) (by omega) (by omega)
   |false=>rw [z65];exact ⟨_,rfl⟩
  ·rw [if_neg (by omega)]
   exact ⟨_,rfl⟩
theorem ymz (st:Stt)(hw:st.fGuards.length<=1100000/\∀ g∈st.fGuards,WfE g.fCond):∃ b:Bool,zd0 N0 st.fGuards=some b:=ygg st.fGuards hw.2 hw.1 N0 0 (Nat.zero_le _) (by have:=hw.1;unfold N0;omega)
theorem yca (a:Aut)(v:Int)(x:Ed)(ys:List Exn)(hy:x.fChecks=ys.map z0l)(hw:∀ y∈ys,WfE y)(hl:ys.length<=1100000)(P:Prop)(K:Option Bool)(hK:∃ b:Bool,K=some b/\(b=true->P)):∀ (m k:Nat),k<=ys.length->ys.length<m+k->∃ b:Bool,z90 N0 a v x K m (k:Int)=some b/\(b=true->P)
 |0,k,h1,h2=>by omega
 |m+1,k,h1,h2=>by
  unfold z90
  have hll:x.fChecks.length=ys.length:=by rw [hy,length_map]
  simp only [length_map,z0c,z0x,hll]
  by_cases h:k<ys.length
  ·obtain ⟨b,hb⟩:=y9n (hw _ (getElem_mem h))
   rw [if_pos (by omega),ya7 hy h,hb,z04,z1m k (by omega)]
   cases b with
   |true=>rw [z52];exact yca a v x ys hy hw hl P K hK m (k+1) (by omega) (by omega)
   |false=>rw [z65];exact ⟨false,rfl,fun h=>by cases h⟩
  ·rw [if_neg (by omega)]
   exact hK
def FewA (a:Aut):Prop:=a.fEdges.length<=40/\∀ x∈a.fEdges,x.fOpens.length<=12
theorem ycb (a:Aut)(hw:WfA a)(K:Option Bool)(hK:∃ b:Bool,K=some b/\(b=true->a.fEdges.length<=40)):∀ (m k:Nat),k<=a.fEdges.length->k<=60->60<m+k->(∀ x∈a.fEdges.take k,x.fOpens.length<=12)->∃ b:Bool,z4d N0 a K m (k:Int)=some b/\(b=true->FewA a)
 |0,k,h1,h2,h3,h4=>by omega
 |m+1,k,h1,h2,h3,h4=>by
  have hex:(60<=k\/a.fEdges.length<=k)->∃ b:Bool,K=some b/\(b=true->FewA a):=fun hq=>by
   obtain ⟨b,b1,b2⟩:=hK
   refine ⟨b,b1,fun hb=>⟨b2 hb,fun x hx=>h4 x ?_⟩⟩
   have:=b2 hb
   rw [take_of_length_le (by omega)]
   exact hx
  have no:∃ b:Bool,some false=some b/\(b=true->FewA a):=⟨false,rfl,fun h=>by cases h⟩
  unfold z4d
  simp only [length_map,z0c,z2i,z1e,z5r,z1q,z0x,z52,z65]
  by_cases h:k<a.fEdges.length
  rotate_left
  ·rw [if_neg (by omega)];exact hex (by omega)
  rw [if_pos (by omega)]
  by_cases h60:k<60
  rotate_left
  ·rw [if_neg (by omega)];exact hex (by omega)
  rw [if_pos (by omega),z0k h,z1m k (by omega)]
  have wx:=hw.ed _ (getElem_mem h)
  obtain ⟨b,hb⟩:=y9n wx.cond
  rw [hb,z04]
  cases b with
  |false=>rw [z65];exact no
  |true =>
  rw [z52]
  split
  ·exact no
  split
  ·exact no
  split
  ·exact no
  split
  ·exact no
  split
  ·exact no
  rename_i q1 q2 q3 q4 q5
  obtain ⟨ys,hy,hyw⟩:=wx.checks
  have hyl:ys.length<=1100000:=by have:=wx.lc;rw [hy,length_map] at this;exact this
  have ih:=ycb a hw K hK m (k+1) (by omega) (by omega) (by omega) (fun x hx=>by
   rw [take_succ_eq_append_getElem h] at hx
   rcases mem_append.1 hx with hx|hx
   ·exact h4 x hx
   ·rw [mem_singleton.1 hx];omega)
  exact yca a (k:Int) _ ys hy hyw hyl (FewA a) _ ih N0 0 (Nat.zero_le _) (by unfold N0;omega)
theorem ycc (a:Aut)(hw:WfA a)(P:Prop)(K:Option Bool)(hK:∃ b:Bool,K=some b/\(b=true->P)):∀ (m k:Nat),k<=a.fStates.length->k<=30->30<m+k->∃ b:Bool,z4e N0 a K m (k:Int)=some b/\(b=true->P)
 |0,k,h1,h2,h3=>by omega
 |m+1,k,h1,h2,h3=>by
  have no:∃ b:Bool,some false=some b/\(b=true->P):=⟨false,rfl,fun h=>by cases h⟩
  unfold z4e
  simp only [length_map,z0c,z2i,z1e,z5q,z20,z0x,z52,z65]
  by_cases h:k<a.fStates.length
  rotate_left
  ·rw [if_neg (by omega)];exact hK
  rw [if_pos (by omega)]
  by_cases h60:k<30
  rotate_left
  ·rw [if_neg (by omega)];exact hK
  have ih:=ycc a hw P K hK m (k+1) (by omega) (by omega) (by omega)
  obtain ⟨b,hb⟩:=ymz _ (hw.st _ (getElem_mem h))
  have hi:∀ Q:Stt->Option Bool,idx a.fStates (k:Int) Q=Q a.fStates[k]:=fun Q=>z0k h Q
  rw [if_pos (by omega),z1m k (by omega)]
  simp only [hi,hb,z04]
  repeat' split
  all_goals first|exact no|(cases b<;>first|(rw [z52];exact ih)|(rw [z65];exact no))|skip
theorem yn7 (a:Aut)(hw:WfA a):∃ b:Bool,zd1 N0 a=some b/\(b=true->FewA a):=by
 unfold zd1
 refine ycc a hw (FewA a) _ ?_ N0 0 (Nat.zero_le _) (by omega) (by unfold N0;omega)
 refine ycb a hw _ ?_ N0 0 (Nat.zero_le _) (by omega) (by unfold N0;omega) (by simp)
 simp only [z2i,z1e,z6r,length_map,z0c]
 split
 ·exact ⟨_,rfl,fun h=>by simp at h;omega⟩
 ·exact ⟨_,rfl,fun h=>by cases h⟩
theorem y12 (l:List Ev)(hl:l.length<=1000000)(a:Aut)(K:List (Rf×Ev)->Option (Option z0m×Int)):∀ (m k:Nat) (mp:List (Rf×Ev)),k<=l.length->l.length<m+k->zfo N0 l a K m ((k:Int),mp)=K ((l.drop k).foldl (fun m e=>mput m (zci e) e) mp)
 |0,k,mp,h1,h2=>by omega
 |m+1,k,mp,h1,h2=>by
  unfold zfo
  simp only [length_map,z0c]
  by_cases h:k<l.length
  ·have hr:zi4 N0 l[k]=some (zci l[k]):=rfl
   rw [if_pos (by omega),z0k h,hr,z04,yls,z0e _ k h,foldl_cons,z1m k (by omega)]
   exact y12 l hl a K m (k+1) _ (by omega) (by omega)
  grind
theorem y9w (a:Aut)(hw:WfA a)(l:List Ev)(hl:l.length<=1000000):∃ q:Int,z2o N0 a l=some q/\((q≠0/\zei N0 a l=some (none,q))\/(q=0/\AOk a/\yor l/\z54 N0 a=some 0/\zke l=0/\∃ mp,HM l mp/\zei N0 a l=some (some ⟨a,mp⟩,0))):=by
 obtain ⟨r,r1,r2,r3⟩:=ycq N0 (by decide) a hw
 unfold z2o zei
 rw [r1,r2,z04,z04,z0x,z0c,z0x,z0c]
 by_cases h:r=0
 rotate_left
 ·simp_all
 rw [if_pos h,if_pos h,ylo N0 l (by unfold N0;omega) hl,yq2 N0 l (by unfold N0;omega) (by decide) hl,z04,z04,z0x,z0c]
 refine ⟨zke l,rfl,?_⟩
 by_cases hs:zke l=0
 rotate_left
 ·simp_all
 rw [if_pos hs]
 have hso:=znl hs
 refine Or.inr ⟨hs,r3 h,hso,by rw [h] ,hs,l.foldl (fun m e=>mput m (zci e) e) [],fun r=>?_,?_⟩
 ·rw [yht r l [] hso.st]
  simp [mlk]
 ·refine (y12 l hl a _ N0 0 [] (Nat.zero_le _) (by unfold N0;omega)).trans ?_
  rw [drop_zero]
theorem yqp (hx:CxA a held)(hst:Str zib held)(hc:CB held a k c)(hxe:x∈a.fEdges)(he:e∈held)(h:coP a held c x e=some d)(h0:0<=d.fState):CB held a (k+1) d:=by
 have hz:=yic hx hc hxe h
 have hd:=y46 h
 have eo:=hx.ok.ed x hxe
 refine ⟨?_,?_,?_,hz.1,hz.2⟩
 ·rw [hd] at h0 ⊢
  exact ⟨h0,eo.tgt.2⟩
 ·rw [hd]
  intro b hb
  rcases mem_append.1 hb with hb|hb
  ·exact hc.bd b hb
  ·rw [mem_singleton.1 hb]
   refine ⟨eo.var,?_⟩
   rw [y2t hst he]
   rfl
 ·rw [hd]
  exact (ylr e.fTime x.fOpens hc.ss).filter _
theorem CB.up (h:CB held a k c):CB held a (k+1) c:=⟨h.st,h.bd,h.ss,by have:=h.lb;omega,by have:=h.ls;omega⟩
theorem yni (hx:CxA a held)(hst:Str zib held)(hc:CB held a k c)(he:e∈held)(h:d∈outP a held c e)(h0:0<=d.fState):CB held a (k+1) d:=by
 unfold outP at h
 rcases mem_append.1 h with h|h
 ·split at h
  ·rw [mem_singleton.1 h]
   exact hc.up
  ·simp at h
 ·obtain ⟨x,hx',hd⟩:=mem_filterMap.1 h
  exact yqp hx hst hc (ztl hx').1 he hd h0
theorem yil (h:d∈cfN a held l e):∃ c∈l,d∈outP a held c e/\0<=d.fState:=by
 unfold cfN at h
 obtain ⟨c,h1,h2⟩:=mem_flatMap.1 ((zgs cfCmp_to _ _).1 h)
 exact ⟨c,h1,yik h2⟩
theorem ydp (hx:CxA a held)(hst:Str zib held)(hc:∀ c∈l,CB held a k c)(he:e∈held):∀ d∈cfN a held l e,CB held a (k+1) d:=fun d hd=>by
 obtain ⟨c,h1,h2,h3⟩:=yil hd
 exact yni hx hst (hc c h1) he h2 h3
theorem ylv (hx:CxA a held)(hk:k<=1000)(hc:∀ c∈l,CB held a k c)(e:Ev):∀ d∈maN a held l e,maOk d=true:=fun d hd=>by
 unfold maN at hd
 obtain ⟨c,h1,h2⟩:=mem_flatMap.1 ((zgs zbe _ _).1 hd)
 exact yhn hx hk (hc c h1) e d h2
theorem ynr (hle:a.fEdges.length<=100)(l:List Cf)(e:Ev):(maN a held l e).length<=101*l.length:=by
 unfold maN
 have f2:=zws (fun c=>maO (outP a held c e)) 101 l (fun c _=>by have:=zsm (outP a held c e);have:(outP a held c e).length<=a.fEdges.length+1:=zr4;omega)
 have:=zwe (c:=z7s) (l.flatMap (fun c=>maO (outP a held c e)))
 omega
theorem ymp (l s:List Ma)(hs:Str z7s s)(hl:Str z7s l):l.length<=(puts z7s s l).length:=by
 have:puts z7s s l=puts z7s l s:=Str.uniq zbe (zwg zbe _ _ hs) (zwg zbe _ _ hl) (fun x=>by rw [zkh zbe,zkh zbe,Or.comm])
 rw [this]
 exact y5m s l
def wiP (most:Nat)(a:Aut)(held:List Ev):List Ev->List Cf->List Ma->List Cf×List Ma×Bool
 |[],cs,ms=>(cs,ms,true)
 |e::r,cs,ms=>if most<(cfN a held cs e).length\/most<(puts z7s ms (maN a held cs e)).length then ([],[],false) else wiP most a held r (cfN a held cs e) (puts z7s ms (maN a held cs e))
theorem zvg {l:List Ev}(hx:CxA a l)(hst:Str zib l)(hle:a.fEdges.length<=100)(most:Nat)(hm:most<=4096)(hm1:1<=most)(hl:l.length<=900) :
  ∀ (m k:Nat) (cs:List Cf) (ms:List Ma),k<=l.length->l.length<m+k->cs.length<=most->ms.length<=most->(∀ c∈cs,CB l a k c)->(∀ d∈ms,maOk d=true)->z2x N0 (most:Int) l a (fun y0 y1=>some (y0,y1,true)) m (cs,ms,(k:Int))=some (wiP most a l (l.drop k) cs ms)
 |0,k,cs,ms,h1,h2,h3,h4,h5,h6=>by omega
 |m+1,k,cs,ms,h1,h2,h3,h4,h5,h6=>by
  unfold z2x
  simp only [length_map,z0c]
  by_cases h:k<l.length
  ·have he:=getElem_mem h
   have z:=ynr (held:=l) hle cs l[k]
   have o:=ylv hx (by omega) h5 l[k]
   rw [if_pos (by omega),z0k h,yrp hx hle (by omega) l[k] cs h5 (by omega),z04,z0e _ k h]
   have l2:=fun K=>y5q (most:Int) l a (cs,ms,(k:Int)) (cfN a l cs l[k],maN a l cs l[k]) o (by grind) K N0 0 ms (Nat.zero_le _) (by show (maN a l cs l[k]).length<2000000000+0;omega) (by show ms.length+((maN a l cs l[k]).length-0)<=1000000;omega) h6
   refine (l2 _).trans ?_
   rw [drop_zero]
   simp only [z2i,z1e,z3y,z0c,z52]
   have ih:=zvg hx hst hle most hm hm1 hl m (k+1) (cfN a l cs l[k]) (puts z7s ms (maN a l cs l[k])) (by omega) (by omega)
   unfold wiP
   by_cases q1:most<(cfN a l cs l[k]).length
   ·simp_all
   rw [if_neg (by omega)]
   by_cases q2:most<(puts z7s ms (maN a l cs l[k])).length
   ·simp_all
   rw [if_neg (by omega),if_neg (by omega),z1m k (by omega)]
   exact ih (by omega) (by omega) (ydp hx hst h5 he) (ybt h6 o)
  ·rw [if_neg (by omega),drop_eq_nil_of_le (by omega)]
   rfl
theorem cb0 {l:List Ev}(ha:AOk a):CB l a 0 cf0:=⟨⟨by simp,by have:=ha.st;simp;omega⟩,fun b hb=>by simp at hb,by simp [SS],by simp,by simp⟩
theorem ygc {l:List Ev}(hx:CxA a l)(hst:Str zib l)(hle:a.fEdges.length<=100)(most:Nat)(hm:most<=4096)(hm1:1<=most)(hl:l.length<=900):zat N0 a l (most:Int)=some (wiP most a l l [cf0] []):=by
 unfold zat
 have hb:zdu N0=some cf0:=rfl
 rw [hb,z04]
 exact zvg hx hst hle most hm hm1 hl N0 0 [cf0] [] (Nat.zero_le _) (by unfold N0;omega) (by simp;omega) (by simp) (fun c hc=>by rw [mem_singleton.1 hc];exact cb0 hx.ok) (by simp)
theorem yc0 {l:List Ev}(hx:CxA r.fa l)(hm:HM l r.fheld)(hst:Str zib l)(hle:r.fa.fEdges.length<=100)(hl:l.length<=20)(K:List Cf->List Ma->Option (List Cf×List Ma×Int)) :
  ∀ (m k:Nat) (cs:List Cf) (all:List Ma),k<=l.length->l.length<m+k->cs.length<=150->all.length<=150*k->(∀ c∈cs,CB l r.fa k c)->(∀ d∈all,maOk d=true)->(wiP 150 r.fa l (l.drop k) cs (setL z7s all)).2.2=true ->
   ∃ cs' all',zdz N0 l r K m (cs,(k:Int),all)=K cs' all'/\wiP 150 r.fa l (l.drop k) cs (setL z7s all)=(cs',setL z7s all',true)/\(∀ d∈all',maOk d=true)/\all'.length<=4096/\cs'.length<=150/\(setL z7s all').length<=max 150 (setL z7s all).length/\(∀ c∈cs',CB l r.fa l.length c)
 |0,k,cs,all,h1,h2,h3,h4,h5,h6,h7=>by omega
 |m+1,k,cs,all,h1,h2,h3,h4,h5,h6,h7=>by
  unfold zdz
  simp only [length_map,z0c]
  by_cases h:k<l.length
  ·have he:=getElem_mem h
   have hch:∀ y∈l,zci y=zci l[k]->y=l[k]:=fun y hy hr=>by
    have e1:=y2t hst hy
    have e2:=y2t hst he
    simp_all
   rw [z0e _ k h] at h7 ⊢
   unfold wiP at h7 ⊢
   have eM:puts z7s (setL z7s all) (maN r.fa l cs l[k])=setL z7s (all++maN r.fa l cs l[k]):=by unfold setL;rw [<-zj3]
   have hge:=ymp (maN r.fa l cs l[k]) (setL z7s all) (zkf zbe _) (zkf zbe _)
   by_cases q:150<(cfN r.fa l cs l[k]).length\/150<(puts z7s (setL z7s all) (maN r.fa l cs l[k])).length
   ·rw [if_pos q] at h7;cases h7
   rw [if_neg q] at h7 ⊢
   have o:=ylv hx (by omega) h5 l[k]
   rw [if_pos (by omega),z0k h,y6q hx hm (by omega) hch hle cs h5 (by omega),z04]
   have hw:IntKind.wrap .i64 (((all.length:Nat):Int)+(((maN r.fa l cs l[k]).length:Nat):Int))=((all.length+(maN r.fa l cs l[k]).length:Nat):Int):=by rw [zee _ (by omega)];omega
   simp only [z2i,z1e,zf9,z52,z0c]
   rw [if_neg (by omega),if_neg (by omega),hw,if_neg (by omega),zbc (by omega) (by omega),z1m k (by omega)]
   rw [eM] at h7 ⊢
   obtain ⟨cs',all',a1,a2,a3,a4,a5,a6,a7⟩:=yc0 hx hm hst hle hl K m (k+1) (cfN r.fa l cs l[k]) (all++maN r.fa l cs l[k]) (by omega) (by omega) (by omega) (by rw [length_append];omega) (ydp hx hst h5 he) (fun d hd=>by
    grind) h7
   grind
  ·rw [if_neg (by omega)]
   have hk:k=l.length:=by omega
   rw [drop_eq_nil_of_le (by omega)]
   exact ⟨cs,all,rfl,rfl,h6,by omega,h3,by omega,by rw [<-hk];exact h5⟩
theorem ygb (a:Aut)(hw:WfA a)(l:List Ev):∃ b:Bool,z9m N0 a l=some b/\(b=true->FewA a/\l.length<=12/\∃ q:Int,z2o N0 a l=some q/\(q=0->(wiP 150 a l l [cf0] []).2.2=true)):=by
 obtain ⟨b,b1,b2⟩:=yn7 a hw
 unfold z9m
 simp only [z2i,z1e,z4n]
 rw [b1,z04,ypr N0 l (by decide),z0x,z04]
 cases b with
 |false=>rw [z65,z52];simp_all
 |true =>
  rw [z52]
  cases hfl:fewE l with
  |false=>simp only [Bool.not_false,z52];simp_all
  |true =>
   simp only [Bool.not_true,z65]
   obtain ⟨hl,_⟩:=yku hfl
   obtain ⟨q,q1,q2⟩:=y9w a hw l (by omega)
   rw [q1,z04,z0x,z0c]
   rcases q2 with ⟨h,_⟩|⟨h,ha,hs,_,_,_⟩
   ·simp_all
   ·have hf:=b2 rfl
    have hx:CxA a l:=⟨hw,ha,fun x hx=>by have:=hf.2 x hx;omega,by omega⟩
    have hr:=ygc hx hs.st (by have:=hf.1;omega) 150 (by omega) (by omega) (by omega)
    have h4:((150:Nat):Int)=150:=rfl
    rw [h4] at hr
    rw [if_pos h,hr,z04]
    simp_all
variable {h1 h2:List Ev}
theorem zy9:∀ (l:List Bd) (vs:List (List Ev)),(∀ b∈l,lkH h1 b.fRef=lkH h2 b.fRef)->l.foldl (addB h1) vs=l.foldl (addB h2) vs
 |[],vs,_=>rfl
 |b::l,vs,h=>by
  rw [foldl_cons,foldl_cons]
  have:addB h1 vs b=addB h2 vs b:=by unfold addB;rw [h b (by simp)]
  rw [this]
  exact zy9 l _ (fun x hx=>h x (mem_cons_of_mem _ hx))
theorem zyk {l:List Bd}(h:∀ b∈l,lkH h1 b.fRef=lkH h2 b.fRef):enH h1 l=enH h2 l:=zy9 l _ h
theorem yid (h:∀ b∈c.fBindings,lkH h1 b.fRef=lkH h2 b.fRef)(x:Ed)(e:Ev):coP a h1 c x e=coP a h2 c x e:=by
 have e2:enH (e::h1) (bdN c x e)=enH (e::h2) (bdN c x e):=zyk (fun b hb=>by
  unfold lkH
  rw [find?_cons,find?_cons]
  by_cases q:zci e=b.fRef
  ·simp [q]
  ·simp only [q,decide_false]
   rcases mem_append.1 hb with hb|hb
   ·exact h b hb
   ·rw [mem_singleton.1 hb] at q;exact absurd rfl q)
 unfold coP
 rw [zyk h,e2]
theorem y14 (h:∀ b∈c.fBindings,lkH h1 b.fRef=lkH h2 b.fRef)(e:Ev):outP a h1 c e=outP a h2 c e:=by
 unfold outP skP
 rw [zyk h]
 congr 1
 exact congrArg (fun f=>filterMap f (zy7 a c.fState)) (funext fun x=>yid h x e)
theorem zun {f g:α->List β}:∀ {l:List α},(∀ x∈l,f x=g x)->l.flatMap f=l.flatMap g
 |[],_=>rfl
 |x::l,h=>by rw [flatMap_cons,flatMap_cons,h x (by simp),zun (fun y hy=>h y (mem_cons_of_mem _ hy))]
theorem zty (h:∀ c∈l,∀ b∈c.fBindings,lkH h1 b.fRef=lkH h2 b.fRef)(e:Ev):cfN a h1 l e=cfN a h2 l e:=by
 unfold cfN;rw [zun (fun c hc=>by rw [y14 (h c hc) e])]
theorem y6u (h:∀ c∈l,∀ b∈c.fBindings,lkH h1 b.fRef=lkH h2 b.fRef)(e:Ev):maN a h1 l e=maN a h2 l e:=by
 unfold maN;rw [zun (fun c hc=>by rw [y14 (h c hc) e])]
variable {more:List Ev}
theorem yns {l:List Ev}(hs:Str zib more)(hm:∀ x∈l,x∈more){r:Rf}(h:(lkH l r).isSome=true):lkH l r=lkH more r:=by
 obtain ⟨y,hy⟩:=Option.isSome_iff_exists.1 h
 obtain ⟨h1,h2⟩:=ya2 hy
 have:=y2t hs (hm y h2)
 rw [h1] at this
 rw [hy,this]
theorem yon {l:List Ev}(hs:Str zib more)(hm:∀ x∈l,x∈more){cs:List Cf}(hc:∀ c∈cs,CB l a k c):∀ c∈cs,∀ b∈c.fBindings,lkH l b.fRef=lkH more b.fRef:=fun c h b hb=>yns hs hm ((hc c h).bd b hb).2
theorem ybf {l:List Ev}(hx:CxA a l)(hst:Str zib l)(hs:Str zib more)(hm:∀ x∈l,x∈more):∀ (r:List Ev) (k:Nat) (cs:List Cf) (ms:List Ma),(∀ e∈r,e∈l)->(∀ c∈cs,CB l a k c)->wiP 150 a l r cs ms=wiP 150 a more r cs ms
 |[],k,cs,ms,_,_=>rfl
 |e::r,k,cs,ms,hr,hc=>by
  have q:=yon hs hm hc
  unfold wiP
  rw [zty q,y6u q]
  split
  ·rfl
  ·refine ybf hx hst hs hm r (k+1) _ _ (fun x hx=>hr x (mem_cons_of_mem _ hx)) ?_
   rw [<-zty q]
   exact ydp hx hst hc (hr e (by simp))
end Go.Proofs.YtidhlpjgifoneaaGreat
