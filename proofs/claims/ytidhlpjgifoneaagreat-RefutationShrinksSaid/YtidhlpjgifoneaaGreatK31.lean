/- Layer 25, plainly. -/
import Derived.Test.YtidhlpjgifoneaaGreatK30
set_option linter.unusedVariables false
set_option linter.unusedSimpArgs false
namespace Go.Proofs.YtidhlpjgifoneaaGreat
open Go.RowKit List
abbrev cf0:Cf:=⟨0,[],[]⟩
def hasI (l:List Int)(n:Int):Bool:=l.any fun y=>decide (n=y)
theorem ycz (n:Nat)(s:Int)(l:List Int)(hl:l.length<=1100000):∀ (m k:Nat),k<=l.length->l.length<m+k->z90 n s l (some false) m (k:Int)=some (hasI (l.drop k) s)
 |0,k,h1,h2=>by omega
 |m+1,k,h1,h2=>by
  unfold z90
  simp only [length_map,z0c]
  by_cases h:k<l.length
  ·rw [if_pos (by omega),z0j h,z0e l k h,z1o k (by omega),ycz n s l hl m (k+1) (by omega) (by omega)]
   unfold hasI
   grind
  ·rw [if_neg (by omega),drop_eq_nil_of_le (by omega)]
   rfl
theorem ysa (n:Nat)(s:Int)(l:List Int)(hl:l.length<=1100000)(hn:l.length<n):zd6 n l s=some (hasI l s):=by
 have:=ycz n s l hl n 0 (by omega) (by omega)
 unfold zd6
 simp_all
def zxa (a:Aut)(s:Int):List Gd:=match a.fStates[s.toNat]? with|some s=>s.fGuards|none=>[]
def chE (x:Ed):List Exn:=x.fChecks.filterMap z1z
variable {x:Ed}
theorem yjb {ys:List Exn}(h:x.fChecks=ys.map z0l):chE x=ys:=by
 unfold chE
 rw [h,filterMap_map]
 have:(z1z ∘ z0l)=some:=by funext y;exact zd3 y
 rw [this,filterMap_some]
def ckP (x:Ed)(env:List (List Ev)):Bool:=(chE x).all (fun y=>trR env y (-1) ev0)
def gdP (a:Aut)(c:Cf)(x:Ed)(env:List (List Ev))(e:Ev):Bool:=(zxa a c.fState).any (fun g=>!hasI x.fInside g.fScope && vio env e g)
def stN (c:Cf)(x:Ed)(e:Ev):List Sta:=opL c.fStarts x.fOpens e.fTime
def bdN (c:Cf)(x:Ed)(e:Ev):List Bd:=c.fBindings++[⟨x.fVar,zdt e⟩]
def coP (a:Aut)(held:List Ev)(c:Cf)(x:Ed)(e:Ev):Option Cf :=
 if x.fType=e.fType/\gdP a c x (enH held c.fBindings) e=false/\trR (enH held c.fBindings) x.fCond x.fVar e=true/\x.fLimits.all (keP (stN c x e) e.fTime)=true/\ckP x (enH (e::held) (bdN c x e))=true then some ⟨x.fTo,bdN c x e,(stN c x e).filter (ncl x)⟩ else none
def rfC:Option Cf->Cf×Bool
 |some c=>(c,true)
 |none=>(cf0,false)
structure CB (held:List Ev) (a:Aut) (k:Nat) (c:Cf):Prop where
 st:0<=c.fState/\c.fState<a.fStates.length
 bd:BdOk held a.fVars c.fBindings
 ss:SS c.fStarts
 lb:c.fBindings.length<=k
 ls:c.fStarts.length<=100*k
structure CxA (a:Aut) (held:List Ev):Prop where
 wf:WfA a
 ok:AOk a
 lo:∀ x∈a.fEdges,x.fOpens.length<=100
 lh:held.length<=10000
variable {a:Aut}
theorem zu2 {s:Int}(h:0<=s/\s<a.fStates.length):∃ st:Stt,a.fStates[s.toNat]? = some st/\st∈a.fStates/\zxa a s=st.fGuards:=by
 have:s.toNat<a.fStates.length:=by omega
 refine ⟨a.fStates[s.toNat],getElem?_eq_getElem this,getElem_mem this,?_⟩
 unfold zxa
 rw [getElem?_eq_getElem this]
variable {β:Type}
theorem zx8 {α:Type}{l:List α}{n:Int}{x:α}(h0:0<=n)(h:l[n.toNat]? = some x)(k:α->Option β):idx l n k=k x:=by
 unfold idx
 rw [if_pos h0,h]
variable {k:Nat}
theorem yav {ys:List Exn}(h:x.fChecks=ys.map z0l)(hk:k<ys.length)(Q:Exn->Option β):idxD z1z x.fChecks (k:Int) Q=Q ys[k]:=by
 unfold idxD
 rw [if_pos (by omega),h]
 simp [hk,zd3]
theorem y6p (e:Ev)(x:Ed)(c:Cf)(held:List Ev)(env:List (List Ev))(hs:EvS env)(st:Stt)(hg:st.fGuards.length<=1100000)(hw:∀ g∈st.fGuards,WfE g.fCond)(hi:x.fInside.length<=1100000)(K:List (List Ev)->Option (Cf×Bool)):∀ (m k:Nat),k<=st.fGuards.length->st.fGuards.length<m+k->z2l N0 e x c held ⟨env⟩ st K m (k:Int)=if (st.fGuards.drop k).any (fun g=>!hasI x.fInside g.fScope && vio env e g)=true then some (cf0,false) else K env
 |0,k,h1,h2=>by omega
 |m+1,k,h1,h2=>by
  unfold z2l
  simp only [length_map,z0c,z2k,z1d,z3i]
  by_cases h:k<st.fGuards.length
  ·rw [if_pos (by omega),z0j h,z0e _ k h,any_cons,ysa N0 _ _ hi (by unfold N0;omega),z04,z1o k (by omega),y6p e x c held env hs st hg hw hi K m (k+1) (by omega) (by omega),z0j h,yh1 hs (hw _ (getElem_mem h)),z04]
   cases hasI x.fInside st.fGuards[k].fScope with
   |true=>simp [z6e]
   |false =>
    simp only [Bool.not_false,z6c,Bool.true_and]
    cases vio env e st.fGuards[k]<;>simp [z6c,z6e]
  grind
theorem y6n (e:Ev)(x:Ed)(c:Cf)(held:List Ev)(hl:x.fOpens.length<=1100000)(K:List Sta->Option (Cf×Bool)):∀ (m k:Nat) (cur:List Sta),k<=x.fOpens.length->x.fOpens.length<m+k->SS cur->cur.length+(x.fOpens.length-k)<=1100000->z5j N0 e x c held K m ((k:Int),cur)=K ((x.fOpens.drop k).foldl (fun l s=>opS l s e.fTime) cur)
 |0,k,cur,h1,h2,h3,h4=>by omega
 |m+1,k,cur,h1,h2,h3,h4=>by
  unfold z5j
  simp only [length_map,z0c]
  by_cases h:k<x.fOpens.length
  ·have hop:=yan cur x.fOpens[k] e.fTime
   rw [if_pos (by omega),z0j h,z0e _ k h,foldl_cons,yh3 N0 _ _ cur h3 (by omega) (by unfold N0;omega),z04,z1o k (by omega)]
   exact y6n e x c held hl K m (k+1) _ (by omega) (by omega) (yhu h3 _ _) (by omega)
  grind
theorem y6m (e:Ev)(x:Ed)(c:Cf)(held:List Ev)(hl:x.fLimits.length<=1100000)(s:List Sta)(hs:s.length<=1100000)(K:Option (Cf×Bool)):∀ (m k:Nat),k<=x.fLimits.length->x.fLimits.length<m+k->z5i N0 e x c held s K m (k:Int)=if (x.fLimits.drop k).all (keP s e.fTime)=true then K else some (cf0,false)
 |0,k,h1,h2=>by omega
 |m+1,k,h1,h2=>by
  unfold z5i
  simp only [length_map,z0c,z0y]
  by_cases h:k<x.fLimits.length
  ·rw [if_pos (by omega),z0j h,z0e _ k h,all_cons,yqh N0 _ _ s hs (by unfold N0;omega),z04,z1o k (by omega),y6m e x c held hl s hs K m (k+1) (by omega) (by omega)]
   cases keP s e.fTime x.fLimits[k]<;>simp [z6c,z6e]
  grind
theorem y6l (x:Ed)(s:List Sta)(bs:List Bd)(env:List (List Ev))(hs:EvS env)(ys:List Exn)(hy:x.fChecks=ys.map z0l)(hw:∀ y∈ys,WfE y)(hl:ys.length<=1100000)(K:List Bd->Option (Cf×Bool)):∀ (m k:Nat),k<=ys.length->ys.length<m+k->z5h N0 x s bs ⟨env⟩ K m (k:Int)=if (ys.drop k).all (fun y=>trR env y (-1) ev0)=true then K bs else some (cf0,false)
 |0,k,h1,h2=>by omega
 |m+1,k,h1,h2=>by
  unfold z5h
  have hll:x.fChecks.length=ys.length:=by rw [hy,length_map]
  simp only [length_map,z0c,z0y,hll]
  by_cases h:k<ys.length
  ·rw [if_pos (by omega),yav hy h,z0e _ k h,all_cons,(yem (fun v=>rfl:EvEq env env) hs (hw _ (getElem_mem h)) (-1) ev0).1,z04,z1o k (by omega),y6l x s bs env hs ys hy hw hl K m (k+1) (by omega) (by omega)]
   cases trR env ys[k] (-1) ev0<;>simp [z6c,z6e]
  grind
theorem y6k (x:Ed)(bs:List Bd)(hl:x.fCloses.length<=1100000)(K:List Sta->Option (Cf×Bool)):∀ (m k:Nat) (cur:List Sta),k<=x.fCloses.length->x.fCloses.length<m+k->cur.length<=1100000->z5g N0 x bs K m ((k:Int),cur)=K ((x.fCloses.drop k).foldl clS cur)
 |0,k,cur,h1,h2,h3=>by omega
 |m+1,k,cur,h1,h2,h3=>by
  unfold z5g
  simp only [length_map,z0c]
  by_cases h:k<x.fCloses.length
  ·have hop:=yj8 cur x.fCloses[k]
   rw [if_pos (by omega),z0j h,z0e _ k h,foldl_cons,yda N0 _ cur h3 (by unfold N0;omega),z04,z1o k (by omega)]
   exact y6k x bs hl K m (k+1) _ (by omega) (by omega) (by omega)
  grind
variable {held:List Ev}
theorem yf6 (hx:CxA a held){c:Cf}(hk:k<=1000)(hc:CB held a k c)(hxe:x∈a.fEdges)(e:Ev):z5t N0 a held c x e=some (rfC (coP a held c x e)):=by
 have hlb:=hc.lb
 have hls:=hc.ls
 have hlo:=hx.lo x hxe
 have hlh:=hx.lh
 have wx:=hx.wf.ed x hxe
 have hl1:=y3d e.fTime x.fOpens c.fStarts
 obtain ⟨st,g1,g2,g3⟩:=zu2 hc.st
 obtain ⟨ys,hy,hyw⟩:=wx.checks
 have hyl:ys.length<=1100000:=by have:=wx.lc;rw [hy,length_map] at this;exact this
 have hes:EvS (enH held c.fBindings):=zvc (by omega)
 have hes2:EvS (enH (e::held) (bdN c x e)):=zvc (by unfold bdN;simp;omega)
 unfold z5t
 rw [yh5 N0 (by decide) held (by omega) c (by omega),z04,zx8 hc.st.1 g1]
 have l1:=y6p e x c held (enH held c.fBindings) hes st (hx.wf.st st g2).1 (hx.wf.st st g2).2 wx.li (fun k1_0_0y=>jon (z18 N0 e x c held) <| reg <| cnd (!decide (x.fType=e.fType)) (z18 N0 e x c held true) <| bnd (z31 N0 x.fCond (⟨k1_0_0y⟩:z0i) x.fVar e) fun x224=>z18 N0 e x c held !(x224)) N0 0 (Nat.zero_le _) (by have:=(hx.wf.st st g2).1;unfold N0;omega)
 refine l1.trans ?_
 rw [drop_zero]
 have hgd:gdP a c x (enH held c.fBindings) e=st.fGuards.any (fun g=>!hasI x.fInside g.fScope && vio (enH held c.fBindings) e g):=by unfold gdP;rw [g3]
 rw [<-hgd]
 unfold coP
 by_cases q1:gdP a c x (enH held c.fBindings) e=true
 ·rw [if_pos q1,if_neg (by rw [q1];simp)]
  rfl
 have q1':gdP a c x (enH held c.fBindings) e=false:=by simpa using q1
 rw [if_neg q1]
 simp only [z2k,z1d,z0y,z0c]
 have j3t:z18 N0 e x c held true=some (cf0,false):=by unfold z18;rw [z6c]
 by_cases q2:x.fType=e.fType
 rotate_left
 ·rw [if_neg q2,j3t,if_neg (fun h=>q2 h.1)]
  rfl
 rw [if_pos q2,(yem (fun v=>rfl:EvEq (enH held c.fBindings) (enH held c.fBindings)) hes wx.cond x.fVar e).1,z04]
 cases q3:trR (enH held c.fBindings) x.fCond x.fVar e with
 |false =>
  simp only [Bool.not_false,j3t]
  rw [if_neg (by simp)]
  rfl
 |true =>
  simp only [Bool.not_true]
  unfold z18
  rw [z6e]
  have hst:(stN c x e).length<=1100000:=by unfold stN;omega
  have l2:=fun K=>y6n e x c held wx.lo K N0 0 c.fStarts (Nat.zero_le _) (by have:=wx.lo;unfold N0;omega) hc.ss (by omega)
  refine (l2 _).trans ?_
  rw [drop_zero]
  have hfs:x.fOpens.foldl (fun l s=>opS l s e.fTime) c.fStarts=stN c x e:=rfl
  rw [hfs]
  have l3:=fun K=>y6m e x c held wx.ll (stN c x e) hst K N0 0 (Nat.zero_le _) (by have:=wx.ll;unfold N0;omega)
  refine (l3 _).trans ?_
  rw [drop_zero]
  cases q4:x.fLimits.all (keP (stN c x e) e.fTime) with
  |false =>
   rw [if_neg (by simp),if_neg (by simp)]
   rfl
  |true =>
   rw [if_pos rfl,zbi (by simp;omega) (by omega),ynv,z04]
   unfold bldS
   simp only []
   rw [zbi (by grind) (by omega),yms,z1d]
   unfold bld
   simp only []
   rw [zbi (by grind) (by omega)]
   have hb:([]++c.fBindings++[⟨x.fVar,⟨e.fTime,e.fSource,e.fSeq⟩⟩]:List Bd)=bdN c x e:=rfl
   have hh:([e]++held:List Ev)=e::held:=rfl
   rw [hb,hh,yh5 N0 (by decide) (e::held) (by simp;omega) _ (by unfold bdN;simp;omega),z04]
   have l4:=fun K=>y6l x (stN c x e) (bdN c x e) (enH (e::held) (bdN c x e)) hes2 ys hy hyw hyl K N0 0 (Nat.zero_le _) (by unfold N0;omega)
   refine (l4 _).trans ?_
   have hck:ckP x (enH (e::held) (bdN c x e))=ys.all (fun y=>trR (enH (e::held) (bdN c x e)) y (-1) ev0):=by unfold ckP;rw [yjb hy]
   rw [drop_zero,<-hck]
   cases q5:ckP x (enH (e::held) (bdN c x e)) with
   |false =>
    rw [if_neg (by simp),if_neg (by simp)]
    rfl
   |true =>
    rw [if_pos rfl,if_pos ⟨q2,q1',by simp⟩]
    have l5:=fun K=>y6k x (bdN c x e) wx.lcl K N0 0 (stN c x e) (Nat.zero_le _) (by have:=wx.lcl;unfold N0;omega) hst
    refine (l5 _).trans ?_
    rw [drop_zero,yrj]
    rfl
theorem yl9 {e:Ev}(hch:∀ y∈held,zdt y=zdt e->y=e){r:Rf}(h:(lkH held r).isSome=true):lkH (e::held) r=lkH held r:=by
 obtain ⟨y,hy⟩:=Option.isSome_iff_exists.1 h
 obtain ⟨h1,h2⟩:=yaq hy
 have:lkH (e::held) r=if zdt e=r then some e else lkH held r:=by
  unfold lkH
  rw [find?_cons]
  grind
 grind
theorem yp5 (vs:List (List Ev))(i:Nat)(hi:i<vs.length)(q:List Ev)(v:Int):evs (vs.set i q) v=if v=(i:Int) then q else evs vs v:=by
 unfold evs
 grind
variable {v:Int}
theorem ylp (ha:AOk a){e:Ev}(hch:∀ y∈held,zdt y=zdt e->y=e){l:List Bd}(hb:BdOk held a.fVars l)(hv:0<=v/\v<a.fVars):EvEq (enH (e::held) (l++[⟨v,zdt e⟩])) ((bndV held a.fVars.toNat l).set v.toNat ((bndV held a.fVars.toNat l).getD v.toNat []++[e])):=fun w=>by
 have hva:=ha.vars
 have hvl:v.toNat<(bndV held a.fVars.toNat l).length:=by rw [zoq];omega
 have hg:(bndV held a.fVars.toNat l).getD v.toNat []=ev1 held l v:=by
  have:=zrv held a.fVars.toNat l v
  unfold evs at this
  rw [if_neg (by omega),zoq,if_neg (by omega),if_pos (by omega)] at this
  exact this
 have h1:ev1 (e::held) (l++[⟨v,zdt e⟩]) w=ev1 held l w++(if v=w then [e] else []):=by
  unfold ev1
  rw [filterMap_append]
  congr 1
  ·have:∀ b∈l,(if b.fVar=w then lkH (e::held) b.fRef else none)=(if b.fVar=w then lkH held b.fRef else none):=fun b hb'=>by rw [yl9 hch (hb b hb').2]
   clear hg
   induction l with
   |nil=>rfl
   |cons b l ih =>
    rw [filterMap_cons,filterMap_cons,this b (by simp),ih (fun b h=>hb b (mem_cons_of_mem _ h)) (by simpa [zoq] using hvl) (fun b h=>this b (mem_cons_of_mem _ h))]
  ·have:lkH (e::held) (zdt e)=some e:=by unfold lkH;rw [find?_cons];simp
   grind
 rw [yp5 _ _ hvl,zrv,h1,hg]
 by_cases q:v=w
 ·grind
 ·rw [if_neg q,append_nil,if_neg (show ¬w=((v.toNat:Nat):Int) by omega)]
  have:=yiu ⟨hva.1,hva.2⟩ hb w
  rw [zrv] at this
  exact this
theorem yo5 {a b:List (List Ev)}(hab:EvEq a b)(hs:EvS a){g:Gd}(hw:WfE g.fCond)(x:Ed)(hi:x.fInside.length<=1100000)(e:Ev):z3x N0 g x ⟨b⟩ e=some (!hasI x.fInside g.fScope && vio a e g):=by
 unfold z3x
 simp only [z2k,z1d,z3o]
 rw [zrq N0 _ _ (by omega) (by unfold N0;omega),z04,z0y]
 have:(x.fInside.any fun y=>decide (g.fScope=y))=hasI x.fInside g.fScope:=rfl
 rw [this,ymc hab hs hw e,z04]
 cases hasI x.fInside g.fScope<;>simp [z6c,z6e]
theorem yd9 (e:Ev)(x:Ed)(c:Cf)(s:List Sta)(a b:List (List Ev))(hab:EvEq a b)(hs:EvS a)(ys:List Exn)(hy:x.fChecks=ys.map z0l)(hw:∀ y∈ys,WfE y)(hl:ys.length<=1100000)(K:List Sta->Option (Cf×Bool)):∀ (m k:Nat),k<=ys.length->ys.length<m+k->z7s N0 e x c s b K m (k:Int)=if (ys.drop k).all (fun y=>trR a y (-1) ev0)=true then K s else some (cf0,false)
 |0,k,h1,h2=>by omega
 |m+1,k,h1,h2=>by
  unfold z7s
  have hll:x.fChecks.length=ys.length:=by rw [hy,length_map]
  simp only [length_map,z0c,z0y,hll]
  by_cases h:k<ys.length
  ·rw [if_pos (by omega),yav hy h,z0e _ k h,all_cons,(yem hab hs (hw _ (getElem_mem h)) (-1) ev0).2,z04,z1o k (by omega),yd9 e x c s a b hab hs ys hy hw hl K m (k+1) (by omega) (by omega)]
   cases trR a ys[k] (-1) ev0<;>simp [z6c,z6e]
  grind
theorem y7b {r:z0m}(hx:CxA r.fa held){c:Cf}(hk:k<=1000)(hc:CB held r.fa k c)(hxe:x∈r.fa.fEdges){e:Ev}(hch:∀ y∈held,zdt y=zdt e->y=e):za5 N0 r c x ⟨bndV held r.fa.fVars.toNat c.fBindings⟩ e=some (rfC (coP r.fa held c x e)):=by
 have hlb:=hc.lb
 have hls:=hc.ls
 have hlo:=hx.lo x hxe
 have hlh:=hx.lh
 have hva:=hx.ok.vars
 have wx:=hx.wf.ed x hxe
 have xv:=(hx.ok.ed x hxe).var
 have hl1:=y3d e.fTime x.fOpens c.fStarts
 obtain ⟨st,g1,g2,g3⟩:=zu2 hc.st
 obtain ⟨ys,hy,hyw⟩:=wx.checks
 have hyl:ys.length<=1100000:=by have:=wx.lc;rw [hy,length_map] at this;exact this
 have hes:EvS (enH held c.fBindings):=zvc (by omega)
 have hes2:EvS (enH (e::held) (bdN c x e)):=zvc (by unfold bdN;simp;omega)
 have hab:=yiu ⟨hva.1,hva.2⟩ hc.bd
 have j1t:z1y N0 e ⟨bndV held r.fa.fVars.toNat c.fBindings⟩ x c true=some (cf0,false):=by unfold z1y;rw [z6c]
 unfold za5
 simp only [z2k,z1d,z0y,z0c]
 unfold coP
 by_cases q2:x.fType=e.fType
 rotate_left
 ·rw [if_neg (fun h=>q2 h.symm),j1t,if_neg (fun h=>q2 h.1)]
  rfl
 rw [if_pos q2.symm,zx8 hc.st.1 g1]
 rw [yae N0 x ⟨bndV held r.fa.fVars.toNat c.fBindings⟩ e (fun g=>!hasI x.fInside g.fScope && vio (enH held c.fBindings) e g) st.fGuards (by have:=(hx.wf.st st g2).1;omega) (by have:=(hx.wf.st st g2).1;unfold N0;omega) (fun g hg=>yo5 hab hes ((hx.wf.st st g2).2 g hg) x wx.li e),z04]
 have hgd:gdP r.fa c x (enH held c.fBindings) e=st.fGuards.any (fun g=>!hasI x.fInside g.fScope && vio (enH held c.fBindings) e g):=by unfold gdP;rw [g3]
 rw [<-hgd]
 cases q1:gdP r.fa c x (enH held c.fBindings) e with
 |true =>
  rw [z6c,j1t,if_neg (by simp)]
  rfl
 |false =>
 rw [z6e,(yem hab hes wx.cond x.fVar e).2,z04]
 cases q3:trR (enH held c.fBindings) x.fCond x.fVar e with
 |false =>
  simp only [Bool.not_false,j1t]
  rw [if_neg (by simp)]
  rfl
 |true =>
  simp only [Bool.not_true]
  unfold z1y
  have hst:(stN c x e).length<=1100000:=by unfold stN;omega
  rw [z6e,yky N0 e.fTime x.fOpens c.fStarts hc.ss (by omega) (by decide),zjq]
  have hfs:opL c.fStarts x.fOpens e.fTime=stN c x e:=rfl
  rw [hfs,ykz N0 e.fTime (stN c x e) hst (by decide) x.fLimits wx.ll,z04,z0y]
  cases q4:x.fLimits.all (keP (stN c x e) e.fTime) with
  |false =>
   rw [z6e,if_neg (by simp)]
   rfl
  |true =>
   have hvl:x.fVar.toNat<(bndV held r.fa.fVars.toNat c.fBindings).length:=by rw [zoq];omega
   have hxl:((bndV held r.fa.fVars.toNat c.fBindings).getD x.fVar.toNat []).length<=1000000:=by
    have h1:=hab x.fVar
    have h2:=hes x.fVar
    rw [h1] at h2
    unfold evs at h2
    rw [if_neg (by omega),zoq,if_neg (by omega)] at h2
    exact h2
   have hbl:=zoq held r.fa.fVars.toNat c.fBindings
   have hxe':(bndV held r.fa.fVars.toNat c.fBindings)[x.fVar.toNat]=(bndV held r.fa.fVars.toNat c.fBindings).getD x.fVar.toNat []:=by
    simp [getD_eq_getElem?_getD,hvl]
   unfold zay
   rw [z6c,if_pos (by rw [hbl];omega),zjq,you xv.1 hvl,hxe',if_pos (by omega),zjq,zbi (by grind) (by omega),length_map,yoi xv.1 hvl,y1a hvl]
   have hee:=ylp hx.ok hch hc.bd xv
   have l1:=fun K=>yd9 e x c (stN c x e) (enH (e::held) (bdN c x e)) _ hee hes2 ys hy hyw hyl K N0 0 (Nat.zero_le _) (by unfold N0;omega)
   refine (l1 _).trans ?_
   have hck:ckP x (enH (e::held) (bdN c x e))=ys.all (fun y=>trR (enH (e::held) (bdN c x e)) y (-1) ev0):=by unfold ckP;rw [yjb hy]
   rw [drop_zero,<-hck]
   cases q5:ckP x (enH (e::held) (bdN c x e)) with
   |false =>
    rw [if_neg (by simp),if_neg (by simp)]
    rfl
   |true =>
    rw [if_pos rfl,yl1 N0 x wx.lcl (by decide) _ hst,z8n,if_pos (by omega),zjq]
    have hrf:zih N0 e=some ⟨e.fTime,e.fSource,e.fSeq⟩:=rfl
    rw [hrf,z04,zbi (by grind) (by omega),if_pos (by simp [q2])]
    rfl
abbrev Mp:=List (Int×Bool)
def ixs (k n:Nat):List (Option Nat):=(range k).map some++replicate (n-k) none
variable {n:Nat}
theorem yoq (h:k<=n):(ixs k n).length=n:=by unfold ixs;simp;omega
variable {j:Nat}
theorem yor (hj:j<k):(ixs k n)[j]? = some (some j):=by
 unfold ixs
 grind
theorem yop (h:k<n):(ixs k n).set k (some k)=ixs (k+1) n:=by
 unfold ixs
 rw [set_append_right _ _ (by simp)]
 obtain ⟨d,hd⟩:∃ d,n-k=d+1:=⟨n-k-1,by omega⟩
 have hd':n-(k+1)=d:=by omega
 rw [hd,hd',range_succ,map_append,replicate_succ]
 simp
section
variable {β:Type}
variable {os:List Mp}
theorem yei (hj:j<k)(c:Nat->Option β):aob (ixs k n,os) j c=c j:=by
 unfold aob
 simp only [yor hj]
theorem yn5 (h:k<n)(ho:os.length=k)(v:Mp)(c:Ars Mp->Option β):ast (ixs k n,os) k v c=c (ixs (k+1) n,os++[v]):=by
 unfold ast
 simp only [yoq (Nat.le_of_lt h)]
 rw [if_pos h,ho,yop h]
variable {ix:List (Option Nat)}
theorem yjk {l:Mp}(hl:os[j]? = some l)(hs:Srt l)(k:Int)(v:Bool)(c:Ars Mp->Option β):aup (ix,os) j k v c=c (ix,os.set j (sput l k v)):=by
 unfold aup
 simp only [hl]
 rw [if_pos (show (l.map (·.1)).Pairwise (· < ·) from hs)]
theorem yrq {l:Mp}(hl:os[j]? = some l)(k:Int)(z:Bool)(c:Bool->Bool->Option β):alk (ix,os) j k z c=c ((mlk l k).getD z) (mlk l k).isSome:=by
 unfold alk
 simp only [hl]
theorem ymq (h:n<=1000000)(k:Nat->Option β):mkm (n:Int) 8 k=k n:=by unfold mkm;grind
theorem yn6 (i:Nat)(x:Option β):are i x=x:=by unfold are;rfl
theorem yr3 (i:Nat)(x:Option β):frm i x=x:=by unfold frm;rfl
theorem yi7 (n:Nat):mkA Mp n=(ixs 0 n,[]):=by unfold mkA ixs;simp
end
variable {os:List Mp}
theorem y8y (h:os.length=n):aval (ixs n n,os)=os:=by
 unfold aval ixs
 subst h
 apply ext_getElem
 all_goals simp_all
structure zwt (l:Mp):Prop where
 srt:Srt l
 all:∀ p∈l,p.2=true/\0<=p.1/\p.1<16
def has (l:Mp)(v:Int):Prop:=v∈l.map (·.1)
variable {l:Mp}
theorem yi5 (h:zwt l)(v:Int):(mlk l v).getD false=true ↔ has l v:=by
 have h2:=h.all
 clear h
 induction l with
 |nil=>simp [mlk,has]
 |cons p r ih =>
  obtain ⟨a,b⟩:=p
  have hb:=(h2 (a,b) (by simp)).1
  simp only at hb
  subst hb
  unfold mlk
  by_cases e:v=a
  ·subst e;simp [has]
  ·rw [if_neg e]
   exact Iff.trans (ih (fun p hp=>h2 p (mem_cons_of_mem _ hp))) (by simp [has,e])
theorem yke {k:Int}{v:Bool}:∀ p,p∈sput l k v->p=(k,v)\/p∈l:=by
 induction l with
 |nil=>intro p hp;simpa [sput] using hp
 |cons q r ih =>
  obtain ⟨a,b⟩:=q
  intro p hp
  simp only [sput] at hp
  grind
theorem zwt.put (h:zwt l)(hv:0<=v/\v<16):zwt (sput l v true) :=
 ⟨yc4 h.srt,fun p hp=>(yke p hp).elim (fun e=>by rw [e];exact ⟨rfl,hv⟩) (h.all p)⟩
theorem yaw {x:Int}:has (sput l v true) x ↔ x=v\/has l x:=yc5 x
theorem yib {l':Mp}(h:zwt l)(h':zwt l')(hk:∀ x,has l x ↔ has l' x):l=l':=by
 have s1:Str cmpI (l.map (·.1)):=h.srt.imp (fun q=>(zuj _ _).2 q)
 have s2:Str cmpI (l'.map (·.1)):=h'.srt.imp (fun q=>(zuj _ _).2 q)
 have e:=Str.uniq zoo s1 s2 hk
 have f:∀ q:Mp,(∀ p∈q,p.2=true)->q=(q.map (·.1)).map (fun x=>(x,true)):=fun q hq=>by
  rw [map_map]
  conv=>lhs;rw [<-map_id q]
  exact map_congr_left (fun p hp=>by have:=hq p hp;cases p;simp_all)
 rw [f l (fun p hp=>(h.all p hp).1),f l' (fun p hp=>(h'.all p hp).1),e]
structure OsOk (k:Nat) (os:List Mp):Prop where
 len:os.length=k
 map:∀ l∈os,zwt l
def hasO (os:List Mp)(s:Nat)(v:Int):Prop:=∃ l,os[s]? = some l/\has l v
variable {s:Nat}
theorem OsOk.at (h:OsOk k os)(hs:s<k):∃ l,os[s]? = some l/\zwt l:=by
 have hs':s<os.length:=by rw [h.len];exact hs
 exact ⟨os[s],getElem?_eq_getElem hs',h.map _ (getElem_mem hs')⟩
theorem OsOk.put (h:OsOk k os)(hl:os[s]? = some l)(hv:0<=v/\v<16):OsOk k (os.set s (sput l v true))/\∀ t x,hasO (os.set s (sput l v true)) t x ↔ hasO os t x\/(t=s/\x=v):=by
 obtain ⟨hs,hg⟩:=List.getElem?_eq_some_iff.1 hl
 have hm:zwt l:=by rw [<-hg];exact h.map _ (getElem_mem hs)
 refine ⟨⟨by rw [length_set];exact h.len,fun q hq=>?_⟩,fun t x=>?_⟩
 ·rcases mem_or_eq_of_mem_set hq with h'|h'
  ·exact h.map q h'
  ·rw [h'];exact hm.put hv
 ·unfold hasO
  rw [getElem?_set]
  by_cases e:s=t
  ·subst e
   rw [if_pos rfl,if_pos hs]
   constructor
   ·rintro ⟨q,hq,hx⟩
    injection hq with hq
    subst hq
    exact (yaw.1 hx).elim (fun e=>Or.inr ⟨rfl,e⟩) (fun hx=>Or.inl ⟨l,hl,hx⟩)
   ·rintro (⟨q,hq,hx⟩|⟨_,e⟩)
    ·rw [hl] at hq;injection hq with hq;subst hq
     exact ⟨_,rfl,yaw.2 (Or.inr hx)⟩
    ·exact ⟨_,rfl,yaw.2 (Or.inl e)⟩
  grind
def OccV (v:Int)(e:Exn):Prop:=∃ i:Nat,i<16/\v=(i:Int)/\Occ i e
variable {m0n:Nat}
theorem y6v (hn:n<=1000000)(hks:s<k)(hkm:s<m0n)(a1:List AV)(v1:Int×Ars Mp)(vs:List Int)(hvs:vs.length<=100)(hv:∀ v∈vs,0<=v/\v<16)(K:Ars Mp->Option (Nat×Ars Mp)) :
  ∀ (m j:Nat) (os:List Mp),j<=vs.length->vs.length<m+j->OsOk k os->∃ os',z5p N0 m0n a1 (s:Int) v1 vs K m ((j:Int),(ixs k n,os))=K (ixs k n,os')/\OsOk k os'/\∀ t x,hasO os' t x ↔ hasO os t x\/(t=s/\x∈vs.drop j)
 |0,j,os,h1,h2,_=>by omega
 |m+1,j,os,h1,h2,ho=>by
  unfold z5p
  simp only [length_map,z0c]
  by_cases h:j<vs.length
  ·obtain ⟨l,hl,hm⟩:=ho.at hks
   obtain ⟨o1,o2⟩:=ho.put hl (hv _ (getElem_mem h))
   rw [if_pos (by omega),z0j h,zoz (by omega) (by rw [Int.toNat_natCast];exact hkm),Int.toNat_natCast,yei hks,yjk hl hm.srt,z1o j (by omega)]
   obtain ⟨os',r1,r2,r3⟩:=y6v hn hks hkm a1 v1 vs hvs hv K m (j+1) _ (by omega) (by omega) o1
   refine ⟨os',r1,r2,fun t x=>?_⟩
   rw [r3,o2,drop_eq_getElem_cons h,mem_cons]
   constructor
   ·rintro ((h|⟨h1,h2⟩)|⟨h1,h2⟩)
    ·exact Or.inl h
    ·exact Or.inr ⟨h1,Or.inl h2⟩
    ·exact Or.inr ⟨h1,Or.inr h2⟩
   ·rintro (h|⟨h1,h2|h2⟩)
    ·exact Or.inl (Or.inl h)
    ·exact Or.inl (Or.inr ⟨h1,h2⟩)
    ·exact Or.inr ⟨h1,h2⟩
  ·rw [if_neg (by omega)]
   refine ⟨os,rfl,ho,fun t x=>?_⟩
   rw [drop_eq_nil_of_le (by omega)]
   simp
theorem y1j (hn:n<=1000000)(hks:s<k)(hkm:s<m0n)(a1:List AV)(v1:Int×Ars Mp)(vs:List Int)(hvs:vs.length<=100)(hv:∀ v∈vs,0<=v/\v<16)(K:Ars Mp->Option (Nat×Ars Mp)) :
  ∀ (m j:Nat) (os:List Mp),j<=vs.length->vs.length<m+j->OsOk k os->∃ os',z37 N0 a1 m0n (s:Int) v1 vs K m ((j:Int),(ixs k n,os))=K (ixs k n,os')/\OsOk k os'/\∀ t x,hasO os' t x ↔ hasO os t x\/(t=s/\x∈vs.drop j)
 |0,j,os,h1,h2,_=>by omega
 |m+1,j,os,h1,h2,ho=>by
  unfold z37
  simp only [length_map,z0c]
  by_cases h:j<vs.length
  ·obtain ⟨l,hl,hm⟩:=ho.at hks
   obtain ⟨o1,o2⟩:=ho.put hl (hv _ (getElem_mem h))
   rw [if_pos (by omega),z0j h,zoz (by omega) (by rw [Int.toNat_natCast];exact hkm),Int.toNat_natCast,yei hks,yjk hl hm.srt,z1o j (by omega)]
   obtain ⟨os',r1,r2,r3⟩:=y1j hn hks hkm a1 v1 vs hvs hv K m (j+1) _ (by omega) (by omega) o1
   refine ⟨os',r1,r2,fun t x=>?_⟩
   rw [r3,o2,drop_eq_getElem_cons h,mem_cons]
   constructor
   ·rintro ((h|⟨h1,h2⟩)|⟨h1,h2⟩)
    ·exact Or.inl h
    ·exact Or.inr ⟨h1,Or.inl h2⟩
    ·exact Or.inr ⟨h1,Or.inr h2⟩
   ·rintro (h|⟨h1,h2|h2⟩)
    ·exact Or.inl (Or.inl h)
    ·exact Or.inl (Or.inr ⟨h1,h2⟩)
    ·exact Or.inr ⟨h1,h2⟩
  ·rw [if_neg (by omega)]
   refine ⟨os,rfl,ho,fun t x=>?_⟩
   rw [drop_eq_nil_of_le (by omega)]
   simp
theorem ydi {e:Exn}{vs:List Int}(h:∀ v,v∈vs ↔ ∃ i:Nat,i<16/\v=(i:Int)/\Occ i e)(v:Int):v∈vs ↔ OccV v e:=h v
theorem yr2 {es:List Exn}(h:k<es.length)(K:Exn->Option β):idxD z1z (es.map z0l) (k:Int) K=K es[k]:=by
 unfold idxD
 rw [if_pos (by omega)]
 simp only [Int.toNat_natCast,getElem?_map,getElem?_eq_getElem h,Option.map_some,zd3]
theorem yrc {es:List Exn}(h:k<es.length)(K:Exn->Option β):eltD z1z (es.map z0l) k K=K es[k]:=by
 unfold eltD
 simp only [getElem?_map,getElem?_eq_getElem h,Option.map_some,zd3]
theorem y6w (hn:n<=1000000)(hks:s<k)(hkm:s<m0n)(es:List Exn)(hes:es.length<=2000000)(hw:∀ e∈es,WfE e)(K:Ars Mp->Option (Nat×Ars Mp)) :
  ∀ (m j:Nat) (os:List Mp),j<=es.length->es.length<m+j->OsOk k os->∃ os',z3p N0 m0n (es.map z0l) (s:Int) K m ((j:Int),(ixs k n,os))=K (ixs k n,os')/\OsOk k os'/\∀ t x,hasO os' t x ↔ hasO os t x\/(t=s/\∃ e∈es.drop j,OccV x e)
 |0,j,os,h1,h2,_=>by omega
 |m+1,j,os,h1,h2,ho=>by
  unfold z3p
  simp only [length_map,z0c]
  by_cases h:j<es.length
  ·obtain ⟨vs,v1,v2,v3⟩:=zya (hw _ (getElem_mem h)) N0 (by decide)
   rw [if_pos (by omega),yr2 h,v1,z04]
   obtain ⟨os1,q1,q2,q3⟩:=y6v hn hks hkm (es.map z0l) ((j:Int),(ixs k n,os)) vs (by omega) (fun v hv=>by grind) (fun k2_1_0y=>(z3p N0 m0n (es.map z0l) (s:Int) K m) ((IntKind.wrap .i64 (((j:Int),(ixs k n,os)).1+1)),k2_1_0y)) N0 0 os (Nat.zero_le _) (by unfold N0;omega) ho
   refine Exists.imp (fun os'=>?_) (y6w hn hks hkm es hes hw K m (j+1) os1 (by omega) (by omega) q2)
   rintro ⟨r1,r2,r3⟩
   refine ⟨?_,r2,fun t x=>?_⟩
   ·refine Eq.trans q1 ?_
    simp only
    rw [z1o j (by omega)]
    exact r1
   ·rw [r3,q3,drop_zero,drop_eq_getElem_cons h,ydi v3]
    constructor
    ·rintro ((h|⟨h1,h2⟩)|⟨h1,e,h2,h3⟩)
     ·exact Or.inl h
     ·exact Or.inr ⟨h1,_,mem_cons_self,h2⟩
     ·exact Or.inr ⟨h1,e,mem_cons_of_mem _ h2,h3⟩
    ·rintro (h|⟨h1,e,h2,h3⟩)
     ·exact Or.inl (Or.inl h)
     ·rcases mem_cons.1 h2 with h2|h2
      ·subst h2;exact Or.inl (Or.inr ⟨h1,h3⟩)
      ·exact Or.inr ⟨h1,e,h2,h3⟩
  ·rw [if_neg (by omega)]
   refine ⟨os,rfl,ho,fun t x=>?_⟩
   rw [drop_eq_nil_of_le (by omega)]
   simp
theorem y1k (hn:n<=1000000)(hks:s<k)(hkm:s<m0n)(es:List Exn)(hes:es.length<=2000000)(hw:∀ e∈es,WfE e)(K:Ars Mp->Option (Nat×Ars Mp)) :
  ∀ (m j:Nat) (os:List Mp),j<=es.length->es.length<m+j->OsOk k os->∃ os',z20 N0 (es.map z0l) m0n (s:Int) K m ((j:Int),(ixs k n,os))=K (ixs k n,os')/\OsOk k os'/\∀ t x,hasO os' t x ↔ hasO os t x\/(t=s/\∃ e∈es.drop j,OccV x e)
 |0,j,os,h1,h2,_=>by omega
 |m+1,j,os,h1,h2,ho=>by
  unfold z20
  simp only [length_map,z0c]
  by_cases h:j<es.length
  ·obtain ⟨vs,v1,v2,v3⟩:=zya (hw _ (getElem_mem h)) N0 (by decide)
   rw [if_pos (by omega),zf1 h,yrc h,v1,z04]
   obtain ⟨os1,q1,q2,q3⟩:=y1j hn hks hkm (es.map z0l) ((j:Int),(ixs k n,os)) vs (by omega) (fun v hv=>by grind) (fun k2_1_0y=>(z20 N0 (es.map z0l) m0n (s:Int) K m) ((IntKind.wrap .i64 (((j:Int),(ixs k n,os)).1+1)),k2_1_0y)) N0 0 os (Nat.zero_le _) (by unfold N0;omega) ho
   refine Exists.imp (fun os'=>?_) (y1k hn hks hkm es hes hw K m (j+1) os1 (by omega) (by omega) q2)
   rintro ⟨r1,r2,r3⟩
   refine ⟨?_,r2,fun t x=>?_⟩
   ·refine Eq.trans q1 ?_
    simp only
    rw [z1o j (by omega)]
    exact r1
   ·rw [r3,q3,drop_zero,drop_eq_getElem_cons h,ydi v3]
    constructor
    ·rintro ((h|⟨h1,h2⟩)|⟨h1,e,h2,h3⟩)
     ·exact Or.inl h
     ·exact Or.inr ⟨h1,_,mem_cons_self,h2⟩
     ·exact Or.inr ⟨h1,e,mem_cons_of_mem _ h2,h3⟩
    ·rintro (h|⟨h1,e,h2,h3⟩)
     ·exact Or.inl (Or.inl h)
     ·rcases mem_cons.1 h2 with h2|h2
      ·subst h2;exact Or.inl (Or.inr ⟨h1,h3⟩)
      ·exact Or.inr ⟨h1,e,h2,h3⟩
  ·rw [if_neg (by omega)]
   refine ⟨os,rfl,ho,fun t x=>?_⟩
   rw [drop_eq_nil_of_le (by omega)]
   simp
theorem ymk (hn:n<=1000000)(hks:s<k)(hkm:s<m0n)(es:List Exn)(hes:es.length<=2000000)(hw:∀ e∈es,WfE e)(ho:OsOk k os):∃ os',zcm N0 (s:Int) (es.map z0l) m0n (ixs k n,os)=some (m0n,(ixs k n,os'))/\zab N0 (s:Int) m0n (ixs k n,os) (es.map z0l)=some (m0n,(ixs k n,os'))/\OsOk k os'/\∀ t x,hasO os' t x ↔ hasO os t x\/(t=s/\∃ e∈es,OccV x e):=by
 obtain ⟨os1,q1,q2,q3⟩:=y6w hn hks hkm es hes hw (fun y=>some (m0n,y)) N0 0 os (Nat.zero_le _) (by unfold N0;omega) ho
 obtain ⟨os2,r1,r2,r3⟩:=y1k hn hks hkm es hes hw (fun y=>some (m0n,y)) N0 0 os (Nat.zero_le _) (by unfold N0;omega) ho
 rw [drop_zero] at q3 r3
 have e:os2=os1:=by
  apply ext_getElem
  ·rw [r2.len,q2.len]
  ·intro i h1 h2
   have m1:=r2.map _ (getElem_mem h1)
   have m2:=q2.map _ (getElem_mem h2)
   have hk:∀ x,has os2[i] x ↔ has os1[i] x:=fun x=>by
    have a1:hasO os2 i x ↔ has os2[i] x:=⟨fun ⟨l,hl,hx⟩=>by simp_all,fun h=>⟨_,getElem?_eq_getElem h1,h⟩⟩
    have a2:hasO os1 i x ↔ has os1[i] x:=⟨fun ⟨l,hl,hx⟩=>by simp_all,fun h=>⟨_,getElem?_eq_getElem h2,h⟩⟩
    rw [<-a1,<-a2,r3,q3]
   exact yib m1 m2 hk
 subst e
 exact ⟨os2,q1,r1,r2,r3⟩
def OwnG (a:Aut)(t:Nat)(x:Int):Prop:=∃ st,a.fStates[t]? = some st/\∃ g∈st.fGuards,OccV x g.fCond
def OwnX (ed:Ed)(x:Int):Prop:=∃ e∈chE ed++[ed.fCond],OccV x e
def OwnV (a:Aut)(t:Nat)(x:Int):Prop:=OwnG a t x\/∃ ed∈a.fEdges,ed.fFrom=(t:Int)/\OwnX ed x
inductive Rd (a:Aut):Nat->Int->Prop
 |own (t:Nat) (x:Int) (h:OwnV a t x):Rd a t x
 |step (ed:Ed) (he:ed∈a.fEdges) (t s:Nat) (x:Int) (ht:ed.fFrom=(t:Int)) (hs:ed.fTo=(s:Int)) (h:Rd a s x):Rd a t x
theorem yfc {x:Int}{e:Exn}(h:OccV x e):0<=x/\x<16:=by obtain ⟨i,hi,e,_⟩:=h;omega
variable {t:Nat}
theorem y1t {x:Int}(h:OwnV a t x):0<=x/\x<16:=by
 rcases h with ⟨_,_,_,_,h⟩|⟨_,_,_,_,_,h⟩<;>exact yfc h
theorem ykh {x:Int}(h:Rd a t x):0<=x/\x<16:=by
 induction h with
 |own t x h=>exact y1t h
 |step _ _ _ _ _ _ _ _ ih=>exact ih
theorem yle {x:Int}:hasO (os++[[]]) t x ↔ hasO os t x:=by
 unfold hasO
 constructor
 ·rintro ⟨l,hl,hx⟩
  by_cases h:t<os.length
  ·grind
  ·rw [getElem?_append_right (by omega)] at hl
   obtain ⟨_,he⟩:=List.getElem?_eq_some_iff.1 hl
   have:l=[]:=by rw [<-he];simp
   subst this
   simp [has] at hx
 grind
theorem y7g:zwt []:=⟨by simp [Srt],by simp⟩
theorem OsOk.push (h:OsOk k os):OsOk (k+1) (os++[[]]):=⟨by rw [length_append,h.len];rfl,fun l hl=>(mem_append.1 hl).elim (h.map l) (fun hl=>by rw [mem_singleton.1 hl];exact y7g)⟩
theorem yh6 (hn:n<=1000000)(hks:s<k)(hkn:k<=n)(v1:Int×Nat×Ars Mp)(hv1:v1.1=(s:Int))(st:Stt)(hl:st.fGuards.length<=2000000)(hw:∀ g∈st.fGuards,WfE g.fCond)(K:Nat->Ars Mp->Option (List Mp)) :
  ∀ (m j:Nat) (os:List Mp),j<=st.fGuards.length->st.fGuards.length<m+j->OsOk k os->∃ os',z7v N0 a v1 st K m ((j:Int),n,(ixs k n,os))=K n (ixs k n,os')/\OsOk k os'/\∀ t x,hasO os' t x ↔ hasO os t x\/(t=s/\∃ g∈st.fGuards.drop j,OccV x g.fCond)
 |0,j,os,h1,h2,_=>by omega
 |m+1,j,os,h1,h2,ho=>by
  unfold z7v
  simp only [length_map,z0c]
  by_cases h:j<st.fGuards.length
  ·obtain ⟨os1,q1,_,q2,q3⟩:=ymk hn hks (by omega:s<n) [st.fGuards[j].fCond] (by simp) (fun e he=>by simp_all) ho
   simp only [map_cons,map_nil] at q1
   rw [if_pos (by omega),z0j h,hv1,q1,z8n,z1o j (by omega)]
   obtain ⟨os',r1,r2,r3⟩:=yh6 hn hks hkn v1 hv1 st hl hw K m (j+1) os1 (by omega) (by omega) q2
   refine ⟨os',r1,r2,fun t x=>?_⟩
   rw [r3,q3,drop_eq_getElem_cons h]
   grind
  grind
theorem yhb (hw:WfA a)(hn:a.fStates.length<=1000)(K:Nat->Ars Mp->Option (List Mp)) :
  ∀ (m k:Nat) (os:List Mp),k<=a.fStates.length->a.fStates.length<m+k->OsOk k os->∃ os',z58 N0 a K m ((k:Int),a.fStates.length,(ixs k a.fStates.length,os))=K a.fStates.length (ixs a.fStates.length a.fStates.length,os')/\OsOk a.fStates.length os'/\∀ t x,hasO os' t x ↔ hasO os t x\/(k<=t/\OwnG a t x)
 |0,k,os,h1,h2,_=>by omega
 |m+1,k,os,h1,h2,ho=>by
  unfold z58
  simp only [length_map,z0c]
  by_cases h:k<a.fStates.length
  ·rw [if_pos (by omega),z0j h,zoz (by omega) (by rw [Int.toNat_natCast];exact h),Int.toNat_natCast,yn5 h ho.len]
   have hst:=hw.st _ (getElem_mem h)
   obtain ⟨os1,q1,q2,q3⟩:=yh6 (a:=a) (n:=a.fStates.length) (by omega) (Nat.lt_succ_self k) h ((k:Int),a.fStates.length,(ixs k a.fStates.length,os)) rfl a.fStates[k] (by omega) hst.2 (fun k6_5_0y0 k6_5_0y1=>(z58 N0 a K m) ((IntKind.wrap .i64 (((k:Int),a.fStates.length,(ixs k a.fStates.length,os)).1+1)),k6_5_0y0,k6_5_0y1)) N0 0 (os++[[]]) (Nat.zero_le _) (by unfold N0;omega) ho.push
   refine Exists.imp (fun os'=>?_) (yhb hw hn K m (k+1) os1 (by omega) (by omega) q2)
   rintro ⟨r1,r2,r3⟩
   refine ⟨?_,r2,fun t x=>?_⟩
   ·refine Eq.trans q1 ?_
    simp only
    rw [z1o k (by omega)]
    exact r1
   ·rw [r3,q3,yle,drop_zero]
    constructor
    ·rintro ((h'|⟨h1,h2⟩)|⟨h1,h2⟩)
     ·exact Or.inl h'
     ·subst h1;exact Or.inr ⟨Nat.le_refl _,_,getElem?_eq_getElem h,h2⟩
     ·exact Or.inr ⟨by omega,h2⟩
    ·rintro (h'|⟨k1,st,k2,k3⟩)
     ·exact Or.inl (Or.inl h')
     ·by_cases e:t=k
      ·simp_all
      ·exact Or.inr ⟨by omega,st,k2,k3⟩
  ·have:k=a.fStates.length:=by omega
   subst this
   rw [if_neg (by omega)]
   refine ⟨os,rfl,ho,fun t x=>⟨Or.inl,fun h=>h.elim id (fun ⟨h1,st,h2,_⟩=>?_)⟩⟩
   simp_all
def zkp (bk:List (List Int))(ed:Ed):List (List Int):=if 0<=ed.fTo then bk.set ed.fTo.toNat (bk.getD ed.fTo.toNat []++[ed.fFrom]) else bk
theorem y8z (bk:List (List Int))(ed:Ed):(zkp bk ed).length=bk.length:=by unfold zkp;split<;>simp
variable {bk:List (List Int)}
theorem yjo {ed:Ed}{y:Int}(ht:t<bk.length):y∈(zkp bk ed).getD t [] ↔ y∈bk.getD t []\/(ed.fTo=(t:Int)/\y=ed.fFrom):=by
 unfold zkp
 grind
theorem y23:∀ (l:List Ed) (bk:List (List Int)),(l.foldl zkp bk).length=bk.length
 |[],_=>rfl
 |x::r,bk=>by rw [foldl_cons,y23 r,y8z]
theorem y22 {y:Int}:∀ (l:List Ed) (bk:List (List Int)),t<bk.length->(y∈(l.foldl zkp bk).getD t [] ↔ y∈bk.getD t []\/∃ ed∈l,ed.fTo=(t:Int)/\y=ed.fFrom)
 |[],bk,_=>by simp
 |x::r,bk,h=>by
  rw [foldl_cons,y22 r _ (by rw [y8z];exact h),yjo h]
  grind
theorem yjp {ed:Ed}(h:∀ q∈bk,q.length<=k):∀ q∈zkp bk ed,q.length<=k+1:=fun q hq=>by
 unfold zkp at hq
 grind
theorem yg3 (h:WfX x):x.fChecks=(chE x).map z0l/\(∀ e∈chE x,WfE e):=by
 obtain ⟨ys,hy,hw⟩:=h.checks
 rw [yjb hy]
 exact ⟨hy,hw⟩
theorem yha (hw:WfA a)(ha:AOk a)(hck:∀ x∈a.fEdges,x.fChecks.length<=1100000)(K:Nat->Ars Mp->List (List Int)->Option (List Mp)) :
  ∀ (m j:Nat) (bk:List (List Int)) (os:List Mp),j<=a.fEdges.length->a.fEdges.length<m+j->OsOk a.fStates.length os->bk.length=a.fStates.length->(∀ q∈bk,q.length<=j) ->
   ∃ os',z2i N0 a a.fStates.length K m ((j:Int),a.fStates.length,bk,(ixs a.fStates.length a.fStates.length,os))=K a.fStates.length (ixs a.fStates.length a.fStates.length,os') ((a.fEdges.drop j).foldl zkp bk)/\OsOk a.fStates.length os'/\∀ t x,hasO os' t x ↔ hasO os t x\/∃ ed∈a.fEdges.drop j,ed.fFrom=(t:Int)/\OwnX ed x
 |0,j,bk,os,h1,h2,_,_,_=>by omega
 |m+1,j,bk,os,h1,h2,ho,hb,hbl=>by
  have hle:=hw.le
  have hns:=ha.st
  unfold z2i
  simp only [length_map,z0c]
  by_cases h:j<a.fEdges.length
  ·have hmem:=getElem_mem h
   have hed:=ha.ed _ hmem
   have hwx:=hw.ed _ hmem
   obtain ⟨c1,c2⟩:=yg3 hwx
   have hcl:=hck _ hmem
   have hcl':(chE a.fEdges[j]).length<=1100000:=by rw [c1,length_map] at hcl;exact hcl
   obtain ⟨f,hf⟩:∃ f:Nat,a.fEdges[j].fFrom=(f:Int):=⟨a.fEdges[j].fFrom.toNat,by have:=hed.frm;omega⟩
   have hfn:f<a.fStates.length:=by have:=hed.frm;omega
   obtain ⟨os1,_,q1,q2,q3⟩:=ymk (n:=a.fStates.length) (m0n:=a.fStates.length) (by omega) hfn hfn (chE a.fEdges[j]++[a.fEdges[j].fCond]) (by simp;omega) (fun e he=>by
    rcases mem_append.1 he with he|he
    ·exact c2 e he
    ·rw [mem_singleton.1 he];exact hwx.cond) ho
   have hcl2:zay N0 a.fEdges[j].fChecks=some a.fEdges[j].fChecks:=by unfold zay;rw [if_pos (by omega)]
   rw [if_pos (by omega),z0j h,hcl2,zjq,zbi (by simp;omega) (by omega)]
   rw [map_append,<-c1,map_cons,map_nil] at q1
   rw [hf,q1,z8n]
   simp only [z1d]
   have iter:∀ bk',bk'.length=a.fStates.length->(∀ q∈bk',q.length<=j+1)->bk'=zkp bk a.fEdges[j]->∃ os',z2i N0 a a.fStates.length K m ((IntKind.wrap .i64 ((j:Int)+1)),a.fStates.length,bk',(ixs a.fStates.length a.fStates.length,os1))=K a.fStates.length (ixs a.fStates.length a.fStates.length,os') ((a.fEdges.drop j).foldl zkp bk)/\OsOk a.fStates.length os'/\∀ t x,hasO os' t x ↔ hasO os t x\/∃ ed∈a.fEdges.drop j,ed.fFrom=(t:Int)/\OwnX ed x:=fun bk' b1 b2 b3=>by
    obtain ⟨os',r1,r2,r3⟩:=yha hw ha hck K m (j+1) bk' os1 (by omega) (by omega) q2 b1 b2
    rw [z1o j (by omega)]
    refine ⟨os',?_,r2,fun t x=>?_⟩
    ·rw [r1,drop_eq_getElem_cons h,foldl_cons,b3]
    ·rw [r3,q3,drop_eq_getElem_cons h]
     simp only [mem_cons]
     constructor
     ·rintro ((h'|⟨h1,h2⟩)|⟨ed,h1,h2⟩)
      ·exact Or.inl h'
      ·exact Or.inr ⟨_,Or.inl rfl,by rw [h1];exact hf,h2⟩
      grind
     ·rintro (h'|⟨ed,h1|h1,h2,h3⟩)
      ·exact Or.inl (Or.inl h')
      ·subst h1;exact Or.inl (Or.inr ⟨by omega,h3⟩)
      grind
   by_cases h0:0<=a.fEdges[j].fTo
   ·rw [if_pos h0]
    have ht:=hed.tgt
    have hlt:a.fEdges[j].fTo.toNat<bk.length:=by omega
    have hbq:(bk.getD a.fEdges[j].fTo.toNat []).length<=j:=by
     rw [getD_eq_getElem?_getD,getElem?_eq_getElem hlt]
     exact hbl _ (getElem_mem hlt)
    rw [zoz h0 (by omega),yhw hlt,zbi (by rw [length_singleton];omega) (by omega),zoz h0 (by omega),yi0 hlt]
    have e:bk.set a.fEdges[j].fTo.toNat (bk.getD a.fEdges[j].fTo.toNat []++[(f:Int)])=zkp bk a.fEdges[j]:=by unfold zkp;rw [if_pos h0,hf]
    grind
   ·rw [if_neg h0]
    exact iter bk hb (fun q hq=>by have:=hbl q hq;omega) (by unfold zkp;rw [if_neg h0])
  grind
theorem yh9 (hn:n<=1000)(x44 k0:Nat)(k1:Ars Mp)(k2:List (List Int))(K:Nat->Ars Mp->Option (List Mp)) :
  ∀ (m k:Nat) (os:List Mp),k<=n->n<m+k->os.length=k->z3g N0 x44 k0 k1 k2 n K m ((k:Int),(ixs k n,os))=K n (ixs n n,os++replicate (n-k) [])
 |0,k,os,h1,h2,_=>by omega
 |m+1,k,os,h1,h2,ho=>by
  unfold z3g
  simp only [z0c]
  by_cases h:k<n
  ·rw [if_pos (by omega),zoz (by omega) (by rw [Int.toNat_natCast];exact h),Int.toNat_natCast,yn5 h ho,z1o k (by omega)]
   rw [yh9 hn x44 k0 k1 k2 K m (k+1) (os++[[]]) (by omega) (by omega) (by rw [length_append,ho];rfl)]
   obtain ⟨d,hd⟩:∃ d,n-k=d+1:=⟨n-k-1,by omega⟩
   grind
  ·have:k=n:=by omega
   simp_all
end Go.Proofs.YtidhlpjgifoneaaGreat
