/- Layer 25, plainly: consuming an event. Layer 25, plainly: what configurations become at an event. Layer 25, plainly: running; RunRuns. -/
import Derived.Test.YtjpknpjjcddnnaaGreatK25
import Derived.Test.YtjpknpjjcddnnaaGreatK23
set_option linter.unusedVariables false
set_option linter.unusedSimpArgs false
namespace Go.Proofs.YtjpknpjjcddnnaaGreat
open Go.RowKit
abbrev cf0:Cf:=⟨0,[],[]⟩
def hasI (l:List Int)(n:Int):Bool:=l.any fun y=>decide (n=y)
theorem p_has_l1 (n:Nat)(s:Int)(l:List Int)(hl:l.length<=1100000):∀ (m k:Nat),k<=l.length->l.length<m+k->z7e n s l (some false) m (k:Int)=some (hasI (l.drop k) s)
 |0,k,h1,h2=>by omega
 |m+1,k,h1,h2=>by
  unfold z7e
  simp only [List.length_map,z0o]
  by_cases h:k<l.length
  ·rw [if_pos (by omega),z0s h,z0g l k h,z2n k (by omega),p_has_l1 n s l hl m (k+1) (by omega) (by omega)]
   unfold hasI
   rw [List.any_cons]
   by_cases q:l[k]=s
   ·simp [q]
   ·have:¬s=l[k]:=fun h=>q h.symm
    simp [q,this]
  ·rw [if_neg (by omega),List.drop_eq_nil_of_le (by omega)]
   rfl
theorem p_has (n:Nat)(s:Int)(l:List Int)(hl:l.length<=1100000)(hn:l.length<n):zay n l s=some (hasI l s):=by
 have:=p_has_l1 n s l hl n 0 (by omega) (by omega)
 unfold zay
 simpa only [Int.natCast_zero,List.drop_zero] using this
def guardsOf (a:Aut)(s:Int):List Gd:=match a.fStates[s.toNat]? with|some s=>s.fGuards|none=>[]
def chE (x:Ed):List Exn:=x.fChecks.filterMap z3a
theorem chE_of {x:Ed}{ys:List Exn}(h:x.fChecks=ys.map z1u):chE x=ys:=by
 unfold chE
 rw [h,List.filterMap_map]
 have:(z3a ∘ z1u)=some:=by funext y;exact zki y
 rw [this,List.filterMap_some]
def ckP (x:Ed)(env:List (List Ev)):Bool:=(chE x).all (fun y=>trR env y (-1) ev0)
def gdP (a:Aut)(c:Cf)(x:Ed)(env:List (List Ev))(e:Ev):Bool:=(guardsOf a c.fState).any (fun g=>!hasI x.fInside g.fScope && vio env e g)
def stN (c:Cf)(x:Ed)(e:Ev):List Sta:=opL c.fStarts x.fOpens e.fTime
def bdN (c:Cf)(x:Ed)(e:Ev):List Bd:=c.fBindings++[⟨x.fVar,z9z e⟩]
def coP (a:Aut)(held:List Ev)(c:Cf)(x:Ed)(e:Ev):Option Cf :=
 if x.fType=e.fType/\gdP a c x (enH held c.fBindings) e=false/\trR (enH held c.fBindings) x.fCond x.fVar e=true/\x.fLimits.all (keP (stN c x e) e.fTime)=true/\ckP x (enH (e::held) (bdN c x e))=true then some ⟨x.fTo,bdN c x e,(stN c x e).filter (ncl x)⟩ else none
def rfC:Option Cf->Cf×Bool
 |some c=>(c,true)
 |none=>(cf0,false)
structure CB (held:List Ev) (a:Aut) (k:Nat) (c:Cf):Prop where
 st:0<=c.fState/\c.fState<a.fStates.length
 bd:BdOk held a.fVars c.fBindings
 ss:SS c.fStarts
 lb:c.fBindings.length<=k
 ls:c.fStarts.length<=100*k
structure CxA (a:Aut) (held:List Ev):Prop where
 wf:WfA a
 ok:AOk a
 lo:∀ x∈a.fEdges,x.fOpens.length<=100
 lh:held.length<=10000
theorem y1b {a:Aut}{s:Int}(h:0<=s/\s<a.fStates.length):∃ st:Stt,a.fStates[s.toNat]? = some st/\st∈a.fStates/\guardsOf a s=st.fGuards:=by
 have:s.toNat<a.fStates.length:=by omega
 refine ⟨a.fStates[s.toNat],List.getElem?_eq_getElem this,List.getElem_mem this,?_⟩
 unfold guardsOf
 rw [List.getElem?_eq_getElem this]
theorem idx_some {α β:Type}{l:List α}{n:Int}{x:α}(h0:0<=n)(h:l[n.toNat]? = some x)(k:α->Option β):idx l n k=k x:=by
 unfold idx
 rw [if_pos h0,h]
theorem idxD_ok {β:Type}{x:Ed}{ys:List Exn}(h:x.fChecks=ys.map z1u){k:Nat}(hk:k<ys.length)(Q:Exn->Option β):idxD z3a x.fChecks (k:Int) Q=Q ys[k]:=by
 unfold idxD
 rw [if_pos (by omega),h]
 simp [hk,zki]
theorem p_rcon_l1 (e:Ev)(x:Ed)(c:Cf)(held:List Ev)(env:List (List Ev))(hs:EvS env)(st:Stt)(hg:st.fGuards.length<=1100000)(hw:∀ g∈st.fGuards,WfE g.fCond)(hi:x.fInside.length<=1100000)(K:List (List Ev)->Option (Cf×Bool)):∀ (m k:Nat),k<=st.fGuards.length->st.fGuards.length<m+k->z21 N0 e x c held ⟨env⟩ st K m (k:Int)=if (st.fGuards.drop k).any (fun g=>!hasI x.fInside g.fScope && vio env e g)=true then some (cf0,false) else K env
 |0,k,h1,h2=>by omega
 |m+1,k,h1,h2=>by
  unfold z21
  simp only [List.length_map,z0o,z2s,z1r,z2t]
  by_cases h:k<st.fGuards.length
  ·rw [if_pos (by omega),z0s h,z0g _ k h,List.any_cons,p_has N0 _ _ hi (by unfold N0;omega),z09,z2n k (by omega),p_rcon_l1 e x c held env hs st hg hw hi K m (k+1) (by omega) (by omega),z0s h,p_rviol hs (hw _ (List.getElem_mem h)),z09]
   cases hasI x.fInside st.fGuards[k].fScope with
   |true=>simp [z8k]
   |false =>
    simp only [Bool.not_false,z80,Bool.true_and]
    cases vio env e st.fGuards[k]<;>simp [z80,z8k]
  ·rw [if_neg (by omega),List.drop_eq_nil_of_le (by omega)]
   rfl
theorem p_rcon_l2 (e:Ev)(x:Ed)(c:Cf)(held:List Ev)(hl:x.fOpens.length<=1100000)(K:List Sta->Option (Cf×Bool)):∀ (m k:Nat) (cur:List Sta),k<=x.fOpens.length->x.fOpens.length<m+k->SS cur->cur.length+(x.fOpens.length-k)<=1100000->z4i N0 e x c held K m ((k:Int),cur)=K ((x.fOpens.drop k).foldl (fun l s=>opS l s e.fTime) cur)
 |0,k,cur,h1,h2,h3,h4=>by omega
 |m+1,k,cur,h1,h2,h3,h4=>by
  unfold z4i
  simp only [List.length_map,z0o]
  by_cases h:k<x.fOpens.length
  ·have hop:=opS_len cur x.fOpens[k] e.fTime
   rw [if_pos (by omega),z0s h,z0g _ k h,List.foldl_cons,p_ropened N0 _ _ cur h3 (by omega) (by unfold N0;omega),z09,z2n k (by omega)]
   exact p_rcon_l2 e x c held hl K m (k+1) _ (by omega) (by omega) (opS_ss h3 _ _) (by omega)
  ·rw [if_neg (by omega),List.drop_eq_nil_of_le (by omega)]
   rfl
theorem p_rcon_l3 (e:Ev)(x:Ed)(c:Cf)(held:List Ev)(hl:x.fLimits.length<=1100000)(s:List Sta)(hs:s.length<=1100000)(K:Option (Cf×Bool)):∀ (m k:Nat),k<=x.fLimits.length->x.fLimits.length<m+k->z4h N0 e x c held s K m (k:Int)=if (x.fLimits.drop k).all (keP s e.fTime)=true then K else some (cf0,false)
 |0,k,h1,h2=>by omega
 |m+1,k,h1,h2=>by
  unfold z4h
  simp only [List.length_map,z0o,z0w]
  by_cases h:k<x.fLimits.length
  ·rw [if_pos (by omega),z0s h,z0g _ k h,List.all_cons,p_kept N0 _ _ s hs (by unfold N0;omega),z09,z2n k (by omega),p_rcon_l3 e x c held hl s hs K m (k+1) (by omega) (by omega)]
   cases keP s e.fTime x.fLimits[k]<;>simp [z80,z8k]
  ·rw [if_neg (by omega),List.drop_eq_nil_of_le (by omega)]
   rfl
theorem p_rcon_l4 (x:Ed)(s:List Sta)(bs:List Bd)(env:List (List Ev))(hs:EvS env)(ys:List Exn)(hy:x.fChecks=ys.map z1u)(hw:∀ y∈ys,WfE y)(hl:ys.length<=1100000)(K:List Bd->Option (Cf×Bool)):∀ (m k:Nat),k<=ys.length->ys.length<m+k->z4g N0 x s bs ⟨env⟩ K m (k:Int)=if (ys.drop k).all (fun y=>trR env y (-1) ev0)=true then K bs else some (cf0,false)
 |0,k,h1,h2=>by omega
 |m+1,k,h1,h2=>by
  unfold z4g
  have hll:x.fChecks.length=ys.length:=by rw [hy,List.length_map]
  simp only [List.length_map,z0o,z0w,hll]
  by_cases h:k<ys.length
  ·rw [if_pos (by omega),idxD_ok hy h,z0g _ k h,List.all_cons,(trR_p (fun v=>rfl:EvEq env env) hs (hw _ (List.getElem_mem h)) (-1) ev0).1,z09,z2n k (by omega),p_rcon_l4 x s bs env hs ys hy hw hl K m (k+1) (by omega) (by omega)]
   cases trR env ys[k] (-1) ev0<;>simp [z80,z8k]
  ·rw [if_neg (by omega),List.drop_eq_nil_of_le (by omega)]
   rfl
theorem p_rcon_l5 (x:Ed)(bs:List Bd)(hl:x.fCloses.length<=1100000)(K:List Sta->Option (Cf×Bool)):∀ (m k:Nat) (cur:List Sta),k<=x.fCloses.length->x.fCloses.length<m+k->cur.length<=1100000->z4f N0 x bs K m ((k:Int),cur)=K ((x.fCloses.drop k).foldl clS cur)
 |0,k,cur,h1,h2,h3=>by omega
 |m+1,k,cur,h1,h2,h3=>by
  unfold z4f
  simp only [List.length_map,z0o]
  by_cases h:k<x.fCloses.length
  ·have hop:=clS_len cur x.fCloses[k]
   rw [if_pos (by omega),z0s h,z0g _ k h,List.foldl_cons,p_closed N0 _ cur h3 (by unfold N0;omega),z09,z2n k (by omega)]
   exact p_rcon_l5 x bs hl K m (k+1) _ (by omega) (by omega) (by omega)
  ·rw [if_neg (by omega),List.drop_eq_nil_of_le (by omega)]
   rfl
theorem p_rconsume {a:Aut}{held:List Ev}(hx:CxA a held){c:Cf}{k:Nat}(hk:k<=1000)(hc:CB held a k c){x:Ed}(hxe:x∈a.fEdges)(e:Ev):z4p N0 a held c x e=some (rfC (coP a held c x e)):=by
 have hlb:=hc.lb
 have hls:=hc.ls
 have hlo:=hx.lo x hxe
 have hlh:=hx.lh
 have wx:=hx.wf.ed x hxe
 have hl1:=opL_len e.fTime x.fOpens c.fStarts
 obtain ⟨st,g1,g2,g3⟩:=y1b hc.st
 obtain ⟨ys,hy,hyw⟩:=wx.checks
 have hyl:ys.length<=1100000:=by have:=wx.lc;rw [hy,List.length_map] at this;exact this
 have hes:EvS (enH held c.fBindings):=enH_len (by omega)
 have hes2:EvS (enH (e::held) (bdN c x e)):=enH_len (by unfold bdN;simp;omega)
 unfold z4p
 rw [p_renv N0 (by decide) held (by omega) c (by omega),z09,idx_some hc.st.1 g1]
 have l1:=p_rcon_l1 e x c held (enH held c.fBindings) hes st (hx.wf.st st g2).1 (hx.wf.st st g2).2 wx.li (fun k1_0_0y=>jon (z12 N0 e x c held) <| reg <| cnd (!decide (x.fType=e.fType)) (z12 N0 e x c held true) <| bnd (z2h N0 x.fCond (⟨k1_0_0y⟩:z0h) x.fVar e) fun x224=>z12 N0 e x c held !(x224)) N0 0 (Nat.zero_le _) (by have:=(hx.wf.st st g2).1;unfold N0;omega)
 refine l1.trans ?_
 rw [List.drop_zero]
 have hgd:gdP a c x (enH held c.fBindings) e=st.fGuards.any (fun g=>!hasI x.fInside g.fScope && vio (enH held c.fBindings) e g):=by unfold gdP;rw [g3]
 rw [<-hgd]
 unfold coP
 by_cases q1:gdP a c x (enH held c.fBindings) e=true
 ·rw [if_pos q1,if_neg (by rw [q1];simp)]
  rfl
 have q1':gdP a c x (enH held c.fBindings) e=false:=by simpa using q1
 rw [if_neg q1]
 simp only [z2s,z1r,z0w,z0o]
 have j3t:z12 N0 e x c held true=some (cf0,false):=by unfold z12;rw [z80]
 by_cases q2:x.fType=e.fType
 rotate_left
 ·rw [if_neg q2,j3t,if_neg (fun h=>q2 h.1)]
  rfl
 rw [if_pos q2,(trR_p (fun v=>rfl:EvEq (enH held c.fBindings) (enH held c.fBindings)) hes wx.cond x.fVar e).1,z09]
 cases q3:trR (enH held c.fBindings) x.fCond x.fVar e with
 |false =>
  simp only [Bool.not_false,j3t]
  rw [if_neg (by simp)]
  rfl
 |true =>
  simp only [Bool.not_true]
  unfold z12
  rw [z8k]
  have hst:(stN c x e).length<=1100000:=by unfold stN;omega
  have l2:=fun K=>p_rcon_l2 e x c held wx.lo K N0 0 c.fStarts (Nat.zero_le _) (by have:=wx.lo;unfold N0;omega) hc.ss (by omega)
  refine (l2 _).trans ?_
  rw [List.drop_zero]
  have hfs:x.fOpens.foldl (fun l s=>opS l s e.fTime) c.fStarts=stN c x e:=rfl
  rw [hfs]
  have l3:=fun K=>p_rcon_l3 e x c held wx.ll (stN c x e) hst K N0 0 (Nat.zero_le _) (by have:=wx.ll;unfold N0;omega)
  refine (l3 _).trans ?_
  rw [List.drop_zero]
  cases q4:x.fLimits.all (keP (stN c x e) e.fTime) with
  |false =>
   rw [if_neg (by simp),if_neg (by simp)]
   rfl
  |true =>
   rw [if_pos rfl,zau (by simp;omega) (by omega),p_ref,z09]
   unfold bldS
   simp only []
   rw [zau (by simp only [List.nil_append,List.length_singleton];omega) (by omega),frz_eq,z1r]
   unfold bld
   simp only []
   rw [zau (by simp only [List.length_singleton];omega) (by omega)]
   have hb:([]++c.fBindings++[⟨x.fVar,⟨e.fTime,e.fSource,e.fSeq⟩⟩]:List Bd)=bdN c x e:=rfl
   have hh:([e]++held:List Ev)=e::held:=rfl
   rw [hb,hh,p_renv N0 (by decide) (e::held) (by simp;omega) _ (by unfold bdN;simp;omega),z09]
   have l4:=fun K=>p_rcon_l4 x (stN c x e) (bdN c x e) (enH (e::held) (bdN c x e)) hes2 ys hy hyw hyl K N0 0 (Nat.zero_le _) (by unfold N0;omega)
   refine (l4 _).trans ?_
   have hck:ckP x (enH (e::held) (bdN c x e))=ys.all (fun y=>trR (enH (e::held) (bdN c x e)) y (-1) ev0):=by unfold ckP;rw [chE_of hy]
   rw [List.drop_zero,<-hck]
   cases q5:ckP x (enH (e::held) (bdN c x e)) with
   |false =>
    rw [if_neg (by simp),if_neg (by simp)]
    rfl
   |true =>
    rw [if_pos rfl,if_pos ⟨q2,q1',by simp⟩]
    have l5:=fun K=>p_rcon_l5 x (bdN c x e) wx.lcl K N0 0 (stN c x e) (Nat.zero_le _) (by have:=wx.lcl;unfold N0;omega) hst
    refine (l5 _).trans ?_
    rw [List.drop_zero,clL_eq]
    rfl
theorem lkH_cons {held:List Ev}{e:Ev}(hch:∀ y∈held,z9z y=z9z e->y=e){r:Rf}(h:(lkH held r).isSome=true):lkH (e::held) r=lkH held r:=by
 obtain ⟨y,hy⟩:=Option.isSome_iff_exists.1 h
 obtain ⟨h1,h2⟩:=lkH_ref hy
 have:lkH (e::held) r=if z9z e=r then some e else lkH held r:=by
  unfold lkH
  rw [List.find?_cons]
  by_cases q:z9z e=r<;>simp [q]
 rw [this]
 split
 ·rename_i q
  rw [hy,hch y h2 (by rw [h1,q])]
 ·rfl
theorem evs_set (vs:List (List Ev))(i:Nat)(hi:i<vs.length)(q:List Ev)(v:Int):evs (vs.set i q) v=if v=(i:Int) then q else evs vs v:=by
 unfold evs
 rw [List.length_set]
 by_cases h:v=(i:Int)
 ·rw [if_pos h,if_neg (by omega),if_neg (by omega)]
  have:v.toNat=i:=by omega
  rw [this]
  simp [List.getD_eq_getElem?_getD,hi]
 ·rw [if_neg h]
  by_cases h1:v<0
  ·rw [if_pos h1,if_pos h1]
  rw [if_neg h1,if_neg h1]
  have:i≠v.toNat:=by omega
  simp [List.getD_eq_getElem?_getD,List.getElem?_set,this]
theorem env_next {a:Aut}(ha:AOk a){held:List Ev}{e:Ev}(hch:∀ y∈held,z9z y=z9z e->y=e){l:List Bd}(hb:BdOk held a.fVars l){v:Int}(hv:0<=v/\v<a.fVars):EvEq (enH (e::held) (l++[⟨v,z9z e⟩])) ((bndV held a.fVars.toNat l).set v.toNat ((bndV held a.fVars.toNat l).getD v.toNat []++[e])):=fun w=>by
 have hva:=ha.vars
 have hvl:v.toNat<(bndV held a.fVars.toNat l).length:=by rw [zta];omega
 have hg:(bndV held a.fVars.toNat l).getD v.toNat []=ev1 held l v:=by
  have:=zyw held a.fVars.toNat l v
  unfold evs at this
  rw [if_neg (by omega),zta,if_neg (by omega),if_pos (by omega)] at this
  exact this
 have h1:ev1 (e::held) (l++[⟨v,z9z e⟩]) w=ev1 held l w++(if v=w then [e] else []):=by
  unfold ev1
  rw [List.filterMap_append]
  congr 1
  ·have:∀ b∈l,(if b.fVar=w then lkH (e::held) b.fRef else none)=(if b.fVar=w then lkH held b.fRef else none):=fun b hb'=>by rw [lkH_cons hch (hb b hb').2]
   clear hg
   induction l with
   |nil=>rfl
   |cons b l ih =>
    rw [List.filterMap_cons,List.filterMap_cons,this b (by simp),ih (fun b h=>hb b (List.mem_cons_of_mem _ h)) (by simpa [zta] using hvl) (fun b h=>this b (List.mem_cons_of_mem _ h))]
  ·have:lkH (e::held) (z9z e)=some e:=by unfold lkH;rw [List.find?_cons];simp
   by_cases q:v=w
   ·simp [q,this]
   ·simp [q]
 rw [evs_set _ _ hvl,zyw,h1,hg]
 by_cases q:v=w
 ·subst q
  have:((v.toNat:Nat):Int)=v:=by omega
  rw [if_pos (by omega),if_pos rfl,this,if_pos rfl]
 ·rw [if_neg q,List.append_nil,if_neg (show ¬w=((v.toNat:Nat):Int) by omega)]
  have:=env_eq ⟨hva.1,hva.2⟩ hb w
  rw [zyw] at this
  exact this
theorem p_cons1 {a b:List (List Ev)}(hab:EvEq a b)(hs:EvS a){g:Gd}(hw:WfE g.fCond)(x:Ed)(hi:x.fInside.length<=1100000)(e:Ev):z36 N0 g x ⟨b⟩ e=some (!hasI x.fInside g.fScope && vio a e g):=by
 unfold z36
 simp only [z2s,z1r,z2w]
 rw [zyt N0 _ _ (by omega) (by unfold N0;omega),z09,z0w]
 have:(x.fInside.any fun y=>decide (g.fScope=y))=hasI x.fInside g.fScope:=rfl
 rw [this,p_viol hab hs hw e,z09]
 cases hasI x.fInside g.fScope<;>simp [z80,z8k]
theorem p_con_l1 (e:Ev)(x:Ed)(c:Cf)(s:List Sta)(a b:List (List Ev))(hab:EvEq a b)(hs:EvS a)(ys:List Exn)(hy:x.fChecks=ys.map z1u)(hw:∀ y∈ys,WfE y)(hl:ys.length<=1100000)(K:List Sta->Option (Cf×Bool)):∀ (m k:Nat),k<=ys.length->ys.length<m+k->z6f N0 e x c s b K m (k:Int)=if (ys.drop k).all (fun y=>trR a y (-1) ev0)=true then K s else some (cf0,false)
 |0,k,h1,h2=>by omega
 |m+1,k,h1,h2=>by
  unfold z6f
  have hll:x.fChecks.length=ys.length:=by rw [hy,List.length_map]
  simp only [List.length_map,z0o,z0w,hll]
  by_cases h:k<ys.length
  ·rw [if_pos (by omega),idxD_ok hy h,z0g _ k h,List.all_cons,(trR_p hab hs (hw _ (List.getElem_mem h)) (-1) ev0).2,z09,z2n k (by omega),p_con_l1 e x c s a b hab hs ys hy hw hl K m (k+1) (by omega) (by omega)]
   cases trR a ys[k] (-1) ev0<;>simp [z80,z8k]
  ·rw [if_neg (by omega),List.drop_eq_nil_of_le (by omega)]
   rfl
theorem p_consume {held:List Ev}{r:z0i}(hx:CxA r.fa held){c:Cf}{k:Nat}(hk:k<=1000)(hc:CB held r.fa k c){x:Ed}(hxe:x∈r.fa.fEdges){e:Ev}(hch:∀ y∈held,z9z y=z9z e->y=e):z8c N0 r c x ⟨bndV held r.fa.fVars.toNat c.fBindings⟩ e=some (rfC (coP r.fa held c x e)):=by
 have hlb:=hc.lb
 have hls:=hc.ls
 have hlo:=hx.lo x hxe
 have hlh:=hx.lh
 have hva:=hx.ok.vars
 have wx:=hx.wf.ed x hxe
 have xv:=(hx.ok.ed x hxe).var
 have hl1:=opL_len e.fTime x.fOpens c.fStarts
 obtain ⟨st,g1,g2,g3⟩:=y1b hc.st
 obtain ⟨ys,hy,hyw⟩:=wx.checks
 have hyl:ys.length<=1100000:=by have:=wx.lc;rw [hy,List.length_map] at this;exact this
 have hes:EvS (enH held c.fBindings):=enH_len (by omega)
 have hes2:EvS (enH (e::held) (bdN c x e)):=enH_len (by unfold bdN;simp;omega)
 have hab:=env_eq ⟨hva.1,hva.2⟩ hc.bd
 have j1t:z1p N0 e ⟨bndV held r.fa.fVars.toNat c.fBindings⟩ x c true=some (cf0,false):=by unfold z1p;rw [z80]
 unfold z8c
 simp only [z2s,z1r,z0w,z0o]
 unfold coP
 by_cases q2:x.fType=e.fType
 rotate_left
 ·rw [if_neg (fun h=>q2 h.symm),j1t,if_neg (fun h=>q2 h.1)]
  rfl
 rw [if_pos q2.symm,idx_some hc.st.1 g1]
 rw [p_cont_s143 N0 x ⟨bndV held r.fa.fVars.toNat c.fBindings⟩ e (fun g=>!hasI x.fInside g.fScope && vio (enH held c.fBindings) e g) st.fGuards (by have:=(hx.wf.st st g2).1;omega) (by have:=(hx.wf.st st g2).1;unfold N0;omega) (fun g hg=>p_cons1 hab hes ((hx.wf.st st g2).2 g hg) x wx.li e),z09]
 have hgd:gdP r.fa c x (enH held c.fBindings) e=st.fGuards.any (fun g=>!hasI x.fInside g.fScope && vio (enH held c.fBindings) e g):=by unfold gdP;rw [g3]
 rw [<-hgd]
 cases q1:gdP r.fa c x (enH held c.fBindings) e with
 |true =>
  rw [z80,j1t,if_neg (by simp)]
  rfl
 |false =>
 rw [z8k,(trR_p hab hes wx.cond x.fVar e).2,z09]
 cases q3:trR (enH held c.fBindings) x.fCond x.fVar e with
 |false =>
  simp only [Bool.not_false,j1t]
  rw [if_neg (by simp)]
  rfl
 |true =>
  simp only [Bool.not_true]
  unfold z1p
  have hst:(stN c x e).length<=1100000:=by unfold stN;omega
  rw [z8k,p_opened N0 e.fTime x.fOpens c.fStarts hc.ss (by omega) (by decide),zih]
  have hfs:opL c.fStarts x.fOpens e.fTime=stN c x e:=rfl
  rw [hfs,p_intime N0 e.fTime (stN c x e) hst (by decide) x.fLimits wx.ll,z09,z0w]
  cases q4:x.fLimits.all (keP (stN c x e) e.fTime) with
  |false =>
   rw [z8k,if_neg (by simp)]
   rfl
  |true =>
   have hvl:x.fVar.toNat<(bndV held r.fa.fVars.toNat c.fBindings).length:=by rw [zta];omega
   have hxl:((bndV held r.fa.fVars.toNat c.fBindings).getD x.fVar.toNat []).length<=1000000:=by
    have h1:=hab x.fVar
    have h2:=hes x.fVar
    rw [h1] at h2
    unfold evs at h2
    rw [if_neg (by omega),zta,if_neg (by omega)] at h2
    exact h2
   have hbl:=zta held r.fa.fVars.toNat c.fBindings
   have hxe':(bndV held r.fa.fVars.toNat c.fBindings)[x.fVar.toNat]=(bndV held r.fa.fVars.toNat c.fBindings).getD x.fVar.toNat []:=by
    simp [List.getD_eq_getElem?_getD,hvl]
   unfold zd7
   rw [z80,if_pos (by rw [hbl];omega),zih,idx_int xv.1 hvl,hxe',if_pos (by omega),zih,zau (by simp only [List.length_singleton];omega) (by omega),List.length_map,nat_int xv.1 hvl,stx_ok hvl]
   have hee:=env_next hx.ok hch hc.bd xv
   have l1:=fun K=>p_con_l1 e x c (stN c x e) (enH (e::held) (bdN c x e)) _ hee hes2 ys hy hyw hyl K N0 0 (Nat.zero_le _) (by unfold N0;omega)
   refine (l1 _).trans ?_
   have hck:ckP x (enH (e::held) (bdN c x e))=ys.all (fun y=>trR (enH (e::held) (bdN c x e)) y (-1) ev0):=by unfold ckP;rw [chE_of hy]
   rw [List.drop_zero,<-hck]
   cases q5:ckP x (enH (e::held) (bdN c x e)) with
   |false =>
    rw [if_neg (by simp),if_neg (by simp)]
    rfl
   |true =>
    rw [if_pos rfl,p_delete N0 x wx.lcl (by decide) _ hst,zbq,if_pos (by omega),zih]
    have hrf:ziy N0 e=some ⟨e.fTime,e.fSource,e.fSeq⟩:=rfl
    rw [hrf,z09,zau (by simp only [List.length_singleton];omega) (by omega),if_pos (by simp [q2])]
    rfl
end Go.Proofs.YtjpknpjjcddnnaaGreat
namespace Go.Proofs.YtjpknpjjcddnnaaGreat
open Go.RowKit
def cfO (l:List Cf):List Cf:=l.filter (fun d=>!decide (d.fState<0))
def maO (l:List Cf):List Ma:=(l.filter (fun d=>decide (d.fState<0))).map (fun d=>⟨d.fBindings⟩)
def fromL (a:Aut)(s:Int):List Ed:=a.fEdges.filter (fun x=>decide (x.fFrom=s))
def skP (a:Aut)(held:List Ev)(c:Cf)(e:Ev):Bool:=!(guardsOf a c.fState).any (vio (enH held c.fBindings) e)
def outP (a:Aut)(held:List Ev)(c:Cf)(e:Ev):List Cf:=(if skP a held c e=true then [c] else [])++(fromL a c.fState).filterMap (fun x=>coP a held c x e)
theorem cfO_cons (d:Cf)(l:List Cf):cfO (d::l)=if d.fState<0 then cfO l else d::cfO l:=by
 unfold cfO;rw [List.filter_cons];by_cases h:d.fState<0<;>simp [h]
theorem maO_cons (d:Cf)(l:List Cf):maO (d::l)=if d.fState<0 then (⟨d.fBindings⟩:Ma)::maO l else maO l:=by
 unfold maO;rw [List.filter_cons];by_cases h:d.fState<0<;>simp [h]
theorem cfO_app (l m:List Cf):cfO (l++m)=cfO l++cfO m:=by unfold cfO;rw [List.filter_append]
theorem maO_app (l m:List Cf):maO (l++m)=maO l++maO m:=by unfold maO;rw [List.filter_append,List.map_append]
theorem cfO_len (l:List Cf):(cfO l).length<=l.length:=List.length_filter_le _ _
theorem y0d (l:List Cf):(maO l).length<=l.length:=by unfold maO;rw [List.length_map];exact List.length_filter_le _ _
theorem cfO_mem {l:List Cf}{d:Cf}(h:d∈cfO l):d∈l/\0<=d.fState:=by
 have:=List.mem_filter.1 h
 exact ⟨this.1,by simpa using this.2⟩
theorem maO_mem {l:List Cf}{m:Ma}(h:m∈maO l):∃ d∈l,m=⟨d.fBindings⟩:=by
 obtain ⟨d,hd,rfl⟩:=List.mem_map.1 h
 exact ⟨d,(List.mem_filter.1 hd).1,rfl⟩
def Sz (k:Nat)(c:Cf):Prop:=c.fBindings.length<=k/\c.fStarts.length<=100*k
theorem Sz.ok {k:Nat}(hk:k<=1001){c:Cf}(h:Sz k c):cfOk c=true:=(ze5 c).2 ⟨by have:=h.1;omega,by have:=h.2;omega⟩
theorem coP_some {a:Aut}{held:List Ev}{c:Cf}{x:Ed}{e:Ev}{d:Cf}(h:coP a held c x e=some d):d=⟨x.fTo,bdN c x e,(stN c x e).filter (ncl x)⟩:=by
 unfold coP at h
 split at h
 ·exact (Option.some.inj h).symm
 ·cases h
theorem coP_sz {a:Aut}{held:List Ev}(hx:CxA a held){c:Cf}{k:Nat}(hc:CB held a k c){x:Ed}(hxe:x∈a.fEdges){e:Ev}{d:Cf}(h:coP a held c x e=some d):Sz (k+1) d:=by
 rw [coP_some h]
 have h1:=hc.lb
 have h2:=hc.ls
 have h3:=hx.lo x hxe
 have h4:=opL_len e.fTime x.fOpens c.fStarts
 have h5:=List.length_filter_le (ncl x) (stN c x e)
 refine ⟨by unfold bdN;simp;omega,?_⟩
 unfold stN at h5 ⊢
 simp only
 omega
theorem CB.sz {held:List Ev}{a:Aut}{k:Nat}{c:Cf}(h:CB held a k c):Sz k c:=⟨h.lb,h.ls⟩
theorem y1f {a:Aut}{s:Int}{x:Ed}(h:x∈fromL a s):x∈a.fEdges/\x.fFrom=s:=by
 have:=List.mem_filter.1 h
 exact ⟨this.1,by simpa using this.2⟩
theorem outP_sz {a:Aut}{held:List Ev}(hx:CxA a held){c:Cf}{k:Nat}(hc:CB held a k c){e:Ev}{d:Cf}(h:d∈outP a held c e):Sz (k+1) d:=by
 unfold outP at h
 rcases List.mem_append.1 h with h|h
 ·split at h
  ·rw [List.mem_singleton.1 h]
   have:=hc.sz
   exact ⟨by have:=this.1;omega,by have:=this.2;omega⟩
  ·simp at h
 ·obtain ⟨x,hx',hd⟩:=List.mem_filterMap.1 h
  exact coP_sz hx hc (y1f hx').1 hd
theorem y16 {a:Aut}{held:List Ev}{c:Cf}{e:Ev}:(outP a held c e).length<=a.fEdges.length+1:=by
 unfold outP fromL
 rw [List.length_append]
 have h1:=List.length_filterMap_le (fun x=>coP a held c x e) (a.fEdges.filter (fun x=>decide (x.fFrom=c.fState)))
 have h2:=List.length_filter_le (fun x:Ed=>decide (x.fFrom=c.fState)) a.fEdges
 split
 ·simp;omega
 ·simp;omega
theorem maOk_of {k:Nat}(hk:k<=1001){c:Cf}(h:Sz k c):maOk ⟨c.fBindings⟩=true:=(zdi _).2 (by have:=h.1;simp;omega)
theorem p_skips_l1 (e:Ev)(env:List (List Ev))(hs:EvS env)(st:Stt)(hg:st.fGuards.length<=1100000)(hw:∀ g∈st.fGuards,WfE g.fCond):∀ (m k:Nat),k<=st.fGuards.length->st.fGuards.length<m+k->z64 N0 e ⟨env⟩ st (some true) m (k:Int)=some (!(st.fGuards.drop k).any (vio env e))
 |0,k,h1,h2=>by omega
 |m+1,k,h1,h2=>by
  unfold z64
  simp only [List.length_map,z0o]
  by_cases h:k<st.fGuards.length
  ·rw [if_pos (by omega),z0s h,z0g _ k h,List.any_cons,p_rviol hs (hw _ (List.getElem_mem h)),z09,z2n k (by omega),p_skips_l1 e env hs st hg hw m (k+1) (by omega) (by omega)]
   cases vio env e st.fGuards[k]<;>simp [z80,z8k]
  ·rw [if_neg (by omega),List.drop_eq_nil_of_le (by omega)]
   rfl
theorem p_rskips {a:Aut}{held:List Ev}(hx:CxA a held){c:Cf}{k:Nat}(hk:k<=1000)(hc:CB held a k c)(e:Ev):z9n N0 a held c e=some (skP a held c e):=by
 have hlb:=hc.lb
 have hlh:=hx.lh
 obtain ⟨st,g1,g2,g3⟩:=y1b hc.st
 unfold z9n skP
 rw [p_renv N0 (by decide) held (by omega) c (by omega),z09,idx_some hc.st.1 g1,g3]
 have:=p_skips_l1 e (enH held c.fBindings) (enH_len (by omega)) st (hx.wf.st st g2).1 (hx.wf.st st g2).2 N0 0 (Nat.zero_le _) (by have:=(hx.wf.st st g2).1;unfold N0;omega)
 rw [List.drop_zero] at this
 exact this
theorem p_from_l1 (s:Int)(a:Aut)(hl:a.fEdges.length<=1000000)(K:List Ed->Option (List Ed)):∀ (m k:Nat) (out:List Ed),k<=a.fEdges.length->a.fEdges.length<m+k->out.length<=k->z4q N0 s a K m ((k:Int),out)=K (out++(a.fEdges.drop k).filter (fun x=>decide (x.fFrom=s)))
 |0,k,out,h1,h2,h3=>by omega
 |m+1,k,out,h1,h2,h3=>by
  unfold z4q
  simp only [List.length_map,z0o]
  by_cases h:k<a.fEdges.length
  ·have i1:=p_from_l1 s a hl K m (k+1) (out++[a.fEdges[k]]) (by omega) (by omega) (by simp only [List.length_append,List.length_singleton];omega)
   have i2:=p_from_l1 s a hl K m (k+1) out (by omega) (by omega) (by omega)
   rw [if_pos (by omega),z1r,z0s h,z0s h,z0g _ k h,z2n k (by omega),zau (by simp only [List.length_singleton];omega) (by omega),i1,i2,List.filter_cons]
   by_cases q:a.fEdges[k].fFrom=s
   ·simp [q]
   ·simp [q]
  ·rw [if_neg (by omega),List.drop_eq_nil_of_le (by omega)]
   simp
theorem p_from (s:Int)(a:Aut)(hl:a.fEdges.length<=1000000):za6 N0 a s=some (fromL a s):=by
 have:=p_from_l1 s a hl (fun y=>some y) N0 0 [] (Nat.zero_le _) (by unfold N0;omega) (by simp)
 unfold za6 fromL
 exact this
theorem p_one_l1 {a:Aut}{held:List Ev}(hx:CxA a held){c:Cf}{kk:Nat}(hk:kk<=1000)(hc:CB held a kk c)(e:Ev)(es:List Ed)(hes:∀ x∈es,x∈a.fEdges)(hl:es.length<=100000)(K:List Cf->List Ma->Option (List Cf×List Ma)) :
  ∀ (m k:Nat) (cs:List Cf) (ms:List Ma),k<=es.length->es.length<m+k->cs.length<=k+1->ms.length<=k->(∀ d∈cs,cfOk d=true)->(∀ d∈ms,maOk d=true)->z3o N0 e c held a es K m (cs,ms,(k:Int))=K (puts za0 cs (cfO ((es.drop k).filterMap (fun x=>coP a held c x e)))) (puts z4o ms (maO ((es.drop k).filterMap (fun x=>coP a held c x e))))
 |0,k,cs,ms,h1,h2,h3,h4,h5,h6=>by omega
 |m+1,k,cs,ms,h1,h2,h3,h4,h5,h6=>by
  unfold z3o
  simp only [List.length_map,z0o,z0w]
  by_cases h:k<es.length
  ·have hxe:=hes _ (List.getElem_mem h)
   have hcon:=p_rconsume hx hk hc hxe e
   rw [if_pos (by omega),z0s h,z0g _ k h,List.filterMap_cons,z2n k (by omega)]
   cases hco:coP a held c es[k] e with
   |none =>
    have hcon':z4p N0 a held c es[k] e=some (cf0,false):=hcon.trans (by rw [hco];rfl)
    rw [hcon',z09]
    simp only [z8k]
    exact p_one_l1 hx hk hc e es hes hl K m (k+1) cs ms (by omega) (by omega) (by omega) (by omega) h5 h6
   |some d =>
    have hd:=coP_sz hx hc hxe hco
    have hcon':z4p N0 a held c es[k] e=some (d,true):=hcon.trans (by rw [hco];rfl)
    rw [hcon',z09]
    simp only [z80,z1r]
    rw [cfO_cons,maO_cons]
    by_cases hs:d.fState<0
    ·rw [if_pos hs,if_pos hs,if_pos hs,p_putM N0 (by decide) _ (maOk_of (by omega) hd) ms h6 (by omega),z09,zfi]
     have hil:=zmy z4o (⟨d.fBindings⟩:Ma) ms
     exact p_one_l1 hx hk hc e es hes hl K m (k+1) cs _ (by omega) (by omega) (by omega) (by omega) h5 (insU_okM (maOk_of (by omega) hd) h6)
    ·rw [if_neg hs,if_neg hs,if_neg hs,p_putC N0 (by decide) _ (hd.ok (by omega)) cs h5 (by omega),z09,zfi]
     have hil:=zmy za0 d cs
     exact p_one_l1 hx hk hc e es hes hl K m (k+1) _ ms (by omega) (by omega) (by omega) (by omega) (insU_okC (hd.ok (by omega)) h5) h6
  ·rw [if_neg (by omega),List.drop_eq_nil_of_le (by omega)]
   rfl
theorem p_one {a:Aut}{held:List Ev}(hx:CxA a held)(hle:a.fEdges.length<=100000){c:Cf}{kk:Nat}(hk:kk<=1000)(hc:CB held a kk c)(e:Ev):zaz N0 a held c e=some (setL za0 (cfO (outP a held c e)),setL z4o (maO (outP a held c e))):=by
 have hfl:(fromL a c.fState).length<=100000:=by
  have:=List.length_filter_le (fun x:Ed=>decide (x.fFrom=c.fState)) a.fEdges
  unfold fromL;omega
 have l1:=fun cs h3 h5=>p_one_l1 hx hk hc e (fromL a c.fState) (fun x h=>(y1f h).1) hfl (fun k1_1_0y0 k1_1_0y1=>some (k1_1_0y0,k1_1_0y1)) N0 0 cs [] (Nat.zero_le _) (by unfold N0;omega) h3 (by simp) h5 (by simp)
 have hns:¬c.fState<0:=by have:=hc.st;omega
 unfold zaz
 simp only [z2s,z1r,z5o]
 rw [p_rskips hx hk hc e,z09,p_from _ a (by omega)]
 simp only [z09]
 unfold outP setL
 rw [cfO_app,maO_app,zkd,zkd]
 cases skP a held c e with
 |true =>
  have hput:=p_putC N0 (by decide) c (hc.sz.ok (by omega)) [] (by simp) (by simp)
  rw [z80,hput,z09]
  have:=l1 (insU za0 c []) (by simp [insU]) (by simp [insU];exact hc.sz.ok (by omega))
  refine this.trans ?_
  have e1:puts za0 [] (cfO (if true=true then [c] else []))=insU za0 c []:=by
   rw [if_pos rfl,cfO_cons,if_neg hns];rfl
  have e2:puts z4o [] (maO (if true=true then [c] else []))=[]:=by
   rw [if_pos rfl,maO_cons,if_neg hns];rfl
  rw [e1,e2]
  rfl
 |false =>
  rw [z8k]
  refine (l1 [] (by simp) (by simp)).trans ?_
  rfl
theorem p_all_l2 (e:Ev)(l:List Cf)(held:List Ev)(a:Aut)(v:List Cf×List Ma×Int)(x:List Cf×List Ma)(hok:∀ d∈x.1,cfOk d=true)(hl:x.1.length<=100000)(K:List Cf->List Ma->Option (List Cf×List Ma)):∀ (m k:Nat) (cs:List Cf),k<=x.1.length->x.1.length<m+k->cs.length+(x.1.length-k)<=1000000->(∀ d∈cs,cfOk d=true)->z7i N0 e l held a v x K m (cs,(k:Int))=K (puts za0 cs (x.1.drop k)) x.2
 |0,k,cs,h1,h2,h3,h4=>by omega
 |m+1,k,cs,h1,h2,h3,h4=>by
  unfold z7i
  simp only [List.length_map,z0o]
  by_cases h:k<x.1.length
  ·have ho:=hok _ (List.getElem_mem h)
   have hil:=zmy za0 x.1[k] cs
   rw [if_pos (by omega),z0s h,p_putC N0 (by decide) _ ho cs h4 (by omega),z09,z0g _ k h,zfi,z2n k (by omega)]
   exact p_all_l2 e l held a v x hok hl K m (k+1) _ (by omega) (by omega) (by omega) (insU_okC ho h4)
  ·rw [if_neg (by omega),List.drop_eq_nil_of_le (by omega)]
   rfl
theorem p_all_l3 (e:Ev)(l:List Cf)(held:List Ev)(a:Aut)(v:List Cf×List Ma×Int)(y0:List Cf)(x:List Ma)(hok:∀ d∈x,maOk d=true)(hl:x.length<=100000)(K:List Ma->Option (List Cf×List Ma)):∀ (m k:Nat) (cs:List Ma),k<=x.length->x.length<m+k->cs.length+(x.length-k)<=1000000->(∀ d∈cs,maOk d=true)->z7h N0 e l held a v y0 x K m (cs,(k:Int))=K (puts z4o cs (x.drop k))
 |0,k,cs,h1,h2,h3,h4=>by omega
 |m+1,k,cs,h1,h2,h3,h4=>by
  unfold z7h
  simp only [List.length_map,z0o]
  by_cases h:k<x.length
  ·have ho:=hok _ (List.getElem_mem h)
   have hil:=zmy z4o x[k] cs
   have hp:=p_putM N0 (by decide) x[k] ho cs h4 (by omega)
   rw [if_pos (by omega),z0s h,z0g _ k h,zfi,z2n k (by omega),hp,z09]
   exact p_all_l3 e l held a v y0 x hok hl K m (k+1) _ (by omega) (by omega) (by omega) (insU_okM ho h4)
  ·rw [if_neg (by omega),List.drop_eq_nil_of_le (by omega)]
   rfl
theorem p_with_l2 (most:Int)(l:List Ev)(a:Aut)(v:List Cf×List Ma×Int)(x:List Cf×List Ma)(hok:∀ d∈x.2,maOk d=true)(hl:x.2.length<=1000000)(K:List Ma->List Cf->Option (List Cf×List Ma×Bool)):∀ (m k:Nat) (cs:List Ma),k<=x.2.length->x.2.length<m+k->cs.length+(x.2.length-k)<=1000000->(∀ d∈cs,maOk d=true)->z57 N0 most l a v x K m (cs,(k:Int))=K (puts z4o cs (x.2.drop k)) x.1
 |0,k,cs,h1,h2,h3,h4=>by omega
 |m+1,k,cs,h1,h2,h3,h4=>by
  unfold z57
  simp only [List.length_map,z0o]
  by_cases h:k<x.2.length
  ·have ho:=hok _ (List.getElem_mem h)
   have hil:=zmy z4o x.2[k] cs
   have hp:=p_putM N0 (by decide) x.2[k] ho cs h4 (by omega)
   rw [if_pos (by omega),z0s h,z0g _ k h,zfi,z2n k (by omega),hp,z09]
   exact p_with_l2 most l a v x hok hl K m (k+1) _ (by omega) (by omega) (by omega) (insU_okM ho h4)
  ·rw [if_neg (by omega),List.drop_eq_nil_of_le (by omega)]
   rfl
theorem setM_ok {l:List Ma}(h:∀ x∈l,maOk x=true):∀ x∈setL z4o l,maOk x=true:=fun x hx=>h x ((zfv z90 x l).1 hx)
theorem cfO_ok {a:Aut}{held:List Ev}(hx:CxA a held){c:Cf}{kk:Nat}(hk:kk<=1000)(hc:CB held a kk c)(e:Ev):∀ d∈cfO (outP a held c e),cfOk d=true:=fun d hd=>(outP_sz hx hc (cfO_mem hd).1).ok (by omega)
theorem maO_ok {a:Aut}{held:List Ev}(hx:CxA a held){c:Cf}{kk:Nat}(hk:kk<=1000)(hc:CB held a kk c)(e:Ev):∀ d∈maO (outP a held c e),maOk d=true:=fun d hd=>by
 obtain ⟨q,hq,rfl⟩:=maO_mem hd
 exact maOk_of (by omega) (outP_sz hx hc hq)
theorem p_all_l1 {a:Aut}{held:List Ev}(hx:CxA a held)(hle:a.fEdges.length<=100){kk:Nat}(hk:kk<=1000)(e:Ev)(l:List Cf)(hc:∀ c∈l,CB held a kk c)(hl:l.length<=5000)(K:List Cf->List Ma->Option (List Cf×List Ma)) :
  ∀ (m k:Nat) (cs:List Cf) (ms:List Ma),k<=l.length->l.length<m+k->cs.length<=101*k->ms.length<=101*k->(∀ d∈cs,cfOk d=true)->(∀ d∈ms,maOk d=true)->z7j N0 e l held a K m (cs,ms,(k:Int))=K (puts za0 cs ((l.drop k).flatMap (fun c=>setL za0 (cfO (outP a held c e))))) (puts z4o ms ((l.drop k).flatMap (fun c=>setL z4o (maO (outP a held c e)))))
 |0,k,cs,ms,h1,h2,h3,h4,h5,h6=>by omega
 |m+1,k,cs,ms,h1,h2,h3,h4,h5,h6=>by
  unfold z7j
  simp only [List.length_map,z0o]
  by_cases h:k<l.length
  ·have hck:=hc _ (List.getElem_mem h)
   have z1:=setL_len (c:=za0) (cfO (outP a held l[k] e))
   have z2:=setL_len (c:=z4o) (maO (outP a held l[k] e))
   have z3:=cfO_len (outP a held l[k] e)
   have z4:=y0d (outP a held l[k] e)
   have z5:(outP a held l[k] e).length<=a.fEdges.length+1:=y16
   have o1:=setL_ok (cfO_ok hx hk hck e)
   have o2:=setM_ok (maO_ok hx hk hck e)
   have p1:=puts_len (c:=za0) (setL za0 (cfO (outP a held l[k] e))) cs
   have p2:=puts_len (c:=z4o) (setL z4o (maO (outP a held l[k] e))) ms
   rw [if_pos (by omega),z0s h,p_one hx (by omega) hk hck e,z09,z0g _ k h,List.flatMap_cons,List.flatMap_cons,zkd,zkd,z2n k (by omega)]
   have l2:=fun K=>p_all_l2 e l held a (cs,ms,(k:Int)) (setL za0 (cfO (outP a held l[k] e)),setL z4o (maO (outP a held l[k] e))) o1 (by show (setL za0 (cfO (outP a held l[k] e))).length<=100000;omega) K N0 0 cs (Nat.zero_le _) (by show (setL za0 (cfO (outP a held l[k] e))).length<2000000000+0;omega) (by show cs.length+((setL za0 (cfO (outP a held l[k] e))).length-0)<=1000000;omega) h5
   refine (l2 _).trans ?_
   have l3:=fun v y0 K=>p_all_l3 e l held a v y0 (setL z4o (maO (outP a held l[k] e))) o2 (by omega) K N0 0 ms (Nat.zero_le _) (by unfold N0;omega) (by omega) h6
   refine (l3 _ _ _).trans ?_
   rw [List.drop_zero,List.drop_zero]
   exact p_all_l1 hx hle hk e l hc hl K m (k+1) (puts za0 cs (setL za0 (cfO (outP a held l[k] e)))) (puts z4o ms (setL z4o (maO (outP a held l[k] e)))) (by omega) (by omega) (by omega) (by omega) (puts_okC h5 o1) (puts_okM h6 o2)
  ·rw [if_neg (by omega),List.drop_eq_nil_of_le (by omega)]
   rfl
theorem setL_flat {α β:Type}{c:α->α->Int}(h:TO c)(f:β->List α)(l:List β):setL c (l.flatMap (fun x=>setL c (f x)))=setL c (l.flatMap f):=by
 refine setL_eq h (fun x=>?_)
 rw [List.mem_flatMap,List.mem_flatMap]
 constructor
 ·rintro ⟨y,hy,hx⟩
  exact ⟨y,hy,(zfv h _ _).1 hx⟩
 ·rintro ⟨y,hy,hx⟩
  exact ⟨y,hy,(zfv h _ _).2 hx⟩
def cfN (a:Aut)(held:List Ev)(l:List Cf)(e:Ev):List Cf:=setL za0 (l.flatMap (fun c=>cfO (outP a held c e)))
def maN (a:Aut)(held:List Ev)(l:List Cf)(e:Ev):List Ma:=setL z4o (l.flatMap (fun c=>maO (outP a held c e)))
theorem p_all {a:Aut}{held:List Ev}(hx:CxA a held)(hle:a.fEdges.length<=100){kk:Nat}(hk:kk<=1000)(e:Ev)(l:List Cf)(hc:∀ c∈l,CB held a kk c)(hl:l.length<=5000):zb0 N0 a held l e=some (cfN a held l e,maN a held l e):=by
 have:=p_all_l1 hx hle hk e l hc hl (fun y0 y1=>some (y0,y1)) N0 0 [] [] (Nat.zero_le _) (by unfold N0;omega) (by simp) (by simp) (by simp) (by simp)
 unfold zb0 cfN maN
 refine this.trans ?_
 rw [List.drop_zero,<-setL_flat zdo,<-setL_flat z90]
 rfl
theorem p_advb (d:Cf)(m0:List Cf)(m1:List Ma)(h0:m0.length<=100000000)(h1:m1.length<=100000000):z6h N0 d m0 m1=some (m0++cfO [d],m1++maO [d]):=by
 unfold z6h
 rw [z0o,cfO_cons,maO_cons,zau (by simp only [List.length_singleton];omega) (by omega),zau (by simp only [List.length_singleton];omega) (by omega)]
 by_cases h:d.fState<0
 ·simp [h,cfO,maO]
 ·simp [h,cfO,maO]
theorem p_bec_l1 {held:List Ev}{r:z0i}(hx:CxA r.fa held){c:Cf}{kk:Nat}(hk:kk<=1000)(hc:CB held r.fa kk c){e:Ev}(hch:∀ y∈held,z9z y=z9z e->y=e)(hle:r.fa.fEdges.length<=100)(K:List Cf->List Ma->Option (List Cf×List Ma×z0i×Cf×Ev)) :
  ∀ (m k:Nat) (m0:List Cf) (m1:List Ma),k<=r.fa.fEdges.length->r.fa.fEdges.length<m+k->m0.length<=90000000+k->m1.length<=90000000+k->z1i N0 e c r ⟨bndV held r.fa.fVars.toNat c.fBindings⟩ K m ((k:Int),m0,m1)=K (m0++cfO (((r.fa.fEdges.drop k).filter (fun x=>decide (x.fFrom=c.fState))).filterMap (fun x=>coP r.fa held c x e))) (m1++maO (((r.fa.fEdges.drop k).filter (fun x=>decide (x.fFrom=c.fState))).filterMap (fun x=>coP r.fa held c x e)))
 |0,k,m0,m1,h1,h2,h3,h4=>by omega
 |m+1,k,m0,m1,h1,h2,h3,h4=>by
  unfold z1i
  simp only [List.length_map,z0o,z0w]
  by_cases h:k<r.fa.fEdges.length
  ·have hxe:=List.getElem_mem h
   rw [if_pos (by omega),z0s h,z0g _ k h,z2n k (by omega),List.filter_cons]
   by_cases q:r.fa.fEdges[k].fFrom=c.fState
   rotate_left
   ·rw [if_neg q,if_neg (by simpa using q)]
    exact p_bec_l1 hx hk hc hch hle K m (k+1) m0 m1 (by omega) (by omega) (by omega) (by omega)
   rw [if_pos q,if_pos (by simpa using q),p_consume hx hk hc hxe hch,z09,List.filterMap_cons]
   cases hco:coP r.fa held c r.fa.fEdges[k] e with
   |none =>
    simp only [rfC,z8k]
    exact p_bec_l1 hx hk hc hch hle K m (k+1) m0 m1 (by omega) (by omega) (by omega) (by omega)
   |some d =>
    simp only [rfC,z80]
    have z1:=cfO_len [d]
    have z2:=y0d [d]
    simp only [List.length_singleton] at z1 z2
    rw [p_advb d m0 m1 (by omega) (by omega),zbq]
    have ih:=p_bec_l1 hx hk hc hch hle K m (k+1) (m0++cfO [d]) (m1++maO [d]) (by omega) (by omega) (by rw [List.length_append];omega) (by rw [List.length_append];omega)
    refine ih.trans ?_
    rw [List.append_assoc,List.append_assoc,<-cfO_app,<-maO_app]
    rfl
  ·rw [if_neg (by omega),List.drop_eq_nil_of_le (by omega)]
   simp [cfO,maO]
theorem p_bec_l2 {held:List Ev}{r:z0i}(hx:CxA r.fa held){c:Cf}{kk:Nat}(hk:kk<=1000)(hc:CB held r.fa kk c){e:Ev}(hch:∀ y∈held,z9z y=z9z e->y=e)(hle:r.fa.fEdges.length<=100)(K:List Cf->List Ma->Option (List Cf×List Ma×z0i×Cf×Ev)) :
  ∀ (m k:Nat) (m0:List Cf) (m1:List Ma),k<=r.fa.fEdges.length->r.fa.fEdges.length<m+k->m0.length<=90000000+k->m1.length<=90000000+k->z1h N0 e c r ⟨bndV held r.fa.fVars.toNat c.fBindings⟩ K m ((k:Int),m0,m1)=K (m0++cfO (((r.fa.fEdges.drop k).filter (fun x=>decide (x.fFrom=c.fState))).filterMap (fun x=>coP r.fa held c x e))) (m1++maO (((r.fa.fEdges.drop k).filter (fun x=>decide (x.fFrom=c.fState))).filterMap (fun x=>coP r.fa held c x e)))
 |0,k,m0,m1,h1,h2,h3,h4=>by omega
 |m+1,k,m0,m1,h1,h2,h3,h4=>by
  unfold z1h
  simp only [List.length_map,z0o,z0w]
  by_cases h:k<r.fa.fEdges.length
  ·have hxe:=List.getElem_mem h
   rw [if_pos (by omega),z0s h,z0g _ k h,z2n k (by omega),List.filter_cons]
   by_cases q:r.fa.fEdges[k].fFrom=c.fState
   rotate_left
   ·rw [if_neg q,if_neg (by simpa using q)]
    exact p_bec_l2 hx hk hc hch hle K m (k+1) m0 m1 (by omega) (by omega) (by omega) (by omega)
   rw [if_pos q,if_pos (by simpa using q),p_consume hx hk hc hxe hch,z09,List.filterMap_cons]
   cases hco:coP r.fa held c r.fa.fEdges[k] e with
   |none =>
    simp only [rfC,z8k]
    exact p_bec_l2 hx hk hc hch hle K m (k+1) m0 m1 (by omega) (by omega) (by omega) (by omega)
   |some d =>
    simp only [rfC,z80]
    have z1:=cfO_len [d]
    have z2:=y0d [d]
    simp only [List.length_singleton] at z1 z2
    rw [p_advb d m0 m1 (by omega) (by omega),zbq]
    have ih:=p_bec_l2 hx hk hc hch hle K m (k+1) (m0++cfO [d]) (m1++maO [d]) (by omega) (by omega) (by rw [List.length_append];omega) (by rw [List.length_append];omega)
    refine ih.trans ?_
    rw [List.append_assoc,List.append_assoc,<-cfO_app,<-maO_app]
    rfl
  ·rw [if_neg (by omega),List.drop_eq_nil_of_le (by omega)]
   simp [cfO,maO]
theorem p_becomes {held:List Ev}{r:z0i}(hx:CxA r.fa held)(hm:HM held r.fheld){c:Cf}{kk:Nat}(hk:kk<=1000)(hc:CB held r.fa kk c){e:Ev}(hch:∀ y∈held,z9z y=z9z e->y=e)(hle:r.fa.fEdges.length<=100)(m0:List Cf)(m1:List Ma)(h0:m0.length<=10000000)(h1:m1.length<=10000000):z61 N0 m0 m1 r c e=some (m0++cfO (outP r.fa held c e),m1++maO (outP r.fa held c e),r,c,e):=by
 have hlb:=hc.lb
 have hlh:=hx.lh
 have hva:=hx.ok.vars
 have hns:¬c.fState<0:=by have:=hc.st;omega
 obtain ⟨st,g1,g2,g3⟩:=y1b hc.st
 have hes:EvS (enH held c.fBindings):=enH_len (by omega)
 have hab:=env_eq ⟨hva.1,hva.2⟩ hc.bd
 have hgl:=(hx.wf.st st g2).1
 unfold z61
 rw [p_env N0 (by decide) held r hm hva c.fBindings (by omega) hc.bd,z09,idx_some hc.st.1 g1]
 rw [p_cont_s120 N0 ⟨bndV held r.fa.fVars.toNat c.fBindings⟩ e (vio (enH held c.fBindings) e) st.fGuards (by omega) (by unfold N0;omega) (fun g hg=>by
  unfold z3h
  have:=p_viol hab hes ((hx.wf.st st g2).2 g hg) e
  refine (congrArg (fun o=>bnd o fun x1=>some x1) this).trans ?_
  rw [z09]),z09]
 have hsk:skP r.fa held c e=!(st.fGuards.any (vio (enH held c.fBindings) e)):=by unfold skP;rw [g3]
 rw [<-hsk]
 unfold outP
 rw [cfO_app,maO_app]
 cases skP r.fa held c e with
 |true =>
  rw [z80,p_advb c m0 m1 (by omega) (by omega),zbq]
  have z1:=cfO_len [c]
  have z2:=y0d [c]
  have l1:=fun K=>p_bec_l1 hx hk hc hch hle K N0 0 (m0++cfO [c]) (m1++maO [c]) (Nat.zero_le _) (by unfold N0;omega) (by rw [List.length_append];simp at z1;omega) (by rw [List.length_append];simp at z2;omega)
  refine (l1 _).trans ?_
  rw [List.drop_zero]
  simp [List.append_assoc,fromL]
 |false =>
  rw [z8k]
  have l2:=fun K=>p_bec_l2 hx hk hc hch hle K N0 0 m0 m1 (Nat.zero_le _) (by unfold N0;omega) (by omega) (by omega)
  refine (l2 _).trans ?_
  rw [List.drop_zero]
  simp [fromL,cfO,maO]
theorem p_adv_l1 {held:List Ev}{r:z0i}(hx:CxA r.fa held)(hm:HM held r.fheld){kk:Nat}(hk:kk<=1000){e:Ev}(hch:∀ y∈held,z9z y=z9z e->y=e)(hle:r.fa.fEdges.length<=100)(l:List Cf)(hc:∀ c∈l,CB held r.fa kk c)(hl:l.length<=5000)(K:List Cf->List Ma->Option (List Cf×List Ma)):∀ (m k:Nat) (m0:List Cf) (m1:List Ma),k<=l.length->l.length<m+k->m0.length<=101*k->m1.length<=101*k->z6g N0 e l r K m ((k:Int),m0,m1)=K (m0++(l.drop k).flatMap (fun c=>cfO (outP r.fa held c e))) (m1++(l.drop k).flatMap (fun c=>maO (outP r.fa held c e)))
 |0,k,m0,m1,h1,h2,h3,h4=>by omega
 |m+1,k,m0,m1,h1,h2,h3,h4=>by
  unfold z6g
  simp only [List.length_map,z0o]
  by_cases h:k<l.length
  ·have hck:=hc _ (List.getElem_mem h)
   have z3:=cfO_len (outP r.fa held l[k] e)
   have z4:=y0d (outP r.fa held l[k] e)
   have z5:(outP r.fa held l[k] e).length<=r.fa.fEdges.length+1:=y16
   have hb:zc6 N0 r l[k] e=some (r,l[k],e):=rfl
   rw [if_pos (by omega),z0s h,hb,zbq]
   simp only
   rw [p_becomes hx hm hk hck hch hle m0 m1 (by omega) (by omega),zbq,z0g _ k h,List.flatMap_cons,List.flatMap_cons,<-List.append_assoc,<-List.append_assoc,z2n k (by omega)]
   exact p_adv_l1 hx hm hk hch hle l hc hl K m (k+1) _ _ (by omega) (by omega) (by rw [List.length_append];omega) (by rw [List.length_append];omega)
  ·rw [if_neg (by omega),List.drop_eq_nil_of_le (by omega)]
   simp
theorem flat_len {α β:Type}(f:α->List β)(n:Nat):∀ l:List α,(∀ x∈l,(f x).length<=n)->(l.flatMap f).length<=n*l.length
 |[],_=>by simp
 |x::l,h=>by
  have h1:=h x (by simp)
  have h2:=flat_len f n l (fun y hy=>h y (List.mem_cons_of_mem _ hy))
  rw [List.flatMap_cons,List.length_append,List.length_cons,Nat.mul_succ]
  omega
theorem p_advance {held:List Ev}{r:z0i}(hx:CxA r.fa held)(hm:HM held r.fheld){kk:Nat}(hk:kk<=1000){e:Ev}(hch:∀ y∈held,z9z y=z9z e->y=e)(hle:r.fa.fEdges.length<=100)(l:List Cf)(hc:∀ c∈l,CB held r.fa kk c)(hl:l.length<=5000):z8d N0 r l e=some (cfN r.fa held l e,maN r.fa held l e):=by
 have l1:=fun K=>p_adv_l1 hx hm hk hch hle l hc hl K N0 0 [] [] (Nat.zero_le _) (by unfold N0;omega) (by simp) (by simp)
 unfold z8d
 refine (l1 _).trans ?_
 rw [List.drop_zero,List.nil_append,List.nil_append]
 have f1:=flat_len (fun c=>cfO (outP r.fa held c e)) 101 l (fun c _=>by have:=cfO_len (outP r.fa held c e);have:(outP r.fa held c e).length<=r.fa.fEdges.length+1:=y16;omega)
 have f2:=flat_len (fun c=>maO (outP r.fa held c e)) 101 l (fun c _=>by have:=y0d (outP r.fa held c e);have:(outP r.fa held c e).length<=r.fa.fEdges.length+1:=y16;omega)
 rw [p_uniqC N0 (by decide) _ (fun d hd=>by
  obtain ⟨c,hc1,hc2⟩:=List.mem_flatMap.1 hd
  exact cfO_ok hx hk (hc c hc1) e d hc2) (by omega),zbq,p_uniqM N0 (by decide) _ (fun d hd=>by
  obtain ⟨c,hc1,hc2⟩:=List.mem_flatMap.1 hd
  exact maO_ok hx hk (hc c hc1) e d hc2) (by omega),zbq]
 rfl
end Go.Proofs.YtjpknpjjcddnnaaGreat
namespace Go.Proofs.YtjpknpjjcddnnaaGreat
open Go.RowKit
theorem p_rfew8 {e:Exn}(h:WfE e):∃ b:Bool,z7y N0 e=some b:=by
 obtain ⟨z,hz,ht⟩:=h
 obtain ⟨c,c1,_⟩:=p_count 200 (by omega) (by omega) z e ht hz N0 (by unfold N0;omega)
 obtain ⟨d,d1,_⟩:=p_size z e ht hz N0 (by unfold N0;omega)
 unfold z7y
 simp only [z2s,z1r,z5t]
 rw [c1,z09,d1,z09,z0o]
 split
 ·exact ⟨_,rfl⟩
 ·exact ⟨_,rfl⟩
theorem p_rfews (l:List Gd)(hw:∀ g∈l,WfE g.fCond)(hl:l.length<=1100000):∀ (m k:Nat),k<=l.length->l.length<m+k->∃ b:Bool,z7l N0 l (some true) m (k:Int)=some b
 |0,k,h1,h2=>by omega
 |m+1,k,h1,h2=>by
  unfold z7l
  simp only [List.length_map,z0o,z0w]
  by_cases h:k<l.length
  ·obtain ⟨b,hb⟩:=p_rfew8 (hw _ (List.getElem_mem h))
   rw [if_pos (by omega),z0s h,hb,z09,z2n k (by omega)]
   cases b with
   |true=>rw [z80];exact p_rfews l hw hl m (k+1) (by omega) (by omega)
   |false=>rw [z8k];exact ⟨_,rfl⟩
  ·rw [if_neg (by omega)]
   exact ⟨_,rfl⟩
theorem p_rfewg (st:Stt)(hw:st.fGuards.length<=1100000/\∀ g∈st.fGuards,WfE g.fCond):∃ b:Bool,zb1 N0 st.fGuards=some b:=p_rfews st.fGuards hw.2 hw.1 N0 0 (Nat.zero_le _) (by have:=hw.1;unfold N0;omega)
theorem p_few_l3 (a:Aut)(v:Int)(x:Ed)(ys:List Exn)(hy:x.fChecks=ys.map z1u)(hw:∀ y∈ys,WfE y)(hl:ys.length<=1100000)(P:Prop)(K:Option Bool)(hK:∃ b:Bool,K=some b/\(b=true->P)):∀ (m k:Nat),k<=ys.length->ys.length<m+k->∃ b:Bool,z7m N0 a v x K m (k:Int)=some b/\(b=true->P)
 |0,k,h1,h2=>by omega
 |m+1,k,h1,h2=>by
  unfold z7m
  have hll:x.fChecks.length=ys.length:=by rw [hy,List.length_map]
  simp only [List.length_map,z0o,z0w,hll]
  by_cases h:k<ys.length
  ·obtain ⟨b,hb⟩:=p_rfew8 (hw _ (List.getElem_mem h))
   rw [if_pos (by omega),idxD_ok hy h,hb,z09,z2n k (by omega)]
   cases b with
   |true=>rw [z80];exact p_few_l3 a v x ys hy hw hl P K hK m (k+1) (by omega) (by omega)
   |false=>rw [z8k];exact ⟨false,rfl,fun h=>by cases h⟩
  ·rw [if_neg (by omega)]
   exact hK
def FewA (a:Aut):Prop:=a.fEdges.length<=40/\∀ x∈a.fEdges,x.fOpens.length<=12
theorem p_few_l2 (a:Aut)(hw:WfA a)(K:Option Bool)(hK:∃ b:Bool,K=some b/\(b=true->a.fEdges.length<=40)):∀ (m k:Nat),k<=a.fEdges.length->k<=60->60<m+k->(∀ x∈a.fEdges.take k,x.fOpens.length<=12)->∃ b:Bool,z3p N0 a K m (k:Int)=some b/\(b=true->FewA a)
 |0,k,h1,h2,h3,h4=>by omega
 |m+1,k,h1,h2,h3,h4=>by
  have hex:(60<=k\/a.fEdges.length<=k)->∃ b:Bool,K=some b/\(b=true->FewA a):=fun hq=>by
   obtain ⟨b,b1,b2⟩:=hK
   refine ⟨b,b1,fun hb=>⟨b2 hb,fun x hx=>h4 x ?_⟩⟩
   have:=b2 hb
   rw [List.take_of_length_le (by omega)]
   exact hx
  have no:∃ b:Bool,some false=some b/\(b=true->FewA a):=⟨false,rfl,fun h=>by cases h⟩
  unfold z3p
  simp only [List.length_map,z0o,z2s,z1r,z4s,z1k,z0w,z80,z8k]
  by_cases h:k<a.fEdges.length
  rotate_left
  ·rw [if_neg (by omega)];exact hex (by omega)
  rw [if_pos (by omega)]
  by_cases h60:k<60
  rotate_left
  ·rw [if_neg (by omega)];exact hex (by omega)
  rw [if_pos (by omega),z0s h,z2n k (by omega)]
  have wx:=hw.ed _ (List.getElem_mem h)
  obtain ⟨b,hb⟩:=p_rfew8 wx.cond
  rw [hb,z09]
  cases b with
  |false=>rw [z8k];exact no
  |true =>
  rw [z80]
  split
  ·exact no
  split
  ·exact no
  split
  ·exact no
  split
  ·exact no
  split
  ·exact no
  rename_i q1 q2 q3 q4 q5
  obtain ⟨ys,hy,hyw⟩:=wx.checks
  have hyl:ys.length<=1100000:=by have:=wx.lc;rw [hy,List.length_map] at this;exact this
  have ih:=p_few_l2 a hw K hK m (k+1) (by omega) (by omega) (by omega) (fun x hx=>by
   rw [List.take_succ_eq_append_getElem h] at hx
   rcases List.mem_append.1 hx with hx|hx
   ·exact h4 x hx
   ·rw [List.mem_singleton.1 hx];omega)
  exact p_few_l3 a (k:Int) _ ys hy hyw hyl (FewA a) _ ih N0 0 (Nat.zero_le _) (by unfold N0;omega)
theorem p_few_a1 (a:Aut)(hw:WfA a)(P:Prop)(K:Option Bool)(hK:∃ b:Bool,K=some b/\(b=true->P)):∀ (m k:Nat),k<=a.fStates.length->k<=30->30<m+k->∃ b:Bool,z3q N0 a K m (k:Int)=some b/\(b=true->P)
 |0,k,h1,h2,h3=>by omega
 |m+1,k,h1,h2,h3=>by
  have no:∃ b:Bool,some false=some b/\(b=true->P):=⟨false,rfl,fun h=>by cases h⟩
  unfold z3q
  simp only [List.length_map,z0o,z2s,z1r,z4r,z1s,z0w,z80,z8k]
  by_cases h:k<a.fStates.length
  rotate_left
  ·rw [if_neg (by omega)];exact hK
  rw [if_pos (by omega)]
  by_cases h60:k<30
  rotate_left
  ·rw [if_neg (by omega)];exact hK
  have ih:=p_few_a1 a hw P K hK m (k+1) (by omega) (by omega) (by omega)
  obtain ⟨b,hb⟩:=p_rfewg _ (hw.st _ (List.getElem_mem h))
  have hi:∀ Q:Stt->Option Bool,idx a.fStates (k:Int) Q=Q a.fStates[k]:=fun Q=>z0s h Q
  rw [if_pos (by omega),z2n k (by omega)]
  simp only [hi,hb,z09]
  repeat' split
  all_goals first|exact no|(cases b<;>first|(rw [z80];exact ih)|(rw [z8k];exact no))|skip
theorem p_few23 (a:Aut)(hw:WfA a):∃ b:Bool,zb2 N0 a=some b/\(b=true->FewA a):=by
 unfold zb2
 refine p_few_a1 a hw (FewA a) _ ?_ N0 0 (Nat.zero_le _) (by omega) (by unfold N0;omega)
 refine p_few_l2 a hw _ ?_ N0 0 (Nat.zero_le _) (by omega) (by unfold N0;omega) (by simp)
 simp only [z2s,z1r,z5q,List.length_map,z0o]
 split
 ·exact ⟨_,rfl,fun h=>by simp at h;omega⟩
 ·exact ⟨_,rfl,fun h=>by cases h⟩
end Go.Proofs.YtjpknpjjcddnnaaGreat
