/- Layer 25, plainly. -/
import Derived.Test.YthbogefcfhmpgaaGreatK21
set_option linter.unusedVariables false
set_option linter.unusedSimpArgs false
namespace Go.Proofs.YthbogefcfhmpgaaGreat
open Go.RowKit List
open List renaming length_map->aA,getElem_mem->aB,drop_eq_getElem_cons->aD,drop_eq_nil_of_le->aE,getElem?_eq_getElem->aF,mem_singleton->aG,drop_zero->aH,take_succ_eq_append_getElem->aJ,mem_cons_of_mem->aM,mem_cons->aO,length_eraseIdx_of_lt->aP,mem_filter->aQ,length_set->aR,mem_append->aS,foldl_cons->aT,take_of_length_le->aU,length_filter_le->aW,getElem?_set_ne->aX,getD_eq_getElem?_getD->aY,singleton_append->bC,filter_cons->bE,mem_map->bF,nil_append->bH
open Int renaming natCast_zero->aC,toNat_of_nonneg->bA
open Or renaming inr->aK,inl->aN
open Bool renaming and_eq_true->aL,false_and->bG,true_and->bI
open Option renaming isSome_iff_exists->aV
open Nat renaming zero_le->aZ,le_refl->bD,le_trans->bJ
theorem Wf {e:Exn}(h:WfE e):∃ b:Bool,Iy N0 e=some b:=by
 obtain ⟨z,hz,ht⟩:=h
 obtain ⟨c,c1,_⟩:=zew 200 (by omega) (by omega) z e ht hz N0 (by unfold N0;omega)
 obtain ⟨d,d1,_⟩:=zi5 z e ht hz N0 (by unfold N0;omega)
 unfold Iy
 simp only [Ao,Aa,Ig]
 rw [c1,A0,d1,A0,A3]
 split
 ·exact ⟨_,rfl⟩
 ·exact ⟨_,rfl⟩
theorem zeq (l:List Gd)(hw:∀ g∈l,WfE g.fCond)(hl:l.length<=1100000):∀ (m k:Nat),k<=l.length->l.length<m+k->∃ b:Bool,L6 N0 l (some true) m (k:Int)=some b
 |0,k,h1,h2=>by omega
 |m+1,k,h1,h2=>by
  unfold L6
  simp only [aA,A3,Ak]
  by_cases h:k<l.length
  ·obtain ⟨b,hb⟩:=Wf (hw _ (aB h))
   rw [if_pos (by omega),Aj h,hb,A0,Ai k (by omega)]
   cases b with
   |true=>rw [Ab];exact zeq l hw hl m (k+1) (by omega) (by omega)
   |false=>rw [Ae];exact ⟨_,rfl⟩
  ·rw [if_neg (by omega)]
   exact ⟨_,rfl⟩
theorem zj1 (st:Stt)(hw:st.fGuards.length<=1100000/\∀ g∈st.fGuards,WfE g.fCond):∃ b:Bool,Oc N0 st.fGuards=some b:=zeq st.fGuards hw.2 hw.1 N0 0 (aZ _) (by have:=hw.1;unfold N0;omega)
theorem zby (a:Aut)(v:Int)(x:Ed)(ys:List Exn)(hy:x.fChecks=ys.map Ag)(hw:∀ y∈ys,WfE y)(hl:ys.length<=1100000)(P:Prop)(K:Option Bool)(hK:∃ b:Bool,K=some b/\(b=true->P)):∀ (m k:Nat),k<=ys.length->ys.length<m+k->∃ b:Bool,L7 N0 a v x K m (k:Int)=some b/\(b=true->P)
 |0,k,h1,h2=>by omega
 |m+1,k,h1,h2=>by
  unfold L7
  have hll:x.fChecks.length=ys.length:=by rw [hy,aA]
  simp only [aA,A3,Ak,hll]
  by_cases h:k<ys.length
  ·obtain ⟨b,hb⟩:=Wf (hw _ (aB h))
   rw [if_pos (by omega),zju hy h,hb,A0,Ai k (by omega)]
   cases b with
   |true=>rw [Ab];exact zby a v x ys hy hw hl P K hK m (k+1) (by omega) (by omega)
   |false=>rw [Ae];exact ⟨false,rfl,fun h=>by cases h⟩
  ·rw [if_neg (by omega)]
   exact hK
def FewA (a:Aut):Prop:=a.fEdges.length<=40/\∀ x∈a.fEdges,x.fOpens.length<=12
theorem zbz (a:Aut)(hw:WfA a)(K:Option Bool)(hK:∃ b:Bool,K=some b/\(b=true->a.fEdges.length<=40)):∀ (m k:Nat),k<=a.fEdges.length->k<=60->60<m+k->(∀ x∈a.fEdges.take k,x.fOpens.length<=12)->∃ b:Bool,Gv N0 a K m (k:Int)=some b/\(b=true->FewA a)
 |0,k,h1,h2,h3,h4=>by omega
 |m+1,k,h1,h2,h3,h4=>by
  have hex:(60<=k\/a.fEdges.length<=k)->∃ b:Bool,K=some b/\(b=true->FewA a):=fun hq=>by
   obtain ⟨b,b1,b2⟩:=hK
   refine ⟨b,b1,fun hb=>⟨b2 hb,fun x hx=>h4 x ?_⟩⟩
   have:=b2 hb
   rw [aU (by omega)]
   exact hx
  have no:∃ b:Bool,some false=some b/\(b=true->FewA a):=⟨false,rfl,fun h=>by cases h⟩
  unfold Gv
  simp only [aA,A3,Ao,Aa,I7,Dz,Ak,Ab,Ae]
  by_cases h:k<a.fEdges.length
  rotate_left
  ·rw [if_neg (by omega)];exact hex (by omega)
  rw [if_pos (by omega)]
  by_cases h60:k<60
  rotate_left
  ·rw [if_neg (by omega)];exact hex (by omega)
  rw [if_pos (by omega),Aj h,Ai k (by omega)]
  have wx:=hw.ed _ (aB h)
  obtain ⟨b,hb⟩:=Wf wx.cond
  rw [hb,A0]
  cases b with
  |false=>rw [Ae];exact no
  |true =>
  rw [Ab]
  split
  ·exact no
  split
  ·exact no
  split
  ·exact no
  split
  ·exact no
  split
  ·exact no
  rename_i q1 q2 q3 q4 q5
  obtain ⟨ys,hy,hyw⟩:=wx.checks
  have hyl:ys.length<=1100000:=by have:=wx.lc;rw [hy,aA] at this;exact this
  have ih:=zbz a hw K hK m (k+1) (by omega) (by omega) (by omega) (fun x hx=>by
   rw [aJ h] at hx
   rcases aS.1 hx with hx|hx
   ·exact h4 x hx
   ·rw [aG.1 hx];omega)
  exact zby a (k:Int) _ ys hy hyw hyl (FewA a) _ ih N0 0 (aZ _) (by unfold N0;omega)
theorem zc0 (a:Aut)(hw:WfA a)(P:Prop)(K:Option Bool)(hK:∃ b:Bool,K=some b/\(b=true->P)):∀ (m k:Nat),k<=a.fStates.length->k<=30->30<m+k->∃ b:Bool,Gw N0 a K m (k:Int)=some b/\(b=true->P)
 |0,k,h1,h2,h3=>by omega
 |m+1,k,h1,h2,h3=>by
  have no:∃ b:Bool,some false=some b/\(b=true->P):=⟨false,rfl,fun h=>by cases h⟩
  unfold Gw
  simp only [aA,A3,Ao,Aa,I6,Ek,Ak,Ab,Ae]
  by_cases h:k<a.fStates.length
  rotate_left
  ·rw [if_neg (by omega)];exact hK
  rw [if_pos (by omega)]
  by_cases h60:k<30
  rotate_left
  ·rw [if_neg (by omega)];exact hK
  have ih:=zc0 a hw P K hK m (k+1) (by omega) (by omega) (by omega)
  obtain ⟨b,hb⟩:=zj1 _ (hw.st _ (aB h))
  have hi:∀ Q:Stt->Option Bool,idx a.fStates (k:Int) Q=Q a.fStates[k]:=fun Q=>Aj h Q
  rw [if_pos (by omega),Ai k (by omega)]
  simp only [hi,hb,A0]
  repeat' split
  all_goals first|exact no|(cases b<;>first|(rw [Ab];exact ih)|(rw [Ae];exact no))|skip
theorem zjb (a:Aut)(hw:WfA a):∃ b:Bool,Od N0 a=some b/\(b=true->FewA a):=by
 unfold Od
 refine zc0 a hw (FewA a) _ ?_ N0 0 (aZ _) (by omega) (by unfold N0;omega)
 refine zbz a hw _ ?_ N0 0 (aZ _) (by omega) (by unfold N0;omega) (by simp)
 simp only [Ao,Aa,Ie,aA,A3]
 split
 ·exact ⟨_,rfl,fun h=>by simp at h;omega⟩
 ·exact ⟨_,rfl,fun h=>by cases h⟩
variable {a:Aut}{c:Cf}{k:Nat}{x:Ed}{e:Ev}{d:Cf}
theorem zlm {held:List Ev}(hx:CxA a held)(hst:Str C6 held)(hc:CB held a k c)(hxe:x∈a.fEdges)(he:e∈held)(h:coP a held c x e=some d)(h0:0<=d.fState):CB held a (k+1) d:=by
 have hz:=zlk hx hc hxe h
 have hd:=W8 h
 have eo:=hx.ok.ed x hxe
 refine ⟨?_,?_,?_,hz.1,hz.2⟩
 ·rw [hd] at h0 ⊢
  exact ⟨h0,eo.tgt.2⟩
 ·rw [hd]
  intro b hb
  rcases aS.1 hb with hb|hb
  ·exact hc.bd b hb
  ·rw [aG.1 hb]
   refine ⟨eo.var,?_⟩
   rw [zfa hst he]
   rfl
 ·rw [hd]
  exact (zi7 e.fTime x.fOpens hc.ss).filter _
theorem CB.up {held:List Ev}(h:CB held a k c):CB held a (k+1) c:=⟨h.st,h.bd,h.ss,by have:=h.lb;omega,by have:=h.ls;omega⟩
theorem zjg {held:List Ev}(hx:CxA a held)(hst:Str C6 held)(hc:CB held a k c)(he:e∈held)(h:d∈outP a held c e)(h0:0<=d.fState):CB held a (k+1) d:=by
 unfold outP at h
 rcases aS.1 h with h|h
 ·split at h
  ·rw [aG.1 h]
   exact hc.up
  ·simp at h
 ·obtain ⟨x,hx',hd⟩:=mem_filterMap.1 h
  exact zlm hx hst hc (z8h hx').1 he hd h0
theorem zfr {held:List Ev}{l:List Cf}(h:d∈cfN a held l e):∃ c∈l,d∈outP a held c e/\0<=d.fState:=by
 unfold cfN at h
 obtain ⟨c,h1,h2⟩:=mem_flatMap.1 ((zgc zhv _ _).1 h)
 exact ⟨c,h1,zk5 h2⟩
theorem zlo {held:List Ev}(hx:CxA a held)(hst:Str C6 held){l:List Cf}(hc:∀ c∈l,CB held a k c)(he:e∈held):∀ d∈cfN a held l e,CB held a (k+1) d:=fun d hd=>by
 obtain ⟨c,h1,h2,h3⟩:=zfr hd
 exact zjg hx hst (hc c h1) he h2 h3
def wiP (most:Nat)(a:Aut)(held:List Ev):List Ev->List Cf->List Ma->List Cf×List Ma×Bool
 |[],cs,ms=>(cs,ms,true)
 |e::r,cs,ms=>if most<(cfN a held cs e).length\/most<(puts X5 ms (maN a held cs e)).length then ([],[],false) else wiP most a held r (cfN a held cs e) (puts X5 ms (maN a held cs e))
variable {l:List Ev}
theorem zjo {more:List Ev}(hs:Str C6 more)(hm:∀ x∈l,x∈more){r:Rf}(h:(lkH l r).isSome=true):lkH l r=lkH more r:=by
 obtain ⟨y,hy⟩:=aV.1 h
 obtain ⟨h1,h2⟩:=zf9 hy
 have:=zfa hs (hm y h2)
 rw [h1] at this
 rw [hy,this]
theorem zmi {more:List Ev}(hs:Str C6 more)(hm:∀ x∈l,x∈more){cs:List Cf}(hc:∀ c∈cs,CB l a k c):∀ c∈cs,∀ b∈c.fBindings,lkH l b.fRef=lkH more b.fRef:=fun c h b hb=>zjo hs hm ((hc c h).bd b hb).2
structure CIv (a:Aut) (rest:List Ev) (c:Cf):Prop where
 asc:c.fBindings.Pairwise (fun x y=>rCmp x.fRef y.fRef<0)
 bef:∀ b∈c.fBindings,∀ e∈rest,rCmp b.fRef (Dr e)<0
 scp:∀ s∈c.fStarts,(0<=s.fScope/\s.fScope<a.fScopes)/\0<=s.fTime/\s.fTime<=1099511627776
variable {r:List Ev}
theorem CIv.tail (h:CIv a (e::r) c):CIv a r c:=⟨h.asc,fun b hb x hx=>h.bef b hb x (aM _ hx),h.scp⟩
theorem zll (ha:AOk a){held:List Ev}(hst:Str C6 (e::r))(hp:D3 e=true)(h:CIv a (e::r) c)(hx:x∈a.fEdges)(hd:coP a held c x e=some d):CIv a r d:=by
 rw [W8 hd]
 obtain ⟨s1,s2⟩:=pairwise_cons.1 hst
 refine ⟨?_,fun b hb y hy=>?_,fun s hs=>?_⟩
 ·show Pairwise _ (bdN c x e)
  unfold bdN
  rw [pairwise_append]
  exact ⟨h.asc,pairwise_singleton _ _,fun b hb y hy=>by rw [aG.1 hy];exact h.bef b hb e (by simp)⟩
 ·rcases aS.1 hb with hb|hb
  ·exact h.bef b hb y (aM _ hy)
  ·rw [aG.1 hb];exact s1 y hy
 ·have hs':=(aQ.1 hs).1
  rcases opL_mem e.fTime x.fOpens hs' with ⟨k1,k2⟩|k
  ·refine ⟨(ha.ed x hx).opn _ k1,?_⟩
   rw [k2]
   unfold D3 at hp
   simp only [aL,decide_eq_true_eq] at hp
   exact ⟨hp.1,hp.2.1⟩
  ·exact h.scp s k
theorem zjf (ha:AOk a){held:List Ev}(hst:Str C6 (e::r))(hp:D3 e=true)(h:CIv a (e::r) c)(hd:d∈outP a held c e):CIv a r d:=by
 unfold outP at hd
 rcases aS.1 hd with hd|hd
 ·split at hd
  ·rw [aG.1 hd];exact h.tail
  ·simp at hd
 ·obtain ⟨x,hx,hd⟩:=mem_filterMap.1 hd
  exact zll ha hst hp h (z8h hx).1 hd
theorem zln (ha:AOk a){held:List Ev}(hst:Str C6 (e::r))(hp:D3 e=true){cs:List Cf}(h:∀ c∈cs,CIv a (e::r) c):∀ d∈cfN a held cs e,CIv a r d:=fun d hd=>by
 obtain ⟨c,h1,h2,_⟩:=zfr hd
 exact zjf ha hst hp (h c h1) h2
structure GS (a:Aut) (l:List Ev):Prop where
 wf:WfA a
 few:FewA a
 ok:AOk a
 chk:Uh N0 a=some 0
 acheck:C3 N0 a=some 0
 str:G8 l=0
 len:l.length<=12
 sm:(wiP 150 a l l [cf0] []).2.2=true
theorem GS.so (h:GS a l):zlw l:=za4 h.str
theorem GS.cx (h:GS a l):CxA a l:=⟨h.wf,h.ok,fun x hx=>by have:=h.few.2 x hx;omega,by have:=h.len;omega⟩
structure Gd57 (a:Aut) (l:List Ev) (i:Nat) (c:Cf):Prop where
 cb:CB l a (i+20) c
 ci:CIv a (l.drop i) c
theorem CB.mono {m:Nat}(h:CB l a k c)(hk:k<=m):CB l a m c:=⟨h.st,h.bd,h.ss,bJ h.lb hk,bJ h.ls (Nat.mul_le_mul_left _ hk)⟩
variable {i:Nat}
theorem Gd57.held (h:GS a l)(hc:Gd57 a l i c):CB (l.take i) a (i+20) c:=by
 refine ⟨hc.cb.st,fun b hb=>⟨(hc.cb.bd b hb).1,?_⟩,hc.cb.ss,hc.cb.lb,hc.cb.ls⟩
 have h1:=(hc.cb.bd b hb).2
 rw [<-take_append_drop i l,zjp] at h1
 cases hq:lkH (l.take i) b.fRef with
 |some e=>rfl
 |none =>
  rw [hq] at h1
  obtain ⟨e,he⟩:=aV.1 h1
  obtain ⟨e1,e2⟩:=zf9 (by simpa using he)
  have:=hc.ci.bef b hb e e2
  rw [e1] at this
  have:=Tk.lt_ne this
  exact absurd rfl this
theorem Gd57.ok (h:GS a l)(hi:i<=12)(hc:Gd57 a l i c):cfOk c=true:=hc.cb.sz.ok (by omega)
theorem Gd57.cs (h:GS a l)(hi:i<=12)(hc:Gd57 a l i c):CS (Ql a) c:=by
 have h1:=hc.cb.st
 have h2:=hc.cb.lb
 have h3:=hc.cb.ls
 exact ⟨by rw [(zhw a).1.len];exact h1,by omega,by omega⟩
theorem zk3 (hi:i<l.length):l.drop i=l[i]::l.drop (i+1):=aD hi
theorem zg9 (h:Str C6 l)(i:Nat):Str C6 (l.drop i):=Pairwise.sublist (drop_sublist i l) h
theorem Gd57.next (h:GS a l)(hi:i<l.length){cs:List Cf}(hc:∀ c∈cs,Gd57 a l i c):∀ d∈cfN a l cs l[i],Gd57 a l (i+1) d:=fun d hd=>by
 have so:=h.so
 have e:=zk3 hi
 refine ⟨(zlo h.cx so.st (fun c hc'=>(hc c hc').cb) (aB hi) d hd).mono (by omega),?_⟩
 have hst:=zg9 so.st i
 rw [e] at hst
 refine zln h.ok hst (so.pl _ (aB hi)) (fun c hc'=>?_) d hd
 have:=(hc c hc').ci
 rw [e] at this
 exact this
theorem Gd57.lk (h:GS a l){cs:List Cf}(hc:∀ c∈cs,Gd57 a l i c):∀ c∈cs,∀ b∈c.fBindings,lkH (l.take i) b.fRef=lkH l b.fRef :=
 zmi h.so.st (fun y hy=>mem_of_mem_take hy) (fun c hc'=>(hc c hc').held h)
variable {α:Type}
theorem T4 {n:Nat}{l:List α}(h:l.length<=1000000000):Dl n l=some l:=by unfold Dl;exact if_pos h
structure zih (a:Aut) (l:List Ev) (S:List (List Cf)):Prop where
 ln:S.length=l.length+1
 few:∀ i (hi:i<S.length),S[i].length<=4096
 gd:∀ i (hi:i<S.length),∀ c∈S[i],Gd57 a l i c
theorem zih.cs (h:GS a l){S:List (List Cf)}(hS:zih a l S)(hi:i<S.length):∀ c∈S[i],CS (Ql a) c:=fun c hc=>(hS.gd i hi c hc).cs h (by have:=hS.ln;have:=h.len;omega)
abbrev mxT:Int:=1099511627776
theorem Yt (n:Nat)(rF:Exn->Option Exn)(ys:List Exn)(hl:ys.length<=4000000)(rec:∀ y∈ys,rF y=some y):∀ (m k:Nat),k<=ys.length->ys.length<m+k->Lk n rF (ys.map Ag) (fun y=>some y) m ((k:Int),(ys.map Ag).take k)=some (ys.map Ag)
 |0,k,h1,h2=>by omega
 |m+1,k,h1,h2=>by
  unfold Lk
  simp only [aA,A3]
  by_cases h:k<ys.length
  ·have h':k<(ys.map Ag).length:=by simpa using h
   rw [if_pos (by omega),Wu h,rec _ (aB h),A0,Bv (by simp;omega) (by decide),Ai k (by omega)]
   have e:(ys.map Ag).take k++[Ag ys[k]]=(ys.map Ag).take (k+1):=by
    rw [aJ h',getElem_map]
   rw [e]
   exact Yt n rF ys hl rec m (k+1) (by omega) (by omega)
  ·rw [if_neg (by omega),aU (by simp;omega)]
theorem zc1:∀ (s:Nat) (e:Exn),ETr s e->s<=4000000->∀ n,s+4000002<n->Ep n e=some e:=by
 intro s
 induction s using Nat.strongRecOn with
 |ind s IH =>
  intro e ht hs n hn
  cases ht with
  |mk l e h ha =>
   obtain ⟨n',rfl⟩:∃ n',n=n' + 1:=⟨n-1,by omega⟩
   have hl:=Mq (l:=l) (fun p hp=>(h p hp).pos)
   simp only [Ep]
   unfold Sb
   have e1:e.fArgs=(l.map (·.2)).map Ag:=by rw [ha,map_map];rfl
   have hc:=Yt n' (Ep n') (l.map (·.2)) (by rw [aA];omega) (fun y hy=>by
    obtain ⟨p,hp,rfl⟩:=bF.1 hy
    have:=Hg hp
    exact IH p.1 (by omega) p.2 (h p hp) (by omega) n' (by omega)) n' 0 (by omega) (by rw [aA];omega)
   simp only [aC,take_zero] at hc
   rw [e1,hc,A0,<-e1]
theorem Yc (n:Nat)(ys:List Exn)(hl:ys.length<=4000000)(rec:∀ y∈ys,Ep n y=some y):∀ (m k:Nat),k<=ys.length->ys.length<m+k->Km n (ys.map Ag) (fun y=>some y) m ((k:Int),(ys.map Ag).take k)=some (ys.map Ag)
 |0,k,h1,h2=>by omega
 |m+1,k,h1,h2=>by
  unfold Km
  simp only [aA,A3]
  by_cases h:k<ys.length
  ·have h':k<(ys.map Ag).length:=by simpa using h
   rw [if_pos (by omega),Wu h,rec _ (aB h),A0,Bv (by simp;omega) (by decide),Ai k (by omega)]
   have e:(ys.map Ag).take k++[Ag ys[k]]=(ys.map Ag).take (k+1):=by
    rw [aJ h',getElem_map]
   rw [e]
   exact Yc n ys hl rec m (k+1) (by omega) (by omega)
  ·rw [if_neg (by omega),aU (by simp;omega)]
theorem zj4 (n:Nat)(hn:10000000<n)(x:Ed)(hx:WfX x):Pe n x=some x:=by
 obtain ⟨z,hz,ht⟩:=hx.cond
 obtain ⟨ys,hy,hw⟩:=hx.checks
 have hlc:=hx.lc
 have hly:ys.length<=1100000:=by rw [hy,aA] at hlc;exact hlc
 have hlo:=hx.lo
 have hlcl:=hx.lcl
 have hli:=hx.li
 have hll:=hx.ll
 have hc:=Yc n ys (by omega) (fun y hy'=>by
  obtain ⟨z,hz,ht⟩:=hw y hy'
  exact zc1 z y ht hz n (by omega)) n 0 (by omega) (by omega)
 simp only [aC,take_zero] at hc
 unfold Pe Rb
 rw [zc1 z _ ht hz n (by omega),A0,hy,hc,A0,T4 (by omega),A0,T4 (by omega),A0,T4 (by omega),A0,T4 (by omega),A0,<-hy]
theorem Zf (n:Nat)(hn:10000000<n)(a:Aut)(hw:WfA a)(L:List Int)(hL:L.length<=1100000)(hr:∀ i∈L,∃ j:Nat,i=(j:Int)/\j<a.fEdges.length):∀ (m k:Nat) (acc:List Ed),k<=L.length->L.length<m+k->acc.length<=k->∃ R,Ls n a L (fun y=>some (y,0)) m ((k:Int),acc)=some (R,0)/\R.length<=L.length/\∀ x,x∈R ↔ x∈acc\/∃ i∈L.drop k,∃ j:Nat,i=(j:Int)/\a.fEdges[j]? = some x
 |0,k,acc,h1,h2,h3=>by omega
 |m+1,k,acc,h1,h2,h3=>by
  unfold Ls
  simp only [aA,A3]
  by_cases h:k<L.length
  ·obtain ⟨j,j1,j2⟩:=hr L[k] (aB h)
   have hj:a.fEdges[j]? = some a.fEdges[j]:=aF j2
   rw [if_pos (by omega),Aj h,Ai k (by omega),j1,Aj j2,zj4 n hn _ (hw.ed _ (aB j2)),A0,Bv (by simp;omega) (by decide),aD h]
   obtain ⟨R,e1,e2,e3⟩:=Zf n hn a hw L hL hr m (k+1) (acc++[a.fEdges[j]]) (by omega) (by omega) (by simp;omega)
   refine ⟨R,e1,e2,fun x=>?_⟩
   rw [e3,aS,aG,or_assoc]
   simp only [aO,exists_eq_or_imp]
   refine or_congr Iff.rfl (or_congr ⟨fun e=>⟨j,j1,by rw [hj,e]⟩,fun ⟨i,i1,i2⟩=>?_⟩ Iff.rfl)
   have:i=j:=by omega
   rw [this,hj] at i2
   injection i2 with i2
   exact i2.symm
  ·rw [if_neg (by omega),aE (by omega)]
   exact ⟨acc,rfl,by omega,fun x=>by simp⟩
theorem zje (n:Nat)(hn:10000000<n)(a:Aut)(hw:WfA a)(hc:C3 n a=some 0)(i:Nat)(hi:i<a.fStates.length):∃ R,P4 n a (i:Int)=some (R,0)/\R.length<=1100000/\∀ x,x∈R ↔ x∈a.fEdges/\x.fFrom=(i:Int):=by
 obtain ⟨L,l1,l2,l3⟩:=Zy n hn (i:Int) a hw.le
 have hle:=hw.le
 have hr:∀ i∈L,∃ j:Nat,i=(j:Int)/\j<a.fEdges.length:=fun i hi=>by
  obtain ⟨j,j1,x,j2,_⟩:=(l3 i).1 hi
  exact ⟨j,j1,(List.getElem?_eq_some_iff.1 j2).1⟩
 obtain ⟨R,r1,r2,r3⟩:=Zf n hn a hw L (by omega) hr n 0 [] (by omega) (by omega) (by simp)
 unfold P4
 rw [hc,A0,Q5,A0]
 simp only [aA,Ak,A3,if_true]
 rw [decide_eq_true (by omega:(0:Int)<=(i:Int)),decide_eq_true (by omega:(i:Int)<(a.fStates.length:Int)),Bool.and_self,Ab,l1,A0]
 refine ⟨R,r1,by omega,fun x=>?_⟩
 rw [r3]
 simp only [not_mem_nil,false_or,aH]
 constructor
 ·rintro ⟨i',hi',j,j1,j2⟩
  obtain ⟨j',j1',x',j2',j3'⟩:=(l3 i').1 hi'
  have:j'=j:=by omega
  rw [this,j2] at j2'
  injection j2' with j2'
  exact ⟨mem_of_getElem? j2,j2'▸j3'⟩
 ·rintro ⟨hx,x1⟩
  obtain ⟨j,hj,e⟩:=mem_iff_getElem.1 hx
  have hj':a.fEdges[j]? = some x:=by rw [aF hj,e]
  exact ⟨(j:Int),(l3 _).2 ⟨j,rfl,x,hj',x1⟩,j,rfl,hj'⟩
theorem Zz (n:Nat)(s:Int)(l:List Bz)(hl:l.length<=1000000000):∀ (m k:Nat),k<=l.length->l.length<m+k->Ki n s l (some (-1)) m (k:Int)=some (Ef (fun y=>decide (y.fScope=s)) k (l.drop k))
 |0,k,h1,h2=>by omega
 |m+1,k,h1,h2=>by
  unfold Ki Se
  simp only [aA,A3]
  by_cases h:k<l.length
  ·rw [if_pos (by omega),Aj h,Cs l k h,Mi,A0,Ai k (by omega),Zz n s l hl m (k+1) (by omega) (by omega)]
   rw [A3]
   grind
  ·rw [if_neg (by omega),aE (by omega)]
   rfl
def limP (n:Nat)(x:Ed)(s:Int):Int×Bool:=(Ji n x s).getD (0,false)
theorem Wg (n:Nat)(hn:10000000<n)(x:Ed)(ho:x.fOpens.length<=1100000)(hl:x.fLimits.length<=1100000)(s:Int):Ji n x s=some (limP n x s)/\((limP n x s).1=0\/∃ l∈x.fLimits,(limP n x s).1=l.fSpan)/\((limP n x s).2=true->∃ l∈x.fLimits,l.fScope=s/\¬s∈x.fOpens):=by
 have hx:=Zz n s x.fLimits (by omega) n 0 (by omega) (by omega)
 simp only [aC,aH,Mh] at hx
 have key:∃ r,Ji n x s=some r/\(r.1=0\/∃ l∈x.fLimits,r.1=l.fSpan)/\(r.2=true->∃ l∈x.fLimits,l.fScope=s/\¬s∈x.fOpens):=by
  unfold Ji R9
  rw [hx,A0]
  simp only [Ao,Aa,Jb,A3,Mf n s x.fOpens (by omega) (by omega),A0]
  by_cases q:fidx (fun y=>decide (y.fScope=s)) x.fLimits<0
  ·rw [if_pos q,Ab]
   exact ⟨_,rfl,aN rfl,fun h=>by cases h⟩
  ·rw [if_neg q]
   cases e:(x.fOpens.any fun y=>decide (s=y)) with
   |true=>rw [Ab];exact ⟨_,rfl,aN rfl,fun h=>by cases h⟩
   |false =>
    rw [Ae]
    unfold fidx at q ⊢
    cases e2:x.fLimits.findIdx? (fun y=>decide (y.fScope=s)) with
    |none=>rw [e2] at q;exact absurd (by simp) q
    |some j =>
     obtain ⟨j1,j2⟩:=findIdx?_eq_some_iff_getElem.1 e2
     simp only
     rw [Aj j1]
     refine ⟨_,rfl,aK ⟨_,aB j1,rfl⟩,fun _=>⟨_,aB j1,by simpa using j2.1,fun hm=>?_⟩⟩
     have:=any_eq_false.1 e s hm
     simp at this
 obtain ⟨r,r1,r2,r3⟩:=key
 have:limP n x s=r:=by unfold limP;rw [r1];rfl
 rw [this]
 exact ⟨r1,r2,r3⟩
def lmS (n:Nat)(s:Int)(z:Int×Bool)(x:Ed):Int×Bool:=(max z.1 (limP n x s).1,z.2 && (limP n x s).2)
def K8 (n:Nat)(l:List Ed)(s:Int):Int×Bool:=l.foldl (lmS n s) (0,true)
structure LimR (x:Ed):Prop where
 o:x.fOpens.length<=1100000
 l:x.fLimits.length<=1100000
 s:∀ l∈x.fLimits,0<=l.fSpan/\l.fSpan<=mxT
theorem LimR.lim (h:LimR x)(n:Nat)(hn:10000000<n)(s:Int):0<=(limP n x s).1/\(limP n x s).1<=mxT:=by
 rcases (Wg n hn x h.o h.l s).2.1 with e|⟨l,hl,e⟩
 ·rw [e];exact ⟨by omega,by decide⟩
 ·rw [e];exact h.s l hl
theorem zld (n:Nat)(hn:10000000<n)(s:Int)(l:List Ed)(h:∀ x∈l,LimR x)(z:Int×Bool)(hz:0<=z.1/\z.1<=mxT):(0<=(l.foldl (lmS n s) z).1/\(l.foldl (lmS n s) z).1<=mxT)/\((l.foldl (lmS n s) z).2=true->z.2=true/\∀ x∈l,(limP n x s).2=true):=by
 induction l generalizing z with
 |nil=>exact ⟨hz,fun h=>⟨h,by simp⟩⟩
 |cons x r ih =>
  have h1:=(h x (by simp)).lim n hn s
  rw [aT]
  obtain ⟨i1,i2⟩:=ih (fun y hy=>h y (aM _ hy)) (lmS n s z x) (by unfold lmS;simp only;omega)
  refine ⟨i1,fun q=>?_⟩
  obtain ⟨q1,q2⟩:=i2 q
  unfold lmS at q1
  simp only [aL] at q1
  exact ⟨q1.1,fun y hy=>(aO.1 hy).elim (fun e=>e▸q1.2) (q2 y)⟩
theorem zc4 (n:Nat)(hn:10000000<n)(l:List Ed)(hl:l.length<=1100000)(h:∀ x∈l,LimR x)(V:Int×Bool×Mp)(p:Int×Bool)(r:Mp)(K:Int->Bool->Mp->Option (Int×Bool)):∀ (m k:Nat) (z:Int×Bool),k<=l.length->l.length<m+k->Jf n l V p r K m (z.1,z.2,(k:Int))=K ((l.drop k).foldl (lmS n p.1) z).1 ((l.drop k).foldl (lmS n p.1) z).2 r
 |0,k,z,h1,h2=>by omega
 |m+1,k,z,h1,h2=>by
  unfold Jf
  simp only [aA,Aa]
  rw [A3]
  by_cases hk:k<l.length
  ·have hx:=h _ (aB hk)
   rw [if_pos (by omega),Aj hk,(Wg n hn _ hx.o hx.l p.1).1,A0,Ai k (by omega),aD hk,aT]
   have i1:=zc4 n hn l hl h V p r K m (k+1) (lmS n p.1 z l[k]) (by omega) (by omega)
   unfold lmS at i1
   simp only at i1
   unfold lmS
   obtain ⟨z1,z2⟩:=z
   cases z2 with
   |true=>rw [Ab];simpa using i1
   |false=>rw [Ae];simpa using i1
  ·rw [if_neg (by omega),aE (by omega)]
   rfl
def agS (n:Nat)(l:List Ed)(z:Int×Bool)(p:Int×Bool):Int×Bool:=if (K8 n l p.1).2=true/\(z.2=false\/(K8 n l p.1).1<z.1) then ((K8 n l p.1).1,true) else z
theorem zhz (n:Nat)(l:List Ed)(z x y:Int×Bool):agS n l (agS n l z x) y=agS n l (agS n l z y) x:=by
 unfold agS
 generalize K8 n l x.1=p
 generalize K8 n l y.1=q
 obtain ⟨z1,z2⟩:=z
 obtain ⟨p1,p2⟩:=p
 obtain ⟨q1,q2⟩:=q
 cases p2<;>cases q2<;>cases z2<;>simp<;>grind
theorem zc5 (n:Nat)(hn:10000000<n)(l:List Ed)(hl:l.length<=1100000)(h:∀ x∈l,LimR x):∀ (m:Nat) (rem:Mp) (z:Int×Bool),rem.length<m->Fv n l (fun y z=>some (y,z)) m (z.1,z.2,rem)=some (rem.foldl (agS n l) z)
 |0,rem,z,h1=>by omega
 |m+1,rem,z,h1=>by
  unfold Fv
  simp only [Aa]
  by_cases e:rem=[]
  ·subst e
   rw [Q9]
   rfl
  ·have hne:∀ (x y:Option (Int×Bool)),nxt rem x y=y:=fun x y=>by
    cases rem with
    |nil=>exact absurd rfl e
    |cons p r=>exact Q6 p r x y
   rw [hne]
   refine Q4 e fun j hj=>?_
   have h2:=fun K=>zc4 n hn l hl h (z.1,z.2,rem) rem[j] (rem.eraseIdx j) K n 0 (0,true) (by omega) (by omega)
   simp only [aC,aH] at h2
   rw [h2]
   have hlen:(rem.eraseIdx j).length<m:=by rw [aP hj];omega
   have hp:(rem[j]::rem.eraseIdx j).Perm rem:=He hj
   have hc:=Perm.foldl_eq' (f:=agS n l) hp (fun x _ y _ z=>zhz n l z x y) z
   rw [<-hc,aT]
   have i1:=zc5 n hn l hl h m (rem.eraseIdx j) (agS n l z rem[j]) hlen
   rw [<-i1]
   unfold agS K8
   obtain ⟨z1,z2⟩:=z
   simp only [Ak]
   cases hq:(l.foldl (lmS n rem[j].1) (0,true)).2 with
   |false=>rw [Ae];simp
   |true =>
    rw [Ab]
    cases z2 with
    |false=>rw [Ae];simp
    |true =>
     rw [Ab,A3]
     by_cases q:(l.foldl (lmS n rem[j].1) (0,true)).1<z1
     ·rw [if_pos q];simp [q]
     ·rw [if_neg q];simp [q]
theorem zlv (n:Nat)(hn:10000000<n)(l:List Ed)(h:∀ x∈l,LimR x)(rem:Mp)(z:Int×Bool)(hz:0<=z.1/\z.1<=mxT):(0<=(rem.foldl (agS n l) z).1/\(rem.foldl (agS n l) z).1<=mxT)/\((rem.foldl (agS n l) z).2=true->z.2=true\/∃ s,∀ x∈l,(limP n x s).2=true):=by
 induction rem generalizing z with
 |nil=>exact ⟨hz,aN⟩
 |cons p r ih =>
  have hm:=zld n hn p.1 l h (0,true) ⟨by decide,by decide⟩
  rw [aT]
  unfold agS
  split
  ·rename_i q
   obtain ⟨i1,i2⟩:=ih ((K8 n l p.1).1,true) hm.1
   exact ⟨i1,fun _=>aK ⟨p.1,(hm.2 q.1).2⟩⟩
  ·exact ih z hz
theorem zmc (n:Nat)(hn:10000000<n)(l:List Ed)(hl:l.length<=1100000)(h:∀ x∈l,LimR x)(M:Mp)(hM:M.length<n):∃ r,So n l M=some r/\(0<=r.1/\r.1<=mxT)/\(r.2=true->∃ s,∀ x∈l,(limP n x s).2=true):=by
 refine ⟨_,zc5 n hn l hl h n M (0,false) hM,?_⟩
 obtain ⟨q1,q2⟩:=zlv n hn l h M (0,false) ⟨by decide,by decide⟩
 exact ⟨q1,fun q=>(q2 q).resolve_left (by simp)⟩
def Bdd (n:Nat)(a:Aut)(t:Int):Prop:=∃ s,∀ x∈a.fEdges,x.fFrom=t->(limP n x s).2=true
structure AgOk (n:Nat) (a:Aut) (p:Bq) (k:Nat) (ag:List Int) (bd:List Bool):Prop where
 l1:ag.length=a.fStates.length
 l2:bd.length=a.fStates.length
 rng:∀ v∈ag,0<=v/\v<=mxT
 bdd:∀ i:Nat,i<k->has p.finner (i:Int)->bd[i]? = some true->Bdd n a (i:Int)
theorem Vs (n:Nat)(hn:10000000<n)(a:Aut)(h:AutR a)(hw:WfA a)(hc:C3 n a=some 0)(p:Bq)(hp:PtOk a p)(out:List Mp)(ho:Dx a.fStates.length out)(hol:∀ M∈out,M.length<n):∀ (m k:Nat) (ag:List Int) (bd:List Bool),k<=a.fStates.length->a.fStates.length<m+k->AgOk n a p k ag bd->∃ ag' bd',Jd n a p out (fun y z=>some (y,z,0)) m ((k:Int),ag,bd)=some (ag',bd',0)/\AgOk n a p a.fStates.length ag' bd'
 |0,k,ag,bd,h1,h2,h3=>by omega
 |m+1,k,ag,bd,h1,h2,h3=>by
  unfold Jd
  simp only [aA,Aa]
  rw [A3]
  have hst:=h.st
  have l1:=h3.l1
  have l2:=h3.l2
  by_cases hk:k<a.fStates.length
  ·rw [if_pos (by omega),Qb (by omega),Mv (by omega),Mz,Ai k (by omega)]
   cases hq:(mlk p.finner (k:Int)).getD false with
   |false =>
    rw [Ae]
    refine Vs n hn a h hw hc p hp out ho hol m (k+1) ag _ (by omega) (by omega) ⟨l1,by rw [aR];exact l2,h3.rng,fun i hi q1 q2=>?_⟩
    by_cases e:i=k
    ·subst e;rw [(hp.i.get _).2 q1] at hq;cases hq
    ·rw [aX (by omega)] at q2;exact h3.bdd i (by omega) q1 q2
   |true =>
    obtain ⟨R,r1,r2,r3⟩:=zje n hn a hw hc k hk
    have ho':k<out.length:=by rw [ho.len];exact hk
    have hR:∀ x∈R,LimR x:=fun x hx=>by
     have hx':=((r3 x).1 hx).1
     have:=h.lo x hx'
     exact ⟨this.1,this.2.2.2,h.sp x hx'⟩
    obtain ⟨r,e1,e2,e3⟩:=zmc n hn R r2 hR out[k] (hol _ (aB ho'))
    rw [Ab,r1,A0,Aj ho',e1,A0,Qb (by omega),Mv (by omega),Qb (by rw [aR];omega),Mv (by rw [aR];omega)]
    refine Vs n hn a h hw hc p hp out ho hol m (k+1) _ _ (by omega) (by omega) ⟨by rw [aR];exact l1,by rw [aR,aR];exact l2,fun v hv=>(mem_or_eq_of_mem_set hv).elim (h3.rng v) (fun e=>e▸e2),fun i hi q1 q2=>?_⟩
    by_cases e:i=k
    ·subst e
     rw [getElem?_set_self (by rw [aR];omega)] at q2
     injection q2 with q2
     obtain ⟨s,hs⟩:=e3 q2
     exact ⟨s,fun x hx hf=>hs x ((r3 x).2 ⟨hx,hf⟩)⟩
    ·rw [aX (by omega),aX (by omega)] at q2;exact h3.bdd i (by omega) q1 q2
  ·rw [if_neg (by omega)]
   have e:k=a.fStates.length:=by omega
   subst e
   exact ⟨ag,bd,rfl,h3⟩
def lsS (rate:Int)(ag:List Int)(z:Int)(p:Int×Bool):Int:=max z (IntKind.wrap .i64 (rate*IntKind.wrap .i64 (ag.getD p.1.toNat 0+1)))
theorem zh7 (rate:Int)(ag:List Int)(z:Int)(x y:Int×Bool):lsS rate ag (lsS rate ag z x) y=lsS rate ag (lsS rate ag z y) x:=by
 unfold lsS
 omega
theorem Z7 (n:Nat)(rate:Int)(ag:List Int)(bd:List Bool)(N:Nat)(l1:ag.length=N)(l2:bd.length=N):∀ (m:Nat) (rem:Mp) (z:Int),rem.length<m->(∀ t,has rem t->0<=t/\t.toNat<N)->Ly n rate (ag,bd,0) (fun y=>some (y,true)) m (z,rem)=some (if ∀ p∈rem,bd[p.1.toNat]? = some true then (rem.foldl (lsS rate ag) z,true) else (0,false))
 |0,rem,z,h1,h2=>by omega
 |m+1,rem,z,h1,h2=>by
  unfold Ly
  simp only [Aa]
  by_cases e:rem=[]
  ·subst e
   rw [Q9]
   simp
  ·have hne:∀ (x y:Option (Int×Bool)),nxt rem x y=y:=fun x y=>by
    cases rem with
    |nil=>exact absurd rfl e
    |cons p r=>exact Q6 p r x y
   rw [hne]
   refine Q4 e fun j hj=>?_
   have hp:(rem[j]::rem.eraseIdx j).Perm rem:=He hj
   have hc:=Perm.foldl_eq' (f:=lsS rate ag) hp (fun x _ y _ z=>zh7 rate ag z x y) z
   have ht:=h2 rem[j].1 ((Mn hp _).1 ((Dj _ _ _).2 (aN rfl)))
   have hb:rem[j].1.toNat<bd.length:=by omega
   have ha:rem[j].1.toNat<ag.length:=by omega
   have hall:(∀ p∈rem,bd[p.1.toNat]? = some true) ↔ bd[rem[j].1.toNat]=true/\∀ p∈rem.eraseIdx j,bd[p.1.toNat]? = some true:=by
    constructor
    ·intro q
     refine ⟨?_,fun p hp'=>q p (hp.mem_iff.1 (aM _ hp'))⟩
     have:=q rem[j] (aB hj)
     rw [aF hb] at this
     injection this
    ·rintro ⟨q1,q2⟩ p hp'
     rcases aO.1 (hp.mem_iff.2 hp') with e|e
     ·rw [e,aF hb,q1]
     ·exact q2 p e
   rw [G6 ht.1 hb,Ak]
   cases hq:bd[rem[j].1.toNat] with
   |false =>
    rw [Ae,if_neg (fun q=>by have:=(hall.1 q).1;rw [hq] at this;cases this)]
   |true =>
    rw [Ab,G6 ht.1 ha]
    have hlen:(rem.eraseIdx j).length<m:=by rw [aP hj];omega
    have i1:=Z7 n rate ag bd N l1 l2 m (rem.eraseIdx j) (lsS rate ag z rem[j]) hlen (fun t q=>h2 t ((Mn hp _).1 ((Dj _ _ _).2 (aK q))))
    unfold lsS at i1 hc ⊢
    rw [aT] at hc
    rw [aY,aF ha,Option.getD_some] at i1 hc
    rw [i1,<-hc]
    refine congrArg some ?_
    by_cases q:∀ p∈rem.eraseIdx j,bd[p.1.toNat]? = some true
    ·rw [if_pos q,if_pos (hall.2 ⟨hq,q⟩)]
    ·rw [if_neg q,if_neg (fun q'=>q (hall.1 q').2)]
theorem zlc (rate:Int)(hr:1<=rate/\rate<=4096)(ag:List Int)(hv:∀ v∈ag,0<=v/\v<=mxT)(rem:Mp)(z:Int)(hz:0<=z/\z<=4611686018427387904):0<=rem.foldl (lsS rate ag) z/\rem.foldl (lsS rate ag) z<=4611686018427387904:=by
 induction rem generalizing z with
 |nil=>exact hz
 |cons p r ih =>
  rw [aT]
  refine ih _ ?_
  unfold lsS
  have hg:0<=ag.getD p.1.toNat 0/\ag.getD p.1.toNat 0<=mxT:=by
   rw [aY]
   cases e:ag[p.1.toNat]? with
   |none=>exact ⟨by decide,by decide⟩
   |some v=>exact hv v (mem_of_getElem? e)
  generalize ag.getD p.1.toNat 0=g at hg ⊢
  have hm:mxT=1099511627776:=rfl
  rw [C0 (g+1) (by omega)]
  have h1:rate*(g+1)<=4096*1099511627777:=Int.mul_le_mul hr.2 (by omega) (by omega) (by omega)
  have h0:0<=rate*(g+1):=Int.mul_nonneg (by omega) (by omega)
  rw [C0 _ (by omega)]
  omega
theorem zj6 (n:Nat)(hn:30000000<n)(a:Aut)(h:AutR a)(hw:WfA a)(hc:C3 n a=some 0)(rate:Int)(hr:1<=rate/\rate<=4096):∃ b ok p,Fy n a rate=some (b,ok)/\(0<=b/\b<=4611686018427387904)/\PtOk a p/\(ok=true->∀ t,has p.finner t->Bdd n a t):=by
 have hst:=h.st
 obtain ⟨p,p1,p2⟩:=zix n hn a h.toEdR hc
 obtain ⟨out,o1,o2,o3⟩:=zez n (by omega) a h p p2
 have hmk:∀ k:Nat,k<=a.fStates.length->True:=fun _ _=>trivial
 obtain ⟨ag,bd,e1,e2⟩:=Vs n (by omega) a h hw hc p p2 out o2 o3 n 0 (replicate a.fStates.length 0) (replicate a.fStates.length false) (by omega) (by omega) ⟨by simp,by simp,fun v hv=>by rw [eq_of_mem_replicate hv];exact ⟨by decide,by decide⟩,fun i hi=>by omega⟩
 simp only [aC] at e1
 unfold Fy Pi
 rw [hc,A0]
 simp only [Ak,A3,if_true,aA]
 rw [p1,A0,o1,A0,Tx (by omega) (by decide),Tx (by omega) (by decide),e1,A0,A0]
 have hil:p.finner.length<n:=by
  have hsub:(p.finner.map (·.1)).length<=((range a.fStates.length).map (fun (i:Nat)=>(i:Int))).length:=by
   refine Te p2.i.nd (fun t ht'=>?_)
   have:=p2.ir t ht'
   exact bF.2 ⟨t.toNat,mem_range.2 this.2,by omega⟩
  simp only [aA,length_range] at hsub
  omega
 rw [Z7 n rate ag bd a.fStates.length e2.l1 e2.l2 n p.finner 0 hil p2.ir]
 by_cases q:∀ p'∈p.finner,bd[p'.1.toNat]? = some true
 ·rw [if_pos q]
  refine ⟨_,_,p,rfl,zlc rate hr ag e2.rng p.finner 0 ⟨by decide,by decide⟩,p2,fun _ t ht=>?_⟩
  obtain ⟨t0,t1⟩:=p2.ir t ht
  obtain ⟨p',hp',rfl⟩:=bF.1 ht
  have:=e2.bdd p'.1.toNat t1 (by rw [bA t0];exact ht) (q p' hp')
  rwa [bA t0] at this
 ·rw [if_neg q]
  exact ⟨0,false,p,rfl,⟨by decide,by decide⟩,p2,fun h=>by cases h⟩
abbrev Scn:=Aq
theorem zex (n:Nat)(hn:10000000<n)(e:Exn)(hw:WfE e):∃ r,Lz n e=some r:=by
 obtain ⟨vs,v1,v2,_⟩:=zam hw n hn
 obtain ⟨z,hz,ht⟩:=hw
 obtain ⟨r,_,r2⟩:=ziv [] [] (fun v=>by unfold evs;split<;>simp) (-1) ⟨0,0,0,0,[]⟩ z e (fun _ _=>rfl) ht hz n hn
 unfold Lz
 simp only [Ao,Aa,Iv]
 rw [v1,A0,r2,A0,A3]
 split
 ·exact ⟨_,rfl⟩
 ·exact ⟨_,rfl⟩
theorem zj9 (n:Nat)(hn:10000000<n)(g:B0)(x:Ed)(h:x.fInside.length<=1100000):O5 n g x=some (decide (g.fType=x.fType) && !(x.fInside.any fun y=>decide (g.fScope=y))):=by
 unfold O5
 simp only [Ao,Aa,Hs,A3,Mf n g.fScope x.fInside (by omega) (by omega),A0]
 by_cases q:g.fType=x.fType<;>simp [q]
theorem z82 (n:Nat)(hn:10000000<n)(x:Ed)(h:x.fInside.length<=1100000)(l:List B0)(hl:l.length<=1000000000):∀ (m k:Nat),k<=l.length->l.length<m+k->∃ r,Kh n x l (some (-1)) m (k:Int)=some r
 |0,k,h1,h2=>by omega
 |m+1,k,h1,h2=>by
  unfold Kh
  simp only [aA]
  rw [A3]
  by_cases hk:k<l.length
  ·rw [if_pos (by omega),Aj hk,zj9 n hn _ x h,A0,Ai k (by omega),Af]
   split
   ·exact ⟨_,rfl⟩
   ·exact z82 n hn x h l hl m (k+1) (by omega) (by omega)
  ·rw [if_neg (by omega)]
   exact ⟨_,rfl⟩
theorem z83 (n:Nat)(hn:10000000<n)(x:Ed)(sc:Scn)(ho:x.fOpens.length<=1100000)(hl:x.fLimits.length<=1100000)(K:Option Bool)(r0:Bool)(hK:K=some r0):∀ (m k:Nat),k<=x.fLimits.length->x.fLimits.length<m+k->∃ r,L4 n x sc K m (k:Int)=some r/\(r=true->∀ l∈x.fLimits.drop k,l.fScope∈x.fOpens)
 |0,k,h1,h2=>by omega
 |m+1,k,h1,h2=>by
  unfold L4
  simp only [aA]
  rw [A3]
  by_cases hk:k<x.fLimits.length
  ·rw [if_pos (by omega),Aj hk,Mf n _ x.fOpens (by omega) (by omega),A0,Ai k (by omega),Ak,Af,aD hk]
   split
   ·rename_i q
    obtain ⟨r,r1,r2⟩:=z83 n hn x sc ho hl K r0 hK m (k+1) (by omega) (by omega)
    refine ⟨r,r1,fun hr l hl'=>(aO.1 hl').elim (fun e=>?_) (r2 hr l)⟩
    obtain ⟨y,y1,y2⟩:=any_eq_true.1 q
    rw [e,of_decide_eq_true y2]
    exact y1
   ·exact ⟨false,rfl,fun h=>by cases h⟩
  ·rw [if_neg (by omega),aE (by omega),hK]
   exact ⟨r0,rfl,fun _=>by simp⟩
theorem z84 (n:Nat)(hn:10000000<n)(x:Ed)(hx:WfX x)(sc:Scn)(K:Option Bool)(P:Prop)(r0:Bool)(hK:K=some r0)(hP:r0=true->P):∀ (m k:Nat),k<=x.fChecks.length->x.fChecks.length<m+k->∃ r,L5 n x sc K m (k:Int)=some r/\(r=true->P)
 |0,k,h1,h2=>by omega
 |m+1,k,h1,h2=>by
  obtain ⟨ys,hy,hw⟩:=hx.checks
  have hlc:=hx.lc
  unfold L5
  simp only [aA]
  rw [A3]
  by_cases hk:k<x.fChecks.length
  ·have hk':k<ys.length:=by rw [hy,aA] at hk;exact hk
   obtain ⟨c,c1⟩:=zex n hn ys[k] (hw _ (aB hk'))
   have e:∀ K:Exn->Option Bool,idxD Bs x.fChecks (k:Int) K=K ys[k]:=fun K=>by rw [hy];exact Wu hk' K
   rw [if_pos (by omega),e,c1,A0,Ai k (by omega),Ak,Af]
   split
   ·exact z84 n hn x hx sc K P r0 hK hP m (k+1) (by omega) (by omega)
   ·exact ⟨false,rfl,fun h=>by cases h⟩
  ·rw [if_neg (by omega),hK]
   exact ⟨r0,rfl,hP⟩
theorem zkw (n:Nat)(hn:10000000<n)(sc:Scn)(x:Ed)(hx:WfX x)(hf:0<=x.fFrom/\x.fFrom.toNat<sc.fa.fStates.length)(hg:∀ s∈sc.fa.fStates,s.fGuards.length<=1100000):∃ r,Ff n sc x=some r/\(r=true->x.fType<(sc.ftypes.length:Int)/\∀ l∈x.fLimits,l.fScope∈x.fOpens):=by
 obtain ⟨c,c1⟩:=zex n hn x.fCond hx.cond
 have hlo:=hx.lo
 have hli:=hx.li
 have hll:=hx.ll
 have hlc:=hx.lc
 obtain ⟨i,i1⟩:=z82 n hn x (by omega) sc.fa.fStates[x.fFrom.toNat].fGuards (by have:=hg _ (aB hf.2);omega) n 0 (by omega) (by have:=hg _ (aB hf.2);omega)
 simp only [aC] at i1
 have key:∀ b,∃ r,Gt n x sc b=some r/\(r=true->b=false/\∀ l∈x.fLimits,l.fScope∈x.fOpens):=fun b=>by
  unfold Gt
  cases b with
  |true=>rw [Ab];exact ⟨false,rfl,fun h=>by cases h⟩
  |false =>
   rw [Ae]
   have hK:(idx sc.fa.fStates x.fFrom fun x83=>bnd (Nd n x83.fGuards x) fun x84=>some !(x84))=some (!(decide (0<=i))):=by
    rw [G6 hf.1 hf.2]
    unfold Nd R8
    rw [i1,A0,A0]
   obtain ⟨r2,q1,q2⟩:=z83 n hn x sc (by omega) (by omega) _ _ hK n 0 (by omega) (by omega)
   simp only [aC,aH] at q1 q2
   obtain ⟨r1,t1,t2⟩:=z84 n hn x hx sc _ (∀ l∈x.fLimits,l.fScope∈x.fOpens) r2 q1 q2 n 0 (by omega) (by omega)
   simp only [aC] at t1
   exact ⟨r1,t1,fun h=>⟨rfl,t2 h⟩⟩
 unfold Ff
 simp only [Ao,Aa,aA]
 rw [A3]
 by_cases q:(sc.ftypes.length:Int)<=x.fType
 ·rw [if_pos q]
  obtain ⟨r,r1,r2⟩:=key true
  exact ⟨r,r1,fun h=>absurd (r2 h).1 (by simp)⟩
 ·rw [if_neg q,c1,A0]
  obtain ⟨r,r1,r2⟩:=key (!c)
  exact ⟨r,r1,fun h=>⟨by omega,(r2 h).2⟩⟩
def frP (n:Nat)(sc:Scn)(x:Ed):Bool:=(Ff n sc x).getD false
structure ScR (q:Scn):Prop extends AutR q.fa where
 w:WfA q.fa
theorem ScR.free {sc:Scn}(h:ScR sc)(n:Nat)(hn:10000000<n)(hx:x∈sc.fa.fEdges):Ff n sc x=some (frP n sc x)/\(frP n sc x=true->x.fType<(sc.ftypes.length:Int)/\∀ l∈x.fLimits,l.fScope∈x.fOpens):=by
 have he:=h.ed x hx
 obtain ⟨r,r1,r2⟩:=zkw n hn sc x (h.w.ed x hx) (by omega) (fun s hs=>(h.w.st s hs).1)
 have:frP n sc x=r:=by unfold frP;rw [r1];rfl
 rw [this]
 exact ⟨r1,r2⟩
def gdk (a:Aut)(s k:Int):Bool:=match a.fStates[s.toNat]? with|some q=>q.fGuards.any (fun g=>decide (g.fType=k))|none=>false
theorem z81 (n:Nat)(kd:Int)(l:List B0)(hl:l.length<=1000000000):∀ (m k:Nat),k<=l.length->l.length<m+k->Kg n kd l (some (-1)) m (k:Int)=some (Ef (fun y=>decide (y.fType=kd)) k (l.drop k))
 |0,k,h1,h2=>by omega
 |m+1,k,h1,h2=>by
  unfold Kg Qv
  simp only [aA,A3]
  by_cases h:k<l.length
  ·rw [if_pos (by omega),Aj h,Cs l k h,Mi,A0,Ai k (by omega),z81 n kd l hl m (k+1) (by omega) (by omega)]
   rw [A3]
   grind
  ·rw [if_neg (by omega),aE (by omega)]
   rfl
theorem Vq (n:Nat)(hn:10000000<n)(sc:Scn)(h:ScR sc)(s k:Int)(hs:0<=s/\s.toNat<sc.fa.fStates.length):Ia n sc s k=some (gdk sc.fa s k):=by
 have hg:=(h.w.st _ (aB hs.2)).1
 have hx:=z81 n k sc.fa.fStates[s.toNat].fGuards (by omega) n 0 (by omega) (by omega)
 simp only [aC,aH,Mh] at hx
 unfold Ia Qq R7 gdk
 rw [G6 hs.1 hs.2,hx,A0,A0,Q8,aF hs.2]
theorem V6 (n:Nat)(hn:10000000<n)(sc:Scn)(h:ScR sc):∀ (m k:Nat) (acc:List Ed),k<=sc.fa.fEdges.length->sc.fa.fEdges.length<m+k->acc.length<=k->Gq n sc (fun y=>some y) m ((k:Int),acc)=some (acc++(sc.fa.fEdges.drop k).filter (frP n sc))
 |0,k,acc,h1,h2,h3=>by omega
 |m+1,k,acc,h1,h2,h3=>by
  have hle:=h.le
  unfold Gq Rj
  simp only [aA,Aa]
  rw [A3]
  by_cases hk:k<sc.fa.fEdges.length
  ·rw [if_pos (by omega),Aj hk,(h.free n hn (aB hk)).1,A0,Ai k (by omega),aD hk,bE,Af]
   split
   ·rename_i q
    rw [A0,Ab,Bv (by simp;omega) (by decide),V6 n hn sc h m (k+1) _ (by omega) (by omega) (by simp;omega)]
    simp
   ·exact V6 n hn sc h m (k+1) _ (by omega) (by omega) (by omega)
  ·rw [if_neg (by omega),aE (by omega)]
   simp
theorem zgy (n:Nat)(hn:10000000<n)(sc:Scn)(h:ScR sc):O8 n sc=some (sc.fa.fEdges.filter (frP n sc)):=by
 have hle:=h.le
 have:=V6 n hn sc h n 0 [] (by omega) (by omega) (by simp)
 simpa [O8] using this
def ptP (a:Aut)(tt:Int)(x:Ed):Bool:=decide (0<=x.fTo) && (!gdk a 0 x.fType && !gdk a tt x.fType)
theorem zj3 (n:Nat)(hn:10000000<n)(sc:Scn)(h:ScR sc)(tt:Int)(ht:0<=tt/\tt.toNat<sc.fa.fStates.length)(x:Ed):Lb n x sc tt=some (ptP sc.fa tt x,sc,tt):=by
 have hst:=h.st
 unfold Lb ptP
 rw [A3]
 by_cases q:0<=x.fTo
 ·rw [if_pos q,Vq n hn sc h 0 _ (by omega),A0,Ak]
  cases gdk sc.fa 0 x.fType with
  |true=>rw [Ab];simp
  |false=>rw [Ae,Vq n hn sc h tt _ ht,A0];simp [q]
 ·rw [if_neg q];simp [q]
theorem V7 (n:Nat)(hn:10000000<n)(sc:Scn)(h:ScR sc)(tt:Int)(ht:0<=tt/\tt.toNat<sc.fa.fStates.length)(K:List Aw->Int->Int->List D1->List Ed->Int->List Ed->Option (List Ed×Scn×Int)):∀ (m k:Nat) (acc:List Ed),k<=sc.fa.fEdges.length->sc.fa.fEdges.length<m+k->acc.length<=k->Gg n sc K m ((k:Int),sc.ftypes,sc.fa.fVars,sc.fa.fScopes,sc.fa.fStates,sc.fa.fEdges,tt,acc)=K sc.ftypes sc.fa.fVars sc.fa.fScopes sc.fa.fStates sc.fa.fEdges tt (acc++(sc.fa.fEdges.drop k).filter (fun x=>frP n sc x && ptP sc.fa tt x))
 |0,k,acc,h1,h2,h3=>by omega
 |m+1,k,acc,h1,h2,h3=>by
  have hle:=h.le
  unfold Gg
  simp only [aA]
  rw [A3]
  by_cases hk:k<sc.fa.fEdges.length
  ·rw [if_pos (by omega),Aj hk,(h.free n hn (aB hk)).1,A0,Ai k (by omega),aD hk,bE]
   have ih1:=V7 n hn sc h tt ht K m (k+1) acc (by omega) (by omega) (by omega)
   have ih2:=V7 n hn sc h tt ht K m (k+1) (acc++[sc.fa.fEdges[k]]) (by omega) (by omega) (by simp;omega)
   cases q:frP n sc sc.fa.fEdges[k] with
   |false=>rw [Ae,bG,ih1];rfl
   |true =>
    have hp:Lb n sc.fa.fEdges[k] (⟨sc.ftypes,⟨sc.fa.fVars,sc.fa.fScopes,sc.fa.fStates,sc.fa.fEdges⟩⟩:Aq) tt=some (ptP sc.fa tt sc.fa.fEdges[k],sc,tt):=zj3 n hn sc h tt ht _
    rw [Ab,hp,Cl,bI]
    simp only
    cases ptP sc.fa tt sc.fa.fEdges[k] with
    |false=>rw [Ae,ih1];rfl
    |true=>rw [Ab,Bv (by simp;omega) (by decide),ih2];simp
  ·rw [if_neg (by omega),aE (by omega)]
   simp
theorem zgw (n:Nat)(hn:10000000<n)(sc:Scn)(h:ScR sc)(tt:Int)(ht:0<=tt/\tt.toNat<sc.fa.fStates.length):Nf n sc sc tt=some (sc.fa.fEdges.filter (fun x=>frP n sc x && ptP sc.fa tt x),sc,tt):=by
 have hle:=h.le
 unfold Nf
 have:=V7 n hn sc h tt ht (fun k1_0_0y0 k1_0_0y1 k1_0_0y2 k1_0_0y3 k1_0_0y4 k1_0_0y5 k1_0_0y6=>frz 7027 <| reg <| some (k1_0_0y6,⟨k1_0_0y0,⟨k1_0_0y1,k1_0_0y2,k1_0_0y3,k1_0_0y4⟩⟩,k1_0_0y5)) n 0 [] (by omega) (by omega) (by simp)
 simp only [aC,aH,bH] at this
 rw [this,Qe,Aa]
def grB (kd:Int)(at':Mp)(x:Ed):Bool:=decide (0<=x.fTo) && (decide (x.fType=kd) && (mlk at' x.fFrom).getD false)
theorem V8 (n:Nat)(hn:10000000<n)(sc:Scn)(h:ScR sc)(kd:Int)(M:Mp)(K:Int->List Ed->Mp->Option (List Ed×Int×Mp)):∀ (m k:Nat) (acc:List Ed),k<=sc.fa.fEdges.length->sc.fa.fEdges.length<m+k->acc.length<=k->Gf n sc K m ((k:Int),kd,acc,M)=K kd (acc++(sc.fa.fEdges.drop k).filter (fun x=>frP n sc x && grB kd M x)) M
 |0,k,acc,h1,h2,h3=>by omega
 |m+1,k,acc,h1,h2,h3=>by
  have hle:=h.le
  unfold Gf
  simp only [aA]
  rw [A3]
  by_cases hk:k<sc.fa.fEdges.length
  ·rw [if_pos (by omega),Aj hk,(h.free n hn (aB hk)).1,A0,Ai k (by omega),aD hk,bE]
   have ih1:=V8 n hn sc h kd M K m (k+1) acc (by omega) (by omega) (by omega)
   have ih2:=V8 n hn sc h kd M K m (k+1) (acc++[sc.fa.fEdges[k]]) (by omega) (by omega) (by simp;omega)
   cases q:frP n sc sc.fa.fEdges[k] with
   |false=>rw [Ae,bG,ih1];rfl
   |true =>
    have hp:Nx n sc.fa.fEdges[k] kd M=some (grB kd M sc.fa.fEdges[k],kd,M):=by
     unfold Nx grB
     simp only [A3,K2]
     by_cases q1:0<=sc.fa.fEdges[k].fTo
     ·rw [if_pos q1]
      by_cases q2:sc.fa.fEdges[k].fType=kd
      ·rw [if_pos q2];simp [q1,q2]
      ·rw [if_neg q2];simp [q2]
     ·rw [if_neg q1];simp [q1]
    rw [Ab,hp,Cl,bI]
    simp only
    cases grB kd M sc.fa.fEdges[k] with
    |false=>rw [Ae,ih1];rfl
    |true=>rw [Ab,Bv (by simp;omega) (by decide),ih2];simp
  ·rw [if_neg (by omega),aE (by omega)]
   simp
theorem zgx (n:Nat)(hn:10000000<n)(sc:Scn)(h:ScR sc)(kd:Int)(M:Mp):Kj n sc kd M=some (sc.fa.fEdges.filter (fun x=>frP n sc x && grB kd M x),kd,M):=by
 have hle:=h.le
 unfold Kj
 have:=V8 n hn sc h kd M (fun k1_0_0y0 k1_0_0y1 k1_0_0y2=>frz 7027 <| reg <| some (k1_0_0y1,k1_0_0y0,k1_0_0y2)) n 0 [] (by omega) (by omega) (by simp)
 simp only [aC,aH,bH] at this
 rw [this,Qe,Aa]
inductive OpP (E:List Ed):Int->Prop
 |last (x:Ed) (hx:x∈E) (h:x.fTo<0):OpP E x.fFrom
 |step (x:Ed) (hx:x∈E) (h:OpP E x.fTo):OpP E x.fFrom
theorem MK.len_le {l:Mp}(h:MK l)(N:Nat)(hr:∀ t,has l t->-1<=t/\t<(N:Int)):l.length<=N+1:=by
 have hsub:(l.map (·.1)).length<=((range (N+1)).map (fun (i:Nat)=>(i:Int)-1)).length:=by
  refine Te h.nd (fun t ht=>?_)
  have:=hr t ht
  exact bF.2 ⟨(t+1).toNat,mem_range.2 (by omega),by omega⟩
 simpa using hsub
structure OpOk (E:List Ed) (N:Nat) (M:Mp):Prop where
 mks:MK M
 rg:∀ t,has M t->-1<=t/\t<(N:Int)
 op:∀ t,has M t->t=-1\/OpP E t
theorem Zu (n:Nat)(E:List Ed)(hE:E.length<=1100000)(N:Nat)(hN:∀ x∈E,0<=x.fFrom/\x.fFrom<(N:Int))(V:List Ed×Bool×Mp)(hV:V.1=E)(K:Bool->Mp->Option Mp):∀ (m k:Nat) (b:Bool) (M:Mp),k<=E.length->E.length<m+k->OpOk E N M->∃ b' M',Gs n V K m (b,(k:Int),M)=K b' M'/\OpOk E N M'/\M.length<=M'.length/\(b'=true->b=true\/M.length<M'.length)
 |0,k,b,M,h1,h2,h3=>by omega
 |m+1,k,b,M,h1,h2,h3=>by
  unfold Gs
  simp only [aA,Aa,hV]
  rw [A3]
  by_cases hk:k<E.length
  ·have ih:=fun b M hM=>Zu n E hE N hN V hV K m (k+1) b M (by omega) (by omega) hM
   rw [if_pos (by omega),Aj hk,K2,Ai k (by omega)]
   cases q:(mlk M E[k].fTo).getD false with
   |false=>rw [Ae];exact ih b M h3
   |true =>
    rw [Ab,K2,Ak]
    cases q2:(mlk M E[k].fFrom).getD false with
    |true=>rw [Ab];exact ih b M h3
    |false =>
     rw [Ae,Dm]
     have hn2:¬has M E[k].fFrom:=fun q'=>by rw [(h3.mks.get _).2 q'] at q2;cases q2
     have ht:=(h3.mks.get _).1 q
     have hx:=aB hk
     obtain ⟨b',M',e1,e2,e3,e4⟩:=ih true (mput M E[k].fFrom true) ⟨h3.mks.put _,fun t q'=>((h3.mks.has_put _ _).1 q').elim (fun e=>by have:=hN _ hx;rw [e];omega) (h3.rg t),fun t q'=>((h3.mks.has_put _ _).1 q').elim (fun e=>by
      rw [e]
      refine aK ?_
      rcases h3.op _ ht with e'|e'
      ·exact .last _ hx (by omega)
      ·exact .step _ hx e') (h3.op t)⟩
     have hl:=h3.mks.put_len E[k].fFrom
     rw [if_neg hn2] at hl
     exact ⟨b',M',e1,e2,by omega,fun _=>aK (by omega)⟩
  ·rw [if_neg (by omega)]
   exact ⟨b,M,rfl,h3,bD _,aN⟩
theorem Zv (n:Nat)(hn:10000000<n)(E:List Ed)(hE:E.length<=1100000)(N:Nat)(hN1:N<=1000000)(hN:∀ x∈E,0<=x.fFrom/\x.fFrom<(N:Int))(K:Mp->Option Mp):∀ (m:Nat) (b:Bool) (M:Mp),(N+3<m+M.length\/(b=false/\N+2<m+M.length))->OpOk E N M->∃ M',I9 n K m (E,b,M)=K M'/\OpOk E N M'
 |0,b,M,h1,h2=>by have:=h2.mks.len_le N h2.rg;omega
 |m+1,b,M,h1,h2=>by
  unfold I9
  simp only
  cases b with
  |false=>rw [Ae];exact ⟨M,rfl,h2⟩
  |true =>
   rw [Ab]
   obtain ⟨b',M',e1,e2,e3,e4⟩:=Zu n E hE N hN (E,true,M) rfl (fun k2_1_0y0 k2_1_0y1=>(I9 n K m) (E,k2_1_0y0,k2_1_0y1)) n 0 false M (by omega) (by omega) h2
   simp only [aC] at e1
   rw [e1]
   have h1':N+3<m+1+M.length:=by
    rcases h1 with h|h
    ·exact h
    ·exact absurd h.1 (by simp)
   refine Zv n hn E hE N hN1 hN K m b' M' ?_ e2
   cases b' with
   |false=>exact aK ⟨rfl,by omega⟩
   |true=>have:=(e4 rfl).resolve_left (by simp);exact aN (by omega)
theorem zjn {l:Mp}(h:MK l)(k:Int):MK (mdl l k)/\∀ v,has (mdl l k) v ↔ has l v/\v≠k:=by
 induction l with
 |nil=>exact ⟨MK.nil,fun v=>by simp [mdl,has]⟩
 |cons p r ih =>
  obtain ⟨a,b⟩:=p
  have hna:¬has r a:=(nodup_cons.1 h.nd).1
  unfold mdl
  by_cases e:k=a
  ·rw [if_pos e]
   refine ⟨h.tail,fun v=>?_⟩
   rw [Dj]
   constructor
   ·intro q;exact ⟨aK q,fun e'=>hna (by rw [<-e,<-e'];exact q)⟩
   ·rintro ⟨q|q,q2⟩
    ·exact absurd (q.trans e.symm) q2
    ·exact q
  ·rw [if_neg e]
   obtain ⟨i1,i2⟩:=ih h.tail
   refine ⟨⟨nodup_cons.2 ⟨fun q=>hna ((i2 a).1 q).1,i1.nd⟩,fun q hq=>(aO.1 hq).elim (fun e=>e▸h.tr _ (by simp)) (i1.tr q)⟩,fun v=>?_⟩
   rw [Dj,Dj,i2]
   constructor
   ·rintro (q|⟨q,q2⟩)
    ·exact ⟨aN q,fun e'=>e (e'.symm.trans q)⟩
    ·exact ⟨aK q,q2⟩
   ·rintro ⟨q|q,q2⟩
    ·exact aN q
    ·exact aK ⟨q,q2⟩
def frE (n:Nat)(sc:Scn):List Ed:=sc.fa.fEdges.filter (frP n sc)
theorem Tv (n:Nat)(hn:10000000<n)(sc:Scn)(h:ScR sc):∃ M,Dd n sc=some M/\MK M/\∀ t,has M t->0<=t/\t.toNat<sc.fa.fStates.length/\OpP (frE n sc) t:=by
 have hle:=h.le
 have hst:=h.st
 have hl:(frE n sc).length<=sc.fa.fEdges.length:=aW _ _
 unfold Dd
 rw [zgy n hn sc h,A0,Dm]
 have e0:mput ([]:Mp) (-1) true=[((-1:Int),true)]:=rfl
 rw [e0]
 obtain ⟨M,e1,e2⟩:=Zv n hn (frE n sc) (by omega) sc.fa.fStates.length (by omega) (fun x hx=>by
  have:=h.ed x (aQ.1 hx).1
  omega) (fun k1_0_0y=>mde k1_0_0y (-1) fun x44=>some x44) n true [((-1:Int),true)] (aN (by omega)) ⟨⟨by simp,by simp⟩,fun t ht=>by simp [has] at ht;omega,fun t ht=>by simp [has] at ht;exact aN ht⟩
 unfold frE at e1
 rw [e1]
 obtain ⟨d1,d2⟩:=zjn e2.mks (-1)
 refine ⟨mdl M (-1),by unfold mde;rfl,d1,fun t ht=>?_⟩
 obtain ⟨q1,q2⟩:=(d2 t).1 ht
 have:=e2.rg t q1
 exact ⟨by omega,by omega,(e2.op t q1).resolve_left q2⟩
inductive Pth (E:List Ed) (tt:Int):Int->List Int->Prop
 |one (x:Ed) (hx:x∈E) (h:x.fTo=tt):Pth E tt x.fFrom [x.fType]
 |cons (x:Ed) (hx:x∈E) {w:List Int} (h:Pth E tt x.fTo w):Pth E tt x.fFrom (x.fType::w)
def Cls (E:List Ed)(tt:Int)(M M':Mp):Prop:=∀ t,has M' t->has M t\/∀ x∈E,x.fFrom=t->has M' x.fTo/\x.fTo≠tt
structure SnOk (N:Nat) (tt:Int) (M:Mp):Prop where
 mks:MK M
 rg:∀ t,has M t->-1<=t/\t<(N:Int)
 no:¬has M tt
structure PRes (E:List Ed) (tt:Int) (N f:Nat) (s:Int) (M:Mp) (w:List Int) (M':Mp):Prop where
 ok:SnOk N tt M'
 mono:∀ t,has M t->has M' t
 ml:M.length<=M'.length
 len:w.length<=f
 yes:w≠[]->Pth E tt s w
theorem zc6 {β:Type}(a:α)(l:List α)(x:Option β):nlz (a::l) x=x:=by unfold nlz;rfl
theorem zft {β:Type}(l:List α)(k:List α->Option β):bld l k=k l:=rfl
theorem Z6 (n:Nat)(rF:Int->List Ed->Mp->Int->Option (List Int×List Ed×Mp×Int))(E:List Ed)(hE:E.length<=1100000)(tt:Int)(N:Nat)(hN:∀ x∈E,0<=x.fTo/\x.fTo<(N:Int))(f:Nat)(hf:f<=1000000)(s:Int)
  (rec:∀ t M,SnOk N tt M->N+1<f+M.length->∃ w M',rF t E M tt=some (w,E,M',tt)/\PRes E tt N f t M w M'/\(w=[]->Cls E tt M M'/\∀ x∈E,x.fFrom=t->has M' x.fTo/\x.fTo≠tt)) :
  ∀ (m k:Nat) (M:Mp),k<=E.length->E.length<m+k->SnOk N tt M->N+1<f+1+M.length->∃ w M',Gk n rF E s (fun y0 y1 y2=>some ([],y0,y2,y1)) m ((k:Int),E,tt,M)=some (w,E,M',tt)/\PRes E tt N (f+1) s M w M'/\(w=[]->Cls E tt M M'/\∀ x∈E.drop k,x.fFrom=s->has M' x.fTo/\x.fTo≠tt)
 |0,k,M,h1,h2,h3,h4=>by omega
 |m+1,k,M,h1,h2,h3,h4=>by
  unfold Gk
  simp only [aA]
  rw [A3]
  by_cases hk:k<E.length
  ·have ih:=fun M hM hc=>Z6 n rF E hE tt N hN f hf s rec m (k+1) M (by omega) (by omega) hM hc
   have hx:=aB hk
   rw [if_pos (by omega),Aj hk,Ai k (by omega),Ak,A3,aD hk]
   by_cases q:E[k].fFrom=s
   ·rw [if_pos q,K2]
    cases q2:(mlk M E[k].fTo).getD false with
    |true =>
     rw [Ab]
     have hm:=(h3.mks.get _).1 q2
     obtain ⟨w,M',e1,e2,e3⟩:=ih M h3 h4
     refine ⟨w,M',e1,e2,fun hw=>⟨(e3 hw).1,fun x hx' hf'=>(aO.1 hx').elim (fun e=>?_) (fun hx'=>(e3 hw).2 x hx' hf')⟩⟩
     rw [e]
     exact ⟨e2.mono _ hm,fun e'=>h3.no (e'▸hm)⟩
    |false =>
     rw [Ae,A3]
     have hnm:¬has M E[k].fTo:=fun q'=>by rw [(h3.mks.get _).2 q'] at q2;cases q2
     by_cases q3:E[k].fTo=tt
     ·rw [if_pos q3,zft,zc6]
      refine ⟨[E[k].fType],M,rfl,⟨h3,fun _ h=>h,bD _,by simp,fun _=>?_⟩,fun h=>by cases h⟩
      rw [<-q]
      exact .one _ hx q3
     ·rw [if_neg q3,Dm]
      have hl:=h3.mks.put_len E[k].fTo
      rw [if_neg hnm] at hl
      have hp:=h3.mks.has_put E[k].fTo
      have hM1:SnOk N tt (mput M E[k].fTo true):=⟨h3.mks.put _,fun t q'=>((hp t).1 q').elim (fun e=>by have:=hN _ hx;rw [e];omega) (h3.rg t),fun q'=>((hp tt).1 q').elim (fun e=>q3 e.symm) h3.no⟩
      obtain ⟨w1,M2,r1,r2,r3⟩:=rec E[k].fTo _ hM1 (by omega)
      have hr2:=r2.ml
      rw [r1,Cl]
      simp only
      cases w1 with
      |cons a w1 =>
       have hlen:=r2.len
       simp only [length_cons] at hlen
       rw [map_cons,List.isEmpty_cons,Bool.not_false,Ab,K1,Aa,zft,Bv (by simp;omega) (by decide),bC,zc6]
       refine ⟨_,M2,rfl,⟨r2.ok,fun t h=>r2.mono t ((hp t).2 (aK h)),by omega,by simp only [length_cons];omega,fun _=>?_⟩,fun h=>by cases h⟩
       rw [<-q]
       exact .cons _ hx (r2.yes (by simp))
      |nil =>
       rw [map_nil,List.isEmpty_nil,Bool.not_true,Ae]
       obtain ⟨c1,c2⟩:=r3 rfl
       obtain ⟨w,M',e1,e2,e3⟩:=ih M2 r2.ok (by omega)
       have hml:=e2.ml
       refine ⟨w,M',e1,⟨e2.ok,fun t h=>e2.mono t (r2.mono t ((hp t).2 (aK h))),by omega,e2.len,e2.yes⟩,fun hw=>?_⟩
       obtain ⟨d1,d2⟩:=e3 hw
       refine ⟨fun t ht=>?_,fun x hx' hf'=>(aO.1 hx').elim (fun e=>?_) (fun hx'=>d2 x hx' hf')⟩
       ·rcases d1 t ht with d|d
        ·rcases c1 t d with c|c
         ·rcases (hp t).1 c with e|e
          ·refine aK fun x hx' hf'=>?_
           have:=c2 x hx' (hf'.trans e)
           exact ⟨e2.mono _ this.1,this.2⟩
          ·exact aN e
         ·exact aK fun x hx' hf'=>⟨e2.mono _ (c x hx' hf').1,(c x hx' hf').2⟩
        ·exact aK d
       ·rw [e]
        exact ⟨e2.mono _ (r2.mono _ ((hp _).2 (aN rfl))),q3⟩
   ·rw [if_neg q]
    obtain ⟨w,M',e1,e2,e3⟩:=ih M h3 h4
    refine ⟨w,M',e1,e2,fun hw=>⟨(e3 hw).1,fun x hx' hf'=>(aO.1 hx').elim (fun e=>absurd (e▸hf') q) (fun hx'=>(e3 hw).2 x hx' hf')⟩⟩
  ·rw [if_neg (by omega),aE (by omega)]
   exact ⟨[],M,rfl,⟨h3,fun _ h=>h,bD _,by simp,fun h=>absurd rfl h⟩,fun _=>⟨fun t h=>aN h,by simp⟩⟩
theorem zer (E:List Ed)(hE:E.length<=1100000)(tt:Int)(N:Nat)(hN:∀ x∈E,0<=x.fTo/\x.fTo<(N:Int)):∀ (f:Nat),f<=1000000->∀ (s:Int) (M:Mp),SnOk N tt M->N+1<f+M.length->∀ n,20000000+f<n->∃ w M',Ih n s E M tt=some (w,E,M',tt)/\PRes E tt N f s M w M'/\(w=[]->Cls E tt M M'/\∀ x∈E,x.fFrom=s->has M' x.fTo/\x.fTo≠tt)
 |0,_,s,M,h1,h2,n,hn=>by have:=h1.mks.len_le N h1.rg;omega
 |f+1,hf,s,M,h1,h2,n,hn=>by
  obtain ⟨n,rfl⟩:∃ n',n=n' + 1:=⟨n-1,by omega⟩
  simp only [Ih]
  have:=Z6 n (Ih n) E hE tt N hN f (by omega) s (fun t M hM hc=>zer E hE tt N hN f (by omega) t M hM hc n (by omega)) n 0 M (by omega) (by omega) h1 (by omega)
  simpa only [aC,aH] using this
def ptE (n:Nat)(sc:Scn)(tt:Int):List Ed:=sc.fa.fEdges.filter (fun x=>frP n sc x && ptP sc.fa tt x)
theorem zks (n:Nat)(hn:30000000<n)(sc:Scn)(h:ScR sc)(tt:Int)(ht:0<=tt/\tt.toNat<sc.fa.fStates.length):∃ w M,Lo n sc tt=some w/\w.length<=300/\(w≠[]->Pth (ptE n sc tt) tt 0 w)/\(w=[]->(∀ t,has M t->∀ x∈ptE n sc tt,x.fFrom=t->has M x.fTo/\x.fTo≠tt)/\∀ x∈ptE n sc tt,x.fFrom=0->has M x.fTo/\x.fTo≠tt):=by
 have hst:=h.st
 have hle:=h.le
 have hl:(ptE n sc tt).length<=sc.fa.fEdges.length:=aW _ _
 obtain ⟨w,M,e1,e2,e3⟩:=zer (ptE n sc tt) (by omega) tt sc.fa.fStates.length (fun x hx=>by
  obtain ⟨h1,h2⟩:=aQ.1 hx
  have:=h.ed x h1
  unfold ptP at h2
  simp only [aL,decide_eq_true_eq] at h2
  omega) 300 (by omega) 0 [] ⟨MK.nil,fun t ht=>absurd ht (Dk t),Dk tt⟩ (by simp;omega) n (by omega)
 unfold Lo
 unfold ptE at e1
 rw [zgw n (by omega) sc h tt ht,Cl]
 simp only
 rw [e1,Cl]
 refine ⟨w,M,rfl,e2.len,e2.yes,fun hw=>⟨fun t ht=>((e3 hw).1 t ht).resolve_left (Dk t),(e3 hw).2⟩⟩
def atS (E:List Ed):(Int->Prop)->List Int->Int->Prop
 |P,[]=>P
 |P,k::r=>atS E (fun t=>∃ x∈E,0<=x.fTo/\x.fType=k/\P x.fFrom/\x.fTo=t) r
variable {E:List Ed}{P:Int->Prop}
theorem zcq {Q:Int->Prop}(h:∀ t,P t->Q t)(w:List Int):∀ t,atS E P w t->atS E Q w t:=by
 induction w generalizing P Q with
 |nil=>exact h
 |cons k r ih=>exact ih (fun t ⟨x,h1,h2,h3,h4,h5⟩=>⟨x,h1,h2,h3,h _ h4,h5⟩)
theorem zfu {Q:Int->Prop}(h:∀ t,P t ↔ Q t)(w:List Int)(t:Int):atS E P w t ↔ atS E Q w t:=⟨zcq (fun t=>(h t).1) w t,zcq (fun t=>(h t).2) w t⟩
theorem zkn {n:Nat}{sc:Scn}{tt s:Int}{w:List Int}(h:Pth (ptE n sc tt) tt s w)(P:Int->Prop)(hp:P s):atS (frE n sc) P w tt/\∀ k∈w,gdk sc.fa 0 k=false/\gdk sc.fa tt k=false:=by
 have hE:∀ x∈ptE n sc tt,x∈frE n sc/\0<=x.fTo/\gdk sc.fa 0 x.fType=false/\gdk sc.fa tt x.fType=false:=fun x hx=>by
  obtain ⟨h1,h2⟩:=aQ.1 hx
  unfold ptP at h2
  simp only [aL,decide_eq_true_eq,Bool.not_eq_true'] at h2
  exact ⟨aQ.2 ⟨h1,h2.1⟩,h2.2.1,h2.2.2⟩
 induction h generalizing P with
 |one x hx e =>
  obtain ⟨h1,h2,h3⟩:=hE x hx
  exact ⟨⟨x,h1,h2,rfl,hp,e⟩,fun k hk=>by rw [aG] at hk;rw [hk];exact h3⟩
 |cons x hx _ ih =>
  obtain ⟨h1,h2,h3⟩:=hE x hx
  obtain ⟨i1,i2⟩:=ih (fun t=>∃ y∈frE n sc,0<=y.fTo/\y.fType=x.fType/\P y.fFrom/\y.fTo=t) ⟨x,h1,h2,rfl,hp,rfl⟩
  exact ⟨i1,fun k hk=>(aO.1 hk).elim (fun e=>e▸h3) (i2 k)⟩
theorem zlt {kinds:List Int}{S:Int->Prop}(hS:∀ x∈E,0<=x.fTo->x.fType∈kinds->(P x.fFrom\/S x.fFrom)->S x.fTo):∀ (w:List Int),(∀ k∈w,k∈kinds)->∀ (Q:Int->Prop),(∀ t,Q t->P t\/S t)->∀ t,atS E Q w t->(w=[]/\Q t)\/S t:=by
 intro w
 induction w with
 |nil=>exact fun _ Q _ t ht=>aN ⟨rfl,ht⟩
 |cons k r ih =>
  intro hw Q hQ t ht
  have:=ih (fun k' hk=>hw k' (aM _ hk)) (fun t=>∃ x∈E,0<=x.fTo/\x.fType=k/\Q x.fFrom/\x.fTo=t) (fun t ⟨x,h1,h2,h3,h4,h5⟩=>aK (h5▸hS x h1 h2 (h3▸hw k (by simp)) (hQ _ h4))) t ht
  rcases this with ⟨_,x,h1,h2,h3,h4,h5⟩|h
  ·exact aK (h5▸hS x h1 h2 (h3▸hw k (by simp)) (hQ _ h4))
  ·exact aK h
theorem z7z (n:Nat)(hn:10000000<n)(sc:Scn)(h:ScR sc)(s:Int)(hs:0<=s/\s.toNat<sc.fa.fStates.length)(l:List Int)(hl:l.length<=1000000000):∀ (m k:Nat),k<=l.length->l.length<m+k->Kf n s sc l (some (-1)) m (k:Int)=some (Ef (fun y=>gdk sc.fa s y) k (l.drop k))
 |0,k,h1,h2=>by omega
 |m+1,k,h1,h2=>by
  unfold Kf Qw
  simp only [aA]
  rw [A3]
  by_cases hk:k<l.length
  ·rw [if_pos (by omega),Aj hk,Cs l k hk,Mi,Vq n hn sc h s _ hs,A0,A0,Ai k (by omega),z7z n hn sc h s hs l hl m (k+1) (by omega) (by omega),Af]
   split<;>rfl
  ·rw [if_neg (by omega),aE (by omega)]
   rfl
theorem zbv (n:Nat)(hn:10000000<n)(sc:Scn)(h:ScR sc)(s:Int)(hs:0<=s/\s.toNat<sc.fa.fStates.length)(l:List Int)(hl:l.length<=1000000):Ib n s l sc=some (!(l.any fun y=>gdk sc.fa s y),l,sc):=by
 have hx:=z7z n hn sc h s hs l (by omega) n 0 (by omega) (by omega)
 simp only [aC,aH,Mh] at hx
 unfold Ib Qp R6
 rw [hx,A0,A0,Q8]
structure AtOk (N:Nat) (M:Mp):Prop where
 mks:MK M
 rg:∀ t,has M t->0<=t/\t<(N:Int)
abbrev GW:=Bool×List Aw×Int×Int×List D1×List Ed×List Int
theorem Z9 (n:Nat)(V:GW)(W:Int×Mp)(X:List Ed×Int×Mp)(N:Nat)(hX:X.1.length<=1100000)(hN:∀ x∈X.1,0<=x.fTo/\x.fTo<(N:Int))(K:Mp->Mp->Option Bool):∀ (m k:Nat) (M:Mp),k<=X.1.length->X.1.length<m+k->AtOk N M->∃ M',Ky n V W X K m ((k:Int),M)=K M' X.2.2/\AtOk N M'/\∀ t,has M' t ↔ has M t\/∃ x∈X.1.drop k,x.fTo=t
 |0,k,M,h1,h2,h3=>by omega
 |m+1,k,M,h1,h2,h3=>by
  unfold Ky
  simp only [aA]
  rw [A3]
  by_cases hk:k<X.1.length
  ·rw [if_pos (by omega),Aj hk,Dm,Ai k (by omega),aD hk]
   obtain ⟨M',e1,e2,e3⟩:=Z9 n V W X N hX hN K m (k+1) (mput M X.1[k].fTo true) (by omega) (by omega) ⟨h3.mks.put _,fun t q=>((h3.mks.has_put _ _).1 q).elim (fun e=>e▸hN _ (aB hk)) (h3.rg t)⟩
   refine ⟨M',e1,e2,fun t=>?_⟩
   rw [e3,h3.mks.has_put]
   simp only [aO,exists_eq_or_imp]
   grind
  ·rw [if_neg (by omega),aE (by omega)]
   exact ⟨M,rfl,h3,by simp⟩
theorem Zb (n:Nat)(hn:10000000<n)(sc:Scn)(h:ScR sc)(b:Bool)(kinds:List Int)(hk:kinds.length<=1000000)(K:Mp->Option Bool):∀ (m k:Nat) (M:Mp),k<=kinds.length->kinds.length<m+k->AtOk sc.fa.fStates.length M->∃ M',I3 n (b,sc.ftypes,sc.fa.fVars,sc.fa.fScopes,sc.fa.fStates,sc.fa.fEdges,kinds) K m ((k:Int),M)=K M'/\AtOk sc.fa.fStates.length M'/\∀ t,has M' t ↔ atS (frE n sc) (has M) (kinds.drop k) t
 |0,k,M,h1,h2,h3=>by omega
 |m+1,k,M,h1,h2,h3=>by
  have hle:=h.le
  unfold I3
  simp only [aA]
  rw [A3]
  by_cases q:k<kinds.length
  ·have he:Kj n (⟨sc.ftypes,⟨sc.fa.fVars,sc.fa.fScopes,sc.fa.fStates,sc.fa.fEdges⟩⟩:Aq) kinds[k] M=some (sc.fa.fEdges.filter (fun x=>frP n sc x && grB kinds[k] M x),kinds[k],M):=zgx n hn sc h kinds[k] M
   have hl:(sc.fa.fEdges.filter (fun x=>frP n sc x && grB kinds[k] M x)).length<=sc.fa.fEdges.length:=aW _ _
   have hm:∀ x,x∈sc.fa.fEdges.filter (fun x=>frP n sc x && grB kinds[k] M x) ↔ x∈frE n sc/\0<=x.fTo/\x.fType=kinds[k]/\has M x.fFrom:=fun x=>by
    unfold frE grB
    simp only [aQ,aL,decide_eq_true_eq,h3.mks.get]
    grind
   obtain ⟨M1,e1,e2,e3⟩:=Z9 n (b,sc.ftypes,sc.fa.fVars,sc.fa.fScopes,sc.fa.fStates,sc.fa.fEdges,kinds) ((k:Int),M) (sc.fa.fEdges.filter (fun x=>frP n sc x && grB kinds[k] M x),kinds[k],M) sc.fa.fStates.length (by simp only;omega) (fun x hx=>by
    have h1:=(hm x).1 hx
    have:=h.ed x (aQ.1 h1.1).1
    omega) (fun k3_3_0y0 k3_3_0y1=>(I3 n (b,sc.ftypes,sc.fa.fVars,sc.fa.fScopes,sc.fa.fStates,sc.fa.fEdges,kinds) K m) ((IntKind.wrap .i64 ((k:Int)+1)),k3_3_0y0)) n 0 [] (by omega) (by simp only;omega) ⟨MK.nil,fun t ht=>absurd ht (Dk t)⟩
   simp only [aC] at e1
   rw [if_pos (by omega),Aj q,he,Cl,e1,Ai k (by omega),aD q]
   obtain ⟨M2,f1,f2,f3⟩:=Zb n hn sc h b kinds hk K m (k+1) M1 (by omega) (by omega) e2
   refine ⟨M2,f1,f2,fun t=>?_⟩
   rw [f3]
   refine zfu (fun t=>?_) _ t
   rw [e3]
   simp only [Dk,false_or,aH]
   constructor
   ·rintro ⟨x,hx,e⟩
    obtain ⟨q1,q2,q3,q4⟩:=(hm x).1 hx
    exact ⟨x,q1,q2,q3,q4,e⟩
   ·rintro ⟨x,q1,q2,q3,q4,e⟩
    exact ⟨x,(hm x).2 ⟨q1,q2,q3,q4⟩,e⟩
  ·rw [if_neg (by omega),aE (by omega)]
   exact ⟨M,rfl,h3,fun t=>Iff.rfl⟩
theorem Za (n:Nat)(hn:10000000<n)(sc:Scn)(h:ScR sc)(kinds:List Int)(hk:kinds.length<=1000000):∀ (m:Nat) (rem:Mp),rem.length<m->(∀ t,has rem t->0<=t/\t.toNat<sc.fa.fStates.length)->I2 n (some false) m (kinds,sc.ftypes,sc.fa.fVars,sc.fa.fScopes,sc.fa.fStates,sc.fa.fEdges,rem)=some (rem.any fun p=>!(kinds.any fun y=>gdk sc.fa p.1 y))
 |0,rem,h1,h2=>by omega
 |m+1,rem,h1,h2=>by
  unfold I2
  simp only [Aa]
  by_cases e:rem=[]
  ·subst e
   rw [Q9]
   rfl
  ·have hne:∀ (x y:Option Bool),nxt rem x y=y:=fun x y=>by
    cases rem with
    |nil=>exact absurd rfl e
    |cons p r=>exact Q6 p r x y
   rw [hne]
   refine Q4 e fun j hj=>?_
   have hp:(rem[j]::rem.eraseIdx j).Perm rem:=He hj
   have ht:=h2 rem[j].1 ((Mn hp _).1 ((Dj _ _ _).2 (aN rfl)))
   have h1':Ib n rem[j].1 kinds (⟨sc.ftypes,⟨sc.fa.fVars,sc.fa.fScopes,sc.fa.fStates,sc.fa.fEdges⟩⟩:Aq)=some (!(kinds.any fun y=>gdk sc.fa rem[j].1 y),kinds,sc):=zbv n hn sc h rem[j].1 ht kinds hk
   have hlen:(rem.eraseIdx j).length<m:=by rw [aP hj];omega
   have ih:=Za n hn sc h kinds hk m (rem.eraseIdx j) hlen (fun t q=>h2 t ((Mn hp _).1 ((Dj _ _ _).2 (aK q))))
   rw [h1',Cl]
   simp only
   rw [ih,<-hp.any_eq,any_cons]
   cases (!(kinds.any fun y=>gdk sc.fa rem[j].1 y)) with
   |true=>rw [Ab];rfl
   |false=>rw [Ae];rfl
def GrP (n:Nat)(sc:Scn)(kinds:List Int):Prop:=kinds≠[]/\(∀ k∈kinds,gdk sc.fa 0 k=false)/\∃ M i,Dd n sc=some M/\has M i/\atS (frE n sc) (fun t=>t=0) kinds i/\∀ k∈kinds,gdk sc.fa i k=false
theorem zj8 (n:Nat)(hn:10000000<n)(sc:Scn)(h:ScR sc)(kinds:List Int)(hk:kinds.length<=1000000):∃ r,Ip n sc kinds=some r/\(r=true ↔ GrP n sc kinds):=by
 have hst:=h.st
 obtain ⟨M,m1,m2,m3⟩:=Tv n hn sc h
 have key:∀ b,∃ r,Gp n (b,sc.ftypes,sc.fa.fVars,sc.fa.fScopes,sc.fa.fStates,sc.fa.fEdges,kinds)=some r/\(r=true ↔ b=false/\∃ i,has M i/\atS (frE n sc) (fun t=>t=0) kinds i/\∀ k∈kinds,gdk sc.fa i k=false):=fun b=>by
  unfold Gp
  cases b with
  |true=>simp only;rw [Ab];exact ⟨false,rfl,by simp⟩
  |false =>
   simp only
   rw [Ae,Dm]
   have e0:mput ([]:Mp) 0 true=[((0:Int),true)]:=rfl
   rw [e0]
   obtain ⟨A,a1,a2,a3⟩:=Zb n hn sc h false kinds hk (fun y=>frs 7022 y (reg (bnd (Dd n (⟨sc.ftypes,⟨sc.fa.fVars,sc.fa.fScopes,sc.fa.fStates,sc.fa.fEdges⟩⟩:Aq)) fun x51=>bnd (Je n (C1 y) x51) fun x52=>I2 n (some false) n (kinds,sc.ftypes,sc.fa.fVars,sc.fa.fScopes,sc.fa.fStates,sc.fa.fEdges,x52)))) n 0 [((0:Int),true)] (by omega) (by omega) ⟨⟨by simp,by simp⟩,fun t ht=>by simp [has] at ht;omega⟩
   simp only [aC,aH] at a1 a3
   have hal:=a2.mks.len_le sc.fa.fStates.length (fun t ht=>by have:=a2.rg t ht;omega)
   have hfr:∀ x:Option Bool,frs 7022 A x=x:=fun x=>by unfold frs;rw [if_pos a2.mks.nd]
   obtain ⟨s1,_,s3,s4⟩:=a2.mks.sort
   obtain ⟨C,c1,c2,c3'⟩:=zc2 n (C1 A) M s1 m2 (by omega)
   have c3:∀ v,has C v ↔ has A v/\has M v:=fun v=>by rw [c3',s4]
   have m1':Dd n (⟨sc.ftypes,⟨sc.fa.fVars,sc.fa.fScopes,sc.fa.fStates,sc.fa.fEdges⟩⟩:Aq)=some M:=m1
   rw [a1,hfr,Aa,m1',A0,c1,A0]
   have hcr:∀ t,has C t->0<=t/\t.toNat<sc.fa.fStates.length:=fun t ht=>by
    have:=a2.rg t ((c3 t).1 ht).1
    omega
   have hcl:=c2.len_le sc.fa.fStates.length (fun t ht=>by have:=hcr t ht;omega)
   rw [Za n hn sc h kinds hk n C (by omega) hcr]
   refine ⟨_,rfl,?_⟩
   rw [any_eq_true]
   have ha:∀ t,has A t ↔ atS (frE n sc) (fun t=>t=0) kinds t:=fun t=>by
    rw [a3]
    exact zfu (fun t=>by simp [has]) _ t
   have hfree:∀ i,(!(kinds.any fun y=>gdk sc.fa i y))=true ↔ ∀ k∈kinds,gdk sc.fa i k=false:=fun i=>by simp
   constructor
   ·rintro ⟨p,hp,hq⟩
    have:=(c3 p.1).1 (mem_map_of_mem hp)
    exact ⟨trivial,p.1,this.2,(ha _).1 this.1,(hfree _).1 hq⟩
   ·rintro ⟨_,i,hi,hi2,hi3⟩
    obtain ⟨p,hp,rfl⟩:=bF.1 ((c3 i).2 ⟨(ha _).2 hi2,hi⟩)
    exact ⟨p,hp,(hfree _).2 hi3⟩
 unfold Ip
 simp only [Ao,Aa,aA]
 rw [A3]
 by_cases q:(kinds.length:Int)=0
 ·rw [if_pos q]
  obtain ⟨r,r1,r2⟩:=key true
  refine ⟨r,r1,?_⟩
  rw [r2]
  exact ⟨fun h=>absurd h.1 (by simp),fun h=>absurd (length_eq_zero_iff.1 (by omega)) h.1⟩
 ·rw [if_neg q,zbv n hn sc h 0 (by omega) kinds hk,Cl]
  simp only [Bool.not_not]
  obtain ⟨r,r1,r2⟩:=key (kinds.any fun y=>gdk sc.fa 0 y)
  refine ⟨r,r1,?_⟩
  rw [r2]
  unfold GrP
  constructor
  ·rintro ⟨h1,i,h2⟩
   exact ⟨fun e=>q (by rw [e];rfl),fun k hk=>by simpa using any_eq_false.1 h1 k hk,M,i,m1,h2⟩
  ·rintro ⟨_,h1,M',i,h2,h3⟩
   rw [m1] at h2
   injection h2 with h2
   subst h2
   exact ⟨by simpa using h1,i,h3⟩
def pfxE (types:List Aw)(i:Nat)(k:Int):Ev:=⟨0,(i:Int),k,(i:Int),(((types[k.toNat]?).map (·.fFields)).getD []).map fun f=>⟨f.fKind,0,ByteArray.empty⟩⟩
def pfxL (types:List Aw):Nat->List Int->List Ev
 |_,[]=>[]
 |i,k::r=>pfxE types i k::pfxL types (i+1) r
theorem zbn (types:List Aw)(i:Nat)(w:List Int):(pfxL types i w).length=w.length:=by
 induction w generalizing i with
 |nil=>rfl
 |cons k r ih=>simp [pfxL,ih]
theorem Vz (types:List Aw)(i:Nat)(w:List Int)(j:Nat)(h:j<w.length):(pfxL types i w)[j]'(by rw [zbn];exact h)=pfxE types (i+j) w[j]:=by
 induction w generalizing i j with
 |nil=>simp at h
 |cons k r ih =>
  cases j with
  |zero=>rfl
  |succ j =>
   have:=ih (i+1) j (by simpa using h)
   simp only [pfxL,getElem_cons_succ]
   rw [this]
   congr 1
   omega
theorem Yq (n:Nat)(w:List Int)(sc:Scn)(V:Int×List Ev)(kd:Int)(S:Aw)(hS:S.fFields.length<=1000000)(K:Int->List A4->Option (List Ev)):∀ (m k:Nat) (acc:List A4),k<=S.fFields.length->S.fFields.length<m+k->acc.length<=k->Ks n w sc V kd S K m ((k:Int),acc)=K kd (acc++(S.fFields.drop k).map fun f=>⟨f.fKind,0,ByteArray.empty⟩)
 |0,k,acc,h1,h2,h3=>by omega
 |m+1,k,acc,h1,h2,h3=>by
  unfold Ks
  simp only [aA]
  rw [A3]
  by_cases hk:k<S.fFields.length
  ·rw [if_pos (by omega),Aj hk,Bv (by simp;omega) (by decide),Ai k (by omega),aD hk,Yq n w sc V kd S hS K m (k+1) _ (by omega) (by omega) (by simp;omega),append_assoc]
   rfl
  ·rw [if_neg (by omega),aE (by omega)]
   simp
theorem Yr (n:Nat)(hn:10000000<n)(w:List Int)(hw:w.length<=1000000)(sc:Scn)(hr:∀ k∈w,0<=k/\k.toNat<sc.ftypes.length)(hS:∀ S∈sc.ftypes,S.fFields.length<=1000000):∀ (m k:Nat) (acc:List Ev),k<=w.length->w.length<m+k->acc.length<=k->Kt n w sc (fun y=>some y) m ((k:Int),acc)=some (acc++pfxL sc.ftypes k (w.drop k))
 |0,k,acc,h1,h2,h3=>by omega
 |m+1,k,acc,h1,h2,h3=>by
  unfold Kt
  simp only [aA]
  rw [A3]
  by_cases hk:k<w.length
  ·obtain ⟨r1,r2⟩:=hr _ (aB hk)
   have hl:=hS _ (aB r2)
   have h2:=fun K=>Yq n w sc ((k:Int),acc) w[k] sc.ftypes[w[k].toNat] hl K n 0 [] (by omega) (by omega) (by simp)
   simp only [aC,aH,bH] at h2
   rw [if_pos (by omega),Aj hk,G6 r1 r2,h2,Qe,Aa,Bv (by simp;omega) (by decide),Ai k (by omega),aD hk,Yr n hn w hw sc hr hS m (k+1) _ (by omega) (by omega) (by simp;omega)]
   simp only [pfxL,append_assoc,bC]
   congr 3
   unfold pfxE
   rw [aF r2]
   rfl
  ·rw [if_neg (by omega),aE (by omega)]
   simp [pfxL]
theorem zgr (n:Nat)(hn:10000000<n)(w:List Int)(hw:w.length<=1000000)(sc:Scn)(hr:∀ k∈w,0<=k/\k.toNat<sc.ftypes.length)(hS:∀ S∈sc.ftypes,S.fFields.length<=1000000):O4 n sc w=some (pfxL sc.ftypes 0 w):=by
 have:=Yr n hn w hw sc hr hS n 0 [] (by omega) (by omega) (by simp)
 simpa [O4] using this
end Go.Proofs.YthbogefcfhmpgaaGreat
