/- Layer 25, plainly: running; RunRuns. Layer 5, plainly, as layer 25 needs it: inserting an event. Layer 25: events of a type that is not used. Layer 25, plainly: RunContinues. What some functions compute, over plain values. Printed by a program of mine (gen_fun.lean). -/
import Derived.Test.YtjpknpjjcddnnaaGreatK26
import Derived.Test.YtjpknpjjcddnnaaGreatK18
set_option linter.unusedVariables false
set_option linter.unusedSimpArgs false
set_option maxRecDepth 100000
set_option maxHeartbeats 8000000
namespace Go.Proofs.YtjpknpjjcddnnaaGreat
open Go.RowKit
theorem p_begin_l1 (l:List Ev)(hl:l.length<=1000000)(a:Aut)(K:List (Rf×Ev)->Option (Option z0i×Int)):∀ (m k:Nat) (mp:List (Rf×Ev)),k<=l.length->l.length<m+k->zdx N0 l a K m ((k:Int),mp)=K ((l.drop k).foldl (fun m e=>mput m (z9z e) e) mp)
 |0,k,mp,h1,h2=>by omega
 |m+1,k,mp,h1,h2=>by
  unfold zdx
  simp only [List.length_map,z0o]
  by_cases h:k<l.length
  ·have hr:ziy N0 l[k]=some (z9z l[k]):=rfl
   rw [if_pos (by omega),z0s h,hr,z09,mst_eq,z0g _ k h,List.foldl_cons,z2n k (by omega)]
   exact p_begin_l1 l hl a K m (k+1) _ (by omega) (by omega)
  ·rw [if_neg (by omega),List.drop_eq_nil_of_le (by omega)]
   rfl
theorem p_begin (a:Aut)(hw:WfA a)(l:List Ev)(hl:l.length<=1000000):∃ q:Int,z2q N0 a l=some q/\((q≠0/\zb9 N0 a l=some (none,q))\/(q=0/\AOk a/\StrOk l/\z6k N0 a=some 0/\zmx l=0/\∃ mp,HM l mp/\zb9 N0 a l=some (some ⟨a,mp⟩,0))):=by
 obtain ⟨r,r1,r2,r3⟩:=p_acheck N0 (by decide) a hw
 unfold z2q zb9
 rw [r1,r2,z09,z09,z0w,z0o,z0w,z0o]
 by_cases h:r=0
 rotate_left
 ·rw [if_neg h,if_neg h]
  exact ⟨r,rfl,Or.inl ⟨h,rfl⟩⟩
 rw [if_pos h,if_pos h,p_rchk N0 l (by unfold N0;omega) hl,p_chk N0 l (by unfold N0;omega) (by decide) hl,z09,z09,z0w,z0o]
 refine ⟨zmx l,rfl,?_⟩
 by_cases hs:zmx l=0
 rotate_left
 ·rw [if_neg hs]
  exact Or.inl ⟨hs,rfl⟩
 rw [if_pos hs]
 have hso:=y09 hs
 refine Or.inr ⟨hs,r3 h,hso,by rw [h] ,hs,l.foldl (fun m e=>mput m (z9z e) e) [],fun r=>?_,?_⟩
 ·rw [hm_fold r l [] hso.st]
  simp [mlk]
 ·refine (p_begin_l1 l hl a _ N0 0 [] (Nat.zero_le _) (by unfold N0;omega)).trans ?_
  rw [List.drop_zero]
theorem coP_cb {a:Aut}{held:List Ev}(hx:CxA a held)(hst:Str zia held){c:Cf}{k:Nat}(hc:CB held a k c){x:Ed}(hxe:x∈a.fEdges){e:Ev}(he:e∈held){d:Cf}(h:coP a held c x e=some d)(h0:0<=d.fState):CB held a (k+1) d:=by
 have hz:=coP_sz hx hc hxe h
 have hd:=coP_some h
 have eo:=hx.ok.ed x hxe
 refine ⟨?_,?_,?_,hz.1,hz.2⟩
 ·rw [hd] at h0 ⊢
  exact ⟨h0,eo.tgt.2⟩
 ·rw [hd]
  intro b hb
  rcases List.mem_append.1 hb with hb|hb
  ·exact hc.bd b hb
  ·rw [List.mem_singleton.1 hb]
   refine ⟨eo.var,?_⟩
   rw [lkH_mem hst he]
   rfl
 ·rw [hd]
  exact (opL_ss e.fTime x.fOpens hc.ss).filter _
theorem CB.up {held:List Ev}{a:Aut}{k:Nat}{c:Cf}(h:CB held a k c):CB held a (k+1) c:=⟨h.st,h.bd,h.ss,by have:=h.lb;omega,by have:=h.ls;omega⟩
theorem outP_cb {a:Aut}{held:List Ev}(hx:CxA a held)(hst:Str zia held){c:Cf}{k:Nat}(hc:CB held a k c){e:Ev}(he:e∈held){d:Cf}(h:d∈outP a held c e)(h0:0<=d.fState):CB held a (k+1) d:=by
 unfold outP at h
 rcases List.mem_append.1 h with h|h
 ·split at h
  ·rw [List.mem_singleton.1 h]
   exact hc.up
  ·simp at h
 ·obtain ⟨x,hx',hd⟩:=List.mem_filterMap.1 h
  exact coP_cb hx hst hc (y1f hx').1 he hd h0
theorem cfN_mem {a:Aut}{held:List Ev}{l:List Cf}{e:Ev}{d:Cf}(h:d∈cfN a held l e):∃ c∈l,d∈outP a held c e/\0<=d.fState:=by
 unfold cfN at h
 obtain ⟨c,h1,h2⟩:=List.mem_flatMap.1 ((zfv zdo _ _).1 h)
 exact ⟨c,h1,cfO_mem h2⟩
theorem cfN_cb {a:Aut}{held:List Ev}(hx:CxA a held)(hst:Str zia held){l:List Cf}{k:Nat}(hc:∀ c∈l,CB held a k c){e:Ev}(he:e∈held):∀ d∈cfN a held l e,CB held a (k+1) d:=fun d hd=>by
 obtain ⟨c,h1,h2,h3⟩:=cfN_mem hd
 exact outP_cb hx hst (hc c h1) he h2 h3
theorem maN_ok {a:Aut}{held:List Ev}(hx:CxA a held){l:List Cf}{k:Nat}(hk:k<=1000)(hc:∀ c∈l,CB held a k c)(e:Ev):∀ d∈maN a held l e,maOk d=true:=fun d hd=>by
 unfold maN at hd
 obtain ⟨c,h1,h2⟩:=List.mem_flatMap.1 ((zfv z90 _ _).1 hd)
 exact maO_ok hx hk (hc c h1) e d h2
theorem maN_len {a:Aut}{held:List Ev}(hle:a.fEdges.length<=100)(l:List Cf)(e:Ev):(maN a held l e).length<=101*l.length:=by
 unfold maN
 have f2:=flat_len (fun c=>maO (outP a held c e)) 101 l (fun c _=>by have:=y0d (outP a held c e);have:(outP a held c e).length<=a.fEdges.length+1:=y16;omega)
 have:=setL_len (c:=z4o) (l.flatMap (fun c=>maO (outP a held c e)))
 omega
theorem puts_ge (l s:List Ma)(hs:Str z4o s)(hl:Str z4o l):l.length<=(puts z4o s l).length:=by
 have:puts z4o s l=puts z4o l s:=Str.uniq z90 (zys z90 _ _ hs) (zys z90 _ _ hl) (fun x=>by rw [zsl z90,zsl z90,Or.comm])
 rw [this]
 exact puts_len2 s l
def wiP (most:Nat)(a:Aut)(held:List Ev):List Ev->List Cf->List Ma->List Cf×List Ma×Bool
 |[],cs,ms=>(cs,ms,true)
 |e::r,cs,ms=>if most<(cfN a held cs e).length\/most<(puts z4o ms (maN a held cs e)).length then ([],[],false) else wiP most a held r (cfN a held cs e) (puts z4o ms (maN a held cs e))
theorem p_rwithin_l1 {a:Aut}{l:List Ev}(hx:CxA a l)(hst:Str zia l)(hle:a.fEdges.length<=100)(most:Nat)(hm:most<=4096)(hm1:1<=most)(hl:l.length<=900) :
  ∀ (m k:Nat) (cs:List Cf) (ms:List Ma),k<=l.length->l.length<m+k->cs.length<=most->ms.length<=most->(∀ c∈cs,CB l a k c)->(∀ d∈ms,maOk d=true)->z2f N0 (most:Int) l a (fun y0 y1=>some (y0,y1,true)) m (cs,ms,(k:Int))=some (wiP most a l (l.drop k) cs ms)
 |0,k,cs,ms,h1,h2,h3,h4,h5,h6=>by omega
 |m+1,k,cs,ms,h1,h2,h3,h4,h5,h6=>by
  unfold z2f
  simp only [List.length_map,z0o]
  by_cases h:k<l.length
  ·have he:=List.getElem_mem h
   have z:=maN_len (held:=l) hle cs l[k]
   have o:=maN_ok hx (by omega) h5 l[k]
   rw [if_pos (by omega),z0s h,p_all hx hle (by omega) l[k] cs h5 (by omega),z09,z0g _ k h]
   have l2:=fun K=>p_with_l2 (most:Int) l a (cs,ms,(k:Int)) (cfN a l cs l[k],maN a l cs l[k]) o (by show (maN a l cs l[k]).length<=1000000;omega) K N0 0 ms (Nat.zero_le _) (by show (maN a l cs l[k]).length<2000000000+0;omega) (by show ms.length+((maN a l cs l[k]).length-0)<=1000000;omega) h6
   refine (l2 _).trans ?_
   rw [List.drop_zero]
   simp only [z2s,z1r,z3d,z0o,z80]
   have ih:=p_rwithin_l1 hx hst hle most hm hm1 hl m (k+1) (cfN a l cs l[k]) (puts z4o ms (maN a l cs l[k])) (by omega) (by omega)
   unfold wiP
   by_cases q1:most<(cfN a l cs l[k]).length
   ·rw [if_pos (by omega),if_pos (Or.inl q1)]
   rw [if_neg (by omega)]
   by_cases q2:most<(puts z4o ms (maN a l cs l[k])).length
   ·rw [if_pos (by omega),if_pos (Or.inr q2)]
   rw [if_neg (by omega),if_neg (by omega),z2n k (by omega)]
   exact ih (by omega) (by omega) (cfN_cb hx hst h5 he) (puts_okM h6 o)
  ·rw [if_neg (by omega),List.drop_eq_nil_of_le (by omega)]
   rfl
theorem cb0 {a:Aut}{l:List Ev}(ha:AOk a):CB l a 0 cf0:=⟨⟨by simp,by have:=ha.st;simp;omega⟩,fun b hb=>by simp at hb,by simp [SS],by simp,by simp⟩
theorem p_rwithin {a:Aut}{l:List Ev}(hx:CxA a l)(hst:Str zia l)(hle:a.fEdges.length<=100)(most:Nat)(hm:most<=4096)(hm1:1<=most)(hl:l.length<=900):z7g N0 a l (most:Int)=some (wiP most a l l [cf0] []):=by
 unfold z7g
 have hb:zc3 N0=some cf0:=rfl
 rw [hb,z09]
 exact p_rwithin_l1 hx hst hle most hm hm1 hl N0 0 [cf0] [] (Nat.zero_le _) (by unfold N0;omega) (by simp;omega) (by simp) (fun c hc=>by rw [List.mem_singleton.1 hc];exact cb0 hx.ok) (by simp)
theorem wi_up (a:Aut)(held:List Ev):∀ (l:List Ev) (cs:List Cf) (ms:List Ma),(wiP 150 a held l cs ms).2.2=true->wiP 4096 a held l cs ms=wiP 150 a held l cs ms
 |[],cs,ms,_=>rfl
 |e::r,cs,ms,h=>by
  unfold wiP at h ⊢
  by_cases q:150<(cfN a held cs e).length\/150<(puts z4o ms (maN a held cs e)).length
  ·rw [if_pos q] at h;cases h
  ·rw [if_neg q] at h ⊢
   rw [if_neg (by omega)]
   exact wi_up a held r _ _ h
theorem p_run_l2 {r:z0i}{l:List Ev}(hx:CxA r.fa l)(hm:HM l r.fheld)(hst:Str zia l)(hle:r.fa.fEdges.length<=100)(hl:l.length<=20)(K:List Cf->List Ma->Option (List Cf×List Ma×Int)) :
  ∀ (m k:Nat) (cs:List Cf) (all:List Ma),k<=l.length->l.length<m+k->cs.length<=150->all.length<=150*k->(∀ c∈cs,CB l r.fa k c)->(∀ d∈all,maOk d=true)->(wiP 150 r.fa l (l.drop k) cs (setL z4o all)).2.2=true ->
   ∃ cs' all',zc7 N0 l r K m (cs,(k:Int),all)=K cs' all'/\wiP 150 r.fa l (l.drop k) cs (setL z4o all)=(cs',setL z4o all',true)/\(∀ d∈all',maOk d=true)/\all'.length<=4096/\cs'.length<=150/\(setL z4o all').length<=max 150 (setL z4o all).length/\(∀ c∈cs',CB l r.fa l.length c)
 |0,k,cs,all,h1,h2,h3,h4,h5,h6,h7=>by omega
 |m+1,k,cs,all,h1,h2,h3,h4,h5,h6,h7=>by
  unfold zc7
  simp only [List.length_map,z0o]
  by_cases h:k<l.length
  ·have he:=List.getElem_mem h
   have hch:∀ y∈l,z9z y=z9z l[k]->y=l[k]:=fun y hy hr=>by
    have e1:=lkH_mem hst hy
    have e2:=lkH_mem hst he
    rw [hr,e2] at e1
    exact (Option.some.inj e1).symm
   rw [z0g _ k h] at h7 ⊢
   unfold wiP at h7 ⊢
   have eM:puts z4o (setL z4o all) (maN r.fa l cs l[k])=setL z4o (all++maN r.fa l cs l[k]):=by unfold setL;rw [<-zkd]
   have hge:=puts_ge (maN r.fa l cs l[k]) (setL z4o all) (zga z90 _) (zga z90 _)
   by_cases q:150<(cfN r.fa l cs l[k]).length\/150<(puts z4o (setL z4o all) (maN r.fa l cs l[k])).length
   ·rw [if_pos q] at h7;cases h7
   rw [if_neg q] at h7 ⊢
   have o:=maN_ok hx (by omega) h5 l[k]
   rw [if_pos (by omega),z0s h,p_advance hx hm (by omega) hch hle cs h5 (by omega),z09]
   have hw:IntKind.wrap .i64 (((all.length:Nat):Int)+(((maN r.fa l cs l[k]).length:Nat):Int))=((all.length+(maN r.fa l cs l[k]).length:Nat):Int):=by rw [zdf _ (by omega)];omega
   simp only [z2s,z1r,zdb,z80,z0o]
   rw [if_neg (by omega),if_neg (by omega),hw,if_neg (by omega),zau (by omega) (by omega),z2n k (by omega)]
   rw [eM] at h7 ⊢
   obtain ⟨cs',all',a1,a2,a3,a4,a5,a6,a7⟩:=p_run_l2 hx hm hst hle hl K m (k+1) (cfN r.fa l cs l[k]) (all++maN r.fa l cs l[k]) (by omega) (by omega) (by omega) (by rw [List.length_append];omega) (cfN_cb hx hst h5 he) (fun d hd=>by
    rcases List.mem_append.1 hd with hd|hd
    ·exact h6 d hd
    ·exact o d hd) h7
   refine ⟨cs',all',a1,a2,a3,a4,a5,?_,a7⟩
   rw [eM] at q
   omega
  ·rw [if_neg (by omega)]
   have hk:k=l.length:=by omega
   rw [List.drop_eq_nil_of_le (by omega)]
   exact ⟨cs,all,rfl,rfl,h6,by omega,h3,by omega,by rw [<-hk];exact h5⟩
theorem p_run {a:Aut}{l:List Ev}(hw:WfA a)(hf:FewA a)(hl:l.length<=20)(hb:z2q N0 a l=some 0)(hsm:(wiP 150 a l l [cf0] []).2.2=true) :
  ∃ cs ms,wiP 150 a l l [cf0] []=(cs,ms,true)/\zj2 N0 a l=some (cs,ms,0)/\zln N0 a l=some (cs,ms,0)/\cs.length<=150/\ms.length<=150/\(∀ c∈cs,CB l a l.length c)/\(∀ d∈ms,maOk d=true):=by
 obtain ⟨q,q1,q2⟩:=p_begin a hw l (by omega)
 rw [hb] at q1
 have q0:q=0:=(Option.some.inj q1).symm
 rcases q2 with ⟨h,_⟩|⟨_,ha,hs,_,_,mp,hm,hbeg⟩
 ·exact absurd q0 h
 have hx:CxA a l:=⟨hw,ha,fun x hx=>by have:=hf.2 x hx;omega,by omega⟩
 have hle:a.fEdges.length<=100:=by have:=hf.1;omega
 have e0:setL z4o ([]:List Ma)=[]:=rfl
 obtain ⟨cs,all,a1,a2,a3,a4,a5,a6,a7⟩:=p_run_l2 (r:=⟨a,mp⟩) hx hm hs.st hle hl (fun y0 y1=>bndM 62 (z9f N0 y1) fun x47=>some (y0,x47,0)) N0 0 [cf0] [] (Nat.zero_le _) (by unfold N0;omega) (by simp) (by simp) (fun c hc=>by rw [List.mem_singleton.1 hc];exact cb0 ha) (by simp) (by rw [List.drop_zero,e0];exact hsm)
 rw [List.drop_zero,e0] at a2
 have hr:=p_rwithin hx hs.st hle 4096 (by omega) (by omega) (by omega)
 refine ⟨cs,setL z4o all,a2,?_,?_,a5,by rw [e0] at a6;simpa using a6,a7,setM_ok a3⟩
 ·unfold zj2 bndP
  rw [hbeg]
  simp only [z0w,z0o]
  have hB:zlp N0=some cf0:=rfl
  rw [if_pos trivial,hB,z09]
  refine a1.trans ?_
  rw [p_uniqM N0 (by decide) all a3 (by omega),zbq]
 ·unfold zln
  rw [hb,z09,z0w,z0o,if_pos rfl]
  have h4:((4096:Nat):Int)=4096:=rfl
  rw [h4] at hr
  rw [hr,z09,wi_up a l l [cf0] [] hsm,a2]
  exact z8k _ _
theorem p_small (a:Aut)(hw:WfA a)(l:List Ev):∃ b:Bool,z9m N0 a l=some b/\(b=true->FewA a/\l.length<=12/\∃ q:Int,z2q N0 a l=some q/\(q=0->(wiP 150 a l l [cf0] []).2.2=true)):=by
 obtain ⟨b,b1,b2⟩:=p_few23 a hw
 unfold z9m
 simp only [z2s,z1r,z3z]
 rw [b1,z09,p_few5 N0 l (by decide),z0w,z09]
 cases b with
 |false=>rw [z8k,z80];exact ⟨false,rfl,fun h=>by cases h⟩
 |true =>
  rw [z80]
  cases hfl:fewE l with
  |false=>simp only [Bool.not_false,z80];exact ⟨false,rfl,fun h=>by cases h⟩
  |true =>
   simp only [Bool.not_true,z8k]
   obtain ⟨hl,_⟩:=fewE_out hfl
   obtain ⟨q,q1,q2⟩:=p_begin a hw l (by omega)
   rw [q1,z09,z0w,z0o]
   rcases q2 with ⟨h,_⟩|⟨h,ha,hs,_,_,_⟩
   ·rw [if_neg h]
    exact ⟨true,rfl,fun _=>⟨b2 rfl,hl,q,rfl,fun e=>absurd e h⟩⟩
   ·have hf:=b2 rfl
    have hx:CxA a l:=⟨hw,ha,fun x hx=>by have:=hf.2 x hx;omega,by omega⟩
    have hr:=p_rwithin hx hs.st (by have:=hf.1;omega) 150 (by omega) (by omega) (by omega)
    have h4:((150:Nat):Int)=150:=rfl
    rw [h4] at hr
    rw [if_pos h,hr,z09]
    exact ⟨_,rfl,fun hb=>⟨hf,hl,q,rfl,fun _=>hb⟩⟩
end Go.Proofs.YtjpknpjjcddnnaaGreat
namespace Go.Proofs.YtjpknpjjcddnnaaGreat
open Go.RowKit
theorem foldB_congr {h1 h2:List Ev}:∀ (l:List Bd) (vs:List (List Ev)),(∀ b∈l,lkH h1 b.fRef=lkH h2 b.fRef)->l.foldl (addB h1) vs=l.foldl (addB h2) vs
 |[],vs,_=>rfl
 |b::l,vs,h=>by
  rw [List.foldl_cons,List.foldl_cons]
  have:addB h1 vs b=addB h2 vs b:=by unfold addB;rw [h b (by simp)]
  rw [this]
  exact foldB_congr l _ (fun x hx=>h x (List.mem_cons_of_mem _ hx))
theorem enH_congr {h1 h2:List Ev}{l:List Bd}(h:∀ b∈l,lkH h1 b.fRef=lkH h2 b.fRef):enH h1 l=enH h2 l:=foldB_congr l _ h
theorem coP_congr {a:Aut}{h1 h2:List Ev}{c:Cf}(h:∀ b∈c.fBindings,lkH h1 b.fRef=lkH h2 b.fRef)(x:Ed)(e:Ev):coP a h1 c x e=coP a h2 c x e:=by
 have e2:enH (e::h1) (bdN c x e)=enH (e::h2) (bdN c x e):=enH_congr (fun b hb=>by
  unfold lkH
  rw [List.find?_cons,List.find?_cons]
  by_cases q:z9z e=b.fRef
  ·simp [q]
  ·simp only [q,decide_false]
   rcases List.mem_append.1 hb with hb|hb
   ·exact h b hb
   ·rw [List.mem_singleton.1 hb] at q;exact absurd rfl q)
 unfold coP
 rw [enH_congr h,e2]
theorem outP_congr {a:Aut}{h1 h2:List Ev}{c:Cf}(h:∀ b∈c.fBindings,lkH h1 b.fRef=lkH h2 b.fRef)(e:Ev):outP a h1 c e=outP a h2 c e:=by
 unfold outP skP
 rw [enH_congr h]
 congr 1
 exact congrArg (fun f=>List.filterMap f (fromL a c.fState)) (funext fun x=>coP_congr h x e)
theorem flat_congr {α β:Type}{f g:α->List β}:∀ {l:List α},(∀ x∈l,f x=g x)->l.flatMap f=l.flatMap g
 |[],_=>rfl
 |x::l,h=>by rw [List.flatMap_cons,List.flatMap_cons,h x (by simp),flat_congr (fun y hy=>h y (List.mem_cons_of_mem _ hy))]
theorem cfN_congr {a:Aut}{h1 h2:List Ev}{l:List Cf}(h:∀ c∈l,∀ b∈c.fBindings,lkH h1 b.fRef=lkH h2 b.fRef)(e:Ev):cfN a h1 l e=cfN a h2 l e:=by
 unfold cfN;rw [flat_congr (fun c hc=>by rw [outP_congr (h c hc) e])]
theorem maN_congr {a:Aut}{h1 h2:List Ev}{l:List Cf}(h:∀ c∈l,∀ b∈c.fBindings,lkH h1 b.fRef=lkH h2 b.fRef)(e:Ev):maN a h1 l e=maN a h2 l e:=by
 unfold maN;rw [flat_congr (fun c hc=>by rw [outP_congr (h c hc) e])]
theorem lk_more {l more:List Ev}(hs:Str zia more)(hm:∀ x∈l,x∈more){r:Rf}(h:(lkH l r).isSome=true):lkH l r=lkH more r:=by
 obtain ⟨y,hy⟩:=Option.isSome_iff_exists.1 h
 obtain ⟨h1,h2⟩:=lkH_ref hy
 have:=lkH_mem hs (hm y h2)
 rw [h1] at this
 rw [hy,this]
theorem cb_lk {a:Aut}{l more:List Ev}(hs:Str zia more)(hm:∀ x∈l,x∈more){k:Nat}{cs:List Cf}(hc:∀ c∈cs,CB l a k c):∀ c∈cs,∀ b∈c.fBindings,lkH l b.fRef=lkH more b.fRef:=fun c h b hb=>lk_more hs hm ((hc c h).bd b hb).2
theorem wi_congr {a:Aut}{l more:List Ev}(hx:CxA a l)(hst:Str zia l)(hs:Str zia more)(hm:∀ x∈l,x∈more):∀ (r:List Ev) (k:Nat) (cs:List Cf) (ms:List Ma),(∀ e∈r,e∈l)->(∀ c∈cs,CB l a k c)->wiP 150 a l r cs ms=wiP 150 a more r cs ms
 |[],k,cs,ms,_,_=>rfl
 |e::r,k,cs,ms,hr,hc=>by
  have q:=cb_lk hs hm hc
  unfold wiP
  rw [cfN_congr q,maN_congr q]
  split
  ·rfl
  ·refine wi_congr hx hst hs hm r (k+1) _ _ (fun x hx=>hr x (List.mem_cons_of_mem _ hx)) ?_
   rw [<-cfN_congr q]
   exact cfN_cb hx hst hc (hr e (by simp))
end Go.Proofs.YtjpknpjjcddnnaaGreat
namespace Go.Proofs.YtjpknpjjcddnnaaGreat
open Go.RowKit
theorem p_refs (a b:Rf):zi4 N0 a b=some (rCmp a b):=by
 have:zi4 (1999999996+4) a b=some (rCmp a b):=by
  unfold zi4
  simp only [z09,f_cmp,f_or3]
  rfl
 exact this
structure CI (a:Aut) (rest:List Ev) (c:Cf):Prop where
 asc:c.fBindings.Pairwise (fun x y=>rCmp x.fRef y.fRef<0)
 bef:∀ b∈c.fBindings,∀ e∈rest,rCmp b.fRef (z9z e)<0
 scp:∀ s∈c.fStarts,(0<=s.fScope/\s.fScope<a.fScopes)/\0<=s.fTime/\s.fTime<=1099511627776
theorem CI.tail {a:Aut}{e:Ev}{r:List Ev}{c:Cf}(h:CI a (e::r) c):CI a r c:=⟨h.asc,fun b hb x hx=>h.bef b hb x (List.mem_cons_of_mem _ hx),h.scp⟩
theorem coP_ci {a:Aut}(ha:AOk a){held:List Ev}{e:Ev}{r:List Ev}(hst:Str zia (e::r))(hp:zas e=true){c:Cf}(h:CI a (e::r) c){x:Ed}(hx:x∈a.fEdges){d:Cf}(hd:coP a held c x e=some d):CI a r d:=by
 rw [coP_some hd]
 obtain ⟨s1,s2⟩:=List.pairwise_cons.1 hst
 refine ⟨?_,fun b hb y hy=>?_,fun s hs=>?_⟩
 ·show List.Pairwise _ (bdN c x e)
  unfold bdN
  rw [List.pairwise_append]
  exact ⟨h.asc,List.pairwise_singleton _ _,fun b hb y hy=>by rw [List.mem_singleton.1 hy];exact h.bef b hb e (by simp)⟩
 ·rcases List.mem_append.1 hb with hb|hb
  ·exact h.bef b hb y (List.mem_cons_of_mem _ hy)
  ·rw [List.mem_singleton.1 hb];exact s1 y hy
 ·have hs':=(List.mem_filter.1 hs).1
  rcases opL_mem e.fTime x.fOpens hs' with ⟨k1,k2⟩|k
  ·refine ⟨(ha.ed x hx).opn _ k1,?_⟩
   rw [k2]
   unfold zas at hp
   simp only [Bool.and_eq_true,decide_eq_true_eq] at hp
   exact ⟨hp.1,hp.2.1⟩
  ·exact h.scp s k
theorem outP_ci {a:Aut}(ha:AOk a){held:List Ev}{e:Ev}{r:List Ev}(hst:Str zia (e::r))(hp:zas e=true){c:Cf}(h:CI a (e::r) c){d:Cf}(hd:d∈outP a held c e):CI a r d:=by
 unfold outP at hd
 rcases List.mem_append.1 hd with hd|hd
 ·split at hd
  ·rw [List.mem_singleton.1 hd];exact h.tail
  ·simp at hd
 ·obtain ⟨x,hx,hd⟩:=List.mem_filterMap.1 hd
  exact coP_ci ha hst hp h (y1f hx).1 hd
theorem cfN_ci {a:Aut}(ha:AOk a){held:List Ev}{e:Ev}{r:List Ev}(hst:Str zia (e::r))(hp:zas e=true){cs:List Cf}(h:∀ c∈cs,CI a (e::r) c):∀ d∈cfN a held cs e,CI a r d:=fun d hd=>by
 obtain ⟨c,h1,h2,_⟩:=cfN_mem hd
 exact outP_ci ha hst hp (h c h1) h2
theorem wi_split {a:Aut}{held:List Ev}{e:Ev}:∀ (p:List Ev) (cs:List Cf) (ms:List Ma),(wiP 150 a held (p++[e]) cs ms).2.2=true->∃ x m,wiP 150 a held p cs ms=(x,m,true)/\wiP 150 a held (p++[e]) cs ms=(cfN a held x e,puts z4o m (maN a held x e),true)/\(cfN a held x e).length<=150/\(puts z4o m (maN a held x e)).length<=150
 |[],cs,ms,h=>by
  refine ⟨cs,ms,rfl,?_⟩
  rw [List.nil_append] at h ⊢
  unfold wiP at h ⊢
  split at h
  ·cases h
  ·rename_i q
   rw [if_neg q]
   exact ⟨rfl,by omega,by omega⟩
 |f::p,cs,ms,h=>by
  rw [List.cons_append] at h ⊢
  unfold wiP at h ⊢
  split at h
  ·cases h
  ·rename_i q
   rw [if_neg q,if_neg q]
   exact wi_split p _ _ h
theorem wi_ci {a:Aut}(ha:AOk a){held:List Ev}:∀ (p r:List Ev) (cs:List Cf) (ms:List Ma) (x:List Cf) (m:List Ma),Str zia (p++r)->(∀ e∈p,zas e=true)->(∀ c∈cs,CI a (p++r) c)->Str za0 cs->Str z4o ms->wiP 150 a held p cs ms=(x,m,true)->(∀ c∈x,CI a r c)/\Str za0 x/\Str z4o m
 |[],r,cs,ms,x,m,_,_,h3,h4,h5,h=>by
  unfold wiP at h
  injection h with h6 h7
  injection h7 with h7 _
  rw [<-h6,<-h7]
  exact ⟨h3,h4,h5⟩
 |f::p,r,cs,ms,x,m,h1,h2,h3,h4,h5,h=>by
  unfold wiP at h
  split at h
  ·injection h with _ h7
   injection h7 with _ h8
   cases h8
  ·exact wi_ci ha p r _ _ x m (List.pairwise_cons.1 h1).2 (fun e he=>h2 e (List.mem_cons_of_mem _ he)) (cfN_ci ha h1 (h2 f (by simp)) h3) (zga zdo _) (zys z90 _ _ h5) h
theorem p_check_l2 (r:z0i)(c:Cf)(hl:c.fStarts.length<=1000000)(hs:∀ s∈c.fStarts,(0<=s.fScope/\s.fScope<r.fa.fScopes)/\0<=s.fTime/\s.fTime<=1099511627776)(ha:SS c.fStarts):∀ (m k:Nat),k<=c.fStarts.length->c.fStarts.length<m+k->z20 N0 c r (some 0) m (k:Int)=some 0
 |0,k,h1,h2=>by omega
 |m+1,k,h1,h2=>by
  unfold z20
  simp only [List.length_map,z0o,z2s,z1r,z2d,z52,z80,z8k]
  by_cases h:k<c.fStarts.length
  ·obtain ⟨⟨q1,q2⟩,q3,q4⟩:=hs _ (List.getElem_mem h)
   have ih:=p_check_l2 r c hl hs ha m (k+1) (by omega) (by omega)
   rw [if_pos (by omega),z0s h,if_neg (by omega),if_neg (by omega),if_neg (by omega),if_neg (by omega),z2n k (by omega)]
   by_cases h0:0<k
   ·have:=List.pairwise_iff_getElem.1 ha (k-1) k (by omega) h (by omega)
    rw [if_pos (by omega),wrapP k (by omega) (by omega),z0s (by omega:k-1<c.fStarts.length),if_neg (by omega)]
    exact ih
   ·rw [if_neg (by omega)]
    exact ih
  ·rw [if_neg (by omega)]
theorem p_check_l1 (r:z0i)(held:List Ev)(hm:HM held r.fheld)(c:Cf)(hl:c.fBindings.length<=1000000)(hb:BdOk held r.fa.fVars c.fBindings)(ha:c.fBindings.Pairwise (fun x y=>rCmp x.fRef y.fRef<0))(K:Option Int)(hK:K=some 0):∀ (m k:Nat),k<=c.fBindings.length->c.fBindings.length<m+k->z3t N0 c r K m (k:Int)=some 0
 |0,k,h1,h2=>by omega
 |m+1,k,h1,h2=>by
  unfold z3t
  simp only [List.length_map,z0o,z2s,z1r,z51,z4z,z80,z8k,z0w]
  by_cases h:k<c.fBindings.length
  ·obtain ⟨⟨q1,q2⟩,q3⟩:=hb _ (List.getElem_mem h)
   have ih:=p_check_l1 r held hm c hl hb ha K hK m (k+1) (by omega) (by omega)
   have e1:(⟨c.fBindings[k].fRef.fTime,c.fBindings[k].fRef.fSource,c.fBindings[k].fRef.fSeq⟩:Rf)=c.fBindings[k].fRef:=rfl
   rw [if_pos (by omega),z0s h,e1,mgv_eq,hm,q3]
   simp only [z80]
   rw [if_neg (by omega),if_neg (by omega),z2n k (by omega)]
   by_cases h0:0<k
   ·have:=List.pairwise_iff_getElem.1 ha (k-1) k (by omega) h (by omega)
    have e2:(⟨c.fBindings[k-1].fRef.fTime,c.fBindings[k-1].fRef.fSource,c.fBindings[k-1].fRef.fSeq⟩:Rf)=c.fBindings[k-1].fRef:=rfl
    rw [if_pos (by omega),wrapP k (by omega) (by omega),z0s (by omega:k-1<c.fBindings.length),e2,p_refs,z09,if_neg (by omega)]
    exact ih
   ·rw [if_neg (by omega)]
    exact ih
  ·rw [if_neg (by omega)]
   exact hK
theorem p_rcheck {r:z0i}{held:List Ev}(hm:HM held r.fheld){k:Nat}(hk:k<=1000){c:Cf}(hc:CB held r.fa k c){rest:List Ev}(hi:CI r.fa rest c):z6o N0 r c=some 0:=by
 have h1:=hc.lb
 have h2:=hc.ls
 have h3:=hc.st
 unfold z6o
 simp only [z2s,z1r,z5w,z0o,z80,List.length_map]
 rw [if_neg (by omega),if_neg (by omega),if_neg (by omega)]
 have:=p_check_l2 r c (by omega) hi.scp hc.ss N0 0 (Nat.zero_le _) (by unfold N0;omega)
 exact p_check_l1 r held hm c (by omega) hc.bd hi.asc _ this N0 0 (Nat.zero_le _) (by unfold N0;omega)
theorem p_rplc (e:Ev):ziz N0 e=some (zas e):=by
 unfold ziz zas
 simp only [z2s,z1r,z6p,z0o]
 repeat' split
 all_goals (simp_all<;>omega)
theorem p_fits {a:Aut}{r:List Ev}{e:Ev}(hp:zas e=true)(l:List Cf)(hl:l.length<=1000000)(hb:∀ c∈l,c.fBindings.length<=1000000)(h:∀ c∈l,CI a (e::r) c):zrq N0 l e=some 0:=by
 unfold zrq
 rw [p_rplc,hp,z09,z0w,z80]
 rw [p_cont_s89 N0 e (fun _=>false) l (by omega) (by unfold N0;omega) (fun c hc=>by
  have hbl:=hb c hc
  unfold zex zz1
  rw [p_cont_s90 N0 e (fun b=>decide (0<=rCmp b.fRef (z9z e))) c.fBindings (by omega) (by unfold N0;omega) (fun b _=>by
   unfold zew
   have hr:ziy N0 e=some (z9z e):=rfl
   rw [hr,z09]
   have e1:(⟨b.fRef.fTime,b.fRef.fSource,b.fRef.fSeq⟩:Rf)=b.fRef:=rfl
   have e2:(⟨(z9z e).fTime,(z9z e).fSource,(z9z e).fSeq⟩:Rf)=z9z e:=rfl
   simp only [e1,e2,p_refs,z09]),z09,z09]
  congr 1
  rw [List.any_eq_false]
  intro b hb'
  have:=(h c hc).bef b hb' e (by simp)
  simp only [decide_eq_true_eq]
  omega),z09]
 have:(l.any fun _=>false)=false:=by rw [List.any_eq_false];simp
 rw [this,z8k]
theorem p_adv_l2 {r:z0i}(e:Ev)(l:List Cf)(hl:l.length<=1000000)(h:∀ c∈l,z6o N0 r c=some 0)(K:Int->Int->List z9b->List z0j->List (z13×z01)->Option (List Cf×List Ma×Int)):∀ (m k:Nat),k<=l.length->l.length<m+k->zbn N0 e l r K m (k:Int)=K r.fa.fVars r.fa.fScopes r.fa.fStates r.fa.fEdges r.fheld
 |0,k,h1,h2=>by omega
 |m+1,k,h1,h2=>by
  unfold zbn
  simp only [List.length_map,z0o,z0w]
  by_cases hk:k<l.length
  ·rw [if_pos (by omega),z0s hk,h _ (List.getElem_mem hk),z09,if_pos rfl,z2n k (by omega)]
   exact p_adv_l2 e l hl h K m (k+1) (by omega) (by omega)
  ·rw [if_neg (by omega)]
theorem y14 (l:List Ma)(hok:∀ x∈l,maOk x=true)(hl:l.length<=100000):∀ (m k:Nat) (s:List Ma),k<=l.length->l.length<m+k->s.length<=k->(∀ x∈s,maOk x=true)->z5a N0 l (fun y=>some y) m (s,(k:Int))=some (puts z4o s (l.drop k))
 |0,k,s,h1,h2,h3,h4=>by omega
 |m+1,k,s,h1,h2,h3,h4=>by
  unfold z5a
  simp only [List.length_map,z0o]
  by_cases h:k<l.length
  ·have ho:=hok _ (List.getElem_mem h)
   have hil:=zmy z4o l[k] s
   have hp:=p_putM N0 (by decide) l[k] ho s h4 (by omega)
   rw [if_pos (by omega),z0s h,z0g _ k h,zfi,z2n k (by omega),hp,z09]
   exact y14 l hok hl m (k+1) _ (by omega) (by omega) (by omega) (insU_okM ho h4)
  ·rw [if_neg (by omega),List.drop_eq_nil_of_le (by omega)]
   rfl
theorem p_rsortedM (l:List Ma)(hok:∀ x∈l,maOk x=true)(hl:l.length<=100000):z94 N0 l=some (setL z4o l):=by
 unfold z94
 refine (y14 l hok hl N0 0 [] (Nat.zero_le _) (by unfold N0;omega) (by simp) (by simp)).trans ?_
 rw [List.drop_zero]
 rfl
theorem chk_pre:∀ (l p r:List Ev),chk p (l++r)=0->chk p l=0
 |[],p,r,_=>by unfold chk;rfl
 |e::l,p,r,h=>by
  rw [List.cons_append] at h
  unfold chk at h ⊢
  split at h
  ·cases h
  split at h
  ·cases h
  split at h
  ·cases h
  rename_i h1 h2 h3
  rw [if_neg h1,if_neg h2,if_neg h3]
  exact chk_pre l (e::p) r h
theorem strChk_pre {l r:List Ev}(h:zmx (l++r)=0):zmx l=0:=by
 unfold zmx at h ⊢
 split at h
 ·cases h
 ·rename_i q
  rw [List.length_append] at q
  rw [if_neg (by omega)]
  exact chk_pre l [] r h
theorem p_cont_l1 {a:Aut}{l:List Ev}{r:z0i}(hbeg:zb9 N0 a l=some (some r,0))(x7 x10 x11:List Cf×List Ma×Int)(hz:x11.1.length<=150)(hst:Str za0 x11.1)(hok:∀ c∈x11.1,cfOk c=true)(hc:∀ c∈x11.1,z6o N0 r c=some 0)(K:List Cf->List Ma->List Ma->List Ma->Option Bool):∀ (m k:Nat),k<=x11.1.length->x11.1.length<m+k->z19 N0 l a x7 x10 x11 K m (k:Int)=K x7.1 x7.2.1 x10.2.1 x11.2.1
 |0,k,h1,h2=>by omega
 |m+1,k,h1,h2=>by
  unfold z19
  simp only [List.length_map,z0o,z0w,z80,z8k,z2s,z1r,z1g]
  by_cases h:k<x11.1.length
  ·have hmem:=List.getElem_mem h
   have ck:zlo N0 a l x11.1[k]=some 0:=by
    unfold zlo bndP
    rw [hbeg]
    simp only [z0w,z0o]
    rw [if_pos trivial,hc _ hmem,z09]
   have ih:=p_cont_l1 hbeg x7 x10 x11 hz hst hok hc K m (k+1) (by omega) (by omega)
   rw [if_pos (by omega),z0s h,ck,z09,if_pos rfl,z2n k (by omega)]
   by_cases h0:0<k
   ·have hlt:=List.pairwise_iff_getElem.1 hst (k-1) k (by omega) h (by omega)
    have o1:=hok _ (List.getElem_mem (by omega:k-1<x11.1.length))
    have o2:=hok _ hmem
    have b1:=(ze5 _).1 o1
    rw [if_pos (by omega),wrapP k (by omega) (by omega),z0s (by omega:k-1<x11.1.length),p_rcf N0 _ _ o1 o2 (by unfold N0;omega) (by unfold N0;omega),z09,if_neg (by omega)]
    exact ih
   ·rw [if_neg (by omega)]
    exact ih
  ·rw [if_neg (by omega)]
theorem law_continues (a:Aut)(hw:WfA a)(l:List Ev):z8j N0 a l=some true:=by
 obtain ⟨b,b1,b2⟩:=p_small a hw l
 have hawk:z88 N0=some true:=awake_ok
 have j1t:z0x N0 l a true=some true:=by unfold z0x;rw [z80,hawk,z09]
 unfold z8j
 simp only [z2s,z1r]
 rw [b1,z09,z0w]
 cases b with
 |false=>rw [z8k,j1t]
 |true =>
 obtain ⟨hf,hl,q,hb,hs⟩:=b2 rfl
 obtain ⟨r,r1,_,r3⟩:=p_acheck N0 (by decide) a hw
 rw [z80,r1,z09,z0w,z0o]
 by_cases hr:r=0
 rotate_left
 ·rw [if_neg hr,j1t]
 subst hr
 have both:∀ p:List Ev,p.length<=1000->z2q N0 a p=some (zmx p):=fun p hp=>by
  unfold z2q
  rw [r1,z09,z0w,z0o,if_pos rfl,p_rchk N0 p (by unfold N0;omega) (by omega),z09]
 rw [if_pos rfl,p_rchk N0 l (by unfold N0;omega) (by omega),z09,z0w,z0o]
 have hb':=both l (by omega)
 rw [hb] at hb'
 obtain rfl:=Option.some.inj hb'
 by_cases hz:zmx l=0
 rotate_left
 ·rw [if_neg hz,j1t]
 rw [if_pos hz,List.length_map]
 by_cases hl0:l=[]
 ·subst hl0
  have:decide (((([]:List Ev).length:Nat):Int)=0)=true:=by simp
  rw [this,j1t]
 obtain ⟨p,e,rfl⟩:∃ p e,l=p++[e]:=⟨l.dropLast,l.getLast hl0,(List.dropLast_concat_getLast hl0).symm⟩
 have hpl:p.length+1=(p++[e]).length:=by simp
 have:decide (((((p++[e]).length:Nat)):Int)=0)=false:=by simp;omega
 rw [this]
 have ha:AOk a:=r3 rfl
 have so:=y09 hz
 have pz:=strChk_pre hz
 have po:=y09 pz
 obtain ⟨x,m,w1,w2,w3,w4⟩:=wi_split p [cf0] [] (hs hz)
 have hxl:CxA a (p++[e]):=⟨hw,ha,fun x hx=>by have:=hf.2 x hx;omega,by omega⟩
 have hxp:CxA a p:=⟨hw,ha,fun x hx=>by have:=hf.2 x hx;omega,by omega⟩
 have c0:∀ c∈[cf0],CB p a 0 c:=fun c hc=>by rw [List.mem_singleton.1 hc];exact cb0 ha
 have hmm:∀ y∈p,y∈p++[e]:=fun y hy=>by simp [hy]
 have wp:wiP 150 a p p [cf0] []=(x,m,true):=(wi_congr hxp po.st so.st hmm p 0 [cf0] [] (fun e h=>h) c0).trans w1
 obtain ⟨x',m',v1,v2,_,v4,v5,v6,v7⟩:=p_run hw hf (by omega) ((both p (by omega)).trans (by rw [pz])) (by rw [wp])
 rw [wp] at v1
 simp only [Prod.mk.injEq,and_true] at v1
 obtain ⟨rfl,rfl⟩:=v1
 have hpl':∀ y∈p,zas y=true:=fun y hy=>so.pl y (by simp [hy])
 have hpe:zas e=true:=so.pl e (by simp)
 obtain ⟨i1,i2,i3⟩:=wi_ci ha p [e] [cf0] [] x m so.st hpl' (fun c hc=>by rw [List.mem_singleton.1 hc];exact ⟨by simp,fun b hb=>by simp at hb,fun s hs=>by simp at hs⟩) (by simp [Str]) (by simp [Str]) w1
 obtain ⟨y,o,u1,u2,_,u4,u5,u6,u7⟩:=p_run hw hf (by omega) ((both (p++[e]) (by omega)).trans (by rw [hz])) (hs hz)
 rw [w2] at u1
 simp only [Prod.mk.injEq,and_true] at u1
 obtain ⟨rfl,rfl⟩:=u1
 have lk:=cb_lk so.st hmm v6
 have eC:cfN a p x e=cfN a (p++[e]) x e:=cfN_congr lk e
 have eM:maN a p x e=maN a (p++[e]) x e:=maN_congr lk e
 have hch:∀ y∈p,z9z y=z9z e->y=e:=fun y hy hr=>by
  have h1:=(List.pairwise_append.1 so.st).2.2 y hy e (by simp)
  exact absurd hr (rCmp_to.lt_ne h1)
 have hle:a.fEdges.length<=100:=by have:=hf.1;omega
 obtain ⟨qp,p1,p2⟩:=p_begin a hw p (by omega)
 rw [both p (by omega)] at p1
 obtain rfl:=Option.some.inj p1
 obtain ⟨mp,hmp,hbp⟩:∃ mp,HM p mp/\zb9 N0 a p=some (some ⟨a,mp⟩,0):=by
  rcases p2 with ⟨h,_⟩|⟨_,_,_,_,_,mp,h1,h2⟩
  ·exact absurd pz h
  ·exact ⟨mp,h1,h2⟩
 obtain ⟨ql,l1,l2⟩:=p_begin a hw (p++[e]) (by omega)
 rw [both (p++[e]) (by omega)] at l1
 obtain rfl:=Option.some.inj l1
 obtain ⟨ml,hml,hbl⟩:∃ mp,HM (p++[e]) mp/\zb9 N0 a (p++[e])=some (some ⟨a,mp⟩,0):=by
  rcases l2 with ⟨h,_⟩|⟨_,_,_,_,_,mp,h1,h2⟩
  ·exact absurd hz h
  ·exact ⟨mp,h1,h2⟩
 have hgeM:=puts_ge (maN a (p++[e]) x e) m i3 (zga z90 _)
 have oM:=maN_ok hxp (by omega) v6 e
 have adv:zh2 N0 a p x e=some (cfN a (p++[e]) x e,maN a (p++[e]) x e,0):=by
  unfold zh2 bndP
  rw [hbp]
  simp only [z0w,z0o,List.length_map]
  rw [if_pos trivial,if_neg (by omega)]
  have l2:=fun K=>p_adv_l2 (r:=⟨a,mp⟩) e x (by omega) (fun c hc=>p_rcheck (r:=⟨a,mp⟩) hmp (by omega) (v6 c hc) (i1 c hc)) K N0 0 (Nat.zero_le _) (by unfold N0;omega)
  refine (l2 _).trans ?_
  have hfit:=p_fits (r:=[]) hpe x (by omega) (fun c hc=>by have:=(v6 c hc).lb;omega) i1
  have had:=p_advance (r:=⟨a,mp⟩) hxp hmp (by omega:p.length<=1000) hch hle x v6 (by omega)
  rw [hfit,z09,if_pos rfl]
  have eta:(⟨⟨a.fVars,a.fScopes,a.fStates,a.fEdges⟩,mp⟩:z0i)=⟨a,mp⟩:=rfl
  simp only [eta,had,z09,z2s,z1r,za1,z80,z0o,eC,eM]
  rw [if_neg (by omega),if_neg (by omega)]
 unfold z0x
 have wl:IntKind.wrap .i64 ((((p++[e]).length:Nat):Int)-1)=((p.length:Nat):Int):=by rw [wrapP _ (by omega) (by omega)];omega
 have hsl:∀ (K:List Ev->Option Bool),sls (p++[e]) 0 ((p.length:Nat):Int) K=K p:=fun K=>by
  have:=zwl (l:=p++[e]) (a:=0) (b:=p.length) (Nat.zero_le _) (by omega) K
  simp only [Int.natCast_zero,List.drop_zero] at this
  rw [this,List.take_left]
 have hix:∀ (K:Ev->Option Bool),idx (p++[e]) ((p.length:Nat):Int) K=K e:=fun K=>by
  rw [z0s (by omega)]
  simp
 simp only [z8k,List.length_map,wl,hsl,hix,v2,adv,u2,z09,z2s,z1r]
 have okz:∀ c∈cfN a (p++[e]) x e,cfOk c=true:=fun c hc=>(u6 c hc).sz.ok (by omega)
 have okx:∀ c∈x,cfOk c=true:=fun c hc=>(v6 c hc).sz.ok (by omega)
 rw [p_sameC N0 (by decide) _ _ okz okz (by omega),z09]
 simp only [decide_true,Bool.not_true,z8k]
 unfold z1b
 rw [z8k]
 have ci0:∀ c∈cfN a (p++[e]) x e,CI a [] c:=cfN_ci ha (by simp [Str]) hpe i1
 have l1:=fun K=>p_cont_l1 (r:=⟨a,ml⟩) hbl (x,m,0) (cfN a (p++[e]) x e,maN a (p++[e]) x e,0) (cfN a (p++[e]) x e,puts z4o m (maN a (p++[e]) x e),0) (by show (cfN a (p++[e]) x e).length<=150;omega) (zga zdo _) okz (fun c hc=>p_rcheck (r:=⟨a,ml⟩) hml (by omega) (u6 c hc) (ci0 c hc)) K N0 0 (Nat.zero_le _) (by show (cfN a (p++[e]) x e).length<N0+0;unfold N0;omega)
 refine (l1 _).trans ?_
 unfold zd7
 have hxx:setL za0 (x++x)=x:=(setL_eq zdo (fun z=>by simp)).trans (setL_of_str zdo i2)
 have hmo:setL z4o (m++maN a (p++[e]) x e)=puts z4o m (maN a (p++[e]) x e):=by
  rw [<-setL_putsS z90,setL_of_str z90 i3]
 simp only []
 rw [if_pos (by omega),zih,zau (by omega) (by omega),p_sort N0 (by decide) (x++x) (fun c hc=>by
  rcases List.mem_append.1 hc with h|h
  ·exact okx c h
  ·exact okx c h) (by rw [List.length_append];omega),z09,hxx]
 rw [if_neg (by omega)]
 simp only [z2s,z1r,z0o,if_true,z1a,p_sameC N0 (by decide) x x okx okx (by omega),z09,decide_true,z80]
 rw [if_pos (by omega),zih,zau (by omega) (by omega),p_rsortedM _ (fun d hd=>by
  rcases List.mem_append.1 hd with h|h
  ·exact v7 d h
  ·rw [<-eM] at h;exact oM d h) (by rw [List.length_append];omega),z09,hmo,p_sameM N0 (by decide) _ _ u7 u7 (by omega),z09]
 simp only [decide_true,z80,hawk,z09]
end Go.Proofs.YtjpknpjjcddnnaaGreat
namespace Go.Proofs.YtjpknpjjcddnnaaGreat
open Go.RowKit
def zr2 (rF_tidegateref08_Count:z0k->Int->Option (Int))(a1:Int)(a0:z0k)(v1_0:Int×Int)(k1_0_0:Int->Option (Int))(cv1_0:(Int×Int)->Option (Int))(w3_1:Bool):AS:=⟨[(1,aI (a1)),(2,.ptr 2 0),(5,aI (v1_0.1)),(6,aI (v1_0.2)),(16,.bool (w3_1))],[(2,.box 47 [aI (a0.fOp),.sl 8 (a0.fArgs.map idA),aI (a0.fVar),aI (a0.fField),aI (a0.fKind),aI (a0.fValue.fKind),aI (a0.fValue.fNum),.str (a0.fValue.fText)])]⟩
theorem zpj {n rF_tidegateref08_Count a1 a0 v1_0 k1_0_0 cv1_0}:z3v E0 29 (z44 n rF_tidegateref08_Count a1 a0 v1_0 k1_0_0 cv1_0) (zr2 rF_tidegateref08_Count a1 a0 v1_0 k1_0_0 cv1_0):=AW.jT
def zr1 (rF_tidegateref08_Count:z0k->Int->Option (Int))(a1:Int)(a0:z0k)(v1_0:Int×Int):AS:=⟨[(1,aI (a1)),(2,.ptr 2 0),(5,aI (v1_0.1)),(6,aI (v1_0.2))],[(2,.box 47 [aI (a0.fOp),.sl 8 (a0.fArgs.map idA),aI (a0.fVar),aI (a0.fField),aI (a0.fKind),aI (a0.fValue.fKind),aI (a0.fValue.fNum),.str (a0.fValue.fText)])]⟩
theorem zpi {n rF_tidegateref08_Count a1 a0 k1_0_0}:z27 E0 29 (z2p n rF_tidegateref08_Count a1 a0 k1_0_0) (zr1 rF_tidegateref08_Count a1 a0):=LoopA.oT fun _=>rfl
def zbt (r:Int):AV:=aI (r)
theorem zgg {n a0 a1 r}(hF:z33 n a0 a1=some r):Con E0 true 97 [.agg [aI (a0.fOp),.sl 8 (a0.fArgs.map idA),aI (a0.fVar),aI (a0.fField),aI (a0.fKind),aI (a0.fValue.fKind),aI (a0.fValue.fNum),.str (a0.fValue.fText)],aI (a1)] (zbt r):=by
 induction n generalizing a0 a1 r
 case zero=>cases hF
 case succ n ih =>
 unfold z33 at hF
 refine Con.walk _ Tryz.func97 rfl (z08 Tryz.func97 rfl rfl) rfl (Or.inr rfl) ?_
 repeat' first
  |refine zpj hF (fun hF=>?_) (fun v hF=>?_);rotate_left;unfold z44 at hF
  |refine AW.regO hF (fun hF=>?_)
  |refine AW.stepU [3] ?_;conv=>whnf
  |refine z0v.o hF (fun hF=>?_) (fun hF=>?_)
  |refine IdxX.oD hF z6u (fun x hF=>?_)
  |refine z0m.o hF zbt (fun a h=>ih h) (fun a hF=>?_)
  |exact ⟨_,hF,LeX.a []⟩
  |exact ⟨_,hF,LeX.a []⟩
  |refine zpi hF (LeX.a []) (fun m v hF=>?_);unfold z2p at hF
  |exact RetX.oA hF
def zr0 (rF_tidegateref08_Depth:z0k->Option (Int))(a0:z0k)(v1_0:Int×Int):AS:=⟨[(1,.ptr 1 0),(3,aI (v1_0.1)),(4,aI (v1_0.2))],[(1,.box 47 [aI (a0.fOp),.sl 8 (a0.fArgs.map idA),aI (a0.fVar),aI (a0.fField),aI (a0.fKind),aI (a0.fValue.fKind),aI (a0.fValue.fNum),.str (a0.fValue.fText)])]⟩
theorem zph {n rF_tidegateref08_Depth a0 k1_0_0}:z27 E0 22 (z6b n rF_tidegateref08_Depth a0 k1_0_0) (zr0 rF_tidegateref08_Depth a0):=LoopA.oT fun _=>rfl
def zbs (r:Int):AV:=aI (r)
theorem zgf {n a0 r}(hF:z32 n a0=some r):Con E0 true 98 [.agg [aI (a0.fOp),.sl 8 (a0.fArgs.map idA),aI (a0.fVar),aI (a0.fField),aI (a0.fKind),aI (a0.fValue.fKind),aI (a0.fValue.fNum),.str (a0.fValue.fText)]] (zbs r):=by
 induction n generalizing a0 r
 case zero=>cases hF
 case succ n ih =>
 unfold z32 at hF
 refine Con.walk _ Tryz.func98 rfl (z08 Tryz.func98 rfl rfl) rfl (Or.inr rfl) ?_
 repeat' first
  |refine AW.step ?_;conv=>whnf
  |refine z0v.o hF (fun hF=>?_) (fun hF=>?_)
  |refine IdxX.oD hF z6u (fun x hF=>?_)
  |refine z0m.o hF zbs (fun a h=>ih h) (fun a hF=>?_)
  |exact ⟨_,hF,LeX.a []⟩
  |refine zph hF (LeX.a []) (fun m v hF=>?_);unfold z6b at hF
  |exact RetX.oA hF
def zqv (w2_1:Bool):AS:=⟨[(12,.bool (w2_1))],[]⟩
theorem zpc {n}:zjn E0 20 (z1c n) zqv:=AW.jT2
def zqw (a0:Int)(w1_0:Bool):AS:=⟨[(3,aI (a0)),(4,.bool (w1_0))],[]⟩
theorem zpd {n a0}:zjn E0 20 (z1o n a0) (zqw a0):=AW.jT2
def zir (r:Int):AV:=aI (r)
theorem zsx {n a0 r}(hF:z9q n a0=some r):Con E0 true 186 [aI (a0)] (zir r):=by
 unfold z9q at hF
 refine Con.walk _ Tryz.func186 rfl (z08 Tryz.func186 rfl rfl) rfl (Or.inr rfl) ?_
 repeat' first
  |refine zpc hF (fun hF=>?_) (fun v hF=>?_);rotate_left;unfold z1c at hF
  |refine zpd hF (fun hF=>?_) (fun v hF=>?_);rotate_left;unfold z1o at hF
  |refine AW.regO hF (fun hF=>?_)
  |refine AW.stepU [2,3,4,5,10,11,12,13,14,15] ?_;conv=>whnf
  |refine z0v.o hF (fun hF=>?_) (fun hF=>?_)
  |exact ⟨_,hF,LeX.a []⟩
  |exact ⟨_,hF,LeX.a []⟩
  |exact RetX.oA hF
def ztm (w1_0:Bool)(w2_1:Bool):AS:=⟨[(2,.bool (w2_1)),(3,.bool (w1_0))],[]⟩
theorem zs2 {n w1_0}:z3v E0 21 (z30 n w1_0) (ztm w1_0):=AW.jT
def ztn (a0:Int)(w1_0:Bool):AS:=⟨[(0,aI (a0)),(4,.bool (w1_0))],[]⟩
theorem zs3 {n a0}:z3v E0 21 (z4t n a0) (ztn a0):=AW.jT
def zje (r:Bool×Bool):AV:=.tup [.bool (r.1),.bool (r.2)]
theorem zvc {n a0 r}(hF:za7 n a0=some r):Con E0 true 187 [aI (a0)] (zje r):=by
 unfold za7 at hF
 refine Con.walk _ Tryz.func187 rfl (z08 Tryz.func187 rfl rfl) rfl (Or.inr rfl) ?_
 repeat' first
  |refine zs2 hF (fun hF=>?_) (fun v hF=>?_);rotate_left;unfold z30 at hF
  |refine zs3 hF (fun hF=>?_) (fun v hF=>?_);rotate_left;unfold z4t at hF
  |refine AW.regO hF (fun hF=>?_)
  |refine AW.stepU [1,2] ?_;conv=>whnf
  |refine z0v.o hF (fun hF=>?_) (fun hF=>?_)
  |refine z0v.t ?_
  |exact ⟨_,hF,LeX.a []⟩
  |exact RetX.oA hF
def z9l (r:Int):AV:=aI (r)
theorem zac {n a0 r}(hF:z35 n a0=some r):Con E0 true 188 [.agg [aI (a0.fKind),aI (a0.fNum),.str (a0.fText)]] (z9l r):=by
 unfold z35 at hF
 refine Con.walk _ Tryz.func188 rfl (z08 Tryz.func188 rfl rfl) rfl (Or.inr rfl) ?_
 repeat' first
  |refine AW.step ?_;conv=>whnf
  |refine z0v.o hF (fun hF=>?_) (fun hF=>?_)
  |refine z0v.t ?_
  |refine z0v.f ?_
  |exact RetX.oA hF
def zr3 (w1_0:Bool):AS:=⟨[(4,.bool (w1_0))],[]⟩
theorem zpk {n}:z3v E0 20 (z1x n) zr3:=AW.jT
def zbv (r:Bool):AV:=.bool (r)
theorem zdl {n a0 a1 r}(hF:z6n n a0 a1=some r):Con E0 true 189 [aI (a0),.agg [aI (a1.fKind),aI (a1.fNum),.str (a1.fText)]] (zbv r):=by
 unfold z6n at hF
 refine Con.walk _ Tryz.func189 rfl (z08 Tryz.func189 rfl rfl) rfl (Or.inr rfl) ?_
 repeat' first
  |refine zpk hF (fun hF=>?_) (fun v hF=>?_);rotate_left;unfold z1x at hF
  |refine AW.regO hF (fun hF=>?_)
  |refine AW.stepU [1] ?_;conv=>whnf
  |refine z0v.o hF (fun hF=>?_) (fun hF=>?_)
  |refine z0v.t ?_
  |exact ⟨_,hF,LeX.a []⟩
  |exact RetX.oA hF
def ztp (w6_5:Bool):AS:=⟨[(130,.bool (w6_5))],[]⟩
theorem zs5 {n}:z3v E0 131 (z0n n) ztp:=AW.jT
def ztq (a0:z0k)(x2:Bool×Bool)(w3_2:Bool)(w5_4:Bool):AS:=⟨[(1,.ptr 1 0),(4,.bool (x2.1)),(5,.bool (x2.2)),(6,.bool (decide (a0.fOp=4))),(7,.bool (w3_2)),(95,.bool (w5_4))],[(1,.box 47 [aI (a0.fOp),.sl 8 (a0.fArgs.map idA),aI (a0.fVar),aI (a0.fField),aI (a0.fKind),aI (a0.fValue.fKind),aI (a0.fValue.fNum),.str (a0.fValue.fText)])]⟩
theorem zs6 {n a0 x2 w3_2}:z3v E0 131 (z2a n a0 x2 w3_2) (ztq a0 x2 w3_2):=AW.jT
def ztr (a0:z0k)(x2:Bool×Bool)(w3_2:Bool)(_:Unit):AS:=⟨[(1,.ptr 1 0),(4,.bool (x2.1)),(5,.bool (x2.2)),(6,.bool (decide (a0.fOp=4))),(7,.bool (w3_2))],[(1,.box 47 [aI (a0.fOp),.sl 8 (a0.fArgs.map idA),aI (a0.fVar),aI (a0.fField),aI (a0.fKind),aI (a0.fValue.fKind),aI (a0.fValue.fNum),.str (a0.fValue.fText)])]⟩
theorem zs7 {n a0 x2 w3_2}:zjn E0 131 (z4u n a0 x2 w3_2) (ztr a0 x2 w3_2):=AW.jT2
def zts (a0:z0k)(x2:Bool×Bool)(w3_2:Bool):AS:=⟨[(1,.ptr 1 0),(4,.bool (x2.1)),(5,.bool (x2.2)),(6,.bool (decide (a0.fOp=4))),(7,.bool (w3_2))],[(1,.box 47 [aI (a0.fOp),.sl 8 (a0.fArgs.map idA),aI (a0.fVar),aI (a0.fField),aI (a0.fKind),aI (a0.fValue.fKind),aI (a0.fValue.fNum),.str (a0.fValue.fText)])]⟩
theorem zs8 {n a0 x2}:z3v E0 131 (z4v n a0 x2) (zts a0 x2):=AW.jT
def ztt (a0:z0k)(x2:Bool×Bool)(w2_1:Bool):AS:=⟨[(1,.ptr 1 0),(4,.bool (x2.1)),(5,.bool (x2.2)),(6,.bool (decide (a0.fOp=4))),(62,.bool (w2_1))],[(1,.box 47 [aI (a0.fOp),.sl 8 (a0.fArgs.map idA),aI (a0.fVar),aI (a0.fField),aI (a0.fKind),aI (a0.fValue.fKind),aI (a0.fValue.fNum),.str (a0.fValue.fText)])]⟩
theorem zs9 {n a0 x2}:z3v E0 131 (z31 n a0 x2) (ztt a0 x2):=AW.jT
def ztu (a0:z0k)(x2:Bool×Bool)(w1_0:Bool):AS:=⟨[(1,.ptr 1 0),(4,.bool (x2.1)),(5,.bool (x2.2)),(48,.bool (w1_0))],[(1,.box 47 [aI (a0.fOp),.sl 8 (a0.fArgs.map idA),aI (a0.fVar),aI (a0.fField),aI (a0.fKind),aI (a0.fValue.fKind),aI (a0.fValue.fNum),.str (a0.fValue.fText)])]⟩
theorem zsa {n a0 x2}:z3v E0 131 (z18 n a0 x2) (ztu a0 x2):=AW.jT
def zjg (r:Int):AV:=aI (r)
theorem zve {n a0 r}(hF:za9 n a0=some r):Con E0 true 151 [.agg [aI (a0.fOp),.sl 8 (a0.fArgs.map idA),aI (a0.fVar),aI (a0.fField),aI (a0.fKind),aI (a0.fValue.fKind),aI (a0.fValue.fNum),.str (a0.fValue.fText)]] (zjg r):=by
 unfold za9 at hF
 refine Con.walk _ Tryz.func151 rfl (z08 Tryz.func151 rfl rfl) rfl (Or.inr rfl) ?_
 repeat' first
  |refine zs5 hF (fun hF=>?_) (fun v hF=>?_);rotate_left;unfold z0n at hF
  |refine zs6 hF (fun hF=>?_) (fun v hF=>?_);rotate_left;unfold z2a at hF
  |refine zs7 hF (fun hF=>?_) (fun v hF=>?_);rotate_left;unfold z4u at hF
  |refine zs8 hF (fun hF=>?_) (fun v hF=>?_);rotate_left;unfold z4v at hF
  |refine zs9 hF (fun hF=>?_) (fun v hF=>?_);rotate_left;unfold z31 at hF
  |refine zsa hF (fun hF=>?_) (fun v hF=>?_);rotate_left;unfold z18 at hF
  |refine AW.regO hF (fun hF=>?_)
  |refine AW.stepU [7,10,12,13,17,19] ?_;conv=>whnf
  |refine z0v.o hF (fun hF=>?_) (fun hF=>?_)
  |refine z0v.t ?_
  |refine z0v.f ?_
  |refine z0m.o hF zir (fun a h=>zsx h) (fun a hF=>?_)
  |refine z0m.o hF zje (fun a h=>zvc h) (fun a hF=>?_)
  |exact ⟨_,hF,LeX.a []⟩
  |refine z0m.o hF zbv (fun a h=>zdl h) (fun a hF=>?_)
  |exact ⟨_,hF,LeX.a []⟩
  |refine z0m.o hF z9l (fun a h=>zac h) (fun a hF=>?_)
  |exact ⟨(),hF,LeX.a []⟩
  |exact ⟨_,hF,LeX.a []⟩
  |exact ⟨_,hF,LeX.a []⟩
  |refine EqX.mk (by first|rfl|kernel_rfl) ?_
  |exact RetX.oA hF
def zqu (rF_tidegateref08_nodes:z0k->Option (Int))(a0:z0k)(v1_0:Int):AS:=⟨[(1,.ptr 1 0),(4,aI (v1_0))],[(1,.box 47 [aI (a0.fOp),.sl 8 (a0.fArgs.map idA),aI (a0.fVar),aI (a0.fField),aI (a0.fKind),aI (a0.fValue.fKind),aI (a0.fValue.fNum),.str (a0.fValue.fText)])]⟩
theorem zpb {n rF_tidegateref08_nodes a0 k1_0_0}:z27 E0 27 (z6a n rF_tidegateref08_nodes a0 k1_0_0) (zqu rF_tidegateref08_nodes a0):=LoopA.oT fun _=>rfl
def zef (r:Int):AV:=aI (r)
theorem zsw {n a0 r}(hF:z4c n a0=some r):Con E0 true 113 [.agg [aI (a0.fOp),.sl 8 (a0.fArgs.map idA),aI (a0.fVar),aI (a0.fField),aI (a0.fKind),aI (a0.fValue.fKind),aI (a0.fValue.fNum),.str (a0.fValue.fText)]] (zef r):=by
 induction n generalizing a0 r
 case zero=>cases hF
 case succ n ih =>
 unfold z4c at hF
 refine Con.walk _ Tryz.func113 rfl (z08 Tryz.func113 rfl rfl) rfl (Or.inr rfl) ?_
 repeat' first
  |refine AW.step ?_;conv=>whnf
  |refine z0v.o hF (fun hF=>?_) (fun hF=>?_)
  |refine z0m.o hF zjg (fun a h=>zve h) (fun a hF=>?_)
  |refine IdxX.oD hF z6u (fun x hF=>?_)
  |refine z0m.o hF zef (fun a h=>ih h) (fun a hF=>?_)
  |exact ⟨_,hF,LeX.a []⟩
  |refine zpb hF (LeX.a []) (fun m v hF=>?_);unfold z6a at hF
  |exact RetX.oA hF
def zbu (r:Int):AV:=aI (r)
end Go.Proofs.YtjpknpjjcddnnaaGreat
