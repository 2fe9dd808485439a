/- Layer 25, plainly: running; RunRuns. What some functions compute, over plain values. Printed by a program of mine (gen_fun.lean). -/
import Derived.Test.YtjpknpjjcddnnaaGreatK26
import Derived.Test.YtjpknpjjcddnnaaGreatK18
set_option linter.unusedVariables false
set_option linter.unusedSimpArgs false
set_option maxRecDepth 100000
set_option maxHeartbeats 8000000
namespace Go.Proofs.YtjpknpjjcddnnaaGreat
open Go.RowKit
theorem p_begin_l1 (l:List Ev)(hl:l.length<=1000000)(a:Aut)(K:List (Rf×Ev)->Option (Option z0q×Int)):∀ (m k:Nat) (mp:List (Rf×Ev)),k<=l.length->l.length<m+k->zd4 N0 l a K m ((k:Int),mp)=K ((l.drop k).foldl (fun m e=>mput m (zbv e) e) mp)
 |0,k,mp,h1,h2=>by omega
 |m+1,k,mp,h1,h2=>by
  unfold zd4
  simp only [List.length_map,z0n]
  by_cases h:k<l.length
  ·have hr:zpv N0 l[k]=some (zbv l[k]):=rfl
   rw [if_pos (by omega),z0s h,hr,z09,mst_eq,z0g _ k h,List.foldl_cons,z2x k (by omega)]
   exact p_begin_l1 l hl a K m (k+1) _ (by omega) (by omega)
  ·rw [if_neg (by omega),List.drop_eq_nil_of_le (by omega)]
   rfl
theorem p_begin (a:Aut)(hw:WfA a)(l:List Ev)(hl:l.length<=1000000):∃ q:Int,z3j N0 a l=some q/\((q≠0/\zgr N0 a l=some (none,q))\/(q=0/\AOk a/\StrOk l/\z7j N0 a=some 0/\zyt l=0/\∃ mp,HM l mp/\zgr N0 a l=some (some ⟨a,mp⟩,0))):=by
 obtain ⟨r,r1,r2,r3⟩:=p_acheck N0 (by decide) a hw
 unfold z3j zgr
 rw [r1,r2,z09,z09,z0x,z0n,z0x,z0n]
 by_cases h:r=0
 rotate_left
 ·rw [if_neg h,if_neg h]
  exact ⟨r,rfl,Or.inl ⟨h,rfl⟩⟩
 rw [if_pos h,if_pos h,p_rchk N0 l (by unfold N0;omega) hl,p_chk N0 l (by unfold N0;omega) (by decide) hl,z09,z09,z0x,z0n]
 refine ⟨zyt l,rfl,?_⟩
 by_cases hs:zyt l=0
 rotate_left
 ·rw [if_neg hs]
  exact Or.inl ⟨hs,rfl⟩
 rw [if_pos hs]
 have hso:=strChk_zero hs
 refine Or.inr ⟨hs,r3 h,hso,by rw [h] ,hs,l.foldl (fun m e=>mput m (zbv e) e) [],fun r=>?_,?_⟩
 ·rw [hm_fold r l [] hso.st]
  simp [mlk]
 ·refine (p_begin_l1 l hl a _ N0 0 [] (Nat.zero_le _) (by unfold N0;omega)).trans ?_
  rw [List.drop_zero]
theorem coP_cb {a:Aut}{held:List Ev}(hx:CxA a held)(hst:Str zt4 held){c:Cf}{k:Nat}(hc:CB held a k c){x:Ed}(hxe:x∈a.fEdges){e:Ev}(he:e∈held){d:Cf}(h:coP a held c x e=some d)(h0:0<=d.fState):CB held a (k+1) d:=by
 have hz:=coP_sz hx hc hxe h
 have hd:=coP_some h
 have eo:=hx.ok.ed x hxe
 refine ⟨?_,?_,?_,hz.1,hz.2⟩
 ·rw [hd] at h0 ⊢
  exact ⟨h0,eo.tgt.2⟩
 ·rw [hd]
  intro b hb
  rcases List.mem_append.1 hb with hb|hb
  ·exact hc.bd b hb
  ·rw [List.mem_singleton.1 hb]
   refine ⟨eo.var,?_⟩
   rw [lkH_mem hst he]
   rfl
 ·rw [hd]
  exact (opL_ss e.fTime x.fOpens hc.ss).filter _
theorem CB.up {held:List Ev}{a:Aut}{k:Nat}{c:Cf}(h:CB held a k c):CB held a (k+1) c:=⟨h.st,h.bd,h.ss,by have:=h.lb;omega,by have:=h.ls;omega⟩
theorem outP_cb {a:Aut}{held:List Ev}(hx:CxA a held)(hst:Str zt4 held){c:Cf}{k:Nat}(hc:CB held a k c){e:Ev}(he:e∈held){d:Cf}(h:d∈outP a held c e)(h0:0<=d.fState):CB held a (k+1) d:=by
 unfold outP at h
 rcases List.mem_append.1 h with h|h
 ·split at h
  ·rw [List.mem_singleton.1 h]
   exact hc.up
  ·simp at h
 ·obtain ⟨x,hx',hd⟩:=List.mem_filterMap.1 h
  exact coP_cb hx hst hc (fromL_mem hx').1 he hd h0
theorem cfN_mem {a:Aut}{held:List Ev}{l:List Cf}{e:Ev}{d:Cf}(h:d∈cfN a held l e):∃ c∈l,d∈outP a held c e/\0<=d.fState:=by
 unfold cfN at h
 obtain ⟨c,h1,h2⟩:=List.mem_flatMap.1 ((zia zfi _ _).1 h)
 exact ⟨c,h1,cfO_mem h2⟩
theorem cfN_cb {a:Aut}{held:List Ev}(hx:CxA a held)(hst:Str zt4 held){l:List Cf}{k:Nat}(hc:∀ c∈l,CB held a k c){e:Ev}(he:e∈held):∀ d∈cfN a held l e,CB held a (k+1) d:=fun d hd=>by
 obtain ⟨c,h1,h2,h3⟩:=cfN_mem hd
 exact outP_cb hx hst (hc c h1) he h2 h3
theorem maN_ok {a:Aut}{held:List Ev}(hx:CxA a held){l:List Cf}{k:Nat}(hk:k<=1000)(hc:∀ c∈l,CB held a k c)(e:Ev):∀ d∈maN a held l e,maOk d=true:=fun d hd=>by
 unfold maN at hd
 obtain ⟨c,h1,h2⟩:=List.mem_flatMap.1 ((zia zaq _ _).1 hd)
 exact maO_ok hx hk (hc c h1) e d h2
theorem maN_len {a:Aut}{held:List Ev}(hle:a.fEdges.length<=100)(l:List Cf)(e:Ev):(maN a held l e).length<=101*l.length:=by
 unfold maN
 have f2:=flat_len (fun c=>maO (outP a held c e)) 101 l (fun c _=>by have:=zy6 (outP a held c e);have:(outP a held c e).length<=a.fEdges.length+1:=zz0;omega)
 have:=setL_len (c:=z6d) (l.flatMap (fun c=>maO (outP a held c e)))
 omega
theorem puts_ge (l s:List Ma)(hs:Str z6d s)(hl:Str z6d l):l.length<=(puts z6d s l).length:=by
 have:puts z6d s l=puts z6d l s:=Str.uniq zaq (puts_str zaq _ _ hs) (puts_str zaq _ _ hl) (fun x=>by rw [zwo zaq,zwo zaq,Or.comm])
 rw [this]
 exact puts_len2 s l
def wiP (most:Nat)(a:Aut)(held:List Ev):List Ev->List Cf->List Ma->List Cf×List Ma×Bool
 |[],cs,ms=>(cs,ms,true)
 |e::r,cs,ms=>if most<(cfN a held cs e).length\/most<(puts z6d ms (maN a held cs e)).length then ([],[],false) else wiP most a held r (cfN a held cs e) (puts z6d ms (maN a held cs e))
theorem p_rwithin_l1 {a:Aut}{l:List Ev}(hx:CxA a l)(hst:Str zt4 l)(hle:a.fEdges.length<=100)(most:Nat)(hm:most<=4096)(hm1:1<=most)(hl:l.length<=900) :
  ∀ (m k:Nat) (cs:List Cf) (ms:List Ma),k<=l.length->l.length<m+k->cs.length<=most->ms.length<=most->(∀ c∈cs,CB l a k c)->(∀ d∈ms,maOk d=true)->z27 N0 (most:Int) l a (fun y0 y1=>some (y0,y1,true)) m (cs,ms,(k:Int))=some (wiP most a l (l.drop k) cs ms)
 |0,k,cs,ms,h1,h2,h3,h4,h5,h6=>by omega
 |m+1,k,cs,ms,h1,h2,h3,h4,h5,h6=>by
  unfold z27
  simp only [List.length_map,z0n]
  by_cases h:k<l.length
  ·have he:=List.getElem_mem h
   have z:=maN_len (held:=l) hle cs l[k]
   have o:=maN_ok hx (by omega) h5 l[k]
   rw [if_pos (by omega),z0s h,p_all hx hle (by omega) l[k] cs h5 (by omega),z09,z0g _ k h]
   have l2:=fun K=>p_with_l2 (most:Int) l a (cs,ms,(k:Int)) (cfN a l cs l[k],maN a l cs l[k]) o (by show (maN a l cs l[k]).length<=1000000;omega) K N0 0 ms (Nat.zero_le _) (by show (maN a l cs l[k]).length<2000000000+0;omega) (by show ms.length+((maN a l cs l[k]).length-0)<=1000000;omega) h6
   refine (l2 _).trans ?_
   rw [List.drop_zero]
   simp only [z3y,z24,z31,z0n,z8t]
   have ih:=p_rwithin_l1 hx hst hle most hm hm1 hl m (k+1) (cfN a l cs l[k]) (puts z6d ms (maN a l cs l[k])) (by omega) (by omega)
   unfold wiP
   by_cases q1:most<(cfN a l cs l[k]).length
   ·rw [if_pos (by omega),if_pos (Or.inl q1)]
   rw [if_neg (by omega)]
   by_cases q2:most<(puts z6d ms (maN a l cs l[k])).length
   ·rw [if_pos (by omega),if_pos (Or.inr q2)]
   rw [if_neg (by omega),if_neg (by omega),z2x k (by omega)]
   exact ih (by omega) (by omega) (cfN_cb hx hst h5 he) (puts_okM h6 o)
  ·rw [if_neg (by omega),List.drop_eq_nil_of_le (by omega)]
   rfl
theorem cb0 {a:Aut}{l:List Ev}(ha:AOk a):CB l a 0 cf0:=⟨⟨by simp,by have:=ha.st;simp;omega⟩,fun b hb=>by simp at hb,by simp [SS],by simp,by simp⟩
theorem p_rwithin {a:Aut}{l:List Ev}(hx:CxA a l)(hst:Str zt4 l)(hle:a.fEdges.length<=100)(most:Nat)(hm:most<=4096)(hm1:1<=most)(hl:l.length<=900):z6u N0 a l (most:Int)=some (wiP most a l l [cf0] []):=by
 unfold z6u
 have hb:zb6 N0=some cf0:=rfl
 rw [hb,z09]
 exact p_rwithin_l1 hx hst hle most hm hm1 hl N0 0 [cf0] [] (Nat.zero_le _) (by unfold N0;omega) (by simp;omega) (by simp) (fun c hc=>by rw [List.mem_singleton.1 hc];exact cb0 hx.ok) (by simp)
theorem wi_up (a:Aut)(held:List Ev):∀ (l:List Ev) (cs:List Cf) (ms:List Ma),(wiP 150 a held l cs ms).2.2=true->wiP 4096 a held l cs ms=wiP 150 a held l cs ms
 |[],cs,ms,_=>rfl
 |e::r,cs,ms,h=>by
  unfold wiP at h ⊢
  by_cases q:150<(cfN a held cs e).length\/150<(puts z6d ms (maN a held cs e)).length
  ·rw [if_pos q] at h;cases h
  ·rw [if_neg q] at h ⊢
   rw [if_neg (by omega)]
   exact wi_up a held r _ _ h
theorem p_run_l2 {r:z0q}{l:List Ev}(hx:CxA r.fa l)(hm:HM l r.fheld)(hst:Str zt4 l)(hle:r.fa.fEdges.length<=100)(hl:l.length<=20)(K:List Cf->List Ma->Option (List Cf×List Ma×Int)) :
  ∀ (m k:Nat) (cs:List Cf) (all:List Ma),k<=l.length->l.length<m+k->cs.length<=150->all.length<=150*k->(∀ c∈cs,CB l r.fa k c)->(∀ d∈all,maOk d=true)->(wiP 150 r.fa l (l.drop k) cs (setL z6d all)).2.2=true ->
   ∃ cs' all',zba N0 l r K m (cs,(k:Int),all)=K cs' all'/\wiP 150 r.fa l (l.drop k) cs (setL z6d all)=(cs',setL z6d all',true)/\(∀ d∈all',maOk d=true)/\all'.length<=4096/\cs'.length<=150/\(setL z6d all').length<=max 150 (setL z6d all).length/\(∀ c∈cs',CB l r.fa l.length c)
 |0,k,cs,all,h1,h2,h3,h4,h5,h6,h7=>by omega
 |m+1,k,cs,all,h1,h2,h3,h4,h5,h6,h7=>by
  unfold zba
  simp only [List.length_map,z0n]
  by_cases h:k<l.length
  ·have he:=List.getElem_mem h
   have hch:∀ y∈l,zbv y=zbv l[k]->y=l[k]:=fun y hy hr=>by
    have e1:=lkH_mem hst hy
    have e2:=lkH_mem hst he
    rw [hr,e2] at e1
    exact (Option.some.inj e1).symm
   rw [z0g _ k h] at h7 ⊢
   unfold wiP at h7 ⊢
   have eM:puts z6d (setL z6d all) (maN r.fa l cs l[k])=setL z6d (all++maN r.fa l cs l[k]):=by unfold setL;rw [<-ziu]
   have hge:=puts_ge (maN r.fa l cs l[k]) (setL z6d all) (zyw zaq _) (zyw zaq _)
   by_cases q:150<(cfN r.fa l cs l[k]).length\/150<(puts z6d (setL z6d all) (maN r.fa l cs l[k])).length
   ·rw [if_pos q] at h7;cases h7
   rw [if_neg q] at h7 ⊢
   have o:=maN_ok hx (by omega) h5 l[k]
   rw [if_pos (by omega),z0s h,p_advance hx hm (by omega) hch hle cs h5 (by omega),z09]
   have hw:IntKind.wrap .i64 (((all.length:Nat):Int)+(((maN r.fa l cs l[k]).length:Nat):Int))=((all.length+(maN r.fa l cs l[k]).length:Nat):Int):=by rw [zci _ (by omega)];omega
   simp only [z3y,z24,zce,z8t,z0n]
   rw [if_neg (by omega),if_neg (by omega),hw,if_neg (by omega),zau (by omega) (by omega),z2x k (by omega)]
   rw [eM] at h7 ⊢
   obtain ⟨cs',all',a1,a2,a3,a4,a5,a6,a7⟩:=p_run_l2 hx hm hst hle hl K m (k+1) (cfN r.fa l cs l[k]) (all++maN r.fa l cs l[k]) (by omega) (by omega) (by omega) (by rw [List.length_append];omega) (cfN_cb hx hst h5 he) (fun d hd=>by
    rcases List.mem_append.1 hd with hd|hd
    ·exact h6 d hd
    ·exact o d hd) h7
   refine ⟨cs',all',a1,a2,a3,a4,a5,?_,a7⟩
   rw [eM] at q
   omega
  ·rw [if_neg (by omega)]
   have hk:k=l.length:=by omega
   rw [List.drop_eq_nil_of_le (by omega)]
   exact ⟨cs,all,rfl,rfl,h6,by omega,h3,by omega,by rw [<-hk];exact h5⟩
theorem p_run {a:Aut}{l:List Ev}(hw:WfA a)(hf:FewA a)(hl:l.length<=20)(hb:z3j N0 a l=some 0)(hsm:(wiP 150 a l l [cf0] []).2.2=true) :
  ∃ cs ms,wiP 150 a l l [cf0] []=(cs,ms,true)/\zfy N0 a l=some (cs,ms,0)/\z7c N0 a l=some (cs,ms,0)/\cs.length<=150/\ms.length<=150/\(∀ c∈cs,CB l a l.length c)/\(∀ d∈ms,maOk d=true):=by
 obtain ⟨q,q1,q2⟩:=p_begin a hw l (by omega)
 rw [hb] at q1
 have q0:q=0:=(Option.some.inj q1).symm
 rcases q2 with ⟨h,_⟩|⟨_,ha,hs,_,_,mp,hm,hbeg⟩
 ·exact absurd q0 h
 have hx:CxA a l:=⟨hw,ha,fun x hx=>by have:=hf.2 x hx;omega,by omega⟩
 have hle:a.fEdges.length<=100:=by have:=hf.1;omega
 have e0:setL z6d ([]:List Ma)=[]:=rfl
 obtain ⟨cs,all,a1,a2,a3,a4,a5,a6,a7⟩:=p_run_l2 (r:=⟨a,mp⟩) hx hm hs.st hle hl (fun y0 y1=>bndM 62 (z8n N0 y1) fun x47=>some (y0,x47,0)) N0 0 [cf0] [] (Nat.zero_le _) (by unfold N0;omega) (by simp) (by simp) (fun c hc=>by rw [List.mem_singleton.1 hc];exact cb0 ha) (by simp) (by rw [List.drop_zero,e0];exact hsm)
 rw [List.drop_zero,e0] at a2
 have hr:=p_rwithin hx hs.st hle 4096 (by omega) (by omega) (by omega)
 refine ⟨cs,setL z6d all,a2,?_,?_,a5,by rw [e0] at a6;simpa using a6,a7,setM_ok a3⟩
 ·unfold zfy bndP
  rw [hbeg]
  simp only [z0x,z0n]
  have hB:zk3 N0=some cf0:=rfl
  rw [if_pos trivial,hB,z09]
  refine a1.trans ?_
  rw [p_uniqM N0 (by decide) all a3 (by omega),zbx]
 ·unfold z7c
  rw [hb,z09,z0x,z0n,if_pos rfl]
  have h4:((4096:Nat):Int)=4096:=rfl
  rw [h4] at hr
  rw [hr,z09,wi_up a l l [cf0] [] hsm,a2]
  exact z8u _ _
theorem p_small (a:Aut)(hw:WfA a)(l:List Ev):∃ b:Bool,z8w N0 a l=some b/\(b=true->FewA a/\l.length<=12/\∃ q:Int,z3j N0 a l=some q/\(q=0->(wiP 150 a l l [cf0] []).2.2=true)):=by
 obtain ⟨b,b1,b2⟩:=p_few23 a hw
 unfold z8w
 simp only [z3y,z24,z3m]
 rw [b1,z09,p_few5 N0 l (by decide),z0x,z09]
 cases b with
 |false=>rw [z8u,z8t];exact ⟨false,rfl,fun h=>by cases h⟩
 |true =>
  rw [z8t]
  cases hfl:fewE l with
  |false=>simp only [Bool.not_false,z8t];exact ⟨false,rfl,fun h=>by cases h⟩
  |true =>
   simp only [Bool.not_true,z8u]
   obtain ⟨hl,_⟩:=fewE_out hfl
   obtain ⟨q,q1,q2⟩:=p_begin a hw l (by omega)
   rw [q1,z09,z0x,z0n]
   rcases q2 with ⟨h,_⟩|⟨h,ha,hs,_,_,_⟩
   ·rw [if_neg h]
    exact ⟨true,rfl,fun _=>⟨b2 rfl,hl,q,rfl,fun e=>absurd e h⟩⟩
   ·have hf:=b2 rfl
    have hx:CxA a l:=⟨hw,ha,fun x hx=>by have:=hf.2 x hx;omega,by omega⟩
    have hr:=p_rwithin hx hs.st (by have:=hf.1;omega) 150 (by omega) (by omega) (by omega)
    have h4:((150:Nat):Int)=150:=rfl
    rw [h4] at hr
    rw [if_pos h,hr,z09]
    exact ⟨_,rfl,fun hb=>⟨hf,hl,q,rfl,fun _=>hb⟩⟩
theorem p_run_any {a:Aut}{l:List Ev}(hw:WfA a)(hf:FewA a)(hl:l.length<=20){q:Int}(hb:z3j N0 a l=some q)(hsm:q=0->(wiP 150 a l l [cf0] []).2.2=true) :
  ∃ cs ms,zfy N0 a l=some (cs,ms,q)/\z7c N0 a l=some (cs,ms,q)/\cs.length<=150/\ms.length<=150/\(∀ c∈cs,cfOk c=true)/\(∀ d∈ms,maOk d=true):=by
 by_cases h:q=0
 ·subst h
  obtain ⟨cs,ms,_,a1,a2,a3,a4,a5,a6⟩:=p_run hw hf hl hb (hsm rfl)
  exact ⟨cs,ms,a1,a2,a3,a4,fun c hc=>(a5 c hc).sz.ok (by omega),a6⟩
 ·obtain ⟨p,p1,p2⟩:=p_begin a hw l (by omega)
  rw [hb] at p1
  obtain rfl:=Option.some.inj p1
  rcases p2 with ⟨_,hbeg⟩|⟨h',_⟩
  ·refine ⟨[],[],?_,?_,by simp,by simp,by simp,by simp⟩
   ·unfold zfy bndP
    rw [hbeg]
    simp only [z0x,z0n]
    rw [if_neg h]
   ·unfold z7c
    rw [hb,z09,z0x,z0n,if_neg h]
  ·exact absurd h' h
theorem law_runs (a:Aut)(hw:WfA a)(l:List Ev):z9q N0 a l=some true:=by
 obtain ⟨b,b1,b2⟩:=p_small a hw l
 have hawk:z7p N0=some true:=awake_ok
 unfold z9q
 rw [b1,z09,z0x]
 cases b with
 |false=>rw [z8u,hawk,z09]
 |true =>
  obtain ⟨hf,hl,q,hb,hs⟩:=b2 rfl
  obtain ⟨cs,ms,a1,a2,a3,a4,a5,a6⟩:=p_run_any hw hf (by omega) hb hs
  have hM:zcy N0 a l=some (ms,q):=by unfold zcy;rw [a1,z09]
  rw [z8t,a1,a2,hM]
  simp only [z3y,z24,z17,z09,p_sameC N0 (by decide) cs cs a5 a5 (by omega),p_sameM N0 (by decide) ms ms a6 a6 (by omega),decide_true,z8t,hawk]
end Go.Proofs.YtjpknpjjcddnnaaGreat
namespace Go.Proofs.YtjpknpjjcddnnaaGreat
open Go.RowKit
def zp7 (rF_tidegateref08_Count:z0i->Int->Option (Int))(a1:Int)(a0:z0i)(v1_0:Int×Int)(k1_0_0:Int->Option (Int))(cv1_0:(Int×Int)->Option (Int))(w3_1:Bool):AS:=⟨[(1,aI (a1)),(2,.ptr 2 0),(5,aI (v1_0.1)),(6,aI (v1_0.2)),(16,.bool (w3_1))],[(2,.box 47 [aI (a0.fOp),.sl 8 (a0.fArgs.map idA),aI (a0.fVar),aI (a0.fField),aI (a0.fKind),aI (a0.fValue.fKind),aI (a0.fValue.fNum),.str (a0.fValue.fText)])]⟩
theorem zns {n rF_tidegateref08_Count a1 a0 v1_0 k1_0_0 cv1_0}:z5l E0 29 (z3r n rF_tidegateref08_Count a1 a0 v1_0 k1_0_0 cv1_0) (zp7 rF_tidegateref08_Count a1 a0 v1_0 k1_0_0 cv1_0):=AW.jT
def zp6 (rF_tidegateref08_Count:z0i->Int->Option (Int))(a1:Int)(a0:z0i)(v1_0:Int×Int):AS:=⟨[(1,aI (a1)),(2,.ptr 2 0),(5,aI (v1_0.1)),(6,aI (v1_0.2))],[(2,.box 47 [aI (a0.fOp),.sl 8 (a0.fArgs.map idA),aI (a0.fVar),aI (a0.fField),aI (a0.fKind),aI (a0.fValue.fKind),aI (a0.fValue.fNum),.str (a0.fValue.fText)])]⟩
theorem znr {n rF_tidegateref08_Count a1 a0 k1_0_0}:z2d E0 29 (z2g n rF_tidegateref08_Count a1 a0 k1_0_0) (zp6 rF_tidegateref08_Count a1 a0):=LoopA.oT fun _=>rfl
def zax (r:Int):AV:=aI (r)
theorem zfd {n a0 a1 r}(hF:z2r n a0 a1=some r):Con E0 true 97 [.agg [aI (a0.fOp),.sl 8 (a0.fArgs.map idA),aI (a0.fVar),aI (a0.fField),aI (a0.fKind),aI (a0.fValue.fKind),aI (a0.fValue.fNum),.str (a0.fValue.fText)],aI (a1)] (zax r):=by
 induction n generalizing a0 a1 r
 case zero=>cases hF
 case succ n ih =>
 unfold z2r at hF
 refine Con.walk _ Tryz.func97 rfl (z06 Tryz.func97 rfl rfl) rfl (Or.inr rfl) ?_
 repeat' first
  |refine zns hF (fun hF=>?_) (fun v hF=>?_);rotate_left;unfold z3r at hF
  |refine AW.regO hF (fun hF=>?_)
  |refine AW.stepU [3] ?_;conv=>whnf
  |refine z0v.o hF (fun hF=>?_) (fun hF=>?_)
  |refine IdxX.oD hF z6b (fun x hF=>?_)
  |refine z0m.o hF zax (fun a h=>ih h) (fun a hF=>?_)
  |exact ⟨_,hF,LeX.a []⟩
  |exact ⟨_,hF,LeX.a []⟩
  |refine znr hF (LeX.a []) (fun m v hF=>?_);unfold z2g at hF
  |exact RetX.oA hF
def zp5 (rF_tidegateref08_Depth:z0i->Option (Int))(a0:z0i)(v1_0:Int×Int):AS:=⟨[(1,.ptr 1 0),(3,aI (v1_0.1)),(4,aI (v1_0.2))],[(1,.box 47 [aI (a0.fOp),.sl 8 (a0.fArgs.map idA),aI (a0.fVar),aI (a0.fField),aI (a0.fKind),aI (a0.fValue.fKind),aI (a0.fValue.fNum),.str (a0.fValue.fText)])]⟩
theorem znq {n rF_tidegateref08_Depth a0 k1_0_0}:z2d E0 22 (z5v n rF_tidegateref08_Depth a0 k1_0_0) (zp5 rF_tidegateref08_Depth a0):=LoopA.oT fun _=>rfl
def zaw (r:Int):AV:=aI (r)
theorem zfc {n a0 r}(hF:z2q n a0=some r):Con E0 true 98 [.agg [aI (a0.fOp),.sl 8 (a0.fArgs.map idA),aI (a0.fVar),aI (a0.fField),aI (a0.fKind),aI (a0.fValue.fKind),aI (a0.fValue.fNum),.str (a0.fValue.fText)]] (zaw r):=by
 induction n generalizing a0 r
 case zero=>cases hF
 case succ n ih =>
 unfold z2q at hF
 refine Con.walk _ Tryz.func98 rfl (z06 Tryz.func98 rfl rfl) rfl (Or.inr rfl) ?_
 repeat' first
  |refine AW.step ?_;conv=>whnf
  |refine z0v.o hF (fun hF=>?_) (fun hF=>?_)
  |refine IdxX.oD hF z6b (fun x hF=>?_)
  |refine z0m.o hF zaw (fun a h=>ih h) (fun a hF=>?_)
  |exact ⟨_,hF,LeX.a []⟩
  |refine znq hF (LeX.a []) (fun m v hF=>?_);unfold z5v at hF
  |exact RetX.oA hF
def zp0 (w2_1:Bool):AS:=⟨[(12,.bool (w2_1))],[]⟩
theorem znl {n}:zi5 E0 20 (z18 n) zp0:=AW.jT2
def zp1 (a0:Int)(w1_0:Bool):AS:=⟨[(3,aI (a0)),(4,.bool (w1_0))],[]⟩
theorem znm {n a0}:zi5 E0 20 (z1k n a0) (zp1 a0):=AW.jT2
def zha (r:Int):AV:=aI (r)
theorem zqy {n a0 r}(hF:z90 n a0=some r):Con E0 true 186 [aI (a0)] (zha r):=by
 unfold z90 at hF
 refine Con.walk _ Tryz.func186 rfl (z06 Tryz.func186 rfl rfl) rfl (Or.inr rfl) ?_
 repeat' first
  |refine znl hF (fun hF=>?_) (fun v hF=>?_);rotate_left;unfold z18 at hF
  |refine znm hF (fun hF=>?_) (fun v hF=>?_);rotate_left;unfold z1k at hF
  |refine AW.regO hF (fun hF=>?_)
  |refine AW.stepU [2,3,4,5,10,11,12,13,14,15] ?_;conv=>whnf
  |refine z0v.o hF (fun hF=>?_) (fun hF=>?_)
  |exact ⟨_,hF,LeX.a []⟩
  |exact ⟨_,hF,LeX.a []⟩
  |exact RetX.oA hF
def zro (w1_0:Bool)(w2_1:Bool):AS:=⟨[(2,.bool (w2_1)),(3,.bool (w1_0))],[]⟩
theorem zq6 {n w1_0}:z5l E0 21 (z2o n w1_0) (zro w1_0):=AW.jT
def zrp (a0:Int)(w1_0:Bool):AS:=⟨[(0,aI (a0)),(4,.bool (w1_0))],[]⟩
theorem zq7 {n a0}:z5l E0 21 (z4i n a0) (zrp a0):=AW.jT
def zhw (r:Bool×Bool):AV:=.tup [.bool (r.1),.bool (r.2)]
theorem zt9 {n a0 r}(hF:z9g n a0=some r):Con E0 true 187 [aI (a0)] (zhw r):=by
 unfold z9g at hF
 refine Con.walk _ Tryz.func187 rfl (z06 Tryz.func187 rfl rfl) rfl (Or.inr rfl) ?_
 repeat' first
  |refine zq6 hF (fun hF=>?_) (fun v hF=>?_);rotate_left;unfold z2o at hF
  |refine zq7 hF (fun hF=>?_) (fun v hF=>?_);rotate_left;unfold z4i at hF
  |refine AW.regO hF (fun hF=>?_)
  |refine AW.stepU [1,2] ?_;conv=>whnf
  |refine z0v.o hF (fun hF=>?_) (fun hF=>?_)
  |refine z0v.t ?_
  |exact ⟨_,hF,LeX.a []⟩
  |exact RetX.oA hF
def z8v (r:Int):AV:=aI (r)
theorem z9l {n a0 r}(hF:z2t n a0=some r):Con E0 true 188 [.agg [aI (a0.fKind),aI (a0.fNum),.str (a0.fText)]] (z8v r):=by
 unfold z2t at hF
 refine Con.walk _ Tryz.func188 rfl (z06 Tryz.func188 rfl rfl) rfl (Or.inr rfl) ?_
 repeat' first
  |refine AW.step ?_;conv=>whnf
  |refine z0v.o hF (fun hF=>?_) (fun hF=>?_)
  |refine z0v.t ?_
  |refine z0v.f ?_
  |exact RetX.oA hF
def zp8 (w1_0:Bool):AS:=⟨[(4,.bool (w1_0))],[]⟩
theorem znt {n}:z5l E0 20 (z1s n) zp8:=AW.jT
def zaz (r:Bool):AV:=.bool (r)
theorem zcn {n a0 a1 r}(hF:z65 n a0 a1=some r):Con E0 true 189 [aI (a0),.agg [aI (a1.fKind),aI (a1.fNum),.str (a1.fText)]] (zaz r):=by
 unfold z65 at hF
 refine Con.walk _ Tryz.func189 rfl (z06 Tryz.func189 rfl rfl) rfl (Or.inr rfl) ?_
 repeat' first
  |refine znt hF (fun hF=>?_) (fun v hF=>?_);rotate_left;unfold z1s at hF
  |refine AW.regO hF (fun hF=>?_)
  |refine AW.stepU [1] ?_;conv=>whnf
  |refine z0v.o hF (fun hF=>?_) (fun hF=>?_)
  |refine z0v.t ?_
  |exact ⟨_,hF,LeX.a []⟩
  |exact RetX.oA hF
def zrr (w6_5:Bool):AS:=⟨[(130,.bool (w6_5))],[]⟩
theorem zq9 {n}:z5l E0 131 (z0l n) zrr:=AW.jT
def zrs (a0:z0i)(x2:Bool×Bool)(w3_2:Bool)(w5_4:Bool):AS:=⟨[(1,.ptr 1 0),(4,.bool (x2.1)),(5,.bool (x2.2)),(6,.bool (decide (a0.fOp=4))),(7,.bool (w3_2)),(95,.bool (w5_4))],[(1,.box 47 [aI (a0.fOp),.sl 8 (a0.fArgs.map idA),aI (a0.fVar),aI (a0.fField),aI (a0.fKind),aI (a0.fValue.fKind),aI (a0.fValue.fNum),.str (a0.fValue.fText)])]⟩
theorem zqa {n a0 x2 w3_2}:z5l E0 131 (z20 n a0 x2 w3_2) (zrs a0 x2 w3_2):=AW.jT
def zrt (a0:z0i)(x2:Bool×Bool)(w3_2:Bool)(_:Unit):AS:=⟨[(1,.ptr 1 0),(4,.bool (x2.1)),(5,.bool (x2.2)),(6,.bool (decide (a0.fOp=4))),(7,.bool (w3_2))],[(1,.box 47 [aI (a0.fOp),.sl 8 (a0.fArgs.map idA),aI (a0.fVar),aI (a0.fField),aI (a0.fKind),aI (a0.fValue.fKind),aI (a0.fValue.fNum),.str (a0.fValue.fText)])]⟩
theorem zqb {n a0 x2 w3_2}:zi5 E0 131 (z4j n a0 x2 w3_2) (zrt a0 x2 w3_2):=AW.jT2
def zru (a0:z0i)(x2:Bool×Bool)(w3_2:Bool):AS:=⟨[(1,.ptr 1 0),(4,.bool (x2.1)),(5,.bool (x2.2)),(6,.bool (decide (a0.fOp=4))),(7,.bool (w3_2))],[(1,.box 47 [aI (a0.fOp),.sl 8 (a0.fArgs.map idA),aI (a0.fVar),aI (a0.fField),aI (a0.fKind),aI (a0.fValue.fKind),aI (a0.fValue.fNum),.str (a0.fValue.fText)])]⟩
theorem zqc {n a0 x2}:z5l E0 131 (z4k n a0 x2) (zru a0 x2):=AW.jT
def zrv (a0:z0i)(x2:Bool×Bool)(w2_1:Bool):AS:=⟨[(1,.ptr 1 0),(4,.bool (x2.1)),(5,.bool (x2.2)),(6,.bool (decide (a0.fOp=4))),(62,.bool (w2_1))],[(1,.box 47 [aI (a0.fOp),.sl 8 (a0.fArgs.map idA),aI (a0.fVar),aI (a0.fField),aI (a0.fKind),aI (a0.fValue.fKind),aI (a0.fValue.fNum),.str (a0.fValue.fText)])]⟩
theorem zqd {n a0 x2}:z5l E0 131 (z2p n a0 x2) (zrv a0 x2):=AW.jT
def zrw (a0:z0i)(x2:Bool×Bool)(w1_0:Bool):AS:=⟨[(1,.ptr 1 0),(4,.bool (x2.1)),(5,.bool (x2.2)),(48,.bool (w1_0))],[(1,.box 47 [aI (a0.fOp),.sl 8 (a0.fArgs.map idA),aI (a0.fVar),aI (a0.fField),aI (a0.fKind),aI (a0.fValue.fKind),aI (a0.fValue.fNum),.str (a0.fValue.fText)])]⟩
theorem zqe {n a0 x2}:z5l E0 131 (z16 n a0 x2) (zrw a0 x2):=AW.jT
def zhy (r:Int):AV:=aI (r)
theorem ztb {n a0 r}(hF:z9i n a0=some r):Con E0 true 151 [.agg [aI (a0.fOp),.sl 8 (a0.fArgs.map idA),aI (a0.fVar),aI (a0.fField),aI (a0.fKind),aI (a0.fValue.fKind),aI (a0.fValue.fNum),.str (a0.fValue.fText)]] (zhy r):=by
 unfold z9i at hF
 refine Con.walk _ Tryz.func151 rfl (z06 Tryz.func151 rfl rfl) rfl (Or.inr rfl) ?_
 repeat' first
  |refine zq9 hF (fun hF=>?_) (fun v hF=>?_);rotate_left;unfold z0l at hF
  |refine zqa hF (fun hF=>?_) (fun v hF=>?_);rotate_left;unfold z20 at hF
  |refine zqb hF (fun hF=>?_) (fun v hF=>?_);rotate_left;unfold z4j at hF
  |refine zqc hF (fun hF=>?_) (fun v hF=>?_);rotate_left;unfold z4k at hF
  |refine zqd hF (fun hF=>?_) (fun v hF=>?_);rotate_left;unfold z2p at hF
  |refine zqe hF (fun hF=>?_) (fun v hF=>?_);rotate_left;unfold z16 at hF
  |refine AW.regO hF (fun hF=>?_)
  |refine AW.stepU [7,10,12,13,17,19] ?_;conv=>whnf
  |refine z0v.o hF (fun hF=>?_) (fun hF=>?_)
  |refine z0v.t ?_
  |refine z0v.f ?_
  |refine z0m.o hF zha (fun a h=>zqy h) (fun a hF=>?_)
  |refine z0m.o hF zhw (fun a h=>zt9 h) (fun a hF=>?_)
  |exact ⟨_,hF,LeX.a []⟩
  |refine z0m.o hF zaz (fun a h=>zcn h) (fun a hF=>?_)
  |exact ⟨_,hF,LeX.a []⟩
  |refine z0m.o hF z8v (fun a h=>z9l h) (fun a hF=>?_)
  |exact ⟨(),hF,LeX.a []⟩
  |exact ⟨_,hF,LeX.a []⟩
  |exact ⟨_,hF,LeX.a []⟩
  |refine EqX.mk (by first|rfl|kernel_rfl) ?_
  |exact RetX.oA hF
def zoz (rF_tidegateref08_nodes:z0i->Option (Int))(a0:z0i)(v1_0:Int):AS:=⟨[(1,.ptr 1 0),(4,aI (v1_0))],[(1,.box 47 [aI (a0.fOp),.sl 8 (a0.fArgs.map idA),aI (a0.fVar),aI (a0.fField),aI (a0.fKind),aI (a0.fValue.fKind),aI (a0.fValue.fNum),.str (a0.fValue.fText)])]⟩
theorem znk {n rF_tidegateref08_nodes a0 k1_0_0}:z2d E0 27 (z5u n rF_tidegateref08_nodes a0 k1_0_0) (zoz rF_tidegateref08_nodes a0):=LoopA.oT fun _=>rfl
def zdm (r:Int):AV:=aI (r)
theorem zqx {n a0 r}(hF:z3z n a0=some r):Con E0 true 113 [.agg [aI (a0.fOp),.sl 8 (a0.fArgs.map idA),aI (a0.fVar),aI (a0.fField),aI (a0.fKind),aI (a0.fValue.fKind),aI (a0.fValue.fNum),.str (a0.fValue.fText)]] (zdm r):=by
 induction n generalizing a0 r
 case zero=>cases hF
 case succ n ih =>
 unfold z3z at hF
 refine Con.walk _ Tryz.func113 rfl (z06 Tryz.func113 rfl rfl) rfl (Or.inr rfl) ?_
 repeat' first
  |refine AW.step ?_;conv=>whnf
  |refine z0v.o hF (fun hF=>?_) (fun hF=>?_)
  |refine z0m.o hF zhy (fun a h=>ztb h) (fun a hF=>?_)
  |refine IdxX.oD hF z6b (fun x hF=>?_)
  |refine z0m.o hF zdm (fun a h=>ih h) (fun a hF=>?_)
  |exact ⟨_,hF,LeX.a []⟩
  |refine znk hF (LeX.a []) (fun m v hF=>?_);unfold z5u at hF
  |exact RetX.oA hF
def zay (r:Int):AV:=aI (r)
end Go.Proofs.YtjpknpjjcddnnaaGreat
namespace Go.Proofs.YtjpknpjjcddnnaaGreat
open Go.RowKit
theorem zcm {n a0 r}(hF:z2a n a0=some r):Con E0 true 83 [.agg [aI (a0.fOp),.sl 8 (a0.fArgs.map idA),aI (a0.fVar),aI (a0.fField),aI (a0.fKind),aI (a0.fValue.fKind),aI (a0.fValue.fNum),.str (a0.fValue.fText)]] (zay r):=by
 unfold z2a at hF
 refine Con.walk _ Tryz.func83 rfl (z06 Tryz.func83 rfl rfl) rfl (Or.inr rfl) ?_
 repeat' first
  |refine AW.step ?_;conv=>whnf
  |refine z0v.o hF (fun hF=>?_) (fun hF=>?_)
  |refine z0m.o hF zax (fun a h=>zfd h) (fun a hF=>?_)
  |refine z0m.o hF zaw (fun a h=>zfc h) (fun a hF=>?_)
  |refine z0m.o hF zdm (fun a h=>zqx h) (fun a hF=>?_)
  |exact RetX.oA hF
def ztu (w1_0:Bool):AS:=⟨[(4,.bool (w1_0))],[]⟩
theorem zsm {n}:z5l E0 12 (z5a n) ztu:=AW.jT
def z8k (r:Bool):AV:=.bool (r)
theorem z8s {n a0 a1 r}(hF:z12 n a0 a1=some r):Con E0 true 45 [aI (a0),aI (a1)] (z8k r):=by
 unfold z12 at hF
 refine Con.walk _ Tryz.func45 rfl (z06 Tryz.func45 rfl rfl) rfl (Or.inr rfl) ?_
 repeat' first
  |refine zsm hF (fun hF=>?_) (fun v hF=>?_);rotate_left;unfold z5a at hF
  |refine AW.regO hF (fun hF=>?_)
  |refine AW.stepU [1] ?_;conv=>whnf
  |refine z0v.o hF (fun hF=>?_) (fun hF=>?_)
  |exact ⟨_,hF,LeX.a []⟩
  |exact RetX.oA hF
def zmx (a1:(List z0o))(a0:z05)(v1_0:Int)(v2_2:Int):AS:=⟨[(1,.sl 11 (a1.map z0r)),(2,.ptr 2 0),(5,aI (v1_0)),(6,aI (v2_2))],[(2,.box 25 [aI (a0.fVars),aI (a0.fScopes),.sl 1 (a0.fStates.map z0c),.sl 17 (a0.fEdges.map z0d)])]⟩
theorem zm1 {n a1 a0 v1_0 k2_2_0}:z2d E0 70 (z4t n a1 a0 v1_0 k2_2_0) (zmx a1 a0 v1_0):=LoopA.oT fun _=>rfl
def zmz (a1:(List z0o))(a0:z05)(v1_0:Int)(cv1_0:Int->Option (Int))(w3_1:Bool):AS:=⟨[(1,.sl 11 (a1.map z0r)),(2,.ptr 2 0),(5,aI (v1_0)),(44,.bool (w3_1))],[(2,.box 25 [aI (a0.fVars),aI (a0.fScopes),.sl 1 (a0.fStates.map z0c),.sl 17 (a0.fEdges.map z0d)])]⟩
theorem zm3 {n a1 a0 v1_0 cv1_0}:z5l E0 70 (z28 n a1 a0 v1_0 cv1_0) (zmz a1 a0 v1_0 cv1_0):=AW.jT
def zmy (a1:(List z0o))(a0:z05)(v1_0:Int):AS:=⟨[(1,.sl 11 (a1.map z0r)),(2,.ptr 2 0),(5,aI (v1_0))],[(2,.box 25 [aI (a0.fVars),aI (a0.fScopes),.sl 1 (a0.fStates.map z0c),.sl 17 (a0.fEdges.map z0d)])]⟩
theorem zm2 {n a1 a0 k1_0_0}:z2d E0 70 (z1e n a1 a0 k1_0_0) (zmy a1 a0):=LoopA.oT fun _=>rfl
def zg7 (r:Int):AV:=aI (r)
theorem zod {n a0 a1 r}(hF:z8f n a0 a1=some r):Con E0 true 46 [.agg [aI (a0.fVars),aI (a0.fScopes),.sl 1 (a0.fStates.map z0c),.sl 17 (a0.fEdges.map z0d)],.sl 11 (a1.map z0r)] (zg7 r):=by
 unfold z8f at hF
 refine Con.walk _ Tryz.func46 rfl (z06 Tryz.func46 rfl rfl) rfl (Or.inr rfl) ?_
 repeat' first
  |refine zm3 hF (fun hF=>?_) (fun v hF=>?_);rotate_left;unfold z28 at hF
  |refine AW.regO hF (fun hF=>?_)
  |refine AW.stepU [6] ?_;conv=>whnf
  |refine z0v.o hF (fun hF=>?_) (fun hF=>?_)
  |refine z0v.t ?_
  |refine IdxX.o z0r hF (fun x hF=>?_)
  |refine z0m.o hF zay (fun a h=>zcm h) (fun a hF=>?_)
  |exact ⟨_,hF,LeX.a []⟩
  |exact ⟨_,hF,LeX.a []⟩
  |refine zm1 hF (LeX.a []) (fun m v hF=>?_);unfold z4t at hF
  |refine z0m.o hF z8k (fun a h=>z8s h) (fun a hF=>?_)
  |refine zm2 hF (LeX.a []) (fun m v hF=>?_);unfold z1e at hF
  |refine And.intro ⟨by kernel_rfl,by kernel_rfl⟩ ?_
  |exact RetX.oA hF
def zmv (a1:Int)(a0:(List Int))(v1_0:Int)(v2_1:Int):AS:=⟨[(0,.sl 1 (a0.map aI)),(1,aI (a1)),(5,aI (v1_0)),(6,aI (v2_1))],[]⟩
theorem zlz {n a1 a0 v1_0 k2_1_0}:z2d E0 34 (z4s n a1 a0 v1_0 k2_1_0) (zmv a1 a0 v1_0):=LoopA.oT fun _=>rfl
def zmw (a1:Int)(a0:(List Int))(v1_0:Int):AS:=⟨[(0,.sl 1 (a0.map aI)),(1,aI (a1)),(5,aI (v1_0))],[]⟩
theorem zm0 {n a1 a0 k1_0_0}:z2d E0 34 (z32 n a1 a0 k1_0_0) (zmw a1 a0):=LoopA.oT fun _=>rfl
def zg6 (r:Int):AV:=aI (r)
theorem zoc {n a0 a1 r}(hF:z6y n a0 a1=some r):Con E0 true 114 [.sl 1 (a0.map aI),aI (a1)] (zg6 r):=by
 unfold z6y at hF
 refine Con.walk _ Tryz.func114 rfl (z06 Tryz.func114 rfl rfl) rfl (Or.inr rfl) ?_
 repeat' first
  |refine AW.step ?_;conv=>whnf
  |refine z0v.o hF (fun hF=>?_) (fun hF=>?_)
  |refine IdxX.o aI hF (fun x hF=>?_)
  |refine z0m.o hF z8k (fun a h=>z8s h) (fun a hF=>?_)
  |exact ⟨_,hF,LeX.a []⟩
  |exact ⟨_,hF,LeX.a []⟩
  |refine zlz hF (LeX.a []) (fun m v hF=>?_);unfold z4s at hF
  |refine zm0 hF (LeX.a []) (fun m v hF=>?_);unfold z32 at hF
  |refine And.intro ⟨by kernel_rfl,by kernel_rfl⟩ ?_
  |exact RetX.oA hF
def zoq (a1:z0j)(v3_2:Int):AS:=⟨[(3,.ptr 3 0),(10,aI (v3_2))],[(3,.box 51 [aI (a1.fFrom),aI (a1.fTo),aI (a1.fVar),aI (a1.fType),aI (a1.fCond.fOp),.sl 8 (a1.fCond.fArgs.map idA),aI (a1.fCond.fVar),aI (a1.fCond.fField),aI (a1.fCond.fKind),aI (a1.fCond.fValue.fKind),aI (a1.fCond.fValue.fNum),.str (a1.fCond.fValue.fText),.sl 1 (a1.fOpens.map aI),.sl 1 (a1.fCloses.map aI),.sl 8 (a1.fChecks.map idA),.sl 2 (a1.fLimits.map z0p),.sl 1 (a1.fInside.map aI)])]⟩
theorem znb {n a1 k3_2_0}:z2d E0 65 (z3n n a1 k3_2_0) (zoq a1):=LoopA.oT fun _=>rfl
def zor (a1:z0j)(a0:z05)(k1_0_0y:(List Int))(v2_1:Int):AS:=⟨[(2,.ptr 2 0),(3,.ptr 3 0),(7,.sl 1 [.sl 1 (a1.fOpens.map aI),.sl 1 (a1.fCloses.map aI),.sl 1 (a1.fInside.map aI),.sl 1 (k1_0_0y.map aI)]),(8,aI (v2_1))],[(2,.box 25 [aI (a0.fVars),aI (a0.fScopes),.sl 1 (a0.fStates.map z0c),.sl 17 (a0.fEdges.map z0d)]),(3,.box 51 [aI (a1.fFrom),aI (a1.fTo),aI (a1.fVar),aI (a1.fType),aI (a1.fCond.fOp),.sl 8 (a1.fCond.fArgs.map idA),aI (a1.fCond.fVar),aI (a1.fCond.fField),aI (a1.fCond.fKind),aI (a1.fCond.fValue.fKind),aI (a1.fCond.fValue.fNum),.str (a1.fCond.fValue.fText),.sl 1 (a1.fOpens.map aI),.sl 1 (a1.fCloses.map aI),.sl 8 (a1.fChecks.map idA),.sl 2 (a1.fLimits.map z0p),.sl 1 (a1.fInside.map aI)])]⟩
theorem znc {n a1 a0 k1_0_0y k2_1_0}:z2d E0 65 (z1q n a1 a0 k1_0_0y k2_1_0) (zor a1 a0 k1_0_0y):=LoopA.oT fun _=>rfl
def zos (a1:z0j)(a0:z05)(v1_0:Int×(List Int)):AS:=⟨[(2,.ptr 2 0),(3,.ptr 3 0),(5,.row 7026),(6,aI (v1_0.1))],[(2,.box 25 [aI (a0.fVars),aI (a0.fScopes),.sl 1 (a0.fStates.map z0c),.sl 17 (a0.fEdges.map z0d)]),(3,.box 51 [aI (a1.fFrom),aI (a1.fTo),aI (a1.fVar),aI (a1.fType),aI (a1.fCond.fOp),.sl 8 (a1.fCond.fArgs.map idA),aI (a1.fCond.fVar),aI (a1.fCond.fField),aI (a1.fCond.fKind),aI (a1.fCond.fValue.fKind),aI (a1.fCond.fValue.fNum),.str (a1.fCond.fValue.fText),.sl 1 (a1.fOpens.map aI),.sl 1 (a1.fCloses.map aI),.sl 8 (a1.fChecks.map idA),.sl 2 (a1.fLimits.map z0p),.sl 1 (a1.fInside.map aI)]),(7026,.row 3 1 (v1_0.2.map aI))]⟩
theorem znd {n a1 a0 k1_0_0}:z2d E0 65 (z5q n a1 a0 k1_0_0) (zos a1 a0):=LoopA.oT fun _=>rfl
def zh5 (r:Int):AV:=aI (r)
theorem zqs {n a0 a1 r}(hF:z7i n a0 a1=some r):Con E0 true 84 [.agg [aI (a0.fVars),aI (a0.fScopes),.sl 1 (a0.fStates.map z0c),.sl 17 (a0.fEdges.map z0d)],.agg [aI (a1.fFrom),aI (a1.fTo),aI (a1.fVar),aI (a1.fType),aI (a1.fCond.fOp),.sl 8 (a1.fCond.fArgs.map idA),aI (a1.fCond.fVar),aI (a1.fCond.fField),aI (a1.fCond.fKind),aI (a1.fCond.fValue.fKind),aI (a1.fCond.fValue.fNum),.str (a1.fCond.fValue.fText),.sl 1 (a1.fOpens.map aI),.sl 1 (a1.fCloses.map aI),.sl 8 (a1.fChecks.map idA),.sl 2 (a1.fLimits.map z0p),.sl 1 (a1.fInside.map aI)]] (zh5 r):=by
 unfold z7i at hF
 refine Con.walk _ Tryz.func84 rfl (z06 Tryz.func84 rfl rfl) rfl (Or.inr rfl) ?_
 repeat' first
  |refine AW.regO hF (fun hF=>?_)
  |refine AW.frzO hF 7026 rfl (fun hF=>?_)
  |refine AW.stepU [6] ?_;conv=>whnf
  |refine z0v.o hF (fun hF=>?_) (fun hF=>?_)
  |refine IdxX.o z0p hF (fun x hF=>?_)
  |refine z0m.o hF z8k (fun a h=>z8s h) (fun a hF=>?_)
  |exact ⟨_,hF,LeX.a []⟩
  |refine znb hF (LeX.a []) (fun m v hF=>?_);unfold z3n at hF
  |refine IdxX.o (fun q=>AV.sl 1 (List.map aI q)) hF (fun x hF=>?_)
  |refine z0m.o hF zg6 (fun a h=>zoc h) (fun a hF=>?_)
  |exact ⟨_,hF,LeX.a []⟩
  |refine znc hF (LeX.a []) (fun m v hF=>?_);unfold z1q at hF
  |refine AppX.o aI hF (by first|exact SubR.refl _|(repeat' first|exact SubR.nil|refine SubR.cons ?_ ?_|exact SubL.nil|refine SubL.cons ?_ ?_|exact Sub.refl _|exact Sub.nil _)) (fun l hF=>?_)
  |exact ⟨_,hF,LeX.a [(7026,26)]⟩
  |refine znd hF (LeX.trans (LeX.adopt 5 7026 3 1 rfl rfl) (LeX.a [])) (fun m v hF=>?_);unfold z5q at hF
  |refine And.intro ⟨by kernel_rfl,by kernel_rfl⟩ ?_
  |exact RetX.oA hF
def zrg (a1:z0j)(a0:z05)(v1_1:Int):AS:=⟨[(3,.ptr 3 0),(4,.ptr 4 0),(9,aI (v1_1))],[(3,.box 25 [aI (a0.fVars),aI (a0.fScopes),.sl 1 (a0.fStates.map z0c),.sl 17 (a0.fEdges.map z0d)]),(4,.box 51 [aI (a1.fFrom),aI (a1.fTo),aI (a1.fVar),aI (a1.fType),aI (a1.fCond.fOp),.sl 8 (a1.fCond.fArgs.map idA),aI (a1.fCond.fVar),aI (a1.fCond.fField),aI (a1.fCond.fKind),aI (a1.fCond.fValue.fKind),aI (a1.fCond.fValue.fNum),.str (a1.fCond.fValue.fText),.sl 1 (a1.fOpens.map aI),.sl 1 (a1.fCloses.map aI),.sl 8 (a1.fChecks.map idA),.sl 2 (a1.fLimits.map z0p),.sl 1 (a1.fInside.map aI)])]⟩
theorem zpy {n a1 a0 k1_1_0}:z2d E0 76 (z6g n a1 a0 k1_1_0) (zrg a1 a0):=LoopA.oT fun _=>rfl
def zrh (a2:Int)(a1:z0j)(a0:z05)(w1_0:Bool):AS:=⟨[(2,aI (a2)),(3,.ptr 3 0),(4,.ptr 4 0),(42,.bool (w1_0))],[(3,.box 25 [aI (a0.fVars),aI (a0.fScopes),.sl 1 (a0.fStates.map z0c),.sl 17 (a0.fEdges.map z0d)]),(4,.box 51 [aI (a1.fFrom),aI (a1.fTo),aI (a1.fVar),aI (a1.fType),aI (a1.fCond.fOp),.sl 8 (a1.fCond.fArgs.map idA),aI (a1.fCond.fVar),aI (a1.fCond.fField),aI (a1.fCond.fKind),aI (a1.fCond.fValue.fKind),aI (a1.fCond.fValue.fNum),.str (a1.fCond.fValue.fText),.sl 1 (a1.fOpens.map aI),.sl 1 (a1.fCloses.map aI),.sl 8 (a1.fChecks.map idA),.sl 2 (a1.fLimits.map z0p),.sl 1 (a1.fInside.map aI)])]⟩
theorem zpz {n a2 a1 a0}:z5l E0 76 (z10 n a2 a1 a0) (zrh a2 a1 a0):=AW.jT
def zhu (r:Int):AV:=aI (r)
theorem zt7 {n a0 a1 a2 r}(hF:z9e n a0 a1 a2=some r):Con E0 true 47 [.agg [aI (a0.fVars),aI (a0.fScopes),.sl 1 (a0.fStates.map z0c),.sl 17 (a0.fEdges.map z0d)],.agg [aI (a1.fFrom),aI (a1.fTo),aI (a1.fVar),aI (a1.fType),aI (a1.fCond.fOp),.sl 8 (a1.fCond.fArgs.map idA),aI (a1.fCond.fVar),aI (a1.fCond.fField),aI (a1.fCond.fKind),aI (a1.fCond.fValue.fKind),aI (a1.fCond.fValue.fNum),.str (a1.fCond.fValue.fText),.sl 1 (a1.fOpens.map aI),.sl 1 (a1.fCloses.map aI),.sl 8 (a1.fChecks.map idA),.sl 2 (a1.fLimits.map z0p),.sl 1 (a1.fInside.map aI)],aI (a2)] (zhu r):=by
 unfold z9e at hF
 refine Con.walk _ Tryz.func47 rfl (z06 Tryz.func47 rfl rfl) rfl (Or.inr rfl) ?_
 repeat' first
  |refine zpz hF (fun hF=>?_) (fun v hF=>?_);rotate_left;unfold z10 at hF
  |refine AW.regO hF (fun hF=>?_)
  |refine AW.stepU [2] ?_;conv=>whnf
  |refine z0v.o hF (fun hF=>?_) (fun hF=>?_)
  |refine z0v.t ?_
  |refine z0v.f ?_
  |refine z0m.o hF zay (fun a h=>zcm h) (fun a hF=>?_)
  |refine z0m.o hF zh5 (fun a h=>zqs h) (fun a hF=>?_)
  |refine IdxX.oD hF z6b (fun x hF=>?_)
  |exact ⟨_,hF,LeX.a []⟩
  |refine zpy hF (LeX.a []) (fun m v hF=>?_);unfold z6g at hF
  |refine z0m.o hF z8k (fun a h=>z8s h) (fun a hF=>?_)
  |exact ⟨_,hF,LeX.a []⟩
  |exact RetX.oA hF
def zot (a0:z05)(v2_3:Int×Int):AS:=⟨[(1,.ptr 1 0),(5,aI (v2_3.1)),(6,aI (v2_3.2))],[(1,.box 25 [aI (a0.fVars),aI (a0.fScopes),.sl 1 (a0.fStates.map z0c),.sl 17 (a0.fEdges.map z0d)])]⟩
theorem zne {n a0 k2_3_0}:z2d E0 74 (z5r n a0 k2_3_0) (zot a0):=LoopA.oT fun _=>rfl
def zou (a0:z05)(v1_2:Int):AS:=⟨[(1,.ptr 1 0),(3,aI (v1_2))],[(1,.box 25 [aI (a0.fVars),aI (a0.fScopes),.sl 1 (a0.fStates.map z0c),.sl 17 (a0.fEdges.map z0d)])]⟩
theorem znf {n a0 k1_2_0}:z2d E0 74 (z5s n a0 k1_2_0) (zou a0):=LoopA.oT fun _=>rfl
def zov (a0:z05)(w2_1:Bool):AS:=⟨[(1,.ptr 1 0),(31,.bool (w2_1))],[(1,.box 25 [aI (a0.fVars),aI (a0.fScopes),.sl 1 (a0.fStates.map z0c),.sl 17 (a0.fEdges.map z0d)])]⟩
theorem zng {n a0}:z5l E0 74 (z1i n a0) (zov a0):=AW.jT
def zow (a0:z05)(w1_0:Bool):AS:=⟨[(1,.ptr 1 0),(15,.bool (w1_0))],[(1,.box 25 [aI (a0.fVars),aI (a0.fScopes),.sl 1 (a0.fStates.map z0c),.sl 17 (a0.fEdges.map z0d)])]⟩
theorem znh {n a0}:z5l E0 74 (z1r n a0) (zow a0):=AW.jT
def zh6 (r:Int):AV:=aI (r)
end Go.Proofs.YtjpknpjjcddnnaaGreat
