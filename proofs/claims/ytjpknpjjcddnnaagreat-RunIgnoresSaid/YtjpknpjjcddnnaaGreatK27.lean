/- Layer 25, plainly: running; RunRuns. Layer 5, plainly, as layer 25 needs it: inserting an event. Layer 25: events of a type that is not used. What some functions compute, over plain values. Printed by a program of mine (gen_fun.lean). -/
import Derived.Test.YtjpknpjjcddnnaaGreatK26
import Derived.Test.YtjpknpjjcddnnaaGreatK18
set_option linter.unusedVariables false
set_option linter.unusedSimpArgs false
set_option maxRecDepth 100000
set_option maxHeartbeats 8000000
namespace Go.Proofs.YtjpknpjjcddnnaaGreat
open Go.RowKit
theorem p_begin_l1 (l:List Ev)(hl:l.length<=1000000)(a:Aut)(K:List (Rf×Ev)->Option (Option z0s×Int)):∀ (m k:Nat) (mp:List (Rf×Ev)),k<=l.length->l.length<m+k->zdy N0 l a K m ((k:Int),mp)=K ((l.drop k).foldl (fun m e=>mput m (zca e) e) mp)
 |0,k,mp,h1,h2=>by omega
 |m+1,k,mp,h1,h2=>by
  unfold zdy
  simp only [List.length_map,z0o]
  by_cases h:k<l.length
  ·have hr:zrr N0 l[k]=some (zca l[k]):=rfl
   rw [if_pos (by omega),z0r h,hr,z07,mst_eq,z0f _ k h,List.foldl_cons,z2m k (by omega)]
   exact p_begin_l1 l hl a K m (k+1) _ (by omega) (by omega)
  ·rw [if_neg (by omega),List.drop_eq_nil_of_le (by omega)]
   rfl
theorem p_begin (a:Aut)(hw:WfA a)(l:List Ev)(hl:l.length<=1000000):∃ q:Int,z1k N0 a l=some q/\((q≠0/\zhx N0 a l=some (none,q))\/(q=0/\AOk a/\StrOk l/\z6i N0 a=some 0/\zga l=0/\∃ mp,HM l mp/\zhx N0 a l=some (some ⟨a,mp⟩,0))):=by
 obtain ⟨r,r1,r2,r3⟩:=p_acheck N0 (by decide) a hw
 unfold z1k zhx
 rw [r1,r2,z07,z07,z0w,z0o,z0w,z0o]
 by_cases h:r=0
 rotate_left
 ·rw [if_neg h,if_neg h]
  exact ⟨r,rfl,Or.inl ⟨h,rfl⟩⟩
 rw [if_pos h,if_pos h,p_rchk N0 l (by unfold N0;omega) hl,p_chk N0 l (by unfold N0;omega) (by decide) hl,z07,z07,z0w,z0o]
 refine ⟨zga l,rfl,?_⟩
 by_cases hs:zga l=0
 rotate_left
 ·rw [if_neg hs]
  exact Or.inl ⟨hs,rfl⟩
 rw [if_pos hs]
 have hso:=zse hs
 refine Or.inr ⟨hs,r3 h,hso,by rw [h] ,hs,l.foldl (fun m e=>mput m (zca e) e) [],fun r=>?_,?_⟩
 ·rw [hm_fold r l [] hso.st]
  simp [mlk]
 ·refine (p_begin_l1 l hl a _ N0 0 [] (Nat.zero_le _) (by unfold N0;omega)).trans ?_
  rw [List.drop_zero]
theorem coP_cb {a:Aut}{held:List Ev}(hx:CxA a held)(hst:Str zd2 held){c:Cf}{k:Nat}(hc:CB held a k c){x:Ed}(hxe:x∈a.fEdges){e:Ev}(he:e∈held){d:Cf}(h:coP a held c x e=some d)(h0:0<=d.fState):CB held a (k+1) d:=by
 have hz:=coP_sz hx hc hxe h
 have hd:=coP_some h
 have eo:=hx.ok.ed x hxe
 refine ⟨?_,?_,?_,hz.1,hz.2⟩
 ·rw [hd] at h0 ⊢
  exact ⟨h0,eo.tgt.2⟩
 ·rw [hd]
  intro b hb
  rcases List.mem_append.1 hb with hb|hb
  ·exact hc.bd b hb
  ·rw [List.mem_singleton.1 hb]
   refine ⟨eo.var,?_⟩
   rw [lkH_mem hst he]
   rfl
 ·rw [hd]
  exact (opL_ss e.fTime x.fOpens hc.ss).filter _
theorem CB.up {held:List Ev}{a:Aut}{k:Nat}{c:Cf}(h:CB held a k c):CB held a (k+1) c:=⟨h.st,h.bd,h.ss,by have:=h.lb;omega,by have:=h.ls;omega⟩
theorem outP_cb {a:Aut}{held:List Ev}(hx:CxA a held)(hst:Str zd2 held){c:Cf}{k:Nat}(hc:CB held a k c){e:Ev}(he:e∈held){d:Cf}(h:d∈outP a held c e)(h0:0<=d.fState):CB held a (k+1) d:=by
 unfold outP at h
 rcases List.mem_append.1 h with h|h
 ·split at h
  ·rw [List.mem_singleton.1 h]
   exact hc.up
  ·simp at h
 ·obtain ⟨x,hx',hd⟩:=List.mem_filterMap.1 h
  exact coP_cb hx hst hc (y1d hx').1 he hd h0
theorem cfN_mem {a:Aut}{held:List Ev}{l:List Cf}{e:Ev}{d:Cf}(h:d∈cfN a held l e):∃ c∈l,d∈outP a held c e/\0<=d.fState:=by
 unfold cfN at h
 obtain ⟨c,h1,h2⟩:=List.mem_flatMap.1 ((zhz zf5 _ _).1 h)
 exact ⟨c,h1,cfO_mem h2⟩
theorem cfN_cb {a:Aut}{held:List Ev}(hx:CxA a held)(hst:Str zd2 held){l:List Cf}{k:Nat}(hc:∀ c∈l,CB held a k c){e:Ev}(he:e∈held):∀ d∈cfN a held l e,CB held a (k+1) d:=fun d hd=>by
 obtain ⟨c,h1,h2,h3⟩:=cfN_mem hd
 exact outP_cb hx hst (hc c h1) he h2 h3
theorem maN_ok {a:Aut}{held:List Ev}(hx:CxA a held){l:List Cf}{k:Nat}(hk:k<=1000)(hc:∀ c∈l,CB held a k c)(e:Ev):∀ d∈maN a held l e,maOk d=true:=fun d hd=>by
 unfold maN at hd
 obtain ⟨c,h1,h2⟩:=List.mem_flatMap.1 ((zhz zbf _ _).1 hd)
 exact maO_ok hx hk (hc c h1) e d h2
theorem maN_len {a:Aut}{held:List Ev}(hle:a.fEdges.length<=100)(l:List Cf)(e:Ev):(maN a held l e).length<=101*l.length:=by
 unfold maN
 have f2:=flat_len (fun c=>maO (outP a held c e)) 101 l (fun c _=>by have:=y0d (outP a held c e);have:(outP a held c e).length<=a.fEdges.length+1:=y15;omega)
 have:=setL_len (c:=z6t) (l.flatMap (fun c=>maO (outP a held c e)))
 omega
theorem puts_ge (l s:List Ma)(hs:Str z6t s)(hl:Str z6t l):l.length<=(puts z6t s l).length:=by
 have:puts z6t s l=puts z6t l s:=Str.uniq zbf (puts_str zbf _ _ hs) (puts_str zbf _ _ hl) (fun x=>by rw [zyu zbf,zyu zbf,Or.comm])
 rw [this]
 exact puts_len2 s l
def wiP (most:Nat)(a:Aut)(held:List Ev):List Ev->List Cf->List Ma->List Cf×List Ma×Bool
 |[],cs,ms=>(cs,ms,true)
 |e::r,cs,ms=>if most<(cfN a held cs e).length\/most<(puts z6t ms (maN a held cs e)).length then ([],[],false) else wiP most a held r (cfN a held cs e) (puts z6t ms (maN a held cs e))
theorem p_rwithin_l1 {a:Aut}{l:List Ev}(hx:CxA a l)(hst:Str zd2 l)(hle:a.fEdges.length<=100)(most:Nat)(hm:most<=4096)(hm1:1<=most)(hl:l.length<=900) :
  ∀ (m k:Nat) (cs:List Cf) (ms:List Ma),k<=l.length->l.length<m+k->cs.length<=most->ms.length<=most->(∀ c∈cs,CB l a k c)->(∀ d∈ms,maOk d=true)->z2d N0 (most:Int) l a (fun y0 y1=>some (y0,y1,true)) m (cs,ms,(k:Int))=some (wiP most a l (l.drop k) cs ms)
 |0,k,cs,ms,h1,h2,h3,h4,h5,h6=>by omega
 |m+1,k,cs,ms,h1,h2,h3,h4,h5,h6=>by
  unfold z2d
  simp only [List.length_map,z0o]
  by_cases h:k<l.length
  ·have he:=List.getElem_mem h
   have z:=maN_len (held:=l) hle cs l[k]
   have o:=maN_ok hx (by omega) h5 l[k]
   rw [if_pos (by omega),z0r h,p_all hx hle (by omega) l[k] cs h5 (by omega),z07,z0f _ k h]
   have l2:=fun K=>p_with_l2 (most:Int) l a (cs,ms,(k:Int)) (cfN a l cs l[k],maN a l cs l[k]) o (by show (maN a l cs l[k]).length<=1000000;omega) K N0 0 ms (Nat.zero_le _) (by show (maN a l cs l[k]).length<2000000000+0;omega) (by show ms.length+((maN a l cs l[k]).length-0)<=1000000;omega) h6
   refine (l2 _).trans ?_
   rw [List.drop_zero]
   simp only [z3n,z1z,z3b,z0o,z8m]
   have ih:=p_rwithin_l1 hx hst hle most hm hm1 hl m (k+1) (cfN a l cs l[k]) (puts z6t ms (maN a l cs l[k])) (by omega) (by omega)
   unfold wiP
   by_cases q1:most<(cfN a l cs l[k]).length
   ·rw [if_pos (by omega),if_pos (Or.inl q1)]
   rw [if_neg (by omega)]
   by_cases q2:most<(puts z6t ms (maN a l cs l[k])).length
   ·rw [if_pos (by omega),if_pos (Or.inr q2)]
   rw [if_neg (by omega),if_neg (by omega),z2m k (by omega)]
   exact ih (by omega) (by omega) (cfN_cb hx hst h5 he) (puts_okM h6 o)
  ·rw [if_neg (by omega),List.drop_eq_nil_of_le (by omega)]
   rfl
theorem cb0 {a:Aut}{l:List Ev}(ha:AOk a):CB l a 0 cf0:=⟨⟨by simp,by have:=ha.st;simp;omega⟩,fun b hb=>by simp at hb,by simp [SS],by simp,by simp⟩
theorem p_rwithin {a:Aut}{l:List Ev}(hx:CxA a l)(hst:Str zd2 l)(hle:a.fEdges.length<=100)(most:Nat)(hm:most<=4096)(hm1:1<=most)(hl:l.length<=900):z7h N0 a l (most:Int)=some (wiP most a l l [cf0] []):=by
 unfold z7h
 have hb:zbv N0=some cf0:=rfl
 rw [hb,z07]
 exact p_rwithin_l1 hx hst hle most hm hm1 hl N0 0 [cf0] [] (Nat.zero_le _) (by unfold N0;omega) (by simp;omega) (by simp) (fun c hc=>by rw [List.mem_singleton.1 hc];exact cb0 hx.ok) (by simp)
theorem wi_up (a:Aut)(held:List Ev):∀ (l:List Ev) (cs:List Cf) (ms:List Ma),(wiP 150 a held l cs ms).2.2=true->wiP 4096 a held l cs ms=wiP 150 a held l cs ms
 |[],cs,ms,_=>rfl
 |e::r,cs,ms,h=>by
  unfold wiP at h ⊢
  by_cases q:150<(cfN a held cs e).length\/150<(puts z6t ms (maN a held cs e)).length
  ·rw [if_pos q] at h;cases h
  ·rw [if_neg q] at h ⊢
   rw [if_neg (by omega)]
   exact wi_up a held r _ _ h
theorem p_run_l2 {r:z0s}{l:List Ev}(hx:CxA r.fa l)(hm:HM l r.fheld)(hst:Str zd2 l)(hle:r.fa.fEdges.length<=100)(hl:l.length<=20)(K:List Cf->List Ma->Option (List Cf×List Ma×Int)) :
  ∀ (m k:Nat) (cs:List Cf) (all:List Ma),k<=l.length->l.length<m+k->cs.length<=150->all.length<=150*k->(∀ c∈cs,CB l r.fa k c)->(∀ d∈all,maOk d=true)->(wiP 150 r.fa l (l.drop k) cs (setL z6t all)).2.2=true ->
   ∃ cs' all',zbz N0 l r K m (cs,(k:Int),all)=K cs' all'/\wiP 150 r.fa l (l.drop k) cs (setL z6t all)=(cs',setL z6t all',true)/\(∀ d∈all',maOk d=true)/\all'.length<=4096/\cs'.length<=150/\(setL z6t all').length<=max 150 (setL z6t all).length/\(∀ c∈cs',CB l r.fa l.length c)
 |0,k,cs,all,h1,h2,h3,h4,h5,h6,h7=>by omega
 |m+1,k,cs,all,h1,h2,h3,h4,h5,h6,h7=>by
  unfold zbz
  simp only [List.length_map,z0o]
  by_cases h:k<l.length
  ·have he:=List.getElem_mem h
   have hch:∀ y∈l,zca y=zca l[k]->y=l[k]:=fun y hy hr=>by
    have e1:=lkH_mem hst hy
    have e2:=lkH_mem hst he
    rw [hr,e2] at e1
    exact (Option.some.inj e1).symm
   rw [z0f _ k h] at h7 ⊢
   unfold wiP at h7 ⊢
   have eM:puts z6t (setL z6t all) (maN r.fa l cs l[k])=setL z6t (all++maN r.fa l cs l[k]):=by unfold setL;rw [<-zkd]
   have hge:=puts_ge (maN r.fa l cs l[k]) (setL z6t all) (zsi zbf _) (zsi zbf _)
   by_cases q:150<(cfN r.fa l cs l[k]).length\/150<(puts z6t (setL z6t all) (maN r.fa l cs l[k])).length
   ·rw [if_pos q] at h7;cases h7
   rw [if_neg q] at h7 ⊢
   have o:=maN_ok hx (by omega) h5 l[k]
   rw [if_pos (by omega),z0r h,p_advance hx hm (by omega) hch hle cs h5 (by omega),z07]
   have hw:IntKind.wrap .i64 (((all.length:Nat):Int)+(((maN r.fa l cs l[k]).length:Nat):Int))=((all.length+(maN r.fa l cs l[k]).length:Nat):Int):=by rw [zd9 _ (by omega)];omega
   simp only [z3n,z1z,zd5,z8m,z0o]
   rw [if_neg (by omega),if_neg (by omega),hw,if_neg (by omega),zag (by omega) (by omega),z2m k (by omega)]
   rw [eM] at h7 ⊢
   obtain ⟨cs',all',a1,a2,a3,a4,a5,a6,a7⟩:=p_run_l2 hx hm hst hle hl K m (k+1) (cfN r.fa l cs l[k]) (all++maN r.fa l cs l[k]) (by omega) (by omega) (by omega) (by rw [List.length_append];omega) (cfN_cb hx hst h5 he) (fun d hd=>by
    rcases List.mem_append.1 hd with hd|hd
    ·exact h6 d hd
    ·exact o d hd) h7
   refine ⟨cs',all',a1,a2,a3,a4,a5,?_,a7⟩
   rw [eM] at q
   omega
  ·rw [if_neg (by omega)]
   have hk:k=l.length:=by omega
   rw [List.drop_eq_nil_of_le (by omega)]
   exact ⟨cs,all,rfl,rfl,h6,by omega,h3,by omega,by rw [<-hk];exact h5⟩
theorem p_run {a:Aut}{l:List Ev}(hw:WfA a)(hf:FewA a)(hl:l.length<=20)(hb:z1k N0 a l=some 0)(hsm:(wiP 150 a l l [cf0] []).2.2=true) :
  ∃ cs ms,wiP 150 a l l [cf0] []=(cs,ms,true)/\zh5 N0 a l=some (cs,ms,0)/\zlo N0 a l=some (cs,ms,0)/\cs.length<=150/\ms.length<=150/\(∀ c∈cs,CB l a l.length c)/\(∀ d∈ms,maOk d=true):=by
 obtain ⟨q,q1,q2⟩:=p_begin a hw l (by omega)
 rw [hb] at q1
 have q0:q=0:=(Option.some.inj q1).symm
 rcases q2 with ⟨h,_⟩|⟨_,ha,hs,_,_,mp,hm,hbeg⟩
 ·exact absurd q0 h
 have hx:CxA a l:=⟨hw,ha,fun x hx=>by have:=hf.2 x hx;omega,by omega⟩
 have hle:a.fEdges.length<=100:=by have:=hf.1;omega
 have e0:setL z6t ([]:List Ma)=[]:=rfl
 obtain ⟨cs,all,a1,a2,a3,a4,a5,a6,a7⟩:=p_run_l2 (r:=⟨a,mp⟩) hx hm hs.st hle hl (fun y0 y1=>bndM 62 (z9f N0 y1) fun x47=>some (y0,x47,0)) N0 0 [cf0] [] (Nat.zero_le _) (by unfold N0;omega) (by simp) (by simp) (fun c hc=>by rw [List.mem_singleton.1 hc];exact cb0 ha) (by simp) (by rw [List.drop_zero,e0];exact hsm)
 rw [List.drop_zero,e0] at a2
 have hr:=p_rwithin hx hs.st hle 4096 (by omega) (by omega) (by omega)
 refine ⟨cs,setL z6t all,a2,?_,?_,a5,by rw [e0] at a6;simpa using a6,a7,setM_ok a3⟩
 ·unfold zh5 bndP
  rw [hbeg]
  simp only [z0w,z0o]
  have hB:zlp N0=some cf0:=rfl
  rw [if_pos trivial,hB,z07]
  refine a1.trans ?_
  rw [p_uniqM N0 (by decide) all a3 (by omega),zcm]
 ·unfold zlo
  rw [hb,z07,z0w,z0o,if_pos rfl]
  have h4:((4096:Nat):Int)=4096:=rfl
  rw [h4] at hr
  rw [hr,z07,wi_up a l l [cf0] [] hsm,a2]
  exact z8n _ _
theorem p_small (a:Aut)(hw:WfA a)(l:List Ev):∃ b:Bool,z6h N0 a l=some b/\(b=true->FewA a/\l.length<=12/\∃ q:Int,z1k N0 a l=some q/\(q=0->(wiP 150 a l l [cf0] []).2.2=true)):=by
 obtain ⟨b,b1,b2⟩:=p_few23 a hw
 unfold z6h
 simp only [z3n,z1z,z2n]
 rw [b1,z07,p_few5 N0 l (by decide),z0w,z07]
 cases b with
 |false=>rw [z8n,z8m];exact ⟨false,rfl,fun h=>by cases h⟩
 |true =>
  rw [z8m]
  cases hfl:fewE l with
  |false=>simp only [Bool.not_false,z8m];exact ⟨false,rfl,fun h=>by cases h⟩
  |true =>
   simp only [Bool.not_true,z8n]
   obtain ⟨hl,_⟩:=fewE_out hfl
   obtain ⟨q,q1,q2⟩:=p_begin a hw l (by omega)
   rw [q1,z07,z0w,z0o]
   rcases q2 with ⟨h,_⟩|⟨h,ha,hs,_,_,_⟩
   ·rw [if_neg h]
    exact ⟨true,rfl,fun _=>⟨b2 rfl,hl,q,rfl,fun e=>absurd e h⟩⟩
   ·have hf:=b2 rfl
    have hx:CxA a l:=⟨hw,ha,fun x hx=>by have:=hf.2 x hx;omega,by omega⟩
    have hr:=p_rwithin hx hs.st (by have:=hf.1;omega) 150 (by omega) (by omega) (by omega)
    have h4:((150:Nat):Int)=150:=rfl
    rw [h4] at hr
    rw [if_pos h,hr,z07]
    exact ⟨_,rfl,fun hb=>⟨hf,hl,q,rfl,fun _=>hb⟩⟩
end Go.Proofs.YtjpknpjjcddnnaaGreat
namespace Go.Proofs.YtjpknpjjcddnnaaGreat
open Go.RowKit
theorem val_eq (x y:z02):(decide (x.fKind=y.fKind) && (decide (x.fNum=y.fNum) && ((x.fText.toList == y.fText.toList) && true)))=decide (x=y):=va_dec x y
theorem p_rsame1_l1 (n:Nat)(b a:List z02)(K:Option Bool):∀ (m k:Nat),k<=a.length->a.length=b.length->a.length<=1000000->a.length<m+k->z71 n b a K m k=if a.drop k=b.drop k then K else some false
 |0,k,h1,_,h2,h3=>by omega
 |m+1,k,h1,hl,h2,h3=>by
  unfold z71
  simp only [List.length_map,z0o,z0w,val_eq]
  by_cases h:k<a.length
  ·rw [if_pos (by omega),z0r h,z0r (by omega:k<b.length),z2m k (by omega)]
   rw [z0f a k h,z0f b k (by omega)]
   by_cases he:a[k]=b[k]'(by omega)
   ·rw [if_pos he,p_rsame1_l1 n b a K m (k+1) (by omega) hl h2 (by omega),he]
    simp only [List.cons.injEq,true_and]
   ·rw [if_neg he,if_neg (fun e=>he (List.cons.inj e).1)]
  ·rw [if_neg (by omega),List.drop_eq_nil_of_le (by omega),List.drop_eq_nil_of_le (by omega),if_pos rfl]
theorem p_rsame1 (n:Nat)(a b:List z02)(hn:a.length<n)(h2:a.length<=1000000):za7 n a b=some (decide (a=b)):=by
 unfold za7
 simp only [List.length_map,z0o,z0w]
 by_cases h:a.length=b.length
 ·rw [if_pos (by omega)]
  have:=p_rsame1_l1 n b a (some true) n 0 (by omega) h h2 (by omega)
  simp only [Int.natCast_zero,List.drop_zero] at this
  rw [this]
  by_cases e:a=b<;>simp [e]
 ·rw [if_neg (by omega)]
  have:a≠b:=fun e=>h (by rw [e])
  simp [this]
def fewV (n:Nat)(e:Ev):Prop:=e.fValues.length<n/\e.fValues.length<=1000000
theorem p_rEqual (n:Nat)(a b:Ev)(ha:fewV n a):z8c n a b=some (decide (a=b)):=by
 unfold z8c
 simp only [p_ref,z07,p_rsame1 n a.fValues b.fValues ha.1 ha.2,z0o,z3m]
 obtain ⟨s,q,ty,t,v⟩:=a
 obtain ⟨s',q',ty',t',v'⟩:=b
 simp only [z01.mk.injEq,Bool.and_true,Bool.and_eq_true,decide_eq_true_eq]
 by_cases h1:s=s'<;>by_cases h2:q=q'<;>by_cases h3:ty=ty'<;>by_cases h4:t=t'<;>simp [h1,h2,h3,h4]
theorem p_conf_l1 (n:Nat)(l:List Ev)(hv:∀ x∈l,fewV n x)(e:Ev)(K:Option Bool):∀ (m k:Nat),k<=l.length->l.length<=1000000->l.length<m+k->z2k n e l K m (k:Int)=if (l.drop k).any (fun x=>decide (idt x=idt e) && !decide (x=e)) then some true else K
 |0,k,h1,h2,h3=>by omega
 |m+1,k,h1,h2,h3=>by
  unfold z2k
  simp only [List.length_map,z0o,z0w]
  by_cases h:k<l.length
  ·rw [if_pos (by omega),z0r h,z0r h,z2m k (by omega)]
   simp only [p_twin,p_rEqual n l[k] e (hv _ (List.getElem_mem h)),z07,z0o]
   rw [z0f l k h,List.any_cons,p_conf_l1 n l hv e K m (k+1) (by omega) h2 (by omega)]
   by_cases h4:idt l[k]=idt e<;>by_cases h5:l[k]=e<;>simp [h4,h5]
  ·rw [if_neg (by omega),List.drop_eq_nil_of_le (by omega)];simp
theorem p_conf (n:Nat)(l:List Ev)(hv:∀ x∈l,fewV n x)(e:Ev)(hn:l.length<n)(h2:l.length<=1000000):z8b n l e=some (l.any (fun x=>decide (idt x=idt e) && !decide (x=e))):=by
 unfold z8b
 have:=p_conf_l1 n l hv e (some false) n 0 (by omega) h2 (by omega)
 simp only [Int.natCast_zero,List.drop_zero] at this
 rw [this]
 split
 ·rename_i h;rw [h]
 ·rename_i h;simp only [Bool.not_eq_true] at h;rw [h]
theorem p_has5_l1 (n:Nat)(l:List Ev)(hv:∀ x∈l,fewV n x)(e:Ev)(K:Option Bool):∀ (m k:Nat),k<=l.length->l.length<=1000000->l.length<m+k->z7r n e l K m (k:Int)=if (l.drop k).any (fun x=>decide (x=e)) then some true else K
 |0,k,h1,h2,h3=>by omega
 |m+1,k,h1,h2,h3=>by
  unfold z7r
  simp only [List.length_map,z0o,z0w]
  by_cases h:k<l.length
  ·rw [if_pos (by omega),z0r h,z2m k (by omega)]
   simp only [p_rEqual n l[k] e (hv _ (List.getElem_mem h)),z07,z0o]
   rw [z0f l k h,List.any_cons,p_has5_l1 n l hv e K m (k+1) (by omega) h2 (by omega)]
   by_cases h5:l[k]=e<;>simp [h5]
  ·rw [if_neg (by omega),List.drop_eq_nil_of_le (by omega)];simp
theorem p_has5 (n:Nat)(l:List Ev)(hv:∀ x∈l,fewV n x)(e:Ev)(hn:l.length<n)(h2:l.length<=1000000):zay n l e=some (decide (e∈l)):=by
 unfold zay
 have:=p_has5_l1 n l hv e (some false) n 0 (by omega) h2 (by omega)
 simp only [Int.natCast_zero,List.drop_zero] at this
 rw [this]
 have e1:l.any (fun x=>decide (x=e))=decide (e∈l):=by
  rw [Bool.eq_iff_iff];simp
 rw [e1]
 by_cases h:e∈l<;>simp [h]
def putR:List Ev->Ev->List Ev
 |[],e=>[e]
 |x::r,e=>if zd2 x e<0 then x::putR r e else e::x::r
theorem putR_split (e:Ev):∀ (l:List Ev) (k:Nat),k<=l.length->(∀ x∈l.take k,zd2 x e<0)->putR l e=l.take k++putR (l.drop k) e
 |l,0,_,_=>by simp
 |[],k+1,h,_=>by simp at h
 |x::r,k+1,h,hx=>by
  have h1:=hx x (by simp)
  rw [putR,if_pos h1,putR_split e r k (by simpa using h) (fun y hy=>hx y (by simp [hy]))]
  rfl
theorem p_put_l1 (n:Nat)(e:Ev)(l:List Ev)(K:Int->List Ev->Option (List Ev))(hK:∀ k,k<=l.length->(∀ x∈l.take k,zd2 x e<0)->(∀ h:k<l.length,¬zd2 l[k] e<0)->K (k:Int) (l.take k)=some (putR l e)):∀ (m k:Nat),k<=l.length->l.length<=1000000->l.length<m+k->(∀ x∈l.take k,zd2 x e<0) ->
  z7p n e l K m ((k:Int),l.take k)=some (putR l e)
 |0,k,h1,h2,h3,_=>by omega
 |m+1,k,h1,h2,h3,hx=>by
  unfold z7p
  simp only [List.length_map,z0o]
  by_cases h:k<l.length
  ·rw [if_pos (by omega),z0r h,z2m k (by omega)]
   simp only [p_ref,z07,p_rorder,z0o]
   have ec:rCmp ⟨l[k].fTime,l[k].fSource,l[k].fSeq⟩ ⟨e.fTime,e.fSource,e.fSeq⟩=zd2 l[k] e:=rfl
   rw [ec]
   by_cases hc:zd2 l[k] e<0
   ·rw [if_pos hc,z0r h,zag (by simp;omega) (by omega),<-List.take_succ_eq_append_getElem h]
    refine p_put_l1 n e l K hK m (k+1) (by omega) h2 (by omega) (fun x hx'=>?_)
    rw [List.take_succ_eq_append_getElem h] at hx'
    simp only [List.mem_append,List.mem_singleton] at hx'
    rcases hx' with hx'|rfl
    ·exact hx x hx'
    ·exact hc
   ·rw [if_neg hc];exact hK k h1 hx (fun _=>hc)
  ·rw [if_neg (by omega)];exact hK k h1 hx (fun h'=>absurd h' h)
theorem p_put (n:Nat)(l:List Ev)(e:Ev)(hn:l.length<n)(h2:l.length<=100000):zax n l e=some (putR l e):=by
 unfold zax
 have:=p_put_l1 n e l (fun k1_0_0y0 k1_0_0y1=>app k1_0_0y1 [e] 56 fun x43=>sls l k1_0_0y0 (((List.map z04 (l)).length:Nat):Int) fun x44=>app x43 x44 56 fun x45=>some x45) (fun k hk hx hnx=>?_) n 0 (by omega) (by omega) (by omega) (by simp)
 ·simpa using this
 ·simp only [List.length_map]
  rw [zag (by simp;omega) (by omega),zwf hk (Nat.le_refl _),List.take_length,zag (by simp;omega) (by omega)]
  congr 1
  rw [putR_split e l k hk hx,List.append_assoc]
  congr 1
  by_cases h:k<l.length
  ·rw [z0f l k h,putR,if_neg (hnx h)]
   rfl
  ·rw [List.drop_eq_nil_of_le (by omega)];rfl
theorem chk_dist:∀ (l p:List Ev),chk p l=0->(∀ x∈p,∀ e∈l,idt x≠idt e)/\l.Pairwise (fun x y=>idt x≠idt y)
 |[],p,_=>⟨by simp,by simp⟩
 |e::l,p,h=>by
  unfold chk at h
  split at h
  ·cases h
  split at h
  ·cases h
  split at h
  ·cases h
  rename_i h1 h2 h3
  obtain ⟨a1,a2⟩:=chk_dist l (e::p) h
  refine ⟨fun x hx y hy=>?_,List.pairwise_cons.2 ⟨fun y hy=>a1 e (by simp) y hy,a2⟩⟩
  rcases List.mem_cons.1 hy with k|k
  ·rw [k]
   intro q
   exact h3 (List.any_eq_true.2 ⟨x,hx,by simpa using q⟩)
  ·exact a1 x (List.mem_cons_of_mem _ hx) y k
theorem chk_intro:∀ (l p:List Ev),(∀ e∈l,zfh e=true)->Str zd2 l->(∀ h t,p=h::t->∀ e∈l,zd2 h e<0)->(∀ x∈p,∀ e∈l,idt x≠idt e)->l.Pairwise (fun x y=>idt x≠idt y)->chk p l=0
 |[],p,_,_,_,_,_=>by unfold chk;rfl
 |e::l,p,h1,h2,h3,h4,h5=>by
  obtain ⟨s1,s2⟩:=List.pairwise_cons.1 h2
  obtain ⟨d1,d2⟩:=List.pairwise_cons.1 h5
  unfold chk
  have c2:headGe p e=false:=by
   cases p with
   |nil=>rfl
   |cons x t=>have:=h3 x t rfl e (by simp);simp [headGe];omega
  have c3:p.any (fun x=>decide (idt x=idt e))=false:=by
   rw [List.any_eq_false]
   intro x hx
   simpa using h4 x hx e (by simp)
  rw [if_neg (by rw [h1 e (by simp)];simp),if_neg (by rw [c2];simp),if_neg (by rw [c3];simp)]
  refine chk_intro l (e::p) (fun x hx=>h1 x (List.mem_cons_of_mem _ hx)) s2 (fun q t hq x hx=>?_) (fun x hx y hy=>?_) d2
  ·injection hq with hq _;rw [<-hq];exact s1 x hx
  ·rcases List.mem_cons.1 hx with k|k
   ·rw [k];exact d1 y hy
   ·exact h4 x k y (List.mem_cons_of_mem _ hy)
theorem putR_form (e:Ev):∀ l:List Ev,∃ a b,l=a++b/\putR l e=a++e::b/\(∀ x∈a,zd2 x e<0)/\(∀ x t,b=x::t->¬zd2 x e<0)
 |[]=>⟨[],[],rfl,rfl,by simp,by simp⟩
 |x::l=>by
  unfold putR
  split
  ·rename_i h
   obtain ⟨a,b,h1,h2,h3,h4⟩:=putR_form e l
   refine ⟨x::a,b,by rw [h1];rfl,by rw [h2];rfl,fun y hy=>?_,h4⟩
   rcases List.mem_cons.1 hy with k|k
   ·rw [k];exact h
   ·exact h3 y k
  ·rename_i h
   exact ⟨[],x::l,rfl,rfl,by simp,fun y t hq=>by injection hq with hq _;rw [<-hq];exact h⟩
theorem evCmp_neg (a b:Ev):zd2 b a=- zd2 a b:=y0b.neg _ _
theorem evCmp_idt {a b:Ev}(h:zd2 a b=0):idt a=idt b:=by
 have:=(y0b.zero _ _).1 h
 unfold zca at this
 injection this with h1 h2 h3
 unfold idt
 rw [h2,h3]
theorem put_stream {l:List Ev}(h:zga l=0){e:Ev}(hp:zfh e=true)(hi:∀ x∈l,idt x≠idt e)(hl:l.length<4096):∃ a b,l=a++b/\putR l e=a++e::b/\zga (putR l e)=0:=by
 obtain ⟨a,b,h1,h2,h3,h4⟩:=putR_form e l
 refine ⟨a,b,h1,h2,?_⟩
 have so:=zse h
 have hc:chk [] l=0:=by
  unfold zga at h
  rw [if_neg (by omega)] at h
  exact h
 obtain ⟨_,hd⟩:=chk_dist l [] hc
 have hst:=so.st
 have hpl:=so.pl
 subst h1
 unfold Str at hst
 rw [List.pairwise_append] at hst hd
 obtain ⟨s1,s2,s3⟩:=hst
 obtain ⟨d1,d2,d3⟩:=hd
 have hb:∀ x∈b,zd2 e x<0:=by
  cases b with
  |nil=>simp
  |cons y t =>
   have k1:=h4 y t rfl
   have k2:zd2 e y<0:=by
    have k3:=evCmp_neg y e
    have k4:zd2 y e≠0:=fun q=>hi y (by simp) (evCmp_idt q)
    omega
   intro x hx
   rcases List.mem_cons.1 hx with k|k
   ·rw [k];exact k2
   ·exact y0b.trans _ _ _ k2 ((List.pairwise_cons.1 s2).1 x k)
 unfold zga
 rw [h2,if_neg (by rw [List.length_append] at hl;simp;omega)]
 refine chk_intro _ [] (fun x hx=>?_) ?_ (by simp) (by simp) ?_
 ·rcases List.mem_append.1 hx with k|k
  ·exact hpl x (by simp [k])
  ·rcases List.mem_cons.1 k with k|k
   ·rw [k];exact hp
   ·exact hpl x (by simp [k])
 ·unfold Str
  rw [List.pairwise_append]
  refine ⟨s1,List.pairwise_cons.2 ⟨hb,s2⟩,fun x hx y hy=>?_⟩
  rcases List.mem_cons.1 hy with k|k
  ·rw [k];exact h3 x hx
  ·exact s3 x hx y k
 ·rw [List.pairwise_append]
  refine ⟨d1,List.pairwise_cons.2 ⟨fun x hx=>fun q=>hi x (by simp [hx]) q.symm,d2⟩,fun x hx y hy=>?_⟩
  rcases List.mem_cons.1 hy with k|k
  ·rw [k];exact hi x (by simp [hx])
  ·exact d3 x hx y k
theorem p_rins {l:List Ev}(h:zga l=0)(e:Ev)(hl:l.length<=20)(hv:∀ x∈l,x.fValues.length<=100):∃ more r,z98 N0 l e=some (more,r)/\(r=0->zga more=0/\(more=l\/∃ a b,l=a++b/\more=a++e::b)):=by
 unfold z98
 rw [p_rchk N0 l (by unfold N0;omega) (by omega),z07,h,z0w,z0o,if_pos rfl,p_rplaced,z07,z0w]
 cases hp:zfh e with
 |false=>rw [z8n];exact ⟨[],2,rfl,fun q=>by cases q⟩
 |true =>
  have hvl:∀ x∈l,fewV N0 x:=fun x hx=>⟨by have:=hv x hx;unfold N0;omega,by have:=hv x hx;omega⟩
  rw [z8m,p_conf N0 l hvl e (by unfold N0;omega) (by omega),z07]
  cases hcf:l.any (fun x=>decide (idt x=idt e) && !decide (x=e)) with
  |true=>rw [z8m];exact ⟨[],22,rfl,fun q=>by cases q⟩
  |false =>
   rw [z8n,p_has5 N0 l hvl e (by unfold N0;omega) (by omega),z07,z0o]
   by_cases hm:e∈l
   ·rw [if_pos hm];exact ⟨l,0,rfl,fun _=>⟨h,Or.inl rfl⟩⟩
   ·rw [if_neg hm,z0o,List.length_map,if_neg (by omega),p_put N0 l e (by unfold N0;omega) (by omega),z07]
    refine ⟨putR l e,0,rfl,fun _=>?_⟩
    have hi:∀ x∈l,idt x≠idt e:=fun x hx q=>by
     have:=List.any_eq_false.1 hcf x hx
     simp [q] at this
     rw [this] at hx
     exact hm hx
    obtain ⟨a,b,h1,h2,h3⟩:=put_stream h hp hi (by omega)
    exact ⟨h3,Or.inr ⟨a,b,h1,h2⟩⟩
theorem foldB_congr {h1 h2:List Ev}:∀ (l:List Bd) (vs:List (List Ev)),(∀ b∈l,lkH h1 b.fRef=lkH h2 b.fRef)->l.foldl (addB h1) vs=l.foldl (addB h2) vs
 |[],vs,_=>rfl
 |b::l,vs,h=>by
  rw [List.foldl_cons,List.foldl_cons]
  have:addB h1 vs b=addB h2 vs b:=by unfold addB;rw [h b (by simp)]
  rw [this]
  exact foldB_congr l _ (fun x hx=>h x (List.mem_cons_of_mem _ hx))
theorem enH_congr {h1 h2:List Ev}{l:List Bd}(h:∀ b∈l,lkH h1 b.fRef=lkH h2 b.fRef):enH h1 l=enH h2 l:=foldB_congr l _ h
theorem coP_congr {a:Aut}{h1 h2:List Ev}{c:Cf}(h:∀ b∈c.fBindings,lkH h1 b.fRef=lkH h2 b.fRef)(x:Ed)(e:Ev):coP a h1 c x e=coP a h2 c x e:=by
 have e2:enH (e::h1) (bdN c x e)=enH (e::h2) (bdN c x e):=enH_congr (fun b hb=>by
  unfold lkH
  rw [List.find?_cons,List.find?_cons]
  by_cases q:zca e=b.fRef
  ·simp [q]
  ·simp only [q,decide_false]
   rcases List.mem_append.1 hb with hb|hb
   ·exact h b hb
   ·rw [List.mem_singleton.1 hb] at q;exact absurd rfl q)
 unfold coP
 rw [enH_congr h,e2]
theorem outP_congr {a:Aut}{h1 h2:List Ev}{c:Cf}(h:∀ b∈c.fBindings,lkH h1 b.fRef=lkH h2 b.fRef)(e:Ev):outP a h1 c e=outP a h2 c e:=by
 unfold outP skP
 rw [enH_congr h]
 congr 1
 exact congrArg (fun f=>List.filterMap f (fromL a c.fState)) (funext fun x=>coP_congr h x e)
theorem flat_congr {α β:Type}{f g:α->List β}:∀ {l:List α},(∀ x∈l,f x=g x)->l.flatMap f=l.flatMap g
 |[],_=>rfl
 |x::l,h=>by rw [List.flatMap_cons,List.flatMap_cons,h x (by simp),flat_congr (fun y hy=>h y (List.mem_cons_of_mem _ hy))]
theorem cfN_congr {a:Aut}{h1 h2:List Ev}{l:List Cf}(h:∀ c∈l,∀ b∈c.fBindings,lkH h1 b.fRef=lkH h2 b.fRef)(e:Ev):cfN a h1 l e=cfN a h2 l e:=by
 unfold cfN;rw [flat_congr (fun c hc=>by rw [outP_congr (h c hc) e])]
theorem maN_congr {a:Aut}{h1 h2:List Ev}{l:List Cf}(h:∀ c∈l,∀ b∈c.fBindings,lkH h1 b.fRef=lkH h2 b.fRef)(e:Ev):maN a h1 l e=maN a h2 l e:=by
 unfold maN;rw [flat_congr (fun c hc=>by rw [outP_congr (h c hc) e])]
theorem lk_more {l more:List Ev}(hs:Str zd2 more)(hm:∀ x∈l,x∈more){r:Rf}(h:(lkH l r).isSome=true):lkH l r=lkH more r:=by
 obtain ⟨y,hy⟩:=Option.isSome_iff_exists.1 h
 obtain ⟨h1,h2⟩:=lkH_ref hy
 have:=lkH_mem hs (hm y h2)
 rw [h1] at this
 rw [hy,this]
theorem cb_lk {a:Aut}{l more:List Ev}(hs:Str zd2 more)(hm:∀ x∈l,x∈more){k:Nat}{cs:List Cf}(hc:∀ c∈cs,CB l a k c):∀ c∈cs,∀ b∈c.fBindings,lkH l b.fRef=lkH more b.fRef:=fun c h b hb=>lk_more hs hm ((hc c h).bd b hb).2
theorem wi_congr {a:Aut}{l more:List Ev}(hx:CxA a l)(hst:Str zd2 l)(hs:Str zd2 more)(hm:∀ x∈l,x∈more):∀ (r:List Ev) (k:Nat) (cs:List Cf) (ms:List Ma),(∀ e∈r,e∈l)->(∀ c∈cs,CB l a k c)->wiP 150 a l r cs ms=wiP 150 a more r cs ms
 |[],k,cs,ms,_,_=>rfl
 |e::r,k,cs,ms,hr,hc=>by
  have q:=cb_lk hs hm hc
  unfold wiP
  rw [cfN_congr q,maN_congr q]
  split
  ·rfl
  ·refine wi_congr hx hst hs hm r (k+1) _ _ (fun x hx=>hr x (List.mem_cons_of_mem _ hx)) ?_
   rw [<-cfN_congr q]
   exact cfN_cb hx hst hc (hr e (by simp))
def Unused (a:Aut)(t:Int):Prop:=(∀ x∈a.fEdges,x.fType≠t)/\∀ s∈a.fStates,∀ g∈s.fGuards,g.fType≠t
theorem outP_unused {a:Aut}{held:List Ev}{c:Cf}(hs:0<=c.fState/\c.fState<a.fStates.length){e:Ev}(hu:Unused a e.fType):outP a held c e=[c]:=by
 obtain ⟨st,g1,g2,g3⟩:=zws hs
 unfold outP
 have h1:skP a held c e=true:=by
  unfold skP
  rw [g3]
  have:st.fGuards.any (vio (enH held c.fBindings) e)=false:=by
   rw [List.any_eq_false]
   intro g hg
   unfold vio
   have:=hu.2 st g2 g hg
   simp [this]
  rw [this];rfl
 have h2:(fromL a c.fState).filterMap (fun x=>coP a held c x e)=[]:=by
  rw [List.filterMap_eq_nil_iff]
  intro x hx
  unfold coP
  rw [if_neg (fun h=>hu.1 x (y1d hx).1 h.1)]
 rw [h1,h2]
 rfl
theorem cfN_unused {a:Aut}{held:List Ev}{k:Nat}{cs:List Cf}(hc:∀ c∈cs,CB held a k c)(hs:Str zbh cs){e:Ev}(hu:Unused a e.fType):cfN a held cs e=cs/\maN a held cs e=[]:=by
 have h1:cs.flatMap (fun c=>cfO (outP a held c e))=cs:=by
  have:∀ l:List Cf,(∀ c∈l,cfO (outP a held c e)=[c])->l.flatMap (fun c=>cfO (outP a held c e))=l:=fun l=>by
   induction l with
   |nil=>intro _;rfl
   |cons c l ih=>intro h;rw [List.flatMap_cons,h c (by simp),ih (fun d hd=>h d (List.mem_cons_of_mem _ hd))];rfl
  refine this cs (fun c h=>?_)
  rw [outP_unused (hc c h).st hu,cfO_cons,if_neg (by have:=(hc c h).st;omega)]
  rfl
 have h2:cs.flatMap (fun c=>maO (outP a held c e))=[]:=by
  rw [List.flatMap_eq_nil_iff]
  intro c h
  rw [outP_unused (hc c h).st hu,maO_cons,if_neg (by have:=(hc c h).st;omega)]
  rfl
 unfold cfN maN
 rw [h1,h2]
 exact ⟨setL_of_str zf5 hs,rfl⟩
theorem wi_ins {a:Aut}{more:List Ev}(hx:CxA a more)(hst:Str zd2 more){q:Ev}(hu:Unused a q.fType)(hq:q∈more)(b:List Ev):∀ (p:List Ev) (k:Nat) (cs:List Cf) (ms:List Ma),(∀ e∈p,e∈more)->(∀ c∈cs,CB more a k c)->Str zbh cs->cs.length<=150->ms.length<=150->wiP 150 a more (p++q::b) cs ms=wiP 150 a more (p++b) cs ms
 |[],k,cs,ms,_,hc,hs,h1,h2=>by
  obtain ⟨e1,e2⟩:=cfN_unused hc hs hu
  rw [List.nil_append,List.nil_append]
  conv=>lhs;unfold wiP
  rw [e1,e2,puts_nil,if_neg (by omega)]
 |e::p,k,cs,ms,hp,hc,hs,h1,h2=>by
  rw [List.cons_append,List.cons_append]
  unfold wiP
  split
  ·rfl
  ·rename_i hn
   exact wi_ins hx hst hu hq b p (k+1) _ _ (fun x hx=>hp x (List.mem_cons_of_mem _ hx)) (cfN_cb hx hst hc (hp e (by simp))) (zsi zf5 _) (by omega) (by omega)
theorem ct_edges (a:Aut)(h:a.fEdges.length<=1100000):z4p N0 a.fEdges=some (a.fEdges.any (fun x=>decide (x.fType=13))):=p_cont_s207 N0 _ a.fEdges (by omega) (by unfold N0;omega) (fun x _=>rfl)
theorem ct_states (a:Aut)(hw:WfA a):z4o N0 a.fStates=some (a.fStates.any (fun s=>s.fGuards.any (fun g=>decide (g.fType=13)))):=p_cont_s210 N0 _ a.fStates (by have:=hw.ls;omega) (by have:=hw.ls;unfold N0;omega) (fun s hs=>by
 have:=(hw.st s hs).1
 unfold z29
 rw [p_cont_s211 N0 (fun g=>decide (g.fType=13)) s.fGuards (by omega) (by unfold N0;omega) (fun g _=>rfl),z07])
theorem p_small_vals (l:List Ev){a:Aut}(h:z6h N0 a l=some true)(hw:WfA a):∀ x∈l,x.fValues.length<=12:=by
 obtain ⟨b,b1,_⟩:=p_few23 a hw
 unfold z6h at h
 simp only [z3n,z1z,z2n] at h
 rw [b1,z07,p_few5 N0 l (by decide),z0w,z07] at h
 cases b with
 |false=>rw [z8n,z8m] at h;cases h
 |true =>
  rw [z8m] at h
  cases hfl:fewE l with
  |false=>rw [hfl] at h;simp only [Bool.not_false,z8m] at h;cases h
  |true=>exact (fewE_out hfl).2
theorem law_ignores (a:Aut)(hw:WfA a)(l:List Ev)(at_:Int):z94 N0 a l at_=some true:=by
 obtain ⟨b,b1,b2⟩:=p_small a hw l
 have hawk:z4a N0=some true:=awake_ok
 have j1t:z15 N0 at_ l a true=some true:=by unfold z15;rw [z8m,hawk,z07]
 have j2t:z1c N0 at_ l a true=some true:=by unfold z1c;rw [z8m,hawk,z07]
 unfold z94
 simp only [z3n,z1z]
 rw [b1,z07,z0w]
 cases b with
 |false=>rw [z8n,j1t]
 |true =>
 obtain ⟨hf,hl,q,hb,hs⟩:=b2 rfl
 have hvals:=p_small_vals l b1 hw
 obtain ⟨q',q1,q2⟩:=p_begin a hw l (by omega)
 rw [hb] at q1
 obtain rfl:=Option.some.inj q1
 obtain ⟨r,r1,_,r3⟩:=p_acheck N0 (by decide) a hw
 rw [z8m,r1,z07,z0w,z0o]
 by_cases hr:r=0
 rotate_left
 ·rw [if_neg hr,j1t]
 subst hr
 rw [if_pos rfl,p_rchk N0 l (by unfold N0;omega) (by omega),z07]
 have hb':z1k N0 a l=some (zga l):=by
  unfold z1k
  rw [r1,z07,z0w,z0o,if_pos rfl,p_rchk N0 l (by unfold N0;omega) (by omega),z07]
 rw [hb] at hb'
 obtain rfl:=Option.some.inj hb'
 by_cases hz:zga l=0
 rotate_left
 ·have:(!decide (zga l=0))=true:=by simp [hz]
  rw [this,j1t]
 have:(!decide (zga l=0))=false:=by simp [hz]
 rw [this]
 unfold z15
 simp only [z3n,z1z]
 rw [z8n,ct_edges a hw.le,z07,ct_states a hw,z07]
 cases hu1:a.fEdges.any (fun x=>decide (x.fType=13)) with
 |true=>rw [z8m,j2t]
 |false =>
 rw [z8n]
 cases hu2:a.fStates.any (fun s=>s.fGuards.any (fun g=>decide (g.fType=13))) with
 |true=>exact j2t
 |false =>
 have hu:Unused a 13:=⟨fun x hx q=>by have:=List.any_eq_false.1 hu1 x hx;simp [q] at this,fun s hs' g hg q=>by
  have:=List.any_eq_false.1 hu2 s hs'
  rw [Bool.not_eq_true,List.any_eq_false] at this
  have:=this g hg
  simp [q] at this⟩
 unfold z1c
 rw [z8n,nzx_ok (by decide)]
 obtain ⟨more,n,m1,m2⟩:=p_rins hz (⟨7,99,13,IntKind.wrap .i64 (at_.tmod 12),[]⟩:Ev) (by omega) (fun x hx=>by have:=hvals x hx;omega)
 rw [m1,z07,z0w,z0o]
 by_cases hn:n=0
 rotate_left
 ·rw [if_neg hn,hawk,z07]
 rw [if_pos hn]
 obtain ⟨mz,mf⟩:=m2 hn
 have so:=zse hz
 have ha:AOk a:=r3 rfl
 have hbz:z1k N0 a l=some 0:=by rw [hb,hz]
 obtain ⟨cs,ms,w1,a1,_,a3,a4,a5,a6⟩:=p_run hw hf (by omega) hbz (hs hz)
 have key:zh5 N0 a more=some (cs,ms,0):=by
  rcases mf with rfl|⟨p,b,e1,e2⟩
  ·exact a1
  ·have mo:=zse mz
   have hml:more.length<=20:=by rw [e2];rw [e1] at hl;simp at hl ⊢;omega
   have hmm:∀ x∈l,x∈more:=fun x hx=>by
    rw [e1] at hx;rw [e2]
    rcases List.mem_append.1 hx with k|k
    ·simp [k]
    ·simp [k]
   have hxl:CxA a l:=⟨hw,ha,fun x hx=>by have:=hf.2 x hx;omega,by omega⟩
   have hxm:CxA a more:=⟨hw,ha,fun x hx=>by have:=hf.2 x hx;omega,by omega⟩
   have c0:∀ c∈[cf0],CB l a 0 c:=fun c hc=>by rw [List.mem_singleton.1 hc];exact cb0 ha
   have c0m:∀ c∈[cf0],CB more a 0 c:=fun c hc=>by rw [List.mem_singleton.1 hc];exact cb0 ha
   have wm:wiP 150 a more more [cf0] []=(cs,ms,true):=by
    have h2:=wi_congr hxl so.st mo.st hmm l 0 [cf0] [] (fun e h=>h) c0
    rw [w1] at h2
    rw [h2]
    have h3:=wi_ins hxm mo.st (q:=⟨7,99,13,IntKind.wrap .i64 (at_.tmod 12),[]⟩) hu (by rw [e2];simp) b p 0 [cf0] [] (fun e h=>hmm e (by rw [e1];simp [h])) c0m (by simp [Str]) (by simp) (by simp)
    rw [<-e1] at h3
    have h4:wiP 150 a more more [cf0] []=wiP 150 a more (p++(⟨7,99,13,IntKind.wrap .i64 (at_.tmod 12),[]⟩:Ev)::b) [cf0] []:=by rw [<-e2]
    rw [h4,h3]
   have hbm:z1k N0 a more=some 0:=by
    unfold z1k
    rw [r1,z07,z0w,z0o,if_pos rfl,p_rchk N0 more (by unfold N0;omega) (by omega),z07,mz]
   obtain ⟨cs',ms',w1',a1',_⟩:=p_run hw hf hml hbm (by rw [wm])
   rw [wm] at w1'
   simp only [Prod.mk.injEq,and_true] at w1'
   rw [w1'.1,w1'.2]
   exact a1'
 rw [a1,key,z07,z07]
 simp only [z3n,z1z,z14,p_sameC N0 (by decide) cs cs (fun c hc=>(a5 c hc).sz.ok (by omega)) (fun c hc=>(a5 c hc).sz.ok (by omega)) (by omega),p_sameM N0 (by decide) ms ms a6 a6 (by omega),z07,decide_true,z8m,hawk]
end Go.Proofs.YtjpknpjjcddnnaaGreat
namespace Go.Proofs.YtjpknpjjcddnnaaGreat
open Go.RowKit
def zr3 (rF_tidegateref08_Count:z0k->Int->Option (Int))(a1:Int)(a0:z0k)(v1_0:Int×Int)(k1_0_0:Int->Option (Int))(cv1_0:(Int×Int)->Option (Int))(w3_1:Bool):AS:=⟨[(1,aI (a1)),(2,.ptr 2 0),(5,aI (v1_0.1)),(6,aI (v1_0.2)),(16,.bool (w3_1))],[(2,.box 47 [aI (a0.fOp),.sl 8 (a0.fArgs.map idA),aI (a0.fVar),aI (a0.fField),aI (a0.fKind),aI (a0.fValue.fKind),aI (a0.fValue.fNum),.str (a0.fValue.fText)])]⟩
theorem zpn {n rF_tidegateref08_Count a1 a0 v1_0 k1_0_0 cv1_0}:z57 E0 29 (z41 n rF_tidegateref08_Count a1 a0 v1_0 k1_0_0 cv1_0) (zr3 rF_tidegateref08_Count a1 a0 v1_0 k1_0_0 cv1_0):=AW.jT
def zr2 (rF_tidegateref08_Count:z0k->Int->Option (Int))(a1:Int)(a0:z0k)(v1_0:Int×Int):AS:=⟨[(1,aI (a1)),(2,.ptr 2 0),(5,aI (v1_0.1)),(6,aI (v1_0.2))],[(2,.box 47 [aI (a0.fOp),.sl 8 (a0.fArgs.map idA),aI (a0.fVar),aI (a0.fField),aI (a0.fKind),aI (a0.fValue.fKind),aI (a0.fValue.fNum),.str (a0.fValue.fText)])]⟩
theorem zpm {n rF_tidegateref08_Count a1 a0 k1_0_0}:z26 E0 29 (z2o n rF_tidegateref08_Count a1 a0 k1_0_0) (zr2 rF_tidegateref08_Count a1 a0):=LoopA.oT fun _=>rfl
def zbk (r:Int):AV:=aI (r)
theorem zgi {n a0 a1 r}(hF:z31 n a0 a1=some r):Con E0 true 97 [.agg [aI (a0.fOp),.sl 8 (a0.fArgs.map idA),aI (a0.fVar),aI (a0.fField),aI (a0.fKind),aI (a0.fValue.fKind),aI (a0.fValue.fNum),.str (a0.fValue.fText)],aI (a1)] (zbk r):=by
 induction n generalizing a0 a1 r
 case zero=>cases hF
 case succ n ih =>
 unfold z31 at hF
 refine Con.walk _ Tryz.func97 rfl (z08 Tryz.func97 rfl rfl) rfl (Or.inr rfl) ?_
 repeat' first
  |refine zpn hF (fun hF=>?_) (fun v hF=>?_);rotate_left;unfold z41 at hF
  |refine AW.regO hF (fun hF=>?_)
  |refine AW.stepU [3] ?_;conv=>whnf
  |refine z0v.o hF (fun hF=>?_) (fun hF=>?_)
  |refine IdxX.oD hF z6r (fun x hF=>?_)
  |refine z0m.o hF zbk (fun a h=>ih h) (fun a hF=>?_)
  |exact ⟨_,hF,LeX.a []⟩
  |exact ⟨_,hF,LeX.a []⟩
  |refine zpm hF (LeX.a []) (fun m v hF=>?_);unfold z2o at hF
  |exact RetX.oA hF
def zr1 (rF_tidegateref08_Depth:z0k->Option (Int))(a0:z0k)(v1_0:Int×Int):AS:=⟨[(1,.ptr 1 0),(3,aI (v1_0.1)),(4,aI (v1_0.2))],[(1,.box 47 [aI (a0.fOp),.sl 8 (a0.fArgs.map idA),aI (a0.fVar),aI (a0.fField),aI (a0.fKind),aI (a0.fValue.fKind),aI (a0.fValue.fNum),.str (a0.fValue.fText)])]⟩
theorem zpl {n rF_tidegateref08_Depth a0 k1_0_0}:z26 E0 22 (z68 n rF_tidegateref08_Depth a0 k1_0_0) (zr1 rF_tidegateref08_Depth a0):=LoopA.oT fun _=>rfl
def zbj (r:Int):AV:=aI (r)
theorem zgh {n a0 r}(hF:z30 n a0=some r):Con E0 true 98 [.agg [aI (a0.fOp),.sl 8 (a0.fArgs.map idA),aI (a0.fVar),aI (a0.fField),aI (a0.fKind),aI (a0.fValue.fKind),aI (a0.fValue.fNum),.str (a0.fValue.fText)]] (zbj r):=by
 induction n generalizing a0 r
 case zero=>cases hF
 case succ n ih =>
 unfold z30 at hF
 refine Con.walk _ Tryz.func98 rfl (z08 Tryz.func98 rfl rfl) rfl (Or.inr rfl) ?_
 repeat' first
  |refine AW.step ?_;conv=>whnf
  |refine z0v.o hF (fun hF=>?_) (fun hF=>?_)
  |refine IdxX.oD hF z6r (fun x hF=>?_)
  |refine z0m.o hF zbj (fun a h=>ih h) (fun a hF=>?_)
  |exact ⟨_,hF,LeX.a []⟩
  |refine zpl hF (LeX.a []) (fun m v hF=>?_);unfold z68 at hF
  |exact RetX.oA hF
def zqw (w2_1:Bool):AS:=⟨[(12,.bool (w2_1))],[]⟩
theorem zpg {n}:zjk E0 20 (z19 n) zqw:=AW.jT2
def zqx (a0:Int)(w1_0:Bool):AS:=⟨[(3,aI (a0)),(4,.bool (w1_0))],[]⟩
theorem zph {n a0}:zjk E0 20 (z1n n a0) (zqx a0):=AW.jT2
def zii (r:Int):AV:=aI (r)
theorem zsw {n a0 r}(hF:z9p n a0=some r):Con E0 true 186 [aI (a0)] (zii r):=by
 unfold z9p at hF
 refine Con.walk _ Tryz.func186 rfl (z08 Tryz.func186 rfl rfl) rfl (Or.inr rfl) ?_
 repeat' first
  |refine zpg hF (fun hF=>?_) (fun v hF=>?_);rotate_left;unfold z19 at hF
  |refine zph hF (fun hF=>?_) (fun v hF=>?_);rotate_left;unfold z1n at hF
  |refine AW.regO hF (fun hF=>?_)
  |refine AW.stepU [2,3,4,5,10,11,12,13,14,15] ?_;conv=>whnf
  |refine z0v.o hF (fun hF=>?_) (fun hF=>?_)
  |exact ⟨_,hF,LeX.a []⟩
  |exact ⟨_,hF,LeX.a []⟩
  |exact RetX.oA hF
def ztl (w1_0:Bool)(w2_1:Bool):AS:=⟨[(2,.bool (w2_1)),(3,.bool (w1_0))],[]⟩
theorem zs2 {n w1_0}:z57 E0 21 (z2y n w1_0) (ztl w1_0):=AW.jT
def ztm (a0:Int)(w1_0:Bool):AS:=⟨[(0,aI (a0)),(4,.bool (w1_0))],[]⟩
theorem zs3 {n a0}:z57 E0 21 (z4w n a0) (ztm a0):=AW.jT
def zjb (r:Bool×Bool):AV:=.tup [.bool (r.1),.bool (r.2)]
theorem zv7 {n a0 r}(hF:za4 n a0=some r):Con E0 true 187 [aI (a0)] (zjb r):=by
 unfold za4 at hF
 refine Con.walk _ Tryz.func187 rfl (z08 Tryz.func187 rfl rfl) rfl (Or.inr rfl) ?_
 repeat' first
  |refine zs2 hF (fun hF=>?_) (fun v hF=>?_);rotate_left;unfold z2y at hF
  |refine zs3 hF (fun hF=>?_) (fun v hF=>?_);rotate_left;unfold z4w at hF
  |refine AW.regO hF (fun hF=>?_)
  |refine AW.stepU [1,2] ?_;conv=>whnf
  |refine z0v.o hF (fun hF=>?_) (fun hF=>?_)
  |refine z0v.t ?_
  |exact ⟨_,hF,LeX.a []⟩
  |exact RetX.oA hF
def z9l (r:Int):AV:=aI (r)
theorem zaa {n a0 r}(hF:z33 n a0=some r):Con E0 true 188 [.agg [aI (a0.fKind),aI (a0.fNum),.str (a0.fText)]] (z9l r):=by
 unfold z33 at hF
 refine Con.walk _ Tryz.func188 rfl (z08 Tryz.func188 rfl rfl) rfl (Or.inr rfl) ?_
 repeat' first
  |refine AW.step ?_;conv=>whnf
  |refine z0v.o hF (fun hF=>?_) (fun hF=>?_)
  |refine z0v.t ?_
  |refine z0v.f ?_
  |exact RetX.oA hF
def zr4 (w1_0:Bool):AS:=⟨[(4,.bool (w1_0))],[]⟩
theorem zpo {n}:z57 E0 20 (z1w n) zr4:=AW.jT
def zbm (r:Bool):AV:=.bool (r)
theorem zde {n a0 a1 r}(hF:z6k n a0 a1=some r):Con E0 true 189 [aI (a0),.agg [aI (a1.fKind),aI (a1.fNum),.str (a1.fText)]] (zbm r):=by
 unfold z6k at hF
 refine Con.walk _ Tryz.func189 rfl (z08 Tryz.func189 rfl rfl) rfl (Or.inr rfl) ?_
 repeat' first
  |refine zpo hF (fun hF=>?_) (fun v hF=>?_);rotate_left;unfold z1w at hF
  |refine AW.regO hF (fun hF=>?_)
  |refine AW.stepU [1] ?_;conv=>whnf
  |refine z0v.o hF (fun hF=>?_) (fun hF=>?_)
  |refine z0v.t ?_
  |exact ⟨_,hF,LeX.a []⟩
  |exact RetX.oA hF
def zto (w6_5:Bool):AS:=⟨[(130,.bool (w6_5))],[]⟩
theorem zs5 {n}:z57 E0 131 (z0n n) zto:=AW.jT
def ztp (a0:z0k)(x2:Bool×Bool)(w3_2:Bool)(w5_4:Bool):AS:=⟨[(1,.ptr 1 0),(4,.bool (x2.1)),(5,.bool (x2.2)),(6,.bool (decide (a0.fOp=4))),(7,.bool (w3_2)),(95,.bool (w5_4))],[(1,.box 47 [aI (a0.fOp),.sl 8 (a0.fArgs.map idA),aI (a0.fVar),aI (a0.fField),aI (a0.fKind),aI (a0.fValue.fKind),aI (a0.fValue.fNum),.str (a0.fValue.fText)])]⟩
theorem zs6 {n a0 x2 w3_2}:z57 E0 131 (z28 n a0 x2 w3_2) (ztp a0 x2 w3_2):=AW.jT
def ztq (a0:z0k)(x2:Bool×Bool)(w3_2:Bool)(_:Unit):AS:=⟨[(1,.ptr 1 0),(4,.bool (x2.1)),(5,.bool (x2.2)),(6,.bool (decide (a0.fOp=4))),(7,.bool (w3_2))],[(1,.box 47 [aI (a0.fOp),.sl 8 (a0.fArgs.map idA),aI (a0.fVar),aI (a0.fField),aI (a0.fKind),aI (a0.fValue.fKind),aI (a0.fValue.fNum),.str (a0.fValue.fText)])]⟩
theorem zs7 {n a0 x2 w3_2}:zjk E0 131 (z4x n a0 x2 w3_2) (ztq a0 x2 w3_2):=AW.jT2
def ztr (a0:z0k)(x2:Bool×Bool)(w3_2:Bool):AS:=⟨[(1,.ptr 1 0),(4,.bool (x2.1)),(5,.bool (x2.2)),(6,.bool (decide (a0.fOp=4))),(7,.bool (w3_2))],[(1,.box 47 [aI (a0.fOp),.sl 8 (a0.fArgs.map idA),aI (a0.fVar),aI (a0.fField),aI (a0.fKind),aI (a0.fValue.fKind),aI (a0.fValue.fNum),.str (a0.fValue.fText)])]⟩
theorem zs8 {n a0 x2}:z57 E0 131 (z4y n a0 x2) (ztr a0 x2):=AW.jT
def zts (a0:z0k)(x2:Bool×Bool)(w2_1:Bool):AS:=⟨[(1,.ptr 1 0),(4,.bool (x2.1)),(5,.bool (x2.2)),(6,.bool (decide (a0.fOp=4))),(62,.bool (w2_1))],[(1,.box 47 [aI (a0.fOp),.sl 8 (a0.fArgs.map idA),aI (a0.fVar),aI (a0.fField),aI (a0.fKind),aI (a0.fValue.fKind),aI (a0.fValue.fNum),.str (a0.fValue.fText)])]⟩
theorem zs9 {n a0 x2}:z57 E0 131 (z2z n a0 x2) (zts a0 x2):=AW.jT
def ztt (a0:z0k)(x2:Bool×Bool)(w1_0:Bool):AS:=⟨[(1,.ptr 1 0),(4,.bool (x2.1)),(5,.bool (x2.2)),(48,.bool (w1_0))],[(1,.box 47 [aI (a0.fOp),.sl 8 (a0.fArgs.map idA),aI (a0.fVar),aI (a0.fField),aI (a0.fKind),aI (a0.fValue.fKind),aI (a0.fValue.fNum),.str (a0.fValue.fText)])]⟩
theorem zsa {n a0 x2}:z57 E0 131 (z18 n a0 x2) (ztt a0 x2):=AW.jT
def zjd (r:Int):AV:=aI (r)
theorem zv9 {n a0 r}(hF:za6 n a0=some r):Con E0 true 151 [.agg [aI (a0.fOp),.sl 8 (a0.fArgs.map idA),aI (a0.fVar),aI (a0.fField),aI (a0.fKind),aI (a0.fValue.fKind),aI (a0.fValue.fNum),.str (a0.fValue.fText)]] (zjd r):=by
 unfold za6 at hF
 refine Con.walk _ Tryz.func151 rfl (z08 Tryz.func151 rfl rfl) rfl (Or.inr rfl) ?_
 repeat' first
  |refine zs5 hF (fun hF=>?_) (fun v hF=>?_);rotate_left;unfold z0n at hF
  |refine zs6 hF (fun hF=>?_) (fun v hF=>?_);rotate_left;unfold z28 at hF
  |refine zs7 hF (fun hF=>?_) (fun v hF=>?_);rotate_left;unfold z4x at hF
  |refine zs8 hF (fun hF=>?_) (fun v hF=>?_);rotate_left;unfold z4y at hF
  |refine zs9 hF (fun hF=>?_) (fun v hF=>?_);rotate_left;unfold z2z at hF
  |refine zsa hF (fun hF=>?_) (fun v hF=>?_);rotate_left;unfold z18 at hF
  |refine AW.regO hF (fun hF=>?_)
  |refine AW.stepU [7,10,12,13,17,19] ?_;conv=>whnf
  |refine z0v.o hF (fun hF=>?_) (fun hF=>?_)
  |refine z0v.t ?_
  |refine z0v.f ?_
  |refine z0m.o hF zii (fun a h=>zsw h) (fun a hF=>?_)
  |refine z0m.o hF zjb (fun a h=>zv7 h) (fun a hF=>?_)
  |exact ⟨_,hF,LeX.a []⟩
  |refine z0m.o hF zbm (fun a h=>zde h) (fun a hF=>?_)
  |exact ⟨_,hF,LeX.a []⟩
  |refine z0m.o hF z9l (fun a h=>zaa h) (fun a hF=>?_)
  |exact ⟨(),hF,LeX.a []⟩
  |exact ⟨_,hF,LeX.a []⟩
  |exact ⟨_,hF,LeX.a []⟩
  |refine EqX.mk (by first|rfl|kernel_rfl) ?_
  |exact RetX.oA hF
def zqv (rF_tidegateref08_nodes:z0k->Option (Int))(a0:z0k)(v1_0:Int):AS:=⟨[(1,.ptr 1 0),(4,aI (v1_0))],[(1,.box 47 [aI (a0.fOp),.sl 8 (a0.fArgs.map idA),aI (a0.fVar),aI (a0.fField),aI (a0.fKind),aI (a0.fValue.fKind),aI (a0.fValue.fNum),.str (a0.fValue.fText)])]⟩
theorem zpf {n rF_tidegateref08_nodes a0 k1_0_0}:z26 E0 27 (z67 n rF_tidegateref08_nodes a0 k1_0_0) (zqv rF_tidegateref08_nodes a0):=LoopA.oT fun _=>rfl
def zej (r:Int):AV:=aI (r)
theorem zsv {n a0 r}(hF:z49 n a0=some r):Con E0 true 113 [.agg [aI (a0.fOp),.sl 8 (a0.fArgs.map idA),aI (a0.fVar),aI (a0.fField),aI (a0.fKind),aI (a0.fValue.fKind),aI (a0.fValue.fNum),.str (a0.fValue.fText)]] (zej r):=by
 induction n generalizing a0 r
 case zero=>cases hF
 case succ n ih =>
 unfold z49 at hF
 refine Con.walk _ Tryz.func113 rfl (z08 Tryz.func113 rfl rfl) rfl (Or.inr rfl) ?_
 repeat' first
  |refine AW.step ?_;conv=>whnf
  |refine z0v.o hF (fun hF=>?_) (fun hF=>?_)
  |refine z0m.o hF zjd (fun a h=>zv9 h) (fun a hF=>?_)
  |refine IdxX.oD hF z6r (fun x hF=>?_)
  |refine z0m.o hF zej (fun a h=>ih h) (fun a hF=>?_)
  |exact ⟨_,hF,LeX.a []⟩
  |refine zpf hF (LeX.a []) (fun m v hF=>?_);unfold z67 at hF
  |exact RetX.oA hF
def zbl (r:Int):AV:=aI (r)
end Go.Proofs.YtjpknpjjcddnnaaGreat
