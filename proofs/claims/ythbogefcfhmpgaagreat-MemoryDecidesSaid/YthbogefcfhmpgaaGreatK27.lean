/- Layer 56, plainly. -/
import Derived.Test.YthbogefcfhmpgaaGreatK26
import Derived.Test.YthbogefcfhmpgaaGreatRows
import Derived.ProofKit
import Derived.Lib.SmallJoins
import Derived.Deep.Slices
import Derived.Below
set_option linter.unusedVariables false
set_option linter.unusedSimpArgs false
set_option maxRecDepth 100000
namespace Go.Proofs.YthbogefcfhmpgaaGreat
open Go.RowKit List
open List renaming length_map->aA,getElem?_eq_getElem->aC,getD_eq_getElem?_getD->aE,getElem_mem->aF,drop_eq_getElem_cons->aG,drop_eq_nil_of_le->aH,replicate->aJ,length_append->aK,length_singleton->aM,mem_filter->aQ,length_cons->aV,drop_zero->aW,length_filter_le->aX,length_replicate->aY,length_eq_zero_iff->bB,mem_cons->bC,length_set->bD,eq_nil_iff_forall_not_mem->bE,getElem_map->bF,mem_append_right->bH,mem_cons_of_mem->bI,mem_append_left->bJ,length_nil->bK,filter_cons->bN,all_eq_true->bO,nil_append->bQ,mem_append->bR,range->bU
open Int renaming natCast_zero->aB,toNat_of_nonneg->aP,toNat_natCast->aR,reduceEq->bT
open Bool renaming not_true->aD,not_false->aL,false_eq_true->aU,and_eq_true->bG
open Nat renaming le_refl->aN,le_trans->aT,pow_le_pow_right->aZ,add_mul->bL,one_mul->bM,mul_le_mul->bP
open Or renaming inr->aO,inl->aS
open _root_.Go.Proofs.Tryz renaming prog->bA
theorem y05 {e:Exn}(hw:WfE e){n:Nat}(hn:10000000<n)(hn':n<=N0):∃ r,Ke N0 e=some r/\Pe n e=some r:=by
 have hN:=De
 obtain ⟨vs,v1,v2,v3⟩:=zbj hw N0 (by omega)
 obtain ⟨us,u1,u2,u3⟩:=zd6 hw n hn
 have h3:∀ v,v∈vs ↔ v∈us:=fun v=>by
  rw [v3,u3]
  rfl
 have h0:(vs.length:Int)=0 ↔ (us.length:Int)=0:=by
  have h1:vs=[] ↔ us=[]:=by
   rw [bE,bE]
   simp only [h3]
  constructor
  ·intro h
   have:=h1.1 (bB.1 (by omega))
   rw [this];rfl
  ·intro h
   have:=h1.2 (bB.1 (by omega))
   rw [this];rfl
 obtain ⟨z,hz,ht⟩:=hw
 obtain ⟨r,r1,r2⟩:=zlu [] [] (fun v=>by unfold evs;split<;>simp) (-1) ⟨0,0,0,0,[]⟩ z e (fun _ _=>rfl) ht hz N0 (by omega)
 obtain ⟨r',r3,_⟩:=zlu [] [] (fun v=>by unfold evs;split<;>simp) (-1) ⟨0,0,0,0,[]⟩ z e (fun _ _=>rfl) ht hz n hn
 have e:=zxj n N0 hn' e ⟨[]⟩ (-1) ⟨0,0,0,0,[]⟩ r' r3
 rw [r1] at e
 injection e with e
 subst e
 unfold Ke Pe
 simp only [Am,Aa,K3,Ky,aA,v1,u1,r2,r3,A0,A3]
 by_cases q:(vs.length:Int)=0
 ·rw [if_pos q,if_pos (h0.1 q)];exact ⟨r,rfl,rfl⟩
 ·rw [if_neg q,if_neg (fun q'=>q (h0.2 q'))];exact ⟨false,rfl,rfl⟩
theorem zt3 (l:List Int)(s:Int):(l.any fun y=>decide (s=y))=decide (s∈l):=by
 rw [Bool.eq_iff_iff]
 simp
theorem zj7 (n n':Nat)(hn:10000000<n)(hn':10000000<n')(x:Ed)(a:Aut)(sc:Scn)(ho:x.fOpens.length<=1100000)(hl:x.fLimits.length<=1100000)(K K':Option Bool)(hK:K=K'):∀ (m m':Nat) (k:Nat),k<=x.fLimits.length->x.fLimits.length<m+k->x.fLimits.length<m' + k->Pu n x a K m (k:Int)=Jk n' x sc K' m' (k:Int)
 |0,m',k,h1,h2,h3=>by omega
 |m+1,0,k,h1,h2,h3=>by omega
 |m+1,m' + 1,k,h1,h2,h3=>by
  unfold Pu Jk
  simp only [aA]
  rw [A3,A3]
  by_cases hk:k<x.fLimits.length
  ·rw [if_pos (by omega),if_pos (by omega),Ad hk,Ad hk,Og n hn _ ho,Ey n' _ x.fOpens (by omega) (by omega),A0,A0,zt3,Ae k (by omega),zj7 n n' hn hn' x a sc ho hl K K' hK m m' (k+1) (by omega) (by omega) (by omega)]
  ·rw [if_neg (by omega),if_neg (by omega)]
   exact hK
theorem zj8 (n:Nat)(hn:10000000<n)(hn':n<=N0)(x:Ed)(hx:WfX x)(a:Aut)(sc:Scn)(K K':Option Bool)(hK:K=K'):∀ (m m':Nat) (k:Nat),k<=x.fChecks.length->x.fChecks.length<m+k->x.fChecks.length<m' + k->Pv n x a K m (k:Int)=Jl N0 x sc K' m' (k:Int)
 |0,m',k,h1,h2,h3=>by omega
 |m+1,0,k,h1,h2,h3=>by omega
 |m+1,m' + 1,k,h1,h2,h3=>by
  obtain ⟨ys,hy,hw⟩:=hx.checks
  have hlc:=hx.lc
  unfold Pv Jl
  simp only [aA]
  rw [A3,A3]
  by_cases hk:k<x.fChecks.length
  ·have hk':k<ys.length:=by rw [hy,aA] at hk;exact hk
   obtain ⟨c,c1,c2⟩:=y05 (hw _ (aF hk')) hn hn'
   have e:∀ K:Exn->Option Bool,idxD Bp x.fChecks (k:Int) K=K ys[k]:=fun K=>by rw [hy];exact Ys hk' K
   rw [if_pos (by omega),if_pos (by omega),e,e,c1,c2,A0,A0,Ae k (by omega),zj8 n hn hn' x hx a sc K K' hK m m' (k+1) (by omega) (by omega) (by omega)]
  ·rw [if_neg (by omega),if_neg (by omega)]
   exact hK
theorem zj6 (n n':Nat)(hn:10000000<n)(hn':10000000<n')(x:Ed)(h:x.fInside.length<=1100000)(st:Cb)(hl:st.fGuards.length<=1100000):∀ (m m' k:Nat),k<=st.fGuards.length->st.fGuards.length<m+k->st.fGuards.length<m' + k->∃ i,Iz n' x st.fGuards (some (-1)) m' (k:Int)=some i/\Je n x st (some true) m (k:Int)=some (!(decide (0<=i)))
 |0,m',k,h1,h2,h3=>by omega
 |m+1,0,k,h1,h2,h3=>by omega
 |m+1,m' + 1,k,h1,h2,h3=>by
  unfold Iz Je
  simp only [aA,Am,Aa,Ly]
  rw [A3,A3]
  by_cases hk:k<st.fGuards.length
  ·rw [if_pos (by omega),if_pos (by omega),Ad hk,Ad hk,Ad hk,zr4 n' hn' _ x h,A0,zt3,Og n hn _ h,A0,Ae k (by omega)]
   obtain ⟨i,i1,i2⟩:=zj6 n n' hn hn' x h st hl m m' (k+1) (by omega) (by omega) (by omega)
   rw [A3]
   by_cases q:st.fGuards[k].fType=x.fType
   ·rw [if_pos q,decide_eq_true q,Bool.true_and]
    cases q2:decide (st.fGuards[k].fScope∈x.fInside) with
    |true=>simp only [aD,A7];exact ⟨i,i1,i2⟩
    |false=>simp only [aL,A8];exact ⟨(k:Int),rfl,by rw [decide_eq_true (by omega)];rfl⟩
   ·rw [if_neg q,decide_eq_false q,Bool.false_and,A7,A7]
    exact ⟨i,i1,i2⟩
  ·rw [if_neg (by omega),if_neg (by omega)]
   exact ⟨-1,rfl,rfl⟩
variable {T:List Ah}{a:Aut}
theorem zs9 (h:ScR ⟨T,a⟩){x:Ed}(hm:x∈a.fEdges)(n:Nat)(hn:10000000<n)(hn':n<=N0):K0 n T a x=some (frP N0 ⟨T,a⟩ x):=by
 have hN:=De
 have hx:WfX x:=h.w.ed x hm
 have he:=h.ed x hm
 simp only at he
 have hg:=fun s hs=>(h.w.st s hs).1
 simp only at hg
 have hf2:x.fFrom.toNat<a.fStates.length:=by omega
 have hgl:=hg _ (aF hf2)
 have hlo:=hx.lo
 have hli:=hx.li
 have hll:=hx.ll
 have hlc:=hx.lc
 rw [<-(h.free N0 (by omega) hm).1]
 obtain ⟨c,c1,c2⟩:=y05 hx.cond hn hn'
 have key:∀ b,Jf n x a b=Gg N0 x ⟨T,a⟩ b:=fun b=>by
  unfold Jf Gg
  cases b with
  |true=>rw [A8,A8]
  |false =>
   rw [A7,A7]
   refine zj8 n hn hn' x hx a ⟨T,a⟩ _ _ ?_ n N0 0 (by omega) (by omega) (by omega)
   refine zj7 n N0 hn (by omega) x a ⟨T,a⟩ hlo hll _ _ ?_ n N0 0 (by omega) (by omega) (by omega)
   obtain ⟨i,i1,i2⟩:=zj6 n N0 hn (by omega) x hli a.fStates[x.fFrom.toNat] (by omega) n N0 0 (by omega) (by omega) (by omega)
   simp only [aB] at i1 i2
   rw [Cs he.1 hf2,Cs he.1 hf2,i2]
   unfold Ow Su
   rw [i1,A0,A0]
 unfold K0 Gk
 simp only [Am,Aa,aA,key,c1,c2,A0]
theorem zw3 (h:ScR ⟨T,a⟩){x:Ed}(hm:x∈a.fEdges):K0 N0 T a x=some (frP N0 ⟨T,a⟩ x):=zs9 h hm N0 (by have:=De;omega) (aN _)
theorem zj2 (n:Nat)(E:List Ed)(hE:E.length<=1100000)(N:Nat)(hN:∀ x∈E,0<=x.fFrom/\x.fFrom<(N:Int))(V:List Ed×Bool×Mp)(hV:V.1=E)(K:Bool->Mp->Option Mp):∀ (m k:Nat) (b:Bool) (M:Mp),k<=E.length->E.length<m+k->OpOk E N M->∃ b' M',Fh n V K m (b,(k:Int),M)=K b' M'/\OpOk E N M'/\M.length<=M'.length/\(b'=true->b=true\/M.length<M'.length)/\(b=true->b'=true)/\(∀ t,has M t->has M' t)/\(b'=true\/(M'=M/\∀ x∈E.drop k,has M x.fTo->has M x.fFrom))
 |0,k,b,M,h1,h2,h3=>by omega
 |m+1,k,b,M,h1,h2,h3=>by
  unfold Fh
  simp only [aA,Aa,hV]
  rw [A3]
  by_cases hk:k<E.length
  ·have ih:=fun b M hM=>zj2 n E hE N hN V hV K m (k+1) b M (by omega) (by omega) hM
   have next:(has M E[k].fTo->has M E[k].fFrom)->∃ b' M',Fh n V K m (b,((k+1:Nat):Int),M)=K b' M'/\OpOk E N M'/\M.length<=M'.length/\(b'=true->b=true\/M.length<M'.length)/\(b=true->b'=true)/\(∀ t,has M t->has M' t)/\(b'=true\/(M'=M/\∀ x∈E.drop k,has M x.fTo->has M x.fFrom)):=fun hc=>by
    obtain ⟨b',M',e1,e2,e3,e4,e5,e6,e7⟩:=ih b M h3
    refine ⟨b',M',e1,e2,e3,e4,e5,e6,e7.imp id (fun q=>⟨q.1,fun x hx=>?_⟩)⟩
    rw [aG hk] at hx
    rcases bC.1 hx with e|e
    ·rw [e];exact hc
    ·exact q.2 x e
   rw [if_pos (by omega),Ad hk,Ij,Ae k (by omega)]
   cases q:(mlk M E[k].fTo).getD false with
   |false=>rw [A7];exact next (fun q'=>by rw [(h3.mks.get _).2 q'] at q;cases q)
   |true =>
    rw [A8,Ij,Ax]
    cases q2:(mlk M E[k].fFrom).getD false with
    |true=>rw [A8];exact next (fun _=>(h3.mks.get _).1 q2)
    |false =>
     rw [A7,Dm]
     have hn2:¬has M E[k].fFrom:=fun q'=>by rw [(h3.mks.get _).2 q'] at q2;cases q2
     have ht:=(h3.mks.get _).1 q
     have hx:=aF hk
     obtain ⟨b',M',e1,e2,e3,e4,e5,e6,e7⟩:=ih true (mput M E[k].fFrom true) ⟨h3.mks.put _,fun t q'=>((h3.mks.has_put _ _).1 q').elim (fun e=>by have:=hN _ hx;rw [e];omega) (h3.rg t),fun t q'=>((h3.mks.has_put _ _).1 q').elim (fun e=>by
      rw [e]
      refine aO ?_
      rcases h3.op _ ht with e'|e'
      ·exact .last _ hx (by omega)
      ·exact .step _ hx e') (h3.op t)⟩
     have hl:=h3.mks.put_len E[k].fFrom
     rw [if_neg hn2] at hl
     exact ⟨b',M',e1,e2,by omega,fun _=>aO (by omega),fun _=>e5 rfl,fun t q'=>e6 t ((h3.mks.has_put _ _).2 (aO q')),aS (e5 rfl)⟩
  ·rw [if_neg (by omega),aH (by omega)]
   exact ⟨b,M,rfl,h3,aN _,aS,id,fun _=>id,aO ⟨rfl,by simp⟩⟩
theorem zj3 (n:Nat)(hn:10000000<n)(E:List Ed)(hE:E.length<=1100000)(N:Nat)(hN1:N<=1000000)(hN:∀ x∈E,0<=x.fFrom/\x.fFrom<(N:Int))(K:Mp->Option Mp):∀ (m:Nat) (b:Bool) (M:Mp),(N+3<m+M.length\/(b=false/\N+2<m+M.length))->OpOk E N M->(b=false->∀ x∈E,has M x.fTo->has M x.fFrom)->∃ M',Gf n K m (E,b,M)=K M'/\OpOk E N M'/\(∀ t,has M t->has M' t)/\∀ x∈E,has M' x.fTo->has M' x.fFrom
 |0,b,M,h1,h2,h3=>by have:=h2.mks.len_le N h2.rg;omega
 |m+1,b,M,h1,h2,h3=>by
  unfold Gf
  simp only
  cases b with
  |false=>rw [A7];exact ⟨M,rfl,h2,fun _=>id,h3 rfl⟩
  |true =>
   rw [A8]
   obtain ⟨b',M',e1,e2,e3,e4,e5,e6,e7⟩:=zj2 n E hE N hN (E,true,M) rfl (fun k2_1_0y0 k2_1_0y1=>(Gf n K m) (E,k2_1_0y0,k2_1_0y1)) n 0 false M (by omega) (by omega) h2
   simp only [aB] at e1
   rw [e1]
   have h1':N+3<m+1+M.length:=by
    rcases h1 with h|h
    ·exact h
    ·exact absurd h.1 (by simp)
   obtain ⟨M2,f1,f2,f3,f4⟩:=zj3 n hn E hE N hN1 hN K m b' M' (by
    cases b' with
    |false=>exact aO ⟨rfl,by omega⟩
    |true=>have:=(e4 rfl).resolve_left (by simp);exact aS (by omega)) e2 (fun eb=>by
    rcases e7 with e|⟨e,e8⟩
    ·rw [eb] at e;cases e
    ·rw [e];rw [aW] at e8;exact e8)
   exact ⟨M2,f1,f2,fun t q=>f3 t (e6 t q),f4⟩
theorem zzx (n:Nat)(hn:10000000<n)(sc:Scn)(h:ScR sc):∃ M,Er n sc=some M/\MK M/\∀ t,has M t ↔ OpP (frE n sc) t:=by
 have hle:=h.le
 have hst:=h.st
 have hl:(frE n sc).length<=sc.fa.fEdges.length:=aX _ _
 obtain ⟨M0,z1,z2,z3⟩:=zr0 n hn sc h
 refine ⟨M0,z1,z2,fun t=>⟨fun q=>(z3 t q).2.2,fun q=>?_⟩⟩
 unfold Er at z1
 rw [znt n hn sc h,A0,Dm] at z1
 have e0:mput ([]:Mp) (-1) true=[((-1:Int),true)]:=rfl
 rw [e0] at z1
 have hrg:∀ x∈frE n sc,0<=x.fFrom/\-1<=x.fTo:=fun x hx=>by
  have:=h.ed x (aQ.1 hx).1
  omega
 obtain ⟨M,e1,e2,e3,e4⟩:=zj3 n hn (frE n sc) (by omega) sc.fa.fStates.length (by omega) (fun x hx=>by
  have:=h.ed x (aQ.1 hx).1
  omega) (fun k1_0_0y=>mde k1_0_0y (-1) fun x44=>some x44) n true [((-1:Int),true)] (aS (by omega)) ⟨⟨by simp,by simp⟩,fun t ht=>by simp [has] at ht;omega,fun t ht=>by simp [has] at ht;exact aS ht⟩ (fun e=>by cases e)
 unfold frE at e1
 rw [e1] at z1
 obtain ⟨d1,d2⟩:=zrl e2.mks (-1)
 have z2':some (mdl M (-1))=some M0:=by rw [<-z1];unfold mde;rfl
 injection z2' with z2'
 subst z2'
 have hall:∀ t,OpP (frE n sc) t->has M t:=fun t ht=>by
  induction ht with
  |last x hx hlt =>
   have:=(hrg x hx).2
   exact e4 x hx (e3 _ (by simp [has];omega))
  |step x hx _ ih=>exact e4 x hx ih
 refine (d2 t).2 ⟨hall t q,?_⟩
 cases q with
 |last x hx _=>have:=(hrg x hx).1;omega
 |step x hx _=>have:=(hrg x hx).1;omega
theorem Ut (h:ScR ⟨T,a⟩)(e:Int×List Bool)(K:List Bool->Option (List Bool)):∀ (m k:Nat) (w:List Bool),k<=a.fEdges.length->a.fEdges.length<m+k->w.length=a.fStates.length->Hg N0 a T e K m ((k:Int),w)=K ((rulU ((a.fEdges.drop k).filter (frP N0 ⟨T,a⟩))).foldl rst w)
 |0,k,w,h1,h2,h3=>by omega
 |m+1,k,w,h1,h2,h3=>by
  have hle:=h.le
  simp only at hle
  unfold Hg
  simp only [aA,Aa]
  rw [A3]
  by_cases hk:k<a.fEdges.length
  ·have hx:=h.ed _ (aF hk)
   simp only at hx
   have hf:a.fEdges[k].fFrom.toNat<w.length:=by omega
   rw [if_pos (by omega),Ad hk,zw3 h (aF hk),A0,aG hk,bN,Ae k (by omega)]
   cases qf:frP N0 ⟨T,a⟩ a.fEdges[k] with
   |false =>
    rw [A7,if_neg (by simp)]
    exact Ut h e K m (k+1) _ (by omega) (by omega) h3
   |true =>
    rw [A8,if_pos rfl,zhu,foldl_cons,A3]
    by_cases q0:a.fEdges[k].fTo<0
    ·rw [if_pos q0,Bl hx.1 hf,Bv hf,if_pos q0,zyz]
     exact Ut h e K m (k+1) _ (by omega) (by omega) (by rw [bD];exact h3)
    ·have ht:a.fEdges[k].fTo.toNat<w.length:=by omega
     rw [if_neg q0,Bl (by omega) ht,Cc ht,if_neg q0]
     cases q:w[a.fEdges[k].fTo.toNat] with
     |true =>
      rw [A8,Bl hx.1 hf,Bv hf,zwl ht q]
      exact Ut h e K m (k+1) _ (by omega) (by omega) (by rw [bD];exact h3)
     |false =>
      rw [A7,zwm ht q]
      exact Ut h e K m (k+1) _ (by omega) (by omega) h3
  ·rw [if_neg (by omega),aH (by omega)]
   rfl
theorem zej (h:ScR ⟨T,a⟩)(K:List Bool->Option (List Bool)):∀ (m k:Nat) (w:List Bool),k<=a.fStates.length->a.fStates.length<m+k->w.length=a.fStates.length->Lx N0 a T K m ((k:Int),w)=K (rnds (rulU (frE N0 ⟨T,a⟩)) (a.fStates.length-k) w)
 |0,k,w,h1,h2,h3=>by omega
 |m+1,k,w,h1,h2,h3=>by
  have hN:=De
  have hle:=h.le
  have hst:=h.st
  simp only at hle hst
  unfold Lx
  simp only [aA]
  rw [A3]
  by_cases hk:k<a.fStates.length
  ·have e1:=Ut h ((k:Int),w) (fun d=>(Lx N0 a T K m) ((IntKind.wrap .i64 ((k:Int)+1)),d)) N0 0 w (by omega) (by omega) h3
   simp only [aB,aW] at e1
   have e2:a.fEdges.filter (frP N0 ⟨T,a⟩)=frE N0 ⟨T,a⟩:=rfl
   rw [if_pos (by omega),e1,e2,Ae k (by omega),zej h K m (k+1) _ (by omega) (by omega) (by rw [O7];exact h3),show a.fStates.length-k=(a.fStates.length-(k+1))+1 from by omega]
   rfl
  ·rw [if_neg (by omega),show a.fStates.length-k=0 from by omega]
   rfl
theorem zxq (h:ScR ⟨T,a⟩):∃ w,Ql N0 T a=some w/\w.length=a.fStates.length/\∀ t,hs w t ↔ OpP (frE N0 ⟨T,a⟩) t:=by
 have hN:=De
 have hst:=h.st
 simp only at hst
 have hed:∀ x∈frE N0 ⟨T,a⟩,0<=x.fFrom/\x.fFrom<a.fStates.length/\-1<=x.fTo/\x.fTo<a.fStates.length:=fun x hx=>h.ed x (aQ.1 hx).1
 have hR:∀ r∈rulU (frE N0 ⟨T,a⟩),r.2<(aJ a.fStates.length false).length:=fun r hr=>by
  obtain ⟨x,hx,e⟩:=Y4 hr
  have:=hed x hx
  rw [e,aY]
  simp only
  omega
 obtain ⟨i1,i2,i3⟩:=Yf (R:=rulU (frE N0 ⟨T,a⟩)) a.fStates.length _ hR (by have:=Yl (aJ a.fStates.length false);rw [aY] at this;exact this)
 have i4:=Y5 (Q:=OpP (frE N0 ⟨T,a⟩)) (R:=rulU (frE N0 ⟨T,a⟩)) (fun r hr hp=>by
  obtain ⟨x,hx,e⟩:=Y4 hr
  have he:=hed x hx
  rw [e] at hp ⊢
  simp only
  rw [aP he.1]
  by_cases q0:x.fTo<0
  ·exact .last x hx q0
  ·have:=hp x.fTo.toNat (by simp only;rw [if_neg q0])
   rw [aP (by omega)] at this
   exact .step x hx this) a.fStates.length _ hR (fun t ht=>absurd ht (F4 _ _))
 have hcl:∀ x∈frE N0 ⟨T,a⟩,(x.fTo<0\/hs (rnds (rulU (frE N0 ⟨T,a⟩)) a.fStates.length (aJ a.fStates.length false)) x.fTo)->hs (rnds (rulU (frE N0 ⟨T,a⟩)) a.fStates.length (aJ a.fStates.length false)) x.fFrom:=fun x hx q=>by
  have he:=hed x hx
  have:=i3 (if x.fTo<0 then none else some x.fTo.toNat,x.fFrom.toNat) (by unfold rulU;exact mem_map.2 ⟨x,hx,rfl⟩) (by
   unfold rAb
   simp only
   by_cases q0:x.fTo<0
   ·rw [if_pos q0]
   ·rw [if_neg q0]
    simp only
    rcases q with q|q
    ·exact absurd q q0
    ·rw [aE,q.2];rfl)
  simp only at this
  rw [aP he.1] at this
  exact this
 refine ⟨_,?_,i1.trans (by simp),fun t=>⟨i4 t,fun q=>?_⟩⟩
 ·unfold Ql
  simp only [aA]
  have e1:=zej h (fun b=>some b) N0 0 (aJ a.fStates.length false) (by omega) (by omega) (by simp)
  simp only [aB] at e1
  rw [Cg (by omega) (by decide)]
  exact e1
 ·induction q with
  |last x hx hlt=>exact hcl x hx (aS hlt)
  |step x hx _ ih=>exact hcl x hx (aO ih)
theorem zak (n:Nat)(hn:10000000<n)(kinds:List Int)(hk':kinds.length<=1000000)(st:Cb)(hl:st.fGuards.length<=1100000):∀ (m k:Nat),k<=st.fGuards.length->st.fGuards.length<m+k->Oo n kinds st (some false) m (k:Int)=some ((st.fGuards.drop k).any fun g=>decide (g.fType∈kinds))
 |0,k,h1,h2=>by omega
 |m+1,k,h1,h2=>by
  unfold Oo
  simp only [aA]
  rw [A3]
  by_cases hk:k<st.fGuards.length
  ·rw [if_pos (by omega),Ad hk,Og n hn _ (by omega),A0,Ae k (by omega),zak n hn kinds hk' st hl m (k+1) (by omega) (by omega),aG hk,any_cons]
   cases decide (st.fGuards[k].fType∈kinds) with
   |true=>rw [A8];rfl
   |false=>rw [A7];rfl
  ·rw [if_neg (by omega),aH (by omega)]
   rfl
theorem zj5 (n:Nat)(hn:10000000<n)(a:Aut)(hg:∀ s∈a.fStates,s.fGuards.length<=1100000)(kinds:List Int)(hk':kinds.length<=1000000)(i:Nat)(hi:i<a.fStates.length):∃ r,Sm n a.fStates[i] kinds=some r/\(r=false ↔ ∀ k∈kinds,gdk a (i:Int) k=false):=by
 have hl:=hg _ (aF hi)
 have h1:=zak n hn kinds hk' a.fStates[i] hl n 0 (by omega) (by omega)
 simp only [aB,aW] at h1
 refine ⟨_,h1,?_⟩
 have e:∀ k,gdk a (i:Int) k=a.fStates[i].fGuards.any (fun g=>decide (g.fType=k)):=fun k=>by
  unfold gdk
  rw [aR,aC hi]
 simp only [e,any_eq_false,decide_eq_true_eq]
 constructor
 ·intro q k hk g hg' e
  exact q g hg' (e▸hk)
 ·intro q g hg' hk
  exact q _ hk g hg' rfl
theorem zm8 (h:ScR ⟨T,a⟩)(kinds:List Int)(i:Nat)(hi:i<kinds.length)(w0:List Bool)(hw0:w0.length=a.fStates.length)(K:List Bool->Option Bool):∀ (m k:Nat) (w:List Bool),k<=a.fEdges.length->a.fEdges.length<m+k->w.length=a.fStates.length->∃ w',Fd N0 kinds a T ((i:Int),w0) K m ((k:Int),w)=K w'/\w'.length=a.fStates.length/\∀ t,hs w' t ↔ hs w t\/∃ x∈(a.fEdges.drop k).filter (frP N0 ⟨T,a⟩),0<=x.fTo/\x.fType=kinds[i]/\hs w0 x.fFrom/\x.fTo=t
 |0,k,w,h1,h2,h3=>by omega
 |m+1,k,w,h1,h2,h3=>by
  have hle:=h.le
  simp only at hle
  unfold Fd
  simp only [aA,Aa]
  rw [A3]
  by_cases hk:k<a.fEdges.length
  ·have hx:=h.ed _ (aF hk)
   simp only at hx
   have hf:a.fEdges[k].fFrom.toNat<w0.length:=by omega
   have hfw:hs w0 a.fEdges[k].fFrom ↔ w0[a.fEdges[k].fFrom.toNat]=true:=by
    unfold hs
    rw [aC hf]
    simp [hx.1]
   rw [if_pos (by omega),Ad hk,Bl hx.1 hf,Cc hf,aG hk,Ae k (by omega)]
   have skip:¬(frP N0 ⟨T,a⟩ a.fEdges[k]=true/\0<=a.fEdges[k].fTo/\a.fEdges[k].fType=kinds[i]/\hs w0 a.fEdges[k].fFrom)->∃ w',Fd N0 kinds a T ((i:Int),w0) K m (((k+1:Nat):Int),w)=K w'/\w'.length=a.fStates.length/\∀ t,hs w' t ↔ hs w t\/∃ x∈(a.fEdges[k]::a.fEdges.drop (k+1)).filter (frP N0 ⟨T,a⟩),0<=x.fTo/\x.fType=kinds[i]/\hs w0 x.fFrom/\x.fTo=t:=fun hno=>by
    obtain ⟨w',e1,e2,e3⟩:=zm8 h kinds i hi w0 hw0 K m (k+1) w (by omega) (by omega) h3
    refine ⟨w',e1,e2,fun t=>?_⟩
    rw [e3]
    simp only [aQ,bC]
    refine or_congr Iff.rfl ⟨fun ⟨x,⟨q1,q2⟩,q3⟩=>⟨x,⟨aO q1,q2⟩,q3⟩,fun ⟨x,⟨q1,q2⟩,q3⟩=>?_⟩
    rcases q1 with q1|q1
    ·subst q1;exact absurd ⟨q2,q3.1,q3.2.1,q3.2.2.1⟩ hno
    ·exact ⟨x,⟨q1,q2⟩,q3⟩
   cases q:w0[a.fEdges[k].fFrom.toNat] with
   |false =>
    rw [A7]
    exact skip (fun p=>by rw [hfw.1 p.2.2.2] at q;cases q)
   |true =>
    rw [A8,A3]
    by_cases q0:0<=a.fEdges[k].fTo
    ·rw [if_pos q0,Ad hi,A3]
     by_cases q1:a.fEdges[k].fType=kinds[i]
     ·rw [if_pos q1,zw3 h (aF hk),A0]
      cases q2:frP N0 ⟨T,a⟩ a.fEdges[k] with
      |false=>rw [A7];rw [q2] at skip;exact skip (fun p=>by cases p.1)
      |true =>
       have htw:a.fEdges[k].fTo.toNat<w.length:=by omega
       rw [A8,Bl q0 htw,Bv htw]
       obtain ⟨w',e1,e2,e3⟩:=zm8 h kinds i hi w0 hw0 K m (k+1) (w.set a.fEdges[k].fTo.toNat true) (by omega) (by omega) (by rw [bD];exact h3)
       refine ⟨w',e1,e2,fun t=>?_⟩
       rw [e3,F0 htw,aP q0]
       simp only [aQ,bC]
       constructor
       ·rintro ((e|e)|⟨x,⟨p1,p2⟩,p3⟩)
        ·exact aO ⟨_,⟨aS rfl,q2⟩,q0,q1,hfw.2 q,e.symm⟩
        ·exact aS e
        ·exact aO ⟨x,⟨aO p1,p2⟩,p3⟩
       ·rintro (e|⟨x,⟨p1,p2⟩,p3⟩)
        ·exact aS (aO e)
        ·rcases p1 with p1|p1
         ·subst p1;exact aS (aS p3.2.2.2.symm)
         ·exact aO ⟨x,⟨p1,p2⟩,p3⟩
     ·rw [if_neg q1]
      exact skip (fun p=>q1 p.2.2.1)
    ·rw [if_neg q0]
     exact skip (fun p=>q0 p.2.1)
  ·rw [if_neg (by omega),aH (by omega)]
   exact ⟨w,rfl,h3,by simp⟩
theorem zs8 (h:ScR ⟨T,a⟩)(kinds:List Int)(hk':kinds.length<=1000000)(K:List Bool->Option Bool):∀ (m k:Nat) (w:List Bool),k<=kinds.length->kinds.length<m+k->w.length=a.fStates.length->∃ w',Ll N0 kinds a T K m ((k:Int),w)=K w'/\w'.length=a.fStates.length/\∀ t,hs w' t ↔ atS (frE N0 ⟨T,a⟩) (hs w) (kinds.drop k) t
 |0,k,w,h1,h2,h3=>by omega
 |m+1,k,w,h1,h2,h3=>by
  have hN:=De
  have hle:=h.le
  have hst:=h.st
  simp only at hle hst
  unfold Ll
  simp only [aA]
  rw [A3]
  by_cases hk:k<kinds.length
  ·obtain ⟨w1,e1,e2,e3⟩:=zm8 h kinds k hk w h3 (fun d=>(Ll N0 kinds a T K m) ((IntKind.wrap .i64 ((k:Int)+1)),d)) N0 0 (aJ a.fStates.length false) (by omega) (by omega) (by simp)
   simp only [aB,aW] at e1 e3
   rw [if_pos (by omega),Cg (by omega) (by decide),e1,Ae k (by omega)]
   obtain ⟨w',f1,f2,f3⟩:=zs8 h kinds hk' K m (k+1) w1 (by omega) (by omega) e2
   refine ⟨w',f1,f2,fun t=>?_⟩
   refine (f3 t).trans ?_
   rw [aG hk]
   refine (zmt (fun t=>?_) _ t:atS (frE N0 ⟨T,a⟩) (hs w1) (kinds.drop (k+1)) t ↔ atS (frE N0 ⟨T,a⟩) (fun t=>∃ x∈frE N0 ⟨T,a⟩,0<=x.fTo/\x.fType=kinds[k]/\hs w x.fFrom/\x.fTo=t) (kinds.drop (k+1)) t)
   rw [e3]
   exact ⟨fun q=>q.elim (fun q=>absurd q (F4 _ _)) id,aO⟩
  ·rw [if_neg (by omega),aH (by omega)]
   exact ⟨w,rfl,h3,fun t=>Iff.rfl⟩
theorem zs7 (h:ScR ⟨T,a⟩)(kinds:List Int)(hk':kinds.length<=1000000)(w o:List Bool)(hw:w.length=a.fStates.length)(ho:o.length=a.fStates.length):∀ (m k:Nat),k<=a.fStates.length->a.fStates.length<m+k->∃ r,Fe N0 kinds a w o (some false) m (k:Int)=some r/\(r=true ↔ ∃ i:Nat,k<=i/\hs w (i:Int)/\hs o (i:Int)/\∀ q∈kinds,gdk a (i:Int) q=false)
 |0,k,h1,h2=>by omega
 |m+1,k,h1,h2=>by
  have hN:=De
  have hst:=h.st
  simp only at hst
  unfold Fe
  simp only [aA,Am,Aa,J4]
  rw [A3]
  by_cases hk:k<a.fStates.length
  ·have hkw:k<w.length:=by omega
   have hko:k<o.length:=by omega
   have hsw:hs w (k:Int) ↔ w[k]=true:=by
    unfold hs
    rw [aR,aC hkw]
    simp
   have hso:hs o (k:Int) ↔ o[k]=true:=by
    unfold hs
    rw [aR,aC hko]
    simp
   obtain ⟨g,g1,g2⟩:=zj5 N0 (by omega) a (fun s hs=>(h.w.st s hs).1) kinds hk' k hk
   rw [if_pos (by omega),Ej hkw,Cc hkw,Ae k (by omega)]
   have next:¬(hs w (k:Int)/\hs o (k:Int)/\∀ q∈kinds,gdk a (k:Int) q=false)->∃ r,Fe N0 kinds a w o (some false) m ((k+1:Nat):Int)=some r/\(r=true ↔ ∃ i:Nat,k<=i/\hs w (i:Int)/\hs o (i:Int)/\∀ q∈kinds,gdk a (i:Int) q=false):=fun hno=>by
    obtain ⟨r,r1,r2⟩:=zs7 h kinds hk' w o hw ho m (k+1) (by omega) (by omega)
    refine ⟨r,r1,r2.trans ⟨fun ⟨i,i1,i2⟩=>⟨i,by omega,i2⟩,fun ⟨i,i1,i2⟩=>⟨i,?_,i2⟩⟩⟩
    by_cases e:i=k
    ·subst e;exact absurd i2 hno
    ·omega
   cases q:w[k] with
   |false=>rw [A7,A7];exact next (fun p=>by rw [hsw.1 p.1] at q;cases q)
   |true =>
    rw [A8,Ad hko]
    cases q2:o[k] with
    |false=>rw [A7,A7];exact next (fun p=>by rw [hso.1 p.2.1] at q2;cases q2)
    |true =>
     rw [A8,Ad hk,g1,A0]
     cases g with
     |true=>simp only [aD,A7];exact next (fun p=>by have:=g2.2 p.2.2;cases this)
     |false =>
      simp only [aL,A8]
      exact ⟨true,rfl,fun _=>⟨k,aN _,hsw.2 q,hso.2 q2,g2.1 rfl⟩,fun _=>rfl⟩
  ·rw [if_neg (by omega)]
   refine ⟨false,rfl,fun e=>by (cases e),fun ⟨i,i1,i2,_⟩=>?_⟩
   have:=(List.getElem?_eq_some_iff.1 i2.2).1
   omega
def GrR (sc:Scn)(kinds:List Int):Prop:=kinds≠[]/\(∀ k∈kinds,gdk sc.fa 0 k=false)/\∃ i,OpP (frE N0 sc) i/\atS (frE N0 sc) (fun t=>t=0) kinds i/\∀ k∈kinds,gdk sc.fa i k=false
theorem zs6 (h:ScR ⟨T,a⟩)(kinds:List Int)(hk':kinds.length<=1000000):∃ r,Mo N0 T a kinds=some r/\(r=true ↔ GrR ⟨T,a⟩ kinds):=by
 have hN:=De
 have hst:=h.st
 simp only at hst
 have h0:0<a.fStates.length:=by omega
 unfold Mo
 simp only [Am,Aa,aA]
 rw [A3]
 by_cases e:(kinds.length:Int)=0
 ·have:kinds=[]:=bB.1 (by omega)
  rw [if_pos e]
  unfold J5
  rw [A8]
  exact ⟨false,rfl,fun e=>by (cases e),fun q=>absurd this q.1⟩
 ·rw [if_neg e]
  have hne:kinds≠[]:=fun q=>by rw [q] at e;exact e rfl
  obtain ⟨g,g1,g2⟩:=zj5 N0 (by omega) a (fun s hs=>(h.w.st s hs).1) kinds hk' 0 h0
  have e0:∀ K:Cb->Option Bool,idx a.fStates 0 K=K a.fStates[0]:=fun K=>by
   have:=Ad h0 K
   simpa only [aB] using this
  rw [e0,g1,A0]
  unfold J5
  cases g with
  |true =>
   rw [A8]
   exact ⟨false,rfl,fun e=>by (cases e),fun q=>by have:=g2.2 (by simpa using q.2.1);cases this⟩
  |false =>
   rw [A7]
   simp only [aA]
   have hr0:0<(aJ a.fStates.length false).length:=by simp;omega
   rw [Cg (by omega) (by decide),Bl (by omega) (by simpa using h0),Bv (by simpa using hr0)]
   obtain ⟨o,o1,o2,o3⟩:=zxq h
   obtain ⟨w,e1,e2,e3⟩:=zs8 h kinds hk' (fun b=>bnd (Ql N0 T a) fun d=>Fe N0 kinds a b d (some false) N0 0) N0 0 ((aJ a.fStates.length false).set (0:Int).toNat true) (by omega) (by omega) (by simp)
   simp only [aB,aW] at e1 e3
   rw [e1,o1,A0]
   obtain ⟨r,r1,r2⟩:=zs7 h kinds hk' w o e2 o2 N0 0 (by omega) (by omega)
   simp only [aB] at r1
   have hs0:∀ t,hs ((aJ a.fStates.length false).set (0:Int).toNat true) t ↔ t=0:=fun t=>by
    have hz:(0:Int).toNat=0:=rfl
    rw [hz,F0 hr0]
    exact ⟨fun q=>q.elim id (fun q=>absurd q (F4 _ _)),aS⟩
   refine ⟨r,r1,r2.trans ⟨fun ⟨i,_,i2,i3,i4⟩=>⟨hne,by simpa using g2.1 rfl,(i:Int),(o3 _).1 i3,(zmt hs0 _ _).1 ((e3 _).1 i2),i4⟩,fun ⟨_,_,i,i1,i2,i3⟩=>?_⟩⟩
   have hw:=(e3 i).2 ((zmt hs0 _ _).2 i2)
   have hi:=hw.1
   refine ⟨i.toNat,Nat.zero_le _,?_⟩
   rw [aP hi]
   exact ⟨hw,(o3 _).2 i1,i3⟩
theorem zu7 (l:List Ev):Mr N0 l=some (Ii l):=by
 by_cases h:l.length<=1000000
 ·exact zzc N0 l (by unfold N0;omega) h
 ·unfold Mr Ii
  simp only [aA,A3]
  rw [if_pos (by omega),if_pos (by omega)]
inductive APt (E:List Ed) (A:Int->Prop) (tt:Int):Int->List Int->Prop
 |one (x:Ed) (hx:x∈E) (h:x.fTo=tt):APt E A tt x.fFrom [x.fType]
 |cons (x:Ed) (hx:x∈E) (hn:¬A x.fTo) {w:List Int} (h:APt E A tt x.fTo w):APt E A tt x.fFrom (x.fType::w)
variable {E:List Ed}{tt s:Int}{w:List Int}
theorem y0i (h:Pth E tt s w):APt E (fun _=>False) tt s w:=by
 induction h with
 |one x hx e=>exact .one x hx e
 |cons x hx _ ih=>exact .cons x hx id ih
variable {A:Int->Prop}
theorem apt_b (s:Int){u:Int}(h:APt E A tt u w):APt E (fun v=>A v\/v=s) tt u w\/∃ w',w'.length<w.length/\APt E A tt s w':=by
 induction h with
 |one x hx e=>exact aS (.one x hx e)
 |cons x hx hn h ih =>
  by_cases e:x.fTo=s
  ·exact aO ⟨_,by simp,e▸h⟩
  ·rcases ih with ih|⟨w',l,ih⟩
   ·exact aS (.cons x hx (fun q=>q.elim hn e) ih)
   ·exact aO ⟨w',by simp only [aV];omega,ih⟩
theorem zw8 {u:Int}(h:APt E A tt u w):0<w.length:=by cases h<;>simp
theorem zyi {u:Int}:∀ (n:Nat) (w:List Int),w.length<=n->APt E A tt u w->∃ w',w'.length<=w.length/\APt E (fun v=>A v\/v=u) tt u w'
 |0,w,hl,h=>by have:=zw8 h;omega
 |n+1,w,hl,h=>by
  rcases apt_b u h with q|⟨w',l,q⟩
  ·exact ⟨w,aN _,q⟩
  ·obtain ⟨w2,l2,q2⟩:=zyi n w' (by omega) q
   exact ⟨w2,by omega,q2⟩
inductive SPt (E:List Ed) (tt:Int):List Bool->Int->List Int->Prop
 |one (seen:List Bool) (x:Ed) (hx:x∈E) (h0:0<=x.fTo) (h:x.fTo=tt):SPt E tt seen x.fFrom [x.fType]
 |cons (seen:List Bool) (x:Ed) (hx:x∈E) (h0:0<=x.fTo) (hn:seen.getD x.fTo.toNat false=false) {w:List Int} (h:SPt E tt (seen.set x.fTo.toNat true) x.fTo w):SPt E tt seen x.fFrom (x.fType::w)
theorem zvl {N:Nat}(hE:∀ x∈E,0<=x.fTo/\x.fTo.toNat<N):∀ (n:Nat) (w:List Int) (seen:List Bool) (s:Int) (A:Int->Prop),w.length<=n->seen.length=N->(∀ v,hs seen v->A v)->APt E A tt s w->∃ w',SPt E tt seen s w'
 |0,w,seen,s,A,h1,h2,h3,h4=>by have:=zw8 h4;omega
 |n+1,w,seen,s,A,h1,h2,h3,h4=>by
  cases h4 with
  |one x hx e=>exact ⟨_,.one seen x hx (hE x hx).1 e⟩
  |cons x hx hn h' =>
   have he:=hE x hx
   obtain ⟨w2,l2,q2⟩:=zyi _ _ (aN _) h'
   simp only [aV] at h1
   have hl:x.fTo.toNat<seen.length:=by omega
   obtain ⟨w3,q3⟩:=zvl hE n w2 (seen.set x.fTo.toNat true) x.fTo _ (by omega) (by rw [bD];exact h2) (fun v hv=>by
    rcases (F0 hl v).1 hv with e|e
    ·exact aO (by omega)
    ·exact aS (h3 v e)) q2
   refine ⟨_,.cons seen x hx he.1 ?_ q3⟩
   rw [aE,aC hl,Option.getD_some]
   cases q:seen[x.fTo.toNat] with
   |false=>rfl
   |true=>exact absurd (h3 x.fTo ⟨he.1,by rw [aC hl,q]⟩) hn
variable {seen:List Bool}
theorem zwi (h:SPt E tt seen s w):Pth E tt s w:=by
 induction h with
 |one seen x hx h0 e=>exact .one x hx e
 |cons seen x hx h0 hn _ ih=>exact .cons x hx ih
theorem zyw (h:SPt E tt seen s w):w≠[]:=by cases h<;>simp
theorem zto {E':List Ed}(hE:∀ x∈E,x∈E')(h:SPt E tt seen s w):SPt E' tt seen s w:=by
 induction h with
 |one seen x hx h0 e=>exact .one seen x (hE x hx) h0 e
 |cons seen x hx h0 hn _ ih=>exact .cons seen x (hE x hx) h0 hn ih
def cnE (E:List Ed)(seen:List Bool):Nat:=(E.filter fun x=>!(seen.getD x.fFrom.toNat false)).length
theorem zsx {t:Int}(t0:0<=t)(ht:t.toNat<seen.length)(q:seen[t.toNat]=false):∀ (E:List Ed),(∀ x∈E,0<=x.fFrom)->cnE E (seen.set t.toNat true)+(E.filter fun x=>decide (x.fFrom=t)).length<=cnE E seen
 |[],_=>by simp [cnE]
 |x::r,hE=>by
  have ih:=zsx t0 ht q r (fun y hy=>hE y (bI _ hy))
  have h0:=hE x (by simp)
  unfold cnE at ih ⊢
  simp only [bN]
  by_cases e:x.fFrom=t
  ·have e1:(seen.set t.toNat true).getD x.fFrom.toNat false=true:=by
    rw [e,aE,getElem?_set_self ht];rfl
   have e2:seen.getD x.fFrom.toNat false=false:=by
    rw [e,aE,aC ht,q];rfl
   rw [e1,e2,decide_eq_true e]
   simp only [aD,aL,aU,if_false,if_true,aV]
   omega
  ·have e1:(seen.set t.toNat true).getD x.fFrom.toNat false=seen.getD x.fFrom.toNat false:=by
    rw [aE,aE,getElem?_set_ne (by omega)]
   rw [e1,decide_eq_false e]
   simp only [aU,if_false]
   split
   ·simp only [aV];omega
   ·exact ih
theorem y0z {d c c':Nat}(h:c' + d<=c):d*2 ^ c' + 1<=2 ^ c:=by
 have h1:2 ^ (c' + d)<=2 ^ c:=aZ (by decide) h
 have h2:d+1<=2 ^ d:=Nat.lt_two_pow_self
 have h3:0<2 ^ c':=Nat.pow_pos (by decide)
 rw [Nat.pow_add] at h1
 have h4:2 ^ c' * (d+1)<=2 ^ c' * 2 ^ d:=Nat.mul_le_mul_left _ h2
 rw [Nat.mul_add,Nat.mul_one,Nat.mul_comm] at h4
 omega
theorem zsf {i:Nat}(h:i<seen.length):seen.getD i false=seen[i]:=by rw [aE,aC h];rfl
theorem Xh (h:ScR ⟨T,a⟩)(h16:a.fEdges.length<=16)(n:Nat)(hn:10000000<n)(hn':n<=N0)(rF:List Ah->Aut->Int->List Bool->List Int->Option (List (List Int)))(word:List Int)(seen:List Bool)(s:Int)(hw:word.length<=1000)(hsl:seen.length=a.fStates.length)(B M:Nat)(hB:B<=65536)(hB1:1<=B)(hM:word.length+1<=M)
  (rec:∀ x∈a.fEdges,0<=x.fTo->seen.getD x.fTo.toNat false=false->∃ L,rF T a x.fTo (seen.set x.fTo.toNat true) (word++[x.fType])=some L/\L.length+1<=B/\(∀ w∈L,w.length<=M)/\∀ tt w,SPt (frE N0 ⟨T,a⟩) tt (seen.set x.fTo.toNat true) x.fTo w->(word++[x.fType])++w∈L) :
  ∀ (m k:Nat) (out:List (List Int)),k<=a.fEdges.length->a.fEdges.length<m+k->out.length<=k*B->∃ L,G2 n rF word seen s a T (fun b=>some b) m ((k:Int),out)=some L/\L.length<=out.length+((a.fEdges.drop k).filter fun x=>decide (x.fFrom=s)).length*B/\(∀ w∈out,w∈L)/\(∀ w∈L,w∈out\/w.length<=M)/\∀ x∈a.fEdges.drop k,frP N0 ⟨T,a⟩ x=true->x.fFrom=s->0<=x.fTo->word++[x.fType]∈L/\(seen.getD x.fTo.toNat false=false->∀ tt w,SPt (frE N0 ⟨T,a⟩) tt (seen.set x.fTo.toNat true) x.fTo w->(word++[x.fType])++w∈L)
 |0,k,out,h1,h2,h3=>by omega
 |m+1,k,out,h1,h2,h3=>by
  unfold G2
  simp only [aA,Am,Aa]
  rw [A3]
  by_cases hk:k<a.fEdges.length
  ·have hx:=h.ed _ (aF hk)
   have hst:=h.st
   simp only at hx hst
   rw [if_pos (by omega),Ad hk,aG hk,bN]
   have hkB:(k+1)*B=k*B+B:=by rw [bL,bM]
   have hk16:(k+1)*B<=16*65536:=bP (by omega) hB
   -- the edge is skipped
   have skip:¬(frP N0 ⟨T,a⟩ a.fEdges[k]=true/\a.fEdges[k].fFrom=s/\0<=a.fEdges[k].fTo)->∃ L,G3 n rF word seen s a T ((k:Int),out) (G2 n rF word seen s a T (fun b=>some b) m) a.fEdges[k] true=some L/\L.length<=out.length+(if decide (a.fEdges[k].fFrom=s)=true then a.fEdges[k]::(a.fEdges.drop (k+1)).filter fun x=>decide (x.fFrom=s) else (a.fEdges.drop (k+1)).filter fun x=>decide (x.fFrom=s)).length*B/\(∀ w∈out,w∈L)/\(∀ w∈L,w∈out\/w.length<=M)/\∀ x∈a.fEdges[k]::a.fEdges.drop (k+1),frP N0 ⟨T,a⟩ x=true->x.fFrom=s->0<=x.fTo->word++[x.fType]∈L/\(seen.getD x.fTo.toNat false=false->∀ tt w,SPt (frE N0 ⟨T,a⟩) tt (seen.set x.fTo.toNat true) x.fTo w->(word++[x.fType])++w∈L):=fun hno=>by
    obtain ⟨L,e1,e2,e3,e4,e5⟩:=Xh h h16 n hn hn' rF word seen s hw hsl B M hB hB1 hM rec m (k+1) out (by omega) (by omega) (by omega)
    refine ⟨L,?_,?_,e3,e4,fun x hx q1 q2 q3=>?_⟩
    ·unfold G3
     simp only [Ae k (by omega:k<=1000000000000)]
     rw [A8]
     exact e1
    ·refine aT e2 (Nat.add_le_add_left (Nat.mul_le_mul_right _ ?_) _)
     split
     ·simp
     ·exact aN _
    ·rcases bC.1 hx with e|e
     ·subst e;exact absurd ⟨q1,q2,q3⟩ hno
     ·exact e5 x e q1 q2 q3
   by_cases q1:a.fEdges[k].fFrom=s
   ·rw [decide_eq_true q1] at skip ⊢
    simp only [aD,A7]
    rw [A3]
    by_cases q2:a.fEdges[k].fTo<0
    ·rw [if_pos q2];exact skip (fun p=>by omega)
    rw [if_neg q2,zs9 h (aF hk) n hn hn',A0]
    cases q3:frP N0 ⟨T,a⟩ a.fEdges[k] with
    |false=>simp only [aL];exact skip (fun p=>by have:=p.1;rw [q3] at this;cases this)
    |true =>
     simp only [aD,if_true]
     unfold G3
     simp only [Ae k (by omega:k<=1000000000000),aA,O9,Aa]
     have hts:a.fEdges[k].fTo.toNat<seen.length:=by omega
     rw [A7,Bs (by simp;omega) (by omega),bQ,Bs (by simp;omega) (by omega),Bs (by simp;omega) (by omega),Cs (by omega) hts]
     have hgd:=zsf hts
     have hin:∀ (L:List (List Int)),(∀ w∈out++[word++[a.fEdges[k].fType]],w∈L)->∀ w∈out,w∈L:=fun L q w hw=>q w (bJ _ hw)
     cases q4:seen[a.fEdges[k].fTo.toNat] with
     |true =>
      simp only [aD,A7]
      obtain ⟨L,e1,e2,e3,e4,e5⟩:=Xh h h16 n hn hn' rF word seen s hw hsl B M hB hB1 hM rec m (k+1) (out++[word++[a.fEdges[k].fType]]) (by omega) (by omega) (by rw [aK,aM];omega)
      refine ⟨L,e1,?_,hin L e3,fun w hw=>?_,fun x hx p1 p2 p3=>?_⟩
      ·rw [aK,aM] at e2
       rw [aV,bL,bM]
       omega
      ·rcases e4 w hw with p|p
       ·rcases bR.1 p with p|p
        ·exact aS p
        ·rw [mem_singleton.1 p,aK,aM];exact aO hM
       ·exact aO p
      ·rcases bC.1 hx with e|e
       ·subst e
        refine ⟨e3 _ (by simp),fun p4=>?_⟩
        rw [hgd,q4] at p4
        cases p4
       ·exact e5 x e p1 p2 p3
     |false =>
      simp only [aL,A8]
      obtain ⟨Lr,r1,r2,r3,r4⟩:=rec _ (aF hk) (by omega) (by rw [hgd,q4])
      rw [Bs (by simp;omega) (by omega),bQ,Bl (by omega) hts,Bv hts,r1,A0,Bs (by simp only [aK,aM];omega) (by omega)]
      obtain ⟨L,e1,e2,e3,e4,e5⟩:=Xh h h16 n hn hn' rF word seen s hw hsl B M hB hB1 hM rec m (k+1) (out++[word++[a.fEdges[k].fType]]++Lr) (by omega) (by omega) (by simp only [aK,aM];omega)
      refine ⟨L,e1,?_,fun w hw=>e3 w (by simp [hw]),fun w hw=>?_,fun x hx p1 p2 p3=>?_⟩
      ·simp only [aK,aM] at e2
       rw [aV,bL,bM]
       omega
      ·rcases e4 w hw with p|p
       ·rcases bR.1 p with p|p
        ·rcases bR.1 p with p|p
         ·exact aS p
         ·rw [mem_singleton.1 p,aK,aM];exact aO hM
        ·exact aO (r3 w p)
       ·exact aO p
      ·rcases bC.1 hx with e|e
       ·subst e
        exact ⟨e3 _ (by simp),fun _ tt w hw=>e3 _ (bH _ (r4 tt w hw))⟩
       ·exact e5 x e p1 p2 p3
   ·rw [decide_eq_false q1] at skip ⊢
    simp only [aL,A8]
    exact skip (fun p=>q1 p.2.1)
  ·rw [if_neg (by omega),aH (by omega)]
   exact ⟨out,rfl,by simp,fun w hw=>hw,fun w hw=>aS hw,by simp⟩
theorem zs0 (h:ScR ⟨T,a⟩)(h16:a.fEdges.length<=16):∀ (f:Nat) (s:Int) (seen:List Bool) (word:List Int),fre seen<=f->seen.length=a.fStates.length->word.length+f<=900->∀ n,10000001+f<n->n<=N0->∃ L,Ju n T a s seen word=some L/\L.length<=(Dn a s).length*2 ^ cnE a.fEdges seen/\(∀ w∈L,w.length<=word.length+f+1)/\∀ tt w,SPt (frE N0 ⟨T,a⟩) tt seen s w->word++w∈L
 |f,s,seen,word,h1,h2,h3,n,hn,hn'=>by
  obtain ⟨n,rfl⟩:∃ n',n=n' + 1:=⟨n-1,by omega⟩
  have hle:=h.le
  have hc16:cnE a.fEdges seen<=16:=aT (aX _ _) h16
  have hB:2 ^ cnE a.fEdges seen<=65536:=by
   have:=aZ (n:=2) (by decide) hc16
   exact this
  simp only [Ju]
  obtain ⟨L,e1,e2,e3,e4,e5⟩:=Xh h h16 n (by omega) (by omega) (Ju n) word seen s (by omega) h2 (2 ^ cnE a.fEdges seen) (word.length+f+1) hB (Nat.pow_pos (by decide)) (by omega) (fun x hx x0 xs=>by
   have he:=h.ed x hx
   simp only at he
   have ht:x.fTo.toNat<seen.length:=by omega
   have q:seen[x.fTo.toNat]=false:=by rw [<-zsf ht];exact xs
   have hf:=Rv ht q
   cases f with
   |zero=>omega
   |succ f =>
    obtain ⟨L,l1,l2,l3,l4⟩:=zs0 h h16 f x.fTo (seen.set x.fTo.toNat true) (word++[x.fType]) (by omega) (by rw [bD];exact h2) (by simp;omega) n (by omega) (by omega)
    have hcn:=zsx x0 ht q a.fEdges (fun y hy=>(h.ed y hy).1)
    refine ⟨L,l1,aT (Nat.add_le_add_right l2 1) (y0z hcn),fun w hw=>?_,l4⟩
    have:=l3 w hw
    simp only [aK,aM] at this
    omega) n 0 [] (by omega) (by omega) (by simp)
  simp only [aB,aW] at e1 e2 e5
  refine ⟨L,e1,aT e2 (by rw [bK,Nat.zero_add];exact aN _),fun w hw=>(e4 w hw).resolve_left (by simp),fun tt w hw=>?_⟩
  cases hw with
  |one _ x hx h0 e =>
   obtain ⟨m1,m2⟩:=aQ.1 hx
   exact (e5 x m1 m2 rfl h0).1
  |cons _ x hx h0 hn hw =>
   obtain ⟨m1,m2⟩:=aQ.1 hx
   have:=(e5 x m1 m2 rfl h0).2 hn _ _ hw
   rwa [append_assoc] at this
theorem z9v (rate:Int)(ag:List Int)(bd inner:List Bool)(z3:Int)(r:List Bool)(N:Nat)(hN:N<=1000)(l1:ag.length=N)(l2:bd.length=N)(l3:inner.length=N)(hb:∀ i:Nat,i<N->inner[i]? = some false->bd[i]? = some true):∀ (m k:Nat) (z:Int),k<=N->N<m+k->Lk N0 rate (ag,bd,z3) (r,inner) (fun b=>some (b,true)) m (z,(k:Int))=some (if ∀ q∈scl k (inner.drop k),bd[q.1.toNat]? = some true then ((scl k (inner.drop k)).foldl (lsS rate ag) z,true) else (0,false))
 |0,k,z,h1,h2=>by omega
 |m+1,k,z,h1,h2=>by
  unfold Lk
  simp only [aA,Aa]
  rw [A3]
  by_cases hk:k<N
  ·have hka:k<ag.length:=by omega
   have hkb:k<bd.length:=by omega
   have hki:k<inner.length:=by omega
   rw [if_pos (by omega),Ad hkb,Ad hki,Ae k (by omega),aG hki]
   unfold scl
   cases q:inner[k] with
   |false =>
    have hb':=hb k hk (by rw [aC hki,q])
    rw [aC hkb] at hb'
    injection hb' with hb'
    rw [hb']
    simp only [aD,A7,aU,if_false,bQ]
    exact z9v rate ag bd inner z3 r N hN l1 l2 l3 hb m (k+1) z (by omega) (by omega)
   |true =>
    simp only [if_true,singleton_append,foldl_cons,bC,forall_eq_or_imp,aR]
    rw [aC hkb]
    cases q2:bd[k] with
    |false =>
     simp only [aL,A8]
     rw [if_neg (fun p=>by have:=p.1;cases this)]
    |true =>
     simp only [aD,A7,A8,true_and]
     rw [Ad hka]
     have i1:=z9v rate ag bd inner z3 r N hN l1 l2 l3 hb m (k+1) (lsS rate ag z ((k:Int),true)) (by omega) (by omega)
     rw [<-i1]
     unfold lsS
     simp only [aR]
     rw [aE,aC hka]
     rfl
  ·rw [if_neg (by omega),aH (by omega)]
   simp [scl]
theorem zs4 (h:AutR a)(hw:WfA a)(hle':a.fEdges.length<=1000000)(hc:C1 N0 a=some 0)(hd:E9 N0 a=some 0)(rate:Int):Q9 N0 a rate=Gq N0 a rate:=by
 have hN:=De
 have hst:=h.st
 obtain ⟨ag,bd,p,r,inner,e1,e2,l1,l2,_,p1,p2,b1,b2,b3,b4⟩:=y07 a h hw hle' hc hd
 have hil:p.finner.length<N0:=by
  have hsub:(p.finner.map (·.1)).length<=((bU a.fStates.length).map (fun (i:Nat)=>(i:Int))).length:=by
   refine Ko p2.i.nd (fun t ht'=>?_)
   have:=p2.ir t ht'
   exact mem_map.2 ⟨t.toNat,mem_range.2 this.2,by omega⟩
  simp only [aA,length_range] at hsub
  omega
 have hp:p.finner.Perm (scl 0 inner):=p2.i.same (zq9 0 _) (fun v=>by
  rw [p2.ix,<-b3,Ye]
  unfold hs
  simp)
 have q1:=z9n N0 rate ag bd a.fStates.length l1 l2 N0 p.finner 0 hil p2.ir
 have q2:=z9v rate ag bd inner 0 r a.fStates.length (by omega) l1 l2 b2 b4 N0 0 0 (by omega) (by omega)
 simp only [aB,aW] at q2
 unfold Q9 Gq
 rw [e1,e2,A0,A0,p1,b1,A0,A0,q1,q2]
 have hf:=Perm.foldl_eq' (f:=lsS rate ag) hp (fun x _ y _ z=>zo1 rate ag z x y) 0
 have hm:(∀ q∈scl 0 inner,bd[q.1.toNat]? = some true) ↔ ∀ q∈p.finner,bd[q.1.toNat]? = some true:=⟨fun q x hx=>q x (hp.mem_iff.1 hx),fun q x hx=>q x (hp.mem_iff.2 hx)⟩
 by_cases c:∀ q∈p.finner,bd[q.1.toNat]? = some true
 ·rw [if_pos c,if_pos (hm.2 c),hf]
 ·rw [if_neg c,if_neg (fun q=>c (hm.1 q))]
theorem zmb (h:ScR ⟨T,a⟩)(kinds:List Int):GrR ⟨T,a⟩ kinds ↔ GrP N0 ⟨T,a⟩ kinds:=by
 have hN:=De
 obtain ⟨M,m1,m2,m3⟩:=zzx N0 (by omega) ⟨T,a⟩ h
 constructor
 ·rintro ⟨q1,q2,i,q3,q4,q5⟩
  exact ⟨q1,q2,M,i,m1,(m3 i).2 q3,q4,q5⟩
 ·rintro ⟨q1,q2,M',i,m1',q3,q4,q5⟩
  rw [m1] at m1'
  injection m1' with m1'
  subst m1'
  exact ⟨q1,q2,i,(m3 i).1 q3,q4,q5⟩
theorem zj0 (h:ScR ⟨T,a⟩)(L:List (List Int))(hL:L.length<=10000000)(hw:∀ w∈L,w.length<=1000):∀ (m k:Nat),k<=L.length->L.length<m+k->∃ r:Bool,Ot N0 a T L (some (0,0)) m (k:Int)=some (if r=true then (2,0) else (0,0))/\(r=true ↔ ∃ w∈L.drop k,GrR ⟨T,a⟩ w)
 |0,k,h1,h2=>by omega
 |m+1,k,h1,h2=>by
  unfold Ot
  simp only [aA]
  rw [A3]
  by_cases hk:k<L.length
  ·obtain ⟨g,g1,g2⟩:=zs6 h L[k] (by have:=hw _ (aF hk);omega)
   rw [if_pos (by omega),Ad hk,g1,A0,Ae k (by omega),aG hk]
   cases g with
   |true =>
    rw [A8]
    exact ⟨true,rfl,fun _=>⟨_,mem_cons_self,g2.1 rfl⟩,fun _=>rfl⟩
   |false =>
    rw [A7]
    obtain ⟨r,r1,r2⟩:=zj0 h L hL hw m (k+1) (by omega) (by omega)
    refine ⟨r,r1,r2.trans ⟨fun ⟨w,w1,w2⟩=>⟨w,bI _ w1,w2⟩,fun ⟨w,w1,w2⟩=>?_⟩⟩
    rcases bC.1 w1 with e|e
    ·subst e;have:=g2.2 w2;cases this
    ·exact ⟨w,e,w2⟩
  ·rw [if_neg (by omega),aH (by omega)]
   exact ⟨false,rfl,by simp⟩
theorem zs1 (h:ScR ⟨T,a⟩)(hw:WfA a)(h16:a.fEdges.length<=16)(hc:C1 N0 a=some 0)(hd:E9 N0 a=some 0)(rate:Int)(b:Int)(ok:Bool)(hL:Gq N0 a rate=some (b,ok)):∃ (L:List (List Int)) (r:Bool),So N0 T a rate=some (if ok=true then (1,b) else if r=true then (2,0) else (0,0))/\(ok=false->(r=true ↔ ∃ w∈L,GrR ⟨T,a⟩ w))/\∀ t w,SPt (frE N0 ⟨T,a⟩) t ((aJ a.fStates.length false).set 0 true) 0 w->w∈L:=by
 have hN:=De
 have hst:=h.st
 simp only at hst
 have hr0:0<(aJ a.fStates.length false).length:=by simp;omega
 have hfre:fre ((aJ a.fStates.length false).set 0 true)<=256:=by
  have:=Yl ((aJ a.fStates.length false).set 0 true)
  simp only [bD,aY] at this
  omega
 obtain ⟨L,w1,w2,w3,w4⟩:=zs0 h h16 256 0 ((aJ a.fStates.length false).set 0 true) [] hfre (by simp) (by simp) N0 (by omega) (aN _)
 have hfl:(Dn a 0).length<=16:=aT (aX _ _) h16
 have hcl:cnE a.fEdges ((aJ a.fStates.length false).set 0 true)<=16:=aT (aX _ _) h16
 have hp16:2 ^ cnE a.fEdges ((aJ a.fStates.length false).set 0 true)<=65536:=aZ (n:=2) (by decide) hcl
 have hll:L.length<=16*65536:=aT w2 (bP hfl hp16)
 obtain ⟨r,r1,r2⟩:=zj0 h L (by omega) (fun w hw=>by have:=w3 w hw;simp only [bK] at this;omega) N0 0 (by omega) (by omega)
 simp only [aB,aW] at r1 r2
 refine ⟨L,r,?_,fun _=>r2,fun t w hw=>by simpa using w4 t w hw⟩
 unfold So
 rw [zs4 (a:=a) h.toAutR hw (by omega) hc hd,hL,A0]
 cases ok with
 |true=>simp only;rw [A8,if_pos trivial]
 |false =>
  simp only [aA]
  have hz:(0:Int).toNat=0:=rfl
  rw [A7,Cg (by omega) (by decide),aY,Bl (by omega) (by omega),Bv (by simpa using hr0),O9,Aa,hz,w1,A0,r1]
  simp only [aU,if_false]
theorem y14 (f:Int)(hf:0<=f/\f<3):Ec N0 ⟨f,0,ByteArray.empty⟩=some 0:=by
 rcases (show f=0\/f=1\/f=2 by omega) with e|e|e<;>subst e<;>with_unfolding_all rfl
theorem y04 (hc:Fl N0 T=some 0)(hT:∀ S∈T,FdOk S){i:Nat}(hi:i<=1000000){k:Int}(hk:0<=k/\k.toNat<T.length):Qe N0 T (pfxE T i k)=some 0:=by
 have hN:=De
 obtain ⟨r,r1,r2⟩:=zvw N0 (by omega) T
 rw [hc] at r2
 injection r2 with r2
 subst r2
 have hS:=hT _ (aF hk.2)
 have hv:(pfxE T i k).fValues=T[k.toNat].fFields.map fun f=>⟨f.fKind,0,ByteArray.empty⟩:=by
  unfold pfxE
  simp only
  rw [aC hk.2]
  rfl
 have loop:∀ (m j:Nat),j<=T[k.toNat].fFields.length->T[k.toNat].fFields.length<m+j->Pk N0 (pfxE T i k) T[k.toNat] (some 0) m (j:Int)=some 0:=fun m=>by
  induction m with
  |zero=>intro j h1 h2;omega
  |succ m ih =>
   intro j h1 h2
   unfold Pk
   simp only [aA]
   rw [A3]
   by_cases hj:j<T[k.toNat].fFields.length
   ·have hjv:j<(pfxE T i k).fValues.length:=by rw [hv,aA];exact hj
    have e:(pfxE T i k).fValues[j]=⟨T[k.toNat].fFields[j].fKind,0,ByteArray.empty⟩:=by simp only [hv,bF]
    rw [if_pos (by omega),Ad hjv,e,y14 _ (hS.2 _ (aF hj)),A0,show (!decide ((0:Int)=0))=false from rfl,A7,Ad hjv,e,Ad hj,decide_eq_true rfl,aD,A7,Ae j (by have:=hS.1;omega)]
    exact ih (j+1) (by omega) (by omega)
   ·rw [if_neg (by omega)]
 have hl:=loop N0 0 (by omega) (by have:=hS.1;omega)
 simp only [aB] at hl
 have f1:(pfxE T i k).fSource=0:=rfl
 have f2:(pfxE T i k).fSeq=(i:Int):=rfl
 have f3:(pfxE T i k).fTime=(i:Int):=rfl
 have f4:(pfxE T i k).fType=k:=rfl
 have j3:J8 N0 (pfxE T i k) T false=some 0:=by
  unfold J8
  rw [A7,f4,Cs hk.1 hk.2]
  simp only [aA]
  rw [hv,aA,decide_eq_true rfl,aD,A7]
  exact hl
 have j2:G8 N0 (pfxE T i k) T false=some 0:=by
  unfold G8
  simp only [Am,Aa,aA]
  rw [A7,f4,A3,if_neg (by omega),decide_eq_false (by omega)]
  exact j3
 have j1:J9 N0 (pfxE T i k) T false=some 0:=by
  unfold J9
  simp only [Am,Aa]
  rw [A7,f2,f3,A3,if_neg (by omega),A3,if_neg (by omega),A3,if_neg (by omega),decide_eq_false (by omega)]
  exact j2
 unfold Qe We
 simp only [Am,Aa]
 rw [r1,A0,show (!decide ((0:Int)=0))=false from rfl,A7,f1,A3,if_neg (by omega),show decide ((8:Int)<=0)=false from rfl,j1,A0]
theorem zjb (l:List Ev)(hl:l.length<=1000000)(ht:∀ j (h:j<l.length),l[j].fTime=(j:Int))(rt:Nat)(h1r:1<=rt)(hr:rt<=4096):∀ (m k:Nat),rt<=k->l.length<m+k->0<m->k<=2000000->Ps N0 (rt:Int) l (some false) m (k:Int)=some false
 |0,k,h1,h2,h3,h4=>by omega
 |m+1,k,h1,h2,h3,h4=>by
  unfold Ps
  simp only [aA]
  rw [A3]
  by_cases hk:k<l.length
  ·have hk2:k-rt<l.length:=by omega
   rw [if_pos (by omega),Ad hk,Cd _ (by omega),show ((k:Int)-(rt:Int))=((k-rt:Nat):Int) from by omega,Ad hk2,ht,ht,decide_eq_false (by omega),A7,Ae k (by omega)]
   exact zjb l hl ht rt h1r hr m (k+1) (by omega) (by omega) (by omega) (by omega)
  ·rw [if_neg (by omega)]
theorem zc0 (rate:Int)(g:C3)(hl:g.fPrefix.length<=1000000)(hev:∀ x∈g.fPrefix,Qe N0 T x=some 0)(K:List Int->Option Int):∀ (m k:Nat),k<=g.fPrefix.length->g.fPrefix.length<m+k->P0 N0 g rate a T K m ((k:Int),(g.fPrefix.map (·.fType)).take k)=K (g.fPrefix.map (·.fType))
 |0,k,h1,h2=>by omega
 |m+1,k,h1,h2=>by
  unfold P0
  simp only [aA]
  rw [A3]
  by_cases hk:k<g.fPrefix.length
  ·have hk':k<(g.fPrefix.map (·.fType)).length:=by simpa using hk
   rw [if_pos (by omega),Ad hk,hev _ (aF hk),A0,show (!decide ((0:Int)=0))=false from rfl,A7,Ad hk,Bs (by simp;omega) (by decide),Ae k (by omega)]
   have e:(g.fPrefix.map (·.fType)).take k++[g.fPrefix[k].fType]=(g.fPrefix.map (·.fType)).take (k+1):=by
    rw [take_succ_eq_append_getElem hk',bF]
   rw [e]
   exact zc0 rate g hl hev K m (k+1) (by omega) (by omega)
  ·rw [if_neg (by omega),take_of_length_le (by simp;omega)]
theorem zm9 (hw:WfA a)(rate:Int):Qa N0 T a rate=Gp N0 T a rate:=by
 have hN:=De
 obtain ⟨r,r1,r2⟩:=zvw N0 (by omega) T
 obtain ⟨d,d1,d2,_⟩:=zfi N0 (by omega) a hw
 unfold Qa Gp
 simp only [Am,Aa,Lm,Kc]
 rw [r1,r2,d1,d2]
theorem y13 {rate:Int}(hr:1<=rate/\rate<=4096)(h:ScR ⟨T,a⟩)(hw:WfA a)(hR:Gp N0 T a rate=some 0)(hc:Fl N0 T=some 0)(hT:∀ S∈T,FdOk S)(ht:∀ x∈a.fEdges,0<=x.fType){M:Mp}(m1:Er N0 ⟨T,a⟩=some M)(hy:YesP N0 ⟨T,a⟩ M w):Me N0 T a rate ⟨2,0,pfxL T 0 w,(w.length:Int)⟩=some 0:=by
 have hN:=De
 obtain ⟨ne,len,t,mt,hp⟩:=hy
 have hty:=zi1 h (by omega) ht hp
 obtain ⟨q1,q2⟩:=zvo hp (fun t=>t=0) rfl
 have hl:=znf T 0 w
 have hmap:(pfxL T 0 w).map (·.fType)=w:=by
  apply ext_getElem
  ·rw [aA,hl]
  ·intro j j1 j2
   rw [bF,zfc T 0 w j j2]
   rfl
 have hget:∀ j (hj:j<(pfxL T 0 w).length),(pfxL T 0 w)[j].fTime=(j:Int):=fun j hj=>by
  rw [zfc T 0 w j (by omega)]
  unfold pfxE
  simp
 have hpos:0<w.length:=length_pos_iff.2 ne
 have hg:GrR ⟨T,a⟩ w:=(zmb h w).2 ⟨ne,fun k hk=>(q2 k hk).1,M,t,m1,mt,q1,fun k hk=>(q2 k hk).2⟩
 obtain ⟨g,g1,g2⟩:=zs6 h w (by omega)
 rw [g2.2 hg] at g1
 have hchk:Ii (pfxL T 0 w)=0:=by
  unfold Ii
  rw [if_neg (by omega)]
  exact zqt T w 0 [] (by omega) (by simp)
 have hpx:=zc0 (T:=T) (a:=a) rate ⟨2,0,pfxL T 0 w,(w.length:Int)⟩ (by simp only;omega) (fun x hx=>by
  simp only at hx
  obtain ⟨j,hj,rfl⟩:=mem_iff_getElem.1 hx
  rw [zfc T 0 w j (by omega)]
  exact y04 hc hT (by omega) (hty _ (aF _))) (fun b=>bnd (Qj N0 (pfxL T 0 w) rate) fun c=>cnd c (some 5) <| bnd (Py N0 ⟨2,0,pfxL T 0 w,(w.length:Int)⟩) fun d=>cnd (!d) (some 2) <| bnd (Mo N0 T a b) fun e=>cnd (!e) (some 18) <| some 0) N0 0 (by simp only;omega) (by simp only;omega)
 simp only [aB,take_zero,hmap] at hpx
 obtain ⟨rt,hrt⟩:∃ rt:Nat,rate=(rt:Int):=⟨rate.toNat,by omega⟩
 have hfast:Qj N0 (pfxL T 0 w) rate=some false:=by
  unfold Qj
  rw [hrt]
  exact zjb (pfxL T 0 w) (by omega) hget rt (by omega) (by omega) N0 rt (aN _) (by omega) (by omega) (by omega)
 have hper:Py N0 ⟨2,0,pfxL T 0 w,(w.length:Int)⟩=some true:=by
  unfold Py
  simp only [Am,Aa,aA]
  have hk1:w.length-1<(pfxL T 0 w).length:=by omega
  have hk0:0<(pfxL T 0 w).length:=by omega
  have e0:∀ K:Ev->Option Bool,idx (pfxL T 0 w) 0 K=K (pfxL T 0 w)[0]:=fun K=>by
   have:=Ad hk0 K
   simpa only [aB] using this
  rw [A3,if_pos (by omega),Cd _ (by omega),hl,show ((w.length:Int)-1)=((w.length-1:Nat):Int) from by omega,Ad hk1,e0,hget,hget,Cd _ (by omega)]
  unfold L8
  simp only [Am,Aa,L7]
  rw [A3,if_pos (by omega),decide_eq_true (by omega)]
 unfold Me
 rw [zm9 hw,hR,A0]
 simp only [Am,Aa,J0,W4,bT,decide_true,decide_false,aD,aL,A8,A7,zu7,hchk,A0]
 rw [hpx,hfast,A0,A7,hper,A0,aD,A7,g1,A0,aD,A7,A0]
theorem zxs (h:N1 N0 T a=some true):a.fEdges.length<=16:=by
 unfold N1 at h
 simp only [Am,Aa,Gh,aA] at h
 obtain ⟨b,_,h⟩:=Ih h
 rcases cnd_inv h with ⟨_,h⟩|⟨_,h⟩
 ·obtain ⟨c,_,h⟩:=Ih h
  rcases cnd_inv h with ⟨_,h⟩|⟨_,h⟩
  ·rcases cnd_inv h with ⟨_,h⟩|⟨_,h⟩
   ·injection h with h
    have:=of_decide_eq_true h
    omega
   ·cases h
  ·cases h
 ·cases h
theorem zs2:Qk N0 ⟨0,0,[],0⟩ ⟨0,0,[],0⟩=some true:=by
 unfold Qk Wp
 simp only [Am,Aa,Hf,map_nil,bK]
 have hs:M8 N0 [] [] (some true) N0 0=some true:=by
  have:∀ m:Nat,0<m->M8 N0 [] [] (some true) m 0=some true:=fun m hm=>by
   obtain ⟨m,rfl⟩:∃ n',m=n' + 1:=⟨m-1,by omega⟩
   unfold M8
   rw [A3,if_neg (by simp)]
  exact this N0 (by have:=De;omega)
 rw [hs]
 simp only [aB,decide_true,A8,aD,A7,A0]
theorem zfn (c:Ht)(hw:WfA c.fA)(hT:c.fTypes.length<=1100000):Vf N0 c=some true:=by
 have hN:=De
 have haw:Jv N0=some true:=zpo
 obtain ⟨T,a,rate⟩:=c
 simp only at hw hT
 obtain ⟨f,f1⟩:=zx6 T hT a hw
 unfold Vf Vo
 rw [f1,A0,A0]
 cases f with
 |false=>simp only [aL,A8];rw [haw,A0]
 |true =>
  simp only [aD,A7,Am,Aa]
  have h16:=zxs f1
  obtain ⟨r,r1,r2⟩:=zww N0 (by omega) T a hw rate
  rw [zm9 hw,r1]
  by_cases hr:r=0
  rotate_left
  ·have hd:Eg N0 T a rate=some (⟨0,0,[],0⟩,r):=by
    unfold Eg
    rw [r1,A0,Ax,A3,if_neg hr]
   rw [hd,A0,A0,Ax,A3,if_neg hr]
   simp only [Ip,decide_true,A8]
   rw [zs2,A0,A8,haw,A0]
  subst hr
  obtain ⟨hc,hT2,hC,hA,hrt⟩:=r2 rfl
  have h:=scR (T:=T) hw hA (by omega:10000000<N0) hC
  have ht:=fun x hx=>((zkg (by omega:10000000<N0) hw hC).2 x hx).1
  obtain ⟨d,d1,d2,_⟩:=zfi N0 (by omega) a hw
  rw [hC] at d2
  injection d2 with d2
  subst d2
  obtain ⟨b,ok,p,hL,hb,hp,hB⟩:=zx2 N0 hN a h.toAutR hw hC rate hrt
  obtain ⟨M,m1,hd⟩:=zp5 N0 hN T a rate h r1 hT2.2 ht b ok hL
  obtain ⟨L,rr,v1,v3,v2⟩:=zs1 h hw h16 hC d1 rate b ok hL
  have hst:=h.st
  simp only at hst
  rw [v1]
  rcases hd with ⟨hok,hd⟩|⟨hok,⟨w,hd,hy⟩|⟨hd,hu⟩⟩
  ·rw [hd,A0,A0,show (!decide ((0:Int)=0))=false from rfl,A7,A0,if_pos hok]
   have hv:Me N0 T a rate ⟨1,b,[],0⟩=some 0:=by
    unfold Me
    rw [zm9 hw,r1,A0]
    have hlt:decide (b<b)=false:=decide_eq_false (by omega)
    have h00:decide ((0:Int)<0)=false:=rfl
    simp only [Am,Aa,J0,La,L9,bT,decide_true,decide_false,aD,aL,A8,A7,map_nil,bK,aB,h00,zs4 (a:=a) h.toAutR hw (by omega) hC d1,hL,A0,hok,hlt]
   simp only [aD,A7,decide_true]
   unfold Fy
   simp only [Am,Aa,Io]
   rw [A7,show decide ((1:Int)=0)=false from rfl,A7,hv,A0,decide_eq_true rfl,A8,haw,A0]
  ·have hy':=hy
   obtain ⟨ne,len,t,mt,hpt⟩:=hy'
   have hE:∀ x∈ptE N0 ⟨T,a⟩ t,x∈frE N0 ⟨T,a⟩:=fun x hx=>by
    obtain ⟨h1,h2⟩:=aQ.1 hx
    simp only [bG] at h2
    exact aQ.2 ⟨h1,h2.1⟩
   have hE2:∀ x∈ptE N0 ⟨T,a⟩ t,0<=x.fTo/\x.fTo.toNat<a.fStates.length:=fun x hx=>by
    obtain ⟨h1,h2⟩:=aQ.1 hx
    unfold ptP at h2
    simp only [bG,decide_eq_true_eq] at h2
    have:=h.ed x h1
    simp only at this
    omega
   have hr0:0<(aJ a.fStates.length false).length:=by simp;omega
   obtain ⟨w1,_,a1⟩:=zyi _ _ (aN _) (y0i hpt)
   obtain ⟨w2,a2⟩:=zvl hE2 _ w1 ((aJ a.fStates.length false).set 0 true) 0 _ (aN _) (by simp) (fun v hv=>by
    rcases (F0 hr0 v).1 hv with e|e
    ·exact aO e
    ·exact absurd e (F4 _ _)) a1
   have hin:=v2 t w2 (zto hE a2)
   obtain ⟨q1,q2⟩:=zvo (zwi a2) (fun t=>t=0) rfl
   have hne:w2≠[]:=zyw a2
   have hg:GrR ⟨T,a⟩ w2:=(zmb h w2).2 ⟨hne,fun k hk=>(q2 k hk).1,M,t,m1,mt,q1,fun k hk=>(q2 k hk).2⟩
   rw [hd,A0,A0,show (!decide ((0:Int)=0))=false from rfl,A7,A0,if_neg (by simp [hok]),if_pos ((v3 hok).2 ⟨w2,hin,hg⟩)]
   simp only [aD,A7,decide_true]
   unfold Fy
   simp only [Am,Aa,Io]
   rw [A7,show decide ((2:Int)=0)=false from rfl,A7,y13 hrt h hw r1 hc hT2.2 ht m1 hy,A0,decide_eq_true rfl,A8,haw,A0]
  ·have hno:¬∃ w∈L,GrR ⟨T,a⟩ w:=fun ⟨w,_,hg⟩=>zy0 (by omega:10000000<N0) h m1 hu ((zmb h w).1 hg)
   rw [hd,A0,A0,show (!decide ((0:Int)=0))=false from rfl,A7,A0,if_neg (by simp [hok]),if_neg (fun q=>hno ((v3 hok).1 q))]
   simp only [aD,A7,decide_true]
   unfold Fy
   simp only [Am,Aa,Kx,decide_true,A8,A7]
   rw [zs2,A0,A8,haw,A0]
open Go.ChangeShapes Go.WideShapes Go.ChangeAt
theorem zvh {w:World}{S:Nat->Prop}{a:AV}{x:Value}(ha:Rep w S G0 a x):Args w S [a] #[x] :=
 ⟨rfl,fun i hi=>by
  have hi':i<1:=hi
  rcases i with _|i
  ·exact ha
  ·omega⟩
theorem zuh:ownKnob Tryz.prog.godebug=none:=by kernel_rfl
theorem zul:laidOutB bA=true:=by kernel_rfl
section
variable {H:Type} {enc:TypeId×Value->H}
theorem z8u {W W':World}{sp':Nat->Bool}(hb:Below W.heap.size W W')(ts:List TypeId):∀ (vs:List Value) (ds:List (DataW H)) (p:List MemPlace),ts.all (fun t=>Tryz.prog.readableRec t && decide (t<Tryz.prog.types.size))=true ->
  DataW.TrodAll enc bA W 0 (fun _=>true) true ts vs ds p->(∀ x∈p,x.block<W.heap.size)->(∀ x∈p,sp' x.block=true)->DataW.TrodAll enc bA W' 0 sp' true ts vs ds p:=by
 induction ts with
 |nil =>
  intro vs ds p _ h _ _
  match vs,ds,h with
  |[],[],h=>exact h
  |_::_,_,h=>exact h.elim
  |[],_::_,h=>exact h.elim
 |cons t ts ih =>
  intro vs ds p hr h hlt hs
  match vs,ds,h with
  |v::vs,d::ds,h =>
   obtain ⟨q,r,h1,h2,rfl⟩:=h
   have hr1:Tryz.prog.readableRec t=true/\t<Tryz.prog.types.size:=by
    have:=bO.mp hr t (mem_cons_self ..)
    rw [bG,decide_eq_true_eq] at this;exact this
   have hr2:ts.all (fun t=>Tryz.prog.readableRec t && decide (t<Tryz.prog.types.size))=true :=
    bO.mpr fun x hx=>bO.mp hr x (bI _ hx)
   exact ⟨q,r,WideElems.Trod_stays zul hr1.1 hr1.2 h1 (fun x hx=>hb.same (hlt x (bJ _ hx))) (fun x hx=>hs x (bJ _ hx)),
    ih vs ds r hr2 h2 (fun x hx=>hlt x (bH _ hx)) (fun x hx=>hs x (bH _ hx)),rfl⟩
  |[],_,h=>exact h.elim
  |_::_,[],h=>exact h.elim
theorem zl6 {W:World}{b:Nat}{sp:Nat->Bool}(ts:List TypeId):∀ (vs:List Value) (ds:List (DataW H)) (p:List MemPlace),DataW.TrodAll enc bA W b sp true ts vs ds p->ds.length=ts.length:=by
 induction ts with
 |nil =>
  intro vs ds p h
  match vs,ds,h with
  |[],[],h=>rfl
  |_::_,_,h=>exact h.elim
  |[],_::_,h=>exact h.elim
 |cons t ts ih =>
  intro vs ds p h
  match vs,ds,h with
  |v::vs,d::ds,h =>
   obtain ⟨q,r,h1,h2,rfl⟩:=h
   simp only [aV]
   rw [ih vs ds r h2]
  |[],_,h=>exact h.elim
  |_::_,[],h=>exact h.elim
end
open Go.Joins Go.Deep
section
variable {H:Type} {enc:TypeId×Value->H} {W:World} {base:Nat} {v:Value} {d:DataW H} {p:List MemPlace}
variable {u:Value}
theorem zhq {a:Addr}(h:W.cell? a=some u):a.spot=none/\a.block<W.heap.size:=by
 unfold World.cell? at h
 split at h
 ·rename_i c _ _ hg
  split at h
  ·cases h
  ·rename_i hs
   refine ⟨by cases hh:a.spot with|none=>rfl|some _=>simp [hh] at hs,?_⟩
   rcases Nat.lt_or_ge a.block W.heap.size with hlt|hge
   ·exact hlt
   ·rw [Array.getElem?_eq_none hge] at hg;cases hg
 ·cases h
theorem Ku (b off k:Nat):(⟨b,off,none⟩:Addr).add k=⟨b,off+k,none⟩:=by
 by_cases h:k=0<;>simp [Addr.add,h]
variable {α:Type}
theorem ziu {β:Type}{f:α->Option β}:∀ {l:List α} {r:List β},l.mapM f=some r->r.length=l.length/\∀ k (hk:k<l.length) (hr:k<r.length),f l[k]=some r[k]
 |[],r,h=>by simp at h;subst h;exact ⟨rfl,fun k hk=>absurd hk (by simp)⟩
 |a::l,r,h=>by
  simp only [mapM_cons] at h
  cases ha:f a with
  |none=>rw [ha] at h;simp at h
  |some b =>
   rw [ha] at h
   cases hl:l.mapM f with
   |none=>rw [hl] at h;simp at h
   |some s =>
    rw [hl] at h
    simp at h
    subst h
    obtain ⟨i1,i2⟩:=ziu hl
    refine ⟨by simp [i1],fun k hk hr=>?_⟩
    cases k with
    |zero=>exact ha
    |succ k=>exact i2 k (by simpa using hk) (by simpa using hr)
theorem Xl {a:Addr}{n:Nat}{cs:List Value}(h:W.cells? 0 a n=some cs):cs.length=n/\∀ j,j<n->W.cell? (a.add j)=some (cs.getD j undef):=by
 unfold World.cells? at h
 rw [if_pos (Nat.zero_le _)] at h
 obtain ⟨i1,i2⟩:=ziu h
 have hl:cs.length=n:=by simpa using i1
 refine ⟨hl,fun j hj=>?_⟩
 have:=i2 j (by simpa using hj) (by omega)
 rw [getElem_range] at this
 rw [this]
 simp [aC (show j<cs.length by omega)]
def V8 (W:World)(a:α->AV)(m:α)(cs:List Value):Prop :=
 cs.length=(a m).cells.length/\∀ j (hj:j<(a m).cells.length),Rep W (fun _=>True) G0 ((a m).cells[j]) (cs.getD j undef)/\(cs.getD j undef).oneCell'=true
theorem zwj {a:α->AV}{t e:TypeId}{sz:Nat}(ht:Tryz.prog.underlying t=some (.slice e))(hsz:Tryz.prog.cellsOf e=sz)(h0:0<sz)(i0:Inhabited α)(hlen:∀ m,(a m).cells.length=sz)
  (each:∀ (n:Nat) (cs:List Value) (x:DataW H×List MemPlace),cs.length=sz->DataW.trod enc bA W 0 (fun _=>true) true n e cs=some x->∃ m:α,V8 W a m cs)
  {n:Nat}  {x:DataW H×List MemPlace} (h:DataW.trod enc bA W 0 (fun _=>true) true n t [u]=some x):∃ l:List α,Rep W (fun _=>True) G0 (.sl sz (l.map a)) u:=by
 rcases open_slice ht h with ⟨h1,_⟩|⟨A,len,cap,m,n',D,Pl,h1,_,hlc,hm,hmm,_,hc⟩
 ·simp only [List.cons.injEq,and_true] at h1
  subst h1
  exact ⟨[],.sl none 0 (fun _ _=>.bool true) (by simp) (fun k hk=>absurd hk (by simp)) (fun h=>absurd h (by simp)) (fun k hk=>absurd hk (by simp)) (fun _ _=>rfl)⟩
 ·simp only [List.cons.injEq,and_true] at h1
  subst h1
  simp only [if_true] at hmm
  subst hmm
  rw [hsz] at hc
  have every:∀ i,∃ q:α×List Value,i<len->W.cells? 0 (A.add (i*sz)) sz=some q.2/\V8 W a q.1 q.2:=fun i=>by
   by_cases hi:i<len
   ·obtain ⟨cs,c1,c2⟩:=hc i (by omega)
    obtain ⟨k,hk⟩:=each n' cs _ (Xl c1).1 c2
    exact ⟨(k,cs),fun _=>⟨c1,hk⟩⟩
   ·exact ⟨(i0.default,[]),fun h=>absurd h hi⟩
  obtain ⟨f,hf⟩:=Classical.axiomOfChoice every
  have hl:((bU len).map fun i=>(f i).1).length=len:=by simp
  refine ⟨(bU len).map fun i=>(f i).1,?_⟩
  have e:len=(((bU len).map fun i=>(f i).1).map a).length:=by simp
  have hcell:∀ k j,k<len->j<sz->W.cell? ((A.add (k*sz)).add j)=some ((f k).2.getD j undef):=fun k j hk hj=>(Xl (hf k hk).1).2 j hj
  have:Rep W (fun _=>True) G0 (.sl sz (((bU len).map fun i=>(f i).1).map a)) (.slice (some A) (((bU len).map fun i=>(f i).1).map a).length m):=by
   refine .sl (some A) m (fun k j=>if k<len/\j<sz then (f k).2.getD j undef else .bool true) (by simpa using hlc) (fun k hk=>?_) (fun h0'=>?_) (fun k hk j hj=>?_) (fun k j=>?_)
   ·simp only [bF];exact hlen _
   ·have hlp:0<len:=by simpa using h0'
    have c0:=zhq (hcell 0 0 hlp h0)
    obtain ⟨b,off,sp⟩:=A
    have e1:sp=none:=by simpa [Addr.add] using c0.1
    subst e1
    rw [Ku,Ku] at c0
    refine ⟨b,off,rfl,trivial,c0.2,fun k j hk hj=>?_⟩
    have hk':k<len:=by simpa using hk
    have:=hcell k j hk' hj
    rw [Ku,Ku] at this
    rw [if_pos ⟨hk',hj⟩,<-this]
    congr 2
    omega
   ·have hk':k<len:=by simpa using hk
    simp only [bF,getElem_range] at hj ⊢
    have hj':j<sz:=by rw [hlen] at hj;exact hj
    rw [if_pos ⟨hk',hj'⟩]
    exact ((hf k hk').2.2 j hj).1
   ·by_cases hkj:k<len/\j<sz
    ·rw [if_pos hkj]
     exact ((hf k hkj.1).2.2 j (by rw [hlen];exact hkj.2)).2
    ·rw [if_neg hkj];rfl
  rw [<-e] at this
  exact this
theorem Rep.one_sl {sz:Nat}{xs:List AV}(h:Rep W (fun _=>True) G0 (.sl sz xs) u):u.oneCell'=true:=by
 cases h;rfl
theorem y0j {a:α->AV}{m:α}{cs:Array Value}{xs:List AV}(hm:a m=.agg xs)(h:V8 W a m cs.toList):Rep W (fun _=>True) G0 (a m) (.agg cs):=by
 obtain ⟨h1,h2⟩:=h
 rw [hm] at h1 h2 ⊢
 have hl:cs.size=xs.length:=by simpa [AV.cells] using h1
 have g:∀ i,cs.toList.getD i undef=cs.getD i undef:=fun i=>by
  by_cases hi:i<cs.size
  ·simp [Array.getD,hi]
  ·simp [Array.getD,hi]
 refine .agg _ hl (fun i hi=>?_) (fun i hi=>?_)
 ·have:=(h2 i hi).1
  rw [g] at this
  exact this
 ·have:=(h2 i (show i<xs.length by rw [<-hl];exact hi)).2
  rw [g] at this
  exact this
end
section
variable {H:Type} {enc:TypeId×Value->H} {W:World} {base:Nat} {v:Value} {d:DataW H} {p:List MemPlace}
def Bi (W:World)(xs:List AV)(cs:List Value):Prop :=
 cs.length=xs.length/\∀ j (hj:j<xs.length),Rep W (fun _=>True) G0 (xs[j]) (cs.getD j undef)/\(cs.getD j undef).oneCell'=true
theorem Bi.one {a:AV}{c:Value}(h:Rep W (fun _=>True) G0 a c)(h1:c.oneCell'=true):Bi W [a] [c]:=by
 refine ⟨rfl,fun j hj=>?_⟩
 have hj':j<1:=hj
 rcases j with _|j
 ·exact ⟨h,h1⟩
 ·omega
variable {cs:List Value}
theorem Bi.append {xs ys:List AV}{ds:List Value}(h1:Bi W xs cs)(h2:Bi W ys ds):Bi W (xs++ys) (cs++ds):=by
 refine ⟨by rw [aK,aK,h1.1,h2.1],fun j hj=>?_⟩
 by_cases h:j<xs.length
 ·have:=h1.2 j h
  rw [getElem_append_left h]
  have e:(cs++ds).getD j undef=cs.getD j undef:=by
   simp only [aE]
   rw [getElem?_append_left (by rw [h1.1];exact h)]
  rw [e];exact this
 ·have hj':j-xs.length<ys.length:=by rw [aK] at hj;omega
  have:=h2.2 (j-xs.length) hj'
  rw [getElem_append_right (by omega)]
  have e:(cs++ds).getD j undef=ds.getD (j-xs.length) undef:=by
   simp only [aE]
   rw [getElem?_append_right (by rw [h1.1];omega),h1.1]
  rw [e];exact this
theorem Bi.cut {o s:Nat}{xs ys:List AV}(h1:Bi W xs ((cs.drop o).take s))(h2:Bi W ys (cs.drop (o+s))):Bi W (xs++ys) (cs.drop o):=by
 have:cs.drop o=(cs.drop o).take s++cs.drop (o+s):=by rw [<-drop_drop,take_append_drop]
 rw [this]
 exact h1.append h2
theorem Bi.done {o:Nat}(h:cs.length<=o):Bi W [] (cs.drop o):=by
 rw [aH h]
 exact ⟨rfl,fun j hj=>absurd hj (by simp)⟩
theorem Bg {o s:Nat}(h:o+s<=cs.length):((cs.drop o).take s).length=s:=by rw [length_take,length_drop];omega
abbrev FO (enc:TypeId×Value->H)(W:World)(t:TypeId)(sz:Nat){α:Type}(e:α->List AV):Prop :=
 ∀ (n:Nat) (cs:List Value) (x:DataW H×List MemPlace),cs.length=sz->DataW.trod enc bA W 0 (fun _=>true) true n t cs=some x->∃ m:α,Bi W (e m) cs
variable {t:TypeId}
theorem Ci (ht:Tryz.prog.underlying t=some (.int .i64)):FO enc W t 1 (fun z:Int=>[aI z]):=fun n cs x hl h=>by
 obtain ⟨z,rfl,_⟩:=DataW.trod_int (k:=.i64) ht h
 exact ⟨z,.one (.int _ _) rfl⟩
theorem zsh (ht:Tryz.prog.underlying t=some .string):FO enc W t 1 (fun z:ByteArray=>[AV.str z]):=fun n cs x hl h=>by
 obtain ⟨z,rfl,_⟩:=DataW.trod_string ht h
 exact ⟨z,.one (.str _) rfl⟩
theorem y16 {e:TypeId}{sz:Nat}{α:Type}{a:α->AV}(ht:Tryz.prog.underlying t=some (.slice e))(hsz:Tryz.prog.cellsOf e=sz)(h0:0<sz)(i0:Inhabited α)(hlen:∀ m,(a m).cells.length=sz)
  (each:FO enc W e sz (fun m:α=>(a m).cells)):FO enc W t 1 (fun l:List α=>[AV.sl sz (l.map a)]):=fun n cs x hl h=>by
 match cs,hl with
 |[c],_ =>
  obtain ⟨l,hl⟩:=zwj (a:=a) ht hsz h0 i0 hlen each h
  exact ⟨l,.one hl hl.one_sl⟩
theorem zy3 (ht:Tryz.prog.underlying t=some (.int .i64)):FO enc W t 1 (fun z:Int=>(aI z).cells):=Ci ht
end
end Go.Proofs.YthbogefcfhmpgaaGreat
