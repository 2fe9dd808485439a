/- Layer 57, plainly. -/
import Derived.Test.YthbogefcfhmpgaaGreatK24
set_option linter.unusedVariables false
set_option linter.unusedSimpArgs false
set_option maxRecDepth 100000
namespace Go.Proofs.YthbogefcfhmpgaaGreat
open Go.RowKit List
open List renaming length_map->aA,getElem_mem->aD,getElem?_eq_getElem->aE,replicate->aF,drop_eq_getElem_cons->aG,drop_eq_nil_of_le->aH,mem_cons_of_mem->aK,mem_cons->aN,getD_eq_getElem?_getD->aO,length_set->aP,foldl_cons->aR,mem_singleton->aT,countP_le_length->aU,length_replicate->aV,drop_zero->aW,eq_of_mem_replicate->aX,length_cons->aZ,mem_flatMap->bA,map_cons->bB,nodup_cons->bC,length_nil->bD
open Int renaming toNat_of_nonneg->aB,natCast_zero->aC,toNat_natCast->aM
open Or renaming inr->aJ,inl->aL
open Bool renaming not_false->aQ,not_true->aS,and_eq_true->aY
structure Ch (a:Aut) (l:List Ev) (f:List Cf->List Cf):Prop where
 sub:∀ i cs,Sb a l i cs->Sb a l i (f cs)
 cov:∀ cs,∀ c∈cs,covd (Il a) (f cs) c=true
def TmS (l:List Sta):Prop:=∀ s∈l,0<=s.fTime/\s.fTime<=1099511627776
structure Cvd (a:Aut) (c d:Cf):Prop where
 cov:cov (Il a) c d=true
 st:0<=c.fState/\c.fState<a.fStates.length
 lc:c.fBindings.length<=900000
 ld:d.fBindings.length<=900000
 tc:TmS c.fStarts
 td:TmS d.fStarts
theorem Cvd.out {a:Aut}{c d:Cf}(h:Cvd a c d):c.fState=d.fState/\cvL c.fStarts d.fStarts=true/\rdB ((Il a).getD c.fState.toNat []) c.fBindings=rdB ((Il a).getD c.fState.toNat []) d.fBindings:=by
 have h1:=h.cov
 unfold Go.Proofs.YthbogefcfhmpgaaGreat.cov rdC at h1
 grind
structure FewR (S:List (List Cf)):Prop where
 ln:S.length<=14
 st:∀ s∈S,s.length<=60/\∀ c∈s,c.fBindings.length<=12/\c.fStarts.length<=12
theorem zpo:Jv 2000000000=some true:=by kernel_rfl
theorem zy0 {n:Nat}(hn:10000000<n){T:List Ah}{a:Aut}(h:ScR ⟨T,a⟩){M:Mp}(m1:Er n ⟨T,a⟩=some M)(hN:∀ t:Nat,t<a.fStates.length->has M (t:Int)->NoP n ⟨T,a⟩ (t:Int)){kinds:List Int}:¬GrP n ⟨T,a⟩ kinds:=by
 rintro ⟨ne,g0,M',i,m1',hi,hat,gi⟩
 rw [m1] at m1'
 injection m1' with m1'
 subst m1'
 obtain ⟨M',m2,_,m3⟩:=zr0 n hn ⟨T,a⟩ h
 rw [m1] at m2
 injection m2 with m2
 subst m2
 obtain ⟨i0,i1,_⟩:=m3 i hi
 obtain ⟨j,rfl⟩:∃ j:Nat,i=(j:Int):=⟨i.toNat,by omega⟩
 obtain ⟨A,a1,a2⟩:=hN j (by simpa using i1) hi
 have hS:=y1a (E:=frE n ⟨T,a⟩) (kinds:=kinds) (P:=fun t=>t=0) (S:=fun t=>has A t/\t≠(j:Int)) (fun x hx h0 hk hq=>by
  obtain ⟨h1,h2⟩:=mem_filter.1 hx
  have hx':x∈ptE n ⟨T,a⟩ (j:Int):=mem_filter.2 ⟨h1,by
   unfold ptP
   simp only [aY,decide_eq_true_eq,Bool.not_eq_true']
   exact ⟨h2,h0,g0 _ hk,gi _ hk⟩⟩
  rcases hq with hq|hq
  ·exact a2 x hx' hq
  ·exact a1 _ hq.1 x hx' rfl) kinds (fun k hk=>hk) (fun t=>t=0) (fun t ht=>aL ht) (j:Int) hat
 exact (hS.resolve_left (fun q=>ne q.1)).2 rfl
theorem zwr {a b:Cm}(h:a.fTime<b.fTime):rCmp a b<0:=by
 have h1:cmpI a.fTime b.fTime=-1:=by unfold cmpI;rw [if_pos h]
 unfold rCmp or3
 rw [h1,if_neg (by decide)]
 decide
theorem zqt (T:List Ah):∀ (w:List Int) (i:Nat) (p:List Ev),i+w.length<=1000000->(∀ x∈p,x.fTime<(i:Int)/\x.fSeq<(i:Int))->chk p (pfxL T i w)=0
 |[],i,p,h,hp=>by unfold pfxL chk;rfl
 |k::r,i,p,h,hp=>by
  simp only [aZ] at h
  have h1:E1 (pfxE T i k)=true:=by
   unfold E1 pfxE
   simp only [aY,decide_eq_true_eq]
   omega
  have h2:S3 p (pfxE T i k)=false:=by
   cases p with
   |nil=>rfl
   |cons x q =>
    have hx:=(hp x (by simp)).1
    have:=zwr (a:=F7 x) (b:=F7 (pfxE T i k)) hx
    unfold S3 Cv
    exact decide_eq_false (by omega)
  have h3:(p.any fun x=>decide (idt x=idt (pfxE T i k)))=false:=by
   rw [any_eq_false]
   intro x hx
   have:=(hp x hx).2
   simp only [decide_eq_true_eq]
   intro e
   have:x.fSeq=(i:Int):=congrArg Ka.fseq e
   omega
  unfold pfxL chk
  rw [if_neg (by simp [h1]),if_neg (by simp [h2]),if_neg (by simp [h3])]
  exact zqt T r (i+1) _ (by omega) (fun x hx=>(aN.1 hx).elim (fun e=>by rw [e];unfold pfxE;simp only;omega) (fun hx=>by have:=hp x hx;omega))
theorem zio (n:Nat)(T:List Ah)(hT:T.length<=1100000)(K:Option Bool)(r0:Bool)(hK:K=some r0):∀ (m k:Nat),k<=T.length->T.length<m+k->∃ r,Hm n T K m (k:Int)=some r
 |0,k,h1,h2=>by omega
 |m+1,k,h1,h2=>by
  unfold Hm
  simp only [aA]
  rw [A3]
  by_cases h:k<T.length
  ·have key:∀ b,∃ r,Js n T (k:Int) (Hm n T K m) b=some r:=fun b=>by
    unfold Js
    cases b with
    |true=>rw [A8];exact ⟨_,rfl⟩
    |false=>rw [A7,Ae k (by omega)];exact zio n T hT K r0 hK m (k+1) (by omega) (by omega)
   rw [if_pos (by omega)]
   simp only [Am,Aa]
   rw [Ad h,Ad h,A3]
   split
   ·exact key _
   ·exact key _
  ·rw [if_neg (by omega)]
   exact ⟨r0,hK⟩
theorem zx6 (T:List Ah)(hT:T.length<=1100000)(a:Aut)(hw:WfA a):∃ r,N1 N0 T a=some r:=by
 obtain ⟨b,b1⟩:=zio N0 T hT (some (decide ((T.length:Int)<=20))) _ rfl N0 0 (by omega) (by unfold N0;omega)
 obtain ⟨c,c1,_⟩:=zx7 a hw
 simp only [aC] at b1
 unfold N1 Wr
 simp only [Am,Aa,Gh,aA]
 rw [b1,A0]
 cases b with
 |false=>rw [A7];exact ⟨_,rfl⟩
 |true =>
  rw [A8,c1,A0]
  cases c with
  |false=>rw [A7];exact ⟨_,rfl⟩
  |true=>rw [A8,A3];split<;>exact ⟨_,rfl⟩
def UsC (a:Aut)(U:Int->Prop):Prop:=∀ x∈a.fEdges,x.fTo<0\/U x.fTo->U x.fFrom
structure Rc (a:Aut) (l:List Ev) (R:Int->Prop) (i:Nat) (c:Cf):Prop where
 r:R c.fState
 st:c.fBindings=[]\/∃ x∈a.fEdges,R x.fFrom/\x.fTo=c.fState
 bd:∀ b∈c.fBindings,∃ j,∃ hj:j<l.length,j<i/\F7 l[j]=b.fRef
theorem zbx {κ ν:Type}[DecidableEq κ]:∀ (l:List (κ×ν)) (k:κ) (v:ν),(l.map (·.1)).Nodup->((mput l k v).map (·.1)).Nodup/\∀ y,y∈(mput l k v).map (·.1) ↔ y=k\/y∈l.map (·.1)
 |[],k,v,h=>by unfold mput;simp
 |(a,b)::r,k,v,h=>by
  unfold mput
  rw [bB] at h
  obtain ⟨h1,h2⟩:=bC.1 h
  by_cases e:k=a
  ·rw [if_pos e]
   subst e
   simp only [bB,aN]
   exact ⟨h,fun y=>by grind⟩
  ·rw [if_neg e]
   obtain ⟨i1,i2⟩:=zbx r k v h2
   simp only [bB,aN]
   refine ⟨bC.2 ⟨fun q=>?_,i1⟩,fun y=>by rw [i2];grind⟩
   rcases (i2 _).1 q with q|q
   ·exact e q.symm
   ·exact h1 q
structure HK (S:Rf->Prop) (M:List (Rf×Bool)):Prop where
 nd:(M.map (·.1)).Nodup
 s:∀ y∈M.map (·.1),S y
theorem HK.put {S:Rf->Prop}{M:List (Rf×Bool)}(h:HK S M){r:Rf}(hr:S r):HK S (mput M r true) :=
 ⟨(zbx M r true h.nd).1,fun y hy=>by
   rcases ((zbx M r true h.nd).2 y).1 hy with q|q
   ·rw [q];exact hr
   ·exact h.s y q⟩
structure Hc (S:Rf->Prop) (now:Int) (bd:List Bool) (ag:List Int) (c:Cf):Prop where
 lb:c.fBindings.length<=1000000
 ok:c.fBindings=[]\/∃ s:Nat,c.fState=(s:Int)/\bd[s]? = some true/\∃ g,ag[s]? = some g/\∃ b r,c.fBindings=b::r/\0<=b.fRef.fTime/\b.fRef.fTime<=1099511627776/\(now-b.fRef.fTime<=g->∀ x∈c.fBindings,S x.fRef)
def PsP (p:B8)(out:List Mp)(x:Ed)(s:Int):Prop:=¬s∈x.fCloses/\(x.fFrom=0->s∈x.fOpens)/\(has p.finner x.fFrom->¬s∈x.fOpens/\∃ M,out[x.fFrom.toNat]? = some M/\has M s)
theorem z8b (n:Nat)(hn:10000000<n)(a:Aut)(hsc:a.fScopes<=64)(p:B8)(hp:MK p.finner)(x:Ed)(hxo:x.fOpens.length<=1100000)(hxc:x.fCloses.length<=1100000)(out:List Mp)(ho:∀ M∈out,MK M)(hf:0<=x.fFrom/\x.fFrom.toNat<out.length):∀ (m k:Nat) (M:Mp),k<=64->64<m+k->MK M->∃ R,Cl n out x a p (fun y=>some y) m ((k:Int),M)=some R/\MK R/\∀ v,has R v->has M v\/PsP p out x v
 |0,k,M,h1,h2,h3=>by omega
 |m+1,k,M,h1,h2,h3=>by
  unfold Cl
  rw [A3]
  by_cases h:(k:Int)<a.fScopes
  ·rw [if_pos h,Ey n (k:Int) x.fOpens (by omega) (by omega),A0,Ey n (k:Int) x.fCloses (by omega) (by omega),A0]
   have key:∀ (b:Bool),(b=true->PsP p out x (k:Int))->∃ R,Dq n out x a p ((k:Int),M) (Cl n out x a p (fun y=>some y) m) b=some R/\MK R/\∀ v,has R v->has M v\/PsP p out x v:=fun b hb=>by
    unfold Dq
    simp only [Aa,Dm,Ae k (by omega)]
    cases b with
    |true =>
     rw [A8]
     obtain ⟨R,r1,r2,r3⟩:=z8b n hn a hsc p hp x hxo hxc out ho hf m (k+1) _ (by omega) (by omega) (h3.put (k:Int))
     refine ⟨R,r1,r2,fun v hv=>?_⟩
     rcases r3 v hv with q|q
     ·rcases (h3.has_put _ _).1 q with q|q
      ·rw [q];exact aJ (hb rfl)
      ·exact aL q
     ·exact aJ q
    |false=>rw [A7];exact z8b n hn a hsc p hp x hxo hxc out ho hf m (k+1) _ (by omega) (by omega) h3
   have key5:∀ (c b:Bool),(c=false->¬(k:Int)∈x.fOpens)->(b=true->¬(k:Int)∈x.fCloses/\(x.fFrom=0->(k:Int)∈x.fOpens))->∃ R,E6 n out x a p ((k:Int),M) (Cl n out x a p (fun y=>some y) m) c b=some R/\MK R/\∀ v,has R v->has M v\/PsP p out x v:=fun c b hc hb=>by
    unfold E6
    simp only [Aa,Am,Ft]
    cases hq:(mlk p.finner x.fFrom).getD false with
    |false =>
     rw [A7]
     refine key _ (fun e=>⟨(hb e).1,(hb e).2,fun hi=>?_⟩)
     rw [(hp.get _).2 hi] at hq
     cases hq
    |true =>
     rw [A8]
     cases b with
     |false=>rw [A7];exact key _ (fun e=>by cases e)
     |true =>
      rw [A8]
      cases c with
      |true=>simp only [aS,A7];exact key _ (fun e=>by cases e)
      |false =>
       simp only [aQ,A8]
       rw [Cs hf.1 hf.2]
       refine key _ (fun e=>⟨(hb rfl).1,(hb rfl).2,fun hi=>⟨hc rfl,_,aE hf.2,?_⟩⟩)
       exact ((ho _ (aD hf.2)).get _).1 e
   have hao:∀ (l:List Int),(l.any fun y=>decide ((k:Int)=y))=false->¬(k:Int)∈l:=fun l e hm=>by
    have:=any_eq_false.1 e _ hm
    simp at this
   have hat:∀ (l:List Int),(l.any fun y=>decide ((k:Int)=y))=true->(k:Int)∈l:=fun l e=>by
    obtain ⟨y,hy,e⟩:=any_eq_true.1 e
    rw [decide_eq_true_eq] at e
    rw [e];exact hy
   simp only [Aa,Am]
   rw [A3]
   split
   ·rename_i q0
    cases hcl:(x.fCloses.any fun y=>decide ((k:Int)=y)) with
    |true=>simp only [aS,A7];exact key5 _ _ (hao _) (fun e=>by cases e)
    |false=>simp only [aQ,A8];exact key5 _ _ (hao _) (fun e=>⟨hao _ hcl,fun _=>hat _ e⟩)
   ·rename_i q0
    exact key5 _ _ (hao _) (fun e=>⟨hao _ (by simpa using e),fun e0=>absurd e0 q0⟩)
  ·rw [if_neg h]
   exact ⟨M,rfl,h3,fun v hv=>aL hv⟩
theorem zu1 (n:Nat)(hn:10000000<n)(a:Aut)(hsc:a.fScopes<=64)(p:B8)(hp:MK p.finner)(x:Ed)(hxo:x.fOpens.length<=1100000)(hxc:x.fCloses.length<=1100000)(out:List Mp)(ho:∀ M∈out,MK M)(hf:0<=x.fFrom/\x.fFrom.toNat<out.length):∃ R,Q6 n p a x out=some R/\MK R/\∀ v,has R v->PsP p out x v:=by
 obtain ⟨R,r1,r2,r3⟩:=z8b n hn a hsc p hp x hxo hxc out ho hf n 0 [] (by omega) (by omega) MK.nil
 exact ⟨R,r1,r2,fun v hv=>(r3 v hv).resolve_left (Dl v)⟩
def Fx (p:B8)(out:List Mp)(x:Ed):Prop:=0<=x.fTo->has p.freachable x.fFrom->has p.finner x.fTo->∀ M s,out[x.fTo.toNat]? = some M->has M s->PsP p out x s
theorem zrg {A B:Mp}(hA:MK A)(hs:∀ v,has A v->has B v)(hl:B.length<=A.length):∀ v,has B v->has A v:=fun v hv=>by
 refine Classical.byContradiction fun hn=>?_
 have hn':v ∉ A.map (fun p:Int×Bool=>p.1):=hn
 have:=Ko (l:=v::A.map (fun p:Int×Bool=>p.1)) (l':=B.map (fun p:Int×Bool=>p.1)) (bC.2 ⟨hn',hA.nd⟩) (fun y hy=>by
  rcases aN.1 hy with e|e
  ·rw [e];exact hv
  ·exact hs y e)
 simp only [aZ,aA] at this
 omega
theorem Zw (n:Nat)(hn:10000000<n)(a:Aut)(h:AutR a)(p:B8)(hp:PtOk a p)(K:Bool->List Mp->Option (List Mp)):∀ (m k:Nat) (b:Bool) (out:List Mp),k<=a.fEdges.length->a.fEdges.length<m+k->Bt a.fStates.length out->tot out<10000000->∃ b' out',Cq n a p K m (b,(k:Int),out)=K b' out'/\Bt a.fStates.length out'/\tot out'<=tot out/\(b'=true->b=true\/tot out' < tot out)/\(b=true->b'=true)/\(b'=true\/(out'=out/\∀ x∈a.fEdges.drop k,Fx p out x))
 |0,k,b,out,h1,h2,h3,h4=>by omega
 |m+1,k,b,out,h1,h2,h3,h4=>by
  have hle:=h.le
  unfold Cq
  simp only [aA]
  by_cases hk:k<a.fEdges.length
  ·rw [A3,if_pos (by omega),Ad hk,aG hk]
   have hx:=h.ed _ (aD hk)
   have hlo:=h.lo _ (aD hk)
   have hlen:=h3.len
   have next:Fx p out a.fEdges[k]->∃ b' out',Cq n a p K m (b,((k+1:Nat):Int),out)=K b' out'/\Bt a.fStates.length out'/\tot out'<=tot out/\(b'=true->b=true\/tot out' < tot out)/\(b=true->b'=true)/\(b'=true\/(out'=out/\∀ x∈a.fEdges[k]::a.fEdges.drop (k+1),Fx p out x)):=fun hfx=>by
    obtain ⟨b',out',e1,e2,e3,e4,e5,e6⟩:=Zw n hn a h p hp K m (k+1) b out (by omega) (by omega) h3 h4
    refine ⟨b',out',e1,e2,e3,e4,e5,e6.imp id (fun q=>⟨q.1,fun x hx=>?_⟩)⟩
    rcases aN.1 hx with e|e
    ·rw [e];exact hfx
    ·exact q.2 x e
   have skip:Fx p out a.fEdges[k]->∃ b' out',D6 n a p (b,(k:Int),out) (Cq n a p K m) a.fEdges[k] true=K b' out'/\Bt a.fStates.length out'/\tot out'<=tot out/\(b'=true->b=true\/tot out' < tot out)/\(b=true->b'=true)/\(b'=true\/(out'=out/\∀ x∈a.fEdges[k]::a.fEdges.drop (k+1),Fx p out x)):=fun hfx=>by
    unfold D6
    simp only [Ae k (by omega:k<=1000000000000)]
    rw [A8]
    exact next hfx
   simp only [Am,Aa,Ft]
   rw [A3]
   by_cases q:a.fEdges[k].fTo<0
   ·rw [if_pos q];exact skip (fun h0=>by omega)
   rw [if_neg q]
   have ht:0<=a.fEdges[k].fTo/\a.fEdges[k].fTo.toNat<out.length:=by omega
   cases hre:(mlk p.freachable a.fEdges[k].fFrom).getD false with
   |false=>simp only [aQ,A8];exact skip (fun _ hr=>by rw [(hp.r.get _).2 hr] at hre;cases hre)
   |true =>
    simp only [aS,A7]
    cases hin:(mlk p.finner a.fEdges[k].fTo).getD false with
    |false=>simp only [aQ];exact skip (fun _ _ hr=>by rw [(hp.i.get _).2 hr] at hin;cases hin)
    |true =>
     simp only [aS]
     unfold D6
     simp only [Ae k (by omega:k<=1000000000000),aA,Aa]
     rw [A7,Bl ht.1 ht.2,Cc ht.2]
     obtain ⟨R,r1,r2,r3⟩:=zu1 n hn a h.sc.2 p hp.i _ hlo.1 hlo.2.1 out h3.mks (by omega)
     have hmo:=h3.mks _ (aD ht.2)
     have hle:out[a.fEdges[k].fTo.toNat].length<=tot out:=by
      have:=Ic ht.2 []
      simp only [bD] at this
      omega
     obtain ⟨C,c1,c2,c3⟩:=zfg n _ R hmo r2 (by omega)
     rw [r1,A0,c1,A0,Bl ht.1 ht.2,Cc ht.2,A3]
     by_cases ql:C.length<out[a.fEdges[k].fTo.toNat].length
     ·rw [if_pos (by omega),Bl ht.1 ht.2,Bv ht.2]
      have hts:=Ic ht.2 C
      obtain ⟨b',out',e1,e2,e3,e4,e5,e6⟩:=Zw n hn a h p hp K m (k+1) true (out.set a.fEdges[k].fTo.toNat C) (by omega) (by omega) (h3.set _ c2) (by omega)
      exact ⟨b',out',e1,e2,by omega,fun _=>aJ (by omega),fun _=>e5 rfl,aL (e5 rfl)⟩
     ·rw [if_neg (by omega)]
      refine next (fun _ _ _ M s hM hs=>?_)
      rw [aE ht.2] at hM
      injection hM with hM
      subst hM
      exact r3 s ((c3 s).1 (zrg c2 (fun v hv=>((c3 v).1 hv).1) (by omega) s hs)).2
  ·rw [A3,if_neg (by omega),aH (by omega)]
   exact ⟨b,out,rfl,h3,Nat.le_refl _,aL,id,aJ ⟨rfl,by simp⟩⟩
theorem zac (n:Nat)(hn:10000000<n)(a:Aut)(h:AutR a)(p:B8)(hp:PtOk a p):∀ (m:Nat) (b:Bool) (out:List Mp),(tot out+1<m\/(b=false/\tot out<m))->Bt a.fStates.length out->tot out<10000000->(b=false->∀ x∈a.fEdges,Fx p out x)->∃ out',D5 n a p (fun y=>some y) m (b,out)=some out'/\Bt a.fStates.length out'/\tot out'<=tot out/\∀ x∈a.fEdges,Fx p out' x
 |0,b,out,h1,h2,h3,h4=>by omega
 |m+1,b,out,h1,h2,h3,h4=>by
  unfold D5
  simp only
  cases b with
  |false=>rw [A7];exact ⟨out,rfl,h2,Nat.le_refl _,h4 rfl⟩
  |true =>
   rw [A8]
   have hle:=h.le
   obtain ⟨b',out',e1,e2,e3,e4,e5,e6⟩:=Zw n hn a h p hp (fun y z=>D5 n a p (fun y=>some y) m (y,z)) n 0 false out (by omega) (by omega) h2 h3
   simp only [aC] at e1
   rw [e1]
   have h1':tot out+1<m+1:=by
    rcases h1 with h|h
    ·exact h
    ·exact absurd h.1 (by simp)
   have hb:tot out' + 1<m\/(b'=false/\tot out' < m):=by
    cases b' with
    |false=>exact aJ ⟨rfl,by omega⟩
    |true=>have:=(e4 rfl).resolve_left (by simp);exact aL (by omega)
   obtain ⟨q,q1,q2,q3,q4⟩:=zac n hn a h p hp m b' out' hb e2 (by omega) (fun eb=>by
    rcases e6 with e|⟨e,e7⟩
    ·rw [eb] at e;cases e
    ·rw [e];rw [aW] at e7;exact e7)
   exact ⟨q,q1,q2,by omega,q4⟩
theorem zqp (n:Nat)(hn:20000000<n)(a:Aut)(h:AutR a)(p:B8)(hp:PtOk a p):∃ out,Hj n p a=some out/\Bt a.fStates.length out/\(∀ M∈out,M.length<n)/\∀ x∈a.fEdges,Fx p out x:=by
 have hst:=h.st
 unfold Hj
 simp only [aA,zt1,Aa]
 rw [zri (by omega)]
 have hS:=zmv 0 a.fScopes.toNat [] (by simp [Srt]) (by simp)
 have hSl:=zgu 0 a.fScopes.toNat [] (by simp [Srt])
 have hsc:=h.sc
 have hfold:∀ (rem:Mp) (w:List Mp),Bt a.fStates.length w->(∀ M∈w,M.length<=64)->Bt a.fStates.length (rem.foldl (fun w q=>w.set q.1.toNat (allS a)) w)/\∀ M∈rem.foldl (fun w q=>w.set q.1.toNat (allS a)) w,M.length<=64:=fun rem=>by
  induction rem with
  |nil=>exact fun w h h'=>⟨h,h'⟩
  |cons q r ih =>
   intro w h h'
   rw [aR]
   refine ih _ (h.set _ ⟨hS.1.nodup,hS.2⟩) (fun M hM=>(mem_or_eq_of_mem_set hM).elim (h' M) (fun e=>?_))
   rw [e]
   unfold allS
   simp only [bD] at hSl
   omega
 have ha0:ArOk a.fStates.length (mkA Mp a.fStates.length):=⟨by simp [mkA],fun i j e=>by
  unfold mkA at e
  simp only [getElem?_replicate] at e
  split at e<;>simp at e⟩
 have hv0:aval (mkA Mp a.fStates.length)=aF a.fStates.length []:=by
  unfold aval mkA
  simp
 obtain ⟨f1,f2⟩:=hfold p.finner (aF a.fStates.length []) ⟨by simp,fun M hM=>by rw [aX hM];exact MK.nil⟩ (fun M hM=>by rw [aX hM];simp)
 have ht:∀ w:List Mp,(∀ M∈w,M.length<=64)->tot w<=64*w.length:=fun w=>by
  unfold tot
  induction w with
  |nil=>simp
  |cons q r ih =>
   intro hq
   have:=ih (fun M hM=>hq M (aK _ hM))
   have:=hq q (by simp)
   simp only [bB,sum_cons,aZ]
   omega
 have htt:=ht _ f2
 rw [f1.len] at htt
 obtain ⟨out,e1,e2,e3,e8⟩:=zac n (by omega) a h p hp n true _ (aL (by omega)) f1 (by omega) (fun e=>by cases e)
 have hle:∀ M∈out,M.length<=tot out:=fun M hM=>by
  obtain ⟨i,hi,rfl⟩:=mem_iff_getElem.1 hM
  have:=Ic hi []
  simp only [bD] at this
  omega
 refine ⟨out,?_,e2,fun M hM=>by have:=hle M hM;omega,e8⟩
 have hil:p.finner.length<n:=by
  have hsub:(p.finner.map (·.1)).length<=((range a.fStates.length).map (fun (i:Nat)=>(i:Int))).length:=by
   refine Ko hp.i.nd (fun t ht'=>?_)
   have:=hp.ir t ht'
   exact mem_map.2 ⟨t.toNat,mem_range.2 this.2,by omega⟩
  simp only [aA,length_range] at hsub
  omega
 refine X4 n (by omega) a h p _ (fun w=>D5 n a p (fun y=>some y) n (true,w)) (fun N m=>by simp only [zsg,Aa]) out n p.finner (mkA Mp a.fStates.length) hil hp.i hp.ir ha0 ?_
 rw [hv0]
 exact e1
structure AgQ (n:Nat) (a:Aut) (p:B8) (out:List Mp) (k:Nat) (ag:List Int) (bd:List Bool):Prop where
 l1:ag.length=a.fStates.length
 l2:bd.length=a.fStates.length
 rng:∀ v∈ag,0<=v/\v<=mxT
 bdd:∀ i:Nat,i<k->has p.finner (i:Int)->bd[i]? = some true->∃ M s g,out[i]? = some M/\has M s/\ag[i]? = some g/\∀ x∈a.fEdges,x.fFrom=(i:Int)->(limP n x s).2=true/\(limP n x s).1<=g
def Pre (Q:Int->Prop)(w w':List Bool):Prop:=(∀ t,hs w t->Q t)->∀ t,hs w' t->Q t
variable {P:Int->Int->Prop}
theorem zo5 (Q:Int->Prop)(n:Nat)(rF:Int->Aut->List Bool->Option (List Bool))(a:Aut)(X:List Int)(hX:X.length<=1100000)(N B:Nat)(rec:∀ s∈X,∀ w:List Bool,w.length=N->fre w<=B->∃ w',rF s a w=some w'/\Gr P N w w'/\Pre Q w w'):∀ (m k:Nat) (w:List Bool),k<=X.length->X.length<m+k->w.length=N->fre w<=B->∃ w',Jt n rF a X (fun y=>some y) m ((k:Int),w)=some w'/\Gr P N w w'/\Pre Q w w'
 |0,k,w,h1,h2,h3,h4=>by omega
 |m+1,k,w,h1,h2,h3,h4=>by
  unfold Jt
  simp only [aA,A3]
  by_cases h:k<X.length
  ·obtain ⟨w1,e1,g1,s1⟩:=rec X[k] (aD h) w h3 h4
   rw [if_pos (by omega),Ad h,Ae k (by omega),e1,Cr]
   obtain ⟨w2,e2,g2,s2⟩:=zo5 Q n rF a X hX N B rec m (k+1) w1 (by omega) (by omega) g1.len (Nat.le_trans (V9 (h3.trans g1.len.symm) g1.mono) h4)
   exact ⟨w2,e2,g1.trans g2,fun q=>s2 (s1 q)⟩
  ·rw [if_neg (by omega)]
   exact ⟨w,rfl,Gr.refl h3,id⟩
theorem y03 (Q:Int->Prop)(a:Aut)(hQ:∀ s t,Q s->nxS a s t->Q t)(hl:a.fEdges.length<=1100000)(N:Nat)(hN:∀ s t,nxS a s t->0<=t/\t.toNat<N):∀ (f:Nat) (s:Int) (w:List Bool),Q s->fre w<=f->w.length=N->0<=s->s.toNat<N->∀ n,20000000+f<n->∃ w',Gl n s a w=some w'/\Gr (nxS a) N w w'/\Pre Q w w'
 |f,s,w,h0,h1,h2,h3,h4,n,hn=>by
  obtain ⟨w0,e0,g0,_⟩:=zx5 a hl N hN f s w h1 h2 h3 h4 n hn
  refine ⟨w0,e0,g0,?_⟩
  obtain ⟨n,rfl⟩:∃ n',n=n' + 1:=⟨n-1,by omega⟩
  have hs4:s.toNat<w.length:=by omega
  unfold Gl at e0
  simp only [aA] at e0
  rw [Bl h3 hs4,Cc hs4] at e0
  by_cases q:w[s.toNat]=true
  ·rw [q,A8] at e0
   injection e0 with e0
   subst e0
   exact id
  ·have q':w[s.toNat]=false:=by simpa using q
   have hf:=Rv hs4 q'
   rw [q',A7,Bl h3 hs4,Bv hs4] at e0
   obtain ⟨X,x1,x2,x3⟩:=znj n (by omega) s a hl
   rw [x1,A0] at e0
   cases f with
   |zero=>omega
   |succ f =>
    have hset:∀ t,hs (w.set s.toNat true) t ↔ t=s\/hs w t:=fun t=>by rw [F0 hs4,aB h3]
    obtain ⟨w',e1,_,s1⟩:=zo5 (P:=nxS a) Q n (Gl n) a X x2 N f (fun t ht v hv hfv=>y03 Q a hQ hl N hN f t v (hQ s t h0 ((x3 t).1 ht)) hfv hv (hN _ _ ((x3 t).1 ht)).1 (hN _ _ ((x3 t).1 ht)).2 n (by omega)) n 0 (w.set s.toNat true) (by omega) (by omega) (by rw [aP];exact h2) (by omega)
    have e2:=e1.symm.trans e0
    injection e2 with e2
    subst e2
    exact fun hw=>s1 (fun t ht=>((hset t).1 ht).elim (fun e=>e▸h0) (hw t))
theorem zja (Q:Int->Prop)(n:Nat)(hn:30000000<n)(a:Aut)(hQ:∀ s t,Q s->nxS a s t->Q t)(hl:a.fEdges.length<=1100000)(N:Nat)(hN':N<=1000000)(hN:∀ s t,nxS a s t->0<=t/\t.toNat<N)(X:List Int)(hX:X.length<=1100000)(hXr:∀ s∈X,0<=s/\s.toNat<N)(hXQ:∀ s∈X,Q s):∀ (m k:Nat) (w:List Bool),k<=X.length->X.length<m+k->w.length=N->∃ w',K4 n a X (fun y=>some y) m ((k:Int),w)=some w'/\Gr (nxS a) N w w'/\Pre Q w w'
 |0,k,w,h1,h2,h3=>by omega
 |m+1,k,w,h1,h2,h3=>by
  unfold K4
  simp only [aA,A3,Aa]
  by_cases h:k<X.length
  ·have hx:=hXr X[k] (aD h)
   have hfw:fre w<=N:=by unfold fre;rw [<-h3];exact aU
   obtain ⟨w1,e1,g1,s1⟩:=y03 Q a hQ hl N hN N X[k] w (hXQ _ (aD h)) hfw h3 hx.1 hx.2 n (by omega)
   rw [if_pos (by omega),Ad h,Ae k (by omega),e1,Cr]
   obtain ⟨w2,e2,g2,s2⟩:=zja Q n hn a hQ hl N hN' hN X hX hXr hXQ m (k+1) w1 (by omega) (by omega) g1.len
   exact ⟨w2,e2,g1.trans g2,fun q=>s2 (s1 q)⟩
  ·rw [if_neg (by omega)]
   exact ⟨w,rfl,Gr.refl h3,id⟩
variable {w:List Bool}
theorem y02 (Q:Int->Prop)(n:Nat)(hn:30000000<n)(a:Aut)(hQ:∀ s t,Q s->nxS a s t->Q t)(hl:a.fEdges.length<=1100000)(hN':a.fStates.length<=1000000)(hN:∀ s t,nxS a s t->0<=t/\t.toNat<a.fStates.length)(X:List Int)(hX:X.length<=1100000)(hXr:∀ s∈X,0<=s/\s.toNat<a.fStates.length)(hXQ:∀ s∈X,Q s)(e0:Na n a X a=some w):∀ t,hs w t->Q t:=by
 unfold Na at e0
 simp only [aA] at e0
 rw [Cg (by omega) (by decide)] at e0
 obtain ⟨w',e,g,s⟩:=zja Q n hn a hQ hl a.fStates.length hN' hN X hX hXr hXQ n 0 (aF a.fStates.length false) (by omega) (by omega) (by simp)
 have e2:=e.symm.trans e0
 injection e2 with e2
 subst e2
 exact s (fun t ht=>absurd ht (F4 _ _))
theorem zo4 (Q:Int->Prop)(n:Nat)(rF:Int->Aut->List Bool->Option (List Bool))(a:Aut)(X:List Int)(hX:X.length<=1100000)(N B:Nat)(rec:∀ s∈X,∀ w:List Bool,w.length=N->fre w<=B->∃ w',rF s a w=some w'/\Gr P N w w'/\Pre Q w w'):∀ (m k:Nat) (w:List Bool),k<=X.length->X.length<m+k->w.length=N->fre w<=B->∃ w',Iv n rF a X (fun y=>some y) m ((k:Int),w)=some w'/\Gr P N w w'/\Pre Q w w'
 |0,k,w,h1,h2,h3,h4=>by omega
 |m+1,k,w,h1,h2,h3,h4=>by
  unfold Iv
  simp only [aA,A3]
  by_cases h:k<X.length
  ·obtain ⟨w1,e1,g1,s1⟩:=rec X[k] (aD h) w h3 h4
   rw [if_pos (by omega),Ad h,Ae k (by omega),e1,Cr]
   obtain ⟨w2,e2,g2,s2⟩:=zo4 Q n rF a X hX N B rec m (k+1) w1 (by omega) (by omega) g1.len (Nat.le_trans (V9 (h3.trans g1.len.symm) g1.mono) h4)
   exact ⟨w2,e2,g1.trans g2,fun q=>s2 (s1 q)⟩
  ·rw [if_neg (by omega)]
   exact ⟨w,rfl,Gr.refl h3,id⟩
theorem y01 (Q:Int->Prop)(a:Aut)(hQ:∀ s t,Q s->prS a s t->Q t)(hl:a.fEdges.length<=1100000)(N:Nat)(hN:∀ s t,prS a s t->0<=t/\t.toNat<N):∀ (f:Nat) (s:Int) (w:List Bool),Q s->fre w<=f->w.length=N->0<=s->s.toNat<N->∀ n,20000000+f<n->∃ w',G9 n s a w=some w'/\Gr (prS a) N w w'/\Pre Q w w'
 |f,s,w,h0,h1,h2,h3,h4,n,hn=>by
  obtain ⟨w0,e0,g0,_⟩:=zx4 a hl N hN f s w h1 h2 h3 h4 n hn
  refine ⟨w0,e0,g0,?_⟩
  obtain ⟨n,rfl⟩:∃ n',n=n' + 1:=⟨n-1,by omega⟩
  have hs4:s.toNat<w.length:=by omega
  unfold G9 at e0
  simp only [aA] at e0
  rw [Bl h3 hs4,Cc hs4] at e0
  by_cases q:w[s.toNat]=true
  ·rw [q,A8] at e0
   injection e0 with e0
   subst e0
   exact id
  ·have q':w[s.toNat]=false:=by simpa using q
   have hf:=Rv hs4 q'
   rw [q',A7,Bl h3 hs4,Bv hs4] at e0
   obtain ⟨X,x1,x2,x3⟩:=zi3 n (by omega) s a hl
   rw [x1,A0] at e0
   cases f with
   |zero=>omega
   |succ f =>
    have hset:∀ t,hs (w.set s.toNat true) t ↔ t=s\/hs w t:=fun t=>by rw [F0 hs4,aB h3]
    obtain ⟨w',e1,_,s1⟩:=zo4 (P:=prS a) Q n (G9 n) a X x2 N f (fun t ht v hv hfv=>y01 Q a hQ hl N hN f t v (hQ s t h0 ((x3 t).1 ht)) hfv hv (hN _ _ ((x3 t).1 ht)).1 (hN _ _ ((x3 t).1 ht)).2 n (by omega)) n 0 (w.set s.toNat true) (by omega) (by omega) (by rw [aP];exact h2) (by omega)
    have e2:=e1.symm.trans e0
    injection e2 with e2
    subst e2
    exact fun hw=>s1 (fun t ht=>((hset t).1 ht).elim (fun e=>e▸h0) (hw t))
theorem zj9 (Q:Int->Prop)(n:Nat)(hn:30000000<n)(a:Aut)(hQ:∀ s t,Q s->prS a s t->Q t)(hl:a.fEdges.length<=1100000)(N:Nat)(hN':N<=1000000)(hN:∀ s t,prS a s t->0<=t/\t.toNat<N)(X:List Int)(hX:X.length<=1100000)(hXr:∀ s∈X,0<=s/\s.toNat<N)(hXQ:∀ s∈X,Q s):∀ (m k:Nat) (w:List Bool),k<=X.length->X.length<m+k->w.length=N->∃ w',J3 n a X (fun y=>some y) m ((k:Int),w)=some w'/\Gr (prS a) N w w'/\Pre Q w w'
 |0,k,w,h1,h2,h3=>by omega
 |m+1,k,w,h1,h2,h3=>by
  unfold J3
  simp only [aA,A3,Aa]
  by_cases h:k<X.length
  ·have hx:=hXr X[k] (aD h)
   have hfw:fre w<=N:=by unfold fre;rw [<-h3];exact aU
   obtain ⟨w1,e1,g1,s1⟩:=y01 Q a hQ hl N hN N X[k] w (hXQ _ (aD h)) hfw h3 hx.1 hx.2 n (by omega)
   rw [if_pos (by omega),Ad h,Ae k (by omega),e1,Cr]
   obtain ⟨w2,e2,g2,s2⟩:=zj9 Q n hn a hQ hl N hN' hN X hX hXr hXQ m (k+1) w1 (by omega) (by omega) g1.len
   exact ⟨w2,e2,g1.trans g2,fun q=>s2 (s1 q)⟩
  ·rw [if_neg (by omega)]
   exact ⟨w,rfl,Gr.refl h3,id⟩
theorem y00 (Q:Int->Prop)(n:Nat)(hn:30000000<n)(a:Aut)(hQ:∀ s t,Q s->prS a s t->Q t)(hl:a.fEdges.length<=1100000)(hN':a.fStates.length<=1000000)(hN:∀ s t,prS a s t->0<=t/\t.toNat<a.fStates.length)(X:List Int)(hX:X.length<=1100000)(hXr:∀ s∈X,0<=s/\s.toNat<a.fStates.length)(hXQ:∀ s∈X,Q s)(e0:Ho n a X a=some w):∀ t,hs w t->Q t:=by
 unfold Ho at e0
 simp only [aA] at e0
 rw [Cg (by omega) (by decide)] at e0
 obtain ⟨w',e,g,s⟩:=zj9 Q n hn a hQ hl a.fStates.length hN' hN X hX hXr hXQ n 0 (aF a.fStates.length false) (by omega) (by omega) (by simp)
 have e2:=e.symm.trans e0
 injection e2 with e2
 subst e2
 exact s (fun t ht=>absurd ht (F4 _ _))
def RsC (a:Aut)(Q:Int->Prop):Prop:=Q 0/\∀ x∈a.fEdges,Q x.fFrom->0<=x.fTo->Q x.fTo
def Rr (a:Aut)(t:Int):Prop:=∀ Q,RsC a Q->Q t
def Uu (a:Aut)(t:Int):Prop:=∀ U,UsC a U->U t
def In56 (a:Aut)(t:Int):Prop:=∃ x∈a.fEdges,0<=x.fTo/\Rr a x.fFrom/\Uu a x.fTo/\x.fTo=t
theorem Rr.ok (a:Aut):RsC a (Rr a):=⟨fun Q h=>h.1,fun x hx q h0 Q h=>h.2 x hx (q Q h) h0⟩
theorem Uu.ok (a:Aut):UsC a (Uu a):=fun x hx q U hU=>hU x hx (q.imp id (fun q=>q U hU))
theorem zma (n:Nat)(hn:30000000<n)(a:Aut)(h:EdR a)(hc:C1 n a=some 0):∃ L,Mu n a=some (L,0)/\L.length<=1100000/\∀ t:Int,t∈L ↔ Rr a t:=by
 have hst:=h.st
 unfold Mu T9
 rw [hc,A0]
 simp only [Ax,A3,if_true,Yt,Aa]
 have hN:∀ s t,nxS a s t->0<=t/\t.toNat<a.fStates.length:=fun s t ⟨x,hx,_,x2,x3⟩=>by have:=h.ed x hx;omega
 obtain ⟨w,e,e1,e2,e3⟩:=zvu n hn a h.le (by omega) hN [0] (by simp) (by simp;omega)
 have e4:=y02 (Rr a) n hn a (fun s t q ⟨x,hx,x1,x2,x3⟩=>x2▸(Rr.ok a).2 x hx (x1.symm▸q) (by omega)) h.le (by omega) hN [0] (by simp) (by simp;omega) (fun s hs=>by rw [aT.1 hs];exact (Rr.ok a).1) e
 obtain ⟨L,l1,l2,l3⟩:=Xs n (by omega) w (by omega)
 rw [e,A0,A0,l1,A0]
 refine ⟨L,rfl,by omega,fun t=>⟨fun q=>e4 t ((l3 t).1 q),fun q=>(l3 t).2 (q (hs w) ⟨e2 0 (by simp),fun x hx q q0=>e3 _ q _ ⟨x,hx,rfl,rfl,q0⟩⟩)⟩⟩
theorem zun (n:Nat)(hn:30000000<n)(a:Aut)(h:EdR a)(hc:C1 n a=some 0):∃ L,N7 n a=some (L,0)/\L.length<=1100000/\∀ t:Int,t∈L ↔ Uu a t:=by
 have hst:=h.st
 unfold N7 U0
 rw [hc,A0]
 simp only [Ax,A3,if_true,Yt,Aa,O9]
 obtain ⟨R,r1,r2,r3⟩:=Xt n a h.le (fun y=>bnd (Ho n a y a) fun x42=>some x42) n 0 [] (by omega) (by have:=h.le;omega) (by simp)
 have hR:∀ t∈R,0<=t/\t.toNat<a.fStates.length:=fun t ht=>by
  obtain h'|⟨x,hx,_,x2⟩:=(r3 t).1 ht
  ·cases h'
  ·have:=h.ed x (by simpa using hx);omega
 have hN:∀ s t,prS a s t->0<=t/\t.toNat<a.fStates.length:=fun s t ⟨x,hx,_,x2⟩=>by have:=h.ed x hx;omega
 obtain ⟨w,e,e1,e2,e3⟩:=zvt n hn a h.le (by omega) hN R (by have:=h.le;omega) hR
 have e4:=y00 (Uu a) n hn a (fun s t q ⟨x,hx,x1,x2⟩=>x2▸Uu.ok a x hx (aJ (x1.symm▸q))) h.le (by omega) hN R (by have:=h.le;omega) hR (fun s hs=>by
  obtain h'|⟨x,hx,x1,x2⟩:=(r3 s).1 hs
  ·cases h'
  ·rw [<-x2];exact Uu.ok a x (by simpa using hx) (aL x1)) e
 obtain ⟨L,l1,l2,l3⟩:=Xs n (by omega) w (by omega)
 simp only [aC] at r1
 rw [r1,e,A0,A0,l1,A0]
 refine ⟨L,rfl,by omega,fun t=>⟨fun q=>e4 t ((l3 t).1 q),fun q=>(l3 t).2 (q (hs w) (fun x hx q=>?_))⟩⟩
 rcases q with q|q
 ·exact e2 _ ((r3 _).2 (aJ ⟨x,by simpa using hx,q,rfl⟩))
 ·exact e3 _ q _ ⟨x,hx,rfl,rfl⟩
structure PtX (a:Aut) (p:B8):Prop extends PtOk a p where
 rx:∀ t,has p.freachable t ↔ Rr a t
 ix:∀ t,has p.finner t ↔ In56 a t
theorem zxp (n:Nat)(hn:30000000<n)(a:Aut)(h:EdR a)(hc:C1 n a=some 0):∃ p,I6 n a=some p/\PtX a p:=by
 obtain ⟨L,l1,l2,l3⟩:=zma n hn a h hc
 obtain ⟨U,u1,u2,u3⟩:=zun n hn a h hc
 obtain ⟨R,r1,r2,r3⟩:=Z0 n (by omega) L l2
 obtain ⟨V,v1,v2,v3⟩:=Z0 n (by omega) U u2
 obtain ⟨I,i1,i2,i3⟩:=Xg n a h.le R V r2 v2 (fun y z=>some (⟨y,z⟩)) n 0 [] (by omega) (by have:=h.le;omega) MK.nil
 obtain ⟨p,p1,p2⟩:=zqu n hn a h hc
 refine ⟨p,p1,?_⟩
 unfold I6 at p1
 simp only [aC] at i1
 rw [l1,A0,u1,A0,r1,A0,v1,A0,i1] at p1
 injection p1 with p1
 subst p1
 have hR:∀ t,has R t ↔ Rr a t:=fun t=>by rw [r3,l3]
 refine ⟨p2,hR,fun t=>?_⟩
 simp only
 rw [i3]
 simp only [Dl,false_or,aW,v3,u3,hR]
 rfl
abbrev Rul:=Option Nat×Nat
def rAb (w:List Bool)(r:Rul):Bool:=match r.1 with
 |none=>true
 |some i=>w.getD i false
def rst (w:List Bool)(r:Rul):List Bool:=if rAb w r=true then w.set r.2 true else w
theorem zqc (w:List Bool)(r:Rul):(rst w r).length=w.length:=by unfold rst;split<;>simp
theorem ztq (i:Nat){t:Int}(h:hs w t):hs (w.set i true) t:=by
 have:=h.2
 refine ⟨h.1,?_⟩
 grind
theorem ztt (r:Rul){t:Int}(h:hs w t):hs (rst w r) t:=by
 unfold rst
 split
 ·exact ztq _ h
 ·exact h
theorem O7 (R:List Rul)(w:List Bool):(R.foldl rst w).length=w.length:=by
 induction R generalizing w with
 |nil=>rfl
 |cons r R ih=>rw [aR,ih,zqc]
theorem zqh (R:List Rul){t:Int}(h:hs w t):hs (R.foldl rst w) t:=by
 induction R generalizing w with
 |nil=>exact h
 |cons r R ih=>exact ih (ztt r h)
theorem rf_step:∀ (R:List Rul) (w:List Bool),(∀ r∈R,r.2<w.length)->(R.foldl rst w=w/\∀ r∈R,rAb w r=true->w[r.2]? = some true)\/fre (R.foldl rst w)<fre w
 |[],w,_=>aL ⟨rfl,by simp⟩
 |r::R,w,h=>by
  rw [aR]
  have hr:=h r (by simp)
  by_cases ha:rAb w r=true
  ·have e:rst w r=w.set r.2 true:=by unfold rst;rw [if_pos ha]
   rw [e]
   cases hq:w[r.2] with
   |true =>
    have e2:w.set r.2 true=w:=by rw [<-hq];exact List.set_getElem_self hr
    rw [e2]
    refine (rf_step R w (fun q hq=>h q (aK _ hq))).imp (fun ⟨q1,q2⟩=>⟨q1,fun q hm=>?_⟩) id
    rcases aN.1 hm with e|e
    ·rw [e];exact fun _=>by rw [aE hr,hq]
    ·exact q2 q e
   |false =>
    right
    have h1:=Rv hr hq
    have h2:=V9 (m:=w.set r.2 true) (w:=R.foldl rst (w.set r.2 true)) (by rw [O7]) (fun t=>zqh R)
    omega
  ·have e:rst w r=w:=by unfold rst;rw [if_neg ha]
   rw [e]
   refine (rf_step R w (fun q hq=>h q (aK _ hq))).imp (fun ⟨q1,q2⟩=>⟨q1,fun q hm=>?_⟩) id
   rcases aN.1 hm with e|e
   ·rw [e];exact fun q=>absurd q ha
   ·exact q2 q e
theorem zvn {Q:Int->Prop}:∀ (R:List Rul) (hQ:∀ r∈R,(∀ i:Nat,r.1=some i->Q i)->Q (r.2:Int)) (w:List Bool),(∀ r∈R,r.2<w.length)->(∀ t,hs w t->Q t)->∀ t,hs (R.foldl rst w) t->Q t
 |[],_,w,_,h=>h
 |r::R,hQ,w,hl,h=>by
  rw [aR]
  refine zvn R (fun q hq=>hQ q (aK _ hq)) _ (fun q hq=>by rw [zqc];exact hl q (aK _ hq)) (fun t ht=>?_)
  unfold rst at ht
  split at ht
  ·rename_i ha
   rcases (F0 (hl r (by simp)) t).1 ht with e|e
   ·rw [e]
    refine hQ r (by simp) (fun i hi=>h _ ⟨by omega,?_⟩)
    unfold rAb at ha
    rw [hi] at ha
    simp only at ha
    rw [aM]
    rw [aO] at ha
    cases e3:w[i]? with
    |none=>rw [e3] at ha;cases ha
    |some b=>rw [e3] at ha;rw [Option.getD_some] at ha;rw [ha]
   ·exact h t e
  ·exact h t ht
def rnds (R:List Rul):Nat->List Bool->List Bool
 |0,w=>w
 |d+1,w=>rnds R d (R.foldl rst w)
theorem zn8 {R:List Rul}(h:R.foldl rst w=w):∀ d,rnds R d w=w
 |0=>rfl
 |d+1=>by unfold rnds;rw [h];exact zn8 h d
theorem Yf {R:List Rul}:∀ (d:Nat) (w:List Bool),(∀ r∈R,r.2<w.length)->fre w<=d->(rnds R d w).length=w.length/\(∀ t,hs w t->hs (rnds R d w) t)/\∀ r∈R,rAb (rnds R d w) r=true->hs (rnds R d w) (r.2:Int)
 |0,w,h,hf=>by
  refine ⟨rfl,fun t=>id,?_⟩
  rcases rf_step R w h with ⟨_,e⟩|e
  ·exact fun r hr q=>⟨by omega,by rw [aM];exact e r hr q⟩
  ·omega
 |d+1,w,h,hf=>by
  unfold rnds
  rcases rf_step R w h with ⟨e0,e⟩|e
  ·rw [e0,zn8 e0]
   exact ⟨rfl,fun t=>id,fun r hr q=>⟨by omega,by rw [aM];exact e r hr q⟩⟩
  ·obtain ⟨i1,i2,i3⟩:=Yf (R:=R) d (R.foldl rst w) (fun r hr=>by rw [O7];exact h r hr) (by omega)
   exact ⟨by rw [i1,O7],fun t ht=>i2 t (zqh R ht),i3⟩
theorem Y5 {Q:Int->Prop}{R:List Rul}(hQ:∀ r∈R,(∀ i:Nat,r.1=some i->Q i)->Q (r.2:Int)):∀ (d:Nat) (w:List Bool),(∀ r∈R,r.2<w.length)->(∀ t,hs w t->Q t)->∀ t,hs (rnds R d w) t->Q t
 |0,w,_,h=>h
 |d+1,w,hl,h=>by
  unfold rnds
  exact Y5 hQ d _ (fun r hr=>by rw [O7];exact hl r hr) (zvn R hQ w hl h)
theorem zwl {i j:Nat}(hi:i<w.length)(h:w[i]=true):rst w (some i,j)=w.set j true:=by
 unfold rst rAb
 simp [hi,h]
theorem zwm {i j:Nat}(hi:i<w.length)(h:w[i]=false):rst w (some i,j)=w:=by
 unfold rst rAb
 simp [hi,h]
theorem zyz {j:Nat}:rst w (none,j)=w.set j true:=by
 unfold rst rAb
 simp
def rulR (E:List Ed):List Rul:=E.flatMap fun x=>if 0<=x.fTo then [(some x.fFrom.toNat,x.fTo.toNat)] else []
def rulU (E:List Ed):List Rul:=E.map fun x=>(if x.fTo<0 then none else some x.fTo.toNat,x.fFrom.toNat)
theorem zqb (x:Ed)(E:List Ed):rulR (x::E)=(if 0<=x.fTo then [(some x.fFrom.toNat,x.fTo.toNat)] else [])++rulR E:=by
 unfold rulR
 rw [flatMap_cons]
theorem zhu (x:Ed)(E:List Ed):rulU (x::E)=(if x.fTo<0 then none else some x.fTo.toNat,x.fFrom.toNat)::rulU E:=rfl
theorem X5 (n:Nat)(a:Aut)(h:EdR a)(e:Int×List Bool)(K:List Bool->Option (List Bool)):∀ (m k:Nat) (w:List Bool),k<=a.fEdges.length->a.fEdges.length<m+k->w.length=a.fStates.length->Ix n a e K m ((k:Int),w)=K ((rulR (a.fEdges.drop k)).foldl rst w)
 |0,k,w,h1,h2,h3=>by omega
 |m+1,k,w,h1,h2,h3=>by
  have hle:=h.le
  unfold Ix
  simp only [aA,Aa]
  rw [A3]
  by_cases hk:k<a.fEdges.length
  ·have hx:=h.ed _ (aD hk)
   have hf:a.fEdges[k].fFrom.toNat<w.length:=by omega
   rw [if_pos (by omega),Ad hk,Bl hx.1 hf,Cc hf,aG hk,zqb,foldl_append,Ae k (by omega)]
   by_cases q0:0<=a.fEdges[k].fTo
   ·have ht:a.fEdges[k].fTo.toNat<w.length:=by omega
    rw [if_pos q0]
    simp only [aR,List.foldl_nil]
    cases q:w[a.fEdges[k].fFrom.toNat] with
    |true =>
     rw [A8,A3,if_pos q0,Bl q0 ht,Bv ht,zwl hf q]
     exact X5 n a h e K m (k+1) _ (by omega) (by omega) (by rw [aP];exact h3)
    |false =>
     rw [A7,zwm hf q]
     exact X5 n a h e K m (k+1) _ (by omega) (by omega) h3
   ·rw [if_neg q0,List.foldl_nil,A3,if_neg q0]
    have i1:=X5 n a h e K m (k+1) w (by omega) (by omega) h3
    cases w[a.fEdges[k].fFrom.toNat] with
    |true=>rw [A8];exact i1
    |false=>rw [A7];exact i1
  ·rw [if_neg (by omega),aH (by omega)]
   rfl
theorem zaj (n:Nat)(hn:10000000<n)(a:Aut)(h:EdR a)(K:List Bool->Option (List Bool)):∀ (m k:Nat) (w:List Bool),k<=a.fStates.length->a.fStates.length<m+k->w.length=a.fStates.length->L3 n a K m ((k:Int),w)=K (rnds (rulR a.fEdges) (a.fStates.length-k) w)
 |0,k,w,h1,h2,h3=>by omega
 |m+1,k,w,h1,h2,h3=>by
  have hle:=h.le
  have hst:=h.st
  unfold L3
  simp only [aA]
  rw [A3]
  by_cases hk:k<a.fStates.length
  ·have e1:=X5 n a h ((k:Int),w) (fun d=>(L3 n a K m) ((IntKind.wrap .i64 ((k:Int)+1)),d)) n 0 w (by omega) (by omega) h3
   simp only [aC,aW] at e1
   rw [if_pos (by omega),e1,Ae k (by omega),zaj n hn a h K m (k+1) _ (by omega) (by omega) (by rw [O7];exact h3),show a.fStates.length-k=(a.fStates.length-(k+1))+1 from by omega]
   rfl
  ·rw [if_neg (by omega),show a.fStates.length-k=0 from by omega]
   rfl
theorem zwk {a:Aut}(h:EdR a):∀ r∈rulR a.fEdges,r.2<a.fStates.length:=fun r hr=>by
 unfold rulR at hr
 obtain ⟨x,hx,hr⟩:=bA.1 hr
 have:=h.ed x hx
 split at hr
 ·rw [aT.1 hr];simp only;omega
 ·cases hr
theorem Yl (w:List Bool):fre w<=w.length:=by unfold fre;exact aU
theorem zs3 (n:Nat)(hn:10000000<n)(a:Aut)(h:EdR a):∃ w,Sq n a=some w/\w.length=a.fStates.length/\∀ t,hs w t ↔ Rr a t:=by
 have hst:=h.st
 have hR:=zwk h
 have h0:0<(aF a.fStates.length false).length:=by simp;omega
 have hs0:∀ t,hs ((aF a.fStates.length false).set 0 true) t ↔ t=0:=fun t=>by
  rw [F0 h0]
  exact ⟨fun q=>q.elim id (fun q=>absurd q (F4 _ _)),aL⟩
 have hl0:((aF a.fStates.length false).set 0 true).length=a.fStates.length:=by simp
 obtain ⟨i1,i2,i3⟩:=Yf (R:=rulR a.fEdges) a.fStates.length _ (fun r hr=>by rw [hl0];exact hR r hr) (by have:=Yl ((aF a.fStates.length false).set 0 true);omega)
 have i4:=Y5 (Q:=Rr a) (R:=rulR a.fEdges) (fun r hr hp=>by
  unfold rulR at hr
  obtain ⟨x,hx,hr⟩:=bA.1 hr
  have he:=h.ed x hx
  split at hr
  ·rename_i q0
   rw [aT.1 hr] at hp ⊢
   have:=hp x.fFrom.toNat rfl
   rw [aB he.1] at this
   simp only
   rw [aB q0]
   exact (Rr.ok a).2 x hx this q0
  ·cases hr) a.fStates.length _ (fun r hr=>by rw [hl0];exact hR r hr) (fun t ht=>by rw [(hs0 t).1 ht];exact (Rr.ok a).1)
 refine ⟨_,?_,i1.trans hl0,fun t=>⟨i4 t,fun q=>q _ ⟨i2 0 ((hs0 0).2 rfl),fun x hx q q0=>?_⟩⟩⟩
 ·unfold Sq
  simp only [aA]
  have e1:=zaj n hn a h (fun b=>some b) n 0 _ (by omega) (by omega) hl0
  simp only [aC] at e1
  have e0:(0:Int)=((0:Nat):Int):=rfl
  rw [Cg (by omega) (by decide),aV,Bl (by omega) (by simp;omega),Bv (by simpa using h0)]
  exact e1
 ·have he:=h.ed x hx
  have:=i3 (some x.fFrom.toNat,x.fTo.toNat) (by unfold rulR;exact bA.2 ⟨x,hx,by rw [if_pos q0];simp⟩) (by unfold rAb;simp only;rw [aO,q.2];rfl)
  simp only at this
  rw [aB q0] at this
  exact this
theorem Xx (n:Nat)(a:Aut)(h:EdR a)(e:Int×List Bool)(K:List Bool->Option (List Bool)):∀ (m k:Nat) (w:List Bool),k<=a.fEdges.length->a.fEdges.length<m+k->w.length=a.fStates.length->Iy n a e K m ((k:Int),w)=K ((rulU (a.fEdges.drop k)).foldl rst w)
 |0,k,w,h1,h2,h3=>by omega
 |m+1,k,w,h1,h2,h3=>by
  have hle:=h.le
  unfold Iy
  simp only [aA,Aa]
  rw [A3]
  by_cases hk:k<a.fEdges.length
  ·have hx:=h.ed _ (aD hk)
   have hf:a.fEdges[k].fFrom.toNat<w.length:=by omega
   rw [if_pos (by omega),Ad hk,aG hk,zhu,aR,Ae k (by omega),A3]
   by_cases q0:a.fEdges[k].fTo<0
   ·rw [if_pos q0,Bl hx.1 hf,Bv hf,if_pos q0,zyz]
    exact Xx n a h e K m (k+1) _ (by omega) (by omega) (by rw [aP];exact h3)
   ·have ht:a.fEdges[k].fTo.toNat<w.length:=by omega
    rw [if_neg q0,Bl (by omega) ht,Cc ht,if_neg q0]
    cases q:w[a.fEdges[k].fTo.toNat] with
    |true =>
     rw [A8,Bl hx.1 hf,Bv hf,zwl ht q]
     exact Xx n a h e K m (k+1) _ (by omega) (by omega) (by rw [aP];exact h3)
    |false =>
     rw [A7,zwm ht q]
     exact Xx n a h e K m (k+1) _ (by omega) (by omega) h3
  ·rw [if_neg (by omega),aH (by omega)]
   rfl
theorem zj4 (n:Nat)(hn:10000000<n)(a:Aut)(h:EdR a)(K:List Bool->Option (List Bool)):∀ (m k:Nat) (w:List Bool),k<=a.fStates.length->a.fStates.length<m+k->w.length=a.fStates.length->L4 n a K m ((k:Int),w)=K (rnds (rulU a.fEdges) (a.fStates.length-k) w)
 |0,k,w,h1,h2,h3=>by omega
 |m+1,k,w,h1,h2,h3=>by
  have hle:=h.le
  have hst:=h.st
  unfold L4
  simp only [aA]
  rw [A3]
  by_cases hk:k<a.fStates.length
  ·have e1:=Xx n a h ((k:Int),w) (fun d=>(L4 n a K m) ((IntKind.wrap .i64 ((k:Int)+1)),d)) n 0 w (by omega) (by omega) h3
   simp only [aC,aW] at e1
   rw [if_pos (by omega),e1,Ae k (by omega),zj4 n hn a h K m (k+1) _ (by omega) (by omega) (by rw [O7];exact h3),show a.fStates.length-k=(a.fStates.length-(k+1))+1 from by omega]
   rfl
  ·rw [if_neg (by omega),show a.fStates.length-k=0 from by omega]
   rfl
theorem Y4 {E:List Ed}{r:Rul}(h:r∈rulU E):∃ x∈E,r=(if x.fTo<0 then none else some x.fTo.toNat,x.fFrom.toNat):=by
 unfold rulU at h
 obtain ⟨x,hx,e⟩:=mem_map.1 h
 exact ⟨x,hx,e.symm⟩
theorem zs5 (n:Nat)(hn:10000000<n)(a:Aut)(h:EdR a):∃ w,Sr n a=some w/\w.length=a.fStates.length/\∀ t,hs w t ↔ Uu a t:=by
 have hst:=h.st
 have hR:∀ r∈rulU a.fEdges,r.2<(aF a.fStates.length false).length:=fun r hr=>by
  obtain ⟨x,hx,e⟩:=Y4 hr
  have:=h.ed x hx
  rw [e,aV]
  simp only
  omega
 obtain ⟨i1,i2,i3⟩:=Yf (R:=rulU a.fEdges) a.fStates.length _ hR (by have:=Yl (aF a.fStates.length false);rw [aV] at this;exact this)
 have i4:=Y5 (Q:=Uu a) (R:=rulU a.fEdges) (fun r hr hp=>by
  obtain ⟨x,hx,e⟩:=Y4 hr
  have he:=h.ed x hx
  rw [e] at hp ⊢
  simp only
  rw [aB he.1]
  refine Uu.ok a x hx ?_
  by_cases q0:x.fTo<0
  ·exact aL q0
  ·have:=hp x.fTo.toNat (by simp only;rw [if_neg q0])
   rw [aB (by omega)] at this
   exact aJ this) a.fStates.length _ hR (fun t ht=>absurd ht (F4 _ _))
 refine ⟨_,?_,i1.trans (by simp),fun t=>⟨i4 t,fun q=>q _ (fun x hx q=>?_)⟩⟩
 ·unfold Sr
  simp only [aA]
  have e1:=zj4 n hn a h (fun b=>some b) n 0 (aF a.fStates.length false) (by omega) (by omega) (by simp)
  simp only [aC] at e1
  rw [Cg (by omega) (by decide)]
  exact e1
 ·have he:=h.ed x hx
  have:=i3 (if x.fTo<0 then none else some x.fTo.toNat,x.fFrom.toNat) (by unfold rulU;exact mem_map.2 ⟨x,hx,rfl⟩) (by
   unfold rAb
   simp only
   by_cases q0:x.fTo<0
   ·rw [if_pos q0]
   ·rw [if_neg q0]
    simp only
    rcases q with q|q
    ·exact absurd q q0
    ·rw [aO,q.2];rfl)
  simp only at this
  rw [aB he.1] at this
  exact this
theorem X8 (n:Nat)(w:List Bool)(hw:w.length<=1000)(K:List Int->Option (List Int)):∀ (m k:Nat) (acc:List Int),k<=w.length->w.length<m+k->acc.length<=k->∃ L,Lc n w K m ((k:Int),acc)=K L/\L.length<=w.length/\∀ t,t∈L ↔ t∈acc\/((k:Int)<=t/\hs w t)
 |0,k,acc,h1,h2,h3=>by omega
 |m+1,k,acc,h1,h2,h3=>by
  unfold Lc
  simp only [aA,Aa]
  rw [A3]
  by_cases hk:k<w.length
  ·rw [if_pos (by omega),Ad hk]
   have hkk:hs w (k:Int) ↔ w[k]=true:=by
    unfold hs
    rw [aM,aE hk]
    simp
   cases q:w[k] with
   |true =>
    rw [A8,Bs (by simp;omega) (by omega),Ae k (by omega)]
    obtain ⟨L,e1,e2,e3⟩:=X8 n w hw K m (k+1) (acc++[(k:Int)]) (by omega) (by omega) (by simp;omega)
    refine ⟨L,e1,e2,fun t=>?_⟩
    rw [e3,mem_append,aT]
    rw [q] at hkk
    constructor
    ·rintro ((h|h)|⟨h,h'⟩)
     ·exact aL h
     ·rw [h];exact aJ ⟨Int.le_refl _,hkk.2 rfl⟩
     ·exact aJ ⟨by omega,h'⟩
    ·rintro (h|⟨h,h'⟩)
     ·exact aL (aL h)
     ·by_cases e:t=(k:Int)
      ·exact aL (aJ e)
      ·exact aJ ⟨by omega,h'⟩
   |false =>
    rw [A7,Ae k (by omega)]
    obtain ⟨L,e1,e2,e3⟩:=X8 n w hw K m (k+1) acc (by omega) (by omega) (by omega)
    refine ⟨L,e1,e2,fun t=>?_⟩
    rw [e3]
    rw [q] at hkk
    refine or_congr Iff.rfl ⟨fun h=>⟨by omega,h.2⟩,fun h=>⟨?_,h.2⟩⟩
    by_cases e:t=(k:Int)
    ·rw [e] at h;exact absurd (hkk.1 h.2) (by simp)
    ·omega
  ·rw [if_neg (by omega)]
   refine ⟨acc,rfl,by omega,fun t=>⟨aL,fun h=>h.elim id (fun h=>?_)⟩⟩
   have:=(List.getElem?_eq_some_iff.1 h.2.2).1
   omega
theorem zc1 (n:Nat)(L:List Int)(hL:L.length<=1000)(N:Nat)(hr:∀ t∈L,0<=t/\t.toNat<N)(K:List Bool->Option (List Bool)):∀ (m k:Nat) (w:List Bool),k<=L.length->L.length<m+k->w.length=N->∃ w',P1 n L K m ((k:Int),w)=K w'/\w'.length=N/\∀ t,hs w' t ↔ hs w t\/t∈L.drop k
 |0,k,w,h1,h2,h3=>by omega
 |m+1,k,w,h1,h2,h3=>by
  unfold P1
  simp only [aA]
  rw [A3]
  by_cases hk:k<L.length
  ·have hx:=hr _ (aD hk)
   have hx2:L[k].toNat<w.length:=by omega
   rw [if_pos (by omega),Ad hk,Bl hx.1 hx2,Bv hx2,Ae k (by omega),aG hk]
   obtain ⟨w',e1,e2,e3⟩:=zc1 n L hL N hr K m (k+1) (w.set L[k].toNat true) (by omega) (by omega) (by rw [aP];exact h3)
   refine ⟨w',e1,e2,fun t=>?_⟩
   rw [e3,F0 hx2,aB hx.1,aN,or_comm (a:=t=L[k]),or_assoc]
  ·rw [if_neg (by omega),aH (by omega)]
   exact ⟨w,rfl,h3,by simp⟩
theorem zo2 (n:Nat)(hn:10000000<n)(L:List Int)(hL:L.length<=1000)(N:Nat)(hN:N<=1000)(hr:∀ t∈L,0<=t/\t.toNat<N):∃ w',Pz n L (N:Int)=some w'/\w'.length=N/\∀ t,hs w' t ↔ t∈L:=by
 obtain ⟨w',e1,e2,e3⟩:=zc1 n L hL N hr (fun b=>some b) n 0 (aF N false) (by omega) (by omega) (by simp)
 simp only [aC] at e1
 refine ⟨w',?_,e2,fun t=>?_⟩
 ·unfold Pz
  rw [Cg (by omega) (by decide)]
  exact e1
 ·rw [e3]
  exact ⟨fun q=>q.elim (fun q=>absurd q (F4 _ _)) (fun q=>by simpa using q),fun q=>aJ (by simpa using q)⟩
theorem zc2 (n:Nat)(a:Aut)(h:EdR a)(r u:List Bool)(hr:r.length=a.fStates.length)(hu:u.length=a.fStates.length)(K:List Bool->List Bool->Option (List Bool×List Bool)):∀ (m k:Nat) (w:List Bool),k<=a.fEdges.length->a.fEdges.length<m+k->w.length=a.fStates.length->∃ w',Ga n a r u K m ((k:Int),w)=K r w'/\w'.length=a.fStates.length/\∀ t,hs w' t ↔ hs w t\/∃ x∈a.fEdges.drop k,0<=x.fTo/\hs r x.fFrom/\hs u x.fTo/\x.fTo=t
 |0,k,w,h1,h2,h3=>by omega
 |m+1,k,w,h1,h2,h3=>by
  have hle:=h.le
  unfold Ga
  simp only [aA,Aa]
  rw [A3]
  by_cases hk:k<a.fEdges.length
  ·have hx:=h.ed _ (aD hk)
   have hf:a.fEdges[k].fFrom.toNat<r.length:=by omega
   have hfr:hs r a.fEdges[k].fFrom ↔ r[a.fEdges[k].fFrom.toNat]=true:=by
    unfold hs
    rw [aE hf]
    simp [hx.1]
   rw [if_pos (by omega),Ad hk,Cs hx.1 hf,Ae k (by omega),aG hk]
   have skip:¬(0<=a.fEdges[k].fTo/\hs r a.fEdges[k].fFrom/\hs u a.fEdges[k].fTo)->∃ w',Ga n a r u K m (((k+1:Nat):Int),w)=K r w'/\w'.length=a.fStates.length/\∀ t,hs w' t ↔ hs w t\/∃ x∈a.fEdges[k]::a.fEdges.drop (k+1),0<=x.fTo/\hs r x.fFrom/\hs u x.fTo/\x.fTo=t:=fun hn=>by
    obtain ⟨w',e1,e2,e3⟩:=zc2 n a h r u hr hu K m (k+1) w (by omega) (by omega) h3
    refine ⟨w',e1,e2,fun t=>?_⟩
    rw [e3]
    simp only [aN,exists_eq_or_imp]
    refine or_congr Iff.rfl ⟨aJ,fun q=>q.elim (fun q=>absurd ⟨q.1,q.2.1,q.2.2.1⟩ hn) id⟩
   cases q:r[a.fEdges[k].fFrom.toNat] with
   |false =>
    rw [A7]
    exact skip (fun q'=>by have:=hfr.1 q'.2.1;rw [q] at this;cases this)
   |true =>
    rw [A8,A3]
    by_cases q0:0<=a.fEdges[k].fTo
    ·have ht:a.fEdges[k].fTo.toNat<u.length:=by omega
     have htu:hs u a.fEdges[k].fTo ↔ u[a.fEdges[k].fTo.toNat]=true:=by
      unfold hs
      rw [aE ht]
      simp [q0]
     rw [if_pos q0,Cs q0 ht]
     cases q2:u[a.fEdges[k].fTo.toNat] with
     |false =>
      rw [A7]
      exact skip (fun q'=>by have:=htu.1 q'.2.2;rw [q2] at this;cases this)
     |true =>
      have htw:a.fEdges[k].fTo.toNat<w.length:=by omega
      rw [A8,Bl q0 htw,Bv htw]
      obtain ⟨w',e1,e2,e3⟩:=zc2 n a h r u hr hu K m (k+1) (w.set a.fEdges[k].fTo.toNat true) (by omega) (by omega) (by rw [aP];exact h3)
      refine ⟨w',e1,e2,fun t=>?_⟩
      rw [e3,F0 htw,aB q0,or_comm (a:=t=a.fEdges[k].fTo),or_assoc]
      simp only [aN,exists_eq_or_imp]
      refine or_congr Iff.rfl (or_congr ⟨fun e=>⟨q0,hfr.2 q,htu.2 q2,e.symm⟩,fun e=>e.2.2.2.symm⟩ Iff.rfl)
    ·rw [if_neg q0]
     exact skip (fun q'=>absurd q'.1 q0)
  ·rw [if_neg (by omega),aH (by omega)]
   exact ⟨w,rfl,h3,by simp⟩
theorem y06 (n:Nat)(hn:10000000<n)(a:Aut)(h:EdR a)(hc:E9 n a=some 0):∃ r i,Mw n a=some (r,i)/\r.length=a.fStates.length/\i.length=a.fStates.length/\(∀ t,hs r t ↔ Rr a t)/\∀ t,hs i t ↔ In56 a t:=by
 have hst:=h.st
 have hle:=h.le
 obtain ⟨w1,a1,a2,a3⟩:=zs3 n hn a h
 obtain ⟨w2,b1,b2,b3⟩:=zs5 n hn a h
 obtain ⟨L1,c1,c2,c3⟩:=X8 n w1 (by omega) (fun b=>some b) n 0 [] (by omega) (by omega) (by simp)
 obtain ⟨L2,d1,d2,d3⟩:=X8 n w2 (by omega) (fun b=>some b) n 0 [] (by omega) (by omega) (by simp)
 have rg:∀ (w:List Bool) (t:Int),w.length=a.fStates.length->hs w t->0<=t/\t.toNat<a.fStates.length:=fun w t hw q=>⟨q.1,by have:=(List.getElem?_eq_some_iff.1 q.2).1;omega⟩
 have c4:∀ t,t∈L1 ↔ hs w1 t:=fun t=>by
  rw [c3]
  exact ⟨fun q=>q.elim (fun q=>by cases q) (fun q=>q.2),fun q=>aJ ⟨by have:=q.1;omega,q⟩⟩
 have d4:∀ t,t∈L2 ↔ hs w2 t:=fun t=>by
  rw [d3]
  exact ⟨fun q=>q.elim (fun q=>by cases q) (fun q=>q.2),fun q=>aJ ⟨by have:=q.1;omega,q⟩⟩
 obtain ⟨r,e1,e2,e3⟩:=zo2 n hn L1 (by omega) a.fStates.length (by omega) (fun t ht=>rg w1 t a2 ((c4 t).1 ht))
 obtain ⟨u,f1,f2,f3⟩:=zo2 n hn L2 (by omega) a.fStates.length (by omega) (fun t ht=>rg w2 t b2 ((d4 t).1 ht))
 obtain ⟨i,g1,g2,g3⟩:=zc2 n a h r u e2 f2 (fun b c=>some (b,c)) n 0 (aF a.fStates.length false) (by omega) (by omega) (by simp)
 simp only [aC] at c1 d1 g1
 have hrr:∀ t,hs r t ↔ Rr a t:=fun t=>by rw [e3,c4,a3]
 refine ⟨r,i,?_,e2,g2,hrr,fun t=>?_⟩
 ·unfold Mw Vn W5 Sy
  simp only [aA]
  rw [hc,A0,A0,show (!decide ((0:Int)=0))=false from rfl,A7,A7,a1,A0,c1,A0,A0,b1,A0,d1,A0,A0,e1,A0,f1,A0,Cg (by omega) (by decide),g1]
 ·rw [g3]
  simp only [hrr,f3,d4,b3,aW]
  exact ⟨fun q=>q.elim (fun q=>absurd q (F4 _ _)) id,aJ⟩
end Go.Proofs.YthbogefcfhmpgaaGreat
