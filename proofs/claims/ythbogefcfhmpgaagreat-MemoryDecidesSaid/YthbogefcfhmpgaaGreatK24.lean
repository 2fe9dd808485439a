/- Layer 56, plainly. -/
import Derived.Test.YthbogefcfhmpgaaGreatK23
set_option linter.unusedVariables false
set_option linter.unusedSimpArgs false
set_option maxRecDepth 100000
namespace Go.Proofs.YthbogefcfhmpgaaGreat
open Go.RowKit List
open List renaming length_map->aA,getElem_mem->aC,drop_eq_nil_of_le->aD,drop_eq_getElem_cons->aE,take_succ_eq_append_getElem->aF,getElem?_eq_getElem->aG,mem_singleton->aL,mem_cons->aM,mem_iff_getElem->aN,take_of_length_le->aP,drop_zero->aQ,length_set->aR,mem_cons_of_mem->aT,foldl_cons->aU,mem_filter->aW,getElem_take->aX,getElem?_set_ne->aY,length_eraseIdx_of_lt->aZ,getD_eq_getElem?_getD->bA,length_take->bB,mem_map->bF,length_filter_le->bG,singleton_append->bH,take_append_drop->bI,length_cons->bJ,mem_append->bM,nodup_cons->bN,take_zero->bO
open Int renaming natCast_zero->aB,toNat_of_nonneg->bC,toNat_natCast->bE
open Bool renaming and_eq_true->aH,not_false->aO,not_true->aS,not_eq_true'->bD,or_eq_true->bK,eq_iff_iff->bL
open Or renaming inr->aJ,inl->aK
open Nat renaming le_refl->aV
abbrev mxT:Int:=1099511627776
theorem zbu (n:Nat)(rF:Exn->Option Exn)(ys:List Exn)(hl:ys.length<=4000000)(rec:∀ y∈ys,rF y=some y):∀ (m k:Nat),k<=ys.length->ys.length<m+k->Qh n rF (ys.map Ao) (fun y=>some y) m ((k:Int),(ys.map Ao).take k)=some (ys.map Ao)
 |0,k,h1,h2=>by omega
 |m+1,k,h1,h2=>by
  unfold Qh
  simp only [aA,A3]
  by_cases h:k<ys.length
  ·have h':k<(ys.map Ao).length:=by simpa using h
   rw [if_pos (by omega),Ys h,rec _ (aC h),A0,Bs (by simp;omega) (by decide),Ae k (by omega)]
   have e:(ys.map Ao).take k++[Ao ys[k]]=(ys.map Ao).take (k+1):=by
    rw [aF h',getElem_map]
   rw [e]
   exact zbu n rF ys hl rec m (k+1) (by omega) (by omega)
  ·rw [if_neg (by omega),aP (by simp;omega)]
theorem znu:∀ (s:Nat) (e:Exn),ETr s e->s<=4000000->∀ n,s+4000002<n->Gn n e=some e:=by
 intro s
 induction s using Nat.strongRecOn with
 |ind s IH =>
  intro e ht hs n hn
  cases ht with
  |mk l e h ha =>
   obtain ⟨n',rfl⟩:∃ n',n=n' + 1:=⟨n-1,by omega⟩
   have hl:=O2 (l:=l) (fun p hp=>(h p hp).pos)
   simp only [Gn]
   unfold Wt
   have e1:e.fArgs=(l.map (·.2)).map Ao:=by rw [ha,map_map];rfl
   have hc:=zbu n' (Gn n') (l.map (·.2)) (by rw [aA];omega) (fun y hy=>by
    obtain ⟨p,hp,rfl⟩:=bF.1 hy
    have:=Ie hp
    exact IH p.1 (by omega) p.2 (h p hp) (by omega) n' (by omega)) n' 0 (by omega) (by rw [aA];omega)
   simp only [aB,bO] at hc
   rw [e1,hc,A0,<-e1]
theorem zag (n:Nat)(ys:List Exn)(hl:ys.length<=4000000)(rec:∀ y∈ys,Gn n y=some y):∀ (m k:Nat),k<=ys.length->ys.length<m+k->Oz n (ys.map Ao) (fun y=>some y) m ((k:Int),(ys.map Ao).take k)=some (ys.map Ao)
 |0,k,h1,h2=>by omega
 |m+1,k,h1,h2=>by
  unfold Oz
  simp only [aA,A3]
  by_cases h:k<ys.length
  ·have h':k<(ys.map Ao).length:=by simpa using h
   rw [if_pos (by omega),Ys h,rec _ (aC h),A0,Bs (by simp;omega) (by decide),Ae k (by omega)]
   have e:(ys.map Ao).take k++[Ao ys[k]]=(ys.map Ao).take (k+1):=by
    rw [aF h',getElem_map]
   rw [e]
   exact zag n ys hl rec m (k+1) (by omega) (by omega)
  ·rw [if_neg (by omega),aP (by simp;omega)]
theorem zx0 (n:Nat)(hn:10000000<n)(x:Ed)(hx:WfX x):Uc n x=some x:=by
 obtain ⟨z,hz,ht⟩:=hx.cond
 obtain ⟨ys,hy,hw⟩:=hx.checks
 have hlc:=hx.lc
 have hly:ys.length<=1100000:=by rw [hy,aA] at hlc;exact hlc
 have hlo:=hx.lo
 have hlcl:=hx.lcl
 have hli:=hx.li
 have hll:=hx.ll
 have hc:=zag n ys (by omega) (fun y hy'=>by
  obtain ⟨z,hz,ht⟩:=hw y hy'
  exact znu z y ht hz n (by omega)) n 0 (by omega) (by omega)
 simp only [aB,bO] at hc
 unfold Uc W0
 rw [znu z _ ht hz n (by omega),A0,hy,hc,A0,Xu (by omega),A0,Xu (by omega),A0,Xu (by omega),A0,Xu (by omega),A0,<-hy]
theorem zeb (n:Nat)(hn:10000000<n)(a:Aut)(hw:WfA a)(L:List Int)(hL:L.length<=1100000)(hr:∀ i∈L,∃ j:Nat,i=(j:Int)/\j<a.fEdges.length):∀ (m k:Nat) (acc:List Ed),k<=L.length->L.length<m+k->acc.length<=k->∃ R,Qt n a L (fun y=>some (y,0)) m ((k:Int),acc)=some (R,0)/\R.length<=L.length/\∀ x,x∈R ↔ x∈acc\/∃ i∈L.drop k,∃ j:Nat,i=(j:Int)/\a.fEdges[j]? = some x
 |0,k,acc,h1,h2,h3=>by omega
 |m+1,k,acc,h1,h2,h3=>by
  unfold Qt
  simp only [aA,A3]
  by_cases h:k<L.length
  ·obtain ⟨j,j1,j2⟩:=hr L[k] (aC h)
   have hj:a.fEdges[j]? = some a.fEdges[j]:=aG j2
   rw [if_pos (by omega),Ad h,Ae k (by omega),j1,Ad j2,zx0 n hn _ (hw.ed _ (aC j2)),A0,Bs (by simp;omega) (by decide),aE h]
   obtain ⟨R,e1,e2,e3⟩:=zeb n hn a hw L hL hr m (k+1) (acc++[a.fEdges[j]]) (by omega) (by omega) (by simp;omega)
   refine ⟨R,e1,e2,fun x=>?_⟩
   rw [e3,bM,aL,or_assoc]
   simp only [aM,exists_eq_or_imp]
   refine or_congr Iff.rfl (or_congr ⟨fun e=>⟨j,j1,by rw [hj,e]⟩,fun ⟨i,i1,i2⟩=>?_⟩ Iff.rfl)
   have:i=j:=by omega
   rw [this,hj] at i2
   injection i2 with i2
   exact i2.symm
  ·rw [if_neg (by omega),aD (by omega)]
   exact ⟨acc,rfl,by omega,fun x=>by simp⟩
theorem zrc (n:Nat)(hn:10000000<n)(a:Aut)(hw:WfA a)(hc:C1 n a=some 0)(i:Nat)(hi:i<a.fStates.length):∃ R,U6 n a (i:Int)=some (R,0)/\R.length<=1100000/\∀ x,x∈R ↔ x∈a.fEdges/\x.fFrom=(i:Int):=by
 obtain ⟨L,l1,l2,l3⟩:=zif n hn (i:Int) a hw.le
 have hle:=hw.le
 have hr:∀ i∈L,∃ j:Nat,i=(j:Int)/\j<a.fEdges.length:=fun i hi=>by
  obtain ⟨j,j1,x,j2,_⟩:=(l3 i).1 hi
  exact ⟨j,j1,(List.getElem?_eq_some_iff.1 j2).1⟩
 obtain ⟨R,r1,r2,r3⟩:=zeb n hn a hw L (by omega) hr n 0 [] (by omega) (by omega) (by simp)
 unfold U6
 rw [hc,A0,Uz,A0]
 simp only [aA,Ax,A3,if_true]
 rw [decide_eq_true (by omega:(0:Int)<=(i:Int)),decide_eq_true (by omega:(i:Int)<(a.fStates.length:Int)),Bool.and_self,A8,l1,A0]
 refine ⟨R,r1,by omega,fun x=>?_⟩
 rw [r3]
 simp only [not_mem_nil,false_or,aQ]
 constructor
 ·rintro ⟨i',hi',j,j1,j2⟩
  obtain ⟨j',j1',x',j2',j3'⟩:=(l3 i').1 hi'
  have:j'=j:=by omega
  rw [this,j2] at j2'
  injection j2' with j2'
  exact ⟨mem_of_getElem? j2,j2'▸j3'⟩
 ·rintro ⟨hx,x1⟩
  obtain ⟨j,hj,e⟩:=aN.1 hx
  have hj':a.fEdges[j]? = some x:=by rw [aG hj,e]
  exact ⟨(j:Int),(l3 _).2 ⟨j,rfl,x,hj',x1⟩,j,rfl,hj'⟩
theorem zbq (n:Nat)(s:Int)(l:List C8)(hl:l.length<=1000000000):∀ (m k:Nat),k<=l.length->l.length<m+k->Ov n s l (some (-1)) m (k:Int)=some (H4 (fun y=>decide (y.fScope=s)) k (l.drop k))
 |0,k,h1,h2=>by omega
 |m+1,k,h1,h2=>by
  unfold Ov Ww
  simp only [aA,A3]
  by_cases h:k<l.length
  ·rw [if_pos (by omega),Ad h,Di l k h,Uv,A0,Ae k (by omega),zbq n s l hl m (k+1) (by omega) (by omega)]
   rw [A3]
   grind
  ·rw [if_neg (by omega),aD (by omega)]
   rfl
def limP (n:Nat)(x:Ed)(s:Int):Int×Bool:=(Kj n x s).getD (0,false)
theorem zr3 (n:Nat)(hn:10000000<n)(x:Ed)(ho:x.fOpens.length<=1100000)(hl:x.fLimits.length<=1100000)(s:Int):Kj n x s=some (limP n x s)/\((limP n x s).1=0\/∃ l∈x.fLimits,(limP n x s).1=l.fSpan)/\((limP n x s).2=true->∃ l∈x.fLimits,l.fScope=s/\¬s∈x.fOpens):=by
 have hx:=zbq n s x.fLimits (by omega) n 0 (by omega) (by omega)
 simp only [aB,aQ,Rn] at hx
 have key:∃ r,Kj n x s=some r/\(r.1=0\/∃ l∈x.fLimits,r.1=l.fSpan)/\(r.2=true->∃ l∈x.fLimits,l.fScope=s/\¬s∈x.fOpens):=by
  unfold Kj Sv
  rw [hx,A0]
  simp only [Am,Aa,Kd,A3,Ey n s x.fOpens (by omega) (by omega),A0]
  by_cases q:fidx (fun y=>decide (y.fScope=s)) x.fLimits<0
  ·rw [if_pos q,A8]
   exact ⟨_,rfl,aK rfl,fun h=>by cases h⟩
  ·rw [if_neg q]
   cases e:(x.fOpens.any fun y=>decide (s=y)) with
   |true=>rw [A8];exact ⟨_,rfl,aK rfl,fun h=>by cases h⟩
   |false =>
    rw [A7]
    unfold fidx at q ⊢
    cases e2:x.fLimits.findIdx? (fun y=>decide (y.fScope=s)) with
    |none=>rw [e2] at q;exact absurd (by simp) q
    |some j =>
     obtain ⟨j1,j2⟩:=findIdx?_eq_some_iff_getElem.1 e2
     simp only
     rw [Ad j1]
     refine ⟨_,rfl,aJ ⟨_,aC j1,rfl⟩,fun _=>⟨_,aC j1,by simpa using j2.1,fun hm=>?_⟩⟩
     have:=any_eq_false.1 e s hm
     simp at this
 obtain ⟨r,r1,r2,r3⟩:=key
 have:limP n x s=r:=by unfold limP;rw [r1];rfl
 rw [this]
 exact ⟨r1,r2,r3⟩
def lmS (n:Nat)(s:Int)(z:Int×Bool)(x:Ed):Int×Bool:=(max z.1 (limP n x s).1,z.2 && (limP n x s).2)
def E2 (n:Nat)(l:List Ed)(s:Int):Int×Bool:=l.foldl (lmS n s) (0,true)
structure LimR (x:Ed):Prop where
 o:x.fOpens.length<=1100000
 l:x.fLimits.length<=1100000
 s:∀ l∈x.fLimits,0<=l.fSpan/\l.fSpan<=mxT
variable {x:Ed}
theorem LimR.lim (h:LimR x)(n:Nat)(hn:10000000<n)(s:Int):0<=(limP n x s).1/\(limP n x s).1<=mxT:=by
 rcases (zr3 n hn x h.o h.l s).2.1 with e|⟨l,hl,e⟩
 ·rw [e];exact ⟨by omega,by decide⟩
 ·rw [e];exact h.s l hl
theorem zw1 (n:Nat)(hn:10000000<n)(s:Int)(l:List Ed)(h:∀ x∈l,LimR x)(z:Int×Bool)(hz:0<=z.1/\z.1<=mxT):(0<=(l.foldl (lmS n s) z).1/\(l.foldl (lmS n s) z).1<=mxT)/\((l.foldl (lmS n s) z).2=true->z.2=true/\∀ x∈l,(limP n x s).2=true):=by
 induction l generalizing z with
 |nil=>exact ⟨hz,fun h=>⟨h,by simp⟩⟩
 |cons x r ih =>
  have h1:=(h x (by simp)).lim n hn s
  rw [aU]
  obtain ⟨i1,i2⟩:=ih (fun y hy=>h y (aT _ hy)) (lmS n s z x) (by unfold lmS;simp only;omega)
  refine ⟨i1,fun q=>?_⟩
  obtain ⟨q1,q2⟩:=i2 q
  unfold lmS at q1
  simp only [aH] at q1
  exact ⟨q1.1,fun y hy=>(aM.1 hy).elim (fun e=>e▸q1.2) (q2 y)⟩
theorem znv (n:Nat)(hn:10000000<n)(l:List Ed)(hl:l.length<=1100000)(h:∀ x∈l,LimR x)(V:Int×Bool×Mp)(p:Int×Bool)(r:Mp)(K:Int->Bool->Mp->Option (Int×Bool)):∀ (m k:Nat) (z:Int×Bool),k<=l.length->l.length<m+k->Nc n l V p r K m (z.1,z.2,(k:Int))=K ((l.drop k).foldl (lmS n p.1) z).1 ((l.drop k).foldl (lmS n p.1) z).2 r
 |0,k,z,h1,h2=>by omega
 |m+1,k,z,h1,h2=>by
  unfold Nc
  simp only [aA,Aa]
  rw [A3]
  by_cases hk:k<l.length
  ·have hx:=h _ (aC hk)
   rw [if_pos (by omega),Ad hk,(zr3 n hn _ hx.o hx.l p.1).1,A0,Ae k (by omega),aE hk,aU]
   have i1:=znv n hn l hl h V p r K m (k+1) (lmS n p.1 z l[k]) (by omega) (by omega)
   unfold lmS at i1
   simp only at i1
   unfold lmS
   obtain ⟨z1,z2⟩:=z
   cases z2 with
   |true=>rw [A8];simpa using i1
   |false=>rw [A7];simpa using i1
  ·rw [if_neg (by omega),aD (by omega)]
   rfl
def agS (n:Nat)(l:List Ed)(z:Int×Bool)(p:Int×Bool):Int×Bool:=if (E2 n l p.1).2=true/\(z.2=false\/(E2 n l p.1).1<z.1) then ((E2 n l p.1).1,true) else z
theorem zop (n:Nat)(l:List Ed)(z x y:Int×Bool):agS n l (agS n l z x) y=agS n l (agS n l z y) x:=by
 unfold agS
 generalize E2 n l x.1=p
 generalize E2 n l y.1=q
 obtain ⟨z1,z2⟩:=z
 obtain ⟨p1,p2⟩:=p
 obtain ⟨q1,q2⟩:=q
 cases p2<;>cases q2<;>cases z2<;>simp<;>grind
theorem zfh (n:Nat)(hn:10000000<n)(l:List Ed)(hl:l.length<=1100000)(h:∀ x∈l,LimR x):∀ (m:Nat) (rem:Mp) (z:Int×Bool),rem.length<m->I5 n l (fun y z=>some (y,z)) m (z.1,z.2,rem)=some (rem.foldl (agS n l) z)
 |0,rem,z,h1=>by omega
 |m+1,rem,z,h1=>by
  unfold I5
  simp only [Aa]
  by_cases e:rem=[]
  ·subst e
   rw [Yh]
   rfl
  ·have hne:∀ (x y:Option (Int×Bool)),nxt rem x y=y:=fun x y=>by
    cases rem with
    |nil=>exact absurd rfl e
    |cons p r=>exact Y9 p r x y
   rw [hne]
   refine Y6 e fun j hj=>?_
   have h2:=fun K=>znv n hn l hl h (z.1,z.2,rem) rem[j] (rem.eraseIdx j) K n 0 (0,true) (by omega) (by omega)
   simp only [aB,aQ] at h2
   rw [h2]
   have hlen:(rem.eraseIdx j).length<m:=by rw [aZ hj];omega
   have hp:(rem[j]::rem.eraseIdx j).Perm rem:=Nr hj
   have hc:=Perm.foldl_eq' (f:=agS n l) hp (fun x _ y _ z=>zop n l z x y) z
   rw [<-hc,aU]
   have i1:=zfh n hn l hl h m (rem.eraseIdx j) (agS n l z rem[j]) hlen
   rw [<-i1]
   unfold agS E2
   obtain ⟨z1,z2⟩:=z
   simp only [Ax]
   cases hq:(l.foldl (lmS n rem[j].1) (0,true)).2 with
   |false=>rw [A7];simp
   |true =>
    rw [A8]
    cases z2 with
    |false=>rw [A7];simp
    |true =>
     rw [A8,A3]
     by_cases q:(l.foldl (lmS n rem[j].1) (0,true)).1<z1
     ·rw [if_pos q];simp [q]
     ·rw [if_neg q];simp [q]
theorem zwa (n:Nat)(hn:10000000<n)(l:List Ed)(h:∀ x∈l,LimR x)(rem:Mp)(z:Int×Bool)(hz:0<=z.1/\z.1<=mxT):(0<=(rem.foldl (agS n l) z).1/\(rem.foldl (agS n l) z).1<=mxT)/\((rem.foldl (agS n l) z).2=true->z.2=true\/∃ s,∀ x∈l,(limP n x s).2=true):=by
 induction rem generalizing z with
 |nil=>exact ⟨hz,aK⟩
 |cons p r ih =>
  have hm:=zw1 n hn p.1 l h (0,true) ⟨by decide,by decide⟩
  rw [aU]
  unfold agS
  split
  ·rename_i q
   obtain ⟨i1,i2⟩:=ih ((E2 n l p.1).1,true) hm.1
   exact ⟨i1,fun _=>aJ ⟨p.1,(hm.2 q.1).2⟩⟩
  ·exact ih z hz
theorem y11 (n:Nat)(hn:10000000<n)(l:List Ed)(hl:l.length<=1100000)(h:∀ x∈l,LimR x)(M:Mp)(hM:M.length<n):∃ r,Ug n l M=some r/\(0<=r.1/\r.1<=mxT)/\(r.2=true->∃ s,∀ x∈l,(limP n x s).2=true):=by
 refine ⟨_,zfh n hn l hl h n M (0,false) hM,?_⟩
 obtain ⟨q1,q2⟩:=zwa n hn l h M (0,false) ⟨by decide,by decide⟩
 exact ⟨q1,fun q=>(q2 q).resolve_left (by simp)⟩
def Bdd (n:Nat)(a:Aut)(t:Int):Prop:=∃ s,∀ x∈a.fEdges,x.fFrom=t->(limP n x s).2=true
structure AgOk (n:Nat) (a:Aut) (p:B8) (k:Nat) (ag:List Int) (bd:List Bool):Prop where
 l1:ag.length=a.fStates.length
 l2:bd.length=a.fStates.length
 rng:∀ v∈ag,0<=v/\v<=mxT
 bdd:∀ i:Nat,i<k->has p.finner (i:Int)->bd[i]? = some true->Bdd n a (i:Int)
theorem zbw (n:Nat)(hn:10000000<n)(a:Aut)(h:AutR a)(hw:WfA a)(hc:C1 n a=some 0)(p:B8)(hp:PtOk a p)(out:List Mp)(ho:Bt a.fStates.length out)(hol:∀ M∈out,M.length<n):∀ (m k:Nat) (ag:List Int) (bd:List Bool),k<=a.fStates.length->a.fStates.length<m+k->AgOk n a p k ag bd->∃ ag' bd',I4 n a p out (fun y z=>some (y,z,0)) m ((k:Int),ag,bd)=some (ag',bd',0)/\AgOk n a p a.fStates.length ag' bd'
 |0,k,ag,bd,h1,h2,h3=>by omega
 |m+1,k,ag,bd,h1,h2,h3=>by
  unfold I4
  simp only [aA,Aa]
  rw [A3]
  have hst:=h.st
  have l1:=h3.l1
  have l2:=h3.l2
  by_cases hk:k<a.fStates.length
  ·rw [if_pos (by omega),Ej (by omega),Bv (by omega),Ft,Ae k (by omega)]
   cases hq:(mlk p.finner (k:Int)).getD false with
   |false =>
    rw [A7]
    refine zbw n hn a h hw hc p hp out ho hol m (k+1) ag _ (by omega) (by omega) ⟨l1,by rw [aR];exact l2,h3.rng,fun i hi q1 q2=>?_⟩
    by_cases e:i=k
    ·subst e;rw [(hp.i.get _).2 q1] at hq;cases hq
    ·rw [aY (by omega)] at q2;exact h3.bdd i (by omega) q1 q2
   |true =>
    obtain ⟨R,r1,r2,r3⟩:=zrc n hn a hw hc k hk
    have ho':k<out.length:=by rw [ho.len];exact hk
    have hR:∀ x∈R,LimR x:=fun x hx=>by
     have hx':=((r3 x).1 hx).1
     have:=h.lo x hx'
     exact ⟨this.1,this.2.2.2,h.sp x hx'⟩
    obtain ⟨r,e1,e2,e3⟩:=y11 n hn R r2 hR out[k] (hol _ (aC ho'))
    rw [A8,r1,A0,Ad ho',e1,A0,Ej (by omega),Bv (by omega),Ej (by rw [aR];omega),Bv (by rw [aR];omega)]
    refine zbw n hn a h hw hc p hp out ho hol m (k+1) _ _ (by omega) (by omega) ⟨by rw [aR];exact l1,by rw [aR,aR];exact l2,fun v hv=>(mem_or_eq_of_mem_set hv).elim (h3.rng v) (fun e=>e▸e2),fun i hi q1 q2=>?_⟩
    by_cases e:i=k
    ·subst e
     rw [getElem?_set_self (by rw [aR];omega)] at q2
     injection q2 with q2
     obtain ⟨s,hs⟩:=e3 q2
     exact ⟨s,fun x hx hf=>hs x ((r3 x).2 ⟨hx,hf⟩)⟩
    ·rw [aY (by omega),aY (by omega)] at q2;exact h3.bdd i (by omega) q1 q2
  ·rw [if_neg (by omega)]
   have e:k=a.fStates.length:=by omega
   subst e
   exact ⟨ag,bd,rfl,h3⟩
def lsS (rate:Int)(ag:List Int)(z:Int)(p:Int×Bool):Int:=max z (IntKind.wrap .i64 (rate*IntKind.wrap .i64 (ag.getD p.1.toNat 0+1)))
theorem zo1 (rate:Int)(ag:List Int)(z:Int)(x y:Int×Bool):lsS rate ag (lsS rate ag z x) y=lsS rate ag (lsS rate ag z y) x:=by
 unfold lsS
 omega
theorem z9n (n:Nat)(rate:Int)(ag:List Int)(bd:List Bool)(N:Nat)(l1:ag.length=N)(l2:bd.length=N):∀ (m:Nat) (rem:Mp) (z:Int),rem.length<m->(∀ t,has rem t->0<=t/\t.toNat<N)->R5 n rate (ag,bd,0) (fun y=>some (y,true)) m (z,rem)=some (if ∀ p∈rem,bd[p.1.toNat]? = some true then (rem.foldl (lsS rate ag) z,true) else (0,false))
 |0,rem,z,h1,h2=>by omega
 |m+1,rem,z,h1,h2=>by
  unfold R5
  simp only [Aa]
  by_cases e:rem=[]
  ·subst e
   rw [Yh]
   simp
  ·have hne:∀ (x y:Option (Int×Bool)),nxt rem x y=y:=fun x y=>by
    cases rem with
    |nil=>exact absurd rfl e
    |cons p r=>exact Y9 p r x y
   rw [hne]
   refine Y6 e fun j hj=>?_
   have hp:(rem[j]::rem.eraseIdx j).Perm rem:=Nr hj
   have hc:=Perm.foldl_eq' (f:=lsS rate ag) hp (fun x _ y _ z=>zo1 rate ag z x y) z
   have ht:=h2 rem[j].1 ((V2 hp _).1 ((Gu _ _ _).2 (aK rfl)))
   have hb:rem[j].1.toNat<bd.length:=by omega
   have ha:rem[j].1.toNat<ag.length:=by omega
   have hall:(∀ p∈rem,bd[p.1.toNat]? = some true) ↔ bd[rem[j].1.toNat]=true/\∀ p∈rem.eraseIdx j,bd[p.1.toNat]? = some true:=by
    constructor
    ·intro q
     refine ⟨?_,fun p hp'=>q p (hp.mem_iff.1 (aT _ hp'))⟩
     have:=q rem[j] (aC hj)
     rw [aG hb] at this
     injection this
    ·rintro ⟨q1,q2⟩ p hp'
     rcases aM.1 (hp.mem_iff.2 hp') with e|e
     ·rw [e,aG hb,q1]
     ·exact q2 p e
   rw [Cs ht.1 hb,Ax]
   cases hq:bd[rem[j].1.toNat] with
   |false =>
    rw [A7,if_neg (fun q=>by have:=(hall.1 q).1;rw [hq] at this;cases this)]
   |true =>
    rw [A8,Cs ht.1 ha]
    have hlen:(rem.eraseIdx j).length<m:=by rw [aZ hj];omega
    have i1:=z9n n rate ag bd N l1 l2 m (rem.eraseIdx j) (lsS rate ag z rem[j]) hlen (fun t q=>h2 t ((V2 hp _).1 ((Gu _ _ _).2 (aJ q))))
    unfold lsS at i1 hc ⊢
    rw [aU] at hc
    rw [bA,aG ha,Option.getD_some] at i1 hc
    rw [i1,<-hc]
    refine congrArg some ?_
    by_cases q:∀ p∈rem.eraseIdx j,bd[p.1.toNat]? = some true
    ·rw [if_pos q,if_pos (hall.2 ⟨hq,q⟩)]
    ·rw [if_neg q,if_neg (fun q'=>q (hall.1 q').2)]
theorem zzu (rate:Int)(hr:1<=rate/\rate<=4096)(ag:List Int)(hv:∀ v∈ag,0<=v/\v<=mxT)(rem:Mp)(z:Int)(hz:0<=z/\z<=4611686018427387904):0<=rem.foldl (lsS rate ag) z/\rem.foldl (lsS rate ag) z<=4611686018427387904:=by
 induction rem generalizing z with
 |nil=>exact hz
 |cons p r ih =>
  rw [aU]
  refine ih _ ?_
  unfold lsS
  have hg:0<=ag.getD p.1.toNat 0/\ag.getD p.1.toNat 0<=mxT:=by
   rw [bA]
   cases e:ag[p.1.toNat]? with
   |none=>exact ⟨by decide,by decide⟩
   |some v=>exact hv v (mem_of_getElem? e)
  generalize ag.getD p.1.toNat 0=g at hg ⊢
  have hm:mxT=1099511627776:=rfl
  rw [Cd (g+1) (by omega)]
  have h1:rate*(g+1)<=4096*1099511627777:=Int.mul_le_mul hr.2 (by omega) (by omega) (by omega)
  have h0:0<=rate*(g+1):=Int.mul_nonneg (by omega) (by omega)
  rw [Cd _ (by omega)]
  omega
theorem zx2 (n:Nat)(hn:30000000<n)(a:Aut)(h:AutR a)(hw:WfA a)(hc:C1 n a=some 0)(rate:Int)(hr:1<=rate/\rate<=4096):∃ b ok p,Gq n a rate=some (b,ok)/\(0<=b/\b<=4611686018427387904)/\PtOk a p/\(ok=true->∀ t,has p.finner t->Bdd n a t):=by
 have hst:=h.st
 obtain ⟨p,p1,p2⟩:=zqu n hn a h.toEdR hc
 obtain ⟨out,o1,o2,o3⟩:=zrb n (by omega) a h p p2
 have hmk:∀ k:Nat,k<=a.fStates.length->True:=fun _ _=>trivial
 obtain ⟨ag,bd,e1,e2⟩:=zbw n (by omega) a h hw hc p p2 out o2 o3 n 0 (replicate a.fStates.length 0) (replicate a.fStates.length false) (by omega) (by omega) ⟨by simp,by simp,fun v hv=>by rw [eq_of_mem_replicate hv];exact ⟨by decide,by decide⟩,fun i hi=>by omega⟩
 simp only [aB] at e1
 unfold Gq Nl
 rw [hc,A0]
 simp only [Ax,A3,if_true,aA]
 rw [p1,A0,o1,A0,Cg (by omega) (by decide),Cg (by omega) (by decide),e1,A0,A0]
 have hil:p.finner.length<n:=by
  have hsub:(p.finner.map (·.1)).length<=((range a.fStates.length).map (fun (i:Nat)=>(i:Int))).length:=by
   refine Ko p2.i.nd (fun t ht'=>?_)
   have:=p2.ir t ht'
   exact bF.2 ⟨t.toNat,mem_range.2 this.2,by omega⟩
  simp only [aA,length_range] at hsub
  omega
 rw [z9n n rate ag bd a.fStates.length e2.l1 e2.l2 n p.finner 0 hil p2.ir]
 by_cases q:∀ p'∈p.finner,bd[p'.1.toNat]? = some true
 ·rw [if_pos q]
  refine ⟨_,_,p,rfl,zzu rate hr ag e2.rng p.finner 0 ⟨by decide,by decide⟩,p2,fun _ t ht=>?_⟩
  obtain ⟨t0,t1⟩:=p2.ir t ht
  obtain ⟨p',hp',rfl⟩:=bF.1 ht
  have:=e2.bdd p'.1.toNat t1 (by rw [bC t0];exact ht) (q p' hp')
  rwa [bC t0] at this
 ·rw [if_neg q]
  exact ⟨0,false,p,rfl,⟨by decide,by decide⟩,p2,fun h=>by cases h⟩
abbrev Scn:=B0
theorem zr9 (n:Nat)(hn:10000000<n)(e:Exn)(hw:WfE e):∃ r,Ke n e=some r:=by
 obtain ⟨vs,v1,v2,_⟩:=zbj hw n hn
 obtain ⟨z,hz,ht⟩:=hw
 obtain ⟨r,_,r2⟩:=zlu [] [] (fun v=>by unfold evs;split<;>simp) (-1) ⟨0,0,0,0,[]⟩ z e (fun _ _=>rfl) ht hz n hn
 unfold Ke
 simp only [Am,Aa,K3]
 rw [v1,A0,r2,A0,A3]
 split
 ·exact ⟨_,rfl⟩
 ·exact ⟨_,rfl⟩
theorem zr4 (n:Nat)(hn:10000000<n)(g:B7)(x:Ed)(h:x.fInside.length<=1100000):T4 n g x=some (decide (g.fType=x.fType) && !(x.fInside.any fun y=>decide (g.fScope=y))):=by
 unfold T4
 simp only [Am,Aa,Lg,A3,Ey n g.fScope x.fInside (by omega) (by omega),A0]
 by_cases q:g.fType=x.fType<;>simp [q]
theorem zii (n:Nat)(hn:10000000<n)(x:Ed)(h:x.fInside.length<=1100000)(l:List B7)(hl:l.length<=1000000000):∀ (m k:Nat),k<=l.length->l.length<m+k->∃ r,Iz n x l (some (-1)) m (k:Int)=some r
 |0,k,h1,h2=>by omega
 |m+1,k,h1,h2=>by
  unfold Iz
  simp only [aA]
  rw [A3]
  by_cases hk:k<l.length
  ·rw [if_pos (by omega),Ad hk,zr4 n hn _ x h,A0,Ae k (by omega),Au]
   split
   ·exact ⟨_,rfl⟩
   ·exact zii n hn x h l hl m (k+1) (by omega) (by omega)
  ·rw [if_neg (by omega)]
   exact ⟨_,rfl⟩
theorem zik (n:Nat)(hn:10000000<n)(x:Ed)(sc:Scn)(ho:x.fOpens.length<=1100000)(hl:x.fLimits.length<=1100000)(K:Option Bool)(r0:Bool)(hK:K=some r0):∀ (m k:Nat),k<=x.fLimits.length->x.fLimits.length<m+k->∃ r,Jk n x sc K m (k:Int)=some r/\(r=true->∀ l∈x.fLimits.drop k,l.fScope∈x.fOpens)
 |0,k,h1,h2=>by omega
 |m+1,k,h1,h2=>by
  unfold Jk
  simp only [aA]
  rw [A3]
  by_cases hk:k<x.fLimits.length
  ·rw [if_pos (by omega),Ad hk,Ey n _ x.fOpens (by omega) (by omega),A0,Ae k (by omega),Ax,Au,aE hk]
   split
   ·rename_i q
    obtain ⟨r,r1,r2⟩:=zik n hn x sc ho hl K r0 hK m (k+1) (by omega) (by omega)
    refine ⟨r,r1,fun hr l hl'=>(aM.1 hl').elim (fun e=>?_) (r2 hr l)⟩
    obtain ⟨y,y1,y2⟩:=any_eq_true.1 q
    rw [e,of_decide_eq_true y2]
    exact y1
   ·exact ⟨false,rfl,fun h=>by cases h⟩
  ·rw [if_neg (by omega),aD (by omega),hK]
   exact ⟨r0,rfl,fun _=>by simp⟩
theorem zil (n:Nat)(hn:10000000<n)(x:Ed)(hx:WfX x)(sc:Scn)(K:Option Bool)(P:Prop)(r0:Bool)(hK:K=some r0)(hP:r0=true->P):∀ (m k:Nat),k<=x.fChecks.length->x.fChecks.length<m+k->∃ r,Jl n x sc K m (k:Int)=some r/\(r=true->P)
 |0,k,h1,h2=>by omega
 |m+1,k,h1,h2=>by
  obtain ⟨ys,hy,hw⟩:=hx.checks
  have hlc:=hx.lc
  unfold Jl
  simp only [aA]
  rw [A3]
  by_cases hk:k<x.fChecks.length
  ·have hk':k<ys.length:=by rw [hy,aA] at hk;exact hk
   obtain ⟨c,c1⟩:=zr9 n hn ys[k] (hw _ (aC hk'))
   have e:∀ K:Exn->Option Bool,idxD Bp x.fChecks (k:Int) K=K ys[k]:=fun K=>by rw [hy];exact Ys hk' K
   rw [if_pos (by omega),e,c1,A0,Ae k (by omega),Ax,Au]
   split
   ·exact zil n hn x hx sc K P r0 hK hP m (k+1) (by omega) (by omega)
   ·exact ⟨false,rfl,fun h=>by cases h⟩
  ·rw [if_neg (by omega),hK]
   exact ⟨r0,rfl,hP⟩
theorem zzk (n:Nat)(hn:10000000<n)(sc:Scn)(x:Ed)(hx:WfX x)(hf:0<=x.fFrom/\x.fFrom.toNat<sc.fa.fStates.length)(hg:∀ s∈sc.fa.fStates,s.fGuards.length<=1100000):∃ r,Gk n sc x=some r/\(r=true->x.fType<(sc.ftypes.length:Int)/\∀ l∈x.fLimits,l.fScope∈x.fOpens):=by
 obtain ⟨c,c1⟩:=zr9 n hn x.fCond hx.cond
 have hlo:=hx.lo
 have hli:=hx.li
 have hll:=hx.ll
 have hlc:=hx.lc
 obtain ⟨i,i1⟩:=zii n hn x (by omega) sc.fa.fStates[x.fFrom.toNat].fGuards (by have:=hg _ (aC hf.2);omega) n 0 (by omega) (by have:=hg _ (aC hf.2);omega)
 simp only [aB] at i1
 have key:∀ b,∃ r,Gg n x sc b=some r/\(r=true->b=false/\∀ l∈x.fLimits,l.fScope∈x.fOpens):=fun b=>by
  unfold Gg
  cases b with
  |true=>rw [A8];exact ⟨false,rfl,fun h=>by cases h⟩
  |false =>
   rw [A7]
   have hK:(idx sc.fa.fStates x.fFrom fun x83=>bnd (Ow n x83.fGuards x) fun x84=>some !(x84))=some (!(decide (0<=i))):=by
    rw [Cs hf.1 hf.2]
    unfold Ow Su
    rw [i1,A0,A0]
   obtain ⟨r2,q1,q2⟩:=zik n hn x sc (by omega) (by omega) _ _ hK n 0 (by omega) (by omega)
   simp only [aB,aQ] at q1 q2
   obtain ⟨r1,t1,t2⟩:=zil n hn x hx sc _ (∀ l∈x.fLimits,l.fScope∈x.fOpens) r2 q1 q2 n 0 (by omega) (by omega)
   simp only [aB] at t1
   exact ⟨r1,t1,fun h=>⟨rfl,t2 h⟩⟩
 unfold Gk
 simp only [Am,Aa,aA]
 rw [A3]
 by_cases q:(sc.ftypes.length:Int)<=x.fType
 ·rw [if_pos q]
  obtain ⟨r,r1,r2⟩:=key true
  exact ⟨r,r1,fun h=>absurd (r2 h).1 (by simp)⟩
 ·rw [if_neg q,c1,A0]
  obtain ⟨r,r1,r2⟩:=key (!c)
  exact ⟨r,r1,fun h=>⟨by omega,(r2 h).2⟩⟩
def frP (n:Nat)(sc:Scn)(x:Ed):Bool:=(Gk n sc x).getD false
structure ScR (q:Scn):Prop extends AutR q.fa where
 w:WfA q.fa
theorem ScR.free {sc:Scn}(h:ScR sc)(n:Nat)(hn:10000000<n)(hx:x∈sc.fa.fEdges):Gk n sc x=some (frP n sc x)/\(frP n sc x=true->x.fType<(sc.ftypes.length:Int)/\∀ l∈x.fLimits,l.fScope∈x.fOpens):=by
 have he:=h.ed x hx
 obtain ⟨r,r1,r2⟩:=zzk n hn sc x (h.w.ed x hx) (by omega) (fun s hs=>(h.w.st s hs).1)
 have:frP n sc x=r:=by unfold frP;rw [r1];rfl
 rw [this]
 exact ⟨r1,r2⟩
def gdk (a:Aut)(s k:Int):Bool:=match a.fStates[s.toNat]? with|some q=>q.fGuards.any (fun g=>decide (g.fType=k))|none=>false
theorem zih (n:Nat)(kd:Int)(l:List B7)(hl:l.length<=1000000000):∀ (m k:Nat),k<=l.length->l.length<m+k->Ou n kd l (some (-1)) m (k:Int)=some (H4 (fun y=>decide (y.fType=kd)) k (l.drop k))
 |0,k,h1,h2=>by omega
 |m+1,k,h1,h2=>by
  unfold Ou Vp
  simp only [aA,A3]
  by_cases h:k<l.length
  ·rw [if_pos (by omega),Ad h,Di l k h,Uv,A0,Ae k (by omega),zih n kd l hl m (k+1) (by omega) (by omega)]
   rw [A3]
   grind
  ·rw [if_neg (by omega),aD (by omega)]
   rfl
theorem zij (n:Nat)(hn:10000000<n)(sc:Scn)(h:ScR sc)(s k:Int)(hs:0<=s/\s.toNat<sc.fa.fStates.length):M9 n sc s k=some (gdk sc.fa s k):=by
 have hg:=(h.w.st _ (aC hs.2)).1
 have hx:=zih n k sc.fa.fStates[s.toNat].fGuards (by omega) n 0 (by omega) (by omega)
 simp only [aB,aQ,Rn] at hx
 unfold M9 Vl Vx gdk
 rw [Cs hs.1 hs.2,hx,A0,A0,Ya,aG hs.2]
theorem z8e (n:Nat)(hn:10000000<n)(sc:Scn)(h:ScR sc):∀ (m k:Nat) (acc:List Ed),k<=sc.fa.fEdges.length->sc.fa.fEdges.length<m+k->acc.length<=k->Jb n sc (fun y=>some y) m ((k:Int),acc)=some (acc++(sc.fa.fEdges.drop k).filter (frP n sc))
 |0,k,acc,h1,h2,h3=>by omega
 |m+1,k,acc,h1,h2,h3=>by
  have hle:=h.le
  unfold Jb W8
  simp only [aA,Aa]
  rw [A3]
  by_cases hk:k<sc.fa.fEdges.length
  ·rw [if_pos (by omega),Ad hk,(h.free n hn (aC hk)).1,A0,Ae k (by omega),aE hk,filter_cons,Au]
   split
   ·rename_i q
    rw [A0,A8,Bs (by simp;omega) (by decide),z8e n hn sc h m (k+1) _ (by omega) (by omega) (by simp;omega)]
    simp
   ·exact z8e n hn sc h m (k+1) _ (by omega) (by omega) (by omega)
  ·rw [if_neg (by omega),aD (by omega)]
   simp
theorem znt (n:Nat)(hn:10000000<n)(sc:Scn)(h:ScR sc):T8 n sc=some (sc.fa.fEdges.filter (frP n sc)):=by
 have hle:=h.le
 have:=z8e n hn sc h n 0 [] (by omega) (by omega) (by simp)
 simpa [T8] using this
def ptP (a:Aut)(tt:Int)(x:Ed):Bool:=decide (0<=x.fTo) && (!gdk a 0 x.fType && !gdk a tt x.fType)
theorem zwz (n:Nat)(hn:10000000<n)(sc:Scn)(h:ScR sc)(tt:Int)(ht:0<=tt/\tt.toNat<sc.fa.fStates.length)(x:Ed):Q5 n x sc tt=some (ptP sc.fa tt x,sc,tt):=by
 have hst:=h.st
 unfold Q5 ptP
 rw [A3]
 by_cases q:0<=x.fTo
 ·rw [if_pos q,zij n hn sc h 0 _ (by omega),A0,Ax]
  cases gdk sc.fa 0 x.fType with
  |true=>rw [A8];simp
  |false=>rw [A7,zij n hn sc h tt _ ht,A0];simp [q]
 ·rw [if_neg q];simp [q]
theorem z8f (n:Nat)(hn:10000000<n)(sc:Scn)(h:ScR sc)(tt:Int)(ht:0<=tt/\tt.toNat<sc.fa.fStates.length)(K:List Ah->Int->Int->List Cb->List Ed->Int->List Ed->Option (List Ed×Scn×Int)):∀ (m k:Nat) (acc:List Ed),k<=sc.fa.fEdges.length->sc.fa.fEdges.length<m+k->acc.length<=k->Iq n sc K m ((k:Int),sc.ftypes,sc.fa.fVars,sc.fa.fScopes,sc.fa.fStates,sc.fa.fEdges,tt,acc)=K sc.ftypes sc.fa.fVars sc.fa.fScopes sc.fa.fStates sc.fa.fEdges tt (acc++(sc.fa.fEdges.drop k).filter (fun x=>frP n sc x && ptP sc.fa tt x))
 |0,k,acc,h1,h2,h3=>by omega
 |m+1,k,acc,h1,h2,h3=>by
  have hle:=h.le
  unfold Iq
  simp only [aA]
  rw [A3]
  by_cases hk:k<sc.fa.fEdges.length
  ·rw [if_pos (by omega),Ad hk,(h.free n hn (aC hk)).1,A0,Ae k (by omega),aE hk,filter_cons]
   have ih1:=z8f n hn sc h tt ht K m (k+1) acc (by omega) (by omega) (by omega)
   have ih2:=z8f n hn sc h tt ht K m (k+1) (acc++[sc.fa.fEdges[k]]) (by omega) (by omega) (by simp;omega)
   cases q:frP n sc sc.fa.fEdges[k] with
   |false=>rw [A7,Bool.false_and,ih1];rfl
   |true =>
    have hp:Q5 n sc.fa.fEdges[k] (⟨sc.ftypes,⟨sc.fa.fVars,sc.fa.fScopes,sc.fa.fStates,sc.fa.fEdges⟩⟩:B0) tt=some (ptP sc.fa tt sc.fa.fEdges[k],sc,tt):=zwz n hn sc h tt ht _
    rw [A8,hp,Cr,Bool.true_and]
    simp only
    cases ptP sc.fa tt sc.fa.fEdges[k] with
    |false=>rw [A7,ih1];rfl
    |true=>rw [A8,Bs (by simp;omega) (by decide),ih2];simp
  ·rw [if_neg (by omega),aD (by omega)]
   simp
theorem zud (n:Nat)(hn:10000000<n)(sc:Scn)(h:ScR sc)(tt:Int)(ht:0<=tt/\tt.toNat<sc.fa.fStates.length):Sh n sc sc tt=some (sc.fa.fEdges.filter (fun x=>frP n sc x && ptP sc.fa tt x),sc,tt):=by
 have hle:=h.le
 unfold Sh
 have:=z8f n hn sc h tt ht (fun k1_0_0y0 k1_0_0y1 k1_0_0y2 k1_0_0y3 k1_0_0y4 k1_0_0y5 k1_0_0y6=>frz 7027 <| reg <| some (k1_0_0y6,⟨k1_0_0y0,⟨k1_0_0y1,k1_0_0y2,k1_0_0y3,k1_0_0y4⟩⟩,k1_0_0y5)) n 0 [] (by omega) (by omega) (by simp)
 simp only [aB,aQ,nil_append] at this
 rw [this,O9,Aa]
inductive OpP (E:List Ed):Int->Prop
 |last (x:Ed) (hx:x∈E) (h:x.fTo<0):OpP E x.fFrom
 |step (x:Ed) (hx:x∈E) (h:OpP E x.fTo):OpP E x.fFrom
theorem MK.len_le {l:Mp}(h:MK l)(N:Nat)(hr:∀ t,has l t->-1<=t/\t<(N:Int)):l.length<=N+1:=by
 have hsub:(l.map (·.1)).length<=((range (N+1)).map (fun (i:Nat)=>(i:Int)-1)).length:=by
  refine Ko h.nd (fun t ht=>?_)
  have:=hr t ht
  exact bF.2 ⟨(t+1).toNat,mem_range.2 (by omega),by omega⟩
 simpa using hsub
structure OpOk (E:List Ed) (N:Nat) (M:Mp):Prop where
 mks:MK M
 rg:∀ t,has M t->-1<=t/\t<(N:Int)
 op:∀ t,has M t->t=-1\/OpP E t
theorem zic (n:Nat)(E:List Ed)(hE:E.length<=1100000)(N:Nat)(hN:∀ x∈E,0<=x.fFrom/\x.fFrom<(N:Int))(V:List Ed×Bool×Mp)(hV:V.1=E)(K:Bool->Mp->Option Mp):∀ (m k:Nat) (b:Bool) (M:Mp),k<=E.length->E.length<m+k->OpOk E N M->∃ b' M',Fh n V K m (b,(k:Int),M)=K b' M'/\OpOk E N M'/\M.length<=M'.length/\(b'=true->b=true\/M.length<M'.length)
 |0,k,b,M,h1,h2,h3=>by omega
 |m+1,k,b,M,h1,h2,h3=>by
  unfold Fh
  simp only [aA,Aa,hV]
  rw [A3]
  by_cases hk:k<E.length
  ·have ih:=fun b M hM=>zic n E hE N hN V hV K m (k+1) b M (by omega) (by omega) hM
   rw [if_pos (by omega),Ad hk,Ij,Ae k (by omega)]
   cases q:(mlk M E[k].fTo).getD false with
   |false=>rw [A7];exact ih b M h3
   |true =>
    rw [A8,Ij,Ax]
    cases q2:(mlk M E[k].fFrom).getD false with
    |true=>rw [A8];exact ih b M h3
    |false =>
     rw [A7,Dm]
     have hn2:¬has M E[k].fFrom:=fun q'=>by rw [(h3.mks.get _).2 q'] at q2;cases q2
     have ht:=(h3.mks.get _).1 q
     have hx:=aC hk
     obtain ⟨b',M',e1,e2,e3,e4⟩:=ih true (mput M E[k].fFrom true) ⟨h3.mks.put _,fun t q'=>((h3.mks.has_put _ _).1 q').elim (fun e=>by have:=hN _ hx;rw [e];omega) (h3.rg t),fun t q'=>((h3.mks.has_put _ _).1 q').elim (fun e=>by
      rw [e]
      refine aJ ?_
      rcases h3.op _ ht with e'|e'
      ·exact .last _ hx (by omega)
      ·exact .step _ hx e') (h3.op t)⟩
     have hl:=h3.mks.put_len E[k].fFrom
     rw [if_neg hn2] at hl
     exact ⟨b',M',e1,e2,by omega,fun _=>aJ (by omega)⟩
  ·rw [if_neg (by omega)]
   exact ⟨b,M,rfl,h3,aV _,aK⟩
theorem zid (n:Nat)(hn:10000000<n)(E:List Ed)(hE:E.length<=1100000)(N:Nat)(hN1:N<=1000000)(hN:∀ x∈E,0<=x.fFrom/\x.fFrom<(N:Int))(K:Mp->Option Mp):∀ (m:Nat) (b:Bool) (M:Mp),(N+3<m+M.length\/(b=false/\N+2<m+M.length))->OpOk E N M->∃ M',Gf n K m (E,b,M)=K M'/\OpOk E N M'
 |0,b,M,h1,h2=>by have:=h2.mks.len_le N h2.rg;omega
 |m+1,b,M,h1,h2=>by
  unfold Gf
  simp only
  cases b with
  |false=>rw [A7];exact ⟨M,rfl,h2⟩
  |true =>
   rw [A8]
   obtain ⟨b',M',e1,e2,e3,e4⟩:=zic n E hE N hN (E,true,M) rfl (fun k2_1_0y0 k2_1_0y1=>(Gf n K m) (E,k2_1_0y0,k2_1_0y1)) n 0 false M (by omega) (by omega) h2
   simp only [aB] at e1
   rw [e1]
   have h1':N+3<m+1+M.length:=by
    rcases h1 with h|h
    ·exact h
    ·exact absurd h.1 (by simp)
   refine zid n hn E hE N hN1 hN K m b' M' ?_ e2
   cases b' with
   |false=>exact aJ ⟨rfl,by omega⟩
   |true=>have:=(e4 rfl).resolve_left (by simp);exact aK (by omega)
theorem zrl {l:Mp}(h:MK l)(k:Int):MK (mdl l k)/\∀ v,has (mdl l k) v ↔ has l v/\v≠k:=by
 induction l with
 |nil=>exact ⟨MK.nil,fun v=>by simp [mdl,has]⟩
 |cons p r ih =>
  obtain ⟨a,b⟩:=p
  have hna:¬has r a:=(bN.1 h.nd).1
  unfold mdl
  by_cases e:k=a
  ·rw [if_pos e]
   refine ⟨h.tail,fun v=>?_⟩
   rw [Gu]
   constructor
   ·intro q;exact ⟨aJ q,fun e'=>hna (by rw [<-e,<-e'];exact q)⟩
   ·rintro ⟨q|q,q2⟩
    ·exact absurd (q.trans e.symm) q2
    ·exact q
  ·rw [if_neg e]
   obtain ⟨i1,i2⟩:=ih h.tail
   refine ⟨⟨bN.2 ⟨fun q=>hna ((i2 a).1 q).1,i1.nd⟩,fun q hq=>(aM.1 hq).elim (fun e=>e▸h.tr _ (by simp)) (i1.tr q)⟩,fun v=>?_⟩
   rw [Gu,Gu,i2]
   constructor
   ·rintro (q|⟨q,q2⟩)
    ·exact ⟨aK q,fun e'=>e (e'.symm.trans q)⟩
    ·exact ⟨aJ q,q2⟩
   ·rintro ⟨q|q,q2⟩
    ·exact aK q
    ·exact aJ ⟨q,q2⟩
def frE (n:Nat)(sc:Scn):List Ed:=sc.fa.fEdges.filter (frP n sc)
theorem zr0 (n:Nat)(hn:10000000<n)(sc:Scn)(h:ScR sc):∃ M,Er n sc=some M/\MK M/\∀ t,has M t->0<=t/\t.toNat<sc.fa.fStates.length/\OpP (frE n sc) t:=by
 have hle:=h.le
 have hst:=h.st
 have hl:(frE n sc).length<=sc.fa.fEdges.length:=bG _ _
 unfold Er
 rw [znt n hn sc h,A0,Dm]
 have e0:mput ([]:Mp) (-1) true=[((-1:Int),true)]:=rfl
 rw [e0]
 obtain ⟨M,e1,e2⟩:=zid n hn (frE n sc) (by omega) sc.fa.fStates.length (by omega) (fun x hx=>by
  have:=h.ed x (aW.1 hx).1
  omega) (fun k1_0_0y=>mde k1_0_0y (-1) fun x44=>some x44) n true [((-1:Int),true)] (aK (by omega)) ⟨⟨by simp,by simp⟩,fun t ht=>by simp [has] at ht;omega,fun t ht=>by simp [has] at ht;exact aK ht⟩
 unfold frE at e1
 rw [e1]
 obtain ⟨d1,d2⟩:=zrl e2.mks (-1)
 refine ⟨mdl M (-1),by unfold mde;rfl,d1,fun t ht=>?_⟩
 obtain ⟨q1,q2⟩:=(d2 t).1 ht
 have:=e2.rg t q1
 exact ⟨by omega,by omega,(e2.op t q1).resolve_left q2⟩
inductive Pth (E:List Ed) (tt:Int):Int->List Int->Prop
 |one (x:Ed) (hx:x∈E) (h:x.fTo=tt):Pth E tt x.fFrom [x.fType]
 |cons (x:Ed) (hx:x∈E) {w:List Int} (h:Pth E tt x.fTo w):Pth E tt x.fFrom (x.fType::w)
def Cls (E:List Ed)(tt:Int)(M M':Mp):Prop:=∀ t,has M' t->has M t\/∀ x∈E,x.fFrom=t->has M' x.fTo/\x.fTo≠tt
structure SnOk (N:Nat) (tt:Int) (M:Mp):Prop where
 mks:MK M
 rg:∀ t,has M t->-1<=t/\t<(N:Int)
 no:¬has M tt
structure PRes (E:List Ed) (tt:Int) (N f:Nat) (s:Int) (M:Mp) (w:List Int) (M':Mp):Prop where
 ok:SnOk N tt M'
 mono:∀ t,has M t->has M' t
 ml:M.length<=M'.length
 len:w.length<=f
 yes:w≠[]->Pth E tt s w
variable {α β:Type}
theorem znw (a:α)(l:List α)(x:Option β):nlz (a::l) x=x:=by unfold nlz;rfl
theorem zt0 (l:List α)(k:List α->Option β):bld l k=k l:=rfl
theorem ze6 (n:Nat)(rF:Int->List Ed->Mp->Int->Option (List Int×List Ed×Mp×Int))(E:List Ed)(hE:E.length<=1100000)(tt:Int)(N:Nat)(hN:∀ x∈E,0<=x.fTo/\x.fTo<(N:Int))(f:Nat)(hf:f<=1000000)(s:Int)
  (rec:∀ t M,SnOk N tt M->N+1<f+M.length->∃ w M',rF t E M tt=some (w,E,M',tt)/\PRes E tt N f t M w M'/\(w=[]->Cls E tt M M'/\∀ x∈E,x.fFrom=t->has M' x.fTo/\x.fTo≠tt)) :
  ∀ (m k:Nat) (M:Mp),k<=E.length->E.length<m+k->SnOk N tt M->N+1<f+1+M.length->∃ w M',J2 n rF E s (fun y0 y1 y2=>some ([],y0,y2,y1)) m ((k:Int),E,tt,M)=some (w,E,M',tt)/\PRes E tt N (f+1) s M w M'/\(w=[]->Cls E tt M M'/\∀ x∈E.drop k,x.fFrom=s->has M' x.fTo/\x.fTo≠tt)
 |0,k,M,h1,h2,h3,h4=>by omega
 |m+1,k,M,h1,h2,h3,h4=>by
  unfold J2
  simp only [aA]
  rw [A3]
  by_cases hk:k<E.length
  ·have ih:=fun M hM hc=>ze6 n rF E hE tt N hN f hf s rec m (k+1) M (by omega) (by omega) hM hc
   have hx:=aC hk
   rw [if_pos (by omega),Ad hk,Ae k (by omega),Ax,A3,aE hk]
   by_cases q:E[k].fFrom=s
   ·rw [if_pos q,Ij]
    cases q2:(mlk M E[k].fTo).getD false with
    |true =>
     rw [A8]
     have hm:=(h3.mks.get _).1 q2
     obtain ⟨w,M',e1,e2,e3⟩:=ih M h3 h4
     refine ⟨w,M',e1,e2,fun hw=>⟨(e3 hw).1,fun x hx' hf'=>(aM.1 hx').elim (fun e=>?_) (fun hx'=>(e3 hw).2 x hx' hf')⟩⟩
     rw [e]
     exact ⟨e2.mono _ hm,fun e'=>h3.no (e'▸hm)⟩
    |false =>
     rw [A7,A3]
     have hnm:¬has M E[k].fTo:=fun q'=>by rw [(h3.mks.get _).2 q'] at q2;cases q2
     by_cases q3:E[k].fTo=tt
     ·rw [if_pos q3,zt0,znw]
      refine ⟨[E[k].fType],M,rfl,⟨h3,fun _ h=>h,aV _,by simp,fun _=>?_⟩,fun h=>by cases h⟩
      rw [<-q]
      exact .one _ hx q3
     ·rw [if_neg q3,Dm]
      have hl:=h3.mks.put_len E[k].fTo
      rw [if_neg hnm] at hl
      have hp:=h3.mks.has_put E[k].fTo
      have hM1:SnOk N tt (mput M E[k].fTo true):=⟨h3.mks.put _,fun t q'=>((hp t).1 q').elim (fun e=>by have:=hN _ hx;rw [e];omega) (h3.rg t),fun q'=>((hp tt).1 q').elim (fun e=>q3 e.symm) h3.no⟩
      obtain ⟨w1,M2,r1,r2,r3⟩:=rec E[k].fTo _ hM1 (by omega)
      have hr2:=r2.ml
      rw [r1,Cr]
      simp only
      cases w1 with
      |cons a w1 =>
       have hlen:=r2.len
       simp only [bJ] at hlen
       rw [map_cons,List.isEmpty_cons,aO,A8,O8,Aa,zt0,Bs (by simp;omega) (by decide),bH,znw]
       refine ⟨_,M2,rfl,⟨r2.ok,fun t h=>r2.mono t ((hp t).2 (aJ h)),by omega,by simp only [bJ];omega,fun _=>?_⟩,fun h=>by cases h⟩
       rw [<-q]
       exact .cons _ hx (r2.yes (by simp))
      |nil =>
       rw [map_nil,List.isEmpty_nil,aS,A7]
       obtain ⟨c1,c2⟩:=r3 rfl
       obtain ⟨w,M',e1,e2,e3⟩:=ih M2 r2.ok (by omega)
       have hml:=e2.ml
       refine ⟨w,M',e1,⟨e2.ok,fun t h=>e2.mono t (r2.mono t ((hp t).2 (aJ h))),by omega,e2.len,e2.yes⟩,fun hw=>?_⟩
       obtain ⟨d1,d2⟩:=e3 hw
       refine ⟨fun t ht=>?_,fun x hx' hf'=>(aM.1 hx').elim (fun e=>?_) (fun hx'=>d2 x hx' hf')⟩
       ·rcases d1 t ht with d|d
        ·rcases c1 t d with c|c
         ·rcases (hp t).1 c with e|e
          ·refine aJ fun x hx' hf'=>?_
           have:=c2 x hx' (hf'.trans e)
           exact ⟨e2.mono _ this.1,this.2⟩
          ·exact aK e
         ·exact aJ fun x hx' hf'=>⟨e2.mono _ (c x hx' hf').1,(c x hx' hf').2⟩
        ·exact aJ d
       ·rw [e]
        exact ⟨e2.mono _ (r2.mono _ ((hp _).2 (aK rfl))),q3⟩
   ·rw [if_neg q]
    obtain ⟨w,M',e1,e2,e3⟩:=ih M h3 h4
    refine ⟨w,M',e1,e2,fun hw=>⟨(e3 hw).1,fun x hx' hf'=>(aM.1 hx').elim (fun e=>absurd (e▸hf') q) (fun hx'=>(e3 hw).2 x hx' hf')⟩⟩
  ·rw [if_neg (by omega),aD (by omega)]
   exact ⟨[],M,rfl,⟨h3,fun _ h=>h,aV _,by simp,fun h=>absurd rfl h⟩,fun _=>⟨fun t h=>aK h,by simp⟩⟩
theorem zqz (E:List Ed)(hE:E.length<=1100000)(tt:Int)(N:Nat)(hN:∀ x∈E,0<=x.fTo/\x.fTo<(N:Int)):∀ (f:Nat),f<=1000000->∀ (s:Int) (M:Mp),SnOk N tt M->N+1<f+M.length->∀ n,20000000+f<n->∃ w M',Mi n s E M tt=some (w,E,M',tt)/\PRes E tt N f s M w M'/\(w=[]->Cls E tt M M'/\∀ x∈E,x.fFrom=s->has M' x.fTo/\x.fTo≠tt)
 |0,_,s,M,h1,h2,n,hn=>by have:=h1.mks.len_le N h1.rg;omega
 |f+1,hf,s,M,h1,h2,n,hn=>by
  obtain ⟨n,rfl⟩:∃ n',n=n' + 1:=⟨n-1,by omega⟩
  simp only [Mi]
  have:=ze6 n (Mi n) E hE tt N hN f (by omega) s (fun t M hM hc=>zqz E hE tt N hN f (by omega) t M hM hc n (by omega)) n 0 M (by omega) (by omega) h1 (by omega)
  simpa only [aB,aQ] using this
def ptE (n:Nat)(sc:Scn)(tt:Int):List Ed:=sc.fa.fEdges.filter (fun x=>frP n sc x && ptP sc.fa tt x)
theorem zze (n:Nat)(hn:30000000<n)(sc:Scn)(h:ScR sc)(tt:Int)(ht:0<=tt/\tt.toNat<sc.fa.fStates.length):∃ w M,Qq n sc tt=some w/\w.length<=300/\(w≠[]->Pth (ptE n sc tt) tt 0 w)/\(w=[]->(∀ t,has M t->∀ x∈ptE n sc tt,x.fFrom=t->has M x.fTo/\x.fTo≠tt)/\∀ x∈ptE n sc tt,x.fFrom=0->has M x.fTo/\x.fTo≠tt):=by
 have hst:=h.st
 have hle:=h.le
 have hl:(ptE n sc tt).length<=sc.fa.fEdges.length:=bG _ _
 obtain ⟨w,M,e1,e2,e3⟩:=zqz (ptE n sc tt) (by omega) tt sc.fa.fStates.length (fun x hx=>by
  obtain ⟨h1,h2⟩:=aW.1 hx
  have:=h.ed x h1
  unfold ptP at h2
  simp only [aH,decide_eq_true_eq] at h2
  omega) 300 (by omega) 0 [] ⟨MK.nil,fun t ht=>absurd ht (Dl t),Dl tt⟩ (by simp;omega) n (by omega)
 unfold Qq
 unfold ptE at e1
 rw [zud n (by omega) sc h tt ht,Cr]
 simp only
 rw [e1,Cr]
 refine ⟨w,M,rfl,e2.len,e2.yes,fun hw=>⟨fun t ht=>((e3 hw).1 t ht).resolve_left (Dl t),(e3 hw).2⟩⟩
def atS (E:List Ed):(Int->Prop)->List Int->Int->Prop
 |P,[]=>P
 |P,k::r=>atS E (fun t=>∃ x∈E,0<=x.fTo/\x.fType=k/\P x.fFrom/\x.fTo=t) r
variable {E:List Ed}{P:Int->Prop}
theorem zom {Q:Int->Prop}(h:∀ t,P t->Q t)(w:List Int):∀ t,atS E P w t->atS E Q w t:=by
 induction w generalizing P Q with
 |nil=>exact h
 |cons k r ih=>exact ih (fun t ⟨x,h1,h2,h3,h4,h5⟩=>⟨x,h1,h2,h3,h _ h4,h5⟩)
theorem zmt {Q:Int->Prop}(h:∀ t,P t ↔ Q t)(w:List Int)(t:Int):atS E P w t ↔ atS E Q w t:=⟨zom (fun t=>(h t).1) w t,zom (fun t=>(h t).2) w t⟩
variable {n:Nat}
theorem zvo {sc:Scn}{tt s:Int}{w:List Int}(h:Pth (ptE n sc tt) tt s w)(P:Int->Prop)(hp:P s):atS (frE n sc) P w tt/\∀ k∈w,gdk sc.fa 0 k=false/\gdk sc.fa tt k=false:=by
 have hE:∀ x∈ptE n sc tt,x∈frE n sc/\0<=x.fTo/\gdk sc.fa 0 x.fType=false/\gdk sc.fa tt x.fType=false:=fun x hx=>by
  obtain ⟨h1,h2⟩:=aW.1 hx
  unfold ptP at h2
  simp only [aH,decide_eq_true_eq,bD] at h2
  exact ⟨aW.2 ⟨h1,h2.1⟩,h2.2.1,h2.2.2⟩
 induction h generalizing P with
 |one x hx e =>
  obtain ⟨h1,h2,h3⟩:=hE x hx
  exact ⟨⟨x,h1,h2,rfl,hp,e⟩,fun k hk=>by rw [aL] at hk;rw [hk];exact h3⟩
 |cons x hx _ ih =>
  obtain ⟨h1,h2,h3⟩:=hE x hx
  obtain ⟨i1,i2⟩:=ih (fun t=>∃ y∈frE n sc,0<=y.fTo/\y.fType=x.fType/\P y.fFrom/\y.fTo=t) ⟨x,h1,h2,rfl,hp,rfl⟩
  exact ⟨i1,fun k hk=>(aM.1 hk).elim (fun e=>e▸h3) (i2 k)⟩
theorem y1a {kinds:List Int}{S:Int->Prop}(hS:∀ x∈E,0<=x.fTo->x.fType∈kinds->(P x.fFrom\/S x.fFrom)->S x.fTo):∀ (w:List Int),(∀ k∈w,k∈kinds)->∀ (Q:Int->Prop),(∀ t,Q t->P t\/S t)->∀ t,atS E Q w t->(w=[]/\Q t)\/S t:=by
 intro w
 induction w with
 |nil=>exact fun _ Q _ t ht=>aK ⟨rfl,ht⟩
 |cons k r ih =>
  intro hw Q hQ t ht
  have:=ih (fun k' hk=>hw k' (aT _ hk)) (fun t=>∃ x∈E,0<=x.fTo/\x.fType=k/\Q x.fFrom/\x.fTo=t) (fun t ⟨x,h1,h2,h3,h4,h5⟩=>aJ (h5▸hS x h1 h2 (h3▸hw k (by simp)) (hQ _ h4))) t ht
  rcases this with ⟨_,x,h1,h2,h3,h4,h5⟩|h
  ·exact aJ (h5▸hS x h1 h2 (h3▸hw k (by simp)) (hQ _ h4))
  ·exact aJ h
structure AtOk (N:Nat) (M:Mp):Prop where
 mks:MK M
 rg:∀ t,has M t->0<=t/\t<(N:Int)
def GrP (n:Nat)(sc:Scn)(kinds:List Int):Prop:=kinds≠[]/\(∀ k∈kinds,gdk sc.fa 0 k=false)/\∃ M i,Er n sc=some M/\has M i/\atS (frE n sc) (fun t=>t=0) kinds i/\∀ k∈kinds,gdk sc.fa i k=false
def pfxE (types:List Ah)(i:Nat)(k:Int):Ev:=⟨0,(i:Int),k,(i:Int),(((types[k.toNat]?).map (·.fFields)).getD []).map fun f=>⟨f.fKind,0,ByteArray.empty⟩⟩
def pfxL (types:List Ah):Nat->List Int->List Ev
 |_,[]=>[]
 |i,k::r=>pfxE types i k::pfxL types (i+1) r
theorem znf (types:List Ah)(i:Nat)(w:List Int):(pfxL types i w).length=w.length:=by
 induction w generalizing i with
 |nil=>rfl
 |cons k r ih=>simp [pfxL,ih]
theorem zfc (types:List Ah)(i:Nat)(w:List Int)(j:Nat)(h:j<w.length):(pfxL types i w)[j]'(by rw [znf];exact h)=pfxE types (i+j) w[j]:=by
 induction w generalizing i j with
 |nil=>simp at h
 |cons k r ih =>
  cases j with
  |zero=>rfl
  |succ j =>
   have:=ih (i+1) j (by simpa using h)
   simp only [pfxL,getElem_cons_succ]
   rw [this]
   congr 1
   omega
theorem zbo (n:Nat)(w:List Int)(sc:Scn)(V:Int×List Ev)(kd:Int)(S:Ah)(hS:S.fFields.length<=1000000)(K:Int->List A6->Option (List Ev)):∀ (m k:Nat) (acc:List A6),k<=S.fFields.length->S.fFields.length<m+k->acc.length<=k->Pa n w sc V kd S K m ((k:Int),acc)=K kd (acc++(S.fFields.drop k).map fun f=>⟨f.fKind,0,ByteArray.empty⟩)
 |0,k,acc,h1,h2,h3=>by omega
 |m+1,k,acc,h1,h2,h3=>by
  unfold Pa
  simp only [aA]
  rw [A3]
  by_cases hk:k<S.fFields.length
  ·rw [if_pos (by omega),Ad hk,Bs (by simp;omega) (by decide),Ae k (by omega),aE hk,zbo n w sc V kd S hS K m (k+1) _ (by omega) (by omega) (by simp;omega),append_assoc]
   rfl
  ·rw [if_neg (by omega),aD (by omega)]
   simp
theorem zbp (n:Nat)(hn:10000000<n)(w:List Int)(hw:w.length<=1000000)(sc:Scn)(hr:∀ k∈w,0<=k/\k.toNat<sc.ftypes.length)(hS:∀ S∈sc.ftypes,S.fFields.length<=1000000):∀ (m k:Nat) (acc:List Ev),k<=w.length->w.length<m+k->acc.length<=k->Pb n w sc (fun y=>some y) m ((k:Int),acc)=some (acc++pfxL sc.ftypes k (w.drop k))
 |0,k,acc,h1,h2,h3=>by omega
 |m+1,k,acc,h1,h2,h3=>by
  unfold Pb
  simp only [aA]
  rw [A3]
  by_cases hk:k<w.length
  ·obtain ⟨r1,r2⟩:=hr _ (aC hk)
   have hl:=hS _ (aC r2)
   have h2:=fun K=>zbo n w sc ((k:Int),acc) w[k] sc.ftypes[w[k].toNat] hl K n 0 [] (by omega) (by omega) (by simp)
   simp only [aB,aQ,nil_append] at h2
   rw [if_pos (by omega),Ad hk,Cs r1 r2,h2,O9,Aa,Bs (by simp;omega) (by decide),Ae k (by omega),aE hk,zbp n hn w hw sc hr hS m (k+1) _ (by omega) (by omega) (by simp;omega)]
   simp only [pfxL,append_assoc,bH]
   congr 3
   unfold pfxE
   rw [aG r2]
   rfl
  ·rw [if_neg (by omega),aD (by omega)]
   simp [pfxL]
theorem zu9 (n:Nat)(hn:10000000<n)(w:List Int)(hw:w.length<=1000000)(sc:Scn)(hr:∀ k∈w,0<=k/\k.toNat<sc.ftypes.length)(hS:∀ S∈sc.ftypes,S.fFields.length<=1000000):T3 n sc w=some (pfxL sc.ftypes 0 w):=by
 have:=zbp n hn w hw sc hr hS n 0 [] (by omega) (by omega) (by simp)
 simpa [T3] using this
variable {s:ByteArray}{i:Nat}
theorem zkj (h:i<s.size):S5 s i≠none:=by
 unfold S5
 rw [Array.getElem?_eq_getElem (show i<s.data.size from h)]
 simp
theorem zfq (h:i<s.size)(k:Int->Option β):∃ b,idb s (i:Int) k=k b:=by
 unfold idb
 rw [if_pos (by omega)]
 simp only [bE]
 cases e:S5 s i with
 |some b=>exact ⟨_,rfl⟩
 |none=>exact absurd e (zkj h)
theorem zub (n:Nat)(c:Int):∃ r,Kh n c=some r:=by
 unfold Kh
 simp only [Am,Aa,Es,A3]
 repeat' split
 all_goals exact ⟨_,rfl⟩
theorem zr7 (n:Nat)(c:Int):∃ r,Fm n c=some r:=by
 unfold Fm
 simp only [Am,Aa,Kb,A3]
 repeat' split
 all_goals exact ⟨_,rfl⟩
theorem zie (n:Nat)(s:ByteArray)(hs:s.size<=24):∀ (m k:Nat),k<=s.size->s.size<m+k->∃ r,Dy n s (some true) m (k:Int)=some r
 |0,k,h1,h2=>by omega
 |m+1,k,h1,h2=>by
  unfold Dy
  rw [A3]
  by_cases h:k<s.size
  ·have ih:=zie n s hs m (k+1) (by omega) (by omega)
   have key:∀ b,∃ r,Eu n s (k:Int) (Dy n s (some true) m) b=some r:=fun b=>by
    unfold Eu
    rw [Ae k (by omega)]
    cases b with
    |true=>rw [A8];exact ⟨_,rfl⟩
    |false=>rw [A7];exact ih
   rw [if_pos (by omega)]
   simp only [Am,Aa]
   obtain ⟨b,hb⟩:=zfq h (fun x49=>bnd (Kh n x49) fun x50 =>
   cnd (!(x50))
    (idb s (k:Int) fun x51 =>
    bnd (Fm n x51) fun x52 =>
    Eu n s (k:Int) (Dy n s (some true) m) !(x52))
   <| Eu n s (k:Int) (Dy n s (some true) m) false)
   rw [hb]
   obtain ⟨c,hc⟩:=zub n b
   rw [hc,A0,Ax]
   cases c with
   |true=>rw [A8];exact key _
   |false =>
    rw [A7]
    obtain ⟨b2,hb2⟩:=zfq h (fun x51=>bnd (Fm n x51) fun x52=>Eu n s (k:Int) (Dy n s (some true) m) !(x52))
    obtain ⟨d,hd⟩:=zr7 n b2
    rw [hb2,hd,A0]
    exact key _
  ·rw [if_neg (by omega)]
   exact ⟨_,rfl⟩
theorem zvs (n:Nat)(hn:10000000<n)(s:ByteArray):∃ r,Kl n s=some r:=by
 unfold Kl
 simp only [Am,Aa,A3]
 have k1:∀ b,(s.size<=24)->∃ r,D9 n s b=some r:=fun b hs=>by
  unfold D9
  cases b with
  |true=>rw [A8];exact ⟨_,rfl⟩
  |false =>
   rw [A7]
   have:=zie n s hs n 0 (by omega) (by omega)
   simpa using this
 have k2:∃ r,D9 n s true=some r:=by
  unfold D9
  rw [A8];exact ⟨_,rfl⟩
 split
 ·exact k2
 ·split
  ·exact k2
  ·obtain ⟨b,hb⟩:=zfq (s:=s) (i:=0) (by omega) (fun x53=>bnd (Fm n x53) fun x54=>D9 n s x54)
   obtain ⟨d,hd⟩:=zr7 n b
   simp only [aB] at hb
   rw [hb,hd,A0]
   exact k1 d (by omega)
def FdOk (S:Ah):Prop:=S.fFields.length<=8/\∀ f∈S.fFields,0<=f.fKind/\f.fKind<3
theorem zbm (n:Nat)(hn:10000000<n)(S:Ah)(hS:S.fFields.length<=8):∀ (m k:Nat) (M:List (ByteArray×Bool)),k<=S.fFields.length->S.fFields.length<m+k->(∀ f∈S.fFields.take k,0<=f.fKind/\f.fKind<3)->∃ r,Fk n S (some 0) m ((k:Int),M)=some r/\(r=0->FdOk S)
 |0,k,M,h1,h2,h3=>by omega
 |m+1,k,M,h1,h2,h3=>by
  unfold Fk
  simp only [aA]
  rw [A3]
  by_cases h:k<S.fFields.length
  ·rw [if_pos (by omega),Ad h]
   obtain ⟨c,hc⟩:=zvs n hn S.fFields[k].fName
   have hf:∃ r,Qw n S.fFields[k].fName=some r:=by
    unfold Qw
    simp only [Am,Aa,Jw]
    rw [hc,A0]
    cases c with
    |true=>rw [A8];exact ⟨_,rfl⟩
    |false=>rw [A7];exact ⟨_,rfl⟩
   obtain ⟨d,hd⟩:=hf
   have j0:∀ b M',(b=false->0<=S.fFields[k].fKind/\S.fFields[k].fKind<3)->∃ r,I2 n S ((k:Int),M') (Fk n S (some 0) m) S.fFields[k] b=some r/\(r=0->FdOk S):=fun b M' hb=>by
    unfold I2
    cases b with
    |true=>rw [A8];exact ⟨_,rfl,fun h=>by cases h⟩
    |false =>
     rw [A7,Dm,Ae k (by omega)]
     refine zbm n hn S hS m (k+1) _ (by omega) (by omega) (fun f hf=>?_)
     rw [aF h,bM,aL] at hf
     exact hf.elim (h3 f) (fun e=>e▸hb rfl)
   rw [hd,A0,Ax]
   cases d with
   |false=>rw [A7];exact ⟨_,rfl,fun h=>by cases h⟩
   |true =>
    rw [A8,Ij]
    cases (mlk M S.fFields[k].fName).getD false with
    |true=>rw [A8];exact ⟨_,rfl,fun h=>by cases h⟩
    |false =>
     rw [A7]
     simp only [Am,Aa]
     rw [A3]
     split
     ·exact j0 true M (fun h=>by cases h)
     ·exact j0 _ M (fun h=>by simp at h;omega)
  ·rw [if_neg (by omega)]
   rw [aP (by omega)] at h3
   exact ⟨0,rfl,fun _=>⟨hS,h3⟩⟩
theorem zu4 (n:Nat)(hn:10000000<n)(S:Ah):∃ r,Ng n S=some r/\(r=0->FdOk S):=by
 obtain ⟨c,hc⟩:=zvs n hn S.fName
 unfold Ng
 simp only [aA]
 rw [hc,A0,Ax]
 cases c with
 |false=>rw [A7];exact ⟨_,rfl,fun h=>by cases h⟩
 |true =>
  rw [A8,A3]
  split
  ·exact ⟨_,rfl,fun h=>by cases h⟩
  ·have:=zbm n hn S (by omega) n 0 [] (by omega) (by omega) (by simp)
   simpa using this
theorem zir (n:Nat)(hn:10000000<n)(T:List Ah)(hT:T.length<=16):∀ (m k:Nat) (M:List (ByteArray×Bool)),k<=T.length->T.length<m+k->(∀ S∈T.take k,FdOk S)->∃ r,K2 n T (some 0) m ((k:Int),M)=some r/\(r=0->∀ S∈T,FdOk S)
 |0,k,M,h1,h2,h3=>by omega
 |m+1,k,M,h1,h2,h3=>by
  unfold K2
  simp only [aA]
  rw [A3]
  by_cases h:k<T.length
  ·obtain ⟨c,hc,hc2⟩:=zu4 n hn T[k]
   rw [if_pos (by omega),Ad h,hc,A0,Ax,A3]
   split
   ·rename_i q
    rw [Ij]
    cases (mlk M T[k].fName).getD false with
    |true=>rw [A8];exact ⟨_,rfl,fun h=>by cases h⟩
    |false =>
     rw [A7,Dm,Ae k (by omega)]
     refine zir n hn T hT m (k+1) _ (by omega) (by omega) (fun S hS=>?_)
     rw [aF h,bM,aL] at hS
     exact hS.elim (h3 S) (fun e=>e▸hc2 q)
   ·rename_i q
    exact ⟨c,rfl,fun e=>absurd e q⟩
  ·rw [if_neg (by omega)]
   rw [aP (by omega)] at h3
   exact ⟨0,rfl,fun _=>h3⟩
theorem zzp (n:Nat)(hn:10000000<n)(T:List Ah):∃ r,Fl n T=some r/\(r=0->T.length<=16/\∀ S∈T,FdOk S):=by
 unfold Fl
 simp only [aA]
 rw [A3]
 split
 ·exact ⟨_,rfl,fun h=>by cases h⟩
 ·have hT:T.length<=16:=by omega
  obtain ⟨r,r1,r2⟩:=zir n hn T hT n 0 [] (by omega) (by omega) (by simp)
  simp only [aB] at r1
  exact ⟨r,r1,fun h=>⟨hT,r2 h⟩⟩
theorem zww (n:Nat)(hn:10000000<n)(T:List Ah)(a:Aut)(hw:WfA a)(rate:Int):∃ r,Gp n T a rate=some r/\(r=0->Fl n T=some 0/\(T.length<=16/\∀ S∈T,FdOk S)/\C1 n a=some 0/\AOk a/\1<=rate/\rate<=4096):=by
 obtain ⟨c,c1,c2⟩:=zzp n hn T
 obtain ⟨d,_,d1,d2⟩:=zfi n hn a hw
 unfold Gp
 simp only [Ax,A3,Am,Aa,Kc]
 rw [c1,A0]
 by_cases q:c=0
 ·rw [if_pos q,d1,A0]
  by_cases q1:d=0
  ·rw [if_pos q1]
   subst q q1
   split
   ·rw [A8];exact ⟨_,rfl,fun h=>by cases h⟩
   ·split
    ·exact ⟨_,rfl,fun h=>by cases h⟩
    ·exact ⟨_,rfl,fun _=>⟨rfl,c2 rfl,rfl,d2 rfl,by omega,by omega⟩⟩
  ·rw [if_neg q1];exact ⟨d,rfl,fun h=>absurd h q1⟩
 ·rw [if_neg q];exact ⟨c,rfl,fun h=>absurd h q⟩
theorem Ih {o:Option α}{k:α->Option β}{r:β}(h:bnd o k=some r):∃ a,o=some a/\k a=some r:=by
 unfold bnd at h
 cases o with
 |none=>cases h
 |some a=>exact ⟨a,rfl,h⟩
theorem cnd_inv {b:Bool}{x y:Option β}{r:β}(h:cnd b x y=some r):(b=true/\x=some r)\/(b=false/\y=some r):=by
 cases b with
 |true=>rw [A8] at h;exact aK ⟨rfl,h⟩
 |false=>rw [A7] at h;exact aJ ⟨rfl,h⟩
variable {a:Aut}
theorem zcb {K:Option Int}:∀ (m:Nat) (k:Int),Hz n x a K m k=some 0->K=some 0
 |0,k,h=>by unfold Hz at h;cases h
 |m+1,k,h=>by
  unfold Hz at h
  rcases cnd_inv h with ⟨_,h⟩|⟨_,h⟩
  ·unfold idxD at h
   split at h
   ·split at h
    ·split at h
     ·obtain ⟨c,_,h⟩:=Ih h
      rcases cnd_inv h with ⟨q,h⟩|⟨_,h⟩
      ·injection h with h;subst h;simp at q
      ·exact zcb m _ h
     ·cases h
    ·cases h
   ·cases h
  ·exact h
theorem zv2 (hn:10000000<n)(hx:WfX x){bf:Int}(h:Kg n a x bf=some 0):0<=x.fType/\∀ l∈x.fLimits,0<=l.fSpan/\l.fSpan<=1099511627776:=by
 have t2:D8 n bf x a true≠some 0:=by
  unfold D8
  rw [A8]
  intro h;cases h
 have hll:=hx.ll
 unfold Kg at h
 simp only [Am,Aa,Uz,A0] at h
 rcases cnd_inv h with ⟨_,h⟩|⟨_,h⟩
 ·exact absurd h t2
 rcases cnd_inv h with ⟨_,h⟩|⟨_,h⟩
 ·exact absurd h t2
 rcases cnd_inv h with ⟨_,h⟩|⟨_,h⟩
 ·exact absurd h t2
 rcases cnd_inv h with ⟨_,h⟩|⟨_,h⟩
 ·exact absurd h t2
 cases q:(decide (0<=x.fType) && decide (x.fType<16)) with
 |false=>rw [q] at h;exact absurd h t2
 |true =>
  rw [q] at h
  simp only [aH,decide_eq_true_eq] at q
  refine ⟨q.1,?_⟩
  unfold D8 at h
  rw [aS,A7] at h
  rcases cnd_inv h with ⟨_,h⟩|⟨_,h⟩
  ·cases h
  obtain ⟨c,_,h⟩:=Ih h
  rcases cnd_inv h with ⟨q',h⟩|⟨_,h⟩
  ·injection h with h;subst h;simp at q'
  rcases cnd_inv h with ⟨_,h⟩|⟨_,h⟩
  ·cases h
  have h:=zcb _ _ h
  obtain ⟨_,_,h⟩:=Ih h
  obtain ⟨c,_,h⟩:=Ih h
  rcases cnd_inv h with ⟨q',h⟩|⟨_,h⟩
  ·injection h with h;subst h;simp at q'
  rw [zea n (fun l=>decide (l.fSpan<0) || decide (1099511627776<l.fSpan)) x.fLimits (by omega) (by omega) (fun l _=>by
   unfold K9
   simp only [Am,Aa,Jz,A3]
   by_cases q:l.fSpan<0<;>simp [q]),A0] at h
  rcases cnd_inv h with ⟨_,h⟩|⟨q',_⟩
  ·cases h
  intro l hl
  have:=any_eq_false.1 q' l hl
  simp only [bK,decide_eq_true_eq,not_or] at this
  omega
theorem zam (hl:a.fEdges.length<=1100000):∀ (m k:Nat) (bf:Int),Hv n a (some 0) m (bf,(k:Int))=some 0->∀ x∈a.fEdges.drop k,∃ bf,Kg n a x bf=some 0
 |0,k,bf,h=>by unfold Hv at h;cases h
 |m+1,k,bf,h=>by
  unfold Hv at h
  simp only [aA] at h
  rcases cnd_inv h with ⟨q,h⟩|⟨q,_⟩
  ·have hk:k<a.fEdges.length:=by have:=of_decide_eq_true q;omega
   rw [Ad hk,Ae k (by omega)] at h
   obtain ⟨c,c1,h⟩:=Ih h
   rcases cnd_inv h with ⟨q',h⟩|⟨q',h⟩
   ·injection h with h;subst h;simp at q'
   ·intro x hx
    rw [aE hk] at hx
    rcases aM.1 hx with e|hx
    ·rw [e]
     refine ⟨bf,?_⟩
     rw [c1]
     simp at q'
     rw [q']
    ·exact zam hl m (k+1) _ h x hx
  ·have:¬(k:Int)<(a.fEdges.length:Int):=of_decide_eq_false q
   rw [aD (by omega)]
   simp
theorem zan {K:Option Int}:∀ (m:Nat) (k:Int),Hw n a K m k=some 0->K=some 0
 |0,k,h=>by unfold Hw at h;cases h
 |m+1,k,h=>by
  unfold Hw at h
  rcases cnd_inv h with ⟨_,h⟩|⟨_,h⟩
  ·unfold idx at h
   split at h
   ·split at h
    ·obtain ⟨c,_,h⟩:=Ih h
     rcases cnd_inv h with ⟨q,h⟩|⟨_,h⟩
     ·injection h with h;subst h;simp at q
     ·exact zan m _ h
    ·cases h
   ·cases h
  ·exact h
theorem zkg (hn:10000000<n)(hw:WfA a)(h:C1 n a=some 0):(0<=a.fScopes/\a.fScopes<=64)/\∀ x∈a.fEdges,0<=x.fType/\∀ l∈x.fLimits,0<=l.fSpan/\l.fSpan<=1099511627776:=by
 have t1:Dx n a true≠some 0:=by
  unfold Dx
  rw [A8]
  intro h;cases h
 have t2:Dw n a true≠some 0:=by
  unfold Dw
  rw [A8]
  intro h;cases h
 unfold C1 at h
 simp only [Am,Aa] at h
 rcases cnd_inv h with ⟨_,h⟩|⟨_,h⟩
 ·exact absurd h t1
 rcases cnd_inv h with ⟨_,h⟩|⟨_,h⟩
 ·exact absurd h t1
 rcases cnd_inv h with ⟨_,h⟩|⟨q1,h⟩
 ·exact absurd h t1
 cases q:decide (64<a.fScopes) with
 |true=>rw [q] at h;exact absurd h t1
 |false =>
  rw [q] at h
  have q2:=of_decide_eq_false q
  have q1:=of_decide_eq_false q1
  refine ⟨by omega,fun x hx=>?_⟩
  unfold Dx at h
  rw [A7] at h
  simp only [Am,Aa] at h
  have h':Dw n a false=some 0:=by
   rcases cnd_inv h with ⟨_,h⟩|⟨_,h⟩
   ·exact absurd h t2
   rcases cnd_inv h with ⟨_,h⟩|⟨_,h⟩
   ·exact absurd h t2
   cases q9:decide ((2048:Int)<((List.map Ab a.fEdges).length:Int)) with
   |true=>rw [q9] at h;exact absurd h t2
   |false=>rw [q9] at h;exact h
  unfold Dw at h'
  rw [A7] at h'
  have h2:=zan _ _ h'
  have h3:=zam hw.le n 0 0 (by simpa using h2)
  obtain ⟨bf,h4⟩:=h3 x (by simpa using hx)
  exact zv2 hn (hw.ed x hx) h4
theorem scR {T:List Ah}(hw:WfA a)(h:AOk a)(hn:10000000<n)(hc:C1 n a=some 0):ScR ⟨T,a⟩:=by
 obtain ⟨c1,c2⟩:=zkg hn hw hc
 exact ⟨⟨⟨h.st,fun x hx=>⟨(h.ed x hx).frm.1,(h.ed x hx).frm.2,(h.ed x hx).tgt.1,(h.ed x hx).tgt.2⟩,hw.le⟩,c1,fun x hx=>⟨(hw.ed x hx).lo,(hw.ed x hx).lcl,(hw.ed x hx).li,(hw.ed x hx).ll⟩,fun x hx=>(c2 x hx).2⟩,hw⟩
def NoP (n:Nat)(sc:Scn)(tt:Int):Prop:=∃ M:Mp,(∀ t,has M t->∀ x∈ptE n sc tt,x.fFrom=t->has M x.fTo/\x.fTo≠tt)/\∀ x∈ptE n sc tt,x.fFrom=0->has M x.fTo/\x.fTo≠tt
structure YesP (n:Nat) (sc:Scn) (M:Mp) (w:List Int):Prop where
 ne:w≠[]
 len:w.length<=300
 tt:∃ t,has M t/\Pth (ptE n sc t) t 0 w
theorem zi1 {T:List Ah}(h:ScR ⟨T,a⟩)(hn:10000000<n)(ht:∀ x∈a.fEdges,0<=x.fType){tt s:Int}{w:List Int}(p:Pth (ptE n ⟨T,a⟩ tt) tt s w):∀ k∈w,0<=k/\k.toNat<T.length:=by
 have hE:∀ x∈ptE n ⟨T,a⟩ tt,0<=x.fType/\x.fType.toNat<T.length:=fun x hx=>by
  obtain ⟨h1,h2⟩:=aW.1 hx
  simp only [aH] at h2
  have h3:=((h.free n hn h1).2 h2.1).1
  have h4:=ht x h1
  simp only at h3
  omega
 induction p with
 |one x hx e=>exact fun k hk=>by rw [aL] at hk;rw [hk];exact hE x hx
 |cons x hx _ ih=>exact fun k hk=>(aM.1 hk).elim (fun e=>e▸hE x hx) (ih k)
theorem zff (n:Nat)(hn:30000000<n)(T:List Ah)(a:Aut)(h:ScR ⟨T,a⟩)(hT:∀ S∈T,FdOk S)(ht:∀ x∈a.fEdges,0<=x.fType)(M:Mp)(hM:MK M):∀ (m k:Nat),k<=a.fStates.length->a.fStates.length<m+k->(∀ t:Nat,t<k->has M (t:Int)->NoP n ⟨T,a⟩ (t:Int))->(∃ w,K6 n a T M (some (⟨0,0,[],0⟩,0)) m (k:Int)=some (⟨2,0,pfxL T 0 w,(w.length:Int)⟩,0)/\YesP n ⟨T,a⟩ M w)\/(K6 n a T M (some (⟨0,0,[],0⟩,0)) m (k:Int)=some (⟨0,0,[],0⟩,0)/\∀ t:Nat,t<a.fStates.length->has M (t:Int)->NoP n ⟨T,a⟩ (t:Int))
 |0,k,h1,h2,h3=>by omega
 |m+1,k,h1,h2,h3=>by
  unfold K6
  simp only [aA]
  rw [A3]
  have hst:=h.st
  simp only at hst
  by_cases hk:k<a.fStates.length
  ·rw [if_pos (by omega),Ft,Ax,Ae k (by omega)]
   cases q:(mlk M (k:Int)).getD false with
   |false =>
    rw [A7]
    refine zff n hn T a h hT ht M hM m (k+1) (by omega) (by omega) (fun t h4 h5=>?_)
    by_cases e:t=k
    ·subst e;rw [(hM.get _).2 h5] at q;cases q
    ·exact h3 t (by omega) h5
   |true =>
    obtain ⟨w,A,w1,w2,w3,w4⟩:=zze n hn ⟨T,a⟩ h (k:Int) ⟨by omega,by simpa using hk⟩
    rw [A8,w1,A0]
    cases w with
    |nil =>
     rw [map_nil,List.isEmpty_nil,aS,A7]
     refine zff n hn T a h hT ht M hM m (k+1) (by omega) (by omega) (fun t h4 h5=>?_)
     by_cases e:t=k
     ·subst e;exact ⟨A,w4 rfl⟩
     ·exact h3 t (by omega) h5
    |cons c w =>
     have hp:=w3 (by simp)
     have hty:=zi1 h (by omega) ht hp
     have hpx:=zu9 n (by omega) (c::w) (by omega) ⟨T,a⟩ hty (fun S hS=>by have:=(hT S hS).1;omega)
     refine aK ⟨c::w,?_,by simp,w2,(k:Int),(hM.get _).1 q,hp⟩
     rw [map_cons,List.isEmpty_cons,aO,A8,O8,Aa,hpx,A0]
  ·rw [if_neg (by omega)]
   exact aJ ⟨rfl,fun t h4=>h3 t (by omega)⟩
theorem zp5 (n:Nat)(hn:30000000<n)(T:List Ah)(a:Aut)(rate:Int)(h:ScR ⟨T,a⟩)(hR:Gp n T a rate=some 0)(hT:∀ S∈T,FdOk S)(ht:∀ x∈a.fEdges,0<=x.fType)(b:Int)(ok:Bool)(hL:Gq n a rate=some (b,ok)):∃ M,Er n ⟨T,a⟩=some M/\((ok=true/\Eg n T a rate=some (⟨1,b,[],0⟩,0))\/(ok=false/\((∃ w,Eg n T a rate=some (⟨2,0,pfxL T 0 w,(w.length:Int)⟩,0)/\YesP n ⟨T,a⟩ M w)\/(Eg n T a rate=some (⟨0,0,[],0⟩,0)/\∀ t:Nat,t<a.fStates.length->has M (t:Int)->NoP n ⟨T,a⟩ (t:Int))))):=by
 obtain ⟨M,m1,m2,m3⟩:=zr0 n (by omega) ⟨T,a⟩ h
 have hst:=h.st
 simp only at hst
 refine ⟨M,m1,?_⟩
 unfold Eg
 rw [hR,A0]
 simp only [Ax,A3,if_true]
 rw [hL,A0]
 cases ok with
 |true=>simp only;rw [A8];exact aK ⟨by trivial,rfl⟩
 |false =>
  simp only
  rw [A7,m1,A0]
  have:=zff n hn T a h hT ht M m2 n 0 (by omega) (by omega) (fun t h=>by omega)
  simp only [aB] at this
  exact aJ ⟨by trivial,this⟩
def ltP (c:Int):Bool:=(decide (97<=c) && decide (c<=122)) || (decide (65<=c) && decide (c<=90)) || decide (c=95)
def dgP (c:Int):Bool:=decide (48<=c) && decide (c<=57)
theorem zzh (n:Nat)(c:Int):Kh n c=some (ltP c):=by
 unfold Kh ltP
 simp only [Am,Aa,Es,A3]
 repeat' split
 all_goals (simp_all<;>try omega)
theorem zqx (n:Nat)(c:Int):Q4 n c=some (ltP c):=by
 unfold Q4 ltP
 simp only [Am,Aa,En,A3]
 repeat' split
 all_goals (simp_all<;>try omega)
theorem zvv (n:Nat)(c:Int):Fm n c=some (dgP c):=by
 unfold Fm dgP
 simp only [Am,Aa,Kb,A3]
 by_cases h:48<=c<;>simp [h]
theorem zse (h:i<s.size):∃ b:Int,∀ k:Int->Option Bool,idb s (i:Int) k=k b:=by
 unfold idb
 cases e:S5 s i with
 |none=>exact absurd e (zkj h)
 |some b =>
  refine ⟨b.toNat,fun k=>?_⟩
  rw [if_pos (by omega)]
  simp only [bE,e]
theorem znm (n:Nat)(s:ByteArray)(hs:s.size<=24):∀ (m k:Nat),k<=s.size->s.size<m+k->∃ r,Hi n s (some true) m (k:Int)=some r/\Dy n s (some true) m (k:Int)=some r/\∀ h:k<s.size,∀ b:Int,(∀ K:Int->Option Bool,idb s (k:Int) K=K b)->ltP b=false->dgP b=false->r=false
 |0,k,h1,h2=>by omega
 |m+1,k,h1,h2=>by
  unfold Hi Dy
  rw [A3,A3]
  by_cases h:k<s.size
  ·obtain ⟨b,hb⟩:=zse h
   obtain ⟨r,r1,r2,_⟩:=znm n s hs m (k+1) (by omega) (by omega)
   rw [if_pos (by omega),if_pos (by omega)]
   simp only [Am,Aa,hb,zzh,zqx,zvv,A0,Ax,Jj,Eu,Ae k (by omega:k<=1000000000000),r1,r2]
   have hbu:∀ b':Int,(∀ K:Int->Option Bool,K b=K b')->b'=b:=fun b' hb'=>by
    have h1:=Option.some.inj (hb' (fun x=>some (decide (x=b))))
    simp only [decide_true] at h1
    exact of_decide_eq_true h1.symm
   cases hl:ltP b with
   |true=>simp only [A8,A7];exact ⟨r,rfl,rfl,fun _ b' hb' h1=>by rw [hbu b' hb',hl] at h1;cases h1⟩
   |false =>
    simp only [A8,A7,A3]
    by_cases q:b<48
    ·have hd:dgP b=false:=by unfold dgP;simp;omega
     rw [if_pos q,hd]
     simp only [A8,A7,aO]
     exact ⟨false,rfl,rfl,fun _ _ _ _ _=>rfl⟩
    ·rw [if_neg q]
     by_cases q2:57<b
     ·have hd:dgP b=false:=by unfold dgP;simp;omega
      rw [if_pos q2,hd]
      simp only [A8,A7,aO]
      exact ⟨false,rfl,rfl,fun _ _ _ _ _=>rfl⟩
     ·have hd:dgP b=true:=by unfold dgP;simp;omega
      rw [if_neg q2,hd]
      simp only [A8,A7,aS]
      exact ⟨r,rfl,rfl,fun _ b' hb' _ h2=>by rw [hbu b' hb',hd] at h2;cases h2⟩
  ·rw [if_neg (by omega),if_neg (by omega)]
   exact ⟨true,rfl,rfl,fun h'=>absurd h' h⟩
theorem zzg (n:Nat)(hn:10000000<n)(s:ByteArray):∃ r,Qp n s=some r/\Kl n s=some r:=by
 unfold Qp Kl
 simp only [Am,Aa,A3]
 have t1:Fg n s true=some false:=by unfold Fg;rw [A8]
 have t2:D9 n s true=some false:=by unfold D9;rw [A8]
 by_cases h0:(s.size:Int)=0
 ·rw [if_pos h0,if_pos h0];exact ⟨_,t1,t2⟩
 rw [if_neg h0,if_neg h0]
 by_cases h24:(24:Int)<(s.size:Int)
 ·rw [if_pos h24,if_pos h24];exact ⟨_,t1,t2⟩
 rw [if_neg h24,if_neg h24]
 obtain ⟨b,hb⟩:=zse (s:=s) (i:=0) (by omega)
 obtain ⟨r,r1,r2,r3⟩:=znm n s (by omega) n 0 (by omega) (by omega)
 have r3':=r3 (by omega) b hb
 simp only [aB] at hb r1 r2
 rw [hb,hb,zqx,A0,zvv,A0]
 have f1:Fg n s false=some r:=by unfold Fg;rw [A7];exact r1
 have f2:D9 n s false=some r:=by unfold D9;rw [A7];exact r2
 cases hl:ltP b with
 |true =>
  have hd:dgP b=false:=by
   unfold ltP at hl
   unfold dgP
   simp only [bK,aH,decide_eq_true_eq] at hl
   simp
   omega
  rw [hd,aS]
  exact ⟨r,f1,f2⟩
 |false =>
  rw [aO,t1]
  cases hd:dgP b with
  |true=>exact ⟨false,rfl,t2⟩
  |false=>exact ⟨false,rfl,by rw [f2,r3' hl hd]⟩
theorem zok (a b:ByteArray):(a.toList == b.toList)=decide (a=b):=Km a b
theorem znk (n:Nat)(nm:ByteArray)(S:Ah)(hS:S.fFields.length<=8)(i:Nat)(hi:i<S.fFields.length)(hnm:S.fFields[i].fName=nm):∀ (m k:Nat),k<=i->i<m+k->∃ j:Nat,Ol n nm S (some (-1)) m (k:Int)=some (j:Int)/\j<=i/\(j<i ↔ ∃ q,k<=q/\∃ h:q<i,S.fFields[q].fName=nm)
 |0,k,h1,h2=>by omega
 |m+1,k,h1,h2=>by
  unfold Ol
  simp only [aA]
  rw [A3,if_pos (by omega),Ad (by omega:k<S.fFields.length),zok,A3,Ae k (by omega)]
  by_cases q:S.fFields[k].fName=nm
  ·rw [if_pos q]
   exact ⟨k,rfl,h1,fun h=>⟨k,aV _,h,q⟩,fun ⟨x,x1,x2,_⟩=>by omega⟩
  ·rw [if_neg q]
   have hk:k≠i:=fun e=>by subst e;exact q hnm
   obtain ⟨j,j1,j2,j3⟩:=znk n nm S hS i hi hnm m (k+1) (by omega) (by omega)
   refine ⟨j,j1,j2,?_⟩
   rw [j3]
   constructor
   ·rintro ⟨x,x1,x2⟩;exact ⟨x,by omega,x2⟩
   ·rintro ⟨x,x1,x2,x3⟩
    by_cases e:x=k
    ·subst e;exact absurd x3 q
    ·exact ⟨x,by omega,x2,x3⟩
def SnM (M:List (ByteArray×Bool))(l:List ByteArray):Prop:=∀ k,(mlk M k).getD false=true ↔ k∈l
theorem SnM.put {M:List (ByteArray×Bool)}{l:List ByteArray}(h:SnM M l)(k:ByteArray):SnM (mput M k true) (l++[k]):=fun x=>by
 rw [zo0]
 by_cases e:x=k
 ·simp [e]
 ·rw [if_neg e,h];simp [e]
theorem zi7 (n:Nat)(hn:10000000<n)(S:Ah)(hS:S.fFields.length<=8):∀ (m k:Nat) (M:List (ByteArray×Bool)),k<=S.fFields.length->S.fFields.length<m+k->SnM M ((S.fFields.take k).map (·.fName))->∃ r,Hd n S (some 0) m (k:Int)=some r/\Fk n S (some 0) m ((k:Int),M)=some r
 |0,k,M,h1,h2,h3=>by omega
 |m+1,k,M,h1,h2,h3=>by
  unfold Hd Fk
  simp only [aA]
  rw [A3,A3]
  by_cases h:k<S.fFields.length
  ·have hM':SnM (mput M S.fFields[k].fName true) ((S.fFields.take (k+1)).map (·.fName)):=by
    rw [aF h,map_append]
    exact h3.put _
   obtain ⟨r,r1,r2⟩:=zi7 n hn S hS m (k+1) _ (by omega) (by omega) hM'
   obtain ⟨c,c1,c2⟩:=zzg n hn S.fFields[k].fName
   obtain ⟨j,j1,j2,j3⟩:=znk n S.fFields[k].fName S hS k h rfl n 0 (by omega) (by omega)
   simp only [aB] at j1
   rw [if_pos (by omega),if_pos (by omega),Ad h,Ad h]
   have bad1:He n S (k:Int) (Hd n S (some 0) m) S.fFields[k] true=some 8:=by
    unfold He;rw [A8]
   have hdup:(mlk M S.fFields[k].fName).getD false=decide (j<k):=by
    refine bL.2 ?_
    rw [h3,decide_eq_true_eq,j3]
    simp only [bF]
    constructor
    ·rintro ⟨f,hf,e⟩
     obtain ⟨q,hq,e2⟩:=aN.1 hf
     rw [bB] at hq
     rw [aX] at e2
     exact ⟨q,Nat.zero_le _,by omega,by rw [e2];exact e⟩
    ·rintro ⟨q,_,hq,e⟩
     exact ⟨S.fFields[q],aN.2 ⟨q,by rw [bB];omega,by rw [aX]⟩,e⟩
   simp only [Am,Aa,c1,A0,Ax]
   unfold Qw
   simp only [Am,Aa,Jw,c2,A0]
   cases c with
   |false=>rw [A7,A7,A0,A7,bad1];exact ⟨8,rfl,rfl⟩
   |true =>
    rw [A8,A8,A0,Ax]
    cases ht:(S.fFields[k].fName.toList == (ByteArray.mk #[116,105,109,101]).toList) with
    |true=>rw [A8,bad1];exact ⟨8,rfl,rfl⟩
    |false =>
     rw [A7]
     unfold He Vq
     rw [A7,j1,A0,Ij,hdup,A3]
     by_cases hj:j<k
     ·rw [if_pos (by omega),decide_eq_true hj,A8];exact ⟨7,rfl,rfl⟩
     ·rw [if_neg (by omega),decide_eq_false hj,A7]
      simp only [Am,Aa,Ja,I2,Dm,Ae k (by omega:k<=1000000000000),r1,r2,Ax,A3,Au,decide_eq_true_eq,bD,decide_eq_false_iff_not]
      rcases (show S.fFields[k].fKind=0\/S.fFields[k].fKind=1\/S.fFields[k].fKind=2\/S.fFields[k].fKind<0\/3<=S.fFields[k].fKind by omega) with e|e|e|e|e
      ·simp [e]
      ·simp [e]
      ·simp [e]
      ·simp [e,show ¬S.fFields[k].fKind=0 by omega,show ¬S.fFields[k].fKind=1 by omega,show ¬S.fFields[k].fKind=2 by omega]
      ·simp [e,show ¬S.fFields[k].fKind=0 by omega,show ¬S.fFields[k].fKind=1 by omega,show ¬S.fFields[k].fKind=2 by omega,show ¬S.fFields[k].fKind<0 by omega]
  ·rw [if_neg (by omega),if_neg (by omega)]
   exact ⟨0,rfl,rfl⟩
theorem zza (n:Nat)(hn:10000000<n)(S:Ah):∃ r,T7 n S=some r/\Ng n S=some r:=by
 obtain ⟨c,c1,c2⟩:=zzg n hn S.fName
 unfold T7 Ng
 simp only [aA]
 rw [c1,c2,A0,A0,Ax,Ax]
 cases c with
 |false=>rw [A7,A7];exact ⟨8,rfl,rfl⟩
 |true =>
  rw [A8,A8,A3,A3]
  split
  ·exact ⟨5,rfl,rfl⟩
  ·have:=zi7 n hn S (by omega) n 0 [] (by omega) (by omega) (fun k=>by simp [mlk])
   simpa using this
theorem zng (n:Nat)(nm:ByteArray)(T:List Ah)(hT:T.length<=16)(i:Nat)(hi:i<T.length)(hnm:T[i].fName=nm):∀ (m k:Nat),k<=i->i<m+k->∃ j:Nat,Pm n nm T (some (-1)) m (k:Int)=some (j:Int)/\j<=i/\(j<i ↔ ∃ q,k<=q/\∃ h:q<i,T[q].fName=nm)
 |0,k,h1,h2=>by omega
 |m+1,k,h1,h2=>by
  unfold Pm
  simp only [aA]
  rw [A3,if_pos (by omega),Ad (by omega:k<T.length),zok,A3,Ae k (by omega)]
  by_cases q:T[k].fName=nm
  ·rw [if_pos q]
   exact ⟨k,rfl,h1,fun h=>⟨k,aV _,h,q⟩,fun ⟨x,x1,x2,_⟩=>by omega⟩
  ·rw [if_neg q]
   have hk:k≠i:=fun e=>by subst e;exact q hnm
   obtain ⟨j,j1,j2,j3⟩:=zng n nm T hT i hi hnm m (k+1) (by omega) (by omega)
   refine ⟨j,j1,j2,?_⟩
   rw [j3]
   constructor
   ·rintro ⟨x,x1,x2⟩;exact ⟨x,by omega,x2⟩
   ·rintro ⟨x,x1,x2,x3⟩
    by_cases e:x=k
    ·subst e;exact absurd x3 q
    ·exact ⟨x,by omega,x2,x3⟩
theorem zis (n:Nat)(hn:10000000<n)(T:List Ah)(hT:T.length<=16):∀ (m k:Nat) (M:List (ByteArray×Bool)),k<=T.length->T.length<m+k->SnM M ((T.take k).map (·.fName))->∃ r,Om n T (some 0) m (k:Int)=some r/\K2 n T (some 0) m ((k:Int),M)=some r
 |0,k,M,h1,h2,h3=>by omega
 |m+1,k,M,h1,h2,h3=>by
  unfold Om K2
  simp only [aA]
  rw [A3,A3]
  by_cases h:k<T.length
  ·have hM':SnM (mput M T[k].fName true) ((T.take (k+1)).map (·.fName)):=by
    rw [aF h,map_append]
    exact h3.put _
   obtain ⟨r,r1,r2⟩:=zis n hn T hT m (k+1) _ (by omega) (by omega) hM'
   obtain ⟨c,c1,c2⟩:=zza n hn T[k]
   obtain ⟨j,j1,j2,j3⟩:=zng n T[k].fName T hT k h rfl n 0 (by omega) (by omega)
   simp only [aB] at j1
   have hdup:(mlk M T[k].fName).getD false=decide (j<k):=by
    refine bL.2 ?_
    rw [h3,decide_eq_true_eq,j3]
    simp only [bF]
    constructor
    ·rintro ⟨f,hf,e⟩
     obtain ⟨q,hq,e2⟩:=aN.1 hf
     rw [bB] at hq
     rw [aX] at e2
     exact ⟨q,Nat.zero_le _,by omega,by rw [e2];exact e⟩
    ·rintro ⟨q,_,hq,e⟩
     exact ⟨T[q],aN.2 ⟨q,by rw [bB];omega,by rw [aX]⟩,e⟩
   rw [if_pos (by omega),if_pos (by omega)];simp only [Ad h,c1,c2,A0,Ax,A3]
   by_cases e:c=0
   ·unfold Wf
    rw [if_pos e,if_pos e,j1,A0,Ij,hdup,A3,Ae k (by omega)]
    by_cases hj:j<k
    ·rw [if_pos (by omega),if_pos hj];exact ⟨7,rfl,rfl⟩
    ·rw [if_neg (by omega),if_neg hj,Dm];exact ⟨r,r1,r2⟩
   ·rw [if_neg e,if_neg e];exact ⟨c,rfl,rfl⟩
  ·rw [if_neg (by omega),if_neg (by omega)]
   exact ⟨0,rfl,rfl⟩
theorem zvw (n:Nat)(hn:10000000<n)(T:List Ah):∃ r,Pn n T=some r/\Fl n T=some r:=by
 unfold Pn Fl
 simp only [aA]
 rw [A3,A3]
 split
 ·exact ⟨5,rfl,rfl⟩
 ·have:=zis n hn T (by omega) n 0 [] (by omega) (by omega) (fun k=>by simp [mlk])
  simpa using this
theorem zvy {α:Type}[DecidableEq α]:∀ {l m:List α},l.Nodup->(∀ x∈l,x∈m)->l.length<=m.length
 |[],m,_,_=>by simp
 |x::r,m,h1,h2=>by
  have hx:=h2 x (by simp)
  have h3:=bN.1 h1
  have ih:=zvy (m:=m.erase x) h3.2 (fun y hy=>(mem_erase_of_ne (fun e=>h3.1 (by rw [<-e];exact hy))).2 (h2 y (aT _ hy)))
  rw [length_erase_of_mem hx] at ih
  have:0<m.length:=length_pos_of_mem hx
  simp only [bJ]
  omega
theorem zyu {c:α->α->Int}(h:TO c){l:List α}(hl:Str c l):l.Nodup:=by
 refine Pairwise.imp (fun {x y} hxy e=>?_) hl
 subst e
 have:=(h.zero x x).2 rfl
 omega
theorem zvj {held:List Ev}:∀ (p r:List Ev) (cs:List Cf) (ms:List Ma),(wiP 150 a held (p++r) cs ms).2.2=true->(wiP 150 a held p cs ms).2.2=true
 |[],r,cs,ms,h=>rfl
 |f::p,r,cs,ms,h=>by
  rw [cons_append] at h
  unfold wiP at h ⊢
  split at h
  ·cases h
  ·rename_i q
   rw [if_neg q]
   exact zvj p r _ _ h
noncomputable def xsI (a:Aut)(l:List Ev)(i:Nat):List Cf:=(wiP 150 a l (l.take i) [cf0] []).1
noncomputable def msI (a:Aut)(l:List Ev)(i:Nat):List Ma:=(wiP 150 a l (l.take i) [cf0] []).2.1
variable {l:List Ev}
theorem zyp (h:GS a l)(i:Nat):wiP 150 a l (l.take i) [cf0] []=(xsI a l i,msI a l i,true):=by
 have h1:=h.sm
 rw [<-bI i l] at h1
 have h2:=zvj (l.take i) (l.drop i) [cf0] [] (by rw [bI] at h1 ⊢;exact h1)
 unfold xsI msI
 rw [<-h2]
theorem zq1 (a:Aut)(l:List Ev):xsI a l 0=[cf0]/\msI a l 0=[]:=by unfold xsI msI;rw [bO];exact ⟨rfl,rfl⟩
theorem zl5 (h:GS a l)(hi:i<l.length):xsI a l (i+1)=cfN a l (xsI a l i) l[i]/\msI a l (i+1)=puts S7 (msI a l i) (maN a l (xsI a l i) l[i])/\(xsI a l (i+1)).length<=150/\(msI a l (i+1)).length<=150:=by
 have e:l.take (i+1)=l.take i++[l[i]]:=by rw [take_append_getElem]
 have h1:=zyp h (i+1)
 rw [e] at h1
 obtain ⟨x,m,q1,q2,q3,q4⟩:=zn1 (l.take i) [cf0] [] (by rw [h1])
 rw [zyp h i] at q1
 injection q1 with w1 w2
 injection w2 with w2 _
 rw [<-w1] at q2 q3 q4
 rw [<-w2] at q2 q4
 rw [h1] at q2
 injection q2 with v1 v2
 injection v2 with v2 _
 rw [<-v1] at q3
 rw [<-v2] at q4
 exact ⟨v1,v2,q3,q4⟩
theorem zyq (h:GS a l)(hi:i<=l.length):(xsI a l i).length<=150:=by
 cases i with
 |zero=>rw [(zq1 a l).1];simp
 |succ i=>exact (zl5 h (by omega)).2.2.1
theorem zyr (h:GS a l):∀ {i:Nat},i<=l.length->∀ c∈xsI a l i,Gd57 a l i c
 |0,hi=>fun c hc=>by
  rw [(zq1 a l).1] at hc
  rw [aL.1 hc]
  exact gd0 h
 |i+1,hi=>fun c hc=>by
  rw [(zl5 h (by omega)).1] at hc
  exact Gd57.next h (by omega) (zyr h (by omega)) c hc
variable {cs:List Cf}
theorem zve {held:List Ev}{xs:List Cf}(h:∀ c∈cs,c∈xs)(e:Ev):∀ d∈cfN a held cs e,d∈cfN a held xs e:=fun d hd=>by
 unfold cfN at hd ⊢
 rw [zn6 Yb,mem_flatMap] at hd ⊢
 obtain ⟨c,h1,h2⟩:=hd
 exact ⟨c,h c h1,h2⟩
structure Sb (a:Aut) (l:List Ev) (i:Nat) (cs:List Cf):Prop where
 sub:∀ c∈cs,c∈xsI a l i
 str:Str zyf cs
theorem Sb.len (h:GS a l)(hi:i<=l.length)(hc:Sb a l i cs):cs.length<=150 :=
 Nat.le_trans (zvy (zyu Yb hc.str) hc.sub) (zyq h hi)
theorem Sb.gd (h:GS a l)(hi:i<=l.length)(hc:Sb a l i cs):∀ c∈cs,Gd57 a l i c:=fun c hcc=>zyr h hi c (hc.sub c hcc)
theorem Sb.next (h:GS a l)(hi:i<l.length)(hc:Sb a l i cs):Sb a l (i+1) (cfN a l cs l[i]) :=
 ⟨by rw [(zl5 h hi).1];exact zve hc.sub _,ztr Yb _⟩
end Go.Proofs.YthbogefcfhmpgaaGreat
