/- Layer 57, plainly. -/
import Derived.Test.YtidhlpjgifoneaaGreatK34
import Derived.Test.YtidhlpjgifoneaaGreatRows
import Derived.ProofKit
import Derived.Lib.SmallJoins
import Derived.Deep.Slices
import Derived.Below
import Derived.OpenShut
import Derived.JoinedCond
set_option maxRecDepth 100000
set_option linter.unusedVariables false
set_option linter.unusedSimpArgs false
namespace Go.Proofs.YtidhlpjgifoneaaGreat
open Go.RowKit List
variable {a:Aut}
theorem zpw {t:Nat}{v:Int}:(mlk ((zeg a).getD t []) v).getD false=true ↔ t<a.fStates.length/\Rd a t v:=by
 obtain ⟨h1,h2⟩:=zrs a
 rw [<-h2]
 by_cases ht:t<a.fStates.length
 ·obtain ⟨l,hl,hm⟩:=h1.at ht
  rw [getD_eq_getElem?_getD,hl,Option.getD_some,y9k hm]
  exact ⟨fun h=>⟨l,hl,h⟩,fun ⟨l',h3,h4⟩=>by simp_all⟩
 ·have hn:(zeg a)[t]? = none:=getElem?_eq_none (by rw [h1.len];omega)
  rw [getD_eq_getElem?_getD,hn]
  refine ⟨fun h=>?_,fun ⟨l',h3,h4⟩=>by rw [hn] at h3;cases h3⟩
  have:mlk ([]:Mp) v=none:=rfl
  simp [this] at h
theorem yi3 {held:List Ev}{m:Mp}{v:Int}(hv:(mlk m v).getD false=true):∀ l:List Bd,ev1 held (rdB m l) v=ev1 held l v
 |[]=>rfl
 |b::l=>by
  have ih:=yi3 (held:=held) hv l
  unfold rdB ev1 at ih ⊢
  grind
theorem yfu (m:Mp)(l k:List Bd):rdB m (l++k)=rdB m l++rdB m k:=by unfold rdB;rw [filter_append]
theorem yft {m m':Mp}(h:∀ v,(mlk m' v).getD false=true->(mlk m v).getD false=true)(l:List Bd):rdB m' (rdB m l)=rdB m' l:=by
 unfold rdB
 rw [filter_filter]
 grind
variable {held:List Ev}
theorem yfd {t:Nat}(ht:t<a.fStates.length){l k:List Bd}(h:rdB ((zeg a).getD t []) l=rdB ((zeg a).getD t []) k)(hl:l.length<=1000000)(hk:k.length<=1000000){e:Exn}(hw:WfE e)(ho:∀ v,yk4 v e->Rd a t v)(own:Int)(ev:Ev):trR (enH held l) e own ev=trR (enH held k) e own ev:=by
 refine ynk (fun i hi=>?_) (zlz hl) (zlz hk) hw own ev
 rw [zjt,zjt]
 split
 ·rename_i q
  have hr:=zpw.2 ⟨ht,ho (i:Int) ⟨i,by omega,rfl,hi⟩⟩
  rw [<-yi3 hr l,<-yi3 hr k,h]
 ·rfl
theorem yid:∀ {a b c d:List Sta},cvL a b=true->cvL c d=true->cvL (a++c) (b++d)=true
 |[],[],_,_,_,h=>h
 |x::r,y::s,c,d,h1,h2=>by
  unfold cvL at h1
  rw [Bool.and_eq_true] at h1
  rw [cons_append,cons_append]
  unfold cvL
  rw [h1.1,yid h1.2 h2]
  rfl
 |[],_::_,_,_,h,_=>by cases h
 |_::_,[],_,_,h,_=>by cases h
theorem y62 {x y:Sta}(h:cvS x y=true):x.fScope=y.fScope/\y.fTime<=x.fTime:=by
 unfold cvS at h
 simp_all
theorem zk7 {p:Sta->Bool}(hp:∀ x y:Sta,x.fScope=y.fScope->p x=p y):∀ {l m:List Sta},cvL l m=true->cvL (l.filter p) (m.filter p)=true
 |[],[],_=>rfl
 |x::r,y::s,h=>by
  unfold cvL at h
  rw [Bool.and_eq_true] at h
  rw [filter_cons,filter_cons,hp x y (y62 h.1).1]
  split
  ·unfold cvL
   rw [h.1,zk7 hp h.2]
   rfl
  ·exact zk7 hp h.2
 |[],_::_,h=>by cases h
 |_::_,[],h=>by cases h
theorem yp8 {l m:List Sta}(h:cvL l m=true)(s t:Int):cvL (opS l s t) (opS m s t)=true:=by
 unfold opS
 refine yid (zk7 (fun x y q=>by rw [q]) h) ?_
 unfold cvL
 rw [zk7 (fun x y q=>by rw [q]) h]
 unfold cvS
 simp
theorem yia (t:Int):∀ (ss:List Int) {l m:List Sta},cvL l m=true->cvL (opL l ss t) (opL m ss t)=true
 |[],_,_,h=>h
 |s::ss,l,m,h=>yia t ss (yp8 h s t)
def TmS (l:List Sta):Prop:=∀ s∈l,0<=s.fTime/\s.fTime<=1099511627776
theorem yic (t:Int)(ht:0<=t/\t<=1099511627776)(x:Lim):∀ {l m:List Sta},cvL l m=true->TmS l->TmS m->keP m t x=true->keP l t x=true
 |[],[],_,_,_,h=>h
 |y::r,z::s,h,h1,h2,hk=>by
  unfold cvL at h
  rw [Bool.and_eq_true] at h
  obtain ⟨q1,q2⟩:=y62 h.1
  have ih:=yic t ht x h.2 (fun k hk=>h1 k (mem_cons_of_mem _ hk)) (fun k hk=>h2 k (mem_cons_of_mem _ hk))
  have b1:=h1 y (by simp)
  have b2:=h2 z (by simp)
  unfold keP at hk ih ⊢
  rw [find?_cons] at hk ⊢
  by_cases q:z.fScope=x.fScope
  ·have q':y.fScope=x.fScope:=q1.trans q
   rw [decide_eq_true q] at hk
   rw [decide_eq_true q']
   simp only [decide_eq_true_eq] at hk ⊢
   rw [zee _ (by omega)] at hk ⊢
   omega
  simp_all
 |[],_::_,h,_,_,_=>by cases h
 |_::_,[],h,_,_,_=>by cases h
theorem ymq {l:List Sta}(h:TmS l){t:Int}(ht:0<=t/\t<=1099511627776)(ss:List Int):TmS (opL l ss t):=fun s hs=>by
 rcases opL_mem t ss hs with ⟨_,e⟩|e
 ·rw [e];exact ht
 ·exact h s e
structure Cvd (a:Aut) (c d:Cf):Prop where
 cov:cov (zeg a) c d=true
 st:0<=c.fState/\c.fState<a.fStates.length
 lc:c.fBindings.length<=900000
 ld:d.fBindings.length<=900000
 tc:TmS c.fStarts
 td:TmS d.fStarts
variable {c d:Cf}
theorem Cvd.out (h:Cvd a c d):c.fState=d.fState/\cvL c.fStarts d.fStarts=true/\rdB ((zeg a).getD c.fState.toNat []) c.fBindings=rdB ((zeg a).getD c.fState.toNat []) d.fBindings:=by
 have h1:=h.cov
 unfold Go.Proofs.YtidhlpjgifoneaaGreat.cov rdC at h1
 grind
variable {α:Type}
theorem zz5 {p q:α->Bool}:∀ {l:List α},(∀ x∈l,p x=q x)->l.any p=l.any q
 |[],_=>rfl
 |x::l,h=>by grind
theorem yeo {p q:α->Bool}:∀ {l:List α},(∀ x∈l,p x=q x)->l.all p=l.all q
 |[],_=>rfl
 |x::l,h=>by grind
theorem yfb (hw:WfA a)(h:Cvd a c d)(held:List Ev)(e:Ev):∀ g∈zou a c.fState,vio (enH held c.fBindings) e g=vio (enH held d.fBindings) e g:=fun g hg=>by
 obtain ⟨h1,h2,h3⟩:=h.out
 obtain ⟨st,g1,g2,g3⟩:=zlt h.st
 rw [g3] at hg
 unfold vio
 have:=h.st
 rw [yfd (by omega) h3 (by have:=h.lc;omega) (by have:=h.ld;omega) ((hw.st st g2).2 g hg) (fun v hv=>.own _ _ (Or.inl ⟨st,g1,g,hg,hv⟩))]
theorem ypc (hw:WfA a)(ha:AOk a)(h:Cvd a c d){e:Ev}(he:zef e=true){x:Ed}(hx:x∈a.fEdges)(hf:x.fFrom=c.fState){d':Cf}(hd:coP a held d x e=some d'):∃ c',coP a held c x e=some c'/\c'.fState=d'.fState/\(0<=d'.fState->cov (zeg a) c' d'=true):=by
 obtain ⟨h1,h2,h3⟩:=h.out
 have hst:=h.st
 have hlc:=h.lc
 have hld:=h.ld
 have htm:0<=e.fTime/\e.fTime<=1099511627776:=by
  unfold zef at he
  simp only [Bool.and_eq_true,decide_eq_true_eq] at he
  exact ⟨he.1,he.2.1⟩
 have hown:∀ y∈chE x++[x.fCond],∀ v,yk4 v y->Rd a c.fState.toNat v:=fun y hy v hv=>.own _ _ (Or.inr ⟨x,hx,by omega,y,hy,hv⟩)
 have hbd:rdB ((zeg a).getD c.fState.toNat []) (bdN c x e)=rdB ((zeg a).getD c.fState.toNat []) (bdN d x e):=by
  unfold bdN
  rw [yfu,yfu,h3]
 have lbc:(bdN c x e).length<=1000000:=by unfold bdN;simp;omega
 have lbd:(bdN d x e).length<=1000000:=by unfold bdN;simp;omega
 have hsl:cvL (stN c x e) (stN d x e)=true:=by unfold stN;exact yia _ _ h2
 have hcw:=y3y (hw.ed x hx)
 have hd0:=zrr hd
 unfold coP at hd
 split at hd
 rotate_left
 ·cases hd
 rename_i q
 obtain ⟨q1,q2,q3,q4,q5⟩:=q
 refine ⟨⟨x.fTo,bdN c x e,(stN c x e).filter (ncl x)⟩,?_,by rw [hd0],?_⟩
 ·unfold coP
  refine if_pos ⟨q1,?_,?_,?_,?_⟩
  ·rw [<-q2]
   unfold gdP
   rw [<-h1]
   refine zz5 (fun g hg=>?_)
   rw [yfb hw h held e g hg]
  ·rw [<-q3]
   exact yfd (by omega) h3 (by omega) (by omega) (hw.ed x hx).cond (hown _ (by simp)) _ _
  ·rw [all_eq_true] at q4 ⊢
   exact fun y hy=>yic _ htm y hsl (ymq h.tc htm _) (ymq h.td htm _) (q4 y hy)
  ·rw [<-q5]
   unfold ckP
   exact yeo (fun y hy=>yfd (by omega) hbd lbc lbd (hcw.2 y hy) (hown y (by simp [hy])) _ _)
 ·rw [hd0]
  intro hto
  have hto:0<=x.fTo:=hto
  unfold cov rdC
  simp only [Bool.and_eq_true,decide_eq_true_eq,true_and]
  refine ⟨zk7 (fun u v huv=>by unfold ncl clP;rw [huv]) hsl,?_⟩
  have hs:∀ v,(mlk ((zeg a).getD x.fTo.toNat []) v).getD false=true->(mlk ((zeg a).getD c.fState.toNat []) v).getD false=true:=fun v hv=>by
   obtain ⟨r1,r2⟩:=zpw.1 hv
   exact zpw.2 ⟨by omega,.step x hx _ x.fTo.toNat v (by omega) (by omega) r2⟩
  rw [<-yft hs,hbd,yft hs]
theorem yle (hw:WfA a)(ha:AOk a)(h:Cvd a c d){e:Ev}(he:zef e=true){d':Cf}(hd:d'∈zhp a held d e):∃ c'∈zhp a held c e,c'.fState=d'.fState/\(0<=d'.fState->cov (zeg a) c' d'=true):=by
 obtain ⟨h1,h2,h3⟩:=h.out
 unfold zhp at hd ⊢
 rcases mem_append.1 hd with hd|hd
 ·have hsk:skP a held c e=skP a held d e:=by
   unfold skP
   rw [<-h1,zz5 (yfb hw h held e)]
  rw [<-hsk] at hd
  split at hd
  ·rename_i q
   rw [mem_singleton.1 hd]
   exact ⟨c,mem_append_left _ (by rw [if_pos q];simp),h1,fun _=>h.cov⟩
  ·simp at hd
 ·obtain ⟨x,hx,hd⟩:=mem_filterMap.1 hd
  obtain ⟨hx1,hx2⟩:=zlu hx
  obtain ⟨c',k1,k2,k3⟩:=ypc hw ha h he hx1 (by rw [h1];exact hx2) hd
  grind
variable {l:List Ev}{i:Nat}
theorem zn6.cvd (h:GS a l)(hi:i<=12)(hc:zn6 a l i c)(hd:zn6 a l i d)(hcd:cov (zeg a) c d=true):Cvd a c d :=
 ⟨hcd,hc.cb.st,by have:=hc.cb.lb;omega,by have:=hd.cb.lb;omega,fun s hs=>(hc.ci.scp s hs).2,fun s hs=>(hd.ci.scp s hs).2⟩
variable {S:List (List Cf)}
theorem ymf (hv:vOk a l S l 0=true):∀ i,i<=l.length->vOk a l S (l.drop i) i=true
 |0,_=>hv
 |i+1,hi=>by
  have ih:=ymf hv i (by omega)
  rw [drop_eq_getElem_cons (by omega),zzb,Bool.and_eq_true] at ih
  exact ih.2
theorem yg5 (h:GS a l)(hS:zqm a l S)(h0:zvw (zeg a) (S.getD 0 []) cf0=true)(hv:vOk a l S l 0=true):∀ i,(hi:i<=l.length)->(∀ d∈xsI a l i,zvw (zeg a) (S.getD i []) d=true)/\∀ (hj:i<l.length),maN a l (xsI a l i) l[i]=[]:=by
 have hln:=h.len
 have hgd:∀ i,i<=l.length->∀ c∈S.getD i [],zn6 a l i c:=fun i hi c hc=>by
  have hiS:i<S.length:=by have:=hS.ln;omega
  rw [getD_eq_getElem?_getD,getElem?_eq_getElem hiS,Option.getD_some] at hc
  exact hS.gd i hiS c hc
 have step:∀ i,(hi:i<l.length)->(∀ d∈xsI a l i,zvw (zeg a) (S.getD i []) d=true)->(∀ d'∈xsI a l (i+1),zvw (zeg a) (S.getD (i+1) []) d'=true)/\maN a l (xsI a l i) l[i]=[]:=fun i hi ih=>by
  have hvi:=ymf hv i (by omega)
  rw [drop_eq_getElem_cons hi,zzb,Bool.and_eq_true,all_eq_true] at hvi
  have hpl:=h.so.pl _ (getElem_mem hi)
  have key:∀ d∈xsI a l i,∀ d'∈zhp a l d l[i],∃ c∈S.getD i [],∃ c'∈zhp a l c l[i],c'.fState=d'.fState/\(0<=d'.fState->cov (zeg a) c' d'=true):=fun d hd d' hd'=>by
   obtain ⟨c,hc,hcd⟩:=any_eq_true.1 (ih d hd)
   obtain ⟨c',k1,k2,k3⟩:=yle h.wf h.ok ((hgd i (by omega) c hc).cvd h (by omega) (yni h (by omega) d hd) hcd) hpl hd'
   exact ⟨c,hc,c',k1,k2,k3⟩
  have hok:∀ c∈S.getD i [],maN a l [c] l[i]=[]/\∀ c'∈cfN a l [c] l[i],zvw (zeg a) (S.getD (i+1) []) c'=true:=fun c hc=>by
   have:=hvi.1 c hc
   unfold okC at this
   simp_all
  refine ⟨fun d' hd'=>?_,eq_nil_iff_forall_not_mem.2 (fun m hm=>?_)⟩
  ·rw [(zru h hi).1] at hd'
   unfold cfN at hd'
   rw [zfd cfCmp_to,mem_flatMap] at hd'
   obtain ⟨d,hd,hd'⟩:=hd'
   obtain ⟨hd1,hd2⟩:=yan hd'
   obtain ⟨c,hc,c',k1,k2,k3⟩:=key d hd d' hd1
   have hc':c'∈cfN a l [c] l[i]:=by
    unfold cfN
    rw [zfd cfCmp_to,mem_flatMap]
    refine ⟨c,by simp,?_⟩
    unfold cfO
    refine mem_filter.2 ⟨k1,?_⟩
    rw [k2,decide_eq_false (by omega)]
    rfl
   obtain ⟨c2,j1,j2⟩:=any_eq_true.1 ((hok c hc).2 c' hc')
   exact any_eq_true.2 ⟨c2,j1,yie j2 (k3 hd2)⟩
  ·unfold maN at hm
   rw [zfd zc3,mem_flatMap] at hm
   obtain ⟨d,hd,hm⟩:=hm
   unfold maO at hm
   obtain ⟨d',hd',_⟩:=mem_map.1 hm
   obtain ⟨hd1,hd2⟩:=mem_filter.1 hd'
   rw [decide_eq_true_eq] at hd2
   obtain ⟨c,hc,c',k1,k2,_⟩:=key d hd d' hd1
   have:(⟨c'.fBindings⟩:Ma)∈maN a l [c] l[i]:=by
    unfold maN
    rw [zfd zc3,mem_flatMap]
    refine ⟨c,by simp,?_⟩
    unfold maO
    exact mem_map.2 ⟨c',mem_filter.2 ⟨k1,by simp_all⟩,rfl⟩
   simp_all
 have all:∀ i,i<=l.length->∀ d∈xsI a l i,zvw (zeg a) (S.getD i []) d=true:=by
  intro i
  induction i with
  |zero =>
   intro _ d hd
   rw [(zz9 a l).1] at hd
   simp_all
  |succ i ih=>grind
 simp_all
theorem ykr (h:GS a l)(hS:zqm a l S)(h0:zvw (zeg a) (S.getD 0 []) cf0=true)(hv:vOk a l S l 0=true):msI a l l.length=[] :=
 (yr7 h).2 (fun j _ hj=>(yg5 h hS h0 hv j (by omega)).2 hj)
theorem yhr (hw:WfA a)(l:List Ev):∃ g:Bool,zby N0 a l=some g/\(g=true->GS a l):=by
 obtain ⟨b,b1,b2⟩:=ygb a hw l
 unfold zby
 simp only [z24,z1d,z63]
 rw [b1,z04]
 cases b with
 |false=>exact ⟨false,z5d _ _,fun h=>by cases h⟩
 |true =>
  obtain ⟨hf,hl,q,hb,hs⟩:=b2 rfl
  have e:z2o N0 a l=z6l N0 a l:=by unfold z2o z6l;rfl
  rw [z4u,<-e,hb,z04]
  refine ⟨_,rfl,fun hq=>GS.of hw b1 ?_⟩
  simp_all
theorem zxs (r:z0m)(c:Cf)(hl:c.fStarts.length<=1000000):∀ (m k:Nat),k<=c.fStarts.length->c.fStarts.length<m+k->∃ v:Int,z1m N0 c r (some 0) m (k:Int)=some v/\(v=0->∀ j (hj:j<c.fStarts.length),k<=j->((0<=c.fStarts[j].fScope/\c.fStarts[j].fScope<r.fa.fScopes)/\0<=c.fStarts[j].fTime/\c.fStarts[j].fTime<=1099511627776)/\(0<j->(c.fStarts[j-1]'(by omega)).fScope<c.fStarts[j].fScope))
 |0,k,h1,h2=>by omega
 |m+1,k,h1,h2=>by
  unfold z1m
  simp only [length_map,z0d,z24,z1d,z23,z3w,z4u,z5d]
  by_cases h:k<c.fStarts.length
  ·obtain ⟨v,v1,v2⟩:=zxs r c hl m (k+1) (by omega) (by omega)
   rw [if_pos (by omega),z0k h]
   by_cases g1:c.fStarts[k].fScope<0
   ·rw [if_pos g1];exact ⟨_,rfl,fun q=>absurd q (by decide)⟩
   rw [if_neg g1]
   by_cases g2:r.fa.fScopes<=c.fStarts[k].fScope
   ·rw [if_pos g2];exact ⟨_,rfl,fun q=>absurd q (by decide)⟩
   rw [if_neg g2]
   by_cases g3:c.fStarts[k].fTime<0
   ·rw [if_pos g3];exact ⟨_,rfl,fun q=>absurd q (by decide)⟩
   rw [if_neg g3]
   by_cases g4:1099511627776<c.fStarts[k].fTime
   ·rw [if_pos g4];exact ⟨_,rfl,fun q=>absurd q (by decide)⟩
   rw [if_neg g4,z1s k (by omega)]
   by_cases h0:0<k
   ·rw [if_pos (by omega),y3x k (by omega) (by omega),z0k (by omega:k-1<c.fStarts.length)]
    by_cases g5:c.fStarts[k].fScope<=c.fStarts[k-1].fScope
    ·rw [if_pos g5];exact ⟨_,rfl,fun q=>absurd q (by decide)⟩
    rw [if_neg g5]
    refine ⟨v,v1,fun q j hj hkj=>?_⟩
    by_cases e:j=k
    ·subst e
     exact ⟨⟨⟨by omega,by omega⟩,by omega,by omega⟩,fun _=>by omega⟩
    ·exact v2 q j hj (by omega)
   ·rw [if_neg (by omega)]
    refine ⟨v,v1,fun q j hj hkj=>?_⟩
    by_cases e:j=k
    ·subst e
     exact ⟨⟨⟨by omega,by omega⟩,by omega,by omega⟩,fun h=>absurd h h0⟩
    ·exact v2 q j hj (by omega)
  ·rw [if_neg (by omega)]
   exact ⟨0,rfl,fun _ j hj hkj=>by omega⟩
theorem zxt (r:z0m)(held:List Ev)(hm:HM held r.fheld)(c:Cf)(hl:c.fBindings.length<=1000000)(K:Option Int)(v0:Int)(hK:K=some v0):∀ (m k:Nat),k<=c.fBindings.length->c.fBindings.length<m+k->∃ v:Int,z2i N0 c r K m (k:Int)=some v/\(v=0->v0=0/\∀ j (hj:j<c.fBindings.length),k<=j->((0<=c.fBindings[j].fVar/\c.fBindings[j].fVar<r.fa.fVars)/\(lkH held c.fBindings[j].fRef).isSome=true)/\(0<j->zsh (c.fBindings[j-1]'(by omega)).fRef c.fBindings[j].fRef<0))
 |0,k,h1,h2=>by omega
 |m+1,k,h1,h2=>by
  unfold z2i
  simp only [length_map,z0d,z24,z1d,z3v,z3u,z4u,z5d,z0y]
  by_cases h:k<c.fBindings.length
  ·obtain ⟨v,v1,v2⟩:=zxt r held hm c hl K v0 hK m (k+1) (by omega) (by omega)
   have e1:(⟨c.fBindings[k].fRef.fTime,c.fBindings[k].fRef.fSource,c.fBindings[k].fRef.fSeq⟩:Rf)=c.fBindings[k].fRef:=rfl
   rw [if_pos (by omega),z0k h,e1,yce,hm]
   by_cases g1:c.fBindings[k].fVar<0
   ·rw [if_pos g1];exact ⟨_,rfl,fun q=>absurd q (by decide)⟩
   rw [if_neg g1]
   by_cases g2:r.fa.fVars<=c.fBindings[k].fVar
   ·rw [if_pos g2];exact ⟨_,rfl,fun q=>absurd q (by decide)⟩
   rw [if_neg g2,z1s k (by omega)]
   have fin:(lkH held c.fBindings[k].fRef).isSome=true->(0<k->zsh (c.fBindings[k-1]'(by omega)).fRef c.fBindings[k].fRef<0)->v=0->v0=0/\∀ j (hj:j<c.fBindings.length),k<=j->((0<=c.fBindings[j].fVar/\c.fBindings[j].fVar<r.fa.fVars)/\(lkH held c.fBindings[j].fRef).isSome=true)/\(0<j->zsh (c.fBindings[j-1]'(by omega)).fRef c.fBindings[j].fRef<0):=fun s1 s2 q=>by
    refine ⟨(v2 q).1,fun j hj hkj=>?_⟩
    by_cases e:j=k
    ·subst e
     exact ⟨⟨⟨by omega,by omega⟩,s1⟩,s2⟩
    ·exact (v2 q).2 j hj (by omega)
   by_cases h0:0<k
   ·have e2:(⟨c.fBindings[k-1].fRef.fTime,c.fBindings[k-1].fRef.fSource,c.fBindings[k-1].fRef.fSeq⟩:Rf)=c.fBindings[k-1].fRef:=rfl
    rw [if_pos (by omega),y3x k (by omega) (by omega),z0k (by omega:k-1<c.fBindings.length),e2,ygi,z04]
    by_cases g3:0<=zsh c.fBindings[k-1].fRef c.fBindings[k].fRef
    ·rw [if_pos g3];exact ⟨_,rfl,fun q=>absurd q (by decide)⟩
    rw [if_neg g3]
    cases hq:(lkH held c.fBindings[k].fRef).isSome
    ·rw [z5d];exact ⟨_,rfl,fun q=>absurd q (by decide)⟩
    ·rw [z4u];exact ⟨v,v1,fin hq (fun _=>by omega)⟩
   ·rw [if_neg (by omega)]
    cases hq:(lkH held c.fBindings[k].fRef).isSome
    ·rw [z5d];exact ⟨_,rfl,fun q=>absurd q (by decide)⟩
    ·rw [z4u];exact ⟨v,v1,fin hq (fun h=>absurd h h0)⟩
  ·rw [if_neg (by omega)]
   exact ⟨v0,hK,fun q=>⟨q,fun j hj hkj=>by omega⟩⟩
theorem zqk {R:α->α->Prop}(tr:∀ x y z,R x y->R y z->R x z){l:List α}(h:∀ j (hj:j<l.length),0<j->R (l[j-1]'(by omega)) l[j]):l.Pairwise R:=by
 rw [pairwise_iff_getElem]
 intro i j hi hj hij
 induction j with
 |zero=>omega
 |succ j ih =>
  have hs:=h (j+1) hj (by omega)
  simp only [Nat.add_sub_cancel] at hs
  by_cases e:i=j
  ·subst e;exact hs
  ·exact tr _ _ _ (ih (by omega) (by omega)) hs
theorem ydu (h:GS a l){mp:List (Rf×Ev)}(hm:HM (l.take i) mp)(c:Cf)(hb:c.fBindings.length<=12)(hs:c.fStarts.length<=12):∃ v:Int,z49 N0 ⟨a,mp⟩ c=some v/\(v=0->zn6 a l i c):=by
 unfold z49
 simp only [z24,z1d,z4p,z0d,z4u,length_map]
 by_cases g1:c.fState<0
 ·rw [if_pos g1];exact ⟨_,rfl,fun q=>absurd q (by decide)⟩
 rw [if_neg g1]
 by_cases g2:(a.fStates.length:Int)<=c.fState
 ·rw [if_pos g2];exact ⟨_,rfl,fun q=>absurd q (by decide)⟩
 rw [if_neg g2,if_neg (by omega)]
 obtain ⟨v0,w1,w2⟩:=zxs ⟨a,mp⟩ c (by omega) N0 0 (Nat.zero_le _) (by unfold N0;omega)
 simp only [Int.natCast_zero] at w1
 obtain ⟨v,v1,v2⟩:=zxt ⟨a,mp⟩ (l.take i) hm c (by omega) _ v0 w1 N0 0 (Nat.zero_le _) (by unfold N0;omega)
 simp only [Int.natCast_zero] at v1
 refine ⟨v,v1,fun q=>?_⟩
 obtain ⟨q0,q1⟩:=v2 q
 have q2:=w2 q0
 have hso:=h.so.st
 have hlk:∀ b∈c.fBindings,(0<=b.fVar/\b.fVar<a.fVars)/\∃ e∈l.take i,zc2 e=b.fRef/\lkH l b.fRef=some e:=fun b hbm=>by
  obtain ⟨j,hj,rfl⟩:=mem_iff_getElem.1 hbm
  obtain ⟨⟨k1,k2⟩,_⟩:=q1 j hj (Nat.zero_le _)
  refine ⟨k1,?_⟩
  obtain ⟨e,he⟩:=Option.isSome_iff_exists.1 k2
  obtain ⟨e1,e2⟩:=y0o he
  exact ⟨e,e2,e1,by rw [<-take_append_drop i l,yhk,he];rfl⟩
 have hasc:c.fBindings.Pairwise (fun x y=>zsh x.fRef y.fRef<0):=by
  refine zqk (R:=fun x y:Bd=>zsh x.fRef y.fRef<0) ?_ ?_
  ·intro x y z h1 h2
   exact znu.trans _ _ _ h1 h2
  ·intro j hj h0
   exact (q1 j hj (Nat.zero_le _)).2 h0
 have hss:SS c.fStarts:=by
  unfold SS
  refine zqk (R:=fun x y:Sta=>x.fScope<y.fScope) ?_ ?_
  ·intro x y z h1 h2
   exact Int.lt_trans h1 h2
  ·intro j hj h0
   exact (q2 j hj (Nat.zero_le _)).2 h0
 refine ⟨⟨⟨by omega,by omega⟩,fun b hbm=>?_,hss,by omega,by omega⟩,hasc,fun b hbm e he=>?_,fun s hsm=>?_⟩
 ·obtain ⟨k1,e,_,_,k2⟩:=hlk b hbm
  exact ⟨k1,by rw [k2];rfl⟩
 ·obtain ⟨_,e',k1,k2,_⟩:=hlk b hbm
  rw [<-k2]
  rw [<-take_append_drop i l] at hso
  exact (pairwise_append.1 hso).2.2 e' k1 e he
 ·obtain ⟨j,hj,rfl⟩:=mem_iff_getElem.1 hsm
  exact (q2 j hj (Nat.zero_le _)).1
theorem y4f (h:GS a l)(c:Cf)(hb:c.fBindings.length<=12)(hs:c.fStarts.length<=12):∃ v:Int,zjj N0 a (l.take i) c=some v/\(v=0->zn6 a l i c):=by
 obtain ⟨mp,hm,hbg⟩:=h.begin i
 obtain ⟨v,v1,v2⟩:=ydu h hm c hb hs
 refine ⟨v,?_,v2⟩
 unfold zjj yk0
 rw [hbg]
 simp only [z0y,z0d]
 rw [if_pos trivial,v1,z04]
structure ys1 (S:List (List Cf)):Prop where
 ln:S.length<=14
 st:∀ s∈S,s.length<=60/\∀ c∈s,c.fBindings.length<=12/\c.fStarts.length<=12
theorem q_form_l2 (h:GS a l)(hS:ys1 S)(hi1:i<S.length)(hil:i<=l.length)(K:Option Int):∀ (m k:Nat),k<=S[i].length->S[i].length<m+k->(∃ f:Int,f≠0/\z1r N0 ⟨S⟩ l a (i:Int) S[i] K m (k:Int)=some f)\/(z1r N0 ⟨S⟩ l a (i:Int) S[i] K m (k:Int)=K/\∀ j (hj:j<S[i].length),k<=j->zn6 a l i S[i][j])
 |0,k,h1,h2=>by omega
 |m+1,k,h1,h2=>by
  have hf:=(hS.st _ (getElem_mem hi1)).1
  have hln:=h.len
  have hsn:=hS.ln
  unfold z1r
  simp only [length_map,z0d,z0y,z24,z1d,z8m]
  by_cases hk:k<S[i].length
  ·have hc:=(hS.st _ (getElem_mem hi1)).2 _ (getElem_mem hk)
   have hsl:∀ (K:List Ev->Option Int),sls l 0 (i:Int) K=K (l.take i):=fun K=>by
    have:=zl9 (l:=l) (a:=0) (b:=i) (Nat.zero_le _) (by omega) K
    simpa using this
   obtain ⟨v,v1,v2⟩:=y4f h (i:=i) S[i][k] hc.1 hc.2
   rw [if_pos (by omega),z0k hk,hsl,v1,z04]
   by_cases hv:v=0
   rotate_left
   ·rw [if_neg hv]
    exact Or.inl ⟨v,hv,rfl⟩
   rw [if_pos hv,z1s k (by omega)]
   have fin:((∃ f:Int,f≠0/\z1r N0 ⟨S⟩ l a (i:Int) S[i] K m ((k+1:Nat):Int)=some f)\/(z1r N0 ⟨S⟩ l a (i:Int) S[i] K m ((k+1:Nat):Int)=K/\∀ j (hj:j<S[i].length),k+1<=j->zn6 a l i S[i][j]))->((∃ f:Int,f≠0/\z1r N0 ⟨S⟩ l a (i:Int) S[i] K m ((k+1:Nat):Int)=some f)\/(z1r N0 ⟨S⟩ l a (i:Int) S[i] K m ((k+1:Nat):Int)=K/\∀ j (hj:j<S[i].length),k<=j->zn6 a l i S[i][j])):=fun q=>q.imp id (fun ⟨r1,r2⟩=>⟨r1,fun j hj hkj=>by
    by_cases e:j=k
    ·subst e;exact v2 hv
    ·exact r2 j hj (by omega)⟩)
   have ih:=fin (q_form_l2 h hS hi1 hil K m (k+1) (by omega) (by omega))
   by_cases h0:k=0
   ·subst h0
    rw [if_neg (by simp),z5d]
    exact ih
   ·obtain ⟨j,rfl⟩:∃ j,k=j+1:=⟨k-1,by omega⟩
    have hj:j<S[i].length:=by omega
    have hcj:=(hS.st _ (getElem_mem hi1)).2 _ (getElem_mem hj)
    have e1:IntKind.wrap .i64 (((j+1:Nat):Int)-1)=(j:Int):=by rw [zee _ (by omega)];omega
    obtain ⟨v',w1,w2⟩:=yoa S[i][j] S[i][j+1] (by omega) (by omega) (by omega) (by omega)
    rw [if_pos (by omega),e1,z0k hj,w1,z04]
    by_cases hv':0<=v'
    ·rw [if_pos hv']
     exact Or.inl ⟨14,by decide,rfl⟩
    ·rw [if_neg hv']
     exact ih
  ·rw [if_neg (by omega)]
   exact Or.inr ⟨rfl,fun j hj hkj=>by omega⟩
theorem y4g (h:GS a l)(hS:ys1 S)(hln1:S.length=l.length+1):∀ (m i:Nat),i<=S.length->S.length<m+i->∃ f:Int,zak N0 ⟨S⟩ l a (some 0) m (i:Int)=some f/\(f=0->∀ j (hj:j<S.length),i<=j->∀ c∈S[j],zn6 a l j c)
 |0,i,h1,h2=>by omega
 |m+1,i,h1,h2=>by
  have hln:=h.len
  have hsn:=hS.ln
  unfold zak
  simp only [length_map,z0d]
  by_cases hi:i<S.length
  ·have hf:=(hS.st _ (getElem_mem hi)).1
   obtain ⟨f,f1,f2⟩:=y4g h hS hln1 m (i+1) (by omega) (by omega)
   rw [if_pos (by omega),z0k hi,if_neg (by omega),z1s i (by omega),f1]
   rcases q_form_l2 h hS hi (by omega) (some f) N0 0 (Nat.zero_le _) (by unfold N0;omega) with ⟨g,g1,g2⟩|⟨g1,g2⟩
   ·exact ⟨g,g2,fun q=>absurd q g1⟩
   ·refine ⟨f,g1,fun q j hj hij c hc=>?_⟩
    by_cases e:j=i
    ·subst e
     obtain ⟨k,hk,rfl⟩:=mem_iff_getElem.1 hc
     exact g2 k hk (Nat.zero_le _)
    ·exact f2 q j hj (by omega) c hc
  ·rw [if_neg (by omega)]
   exact ⟨0,rfl,fun _ j hj hij=>by omega⟩
theorem yqf (h:GS a l)(hS:ys1 S):∃ f:Int,zcl N0 a l ⟨S⟩=some f/\(f=0->zqm a l S):=by
 have hln:=h.len
 have hsn:=hS.ln
 unfold zcl
 simp only [length_map,z0d,z0y]
 rw [z1s l.length (by omega)]
 by_cases e:S.length=l.length+1
 ·rw [if_pos (by omega)]
  obtain ⟨f,f1,f2⟩:=y4g h hS e N0 0 (Nat.zero_le _) (by unfold N0;omega)
  exact ⟨f,f1,fun q=>⟨e,fun i hi=>by have:=(hS.st _ (getElem_mem hi)).1;omega,fun i hi=>f2 q i hi (Nat.zero_le _)⟩⟩
 ·rw [if_neg (by omega)]
  exact ⟨_,rfl,fun q=>absurd q (by decide)⟩
theorem yko (h:GS a l)(hS:ys1 S):∃ v:Int,z68 N0 a l ⟨S⟩=some v/\(v=0->msI a l l.length=[]):=by
 obtain ⟨f,f1,f2⟩:=yqf h hS
 by_cases hf:f=0
 ·have ok:=f2 hf
  rw [hf] at f1
  rw [yku h ok f1]
  refine ⟨_,rfl,fun q=>?_⟩
  by_cases hb:(zvw (zeg a) (S.getD 0 []) cf0 && vOk a l S l 0)=true
  ·rw [Bool.and_eq_true] at hb
   exact ykr h ok hb.1 hb.2
  ·rw [if_neg hb] at q
   cases q
 ·refine ⟨f,?_,fun q=>absurd q hf⟩
  unfold z68
  rw [y9e h,z04,z0y,z0d,if_pos rfl,f1,z04,z0y,z0d,if_neg hf]
theorem zy1 (S:List (List Cf))(K:Option Bool):∀ (m k:Nat),k<=20->20<m+k->z4h N0 ⟨S⟩ K m (k:Int)=if ∀ s∈(S.take 20).drop k,(s.length<=60/\∀ x∈s,zo8 x=true) then K else some false
 |0,k,h1,h2=>by omega
 |m+1,k,h1,h2=>by
  unfold z4h
  simp only [z24,z1d,z6o,length_map,z0d,z5d,z0y,decide_eq_true_eq]
  by_cases h:k<S.length
  ·rw [if_pos (by omega)]
   by_cases h8:k<20
   ·rw [if_pos (by omega),z0k h,z1s k (by omega),zy1 S K m (k+1) (by omega) (by omega),ysz N0 (by decide),z04]
    have hd:(S.take 20).drop k=S[k]::(S.take 20).drop (k+1):=by
     rw [z0e _ k (by simp;omega),getElem_take]
    rw [hd]
    simp only [forall_mem_cons]
    by_cases q:S[k].length<=60/\∀ x∈S[k],zo8 x=true
    ·rw [decide_eq_true q,z4u]
     split
     ·rename_i q2
      rw [if_pos ⟨q,q2⟩]
     ·rename_i q2
      rw [if_neg (fun hq=>q2 hq.2)]
    ·rw [decide_eq_false q,z5d,if_neg (fun hq=>q hq.1)]
   ·rw [if_neg (by omega),drop_eq_nil_of_le (by simp;omega)]
    simp
  ·rw [if_neg (by omega),drop_eq_nil_of_le (by simp;omega)]
   simp
theorem yo5 (S:List (List Cf)):∃ b:Bool,zct N0 ⟨S⟩=some b/\(b=true->ys1 S):=by
 unfold zct
 have:=zy1 S (some (decide ((((List.map (fun q=>AV.sl 3 (List.map z01 q)) S).length:Nat):Int)<=14))) N0 0 (by omega) (by decide)
 simp only [Int.natCast_zero,drop_zero] at this
 rw [this]
 split
 ·rename_i q
  refine ⟨_,rfl,fun h=>?_⟩
  rw [decide_eq_true_eq,length_map] at h
  rw [take_of_length_le (by omega)] at q
  refine ⟨by omega,fun s hs=>⟨(q s hs).1,fun c hc=>?_⟩⟩
  have:=(q s hs).2 c hc
  unfold zo8 at this
  rw [Bool.and_eq_true,decide_eq_true_eq,decide_eq_true_eq] at this
  exact this
 ·exact ⟨_,rfl,fun h=>by cases h⟩
theorem y5q (a:Aut)(hw:WfA a)(l:List Ev)(r:z0q):z7u N0 a l r=some true:=by
 have hawk:z9u N0=some true:=yek
 obtain ⟨S⟩:=r
 obtain ⟨g,hg,hgs⟩:=yhr hw l
 obtain ⟨b,hb,hbs⟩:=yo5 S
 unfold z7u
 simp only [z24,z1d]
 rw [hg,z04,z0y]
 have j1:z0z N0 l a true=some true:=by
  unfold z0z
  rw [z4u,hawk,z04]
 cases g with
 |false=>rw [z5d,j1]
 |true =>
  rw [z4u,hb,z04,z0y]
  cases b with
  |false=>rw [z5d,j1]
  |true =>
   have h:=hgs rfl
   obtain ⟨v,v1,v2⟩:=yko h (hbs rfl)
   rw [z4u,v1,z04]
   by_cases hv:v=0
   ·rw [hv]
    unfold z0z
    rw [show (!decide ((0:Int)=0))=false from rfl,z5d,(yo2 h).1,z04,v2 hv]
    simp [z24,z1d,z1c,z4u,hawk,z04]
   ·rw [decide_eq_false hv]
    exact j1
open Go.ChangeShapes Go.WideShapes Go.ChangeAt
theorem yem {w:World}{S:Nat->Prop}{a b c:AV}{x y z:Value}(ha:Rep w S G0 a x)(hb:Rep w S G0 b y)(hc:Rep w S G0 c z):ypx w S [a,b,c] #[x,y,z] :=
 ⟨rfl,fun i hi=>by
  have hi':i<3:=hi
  rcases i with _|_|_|i
  ·exact ha
  ·exact hb
  ·exact hc
  ·omega⟩
theorem ylb:ownKnob Tryz.prog.godebug=none:=by kernel_rfl
theorem ylj:laidOutB Tryz.prog=true:=by kernel_rfl
section
variable {H:Type} {enc:TypeId×Value->H}
theorem zoi {W W':World}{sp':Nat->Bool}(hb:Below W.heap.size W W')(ts:List TypeId):∀ (vs:List Value) (ds:List (DataW H)) (p:List MemPlace),ts.all (fun t=>Tryz.prog.readableRec t && decide (t<Tryz.prog.types.size))=true ->
  DataW.TrodAll enc Tryz.prog W 0 (fun _=>true) true ts vs ds p->(∀ x∈p,x.block<W.heap.size)->(∀ x∈p,sp' x.block=true)->DataW.TrodAll enc Tryz.prog W' 0 sp' true ts vs ds p:=by
 induction ts with
 |nil =>
  intro vs ds p _ h _ _
  match vs,ds,h with
  |[],[],h=>exact h
  |_::_,_,h=>exact h.elim
  |[],_::_,h=>exact h.elim
 |cons t ts ih =>
  intro vs ds p hr h hlt hs
  match vs,ds,h with
  |v::vs,d::ds,h =>
   obtain ⟨q,r,h1,h2,rfl⟩:=h
   have hr1:Tryz.prog.readableRec t=true/\t<Tryz.prog.types.size:=by
    have:=all_eq_true.mp hr t (mem_cons_self ..)
    rw [Bool.and_eq_true,decide_eq_true_eq] at this;exact this
   have hr2:ts.all (fun t=>Tryz.prog.readableRec t && decide (t<Tryz.prog.types.size))=true :=
    all_eq_true.mpr fun x hx=>all_eq_true.mp hr x (mem_cons_of_mem _ hx)
   exact ⟨q,r,WideElems.Trod_stays ylj hr1.1 hr1.2 h1 (fun x hx=>hb.same (hlt x (mem_append_left _ hx))) (fun x hx=>hs x (mem_append_left _ hx)),
    ih vs ds r hr2 h2 (fun x hx=>hlt x (mem_append_right _ hx)) (fun x hx=>hs x (mem_append_right _ hx)),rfl⟩
  |[],_,h=>exact h.elim
  |_::_,[],h=>exact h.elim
theorem y8k {W:World}{b:Nat}{sp:Nat->Bool}(ts:List TypeId):∀ (vs:List Value) (ds:List (DataW H)) (p:List MemPlace),DataW.TrodAll enc Tryz.prog W b sp true ts vs ds p->ds.length=ts.length:=by
 induction ts with
 |nil =>
  intro vs ds p h
  match vs,ds,h with
  |[],[],h=>rfl
  |_::_,_,h=>exact h.elim
  |[],_::_,h=>exact h.elim
 |cons t ts ih =>
  intro vs ds p h
  match vs,ds,h with
  |v::vs,d::ds,h =>
   obtain ⟨q,r,h1,h2,rfl⟩:=h
   simp only [length_cons]
   rw [ih vs ds r h2]
  |[],_,h=>exact h.elim
  |_::_,[],h=>exact h.elim
end
open Go.Joins Go.Deep
section
variable {H:Type} {enc:TypeId×Value->H} {W:World} {base:Nat} {v:Value} {d:DataW H} {p:List MemPlace}
variable {u:Value}
theorem y40 {a:Addr}(h:W.cell? a=some u):a.spot=none/\a.block<W.heap.size:=by
 unfold World.cell? at h
 split at h
 ·rename_i c _ _ hg
  split at h
  ·cases h
  ·rename_i hs
   refine ⟨by cases hh:a.spot with|none=>rfl|some _=>simp [hh] at hs,?_⟩
   rcases Nat.lt_or_ge a.block W.heap.size with hlt|hge
   ·exact hlt
   ·rw [Array.getElem?_eq_none hge] at hg;cases hg
 ·cases h
theorem zql (b off k:Nat):(⟨b,off,none⟩:Addr).add k=⟨b,off+k,none⟩:=by
 by_cases h:k=0<;>simp [Addr.add,h]
theorem y5m {β:Type}{f:α->Option β}:∀ {l:List α} {r:List β},l.mapM f=some r->r.length=l.length/\∀ k (hk:k<l.length) (hr:k<r.length),f l[k]=some r[k]
 |[],r,h=>by simp at h;subst h;exact ⟨rfl,fun k hk=>absurd hk (by simp)⟩
 |a::l,r,h=>by
  simp only [mapM_cons] at h
  cases ha:f a with
  |none=>rw [ha] at h;simp at h
  |some b =>
   rw [ha] at h
   cases hl:l.mapM f with
   |none=>rw [hl] at h;simp at h
   |some s =>
    rw [hl] at h
    simp at h
    subst h
    obtain ⟨i1,i2⟩:=y5m hl
    refine ⟨by simp [i1],fun k hk hr=>?_⟩
    cases k with
    |zero=>exact ha
    |succ k=>exact i2 k (by simpa using hk) (by simpa using hr)
theorem zn4 {a:Addr}{n:Nat}{cs:List Value}(h:W.cells? 0 a n=some cs):cs.length=n/\∀ j,j<n->W.cell? (a.add j)=some (cs.getD j undef):=by
 unfold World.cells? at h
 rw [if_pos (Nat.zero_le _)] at h
 obtain ⟨i1,i2⟩:=y5m h
 have hl:cs.length=n:=by simpa using i1
 refine ⟨hl,fun j hj=>?_⟩
 have:=i2 j (by simpa using hj) (by omega)
 rw [getElem_range] at this
 rw [this]
 simp [getElem?_eq_getElem (show j<cs.length by omega)]
set_option maxRecDepth 100000
def zq2 (W:World)(a:α->AV)(m:α)(cs:List Value):Prop :=
 cs.length=(a m).cells.length/\∀ j (hj:j<(a m).cells.length),Rep W (fun _=>True) G0 ((a m).cells[j]) (cs.getD j undef)/\(cs.getD j undef).oneCell'=true
variable {sz:Nat}
theorem yfi {a:α->AV}{t e:TypeId}(ht:Tryz.prog.underlying t=some (.slice e))(hsz:Tryz.prog.cellsOf e=sz)(h0:0<sz)(i0:Inhabited α)(hlen:∀ m,(a m).cells.length=sz)
  (each:∀ (n:Nat) (cs:List Value) (x:DataW H×List MemPlace),cs.length=sz->DataW.trod enc Tryz.prog W 0 (fun _=>true) true n e cs=some x->∃ m:α,zq2 W a m cs)
  {n:Nat}  {x:DataW H×List MemPlace} (h:DataW.trod enc Tryz.prog W 0 (fun _=>true) true n t [u]=some x):∃ l:List α,Rep W (fun _=>True) G0 (.sl sz (l.map a)) u:=by
 rcases open_slice ht h with ⟨h1,_⟩|⟨A,len,cap,m,n',D,Pl,h1,_,hlc,hm,hmm,_,hc⟩
 ·simp only [List.cons.injEq,and_true] at h1
  subst h1
  exact ⟨[],.sl none 0 (fun _ _=>.bool true) (by simp) (fun k hk=>absurd hk (by simp)) (fun h=>absurd h (by simp)) (fun k hk=>absurd hk (by simp)) (fun _ _=>rfl)⟩
 ·simp only [List.cons.injEq,and_true] at h1
  subst h1
  simp only [if_true] at hmm
  subst hmm
  rw [hsz] at hc
  have every:∀ i,∃ q:α×List Value,i<len->W.cells? 0 (A.add (i*sz)) sz=some q.2/\zq2 W a q.1 q.2:=fun i=>by
   by_cases hi:i<len
   ·obtain ⟨cs,c1,c2⟩:=hc i (by omega)
    obtain ⟨k,hk⟩:=each n' cs _ (zn4 c1).1 c2
    exact ⟨(k,cs),fun _=>⟨c1,hk⟩⟩
   ·exact ⟨(i0.default,[]),fun h=>absurd h hi⟩
  obtain ⟨f,hf⟩:=Classical.axiomOfChoice every
  have hl:((range len).map fun i=>(f i).1).length=len:=by simp
  refine ⟨(range len).map fun i=>(f i).1,?_⟩
  have e:len=(((range len).map fun i=>(f i).1).map a).length:=by simp
  have hcell:∀ k j,k<len->j<sz->W.cell? ((A.add (k*sz)).add j)=some ((f k).2.getD j undef):=fun k j hk hj=>(zn4 (hf k hk).1).2 j hj
  have:Rep W (fun _=>True) G0 (.sl sz (((range len).map fun i=>(f i).1).map a)) (.slice (some A) (((range len).map fun i=>(f i).1).map a).length m):=by
   refine .sl (some A) m (fun k j=>if k<len/\j<sz then (f k).2.getD j undef else .bool true) (by simpa using hlc) (fun k hk=>?_) (fun h0'=>?_) (fun k hk j hj=>?_) (fun k j=>?_)
   ·simp only [getElem_map];exact hlen _
   ·have hlp:0<len:=by simpa using h0'
    have c0:=y40 (hcell 0 0 hlp h0)
    obtain ⟨b,off,sp⟩:=A
    have e1:sp=none:=by simpa [Addr.add] using c0.1
    subst e1
    rw [zql,zql] at c0
    refine ⟨b,off,rfl,trivial,c0.2,fun k j hk hj=>?_⟩
    have hk':k<len:=by simpa using hk
    have:=hcell k j hk' hj
    rw [zql,zql] at this
    rw [if_pos ⟨hk',hj⟩,<-this]
    congr 2
    omega
   ·have hk':k<len:=by simpa using hk
    simp only [getElem_map,getElem_range] at hj ⊢
    have hj':j<sz:=by rw [hlen] at hj;exact hj
    rw [if_pos ⟨hk',hj'⟩]
    exact ((hf k hk').2.2 j hj).1
   ·by_cases hkj:k<len/\j<sz
    ·rw [if_pos hkj]
     exact ((hf k hkj.1).2.2 j (by rw [hlen];exact hkj.2)).2
    ·rw [if_neg hkj];rfl
  rw [<-e] at this
  exact this
theorem Rep.one_sl {xs:List AV}(h:Rep W (fun _=>True) G0 (.sl sz xs) u):u.oneCell'=true:=by
 cases h;rfl
theorem ydg {a:α->AV}{t e:TypeId}(ht:Tryz.prog.underlying t=some (.slice e))(hsz:Tryz.prog.cellsOf e=sz)(h0:0<sz)(i0:Inhabited α)(hlen:∀ m,(a m).cells.length=sz)
  (each:∀ (n:Nat) (cs:List Value) (x:DataW H×List MemPlace),cs.length=sz->DataW.trod enc Tryz.prog W 0 (fun _=>true) true n e cs=some x->∃ m:α,zq2 W a m cs)
  (hv:Value.okWide Tryz.prog W .any base t v) (h:DataW.Trod enc Tryz.prog W 0 (fun _=>true) true t v d p):∃ l:List α,Rep W (fun _=>True) G0 (.sl sz (l.map a)) v:=by
 obtain ⟨A,len,cap,rfl⟩:=okWide_slice ht hv
 obtain ⟨fuel,hf⟩:=h
 exact yfi ht hsz h0 i0 hlen each hf
theorem ync {a:α->AV}{m:α}{cs:Array Value}{xs:List AV}(hm:a m=.agg xs)(h:zq2 W a m cs.toList):Rep W (fun _=>True) G0 (a m) (.agg cs):=by
 obtain ⟨h1,h2⟩:=h
 rw [hm] at h1 h2 ⊢
 have hl:cs.size=xs.length:=by simpa [AV.cells] using h1
 have g:∀ i,cs.toList.getD i undef=cs.getD i undef:=fun i=>by
  by_cases hi:i<cs.size
  ·simp [Array.getD,hi]
  ·simp [Array.getD,hi]
 refine .agg _ hl (fun i hi=>?_) (fun i hi=>?_)
 ·have:=(h2 i hi).1
  rw [g] at this
  exact this
 ·have:=(h2 i (show i<xs.length by rw [<-hl];exact hi)).2
  rw [g] at this
  exact this
end
section
variable {H:Type} {enc:TypeId×Value->H} {W:World} {base:Nat} {v:Value} {d:DataW H} {p:List MemPlace}
def z9d (W:World)(xs:List AV)(cs:List Value):Prop :=
 cs.length=xs.length/\∀ j (hj:j<xs.length),Rep W (fun _=>True) G0 (xs[j]) (cs.getD j undef)/\(cs.getD j undef).oneCell'=true
theorem z9d.one {a:AV}{c:Value}(h:Rep W (fun _=>True) G0 a c)(h1:c.oneCell'=true):z9d W [a] [c]:=by
 refine ⟨rfl,fun j hj=>?_⟩
 have hj':j<1:=hj
 rcases j with _|j
 ·exact ⟨h,h1⟩
 ·omega
variable {cs:List Value}
theorem z9d.append {xs ys:List AV}{ds:List Value}(h1:z9d W xs cs)(h2:z9d W ys ds):z9d W (xs++ys) (cs++ds):=by
 refine ⟨by rw [length_append,length_append,h1.1,h2.1],fun j hj=>?_⟩
 by_cases h:j<xs.length
 ·have:=h1.2 j h
  rw [getElem_append_left h]
  have e:(cs++ds).getD j undef=cs.getD j undef:=by
   simp only [getD_eq_getElem?_getD]
   rw [getElem?_append_left (by rw [h1.1];exact h)]
  rw [e];exact this
 ·have hj':j-xs.length<ys.length:=by rw [length_append] at hj;omega
  have:=h2.2 (j-xs.length) hj'
  rw [getElem_append_right (by omega)]
  have e:(cs++ds).getD j undef=ds.getD (j-xs.length) undef:=by
   simp only [getD_eq_getElem?_getD]
   rw [getElem?_append_right (by rw [h1.1];omega),h1.1]
  rw [e];exact this
theorem z9d.cut {o s:Nat}{xs ys:List AV}(h1:z9d W xs ((cs.drop o).take s))(h2:z9d W ys (cs.drop (o+s))):z9d W (xs++ys) (cs.drop o):=by
 have:cs.drop o=(cs.drop o).take s++cs.drop (o+s):=by rw [<-drop_drop,take_append_drop]
 rw [this]
 exact h1.append h2
theorem z9d.done {o:Nat}(h:cs.length<=o):z9d W [] (cs.drop o):=by
 rw [drop_eq_nil_of_le h]
 exact ⟨rfl,fun j hj=>absurd hj (by simp)⟩
theorem z3f {o s:Nat}(h:o+s<=cs.length):((cs.drop o).take s).length=s:=by rw [length_take,length_drop];omega
abbrev FO (enc:TypeId×Value->H)(W:World)(t:TypeId)(sz:Nat){α:Type}(e:α->List AV):Prop :=
 ∀ (n:Nat) (cs:List Value) (x:DataW H×List MemPlace),cs.length=sz->DataW.trod enc Tryz.prog W 0 (fun _=>true) true n t cs=some x->∃ m:α,z9d W (e m) cs
variable {t:TypeId}
theorem zdn (ht:Tryz.prog.underlying t=some (.int .i64)):FO enc W t 1 (fun z:Int=>[aI z]):=fun n cs x hl h=>by
 obtain ⟨z,rfl,_⟩:=DataW.trod_int (k:=.i64) ht h
 exact ⟨z,.one (.int _ _) rfl⟩
theorem yre (ht:Tryz.prog.underlying t=some .string):FO enc W t 1 (fun z:ByteArray=>[AV.str z]):=fun n cs x hl h=>by
 obtain ⟨z,rfl,_⟩:=DataW.trod_string ht h
 exact ⟨z,.one (.str _) rfl⟩
variable {sz:Nat}
theorem yht {e:TypeId}{a:α->AV}(ht:Tryz.prog.underlying t=some (.slice e))(hsz:Tryz.prog.cellsOf e=sz)(h0:0<sz)(i0:Inhabited α)(hlen:∀ m,(a m).cells.length=sz)
  (each:FO enc W e sz (fun m:α=>(a m).cells)):FO enc W t 1 (fun l:List α=>[AV.sl sz (l.map a)]):=fun n cs x hl h=>by
 match cs,hl with
 |[c],_ =>
  obtain ⟨l,hl⟩:=yfi (a:=a) ht hsz h0 i0 hlen each h
  exact ⟨l,.one hl hl.one_sl⟩
theorem yow (ht:Tryz.prog.underlying t=some (.int .i64)):FO enc W t 1 (fun z:Int=>(aI z).cells):=zdn ht
theorem yen {fs:Array Field}{a:α->AV}(ht:Tryz.prog.underlying t=some (.struct fs))(hsz:Tryz.prog.cellsOf t=sz)(ha:∀ m,∃ xs,a m=.agg xs)(each:FO enc W t sz (fun m:α=>(a m).cells))
  (hv:Value.okWide Tryz.prog W .any base t v) (h:DataW.Trod enc Tryz.prog W 0 (fun _=>true) true t v d p):∃ m:α,Rep W (fun _=>True) G0 (a m) v:=by
 obtain ⟨cs,rfl,hz⟩:=okWide_struct ht hv
 obtain ⟨fuel,hf⟩:=h
 obtain ⟨m,hm⟩:=each fuel cs.toList _ (by simpa using hz.trans hsz) hf
 obtain ⟨xs,hx⟩:=ha m
 exact ⟨m,ync hx hm⟩
theorem yiy {a:α->AV}{e:TypeId}(ht:Tryz.prog.underlying t=some (.slice e))(hsz:Tryz.prog.cellsOf e=sz)(h0:0<sz)(i0:Inhabited α)(hlen:∀ m,(a m).cells.length=sz)
  (each:FO enc W e sz (fun m:α=>(a m).cells)) (hv:Value.okWide Tryz.prog W .any base t v) (h:DataW.Trod enc Tryz.prog W 0 (fun _=>true) true t v d p):∃ l:List α,Rep W (fun _=>True) G0 (.sl sz (l.map a)) v :=
 ydg ht hsz h0 i0 hlen each hv h
end
section
variable {H:Type} {enc:TypeId×Value->H} {W:World} {base:Nat} {v:Value} {d:DataW H} {p:List MemPlace}
def zij (x:z0q):AV:=.agg [.sl 1 (List.map (fun q=>AV.sl 3 (List.map z01 q)) x.fSets)]
theorem yrf:FO enc W 74 3 (fun m:z1g=>(z19 m).cells):=fun n cs x hl h=>by
 obtain ⟨xs,n',_,_,_,hlen,hf⟩:=DataW.trod_struct Tryz.underlying74 h
 match xs,hlen with
 |[y0,y1,y2],_ =>
  have c0:Tryz.prog.cellsOf 3=1:=by kernel_rfl
  have g0:DataW.trod enc Tryz.prog W 0 (fun _=>true) true n' 3 ((cs.drop 0).take (Tryz.prog.cellsOf 3))=some y0:=hf 0 _ rfl
  rw [c0] at g0
  obtain ⟨m0,h0⟩:=(zdn Tryz.underlying3) n' _ _ (z3f (by omega)) g0
  have c1:Tryz.prog.cellsOf 3=1:=by kernel_rfl
  have g1:DataW.trod enc Tryz.prog W 0 (fun _=>true) true n' 3 ((cs.drop 1).take (Tryz.prog.cellsOf 3))=some y1:=hf 1 _ rfl
  rw [c1] at g1
  obtain ⟨m1,h1⟩:=(zdn Tryz.underlying3) n' _ _ (z3f (by omega)) g1
  have c2:Tryz.prog.cellsOf 3=1:=by kernel_rfl
  have g2:DataW.trod enc Tryz.prog W 0 (fun _=>true) true n' 3 ((cs.drop 2).take (Tryz.prog.cellsOf 3))=some y2:=hf 2 _ rfl
  rw [c2] at g2
  obtain ⟨m2,h2⟩:=(zdn Tryz.underlying3) n' _ _ (z3f (by omega)) g2
  have r:=(show z9d W _ (cs.drop 0) from (.cut h0 (.cut h1 (.cut h2 (z9d.done (by omega))))))
  exact ⟨⟨m0,m1,m2⟩,r⟩
theorem ye9:FO enc W 76 4 (fun m:z0h=>(z0b m).cells):=fun n cs x hl h=>by
 obtain ⟨xs,n',_,_,_,hlen,hf⟩:=DataW.trod_struct Tryz.underlying76 h
 match xs,hlen with
 |[y0,y1],_ =>
  have c0:Tryz.prog.cellsOf 3=1:=by kernel_rfl
  have g0:DataW.trod enc Tryz.prog W 0 (fun _=>true) true n' 3 ((cs.drop 0).take (Tryz.prog.cellsOf 3))=some y0:=hf 0 _ rfl
  rw [c0] at g0
  obtain ⟨m0,h0⟩:=(zdn Tryz.underlying3) n' _ _ (z3f (by omega)) g0
  have c1:Tryz.prog.cellsOf 74=3:=by kernel_rfl
  have g1:DataW.trod enc Tryz.prog W 0 (fun _=>true) true n' 74 ((cs.drop 1).take (Tryz.prog.cellsOf 74))=some y1:=hf 1 _ rfl
  rw [c1] at g1
  obtain ⟨m1,h1⟩:=(yrf) n' _ _ (z3f (by omega)) g1
  have r:=(show z9d W _ (cs.drop 0) from (.cut h0 (.cut h1 (z9d.done (by omega)))))
  exact ⟨⟨m0,m1⟩,r⟩
theorem ylp:FO enc W 102 2 (fun m:z0a=>(z08 m).cells):=fun n cs x hl h=>by
 obtain ⟨xs,n',_,_,_,hlen,hf⟩:=DataW.trod_struct Tryz.underlying102 h
 match xs,hlen with
 |[y0,y1],_ =>
  have c0:Tryz.prog.cellsOf 3=1:=by kernel_rfl
  have g0:DataW.trod enc Tryz.prog W 0 (fun _=>true) true n' 3 ((cs.drop 0).take (Tryz.prog.cellsOf 3))=some y0:=hf 0 _ rfl
  rw [c0] at g0
  obtain ⟨m0,h0⟩:=(zdn Tryz.underlying3) n' _ _ (z3f (by omega)) g0
  have c1:Tryz.prog.cellsOf 3=1:=by kernel_rfl
  have g1:DataW.trod enc Tryz.prog W 0 (fun _=>true) true n' 3 ((cs.drop 1).take (Tryz.prog.cellsOf 3))=some y1:=hf 1 _ rfl
  rw [c1] at g1
  obtain ⟨m1,h1⟩:=(zdn Tryz.underlying3) n' _ _ (z3f (by omega)) g1
  have r:=(show z9d W _ (cs.drop 0) from (.cut h0 (.cut h1 (z9d.done (by omega)))))
  exact ⟨⟨m0,m1⟩,r⟩
theorem yhu:FO enc W 60 3 (fun m:z00=>(z01 m).cells):=fun n cs x hl h=>by
 obtain ⟨xs,n',_,_,_,hlen,hf⟩:=DataW.trod_struct Tryz.underlying60 h
 match xs,hlen with
 |[y0,y1,y2],_ =>
  have c0:Tryz.prog.cellsOf 3=1:=by kernel_rfl
  have g0:DataW.trod enc Tryz.prog W 0 (fun _=>true) true n' 3 ((cs.drop 0).take (Tryz.prog.cellsOf 3))=some y0:=hf 0 _ rfl
  rw [c0] at g0
  obtain ⟨m0,h0⟩:=(zdn Tryz.underlying3) n' _ _ (z3f (by omega)) g0
  have c1:Tryz.prog.cellsOf 42=1:=by kernel_rfl
  have g1:DataW.trod enc Tryz.prog W 0 (fun _=>true) true n' 42 ((cs.drop 1).take (Tryz.prog.cellsOf 42))=some y1:=hf 1 _ rfl
  rw [c1] at g1
  obtain ⟨m1,h1⟩:=(yht (sz:=4) (a:=z0b) Tryz.underlying42 (by kernel_rfl) (by omega) inferInstance (fun _=>rfl) (ye9)) n' _ _ (z3f (by omega)) g1
  have c2:Tryz.prog.cellsOf 58=1:=by kernel_rfl
  have g2:DataW.trod enc Tryz.prog W 0 (fun _=>true) true n' 58 ((cs.drop 2).take (Tryz.prog.cellsOf 58))=some y2:=hf 2 _ rfl
  rw [c2] at g2
  obtain ⟨m2,h2⟩:=(yht (sz:=2) (a:=z08) Tryz.underlying58 (by kernel_rfl) (by omega) inferInstance (fun _=>rfl) (ylp)) n' _ _ (z3f (by omega)) g2
  have r:=(show z9d W _ (cs.drop 0) from (.cut h0 (.cut h1 (.cut h2 (z9d.done (by omega))))))
  exact ⟨⟨m0,m1,m2⟩,r⟩
theorem y0x:FO enc W 31 1 (fun m:z0q=>(zij m).cells):=fun n cs x hl h=>by
 obtain ⟨xs,n',_,_,_,hlen,hf⟩:=DataW.trod_struct Tryz.underlying31 h
 match xs,hlen with
 |[y0],_ =>
  have c0:Tryz.prog.cellsOf 29=1:=by kernel_rfl
  have g0:DataW.trod enc Tryz.prog W 0 (fun _=>true) true n' 29 ((cs.drop 0).take (Tryz.prog.cellsOf 29))=some y0:=hf 0 _ rfl
  rw [c0] at g0
  obtain ⟨m0,h0⟩:=(yht (sz:=1) (a:=(fun l:List z00=>AV.sl 3 (l.map z01))) Tryz.underlying29 (by kernel_rfl) (by omega) inferInstance (fun _=>rfl) (yht (sz:=3) (a:=z01) Tryz.underlying57 (by kernel_rfl) (by omega) inferInstance (fun _=>rfl) (yhu))) n' _ _ (z3f (by omega)) g0
  have r:=(show z9d W _ (cs.drop 0) from (.cut h0 (z9d.done (by omega))))
  exact ⟨⟨m0⟩,r⟩
theorem zwh (hv:Value.okWide Tryz.prog W .any base 31 v)(h:DataW.Trod enc Tryz.prog W 0 (fun _=>true) true 31 v d p):∃ m:z0q,Rep W (fun _=>True) G0 (zij m) v :=
 yen Tryz.underlying31 (by kernel_rfl) (fun _=>⟨_,rfl⟩) y0x hv h
end
theorem y4j (a:z07)(hw:WfA a)(l:List z03)(q:z0q):Con E0 true 7 [z0n a,.sl 5 (l.map z02),zij q] (.bool true):=zhb (y5q a hw l q)
section
variable {H:Type} {enc:TypeId×Value->H}
set_option maxRecDepth 100000 in
theorem y9n (F:Stop.Interp)(os:Os)(started:os.Started){f:FuncId}{fn:Func}{s:ChangeSpec}{fr:Bool}(hf:Tryz.prog.funcs[f]? = some fn)(hni:Tryz.prog.inits.idxOf? f=none)
  (hw:∃ (w:World) (tape:Tape) (i:Input),w.os=os/\(w.forCall tape i).Shaped Tryz.checked.prog/\i.vars=[]/\Input.okWide Tryz.checked.prog (w.forCall tape i) .any w.heap.size f i /\
    (Rows.OpenSpec.upto s).pre6 enc Tryz.checked.prog fn [] false (w.forCall tape i).memory i.args/\Assume.holds {} Tryz.checked.prog (lone (Frame.enter Tryz.checked.prog f i.args .normal) [] (w.forCall tape i)))
  (hvars:s.vars=[]) (hres:fn.resultTypes=#[4]) (hread:fn.params.toList.all (fun t=>Tryz.prog.readableRec t && decide (t<Tryz.prog.types.size))=true)
  (hspec:∀ ds:List (DataW H),ds.length=fn.params.size->s.fn H ds={ results:=[.lit (.bool true)],args:=ds })
  (hopen:∀ (W:World) (base:Nat) (args:Array Value) (ds:List (DataW H)) (p:List MemPlace),(∀ (j:Nat) t v,fn.params[j]? = some t->args[j]? = some v->Value.okWide Tryz.prog W .any base t v) ->
    DataW.TrodAll enc Tryz.prog W 0 (fun _=>true) true fn.params.toList args.toList ds p->Rows.uptoBulkAll ds<=1048576->∃ avs,ypx W (fun _=>True) avs args/\Con E0 fr f avs (.bool true)) :
  ReturnsInHanded {} Tryz.checked os f .any ((Rows.OpenSpec.upto s).pre6 enc Tryz.prog fn [] false) (((Rows.OpenSpec.upto s).at F).post enc Tryz.prog fn false true false false):=by
 refine returnsInHanded_of_cond (C:=Tryz.checked) (s:=Rows.OpenSpec.upto s) (k:=Rows.uptoSmall) rfl ylb started hni hf hw ?_
 intro W base args ds gs before hval hW hcnd hk _
 show Calls Tryz.checked.prog f args W fun e W'=>∃ v,e=.returned v/\s.post enc Tryz.prog fn false true false false W args v W'
 have hW':=hW
 obtain ⟨p,q,hA,hV,rfl,hfz,hnd⟩:=hW
 have hlt:∀ x∈p++q,x.block<W.heap.size:=fun x hx=>DataW.Whole.lt hW' x hx
 rw [show (Rows.OpenSpec.upto s).vars=s.vars from rfl,hvars] at hV
 obtain ⟨rfl,rfl⟩:=trodVars_none hV
 have hbk:Rows.uptoBulkAll ds<=1048576:=by
  have:=of_decide_eq_true hk
  rwa [append_nil] at this
 obtain ⟨avs,hargs,hcon⟩:=hopen W base args ds p hval hA hbk
 refine (hcon.2 (fun _=>True) W args hargs).mono fun e W' ⟨v,he,⟨hb,_⟩,hv⟩=>?_
 have hv:=hv.bool_inv
 subst hv
 subst he
 have hdl:ds.length=fn.params.size:=(y8k _ _ _ _ hA).trans (by simp)
 have hsp:s.fn H (ds++[])={ results:=[.lit (.bool true)],args:=ds }:=by rw [append_nil];exact hspec ds hdl
 have hltp:∀ x∈p,x.block<W.heap.size:=fun x hx=>hlt x (by simp [hx])
 have k0:=zoi (sp':=fun b=>decide (b<W.heap.size)) hb _ _ _ _ hread hA hltp (fun x hx=>by simpa using hltp x hx)
 have k1:=zoi (sp':=fun _=>true) hb _ _ _ _ hread hA hltp (fun x hx=>rfl)
 have hrl:(Value.bool true).resultList fn.resultTypes.size=[.bool true]:=by rw [hres];rfl
 have hrt:fn.resultTypes.toList=[4]:=by rw [hres]
 refine ⟨_,rfl,ds,[],_,[],p,[],hW',?_,?_,?_,World.keptBut_mono (fun x hx=>⟨hx,?_⟩) (hb.frame (·∈p++[])),fun h=>?_⟩
 ·rw [hsp,hrt,hrl];exact trodAll_mk1 (shut_bool Tryz.underlying4 true)
 ·rw [hsp];exact k0
 ·rw [hsp,hvars];exact rfl
 ·exact Or.inr (Or.inl (by simpa using hx))
 ·rw [hrt,hrl,hvars]
  refine ⟨?_,[.lit (.bool true)]++ds,[],p,⟨p,[],?_,rfl,by simp,?_,fun h=>by simp at h⟩,?_⟩
  ·rw [hres];intro j t r ht hr
   match j with
   |0 =>
    obtain rfl:4=t:=Option.some.inj ht
    obtain rfl:Value.bool true=r:=Option.some.inj hr
    exact okWide_bool_mk Tryz.underlying4 true
   |j+1=>exact absurd hr (by simp)
  ·exact trodAll_append k1 (trodAll_mk1 (shut_bool Tryz.underlying4 true))
  ·intro b off hp
   have hin:MemPlace.cell b off∈p++[]:=by simpa using hp
   rw [hb.frozen (hlt _ hin)]
   exact hfz b off hin
  ·intro x hx _
   simpa using hx
end
end Go.Proofs.YtidhlpjgifoneaaGreat
