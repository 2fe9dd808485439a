/- Layer 56, plainly. -/
import Derived.Test.YthbogefcfhmpgaaGreatK22
set_option linter.unusedVariables false
set_option linter.unusedSimpArgs false
set_option maxRecDepth 100000
namespace Go.Proofs.YthbogefcfhmpgaaGreat
open Go.RowKit List
open List renaming length_map->aA,getElem_mem->aD,drop_eq_getElem_cons->aE,getElem?_eq_getElem->aF,replicate->aG,drop_eq_nil_of_le->aH,mem_cons_of_mem->aJ,mem_cons->aN,getD_eq_getElem?_getD->aO,length_set->aP,mem_singleton->aR,foldl_cons->aT,countP_le_length->aU,length_replicate->aV,mem_flatMap->aW,drop_zero->aX,eq_of_mem_replicate->aY,nodup_cons->aZ,take_append_drop->bB,length_cons->bC,map_cons->bD,length_nil->bE
open Int renaming toNat_of_nonneg->aB,natCast_zero->aC,toNat_natCast->aM
open Or renaming inr->aK,inl->aL
open Bool renaming not_true->aQ,not_false->aS
theorem Nj {α β:Type}{o:Option α}{k:α->Option β}{r:β}(h:bnd o k=some r):∃ a,o=some a/\k a=some r:=by
 unfold bnd at h
 cases o with
 |none=>cases h
 |some a=>exact ⟨a,rfl,h⟩
theorem cnd_inv {β:Type}{b:Bool}{x y:Option β}{r:β}(h:cnd b x y=some r):(b=true/\x=some r)\/(b=false/\y=some r):=by
 cases b with
 |true=>rw [Af] at h;exact aL ⟨rfl,h⟩
 |false=>rw [Ag] at h;exact aK ⟨rfl,h⟩
variable {n:Nat}{a:Aut}
theorem z7e {x:Ed}{K:Option Int}:∀ (m:Nat) (k:Int),G1 n x a K m k=some 0->K=some 0
 |0,k,h=>by unfold G1 at h;cases h
 |m+1,k,h=>by
  unfold G1 at h
  rcases cnd_inv h with ⟨_,h⟩|⟨_,h⟩
  ·unfold idxD at h
   split at h
   ·split at h
    ·split at h
     ·obtain ⟨c,_,h⟩:=Nj h
      rcases cnd_inv h with ⟨q,h⟩|⟨_,h⟩
      ·injection h with h;subst h;simp at q
      ·exact z7e m _ h
     ·cases h
    ·cases h
   ·cases h
  ·exact h
theorem zkx (hn:10000000<n){x:Ed}(hx:WfX x){bf:Int}(h:Hj n a x bf=some 0):0<=x.fType/\∀ l∈x.fLimits,0<=l.fSpan/\l.fSpan<=1099511627776:=by
 have t2:Cn n bf x a true≠some 0:=by
  unfold Cn
  rw [Af]
  intro h;cases h
 have hll:=hx.ll
 unfold Hj at h
 simp only [Ax,Ae,Qg,A4] at h
 rcases cnd_inv h with ⟨_,h⟩|⟨_,h⟩
 ·exact absurd h t2
 rcases cnd_inv h with ⟨_,h⟩|⟨_,h⟩
 ·exact absurd h t2
 rcases cnd_inv h with ⟨_,h⟩|⟨_,h⟩
 ·exact absurd h t2
 rcases cnd_inv h with ⟨_,h⟩|⟨_,h⟩
 ·exact absurd h t2
 cases q:(decide (0<=x.fType) && decide (x.fType<16)) with
 |false=>rw [q] at h;exact absurd h t2
 |true =>
  rw [q] at h
  simp only [Bool.and_eq_true,decide_eq_true_eq] at q
  refine ⟨q.1,?_⟩
  unfold Cn at h
  rw [aQ,Ag] at h
  rcases cnd_inv h with ⟨_,h⟩|⟨_,h⟩
  ·cases h
  obtain ⟨c,_,h⟩:=Nj h
  rcases cnd_inv h with ⟨q',h⟩|⟨_,h⟩
  ·injection h with h;subst h;simp at q'
  rcases cnd_inv h with ⟨_,h⟩|⟨_,h⟩
  ·cases h
  have h:=z7e _ _ h
  obtain ⟨_,_,h⟩:=Nj h
  obtain ⟨c,_,h⟩:=Nj h
  rcases cnd_inv h with ⟨q',h⟩|⟨_,h⟩
  ·injection h with h;subst h;simp at q'
  rw [z92 n (fun l=>decide (l.fSpan<0) || decide (1099511627776<l.fSpan)) x.fLimits (by omega) (by omega) (fun l _=>by
   unfold Hg
   simp only [Ax,Ae,H8,A6]
   by_cases q:l.fSpan<0<;>simp [q]),A4] at h
  rcases cnd_inv h with ⟨_,h⟩|⟨q',_⟩
  ·cases h
  intro l hl
  have:=any_eq_false.1 q' l hl
  simp only [Bool.or_eq_true,decide_eq_true_eq,not_or] at this
  omega
theorem Zw (hl:a.fEdges.length<=1100000):∀ (m k:Nat) (bf:Int),Fv n a (some 0) m (bf,(k:Int))=some 0->∀ x∈a.fEdges.drop k,∃ bf,Hj n a x bf=some 0
 |0,k,bf,h=>by unfold Fv at h;cases h
 |m+1,k,bf,h=>by
  unfold Fv at h
  simp only [aA] at h
  rcases cnd_inv h with ⟨q,h⟩|⟨q,_⟩
  ·have hk:k<a.fEdges.length:=by have:=of_decide_eq_true q;omega
   rw [Al hk,Ai k (by omega)] at h
   obtain ⟨c,c1,h⟩:=Nj h
   rcases cnd_inv h with ⟨q',h⟩|⟨q',h⟩
   ·injection h with h;subst h;simp at q'
   ·intro x hx
    rw [aE hk] at hx
    rcases aN.1 hx with e|hx
    ·rw [e]
     refine ⟨bf,?_⟩
     rw [c1]
     simp at q'
     rw [q']
    ·exact Zw hl m (k+1) _ h x hx
  ·have:¬(k:Int)<(a.fEdges.length:Int):=of_decide_eq_false q
   rw [aH (by omega)]
   simp
theorem Zx {K:Option Int}:∀ (m:Nat) (k:Int),Fw n a K m k=some 0->K=some 0
 |0,k,h=>by unfold Fw at h;cases h
 |m+1,k,h=>by
  unfold Fw at h
  rcases cnd_inv h with ⟨_,h⟩|⟨_,h⟩
  ·unfold idx at h
   split at h
   ·split at h
    ·obtain ⟨c,_,h⟩:=Nj h
     rcases cnd_inv h with ⟨q,h⟩|⟨_,h⟩
     ·injection h with h;subst h;simp at q
     ·exact Zx m _ h
    ·cases h
   ·cases h
  ·exact h
theorem zjd (hn:10000000<n)(hw:WfA a)(h:Bz n a=some 0):(0<=a.fScopes/\a.fScopes<=64)/\∀ x∈a.fEdges,0<=x.fType/\∀ l∈x.fLimits,0<=l.fSpan/\l.fSpan<=1099511627776:=by
 have t1:D6 n a true≠some 0:=by
  unfold D6
  rw [Af]
  intro h;cases h
 have t2:D5 n a true≠some 0:=by
  unfold D5
  rw [Af]
  intro h;cases h
 unfold Bz at h
 simp only [Ax,Ae] at h
 rcases cnd_inv h with ⟨_,h⟩|⟨_,h⟩
 ·exact absurd h t1
 rcases cnd_inv h with ⟨_,h⟩|⟨_,h⟩
 ·exact absurd h t1
 rcases cnd_inv h with ⟨_,h⟩|⟨q1,h⟩
 ·exact absurd h t1
 cases q:decide (64<a.fScopes) with
 |true=>rw [q] at h;exact absurd h t1
 |false =>
  rw [q] at h
  have q2:=of_decide_eq_false q
  have q1:=of_decide_eq_false q1
  refine ⟨by omega,fun x hx=>?_⟩
  unfold D6 at h
  rw [Ag] at h
  simp only [Ax,Ae] at h
  have h':D5 n a false=some 0:=by
   rcases cnd_inv h with ⟨_,h⟩|⟨_,h⟩
   ·exact absurd h t2
   rcases cnd_inv h with ⟨_,h⟩|⟨_,h⟩
   ·exact absurd h t2
   cases q9:decide ((2048:Int)<((List.map A7 a.fEdges).length:Int)) with
   |true=>rw [q9] at h;exact absurd h t2
   |false=>rw [q9] at h;exact h
  unfold D5 at h'
  rw [Ag] at h'
  have h2:=Zx _ _ h'
  have h3:=Zw hw.le n 0 0 (by simpa using h2)
  obtain ⟨bf,h4⟩:=h3 x (by simpa using hx)
  exact zkx hn (hw.ed x hx) h4
theorem scR {T:List Br}(hw:WfA a)(h:AOk a)(hn:10000000<n)(hc:Bz n a=some 0):ScR ⟨T,a⟩:=by
 obtain ⟨c1,c2⟩:=zjd hn hw hc
 exact ⟨⟨⟨h.st,fun x hx=>⟨(h.ed x hx).frm.1,(h.ed x hx).frm.2,(h.ed x hx).tgt.1,(h.ed x hx).tgt.2⟩,hw.le⟩,c1,fun x hx=>⟨(hw.ed x hx).lo,(hw.ed x hx).lcl,(hw.ed x hx).li,(hw.ed x hx).ll⟩,fun x hx=>(c2 x hx).2⟩,hw⟩
structure YesP (n:Nat) (sc:Scn) (M:Mp) (w:List Int):Prop where
 ne:w≠[]
 len:w.length<=300
 tt:∃ t,has M t/\Pth (ptE n sc t) t 0 w
def SnM (M:List (ByteArray×Bool))(l:List ByteArray):Prop:=∀ k,(mlk M k).getD false=true ↔ k∈l
theorem SnM.put {M:List (ByteArray×Bool)}{l:List ByteArray}(h:SnM M l)(k:ByteArray):SnM (mput M k true) (l++[k]):=fun x=>by
 rw [zfj]
 by_cases e:x=k
 ·simp [e]
 ·rw [if_neg e,h];simp [e]
theorem zlo {α:Type}[DecidableEq α]:∀ {l m:List α},l.Nodup->(∀ x∈l,x∈m)->l.length<=m.length
 |[],m,_,_=>by simp
 |x::r,m,h1,h2=>by
  have hx:=h2 x (by simp)
  have h3:=aZ.1 h1
  have ih:=zlo (m:=m.erase x) h3.2 (fun y hy=>(mem_erase_of_ne (fun e=>h3.1 (by rw [<-e];exact hy))).2 (h2 y (aJ _ hy)))
  rw [length_erase_of_mem hx] at ih
  have:0<m.length:=length_pos_of_mem hx
  simp only [bC]
  omega
theorem znu {α:Type}{c:α->α->Int}(h:TO c){l:List α}(hl:Str c l):l.Nodup:=by
 refine Pairwise.imp (fun {x y} hxy e=>?_) hl
 subst e
 have:=(h.zero x x).2 rfl
 omega
theorem zle {held:List Ev}:∀ (p r:List Ev) (cs:List Cf) (ms:List Ma),(wiP 150 a held (p++r) cs ms).2.2=true->(wiP 150 a held p cs ms).2.2=true
 |[],r,cs,ms,h=>rfl
 |f::p,r,cs,ms,h=>by
  rw [cons_append] at h
  unfold wiP at h ⊢
  split at h
  ·cases h
  ·rename_i q
   rw [if_neg q]
   exact zle p r _ _ h
noncomputable def xsI (a:Aut)(l:List Ev)(i:Nat):List Cf:=(wiP 150 a l (l.take i) [cf0] []).1
noncomputable def msI (a:Aut)(l:List Ev)(i:Nat):List Ma:=(wiP 150 a l (l.take i) [cf0] []).2.1
variable {l:List Ev}
theorem znp (h:GS a l)(i:Nat):wiP 150 a l (l.take i) [cf0] []=(xsI a l i,msI a l i,true):=by
 have h1:=h.sm
 rw [<-bB i l] at h1
 have h2:=zle (l.take i) (l.drop i) [cf0] [] (by rw [bB] at h1 ⊢;exact h1)
 unfold xsI msI
 rw [<-h2]
theorem zhj (a:Aut)(l:List Ev):xsI a l 0=[cf0]/\msI a l 0=[]:=by unfold xsI msI;rw [take_zero];exact ⟨rfl,rfl⟩
variable {i:Nat}
theorem Xn (h:GS a l)(hi:i<l.length):xsI a l (i+1)=cfN a l (xsI a l i) l[i]/\msI a l (i+1)=puts Ns (msI a l i) (maN a l (xsI a l i) l[i])/\(xsI a l (i+1)).length<=150/\(msI a l (i+1)).length<=150:=by
 have e:l.take (i+1)=l.take i++[l[i]]:=by rw [take_append_getElem]
 have h1:=znp h (i+1)
 rw [e] at h1
 obtain ⟨x,m,q1,q2,q3,q4⟩:=zeo (l.take i) [cf0] [] (by rw [h1])
 rw [znp h i] at q1
 injection q1 with w1 w2
 injection w2 with w2 _
 rw [<-w1] at q2 q3 q4
 rw [<-w2] at q2 q4
 rw [h1] at q2
 injection q2 with v1 v2
 injection v2 with v2 _
 rw [<-v1] at q3
 rw [<-v2] at q4
 exact ⟨v1,v2,q3,q4⟩
theorem znq (h:GS a l)(hi:i<=l.length):(xsI a l i).length<=150:=by
 cases i with
 |zero=>rw [(zhj a l).1];simp
 |succ i=>exact (Xn h (by omega)).2.2.1
theorem znr (h:GS a l):∀ {i:Nat},i<=l.length->∀ c∈xsI a l i,Gd57 a l i c
 |0,hi=>fun c hc=>by
  rw [(zhj a l).1] at hc
  rw [aR.1 hc]
  exact gd0 h
 |i+1,hi=>fun c hc=>by
  rw [(Xn h (by omega)).1] at hc
  exact Gd57.next h (by omega) (znr h (by omega)) c hc
variable {cs:List Cf}
theorem zl9 {held:List Ev}{xs:List Cf}(h:∀ c∈cs,c∈xs)(e:Ev):∀ d∈cfN a held cs e,d∈cfN a held xs e:=fun d hd=>by
 unfold cfN at hd ⊢
 rw [zet U5,aW] at hd ⊢
 obtain ⟨c,h1,h2⟩:=hd
 exact ⟨c,h c h1,h2⟩
structure Sb (a:Aut) (l:List Ev) (i:Nat) (cs:List Cf):Prop where
 sub:∀ c∈cs,c∈xsI a l i
 str:Str Yo cs
theorem Sb.len (h:GS a l)(hi:i<=l.length)(hc:Sb a l i cs):cs.length<=150 :=
 Nat.le_trans (zlo (znu U5 hc.str) hc.sub) (znq h hi)
theorem Sb.gd (h:GS a l)(hi:i<=l.length)(hc:Sb a l i cs):∀ c∈cs,Gd57 a l i c:=fun c hcc=>znr h hi c (hc.sub c hcc)
theorem Sb.next (h:GS a l)(hi:i<l.length)(hc:Sb a l i cs):Sb a l (i+1) (cfN a l cs l[i]) :=
 ⟨by rw [(Xn h hi).1];exact zl9 hc.sub _,zjz U5 _⟩
structure Ch (a:Aut) (l:List Ev) (f:List Cf->List Cf):Prop where
 sub:∀ i cs,Sb a l i cs->Sb a l i (f cs)
 cov:∀ cs,∀ c∈cs,covd (Gi a) (f cs) c=true
def TmS (l:List Sta):Prop:=∀ s∈l,0<=s.fTime/\s.fTime<=1099511627776
structure Cvd (a:Aut) (c d:Cf):Prop where
 cov:cov (Gi a) c d=true
 st:0<=c.fState/\c.fState<a.fStates.length
 lc:c.fBindings.length<=900000
 ld:d.fBindings.length<=900000
 tc:TmS c.fStarts
 td:TmS d.fStarts
theorem Cvd.out {c d:Cf}(h:Cvd a c d):c.fState=d.fState/\cvL c.fStarts d.fStarts=true/\rdB ((Gi a).getD c.fState.toNat []) c.fBindings=rdB ((Gi a).getD c.fState.toNat []) d.fBindings:=by
 have h1:=h.cov
 unfold Go.Proofs.YthbogefcfhmpgaaGreat.cov rdC at h1
 grind
structure FewR (S:List (List Cf)):Prop where
 ln:S.length<=14
 st:∀ s∈S,s.length<=60/\∀ c∈s,c.fBindings.length<=12/\c.fStarts.length<=12
theorem zh5:J3 2000000000=some true:=by kernel_rfl
def UsC (a:Aut)(U:Int->Prop):Prop:=∀ x∈a.fEdges,x.fTo<0\/U x.fTo->U x.fFrom
structure Rc (a:Aut) (l:List Ev) (R:Int->Prop) (i:Nat) (c:Cf):Prop where
 r:R c.fState
 st:c.fBindings=[]\/∃ x∈a.fEdges,R x.fFrom/\x.fTo=c.fState
 bd:∀ b∈c.fBindings,∃ j,∃ hj:j<l.length,j<i/\Fd l[j]=b.fRef
theorem Wz {κ ν:Type}[DecidableEq κ]:∀ (l:List (κ×ν)) (k:κ) (v:ν),(l.map (·.1)).Nodup->((mput l k v).map (·.1)).Nodup/\∀ y,y∈(mput l k v).map (·.1) ↔ y=k\/y∈l.map (·.1)
 |[],k,v,h=>by unfold mput;simp
 |(a,b)::r,k,v,h=>by
  unfold mput
  rw [bD] at h
  obtain ⟨h1,h2⟩:=aZ.1 h
  by_cases e:k=a
  ·rw [if_pos e]
   subst e
   simp only [bD,aN]
   exact ⟨h,fun y=>by grind⟩
  ·rw [if_neg e]
   obtain ⟨i1,i2⟩:=Wz r k v h2
   simp only [bD,aN]
   refine ⟨aZ.2 ⟨fun q=>?_,i1⟩,fun y=>by rw [i2];grind⟩
   rcases (i2 _).1 q with q|q
   ·exact e q.symm
   ·exact h1 q
structure HK (S:Rf->Prop) (M:List (Rf×Bool)):Prop where
 nd:(M.map (·.1)).Nodup
 s:∀ y∈M.map (·.1),S y
theorem HK.put {S:Rf->Prop}{M:List (Rf×Bool)}(h:HK S M){r:Rf}(hr:S r):HK S (mput M r true) :=
 ⟨(Wz M r true h.nd).1,fun y hy=>by
   rcases ((Wz M r true h.nd).2 y).1 hy with q|q
   ·rw [q];exact hr
   ·exact h.s y q⟩
structure Hc (S:Rf->Prop) (now:Int) (bd:List Bool) (ag:List Int) (c:Cf):Prop where
 lb:c.fBindings.length<=1000000
 ok:c.fBindings=[]\/∃ s:Nat,c.fState=(s:Int)/\bd[s]? = some true/\∃ g,ag[s]? = some g/\∃ b r,c.fBindings=b::r/\0<=b.fRef.fTime/\b.fRef.fTime<=1099511627776/\(now-b.fRef.fTime<=g->∀ x∈c.fBindings,S x.fRef)
def PsP (p:Be)(out:List Mp)(x:Ed)(s:Int):Prop:=¬s∈x.fCloses/\(x.fFrom=0->s∈x.fOpens)/\(has p.finner x.fFrom->¬s∈x.fOpens/\∃ M,out[x.fFrom.toNat]? = some M/\has M s)
theorem Wf (n:Nat)(hn:10000000<n)(a:Aut)(hsc:a.fScopes<=64)(p:Be)(hp:MK p.finner)(x:Ed)(hxo:x.fOpens.length<=1100000)(hxc:x.fCloses.length<=1100000)(out:List Mp)(ho:∀ M∈out,MK M)(hf:0<=x.fFrom/\x.fFrom.toNat<out.length):∀ (m k:Nat) (M:Mp),k<=64->64<m+k->MK M->∃ R,Cw n out x a p (fun y=>some y) m ((k:Int),M)=some R/\MK R/\∀ v,has R v->has M v\/PsP p out x v
 |0,k,M,h1,h2,h3=>by omega
 |m+1,k,M,h1,h2,h3=>by
  unfold Cw
  rw [A6]
  by_cases h:(k:Int)<a.fScopes
  ·rw [if_pos h,Gb n (k:Int) x.fOpens (by omega) (by omega),A4,Gb n (k:Int) x.fCloses (by omega) (by omega),A4]
   have key:∀ (b:Bool),(b=true->PsP p out x (k:Int))->∃ R,Dp n out x a p ((k:Int),M) (Cw n out x a p (fun y=>some y) m) b=some R/\MK R/\∀ v,has R v->has M v\/PsP p out x v:=fun b hb=>by
    unfold Dp
    simp only [Ae,Qq,Ai k (by omega)]
    cases b with
    |true =>
     rw [Af]
     obtain ⟨R,r1,r2,r3⟩:=Wf n hn a hsc p hp x hxo hxc out ho hf m (k+1) _ (by omega) (by omega) (h3.put (k:Int))
     refine ⟨R,r1,r2,fun v hv=>?_⟩
     rcases r3 v hv with q|q
     ·rcases (h3.has_put _ _).1 q with q|q
      ·rw [q];exact aK (hb rfl)
      ·exact aL q
     ·exact aK q
    |false=>rw [Ag];exact Wf n hn a hsc p hp x hxo hxc out ho hf m (k+1) _ (by omega) (by omega) h3
   have key5:∀ (c b:Bool),(c=false->¬(k:Int)∈x.fOpens)->(b=true->¬(k:Int)∈x.fCloses/\(x.fFrom=0->(k:Int)∈x.fOpens))->∃ R,E9 n out x a p ((k:Int),M) (Cw n out x a p (fun y=>some y) m) c b=some R/\MK R/\∀ v,has R v->has M v\/PsP p out x v:=fun c b hc hb=>by
    unfold E9
    simp only [Ae,Ax,Kb]
    cases hq:(mlk p.finner x.fFrom).getD false with
    |false =>
     rw [Ag]
     refine key _ (fun e=>⟨(hb e).1,(hb e).2,fun hi=>?_⟩)
     rw [(hp.get _).2 hi] at hq
     cases hq
    |true =>
     rw [Af]
     cases b with
     |false=>rw [Ag];exact key _ (fun e=>by cases e)
     |true =>
      rw [Af]
      cases c with
      |true=>simp only [aQ,Ag];exact key _ (fun e=>by cases e)
      |false =>
       simp only [aS,Af]
       rw [Gc hf.1 hf.2]
       refine key _ (fun e=>⟨(hb rfl).1,(hb rfl).2,fun hi=>⟨hc rfl,_,aF hf.2,?_⟩⟩)
       exact ((ho _ (aD hf.2)).get _).1 e
   have hao:∀ (l:List Int),(l.any fun y=>decide ((k:Int)=y))=false->¬(k:Int)∈l:=fun l e hm=>by
    have:=any_eq_false.1 e _ hm
    simp at this
   have hat:∀ (l:List Int),(l.any fun y=>decide ((k:Int)=y))=true->(k:Int)∈l:=fun l e=>by
    obtain ⟨y,hy,e⟩:=any_eq_true.1 e
    rw [decide_eq_true_eq] at e
    rw [e];exact hy
   simp only [Ae,Ax]
   rw [A6]
   split
   ·rename_i q0
    cases hcl:(x.fCloses.any fun y=>decide ((k:Int)=y)) with
    |true=>simp only [aQ,Ag];exact key5 _ _ (hao _) (fun e=>by cases e)
    |false=>simp only [aS,Af];exact key5 _ _ (hao _) (fun e=>⟨hao _ hcl,fun _=>hat _ e⟩)
   ·rename_i q0
    exact key5 _ _ (hao _) (fun e=>⟨hao _ (by simpa using e),fun e0=>absurd e0 q0⟩)
  ·rw [if_neg h]
   exact ⟨M,rfl,h3,fun v hv=>aL hv⟩
theorem zk8 (n:Nat)(hn:10000000<n)(a:Aut)(hsc:a.fScopes<=64)(p:Be)(hp:MK p.finner)(x:Ed)(hxo:x.fOpens.length<=1100000)(hxc:x.fCloses.length<=1100000)(out:List Mp)(ho:∀ M∈out,MK M)(hf:0<=x.fFrom/\x.fFrom.toNat<out.length):∃ R,Oq n p a x out=some R/\MK R/\∀ v,has R v->PsP p out x v:=by
 obtain ⟨R,r1,r2,r3⟩:=Wf n hn a hsc p hp x hxo hxc out ho hf n 0 [] (by omega) (by omega) MK.nil
 exact ⟨R,r1,r2,fun v hv=>(r3 v hv).resolve_left (Dz v)⟩
def Fx (p:Be)(out:List Mp)(x:Ed):Prop:=0<=x.fTo->has p.freachable x.fFrom->has p.finner x.fTo->∀ M s,out[x.fTo.toNat]? = some M->has M s->PsP p out x s
theorem zii {A B:Mp}(hA:MK A)(hs:∀ v,has A v->has B v)(hl:B.length<=A.length):∀ v,has B v->has A v:=fun v hv=>by
 refine Classical.byContradiction fun hn=>?_
 have hn':v ∉ A.map (fun p:Int×Bool=>p.1):=hn
 have:=U4 (l:=v::A.map (fun p:Int×Bool=>p.1)) (l':=B.map (fun p:Int×Bool=>p.1)) (aZ.2 ⟨hn',hA.nd⟩) (fun y hy=>by
  rcases aN.1 hy with e|e
  ·rw [e];exact hv
  ·exact hs y e)
 simp only [bC,aA] at this
 omega
theorem W4 (n:Nat)(hn:10000000<n)(a:Aut)(h:AutR a)(p:Be)(hp:PtOk a p)(K:Bool->List Mp->Option (List Mp)):∀ (m k:Nat) (b:Bool) (out:List Mp),k<=a.fEdges.length->a.fEdges.length<m+k->C3 a.fStates.length out->tot out<10000000->∃ b' out',Cv n a p K m (b,(k:Int),out)=K b' out'/\C3 a.fStates.length out'/\tot out'<=tot out/\(b'=true->b=true\/tot out' < tot out)/\(b=true->b'=true)/\(b'=true\/(out'=out/\∀ x∈a.fEdges.drop k,Fx p out x))
 |0,k,b,out,h1,h2,h3,h4=>by omega
 |m+1,k,b,out,h1,h2,h3,h4=>by
  have hle:=h.le
  unfold Cv
  simp only [aA]
  by_cases hk:k<a.fEdges.length
  ·rw [A6,if_pos (by omega),Al hk,aE hk]
   have hx:=h.ed _ (aD hk)
   have hlo:=h.lo _ (aD hk)
   have hlen:=h3.len
   have next:Fx p out a.fEdges[k]->∃ b' out',Cv n a p K m (b,((k+1:Nat):Int),out)=K b' out'/\C3 a.fStates.length out'/\tot out'<=tot out/\(b'=true->b=true\/tot out' < tot out)/\(b=true->b'=true)/\(b'=true\/(out'=out/\∀ x∈a.fEdges[k]::a.fEdges.drop (k+1),Fx p out x)):=fun hfx=>by
    obtain ⟨b',out',e1,e2,e3,e4,e5,e6⟩:=W4 n hn a h p hp K m (k+1) b out (by omega) (by omega) h3 h4
    refine ⟨b',out',e1,e2,e3,e4,e5,e6.imp id (fun q=>⟨q.1,fun x hx=>?_⟩)⟩
    rcases aN.1 hx with e|e
    ·rw [e];exact hfx
    ·exact q.2 x e
   have skip:Fx p out a.fEdges[k]->∃ b' out',Dc n a p (b,(k:Int),out) (Cv n a p K m) a.fEdges[k] true=K b' out'/\C3 a.fStates.length out'/\tot out'<=tot out/\(b'=true->b=true\/tot out' < tot out)/\(b=true->b'=true)/\(b'=true\/(out'=out/\∀ x∈a.fEdges[k]::a.fEdges.drop (k+1),Fx p out x)):=fun hfx=>by
    unfold Dc
    simp only [Ai k (by omega:k<=1000000000000)]
    rw [Af]
    exact next hfx
   simp only [Ax,Ae,Kb]
   rw [A6]
   by_cases q:a.fEdges[k].fTo<0
   ·rw [if_pos q];exact skip (fun h0=>by omega)
   rw [if_neg q]
   have ht:0<=a.fEdges[k].fTo/\a.fEdges[k].fTo.toNat<out.length:=by omega
   cases hre:(mlk p.freachable a.fEdges[k].fFrom).getD false with
   |false=>simp only [aS,Af];exact skip (fun _ hr=>by rw [(hp.r.get _).2 hr] at hre;cases hre)
   |true =>
    simp only [aQ,Ag]
    cases hin:(mlk p.finner a.fEdges[k].fTo).getD false with
    |false=>simp only [aS];exact skip (fun _ _ hr=>by rw [(hp.i.get _).2 hr] at hin;cases hin)
    |true =>
     simp only [aQ]
     unfold Dc
     simp only [Ai k (by omega:k<=1000000000000),aA,Ae]
     rw [Ag,C1 ht.1 ht.2,D1 ht.2]
     obtain ⟨R,r1,r2,r3⟩:=zk8 n hn a h.sc.2 p hp.i _ hlo.1 hlo.2.1 out h3.mks (by omega)
     have hmo:=h3.mks _ (aD ht.2)
     have hle:out[a.fEdges[k].fTo.toNat].length<=tot out:=by
      have:=Nb ht.2 []
      simp only [bE] at this
      omega
     obtain ⟨C,c1,c2,c3⟩:=zfd n _ R hmo r2 (by omega)
     rw [r1,A4,c1,A4,C1 ht.1 ht.2,D1 ht.2,A6]
     by_cases ql:C.length<out[a.fEdges[k].fTo.toNat].length
     ·rw [if_pos (by omega),C1 ht.1 ht.2,C9 ht.2]
      have hts:=Nb ht.2 C
      obtain ⟨b',out',e1,e2,e3,e4,e5,e6⟩:=W4 n hn a h p hp K m (k+1) true (out.set a.fEdges[k].fTo.toNat C) (by omega) (by omega) (h3.set _ c2) (by omega)
      exact ⟨b',out',e1,e2,by omega,fun _=>aK (by omega),fun _=>e5 rfl,aL (e5 rfl)⟩
     ·rw [if_neg (by omega)]
      refine next (fun _ _ _ M s hM hs=>?_)
      rw [aF ht.2] at hM
      injection hM with hM
      subst hM
      exact r3 s ((c3 s).1 (zii c2 (fun v hv=>((c3 v).1 hv).1) (by omega) s hs)).2
  ·rw [A6,if_neg (by omega),aH (by omega)]
   exact ⟨b,out,rfl,h3,Nat.le_refl _,aL,id,aK ⟨rfl,by simp⟩⟩
theorem Zp (n:Nat)(hn:10000000<n)(a:Aut)(h:AutR a)(p:Be)(hp:PtOk a p):∀ (m:Nat) (b:Bool) (out:List Mp),(tot out+1<m\/(b=false/\tot out<m))->C3 a.fStates.length out->tot out<10000000->(b=false->∀ x∈a.fEdges,Fx p out x)->∃ out',Dn n a p (fun y=>some y) m (b,out)=some out'/\C3 a.fStates.length out'/\tot out'<=tot out/\∀ x∈a.fEdges,Fx p out' x
 |0,b,out,h1,h2,h3,h4=>by omega
 |m+1,b,out,h1,h2,h3,h4=>by
  unfold Dn
  simp only
  cases b with
  |false=>rw [Ag];exact ⟨out,rfl,h2,Nat.le_refl _,h4 rfl⟩
  |true =>
   rw [Af]
   have hle:=h.le
   obtain ⟨b',out',e1,e2,e3,e4,e5,e6⟩:=W4 n hn a h p hp (fun y z=>Dn n a p (fun y=>some y) m (y,z)) n 0 false out (by omega) (by omega) h2 h3
   simp only [aC] at e1
   rw [e1]
   have h1':tot out+1<m+1:=by
    rcases h1 with h|h
    ·exact h
    ·exact absurd h.1 (by simp)
   have hb:tot out' + 1<m\/(b'=false/\tot out' < m):=by
    cases b' with
    |false=>exact aK ⟨rfl,by omega⟩
    |true=>have:=(e4 rfl).resolve_left (by simp);exact aL (by omega)
   obtain ⟨q,q1,q2,q3,q4⟩:=Zp n hn a h p hp m b' out' hb e2 (by omega) (fun eb=>by
    rcases e6 with e|⟨e,e7⟩
    ·rw [eb] at e;cases e
    ·rw [e];rw [aX] at e7;exact e7)
   exact ⟨q,q1,q2,by omega,q4⟩
theorem zi2 (n:Nat)(hn:20000000<n)(a:Aut)(h:AutR a)(p:Be)(hp:PtOk a p):∃ out,Iq n p a=some out/\C3 a.fStates.length out/\(∀ M∈out,M.length<n)/\∀ x∈a.fEdges,Fx p out x:=by
 have hst:=h.st
 unfold Iq
 simp only [aA,zm0,Ae]
 rw [zlq (by omega)]
 have hS:=zjh 0 a.fScopes.toNat [] (by simp [Srt]) (by simp)
 have hSl:=zg8 0 a.fScopes.toNat [] (by simp [Srt])
 have hsc:=h.sc
 have hfold:∀ (rem:Mp) (w:List Mp),C3 a.fStates.length w->(∀ M∈w,M.length<=64)->C3 a.fStates.length (rem.foldl (fun w q=>w.set q.1.toNat (allS a)) w)/\∀ M∈rem.foldl (fun w q=>w.set q.1.toNat (allS a)) w,M.length<=64:=fun rem=>by
  induction rem with
  |nil=>exact fun w h h'=>⟨h,h'⟩
  |cons q r ih =>
   intro w h h'
   rw [aT]
   refine ih _ (h.set _ ⟨hS.1.nodup,hS.2⟩) (fun M hM=>(mem_or_eq_of_mem_set hM).elim (h' M) (fun e=>?_))
   rw [e]
   unfold allS
   simp only [bE] at hSl
   omega
 have ha0:ArOk a.fStates.length (mkA Mp a.fStates.length):=⟨by simp [mkA],fun i j e=>by
  unfold mkA at e
  simp only [getElem?_replicate] at e
  split at e<;>simp at e⟩
 have hv0:aval (mkA Mp a.fStates.length)=aG a.fStates.length []:=by
  unfold aval mkA
  simp
 obtain ⟨f1,f2⟩:=hfold p.finner (aG a.fStates.length []) ⟨by simp,fun M hM=>by rw [aY hM];exact MK.nil⟩ (fun M hM=>by rw [aY hM];simp)
 have ht:∀ w:List Mp,(∀ M∈w,M.length<=64)->tot w<=64*w.length:=fun w=>by
  unfold tot
  induction w with
  |nil=>simp
  |cons q r ih =>
   intro hq
   have:=ih (fun M hM=>hq M (aJ _ hM))
   have:=hq q (by simp)
   simp only [bD,sum_cons,bC]
   omega
 have htt:=ht _ f2
 rw [f1.len] at htt
 obtain ⟨out,e1,e2,e3,e8⟩:=Zp n (by omega) a h p hp n true _ (aL (by omega)) f1 (by omega) (fun e=>by cases e)
 have hle:∀ M∈out,M.length<=tot out:=fun M hM=>by
  obtain ⟨i,hi,rfl⟩:=mem_iff_getElem.1 hM
  have:=Nb hi []
  simp only [bE] at this
  omega
 refine ⟨out,?_,e2,fun M hM=>by have:=hle M hM;omega,e8⟩
 have hil:p.finner.length<n:=by
  have hsub:(p.finner.map (·.1)).length<=((range a.fStates.length).map (fun (i:Nat)=>(i:Int))).length:=by
   refine U4 hp.i.nd (fun t ht'=>?_)
   have:=hp.ir t ht'
   exact mem_map.2 ⟨t.toNat,mem_range.2 this.2,by omega⟩
  simp only [aA,length_range] at hsub
  omega
 refine W8 n (by omega) a h p _ (fun w=>Dn n a p (fun y=>some y) n (true,w)) (fun N m=>by simp only [zlv,Ae]) out n p.finner (mkA Mp a.fStates.length) hil hp.i hp.ir ha0 ?_
 rw [hv0]
 exact e1
structure AgQ (n:Nat) (a:Aut) (p:Be) (out:List Mp) (k:Nat) (ag:List Int) (bd:List Bool):Prop where
 l1:ag.length=a.fStates.length
 l2:bd.length=a.fStates.length
 rng:∀ v∈ag,0<=v/\v<=mxT
 bdd:∀ i:Nat,i<k->has p.finner (i:Int)->bd[i]? = some true->∃ M s g,out[i]? = some M/\has M s/\ag[i]? = some g/\∀ x∈a.fEdges,x.fFrom=(i:Int)->(limP n x s).2=true/\(limP n x s).1<=g
def Pre (Q:Int->Prop)(w w':List Bool):Prop:=(∀ t,hs w t->Q t)->∀ t,hs w' t->Q t
variable {P:Int->Int->Prop}
theorem zfn (Q:Int->Prop)(n:Nat)(rF:Int->Aut->List Bool->Option (List Bool))(a:Aut)(X:List Int)(hX:X.length<=1100000)(N B:Nat)(rec:∀ s∈X,∀ w:List Bool,w.length=N->fre w<=B->∃ w',rF s a w=some w'/\Gr P N w w'/\Pre Q w w'):∀ (m k:Nat) (w:List Bool),k<=X.length->X.length<m+k->w.length=N->fre w<=B->∃ w',H5 n rF a X (fun y=>some y) m ((k:Int),w)=some w'/\Gr P N w w'/\Pre Q w w'
 |0,k,w,h1,h2,h3,h4=>by omega
 |m+1,k,w,h1,h2,h3,h4=>by
  unfold H5
  simp only [aA,A6]
  by_cases h:k<X.length
  ·obtain ⟨w1,e1,g1,s1⟩:=rec X[k] (aD h) w h3 h4
   rw [if_pos (by omega),Al h,Ai k (by omega),e1,Dx]
   obtain ⟨w2,e2,g2,s2⟩:=zfn Q n rF a X hX N B rec m (k+1) w1 (by omega) (by omega) g1.len (Nat.le_trans (Qr (h3.trans g1.len.symm) g1.mono) h4)
   exact ⟨w2,e2,g1.trans g2,fun q=>s2 (s1 q)⟩
  ·rw [if_neg (by omega)]
   exact ⟨w,rfl,Gr.refl h3,id⟩
theorem zot (Q:Int->Prop)(a:Aut)(hQ:∀ s t,Q s->nxS a s t->Q t)(hl:a.fEdges.length<=1100000)(N:Nat)(hN:∀ s t,nxS a s t->0<=t/\t.toNat<N):∀ (f:Nat) (s:Int) (w:List Bool),Q s->fre w<=f->w.length=N->0<=s->s.toNat<N->∀ n,20000000+f<n->∃ w',Ey n s a w=some w'/\Gr (nxS a) N w w'/\Pre Q w w'
 |f,s,w,h0,h1,h2,h3,h4,n,hn=>by
  obtain ⟨w0,e0,g0,_⟩:=Yl a hl N hN f s w h1 h2 h3 h4 n hn
  refine ⟨w0,e0,g0,?_⟩
  obtain ⟨n,rfl⟩:∃ n',n=n' + 1:=⟨n-1,by omega⟩
  have hs4:s.toNat<w.length:=by omega
  unfold Ey at e0
  simp only [aA] at e0
  rw [C1 h3 hs4,D1 hs4] at e0
  by_cases q:w[s.toNat]=true
  ·rw [q,Af] at e0
   injection e0 with e0
   subst e0
   exact id
  ·have q':w[s.toNat]=false:=by simpa using q
   have hf:=Qn hs4 q'
   rw [q',Ag,C1 h3 hs4,C9 hs4] at e0
   obtain ⟨X,x1,x2,x3⟩:=zf4 n (by omega) s a hl
   rw [x1,A4] at e0
   cases f with
   |zero=>omega
   |succ f =>
    have hset:∀ t,hs (w.set s.toNat true) t ↔ t=s\/hs w t:=fun t=>by rw [Hu hs4,aB h3]
    obtain ⟨w',e1,_,s1⟩:=zfn (P:=nxS a) Q n (Ey n) a X x2 N f (fun t ht v hv hfv=>zot Q a hQ hl N hN f t v (hQ s t h0 ((x3 t).1 ht)) hfv hv (hN _ _ ((x3 t).1 ht)).1 (hN _ _ ((x3 t).1 ht)).2 n (by omega)) n 0 (w.set s.toNat true) (by omega) (by omega) (by rw [aP];exact h2) (by omega)
    have e2:=e1.symm.trans e0
    injection e2 with e2
    subst e2
    exact fun hw=>s1 (fun t ht=>((hset t).1 ht).elim (fun e=>e▸h0) (hw t))
theorem zbp (Q:Int->Prop)(n:Nat)(hn:30000000<n)(a:Aut)(hQ:∀ s t,Q s->nxS a s t->Q t)(hl:a.fEdges.length<=1100000)(N:Nat)(hN':N<=1000000)(hN:∀ s t,nxS a s t->0<=t/\t.toNat<N)(X:List Int)(hX:X.length<=1100000)(hXr:∀ s∈X,0<=s/\s.toNat<N)(hXQ:∀ s∈X,Q s):∀ (m k:Nat) (w:List Bool),k<=X.length->X.length<m+k->w.length=N->∃ w',Ha n a X (fun y=>some y) m ((k:Int),w)=some w'/\Gr (nxS a) N w w'/\Pre Q w w'
 |0,k,w,h1,h2,h3=>by omega
 |m+1,k,w,h1,h2,h3=>by
  unfold Ha
  simp only [aA,A6,Ae]
  by_cases h:k<X.length
  ·have hx:=hXr X[k] (aD h)
   have hfw:fre w<=N:=by unfold fre;rw [<-h3];exact aU
   obtain ⟨w1,e1,g1,s1⟩:=zot Q a hQ hl N hN N X[k] w (hXQ _ (aD h)) hfw h3 hx.1 hx.2 n (by omega)
   rw [if_pos (by omega),Al h,Ai k (by omega),e1,Dx]
   obtain ⟨w2,e2,g2,s2⟩:=zbp Q n hn a hQ hl N hN' hN X hX hXr hXQ m (k+1) w1 (by omega) (by omega) g1.len
   exact ⟨w2,e2,g1.trans g2,fun q=>s2 (s1 q)⟩
  ·rw [if_neg (by omega)]
   exact ⟨w,rfl,Gr.refl h3,id⟩
variable {w:List Bool}
theorem zos (Q:Int->Prop)(n:Nat)(hn:30000000<n)(a:Aut)(hQ:∀ s t,Q s->nxS a s t->Q t)(hl:a.fEdges.length<=1100000)(hN':a.fStates.length<=1000000)(hN:∀ s t,nxS a s t->0<=t/\t.toNat<a.fStates.length)(X:List Int)(hX:X.length<=1100000)(hXr:∀ s∈X,0<=s/\s.toNat<a.fStates.length)(hXQ:∀ s∈X,Q s)(e0:Ji n a X a=some w):∀ t,hs w t->Q t:=by
 unfold Ji at e0
 simp only [aA] at e0
 rw [Di (by omega) (by decide)] at e0
 obtain ⟨w',e,g,s⟩:=zbp Q n hn a hQ hl a.fStates.length hN' hN X hX hXr hXQ n 0 (aG a.fStates.length false) (by omega) (by omega) (by simp)
 have e2:=e.symm.trans e0
 injection e2 with e2
 subst e2
 exact s (fun t ht=>absurd ht (Hv _ _))
theorem zfm (Q:Int->Prop)(n:Nat)(rF:Int->Aut->List Bool->Option (List Bool))(a:Aut)(X:List Int)(hX:X.length<=1100000)(N B:Nat)(rec:∀ s∈X,∀ w:List Bool,w.length=N->fre w<=B->∃ w',rF s a w=some w'/\Gr P N w w'/\Pre Q w w'):∀ (m k:Nat) (w:List Bool),k<=X.length->X.length<m+k->w.length=N->fre w<=B->∃ w',Gl n rF a X (fun y=>some y) m ((k:Int),w)=some w'/\Gr P N w w'/\Pre Q w w'
 |0,k,w,h1,h2,h3,h4=>by omega
 |m+1,k,w,h1,h2,h3,h4=>by
  unfold Gl
  simp only [aA,A6]
  by_cases h:k<X.length
  ·obtain ⟨w1,e1,g1,s1⟩:=rec X[k] (aD h) w h3 h4
   rw [if_pos (by omega),Al h,Ai k (by omega),e1,Dx]
   obtain ⟨w2,e2,g2,s2⟩:=zfm Q n rF a X hX N B rec m (k+1) w1 (by omega) (by omega) g1.len (Nat.le_trans (Qr (h3.trans g1.len.symm) g1.mono) h4)
   exact ⟨w2,e2,g1.trans g2,fun q=>s2 (s1 q)⟩
  ·rw [if_neg (by omega)]
   exact ⟨w,rfl,Gr.refl h3,id⟩
theorem zor (Q:Int->Prop)(a:Aut)(hQ:∀ s t,Q s->prS a s t->Q t)(hl:a.fEdges.length<=1100000)(N:Nat)(hN:∀ s t,prS a s t->0<=t/\t.toNat<N):∀ (f:Nat) (s:Int) (w:List Bool),Q s->fre w<=f->w.length=N->0<=s->s.toNat<N->∀ n,20000000+f<n->∃ w',Eo n s a w=some w'/\Gr (prS a) N w w'/\Pre Q w w'
 |f,s,w,h0,h1,h2,h3,h4,n,hn=>by
  obtain ⟨w0,e0,g0,_⟩:=Yk a hl N hN f s w h1 h2 h3 h4 n hn
  refine ⟨w0,e0,g0,?_⟩
  obtain ⟨n,rfl⟩:∃ n',n=n' + 1:=⟨n-1,by omega⟩
  have hs4:s.toNat<w.length:=by omega
  unfold Eo at e0
  simp only [aA] at e0
  rw [C1 h3 hs4,D1 hs4] at e0
  by_cases q:w[s.toNat]=true
  ·rw [q,Af] at e0
   injection e0 with e0
   subst e0
   exact id
  ·have q':w[s.toNat]=false:=by simpa using q
   have hf:=Qn hs4 q'
   rw [q',Ag,C1 h3 hs4,C9 hs4] at e0
   obtain ⟨X,x1,x2,x3⟩:=zb6 n (by omega) s a hl
   rw [x1,A4] at e0
   cases f with
   |zero=>omega
   |succ f =>
    have hset:∀ t,hs (w.set s.toNat true) t ↔ t=s\/hs w t:=fun t=>by rw [Hu hs4,aB h3]
    obtain ⟨w',e1,_,s1⟩:=zfm (P:=prS a) Q n (Eo n) a X x2 N f (fun t ht v hv hfv=>zor Q a hQ hl N hN f t v (hQ s t h0 ((x3 t).1 ht)) hfv hv (hN _ _ ((x3 t).1 ht)).1 (hN _ _ ((x3 t).1 ht)).2 n (by omega)) n 0 (w.set s.toNat true) (by omega) (by omega) (by rw [aP];exact h2) (by omega)
    have e2:=e1.symm.trans e0
    injection e2 with e2
    subst e2
    exact fun hw=>s1 (fun t ht=>((hset t).1 ht).elim (fun e=>e▸h0) (hw t))
theorem zbo (Q:Int->Prop)(n:Nat)(hn:30000000<n)(a:Aut)(hQ:∀ s t,Q s->prS a s t->Q t)(hl:a.fEdges.length<=1100000)(N:Nat)(hN':N<=1000000)(hN:∀ s t,prS a s t->0<=t/\t.toNat<N)(X:List Int)(hX:X.length<=1100000)(hXr:∀ s∈X,0<=s/\s.toNat<N)(hXQ:∀ s∈X,Q s):∀ (m k:Nat) (w:List Bool),k<=X.length->X.length<m+k->w.length=N->∃ w',Gs n a X (fun y=>some y) m ((k:Int),w)=some w'/\Gr (prS a) N w w'/\Pre Q w w'
 |0,k,w,h1,h2,h3=>by omega
 |m+1,k,w,h1,h2,h3=>by
  unfold Gs
  simp only [aA,A6,Ae]
  by_cases h:k<X.length
  ·have hx:=hXr X[k] (aD h)
   have hfw:fre w<=N:=by unfold fre;rw [<-h3];exact aU
   obtain ⟨w1,e1,g1,s1⟩:=zor Q a hQ hl N hN N X[k] w (hXQ _ (aD h)) hfw h3 hx.1 hx.2 n (by omega)
   rw [if_pos (by omega),Al h,Ai k (by omega),e1,Dx]
   obtain ⟨w2,e2,g2,s2⟩:=zbo Q n hn a hQ hl N hN' hN X hX hXr hXQ m (k+1) w1 (by omega) (by omega) g1.len
   exact ⟨w2,e2,g1.trans g2,fun q=>s2 (s1 q)⟩
  ·rw [if_neg (by omega)]
   exact ⟨w,rfl,Gr.refl h3,id⟩
theorem zoq (Q:Int->Prop)(n:Nat)(hn:30000000<n)(a:Aut)(hQ:∀ s t,Q s->prS a s t->Q t)(hl:a.fEdges.length<=1100000)(hN':a.fStates.length<=1000000)(hN:∀ s t,prS a s t->0<=t/\t.toNat<a.fStates.length)(X:List Int)(hX:X.length<=1100000)(hXr:∀ s∈X,0<=s/\s.toNat<a.fStates.length)(hXQ:∀ s∈X,Q s)(e0:Fn n a X a=some w):∀ t,hs w t->Q t:=by
 unfold Fn at e0
 simp only [aA] at e0
 rw [Di (by omega) (by decide)] at e0
 obtain ⟨w',e,g,s⟩:=zbo Q n hn a hQ hl a.fStates.length hN' hN X hX hXr hXQ n 0 (aG a.fStates.length false) (by omega) (by omega) (by simp)
 have e2:=e.symm.trans e0
 injection e2 with e2
 subst e2
 exact s (fun t ht=>absurd ht (Hv _ _))
def RsC (a:Aut)(Q:Int->Prop):Prop:=Q 0/\∀ x∈a.fEdges,Q x.fFrom->0<=x.fTo->Q x.fTo
def Rr (a:Aut)(t:Int):Prop:=∀ Q,RsC a Q->Q t
def Uu (a:Aut)(t:Int):Prop:=∀ U,UsC a U->U t
def In56 (a:Aut)(t:Int):Prop:=∃ x∈a.fEdges,0<=x.fTo/\Rr a x.fFrom/\Uu a x.fTo/\x.fTo=t
theorem Rr.ok (a:Aut):RsC a (Rr a):=⟨fun Q h=>h.1,fun x hx q h0 Q h=>h.2 x hx (q Q h) h0⟩
theorem Uu.ok (a:Aut):UsC a (Uu a):=fun x hx q U hU=>hU x hx (q.imp id (fun q=>q U hU))
theorem ze4 (n:Nat)(hn:30000000<n)(a:Aut)(h:EdR a)(hc:Bz n a=some 0):∃ L,J6 n a=some (L,0)/\L.length<=1100000/\∀ t:Int,t∈L ↔ Rr a t:=by
 have hst:=h.st
 unfold J6 Ov
 rw [hc,A4]
 simp only [Az,A6,if_true,Ui,Ae]
 have hN:∀ s t,nxS a s t->0<=t/\t.toNat<a.fStates.length:=fun s t ⟨x,hx,_,x2,x3⟩=>by have:=h.ed x hx;omega
 obtain ⟨w,e,e1,e2,e3⟩:=zlm n hn a h.le (by omega) hN [0] (by simp) (by simp;omega)
 have e4:=zos (Rr a) n hn a (fun s t q ⟨x,hx,x1,x2,x3⟩=>x2▸(Rr.ok a).2 x hx (x1.symm▸q) (by omega)) h.le (by omega) hN [0] (by simp) (by simp;omega) (fun s hs=>by rw [aR.1 hs];exact (Rr.ok a).1) e
 obtain ⟨L,l1,l2,l3⟩:=Tq n (by omega) w (by omega)
 rw [e,A4,A4,l1,A4]
 refine ⟨L,rfl,by omega,fun t=>⟨fun q=>e4 t ((l3 t).1 q),fun q=>(l3 t).2 (q (hs w) ⟨e2 0 (by simp),fun x hx q q0=>e3 _ q _ ⟨x,hx,rfl,rfl,q0⟩⟩)⟩⟩
theorem zko (n:Nat)(hn:30000000<n)(a:Aut)(h:EdR a)(hc:Bz n a=some 0):∃ L,Je n a=some (L,0)/\L.length<=1100000/\∀ t:Int,t∈L ↔ Uu a t:=by
 have hst:=h.st
 unfold Je Pk
 rw [hc,A4]
 simp only [Az,A6,if_true,Ui,Ae,Ya]
 obtain ⟨R,r1,r2,r3⟩:=Ts n a h.le (fun y=>bnd (Fn n a y a) fun x42=>some x42) n 0 [] (by omega) (by have:=h.le;omega) (by simp)
 have hR:∀ t∈R,0<=t/\t.toNat<a.fStates.length:=fun t ht=>by
  obtain h'|⟨x,hx,_,x2⟩:=(r3 t).1 ht
  ·cases h'
  ·have:=h.ed x (by simpa using hx);omega
 have hN:∀ s t,prS a s t->0<=t/\t.toNat<a.fStates.length:=fun s t ⟨x,hx,_,x2⟩=>by have:=h.ed x hx;omega
 obtain ⟨w,e,e1,e2,e3⟩:=zll n hn a h.le (by omega) hN R (by have:=h.le;omega) hR
 have e4:=zoq (Uu a) n hn a (fun s t q ⟨x,hx,x1,x2⟩=>x2▸Uu.ok a x hx (aK (x1.symm▸q))) h.le (by omega) hN R (by have:=h.le;omega) hR (fun s hs=>by
  obtain h'|⟨x,hx,x1,x2⟩:=(r3 s).1 hs
  ·cases h'
  ·rw [<-x2];exact Uu.ok a x (by simpa using hx) (aL x1)) e
 obtain ⟨L,l1,l2,l3⟩:=Tq n (by omega) w (by omega)
 simp only [aC] at r1
 rw [r1,e,A4,A4,l1,A4]
 refine ⟨L,rfl,by omega,fun t=>⟨fun q=>e4 t ((l3 t).1 q),fun q=>(l3 t).2 (q (hs w) (fun x hx q=>?_))⟩⟩
 rcases q with q|q
 ·exact e2 _ ((r3 _).2 (aK ⟨x,by simpa using hx,q,rfl⟩))
 ·exact e3 _ q _ ⟨x,hx,rfl,rfl⟩
structure PtX (a:Aut) (p:Be):Prop extends PtOk a p where
 rx:∀ t,has p.freachable t ↔ Rr a t
 ix:∀ t,has p.finner t ↔ In56 a t
theorem zn5 (n:Nat)(hn:30000000<n)(a:Aut)(h:EdR a)(hc:Bz n a=some 0):∃ p,G6 n a=some p/\PtX a p:=by
 obtain ⟨L,l1,l2,l3⟩:=ze4 n hn a h hc
 obtain ⟨U,u1,u2,u3⟩:=zko n hn a h hc
 obtain ⟨R,r1,r2,r3⟩:=Uq n (by omega) L l2
 obtain ⟨V,v1,v2,v3⟩:=Uq n (by omega) U u2
 obtain ⟨I,i1,i2,i3⟩:=Te n a h.le R V r2 v2 (fun y z=>some (⟨y,z⟩)) n 0 [] (by omega) (by have:=h.le;omega) MK.nil
 obtain ⟨p,p1,p2⟩:=zmf n hn a h hc
 refine ⟨p,p1,?_⟩
 unfold G6 at p1
 simp only [aC] at i1
 rw [l1,A4,u1,A4,r1,A4,v1,A4,i1] at p1
 injection p1 with p1
 subst p1
 have hR:∀ t,has R t ↔ Rr a t:=fun t=>by rw [r3,l3]
 refine ⟨p2,hR,fun t=>?_⟩
 simp only
 rw [i3]
 simp only [Dz,false_or,aX,v3,u3,hR]
 rfl
abbrev Rul:=Option Nat×Nat
def rAb (w:List Bool)(r:Rul):Bool:=match r.1 with
 |none=>true
 |some i=>w.getD i false
def rst (w:List Bool)(r:Rul):List Bool:=if rAb w r=true then w.set r.2 true else w
theorem zhs (w:List Bool)(r:Rul):(rst w r).length=w.length:=by unfold rst;split<;>simp
theorem zjy (i:Nat){t:Int}(h:hs w t):hs (w.set i true) t:=by
 have:=h.2
 refine ⟨h.1,?_⟩
 grind
theorem zk1 (r:Rul){t:Int}(h:hs w t):hs (rst w r) t:=by
 unfold rst
 split
 ·exact zjy _ h
 ·exact h
theorem Nk (R:List Rul)(w:List Bool):(R.foldl rst w).length=w.length:=by
 induction R generalizing w with
 |nil=>rfl
 |cons r R ih=>rw [aT,ih,zhs]
theorem zhu (R:List Rul){t:Int}(h:hs w t):hs (R.foldl rst w) t:=by
 induction R generalizing w with
 |nil=>exact h
 |cons r R ih=>exact ih (zk1 r h)
theorem rf_step:∀ (R:List Rul) (w:List Bool),(∀ r∈R,r.2<w.length)->(R.foldl rst w=w/\∀ r∈R,rAb w r=true->w[r.2]? = some true)\/fre (R.foldl rst w)<fre w
 |[],w,_=>aL ⟨rfl,by simp⟩
 |r::R,w,h=>by
  rw [aT]
  have hr:=h r (by simp)
  by_cases ha:rAb w r=true
  ·have e:rst w r=w.set r.2 true:=by unfold rst;rw [if_pos ha]
   rw [e]
   cases hq:w[r.2] with
   |true =>
    have e2:w.set r.2 true=w:=by rw [<-hq];exact List.set_getElem_self hr
    rw [e2]
    refine (rf_step R w (fun q hq=>h q (aJ _ hq))).imp (fun ⟨q1,q2⟩=>⟨q1,fun q hm=>?_⟩) id
    rcases aN.1 hm with e|e
    ·rw [e];exact fun _=>by rw [aF hr,hq]
    ·exact q2 q e
   |false =>
    right
    have h1:=Qn hr hq
    have h2:=Qr (m:=w.set r.2 true) (w:=R.foldl rst (w.set r.2 true)) (by rw [Nk]) (fun t=>zhu R)
    omega
  ·have e:rst w r=w:=by unfold rst;rw [if_neg ha]
   rw [e]
   refine (rf_step R w (fun q hq=>h q (aJ _ hq))).imp (fun ⟨q1,q2⟩=>⟨q1,fun q hm=>?_⟩) id
   rcases aN.1 hm with e|e
   ·rw [e];exact fun q=>absurd q ha
   ·exact q2 q e
theorem zli {Q:Int->Prop}:∀ (R:List Rul) (hQ:∀ r∈R,(∀ i:Nat,r.1=some i->Q i)->Q (r.2:Int)) (w:List Bool),(∀ r∈R,r.2<w.length)->(∀ t,hs w t->Q t)->∀ t,hs (R.foldl rst w) t->Q t
 |[],_,w,_,h=>h
 |r::R,hQ,w,hl,h=>by
  rw [aT]
  refine zli R (fun q hq=>hQ q (aJ _ hq)) _ (fun q hq=>by rw [zhs];exact hl q (aJ _ hq)) (fun t ht=>?_)
  unfold rst at ht
  split at ht
  ·rename_i ha
   rcases (Hu (hl r (by simp)) t).1 ht with e|e
   ·rw [e]
    refine hQ r (by simp) (fun i hi=>h _ ⟨by omega,?_⟩)
    unfold rAb at ha
    rw [hi] at ha
    simp only at ha
    rw [aM]
    rw [aO] at ha
    cases e3:w[i]? with
    |none=>rw [e3] at ha;cases ha
    |some b=>rw [e3] at ha;rw [Option.getD_some] at ha;rw [ha]
   ·exact h t e
  ·exact h t ht
def rnds (R:List Rul):Nat->List Bool->List Bool
 |0,w=>w
 |d+1,w=>rnds R d (R.foldl rst w)
theorem zew {R:List Rul}(h:R.foldl rst w=w):∀ d,rnds R d w=w
 |0=>rfl
 |d+1=>by unfold rnds;rw [h];exact zew h d
theorem Xp {R:List Rul}:∀ (d:Nat) (w:List Bool),(∀ r∈R,r.2<w.length)->fre w<=d->(rnds R d w).length=w.length/\(∀ t,hs w t->hs (rnds R d w) t)/\∀ r∈R,rAb (rnds R d w) r=true->hs (rnds R d w) (r.2:Int)
 |0,w,h,hf=>by
  refine ⟨rfl,fun t=>id,?_⟩
  rcases rf_step R w h with ⟨_,e⟩|e
  ·exact fun r hr q=>⟨by omega,by rw [aM];exact e r hr q⟩
  ·omega
 |d+1,w,h,hf=>by
  unfold rnds
  rcases rf_step R w h with ⟨e0,e⟩|e
  ·rw [e0,zew e0]
   exact ⟨rfl,fun t=>id,fun r hr q=>⟨by omega,by rw [aM];exact e r hr q⟩⟩
  ·obtain ⟨i1,i2,i3⟩:=Xp (R:=R) d (R.foldl rst w) (fun r hr=>by rw [Nk];exact h r hr) (by omega)
   exact ⟨by rw [i1,Nk],fun t ht=>i2 t (zhu R ht),i3⟩
theorem X6 {Q:Int->Prop}{R:List Rul}(hQ:∀ r∈R,(∀ i:Nat,r.1=some i->Q i)->Q (r.2:Int)):∀ (d:Nat) (w:List Bool),(∀ r∈R,r.2<w.length)->(∀ t,hs w t->Q t)->∀ t,hs (rnds R d w) t->Q t
 |0,w,_,h=>h
 |d+1,w,hl,h=>by
  unfold rnds
  exact X6 hQ d _ (fun r hr=>by rw [Nk];exact hl r hr) (zli R hQ w hl h)
theorem zny {j:Nat}(hi:i<w.length)(h:w[i]=true):rst w (some i,j)=w.set j true:=by
 unfold rst rAb
 simp [hi,h]
theorem znz {j:Nat}(hi:i<w.length)(h:w[i]=false):rst w (some i,j)=w:=by
 unfold rst rAb
 simp [hi,h]
theorem zpe {j:Nat}:rst w (none,j)=w.set j true:=by
 unfold rst rAb
 simp
def rulR (E:List Ed):List Rul:=E.flatMap fun x=>if 0<=x.fTo then [(some x.fFrom.toNat,x.fTo.toNat)] else []
def rulU (E:List Ed):List Rul:=E.map fun x=>(if x.fTo<0 then none else some x.fTo.toNat,x.fFrom.toNat)
theorem zhr (x:Ed)(E:List Ed):rulR (x::E)=(if 0<=x.fTo then [(some x.fFrom.toNat,x.fTo.toNat)] else [])++rulR E:=by
 unfold rulR
 rw [flatMap_cons]
theorem zhq (x:Ed)(E:List Ed):rulU (x::E)=(if x.fTo<0 then none else some x.fTo.toNat,x.fFrom.toNat)::rulU E:=rfl
theorem T2 (n:Nat)(a:Aut)(h:EdR a)(e:Int×List Bool)(K:List Bool->Option (List Bool)):∀ (m k:Nat) (w:List Bool),k<=a.fEdges.length->a.fEdges.length<m+k->w.length=a.fStates.length->Gn n a e K m ((k:Int),w)=K ((rulR (a.fEdges.drop k)).foldl rst w)
 |0,k,w,h1,h2,h3=>by omega
 |m+1,k,w,h1,h2,h3=>by
  have hle:=h.le
  unfold Gn
  simp only [aA,Ae]
  rw [A6]
  by_cases hk:k<a.fEdges.length
  ·have hx:=h.ed _ (aD hk)
   have hf:a.fEdges[k].fFrom.toNat<w.length:=by omega
   rw [if_pos (by omega),Al hk,C1 hx.1 hf,D1 hf,aE hk,zhr,foldl_append,Ai k (by omega)]
   by_cases q0:0<=a.fEdges[k].fTo
   ·have ht:a.fEdges[k].fTo.toNat<w.length:=by omega
    rw [if_pos q0]
    simp only [aT,List.foldl_nil]
    cases q:w[a.fEdges[k].fFrom.toNat] with
    |true =>
     rw [Af,A6,if_pos q0,C1 q0 ht,C9 ht,zny hf q]
     exact T2 n a h e K m (k+1) _ (by omega) (by omega) (by rw [aP];exact h3)
    |false =>
     rw [Ag,znz hf q]
     exact T2 n a h e K m (k+1) _ (by omega) (by omega) h3
   ·rw [if_neg q0,List.foldl_nil,A6,if_neg q0]
    have i1:=T2 n a h e K m (k+1) w (by omega) (by omega) h3
    cases w[a.fEdges[k].fFrom.toNat] with
    |true=>rw [Af];exact i1
    |false=>rw [Ag];exact i1
  ·rw [if_neg (by omega),aH (by omega)]
   rfl
theorem Zu (n:Nat)(hn:10000000<n)(a:Aut)(h:EdR a)(K:List Bool->Option (List Bool)):∀ (m k:Nat) (w:List Bool),k<=a.fStates.length->a.fStates.length<m+k->w.length=a.fStates.length->I1 n a K m ((k:Int),w)=K (rnds (rulR a.fEdges) (a.fStates.length-k) w)
 |0,k,w,h1,h2,h3=>by omega
 |m+1,k,w,h1,h2,h3=>by
  have hle:=h.le
  have hst:=h.st
  unfold I1
  simp only [aA]
  rw [A6]
  by_cases hk:k<a.fStates.length
  ·have e1:=T2 n a h ((k:Int),w) (fun d=>(I1 n a K m) ((IntKind.wrap .i64 ((k:Int)+1)),d)) n 0 w (by omega) (by omega) h3
   simp only [aC,aX] at e1
   rw [if_pos (by omega),e1,Ai k (by omega),Zu n hn a h K m (k+1) _ (by omega) (by omega) (by rw [Nk];exact h3),show a.fStates.length-k=(a.fStates.length-(k+1))+1 from by omega]
   rfl
  ·rw [if_neg (by omega),show a.fStates.length-k=0 from by omega]
   rfl
theorem zm7 (h:EdR a):∀ r∈rulR a.fEdges,r.2<a.fStates.length:=fun r hr=>by
 unfold rulR at hr
 obtain ⟨x,hx,hr⟩:=aW.1 hr
 have:=h.ed x hx
 split at hr
 ·rw [aR.1 hr];simp only;omega
 ·cases hr
theorem ziz (w:List Bool):fre w<=w.length:=by unfold fre;exact aU
theorem ziw (n:Nat)(hn:10000000<n)(a:Aut)(h:EdR a):∃ w,Oc n a=some w/\w.length=a.fStates.length/\∀ t,hs w t ↔ Rr a t:=by
 have hst:=h.st
 have hR:=zm7 h
 have h0:0<(aG a.fStates.length false).length:=by simp;omega
 have hs0:∀ t,hs ((aG a.fStates.length false).set 0 true) t ↔ t=0:=fun t=>by
  rw [Hu h0]
  exact ⟨fun q=>q.elim id (fun q=>absurd q (Hv _ _)),aL⟩
 have hl0:((aG a.fStates.length false).set 0 true).length=a.fStates.length:=by simp
 obtain ⟨i1,i2,i3⟩:=Xp (R:=rulR a.fEdges) a.fStates.length _ (fun r hr=>by rw [hl0];exact hR r hr) (by have:=ziz ((aG a.fStates.length false).set 0 true);omega)
 have i4:=X6 (Q:=Rr a) (R:=rulR a.fEdges) (fun r hr hp=>by
  unfold rulR at hr
  obtain ⟨x,hx,hr⟩:=aW.1 hr
  have he:=h.ed x hx
  split at hr
  ·rename_i q0
   rw [aR.1 hr] at hp ⊢
   have:=hp x.fFrom.toNat rfl
   rw [aB he.1] at this
   simp only
   rw [aB q0]
   exact (Rr.ok a).2 x hx this q0
  ·cases hr) a.fStates.length _ (fun r hr=>by rw [hl0];exact hR r hr) (fun t ht=>by rw [(hs0 t).1 ht];exact (Rr.ok a).1)
 refine ⟨_,?_,i1.trans hl0,fun t=>⟨i4 t,fun q=>q _ ⟨i2 0 ((hs0 0).2 rfl),fun x hx q q0=>?_⟩⟩⟩
 ·unfold Oc
  simp only [aA]
  have e1:=Zu n hn a h (fun b=>some b) n 0 _ (by omega) (by omega) hl0
  simp only [aC] at e1
  have e0:(0:Int)=((0:Nat):Int):=rfl
  rw [Di (by omega) (by decide),aV,C1 (by omega) (by simp;omega),C9 (by simpa using h0)]
  exact e1
 ·have he:=h.ed x hx
  have:=i3 (some x.fFrom.toNat,x.fTo.toNat) (by unfold rulR;exact aW.2 ⟨x,hx,by rw [if_pos q0];simp⟩) (by unfold rAb;simp only;rw [aO,q.2];rfl)
  simp only at this
  rw [aB q0] at this
  exact this
theorem Tw (n:Nat)(a:Aut)(h:EdR a)(e:Int×List Bool)(K:List Bool->Option (List Bool)):∀ (m k:Nat) (w:List Bool),k<=a.fEdges.length->a.fEdges.length<m+k->w.length=a.fStates.length->Gp n a e K m ((k:Int),w)=K ((rulU (a.fEdges.drop k)).foldl rst w)
 |0,k,w,h1,h2,h3=>by omega
 |m+1,k,w,h1,h2,h3=>by
  have hle:=h.le
  unfold Gp
  simp only [aA,Ae]
  rw [A6]
  by_cases hk:k<a.fEdges.length
  ·have hx:=h.ed _ (aD hk)
   have hf:a.fEdges[k].fFrom.toNat<w.length:=by omega
   rw [if_pos (by omega),Al hk,aE hk,zhq,aT,Ai k (by omega),A6]
   by_cases q0:a.fEdges[k].fTo<0
   ·rw [if_pos q0,C1 hx.1 hf,C9 hf,if_pos q0,zpe]
    exact Tw n a h e K m (k+1) _ (by omega) (by omega) (by rw [aP];exact h3)
   ·have ht:a.fEdges[k].fTo.toNat<w.length:=by omega
    rw [if_neg q0,C1 (by omega) ht,D1 ht,if_neg q0]
    cases q:w[a.fEdges[k].fTo.toNat] with
    |true =>
     rw [Af,C1 hx.1 hf,C9 hf,zny ht q]
     exact Tw n a h e K m (k+1) _ (by omega) (by omega) (by rw [aP];exact h3)
    |false =>
     rw [Ag,znz ht q]
     exact Tw n a h e K m (k+1) _ (by omega) (by omega) h3
  ·rw [if_neg (by omega),aH (by omega)]
   rfl
theorem zbn (n:Nat)(hn:10000000<n)(a:Aut)(h:EdR a)(K:List Bool->Option (List Bool)):∀ (m k:Nat) (w:List Bool),k<=a.fStates.length->a.fStates.length<m+k->w.length=a.fStates.length->I2 n a K m ((k:Int),w)=K (rnds (rulU a.fEdges) (a.fStates.length-k) w)
 |0,k,w,h1,h2,h3=>by omega
 |m+1,k,w,h1,h2,h3=>by
  have hle:=h.le
  have hst:=h.st
  unfold I2
  simp only [aA]
  rw [A6]
  by_cases hk:k<a.fStates.length
  ·have e1:=Tw n a h ((k:Int),w) (fun d=>(I2 n a K m) ((IntKind.wrap .i64 ((k:Int)+1)),d)) n 0 w (by omega) (by omega) h3
   simp only [aC,aX] at e1
   rw [if_pos (by omega),e1,Ai k (by omega),zbn n hn a h K m (k+1) _ (by omega) (by omega) (by rw [Nk];exact h3),show a.fStates.length-k=(a.fStates.length-(k+1))+1 from by omega]
   rfl
  ·rw [if_neg (by omega),show a.fStates.length-k=0 from by omega]
   rfl
theorem zeu {E:List Ed}{r:Rul}(h:r∈rulU E):∃ x∈E,r=(if x.fTo<0 then none else some x.fTo.toNat,x.fFrom.toNat):=by
 unfold rulU at h
 obtain ⟨x,hx,e⟩:=mem_map.1 h
 exact ⟨x,hx,e.symm⟩
theorem zix (n:Nat)(hn:10000000<n)(a:Aut)(h:EdR a):∃ w,Od n a=some w/\w.length=a.fStates.length/\∀ t,hs w t ↔ Uu a t:=by
 have hst:=h.st
 have hR:∀ r∈rulU a.fEdges,r.2<(aG a.fStates.length false).length:=fun r hr=>by
  obtain ⟨x,hx,e⟩:=zeu hr
  have:=h.ed x hx
  rw [e,aV]
  simp only
  omega
 obtain ⟨i1,i2,i3⟩:=Xp (R:=rulU a.fEdges) a.fStates.length _ hR (by have:=ziz (aG a.fStates.length false);rw [aV] at this;exact this)
 have i4:=X6 (Q:=Uu a) (R:=rulU a.fEdges) (fun r hr hp=>by
  obtain ⟨x,hx,e⟩:=zeu hr
  have he:=h.ed x hx
  rw [e] at hp ⊢
  simp only
  rw [aB he.1]
  refine Uu.ok a x hx ?_
  by_cases q0:x.fTo<0
  ·exact aL q0
  ·have:=hp x.fTo.toNat (by simp only;rw [if_neg q0])
   rw [aB (by omega)] at this
   exact aK this) a.fStates.length _ hR (fun t ht=>absurd ht (Hv _ _))
 refine ⟨_,?_,i1.trans (by simp),fun t=>⟨i4 t,fun q=>q _ (fun x hx q=>?_)⟩⟩
 ·unfold Od
  simp only [aA]
  have e1:=zbn n hn a h (fun b=>some b) n 0 (aG a.fStates.length false) (by omega) (by omega) (by simp)
  simp only [aC] at e1
  rw [Di (by omega) (by decide)]
  exact e1
 ·have he:=h.ed x hx
  have:=i3 (if x.fTo<0 then none else some x.fTo.toNat,x.fFrom.toNat) (by unfold rulU;exact mem_map.2 ⟨x,hx,rfl⟩) (by
   unfold rAb
   simp only
   by_cases q0:x.fTo<0
   ·rw [if_pos q0]
   ·rw [if_neg q0]
    simp only
    rcases q with q|q
    ·exact absurd q q0
    ·rw [aO,q.2];rfl)
  simp only at this
  rw [aB he.1] at this
  exact this
theorem T5 (n:Nat)(w:List Bool)(hw:w.length<=1000)(K:List Int->Option (List Int)):∀ (m k:Nat) (acc:List Int),k<=w.length->w.length<m+k->acc.length<=k->∃ L,I6 n w K m ((k:Int),acc)=K L/\L.length<=w.length/\∀ t,t∈L ↔ t∈acc\/((k:Int)<=t/\hs w t)
 |0,k,acc,h1,h2,h3=>by omega
 |m+1,k,acc,h1,h2,h3=>by
  unfold I6
  simp only [aA,Ae]
  rw [A6]
  by_cases hk:k<w.length
  ·rw [if_pos (by omega),Al hk]
   have hkk:hs w (k:Int) ↔ w[k]=true:=by
    unfold hs
    rw [aM,aF hk]
    simp
   cases q:w[k] with
   |true =>
    rw [Af,C8 (by simp;omega) (by omega),Ai k (by omega)]
    obtain ⟨L,e1,e2,e3⟩:=T5 n w hw K m (k+1) (acc++[(k:Int)]) (by omega) (by omega) (by simp;omega)
    refine ⟨L,e1,e2,fun t=>?_⟩
    rw [e3,mem_append,aR]
    rw [q] at hkk
    constructor
    ·rintro ((h|h)|⟨h,h'⟩)
     ·exact aL h
     ·rw [h];exact aK ⟨Int.le_refl _,hkk.2 rfl⟩
     ·exact aK ⟨by omega,h'⟩
    ·rintro (h|⟨h,h'⟩)
     ·exact aL (aL h)
     ·by_cases e:t=(k:Int)
      ·exact aL (aK e)
      ·exact aK ⟨by omega,h'⟩
   |false =>
    rw [Ag,Ai k (by omega)]
    obtain ⟨L,e1,e2,e3⟩:=T5 n w hw K m (k+1) acc (by omega) (by omega) (by omega)
    refine ⟨L,e1,e2,fun t=>?_⟩
    rw [e3]
    rw [q] at hkk
    refine or_congr Iff.rfl ⟨fun h=>⟨by omega,h.2⟩,fun h=>⟨?_,h.2⟩⟩
    by_cases e:t=(k:Int)
    ·rw [e] at h;exact absurd (hkk.1 h.2) (by simp)
    ·omega
  ·rw [if_neg (by omega)]
   refine ⟨acc,rfl,by omega,fun t=>⟨aL,fun h=>h.elim id (fun h=>?_)⟩⟩
   have:=(List.getElem?_eq_some_iff.1 h.2.2).1
   omega
theorem z78 (n:Nat)(L:List Int)(hL:L.length<=1000)(N:Nat)(hr:∀ t∈L,0<=t/\t.toNat<N)(K:List Bool->Option (List Bool)):∀ (m k:Nat) (w:List Bool),k<=L.length->L.length<m+k->w.length=N->∃ w',Ku n L K m ((k:Int),w)=K w'/\w'.length=N/\∀ t,hs w' t ↔ hs w t\/t∈L.drop k
 |0,k,w,h1,h2,h3=>by omega
 |m+1,k,w,h1,h2,h3=>by
  unfold Ku
  simp only [aA]
  rw [A6]
  by_cases hk:k<L.length
  ·have hx:=hr _ (aD hk)
   have hx2:L[k].toNat<w.length:=by omega
   rw [if_pos (by omega),Al hk,C1 hx.1 hx2,C9 hx2,Ai k (by omega),aE hk]
   obtain ⟨w',e1,e2,e3⟩:=z78 n L hL N hr K m (k+1) (w.set L[k].toNat true) (by omega) (by omega) (by rw [aP];exact h3)
   refine ⟨w',e1,e2,fun t=>?_⟩
   rw [e3,Hu hx2,aB hx.1,aN,or_comm (a:=t=L[k]),or_assoc]
  ·rw [if_neg (by omega),aH (by omega)]
   exact ⟨w,rfl,h3,by simp⟩
theorem zfk (n:Nat)(hn:10000000<n)(L:List Int)(hL:L.length<=1000)(N:Nat)(hN:N<=1000)(hr:∀ t∈L,0<=t/\t.toNat<N):∃ w',Ll n L (N:Int)=some w'/\w'.length=N/\∀ t,hs w' t ↔ t∈L:=by
 obtain ⟨w',e1,e2,e3⟩:=z78 n L hL N hr (fun b=>some b) n 0 (aG N false) (by omega) (by omega) (by simp)
 simp only [aC] at e1
 refine ⟨w',?_,e2,fun t=>?_⟩
 ·unfold Ll
  rw [Di (by omega) (by decide)]
  exact e1
 ·rw [e3]
  exact ⟨fun q=>q.elim (fun q=>absurd q (Hv _ _)) (fun q=>by simpa using q),fun q=>aK (by simpa using q)⟩
theorem X0 (n:Nat)(a:Aut)(h:EdR a)(r u:List Bool)(hr:r.length=a.fStates.length)(hu:u.length=a.fStates.length)(K:List Bool->List Bool->Option (List Bool×List Bool)):∀ (m k:Nat) (w:List Bool),k<=a.fEdges.length->a.fEdges.length<m+k->w.length=a.fStates.length->∃ w',Ep n a r u K m ((k:Int),w)=K r w'/\w'.length=a.fStates.length/\∀ t,hs w' t ↔ hs w t\/∃ x∈a.fEdges.drop k,0<=x.fTo/\hs r x.fFrom/\hs u x.fTo/\x.fTo=t
 |0,k,w,h1,h2,h3=>by omega
 |m+1,k,w,h1,h2,h3=>by
  have hle:=h.le
  unfold Ep
  simp only [aA,Ae]
  rw [A6]
  by_cases hk:k<a.fEdges.length
  ·have hx:=h.ed _ (aD hk)
   have hf:a.fEdges[k].fFrom.toNat<r.length:=by omega
   have hfr:hs r a.fEdges[k].fFrom ↔ r[a.fEdges[k].fFrom.toNat]=true:=by
    unfold hs
    rw [aF hf]
    simp [hx.1]
   rw [if_pos (by omega),Al hk,Gc hx.1 hf,Ai k (by omega),aE hk]
   have skip:¬(0<=a.fEdges[k].fTo/\hs r a.fEdges[k].fFrom/\hs u a.fEdges[k].fTo)->∃ w',Ep n a r u K m (((k+1:Nat):Int),w)=K r w'/\w'.length=a.fStates.length/\∀ t,hs w' t ↔ hs w t\/∃ x∈a.fEdges[k]::a.fEdges.drop (k+1),0<=x.fTo/\hs r x.fFrom/\hs u x.fTo/\x.fTo=t:=fun hn=>by
    obtain ⟨w',e1,e2,e3⟩:=X0 n a h r u hr hu K m (k+1) w (by omega) (by omega) h3
    refine ⟨w',e1,e2,fun t=>?_⟩
    rw [e3]
    simp only [aN,exists_eq_or_imp]
    refine or_congr Iff.rfl ⟨aK,fun q=>q.elim (fun q=>absurd ⟨q.1,q.2.1,q.2.2.1⟩ hn) id⟩
   cases q:r[a.fEdges[k].fFrom.toNat] with
   |false =>
    rw [Ag]
    exact skip (fun q'=>by have:=hfr.1 q'.2.1;rw [q] at this;cases this)
   |true =>
    rw [Af,A6]
    by_cases q0:0<=a.fEdges[k].fTo
    ·have ht:a.fEdges[k].fTo.toNat<u.length:=by omega
     have htu:hs u a.fEdges[k].fTo ↔ u[a.fEdges[k].fTo.toNat]=true:=by
      unfold hs
      rw [aF ht]
      simp [q0]
     rw [if_pos q0,Gc q0 ht]
     cases q2:u[a.fEdges[k].fTo.toNat] with
     |false =>
      rw [Ag]
      exact skip (fun q'=>by have:=htu.1 q'.2.2;rw [q2] at this;cases this)
     |true =>
      have htw:a.fEdges[k].fTo.toNat<w.length:=by omega
      rw [Af,C1 q0 htw,C9 htw]
      obtain ⟨w',e1,e2,e3⟩:=X0 n a h r u hr hu K m (k+1) (w.set a.fEdges[k].fTo.toNat true) (by omega) (by omega) (by rw [aP];exact h3)
      refine ⟨w',e1,e2,fun t=>?_⟩
      rw [e3,Hu htw,aB q0,or_comm (a:=t=a.fEdges[k].fTo),or_assoc]
      simp only [aN,exists_eq_or_imp]
      refine or_congr Iff.rfl (or_congr ⟨fun e=>⟨q0,hfr.2 q,htu.2 q2,e.symm⟩,fun e=>e.2.2.2.symm⟩ Iff.rfl)
    ·rw [if_neg q0]
     exact skip (fun q'=>absurd q'.1 q0)
  ·rw [if_neg (by omega),aH (by omega)]
   exact ⟨w,rfl,h3,by simp⟩
theorem zou (n:Nat)(hn:10000000<n)(a:Aut)(h:EdR a)(hc:Es n a=some 0):∃ r i,M1 n a=some (r,i)/\r.length=a.fStates.length/\i.length=a.fStates.length/\(∀ t,hs r t ↔ Rr a t)/\∀ t,hs i t ↔ In56 a t:=by
 have hst:=h.st
 have hle:=h.le
 obtain ⟨w1,a1,a2,a3⟩:=ziw n hn a h
 obtain ⟨w2,b1,b2,b3⟩:=zix n hn a h
 obtain ⟨L1,c1,c2,c3⟩:=T5 n w1 (by omega) (fun b=>some b) n 0 [] (by omega) (by omega) (by simp)
 obtain ⟨L2,d1,d2,d3⟩:=T5 n w2 (by omega) (fun b=>some b) n 0 [] (by omega) (by omega) (by simp)
 have rg:∀ (w:List Bool) (t:Int),w.length=a.fStates.length->hs w t->0<=t/\t.toNat<a.fStates.length:=fun w t hw q=>⟨q.1,by have:=(List.getElem?_eq_some_iff.1 q.2).1;omega⟩
 have c4:∀ t,t∈L1 ↔ hs w1 t:=fun t=>by
  rw [c3]
  exact ⟨fun q=>q.elim (fun q=>by cases q) (fun q=>q.2),fun q=>aK ⟨by have:=q.1;omega,q⟩⟩
 have d4:∀ t,t∈L2 ↔ hs w2 t:=fun t=>by
  rw [d3]
  exact ⟨fun q=>q.elim (fun q=>by cases q) (fun q=>q.2),fun q=>aK ⟨by have:=q.1;omega,q⟩⟩
 obtain ⟨r,e1,e2,e3⟩:=zfk n hn L1 (by omega) a.fStates.length (by omega) (fun t ht=>rg w1 t a2 ((c4 t).1 ht))
 obtain ⟨u,f1,f2,f3⟩:=zfk n hn L2 (by omega) a.fStates.length (by omega) (fun t ht=>rg w2 t b2 ((d4 t).1 ht))
 obtain ⟨i,g1,g2,g3⟩:=X0 n a h r u e2 f2 (fun b c=>some (b,c)) n 0 (aG a.fStates.length false) (by omega) (by omega) (by simp)
 simp only [aC] at c1 d1 g1
 have hrr:∀ t,hs r t ↔ Rr a t:=fun t=>by rw [e3,c4,a3]
 refine ⟨r,i,?_,e2,g2,hrr,fun t=>?_⟩
 ·unfold M1 R4 Rn Oj
  simp only [aA]
  rw [hc,A4,A4,show (!decide ((0:Int)=0))=false from rfl,Ag,Ag,a1,A4,c1,A4,A4,b1,A4,d1,A4,A4,e1,A4,f1,A4,Di (by omega) (by decide),g1]
 ·rw [g3]
  simp only [hrr,f3,d4,b3,aX]
  exact ⟨fun q=>q.elim (fun q=>absurd q (Hv _ _)) id,aK⟩
end Go.Proofs.YthbogefcfhmpgaaGreat
