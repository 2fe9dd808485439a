/- Forms of terms. -/
import Derived.Test.YthbogefcfhmpgaaGreatK10
set_option linter.unusedVariables false
set_option linter.unusedSimpArgs false
namespace Go.Proofs.YthbogefcfhmpgaaGreat
open Go.RowKit List
open List renaming perm_append_singleton->aA,pairwise_cons->aB,map_cons->aC,filter_eq_self->aF,replicate->aJ,filter_cons->aK,mem_map->aM
open Int renaming toNat_natCast->aD
open Or renaming inr->aE,inl->aH
abbrev Ars (α:Type):=List (Option Nat)×List α
def mkA (α:Type)(n:Nat):Ars α:=(aJ n none,[])
section
variable {α β κ ν:Type}
def enO (ek:κ->AV)(ev:ν->AV)(l:List (κ×ν)):NE:=.mp (l.map (encM ek ev))
def mkm (n:Int)(bytes:Nat)(k:Nat->Option β):Option β:=if 0<=n/\n.toNat<=1099511627776/\bytes*n.toNat<=281474976710656 then k n.toNat else none
theorem MakX.om {n:Int}{bytes:Nat}{K:List AV->Prop}{k:Nat->Option β}{r:β}(h:mkm n bytes k=some r)(hk:∀ m,k m=some r->K (aJ m (.mapv []))):MakX n bytes (.mapv []) K:=by
 unfold mkm at h
 split at h
 ·rename_i hn;exact .mk n.toNat (by omega) hn.2.1 hn.2.2 _ (.refl _) (hk _ h)
 ·cases h
def are (r:Nat)(x:Option β):Option β:=x
def frm (r:Nat)(x:Option β):Option β:=x
def aob (m:Ars α)(k:Nat)(c:Nat->Option β):Option β:=match m.1[k]? with|some (some j)=>c j|_=>none
def ast (m:Ars α)(k:Nat)(v:α)(c:Ars α->Option β):Option β:=if k<m.1.length then c (m.1.set k (some m.2.length),m.2++[v]) else none
def sput (l:List (Int×ν))(k:Int)(v:ν):List (Int×ν):=match l with
 |[]=>[(k,v)]
 |(a,b)::r=>if k<a then (k,v)::(a,b)::r else if k=a then (k,v)::r else (a,b)::sput r k v
def aup (m:Ars (List (Int×ν)))(j:Nat)(k:Int)(v:ν)(c:Ars (List (Int×ν))->Option β):Option β:=match m.2[j]? with|some l=>(if (l.map (·.1)).Pairwise (· < ·) then c (m.1,m.2.set j (sput l k v)) else none)|none=>none
def aval (m:Ars (List α)):List (List α):=m.1.map fun o=>match o with|some j=>(m.2[j]?).getD []|none=>[]
def nxt (l:List α)(a b:Option β):Option β:=match l with|[]=>a|_::_=>b
open Classical in
noncomputable def pck2 (l:List α)(c:α->List α->Option β):Option β:=if h:∃ r,∀ j (h:j<l.length),c l[j] (l.eraseIdx j)=some r then some h.choose else none
noncomputable def pck (l:List α)(c:α->List α->Option β):Option β:=match l with|[]=>none|[x]=>c x []|x::y::r=>pck2 (x::y::r) c
variable {c:α->List α->Option β}
theorem zz8 {l:List α}{r:β}(h:pck l c=some r):∀ j (h:j<l.length),c l[j] (l.eraseIdx j)=some r:=by
 match l,h with
 |[],h=>cases h
 |[x],h=>intro j hj;have h0:j=0:=(by simpa using hj);subst h0;exact h
 |x::y::t,h =>
  simp only [pck,pck2] at h
  split at h
  ·rename_i he
   have e:=Option.some.inj h
   subst e
   exact he.choose_spec
  ·cases h
theorem Y6 {l:List α}{r:β}(hl:l≠[])(h:∀ j (h:j<l.length),c l[j] (l.eraseIdx j)=some r):pck l c=some r:=by
 match l,h with
 |[],_=>exact absurd rfl hl
 |[x],h=>exact h 0 (by simp)
 |x::y::t,h =>
  simp only [pck,pck2]
  have he:∃ r,∀ j (h:j<(x::y::t).length),c (x::y::t)[j] ((x::y::t).eraseIdx j)=some r:=⟨r,h⟩
  rw [dif_pos he]
  have:=he.choose_spec 0 (by simp)
  rw [h 0 (by simp)] at this
  exact this.symm
variable {l:List (Int×ν)}{k:Int}{v:ν}
theorem zn3:∀ a,a∈(sput l k v).map (·.1) ↔ a=k\/a∈l.map (·.1):=by
 induction l with
 |nil=>intro a;simp [sput]
 |cons p r ih =>
  obtain ⟨a,b⟩:=p
  intro x
  simp only [sput]
  split
  ·simp
  ·split
   ·rename_i h1 h2;subst h2;simp
   ·simp only [aC,mem_cons,ih]
    constructor
    ·rintro (h|h|h)
     ·exact aE (aH h)
     ·exact aH h
     ·exact aE (aE h)
    ·rintro (h|h|h)
     ·exact aE (aH h)
     ·exact aH h
     ·exact aE (aE h)
def Srt (l:List (Int×ν)):Prop:=(l.map (·.1)).Pairwise (· < ·)
theorem Srt.nodup (h:Srt l):(l.map (·.1)).Nodup:=Pairwise.imp (fun h=>by omega) h
theorem Nv (h:Srt l):Srt (sput l k v):=by
 induction l with
 |nil=>simp [sput,Srt]
 |cons p r ih =>
  obtain ⟨a,b⟩:=p
  simp only [Srt,aC,aB] at h
  simp only [sput]
  split
  ·rename_i h1
   simp only [Srt,aC,aB]
   refine ⟨fun x hx=>?_,h⟩
   rcases mem_cons.1 hx with rfl|hx
   ·exact h1
   ·have:=h.1 x hx;omega
  ·split
   ·rename_i h1 h2
    subst h2
    simp only [Srt,aC,aB]
    exact h
   ·rename_i h1 h2
    simp only [Srt,aC,aB]
    refine ⟨fun x hx=>?_,ih h.2⟩
    rcases (zn3 x).1 hx with rfl|hx
    ·omega
    ·exact h.1 x hx
theorem Xp (h:Srt l):(sput l k v).Perm ((l.filter fun p=>decide (p.1≠k))++[(k,v)]):=by
 induction l with
 |nil=>exact .refl _
 |cons p r ih =>
  obtain ⟨a,b⟩:=p
  simp only [Srt,aC,aB] at h
  have all:∀ (t:List (Int×ν)),(∀ x∈t.map (·.1),x≠k)->(t.filter fun p=>decide (p.1≠k))=t:=fun t ht=>by
   rw [aF]
   intro p hp
   have:=ht p.1 (aM.2 ⟨p,hp,rfl⟩)
   simpa using this
  simp only [sput]
  split
  ·rename_i h1
   rw [all ((a,b)::r) (fun x hx=>by
    rcases mem_cons.1 hx with rfl|hx
    ·omega
    ·have:=h.1 x hx;omega)]
   exact (aA (k,v) ((a,b)::r)).symm
  ·split
   ·rename_i h1 h2
    subst h2
    rw [aK,if_neg (by simp),all r (fun x hx=>by have:=h.1 x hx;omega)]
    exact (aA (k,v) r).symm
   ·rename_i h1 h2
    rw [aK,if_pos (by simp;omega)]
    exact (ih h.2).cons (a,b)
theorem zi0 {n:Int}{K X:AV}:∀ {ps:List (AV×AV)},(ps.map fun p=>intN p.1).Nodup->(putK (ps.findIdx? (qK n)) K X ps).Perm ((ps.filter fun p=>!qK n p)++[(K,X)])
 |[],_=>.refl _
 |p::r,h=>by
  simp only [aC,nodup_cons] at h
  rw [findIdx?_cons,aK]
  cases hq:qK n p with
  |true =>
   have hf:(r.filter fun p=>!qK n p)=r:=by
    rw [aF]
    intro x hx
    have:¬n=intN x.1:=fun e=>h.1 (by
     have:intN p.1=intN x.1:=by rw [<-e];have h3:=hq;simp only [qK,decide_eq_true_eq] at h3;exact h3.symm
     rw [this];exact aM.2 ⟨x,hx,rfl⟩)
    simp [qK,this]
   simp only [if_true,putK,set_cons_zero,Bool.not_true,Bool.false_eq_true,if_false]
   rw [hf]
   exact (aA (K,X) r).symm
  |false =>
   have ih:=zi0 (n:=n) (K:=K) (X:=X) h.2
   simp only [Bool.false_eq_true,if_false,Bool.not_false,if_true]
   cases hi:findIdx? (qK n) r with
   |none=>rw [hi] at ih;simpa [putK] using ih.cons p
   |some j=>rw [hi] at ih;simpa [putK] using ih.cons p
theorem zqq {ev:ν->AV}(h:Srt l):PutQ (aI k) (ev v) (l.map (encM aI ev)) ((sput l k v).map (encM aI ev)):=fun ps0 hp=>by
 have hk:∀ l:List (Int×ν),∀ p∈l.map (encM aI ev),isI .i64 p.1=true:=fun l p hm=>by
  obtain ⟨q,_,rfl⟩:=aM.1 hm
  simp [encM,aI,isI]
 have hn:∀ l:List (Int×ν),(l.map (encM aI ev)).map (fun p=>intN p.1)=l.map (·.1):=fun l=>by
  rw [map_map]
  exact map_congr_left (fun p _=>by simp [encM,aI,intN])
 have hperm:ps0.Perm (l.map (encM aI ev)):=by
  rcases hp with rfl|⟨hp,_⟩
  ·exact .refl _
  ·exact hp
 have hk0:∀ p∈ps0,isI .i64 p.1=true:=fun p hm=>hk l p (hperm.mem_iff.1 hm)
 have hn0:(ps0.map fun p=>intN p.1).Nodup:=by
  have:=hperm.map (fun p=>intN p.1)
  rw [hn] at this
  exact this.nodup_iff.2 h.nodup
 refine ⟨ps0.findIdx? (qK k),?_,aE ⟨?_,.i64,hk _,by rw [hn];exact (Nv h).nodup⟩⟩
 ·have:=Xz (n:=k) ps0 0 hk0
  rw [show aI k=.int .i64 k from rfl,this]
  cases findIdx? (qK k) ps0<;>rfl
 ·refine (zi0 hn0).trans ?_
  have p2:=(Xp (v:=v) h (k:=k)).map (encM aI ev)
  rw [map_append] at p2
  refine Perm.trans ?_ p2.symm
  refine Perm.append ?_ (.refl _)
  have p3:=hperm.filter (fun p=>!qK k p)
  refine p3.trans ?_
  have:(l.map (encM aI ev)).filter (fun p=>!qK k p)=(l.filter fun p=>decide (p.1≠k)).map (encM aI ev):=by
   rw [filter_map]
   congr 1
   apply filter_congr
   intro p _
   simp only [Function.comp,encM,aI,qK,intN]
   by_cases e:p.1=k
   ·simp [e]
   ·have:¬k=p.1:=fun h=>e h.symm
    simp [e,this]
  rw [this]
end
section
variable {α β κ ν:Type} {E:Env} {nt:Nat} {o:Oper} {σ:AS} {K:OpK}
variable {r:β}{T id ty:Nat}{x:Operand}{i:TyI}
theorem OpX.aob {m:Ars α}{eo:α->NE}{k:Nat}{c:Nat->Option β}(hF:Proofs.YthbogefcfhmpgaaGreat.aob m k c=some r)(ho:o.op=.load T x)(hd:dokN E nt o.dst=true)(hxo:A5 x=true)(hx:σ.eval x=.der (.nelt k) id)(hT:lkT E.tab T=some i)(ha:i.shape.agg=false)(hl:σ.find id=some (.are ty m.1 (m.2.map eo)))
  (hk:∀ j,c j=some r->K (.der (.obj j) id) [id] []):OpX E nt o σ K:=by
 unfold Proofs.YthbogefcfhmpgaaGreat.aob at hF
 split at hF
 ·rename_i j hj
  exact .mk _ _ _ (fun cx hE hnt=>zow ho (Ak hd hE hnt) hxo hx (by rw [hE];exact hT) ha hl hj) (hk _ hF)
 ·cases hF
theorem OpX.ast {m:Ars (List (κ×ν))}{v:List (κ×ν)}{k:Nat}{c:Ars (List (κ×ν))->Option β}{q:Nat}{y:Operand}(ek:κ->AV)(ev:ν->AV)(hF:Proofs.YthbogefcfhmpgaaGreat.ast m k v c=some r)(ho:o.op=.store T x y)(hd:dokN E nt o.dst=true)(hxo:A5 x=true)(hyo:A5 y=true)(hx:σ.eval x=.der (.nelt k) id)(hy:σ.eval y=.row q)(hT:lkT E.tab T=some i)(hi1:i.sz=1)
  (hl:σ.find id=some (.are ty m.1 (m.2.map (enO ek ev)))) (hq:σ.find q=some (.mp (v.map (encM ek ev)))) (hne:Nat.beq id q=false) (hk:∀ m',c m'=some r->K (.tup []) [id,q] [(id,.are ty m'.1 (m'.2.map (enO ek ev))),(q,.dead)]):OpX E nt o σ K:=by
 unfold Proofs.YthbogefcfhmpgaaGreat.ast at hF
 split at hF
 ·rename_i hlt
  have h:=hk _ hF
  refine .mk _ _ _ (fun cx hE hnt=>zla ho (Ak hd hE hnt) hxo hyo hx hy (by rw [hE];exact hT) hi1 hl hq hlt (nbne hne)) ?_
  simp only [length_map]
  simp only [map_append,aC,map_nil] at h
  exact h
 ·cases hF
theorem OpX.aup {m:Ars (List (Int×ν))}{j:Nat}{key:Int}{v:ν}{c:Ars (List (Int×ν))->Option β}{kt et:Nat}{y z:Operand}(ev:ν->AV)(hF:Proofs.YthbogefcfhmpgaaGreat.aup m j key v c=some r)(ho:o.op=.mapUpdate T x y z\/o.op=.insert T x y z)(hd:dokN E nt o.dst=true)(hxo:A5 x=true)(hyo:A5 y=true)(hzo:A5 z=true)(hx:σ.eval x=.der (.obj j) id)(hy:σ.eval y=aI key)(hz:σ.eval z=ev v)
  (hT:lkT E.tab T=some i) (hs:i.shape=.map kt et) (hkf:Bc E.P kt (aI key)=true) (hcl:(ev v).closed=true) (hl:σ.find id=some (.are ty m.1 (m.2.map (enO aI ev)))) (hk:∀ m',c m'=some r->K (.tup []) [id] [(id,.are ty m'.1 (m'.2.map (enO aI ev)))]):OpX E nt o σ K:=by
 unfold Proofs.YthbogefcfhmpgaaGreat.aup at hF
 split at hF
 ·rename_i l hj
  split at hF
  ·rename_i hsr
   have h:=hk _ hF
   refine .mk _ _ _ (fun cx hE hnt=>zba (ps':=(sput l key v).map (encM aI ev)) ho (Ak hd hE hnt) hxo hyo hzo hx hy hz hl (by rw [getElem?_map,hj];rfl) (by rw [hE];exact hT) hs (by rw [show cx.P=E.P by rw [<-hE]];exact hkf) hcl (zqq hsr)) ?_
   simp only [map_set] at h
   exact h
  ·cases hF
 ·cases hF
variable {ps:List (AV×AV)}
theorem OpX.rng {kt et d:Nat}(ho:o.op=.range T x)(hdst:o.dst=some d)(hd:dokN E nt o.dst=true)(hxo:A5 x=true)(hx:σ.eval x=.mapv ps)(hT:lkT E.tab T=some i)(hs:i.shape=.map kt et)(hn:σ.find d=none)(hk:K (.ptr d 0) [d] [(d,.it ps)]):OpX E nt o σ K :=
 .mk _ _ _ (fun cx hE hnt=>zwo ho hdst (Ak hd hE hnt) hxo hx (by rw [hE];exact hT) hs hn) hk
theorem OpX.nxt {l:List α}{a b:Option β}(en:α->AV×AV)(hF:Proofs.YthbogefcfhmpgaaGreat.nxt l a b=some r)(ho:o.op=.next x false)(hd:dokN E nt o.dst=true)(hxo:A5 x=true)(hx:σ.eval x=.ptr id 0)(hl:σ.find id=some (.it (l.map en)))(ha:a=some r->K (.tup [.bool false]) [id] [])(hb:b=some r->K (.tup [.bool true,.any,.any]) [id] [(id,.itp (l.map en))]):OpX E nt o σ K:=by
 unfold Proofs.YthbogefcfhmpgaaGreat.nxt at hF
 split at hF
 ·exact .mk _ _ _ (fun cx hE hnt=>zot ho (Ak hd hE hnt) hxo hx hl) (ha hF)
 ·exact .mk _ _ _ (fun cx hE hnt=>zz1 ho (Ak hd hE hnt) hxo hx hl (by simp)) (hb hF)
theorem OpX.ent {p:AV×AV}(ho:o.op=.entry x)(hd:dokN E nt o.dst=true)(hxo:A5 x=true)(hx:σ.eval x=.ptr id 0)(hl:σ.find id=some (.itc p ps))(hk:K (.tup [p.1,p.2]) [id] []):OpX E nt o σ K :=
 .mk _ _ _ (fun cx hE hnt=>zwp ho (Ak hd hE hnt) hxo hx hl) hk
end
section
variable {α β κ ν:Type} {E:Env} {nt:Nat} {R:Exit->AS->Prop} {K:List Ba}
theorem AW.areO {id ty m:Nat}{c:Code}{σ:AS}{x:Option β}{y:β}(ek:κ->AV)(ev:ν->AV)(h:Proofs.YthbogefcfhmpgaaGreat.are id x=some y)(r:Nat)(hr:σ.find r=some (.row ty 1 (aJ m (.mapv []))))(k:x=some y->AW E nt R (.code c::K) .normal (σ.rpAll r Fa (.cont m r) (.are ty (mkA (List (κ×ν)) m).1 ((mkA (List (κ×ν)) m).2.map (enO ek ev))))):AW E nt R (.code c::K) .normal σ:=AW.weaken (LeX.are r hr) (k h)
theorem zit {α β:Type}(f:α->β):∀ (l:List α) (j:Nat),(l.map f).eraseIdx j=(l.eraseIdx j).map f
 |[],j=>by simp
 |x::r,0=>by simp
 |x::r,j+1=>by simp [zit f r j]
theorem AW.pckO {c:Code}{σ:AS}{l:List α}{f:α->List α->Option β}{y:β}(en:α->AV×AV)(h:pck l f=some y)(r:Nat)(hr:σ.find r=some (.itp (l.map en)))(k:∀ x s,f x s=some y->AW E nt R (.code c::K) .normal (σ.upd none .any [(r,.itc (en x) (s.map en))])):AW E nt R (.code c::K) .normal σ :=
 AW.itp r hr (fun j hj=>by
  have hj':j<l.length:=by simpa using hj
  have:=k _ _ (zz8 h j hj')
  rw [<-zit] at this
  simpa using this)
end
variable {ν:Type}
def Cj (l:List (Int×ν)):List (Int×ν):=l.foldr (fun p m=>sput m p.1 p.2) []
theorem Xv (l:List (Int×ν)):Srt (Cj l):=by
 induction l with
 |nil=>simp [Cj,Srt]
 |cons p r ih=>exact Nv ih
theorem Nq:∀ {l:List (Int×ν)},(l.map (·.1)).Nodup->(Cj l).Perm l
 |[],_=>.refl _
 |p::r,h=>by
  simp only [aC,nodup_cons] at h
  have ih:=Nq h.2
  have e:Cj (p::r)=sput (Cj r) p.1 p.2:=rfl
  rw [e]
  refine (Xp (Xv r)).trans ?_
  have hf:(Cj r).filter (fun q=>decide (q.1≠p.1))=Cj r:=by
   rw [aF]
   intro q hq
   have:q.1≠p.1:=fun e=>h.1 (e▸aM.2 ⟨q,ih.mem_iff.1 hq,rfl⟩)
   simpa using this
  rw [hf]
  exact (aA p (Cj r)).trans (ih.cons p)
def frs {β:Type}(_:Nat)(l:List (Int×ν))(x:Option β):Option β:=if (l.map (·.1)).Nodup then x else none
section
variable {β ν:Type} {E:Env} {nt:Nat} {R:Exit->AS->Prop} {K:List Ba}
theorem LeX.frs {σ:AS}{ps ps':List (AV×AV)}(r:Nat)(hr:σ.find r=some (.mp ps))(hp:Fc ps ps'):LeX E nt σ (σ.rpAll r Fa (.mapv ps') .dead):=by
 refine LeX.rpAll r Fa _ _ _ hr (fun ty cs h=>by cases h) (fun cx γ a w d hst hd he=>?_)
 obtain ⟨g,hde,es,clock,h1,h2,hbn,h3⟩:=he
 subst hde
 refine ⟨none,(fun b hb=>by cases hb),fun S' hS hS2=>⟨rfl,fun γ' x v hγ' hsrc hx hv=>?_⟩⟩
 have hx':x=.row r:=by
  cases x with
  |row i=>simp only [AV.leafId,Option.some.injEq] at hx;rw [hx]
  |_=>simp [Fa] at hsrc
 subst hx'
 have hvs:v=.map (some g):=hv.row_inv hd
 subst hvs
 have hg:S' g:=hS2 g Bh (fun hb=>by cases hb)
 exact .mapv ps hp g es clock hbn hg (Array.getElem?_eq_some_iff.1 h1).1 h1 h2 (fun j q q'=>(h3 j q q').1.mono (Nat.le_refl _) (fun b hb hl=>⟨rfl,hS b hb⟩)) (fun j q q'=>(h3 j q q').2.mono (Nat.le_refl _) (fun b hb hl=>⟨rfl,hS b hb⟩))
variable {l:List (Int×ν)}
theorem zm4 {ev:ν->AV}(h:(l.map (·.1)).Nodup):Fc (l.map (encM aI ev)) ((Cj l).map (encM aI ev)):=by
 refine aE ⟨((Nq h).map _).symm,.i64,fun p hp=>?_,?_⟩
 ·obtain ⟨q,_,rfl⟩:=aM.1 hp
  simp [encM,aI,isI]
 ·have e:((Cj l).map (encM aI ev)).map (fun p=>intN p.1)=(Cj l).map (·.1):=by
   rw [map_map]
   exact map_congr_left (fun p _=>by simp [encM,aI,intN])
  rw [e]
  exact (Xv l).nodup
theorem AW.frsO {id:Nat}{c:Code}{σ:AS}{x:Option β}{y:β}(ev:ν->AV)(h:Proofs.YthbogefcfhmpgaaGreat.frs id l x=some y)(r:Nat)(hr:σ.find r=some (.mp (l.map (encM aI ev))))(k:x=some y->AW E nt R (.code c::K) .normal (σ.rpAll r Fa (.mapv ((Cj l).map (encM aI ev))) .dead)):AW E nt R (.code c::K) .normal σ:=by
 unfold Proofs.YthbogefcfhmpgaaGreat.frs at h
 split at h
 ·rename_i hn
  exact AW.weaken (LeX.frs r hr (zm4 hn)) (k h)
 ·cases h
end
section
variable {α β:Type}
def eltD (d:AV->Option α)(l:List AV)(m:Nat)(k:α->Option β):Option β:=match l[m]? with|some a=>(match d a with|some y=>k y|none=>none)|none=>none
theorem EltX.oD {enc:α->AV}{d:AV->Option α}{l:List AV}{m:Nat}{K:AV->Prop}{k:α->Option β}{r:β}(h:eltD d l m k=some r)(hd:∀ a y,d a=some y->a=enc y)(hk:∀ y,k y=some r->K (enc y)):EltX (l.map idA) m K:=by
 unfold eltD at h
 split at h
 ·rename_i a ha
  split at h
  ·rename_i y hy
   refine .mk (enc y) ?_ (hk y h)
   rw [Ru,ha,hd a y hy]
  ·cases h
 ·cases h
end
attribute [irreducible] mkm are frm aob ast aup  nxt pck frs eltD
abbrev B16:=Bool×Bool×Bool×Bool×Bool×Bool×Bool×Bool×Bool×Bool×Bool×Bool×Bool×Bool×Bool×Bool
section
variable {α β V:Type}
inductive Us (l:List Nat):Prop|mk
variable {E:Env}{nt:Nat}{R:Exit->AS->Prop}{K:List Ba}{σ:AS}
theorem AW.stepW {ids:List Nat}(u:Us ids){e:Exit}(h:E4 E nt R (fAS σ fun σ'=>go E nt ids 1000000 K e σ')):AW E nt R K e σ:=AW.stepU ids h
class JI (two:Bool) (F:V->Option β) (S:outParam (V->AS)) (B:outParam (V->Option β)):Type where
 eq:∀ v,F v=B v
variable {F B:V->Option β}{os:Array Oper}{r:β}
theorem AW.jI {S:V->AS}{i:Nat}{d:Bool}{C:Code}{x:Option β}(h:jon F x=some r)[j:JI false F S B]
  (h2:∀ v,B v=some r->AW E nt R (.code C::K) .normal (S v)) (h1:x=some r->AW E nt (Cu (fun σ'=>∃ v,F v=some r/\LeX E nt σ' (S v)) (AW E nt R (.code C::K))) [.code (.region i os d)] .normal σ):AW E nt R (.code (.region i os d)::.code C::K) .normal σ:=AW.joinO1 h h1 fun v hv=>h2 v ((j.eq v).symm.trans hv)
theorem AW.jI2 {S:V->AS}{i:Nat}{d:Bool}{D C:Code}{x:Option β}(h:jon F x=some r)[j:JI true F S B]
  (h2:∀ v,B v=some r->AW E nt R (.code C::K) .normal (S v)) (h1:x=some r->AW E nt (Cu (fun σ'=>∃ v,F v=some r/\LeX E nt σ' (S v)) (AW E nt R (.code C::K))) [.code (.region i os d),.code D] .normal σ):AW E nt R (.code (.region i os d)::.code D::.code C::K) .normal σ:=AW.joinO2 h h1 fun v hv=>h2 v ((j.eq v).symm.trans hv)
abbrev jf (F:V->Option β)(S:V->AS){B:V->Option β}(h:∀ v,F v=B v):JI false F S B:=⟨h⟩
abbrev jt (F:V->Option β)(S:V->AS){B:V->Option β}(h:∀ v,F v=B v):JI true F S B:=⟨h⟩
class LI (L:Nat->V->Option β) (S:outParam (V->AS)) (B:outParam (Nat->V->Option β)):Type where
 z:∀ v,L 0 v=none
 s:∀ m v,L (m+1) v=B m v
abbrev li (L:Nat->V->Option β)(S:V->AS){B:Nat->V->Option β}(s:∀ m v,L (m+1) v=B m v)(z:∀ v,L 0 v=none:=by exact fun _=>rfl)(z:∀ v,L 0 v=none:=by exact fun _=>rfl):LI L S B:=⟨z,s⟩
variable {c:Code}
theorem Av.I {L:Nat->V->Option β}{S:V->AS}{B:Nat->V->Option β}{n:Nat}{v0:V}(h:L n v0=some r)[j:LI L S B](hl:LeX E nt σ (S v0))
  (round:∀ m v,B m v=some r->AW E nt (Cu (fun σ'=>∃ v',L m v'=some r/\LeX E nt σ' (S v')) (AW E nt R K)) [.code c] .normal (S v)):Av E nt (fun next σ'=>AW E nt (Cu next (AW E nt R K)) [.code c] .normal σ') σ :=
 LoopA.o h j.z hl fun m v hv=>round m v ((j.s m v).symm.trans hv)
class CI (E:Env) (o:Option α) (fr:outParam Bool) (f:outParam FuncId) (avs:outParam (List AV)) (res:outParam (α->AV)):Prop where
 h:∀ {a},o=some a->Con E fr f avs (res a)
variable {f f':FuncId}{avs avs':List AV}{o:Option α}{k:α->Option β}{fr:Bool}{enc:α->AV}{find:Nat->Option Ent}{KR:AV->List Nat->List (Nat×Ent)->Prop}
theorem Af.I {K:AV->Prop}{R:Nat->Nat->List AV->AV->Prop}(h:bnd o k=some r)[i:CI E o fr f' avs' enc](hk:∀ a,k a=some r->K (enc a))(e1:f'=f:=by rfl)(e2:avs'=avs:=by rfl)(e1:f'=f:=by rfl)(e2:avs'=avs:=by rfl)(e1:f'=f:=by rfl)(e2:avs'=avs:=by rfl):Af E f avs K R find KR:=by
 subst e1 e2
 exact Af.o h enc (fun _=>i.h) hk
theorem B4.I {K:AV->Prop}{raw:List AV}{dst:Option Nat}(h:bnd o k=some r)[i:CI E o fr f' avs' enc](hk:∀ a,k a=some r->K (enc a))(e1:f'=f:=by rfl)(e2:avs'=avs:=by rfl)(e3:∀ a,fr=true\/(enc a).flat=true:=by exact fun _=>Or.inl rfl):B4 E f avs K raw find dst KR:=by
 subst e1 e2
 exact B4.o h enc (fun _=>i.h) e3 hk
theorem Af.S {K:AV->Prop}{R:Nat->Nat->List AV->AV->Prop}(h:bnd o k=some r)[i:CI E o fr f' avs' enc](hk:∀ a,k a=some r->K (enc a))(e1:f'=f:=by rfl)(e2:SubL avs avs':=by repeat' first|exact Sub.nil _|exact Sub.refl _|refine Sub.agg ?_|refine Sub.tup ?_|refine Sub.fn ?_|exact SubL.nil|refine SubL.cons ?_ ?_|refine Sub.sl _ ?_|exact SubE.nil|refine SubE.cons ?_ ?_):Af E f avs K R find KR:=by
 subst e1
 exact Af.o h enc (fun _ ha=>Con.sub e2 (i.h ha)) hk
theorem AndA {p q k:Prop}(hk:k)(hp:p:=by kernel_rfl)(hq:q:=by kernel_rfl):(p/\q)/\k:=⟨⟨hp,hq⟩,hk⟩
theorem AppX.oA {l m:List α}{ys:List AV}{bytes:Nat}{K:List AV->Prop}{k:List α->Option β}(h:app l m bytes k=some r)(hk:∀ l',k l'=some r->K (l'.map enc))(hs:SubR ys (m.map enc):=by first|exact SubR.refl _|(repeat' first|exact SubR.nil|refine SubR.cons ?_ ?_|exact SubL.nil|refine SubL.cons ?_ ?_|exact Sub.refl _|exact Sub.nil _)):AppX ((l.map enc).length+ys.length) bytes (l.map enc++ys) K:=AppX.o enc h hs hk
theorem AppX.oA0 {m:List α}{ys:List AV}{bytes:Nat}{K:List AV->Prop}{k:List α->Option β}(h:app [] m bytes k=some r)(hk:∀ l',k l'=some r->K (l'.map enc))(hs:SubR ys (m.map enc):=by first|exact SubR.refl _|(repeat' first|exact SubR.nil|refine SubR.cons ?_ ?_|exact SubL.nil|refine SubL.cons ?_ ?_|exact Sub.refl _|exact Sub.nil _)):AppX ys.length bytes ys K:=AppX.o0 enc h hs hk
theorem EqX.A {p K:Prop}(k:K)(h:p:=by first|rfl|kernel_rfl):EqX p K:=.mk h k
theorem IdxX.A {l:List α}{n:Int}{K:AV->Prop}(h:idx l n k=some r)(hk:∀ x,k x=some r->K (enc x)):IdxX (l.map enc) n K:=IdxX.o enc h hk
variable {fn:Func}{args:List AV}
theorem cw {res : AV}(hf : E0.P.funcs[f]? = some fn)(h : AW E0 fn.ntmps (EndA E0 fn res) [.code c] .normal (F6 args))(hb : fn.body = some c := by rfl)(hn : Nat.ble args.length fn.ntmps = true := by rfl)(h1 : (fn.name == "runtime.NumGoroutine") = false := by rfl)(h2 : fn.body.isNone = false := by rfl)(hfr : fr = false ∨ res.flat = true := by first | exact Or.inr rfl | exact Or.inl rfl)(hb : fn.body = some c := by rfl)(hn : Nat.ble args.length fn.ntmps = true := by rfl)(h1 : (fn.name == "runtime.NumGoroutine") = false := by rfl)(h2 : fn.body.isNone = false := by rfl)(hfr : fr = false ∨ res.flat = true := by first | exact Or.inr rfl | exact Or.inl rfl) : Con E0 fr f args res :=
 Con.walk c hf hb (B3 hf h1 h2) hn hfr h
theorem GX.A {x r:α}{me:List (Nat×Ent)}{res:α->AV}{meF:α->List (Nat×Ent)}(h:some x=some r)(τ:α->AS)(h1:LeX E nt σ (τ x):=by exact LeX.a [])(h2:(τ x).me=meF x:=by rfl)(h3:retA E.tab (τ x) fn.results.toList=some avs:=by rfl)
  (h4:Sub (Oe avs) (res x):=by repeat' first|exact Sub.nil _|exact Sub.refl _|refine Sub.agg ?_|refine Sub.tup ?_|refine Sub.fn ?_|exact SubL.nil|refine SubL.cons ?_ ?_|refine Sub.sl _ ?_|exact SubE.nil|refine SubE.cons ?_ ?_) (h5:YK E.np args (τ x) (meF x) []:=by trivial) (h6:boxB E.np args (τ x) me (meF x) []=true:=by rfl):GX E nt fn args me σ (res r) (meF r):=GX.o h (GX.mk (τ x) h1 h2 avs h3 h4 [] h5 h6)
theorem RetX.oB {v w:AV}{a:β}(h:some a=some r)(hs:a=r->Sub v w:=by
  intro hr
  subst hr
  (repeat' first|exact Sub.nil _|exact Sub.refl _|refine Sub.agg ?_|refine Sub.tup ?_|refine Sub.fn ?_|exact SubL.nil|refine SubL.cons ?_ ?_|refine Sub.sl _ ?_|exact SubE.nil|refine SubE.cons ?_ ?_)<;>fail):RetX v w:=.sub (hs (Option.some.inj h))
theorem CI.w {res : α → AV}(ids : List Nat)(hf : E0.P.funcs[f]? = some fn)(hb : fn.body = some c := by rfl)(hn : Nat.ble args.length fn.ntmps = true := by rfl)(h1 : (fn.name == "runtime.NumGoroutine") = false := by rfl)(h2 : fn.body.isNone = false := by rfl)
  (hfr:∀ r,fr=false\/(res r).flat=true:=by first|exact fun _=>Or.inr rfl|exact fun _=>Or.inl rfl)
  (h:∀ (_:Us ids) r,o=some r->AW E0 fn.ntmps (EndA E0 fn (res r)) [.code c] .normal (F6 args):=by
    intro u r hF
    repeat' first
     |refine AW.jI hF (fun v hF=>?_) fun hF=>?_
     |refine AW.jI2 hF (fun v hF=>?_) fun hF=>?_
     |refine AW.regO hF fun hF=>?_
     |refine AW.stepW u ?_;conv=>whnf
     |refine A4.o hF (fun hF=>?_) fun hF=>?_
     |refine A4.t ?_
     |refine A4.f ?_
     |exact ⟨_,hF,LeX.a []⟩
     |refine Av.I hF (LeX.a []) fun m v hF=>?_
     |refine IdxX.A hF fun x hF=>?_
     |refine Af.I hF fun a hF=>?_
     |exact RetX.oB hF
     |refine And.intro ⟨by kernel_rfl,by kernel_rfl⟩ ?_
     |refine EqX.A ?_
     |refine AppX.oA hF fun l hF=>?_
     |refine AppX.oA0 hF fun l hF=>?_):CI E0 o fr f args res :=
 ⟨fun ha=>Con.walk c hf hb (B3 hf h1 h2) hn (hfr _) (h .mk _ ha)⟩
instance CI_E0p {np:Nat}{o:Option α}{fr:Bool}{f:FuncId}{avs:List AV}{res:α->AV}[i:CI E0 o fr f avs res]:CI (E0p np) o fr f avs res:=⟨fun h=>Con.env rfl rfl (i.h h)⟩
instance CI_E0q {np:Nat}{o:Option α}{fr:Bool}{f:FuncId}{avs:List AV}{res:α->AV}[i:CI E0 o fr f avs res]:CI (E0q np) o fr f avs res:=⟨fun h=>Con.env rfl rfl (i.h h)⟩
end
section
variable {α β:Type}
theorem A8 (x y:Option β):cnd true x y=x:=by unfold cnd;rfl
theorem A7 (x y:Option β):cnd false x y=y:=by unfold cnd;rfl
theorem A3 (p:Prop)[Decidable p](x y:Option β):cnd (decide p) x y=if p then x else y:=by
 by_cases h:p<;>simp [h,A8,A7]
theorem Ax (b:Bool)(x y:Option β):cnd (!b) x y=cnd b y x:=by cases b<;>simp [A8,A7]
theorem Au (b:Bool)(x y:Option β):cnd b x y=if b=true then x else y:=by cases b<;>simp [A8,A7]
theorem A0 (a:α)(k:α->Option β):bnd (some a) k=k a:=by unfold bnd;rfl
theorem Aa (x:Option β):reg x=x:=by unfold reg;rfl
theorem O9 (i:Nat)(x:Option β):frz i x=x:=by unfold frz;rfl
variable {l:List α}
theorem Ad {i:Nat}(h:i<l.length)(k:α->Option β):idx l (i:Int) k=k l[i]:=by
 unfold idx
 simp [h]
theorem Cs {n:Int}(h0:0<=n)(h:n.toNat<l.length)(k:α->Option β):idx l n k=k l[n.toNat]:=by
 unfold idx
 simp [h,h0]
theorem zo7 {x:α}(k:α->Option β):idx (x::l) 0 k=k x:=by unfold idx;simp
variable {len:Nat}
theorem Ej {i:Nat}(h:i<len)(k:Nat->Option β):nat (i:Int) len k=k i:=by
 unfold nat
 simp [h]
theorem Bl {n:Int}(h0:0<=n)(h:n.toNat<len)(k:Nat->Option β):nat n len k=k n.toNat:=by
 unfold nat
 simp [h,h0]
theorem zrr {m:Nat}(h:m<len)(x:Option β):ltx m len x=x:=by unfold ltx;simp [h]
theorem Cc {m:Nat}(h:m<l.length)(k:α->Option β):elt l m k=k l[m]:=by unfold elt;simp [h]
theorem Bv {m:Nat}(h:m<l.length)(f:α->α)(k:List α->Option β):stx l m f k=k (l.set m (f l[m])):=by unfold stx;simp [h]
theorem Bs {m:List α}{bytes:Nat}(h:l.length+m.length<=1000000000)(hb:bytes<=100000)(k:List α->Option β):app l m bytes k=k (l++m):=by
 unfold app
 have h2:=Nat.mul_le_mul h hb
 rw [if_pos ⟨by omega,by omega⟩]
theorem Cg {n:Nat}{bytes:Nat}(h:n<=1000000000)(hb:bytes<=100000)(z:α)(k:List α->Option β):mak (n:Int) bytes z k=k (aJ n z):=by
 unfold mak
 have h2:=Nat.mul_le_mul hb h
 rw [if_pos ⟨by omega,by simp only [aD];omega,by simp only [aD];omega⟩]
 simp only [aD]
theorem zvm {a b:Nat}(h1:a<=b)(h2:b<=l.length)(k:List α->Option β):sls l (a:Int) (b:Int) k=k ((l.take b).drop a):=by
 unfold sls
 rw [if_pos (by omega)]
 simp
theorem Ae (k:Nat)(h:k<=1000000000000):IntKind.wrap .i64 ((k:Int)+1)=((k+1:Nat):Int):=by rw [Cd _ (by omega)];omega
end
end Go.Proofs.YthbogefcfhmpgaaGreat
