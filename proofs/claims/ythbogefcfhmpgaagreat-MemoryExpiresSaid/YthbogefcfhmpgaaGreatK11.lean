/- Forms of terms. -/
import Derived.Test.YthbogefcfhmpgaaGreatK10
set_option linter.unusedVariables false
set_option linter.unusedSimpArgs false
namespace Go.Proofs.YthbogefcfhmpgaaGreat
open Go.RowKit List
open List renaming perm_append_singleton->aA,pairwise_cons->aB,map_cons->aC,filter_eq_self->aF,replicate->aJ,filter_cons->aK,mem_map->aM
open Int renaming toNat_natCast->aD
open Or renaming inr->aE,inl->aH
abbrev Ars (α:Type):=List (Option Nat)×List α
def mkA (α:Type)(n:Nat):Ars α:=(aJ n none,[])
section
variable {α β κ ν:Type}
def enO (ek:κ->AV)(ev:ν->AV)(l:List (κ×ν)):NE:=.mp (l.map (encM ek ev))
def mkm (n:Int)(bytes:Nat)(k:Nat->Option β):Option β:=if 0<=n/\n.toNat<=1099511627776/\bytes*n.toNat<=281474976710656 then k n.toNat else none
theorem MakX.om {n:Int}{bytes:Nat}{K:List AV->Prop}{k:Nat->Option β}{r:β}(h:mkm n bytes k=some r)(b:∀ m,k m=some r->K (aJ m (.mapv []))):MakX n bytes (.mapv []) K:=by
 unfold mkm at h;split at h
 ·rename_i a;exact .mk n.toNat (by omega) a.2.1 a.2.2 _ (.refl _) (b _ h)
 ·cases h
def are (r:Nat)(x:Option β):Option β:=x
def frm (r:Nat)(x:Option β):Option β:=x
def aob (m:Ars α)(k:Nat)(c:Nat->Option β):Option β:=match m.1[k]? with|some (some j)=>c j|_=>none
def ast (m:Ars α)(k:Nat)(v:α)(c:Ars α->Option β):Option β:=if k<m.1.length then c (m.1.set k (some m.2.length),m.2++[v]) else none
def sput (l:List (Int×ν))(k:Int)(v:ν):List (Int×ν):=match l with
 |[]=>[(k,v)]
 |(a,b)::r=>if k<a then (k,v)::(a,b)::r else if k=a then (k,v)::r else (a,b)::sput r k v
def aup (m:Ars (List (Int×ν)))(j:Nat)(k:Int)(v:ν)(c:Ars (List (Int×ν))->Option β):Option β:=match m.2[j]? with|some l=>(if (l.map (·.1)).Pairwise (· < ·) then c (m.1,m.2.set j (sput l k v)) else none)|none=>none
def aval (m:Ars (List α)):List (List α):=m.1.map fun o=>match o with|some j=>(m.2[j]?).getD []|none=>[]
def nxt (l:List α)(a b:Option β):Option β:=match l with|[]=>a|_::_=>b
open Classical in
noncomputable def pck2 (l:List α)(c:α->List α->Option β):Option β:=if h:∃ r,∀ j (h:j<l.length),c l[j] (l.eraseIdx j)=some r then some h.choose else none
noncomputable def pck (l:List α)(c:α->List α->Option β):Option β:=match l with|[]=>none|[x]=>c x []|x::y::r=>pck2 (x::y::r) c
variable {c:α->List α->Option β}
theorem y4f {l:List α}{r:β}(h:pck l c=some r):∀ j (h:j<l.length),c l[j] (l.eraseIdx j)=some r:=by
 match l,h with
 |[],h=>cases h
 |[x],h=>intro j a;have d:j=0:=(by simpa using a);subst d;exact h
 |x::y::t,h =>
  simp only [pck,pck2] at h;split at h
  ·rename_i b;have e:=Option.some.inj h;subst e;exact b.choose_spec
  ·cases h
theorem zj6 {l:List α}{r:β}(b:l≠[])(h:∀ j (h:j<l.length),c l[j] (l.eraseIdx j)=some r):pck l c=some r:=by
 match l,h with
 |[],_=>exact absurd rfl b
 |[x],h=>exact h 0 (by simp)
 |x::y::t,h =>
  simp only [pck,pck2];have a:∃ r,∀ j (h:j<(x::y::t).length),c (x::y::t)[j] ((x::y::t).eraseIdx j)=some r:=⟨r,h⟩;rw [dif_pos a];have:=a.choose_spec 0 (by simp);rw [h 0 (by simp)] at this;exact this.symm
variable {l:List (Int×ν)}{k:Int}{v:ν}
theorem zrp:∀ a,a∈(sput l k v).map (·.1) ↔ a=k\/a∈l.map (·.1):=by
 induction l with
 |nil=>intro a;simp [sput]
 |cons p r ih =>
  obtain ⟨a,b⟩:=p;intro x;simp only [sput];split
  ·simp
  ·split
   ·rename_i h1 d;subst d;simp
   ·simp only [aC,mem_cons,ih];constructor
    ·rintro (h|h|h)
     ·exact aE (aH h)
     ·exact aH h
     ·exact aE (aE h)
    ·rintro (h|h|h)
     ·exact aE (aH h)
     ·exact aH h
     ·exact aE (aE h)
def Srt (l:List (Int×ν)):Prop:=(l.map (·.1)).Pairwise (· < ·)
theorem Srt.nodup (h:Srt l):(l.map (·.1)).Nodup:=Pairwise.imp (fun h=>by omega) h
theorem S3 (h:Srt l):Srt (sput l k v):=by
 induction l with
 |nil=>simp [sput,Srt]
 |cons p r g =>
  obtain ⟨a,b⟩:=p;simp only [Srt,aC,aB] at h;simp only [sput];split
  ·rename_i h1;simp only [Srt,aC,aB];refine ⟨fun x d=>?_,h⟩;rcases mem_cons.1 d with rfl|d
   ·exact h1
   ·have:=h.1 x d;omega
  ·split
   ·rename_i h1 e;subst e;simp only [Srt,aC,aB];exact h
   ·rename_i h1 e;simp only [Srt,aC,aB];refine ⟨fun x d=>?_,g h.2⟩;rcases (zrp x).1 d with rfl|d
    ·omega
    ·exact h.1 x d
theorem ze5 (h:Srt l):(sput l k v).Perm ((l.filter fun p=>decide (p.1≠k))++[(k,v)]):=by
 induction l with
 |nil=>exact .refl _
 |cons p r g =>
  obtain ⟨a,b⟩:=p;simp only [Srt,aC,aB] at h;have all:∀ (t:List (Int×ν)),(∀ x∈t.map (·.1),x≠k)->(t.filter fun p=>decide (p.1≠k))=t:=fun t j=>by
   rw [aF];intro p m;have:=j p.1 (aM.2 ⟨p,m,rfl⟩);simpa using this
  simp only [sput];split
  ·rename_i h1;rw [all ((a,b)::r) (fun x d=>by
    rcases mem_cons.1 d with rfl|d
    ·omega
    ·have:=h.1 x d;omega)]
   exact (aA (k,v) ((a,b)::r)).symm
  ·split
   ·rename_i h1 e;subst e;rw [aK,if_neg (by simp),all r (fun x d=>by have:=h.1 x d;omega)];exact (aA (k,v) r).symm
   ·rename_i h1 e;rw [aK,if_pos (by simp;omega)];exact (g h.2).cons (a,b)
theorem zmb {n:Int}{K X:AV}:∀ {ps:List (AV×AV)},(ps.map fun p=>intN p.1).Nodup->(putK (ps.findIdx? (qK n)) K X ps).Perm ((ps.filter fun p=>!qK n p)++[(K,X)])
 |[],_=>.refl _
 |p::r,h=>by
  simp only [aC,nodup_cons] at h;rw [findIdx?_cons,aK];cases g:qK n p with
  |true =>
   have m:(r.filter fun p=>!qK n p)=r:=by
    rw [aF];intro x d;have:¬n=intN x.1:=fun e=>h.1 (by
     have:intN p.1=intN x.1:=by rw [<-e];have b:=g;simp only [qK,decide_eq_true_eq] at b;exact b.symm
     rw [this];exact aM.2 ⟨x,d,rfl⟩)
    simp [qK,this]
   simp only [if_true,putK,set_cons_zero,Bool.not_true,Bool.false_eq_true,if_false];rw [m];exact (aA (K,X) r).symm
  |false =>
   have a:=zmb (n:=n) (K:=K) (X:=X) h.2;simp only [Bool.false_eq_true,if_false,Bool.not_false,if_true];cases hi:findIdx? (qK n) r with
   |none=>rw [hi] at a;simpa [putK] using a.cons p
   |some j=>rw [hi] at a;simpa [putK] using a.cons p
theorem zvx {ev:ν->AV}(h:Srt l):PutQ (aI k) (ev v) (l.map (encM aI ev)) ((sput l k v).map (encM aI ev)):=fun b d=>by
 have t:∀ l:List (Int×ν),∀ p∈l.map (encM aI ev),isI .i64 p.1=true:=fun l p hm=>by
  obtain ⟨q,_,rfl⟩:=aM.1 hm;simp [encM,aI,isI]
 have s:∀ l:List (Int×ν),(l.map (encM aI ev)).map (fun p=>intN p.1)=l.map (·.1):=fun l=>by
  rw [map_map];exact map_congr_left (fun p _=>by simp [encM,aI,intN])
 have a:b.Perm (l.map (encM aI ev)):=by
  rcases d with rfl|⟨d,_⟩
  ·exact .refl _
  ·exact d
 have j:∀ p∈b,isI .i64 p.1=true:=fun p hm=>t l p (a.mem_iff.1 hm)
 have g:(b.map fun p=>intN p.1).Nodup:=by
  have:=a.map (fun p=>intN p.1);rw [s] at this;exact this.nodup_iff.2 h.nodup
 refine ⟨b.findIdx? (qK k),?_,aE ⟨?_,.i64,t _,by rw [s];exact (S3 h).nodup⟩⟩
 ·have:=zbm (n:=k) b 0 j;rw [show aI k=.int .i64 k from rfl,this];cases findIdx? (qK k) b<;>rfl
 ·refine (zmb g).trans ?_;have m:=(ze5 (v:=v) h (k:=k)).map (encM aI ev);rw [map_append] at m;refine Perm.trans ?_ m.symm;refine Perm.append ?_ (.refl _);have u:=a.filter (fun p=>!qK k p);refine u.trans ?_;have:(l.map (encM aI ev)).filter (fun p=>!qK k p)=(l.filter fun p=>decide (p.1≠k)).map (encM aI ev):=by
   rw [filter_map];congr 1;apply filter_congr;intro p _;simp only [Function.comp,encM,aI,qK,intN];by_cases e:p.1=k
   ·simp [e]
   ·have:¬k=p.1:=fun h=>e h.symm
    simp [e,this]
  rw [this]
end
section
variable {α β κ ν:Type} {E:Env} {nt:Nat} {o:Oper} {σ:AS} {K:OpK}
variable {r:β}{T id ty:Nat}{x:Operand}{i:TyI}
theorem OpX.aob {m:Ars α}{eo:α->NE}{k:Nat}{c:Nat->Option β}(a:Proofs.YthbogefcfhmpgaaGreat.aob m k c=some r)(h:o.op=.load T x)(s:dokN E nt o.dst=true)(b:A4 x=true)(g:σ.eval x=.der (.nelt k) id)(u:lkT E.tab T=some i)(t:i.shape.agg=false)(n:σ.find id=some (.are ty m.1 (m.2.map eo)))
  (p:∀ j,c j=some r->K (.der (.obj j) id) [id] []):OpX E nt o σ K:=by
 unfold Proofs.YthbogefcfhmpgaaGreat.aob at a;split at a
 ·rename_i j q;exact .mk _ _ _ (fun cx e d=>zu0 h (Al s e d) b g (by rw [e];exact u) t n q) (p _ a)
 ·cases a
theorem OpX.ast {m:Ars (List (κ×ν))}{v:List (κ×ν)}{k:Nat}{c:Ars (List (κ×ν))->Option β}{q:Nat}{y:Operand}(ek:κ->AV)(ev:ν->AV)(a:Proofs.YthbogefcfhmpgaaGreat.ast m k v c=some r)(z:o.op=.store T x y)(D:dokN E nt o.dst=true)(e:A4 x=true)(d:A4 y=true)(u:σ.eval x=.der (.nelt k) id)(t:σ.eval y=.row q)(G:lkT E.tab T=some i)(p:i.sz=1)
  (A:σ.find id=some (.are ty m.1 (m.2.map (enO ek ev)))) (w:σ.find q=some (.mp (v.map (encM ek ev)))) (j:Nat.beq id q=false) (C:∀ b,c b=some r->K (.tup []) [id,q] [(id,.are ty b.1 (b.2.map (enO ek ev))),(q,.dead)]):OpX E nt o σ K:=by
 unfold Proofs.YthbogefcfhmpgaaGreat.ast at a;split at a
 ·rename_i n;have h:=C _ a;refine .mk _ _ _ (fun cx s g=>zpl z (Al D s g) e d u t (by rw [s];exact G) p A w n (nbne j)) ?_;simp only [length_map];simp only [map_append,aC,map_nil] at h;exact h
 ·cases a
theorem OpX.aup {m:Ars (List (Int×ν))}{j:Nat}{key:Int}{v:ν}{c:Ars (List (Int×ν))->Option β}{kt et:Nat}{y z:Operand}(ev:ν->AV)(a:Proofs.YthbogefcfhmpgaaGreat.aup m j key v c=some r)(C:o.op=.mapUpdate T x y z\/o.op=.insert T x y z)(I:dokN E nt o.dst=true)(g:A4 x=true)(e:A4 y=true)(d:A4 z=true)(A:σ.eval x=.der (.obj j) id)(w:σ.eval y=aI key)(u:σ.eval z=ev v)
  (J:lkT E.tab T=some i) (hs:i.shape=.map kt et) (q:Bs E.P kt (aI key)=true) (s:(ev v).closed=true) (D:σ.find id=some (.are ty m.1 (m.2.map (enO aI ev)))) (G:∀ b,c b=some r->K (.tup []) [id] [(id,.are ty b.1 (b.2.map (enO aI ev)))]):OpX E nt o σ K:=by
 unfold Proofs.YthbogefcfhmpgaaGreat.aup at a;split at a
 ·rename_i l H;split at a
  ·rename_i n;have h:=G _ a;refine .mk _ _ _ (fun cx t p=>zeg (ps':=(sput l key v).map (encM aI ev)) C (Al I t p) g e d A w u D (by rw [getElem?_map,H];rfl) (by rw [t];exact J) hs (by rw [show cx.P=E.P by rw [<-t]];exact q) s (zvx n)) ?_;simp only [map_set] at h;exact h
  ·cases a
 ·cases a
variable {ps:List (AV×AV)}
theorem OpX.rng {kt et d:Nat}(j:o.op=.range T x)(a:o.dst=some d)(p:dokN E nt o.dst=true)(b:A4 x=true)(h:σ.eval x=.mapv ps)(q:lkT E.tab T=some i)(hs:i.shape=.map kt et)(m:σ.find d=none)(n:K (.ptr d 0) [d] [(d,.it ps)]):OpX E nt o σ K :=
 .mk _ _ _ (fun cx g e=>y20 j a (Al p g e) b h (by rw [g];exact q) hs m) n
theorem OpX.nxt {l:List α}{a b:Option β}(en:α->AV×AV)(g:Proofs.YthbogefcfhmpgaaGreat.nxt l a b=some r)(m:o.op=.next x false)(p:dokN E nt o.dst=true)(e:A4 x=true)(j:σ.eval x=.ptr id 0)(n:σ.find id=some (.it (l.map en)))(s:a=some r->K (.tup [.bool false]) [id] [])(q:b=some r->K (.tup [.bool true,.any,.any]) [id] [(id,.itp (l.map en))]):OpX E nt o σ K:=by
 unfold Proofs.YthbogefcfhmpgaaGreat.nxt at g;split at g
 ·exact .mk _ _ _ (fun cx h d=>ztx m (Al p h d) e j n) (s g)
 ·exact .mk _ _ _ (fun cx h d=>y47 m (Al p h d) e j n (by simp)) (q g)
theorem OpX.ent {p:AV×AV}(e:o.op=.entry x)(j:dokN E nt o.dst=true)(a:A4 x=true)(d:σ.eval x=.ptr id 0)(g:σ.find id=some (.itc p ps))(h:K (.tup [p.1,p.2]) [id] []):OpX E nt o σ K :=
 .mk _ _ _ (fun cx m b=>y21 e (Al j m b) a d g) h
end
section
variable {α β κ ν:Type} {E:Env} {nt:Nat} {R:Exit->AS->Prop} {K:List Bq}
theorem AW.areO {id ty m:Nat}{c:Code}{σ:AS}{x:Option β}{y:β}(ek:κ->AV)(ev:ν->AV)(h:Proofs.YthbogefcfhmpgaaGreat.are id x=some y)(r:Nat)(a:σ.find r=some (.row ty 1 (aJ m (.mapv []))))(k:x=some y->AW E nt R (.code c::K) .normal (σ.rpAll r Dr (.cont m r) (.are ty (mkA (List (κ×ν)) m).1 ((mkA (List (κ×ν)) m).2.map (enO ek ev))))):AW E nt R (.code c::K) .normal σ:=AW.weaken (LeX.are r a) (k h)
theorem znd {α β:Type}(f:α->β):∀ (l:List α) (j:Nat),(l.map f).eraseIdx j=(l.eraseIdx j).map f
 |[],j=>by simp
 |x::r,0=>by simp
 |x::r,j+1=>by simp [znd f r j]
theorem AW.pckO {c:Code}{σ:AS}{l:List α}{f:α->List α->Option β}{y:β}(en:α->AV×AV)(h:pck l f=some y)(r:Nat)(b:σ.find r=some (.itp (l.map en)))(k:∀ x s,f x s=some y->AW E nt R (.code c::K) .normal (σ.upd none .any [(r,.itc (en x) (s.map en))])):AW E nt R (.code c::K) .normal σ :=
 AW.itp r b (fun j d=>by
  have a:j<l.length:=by simpa using d
  have:=k _ _ (y4f h j a);rw [<-znd] at this;simpa using this)
end
variable {ν:Type}
def Cw (l:List (Int×ν)):List (Int×ν):=l.foldr (fun p m=>sput m p.1 p.2) []
theorem zb8 (l:List (Int×ν)):Srt (Cw l):=by
 induction l with
 |nil=>simp [Cw,Srt]
 |cons p r ih=>exact S3 ih
theorem Wh:∀ {l:List (Int×ν)},(l.map (·.1)).Nodup->(Cw l).Perm l
 |[],_=>.refl _
 |p::r,h=>by
  simp only [aC,nodup_cons] at h;have a:=Wh h.2;have e:Cw (p::r)=sput (Cw r) p.1 p.2:=rfl;rw [e];refine (ze5 (zb8 r)).trans ?_;have d:(Cw r).filter (fun q=>decide (q.1≠p.1))=Cw r:=by
   rw [aF];intro q b;have:q.1≠p.1:=fun e=>h.1 (e▸aM.2 ⟨q,a.mem_iff.1 b,rfl⟩)
   simpa using this
  rw [d];exact (aA p (Cw r)).trans (a.cons p)
def frs {β:Type}(_:Nat)(l:List (Int×ν))(x:Option β):Option β:=if (l.map (·.1)).Nodup then x else none
section
variable {β ν:Type} {E:Env} {nt:Nat} {R:Exit->AS->Prop} {K:List Bq}
theorem LeX.frs {σ:AS}{ps ps':List (AV×AV)}(r:Nat)(I:σ.find r=some (.mp ps))(J:Ex ps ps'):LeX E nt σ (σ.rpAll r Dr (.mapv ps') .dead):=by
 refine LeX.rpAll r Dr _ _ _ I (fun ty cs h=>by cases h) (fun cx γ a w d H O N=>?_);obtain ⟨g,t,es,clock,h1,P,u,D⟩:=N;subst t;refine ⟨none,(fun b e=>by cases e),fun S' C y=>⟨rfl,fun γ' x v z m A G=>?_⟩⟩;have p:x=.row r:=by
  cases x with
  |row i=>simp only [AV.leafId,Option.some.injEq] at A;rw [A]
  |_=>simp [Dr] at m
 subst p;have s:v=.map (some g):=G.row_inv O;subst s;have M:S' g:=y g Bz (fun e=>by cases e);exact .mapv ps J g es clock u M (Array.getElem?_eq_some_iff.1 h1).1 h1 P (fun j q n=>(D j q n).1.mono (Nat.le_refl _) (fun b e L=>⟨rfl,C b e⟩)) (fun j q n=>(D j q n).2.mono (Nat.le_refl _) (fun b e L=>⟨rfl,C b e⟩))
variable {l:List (Int×ν)}
theorem zqk {ev:ν->AV}(h:(l.map (·.1)).Nodup):Ex (l.map (encM aI ev)) ((Cw l).map (encM aI ev)):=by
 refine aE ⟨((Wh h).map _).symm,.i64,fun p a=>?_,?_⟩
 ·obtain ⟨q,_,rfl⟩:=aM.1 a;simp [encM,aI,isI]
 ·have e:((Cw l).map (encM aI ev)).map (fun p=>intN p.1)=(Cw l).map (·.1):=by
   rw [map_map];exact map_congr_left (fun p _=>by simp [encM,aI,intN])
  rw [e];exact (zb8 l).nodup
theorem AW.frsO {id:Nat}{c:Code}{σ:AS}{x:Option β}{y:β}(ev:ν->AV)(h:Proofs.YthbogefcfhmpgaaGreat.frs id l x=some y)(r:Nat)(a:σ.find r=some (.mp (l.map (encM aI ev))))(k:x=some y->AW E nt R (.code c::K) .normal (σ.rpAll r Dr (.mapv ((Cw l).map (encM aI ev))) .dead)):AW E nt R (.code c::K) .normal σ:=by
 unfold Proofs.YthbogefcfhmpgaaGreat.frs at h;split at h
 ·rename_i b;exact AW.weaken (LeX.frs r a (zqk b)) (k h)
 ·cases h
end
section
variable {α β:Type}
def eltD (d:AV->Option α)(l:List AV)(m:Nat)(k:α->Option β):Option β:=match l[m]? with|some a=>(match d a with|some y=>k y|none=>none)|none=>none
theorem EltX.oD {enc:α->AV}{d:AV->Option α}{l:List AV}{m:Nat}{K:AV->Prop}{k:α->Option β}{r:β}(h:eltD d l m k=some r)(g:∀ a y,d a=some y->a=enc y)(e:∀ y,k y=some r->K (enc y)):EltX (l.map idA) m K:=by
 unfold eltD at h;split at h
 ·rename_i a j;split at h
  ·rename_i y b;refine .mk (enc y) ?_ (e y h);rw [Sc,j,g a y b]
  ·cases h
 ·cases h
end
attribute [irreducible] mkm are frm aob ast aup  nxt pck frs eltD
abbrev B16:=Bool×Bool×Bool×Bool×Bool×Bool×Bool×Bool×Bool×Bool×Bool×Bool×Bool×Bool×Bool×Bool
section
variable {α β V:Type}
inductive Us (l:List Nat):Prop|mk
variable {E:Env}{nt:Nat}{R:Exit->AS->Prop}{K:List Bq}{σ:AS}
theorem AW.stepW {ids:List Nat}(u:Us ids){e:Exit}(h:E4 E nt R (fAS σ fun a=>go E nt ids 1000000 K e a)):AW E nt R K e σ:=AW.stepU ids h
class JI (two:Bool) (F:V->Option β) (S:outParam (V->AS)) (B:outParam (V->Option β)):Type where
 eq:∀ v,F v=B v
variable {F B:V->Option β}{os:Array Oper}{r:β}
theorem AW.jI {S:V->AS}{i:Nat}{d:Bool}{C:Code}{x:Option β}(h:jon F x=some r)[j:JI false F S B]
  (e:∀ v,B v=some r->AW E nt R (.code C::K) .normal (S v)) (h1:x=some r->AW E nt (Cv (fun a=>∃ v,F v=some r/\LeX E nt a (S v)) (AW E nt R (.code C::K))) [.code (.region i os d)] .normal σ):AW E nt R (.code (.region i os d)::.code C::K) .normal σ:=AW.joinO1 h h1 fun v b=>e v ((j.eq v).symm.trans b)
theorem AW.jI2 {S:V->AS}{i:Nat}{d:Bool}{D C:Code}{x:Option β}(h:jon F x=some r)[j:JI true F S B]
  (e:∀ v,B v=some r->AW E nt R (.code C::K) .normal (S v)) (h1:x=some r->AW E nt (Cv (fun a=>∃ v,F v=some r/\LeX E nt a (S v)) (AW E nt R (.code C::K))) [.code (.region i os d),.code D] .normal σ):AW E nt R (.code (.region i os d)::.code D::.code C::K) .normal σ:=AW.joinO2 h h1 fun v b=>e v ((j.eq v).symm.trans b)
abbrev jf (F:V->Option β)(S:V->AS){B:V->Option β}(h:∀ v,F v=B v):JI false F S B:=⟨h⟩
abbrev jt (F:V->Option β)(S:V->AS){B:V->Option β}(h:∀ v,F v=B v):JI true F S B:=⟨h⟩
class LI (L:Nat->V->Option β) (S:outParam (V->AS)) (B:outParam (Nat->V->Option β)):Type where
 z:∀ v,L 0 v=none
 s:∀ m v,L (m+1) v=B m v
abbrev li (L:Nat->V->Option β)(S:V->AS){B:Nat->V->Option β}(s:∀ m v,L (m+1) v=B m v)(z:∀ v,L 0 v=none:=by exact fun _=>rfl)(z:∀ v,L 0 v=none:=by exact fun _=>rfl):LI L S B:=⟨z,s⟩
variable {c:Code}
theorem Av.I {L:Nat->V->Option β}{S:V->AS}{B:Nat->V->Option β}{n:Nat}{b:V}(h:L n b=some r)[j:LI L S B](e:LeX E nt σ (S b))
  (round:∀ m v,B m v=some r->AW E nt (Cv (fun a=>∃ v',L m v'=some r/\LeX E nt a (S v')) (AW E nt R K)) [.code c] .normal (S v)):Av E nt (fun next a=>AW E nt (Cv next (AW E nt R K)) [.code c] .normal a) σ :=
 LoopA.o h j.z e fun m v d=>round m v ((j.s m v).symm.trans d)
class CI (E:Env) (o:Option α) (fr:outParam Bool) (f:outParam FuncId) (avs:outParam (List AV)) (res:outParam (α->AV)):Prop where
 h:∀ {a},o=some a->Con E fr f avs (res a)
variable {f f':FuncId}{avs avs':List AV}{o:Option α}{k:α->Option β}{fr:Bool}{enc:α->AV}{find:Nat->Option Ent}{KR:AV->List Nat->List (Nat×Ent)->Prop}
theorem Ab.I {K:AV->Prop}{R:Nat->Nat->List AV->AV->Prop}(h:bnd o k=some r)[i:CI E o fr f' avs' enc](e:∀ a,k a=some r->K (enc a))(d:f'=f:=by rfl)(b:avs'=avs:=by rfl)(d:f'=f:=by rfl)(b:avs'=avs:=by rfl)(d:f'=f:=by rfl)(b:avs'=avs:=by rfl):Ab E f avs K R find KR:=by
 subst d b;exact Ab.o h enc (fun _=>i.h) e
theorem B7.I {K:AV->Prop}{raw:List AV}{dst:Option Nat}(h:bnd o k=some r)[i:CI E o fr f' avs' enc](b:∀ a,k a=some r->K (enc a))(g:f'=f:=by rfl)(e:avs'=avs:=by rfl)(d:∀ a,fr=true\/(enc a).flat=true:=by exact fun _=>Or.inl rfl):B7 E f avs K raw find dst KR:=by
 subst g e;exact B7.o h enc (fun _=>i.h) d b
theorem Ab.S {K:AV->Prop}{R:Nat->Nat->List AV->AV->Prop}(h:bnd o k=some r)[i:CI E o fr f' avs' enc](b:∀ a,k a=some r->K (enc a))(g:f'=f:=by rfl)(e:SubL avs avs':=by repeat' first|exact Sub.nil _|exact Sub.refl _|refine Sub.agg ?_|refine Sub.tup ?_|refine Sub.fn ?_|exact SubL.nil|refine SubL.cons ?_ ?_|refine Sub.sl _ ?_|exact SubE.nil|refine SubE.cons ?_ ?_):Ab E f avs K R find KR:=by
 subst g;exact Ab.o h enc (fun _ d=>Con.sub e (i.h d)) b
theorem LeX.pa {τ:AS}{v:AV}(t:Nat)(a:LeX E nt (σ.putS t v) τ)(hs:Sub (σ.get t) v:=by repeat' first|exact Sub.nil _|exact Sub.refl _|refine Sub.agg ?_|refine Sub.tup ?_|refine Sub.fn ?_|exact SubL.nil|refine SubL.cons ?_ ?_|refine Sub.sl _ ?_|exact SubE.nil|refine SubE.cons ?_ ?_):LeX E nt σ τ:=LeX.trans (LeX.put t v hs) a
theorem AndA {p q k:Prop}(d:k)(b:p:=by kernel_rfl)(a:q:=by kernel_rfl):(p/\q)/\k:=⟨⟨b,a⟩,d⟩
theorem AppX.oA {l m:List α}{ys:List AV}{bytes:Nat}{K:List AV->Prop}{k:List α->Option β}(h:app l m bytes k=some r)(a:∀ l',k l'=some r->K (l'.map enc))(hs:SubR ys (m.map enc):=by first|exact SubR.refl _|(repeat' first|exact SubR.nil|refine SubR.cons ?_ ?_|exact SubL.nil|refine SubL.cons ?_ ?_|exact Sub.refl _|exact Sub.nil _)):AppX ((l.map enc).length+ys.length) bytes (l.map enc++ys) K:=AppX.o enc h hs a
theorem AppX.oA0 {m:List α}{ys:List AV}{bytes:Nat}{K:List AV->Prop}{k:List α->Option β}(h:app [] m bytes k=some r)(a:∀ l',k l'=some r->K (l'.map enc))(hs:SubR ys (m.map enc):=by first|exact SubR.refl _|(repeat' first|exact SubR.nil|refine SubR.cons ?_ ?_|exact SubL.nil|refine SubL.cons ?_ ?_|exact Sub.refl _|exact Sub.nil _)):AppX ys.length bytes ys K:=AppX.o0 enc h hs a
theorem EqX.A {p K:Prop}(k:K)(h:p:=by first|rfl|kernel_rfl):EqX p K:=.mk h k
theorem IdxX.A {l:List α}{n:Int}{K:AV->Prop}(h:idx l n k=some r)(a:∀ x,k x=some r->K (enc x)):IdxX (l.map enc) n K:=IdxX.o enc h a
variable {fn:Func}{args:List AV}
theorem cw {res : AV}(d : E0.P.funcs[f]? = some fn)(h : AW E0 fn.ntmps (EndA E0 fn res) [.code c] .normal (E2 args))(e : fn.body = some c := by rfl)(b : Nat.ble args.length fn.ntmps = true := by rfl)(h1 : (fn.name == "runtime.NumGoroutine") = false := by rfl)(g : fn.body.isNone = false := by rfl)(a : fr = false ∨ res.flat = true := by first | exact Or.inr rfl | exact Or.inl rfl)(e : fn.body = some c := by rfl)(b : Nat.ble args.length fn.ntmps = true := by rfl)(h1 : (fn.name == "runtime.NumGoroutine") = false := by rfl)(g : fn.body.isNone = false := by rfl)(a : fr = false ∨ res.flat = true := by first | exact Or.inr rfl | exact Or.inl rfl) : Con E0 fr f args res :=
 Con.walk c d e (B0 d h1 g) b a h
theorem GX.A {x r:α}{me:List (Nat×Ent)}{res:α->AV}{meF:α->List (Nat×Ent)}(h:some x=some r)(τ:α->AS)(h1:LeX E nt σ (τ x):=by exact LeX.a [])(g:(τ x).me=meF x:=by rfl)(e:retA E.tab (τ x) fn.results.toList=some avs:=by rfl)
  (d:Sub (Jm avs) (res x):=by repeat' first|exact Sub.nil _|exact Sub.refl _|refine Sub.agg ?_|refine Sub.tup ?_|refine Sub.fn ?_|exact SubL.nil|refine SubL.cons ?_ ?_|refine Sub.sl _ ?_|exact SubE.nil|refine SubE.cons ?_ ?_) (b:YK E.np args (τ x) (meF x) []:=by trivial) (a:boxB E.np args (τ x) me (meF x) []=true:=by rfl):GX E nt fn args me σ (res r) (meF r):=GX.o h (GX.mk (τ x) h1 g avs e d [] b a)
theorem RetX.oB {v w:AV}{a:β}(h:some a=some r)(hs:a=r->Sub v w:=by
  intro b;subst b
  (repeat' first|exact Sub.nil _|exact Sub.refl _|refine Sub.agg ?_|refine Sub.tup ?_|refine Sub.fn ?_|exact SubL.nil|refine SubL.cons ?_ ?_|refine Sub.sl _ ?_|exact SubE.nil|refine SubE.cons ?_ ?_)<;>fail):RetX v w:=.sub (hs (Option.some.inj h))
theorem CI.w {res : α → AV}(ids : List Nat)(e : E0.P.funcs[f]? = some fn)(j : fn.body = some c := by rfl)(g : Nat.ble args.length fn.ntmps = true := by rfl)(h1 : (fn.name == "runtime.NumGoroutine") = false := by rfl)(p : fn.body.isNone = false := by rfl)
  (d:∀ r,fr=false\/(res r).flat=true:=by first|exact fun _=>Or.inr rfl|exact fun _=>Or.inl rfl)
  (h:∀ (_:Us ids) r,o=some r->AW E0 fn.ntmps (EndA E0 fn (res r)) [.code c] .normal (E2 args):=by
    intro u r b;repeat' first
     |refine AW.jI b (fun v b=>?_) fun b=>?_
     |refine AW.jI2 b (fun v b=>?_) fun b=>?_
     |refine AW.regO b fun b=>?_
     |refine AW.stepW u ?_;conv=>whnf
     |refine A1.o b (fun b=>?_) fun b=>?_
     |refine A1.t ?_
     |refine A1.f ?_
     |exact ⟨_,b,LeX.a []⟩
     |refine Av.I b (LeX.a []) fun m v b=>?_
     |refine IdxX.A b fun x b=>?_
     |refine Ab.I b fun a b=>?_
     |exact RetX.oB b
     |refine And.intro ⟨by kernel_rfl,by kernel_rfl⟩ ?_
     |refine EqX.A ?_
     |refine AppX.oA b fun l b=>?_
     |refine AppX.oA0 b fun l b=>?_):CI E0 o fr f args res :=
 ⟨fun n=>Con.walk c e j (B0 e h1 p) g (d _) (h .mk _ n)⟩
instance CI_E0p {np:Nat}{o:Option α}{fr:Bool}{f:FuncId}{avs:List AV}{res:α->AV}[i:CI E0 o fr f avs res]:CI (E0p np) o fr f avs res:=⟨fun h=>Con.env rfl rfl (i.h h)⟩
instance CI_E0b {o:Option α}{fr:Bool}{f:FuncId}{avs:List AV}{res:α->AV}[i:CI E0 o fr f avs res]:CI E0b o fr f avs res:=⟨fun h=>Con.env rfl rfl (i.h h)⟩
instance CI_E0q {np:Nat}{o:Option α}{fr:Bool}{f:FuncId}{avs:List AV}{res:α->AV}[i:CI E0 o fr f avs res]:CI (E0q np) o fr f avs res:=⟨fun h=>Con.env rfl rfl (i.h h)⟩
instance CI_E0y {l np:Nat}{R:Obj}{o:Option α}{fr:Bool}{f:FuncId}{avs:List AV}{res:α->AV}[i:CI E0 o fr f avs res]:CI (E0y l R np) o fr f avs res:=⟨fun h=>Con.env rfl rfl (i.h h)⟩
end
section
variable {α β:Type}
theorem Am (x y:Option β):cnd true x y=x:=by unfold cnd;rfl
theorem Ar (x y:Option β):cnd false x y=y:=by unfold cnd;rfl
theorem A3 (p:Prop)[Decidable p](x y:Option β):cnd (decide p) x y=if p then x else y:=by
 by_cases h:p<;>simp [h,Am,Ar]
theorem Aw (b:Bool)(x y:Option β):cnd (!b) x y=cnd b y x:=by cases b<;>simp [Am,Ar]
theorem Ax (b:Bool)(x y:Option β):cnd b x y=if b=true then x else y:=by cases b<;>simp [Am,Ar]
theorem A0 (a:α)(k:α->Option β):bnd (some a) k=k a:=by unfold bnd;rfl
theorem Wn (a:α)(k:α->Option β):bndR (some a) k=k a:=by unfold bndR;rfl
theorem zfz (a:α)(k:α->Option β):bndC (some a) k=k a:=by unfold bndC;rfl
theorem Ak (x:Option β):reg x=x:=by unfold reg;rfl
theorem zx7 (i:Nat)(x:Option β):frz i x=x:=by unfold frz;rfl
variable {l:List α}
theorem Af {i:Nat}(h:i<l.length)(k:α->Option β):idx l (i:Int) k=k l[i]:=by
 unfold idx;simp [h]
theorem zqo {n:Int}(a:0<=n)(h:n.toNat<l.length)(k:α->Option β):idx l n k=k l[n.toNat]:=by
 unfold idx;simp [h,a]
theorem zdt {x:α}(k:α->Option β):idx (x::l) 0 k=k x:=by unfold idx;simp
variable {len:Nat}
theorem Cp {i:Nat}(h:i<len)(k:Nat->Option β):nat (i:Int) len k=k i:=by
 unfold nat;simp [h]
theorem Fi {n:Int}(a:0<=n)(h:n.toNat<len)(k:Nat->Option β):nat n len k=k n.toNat:=by
 unfold nat;simp [h,a]
theorem X3 {m:Nat}(h:m<len)(x:Option β):ltx m len x=x:=by unfold ltx;simp [h]
theorem Cr {m:Nat}(h:m<l.length)(k:α->Option β):elt l m k=k l[m]:=by unfold elt;simp [h]
theorem Dz {m:Nat}(h:m<l.length)(f:α->α)(k:List α->Option β):stx l m f k=k (l.set m (f l[m])):=by unfold stx;simp [h]
theorem Bv {m:List α}{bytes:Nat}(h:l.length+m.length<=1000000000)(a:bytes<=100000)(k:List α->Option β):app l m bytes k=k (l++m):=by
 unfold app;have b:=Nat.mul_le_mul h a;rw [if_pos ⟨by omega,by omega⟩]
theorem X2 {n:Nat}{bytes:Nat}(h:n<=1000000000)(a:bytes<=100000)(z:α)(k:List α->Option β):mak (n:Int) bytes z k=k (aJ n z):=by
 unfold mak;have b:=Nat.mul_le_mul a h;rw [if_pos ⟨by omega,by simp only [aD];omega,by simp only [aD];omega⟩];simp only [aD]
theorem Gj {a b:Nat}(h1:a<=b)(d:b<=l.length)(k:List α->Option β):sls l (a:Int) (b:Int) k=k ((l.take b).drop a):=by
 unfold sls;rw [if_pos (by omega)];simp
theorem y44 {b:Int}(h:0<=b)(x:Option β):shx b x=x:=by unfold shx;simp [h]
theorem Ag (k:Nat)(h:k<=1000000000000):IntKind.wrap .i64 ((k:Int)+1)=((k+1:Nat):Int):=by rw [Cl _ (by omega)];omega
end
end Go.Proofs.YthbogefcfhmpgaaGreat
