/- slices.SortFunc at structs, in its place. -/
import Derived.Shelf.SlSortCmp.NoneTotal
import Derived.Sort.OwnSorted
import Derived.Test.YthbogefcfhmpgaaGreatK12
set_option linter.unusedVariables false
set_option linter.unusedSimpArgs false
namespace Go.Proofs
open Go.Shelf
end Go.Proofs
namespace Go.Proofs.YthbogefcfhmpgaaGreat
open Go.RowKit List
open Option.some renaming injEq->aA
open Go.Sort (SWO PermIn SortedIn HoldsK flatK putRowK putRow putCells grow mapBlock onCells size_flatK get_flatK heap_grow_old)
section
variable {T:Type}
end
theorem Con.lo {fr:Bool}{f:FuncId}{avs:List AV}{res:AV}(h:Con E0d fr f avs res):Con E0 fr f avs res :=
 ⟨h.1,fun S w vs ha=>(h.2 S w vs ha).mono fun e w' ⟨v,h1,h2,h3⟩=>⟨v,h1,y19 h2.1,h3⟩⟩
abbrev Bd:=Ew
abbrev Sta:=I9
abbrev Ma:=Un
abbrev Cf:=Dj
theorem Di {α:Type}(l:List α)(k:Nat)(h:k<l.length):l.drop k=l[k]::l.drop (k+1):=drop_eq_getElem_cons h
def cmpI (a b:Int):Int:=if a<b then -1 else if b<a then 1 else 0
def or2 (a b:Int):Int:=if a=0 then b else a
def or3 (a b c:Int):Int:=if a=0 then (if b=0 then c else b) else a
structure TO {α:Type} (c:α->α->Int):Prop where
 one:∀ a b,c a b=-1\/c a b=0\/c a b=1
 zero:∀ a b,c a b=0 ↔ a=b
 neg:∀ a b,c b a=- c a b
 trans:∀ a b d,c a b<0->c b d<0->c a d<0
theorem Kq:TO cmpI where
 one a b:=by unfold cmpI;split<;>(try split)<;>omega
 zero a b:=by unfold cmpI;split<;>(try split)<;>omega
 neg a b:=by unfold cmpI;omega
 trans a b d:=by unfold cmpI;omega
theorem TO.or2 {α β γ:Type}{c:β->β->Int}{d:γ->γ->Int}(hc:TO c)(hd:TO d)(f:α->β)(g:α->γ)(hi:∀ a b,f a=f b->g a=g b->a=b):TO (fun a b=>or2 (c (f a) (f b)) (d (g a) (g b))) where
 one a b:=by
  unfold Proofs.YthbogefcfhmpgaaGreat.or2
  split
  ·exact hd.one _ _
  ·exact hc.one _ _
 zero a b:=by
  unfold Proofs.YthbogefcfhmpgaaGreat.or2
  split
  ·rename_i h
   rw [hd.zero]
   exact ⟨fun k=>hi a b ((hc.zero _ _).1 h) k,fun k=>by rw [k]⟩
  ·rename_i h
   exact ⟨fun k=>absurd k h,fun k=>absurd ((hc.zero _ _).2 (by rw [k])) h⟩
 neg a b:=by
  unfold Proofs.YthbogefcfhmpgaaGreat.or2
  rw [hc.neg (f a) (f b),hd.neg (g a) (g b)]
  omega
 trans a b e:=by
  unfold Proofs.YthbogefcfhmpgaaGreat.or2
  intro h1 h2
  by_cases k1:c (f a) (f b)=0
  ·rw [if_pos k1] at h1
   have k1':=(hc.zero _ _).1 k1
   rw [k1']
   by_cases k2:c (f b) (f e)=0
   ·rw [if_pos k2] at h2 ⊢
    exact hd.trans _ _ _ h1 h2
   omega
  ·rw [if_neg k1] at h1
   by_cases k2:c (f b) (f e)=0
   ·have k2':=(hc.zero _ _).1 k2
    simp_all
   ·rw [if_neg k2] at h2
    have:=hc.trans _ _ _ h1 h2
    omega
theorem TO.map {α β:Type}{c:β->β->Int}(hc:TO c)(f:α->β)(hi:∀ a b,f a=f b->a=b):TO (fun a b=>c (f a) (f b)) where
 one a b:=hc.one _ _
 zero a b:=⟨fun h=>hi _ _ ((hc.zero _ _).1 h),fun h=>by rw [h];exact (hc.zero _ _).2 rfl⟩
 neg a b:=hc.neg _ _
 trans a b d:=hc.trans _ _ _
def lexC {α:Type}(c:α->α->Int):List α->List α->Int
 |[],[]=>0
 |[],_::_=>-1
 |_::_,[]=>1
 |a::x,b::y=>Proofs.YthbogefcfhmpgaaGreat.or2 (c a b) (lexC c x y)
theorem TO.lex {α:Type}{c:α->α->Int}(hc:TO c):TO (lexC c) where
 one a b:=by
  induction a generalizing b with
  |nil=>cases b<;>simp [lexC]
  |cons x a ih =>
   cases b with
   |nil=>simp [lexC]
   |cons y b =>
    unfold lexC Proofs.YthbogefcfhmpgaaGreat.or2
    split
    ·exact ih b
    ·exact hc.one _ _
 zero a b:=by
  induction a generalizing b with
  |nil=>cases b<;>simp [lexC]
  |cons x a ih =>
   cases b with
   |nil=>simp [lexC]
   |cons y b =>
    unfold lexC Proofs.YthbogefcfhmpgaaGreat.or2
    by_cases h:c x y=0
    ·rw [if_pos h,ih,(hc.zero _ _).1 h];simp
    ·rw [if_neg h]
     exact ⟨fun k=>absurd k h,fun k=>by injection k with k _;exact absurd ((hc.zero _ _).2 k) h⟩
 neg a b:=by
  induction a generalizing b with
  |nil=>cases b<;>simp [lexC]
  |cons x a ih =>
   cases b with
   |nil=>simp [lexC]
   |cons y b =>
    unfold lexC Proofs.YthbogefcfhmpgaaGreat.or2
    rw [hc.neg x y,ih b]
    omega
 trans a b d:=by
  induction a generalizing b d with
  |nil =>
   intro h1 h2
   cases b with
   |nil=>simp [lexC] at h1
   |cons y b=>cases d with
    |nil=>simp [lexC] at h2
    |cons z d=>simp [lexC]
  |cons x a ih =>
   intro h1 h2
   cases b with
   |nil=>simp [lexC] at h1
   |cons y b =>
    cases d with
    |nil=>simp [lexC] at h2
    |cons z d =>
     unfold lexC Proofs.YthbogefcfhmpgaaGreat.or2 at h1 h2 ⊢
     by_cases k1:c x y=0
     ·rw [if_pos k1] at h1
      have k1':=(hc.zero _ _).1 k1
      grind
     ·rw [if_neg k1] at h1
      by_cases k2:c y z=0
      ·have k2':=(hc.zero _ _).1 k2
       simp_all
      ·rw [if_neg k2] at h2
       have:=hc.trans _ _ _ h1 h2
       omega
section
variable {α:Type} {c:α->α->Int}
theorem TO.irr (h:TO c)(a:α):¬c a a<0:=by rw [(h.zero a a).2 rfl];decide
end
def rCmp (a b:Cm):Int:=or3 (cmpI a.fTime b.fTime) (cmpI a.fSource b.fSource) (cmpI a.fSeq b.fSeq)
theorem Yg:TO rCmp:=(Kq.or2 (Kq.or2 Kq (fun p:Int×Int=>p.1) (fun p=>p.2) (fun a b h k=>Prod.ext h k)) (fun r:Cm=>r.fTime) (fun r=>(r.fSource,r.fSeq)) (fun a b h k=>by
 cases a;simp_all))
def zyg (a b:Bd):Int:=or2 (rCmp a.fRef b.fRef) (cmpI a.fVar b.fVar)
theorem zvg:TO zyg:=Yg.or2 Kq (fun b:Bd=>b.fRef) (fun b=>b.fVar) (fun a b h k=>by cases a;simp_all)
def zyv (a b:Sta):Int:=or2 (cmpI a.fScope b.fScope) (cmpI a.fTime b.fTime)
theorem ztm:TO zyv:=Kq.or2 Kq (fun b:Sta=>b.fScope) (fun b=>b.fTime) (fun a b h k=>by cases a;simp_all)
def S7 (a b:Ma):Int:=lexC zyg a.fBindings b.fBindings
def zyf (a b:Cf):Int:=or3 (cmpI a.fState b.fState) (lexC zyg a.fBindings b.fBindings) (lexC zyv a.fStarts b.fStarts)
theorem Yb:TO zyf:=(Kq.or2 (zvg.lex.or2 ztm.lex (fun p:List Bd×List Sta=>p.1) (fun p=>p.2) (fun a b h k=>Prod.ext h k)) (fun c:Cf=>c.fState) (fun c=>(c.fBindings,c.fStarts)) (fun a b h k=>by
 cases a;simp_all))
def cfOk (c:Cf):Bool:=decide (c.fBindings.length<=1000000000) && decide (c.fStarts.length<=1000000000)
theorem zvd (c:Cf):cfOk c=true ↔ c.fBindings.length<=1000000000/\c.fStarts.length<=1000000000:=by simp [cfOk]
section
variable {T:Type} [DecidableEq T]
omit [DecidableEq T] in
omit [DecidableEq T] in
end
abbrev Cel (n:Nat):={ l:List Value // l.length=n/\∀ u∈l,u.oneCell'=true }
def encC {n:Nat}(x:Cel n):List Value:=x.1
theorem eokC {P:Program}{T e sz eb:Nat}{i ie:TyI}(hT:TyOk P T i)(hs:i.shape=.slc e sz eb)(he:TyOk P e ie)(hz:0<sz)(hzs:ie.zero.cells.size=sz):EOk P T e sz ie.bytes (encC (n:=sz)):=by
 obtain ⟨hu,hce,_⟩:=Ce hT hs
 obtain ⟨x,h1,h2,h3,h4⟩:=he.both
 exact ⟨hu,⟨x,ie.zero,h1,h4,by rw [h2,<-he.cells,hce],h3,hzs⟩,hz,fun x=>x.2.1,fun x=>x.2.2⟩
def Ez {α:Type}(n:Nat)(l:List α):Option (List α):=if l.length<=1000000000 then some l else none
theorem zkd {f:FuncId}{e sz:Nat}{P:Program}{E:Env}(hP:E.P=P)(hE:C6 E f)(any:∀ (l:List (Cel sz)) (S:Nat->Prop) (v:Value) (w:World),Sl w S sz encC v l->l.length<=1000000000->Calls P f #[v] w (zt9 e sz encC l w)){α:Type}{enc:α->AV}{n:Nat}{a r:List α}(hF:Ez n a=some r) :
  ConT E f [.sl sz (List.map enc a)] e sz (List.map enc r) (.row 0):=by
 unfold Ez at hF
 split at hF
 ·rename_i hl
  injection hF with hF
  subst hF
  refine .ofRow ⟨hE,fun S w vs ⟨hn,hr⟩=>?_⟩
  have e1:=y15 hn
  have h0:Rep w S G0 (.sl sz (List.map enc a)) (vs.getD 0 undef):=hr 0 (by simp)
  rw [e1,hP]
  obtain ⟨A,c,hv,hc,hlen,cell,hb,hrr,h1⟩:=h0.sl_inv
  let l:List (Cel sz):=(range (List.map enc a).length).map fun k=>⟨(range sz).map fun j=>cell k j,by simp,fun u hu=>by
   obtain ⟨j,_,rfl⟩:=mem_map.1 hu
   exact h1 k j⟩
  have hll:l.length=(List.map enc a).length:=by simp [l]
  have hlk:∀ k (hk:k<l.length),(encC l[k])=(range sz).map fun j=>cell k j:=fun k hk=>by simp [l,encC]
  have hsl:Sl w S sz encC (vs.getD 0 undef) l:=by
   refine ⟨A,c,by rw [hv,hll],by rw [hll];exact hc,fun h0=>?_⟩
   obtain ⟨b,off,hA,hS,hlt,hcell⟩:=hb (by rw [<-hll];exact h0)
   refine ⟨b,off,hA,hS,hlt,fun k hk j u hu=>?_⟩
   rw [hlk k hk] at hu
   have hj:j<sz:=by have:=(List.getElem?_eq_some_iff.1 hu).1;simpa using this
   rw [getElem?_map,getElem?_range hj] at hu
   simp only [Option.map_some,aA] at hu
   subst hu
   exact hcell k j (by rw [<-hll];exact hk) hj
  refine (any l S _ w hsl (by rw [hll,length_map];exact hl)).mono fun ed w' ⟨A',c',q1,q2,q3⟩=>?_
  refine ⟨_,l.flatMap encC,q1,q3,?_,hlen,fun k hk j hj=>?_,fun u hu=>?_⟩
  ·have:w'.ownsRow w.heap.size e sz (.slice A' l.length c') l.length (l.flatMap encC):=q2
   rw [hll] at this
   rw [hll]
   exact this
  ·have hj':j<sz:=by rw [hlen k hk] at hj;exact hj
   have hk':k<l.length:=by rw [hll];exact hk
   have hat:=z9y (enc:=encC (n:=sz)) (fun x _=>x.2.1) k hk' j hj' (cell k j) (by rw [hlk k hk',getElem?_map,getElem?_range hj'];rfl)
   rw [getD_eq_getElem?_getD,hat]
   refine (hrr k hk j hj).mono q3.size (fun b hb hlt=>⟨q3.block b hlt,Or.inl hb,fun e=>?_⟩)
   have h2:w'.ownsRow w.heap.size _ sz (.slice A' l.length c') l.length (l.flatMap encC):=q2
   rcases h2.2 with ⟨h,_⟩|⟨g,cap,cur,h,hg,_⟩
   ·rw [h] at e;simp [Value.ownBlock] at e
   ·rw [h] at e;simp only [Value.ownBlock,aA] at e;subst e;omega
  ·obtain ⟨x,_,hx⟩:=mem_flatMap.1 hu
   exact x.2.2 u hx
 ·cases hF
theorem ConT.close {E:Env}{f:FuncId}{args xs:List AV}{ty sz:Nat}(h:ConT E f args ty sz xs (.row 0))(hE:E.dr=false):Con E false f args (.sl sz xs) :=
 ⟨h.1,fun S w vs ha=>(h.2.2 S w vs ha).mono fun e w' ⟨u,v,us,h1,h2,h3,h4,h5,h6,h7⟩=>by
  have hr:=h7 (fun _=>some (some (v.ownBlock,v))) rfl
  have huv:u=v:=hr.row_inv rfl (Nt (Db h3))
  subst huv
  refine ⟨u,h1,⟨h2,fun h=>absurd (hE.symm.trans h) (by simp)⟩,?_⟩
  have hrep:B6 w' (fun b=>(S b\/w.heap.size<=b)/\u.ownBlock≠some b) G0 w.heap.size (some (u.ownBlock,u)) (.row ty sz xs):=⟨u,us,rfl,Db h3,h3,h4,h5,h6⟩
  obtain ⟨s,hs,hrr⟩:=H0 (S':=fun b=>(false=false/\S b)\/w.heap.size<=b) hrep (fun b hb _=>hb.1.elim (fun h=>Or.inl ⟨rfl,h⟩) Or.inr) (fun s g hg=>by
   injection hg with hg
   injection hg with hg _
   rcases h3.2 with ⟨h,_⟩|⟨g',cap,cur,h,hb,_⟩
   ·rw [h] at hg;simp [Value.ownBlock] at hg
   ·rw [h] at hg;simp only [Value.ownBlock,aA] at hg;subst hg;exact Or.inr hb) G0
  injection hs with hs
  injection hs with _ hs
  rw [hs]
  exact hrr⟩
theorem ConT.sub {E:Env}{f:FuncId}{avs bvs xs:List AV}{ty sz:Nat}{res:AV}(h:SubL avs bvs)(hc:ConT E f bvs ty sz xs res):ConT E f avs ty sz xs res :=
 ⟨hc.1,hc.2.1,fun S w vs ⟨hl,hr⟩=>hc.2.2 S w vs ⟨by rw [hl,h.len],fun i hi=>(hr i (by rw [h.len];exact hi)).sub (h.at i _ hi)⟩⟩
def Xk (w:World)(g off:Nat)(X:List Value):Prop:=∃ cur ty fr,w.heap[g]? = some (.cells cur ty fr)/\0<cur.size/\∀ j u,X[j]? = some u->cur[off+j]? = some u
section
variable {w w':World} {g off:Nat} {X:List Value}
theorem Xk.lt (h:Xk w g off X):g<w.heap.size:=by
 obtain ⟨cur,ty,fr,h,_⟩:=h
 exact (Array.getElem?_eq_some_iff.1 h).1
theorem Xk.cell (h:Xk w g off X){j:Nat}{u:Value}(hu:X[j]? = some u):w.cell? ⟨g,off+j,none⟩=some u:=by
 obtain ⟨cur,ty,fr,h,_,h2⟩:=h
 simp [World.cell?,h,h2 j u hu]
theorem Xk.grown {row:Option Nat}(h:Xk w g off X)(hb:w.grownBy w' row)(hg:some g≠row):Xk w' g off X:=by
 have hl:=h.lt
 obtain ⟨cur,ty,fr,h,h2⟩:=h
 exact ⟨cur,ty,fr,(hb.block g hl hg).trans h,h2⟩
theorem Xk.alloc (h:Xk w g off X)(o:Obj):Xk (w.alloc o) g off X:=by
 have hl:=h.lt
 obtain ⟨cur,ty,fr,h,h2⟩:=h
 exact ⟨cur,ty,fr,(Below.heap_alloc w o g hl).trans h,h2⟩
theorem Xk.shape (h:Xk w g off X):∃ t k,k≠0/\w.shape? g=some (t,k):=by
 obtain ⟨cur,ty,fr,h,h1,_⟩:=h
 exact ⟨ty,cur.size,by omega,by simp [World.shape?,h]⟩
end
end Go.Proofs.YthbogefcfhmpgaaGreat
