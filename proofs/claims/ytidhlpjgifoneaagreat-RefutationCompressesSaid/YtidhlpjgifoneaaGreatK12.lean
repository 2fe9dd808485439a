/- The abstract walk, thirteenth part. -/
import Derived.Test.YtidhlpjgifoneaaGreatK11
import Derived.Lib.AppendStr
set_option linter.unusedVariables false
set_option linter.unusedSimpArgs false
namespace Go.Proofs.YtidhlpjgifoneaaGreat
open Go.RowKit List
open Gam renaming set_self->aA,set_ne->aC
open Nat renaming eq_of_beq_eq_true->aB,le_refl->aD,beq->aE,le_of_ble_eq_true->aG,ne_of_beq_eq_false->aM
open _root_.Array renaming getD_eq_getD_getElem?->aF,length_toList->aN,range->aU
open Or renaming inl->aH,inr->aK
open List renaming length_map->aJ,getElem?_map->aO,map_cons->aS,replicate->aT
open AS renaming find->aL,get->aQ
theorem LeX.refl (E:Env)(nt:Nat)(σ:AS):LeX E nt σ σ:=fun _ _ _=>Le.refl _ _
variable {E:Env}{nt:Nat}
theorem LeX.trans {a b c:AS}(h:LeX E nt a b)(k:LeX E nt b c):LeX E nt a c:=fun cx e d=>(h cx e d).trans (k cx e d)
variable {σ:AS}
theorem Le.adopt_aux {cx:Cx}{γ:Gam}{a:Act}{w:World}(h:StG cx γ σ a w){r ty sz:Nat}(t:σ.find r=none) :
  (∀ av v,Rep w (Sg cx.S0 cx.w0.heap.size γ) γ av v->Rep w (Sg cx.S0 cx.w0.heap.size (γ.set r (some (none,.slice none 0 0)))) (γ.set r (some (none,.slice none 0 0))) av v) /\
  (∀ i x,γ i=some x->i≠r)/\(∀ b,own (γ.set r (some (none,.slice none 0 0))) b->own γ b):=by
 have m:γ r=none:=by have:=h.me r;rw [t] at this;exact this
 have g:∀ i x,γ i=some x->i≠r:=fun i x d e=>by subst e;rw [m] at d;cases d
 have c:∀ b,own (γ.set r (some (none,.slice none 0 0))) b->own γ b:=fun b ⟨i,s,hi,hm⟩=>by
  by_cases j:i=r
  ·subst j;rw [aA] at hi;injection hi with hi;subst hi;exact (T3 (s:=.slice none 0 0) rfl hm).elim
  ·rw [aC _ _ _ j] at hi;exact ⟨i,s,hi,hm⟩
 refine ⟨fun av v q=>(q.mono (aD _) (fun b p _=>⟨rfl,?_⟩)).gam (fun i x d=>aH ?_),g,c⟩
 ·rcases p with p|⟨h1,z⟩
  ·exact aH p
  ·exact aK ⟨h1,fun u=>z (c b u)⟩
 ·rw [aC _ _ _ (g i x d)];exact d
variable {ty sz:Nat}
theorem zy1 {w:World}{S:Nat->Prop}{γ:Gam}{B:Nat}:Bq w S γ B (some (none,.slice none 0 0)) (.row ty sz []) :=
 ⟨.slice none 0 0,[],rfl,rfl,World.ownsRow_nil w _ _ _,fun k b=>absurd b (by simp),fun k b=>absurd b (by simp),fun u c=>absurd c (by simp)⟩
def AS.adopt (σ:AS)(t r ty sz:Nat):AS:=⟨(t,.row r)::σ.tm,(r,.row ty sz [])::σ.me⟩
theorem LeX.adopt (t r ty sz:Nat)(H:σ.get t=.nils)(I:σ.find r=none):LeX E nt σ (σ.adopt t r ty sz):=fun cx S Q a w ⟨γ,h⟩=>by
 obtain ⟨G,F,m⟩:=Le.adopt_aux (ty:=ty) (sz:=sz) h I;refine ⟨γ.set r (some (none,.slice none 0 0)),fun u=>?_,fun i=>?_,fun i j b s D hi d mi mj=>?_,fun b c=>h.ge b (m b c),h.below,h.size,h.defers.gam (fun b c=>m b c),h.gh,fun b c=>by obtain ⟨O,N,M⟩:=h.fr b c;exact ⟨fun q=>O (m b q),N,M⟩,h.dr⟩
 ·by_cases B:t=u
  ·subst B;have e:(σ.adopt t r ty sz).get t=.row r:=by simp [AS.adopt,aQ,lkV]
   rw [e];have:=h.tm t;rw [H] at this;rw [this.nils_inv];exact .row (aA _ _ _) (fun g s e _=>by injection e with e;injection e with _ e)
  ·have e:(σ.adopt t r ty sz).get u=σ.get u:=by
    unfold AS.adopt aQ;simp only [lkV];cases c:aE t u with
    |true=>exact absurd (aB c) B
    |false=>rfl
   rw [e];exact G _ _ (h.tm u)
 ·by_cases hi:r=i
  ·subst hi;have e:(σ.adopt t r ty sz).find r=some (.row ty sz []):=by simp [AS.adopt,aL,lkE]
   rw [e];exact ⟨_,aA _ _ _,zy1⟩
  ·have e:(σ.adopt t r ty sz).find i=σ.find i:=by
    unfold AS.adopt aL;simp only [lkE];cases c:aE r i with
    |true=>exact absurd (aB c) hi
    |false=>rfl
   rw [e,aC _ _ _ (Ne.symm hi)];have:=h.me i;cases C:σ.find i with
   |none=>rw [C] at this;exact this
   |some en =>
    rw [C] at this;obtain ⟨x,p,J⟩:=this;refine ⟨x,p,J.move (aD _) (fun b c _=>⟨rfl,?_⟩) (fun i x p=>aH (by rw [aC _ _ _ (F i x p)];exact p)) (fun _ _=>rfl)⟩;rcases c with c|⟨h1,L⟩
    ·exact aH c
    ·exact aK ⟨h1,fun q=>L (m b q)⟩
 ·have A:i≠r:=fun e=>by subst e;rw [aA] at hi;injection hi with hi;subst hi;exact T3 (s:=.slice none 0 0) rfl mi
  have z:j≠r:=fun e=>by subst e;rw [aA] at d;injection d with d;subst d;exact T3 (s:=.slice none 0 0) rfl mj
  rw [aC _ _ _ A] at hi;rw [aC _ _ _ z] at d;exact h.inj i j b s D hi d mi mj
def AS.adoptC (σ:AS)(id j r ty sz bt:Nat)(cs:List AV):AS:=⟨σ.tm,(id,.box bt (cs.set j (.row r)))::(r,.row ty sz [])::σ.me⟩
theorem LeX.adoptC (id j r ty sz bt:Nat)(cs:List AV)(p:σ.find id=some (.box bt cs))(d:cs[j]? = some .nils)(N:σ.find r=none):LeX E nt σ (σ.adoptC id j r ty sz bt cs):=fun cx hE hn a w ⟨γ,h⟩=>by
 obtain ⟨M,S,D⟩:=Le.adopt_aux (ty:=ty) (sz:=sz) h N;have H:id≠r:=fun e=>by subst e;rw [N] at p;cases p
 have W:∀ b,Sg cx.S0 cx.w0.heap.size γ b->Sg cx.S0 cx.w0.heap.size (γ.set r (some (none,.slice none 0 0))) b:=fun b c=>c.elim aH (fun ⟨h1,X⟩=>aK ⟨h1,fun G=>X (D b G)⟩)
 refine ⟨γ.set r (some (none,.slice none 0 0)),fun u=>M _ _ (h.tm u),fun i=>?_,fun i j b s Q hi d mi mj=>?_,fun b c=>h.ge b (D b c),h.below,h.size,h.defers.gam (fun b c=>D b c),h.gh,fun b c=>by obtain ⟨f2,Z,Y⟩:=h.fr b c;exact ⟨fun G=>f2 (D b G),Z,Y⟩,h.dr⟩
 ·by_cases hi:id=i
  ·subst hi;have e:(σ.adoptC id j r ty sz bt cs).find id=some (.box bt (cs.set j (.row r))):=by simp [AS.adoptC,aL,lkE]
   rw [e];have hm:=h.me id;rw [p] at hm;obtain ⟨x,t,g,vs,U,c,F,z,A⟩:=hm;refine ⟨x,by rw [aC _ _ _ H];exact t,g,vs,U,c,by simpa using F,fun m hm=>?_,A⟩;have B:m<cs.length:=by simpa using hm
   rw [getElem_set];by_cases C:j=m
   ·subst C;rw [if_pos rfl];have:=z j B;rw [(List.getElem?_eq_some_iff.1 d).2] at this;rw [this.nils_inv];exact .row (aA _ _ _) (fun g s e _=>by injection e with e;injection e with _ e)
   ·rw [if_neg C];exact M _ _ (z m B)
  ·by_cases q:r=i
   ·subst q;have e:(σ.adoptC id j r ty sz bt cs).find r=some (.row ty sz []):=by
     unfold AS.adoptC aL;simp only [lkE];cases c:aE id r with
     |true=>exact absurd (aB c) hi
     |false=>simp
    rw [e];exact ⟨_,aA _ _ _,zy1⟩
   ·have e:(σ.adoptC id j r ty sz bt cs).find i=σ.find i:=by
     unfold AS.adoptC aL;simp only [lkE];cases c:aE id i with
     |true=>exact absurd (aB c) hi
     |false =>
      cases L:aE r i with
      |true=>exact absurd (aB L) q
      |false=>rfl
    rw [e,aC _ _ _ (Ne.symm q)];have:=h.me i;cases O:σ.find i with
    |none=>rw [O] at this;exact this
    |some en =>
     rw [O] at this;obtain ⟨x,t,T⟩:=this;exact ⟨x,t,T.move (aD _) (fun b c _=>⟨rfl,W b c⟩) (fun i x t=>aH (by rw [aC _ _ _ (S i x t)];exact t)) (fun _ _=>rfl)⟩
 ·have J:i≠r:=fun e=>by subst e;rw [aA] at hi;injection hi with hi;subst hi;exact T3 (s:=.slice none 0 0) rfl mi
  have I:j≠r:=fun e=>by subst e;rw [aA] at d;injection d with d;subst d;exact T3 (s:=.slice none 0 0) rfl mj
  rw [aC _ _ _ J] at hi;rw [aC _ _ _ I] at d;exact h.inj i j b s Q hi d mi mj
def AS.freeze (σ:AS)(t r sz:Nat)(xs:List AV):AS:=⟨(t,.sl sz xs)::σ.tm,(r,.dead)::σ.me⟩
theorem LeX.freeze (t r ty sz:Nat)(xs:List AV)(Q:σ.get t=.row r)(T:σ.find r=some (.row ty sz xs)):LeX E nt σ (σ.freeze t r sz xs):=fun cx hE Z a w ⟨γ,h⟩=>by
 have A:=h.me r;rw [T] at A;obtain ⟨d,J,I⟩:=A;have c:∀ b,own (γ.set r none) b->own γ b/\∀ s,γ r≠some (some (some b,s)):=fun b ⟨i,s,hi,hm⟩=>by
  by_cases m:i=r
  ·subst m;rw [aA] at hi;injection hi with hi;subst hi;simp [blks] at hm
  ·rw [aC _ _ _ m] at hi;exact ⟨⟨i,s,hi,hm⟩,fun O F=>m (h.inj _ _ _ _ _ hi F hm C1)⟩
 have L:∀ b,Sg cx.S0 cx.w0.heap.size γ b->Sg cx.S0 cx.w0.heap.size (γ.set r none) b:=fun b p=>p.elim aH (fun ⟨h1,U⟩=>aK ⟨h1,fun z=>U (c b z).1⟩)
 have B:∀ i x,γ i=some x->γ.set r none i=some x\/γ.set r none i=some none\/Turn (γ.set r none) i x:=fun i x D=>by
  by_cases m:i=r
  ·subst m;exact aK (aH (aA _ _ _))
  ·exact aH (by rw [aC _ _ _ m];exact D)
 have mv:∀ {av v},Rep w (Sg cx.S0 cx.w0.heap.size γ) γ av v->Rep w (Sg cx.S0 cx.w0.heap.size (γ.set r none)) (γ.set r none) av v:=fun C=>(C.mono (aD _) (fun b p _=>⟨rfl,L b p⟩)).gam B
 refine ⟨γ.set r none,fun u=>?_,fun i=>?_,fun i j b s O hi q mi mj=>?_,fun b p=>h.ge b (c b p).1,h.below,h.size,h.defers.gam (fun b p=>(c b p).1),h.gh,fun b p=>by obtain ⟨Y,X,W⟩:=h.fr b p;exact ⟨fun z=>Y (c b z).1,X,W⟩,h.dr⟩
 ·by_cases M:t=u
  ·subst M;have e:(σ.freeze t r sz xs).get t=.sl sz xs:=by simp [AS.freeze,aQ,lkV]
   rw [e];have C:=h.tm t;rw [Q] at C;obtain ⟨s,S,G⟩:=Fh (S':=Sg cx.S0 cx.w0.heap.size (γ.set r none)) I (fun b p _=>L b p) (fun s g B=>aK ⟨(h.ge g (own.mk (id:=r) (s:=s) (by rw [J,B]))).1,fun z=>(c g z).2 s (by rw [J,B])⟩) (γ.set r none);subst S;rw [C.row_inv J];exact G
  ·have e:(σ.freeze t r sz xs).get u=σ.get u:=by
    unfold AS.freeze aQ;simp only [lkV];cases p:aE t u with
    |true=>exact absurd (aB p) M
    |false=>rfl
   rw [e];exact mv (h.tm u)
 ·by_cases hi:r=i
  ·subst hi;have e:(σ.freeze t r sz xs).find r=some .dead:=by simp [AS.freeze,aL,lkE]
   rw [e];exact ⟨none,aA _ _ _,rfl⟩
  ·have e:(σ.freeze t r sz xs).find i=σ.find i:=by
    unfold AS.freeze aL;simp only [lkE];cases p:aE r i with
    |true=>exact absurd (aB p) hi
    |false=>rfl
   rw [e,aC _ _ _ (Ne.symm hi)];have:=h.me i;cases N:σ.find i with
   |none=>rw [N] at this;exact this
   |some en =>
    rw [N] at this;obtain ⟨x,D,I⟩:=this;exact ⟨x,D,I.move (aD _) (fun b p _=>⟨rfl,L b p⟩) B (fun _ _=>rfl)⟩
 ·have m:i≠r:=fun e=>by subst e;rw [aA] at hi;injection hi with hi;subst hi;simp [blks] at mi
  have H:j≠r:=fun e=>by subst e;rw [aA] at q;injection q with q;subst q;simp [blks] at mj
  rw [aC _ _ _ m] at hi;rw [aC _ _ _ H] at q;exact h.inj _ _ _ _ _ hi q mi mj
section
variable {E:Env} {nt:Nat} {R:Exit->AS->Prop}
theorem AW.weaken {c:Code}{K:List Bt}{τ:AS}(e:LeX E nt σ τ)(h:AW E nt R (.code c::K) .normal τ):AW E nt R (.code c::K) .normal σ:=⟨fun cx d b=>WP.weaken (e cx d b) (h.out cx d b)⟩
end
def Ent.frz (r sz:Nat)(xs:List AV):Ent->Ent |.box ty cs=>.box ty (AV.frzL r sz xs cs) |e=>e
def AS.frzAll (σ:AS)(r sz:Nat)(xs:List AV):AS:=⟨σ.tm.map fun p=>(p.1,p.2.frz r sz xs),(r,.dead)::σ.me.map fun p=>(p.1,p.2.frz r sz xs)⟩
theorem zya (g:AV->AV)(h:g .any=.any)(l:List (Nat×AV))(t:Nat):lkV (l.map fun p=>(p.1,g p.2)) t=g (lkV l t):=by
 induction l with
 |nil=>simp [lkV,h]
 |cons p l b =>
  obtain ⟨u,x⟩:=p;simp only [aS,lkV];cases aE u t<;>simp [b]
theorem zye (g:Ent->Ent)(l:List (Nat×Ent))(t:Nat):lkE (l.map fun p=>(p.1,g p.2)) t=(lkE l t).map g:=by
 induction l with
 |nil=>simp [lkE]
 |cons p l b =>
  obtain ⟨u,x⟩:=p;simp only [aS,lkE];cases aE u t<;>simp [b]
theorem LeX.frzAll (r ty sz:Nat)(xs:List AV)(S:σ.find r=some (.row ty sz xs)):LeX E nt σ (σ.frzAll r sz xs):=fun cx hE hn a w ⟨γ,h⟩=>by
 have C:=h.me r;rw [S] at C;obtain ⟨d,J,F⟩:=C;have c:∀ b,own (γ.set r none) b->own γ b/\∀ s,γ r≠some (some (some b,s)):=fun b ⟨i,s,hi,hm⟩=>by
  by_cases m:i=r
  ·subst m;rw [aA] at hi;injection hi with hi;subst hi;simp [blks] at hm
  ·rw [aC _ _ _ m] at hi;exact ⟨⟨i,s,hi,hm⟩,fun O H=>m (h.inj _ _ _ _ _ hi H hm C1)⟩
 have L:∀ b,Sg cx.S0 cx.w0.heap.size γ b->Sg cx.S0 cx.w0.heap.size (γ.set r none) b:=fun b p=>p.elim aH (fun ⟨h1,M⟩=>aK ⟨h1,fun B=>M (c b B).1⟩)
 have D:∀ i x,γ i=some x->γ.set r none i=some x\/γ.set r none i=some none\/Turn (γ.set r none) i x:=fun i x t=>by
  by_cases m:i=r
  ·subst m;exact aK (aH (aA _ _ _))
  ·exact aH (by rw [aC _ _ _ m];exact t)
 obtain ⟨s,Q,A⟩:=Fh (S':=Sg cx.S0 cx.w0.heap.size (γ.set r none)) F (fun b p _=>L b p) (fun s g D=>aK ⟨(h.ge g (own.mk (id:=r) (s:=s) (by rw [J,D]))).1,fun B=>(c g B).2 s (by rw [J,D])⟩) (γ.set r none);have mv:∀ {av v},Rep w (Sg cx.S0 cx.w0.heap.size γ) γ av v->Rep w (Sg cx.S0 cx.w0.heap.size (γ.set r none)) (γ.set r none) (av.frz r sz xs) v:=fun G =>
  (G.mono (aD _) (fun b p _=>⟨rfl,L b p⟩)).frz (fun i x hi t=>by rw [aC _ _ _ hi];exact t) J (aA _ _ _) (fun v G=>by rw [G _ _ Q A.sl_tup];exact A)
 refine ⟨γ.set r none,fun u=>?_,fun i=>?_,fun i j b s O hi z mi mj=>?_,fun b p=>h.ge b (c b p).1,h.below,h.size,h.defers.gam (fun b p=>(c b p).1),h.gh,fun b p=>by obtain ⟨Z,Y,X⟩:=h.fr b p;exact ⟨fun B=>Z (c b B).1,Y,X⟩,h.dr⟩
 ·have e:(σ.frzAll r sz xs).get u=(σ.get u).frz r sz xs:=zya _ rfl _ _;rw [e];exact mv (h.tm u)
 ·by_cases hi:r=i
  ·subst hi;have e:(σ.frzAll r sz xs).find r=some .dead:=by simp [AS.frzAll,aL,lkE]
   rw [e];exact ⟨none,aA _ _ _,rfl⟩
  ·have e:(σ.frzAll r sz xs).find i=(σ.find i).map (Ent.frz r sz xs):=by
    unfold AS.frzAll aL;simp only [lkE];cases p:aE r i with
    |true=>exact absurd (aB p) hi
    |false=>exact zye _ _ _
   rw [e,aC _ _ _ (Ne.symm hi)];have:=h.me i;cases N:σ.find i with
   |none=>rw [N] at this;exact this
   |some en =>
    rw [N] at this;obtain ⟨x,t,F⟩:=this;cases en with
    |box ty cs =>
     obtain ⟨g,vs,h1,M,W,U,T⟩:=F;exact ⟨x,t,g,vs,h1,M,by rw [W,AV.frzL_length],fun i hi=>by
      have q:=hi;rw [AV.frzL_length] at q;rw [AV.frzL_at r sz xs _ i q];exact mv (U i q),T⟩
    |_=>exact ⟨x,t,F.move (aD _) (fun b p _=>⟨rfl,L b p⟩) D (fun _ _=>rfl)⟩
 ·have m:i≠r:=fun e=>by subst e;rw [aA] at hi;injection hi with hi;subst hi;simp [blks] at mi
  have I:j≠r:=fun e=>by subst e;rw [aA] at z;injection z with z;subst z;simp [blks] at mj
  rw [aC _ _ _ m] at hi;rw [aC _ _ _ I] at z;exact h.inj _ _ _ _ _ hi z mi mj
def zkj (σ:AS)(i:Nat):AV->AV
 |.row j=>match aE j i with
  |true=>.row j
  |false=>match σ.find j with|some (.row _ sz xs)=>.sl sz xs|_=>.any
 |x=>match x.closed with|true=>x|false=>.any
def zki (σ:AS)(i:Nat):AV->AV |.agg cs=>.agg (cs.map (zkj σ i)) |x=>zkj σ i x
def zz9 (σ:AS)(i:Nat):AV->AV |.tup cs=>.tup (cs.map (zki σ i)) |x=>zki σ i x
section
variable {cx:Cx} {σ:AS} {γ γ':Gam} {a:Act} {w:World} {S':Nat->Prop} {i:Nat} {x:Option (Option Nat×Value)}
variable {v:Value}
theorem zf4 (p:StG cx γ σ a w)(hi:γ i=some x)(u:γ' i=some x)(A:∀ b,Sg cx.S0 cx.w0.heap.size γ b->S' b)(D:∀ j b s,j≠i->γ j=some (some (some b,s))->S' b){av:AV}(h:Rep w (Sg cx.S0 cx.w0.heap.size γ) γ av v):Rep w S' γ' (zkj σ i av) v:=by
 have cl:∀ av v,Rep w (Sg cx.S0 cx.w0.heap.size γ) γ av v->Rep w S' γ' (match av.closed with|true=>av|false=>.any) v:=fun av v h=>by
  cases I:av.closed with
  |true=>exact (h.close I).mono (aD _) (fun b c _=>⟨rfl,A b c⟩)
  |false=>exact .any _
 cases av with
 |row j =>
  simp only [zkj];cases c:aE j i with
  |true =>
   have:=aB c;subst this;cases h with
   |row h B=>rw [hi] at h;injection h with h;subst h;exact .row u B
  |false =>
   have t:=aM c;simp only;have m:=p.me j;cases G:σ.find j with
   |none=>exact .any _
   |some e =>
    cases e with
    |row ty sz xs =>
     rw [G] at m;obtain ⟨d,z,H⟩:=m;obtain ⟨s,C,q⟩:=Fh (S':=S') H (fun b c _=>A b c) (fun s g F=>D j g s t (by rw [z,F])) γ';subst C;rw [h.row_inv z];exact q
    |_=>exact .any _
 |_=>exact cl _ _ h
theorem zf3 (c:StG cx γ σ a w)(hi:γ i=some x)(d:γ' i=some x)(m:∀ b,Sg cx.S0 cx.w0.heap.size γ b->S' b)(g:∀ j b s,j≠i->γ j=some (some (some b,s))->S' b){av:AV}(h:Rep w (Sg cx.S0 cx.w0.heap.size γ) γ av v):Rep w S' γ' (zki σ i av) v:=by
 cases av with
 |agg cs =>
  obtain ⟨vs,rfl,q,p,h1⟩:=h.agg_inv;simp only [zki];refine .agg vs (by simpa using q) (fun k t=>?_) h1;have e:k<cs.length:=by simpa using t
  simp only [getElem_map];exact zf4 c hi d m g (p k e)
 |_=>exact zf4 c hi d m g h
theorem zvc (c:StG cx γ σ a w)(hi:γ i=some x)(d:γ' i=some x)(m:∀ b,Sg cx.S0 cx.w0.heap.size γ b->S' b)(g:∀ j b s,j≠i->γ j=some (some (some b,s))->S' b){av:AV}(h:Rep w (Sg cx.S0 cx.w0.heap.size γ) γ av v):Rep w S' γ' (zz9 σ i av) v:=by
 cases av with
 |tup cs =>
  obtain ⟨vs,rfl,q,p⟩:=h.tup_inv;simp only [zz9];refine .tup vs (by simpa using q) (fun k t=>?_);have e:k<cs.length:=by simpa using t
  simp only [getElem_map];exact zf3 c hi d m g (p k e)
 |_=>exact zf3 c hi d m g h
end
inductive TX (E:Env) (nt:Nat) (fn:Func) (σ:AS) (ty sz:Nat) (xs:List AV) (res:AV):Prop
 |mk (τ:AS) (i:Nat) (hl:LeX E nt σ τ) (avs:List AV) (h1:retA E.tab τ fn.results.toList=some avs) (h2:τ.find i=some (.row ty sz xs)) (h3:Sub (zz9 τ i (K4 avs)) (res.ren fun _=>i))
def EndT (E:Env)(nt:Nat)(fn:Func)(ty sz:Nat)(xs:List AV)(res:AV):Exit->AS->Prop |.normal,σ=>TX E nt fn σ ty sz xs res |.ret,σ=>TX E nt fn σ ty sz xs res |_,_=>False
variable {xs:List AV}
theorem ConT.walk {f:FuncId}{fn:Func}{args:List AV}{res:AV}(c:Code)(hf:E.P.funcs[f]? = some fn)(m:fn.body=some c)(he:Ci E f)(Z:Nat.ble args.length fn.ntmps=true)(p:res.inM [0]=true)
  (h:AW E fn.ntmps (EndT E fn.ntmps fn ty sz xs res) [.code c] .normal (Es args)) (B:E.rg=false:=by rfl) (z:E.yl=none:=by rfl) (D:E.np=0:=by rfl)(B:E.rg=false:=by rfl) (z:E.yl=none:=by rfl) (D:E.np=0:=by rfl):ConT E f args ty sz xs res:=by
 refine ⟨he,p,fun S w vs ha=>callsIn_wide.1 (callsIn_of_wp (F:=Fence.wide) (n:=0) hf m trivial ?_)⟩;have h0:WP (Cx.call E S w fn.ntmps) c (EndT E fn.ntmps fn ty sz xs res) (Es args):=WP.mono (h.out (Cx.call E S w fn.ntmps) rfl rfl) fun e σ I=>by cases e<;>exact I
 refine wpIn_mono (h0 _ _ (Zy z D ha (aG Z))) (fun e a w' ⟨σ,N,A⟩=>?_);have key:TX E fn.ntmps fn σ ty sz xs res->bodyPost E.P fn (fun e w'=>∃ u v us,e=.returned u/\Below w.heap.size w w'/\w'.ownsRow w.heap.size ty sz v xs.length us /\
  (∀ k (I:k<xs.length),(xs[k]).cells.length=sz)/\(∀ k (I:k<xs.length) j (L:j<(xs[k]).cells.length),Rep w' (fun b=>(S b\/w.heap.size<=b)/\v.ownBlock≠some b) G0 ((xs[k]).cells[j]) (us.getD (k*sz+j) undef))/\(∀ u∈us,u.oneCell'=true) /\
  ∀ γ':Gam,γ' 0=some (some (v.ownBlock,v))->Rep w' (fun b=>(S b\/w.heap.size<=b)/\v.ownBlock≠some b) γ' res u) .ret a w':=by
  rintro ⟨τ,i,hl,avs,h1,h2,h3⟩;obtain ⟨γ,g⟩:=hl (Cx.call E S w fn.ntmps) rfl rfl a w' A;obtain ⟨u,X,Y⟩:=Wq g h1;have G:=g.me i;rw [h2] at G;obtain ⟨d,J,s,us,Q,T,C,H,M,q⟩:=G;subst Q;have W:∀ b,Sg (fun b=>S b/\b<w.heap.size) w.heap.size γ b->(S b\/w.heap.size<=b)/\s.ownBlock≠some b:=fun b m=>by
   refine ⟨?_,fun e=>?_⟩
   ·rcases m with ⟨m,_⟩|⟨m,_⟩
    ·exact aH m.1
    ·exact aK m.1
   ·have U:own γ b:=own.mk (id:=i) (s:=s) (by rw [J,e]);rcases m with ⟨_,m⟩|⟨_,m⟩
    ·have:=(g.ge b U).1.1;exact absurd m (by show ¬b<w.heap.size;exact Nat.not_lt.2 this)
    ·exact m U
  refine ⟨g.defers.d0 B,u,X,u,s,us,rfl,g.below,C,H,fun k I j L=>(M k I j L).mono (aD _) (fun b m _=>⟨rfl,W b m⟩),q,fun γ' t=>?_⟩;have hc:=zvc (S':=fun b=>(S b\/w.heap.size<=b)/\s.ownBlock≠some b) (γ':=fun j=>if j=i then γ i else none) g J (by simp [J]) W (fun j b s' L m=>⟨aK (g.ge b (own.mk m)).1.1,fun e=>L (g.inj _ _ _ _ _ m J C1 (by rw [e];exact C1))⟩) Y;exact (hc.sub h3).ren (ids:=[0]) (ρ:=fun _=>i) (fun id O=>by
   have:id=0:=by simpa using O
   subst this;rw [t];simp [J]) res rfl p
 cases e with
 |normal=>exact key N
 |ret=>exact key N
 |_=>exact N.elim
section
variable {α β γ δ:Type}
def cnd (b:Bool)(x y:Option β):Option β:=match b with|true=>x|false=>y
def idx (l:List α)(n:Int)(k:α->Option β):Option β:=if 0<=n then (match l[n.toNat]? with|some x=>k x|none=>none) else none
def nat (n:Int)(len:Nat)(k:Nat->Option β):Option β:=if 0<=n/\n.toNat<len then k n.toNat else none
def ltx (m len:Nat)(x:Option β):Option β:=if m<len then x else none
def elt (l:List α)(m:Nat)(k:α->Option β):Option β:=match l[m]? with|some x=>k x|none=>none
def slc (len:Nat)(lo hi:Int)(k:Nat->Nat->Option β):Option β:=if 0<=lo/\lo<=hi/\hi<=(len:Int) then k lo.toNat hi.toNat else none
def sls (l:List α)(lo hi:Int)(k:List α->Option β):Option β:=if 0<=lo/\lo<=hi/\hi<=(l.length:Int) then k ((l.take hi.toNat).drop lo.toNat) else none
def app (l m:List α)(bytes:Nat)(k:List α->Option β):Option β:=if l.length+m.length<=1099511627776/\(l.length+m.length)*bytes<=140737488355328 then k (l++m) else none
def mak (n:Int)(bytes:Nat)(z:α)(k:List α->Option β):Option β:=if 0<=n/\n.toNat<=1099511627776/\bytes*n.toNat<=281474976710656 then k (aT n.toNat z) else none
def stx (l:List α)(m:Nat)(f:α->α)(k:List α->Option β):Option β:=match l[m]? with|some x=>k (l.set m (f x))|none=>none
variable {κ ν:Type}
def mlk [DecidableEq κ]:List (κ×ν)->κ->Option ν
 |[],_=>none
 |(a,v)::r,k=>if k=a then some v else mlk r k
def mput [DecidableEq κ]:List (κ×ν)->κ->ν->List (κ×ν)
 |[],k,v=>[(k,v)]
 |(a,x)::r,k,v=>if k=a then (k,v)::r else (a,x)::mput r k v
def mgt [DecidableEq κ](l:List (κ×ν))(k:κ)(z:ν)(c:ν->Bool->Option β):Option β:=c ((mlk l k).getD z) (mlk l k).isSome
def mst [DecidableEq κ](l:List (κ×ν))(k:κ)(v:ν)(c:List (κ×ν)->Option β):Option β:=c (mput l k v)
def nzx (b:Int)(x:Option β):Option β:=if b=0 then none else x
def psx (b:Int)(x:Option β):Option β:=if 0<b then x else none
def shx (b:Int)(x:Option β):Option β:=if 0<=b then x else none
def bnd (o:Option α)(k:α->Option β):Option β:=match o with|some a=>k a|none=>none
def bndC (o:Option α)(k:α->Option β):Option β:=match o with|some a=>k a|none=>none
def bndR (o:Option α)(k:α->Option β):Option β:=match o with|some a=>k a|none=>none
def frz (id:Nat)(x:Option β):Option β:=x
def reg (x:Option β):Option β:=x
variable {x y:Option β}{r:β}
theorem Aa.o {b:Bool}{p q:Prop}(h:cnd b x y=some r)(h1:x=some r->p)(c:y=some r->q):Aa b p q:=⟨fun e=>h1 (by subst e;exact h),fun e=>c (by subst e;exact h)⟩
variable {l:List α}{n:Int}{K:AV->Prop}{k:α->Option β}
theorem IdxX.o (enc:α->AV)(h:idx l n k=some r)(c:∀ x,k x=some r->K (enc x)):IdxX (l.map enc) n K:=by
 unfold idx at h;split at h
 ·rename_i d;split at h
  ·rename_i x b;exact .mk n.toNat (enc x) (by omega) (by rw [aO,b];rfl) (c x h)
  ·cases h
 ·cases h
theorem IdxX.o2 {u v:AV}(h:cnd (decide (n=0)) x (cnd (decide (n=1)) y none)=some r)(b:x=some r->K u)(h1:y=some r->K v):IdxX [u,v] n K:=by
 unfold cnd at h;split at h
 ·rename_i e;exact .mk 0 u (of_decide_eq_true e) rfl (b h)
 ·split at h
  ·rename_i e;exact .mk 1 v (of_decide_eq_true e) rfl (h1 h)
  ·cases h
theorem Nz (a b:ByteArray):(a.toList == b.toList)=decide (a=b):=by
 rw [<-zf6,Bool.eq_iff_iff,MapKept.bytes_beq];simp
variable {len:Nat}
theorem NatX.o {K:Nat->Prop}{k:Nat->Option β}(h:nat n len k=some r)(c:∀ m,k m=some r->K m):NatX n len K:=by
 unfold nat at h;split at h
 ·rename_i b;exact .mk n.toNat (by omega) b.2 (c _ h)
 ·cases h
theorem NatX.o2 {K:Nat->Prop}(h:cnd (decide (n=0)) x (cnd (decide (n=1)) y none)=some r)(b:x=some r->K 0)(h1:y=some r->K 1):NatX n 2 K:=by
 unfold cnd at h;split at h
 ·rename_i e;exact .mk 0 (of_decide_eq_true e) (by omega) (b h)
 ·split at h
  ·rename_i e;exact .mk 1 (of_decide_eq_true e) (by omega) (h1 h)
  ·cases h
theorem NatX.o3 {K:Nat->Prop}{z:Option β}(h:cnd (decide (n=0)) x (cnd (decide (n=1)) y (cnd (decide (n=2)) z none))=some r)(c:x=some r->K 0)(h1:y=some r->K 1)(b:z=some r->K 2):NatX n 3 K:=by
 unfold cnd at h;split at h
 ·rename_i e;exact .mk 0 (of_decide_eq_true e) (by omega) (c h)
 ·split at h
  ·rename_i e;exact .mk 1 (of_decide_eq_true e) (by omega) (h1 h)
  ·split at h
   ·rename_i e;exact .mk 2 (of_decide_eq_true e) (by omega) (b h)
   ·cases h
theorem LtX.o {m:Nat}{K:Prop}(h:ltx m len x=some r)(b:x=some r->K):LtX m len K:=by
 unfold ltx at h;split at h
 ·rename_i hm;exact .mk hm (b h)
 ·cases h
theorem EltX.o (enc:α->AV){m:Nat}(h:elt l m k=some r)(c:∀ x,k x=some r->K (enc x)):EltX (l.map enc) m K:=by
 unfold elt at h;split at h
 ·rename_i x b;exact .mk (enc x) (by rw [aO,b];rfl) (c x h)
 ·cases h
theorem SlcX.o {lo hi:Int}{K:Nat->Nat->Prop}{k:Nat->Nat->Option β}(h:slc len lo hi k=some r)(b:∀ l h,k l h=some r->K l h):SlcX len lo hi K:=by
 unfold slc at h;split at h
 ·rename_i c;exact .mk lo.toNat hi.toNat (by omega) (by omega) (by omega) (by omega) (b _ _ h)
 ·cases h
theorem SlsX.o (enc:α->AV){lo hi:Int}{K:List AV->Prop}{k:List α->Option β}(h:sls l lo hi k=some r)(c:∀ b,k b=some r->K (b.map enc)):SlsX (l.map enc) lo hi K:=by
 unfold sls at h;split at h
 ·rename_i d;exact .mk lo.toNat hi.toNat (by omega) (by omega) (by omega) (by rw [aJ];omega) _ (by rw [map_drop,map_take]) (c _ h)
 ·cases h
variable {bytes:Nat}
theorem AppX.o {m:List α}(enc:α->AV){ys:List AV}{K:List AV->Prop}{k:List α->Option β}(h:app l m bytes k=some r)(c:SubR ys (m.map enc))(g:∀ b,k b=some r->K (b.map enc)):AppX ((l.map enc).length+ys.length) bytes (l.map enc++ys) K:=by
 have e:=c.len;unfold app at h;split at h
 ·rename_i d;exact .sub ((l++m).map enc) (by rw [map_append];exact .append (.refl _) c) (by rw [aJ,e,aJ];exact d.1) (by rw [aJ,e,aJ];exact d.2) (g _ h)
 ·cases h
theorem AppX.o0 {m:List α}(enc:α->AV){ys:List AV}{K:List AV->Prop}{k:List α->Option β}(h:app [] m bytes k=some r)(c:SubR ys (m.map enc))(g:∀ b,k b=some r->K (b.map enc)):AppX ys.length bytes ys K:=by
 have e:=c.len;unfold app at h;split at h
 ·rename_i d;exact .sub (m.map enc) c (by rw [e,aJ];simpa using d.1) (by rw [e,aJ];simpa using d.2) (g _ h)
 ·cases h
theorem MakX.o {z:α}(enc:α->AV){y:AV}{K:List AV->Prop}{k:List α->Option β}(h:mak n bytes z k=some r)(d:SubL y.cells (enc z).cells)(e:∀ b,k b=some r->K (b.map enc)):MakX n bytes y K:=by
 unfold mak at h;split at h
 ·rename_i c;exact .mk n.toNat (by omega) c.2.1 c.2.2 _ (by rw [map_replicate];exact .replicate d _) (e _ h)
 ·cases h
theorem SetX.o (enc:α->AV){f:α->α}{m j n:Nat}{av:AV}{ok:AV->Bool}{put:AV->AV}{K:List AV->Prop}{k:List α->Option β}(h:stx l m f k=some r)(c:∀ x,ok (enc x)=true)(b:∀ x,SubL (put (enc x)).cells (enc (f x)).cells)(g:∀ d,k d=some r->K (d.map enc)):SetX (l.map enc) m j n av ok put K:=by
 unfold stx at h;split at h
 ·rename_i x e;exact .mk (enc x) (by rw [aO,e];rfl) (c x) _ (by rw [map_set];exact .set (b x) _ _) (g _ h)
 ·cases h
theorem ShX.o {b:Int}{K:Prop}(h:shx b x=some r)(c:x=some r->K):ShX b K:=by
 unfold shx at h;split at h
 ·rename_i d;exact .mk d (c h)
 ·cases h
def encM (encK:κ->AV)(encV:ν->AV)(p:κ×ν):AV×AV:=(encK p.1,encV p.2)
theorem zek [DecidableEq κ](encK:κ->AV)(encV:ν->AV)(g:∀ a b,eqK (encK a) (encK b)=some (decide (a=b)))(k:κ):∀ (l:List (κ×ν)) (i:Nat),
  ∃ r,Bz (encK k) ((l.map (encM encK encV)).map (·.1)) i=some r/\r.isSome=(mlk l k).isSome/\(∀ j,r=some j->i<=j/\∃ v,mlk l k=some v/\((l.map (encM encK encV)).getD (j-i) default).2=encV v) /\
   ∀ (v:ν) (x:AV),Sub x (encV v)->SubM (putK (r.map (· - i)) (encK k) x (l.map (encM encK encV))) ((mput l k v).map (encM encK encV))
 |[],i=>⟨none,rfl,rfl,fun j h=>(by cases h),fun v x c=>.cons _ c .nil⟩
 |(a,v)::r,i=>by
  simp only [aS,encM,Bz,g,mlk,mput];by_cases d:k=a
  ·subst d;simp only [decide_true];refine ⟨some i,rfl,by simp,fun j e=>?_,fun v' x c=>?_⟩
   ·injection e with e;subst e;exact ⟨aD _,v,by simp,by simp⟩
   ·simp only [if_true,Option.map_some,Nat.sub_self,putK,set_cons_zero,aS];exact .cons _ c (.refl _)
  ·rw [decide_eq_false d];obtain ⟨q,h1,s,m,p⟩:=zek encK encV g k r (i+1);refine ⟨q,h1,by rw [s,if_neg d],fun j e=>?_,fun v' x c=>?_⟩
   ·obtain ⟨z,v',u,t⟩:=m j e;refine ⟨by omega,v',by rw [if_neg d];exact u,?_⟩;rw [show j-i=(j-(i+1))+1 by omega,getD_cons_succ];exact t
   ·have:=p v' x c;rw [if_neg d];cases q with
    |none=>exact .cons _ (.refl _) this
    |some j =>
     obtain ⟨z,_⟩:=m j rfl;simp only [Option.map_some,putK] at this ⊢;rw [show j-i=(j-(i+1))+1 by omega,set_cons_succ];exact .cons _ (.refl _) this
theorem LkX.o [DecidableEq κ]{l:List (κ×ν)}{k:κ}{z:ν}{P:Program}{kt:Nat}{zA:AV}{K:AV->Bool->Prop}{c:ν->Bool->Option β}(encK:κ->AV)(encV:ν->AV)(h:mgt l k z c=some r)(g:Bv P kt (encK k)=true)(m:∀ a b,eqK (encK a) (encK b)=some (decide (a=b)))(e:Sub zA (encV z))
  (p:∀ v b,c v b=some r->K (encV v) b):LkX P kt (encK k) (l.map (encM encK encV)) zA K:=by
 obtain ⟨q,h1,d,s,_⟩:=zek encK encV m k l 0;refine .mk q (encV ((mlk l k).getD z)) (mlk l k).isSome g h1 d ?_ (p _ _ h);cases q with
 |none =>
  have:mlk l k=none:=by cases hm:mlk l k with
   |none=>rfl
   |some v=>rw [hm] at d;cases d
  rw [this];exact e
 |some j =>
  obtain ⟨_,v,u,t⟩:=s j rfl;rw [u,Option.getD_some,<-t];exact .refl _
theorem UpX.o [DecidableEq κ]{l:List (κ×ν)}{k:κ}{v:ν}{P:Program}{kt:Nat}{x:AV}{K:List (AV×AV)->Prop}{c:List (κ×ν)->Option β}(encK:κ->AV)(encV:ν->AV)(h:mst l k v c=some r)(g:Bv P kt (encK k)=true)(m:∀ a b,eqK (encK a) (encK b)=some (decide (a=b)))(e:Sub x (encV v))
  (p:∀ d,c d=some r->K (d.map (encM encK encV))):UpX P kt (encK k) x (l.map (encM encK encV)) K:=by
 obtain ⟨q,h1,_,_,s⟩:=zek encK encV m k l 0;refine .mk q _ g h1 ?_ (p _ h);have:=s v x e;cases q with
 |none=>exact this
 |some j=>exact this
theorem PosX.o {b:Int}{K:Prop}(h:psx b x=some r)(c:x=some r->K):PosX b K:=by
 unfold psx at h;split at h
 ·rename_i d;exact .mk d (c h)
 ·cases h
theorem NzX.o {b:Int}{K:Prop}(h:nzx b x=some r)(c:x=some r->K):NzX b K:=by
 unfold nzx at h;split at h
 ·cases h
 ·rename_i d;exact .mk d (c h)
section
variable {E:Env} {nt:Nat} {f:FuncId} {avs:List AV}
variable {fr:Bool}{R:Nat->Nat->List AV->AV->Prop}{find:Nat->Option Ent}{KR:AV->List Nat->List (Nat×Ent)->Prop}
theorem Af.o {o:Option α}(h:bnd o k=some r)(enc:α->AV)(c:∀ a,o=some a->Con E fr f avs (enc a))(b:∀ a,k a=some r->K (enc a)):Af E f avs K R find KR:=by
 unfold bnd at h;split at h
 ·exact .mk fr _ (c _ rfl) (b _ h)
 ·cases h
theorem Af.oR {o:Option α}(h:bndR o k=some r)(rl:α->List γ)(encE:γ->AV)(res:α->AV)(b:E.dr=false)(d:∀ a,o=some a->ConT E f avs ty sz ((rl a).map encE) (res a))(c:∀ a,k a=some r->R ty sz ((rl a).map encE) (res a)):Af E f avs K R find KR:=by
 unfold bndR at h;split at h
 ·exact .rowT ty sz _ _ b (d _ rfl) (c _ h)
 ·cases h
variable {raw:List AV}{dst:Option Nat}
theorem B9.o {o:Option α}(h:bnd o k=some r)(enc:α->AV)(d:∀ a,o=some a->Con E fr f avs (enc a))(c:∀ a,fr=true\/(enc a).flat=true)(b:∀ a,k a=some r->K (enc a)):B9 E f avs K raw find dst KR:=by
 unfold bnd at h;split at h
 ·exact .mk fr _ (d _ rfl) (c _) (b _ h)
 ·cases h
variable {cargs:List AV}
theorem B9.oC {o:Option α}{d b c:Nat}(h:bndC o k=some r)(id:Nat)(rl:α->List γ)(encE:γ->AV)(res:α->AV)(e:E.dr=false)(u:∀ a,o=some a->ConC false E f cargs ty sz xs b c ((rl a).map encE) (res a))
  (m:AV.renL (fun _=>id) cargs=raw) (j:AV.inML [0] cargs=true) (q:find id=some (.row ty sz xs)) (t:dst=some d) (p:find d=none) (g:aE id d=false) (s:∀ a,k a=some r->KR ((res a).ren fun _=>d) [d,id] [(d,.row b c ((rl a).map encE)),(id,.dead)]):B9 E f avs K raw find dst KR:=by
 unfold bndC at h;split at h
 ·exact .take id d ty sz xs b c _ _ cargs e (u _ rfl) m j q t p (aM g) (s _ h)
 ·cases h
theorem B9.oE {o:Option α}{b:List AV}(h:bnd o k=some r)(id:Nat)(enc:α->AV)(d:find id=some (.row ty sz xs))(g:∀ a,o=some a->Con E fr f b (enc a))(j:AV.frzL id sz xs raw=b)(c:AV.closedL b=true)(e:∀ a,k a=some r->KR (enc a) [id] [(id,.dead)]):B9 E f avs K raw find dst KR:=by
 unfold bnd at h;split at h
 ·exact .eat id ty sz xs b fr _ d j c (g _ rfl) (e _ h)
 ·cases h
theorem B9.oI {o:Option α}(h:bndC o k=some r)(id:Nat)(rl:α->List γ)(encE:γ->AV)(res:α->AV)(b:E.dr=false)(j:∀ a,o=some a->ConC true E f cargs ty sz xs ty sz ((rl a).map encE) (res a))
  (d:AV.renL (fun _=>id) cargs=raw) (c:AV.inML [0] cargs=true) (e:find id=some (.row ty sz xs)) (g:∀ a,k a=some r->KR ((res a).ren fun _=>id) [id] [(id,.row ty sz ((rl a).map encE))]):B9 E f avs K raw find dst KR:=by
 unfold bndC at h;split at h
 ·exact .turn id ty sz xs _ _ cargs b (j _ rfl) d c e (g _ h)
 ·cases h
theorem Ax.o {V:Type}{L:Nat->V->Option β}{S:V->AS}{F:(AS->Prop)->AS->Prop}{n:Nat}{c:V}(h:L n c=some r)(e:∀ v,L 0 v=none)(g:LeX E nt σ (S c))(round:∀ m v,L (m+1) v=some r->F (fun b=>∃ v',L m v'=some r/\LeX E nt b (S v')) (S v))
  (mono:∀ (P Q:AS->Prop) σ,(∀ σ,P σ->Q σ)->F P σ->F Q σ):Ax E nt F σ:=by
 refine .mk (fun m σ=>∃ v,L m v=some r/\σ=S v) n (S c) g ⟨c,h,rfl⟩ ?_;rintro m σ ⟨v,d,rfl⟩;cases m with
 |zero=>rw [e] at d;cases d
 |succ m =>
  refine mono _ _ _ (fun b ⟨v',h1,j⟩=>?_) (round m v d);exact ⟨m,S v',j,Nat.lt_succ_self _,v',h1,rfl⟩
end
theorem RetX.o {v:AV}{a:β}{enc:β->AV}(h:some a=some r)(b:Sub v (enc a)):RetX v (enc r):=by injection h with h;subst h;exact .sub b
theorem TX.o {fn:Func}{a:β}{rl:β->List AV}{res:β->AV}(h:some a=some r)(b:TX E nt fn σ ty sz (rl a) (res a)):TX E nt fn σ ty sz (rl r) (res r):=by injection h with h;subst h;exact b
end
section
variable {E:Env} {nt:Nat}
theorem AW.mono1 {c:Code}{K:Exit->AS->Prop}{P Q:AS->Prop}(h:∀ σ,P σ->Q σ)(k:AW E nt (Cu P K) [.code c] .normal σ):AW E nt (Cu Q K) [.code c] .normal σ:=⟨fun cx j g=>WP.mono (k.out cx j g) (fun e d b=>by cases e<;>first|exact h _ b|exact b)⟩
end
section
variable {β V:Type} {E:Env} {nt:Nat} {R:Exit->AS->Prop} {K:List Bt}
theorem LoopA.o {L:Nat->V->Option β}{S:V->AS}{c:Code}{r:β}{n:Nat}{e:V}(h:L n e=some r)(g:∀ v,L 0 v=none)(j:LeX E nt σ (S e))
  (round:∀ m v,L (m+1) v=some r->AW E nt (Cu (fun b=>∃ v',L m v'=some r/\LeX E nt b (S v')) (AW E nt R K)) [.code c] .normal (S v)):Ax E nt (fun next b=>AW E nt (Cu next (AW E nt R K)) [.code c] .normal b) σ :=
 Ax.o h g j round (fun P Q σ d p=>AW.mono1 d p)
theorem AW.frzO {id:Nat}{c:Code}{x:Option β}{y:β}(h:frz id x=some y)(r:Nat)(b:σ.find r=some (.row ty sz xs))(k:x=some y->AW E nt R (.code c::K) .normal (σ.frzAll r sz xs)):AW E nt R (.code c::K) .normal σ:=AW.weaken (LeX.frzAll r ty sz xs b) (k h)
theorem AW.regO {id:Nat}{b:Array Oper}{d:Bool}{x:Option β}{y:β}(h:reg x=some y)(k:x=some y->AW E nt R (.ops d b b.toList [] []::K) .normal σ):AW E nt R (.code (.region id b d)::K) .normal σ:=AW.into (k h)
end
def AS.putS (σ:AS)(t:Nat)(v:AV):AS:=⟨(t,v)::σ.tm,σ.me⟩
theorem LeX.put (t:Nat)(v:AV)(c:Sub (σ.get t) v):LeX E nt σ (σ.putS t v):=fun cx j g a w ⟨γ,h⟩=>by
 refine ⟨γ,fun u=>?_,fun i=>h.me i,h.inj,h.ge,h.below,h.size,h.defers,h.gh,h.fr,h.dr⟩;by_cases b:t=u
 ·subst b;have e:(σ.putS t v).get t=v:=by simp [AS.putS,aQ,lkV]
  rw [e];exact (h.tm t).sub c
 ·have e:(σ.putS t v).get u=σ.get u:=by
   unfold AS.putS aQ;simp only [lkV];cases d:aE t u with
   |true=>exact absurd (aB d) b
   |false=>rfl
  rw [e];exact h.tm u
attribute [irreducible] cnd idx nat ltx elt slc sls app mak stx nzx shx bnd bndC bndR frz reg mgt mst psx
section
variable {P:Program}
end
section
variable {cx:Cx} {o:Oper} {σ:AS}
theorem z6w {T n d:Nat}{B:Array (Nat×Operand)}{i ie:TyI}{e esz eb:Nat}(ho:o.op=.buildSlice T n B)(C:o.dst=some d)(hd:dok cx o=true)(hT:lkT cx.E.tab T=some i)(hs:i.shape=.slc e esz eb)(he:lkT cx.E.tab e=some ie)(hz:esz≠0)(hn:Nat.ble (n*esz) 16777216=true)
  (W:ie.zero.cells.all (·.oneCell')=true) (X:Nat.blt 0 ie.zero.cells.size=true) (Z:Ff σ B=true) (ae:AV.closedL xs=true) (t:xs.length=n) (hl:xs.all (fun x=>aE x.cells.length esz)=true)
  (hf:D9 (fun j=>some (j*esz,esz)) (aT (n*esz) .any) (Cr σ B)=some (xs.flatMap AV.cells)) (aa:σ.find d=none):Aj cx o σ (.row d) (d::Fg (Cr σ B)) [(d,.row e esz xs)]:=by
 refine ⟨fun id e he=>?_,fun τ h1 h2 a w Q K ⟨γ,N⟩ hK=>C5 (fun c hc=>by rw [ho] at hc;cases hc) ?_⟩
 ·have:=D5 he;simp at this;simp [this]
 have S:=Zr N Z (fun p hp=>h1 p.2 (by simp only [ho,Op.operands,mem_toArray,mem_map];exact ⟨p,hp,rfl⟩)) (fun id ac=>h2 id (mem_cons_of_mem _ ac));have I:∀ j,(ie.zero.cells[j % ie.zero.cells.size]!).oneCell'=true:=zt9 W (by simpa using X);have L:CRel w (Sg cx.S0 cx.w0.heap.size γ) γ ((aU (n*esz)).map (ie.zero.cells[· % ie.zero.cells.size]!)) (aT (n*esz) .any):=by
  refine ⟨by simp,fun j F=>by simp only [getElem_replicate];exact .any _,fun j F=>?_⟩;have D:j<n*esz:=by simpa using F
  have:((aU (n*esz)).map (ie.zero.cells[· % ie.zero.cells.size]!)).getD j undef=ie.zero.cells[j % ie.zero.cells.size]! := by
   rw [aF,Array.getElem?_map,Array.getElem?_range,if_pos D];rfl
  rw [this];exact I j
 obtain ⟨cells',G,ah,ag,af⟩:=Xe (f:=a.eval) (g:=σ.eval) B.toList _ _ _ S L hf;have O:=Z5 (parts:=B.map fun p=>(p.1,a.eval p.2)) (cx.E.ok T i hT) hs (cx.E.ok e ie he) hz (aG hn) (by rw [Array.toList_map];exact G) w;have J:Below w.heap.size w (w.alloc (.cells cells' e)):=(Below.refl _ _).alloc (aD _) _;have m:∀ k (A:k<xs.length),(xs[k]).cells.length=esz:=fun k A=>by
  simp only [all_eq_true] at hl;exact aB (hl _ (getElem_mem A))
 obtain ⟨g1,g2⟩:=zyk m;have ab:∀ k j,k<xs.length->j<esz->k*esz+j<xs.length*esz:=fun k j A F=>by
  have:(k+1)*esz<=xs.length*esz:=Nat.mul_le_mul_right _ A;rw [Nat.succ_mul] at this;omega
 have H:cells'.size=n*esz:=by rw [ah,g1,t]
 have ai:n<=16777216:=by
  have h:=aG hn;have:n*1<=n*esz:=Nat.mul_le_mul_left _ (by omega);omega
 unfold Oper.wp;have ad:(execOp a.eval o).run cx.P w=.ok (.value (.slice (some ⟨w.heap.size,0,none⟩) n n)) (w.alloc (.cells cells' e)):=by
  have e':(B.map fun x=>match x with|(i,x)=>(i,a.eval x))=B.map fun p=>(p.1,a.eval p.2):=rfl
  simp only [execOp,ho,e',Sem.run_bind,Sem.run_pure,Result.andThen_ok,O]
 rw [ad];refine hK _ _ ?_;rw [C];refine Xi (v:=.slice (some ⟨w.heap.size,0,none⟩) n n) (us:=cells'.toList) N (fun _=>aD _) (by rw [h2 d (by simp),aa]) (fun x Y=>by injection Y with Y;subst Y;exact C0 hd _ C) J
  ⟨by rw [aN,H,t],aK ⟨w.heap.size,n,cells',by rw [t],aD _,Blk.new w _ _,by omega,by unfold maxLen;omega,H,?_⟩⟩ m (fun k A j F=>?_) (fun u hu=>?_)
  (fun hS=>.row (aA _ _ _) (fun g s e _=>by injection e with e;injection e with _ e))
 ·rw [take_of_length_le (by rw [aN,H,t];exact aD _)]
 ·have D:j<esz:=by rw [<-m k A];exact F
  have z:k*esz+j<(xs.flatMap AV.cells).length:=by rw [g1];exact ab k j A D
  have:=ag (k*esz+j) z;have M:=g2 k A j F;rw [getElem?_eq_getElem z] at M;injection M with M
  rw [M] at this;have e2:cells'.toList.getD (k*esz+j) undef=cells'.getD (k*esz+j) undef:=by
   rw [getD_eq_getElem?_getD,aF,Array.getElem?_toList]
  rw [e2];refine (this.mono J.size (fun b hS z=>⟨J.block b z,aH hS,fun e=>?_⟩)).close (z8w (AV.closedL_at ae k A) j F);simp only [Value.ownBlock,Option.some.injEq] at e;omega
 ·obtain ⟨q,M,rfl⟩:=mem_iff_getElem.1 hu;have U:q<cells'.size:=by simpa using M
  have:=af q U;rw [aF,Array.getElem?_eq_getElem U] at this;simpa using this
end
end Go.Proofs.YtidhlpjgifoneaaGreat
