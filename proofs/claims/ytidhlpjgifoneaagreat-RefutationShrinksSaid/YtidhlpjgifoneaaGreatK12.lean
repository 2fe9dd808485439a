/- The abstract walk, thirteenth part. -/
import Derived.Test.YtidhlpjgifoneaaGreatK11
import Derived.Lib.AppendStr
set_option linter.unusedVariables false
set_option linter.unusedSimpArgs false
namespace Go.Proofs.YtidhlpjgifoneaaGreat
open Go.RowKit List
theorem LeX.refl (E:Env)(nt:Nat)(σ:AS):LeX E nt σ σ:=fun _ _ _=>Le.refl _ _
variable {E:Env}{nt:Nat}
theorem LeX.trans {a b c:AS}(h:LeX E nt a b)(k:LeX E nt b c):LeX E nt a c:=fun cx hE hn=>(h cx hE hn).trans (k cx hE hn)
variable {σ:AS}
theorem Le.adopt_aux {cx:Cx}{γ:Gam}{a:Act}{w:World}(h:StG cx γ σ a w){r ty sz:Nat}(hr:σ.find r=none) :
  (∀ av v,Rep w (Sg cx.S0 cx.w0.heap.size γ) γ av v->Rep w (Sg cx.S0 cx.w0.heap.size (γ.set r (some (none,.slice none 0 0)))) (γ.set r (some (none,.slice none 0 0))) av v) /\
  (∀ i x,γ i=some x->i≠r)/\(∀ b,own (γ.set r (some (none,.slice none 0 0))) b->own γ b):=by
 have hγ:γ r=none:=by have:=h.me r;rw [hr] at this;exact this
 have hne:∀ i x,γ i=some x->i≠r:=fun i x hx e=>by subst e;rw [hγ] at hx;cases hx
 have hown:∀ b,own (γ.set r (some (none,.slice none 0 0))) b->own γ b:=fun b ⟨i,s,hi,hm⟩=>by
  by_cases hir:i=r
  ·subst hir;rw [Gam.set_self] at hi;injection hi with hi;subst hi;exact (zn5 (s:=.slice none 0 0) rfl hm).elim
  ·rw [Gam.set_ne _ _ _ hir] at hi;exact ⟨i,s,hi,hm⟩
 refine ⟨fun av v hv=>(hv.mono (Nat.le_refl _) (fun b hb _=>⟨rfl,?_⟩)).gam (fun i x hx=>Or.inl ?_),hne,hown⟩
 ·rcases hb with hb|⟨h1,h2⟩
  ·exact Or.inl hb
  ·exact Or.inr ⟨h1,fun ho=>h2 (hown b ho)⟩
 ·rw [Gam.set_ne _ _ _ (hne i x hx)];exact hx
variable {ty sz:Nat}
theorem yi3 {w:World}{S:Nat->Prop}{γ:Gam}{B:Nat}:z8s w S γ B (some (none,.slice none 0 0)) (.row ty sz []) :=
 ⟨.slice none 0 0,[],rfl,rfl,World.ownsRow_nil w _ _ _,fun k hk=>absurd hk (by simp),fun k hk=>absurd hk (by simp),fun u hu=>absurd hu (by simp)⟩
def AS.adopt (σ:AS)(t r ty sz:Nat):AS:=⟨(t,.row r)::σ.tm,(r,.row ty sz [])::σ.me⟩
theorem LeX.adopt (t r ty sz:Nat)(ht:σ.get t=.nils)(hr:σ.find r=none):LeX E nt σ (σ.adopt t r ty sz):=fun cx hE hn a w ⟨γ,h⟩=>by
 obtain ⟨k1,k2,k3⟩:=Le.adopt_aux (ty:=ty) (sz:=sz) h hr
 refine ⟨γ.set r (some (none,.slice none 0 0)),fun u=>?_,fun i=>?_,fun i j b s s' hi hj mi mj=>?_,fun b hb=>h.ge b (k3 b hb),h.below,h.size,h.defers.gam (fun b hb=>k3 b hb),h.gh,fun b hb=>by obtain ⟨f2,f3,f4⟩:=h.fr b hb;exact ⟨fun ho=>f2 (k3 b ho),f3,f4⟩,h.dr⟩
 ·by_cases hu:t=u
  ·subst hu
   have e:(σ.adopt t r ty sz).get t=.row r:=by simp [AS.adopt,AS.get,lkV]
   rw [e]
   have:=h.tm t
   rw [ht] at this
   rw [this.nils_inv]
   exact .row (Gam.set_self _ _ _) (fun g s e _=>by injection e with e;injection e with _ e)
  ·have e:(σ.adopt t r ty sz).get u=σ.get u:=by
    unfold AS.adopt AS.get
    simp only [lkV]
    cases hb:Nat.beq t u with
    |true=>exact absurd (Nat.eq_of_beq_eq_true hb) hu
    |false=>rfl
   rw [e]
   exact k1 _ _ (h.tm u)
 ·by_cases hi:r=i
  ·subst hi
   have e:(σ.adopt t r ty sz).find r=some (.row ty sz []):=by simp [AS.adopt,AS.find,lkE]
   rw [e]
   exact ⟨_,Gam.set_self _ _ _,yi3⟩
  ·have e:(σ.adopt t r ty sz).find i=σ.find i:=by
    unfold AS.adopt AS.find
    simp only [lkE]
    cases hb:Nat.beq r i with
    |true=>exact absurd (Nat.eq_of_beq_eq_true hb) hi
    |false=>rfl
   rw [e,Gam.set_ne _ _ _ (Ne.symm hi)]
   have:=h.me i
   cases hf:σ.find i with
   |none=>rw [hf] at this;exact this
   |some en =>
    rw [hf] at this
    obtain ⟨x,hx,he⟩:=this
    refine ⟨x,hx,he.move (Nat.le_refl _) (fun b hb _=>⟨rfl,?_⟩) (fun i x hx=>Or.inl (by rw [Gam.set_ne _ _ _ (k2 i x hx)];exact hx)) (fun _ _=>rfl)⟩
    rcases hb with hb|⟨h1,h2⟩
    ·exact Or.inl hb
    ·exact Or.inr ⟨h1,fun ho=>h2 (k3 b ho)⟩
 ·have hir:i≠r:=fun e=>by subst e;rw [Gam.set_self] at hi;injection hi with hi;subst hi;exact zn5 (s:=.slice none 0 0) rfl mi
  have hjr:j≠r:=fun e=>by subst e;rw [Gam.set_self] at hj;injection hj with hj;subst hj;exact zn5 (s:=.slice none 0 0) rfl mj
  rw [Gam.set_ne _ _ _ hir] at hi
  rw [Gam.set_ne _ _ _ hjr] at hj
  exact h.inj i j b s s' hi hj mi mj
def AS.adoptC (σ:AS)(id j r ty sz bt:Nat)(cs:List AV):AS:=⟨σ.tm,(id,.box bt (cs.set j (.row r)))::(r,.row ty sz [])::σ.me⟩
theorem LeX.adoptC (id j r ty sz bt:Nat)(cs:List AV)(hid:σ.find id=some (.box bt cs))(hj:cs[j]? = some .nils)(hr:σ.find r=none):LeX E nt σ (σ.adoptC id j r ty sz bt cs):=fun cx hE hn a w ⟨γ,h⟩=>by
 obtain ⟨k1,k2,k3⟩:=Le.adopt_aux (ty:=ty) (sz:=sz) h hr
 have hne:id≠r:=fun e=>by subst e;rw [hr] at hid;cases hid
 have hS:∀ b,Sg cx.S0 cx.w0.heap.size γ b->Sg cx.S0 cx.w0.heap.size (γ.set r (some (none,.slice none 0 0))) b:=fun b hb=>hb.elim Or.inl (fun ⟨h1,h2⟩=>Or.inr ⟨h1,fun ho=>h2 (k3 b ho)⟩)
 refine ⟨γ.set r (some (none,.slice none 0 0)),fun u=>k1 _ _ (h.tm u),fun i=>?_,fun i j b s s' hi hj mi mj=>?_,fun b hb=>h.ge b (k3 b hb),h.below,h.size,h.defers.gam (fun b hb=>k3 b hb),h.gh,fun b hb=>by obtain ⟨f2,f3,f4⟩:=h.fr b hb;exact ⟨fun ho=>f2 (k3 b ho),f3,f4⟩,h.dr⟩
 ·by_cases hi:id=i
  ·subst hi
   have e:(σ.adoptC id j r ty sz bt cs).find id=some (.box bt (cs.set j (.row r))):=by simp [AS.adoptC,AS.find,lkE]
   rw [e]
   have hm:=h.me id
   rw [hid] at hm
   obtain ⟨x,hx,g,vs,hd,hb,hsz,hrr,hone⟩:=hm
   refine ⟨x,by rw [Gam.set_ne _ _ _ hne];exact hx,g,vs,hd,hb,by simpa using hsz,fun m hm=>?_,hone⟩
   have hm':m<cs.length:=by simpa using hm
   rw [getElem_set]
   by_cases hjm:j=m
   ·subst hjm
    rw [if_pos rfl]
    have:=hrr j hm'
    rw [(List.getElem?_eq_some_iff.1 hj).2] at this
    rw [this.nils_inv]
    exact .row (Gam.set_self _ _ _) (fun g s e _=>by injection e with e;injection e with _ e)
   ·rw [if_neg hjm]
    exact k1 _ _ (hrr m hm')
  ·by_cases hi2:r=i
   ·subst hi2
    have e:(σ.adoptC id j r ty sz bt cs).find r=some (.row ty sz []):=by
     unfold AS.adoptC AS.find
     simp only [lkE]
     cases hb:Nat.beq id r with
     |true=>exact absurd (Nat.eq_of_beq_eq_true hb) hi
     |false=>simp
    rw [e]
    exact ⟨_,Gam.set_self _ _ _,yi3⟩
   ·have e:(σ.adoptC id j r ty sz bt cs).find i=σ.find i:=by
     unfold AS.adoptC AS.find
     simp only [lkE]
     cases hb:Nat.beq id i with
     |true=>exact absurd (Nat.eq_of_beq_eq_true hb) hi
     |false =>
      cases hb2:Nat.beq r i with
      |true=>exact absurd (Nat.eq_of_beq_eq_true hb2) hi2
      |false=>rfl
    rw [e,Gam.set_ne _ _ _ (Ne.symm hi2)]
    have:=h.me i
    cases hf:σ.find i with
    |none=>rw [hf] at this;exact this
    |some en =>
     rw [hf] at this
     obtain ⟨x,hx,he⟩:=this
     exact ⟨x,hx,he.move (Nat.le_refl _) (fun b hb _=>⟨rfl,hS b hb⟩) (fun i x hx=>Or.inl (by rw [Gam.set_ne _ _ _ (k2 i x hx)];exact hx)) (fun _ _=>rfl)⟩
 ·have hir:i≠r:=fun e=>by subst e;rw [Gam.set_self] at hi;injection hi with hi;subst hi;exact zn5 (s:=.slice none 0 0) rfl mi
  have hjr:j≠r:=fun e=>by subst e;rw [Gam.set_self] at hj;injection hj with hj;subst hj;exact zn5 (s:=.slice none 0 0) rfl mj
  rw [Gam.set_ne _ _ _ hir] at hi
  rw [Gam.set_ne _ _ _ hjr] at hj
  exact h.inj i j b s s' hi hj mi mj
def AS.freeze (σ:AS)(t r sz:Nat)(xs:List AV):AS:=⟨(t,.sl sz xs)::σ.tm,(r,.dead)::σ.me⟩
theorem LeX.freeze (t r ty sz:Nat)(xs:List AV)(ht:σ.get t=.row r)(hr:σ.find r=some (.row ty sz xs)):LeX E nt σ (σ.freeze t r sz xs):=fun cx hE hn a w ⟨γ,h⟩=>by
 have hme:=h.me r
 rw [hr] at hme
 obtain ⟨d,hd,he⟩:=hme
 have hown:∀ b,own (γ.set r none) b->own γ b/\∀ s,γ r≠some (some (some b,s)):=fun b ⟨i,s,hi,hm⟩=>by
  by_cases hir:i=r
  ·subst hir;rw [Gam.set_self] at hi;injection hi with hi;subst hi;simp [blks] at hm
  ·rw [Gam.set_ne _ _ _ hir] at hi
   exact ⟨⟨i,s,hi,hm⟩,fun s' hs'=>hir (h.inj _ _ _ _ _ hi hs' hm z4e)⟩
 have hS:∀ b,Sg cx.S0 cx.w0.heap.size γ b->Sg cx.S0 cx.w0.heap.size (γ.set r none) b:=fun b hb=>hb.elim Or.inl (fun ⟨h1,h2⟩=>Or.inr ⟨h1,fun ho=>h2 (hown b ho).1⟩)
 have hg:∀ i x,γ i=some x->γ.set r none i=some x\/γ.set r none i=some none\/Turn (γ.set r none) i x:=fun i x hx=>by
  by_cases hir:i=r
  ·subst hir;exact Or.inr (Or.inl (Gam.set_self _ _ _))
  ·exact Or.inl (by rw [Gam.set_ne _ _ _ hir];exact hx)
 have mv:∀ {av v},Rep w (Sg cx.S0 cx.w0.heap.size γ) γ av v->Rep w (Sg cx.S0 cx.w0.heap.size (γ.set r none)) (γ.set r none) av v:=fun hv=>(hv.mono (Nat.le_refl _) (fun b hb _=>⟨rfl,hS b hb⟩)).gam hg
 refine ⟨γ.set r none,fun u=>?_,fun i=>?_,fun i j b s s' hi hj mi mj=>?_,fun b hb=>h.ge b (hown b hb).1,h.below,h.size,h.defers.gam (fun b hb=>(hown b hb).1),h.gh,fun b hb=>by obtain ⟨f2,f3,f4⟩:=h.fr b hb;exact ⟨fun ho=>f2 (hown b ho).1,f3,f4⟩,h.dr⟩
 ·by_cases hu:t=u
  ·subst hu
   have e:(σ.freeze t r sz xs).get t=.sl sz xs:=by simp [AS.freeze,AS.get,lkV]
   rw [e]
   have hv:=h.tm t
   rw [ht] at hv
   obtain ⟨s,hs,hrr⟩:=zts (S':=Sg cx.S0 cx.w0.heap.size (γ.set r none)) he (fun b hb _=>hS b hb) (fun s g hg=>Or.inr ⟨(h.ge g (own.mk (id:=r) (s:=s) (by rw [hd,hg]))).1,fun ho=>(hown g ho).2 s (by rw [hd,hg])⟩) (γ.set r none)
   subst hs
   rw [hv.row_inv hd]
   exact hrr
  ·have e:(σ.freeze t r sz xs).get u=σ.get u:=by
    unfold AS.freeze AS.get
    simp only [lkV]
    cases hb:Nat.beq t u with
    |true=>exact absurd (Nat.eq_of_beq_eq_true hb) hu
    |false=>rfl
   rw [e]
   exact mv (h.tm u)
 ·by_cases hi:r=i
  ·subst hi
   have e:(σ.freeze t r sz xs).find r=some .dead:=by simp [AS.freeze,AS.find,lkE]
   rw [e]
   exact ⟨none,Gam.set_self _ _ _,rfl⟩
  ·have e:(σ.freeze t r sz xs).find i=σ.find i:=by
    unfold AS.freeze AS.find
    simp only [lkE]
    cases hb:Nat.beq r i with
    |true=>exact absurd (Nat.eq_of_beq_eq_true hb) hi
    |false=>rfl
   rw [e,Gam.set_ne _ _ _ (Ne.symm hi)]
   have:=h.me i
   cases hf:σ.find i with
   |none=>rw [hf] at this;exact this
   |some en =>
    rw [hf] at this
    obtain ⟨x,hx,he⟩:=this
    exact ⟨x,hx,he.move (Nat.le_refl _) (fun b hb _=>⟨rfl,hS b hb⟩) hg (fun _ _=>rfl)⟩
 ·have hir:i≠r:=fun e=>by subst e;rw [Gam.set_self] at hi;injection hi with hi;subst hi;simp [blks] at mi
  have hjr:j≠r:=fun e=>by subst e;rw [Gam.set_self] at hj;injection hj with hj;subst hj;simp [blks] at mj
  rw [Gam.set_ne _ _ _ hir] at hi
  rw [Gam.set_ne _ _ _ hjr] at hj
  exact h.inj _ _ _ _ _ hi hj mi mj
section
variable {E:Env} {nt:Nat} {R:Exit->AS->Prop}
theorem AW.weaken {c:Code}{K:List zfk}{τ:AS}(hl:LeX E nt σ τ)(h:AW E nt R (.code c::K) .normal τ):AW E nt R (.code c::K) .normal σ:=⟨fun cx hE hn=>WP.weaken (hl cx hE hn) (h.out cx hE hn)⟩
end
def Ent.frz (r sz:Nat)(xs:List AV):Ent->Ent
 |.box ty cs=>.box ty (AV.frzL r sz xs cs)
 |e=>e
def AS.frzAll (σ:AS)(r sz:Nat)(xs:List AV):AS:=⟨σ.tm.map fun p=>(p.1,p.2.frz r sz xs),(r,.dead)::σ.me.map fun p=>(p.1,p.2.frz r sz xs)⟩
theorem yie (g:AV->AV)(h:g .any=.any)(l:List (Nat×AV))(t:Nat):lkV (l.map fun p=>(p.1,g p.2)) t=g (lkV l t):=by
 induction l with
 |nil=>simp [lkV,h]
 |cons p l ih =>
  obtain ⟨u,x⟩:=p
  simp only [map_cons,lkV]
  cases Nat.beq u t<;>simp [ih]
theorem yih (g:Ent->Ent)(l:List (Nat×Ent))(t:Nat):lkE (l.map fun p=>(p.1,g p.2)) t=(lkE l t).map g:=by
 induction l with
 |nil=>simp [lkE]
 |cons p l ih =>
  obtain ⟨u,x⟩:=p
  simp only [map_cons,lkE]
  cases Nat.beq u t<;>simp [ih]
theorem LeX.frzAll (r ty sz:Nat)(xs:List AV)(hr:σ.find r=some (.row ty sz xs)):LeX E nt σ (σ.frzAll r sz xs):=fun cx hE hn a w ⟨γ,h⟩=>by
 have hme:=h.me r
 rw [hr] at hme
 obtain ⟨d,hd,he⟩:=hme
 have hown:∀ b,own (γ.set r none) b->own γ b/\∀ s,γ r≠some (some (some b,s)):=fun b ⟨i,s,hi,hm⟩=>by
  by_cases hir:i=r
  ·subst hir;rw [Gam.set_self] at hi;injection hi with hi;subst hi;simp [blks] at hm
  ·rw [Gam.set_ne _ _ _ hir] at hi
   exact ⟨⟨i,s,hi,hm⟩,fun s' hs'=>hir (h.inj _ _ _ _ _ hi hs' hm z4e)⟩
 have hS:∀ b,Sg cx.S0 cx.w0.heap.size γ b->Sg cx.S0 cx.w0.heap.size (γ.set r none) b:=fun b hb=>hb.elim Or.inl (fun ⟨h1,h2⟩=>Or.inr ⟨h1,fun ho=>h2 (hown b ho).1⟩)
 have hg:∀ i x,γ i=some x->γ.set r none i=some x\/γ.set r none i=some none\/Turn (γ.set r none) i x:=fun i x hx=>by
  by_cases hir:i=r
  ·subst hir;exact Or.inr (Or.inl (Gam.set_self _ _ _))
  ·exact Or.inl (by rw [Gam.set_ne _ _ _ hir];exact hx)
 obtain ⟨s,hs,hrr⟩:=zts (S':=Sg cx.S0 cx.w0.heap.size (γ.set r none)) he (fun b hb _=>hS b hb) (fun s g hg=>Or.inr ⟨(h.ge g (own.mk (id:=r) (s:=s) (by rw [hd,hg]))).1,fun ho=>(hown g ho).2 s (by rw [hd,hg])⟩) (γ.set r none)
 have mv:∀ {av v},Rep w (Sg cx.S0 cx.w0.heap.size γ) γ av v->Rep w (Sg cx.S0 cx.w0.heap.size (γ.set r none)) (γ.set r none) (av.frz r sz xs) v:=fun hv =>
  (hv.mono (Nat.le_refl _) (fun b hb _=>⟨rfl,hS b hb⟩)).frz (fun i x hi hx=>by rw [Gam.set_ne _ _ _ hi];exact hx) hd (Gam.set_self _ _ _) (fun v hv=>by rw [hv _ _ hs hrr.sl_tup];exact hrr)
 refine ⟨γ.set r none,fun u=>?_,fun i=>?_,fun i j b s s' hi hj mi mj=>?_,fun b hb=>h.ge b (hown b hb).1,h.below,h.size,h.defers.gam (fun b hb=>(hown b hb).1),h.gh,fun b hb=>by obtain ⟨f2,f3,f4⟩:=h.fr b hb;exact ⟨fun ho=>f2 (hown b ho).1,f3,f4⟩,h.dr⟩
 ·have e:(σ.frzAll r sz xs).get u=(σ.get u).frz r sz xs:=yie _ rfl _ _
  rw [e]
  exact mv (h.tm u)
 ·by_cases hi:r=i
  ·subst hi
   have e:(σ.frzAll r sz xs).find r=some .dead:=by simp [AS.frzAll,AS.find,lkE]
   rw [e]
   exact ⟨none,Gam.set_self _ _ _,rfl⟩
  ·have e:(σ.frzAll r sz xs).find i=(σ.find i).map (Ent.frz r sz xs):=by
    unfold AS.frzAll AS.find
    simp only [lkE]
    cases hb:Nat.beq r i with
    |true=>exact absurd (Nat.eq_of_beq_eq_true hb) hi
    |false=>exact yih _ _ _
   rw [e,Gam.set_ne _ _ _ (Ne.symm hi)]
   have:=h.me i
   cases hf:σ.find i with
   |none=>rw [hf] at this;exact this
   |some en =>
    rw [hf] at this
    obtain ⟨x,hx,he⟩:=this
    cases en with
    |box ty cs =>
     obtain ⟨g,vs,h1,h2,h3,h4,h5⟩:=he
     exact ⟨x,hx,g,vs,h1,h2,by rw [h3,AV.frzL_length],fun i hi=>by
      have hi2:=hi
      rw [AV.frzL_length] at hi2
      rw [AV.frzL_at r sz xs _ i hi2]
      exact mv (h4 i hi2),h5⟩
    |_=>exact ⟨x,hx,he.move (Nat.le_refl _) (fun b hb _=>⟨rfl,hS b hb⟩) hg (fun _ _=>rfl)⟩
 ·have hir:i≠r:=fun e=>by subst e;rw [Gam.set_self] at hi;injection hi with hi;subst hi;simp [blks] at mi
  have hjr:j≠r:=fun e=>by subst e;rw [Gam.set_self] at hj;injection hj with hj;subst hj;simp [blks] at mj
  rw [Gam.set_ne _ _ _ hir] at hi
  rw [Gam.set_ne _ _ _ hjr] at hj
  exact h.inj _ _ _ _ _ hi hj mi mj
def y4x (σ:AS)(i:Nat):AV->AV
 |.row j=>match Nat.beq j i with
  |true=>.row j
  |false=>match σ.find j with|some (.row _ sz xs)=>.sl sz xs|_=>.any
 |x=>match x.closed with|true=>x|false=>.any
def y4w (σ:AS)(i:Nat):AV->AV
 |.agg cs=>.agg (cs.map (y4x σ i))
 |x=>y4x σ i x
def yj6 (σ:AS)(i:Nat):AV->AV
 |.tup cs=>.tup (cs.map (y4w σ i))
 |x=>y4w σ i x
section
variable {cx:Cx} {σ:AS} {γ γ':Gam} {a:Act} {w:World} {S':Nat->Prop} {i:Nat} {x:Option (Option Nat×Value)}
variable {v:Value}
theorem zzl (hst:StG cx γ σ a w)(hi:γ i=some x)(hi':γ' i=some x)(hS:∀ b,Sg cx.S0 cx.w0.heap.size γ b->S' b)(ho:∀ j b s,j≠i->γ j=some (some (some b,s))->S' b){av:AV}(h:Rep w (Sg cx.S0 cx.w0.heap.size γ) γ av v):Rep w S' γ' (y4x σ i av) v:=by
 have cl:∀ av v,Rep w (Sg cx.S0 cx.w0.heap.size γ) γ av v->Rep w S' γ' (match av.closed with|true=>av|false=>.any) v:=fun av v h=>by
  cases hc:av.closed with
  |true=>exact (h.close hc).mono (Nat.le_refl _) (fun b hb _=>⟨rfl,hS b hb⟩)
  |false=>exact .any _
 cases av with
 |row j =>
  simp only [y4x]
  cases hb:Nat.beq j i with
  |true =>
   have:=Nat.eq_of_beq_eq_true hb
   subst this
   cases h with
   |row h hv=>rw [hi] at h;injection h with h;subst h;exact .row hi' hv
  |false =>
   have hji:=Nat.ne_of_beq_eq_false hb
   simp only
   have hme:=hst.me j
   cases hf:σ.find j with
   |none=>exact .any _
   |some e =>
    cases e with
    |row ty sz xs =>
     rw [hf] at hme
     obtain ⟨d,hd,he⟩:=hme
     obtain ⟨s,hs,hrr⟩:=zts (S':=S') he (fun b hb _=>hS b hb) (fun s g hg=>ho j g s hji (by rw [hd,hg])) γ'
     subst hs
     rw [h.row_inv hd]
     exact hrr
    |_=>exact .any _
 |_=>exact cl _ _ h
theorem zzk (hst:StG cx γ σ a w)(hi:γ i=some x)(hi':γ' i=some x)(hS:∀ b,Sg cx.S0 cx.w0.heap.size γ b->S' b)(ho:∀ j b s,j≠i->γ j=some (some (some b,s))->S' b){av:AV}(h:Rep w (Sg cx.S0 cx.w0.heap.size γ) γ av v):Rep w S' γ' (y4w σ i av) v:=by
 cases av with
 |agg cs =>
  obtain ⟨vs,rfl,hl,hr,h1⟩:=h.agg_inv
  simp only [y4w]
  refine .agg vs (by simpa using hl) (fun k hk=>?_) h1
  have hk':k<cs.length:=by simpa using hk
  simp only [getElem_map]
  exact zzl hst hi hi' hS ho (hr k hk')
 |_=>exact zzl hst hi hi' hS ho h
theorem yfo (hst:StG cx γ σ a w)(hi:γ i=some x)(hi':γ' i=some x)(hS:∀ b,Sg cx.S0 cx.w0.heap.size γ b->S' b)(ho:∀ j b s,j≠i->γ j=some (some (some b,s))->S' b){av:AV}(h:Rep w (Sg cx.S0 cx.w0.heap.size γ) γ av v):Rep w S' γ' (yj6 σ i av) v:=by
 cases av with
 |tup cs =>
  obtain ⟨vs,rfl,hl,hr⟩:=h.tup_inv
  simp only [yj6]
  refine .tup vs (by simpa using hl) (fun k hk=>?_)
  have hk':k<cs.length:=by simpa using hk
  simp only [getElem_map]
  exact zzk hst hi hi' hS ho (hr k hk')
 |_=>exact zzk hst hi hi' hS ho h
end
inductive TX (E:Env) (nt:Nat) (fn:Func) (σ:AS) (ty sz:Nat) (xs:List AV) (res:AV):Prop
 |mk (τ:AS) (i:Nat) (hl:LeX E nt σ τ) (avs:List AV) (h1:retA E.tab τ fn.results.toList=some avs) (h2:τ.find i=some (.row ty sz xs)) (h3:Sub (yj6 τ i (y6c avs)) (res.ren fun _=>i))
def EndT (E:Env)(nt:Nat)(fn:Func)(ty sz:Nat)(xs:List AV)(res:AV):Exit->AS->Prop
 |.normal,σ=>TX E nt fn σ ty sz xs res
 |.ret,σ=>TX E nt fn σ ty sz xs res
 |_,_=>False
variable {xs:List AV}
theorem ConT.walk {f:FuncId}{fn:Func}{args:List AV}{res:AV}(c:Code)(hf:E.P.funcs[f]? = some fn)(hb:fn.body=some c)(he:zfg E f)(hn:Nat.ble args.length fn.ntmps=true)(hres:res.inM [0]=true)
  (h:AW E fn.ntmps (EndT E fn.ntmps fn ty sz xs res) [.code c] .normal (zwg args)) (hrg:E.rg=false:=by rfl) (hyl:E.yl=none:=by rfl) (hnp:E.np=0:=by rfl):ConT E f args ty sz xs res:=by
 refine ⟨he,hres,fun S w vs ha=>callsIn_wide.1 (callsIn_of_wp (F:=Fence.wide) (n:=0) hf hb trivial ?_)⟩
 have h0:WP (Cx.call E S w fn.ntmps) c (EndT E fn.ntmps fn ty sz xs res) (zwg args):=WP.mono (h.out (Cx.call E S w fn.ntmps) rfl rfl) fun e σ hk=>by cases e<;>exact hk
 refine wpIn_mono (h0 _ _ (zww hyl hnp ha (Nat.le_of_ble_eq_true hn))) (fun e a w' ⟨σ,hq,hst0⟩=>?_)
 have key:TX E fn.ntmps fn σ ty sz xs res->bodyPost E.P fn (fun e w'=>∃ u v us,e=.returned u/\Below w.heap.size w w'/\w'.ownsRow w.heap.size ty sz v xs.length us /\
  (∀ k (hk:k<xs.length),(xs[k]).cells.length=sz)/\(∀ k (hk:k<xs.length) j (hj:j<(xs[k]).cells.length),Rep w' (fun b=>(S b\/w.heap.size<=b)/\v.ownBlock≠some b) G0 ((xs[k]).cells[j]) (us.getD (k*sz+j) undef))/\(∀ u∈us,u.oneCell'=true) /\
  ∀ γ':Gam,γ' 0=some (some (v.ownBlock,v))->Rep w' (fun b=>(S b\/w.heap.size<=b)/\v.ownBlock≠some b) γ' res u) .ret a w':=by
  rintro ⟨τ,i,hl,avs,h1,h2,h3⟩
  obtain ⟨γ,hst⟩:=hl (Cx.call E S w fn.ntmps) rfl rfl a w' hst0
  obtain ⟨u,hu,hr⟩:=zjd hst h1
  have hme:=hst.me i
  rw [h2] at hme
  obtain ⟨d,hd,s,us,hde,hone,hown,hlen,hrr,hone2⟩:=hme
  subst hde
  have hS:∀ b,Sg (fun b=>S b/\b<w.heap.size) w.heap.size γ b->(S b\/w.heap.size<=b)/\s.ownBlock≠some b:=fun b hb=>by
   refine ⟨?_,fun e=>?_⟩
   ·rcases hb with ⟨hb,_⟩|⟨hb,_⟩
    ·exact Or.inl hb.1
    ·exact Or.inr hb.1
   ·have ho:own γ b:=own.mk (id:=i) (s:=s) (by rw [hd,e])
    rcases hb with ⟨_,hb⟩|⟨_,hb⟩
    ·have:=(hst.ge b ho).1.1;exact absurd hb (by show ¬b<w.heap.size;exact Nat.not_lt.2 this)
    ·exact hb ho
  refine ⟨hst.defers.d0 hrg,u,hu,u,s,us,rfl,hst.below,hown,hlen,fun k hk j hj=>(hrr k hk j hj).mono (Nat.le_refl _) (fun b hb _=>⟨rfl,hS b hb⟩),hone2,fun γ' hγ'=>?_⟩
  have hc:=yfo (S':=fun b=>(S b\/w.heap.size<=b)/\s.ownBlock≠some b) (γ':=fun j=>if j=i then γ i else none) hst hd (by simp [hd]) hS (fun j b s' hj hb=>⟨Or.inr (hst.ge b (own.mk hb)).1.1,fun e=>hj (hst.inj _ _ _ _ _ hb hd z4e (by rw [e];exact z4e))⟩) hr
  exact (hc.sub h3).ren (ids:=[0]) (ρ:=fun _=>i) (fun id hid=>by
   have:id=0:=by simpa using hid
   subst this
   rw [hγ']
   simp [hd]) res rfl hres
 cases e with
 |normal=>exact key hq
 |ret=>exact key hq
 |_=>exact hq.elim
section
variable {α β γ δ:Type}
def cnd (b:Bool)(x y:Option β):Option β:=match b with|true=>x|false=>y
def idx (l:List α)(n:Int)(k:α->Option β):Option β:=if 0<=n then (match l[n.toNat]? with|some x=>k x|none=>none) else none
def nat (n:Int)(len:Nat)(k:Nat->Option β):Option β:=if 0<=n/\n.toNat<len then k n.toNat else none
def ltx (m len:Nat)(x:Option β):Option β:=if m<len then x else none
def elt (l:List α)(m:Nat)(k:α->Option β):Option β:=match l[m]? with|some x=>k x|none=>none
def slc (len:Nat)(lo hi:Int)(k:Nat->Nat->Option β):Option β:=if 0<=lo/\lo<=hi/\hi<=(len:Int) then k lo.toNat hi.toNat else none
def sls (l:List α)(lo hi:Int)(k:List α->Option β):Option β:=if 0<=lo/\lo<=hi/\hi<=(l.length:Int) then k ((l.take hi.toNat).drop lo.toNat) else none
def app (l m:List α)(bytes:Nat)(k:List α->Option β):Option β:=if l.length+m.length<=1099511627776/\(l.length+m.length)*bytes<=140737488355328 then k (l++m) else none
def mak (n:Int)(bytes:Nat)(z:α)(k:List α->Option β):Option β:=if 0<=n/\n.toNat<=1099511627776/\bytes*n.toNat<=281474976710656 then k (replicate n.toNat z) else none
def stx (l:List α)(m:Nat)(f:α->α)(k:List α->Option β):Option β:=match l[m]? with|some x=>k (l.set m (f x))|none=>none
variable {κ ν:Type}
def mlk [DecidableEq κ]:List (κ×ν)->κ->Option ν
 |[],_=>none
 |(a,v)::r,k=>if k=a then some v else mlk r k
def mput [DecidableEq κ]:List (κ×ν)->κ->ν->List (κ×ν)
 |[],k,v=>[(k,v)]
 |(a,x)::r,k,v=>if k=a then (k,v)::r else (a,x)::mput r k v
def mgt [DecidableEq κ](l:List (κ×ν))(k:κ)(z:ν)(c:ν->Bool->Option β):Option β:=c ((mlk l k).getD z) (mlk l k).isSome
def mst [DecidableEq κ](l:List (κ×ν))(k:κ)(v:ν)(c:List (κ×ν)->Option β):Option β:=c (mput l k v)
def nzx (b:Int)(x:Option β):Option β:=if b=0 then none else x
def psx (b:Int)(x:Option β):Option β:=if 0<b then x else none
def shx (b:Int)(x:Option β):Option β:=if 0<=b then x else none
def bnd (o:Option α)(k:α->Option β):Option β:=match o with|some a=>k a|none=>none
def bndC (o:Option α)(k:α->Option β):Option β:=match o with|some a=>k a|none=>none
def bndR (o:Option α)(k:α->Option β):Option β:=match o with|some a=>k a|none=>none
def frz (id:Nat)(x:Option β):Option β:=x
def reg (x:Option β):Option β:=x
variable {x y:Option β}{r:β}
theorem z12.o {b:Bool}{p q:Prop}(h:cnd b x y=some r)(h1:x=some r->p)(h2:y=some r->q):z12 b p q:=⟨fun e=>h1 (by subst e;exact h),fun e=>h2 (by subst e;exact h)⟩
variable {l:List α}{n:Int}{K:AV->Prop}{k:α->Option β}
theorem IdxX.o (enc:α->AV)(h:idx l n k=some r)(hk:∀ x,k x=some r->K (enc x)):IdxX (l.map enc) n K:=by
 unfold idx at h
 split at h
 ·rename_i hn
  split at h
  ·rename_i x hx
   exact .mk n.toNat (enc x) (by omega) (by rw [getElem?_map,hx];rfl) (hk x h)
  ·cases h
 ·cases h
theorem IdxX.o2 {u v:AV}(h:cnd (decide (n=0)) x (cnd (decide (n=1)) y none)=some r)(h0:x=some r->K u)(h1:y=some r->K v):IdxX [u,v] n K:=by
 unfold cnd at h
 split at h
 ·rename_i e;exact .mk 0 u (of_decide_eq_true e) rfl (h0 h)
 ·split at h
  ·rename_i e;exact .mk 1 v (of_decide_eq_true e) rfl (h1 h)
  ·cases h
theorem zjp (a b:ByteArray):(a.toList == b.toList)=decide (a=b):=by
 rw [<-zzo,Bool.eq_iff_iff,MapKept.bytes_beq];simp
variable {len:Nat}
theorem NatX.o {K:Nat->Prop}{k:Nat->Option β}(h:nat n len k=some r)(hk:∀ m,k m=some r->K m):NatX n len K:=by
 unfold nat at h
 split at h
 ·rename_i hn
  exact .mk n.toNat (by omega) hn.2 (hk _ h)
 ·cases h
theorem NatX.o2 {K:Nat->Prop}(h:cnd (decide (n=0)) x (cnd (decide (n=1)) y none)=some r)(h0:x=some r->K 0)(h1:y=some r->K 1):NatX n 2 K:=by
 unfold cnd at h
 split at h
 ·rename_i e;exact .mk 0 (of_decide_eq_true e) (by omega) (h0 h)
 ·split at h
  ·rename_i e;exact .mk 1 (of_decide_eq_true e) (by omega) (h1 h)
  ·cases h
theorem NatX.o3 {K:Nat->Prop}{z:Option β}(h:cnd (decide (n=0)) x (cnd (decide (n=1)) y (cnd (decide (n=2)) z none))=some r)(h0:x=some r->K 0)(h1:y=some r->K 1)(h2:z=some r->K 2):NatX n 3 K:=by
 unfold cnd at h
 split at h
 ·rename_i e;exact .mk 0 (of_decide_eq_true e) (by omega) (h0 h)
 ·split at h
  ·rename_i e;exact .mk 1 (of_decide_eq_true e) (by omega) (h1 h)
  ·split at h
   ·rename_i e;exact .mk 2 (of_decide_eq_true e) (by omega) (h2 h)
   ·cases h
theorem LtX.o {m:Nat}{K:Prop}(h:ltx m len x=some r)(hk:x=some r->K):LtX m len K:=by
 unfold ltx at h
 split at h
 ·rename_i hm;exact .mk hm (hk h)
 ·cases h
theorem EltX.o (enc:α->AV){m:Nat}(h:elt l m k=some r)(hk:∀ x,k x=some r->K (enc x)):EltX (l.map enc) m K:=by
 unfold elt at h
 split at h
 ·rename_i x hx;exact .mk (enc x) (by rw [getElem?_map,hx];rfl) (hk x h)
 ·cases h
theorem SlcX.o {lo hi:Int}{K:Nat->Nat->Prop}{k:Nat->Nat->Option β}(h:slc len lo hi k=some r)(hk:∀ l h,k l h=some r->K l h):SlcX len lo hi K:=by
 unfold slc at h
 split at h
 ·rename_i hn;exact .mk lo.toNat hi.toNat (by omega) (by omega) (by omega) (by omega) (hk _ _ h)
 ·cases h
theorem SlsX.o (enc:α->AV){lo hi:Int}{K:List AV->Prop}{k:List α->Option β}(h:sls l lo hi k=some r)(hk:∀ l',k l'=some r->K (l'.map enc)):SlsX (l.map enc) lo hi K:=by
 unfold sls at h
 split at h
 ·rename_i hn;exact .mk lo.toNat hi.toNat (by omega) (by omega) (by omega) (by rw [length_map];omega) _ (by rw [map_drop,map_take]) (hk _ h)
 ·cases h
variable {bytes:Nat}
theorem AppX.o {m:List α}(enc:α->AV){ys:List AV}{K:List AV->Prop}{k:List α->Option β}(h:app l m bytes k=some r)(hs:SubR ys (m.map enc))(hk:∀ l',k l'=some r->K (l'.map enc)):AppX ((l.map enc).length+ys.length) bytes (l.map enc++ys) K:=by
 have hl:=hs.len
 unfold app at h
 split at h
 ·rename_i hn
  exact .sub ((l++m).map enc) (by rw [map_append];exact .append (.refl _) hs) (by rw [length_map,hl,length_map];exact hn.1) (by rw [length_map,hl,length_map];exact hn.2) (hk _ h)
 ·cases h
theorem AppX.o0 {m:List α}(enc:α->AV){ys:List AV}{K:List AV->Prop}{k:List α->Option β}(h:app [] m bytes k=some r)(hs:SubR ys (m.map enc))(hk:∀ l',k l'=some r->K (l'.map enc)):AppX ys.length bytes ys K:=by
 have hl:=hs.len
 unfold app at h
 split at h
 ·rename_i hn;exact .sub (m.map enc) hs (by rw [hl,length_map];simpa using hn.1) (by rw [hl,length_map];simpa using hn.2) (hk _ h)
 ·cases h
theorem MakX.o {z:α}(enc:α->AV){y:AV}{K:List AV->Prop}{k:List α->Option β}(h:mak n bytes z k=some r)(hs:SubL y.cells (enc z).cells)(hk:∀ l',k l'=some r->K (l'.map enc)):MakX n bytes y K:=by
 unfold mak at h
 split at h
 ·rename_i hn;exact .mk n.toNat (by omega) hn.2.1 hn.2.2 _ (by rw [map_replicate];exact .replicate hs _) (hk _ h)
 ·cases h
theorem SetX.o (enc:α->AV){f:α->α}{m j n:Nat}{av:AV}{ok:AV->Bool}{put:AV->AV}{K:List AV->Prop}{k:List α->Option β}(h:stx l m f k=some r)(hok:∀ x,ok (enc x)=true)(hput:∀ x,SubL (put (enc x)).cells (enc (f x)).cells)(hk:∀ l',k l'=some r->K (l'.map enc)):SetX (l.map enc) m j n av ok put K:=by
 unfold stx at h
 split at h
 ·rename_i x hx;exact .mk (enc x) (by rw [getElem?_map,hx];rfl) (hok x) _ (by rw [map_set];exact .set (hput x) _ _) (hk _ h)
 ·cases h
theorem ShX.o {b:Int}{K:Prop}(h:shx b x=some r)(hk:x=some r->K):ShX b K:=by
 unfold shx at h
 split at h
 ·rename_i hb;exact .mk hb (hk h)
 ·cases h
def encM (encK:κ->AV)(encV:ν->AV)(p:κ×ν):AV×AV:=(encK p.1,encV p.2)
theorem zyy [DecidableEq κ](encK:κ->AV)(encV:ν->AV)(he:∀ a b,eqK (encK a) (encK b)=some (decide (a=b)))(k:κ):∀ (l:List (κ×ν)) (i:Nat),
  ∃ r,zfz (encK k) ((l.map (encM encK encV)).map (·.1)) i=some r/\r.isSome=(mlk l k).isSome/\(∀ j,r=some j->i<=j/\∃ v,mlk l k=some v/\((l.map (encM encK encV)).getD (j-i) default).2=encV v) /\
   ∀ (v:ν) (x:AV),Sub x (encV v)->SubM (putK (r.map (· - i)) (encK k) x (l.map (encM encK encV))) ((mput l k v).map (encM encK encV))
 |[],i=>⟨none,rfl,rfl,fun j h=>(by cases h),fun v x hs=>.cons _ hs .nil⟩
 |(a,v)::r,i=>by
  simp only [map_cons,encM,zfz,he,mlk,mput]
  by_cases hk:k=a
  ·subst hk
   simp only [decide_true]
   refine ⟨some i,rfl,by simp,fun j hj=>?_,fun v' x hs=>?_⟩
   ·injection hj with hj;subst hj;exact ⟨Nat.le_refl _,v,by simp,by simp⟩
   ·simp only [if_true,Option.map_some,Nat.sub_self,putK,set_cons_zero,map_cons]
    exact .cons _ hs (.refl _)
  ·rw [decide_eq_false hk]
   obtain ⟨q,h1,h2,h3,h4⟩:=zyy encK encV he k r (i+1)
   refine ⟨q,h1,by rw [h2,if_neg hk],fun j hj=>?_,fun v' x hs=>?_⟩
   ·obtain ⟨g1,v',g2,g3⟩:=h3 j hj
    refine ⟨by omega,v',by rw [if_neg hk];exact g2,?_⟩
    rw [show j-i=(j-(i+1))+1 by omega,getD_cons_succ]
    exact g3
   ·have:=h4 v' x hs
    rw [if_neg hk]
    cases q with
    |none=>exact .cons _ (.refl _) this
    |some j =>
     obtain ⟨g1,_⟩:=h3 j rfl
     simp only [Option.map_some,putK] at this ⊢
     rw [show j-i=(j-(i+1))+1 by omega,set_cons_succ]
     exact .cons _ (.refl _) this
theorem LkX.o [DecidableEq κ]{l:List (κ×ν)}{k:κ}{z:ν}{P:Program}{kt:Nat}{zA:AV}{K:AV->Bool->Prop}{c:ν->Bool->Option β}(encK:κ->AV)(encV:ν->AV)(h:mgt l k z c=some r)(hk:zfh P kt (encK k)=true)(he:∀ a b,eqK (encK a) (encK b)=some (decide (a=b)))(hz:Sub zA (encV z))
  (hc:∀ v b,c v b=some r->K (encV v) b):LkX P kt (encK k) (l.map (encM encK encV)) zA K:=by
 obtain ⟨q,h1,h2,h3,_⟩:=zyy encK encV he k l 0
 refine .mk q (encV ((mlk l k).getD z)) (mlk l k).isSome hk h1 h2 ?_ (hc _ _ h)
 cases q with
 |none =>
  have:mlk l k=none:=by cases hm:mlk l k with
   |none=>rfl
   |some v=>rw [hm] at h2;cases h2
  rw [this]
  exact hz
 |some j =>
  obtain ⟨_,v,g2,g3⟩:=h3 j rfl
  rw [g2,Option.getD_some,<-g3]
  exact .refl _
theorem UpX.o [DecidableEq κ]{l:List (κ×ν)}{k:κ}{v:ν}{P:Program}{kt:Nat}{x:AV}{K:List (AV×AV)->Prop}{c:List (κ×ν)->Option β}(encK:κ->AV)(encV:ν->AV)(h:mst l k v c=some r)(hk:zfh P kt (encK k)=true)(he:∀ a b,eqK (encK a) (encK b)=some (decide (a=b)))(hx:Sub x (encV v))
  (hc:∀ l',c l'=some r->K (l'.map (encM encK encV))):UpX P kt (encK k) x (l.map (encM encK encV)) K:=by
 obtain ⟨q,h1,_,_,h4⟩:=zyy encK encV he k l 0
 refine .mk q _ hk h1 ?_ (hc _ h)
 have:=h4 v x hx
 cases q with
 |none=>exact this
 |some j=>exact this
theorem PosX.o {b:Int}{K:Prop}(h:psx b x=some r)(hk:x=some r->K):PosX b K:=by
 unfold psx at h
 split at h
 ·rename_i hb;exact .mk hb (hk h)
 ·cases h
theorem NzX.o {b:Int}{K:Prop}(h:nzx b x=some r)(hk:x=some r->K):NzX b K:=by
 unfold nzx at h
 split at h
 ·cases h
 ·rename_i hb;exact .mk hb (hk h)
section
variable {E:Env} {nt:Nat} {f:FuncId} {avs:List AV}
variable {fr:Bool}{R:Nat->Nat->List AV->AV->Prop}{find:Nat->Option Ent}{KR:AV->List Nat->List (Nat×Ent)->Prop}
theorem z1l.o {o:Option α}(h:bnd o k=some r)(enc:α->AV)(hc:∀ a,o=some a->Con E fr f avs (enc a))(hk:∀ a,k a=some r->K (enc a)):z1l E f avs K R find KR:=by
 unfold bnd at h
 split at h
 ·exact .mk fr _ (hc _ rfl) (hk _ h)
 ·cases h
theorem z1l.oR {o:Option α}(h:bndR o k=some r)(rl:α->List γ)(encE:γ->AV)(res:α->AV)(hdr0:E.dr=false)(hc:∀ a,o=some a->ConT E f avs ty sz ((rl a).map encE) (res a))(hk:∀ a,k a=some r->R ty sz ((rl a).map encE) (res a)):z1l E f avs K R find KR:=by
 unfold bndR at h
 split at h
 ·exact .rowT ty sz _ _ hdr0 (hc _ rfl) (hk _ h)
 ·cases h
variable {raw:List AV}{dst:Option Nat}
theorem zak.o {o:Option α}(h:bnd o k=some r)(enc:α->AV)(hc:∀ a,o=some a->Con E fr f avs (enc a))(hf:∀ a,fr=true\/(enc a).flat=true)(hk:∀ a,k a=some r->K (enc a)):zak E f avs K raw find dst KR:=by
 unfold bnd at h
 split at h
 ·exact .mk fr _ (hc _ rfl) (hf _) (hk _ h)
 ·cases h
variable {cargs:List AV}
theorem zak.oC {o:Option α}{d ty' sz':Nat}(h:bndC o k=some r)(id:Nat)(rl:α->List γ)(encE:γ->AV)(res:α->AV)(hdr0:E.dr=false)(hc:∀ a,o=some a->ConC false E f cargs ty sz xs ty' sz' ((rl a).map encE) (res a))
  (hr:AV.renL (fun _=>id) cargs=raw) (hin:AV.inML [0] cargs=true) (hl:find id=some (.row ty sz xs)) (hd:dst=some d) (hn:find d=none) (hne:Nat.beq id d=false) (hk:∀ a,k a=some r->KR ((res a).ren fun _=>d) [d,id] [(d,.row ty' sz' ((rl a).map encE)),(id,.dead)]):zak E f avs K raw find dst KR:=by
 unfold bndC at h
 split at h
 ·exact .take id d ty sz xs ty' sz' _ _ cargs hdr0 (hc _ rfl) hr hin hl hd hn (Nat.ne_of_beq_eq_false hne) (hk _ h)
 ·cases h
theorem zak.oE {o:Option α}{avs':List AV}(h:bnd o k=some r)(id:Nat)(enc:α->AV)(hl:find id=some (.row ty sz xs))(hc:∀ a,o=some a->Con E fr f avs' (enc a))(ha:AV.frzL id sz xs raw=avs')(hcl:AV.closedL avs'=true)(hk:∀ a,k a=some r->KR (enc a) [id] [(id,.dead)]):zak E f avs K raw find dst KR:=by
 unfold bnd at h
 split at h
 ·exact .eat id ty sz xs avs' fr _ hl ha hcl (hc _ rfl) (hk _ h)
 ·cases h
theorem zak.oI {o:Option α}(h:bndC o k=some r)(id:Nat)(rl:α->List γ)(encE:γ->AV)(res:α->AV)(hdr0:E.dr=false)(hc:∀ a,o=some a->ConC true E f cargs ty sz xs ty sz ((rl a).map encE) (res a))
  (hr:AV.renL (fun _=>id) cargs=raw) (hin:AV.inML [0] cargs=true) (hl:find id=some (.row ty sz xs)) (hk:∀ a,k a=some r->KR ((res a).ren fun _=>id) [id] [(id,.row ty sz ((rl a).map encE))]):zak E f avs K raw find dst KR:=by
 unfold bndC at h
 split at h
 ·exact .turn id ty sz xs _ _ cargs hdr0 (hc _ rfl) hr hin hl (hk _ h)
 ·cases h
theorem z7z.o {V:Type}{L:Nat->V->Option β}{S:V->AS}{F:(AS->Prop)->AS->Prop}{n:Nat}{v0:V}(h:L n v0=some r)(hz:∀ v,L 0 v=none)(hl:LeX E nt σ (S v0))(round:∀ m v,L (m+1) v=some r->F (fun σ'=>∃ v',L m v'=some r/\LeX E nt σ' (S v')) (S v))
  (mono:∀ (P Q:AS->Prop) σ,(∀ σ,P σ->Q σ)->F P σ->F Q σ):z7z E nt F σ:=by
 refine .mk (fun m σ=>∃ v,L m v=some r/\σ=S v) n (S v0) hl ⟨v0,h,rfl⟩ ?_
 rintro m σ ⟨v,hv,rfl⟩
 cases m with
 |zero=>rw [hz] at hv;cases hv
 |succ m =>
  refine mono _ _ _ (fun σ' ⟨v',h1,h2⟩=>?_) (round m v hv)
  exact ⟨m,S v',h2,Nat.lt_succ_self _,v',h1,rfl⟩
end
theorem RetX.o {v:AV}{a:β}{enc:β->AV}(h:some a=some r)(hs:Sub v (enc a)):RetX v (enc r):=by injection h with h;subst h;exact .sub hs
theorem TX.o {fn:Func}{a:β}{rl:β->List AV}{res:β->AV}(h:some a=some r)(hk:TX E nt fn σ ty sz (rl a) (res a)):TX E nt fn σ ty sz (rl r) (res r):=by injection h with h;subst h;exact hk
end
section
variable {E:Env} {nt:Nat}
theorem AW.mono1 {c:Code}{K:Exit->AS->Prop}{P Q:AS->Prop}(h:∀ σ,P σ->Q σ)(k:AW E nt (zmp P K) [.code c] .normal σ):AW E nt (zmp Q K) [.code c] .normal σ:=⟨fun cx hE hn=>WP.mono (k.out cx hE hn) (fun e σ' hq=>by cases e<;>first|exact h _ hq|exact hq)⟩
end
section
variable {β V:Type} {E:Env} {nt:Nat} {R:Exit->AS->Prop} {K:List zfk}
theorem LoopA.o {L:Nat->V->Option β}{S:V->AS}{c:Code}{r:β}{n:Nat}{v0:V}(h:L n v0=some r)(hz:∀ v,L 0 v=none)(hl:LeX E nt σ (S v0))
  (round:∀ m v,L (m+1) v=some r->AW E nt (zmp (fun σ'=>∃ v',L m v'=some r/\LeX E nt σ' (S v')) (AW E nt R K)) [.code c] .normal (S v)):z7z E nt (fun next σ'=>AW E nt (zmp next (AW E nt R K)) [.code c] .normal σ') σ :=
 z7z.o h hz hl round (fun P Q σ hpq hF=>AW.mono1 hpq hF)
theorem AW.frzO {id:Nat}{c:Code}{x:Option β}{y:β}(h:frz id x=some y)(r:Nat)(hr:σ.find r=some (.row ty sz xs))(k:x=some y->AW E nt R (.code c::K) .normal (σ.frzAll r sz xs)):AW E nt R (.code c::K) .normal σ:=AW.weaken (LeX.frzAll r ty sz xs hr) (k h)
theorem AW.regO {id:Nat}{os:Array Oper}{d:Bool}{x:Option β}{y:β}(h:reg x=some y)(k:x=some y->AW E nt R (.ops d os os.toList [] []::K) .normal σ):AW E nt R (.code (.region id os d)::K) .normal σ:=AW.into (k h)
end
def AS.putS (σ:AS)(t:Nat)(v:AV):AS:=⟨(t,v)::σ.tm,σ.me⟩
theorem LeX.put (t:Nat)(v:AV)(hs:Sub (σ.get t) v):LeX E nt σ (σ.putS t v):=fun cx hE hn a w ⟨γ,h⟩=>by
 refine ⟨γ,fun u=>?_,fun i=>h.me i,h.inj,h.ge,h.below,h.size,h.defers,h.gh,h.fr,h.dr⟩
 by_cases hu:t=u
 ·subst hu
  have e:(σ.putS t v).get t=v:=by simp [AS.putS,AS.get,lkV]
  rw [e]
  exact (h.tm t).sub hs
 ·have e:(σ.putS t v).get u=σ.get u:=by
   unfold AS.putS AS.get
   simp only [lkV]
   cases hb:Nat.beq t u with
   |true=>exact absurd (Nat.eq_of_beq_eq_true hb) hu
   |false=>rfl
  rw [e]
  exact h.tm u
attribute [irreducible] cnd idx nat ltx elt slc sls app mak stx nzx shx bnd bndC bndR frz reg mgt mst psx
section
variable {P:Program}
end
section
variable {cx:Cx} {o:Oper} {σ:AS}
theorem zoy {T n d:Nat}{ps:Array (Nat×Operand)}{i ie:TyI}{e esz eb:Nat}(ho:o.op=.buildSlice T n ps)(hdst:o.dst=some d)(hd:dok cx o=true)(hT:lkT cx.E.tab T=some i)(hs:i.shape=.slc e esz eb)(he:lkT cx.E.tab e=some ie)(hz:esz≠0)(hn:Nat.ble (n*esz) 16777216=true)
  (hze:ie.zero.cells.all (·.oneCell')=true) (hz0:Nat.blt 0 ie.zero.cells.size=true) (hok:zje σ ps=true) (hcl:AV.closedL xs=true) (hlen:xs.length=n) (hl:xs.all (fun x=>Nat.beq x.cells.length esz)=true)
  (hf:zqi (fun j=>some (j*esz,esz)) (replicate (n*esz) .any) (zh0 σ ps)=some (xs.flatMap AV.cells)) (hnn:σ.find d=none):z11 cx o σ (.row d) (d::zjf (zh0 σ ps)) [(d,.row e esz xs)]:=by
 refine ⟨fun id e he=>?_,fun τ h1 h2 a w Q K ⟨γ,hst⟩ hK=>zhj (fun c hc=>by rw [ho] at hc;cases hc) ?_⟩
 ·have:=zhd he
  simp at this
  simp [this]
 have hrel:=ztt hst hok (fun p hp=>h1 p.2 (by simp only [ho,Op.operands,mem_toArray,mem_map];exact ⟨p,hp,rfl⟩)) (fun id hid=>h2 id (mem_cons_of_mem _ hid))
 have hcell:∀ j,(ie.zero.cells[j % ie.zero.cells.size]!).oneCell'=true:=ydp hze (by simpa using hz0)
 have h0rel:CRel w (Sg cx.S0 cx.w0.heap.size γ) γ ((Array.range (n*esz)).map (ie.zero.cells[· % ie.zero.cells.size]!)) (replicate (n*esz) .any):=by
  refine ⟨by simp,fun j hj=>by simp only [getElem_replicate];exact .any _,fun j hj=>?_⟩
  have hj':j<n*esz:=by simpa using hj
  have:((Array.range (n*esz)).map (ie.zero.cells[· % ie.zero.cells.size]!)).getD j undef=ie.zero.cells[j % ie.zero.cells.size]! := by
   rw [Array.getD_eq_getD_getElem?,Array.getElem?_map,Array.getElem?_range,if_pos hj'];rfl
  rw [this]
  exact hcell j
 obtain ⟨cells',hfill,hc1,hc2,hc3⟩:=zu8 (f:=a.eval) (g:=σ.eval) ps.toList _ _ _ hrel h0rel hf
 have hrun:=zlf (parts:=ps.map fun p=>(p.1,a.eval p.2)) (cx.E.ok T i hT) hs (cx.E.ok e ie he) hz (Nat.le_of_ble_eq_true hn) (by rw [Array.toList_map];exact hfill) w
 have hbl:Below w.heap.size w (w.alloc (.cells cells' e)):=(Below.refl _ _).alloc (Nat.le_refl _) _
 have hlen':∀ k (hk:k<xs.length),(xs[k]).cells.length=esz:=fun k hk=>by
  simp only [all_eq_true] at hl
  exact Nat.eq_of_beq_eq_true (hl _ (getElem_mem hk))
 obtain ⟨g1,g2⟩:=yin hlen'
 have hin:∀ k j,k<xs.length->j<esz->k*esz+j<xs.length*esz:=fun k j hk hj=>by
  have:(k+1)*esz<=xs.length*esz:=Nat.mul_le_mul_right _ hk
  rw [Nat.succ_mul] at this
  omega
 have hcs:cells'.size=n*esz:=by rw [hc1,g1,hlen]
 have hnb:n<=16777216:=by
  have h:=Nat.le_of_ble_eq_true hn
  have:n*1<=n*esz:=Nat.mul_le_mul_left _ (by omega)
  omega
 unfold Oper.wp
 have hex:(execOp a.eval o).run cx.P w=.ok (.value (.slice (some ⟨w.heap.size,0,none⟩) n n)) (w.alloc (.cells cells' e)):=by
  have e':(ps.map fun x=>match x with|(i,x)=>(i,a.eval x))=ps.map fun p=>(p.1,a.eval p.2):=rfl
  simp only [execOp,ho,e',Sem.run_bind,Sem.run_pure,Result.andThen_ok,hrun]
 rw [hex]
 refine hK _ _ ?_
 rw [hdst]
 refine zyo (v:=.slice (some ⟨w.heap.size,0,none⟩) n n) (us:=cells'.toList) hst (fun _=>Nat.le_refl _) (by rw [h2 d (by simp),hnn]) (fun x hx=>by injection hx with hx;subst hx;exact z9f hd _ hdst) hbl
  ⟨by rw [Array.length_toList,hcs,hlen],Or.inr ⟨w.heap.size,n,cells',by rw [hlen],Nat.le_refl _,Blk.new w _ _,by omega,by unfold maxLen;omega,hcs,?_⟩⟩ hlen' (fun k hk j hj=>?_) (fun u hu=>?_)
  (fun hS=>.row (Gam.set_self _ _ _) (fun g s e _=>by injection e with e;injection e with _ e))
 ·rw [take_of_length_le (by rw [Array.length_toList,hcs,hlen];exact Nat.le_refl _)]
 ·have hj':j<esz:=by rw [<-hlen' k hk];exact hj
  have hlt:k*esz+j<(xs.flatMap AV.cells).length:=by rw [g1];exact hin k j hk hj'
  have:=hc2 (k*esz+j) hlt
  have hq:=g2 k hk j hj
  rw [getElem?_eq_getElem hlt] at hq
  injection hq with hq
  rw [hq] at this
  have e2:cells'.toList.getD (k*esz+j) undef=cells'.getD (k*esz+j) undef:=by
   rw [getD_eq_getElem?_getD,Array.getD_eq_getD_getElem?,Array.getElem?_toList]
  rw [e2]
  refine (this.mono hbl.size (fun b hS hlt=>⟨hbl.block b hlt,Or.inl hS,fun e=>?_⟩)).close (zqo (AV.closedL_at hcl k hk) j hj)
  simp only [Value.ownBlock,Option.some.injEq] at e
  omega
 ·obtain ⟨q,hq,rfl⟩:=mem_iff_getElem.1 hu
  have hq':q<cells'.size:=by simpa using hq
  have:=hc3 q hq'
  rw [Array.getD_eq_getD_getElem?,Array.getElem?_eq_getElem hq'] at this
  simpa using this
end
end Go.Proofs.YtidhlpjgifoneaaGreat
