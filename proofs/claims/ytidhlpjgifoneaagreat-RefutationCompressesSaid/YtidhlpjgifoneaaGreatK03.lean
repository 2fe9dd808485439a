/- The abstract walk, third part. -/
import Derived.Test.YtidhlpjgifoneaaGreatK02
set_option linter.unusedVariables false
set_option linter.unusedSimpArgs false
namespace Go.Proofs.YtidhlpjgifoneaaGreat
open Go.RowKit List
open _root_.Array renaming getD_eq_getD_getElem?->aA,getElem?_eq_some_iff->aB,getElem?_replicate->aC,getElem?_setIfInBounds_ne->aF,getD->aL,replicate->aR
open Nat renaming lt_of_lt_of_le->aD,le_refl->aJ,zero_le->aK
open Option.some renaming injEq->aE
open List renaming mem_filterMap->aG,nil_append->aN,mem_append_right->aP
open Option renaming toList_none->aH
open Or renaming inl->aM,inr->aU
open Bool renaming not_eq_true'->aO,or_eq_true->aQ
def Le (cx:Cx)(σ τ:AS):Prop:=∀ a w,St cx σ a w->St cx τ a w
theorem Le.refl (cx:Cx)(σ:AS):Le cx σ σ:=fun _ _ h=>h
variable {cx:Cx}
theorem Le.trans {a b c:AS}(h:Le cx a b)(k:Le cx b c):Le cx a c:=fun _ _ s=>k _ _ (h _ _ s)
def lift (cx:Cx)(Q:Exit->AS->Prop):Exit->Act->World->Prop:=fun e a w=>∃ σ,Q e σ/\St cx σ a w
def WP (cx:Cx)(c:Code)(Q:Exit->AS->Prop)(σ:AS):Prop:=∀ a w,St cx σ a w->c.wpIn cx.F 0 cx.P (lift cx Q) a w
def Cu (next:AS->Prop)(Q:Exit->AS->Prop):Exit->AS->Prop |.normal,σ=>next σ |e,σ=>Q e σ
def O4 (id:Nat)(Q:Exit->AS->Prop):Exit->AS->Prop
 |.exit f,σ=>if f=id then Q .normal σ else Q (.exit f) σ
 |e,σ=>Q e σ
theorem Wi (p:Nat->Prop)(h:∃ n,p n):∃ n,p n/\∀ m,p m->n<=m:=by
 obtain ⟨n,j⟩:=h
 induction n using Nat.strongRecOn with
 |_ n g =>
  by_cases hm:∃ m,m<n/\p m
  ·obtain ⟨m,h1,f⟩:=hm;exact g m h1 f
  ·exact ⟨n,j,fun m f=>Nat.le_of_not_lt fun h1=>hm ⟨m,h1,f⟩⟩
section
variable {cx:Cx} {Q:Exit->AS->Prop} {σ τ:AS}
variable {c:Code}
theorem WP.weaken (h:Le cx σ τ)(k:WP cx c Q τ):WP cx c Q σ:=fun a w f=>k a w (h a w f)
theorem WP.mono {Q':Exit->AS->Prop}(h:WP cx c Q σ)(k:∀ e σ,Q e σ->Q' e σ):WP cx c Q' σ:=fun a w f=>wpIn_mono (h a w f) (fun e a w ⟨σ,h1,g⟩=>⟨σ,k e σ h1,g⟩)
theorem WP.skip (h:Q .normal σ):WP cx .skip Q σ:=fun a w f=>wpIn_skip ⟨σ,h,f⟩
theorem WP.ret (h:Q .ret σ):WP cx .ret Q σ:=fun a w f=>wpIn_ret ⟨σ,h,f⟩
theorem WP.exit {id:Nat}(h:Q (.exit id) σ):WP cx (.exit id) Q σ:=fun a w f=>wpIn_exit ⟨σ,h,f⟩
theorem WP.seq {x y:Code}(h:WP cx x (Cu (WP cx y Q) Q) σ):WP cx (.seq x y) Q σ:=fun a w g=>by
 refine wpIn_seq (wpIn_mono (h a w g) (fun e a w ⟨τ,h1,f⟩=>?_));cases e with
 |normal=>exact h1 a w f
 |_=>exact ⟨τ,h1,f⟩
theorem WP.block {id:Nat}(h:WP cx c (O4 id Q) σ):WP cx (.block id c) Q σ:=fun a w l=>by
 refine wpIn_block (wpIn_mono (h a w l) (fun e a w ⟨τ,h1,j⟩=>?_));cases e with
 |exit g =>
  simp only [O4] at h1;simp only [Exit.inBlock];by_cases f:g=id
  ·rw [if_pos f] at h1 ⊢;exact ⟨τ,h1,j⟩
  ·rw [if_neg f] at h1 ⊢;exact ⟨τ,h1,j⟩
 |_=>exact ⟨τ,h1,j⟩
theorem WP.loop (I:Nat->AS->Prop)(n:Nat)(E:I n σ)(round:∀ n σ,I n σ->WP cx c (Cu (fun p=>∃ m,m<n/\I m p) Q) σ):WP cx (.loop c) Q σ:=fun a w C=>by
 classical
 let R:Act->World->Nat->Prop:=fun a w n=>∃ σ,I n σ/\St cx σ a w
 let q:Act->World->Nat:=fun a w=>if h:∃ n,R a w n then Classical.choose (Wi _ h) else 0
 refine wpIn_loop (fun a w=>∃ n,R a w n) q ⟨n,σ,E,C⟩ (fun a w s=>?_);have A:q a w=Classical.choose (Wi _ s):=dif_pos s;obtain ⟨τ,j,r⟩:=(Classical.choose_spec (Wi _ s)).1;refine wpIn_mono (round _ τ j a w r) (fun e z w' ⟨f,h1,u⟩=>?_);cases e with
 |normal =>
  obtain ⟨m,hm,l⟩:=h1;have g:∃ n,R z w' n:=⟨m,f,l,u⟩;refine ⟨g,?_⟩;have D:q z w'<=m:=by
   show (if h:∃ n,R z w' n then Classical.choose (Wi _ h) else 0)<=m;rw [dif_pos g];exact (Classical.choose_spec (Wi _ g)).2 m ⟨f,l,u⟩
  omega
 |_=>exact ⟨f,h1,u⟩
end
def AV.ofV:Value->AV
 |.int k n=>.int k n
 |.bool b=>.bool b
 |.string s=>.str s
 |.pointer none=>.nilp
 |.slice none 0 0=>.nils
 |.nilFunc=>.nilf
 |.map none=>.mapv []
 |.tuple cs=>if cs.size=0 then .tup [] else .any
 |_=>.any
def Cz:Value->AV |.agg cs=>.agg (cs.toList.map AV.ofV) |v=>AV.ofV v
def AS.eval (σ:AS):Operand->AV |.tmp t=>σ.get t |.const v=>Cz v |.func f=>.fn f [] |.global _=>.any
theorem O9 (w:World)(S:Nat->Prop)(γ:Gam)(v:Value):Rep w S γ (AV.ofV v) v:=by
 unfold AV.ofV;split
 ·exact .int _ _
 ·exact .bool _
 ·exact .str _
 ·exact .nilp
 ·exact .nils
 ·exact .nilf
 ·exact .mapn
 ·rename_i cs;by_cases h:cs.size=0
  ·rw [if_pos h];have:cs=#[]:=Array.eq_empty_of_size_eq_zero h;subst this;exact .tup #[] rfl (fun i hi=>by simp at hi)
  ·rw [if_neg h];exact .any _
 ·exact .any _
def Om:Value->Bool
 |.agg cs=>cs.all (·.oneCell')
 |_=>true
theorem X4 (w:World)(S:Nat->Prop)(γ:Gam)(v:Value)(h:Om v=true):Rep w S γ (Cz v) v:=by
 unfold Cz;split
 ·rename_i cs;refine .agg cs (by simp) (fun i hi=>?_) (fun i hi=>?_)
  ·have f:i<cs.size:=by simpa using hi
   simp only [getElem_map,Array.getElem_toList];have:cs.getD i undef=cs[i]:=by simp [aL,f]
   rw [this];exact O9 w S γ _
  ·have:cs.getD i undef=cs[i]:=by simp [aL,hi]
   rw [this];simp only [Om,Array.all_eq_true] at h;exact h i hi
 ·exact O9 w S γ _
def A7:Operand->Bool |.const v=>Om v |_=>true
section
variable {cx:Cx} {γ:Gam} {σ τ:AS} {a:Act} {w:World}
theorem StG.ev (h:StG cx γ σ a w)(x:Operand)(j:A7 x=true):Rep w (Sg cx.S0 cx.w0.heap.size γ) γ (σ.eval x) (a.eval x):=by
 cases x with
 |tmp t=>exact h.tm t
 |const v=>exact X4 _ _ _ _ j
 |global g=>exact .any _
 |func f=>exact .fn #[] rfl (fun i hi=>by simp at hi)
theorem y1o (a:Act)(d:Option Nat)(v:Value)(t:Nat)(g:∀ x,d=some x->x<a.tmps.size):(a.put d v).tmps.getD t undef=if d=some t then v else a.tmps.getD t undef:=by
 cases d with
 |none=>simp [Act.put]
 |some d =>
  have f:=g d rfl;simp only [Act.put,aE];by_cases h:d=t
  ·subst h;simp [f]
  ·rw [if_neg h];simp [aF h]
theorem y0r (a:Act)(d:Option Nat)(v:Value):(a.put d v).tmps.size=a.tmps.size:=by cases d<;>simp [Act.put]
theorem zgt (a:Act)(d:Option Nat)(v:Value):(a.put d v).defers=a.defers:=by cases d<;>rfl
variable {dst:Option Nat}{v:Value}
theorem Book.put {cx:Cx}{γ:Gam}{a:Act}{w:World}(h:Book cx γ a w)(l:∀ x,dst=some x->cx.E.np<=x/\x<cx.nt):Book cx γ (a.put dst v) w:=by
 refine ⟨fun j=>by rw [zgt];exact h.d0 j,by rw [zgt];exact h.marks,fun t g=>?_,h.yl,h.sz⟩;rw [<-h.pin t g];cases dst with
 |none=>rfl
 |some d =>
  have f:d≠t:=fun e=>by have:=(l d rfl).1;omega
  simp only [Act.put,aA];rw [aF f]
variable {w':World}{B:Nat}
theorem _root_.Go.World.ownsRow.moved {w:World}{e size n:Nat}{xs:List Value}(h:w.ownsRow B e size v n xs)(m:∀ g,B3 v=some g->w'.heap[g]? = w.heap[g]?):w'.ownsRow B e size v n xs:=by
 refine ⟨h.1,h.2.elim aM fun ⟨g,j,f,l,q,p,r⟩=>aU ⟨g,j,f,l,q,?_,r⟩⟩;rw [m g (by rw [l];rfl)];exact p
variable {S S':Nat->Prop}
theorem NRep.moved {w:World}{e:NE}(h:NRep w S B v e)(n:w.heap.size<=w'.heap.size)(q:∀ b,S b->b<w.heap.size->w'.heap[b]? = w.heap[b]? /\ S' b)(r:∀ g,B3 v=some g->w'.heap[g]? = w.heap[g]?):NRep w' S' B v e:=by
 cases e with
 |row ty sz xs =>
  obtain ⟨h1,vs,f,C,s,z⟩:=h;exact ⟨h1,vs,f.moved r,C,fun k m j A=>(s k m j A).mono n q,z⟩
 |mp ps =>
  obtain ⟨g,l,p,hm,u⟩:=h;exact ⟨g,l,p,hm.move n q (r g (by rw [p];rfl)),u⟩
 |hole=>exact h
variable {γ':Gam}{d:Option (Option Nat×Value)}{e:Ent}
theorem Bq.move (h:Bq w S γ B d e)(q:w.heap.size<=w'.heap.size)
  (u:∀ b,S b->b<w.heap.size->w'.heap[b]? = w.heap[b]? /\ S' b) (L:∀ id d,γ id=some d->γ' id=some d\/γ' id=some none\/Turn γ' id d) (f:∀ b,b∈blks d->w'.heap[b]? = w.heap[b]?):Bq w' S' γ' B d e:=by
 cases e with
 |box ty cells =>
  obtain ⟨g,vs,l,hb,hs,R,h1⟩:=h;exact ⟨g,vs,l,(f g (by rw [l];exact C1)).trans hb,hs,fun i hi=>((R i hi).mono q u).gam L,h1⟩
 |row ty sz xs =>
  obtain ⟨s,vs,l,h1,n,hc,R,ho⟩:=h;refine ⟨s,vs,l,h1,⟨n.1,n.2.elim aM (fun ⟨g,ab,aa,hv,z,V,r⟩=>aU ⟨g,ab,aa,hv,z,?_,r⟩)⟩,hc,fun k m j hj=>(R k m j hj).mono q u,ho⟩;subst hv;exact (f g (by rw [l];exact C1)).trans V
 |mp G =>
  obtain ⟨g,l,hm⟩:=h;exact ⟨g,l,hm.move q u (f g (by rw [l];exact C1))⟩
 |nest ty es =>
  obtain ⟨s,vs,l,h1,A,⟨us,n,O,N⟩,F,C⟩:=h;have E:∀ g,B3 s=some g->w'.heap[g]? = w.heap[g]? := fun g z=>f g (by rw [l];simp [blks,Cs,z])
  have D:∀ k,k<es.length->∀ g,B3 (vs.getD k undef)=some g->w'.heap[g]? = w.heap[g]? := fun k m g z=>f g (by
   rw [l];simp only [blks,aH,aN,Cs,aG];refine ⟨vs.getD k undef,?_,z⟩;have:k<vs.size:=by omega
   simp [aL,this])
  refine ⟨s,vs,l,h1,A,⟨us,n.moved fun g z=>E g z,O,N⟩,fun k m=>?_,C⟩;exact (F k m).moved q u (D k m)
 |mpn G =>
  obtain ⟨g,es,vs,l,V,hl,A,X,U,M,F,C⟩:=h;have W:w'.heap[g]? = w.heap[g]? := f g (by rw [l];simp [blks,Cs,B3]);have D:∀ k,k<G.length->∀ g,B3 (vs.getD k undef)=some g->w'.heap[g]? = w.heap[g]? := fun k m g z=>f g (by
   rw [l];simp only [blks,aH,aN,Cs,aG];refine ⟨vs.getD k undef,?_,z⟩;have:k<vs.size:=by omega
   simp [aL,this])
  exact ⟨g,es,vs,l,W.trans V,hl,A,X,fun j h J=>(U j h J).mono q u,M,fun j J=>(F j J).moved q u (D j J),C⟩
 |are ty idx os =>
  obtain ⟨s,vs,us,l,h1,A,n,O,H,F,C⟩:=h;have E:∀ g,B3 s=some g->w'.heap[g]? = w.heap[g]? := fun g z=>f g (by rw [l];simp [blks,Cs,z])
  have D:∀ k,k<os.length->∀ g,B3 (vs.getD k undef)=some g->w'.heap[g]? = w.heap[g]? := fun k m g z=>f g (by
   rw [l];simp only [blks,aH,aN,Cs,aG];refine ⟨vs.getD k undef,?_,z⟩;have:k<vs.size:=by omega
   simp [aL,this])
  exact ⟨s,vs,us,l,h1,A,n.moved fun g z=>E g z,O,fun k m=>⟨fun h=>((H k m).1 h).mono q u,(H k m).2⟩,fun j h=>⟨(F j h).1,(F j h).2.moved q u (D j h)⟩,C⟩
 |it G =>
  obtain ⟨g,l,hi⟩:=h;exact ⟨g,l,hi.move u q (f g (by rw [l];exact C1)) (fun es s c d h=>RepM.move h q u)⟩
 |itp G =>
  obtain ⟨g,l,hi⟩:=h;exact ⟨g,l,hi.move u q (f g (by rw [l];exact C1)) (fun es s c d ⟨Z,K,e,h1,Y,I⟩=>⟨Z,K,e,h1,Y,RepM.move I q u⟩)⟩
 |itc p G =>
  obtain ⟨g,l,hi⟩:=h;exact ⟨g,l,hi.move u q (f g (by rw [l];exact C1)) (fun es s c d ⟨Z,K,e,h1,Y,I,h4⟩=>⟨Z,K,e,h1,Y,⟨I.1.mono q u,I.2.mono q u⟩,RepM.move h4 q u⟩)⟩
 |dead=>exact h
theorem Bq.free {w:World}{γ:Gam}(h:Bq w S γ B d e)(f:∀ ty cs,e≠.box ty cs):Bq w S γ' B d e:=by
 cases e with
 |box ty cs=>exact absurd rfl (f ty cs)
 |_=>exact h
theorem Bq.gmono {w:World}{γ:Gam}(h:Bq w S γ B d e)(f:∀ ty cs,e≠.box ty cs)(g:∀ b,S b->S' b):Bq w S' γ' B d e :=
 (h.move (γ':=γ) (aJ _) (fun b f _=>⟨rfl,g b f⟩) (fun id d h=>aM h) (fun _ _=>rfl)).free f
variable {av:AV}
theorem StG.step (h:StG cx γ σ a w){wr:List (Nat×Ent)}(r:∀ x,dst=some x->cx.E.np<=x/\x<cx.nt)(m:w.heap.size<=w'.heap.size)
  (D:∀ b,Sg cx.S0 cx.w0.heap.size γ b->b<w.heap.size->w'.heap[b]? = w.heap[b]? /\ Sg cx.S0 cx.w0.heap.size γ' b)
  (l:∀ id d,γ id=some d->γ' id=some d\/γ' id=some none\/Turn γ' id d)
  (f:∀ id,lkE wr id=none->γ' id=γ id/\∀ b d,γ id=some d->b∈blks d->w'.heap[b]? = w.heap[b]?)
  (n:∀ id e,lkE wr id=some e->∃ x,γ' id=some x/\Bq w' (Sg cx.S0 cx.w0.heap.size γ') γ' cx.w0.heap.size x e)
  (q:∀ id j b d G,γ' id=some d->γ' j=some G->b∈blks d->b∈blks G->id=j)
  (z:∀ b,own γ' b->Nw cx.S0 cx.w0.heap.size b/\b<w'.heap.size) (g:Below cx.w0.heap.size cx.w0 w')
  (J:Rep w' (Sg cx.S0 cx.w0.heap.size γ') γ' av v) (p:∀ b,¬own γ b->b<w.heap.size->w'.heap[b]? = w.heap[b]? /\ ¬own γ' b) (A:cx.E.dr=true->w.drawn<=w'.drawn):StG cx γ' (σ.upd dst av wr) (a.put dst v) w':=by
 refine ⟨fun t=>?_,fun id=>?_,q,z,g,by rw [y0r];exact h.size,(h.defers.step m p).put r,fun b g=>aD (h.gh b g) m,fun b g=>?_,fun r=>Nat.le_trans (h.dr r) (A r)⟩;rotate_right
 ·obtain ⟨N,F,M⟩:=h.fr b g;obtain ⟨I,H⟩:=p b N F;exact ⟨H,aD F m,I.trans M⟩
 ·rw [AS.get_upd,y1o a dst v t (fun x s=>by rw [h.size];exact (r x s).2)];by_cases u:dst=some t
  ·rw [if_pos u,if_pos u];exact J
  ·rw [if_neg u,if_neg u];exact ((h.tm t).mono m D).gam l
 ·rw [AS.find_upd];cases C:lkE wr id with
  |some e=>exact n id e C
  |none =>
   rw [Option.none_or];obtain ⟨h1,L⟩:=f id C;rw [h1];have:=h.me id;cases E:σ.find id with
   |none=>rw [E] at this;exact this
   |some e =>
    rw [E] at this;obtain ⟨x,s,K⟩:=this;exact ⟨x,s,K.move m D l (fun b g=>L b x s g)⟩
theorem StG.put (h:StG cx γ σ a w)(f:∀ x,dst=some x->cx.E.np<=x/\x<cx.nt)(j:Rep w (Sg cx.S0 cx.w0.heap.size γ) γ av v):StG cx γ (σ.upd dst av []) (a.put dst v) w :=
 h.step f (aJ _) (fun b g _=>⟨rfl,g⟩) (fun id d f=>aM f) (fun id _=>⟨rfl,fun _ _ _ _=>rfl⟩) (fun id e l=>by simp [lkE] at l) h.inj h.ge h.below j (fun b g _=>⟨rfl,g⟩) (fun _=>aJ _)
theorem StG.grow (h:StG cx γ σ a w)(j:∀ x,dst=some x->cx.E.np<=x/\x<cx.nt)(g:Below w.heap.size w w')(n:cx.E.dr=true->w.drawn<=w'.drawn)(p:Rep w' (Sg cx.S0 cx.w0.heap.size γ) γ av v):StG cx γ (σ.upd dst av []) (a.put dst v) w':=by
 refine h.step j g.size (fun b r f=>⟨g.block b f,r⟩) (fun id d j=>aM j) (fun id _=>⟨rfl,fun b d j hm=>g.block b (h.ge b ⟨id,d,j,hm⟩).2⟩) (fun id e q=>by simp [lkE] at q) h.inj
  (fun b l=>⟨(h.ge b l).1,aD (h.ge b l).2 g.size⟩) (h.below.trans (g.mono h.below.size)) p (fun b m f=>⟨g.block b f,m⟩) n
def Gam.set (γ:Gam)(id:Nat)(x:Option (Option Nat×Value)):Gam:=fun i=>if i=id then some x else γ i
theorem Gam.set_self (γ:Gam)(id:Nat)(x:Option (Option Nat×Value)):γ.set id x id=some x:=by simp [Gam.set]
theorem Gam.set_ne (γ:Gam)(id:Nat)(x:Option (Option Nat×Value)){i:Nat}(h:i≠id):γ.set id x i=γ i:=by simp [Gam.set,h]
theorem StG.name (h:StG cx γ σ a w){id g:Nat}{s:Value}(V:∀ x,dst=some x->cx.E.np<=x/\x<cx.nt)(R:σ.find id=none)(C:Below w.heap.size w w')(X:w.heap.size<=g)(A:g<w'.heap.size)
  (U:Bq w' (Sg cx.S0 cx.w0.heap.size (γ.set id (some (some g,s)))) (γ.set id (some (some g,s))) cx.w0.heap.size (some (some g,s)) e)
  (O:Rep w' (Sg cx.S0 cx.w0.heap.size (γ.set id (some (some g,s)))) (γ.set id (some (some g,s))) av v) (J:cx.E.dr=true->w.drawn<=w'.drawn:=by exact fun _=>Nat.le_refl _) (u:Cs s=[]:=by rfl):StG cx (γ.set id (some (some g,s))) (σ.upd dst av [(id,e)]) (a.put dst v) w':=by
 have r:γ id=none:=by have:=h.me id;rw [R] at this;exact this
 have E:∀ i x,γ i=some x->i≠id:=fun i x D e=>by subst e;rw [r] at D;cases D
 have l:∀ b,own (γ.set id (some (some g,s))) b->b=g\/own γ b:=fun b ⟨i,d,hi,hm⟩=>by
  by_cases f:i=id
  ·subst f;rw [Gam.set_self] at hi;injection hi with hi;subst hi;exact aM (Od u hm)
  ·rw [Gam.set_ne _ _ _ f] at hi;exact aU ⟨i,d,hi,hm⟩
 refine h.step V C.size (fun b L z=>⟨C.block b z,?_⟩) (fun i x D=>aM ?_) (fun i hi=>?_) (fun i Y hi=>?_) (fun i j b N M h1 n H G=>?_) (fun b K=>?_) (h.below.trans (C.mono h.below.size)) O (fun b I z=>⟨C.block b z,fun p=>?_⟩) J;rotate_right
 ·rcases l b p with rfl|p
  ·omega
  ·exact I p
 ·rcases L with L|⟨h1,n⟩
  ·exact aM L
  ·refine aU ⟨h1,fun p=>?_⟩;rcases l b p with rfl|p
   ·omega
   ·exact n p
 ·rw [Gam.set_ne _ _ _ (E i x D)];exact D
 ·have f:i≠id:=fun e=>by subst e;simp [lkE] at hi
  refine ⟨Gam.set_ne _ _ _ f,fun b d A hm=>C.block b (h.ge b ⟨i,d,A,hm⟩).2⟩
 ·have f:i=id:=by
   simp only [lkE] at hi;cases F:Nat.beq id i with
   |true=>exact (Nat.eq_of_beq_eq_true F).symm
   |false=>rw [F] at hi;cases hi
  subst f;simp only [lkE,Nat.beq_refl,aE] at hi;subst hi;exact ⟨_,Gam.set_self _ _ _,U⟩
 ·by_cases q:i=id
  ·by_cases m:j=id
   ·rw [q,m]
   ·subst q;rw [Gam.set_self] at h1;rw [Gam.set_ne _ _ _ m] at n;injection h1 with h1
    subst h1;have:=(h.ge b ⟨j,M,n,G⟩).2;have:=Od u H;omega
  ·by_cases m:j=id
   ·subst m;rw [Gam.set_self] at n;rw [Gam.set_ne _ _ _ q] at h1;injection n with n
    subst n;have:=(h.ge b ⟨i,N,h1,H⟩).2;have:=Od u G;omega
   ·rw [Gam.set_ne _ _ _ q] at h1;rw [Gam.set_ne _ _ _ m] at n;exact h.inj i j b N M h1 n H G
 ·rcases l b K with rfl|p
  ·have:=h.below.size;exact ⟨⟨by omega,fun W=>by have:=h.gh _ W;omega⟩,A⟩
  ·have:=h.ge b p;exact ⟨this.1,aD this.2 C.size⟩
end
variable {o:Oper}
theorem C5 {a:Act}{w:World}{K:Act->World->Prop}{Q:Exit->Act->World->Prop}(g:∀ c,o.op≠.defer c)(h:o.wp cx.P a w K Q):o.wpIn cx.F 0 cx.P a w K Q:=by
 unfold Oper.wp at h;refine ⟨fun _ _=>trivial,?_⟩;rw [Oper.semAt_eq _ _ _ g];generalize (execOp a.eval o).run cx.P w=r at *;cases r with
 |ok x w' =>
  cases x with
  |enter f args =>
   simp only [Oper.upon,Oper.uponIn] at h ⊢;exact ⟨fun h=>by simp [Fence.wide] at h,((callsIn_wide (n:=0-1)).2 h:_)⟩
  |row r args =>
   simp only [Oper.upon,Oper.uponIn] at h ⊢;exact ⟨fun h=>by simp [Fence.wide] at h,fun c cs _=>let ⟨v,w',r,s⟩:=h c cs;⟨v,w',r,stepsIn_wide.2 s⟩⟩
  |_=>first|exact h|exact h.elim
 |halt x w'=>cases x<;>first|exact h|exact h.elim
variable {P:Program}
theorem zb2 {ρ:Operand->Value}{w w':World}{v:Value}(h:(execOp ρ o).run P w=.ok (.value v) w'):∀ c,o.op≠.defer c:=by
 intro c j;unfold execOp at h;rw [j] at h;simp only [Sem.run_bind] at h;cases f:(resolve ρ c o.type).run P w with
 |ok d g=>rw [f] at h;simp [Result.andThen] at h
 |halt x g=>rw [f] at h;simp [Result.andThen] at h
def Aj (cx:Cx)(o:Oper)(σ:AS)(av:AV)(ids:List Nat)(wr:List (Nat×Ent)):Prop:=(∀ id e,lkE wr id=some e->id∈ids) /\ ∀ τ:AS,(∀ x∈o.op.operands,τ.eval x=σ.eval x)->(∀ id∈ids,τ.find id=σ.find id)->∀ a w Q K,St cx τ a w->(∀ f w',St cx (τ.upd o.dst av wr) f w'->K f w')->o.wpIn cx.F 0 cx.P a w K Q
def dok (cx:Cx)(o:Oper):Bool:=match o.dst with|some d=>Nat.ble cx.E.np d && Nat.blt d cx.nt|none=>true
theorem C0 (h:dok cx o=true):∀ x,o.dst=some x->cx.E.np<=x/\x<cx.nt:=fun x f=>by
 unfold dok at h;rw [f] at h;simpa using h
variable {ops:Array Oper}{av:AV}{ids:List Nat}{wr:List (Nat×Ent)}
theorem Aj.step {i:Nat}{σ:AS}(g:ops[i]? = some o)(n:o.guard=none)(h:Aj cx o σ av ids wr):Step cx ops i σ ⟨av,ids,wr⟩:=by
 refine ⟨h.1,fun τ h1 q a w Q K f j=>?_⟩;have p:Bw ops i=o.dst:=by simp [Bw,g]
 have m:Eu ops i=o.looksAt ops:=by simp [Eu,g]
 unfold Go.wpOpIn;simp only [g];rw [if_pos (by simp [Region.wanted,n])];refine h.2 τ (fun x l=>?_) q a w Q K f (by rw [p] at j;exact j);cases x with
 |tmp t =>
  refine h1 t ?_;rw [m];exact mem_append_left _ (aG.2 ⟨.tmp t,by simpa using l,rfl⟩)
 |_=>rfl
variable {want:Bool}
theorem Aj.step_guard {i g t:Nat}{c:Bool}{σ:AS}(p:ops[i]? = some o)(s:o.guard=some (g,want))(q:Bw ops g=some t)(D:σ.get t=.bool c)(G:c=want)
  (h:Aj cx o σ av ids wr):Step cx ops i σ ⟨av,ids,wr⟩:=by
 refine ⟨h.1,fun τ h1 H a w Q K j z=>?_⟩;have F:Bw ops i=o.dst:=by simp [Bw,p]
 have r:Eu ops i=o.looksAt ops:=by simp [Eu,p]
 have l:t∈Eu ops i:=by
  rw [r];refine aP _ ?_;simp only [s];have:(ops[g]?).bind (·.dst)=some t:=q;simp [this]
 have f:a.tmps.getD t undef=.bool c:=by
  obtain ⟨γ,E⟩:=j;have:=E.tm t;rw [h1 t l,D] at this;exact this.bool_inv
 unfold Go.wpOpIn;simp only [p];have C:Region.wanted o (yielded ops a.tmps)=true:=by
  have m:(ops[g]?).bind (·.dst)=some t:=q;simp only [Region.wanted,s,yielded];rw [m];rw [aA] at f;cases n:a.tmps[t]? with
  |none=>rw [n] at f;simp [undef] at f
  |some u=>rw [n] at f;simp at f;subst f;simp [n,G]
 rw [if_pos C];refine h.2 τ (fun x A=>?_) H a w Q K j (by rw [F] at z;exact z);cases x with
 |tmp t =>
  refine h1 t ?_;rw [r];exact mem_append_left _ (aG.2 ⟨.tmp t,by simpa using A,rfl⟩)
 |_=>rfl
theorem zc1 {i g t:Nat}{σ:AS}(q:ops[i]? = some o)(p:dok cx o=true)(A:o.guard=some (g,want))(E:Bw ops g=some t)(D:(∃ c,σ.get t=.bool c/\c≠want)\/σ.get t=.tup []):Step cx ops i σ ⟨.tup [],[],[]⟩:=by
 refine ⟨fun id e G=>by simp [lkE] at G,fun τ h1 J a w Q K n I=>?_⟩;have H:Bw ops i=o.dst:=by simp [Bw,q]
 have F:Eu ops i=o.looksAt ops:=by simp [Eu,q]
 have l:(ops[g]?).bind (·.dst)=some t:=E;have m:t∈Eu ops i:=by
  rw [F];refine aP _ ?_;simp only [A];simp [l]
 obtain ⟨γ,z⟩:=n;have f:=z.tm t;rw [h1 t m] at f;unfold Go.wpOpIn;simp only [q];have C:¬Region.wanted o (yielded ops a.tmps)=true:=by
  simp only [Region.wanted,A,yielded];rw [l];rcases D with ⟨c,s,r⟩|s
  ·rw [s] at f;have:=f.bool_inv;rw [aA] at this;cases j:a.tmps[t]? with
   |none=>simp [j]
   |some u=>rw [j] at this;simp at this;subst this;simp [j,r]
  ·rw [s] at f;obtain ⟨vs,h,_,_⟩:=f.tup_inv;rw [aA] at h;cases j:a.tmps[t]? with
   |none=>simp [j]
   |some u=>rw [j] at h;simp at h;subst h;simp [j]
 rw [if_neg C];refine ⟨fun _ _=>trivial,I _ _ ⟨γ,?_⟩⟩;rw [H];exact z.put (C0 p) (.tup #[] rfl (fun i hi=>by simp at hi))
def Exec (cx:Cx)(ops:Array Oper)(i:Nat)(σ:AS)(trs:List Tr)(Post:List Tr->AS->Prop):Prop:=∃ f g,Run cx ops i σ f g/\Post (trs.reverse++f) g
section
variable {cx:Cx} {ops:Array Oper} {i:Nat} {σ:AS} {trs:List Tr} {Post:List Tr->AS->Prop}
theorem Exec.done (h:ops.size<=i)(f:Post trs.reverse σ):Exec cx ops i σ trs Post:=⟨[],σ,.done h (Ext.refl _),by simpa using f⟩
theorem Exec.cons {tr:Tr}(h:i<ops.size)(j:Step cx ops i σ tr)(k:Exec cx ops (i+1) (σ.upd (Bw ops i) tr.val tr.wr) (tr::trs) Post):Exec cx ops i σ trs Post:=by
 obtain ⟨f,g,l,m⟩:=k;exact ⟨tr::f,g,.step h j (Ext.refl _) l,by simpa using m⟩
theorem Exec.ext {f:AS}(h:Ext f σ)(k:Exec cx ops i f trs Post):Exec cx ops i σ trs Post:=by
 obtain ⟨p,τ,l,q⟩:=k;have r:Ext σ f:=⟨fun t=>(h.1 t).symm,fun i=>(h.2 i).symm⟩;cases l with
 |done n g=>exact ⟨[],τ,.done n (g.trans h),q⟩
 |step m j g l=>exact ⟨_,τ,.step m (j.ext r) (g.trans (h.upd _ _ _)) l,q⟩
theorem Exec.op (f:ops[i]? = some o)(g:o.guard=none)(h:Aj cx o σ av ids wr)(k:Exec cx ops (i+1) (σ.upd o.dst av wr) (⟨av,ids,wr⟩::trs) Post):Exec cx ops i σ trs Post :=
 Exec.cons (aB.1 f).1 (Aj.step f g h) (by
  have j:Bw ops i=o.dst:=by simp [Bw,f]
  rw [j];exact k)
theorem Exec.guard {g t:Nat}{c:Bool}(f:ops[i]? = some o)(n:o.guard=some (g,want))(m:Bw ops g=some t)(l:σ.get t=.bool c)(j:dok cx o=true)
  (h1:c=want->∃ av ids wr,Aj cx o σ av ids wr/\Exec cx ops (i+1) (σ.upd o.dst av wr) (⟨av,ids,wr⟩::trs) Post)
  (r:c≠want->Exec cx ops (i+1) (σ.upd o.dst (.tup []) []) (⟨.tup [],[],[]⟩::trs) Post):Exec cx ops i σ trs Post:=by
 have p:Bw ops i=o.dst:=by simp [Bw,f]
 by_cases h:c=want
 ·obtain ⟨av,ids,wr,q,k⟩:=h1 h;exact Exec.cons (aB.1 f).1 (Aj.step_guard f n m l h q) (by rw [p];exact k)
 ·exact Exec.cons (aB.1 f).1 (zc1 f j n m (aM ⟨c,l,h⟩)) (by rw [p];exact r h)
end
section
variable {cx:Cx} {Q:Exit->AS->Prop} {σ:AS} {id:Nat} {ops:Array Oper}
theorem WP.region (h:Exec cx ops 0 σ [] (fun _ f=>Q .normal f)):WP cx (.region id ops false) Q σ:=fun a w g=>by
 obtain ⟨trs,f,j,l⟩:=h;refine wpIn_region ?_;have:=j.wpOps (Q:=lift cx Q) (fun a w g=>⟨f,l,g⟩) (aK _) a w g;rw [range_eq_range'];simpa using this
theorem WP.region_draw (A:Tc ops=true)(h:Exec cx ops 0 σ [] (fun trs f=>Ts ops trs=true/\Q .normal f)):WP cx (.region id ops true) Q σ:=fun a w l=>by
 obtain ⟨trs,f,E,r,u⟩:=h;simp only [reverse_nil,aN] at r u;refine wpIn_region_any cx.E.mixed ?_;obtain ⟨h1,C⟩:=E.steps (σ0:=σ) (tr:=fun k=>trs.getD k default) (aK _) (fun j _=>by simp) (Ext.refl _);refine y08 (fun j g=>h1 j (aK _) g) (fun i j n g q=>?_) (fun j o z e p F=>?_) (fun a w l=>⟨f,u,l.congr C.1 C.2⟩) ops.size _ (by simp) (by simp) (fun j o _ g=>by
  simp only [aA,aC] at g;split at g<;>simp at g) a _ ?_
 ·simp only [Ts,all_eq_true,mem_range,aQ,aO] at r;rcases r j g i n with h|h
  ·rw [q] at h;cases h
  ·exact h
 ·simp only [Tc,all_eq_true,mem_range] at A;have:=A j (aB.1 z).1;rw [z] at this;simp only [Array.all_eq_true_iff_forall_mem,aQ,aO] at this;rcases this e p with h|h
  ·rw [F] at h;cases h
  ·simpa using h
 ·have m:St cx σ a { w with drawn:=w.drawn+1 }:=by
   obtain ⟨γ,l⟩:=l;have s:Below w.heap.size w { w with drawn:=w.drawn+1 }:=⟨rfl,rfl,rfl,aJ _,fun _ _=>rfl⟩;have:=l.grow (dst:=none) (av:=.any) (v:=undef) (fun x D=>by cases D) s (fun _=>Nat.le_succ _) (.any _);exact ⟨γ,this⟩
  refine m.congr (fun t=>?_) (fun i=>?_)
  ·have:∀ k,(C6 (Bw ops) (fun k=>trs.getD k default) (fun i=>(aR ops.size false).getD i false) σ k).get t=σ.get t:=fun k =>
    zbp _ _ 0 k t (aK _) (fun j _ _ _=>by simp only [aA,aC];split<;>simp)
   exact this _
  ·have:∀ k,(C6 (Bw ops) (fun k=>trs.getD k default) (fun i=>(aR ops.size false).getD i false) σ k).find i=σ.find i:=fun k =>
    zal _ _ 0 k i (aK _) (fun j _ _ _=>by simp only [aA,aC];split<;>simp)
   exact this _
theorem WP.cond {c:Operand}{x y:Code}{b:Bool}(f:A7 c=true)(p:σ.eval c=.bool b)(l:b=true->WP cx x Q σ)(n:b=false->WP cx y Q σ):WP cx (.cond c x y) Q σ:=fun a w m=>by
 obtain ⟨γ,h⟩:=m;have j:=h.ev c f;rw [p] at j;exact wpIn_cond_split j.bool_inv (fun g=>l g a w ⟨γ,h⟩) (fun g=>n g a w ⟨γ,h⟩)
end
section
variable {cx:Cx} {o:Oper} {σ:AS}
theorem B8 (m:dok cx o=true)
  (h:∀ τ γ a w,(∀ x∈o.op.operands,τ.eval x=σ.eval x)->(∀ id∈ids,τ.find id=σ.find id)->StG cx γ τ a w->∃ v,(execOp a.eval o).run cx.P w=.ok (.value v) w/\Rep w (Sg cx.S0 cx.w0.heap.size γ) γ av v):Aj cx o σ av ids []:=by
 refine ⟨fun id e l=>by simp [lkE] at l,fun τ h1 p a w Q K ⟨γ,f⟩ n=>?_⟩;obtain ⟨v,g,j⟩:=h τ γ a w h1 p f;refine C5 (zb2 g) ?_;unfold Oper.wp;rw [g];exact n _ _ ⟨γ,f.put (C0 m) j⟩
theorem zw9 (n:dok cx o=true)
  (h:∀ τ γ a w,(∀ x∈o.op.operands,τ.eval x=σ.eval x)->(∀ id∈ids,τ.find id=σ.find id)->StG cx γ τ a w->∃ v w',(execOp a.eval o).run cx.P w=.ok (.value v) w'/\Below w.heap.size w w'/\(cx.E.dr=true->w.drawn<=w'.drawn)/\Rep w' (Sg cx.S0 cx.w0.heap.size γ) γ av v):Aj cx o σ av ids []:=by
 refine ⟨fun id e m=>by simp [lkE] at m,fun τ h1 r a w Q K ⟨γ,f⟩ q=>?_⟩;obtain ⟨v,w',j,p,g,l⟩:=h τ γ a w h1 r f;refine C5 (zb2 j) ?_;unfold Oper.wp;rw [j];exact q _ _ ⟨γ,f.grow (C0 n) p g l⟩
variable {x:Operand}
theorem y68 (h:o.op=.move x)(l:dok cx o=true)(f:A7 x=true)(j:σ.eval x=av):Aj cx o σ av [] [] :=
 B8 l fun τ γ a w h1 _ g=>⟨a.eval x,by simp [execOp,h],by
  have:=g.ev x f
  rwa [h1 x (by simp [h,Op.operands]),j] at this⟩
theorem y0o (h:o.op=.assign x)(l:dok cx o=true)(f:A7 x=true)(j:σ.eval x=av):Aj cx o σ av [] [] :=
 B8 l fun τ γ a w h1 _ g=>⟨a.eval x,by simp [execOp,h],by
  have:=g.ev x f
  rwa [h1 x (by simp [h,Op.operands]),j] at this⟩
def AV.toV:AV->Value |.int k n=>.int k n |.bool b=>.bool b |_=>undef
def binI:BinOp->IntKind->Int->Int->Option AV |.add,k,a,b=>some (.int k (k.wrap (a+b))) |.sub,k,a,b=>some (.int k (k.wrap (a-b))) |.mul,k,a,b=>some (.int k (k.wrap (a*b))) |.eql,_,a,b=>some (.bool (decide (a=b))) |.neq,_,a,b=>some (.bool (!decide (a=b))) |.lss,_,a,b=>some (.bool (decide (a<b))) |.leq,_,a,b=>some (.bool (decide (a<=b))) |.gtr,_,a,b=>some (.bool (decide (b<a))) |.geq,_,a,b=>some (.bool (decide (b<=a))) |_,_,_,_=>none
variable {y:Operand}{t t2:TypeId}{k:IntKind}{a:Int}
theorem y6f {op:BinOp}{b:Int}(g:o.op=.binOp op t x y t2)(u:dok cx o=true)(l:A7 x=true)(j:A7 y=true)(s:σ.eval x=.int k a)(r:σ.eval y=.int k b)(h:binI op k a b=some av) :
  Aj cx o σ av [] [] :=
 B8 u fun τ γ ac w h1 _ f=>by
  have q:=f.ev x l;rw [h1 x (by simp [g,Op.operands]),s] at q;have p:=f.ev y j;rw [h1 y (by simp [g,Op.operands]),r] at p;have n:=q.int_inv;have m:=p.int_inv;refine ⟨av.toV,?_,?_⟩
  ·cases op<;>simp only [binI,aE,reduceCtorEq] at h<;>subst h <;>
    first
     |(simp [execOp,g,n,m,eqGuard,binOp,Op.intArith,Op.intCmp,pure,AV.toV];done)
     |(simp [execOp,g,n,m,eqGuard,binOp,Op.intArith,Op.intCmp,pure,AV.toV];rfl)
     |(simp [execOp,g,n,m,eqGuard,binOp,Op.intArith,Op.intCmp,pure,AV.toV];rw [Bool.eq_iff_iff];simp)
  ·cases op<;>simp only [binI,aE,reduceCtorEq] at h<;>subst h<;>first|exact .int _ _|exact .bool _
theorem y86 {b c:Int}(j:o.op=.binOp .rem t x y t2)(q:dok cx o=true)(h:A7 x=true)(g:A7 y=true)(p:σ.eval x=.int k a)(n:σ.eval y=.int k b)(s:b≠0)(r:a.tmod b=c):Aj cx o σ (.int k c) [] [] :=
 B8 q fun τ γ ac w h1 _ f=>by
  have m:=f.ev x h;rw [h1 x (by simp [j,Op.operands]),p] at m;have l:=f.ev y g;rw [h1 y (by simp [j,Op.operands]),n] at l;exact ⟨.int k c,by simp [execOp,j,m.int_inv,l.int_inv,eqGuard,binOp,Op.intDiv,pure,s,r],.int _ _⟩
theorem y87 {b c:Int}(j:o.op=.binOp .quo t x y t2)(q:dok cx o=true)(h:A7 x=true)(g:A7 y=true)(p:σ.eval x=.int k a)(n:σ.eval y=.int k b)(s:b≠0)(r:k.wrap (a.tdiv b)=c):Aj cx o σ (.int k c) [] [] :=
 B8 q fun τ γ ac w h1 _ f=>by
  have m:=f.ev x h;rw [h1 x (by simp [j,Op.operands]),p] at m;have l:=f.ev y g;rw [h1 y (by simp [j,Op.operands]),n] at l;exact ⟨.int k c,by simp [execOp,j,m.int_inv,l.int_inv,eqGuard,binOp,Op.intDiv,pure,s,r],.int _ _⟩
variable {b:Bool}
theorem y89 (h:o.op=.unOp .not t x)(m:dok cx o=true)(f:A7 x=true)(l:σ.eval x=.bool b):Aj cx o σ (.bool (!b)) [] [] :=
 B8 m fun τ γ ac w h1 _ g=>by
  have j:=g.ev x f;rw [h1 x (by simp [h,Op.operands]),l] at j;exact ⟨.bool (!b),by simp [execOp,h,j.bool_inv,Op.unary,pure],.bool _⟩
theorem y8a {c:Int}(h:o.op=.unOp .neg t x)(m:dok cx o=true)(f:A7 x=true)(l:σ.eval x=.int k a)(n:k.wrap (0-a)=c):Aj cx o σ (.int k c) [] [] :=
 B8 m fun τ γ ac w h1 _ g=>by
  have j:=g.ev x f;rw [h1 x (by simp [h,Op.operands]),l] at j;exact ⟨.int k c,by simp [execOp,h,j.int_inv,Op.unary,Op.intArith,pure,<-n],.int _ _⟩
theorem zdj {c:Operand}(h:o.op=.pick c x y)(p:dok cx o=true)(j:A7 c=true)(g:A7 x=true)(q:σ.eval c=.bool b)(r:b=true)(n:σ.eval x=av):Aj cx o σ av [] [] :=
 B8 p fun τ γ ac w h1 _ f=>by
  have m:=f.ev c j;rw [h1 c (by simp [h,Op.operands]),q] at m;have l:=f.ev x g;rw [h1 x (by simp [h,Op.operands]),n] at l;exact ⟨ac.eval x,by simp [execOp,h,m.bool_inv,asBool,r,pure],l⟩
theorem zc4 {c:Operand}(h:o.op=.pick c x y)(p:dok cx o=true)(j:A7 c=true)(g:A7 y=true)(q:σ.eval c=.bool b)(r:b=false)(n:σ.eval y=av):Aj cx o σ av [] [] :=
 B8 p fun τ γ ac w h1 _ f=>by
  have m:=f.ev c j;rw [h1 c (by simp [h,Op.operands]),q] at m;have l:=f.ev y g;rw [h1 y (by simp [h,Op.operands]),n] at l;exact ⟨ac.eval y,by simp [execOp,h,m.bool_inv,asBool,r,pure],l⟩
theorem y8f {a:Bool}(j:o.op=.binOp .eql t x y t2)(u:dok cx o=true)(h:A7 x=true)(g:A7 y=true)(q:σ.eval x=.bool a)(p:σ.eval y=.bool b)(r:cx.P.underlying t=some .bool):Aj cx o σ (.bool (a == b)) [] [] :=
 B8 u fun τ γ ac w h1 _ f=>by
  have m:=f.ev x h;rw [h1 x (by simp [j,Op.operands]),q] at m;have l:=f.ev y g;rw [h1 y (by simp [j,Op.operands]),p] at l;have s:∀ n:Nat,(Op.equalIn (n+1) t (.bool a) (.bool b)).run cx.P w=.ok (a == b) w:=fun n=>by simp [Op.equalIn,run_underlying r,pure]
  exact ⟨.bool (a == b),by simp [execOp,j,m.bool_inv,l.bool_inv,eqGuard,binOp,Op.equal,Op.maxDepth,s 9999,pure],.bool _⟩
theorem y8b {a:Bool}(j:o.op=.binOp .neq t x y t2)(u:dok cx o=true)(h:A7 x=true)(g:A7 y=true)(q:σ.eval x=.bool a)(p:σ.eval y=.bool b)(r:cx.P.underlying t=some .bool):Aj cx o σ (.bool (!(a == b))) [] [] :=
 B8 u fun τ γ ac w h1 _ f=>by
  have m:=f.ev x h;rw [h1 x (by simp [j,Op.operands]),q] at m;have l:=f.ev y g;rw [h1 y (by simp [j,Op.operands]),p] at l;have s:∀ n:Nat,(Op.equalIn (n+1) t (.bool a) (.bool b)).run cx.P w=.ok (a == b) w:=fun n=>by simp [Op.equalIn,run_underlying r,pure]
  exact ⟨.bool (!(a == b)),by simp [execOp,j,m.bool_inv,l.bool_inv,eqGuard,binOp,Op.equal,Op.maxDepth,s 9999,pure],.bool _⟩
variable {T:TypeId}{i:TyI}
theorem TyOk.size (h:TyOk P T i)(w:World):(sizeOf T).run P w=.ok i.sz w:=by
 have:=h.info;cases f:P.info? T with
 |none=>rw [f] at this;simp at this
 |some x=>rw [f] at this;simp at this;simp [sizeOf,typeInfo,f,this.1]
theorem TyOk.cells (h:TyOk P T i):P.cellsOf T=i.sz:=by
 have:=h.info;cases f:P.info? T with
 |none=>rw [f] at this;simp at this
 |some x=>rw [f] at this;simp at this;simp [Program.cellsOf,f,this.1]
theorem TyOk.zeroV (h:TyOk P T i)(w:World):(zeroValue T).run P w=.ok i.zero w:=by
 have:=h.zero;cases f:P.info? T with
 |none=>rw [f] at this;simp at this
 |some x=>rw [f] at this;simp at this;simp [zeroValue,typeInfo,f,this]
theorem TyOk.und (h:TyOk P T i):∃ d,P.underlying T=some d/\Dx P d=i.shape:=by
 have:=h.shape;cases f:P.underlying T with
 |none=>rw [f] at this;simp at this
 |some d=>rw [f] at this;simp at this;exact ⟨d,rfl,this⟩
def E2.agg:E2->Bool |.strct _=>true |.arr _ _ _ _=>true |_=>false
theorem TyOk.agg (h:TyOk P T i)(w:World):(isAgg T).run P w=.ok i.shape.agg w:=by
 obtain ⟨d,g,f⟩:=h.und;rw [<-f];cases d<;>simp [isAgg,run_underlying g,Dx,E2.agg,pure]
theorem Zh (h:aggT P T=some b)(w:World):(isAgg T).run P w=.ok b w:=by
 unfold aggT at h;split at h
 ·rename_i fs f;injection h with h;subst h;simp [isAgg,run_underlying f,pure]
 ·rename_i n e f;injection h with h;subst h;simp [isAgg,run_underlying f,pure]
 ·rename_i d h1 g f;injection h with h
  subst h;cases d<;>first|exact (h1 _ rfl).elim|exact (g _ _ rfl).elim|simp [isAgg,run_underlying f,pure]
 ·cases h
end
end Go.Proofs.YtidhlpjgifoneaaGreat
