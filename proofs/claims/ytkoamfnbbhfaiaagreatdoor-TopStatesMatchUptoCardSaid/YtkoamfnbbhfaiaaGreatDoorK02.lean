/- The abstract walk, third part. -/
import Derived.Test.YtkoamfnbbhfaiaaGreatDoorK01
set_option linter.unusedVariables false
set_option linter.unusedSimpArgs false
namespace Go.Proofs.YtkoamfnbbhfaiaaGreatDoor
open Go.RowKit List
open _root_.Array renaming getD_eq_getD_getElem?->aA,getElem?_eq_some_iff->aC,getD->aG,getElem?_eq_getElem->aJ,getElem?_replicate->aK,getElem?_setIfInBounds_ne->aO,getElem?_extract->bB,getElem_toList->bD,all_eq_true->bJ,replicate->bP
open Option.some renaming injEq->aB
open Nat renaming eq_of_beq_eq_true->aD,le_refl->aE,lt_of_lt_of_le->aF,mul_le_mul_right->aH,zero_le->aX,add_assoc->aZ,succ_mul->bL,beq->bQ,beq_refl->bT,add_zero->bU
open Option renaming map_eq_some_iff->aL,toList_none->aW
open List renaming getElem_drop->aM,getElem_take->aN,range->aP,getD_eq_getElem?_getD->aQ,mem_filterMap->aR,getElem_map->aS,length_drop->aT,getElem_append_left->aV,length_take->aY,getElem_range->bA,getElem?_append_right->bC,getElem?_append_left->bE,getElem_append_right->bF,getElem?_take_of_lt->bG,getElem?_eq_getElem->bH,nil_append->bI,getElem?_map->bM,mem_append_right->bN
open Or renaming inl->aU,inr->bS
open Bool renaming not_eq_true'->bK,or_eq_true->bO
def Le (cx:Cx)(σ τ:AS):Prop:=∀ a w,St cx σ a w->St cx τ a w
theorem Le.refl (cx:Cx)(σ:AS):Le cx σ σ:=fun _ _ h=>h
variable {cx:Cx}
theorem Le.trans {a b c:AS}(h:Le cx a b)(k:Le cx b c):Le cx a c:=fun _ _ s=>k _ _ (h _ _ s)
def lift (cx:Cx)(Q:Exit->AS->Prop):Exit->Act->World->Prop:=fun e a w=>∃ σ,Q e σ/\St cx σ a w
def WP (cx:Cx)(c:Code)(Q:Exit->AS->Prop)(σ:AS):Prop:=∀ a w,St cx σ a w->c.wpIn cx.F 0 cx.P (lift cx Q) a w
def Cy (next:AS->Prop)(Q:Exit->AS->Prop):Exit->AS->Prop |.normal,σ=>next σ |e,σ=>Q e σ
def Jb (id:Nat)(Q:Exit->AS->Prop):Exit->AS->Prop
 |.exit h,σ=>if h=id then Q .normal σ else Q (.exit h) σ
 |e,σ=>Q e σ
theorem Tv (p:Nat->Prop)(h:∃ n,p n):∃ n,p n/\∀ m,p m->n<=m:=by
 obtain ⟨n,q⟩:=h
 induction n using Nat.strongRecOn with
 |_ n l =>
  by_cases hm:∃ m,m<n/\p m
  ·obtain ⟨m,h1,j⟩:=hm;exact l m h1 j
  ·exact ⟨n,q,fun m j=>Nat.le_of_not_lt fun h1=>hm ⟨m,h1,j⟩⟩
section
variable {cx:Cx} {Q:Exit->AS->Prop} {σ τ:AS}
variable {c:Code}
theorem WP.weaken (h:Le cx σ τ)(k:WP cx c Q τ):WP cx c Q σ:=fun a w j=>k a w (h a w j)
theorem WP.mono {Q':Exit->AS->Prop}(h:WP cx c Q σ)(k:∀ e σ,Q e σ->Q' e σ):WP cx c Q' σ:=fun a w j=>wpIn_mono (h a w j) (fun e a w ⟨σ,h1,l⟩=>⟨σ,k e σ h1,l⟩)
theorem WP.skip (h:Q .normal σ):WP cx .skip Q σ:=fun a w j=>wpIn_skip ⟨σ,h,j⟩
theorem WP.ret (h:Q .ret σ):WP cx .ret Q σ:=fun a w j=>wpIn_ret ⟨σ,h,j⟩
theorem WP.exit {id:Nat}(h:Q (.exit id) σ):WP cx (.exit id) Q σ:=fun a w j=>wpIn_exit ⟨σ,h,j⟩
theorem WP.seq {x y:Code}(h:WP cx x (Cy (WP cx y Q) Q) σ):WP cx (.seq x y) Q σ:=fun a w l=>by
 refine wpIn_seq (wpIn_mono (h a w l) (fun e a w ⟨τ,h1,j⟩=>?_));cases e with
 |normal=>exact h1 a w j
 |_=>exact ⟨τ,h1,j⟩
theorem WP.block {id:Nat}(h:WP cx c (Jb id Q) σ):WP cx (.block id c) Q σ:=fun a w n=>by
 refine wpIn_block (wpIn_mono (h a w n) (fun e a w ⟨τ,h1,m⟩=>?_));cases e with
 |exit l =>
  simp only [Jb] at h1;simp only [Exit.inBlock];by_cases j:l=id
  ·rw [if_pos j] at h1 ⊢;exact ⟨τ,h1,m⟩
  ·rw [if_neg j] at h1 ⊢;exact ⟨τ,h1,m⟩
 |_=>exact ⟨τ,h1,m⟩
theorem WP.loop (I:Nat->AS->Prop)(n:Nat)(G:I n σ)(round:∀ n σ,I n σ->WP cx c (Cy (fun r=>∃ m,m<n/\I m r) Q) σ):WP cx (.loop c) Q σ:=fun a w E=>by
 classical
 let R:Act->World->Nat->Prop:=fun a w n=>∃ σ,I n σ/\St cx σ a w
 let s:Act->World->Nat:=fun a w=>if h:∃ n,R a w n then Classical.choose (Tv _ h) else 0
 refine wpIn_loop (fun a w=>∃ n,R a w n) s ⟨n,σ,G,E⟩ (fun a w z=>?_);have D:s a w=Classical.choose (Tv _ z):=dif_pos z;obtain ⟨τ,p,u⟩:=(Classical.choose_spec (Tv _ z)).1;refine wpIn_mono (round _ τ p a w u) (fun e C w' ⟨j,h1,A⟩=>?_);cases e with
 |normal =>
  obtain ⟨m,hm,q⟩:=h1;have l:∃ n,R C w' n:=⟨m,j,q,A⟩;refine ⟨l,?_⟩;have F:s C w'<=m:=by
   show (if h:∃ n,R C w' n then Classical.choose (Tv _ h) else 0)<=m;rw [dif_pos l];exact (Classical.choose_spec (Tv _ l)).2 m ⟨j,q,A⟩
  omega
 |_=>exact ⟨j,h1,A⟩
end
def AV.ofV:Value->AV
 |.int k n=>.int k n
 |.bool b=>.bool b
 |.string s=>.str s
 |.pointer none=>.nilp
 |.slice none 0 0=>.nils
 |.nilFunc=>.nilf
 |.map none=>.mapv []
 |.tuple cs=>if cs.size=0 then .tup [] else .any
 |_=>.any
def E3:Value->AV |.agg cs=>.agg (cs.toList.map AV.ofV) |v=>AV.ofV v
def AS.eval (σ:AS):Operand->AV |.tmp t=>σ.get t |.const v=>E3 v |.func f=>.fn f [] |.global _=>.any
theorem Gk (w:World)(S:Nat->Prop)(γ:Gam)(v:Value):Rep w S γ (AV.ofV v) v:=by
 unfold AV.ofV;split
 ·exact .int _ _
 ·exact .bool _
 ·exact .str _
 ·exact .nilp
 ·exact .nils
 ·exact .nilf
 ·exact .mapn
 ·rename_i cs;by_cases h:cs.size=0
  ·rw [if_pos h];have:cs=#[]:=Array.eq_empty_of_size_eq_zero h;subst this;exact .tup #[] rfl (fun i hi=>by simp at hi)
  ·rw [if_neg h];exact .any _
 ·exact .any _
def Rg:Value->Bool
 |.agg cs=>cs.all (·.oneCell')
 |_=>true
theorem X3 (w:World)(S:Nat->Prop)(γ:Gam)(v:Value)(h:Rg v=true):Rep w S γ (E3 v) v:=by
 unfold E3;split
 ·rename_i cs;refine .agg cs (by simp) (fun i hi=>?_) (fun i hi=>?_)
  ·have j:i<cs.size:=by simpa using hi
   simp only [aS,bD];have:cs.getD i undef=cs[i]:=by simp [aG,j]
   rw [this];exact Gk w S γ _
  ·have:cs.getD i undef=cs[i]:=by simp [aG,hi]
   rw [this];simp only [Rg,bJ] at h;exact h i hi
 ·exact Gk w S γ _
def A0:Operand->Bool |.const v=>Rg v |_=>true
section
variable {cx:Cx} {γ:Gam} {σ τ:AS} {a:Act} {w:World}
theorem StG.ev (h:StG cx γ σ a w)(x:Operand)(j:A0 x=true):Rep w (Sg cx.S0 cx.w0.heap.size γ) γ (σ.eval x) (a.eval x):=by
 cases x with
 |tmp t=>exact h.tm t
 |const v=>exact X3 _ _ _ _ j
 |global g=>exact .any _
 |func f=>exact .fn #[] rfl (fun i hi=>by simp at hi)
theorem zsn (a:Act)(d:Option Nat)(v:Value)(t:Nat)(l:∀ x,d=some x->x<a.tmps.size):(a.put d v).tmps.getD t undef=if d=some t then v else a.tmps.getD t undef:=by
 cases d with
 |none=>simp [Act.put]
 |some d =>
  have j:=l d rfl;simp only [Act.put,aB];by_cases h:d=t
  ·subst h;simp [j]
  ·rw [if_neg h];simp [aO h]
theorem zry (a:Act)(d:Option Nat)(v:Value):(a.put d v).tmps.size=a.tmps.size:=by cases d<;>simp [Act.put]
theorem Zh (a:Act)(d:Option Nat)(v:Value):(a.put d v).defers=a.defers:=by cases d<;>rfl
variable {dst:Option Nat}{v:Value}
theorem Book.put {cx:Cx}{γ:Gam}{a:Act}{w:World}(h:Book cx γ a w)(n:∀ x,dst=some x->cx.E.np<=x/\x<cx.nt):Book cx γ (a.put dst v) w:=by
 refine ⟨fun m=>by rw [Zh];exact h.d0 m,by rw [Zh];exact h.marks,fun t l=>?_,h.yl,h.sz,h.evo,h.laid,by rw [Zh];exact h.mks,h.wsz⟩;rw [<-h.pin t l];cases dst with
 |none=>rfl
 |some d =>
  have j:d≠t:=fun e=>by have:=(n d rfl).1;omega
  simp only [Act.put,aA];rw [aO j]
variable {w':World}{B:Nat}
theorem _root_.Go.World.ownsRow.moved {w:World}{e size n:Nat}{xs:List Value}(h:w.ownsRow B e size v n xs)(m:∀ g,B4 v=some g->w'.heap[g]? = w.heap[g]?):w'.ownsRow B e size v n xs:=by
 refine ⟨h.1,h.2.elim aU fun ⟨g,cap,j,l,q,p,r⟩=>bS ⟨g,cap,j,l,q,?_,r⟩⟩;rw [m g (by rw [l];rfl)];exact p
variable {S S':Nat->Prop}
theorem NRep.moved {w:World}{e:NE}(h:NRep w S B v e)(p:w.heap.size<=w'.heap.size)(r:∀ b,S b->b<w.heap.size->w'.heap[b]? = w.heap[b]? /\ S' b)(s:∀ g,B4 v=some g->w'.heap[g]? = w.heap[g]?):NRep w' S' B v e:=by
 cases e with
 |row ty sz xs =>
  obtain ⟨h1,vs,l,D,u,A⟩:=h;exact ⟨h1,vs,l.moved s,D,fun k n j C=>(u k n j C).mono p r,A⟩
 |mp ps =>
  obtain ⟨g,m,q,hm,z⟩:=h;exact ⟨g,m,q,hm.move p r (s g (by rw [q];rfl)),z⟩
 |hole=>exact h
variable {γ':Gam}{d:Option (Option Nat×Value)}{e:Ent}
theorem B8.move (h:B8 w S γ B d e)(A:w.heap.size<=w'.heap.size)
  (C:∀ b,S b->b<w.heap.size->w'.heap[b]? = w.heap[b]? /\ S' b) (H:∀ id d,γ id=some d->γ' id=some d\/γ' id=some none\/Turn γ' id d) (m:∀ b,b∈blks d->w'.heap[b]? = w.heap[b]?):B8 w' S' γ' B d e:=by
 cases e with
 |box ty cells =>
  obtain ⟨g,vs,n,hb,hs,I,h1⟩:=h;exact ⟨g,vs,n,(m g (by rw [n];exact Bc)).trans hb,hs,fun i hi=>((I i hi).mono A C).gam H,h1⟩
 |row ty sz xs =>
  obtain ⟨s,vs,n,h1,q,hc,I,Z⟩:=h;refine ⟨s,vs,n,h1,⟨q.1,q.2.elim aU (fun ⟨g,cap,N,O,z,M,r⟩=>bS ⟨g,cap,N,O,z,?_,r⟩)⟩,hc,fun k u j hj=>(I k u j hj).mono A C,Z⟩;subst O;exact (m g (by rw [n];exact Bc)).trans M
 |mp ps =>
  obtain ⟨g,n,hm⟩:=h;exact ⟨g,n,hm.move A C (m g (by rw [n];exact Bc))⟩
 |nest ty es =>
  obtain ⟨s,vs,n,h1,E,⟨us,q,Y,X⟩,K,F⟩:=h;have J:∀ g,B4 s=some g->w'.heap[g]? = w.heap[g]? := fun g z=>m g (by rw [n];simp [blks,Cm,z])
  have G:∀ k,k<es.length->∀ g,B4 (vs.getD k undef)=some g->w'.heap[g]? = w.heap[g]? := fun k u g z=>m g (by
   rw [n];simp only [blks,aW,bI,Cm,aR];refine ⟨vs.getD k undef,?_,z⟩;have:k<vs.size:=by omega
   simp [aG,this])
  refine ⟨s,vs,n,h1,E,⟨us,q.moved fun g z=>J g z,Y,X⟩,fun k u=>?_,F⟩;exact (K k u).moved A C (G k u)
 |mpn ps =>
  obtain ⟨g,es,vs,n,M,hl,E,ac,aa,W,K,F⟩:=h;have ab:w'.heap[g]? = w.heap[g]? := m g (by rw [n];simp [blks,Cm,B4]);have G:∀ k,k<ps.length->∀ g,B4 (vs.getD k undef)=some g->w'.heap[g]? = w.heap[g]? := fun k u g z=>m g (by
   rw [n];simp only [blks,aW,bI,Cm,aR];refine ⟨vs.getD k undef,?_,z⟩;have:k<vs.size:=by omega
   simp [aG,this])
  exact ⟨g,es,vs,n,ab.trans M,hl,E,ac,fun j h U=>(aa j h U).mono A C,W,fun j U=>(K j U).moved A C (G j U),F⟩
 |are ty idx os =>
  obtain ⟨s,vs,us,n,h1,E,q,Y,L,K,F⟩:=h;have J:∀ g,B4 s=some g->w'.heap[g]? = w.heap[g]? := fun g z=>m g (by rw [n];simp [blks,Cm,z])
  have G:∀ k,k<os.length->∀ g,B4 (vs.getD k undef)=some g->w'.heap[g]? = w.heap[g]? := fun k u g z=>m g (by
   rw [n];simp only [blks,aW,bI,Cm,aR];refine ⟨vs.getD k undef,?_,z⟩;have:k<vs.size:=by omega
   simp [aG,this])
  exact ⟨s,vs,us,n,h1,E,q.moved fun g z=>J g z,Y,fun k u=>⟨fun h=>((L k u).1 h).mono A C,(L k u).2⟩,fun j h=>⟨(K j h).1,(K j h).2.moved A C (G j h)⟩,F⟩
 |it ps =>
  obtain ⟨g,n,hi⟩:=h;exact ⟨g,n,hi.move C A (m g (by rw [n];exact Bc)) (fun es s c d h=>RepM.move h A C)⟩
 |itp ps =>
  obtain ⟨g,n,hi⟩:=h;exact ⟨g,n,hi.move C A (m g (by rw [n];exact Bc)) (fun es s c d ⟨h0,V,e,h1,h2,R⟩=>⟨h0,V,e,h1,h2,RepM.move R A C⟩)⟩
 |itc p ps =>
  obtain ⟨g,n,hi⟩:=h;exact ⟨g,n,hi.move C A (m g (by rw [n];exact Bc)) (fun es s c d ⟨h0,V,e,h1,h2,R,h4⟩=>⟨h0,V,e,h1,h2,⟨R.1.mono A C,R.2.mono A C⟩,RepM.move h4 A C⟩)⟩
 |dead=>exact h
 |gen ty sz xs =>
  obtain ⟨s,vs,n,h1,q,hc,I,Z⟩:=h;refine ⟨s,vs,n,h1,q.moved fun g z=>m g ?_,hc,fun k u j hj=>((I k u j hj).mono A C).gam H,Z⟩;rw [n];rcases q.2 with ⟨e,_⟩|⟨g',cap,N,O,_⟩
  ·rw [e] at z;cases z
  ·subst O;have e:g'=g:=by injection z
   subst e;exact Bc
 |lp fn ps a b nt busy caps =>
  obtain ⟨l,T,D,fn0,n,M,hT,I⟩:=h;exact ⟨l,T,D,fn0,n,(m l (by rw [n];exact Bc)).trans M,hT,fun t ht=>((I t ht).mono A C).gam H⟩
def Ent.opn:Ent->Prop |.box _ _=>True |.gen _ _ _=>True |.lp _ _ _ _ _ _ _=>True |_=>False
theorem B8.free {w:World}{γ:Gam}(h:B8 w S γ B d e)(j:∀ (_:TypeId) (_:List AV),e.opn->False):B8 w S γ' B d e:=by
 cases e with
 |box ty cs=>exact (j ty cs trivial).elim
 |gen ty sz xs=>exact (j ty xs trivial).elim
 |lp _ _ _ _ _ _ _=>exact (j 0 [] trivial).elim
 |_=>exact h
theorem B8.gmono {w:World}{γ:Gam}(h:B8 w S γ B d e)(j:∀ (_:TypeId) (_:List AV),e.opn->False)(l:∀ b,S b->S' b):B8 w S' γ' B d e :=
 (h.move (γ':=γ) (aE _) (fun b j _=>⟨rfl,l b j⟩) (fun id d h=>aU h) (fun _ _=>rfl)).free j
variable {av:AV}
theorem StG.step (h:StG cx γ σ a w){wr:List (Nat×Ent)}(u:∀ x,dst=some x->cx.E.np<=x/\x<cx.nt)(p:w.heap.size<=w'.heap.size)
  (F:∀ b,Sg cx.S0 cx.w0.heap.size γ b->b<w.heap.size->w'.heap[b]? = w.heap[b]? /\ Sg cx.S0 cx.w0.heap.size γ' b)
  (j:∀ id d,γ id=some d->γ' id=some d\/γ' id=some none\/Turn γ' id d)
  (l:∀ id,lkE wr id=none->γ' id=γ id/\∀ b d,γ id=some d->b∈blks d->w'.heap[b]? = w.heap[b]?)
  (q:∀ id e,lkE wr id=some e->∃ x,γ' id=some x/\B8 w' (Sg cx.S0 cx.w0.heap.size γ') γ' cx.w0.heap.size x e)
  (s:∀ id n b d I,γ' id=some d->γ' n=some I->b∈blks d->b∈blks I->id=n)
  (C:∀ b,own γ' b->Nw cx.S0 cx.w0.heap.size b/\b<w'.heap.size) (m:Below cx.w0.heap.size cx.w0 w')
  (L:Rep w' (Sg cx.S0 cx.w0.heap.size γ') γ' av v) (r:∀ b,¬own γ b->b<w.heap.size->w'.heap[b]? = w.heap[b]? /\ ¬own γ' b) (D:cx.E.dr=true->w.drawn<=w'.drawn):StG cx γ' (σ.upd dst av wr) (a.put dst v) w':=by
 refine ⟨fun t=>?_,fun id=>?_,s,C,m,by rw [zry];exact h.size,(h.defers.step p r (fun _=>j)).put u,fun b m=>aF (h.gh b m) p,fun b m=>?_,fun u=>Nat.le_trans (h.dr u) (D u)⟩;rotate_right
 ·obtain ⟨R,H,O⟩:=h.fr b m;obtain ⟨K,J⟩:=r b R H;exact ⟨J,aF H p,K.trans O⟩
 ·rw [AS.get_upd,zsn a dst v t (fun x z=>by rw [h.size];exact (u x z).2)];by_cases A:dst=some t
  ·rw [if_pos A,if_pos A];exact L
  ·rw [if_neg A,if_neg A];exact ((h.tm t).mono p F).gam j
 ·rw [AS.find_upd];cases E:lkE wr id with
  |some e=>exact q id e E
  |none =>
   rw [Option.none_or];obtain ⟨h1,N⟩:=l id E;rw [h1];have:=h.me id;cases G:σ.find id with
   |none=>rw [G] at this;exact this
   |some e =>
    rw [G] at this;obtain ⟨x,z,M⟩:=this;exact ⟨x,z,M.move p F j (fun b m=>N b x z m)⟩
theorem StG.laid (h:StG cx γ σ a w)(l:cx.E.ld=true):Laid (Sg cx.S0 cx.w0.heap.size γ') w:=(h.defers.laid l).mono h.below.size (fun b m j=>⟨h.below.block b j,aU ⟨m,j⟩⟩)
theorem StG.put (h:StG cx γ σ a w)(j:∀ x,dst=some x->cx.E.np<=x/\x<cx.nt)(m:Rep w (Sg cx.S0 cx.w0.heap.size γ) γ av v):StG cx γ (σ.upd dst av []) (a.put dst v) w :=
 h.step j (aE _) (fun b l _=>⟨rfl,l⟩) (fun id d j=>aU j) (fun id _=>⟨rfl,fun _ _ _ _=>rfl⟩) (fun id e n=>by simp [lkE] at n) h.inj h.ge h.below m (fun b l _=>⟨rfl,l⟩) (fun _=>aE _)
theorem StG.grow (h:StG cx γ σ a w)(m:∀ x,dst=some x->cx.E.np<=x/\x<cx.nt)(l:Below w.heap.size w w')(q:cx.E.dr=true->w.drawn<=w'.drawn)(r:Rep w' (Sg cx.S0 cx.w0.heap.size γ) γ av v):StG cx γ (σ.upd dst av []) (a.put dst v) w':=by
 refine h.step m l.size (fun b u j=>⟨l.block b j,u⟩) (fun id d m=>aU m) (fun id _=>⟨rfl,fun b d m hm=>l.block b (h.ge b ⟨id,d,m,hm⟩).2⟩) (fun id e s=>by simp [lkE] at s) h.inj
  (fun b n=>⟨(h.ge b n).1,aF (h.ge b n).2 l.size⟩) (h.below.trans (l.mono h.below.size)) r (fun b p j=>⟨l.block b j,p⟩) q
def Gam.set (γ:Gam)(id:Nat)(x:Option (Option Nat×Value)):Gam:=fun i=>if i=id then some x else γ i
theorem Gam.set_self (γ:Gam)(id:Nat)(x:Option (Option Nat×Value)):γ.set id x id=some x:=by simp [Gam.set]
theorem Gam.set_ne (γ:Gam)(id:Nat)(x:Option (Option Nat×Value)){i:Nat}(h:i≠id):γ.set id x i=γ i:=by simp [Gam.set,h]
theorem StG.name (h:StG cx γ σ a w){id g:Nat}{s:Value}(W:∀ x,dst=some x->cx.E.np<=x/\x<cx.nt)(U:σ.find id=none)(D:Below w.heap.size w w')(Y:w.heap.size<=g)(C:g<w'.heap.size)
  (V:B8 w' (Sg cx.S0 cx.w0.heap.size (γ.set id (some (some g,s)))) (γ.set id (some (some g,s))) cx.w0.heap.size (some (some g,s)) e)
  (R:Rep w' (Sg cx.S0 cx.w0.heap.size (γ.set id (some (some g,s)))) (γ.set id (some (some g,s))) av v) (K:cx.E.dr=true->w.drawn<=w'.drawn:=by exact fun _=>Nat.le_refl _) (z:Cm s=[]:=by rfl):StG cx (γ.set id (some (some g,s))) (σ.upd dst av [(id,e)]) (a.put dst v) w':=by
 have u:γ id=none:=by have:=h.me id;rw [U] at this;exact this
 have F:∀ i x,γ i=some x->i≠id:=fun i x E e=>by subst e;rw [u] at E;cases E
 have m:∀ b,own (γ.set id (some (some g,s))) b->b=g\/own γ b:=fun b ⟨i,d,hi,hm⟩=>by
  by_cases l:i=id
  ·subst l;rw [Gam.set_self] at hi;injection hi with hi;subst hi;exact aU (Jk z hm)
  ·rw [Gam.set_ne _ _ _ l] at hi;exact bS ⟨i,d,hi,hm⟩
 refine h.step W D.size (fun b M A=>⟨D.block b A,?_⟩) (fun i x E=>aU ?_) (fun i hi=>?_) (fun i Z hi=>?_) (fun i j b O N h1 p I H=>?_) (fun b L=>?_) (h.below.trans (D.mono h.below.size)) R (fun b J A=>⟨D.block b A,fun q=>?_⟩) K;rotate_right
 ·rcases m b q with rfl|q
  ·omega
  ·exact J q
 ·rcases M with M|⟨h1,p⟩
  ·exact aU M
  ·refine bS ⟨h1,fun q=>?_⟩;rcases m b q with rfl|q
   ·omega
   ·exact p q
 ·rw [Gam.set_ne _ _ _ (F i x E)];exact E
 ·have l:i≠id:=fun e=>by subst e;simp [lkE] at hi
  refine ⟨Gam.set_ne _ _ _ l,fun b d C hm=>D.block b (h.ge b ⟨i,d,C,hm⟩).2⟩
 ·have l:i=id:=by
   simp only [lkE] at hi;cases G:bQ id i with
   |true=>exact (aD G).symm
   |false=>rw [G] at hi;cases hi
  subst l;simp only [lkE,bT,aB] at hi;subst hi;exact ⟨_,Gam.set_self _ _ _,V⟩
 ·by_cases r:i=id
  ·by_cases n:j=id
   ·rw [r,n]
   ·subst r;rw [Gam.set_self] at h1;rw [Gam.set_ne _ _ _ n] at p;injection h1 with h1
    subst h1;have:=(h.ge b ⟨j,N,p,H⟩).2;have:=Jk z I;omega
  ·by_cases n:j=id
   ·subst n;rw [Gam.set_self] at p;rw [Gam.set_ne _ _ _ r] at h1;injection p with p
    subst p;have:=(h.ge b ⟨i,O,h1,I⟩).2;have:=Jk z H;omega
   ·rw [Gam.set_ne _ _ _ r] at h1;rw [Gam.set_ne _ _ _ n] at p;exact h.inj i j b O N h1 p I H
 ·rcases m b L with rfl|q
  ·have:=h.below.size;exact ⟨⟨by omega,fun X=>by have:=h.gh _ X;omega⟩,C⟩
  ·have:=h.ge b q;exact ⟨this.1,aF this.2 D.size⟩
end
variable {o:Oper}{w:World}
theorem Br {a:Act}{K:Act->World->Prop}{Q:Exit->Act->World->Prop}(j:∀ c,o.op≠.defer c)(h:o.wp cx.P a w K Q):o.wpIn cx.F 0 cx.P a w K Q:=by
 unfold Oper.wp at h;refine ⟨fun _ _=>trivial,?_⟩;rw [Oper.semAt_eq _ _ _ j];generalize (execOp a.eval o).run cx.P w=r at *;cases r with
 |ok x w' =>
  cases x with
  |enter f args =>
   simp only [Oper.upon,Oper.uponIn] at h ⊢;exact ⟨fun h=>by simp [Fence.wide] at h,((callsIn_wide (n:=0-1)).2 h:_)⟩
  |row r args =>
   simp only [Oper.upon,Oper.uponIn] at h ⊢;exact ⟨fun h=>by simp [Fence.wide] at h,fun c cs _=>let ⟨v,w',r,s⟩:=h c cs;⟨v,w',r,stepsIn_wide.2 s⟩⟩
  |_=>first|exact h|exact h.elim
 |halt x w'=>cases x<;>first|exact h|exact h.elim
variable {P:Program}
theorem z7m {ρ:Operand->Value}{w':World}{v:Value}(h:(execOp ρ o).run P w=.ok (.value v) w'):∀ c,o.op≠.defer c:=by
 intro c m;unfold execOp at h;rw [m] at h;simp only [Sem.run_bind] at h;cases j:(resolve ρ c o.type).run P w with
 |ok d l=>rw [j] at h;simp [Result.andThen] at h
 |halt x l=>rw [j] at h;simp [Result.andThen] at h
def A9 (cx:Cx)(o:Oper)(σ:AS)(av:AV)(ids:List Nat)(wr:List (Nat×Ent)):Prop:=(∀ id e,lkE wr id=some e->id∈ids) /\ ∀ τ:AS,(∀ x∈o.op.operands,τ.eval x=σ.eval x)->(∀ id∈ids,τ.find id=σ.find id)->∀ a w Q K,St cx τ a w->(∀ h w',St cx (τ.upd o.dst av wr) h w'->K h w')->o.wpIn cx.F 0 cx.P a w K Q
def dok (cx:Cx)(o:Oper):Bool:=match o.dst with|some d=>Nat.ble cx.E.np d && Nat.blt d cx.nt|none=>true
theorem Bj (h:dok cx o=true):∀ x,o.dst=some x->cx.E.np<=x/\x<cx.nt:=fun x j=>by
 unfold dok at h;rw [j] at h;simpa using h
variable {ops:Array Oper}{σ:AS}{av:AV}{wr:List (Nat×Ent)}
theorem A9.step {i:Nat}{ids:List Nat}(l:ops[i]? = some o)(q:o.guard=none)(h:A9 cx o σ av ids wr):Step cx ops i σ ⟨av,ids,wr⟩:=by
 refine ⟨h.1,fun τ h1 s a w Q K j m=>?_⟩;have r:Bb ops i=o.dst:=by simp [Bb,l]
 have p:looks ops i=o.looksAt ops:=by simp [looks,l]
 unfold Go.wpOpIn;simp only [l];rw [if_pos (by simp [Region.wanted,q])];refine h.2 τ (fun x n=>?_) s a w Q K j (by rw [r] at m;exact m);cases x with
 |tmp t =>
  refine h1 t ?_;rw [p];exact mem_append_left _ (aR.2 ⟨.tmp t,by simpa using n,rfl⟩)
 |_=>rfl
variable {g:Nat}{want:Bool}
theorem A9.step_guard {i t:Nat}{c:Bool}{ids:List Nat}(q:ops[i]? = some o)(z:o.guard=some (g,want))(r:Bb ops g=some t)(E:σ.get t=.bool c)(H:c=want)
  (h:A9 cx o σ av ids wr):Step cx ops i σ ⟨av,ids,wr⟩:=by
 refine ⟨h.1,fun τ h1 I a w Q K l A=>?_⟩;have G:Bb ops i=o.dst:=by simp [Bb,q]
 have s:looks ops i=o.looksAt ops:=by simp [looks,q]
 have m:t∈looks ops i:=by
  rw [s];refine bN _ ?_;simp only [z];have:(ops[g]?).bind (·.dst)=some t:=r;simp [this]
 have j:a.tmps.getD t undef=.bool c:=by
  obtain ⟨γ,F⟩:=l;have:=F.tm t;rw [h1 t m,E] at this;exact this.bool_inv
 unfold Go.wpOpIn;simp only [q];have D:Region.wanted o (yielded ops a.tmps)=true:=by
  have n:(ops[g]?).bind (·.dst)=some t:=r;simp only [Region.wanted,z,yielded];rw [n];rw [aA] at j;cases p:a.tmps[t]? with
  |none=>rw [p] at j;simp [undef] at j
  |some u=>rw [p] at j;simp at j;subst j;simp [p,H]
 rw [if_pos D];refine h.2 τ (fun x C=>?_) I a w Q K l (by rw [G] at A;exact A);cases x with
 |tmp t =>
  refine h1 t ?_;rw [s];exact mem_append_left _ (aR.2 ⟨.tmp t,by simpa using C,rfl⟩)
 |_=>rfl
theorem Wg {i t:Nat}(r:ops[i]? = some o)(q:dok cx o=true)(C:o.guard=some (g,want))(F:Bb ops g=some t)(E:(∃ c,σ.get t=.bool c/\c≠want)\/σ.get t=.tup []):Step cx ops i σ ⟨.tup [],[],[]⟩:=by
 refine ⟨fun id e H=>by simp [lkE] at H,fun τ h1 L a w Q K p J=>?_⟩;have I:Bb ops i=o.dst:=by simp [Bb,r]
 have G:looks ops i=o.looksAt ops:=by simp [looks,r]
 have m:(ops[g]?).bind (·.dst)=some t:=F;have n:t∈looks ops i:=by
  rw [G];refine bN _ ?_;simp only [C];simp [m]
 obtain ⟨γ,A⟩:=p;have h:=A.tm t;rw [h1 t n] at h;unfold Go.wpOpIn;simp only [r];have D:¬Region.wanted o (yielded ops a.tmps)=true:=by
  simp only [Region.wanted,C,yielded];rw [m];rcases E with ⟨c,z,s⟩|z
  ·rw [z] at h;have:=h.bool_inv;rw [aA] at this;cases l:a.tmps[t]? with
   |none=>simp [l]
   |some u=>rw [l] at this;simp at this;subst this;simp [l,s]
  ·rw [z] at h;obtain ⟨vs,j,_,_⟩:=h.tup_inv;rw [aA] at j;cases l:a.tmps[t]? with
   |none=>simp [l]
   |some u=>rw [l] at j;simp at j;subst j;simp [l]
 rw [if_neg D];refine ⟨fun _ _=>trivial,J _ _ ⟨γ,?_⟩⟩;rw [I];exact A.put (Bj q) (.tup #[] rfl (fun i hi=>by simp at hi))
def Exec (cx:Cx)(ops:Array Oper)(i:Nat)(σ:AS)(trs:List Tr)(Post:List Tr->AS->Prop):Prop:=∃ h j,Run cx ops i σ h j/\Post (trs.reverse++h) j
section
variable {cx:Cx} {ops:Array Oper} {i:Nat} {σ:AS} {trs:List Tr} {Post:List Tr->AS->Prop}
theorem Exec.done (h:ops.size<=i)(j:Post trs.reverse σ):Exec cx ops i σ trs Post:=⟨[],σ,.done h (Ext.refl _),by simpa using j⟩
theorem Exec.cons {tr:Tr}(h:i<ops.size)(m:Step cx ops i σ tr)(k:Exec cx ops (i+1) (σ.upd (Bb ops i) tr.val tr.wr) (tr::trs) Post):Exec cx ops i σ trs Post:=by
 obtain ⟨j,l,n,p⟩:=k;exact ⟨tr::j,l,.step h m (Ext.refl _) n,by simpa using p⟩
theorem Exec.ext {j:AS}(h:Ext j σ)(k:Exec cx ops i j trs Post):Exec cx ops i σ trs Post:=by
 obtain ⟨r,τ,n,s⟩:=k;have u:Ext σ j:=⟨fun t=>(h.1 t).symm,fun i=>(h.2 i).symm⟩;cases n with
 |done q l=>exact ⟨[],τ,.done q (l.trans h),s⟩
 |step p m l n=>exact ⟨_,τ,.step p (m.ext u) (l.trans (h.upd _ _ _)) n,s⟩
theorem Exec.op {ids:List Nat}(j:ops[i]? = some o)(l:o.guard=none)(h:A9 cx o σ av ids wr)(k:Exec cx ops (i+1) (σ.upd o.dst av wr) (⟨av,ids,wr⟩::trs) Post):Exec cx ops i σ trs Post :=
 Exec.cons (aC.1 j).1 (A9.step j l h) (by
  have m:Bb ops i=o.dst:=by simp [Bb,j]
  rw [m];exact k)
theorem Exec.guard {t:Nat}{c:Bool}(h:ops[i]? = some o)(p:o.guard=some (g,want))(n:Bb ops g=some t)(m:σ.get t=.bool c)(l:dok cx o=true)
  (h1:c=want->∃ av ids wr,A9 cx o σ av ids wr/\Exec cx ops (i+1) (σ.upd o.dst av wr) (⟨av,ids,wr⟩::trs) Post)
  (s:c≠want->Exec cx ops (i+1) (σ.upd o.dst (.tup []) []) (⟨.tup [],[],[]⟩::trs) Post):Exec cx ops i σ trs Post:=by
 have q:Bb ops i=o.dst:=by simp [Bb,h]
 by_cases j:c=want
 ·obtain ⟨av,ids,wr,r,k⟩:=h1 j;exact Exec.cons (aC.1 h).1 (A9.step_guard h p n m j r) (by rw [q];exact k)
 ·exact Exec.cons (aC.1 h).1 (Wg h l p n (aU ⟨c,m,j⟩)) (by rw [q];exact s j)
end
section
variable {cx:Cx} {Q:Exit->AS->Prop} {σ:AS} {id:Nat} {ops:Array Oper}
theorem WP.region (h:Exec cx ops 0 σ [] (fun _ j=>Q .normal j)):WP cx (.region id ops false) Q σ:=fun a w l=>by
 obtain ⟨trs,j,m,n⟩:=h;refine wpIn_region ?_;have:=m.wpOps (Q:=lift cx Q) (fun a w l=>⟨j,n,l⟩) (aX _) a w l;rw [range_eq_range'];simpa using this
theorem WP.region_draw (D:Hm ops=true)(h:Exec cx ops 0 σ [] (fun trs l=>Hr ops trs=true/\Q .normal l)):WP cx (.region id ops true) Q σ:=fun a w n=>by
 obtain ⟨trs,l,G,u,A⟩:=h;simp only [reverse_nil,bI] at u A;refine wpIn_region_any cx.E.mixed ?_;obtain ⟨h1,E⟩:=G.steps (σ0:=σ) (tr:=fun k=>trs.getD k default) (aX _) (fun j _=>by simp) (Ext.refl _);refine zro (fun j m=>h1 j (aX _) m) (fun i j q m s=>?_) (fun j o C e r H=>?_) (fun a w n=>⟨l,A,n.congr E.1 E.2⟩) ops.size _ (by simp) (by simp) (fun j o _ m=>by
  simp only [aA,aK] at m;split at m<;>simp at m) a _ ?_
 ·simp only [Hr,all_eq_true,mem_range,bO,bK] at u;rcases u j m i q with h|h
  ·rw [s] at h;cases h
  ·exact h
 ·simp only [Hm,all_eq_true,mem_range] at D;have:=D j (aC.1 C).1;rw [C] at this;simp only [Array.all_eq_true_iff_forall_mem,bO,bK] at this;rcases this e r with h|h
  ·rw [H] at h;cases h
  ·simpa using h
 ·have p:St cx σ a { w with drawn:=w.drawn+1 }:=by
   obtain ⟨γ,n⟩:=n;have z:Below w.heap.size w { w with drawn:=w.drawn+1 }:=⟨rfl,rfl,rfl,aE _,fun _ _=>rfl⟩;have:=n.grow (dst:=none) (av:=.any) (v:=undef) (fun x F=>by cases F) z (fun _=>Nat.le_succ _) (.any _);exact ⟨γ,this⟩
  refine p.congr (fun t=>?_) (fun i=>?_)
  ·have:∀ k,(C0 (Bb ops) (fun k=>trs.getD k default) (fun i=>(bP ops.size false).getD i false) σ k).get t=σ.get t:=fun k =>
    Zi _ _ 0 k t (aX _) (fun j _ _ _=>by simp only [aA,aK];split<;>simp)
   exact this _
  ·have:∀ k,(C0 (Bb ops) (fun k=>trs.getD k default) (fun i=>(bP ops.size false).getD i false) σ k).find i=σ.find i:=fun k =>
    Zb _ _ 0 k i (aX _) (fun j _ _ _=>by simp only [aA,aK];split<;>simp)
   exact this _
theorem WP.cond {c:Operand}{x y:Code}{b:Bool}(j:A0 c=true)(r:σ.eval c=.bool b)(n:b=true->WP cx x Q σ)(q:b=false->WP cx y Q σ):WP cx (.cond c x y) Q σ:=fun a w p=>by
 obtain ⟨γ,h⟩:=p;have m:=h.ev c j;rw [r] at m;exact wpIn_cond_split m.bool_inv (fun l=>n l a w ⟨γ,h⟩) (fun l=>q l a w ⟨γ,h⟩)
end
section
variable {cx:Cx} {o:Oper} {σ:AS}
theorem Ay {ids:List Nat}(p:dok cx o=true)
  (h:∀ τ γ a w,(∀ x∈o.op.operands,τ.eval x=σ.eval x)->(∀ id∈ids,τ.find id=σ.find id)->StG cx γ τ a w->∃ v,(execOp a.eval o).run cx.P w=.ok (.value v) w/\Rep w (Sg cx.S0 cx.w0.heap.size γ) γ av v):A9 cx o σ av ids []:=by
 refine ⟨fun id e n=>by simp [lkE] at n,fun τ h1 r a w Q K ⟨γ,j⟩ q=>?_⟩;obtain ⟨v,l,m⟩:=h τ γ a w h1 r j;refine Br (z7m l) ?_;unfold Oper.wp;rw [l];exact q _ _ ⟨γ,j.put (Bj p) m⟩
theorem zos {ids:List Nat}(q:dok cx o=true)
  (h:∀ τ γ a w,(∀ x∈o.op.operands,τ.eval x=σ.eval x)->(∀ id∈ids,τ.find id=σ.find id)->StG cx γ τ a w->∃ v w',(execOp a.eval o).run cx.P w=.ok (.value v) w'/\Below w.heap.size w w'/\(cx.E.dr=true->w.drawn<=w'.drawn)/\Rep w' (Sg cx.S0 cx.w0.heap.size γ) γ av v):A9 cx o σ av ids []:=by
 refine ⟨fun id e p=>by simp [lkE] at p,fun τ h1 u a w Q K ⟨γ,j⟩ s=>?_⟩;obtain ⟨v,w',m,r,l,n⟩:=h τ γ a w h1 u j;refine Br (z7m m) ?_;unfold Oper.wp;rw [m];exact s _ _ ⟨γ,j.grow (Bj q) r l n⟩
variable {x:Operand}
theorem zto (l:o.op=.move x)(n:dok cx o=true)(h:A0 x=true)(m:σ.eval x=av):A9 cx o σ av [] [] :=
 Ay n fun τ γ a w h1 _ j=>⟨a.eval x,by simp [execOp,l],by
  have:=j.ev x h
  rwa [h1 x (by simp [l,Op.operands]),m] at this⟩
theorem zln (l:o.op=.assign x)(n:dok cx o=true)(h:A0 x=true)(m:σ.eval x=av):A9 cx o σ av [] [] :=
 Ay n fun τ γ a w h1 _ j=>⟨a.eval x,by simp [execOp,l],by
  have:=j.ev x h
  rwa [h1 x (by simp [l,Op.operands]),m] at this⟩
def AV.toV:AV->Value |.int k n=>.int k n |.bool b=>.bool b |_=>undef
def binI:BinOp->IntKind->Int->Int->Option AV |.add,k,a,b=>some (.int k (k.wrap (a+b))) |.sub,k,a,b=>some (.int k (k.wrap (a-b))) |.mul,k,a,b=>some (.int k (k.wrap (a*b))) |.eql,_,a,b=>some (.bool (decide (a=b))) |.neq,_,a,b=>some (.bool (!decide (a=b))) |.lss,_,a,b=>some (.bool (decide (a<b))) |.leq,_,a,b=>some (.bool (decide (a<=b))) |.gtr,_,a,b=>some (.bool (decide (b<a))) |.geq,_,a,b=>some (.bool (decide (b<=a))) |_,_,_,_=>none
variable {y:Operand}{t t2:TypeId}{k:IntKind}{a:Int}
theorem ztr {op:BinOp}{b:Int}(j:o.op=.binOp op t x y t2)(A:dok cx o=true)(n:A0 x=true)(m:A0 y=true)(z:σ.eval x=.int k a)(u:σ.eval y=.int k b)(l:binI op k a b=some av) :
  A9 cx o σ av [] [] :=
 Ay A fun τ γ ac w h1 _ h=>by
  have s:=h.ev x n;rw [h1 x (by simp [j,Op.operands]),z] at s;have r:=h.ev y m;rw [h1 y (by simp [j,Op.operands]),u] at r;have q:=s.int_inv;have p:=r.int_inv;refine ⟨av.toV,?_,?_⟩
  ·cases op<;>simp only [binI,aB,reduceCtorEq] at l<;>subst l <;>
    first
     |(simp [execOp,j,q,p,eqGuard,binOp,Op.intArith,Op.intCmp,pure,AV.toV];done)
     |(simp [execOp,j,q,p,eqGuard,binOp,Op.intArith,Op.intCmp,pure,AV.toV];rfl)
     |(simp [execOp,j,q,p,eqGuard,binOp,Op.intArith,Op.intCmp,pure,AV.toV];rw [Bool.eq_iff_iff];simp)
  ·cases op<;>simp only [binI,aB,reduceCtorEq] at l<;>subst l<;>first|exact .int _ _|exact .bool _
theorem zx9 {b c:Int}(m:o.op=.binOp .rem t x y t2)(s:dok cx o=true)(l:A0 x=true)(j:A0 y=true)(r:σ.eval x=.int k a)(q:σ.eval y=.int k b)(z:b≠0)(u:a.tmod b=c):A9 cx o σ (.int k c) [] [] :=
 Ay s fun τ γ ac w h1 _ h=>by
  have p:=h.ev x l;rw [h1 x (by simp [m,Op.operands]),r] at p;have n:=h.ev y j;rw [h1 y (by simp [m,Op.operands]),q] at n;exact ⟨.int k c,by simp [execOp,m,p.int_inv,n.int_inv,eqGuard,binOp,Op.intDiv,pure,z,u],.int _ _⟩
theorem zxa {b c:Int}(m:o.op=.binOp .quo t x y t2)(s:dok cx o=true)(l:A0 x=true)(j:A0 y=true)(r:σ.eval x=.int k a)(q:σ.eval y=.int k b)(z:b≠0)(u:k.wrap (a.tdiv b)=c):A9 cx o σ (.int k c) [] [] :=
 Ay s fun τ γ ac w h1 _ h=>by
  have p:=h.ev x l;rw [h1 x (by simp [m,Op.operands]),r] at p;have n:=h.ev y j;rw [h1 y (by simp [m,Op.operands]),q] at n;exact ⟨.int k c,by simp [execOp,m,p.int_inv,n.int_inv,eqGuard,binOp,Op.intDiv,pure,z,u],.int _ _⟩
variable {b:Bool}
theorem zxb (l:o.op=.unOp .not t x)(p:dok cx o=true)(h:A0 x=true)(n:σ.eval x=.bool b):A9 cx o σ (.bool (!b)) [] [] :=
 Ay p fun τ γ ac w h1 _ j=>by
  have m:=j.ev x h;rw [h1 x (by simp [l,Op.operands]),n] at m;exact ⟨.bool (!b),by simp [execOp,l,m.bool_inv,Op.unary,pure],.bool _⟩
theorem zxc {c:Int}(l:o.op=.unOp .neg t x)(p:dok cx o=true)(h:A0 x=true)(n:σ.eval x=.int k a)(q:k.wrap (0-a)=c):A9 cx o σ (.int k c) [] [] :=
 Ay p fun τ γ ac w h1 _ j=>by
  have m:=j.ev x h;rw [h1 x (by simp [l,Op.operands]),n] at m;exact ⟨.int k c,by simp [execOp,l,m.int_inv,Op.unary,Op.intArith,pure,<-q],.int _ _⟩
theorem Z8 {c:Operand}(l:o.op=.pick c x y)(r:dok cx o=true)(m:A0 c=true)(j:A0 x=true)(s:σ.eval c=.bool b)(u:b=true)(q:σ.eval x=av):A9 cx o σ av [] [] :=
 Ay r fun τ γ ac w h1 _ h=>by
  have p:=h.ev c m;rw [h1 c (by simp [l,Op.operands]),s] at p;have n:=h.ev x j;rw [h1 x (by simp [l,Op.operands]),q] at n;exact ⟨ac.eval x,by simp [execOp,l,p.bool_inv,asBool,u,pure],n⟩
theorem Z2 {c:Operand}(l:o.op=.pick c x y)(r:dok cx o=true)(m:A0 c=true)(j:A0 y=true)(s:σ.eval c=.bool b)(u:b=false)(q:σ.eval y=av):A9 cx o σ av [] [] :=
 Ay r fun τ γ ac w h1 _ h=>by
  have p:=h.ev c m;rw [h1 c (by simp [l,Op.operands]),s] at p;have n:=h.ev y j;rw [h1 y (by simp [l,Op.operands]),q] at n;exact ⟨ac.eval y,by simp [execOp,l,p.bool_inv,asBool,u,pure],n⟩
theorem zxg {a:Bool}(m:o.op=.binOp .eql t x y t2)(A:dok cx o=true)(l:A0 x=true)(j:A0 y=true)(s:σ.eval x=.bool a)(r:σ.eval y=.bool b)(u:cx.P.underlying t=some .bool):A9 cx o σ (.bool (a == b)) [] [] :=
 Ay A fun τ γ ac w h1 _ h=>by
  have q:=h.ev x l;rw [h1 x (by simp [m,Op.operands]),s] at q;have p:=h.ev y j;rw [h1 y (by simp [m,Op.operands]),r] at p;have z:∀ n:Nat,(Op.equalIn (n+1) t (.bool a) (.bool b)).run cx.P w=.ok (a == b) w:=fun n=>by simp [Op.equalIn,run_underlying u,pure]
  exact ⟨.bool (a == b),by simp [execOp,m,q.bool_inv,p.bool_inv,eqGuard,binOp,Op.equal,Op.maxDepth,z 9999,pure],.bool _⟩
theorem zxd {a:Bool}(m:o.op=.binOp .neq t x y t2)(A:dok cx o=true)(l:A0 x=true)(j:A0 y=true)(s:σ.eval x=.bool a)(r:σ.eval y=.bool b)(u:cx.P.underlying t=some .bool):A9 cx o σ (.bool (!(a == b))) [] [] :=
 Ay A fun τ γ ac w h1 _ h=>by
  have q:=h.ev x l;rw [h1 x (by simp [m,Op.operands]),s] at q;have p:=h.ev y j;rw [h1 y (by simp [m,Op.operands]),r] at p;have z:∀ n:Nat,(Op.equalIn (n+1) t (.bool a) (.bool b)).run cx.P w=.ok (a == b) w:=fun n=>by simp [Op.equalIn,run_underlying u,pure]
  exact ⟨.bool (!(a == b)),by simp [execOp,m,q.bool_inv,p.bool_inv,eqGuard,binOp,Op.equal,Op.maxDepth,z 9999,pure],.bool _⟩
variable {T:TypeId}{i:TyI}
theorem TyOk.size (h:TyOk P T i)(w:World):(sizeOf T).run P w=.ok i.sz w:=by
 have:=h.info;cases j:P.info? T with
 |none=>rw [j] at this;simp at this
 |some x=>rw [j] at this;simp at this;simp [sizeOf,typeInfo,j,this.1]
theorem TyOk.cells (h:TyOk P T i):P.cellsOf T=i.sz:=by
 have:=h.info;cases j:P.info? T with
 |none=>rw [j] at this;simp at this
 |some x=>rw [j] at this;simp at this;simp [Program.cellsOf,j,this.1]
theorem TyOk.zeroV (h:TyOk P T i)(w:World):(zeroValue T).run P w=.ok i.zero w:=by
 have:=h.zero;cases j:P.info? T with
 |none=>rw [j] at this;simp at this
 |some x=>rw [j] at this;simp at this;simp [zeroValue,typeInfo,j,this]
theorem TyOk.und (h:TyOk P T i):∃ d,P.underlying T=some d/\E1 P d=i.shape:=by
 have:=h.shape;cases j:P.underlying T with
 |none=>rw [j] at this;simp at this
 |some d=>rw [j] at this;simp at this;exact ⟨d,rfl,this⟩
def Eg.agg:Eg->Bool |.strct _=>true |.arr _ _ _ _=>true |_=>false
theorem TyOk.agg (h:TyOk P T i)(w:World):(isAgg T).run P w=.ok i.shape.agg w:=by
 obtain ⟨d,l,j⟩:=h.und;rw [<-j];cases d<;>simp [isAgg,run_underlying l,E1,Eg.agg,pure]
theorem Ws (h:aggT P T=some b)(w:World):(isAgg T).run P w=.ok b w:=by
 unfold aggT at h;split at h
 ·rename_i fs j;injection h with h;subst h;simp [isAgg,run_underlying j,pure]
 ·rename_i n e j;injection h with h;subst h;simp [isAgg,run_underlying j,pure]
 ·rename_i d h1 l j;injection h with h
  subst h;cases d<;>first|exact (h1 _ rfl).elim|exact (l _ _ rfl).elim|simp [isAgg,run_underlying j,pure]
 ·cases h
end
theorem Qc (P:Program)(w:World)(e:TypeId)(cs:Array Value):(newRow e cs).run P w=.ok ⟨w.heap.size,0,none⟩ (w.alloc (.cells cs e)):=by
 rfl
section
variable {cx:Cx} {o:Oper} {σ:AS}
def AV.ids:AV->List Nat |.ptr id _=>[id] |.row id=>[id] |.elt id _ _ _=>[id] |.der _ id=>[id] |_=>[]
def okc (σ:AS):AV->Bool
 |.any=>false
 |.tup _=>false
 |.ptr id _=>match σ.find id with|some (.box _ _)=>true|_=>false
 |.row id=>match σ.find id with|some (.row _ _ _)=>true|some (.mp _)=>true|some (.gen _ _ _)=>true|some (.lp _ _ _ _ _ _ _)=>true|_=>false
 |.elt _ _ _ _=>false
 |.der (.gs _ _ _) id=>match σ.find id with|some (.gen _ _ _)=>true|_=>false
 |.der _ _=>false
 |_=>true
theorem Qf {cx:Cx}{γ:Gam}{τ σ:AS}{a:Act}(h:StG cx γ τ a w){v:Value}(E:Rep w (Sg cx.S0 cx.w0.heap.size γ) γ av v)(u:okc σ av=true)(A:∀ id∈av.ids,τ.find id=σ.find id) :
  v.cells.size=av.cells.length/\(∀ i (hi:i<av.cells.length),Rep w (Sg cx.S0 cx.w0.heap.size γ) γ av.cells[i] (v.cells.getD i undef))/\∀ i,i<v.cells.size->(v.cells.getD i undef).oneCell'=true:=by
 have single:av.cells=[av]->v.oneCell'=true->v.cells.size=av.cells.length/\(∀ i (hi:i<av.cells.length),Rep w (Sg cx.S0 cx.w0.heap.size γ) γ av.cells[i] (v.cells.getD i undef))/\∀ i,i<v.cells.size->(v.cells.getD i undef).oneCell'=true:=by
  intro J h1;have C:v.cells=#[v]:=by cases v<;>first|rfl|simp [Value.oneCell'] at h1
  refine ⟨by rw [C,J];rfl,fun i hi=>?_,fun i hi=>?_⟩
  ·have G:i=0:=by rw [J] at hi;simpa using hi
   subst G;simp only [J,C];exact E
  ·have G:i=0:=by rw [C] at hi;simpa using hi
   subst G;simp only [C];exact h1
 cases av with
 |any=>simp [okc] at u
 |tup cs=>simp [okc] at u
 |elt id sz k j=>simp [okc] at u
 |der K id =>
  cases K with
  |gs sz lo n =>
   have F:=A id (by simp [AV.ids]);have m:=h.me id;simp only [okc] at u;split at u
   ·rename_i ty L xs q;rw [F,q] at m;obtain ⟨x,z,s,vs,p,r,H,_⟩:=m;subst p;have:=E.der_inv z;refine single rfl ?_;rw [this];rcases H.2 with ⟨e,_⟩|⟨U,cap,O,I,_⟩
    ·rw [e];rfl
    ·subst I;rfl
   ·cases u
  |_=>simp [okc] at u
 |agg cs =>
  obtain ⟨vs,rfl,N,M,h1⟩:=E.agg_inv;exact ⟨N,M,h1⟩
 |ptr id off =>
  have F:=A id (by simp [AV.ids]);have m:=h.me id;simp only [okc] at u;split at u
  ·rename_i ty cs q;rw [F,q] at m;obtain ⟨x,z,g,vs,p,_⟩:=m;subst p;have:=E.ptr_inv z;exact single rfl (by rw [this];rfl)
  ·cases u
 |row id =>
  have F:=A id (by simp [AV.ids]);have m:=h.me id;simp only [okc] at u;split at u
  ·rename_i ty sz xs q;rw [F,q] at m;obtain ⟨x,z,s,vs,p,r,_⟩:=m;subst p;have:=E.row_inv z;exact single rfl (by rw [this];exact r)
  ·rename_i ps q;rw [F,q] at m;obtain ⟨x,z,g,p,_⟩:=m;subst p;have:=E.row_inv z;exact single rfl (by rw [this];rfl)
  ·rename_i ty sz xs q;rw [F,q] at m;obtain ⟨x,z,s,vs,p,r,_⟩:=m;subst p;have:=E.row_inv z;exact single rfl (by rw [this];exact r)
  ·rename_i fn ps a b R busy caps q;rw [F,q] at m;obtain ⟨x,z,l,T,D,fn0,p,_⟩:=m;subst p;have:=E.row_inv z;exact single rfl (by rw [this];rfl)
  ·cases u
 |_=>exact single rfl (E.one rfl)
variable {T:Nat}{i:TyI}
theorem zux {d:Nat}(u:o.op=.alloc T)(z:o.dst=some d)(E:dok cx o=true)(F:lkT cx.E.tab T=some i)(D:σ.find d=none)(r:i.zero.cells.all (·.oneCell')=true) :
  A9 cx o σ (.ptr d 0) [d] [(d,.box T (i.zero.cells.toList.map AV.ofV))]:=by
 refine ⟨fun id e q=>?_,fun τ h1 H a w Q K ⟨γ,m⟩ G=>Br (fun c A=>by rw [u] at A;cases A) ?_⟩
 ·simp only [lkE] at q;cases C:bQ d id with
  |true=>simp [aD C]
  |false=>rw [C] at q;cases q
 have n:=cx.E.ok T i F;have h:(execOp a.eval o).run cx.P w=.ok (.value (.pointer (some ⟨w.heap.size,0,none⟩))) (w.alloc (.cells i.zero.cells T)):=by
  simp [execOp,u,Instr.alloc,n.zeroV,newVar,Qc,pure]
 unfold Oper.wp;rw [h];refine G _ _ ⟨_,m.name (id:=d) (g:=w.heap.size) (s:=.slice none 0 0) (e:=.box T (i.zero.cells.toList.map AV.ofV)) (Bj E) (by rw [H d (by simp)];exact D) ((Below.refl _ _).alloc (aE _) _) (aE _) (by simp) ?_ ?_⟩
 ·refine ⟨w.heap.size,i.zero.cells,rfl,Blk.new w _ _,by simp,fun j l=>?_,fun j l=>?_⟩
  ·have p:j<i.zero.cells.size:=by simpa using l
   have:i.zero.cells.getD j undef=i.zero.cells[j]:=by simp [aG,p]
   simp only [aS,bD,this];exact Gk _ _ _ _
  ·have:i.zero.cells.getD j undef=i.zero.cells[j]:=by simp [aG,l]
   rw [this];simp only [bJ] at r;exact r j l
 ·exact .ptr (Gam.set_self _ _ _) (fun g s e=>by injection e with e;injection e with e _;injection e with e;rw [e])
variable {x:Operand}
theorem zyv {d:Nat}(D:o.op=.box T x)(I:o.dst=some d)(M:dok cx o=true)(C:A0 x=true)(p:σ.eval x=av)(A:okc σ av=true)(H:σ.find d=none) :
  A9 cx o σ (.ptr d 0) (d::av.ids) [(d,.box T av.cells)]:=by
 refine ⟨fun id e F=>?_,fun τ h1 z a w Q K ⟨γ,h⟩ N=>Br (fun c A=>by rw [D] at A;cases A) ?_⟩
 ·simp only [lkE] at F;cases u:bQ d id with
  |true=>simp [aD u]
  |false=>rw [u] at F;cases F
 have r:=h.ev x C;rw [h1 x (by simp [D,Op.operands]),p] at r;obtain ⟨U,R,O⟩:=Qf h r A (fun id l=>z id (by simp [l]));have q:(execOp a.eval o).run cx.P w=.ok (.value (.pointer (some ⟨w.heap.size,0,none⟩))) (w.alloc (.cells (a.eval x).cells T)):=by
  simp [execOp,D,Instr.box,newVar,Qc,pure]
 unfold Oper.wp;rw [q];have n:γ d=none:=by have:=h.me d;rw [z d (by simp),H] at this;exact this
 have m:Below w.heap.size w (w.alloc (.cells (a.eval x).cells T)):=(Below.refl _ _).alloc (aE _) _;refine N _ _ ⟨_,h.name (id:=d) (g:=w.heap.size) (s:=.slice none 0 0) (e:=.box T av.cells) (Bj M) (by rw [z d (by simp)];exact H) m (aE _) (by simp) ?_ ?_⟩
 ·refine ⟨w.heap.size,(a.eval x).cells,rfl,Blk.new w _ _,U,fun j L=>?_,O⟩;refine ((R j L).mono m.size (fun b G E=>⟨m.block b E,?_⟩)).gam (fun id x p=>aU ?_)
  ·rcases G with G|⟨h1,z⟩
   ·exact aU G
   ·refine bS ⟨h1,fun ⟨i,J,hi,u⟩=>?_⟩;by_cases l:i=d
    ·subst l;rw [Gam.set_self] at hi;injection hi with hi;subst hi;have:=Jk rfl u;omega
    ·rw [Gam.set_ne _ _ _ l] at hi;exact z ⟨i,J,hi,u⟩
  ·rw [Gam.set_ne]
   ·exact p
   ·rintro rfl;rw [n] at p;cases p
 ·exact .ptr (Gam.set_self _ _ _) (fun g s e=>by injection e with e;injection e with e _;injection e with e;rw [e])
variable {fs:List (Nat×Nat×Option Bool)}
theorem X0 {T:TypeId}(h:TyOk P T i)(l:i.shape=.strct fs):∃ Fs,P.underlying T=some (.struct Fs)/\fs=Fs.toList.map fun f=>(f.offset,P.cellsOf f.type,aggT P f.type):=by
 obtain ⟨d,m,j⟩:=h.und;rw [l] at j;cases d<;>simp only [E1,Eg.strct.injEq,reduceCtorEq] at j;exact ⟨_,m,j.symm⟩
variable {f fo fsz:Nat}{ag:Option Bool}
theorem Wn {T:TypeId}(h:TyOk P T i)(z:i.shape=.strct fs)(u:fs[f]? = some (fo,fsz,ag))(r:fsz≠0)(b off:Nat)(w:World) :
  (Instr.fieldAt T (.pointer (some ⟨b,off,none⟩)) f).run P w=.ok (.pointer (some ⟨b,off+fo,none⟩)) w:=by
 obtain ⟨Fs,A,rfl⟩:=X0 h z;simp only [bM,aL,Prod.mk.injEq] at u;obtain ⟨fd,q,h1,l,_⟩:=u;have m:Fs[f]? = some fd:=by simpa using q
 have n:∃ info,P.info? fd.type=some info/\info.size=fsz:=by
  unfold Program.cellsOf at l;cases s:P.info? fd.type with
  |none=>rw [s] at l;simp at l;exact absurd l.symm r
  |some info=>rw [s] at l;simp at l;exact ⟨info,rfl,l⟩
 obtain ⟨info,hi,p⟩:=n;have j:(sizeOf fd.type).run P w=.ok fsz w:=by simp [sizeOf,typeInfo,hi,p]
 simp [Instr.fieldAt,run_underlying A,m,Instr.sureAddr,fieldPlace,j,r,pure,Addr.add_lit,h1]
variable {id off:Nat}{ty:TypeId}{cs:List AV}
theorem z9e (q:o.op=.fieldAddr T x f)(D:dok cx o=true)(n:A0 x=true)(u:σ.eval x=.ptr id off)(E:lkT cx.E.tab T=some i)(z:i.shape=.strct fs)(C:fs[f]? = some (fo,fsz,ag))
  (r:fsz≠0) (A:σ.find id=some (.box ty cs)):A9 cx o σ (.ptr id (off+fo)) [id] [] :=
 Ay D fun τ γ a w h1 F h=>by
  have l:=h.ev x n;rw [h1 x (by simp [q,Op.operands]),u] at l;have j:=h.me id;rw [F id (by simp),A] at j;obtain ⟨d,m,g,vs,p,_⟩:=j;subst p;have e:=l.ptr_inv m;refine ⟨.pointer (some ⟨g,off+fo,none⟩),?_,.ptr m (fun G s e=>by injection e with e;injection e with e _;injection e with e;rw [e])⟩;simp [execOp,q,e,Wn (cx.E.ok T i E) z C r,pure]
theorem z9d {sz k j:Nat}{xs:List AV}(z:o.op=.fieldAddr T x f)(G:dok cx o=true)(q:A0 x=true)(C:σ.eval x=.elt id sz k j)(H:lkT cx.E.tab T=some i)(D:i.shape=.strct fs)(F:fs[f]? = some (fo,fsz,ag))
  (A:fsz≠0) (E:σ.find id=some (.row ty sz xs)) (K:k<xs.length):A9 cx o σ (.elt id sz k (j+fo)) [id] [] :=
 Ay G fun τ γ a w h1 I l=>by
  have p:=l.ev x q;rw [h1 x (by simp [z,Op.operands]),C] at p;have n:=l.me id;rw [I id (by simp),E] at n;obtain ⟨d,h,s,vs,u,_,m,_⟩:=n;subst u;have r:∃ g,s.ownBlock=some g:=by
   rcases m.2 with ⟨rfl,L⟩|⟨g,cap,J,rfl,_⟩
   ·omega
   ·exact ⟨g,rfl⟩
  obtain ⟨g,r⟩:=r;rw [r] at h;have e:=p.elt_inv h;refine ⟨.pointer (some ⟨g,k*sz+(j+fo),none⟩),?_,.elt h (fun M s e=>by injection e with e;injection e with e _;injection e with e;rw [e])⟩;simp [execOp,z,e,Wn (cx.E.ok T i H) D F A,pure,aZ]
theorem Z1 {S:Nat->Prop}{γ:Gam}{b k:Nat}{cell:Nat->Value}(p:S b)(n:b<w.heap.size)(m:∀ j,j<cs.length->w.cell? ⟨b,off+j,none⟩=some (cell j))(l:∀ j (h:j<cs.length),Rep w S G0 cs[j] (cell j))
  (h1:∀ j,j<cs.length->(cell j).oneCell'=true):Rep w S γ (.ref (cs.drop k)) (.pointer (some ⟨b,off+k,none⟩)):=by
 refine .ref b (off+k) (fun j=>cell (k+j)) p n (fun j h=>?_) (fun j h=>?_) (fun j h=>?_)
 ·rw [aT] at h;have:=m (k+j) (by omega)
  rwa [<-aZ] at this
 ·rw [aT] at h;rw [aM];exact l (k+j) (by omega)
 ·rw [aT] at h;exact h1 (k+j) (by omega)
theorem z5p (n:o.op=.fieldAddr T x f)(z:dok cx o=true)(j:A0 x=true)(q:σ.eval x=.ref cs)(D:lkT cx.E.tab T=some i)(r:i.shape=.strct fs)(u:fs[f]? = some (fo,fsz,ag))
  (p:fsz≠0):A9 cx o σ (.ref (cs.drop fo)) [] [] :=
 Ay z fun τ γ a w h1 F l=>by
  have h:=l.ev x j;rw [h1 x (by simp [n,Op.operands]),q] at h;obtain ⟨b,off,e,E,C,cell,A,s,m⟩:=h.ref_inv;refine ⟨.pointer (some ⟨b,off+fo,none⟩),?_,Z1 E C A s m⟩;simp [execOp,n,e,Wn (cx.E.ok T i D) r u p,pure]
theorem Q1 {T:TypeId}(h:TyOk P T i)(n:i.shape.agg=true)(w:World)(ad:Addr)(cs:List Value)(l:cs.length=i.sz)(m:∀ j v,cs[j]? = some v->w.cell? (ad.add j)=some v):(loadVar T ad).run P w=.ok (.agg cs.toArray) w:=by
 have:=run_loadCells_list (P:=P) w ad cs m;rw [l] at this;simp [loadVar,h.agg,n,h.size,this,pure]
theorem Q0 {T:TypeId}(h:TyOk P T i)(l:i.shape.agg=false)(w:World)(ad:Addr)(v:Value)(j:w.cell? ad=some v):(loadVar T ad).run P w=.ok v w:=by
 simp [loadVar,h.agg,l,load,Sem.run,j]
theorem Mh {vs:Array Value}(h:Blk w g ty vs)(j:Nat)(l:j<vs.size):w.cell? ⟨g,j,none⟩=some (vs.getD j undef):=by
 rw [h.cell,aJ l];simp [aG,l]
theorem zbp (E:o.op=.load T x)(J:dok cx o=true)(z:A0 x=true)(F:σ.eval x=.ptr id off)(M:lkT cx.E.tab T=some i)(L:i.shape.agg=true)(I:σ.find id=some (.box ty cs))(O:off+i.sz<=cs.length) :
  A9 cx o σ (.agg ((cs.drop off).take i.sz)) [id] [] :=
 Ay J fun τ γ a w h1 N m=>by
  have u:=m.ev x z;rw [h1 x (by simp [E,Op.operands]),F] at u;have q:=m.me id;rw [N id (by simp),I] at q;obtain ⟨d,D,g,vs,C,K,G,H,p⟩:=q;subst C;have e:=u.ptr_inv D;have h:((aP i.sz).map fun j=>vs.getD (off+j) undef).length=i.sz:=by simp
  have n:=Q1 (cx.E.ok T i M) L w ⟨g,off,none⟩ ((aP i.sz).map fun j=>vs.getD (off+j) undef) h (fun j v s=>by
   obtain ⟨A,r⟩:=List.getElem?_eq_some_iff.1 s;rw [h] at A;simp only [aS,bA] at r;rw [Addr.add_lit,Mh K _ (by omega),r])
  refine ⟨.agg ((aP i.sz).map fun j=>vs.getD (off+j) undef).toArray,by simp only [execOp,E,e,Instr.loadAt,Instr.sureAddr,Sem.run_bind,Sem.run_pure,Result.andThen_ok,n],.agg _ (by simp;omega) (fun j s=>?_) (fun j s=>?_)⟩
  ·rw [aY,aT] at s;simp only [aN,aM];have:((aP i.sz).map fun j=>vs.getD (off+j) undef).toArray.getD j undef=vs.getD (off+j) undef:=by
    have l:j<i.sz:=by omega
    simp [l]
   rw [this];exact H (off+j) (by omega)
  ·have l:j<i.sz:=by simpa using s
   have:((aP i.sz).map fun j=>vs.getD (off+j) undef).toArray.getD j undef=vs.getD (off+j) undef:=by
    simp [l]
   rw [this];exact p _ (by omega)
theorem zbo (z:o.op=.load T x)(F:dok cx o=true)(n:A0 x=true)(A:σ.eval x=.ptr id off)(J:lkT cx.E.tab T=some i)(I:i.shape.agg=false)(E:σ.find id=some (.box ty cs))(G:cs[off]? = some av) :
  A9 cx o σ av [id] [] :=
 Ay F fun τ γ a w h1 K h=>by
  have m:=h.ev x n;rw [h1 x (by simp [z,Op.operands]),A] at m;have l:=h.me id;rw [K id (by simp),E] at l;obtain ⟨d,r,g,vs,q,H,C,D,u⟩:=l;subst q;have e:=m.ptr_inv r;obtain ⟨p,s⟩:=List.getElem?_eq_some_iff.1 G;have j:=Q0 (cx.E.ok T i J) I w ⟨g,off,none⟩ (vs.getD off undef) (Mh H off (by omega));refine ⟨vs.getD off undef,by simp only [execOp,z,e,Instr.loadAt,Instr.sureAddr,Sem.run_bind,Sem.run_pure,Result.andThen_ok,j],?_⟩;have:=D off p
  rwa [s] at this
theorem z73 (A:o.op=.load T x)(E:dok cx o=true)(r:A0 x=true)(C:σ.eval x=.ref cs)(H:lkT cx.E.tab T=some i)(G:i.shape.agg=true)(I:i.sz<=cs.length) :
  A9 cx o σ (.agg (cs.take i.sz)) [] [] :=
 Ay E fun τ γ a w h1 L s=>by
  have q:=s.ev x r;rw [h1 x (by simp [A,Op.operands]),C] at q;obtain ⟨b,off,e,K,J,cell,F,D,z⟩:=q.ref_inv;have h:((aP i.sz).map cell).length=i.sz:=by simp
  have m:=Q1 (cx.E.ok T i H) G w ⟨b,off,none⟩ ((aP i.sz).map cell) h (fun j v p=>by
   obtain ⟨u,n⟩:=List.getElem?_eq_some_iff.1 p;rw [h] at u;simp only [aS,bA] at n;rw [Addr.add_lit,F _ (by omega),n])
  refine ⟨.agg ((aP i.sz).map cell).toArray,by simp only [execOp,A,e,Instr.loadAt,Instr.sureAddr,Sem.run_bind,Sem.run_pure,Result.andThen_ok,m],.agg _ (by simp;omega) (fun j p=>?_) (fun j p=>?_)⟩
  ·rw [aY] at p;simp only [aN];have:((aP i.sz).map cell).toArray.getD j undef=cell j:=by
    have l:j<i.sz:=by omega
    simp [l]
   rw [this];exact (D j (by omega)).open_
  ·have l:j<i.sz:=by simpa using p
   have:((aP i.sz).map cell).toArray.getD j undef=cell j:=by simp [l]
   rw [this];exact z _ (by omega)
theorem z72 (n:o.op=.load T x)(r:dok cx o=true)(l:A0 x=true)(p:σ.eval x=.ref (av::cs))(z:lkT cx.E.tab T=some i)(u:i.shape.agg=false) :
  A9 cx o σ av [] [] :=
 Ay r fun τ γ a w h1 E m=>by
  have j:=m.ev x l;rw [h1 x (by simp [n,Op.operands]),p] at j;obtain ⟨b,off,e,D,C,cell,s,q,A⟩:=j.ref_inv;have h:=Q0 (cx.E.ok T i z) u w ⟨b,off,none⟩ (cell 0) (by simpa using s 0 (by simp));exact ⟨cell 0,by simp only [execOp,n,e,Instr.loadAt,Instr.sureAddr,Sem.run_bind,Sem.run_pure,Result.andThen_ok,h],(q 0 (by simp)).open_⟩
theorem Wh {T:TypeId}(h:TyOk P T i)(w:World)(g off:Nat)(ty:TypeId)(vs:Array Value)(v:Value)(m:Blk w g ty vs)(j:v.cells.size=i.sz)(l:off+i.sz<=vs.size)(h1:∀ u∈v.cells.toList,u.oneCell'=true) :
  (storeVar T ⟨g,off,none⟩ v).run P w=.ok () (w.setRow g (vs.toList.take off++v.cells.toList++vs.toList.drop (off+i.sz)).toArray):=by
 have:=run_storeCells_at P g off ty v.cells.toList 0 vs w m (by simp [j];omega) h1;simp only [bU,Array.length_toList,j] at this;simp [storeVar,h.size,j,this]
theorem zp0 {y:Operand}{A:List AV}(ho:o.op=.store T x y)(hd:dok cx o=true)(ad:A0 x=true)(ac:A0 y=true)(hx:σ.eval x=.ptr id off)(hy:σ.eval y=av)(hT:lkT cx.E.tab T=some i)(hl:σ.find id=some (.box ty cs))(hn:off+i.sz<=cs.length)
  (am:av.cells.length=i.sz) (hc:okc σ av=true) (X:cs.take off++av.cells++cs.drop (off+i.sz)=A):A9 cx o σ (.tup []) (id::av.ids) [(id,.box ty A)]:=by
 refine ⟨fun p e he=>?_,fun τ h1 n a w Q K ⟨γ,l⟩ hK=>Br (fun c hc=>by rw [ho] at hc;cases hc) ?_⟩
 ·simp only [lkE] at he;cases hb:bQ id p with
  |true=>simp [aD hb]
  |false=>rw [hb] at he;cases he
 have W:=l.ev x ad;rw [h1 x (by simp [ho,Op.operands]),hx] at W;have E:=l.ev y ac;rw [h1 y (by simp [ho,Op.operands]),hy] at E;have O:=l.me id;rw [n id (by simp),hl] at O;obtain ⟨d,z,g,vs,ak,hb,an,hr,C⟩:=O;subst ak;have e:=W.ptr_inv z;obtain ⟨c1,c2,c3⟩:=Qf l E hc (fun id H=>n id (by simp [H]));have F:∀ u∈(a.eval y).cells.toList,u.oneCell'=true:=fun u hu=>by
  obtain ⟨j,D,rfl⟩:=mem_iff_getElem.1 hu;have R:j<(a.eval y).cells.size:=by simpa using D
  have:=c3 j R;simpa [aG,R] using this
 have L:=Wh (cx.E.ok T i hT) w g off ty vs (a.eval y) hb (c1.trans am) (by omega) F;unfold Oper.wp;have ai:(execOp a.eval o).run cx.P w=.ok .skip (w.setRow g (vs.toList.take off++(a.eval y).cells.toList++vs.toList.drop (off+i.sz)).toArray):=by
  simp only [execOp,ho,e,Instr.storeAt,Instr.sureAddr,Sem.run_bind,Sem.run_pure,Result.andThen_ok,L]
 rw [ai];have aa:=setRow_heap w g vs (vs.toList.take off++(a.eval y).cells.toList++vs.toList.drop (off+i.sz)).toArray ty (0,0) hb;have m:∀ k,k≠g->(w.setRow g (vs.toList.take off++(a.eval y).cells.toList++vs.toList.drop (off+i.sz)).toArray).heap[k]? = w.heap[k]? := fun k hk=>setRow_other w g k _ hk
 have I:own γ g:=own.mk z;have V:=l.ge g I;have M:∀ b,Sg cx.S0 cx.w0.heap.size γ b->b≠g:=fun b J e=>by
  subst e;rcases J with ⟨_,h⟩|⟨_,h⟩
  ·have:=V.1.1;omega
  ·exact h I
 generalize q:w.setRow g (vs.toList.take off++(a.eval y).cells.toList++vs.toList.drop (off+i.sz)).toArray=w' at *;have hz:w.heap.size<=w'.heap.size:=by rw [<-q];simp
 have aj:w.drawn<=w'.drawn:=by rw [<-q];exact aE _
 refine hK _ _ ⟨γ,l.step (Bj hd) hz (fun b J ao=>⟨m b (M b J),J⟩) (fun id d h=>aU h) (fun p U=>⟨rfl,fun g' s ah af=>m g' ?_⟩) (fun p e' r=>?_) l.inj (fun b Z=>⟨(l.ge b Z).1,aF (l.ge b Z).2 hz⟩) ?_ (.tup #[] rfl (fun i hi=>by simp at hi)) (fun b N _=>⟨m b (fun e=>N (e▸I)),N⟩) (fun _=>aj)⟩
 ·rintro rfl;have:=l.inj _ _ _ _ _ ah z af Bc;subst this;simp [lkE] at U
 ·have H:p=id:=by
   simp only [lkE] at r;cases Y:bQ id p with
   |true=>exact (aD Y).symm
   |false=>rw [Y] at r;cases r
  subst H;simp only [lkE,bT,aB] at r;subst r;have G:∀ {av v},Rep w (Sg cx.S0 cx.w0.heap.size γ) γ av v->Rep w' (Sg cx.S0 cx.w0.heap.size γ) γ av v:=fun h=>h.mono hz (fun b J _=>⟨m b (M b J),J⟩)
  have ap:A.length=cs.length:=by rw [<-X];simp;omega
  have ae:(vs.toList.take off++(a.eval y).cells.toList++vs.toList.drop (off+i.sz)).toArray.size=vs.size:=by
   simp;omega
  have ab:∀ j (D:j<cs.length),(vs.toList.take off++(a.eval y).cells.toList++vs.toList.drop (off+i.sz)).toArray.getD j undef=if j<off then vs.getD j undef else if j<off+i.sz then (a.eval y).cells.getD (j-off) undef else vs.getD j undef:=fun j D=>by
   simp only [aA,getElem?_toArray];congr 1;by_cases h1:j<off
   ·rw [if_pos h1];rw [append_assoc,bE (by simp;omega),bG h1];simp
   ·rw [if_neg h1];by_cases n:j<off+i.sz
    ·rw [if_pos n,append_assoc,bC (by simp;omega),bE (by simp;omega)];rw [show j-(List.take off vs.toList).length=j-off by simp;omega];simp
    ·rw [if_neg n,bC (by simp;omega),getElem?_drop];rw [show off+i.sz+(j-(List.take off vs.toList++(a.eval y).cells.toList).length)=j by simp;omega];simp
  refine ⟨_,z,g,_,rfl,aa,by omega,fun j D=>?_,fun j D=>?_⟩
  ·rw [ab j (by omega)];have al:A[j]=if h1:j<off then cs[j]'(by omega) else if n:j<off+i.sz then av.cells[j-off]'(by omega) else cs[j]'(by omega):=by
    subst X;by_cases h1:j<off
    ·rw [dif_pos h1,aV (by simp;omega),aV (by simp;omega),aN]
    ·rw [dif_neg h1];by_cases n:j<off+i.sz
     ·rw [dif_pos n,aV (by simp;omega),bF (by simp;omega)];congr 1;simp;omega
     ·rw [dif_neg n,bF (by simp;omega),aM];congr 1;simp;omega
   rw [al];by_cases h1:j<off
   ·rw [if_pos h1,dif_pos h1];exact G (hr j (by omega))
   ·rw [if_neg h1,dif_neg h1];by_cases n:j<off+i.sz
    ·rw [if_pos n,dif_pos n];exact G (c2 (j-off) (by omega))
    ·rw [if_neg n,dif_neg n];exact G (hr j (by omega))
  ·rw [ae] at D;rw [ab j (by omega)];by_cases h1:j<off
   ·rw [if_pos h1];exact C j D
   ·rw [if_neg h1];by_cases n:j<off+i.sz
    ·rw [if_pos n];exact c3 (j-off) (by omega)
    ·rw [if_neg n];exact C j D
 ·refine l.below.trans ⟨by rw [<-q];rfl,by rw [<-q];rfl,by rw [<-q];rfl,hz,fun k hk=>m k (by have:=V.1.1;omega)⟩
end
variable {i:TyI}{e esz eb:Nat}
theorem C5 {T:TypeId}(h:TyOk P T i)(l:i.shape=.slc e esz eb):P.underlying T=some (.slice e)/\P.cellsOf e=esz/\P.bytesOf e=eb:=by
 obtain ⟨d,m,j⟩:=h.und;rw [l] at j;cases d<;>simp only [E1,Eg.slc.injEq,reduceCtorEq] at j;obtain ⟨rfl,p,n⟩:=j;exact ⟨m,p,n⟩
theorem Dp (h:P.cellsOf e=esz)(l:esz≠0)(w:World):(sizeOf e).run P w=.ok esz w:=by
 unfold Program.cellsOf at h;cases j:P.info? e with
 |none=>rw [j] at h;simp at h;exact absurd h.symm l
 |some info=>rw [j] at h;simp at h;simp [sizeOf,typeInfo,j,h]
section
variable {cx:Cx} {o:Oper} {σ:AS}
variable {T:Nat}{x y:Operand}{sz:Nat}{xs:List AV}{k:IntKind}{el:AV}
theorem zaq {n:Int}{m:Nat}(C:o.op=.indexAddr T x y)(V:dok cx o=true)(z:A0 x=true)(u:A0 y=true)(K:σ.eval x=.sl sz xs)(J:σ.eval y=.int k n)
  (X:lkT cx.E.tab T=some i) (M:i.shape=.slc e sz eb) (I:sz≠0) (O:n=(m:Int)) (U:xs[m]? = some el):A9 cx o σ (.ref el.cells) [] [] :=
 Ay V fun τ γ a w h1 h2 q=>by
  have s:=q.ev x z;rw [h1 x (by simp [C,Op.operands]),K] at s;have h:=q.ev y u;rw [h1 y (by simp [C,Op.operands]),J] at h;obtain ⟨hm,l⟩:=List.getElem?_eq_some_iff.1 U;obtain ⟨A,c,Z,hc,r,cell,W,N,H⟩:=s.sl_inv;obtain ⟨b,off,rfl,Y,D,p⟩:=W (by omega);obtain ⟨L,G,_⟩:=C5 (cx.E.ok T i X) M;have R:=r m hm;rw [l] at R;refine ⟨.pointer (some ⟨b,off+m*sz,none⟩),?_,.ref b (off+m*sz) (fun j=>cell m j) Y D (fun j F=>?_) (fun j F=>?_) (fun j F=>H m j)⟩
  ·subst O;simp [execOp,C,Z,h.int_inv,Instr.indexAt,asIntOf,run_underlying L,Dp G I,hm,pure,Addr.add_lit]
  ·have:=p m j hm (by omega)
   rwa [<-aZ] at this
  ·have E:j<(xs[m]).cells.length:=by rw [l];exact F
   have:=N m hm j E;simp only [l] at this;exact this
variable {id:Nat}{ty:TypeId}
theorem z99 {n:Int}{m:Nat}(A:o.op=.indexAddr T x y)(L:dok cx o=true)(z:A0 x=true)(u:A0 y=true)(G:σ.eval x=.row id)(F:σ.eval y=.int k n)
  (K:σ.find id=some (.row ty sz xs)) (M:lkT cx.E.tab T=some i) (I:i.shape=.slc e sz eb) (E:sz≠0) (J:n=(m:Int)) (hm:m<xs.length):A9 cx o σ (.elt id sz m 0) [id] [] :=
 Ay L fun τ γ a w h1 N j=>by
  have q:=j.ev x z;rw [h1 x (by simp [A,Op.operands]),G] at q;have h:=j.ev y u;rw [h1 y (by simp [A,Op.operands]),F] at h;have p:=j.me id;rw [N id (by simp),K] at p;obtain ⟨d,r,s,vs,C,_,l,_⟩:=p;subst C;obtain ⟨H,D,_⟩:=C5 (cx.E.ok T i M) I;have O:=q.row_inv r;rcases l.2 with ⟨rfl,U⟩|⟨g,cap,R,rfl,_⟩
  ·omega
  refine ⟨.pointer (some ⟨g,m*sz,none⟩),?_,.elt r (fun V s e=>by injection e with e;injection e with e _;simp only [Value.ownBlock,aB] at e;rw [<-e];rfl)⟩;subst J;simp [execOp,A,O,h.int_inv,Instr.indexAt,asIntOf,run_underlying H,Dp D E,hm,pure,Addr.add_lit]
theorem Fm {B ty n:Nat}{s:Value}{vs:List Value}(h:w.ownsRow B ty sz s n vs)(l:s.ownBlock=some g)(j:Nat)(u:j<n*sz):w.cell? ⟨g,j,none⟩=some (vs.getD j undef):=by
 obtain ⟨D,h⟩:=h;rcases h with ⟨rfl,F⟩|⟨A,cap,m,rfl,E,z,r,hm,C,p⟩
 ·simp [Value.ownBlock] at l
 ·simp only [Value.ownBlock,aB] at l;subst l;have q:n*sz<=cap*sz:=aH _ r;rw [cell_of_row w A j m ty (0,0) z,<-p];rw [aQ,bG u];simp only [Array.getElem?_toList];rw [aJ (by omega)];rfl
theorem zap {k:Nat}(M:o.op=.load T x)(X:dok cx o=true)(H:A0 x=true)(O:σ.eval x=.elt id sz k 0)(Z:lkT cx.E.tab T=some i)(Y:i.shape.agg=true)(V:σ.find id=some (.row ty sz xs))(R:i.sz=sz)(W:xs[k]? = some el) :
  A9 cx o σ (.agg el.cells) [id] [] :=
 Ay X fun τ γ a w h1 h2 p=>by
  have E:=p.ev x H;rw [h1 x (by simp [M,Op.operands]),O] at E;have u:=p.me id;rw [h2 id (by simp),V] at u;obtain ⟨d,F,s,vs,L,_,h,A,U,r⟩:=u;subst L;obtain ⟨J,m⟩:=List.getElem?_eq_some_iff.1 W;have G:∃ g,s.ownBlock=some g:=by
   rcases h.2 with ⟨rfl,h0⟩|⟨g,cap,aa,rfl,_⟩
   ·omega
   ·exact ⟨g,rfl⟩
  obtain ⟨g,G⟩:=G;rw [G] at F;have e:=E.elt_inv F;have I:=A k J;rw [m] at I;have D:∀ j,j<sz->k*sz+j<xs.length*sz:=fun j n=>by
   have:(k+1)*sz<=xs.length*sz:=aH _ J;rw [bL] at this;omega
  have z:((aP i.sz).map fun j=>vs.getD (k*sz+j) undef).length=i.sz:=by simp
  have q:=Q1 (cx.E.ok T i Z) Y w ⟨g,k*sz+0,none⟩ ((aP i.sz).map fun j=>vs.getD (k*sz+j) undef) z (fun j v n=>by
   obtain ⟨K,C⟩:=List.getElem?_eq_some_iff.1 n;rw [z] at K;simp only [aS,bA] at C;rw [Addr.add_lit,bU,Fm h G _ (D j (by omega)),C])
  refine ⟨.agg ((aP i.sz).map fun j=>vs.getD (k*sz+j) undef).toArray,by simp only [execOp,M,e,Instr.loadAt,Instr.sureAddr,Sem.run_bind,Sem.run_pure,Result.andThen_ok,q],.agg _ (by simp;omega) (fun j n=>?_) (fun j n=>?_)⟩
  ·have:((aP i.sz).map fun j=>vs.getD (k*sz+j) undef).toArray.getD j undef=vs.getD (k*sz+j) undef:=by
    have l:j<i.sz:=by omega
    simp [l]
   rw [this];have l:j<(xs[k]).cells.length:=by rw [m];exact n
   have:=U k J j l;simp only [m] at this;exact this.open_
  ·have l:j<i.sz:=by simpa using n
   have:((aP i.sz).map fun j=>vs.getD (k*sz+j) undef).toArray.getD j undef=vs.getD (k*sz+j) undef:=by simp [l]
   rw [this];have N:k*sz+j<vs.length:=by rw [h.1];exact D j (by omega)
   rw [aQ,bH N];exact r _ (getElem_mem N)
theorem z95 {k J:Nat}(O:o.op=.load T x)(Z:dok cx o=true)(K:A0 x=true)(U:σ.eval x=.elt id sz k J)(hT:lkT cx.E.tab T=some i)(ha:i.shape.agg=true)(X:σ.find id=some (.row ty sz xs))(V:J+i.sz<=sz)(Y:xs[k]? = some el) :
  A9 cx o σ (.agg ((el.cells.drop J).take i.sz)) [id] [] :=
 Ay Z fun τ γ a w h1 h2 q=>by
  have G:=q.ev x K;rw [h1 x (by simp [O,Op.operands]),U] at G;have z:=q.me id;rw [h2 id (by simp),X] at z;obtain ⟨d,H,s,vs,N,_,h,C,W,u⟩:=z;subst N;obtain ⟨M,p⟩:=List.getElem?_eq_some_iff.1 Y;have I:∃ g,s.ownBlock=some g:=by
   rcases h.2 with ⟨rfl,h0⟩|⟨g,cap,aa,rfl,_⟩
   ·omega
   ·exact ⟨g,rfl⟩
  obtain ⟨g,I⟩:=I;rw [I] at H;have e:=G.elt_inv H;have L:=C k M;rw [p] at L;have E:∀ j,j<sz->k*sz+j<xs.length*sz:=fun j l=>by
   have:(k+1)*sz<=xs.length*sz:=aH _ M;rw [bL] at this;omega
  have A:((aP i.sz).map fun j=>vs.getD (k*sz+(J+j)) undef).length=i.sz:=by simp
  have r:=Q1 (cx.E.ok T i hT) ha w ⟨g,k*sz+J,none⟩ ((aP i.sz).map fun j=>vs.getD (k*sz+(J+j)) undef) A (fun j v l=>by
   obtain ⟨m,D⟩:=List.getElem?_eq_some_iff.1 l;rw [A] at m;simp only [aS,bA] at D;rw [Addr.add_lit,aZ,Fm h I _ (E (J+j) (by omega)),D])
  have F:∀ j,j<i.sz->((aP i.sz).map fun j=>vs.getD (k*sz+(J+j)) undef).toArray.getD j undef=vs.getD (k*sz+(J+j)) undef:=fun j l=>by simp [l]
  refine ⟨.agg ((aP i.sz).map fun j=>vs.getD (k*sz+(J+j)) undef).toArray,by simp only [execOp,O,e,Instr.loadAt,Instr.sureAddr,Sem.run_bind,Sem.run_pure,Result.andThen_ok,r],.agg _ (by simp;omega) (fun j l=>?_) (fun j l=>?_)⟩
  ·have m:j<i.sz:=by rw [aY] at l;omega
   rw [F j m];have n:J+j<(xs[k]).cells.length:=by rw [p];omega
   have:=W k M (J+j) n;simp only [p] at this;simp only [aN,aM];exact this.open_
  ·have n:j<i.sz:=by simpa using l
   rw [F j n];have R:k*sz+(J+j)<vs.length:=by rw [h.1];exact E (J+j) (by omega)
   rw [aQ,bH R];exact u _ (getElem_mem R)
theorem zao {k j:Nat}(J:o.op=.load T x)(R:dok cx o=true)(A:A0 x=true)(K:σ.eval x=.elt id sz k j)(W:lkT cx.E.tab T=some i)(V:i.shape.agg=false)(M:σ.find id=some (.row ty sz xs))(O:xs[k]? = some el)(U:el.cells[j]? = some av) :
  A9 cx o σ av [id] [] :=
 Ay R fun τ γ a w h1 X m=>by
  have r:=m.ev x A;rw [h1 x (by simp [J,Op.operands]),K] at r;have p:=m.me id;rw [X id (by simp),M] at p;obtain ⟨d,u,s,vs,G,_,h,q,L,I⟩:=p;subst G;obtain ⟨D,l⟩:=List.getElem?_eq_some_iff.1 O;obtain ⟨N,H⟩:=List.getElem?_eq_some_iff.1 U;have z:∃ g,s.ownBlock=some g:=by
   rcases h.2 with ⟨rfl,Z⟩|⟨g,cap,Y,rfl,_⟩
   ·omega
   ·exact ⟨g,rfl⟩
  obtain ⟨g,z⟩:=z;rw [z] at u;have e:=r.elt_inv u;have C:=q k D;rw [l] at C;have F:k*sz+j<xs.length*sz:=by
   have:(k+1)*sz<=xs.length*sz:=aH _ D;rw [bL] at this;omega
  have n:=Q0 (cx.E.ok T i W) V w ⟨g,k*sz+j,none⟩ _ (Fm h z _ F);refine ⟨vs.getD (k*sz+j) undef,by simp only [execOp,J,e,Instr.loadAt,Instr.sureAddr,Sem.run_bind,Sem.run_pure,Result.andThen_ok,n],?_⟩;have E:j<(xs[k]).cells.length:=by rw [l];exact N
  have:=L k D j E;simp only [l,H] at this;exact this.open_
theorem getElem?_of_getD {vs:Array Value}{j:Nat}(h:j<vs.size):vs[j]? = some (vs.getD j undef):=by
 rw [aA,aJ h];rfl
variable {fs:List (Nat×Nat×Option Bool)}{cs:List AV}
theorem z9a {f fo fsz:Nat}(z:o.op=.field T x f)(F:dok cx o=true)(p:A0 x=true)(C:σ.eval x=.agg cs)(H:lkT cx.E.tab T=some i)(D:i.shape=.strct fs)(A:fs[f]? = some (fo,fsz,some false))(G:cs[fo]? = some av) :
  A9 cx o σ av [] [] :=
 Ay F fun τ γ a w h1 N q=>by
  have m:=q.ev x p;rw [h1 x (by simp [z,Op.operands]),C] at m;obtain ⟨vs,e,M,E,J⟩:=m.agg_inv;obtain ⟨Fs,I,rfl⟩:=X0 (cx.E.ok T i H) D;simp only [bM,aL,Prod.mk.injEq] at A;obtain ⟨fd,s,L,O,K⟩:=A;have l:Fs[f]? = some fd:=by simpa using s
  obtain ⟨r,u⟩:=List.getElem?_eq_some_iff.1 G;have n:=Ws K w;have h:=getElem?_of_getD (vs:=vs) (j:=fo) (by omega);refine ⟨vs.getD fo undef,?_,?_⟩
  ·simp only [execOp,z,e,Instr.field,Sem.run_bind,Sem.run_pure,Result.andThen_ok,run_underlying I,l,asAgg,part,n,L,h];rfl
  ·have:=E fo r
   rwa [u] at this
theorem z9b {f fo fsz:Nat}(C:o.op=.field T x f)(H:dok cx o=true)(q:A0 x=true)(n:σ.eval x=.agg cs)(I:lkT cx.E.tab T=some i)(F:i.shape=.strct fs)(D:fs[f]? = some (fo,fsz,some true))(E:fsz≠0)(O:fo+fsz<=cs.length) :
  A9 cx o σ (.agg ((cs.drop fo).take fsz)) [] [] :=
 Ay H fun τ γ a w h1 R s=>by
  have l:=s.ev x q;rw [h1 x (by simp [C,Op.operands]),n] at l;obtain ⟨vs,e,N,G,A⟩:=l.agg_inv;obtain ⟨Fs,J,rfl⟩:=X0 (cx.E.ok T i I) F;simp only [bM,aL,Prod.mk.injEq] at D;obtain ⟨fd,z,M,L,K⟩:=D;have h:Fs[f]? = some fd:=by simpa using z
  have m:=Ws K w;have r:=Dp L E w;have n:∀ j,j<fsz->(vs.extract fo (fo+fsz)).getD j undef=vs.getD (fo+j) undef:=fun j p=>by
   rw [aA,aA,bB,if_pos (by omega)]
  refine ⟨.agg (vs.extract fo (fo+fsz)),?_,.agg _ (by simp;omega) (fun j p=>?_) (fun j p=>?_)⟩
  ·simp only [execOp,C,e,Instr.field,Sem.run_bind,Sem.run_pure,Result.andThen_ok,run_underlying J,h,asAgg,part,m,M,if_true,r]
  ·rw [aY,aT] at p;rw [n j (by omega)];simp only [aN,aM];exact G (fo+j) (by omega)
  ·have u:j<fsz:=by simp at p;omega
   rw [n j u];exact A _ (by omega)
theorem z96 {n:Nat}{m:Int}{q:Nat}(D:o.op=.index T x y)(R:dok cx o=true)(C:A0 x=true)(A:A0 y=true)(K:σ.eval x=.agg cs)(J:σ.eval y=.int k m)(V:lkT cx.E.tab T=some i)
  (L:i.shape=.arr n e esz (some false)) (I:esz≠0) (hm:m=(q:Int)) (N:q<n) (U:cs[q*esz]? = some av):A9 cx o σ av [] [] :=
 Ay R fun τ γ a w h1 h2 p=>by
  have s:=p.ev x C;rw [h1 x (by simp [D,Op.operands]),K] at s;have l:=p.ev y A;rw [h1 y (by simp [D,Op.operands]),J] at l;obtain ⟨vs,X,hl,M,W⟩:=s.agg_inv;obtain ⟨d,G,F⟩:=(cx.E.ok T i V).und;rw [L] at F;cases d<;>simp only [E1,Eg.arr.injEq,reduceCtorEq] at F;obtain ⟨O,rfl,Z,Y⟩:=F;subst O;obtain ⟨E,H⟩:=List.getElem?_eq_some_iff.1 U;have z:=Ws Y w;have r:=getElem?_of_getD (vs:=vs) (j:=q*esz) (by omega);subst hm;have h:=M (q*esz) E;rw [H] at h;generalize vs.getD (q*esz) undef=u at *;exact ⟨u,by simp [execOp,D,X,l.int_inv,Instr.index,asIntOf,run_underlying G,Dp Z I,N,part,z,r,pure],h⟩
theorem z97 {n:Nat}{m:Int}{q:Nat}(C:o.op=.index T x y)(N:dok cx o=true)(A:A0 x=true)(z:A0 y=true)(J:σ.eval x=.agg cs)(I:σ.eval y=.int k m)(O:lkT cx.E.tab T=some i)
  (K:i.shape=.arr n e esz (some true)) (H:esz≠0) (hm:m=(q:Int)) (M:q<n) (X:q*esz+esz<=cs.length):A9 cx o σ (.agg ((cs.drop (q*esz)).take esz)) [] [] :=
 Ay N fun τ γ a w h1 Y p=>by
  have r:=p.ev x A;rw [h1 x (by simp [C,Op.operands]),J] at r;have h:=p.ev y z;rw [h1 y (by simp [C,Op.operands]),I] at h;obtain ⟨vs,R,W,L,G⟩:=r.agg_inv;obtain ⟨d,F,E⟩:=(cx.E.ok T i O).und;rw [K] at E;cases d<;>simp only [E1,Eg.arr.injEq,reduceCtorEq] at E;obtain ⟨rfl,rfl,V,U⟩:=E;have s:=Ws U w;have l:∀ j,j<esz->(vs.extract (q*esz) (q*esz+esz)).getD j undef=vs.getD (q*esz+j) undef:=fun j u=>by
   rw [aA,aA,bB,if_pos (by omega)]
  subst hm;refine ⟨.agg (vs.extract (q*esz) (q*esz+esz)),?_,.agg _ (by simp;omega) (fun j u=>?_) (fun j u=>?_)⟩
  ·simp [execOp,C,R,h.int_inv,Instr.index,asIntOf,run_underlying F,Dp V H,M,part,s,pure]
  ·rw [aY,aT] at u;rw [l j (by omega)];simp only [aN,aM];exact L (q*esz+j) (by omega)
  ·have D:j<esz:=by simp at u;omega
   rw [l j D];exact G _ (by omega)
theorem zfy {ix:Nat}(s:o.op=.extract x ix)(C:dok cx o=true)(n:A0 x=true)(z:σ.eval x=.tup cs)(D:cs[ix]? = some av):A9 cx o σ av [] [] :=
 Ay C fun τ γ a w h1 F p=>by
  have m:=p.ev x n;rw [h1 x (by simp [s,Op.operands]),z] at m;obtain ⟨vs,e,E,A⟩:=m.tup_inv;obtain ⟨q,r⟩:=List.getElem?_eq_some_iff.1 D;have l:=getElem?_of_getD (vs:=vs) (j:=ix) (by omega);have h:=A ix q;rw [r] at h;generalize vs.getD ix undef=u at *;exact ⟨u,by simp [execOp,s,e,Instr.extract,l,pure],h⟩
theorem zlk {ty:Nat}(m:o.op=.call { callee:=.builtin .len,args:=#[x],argTypes:=#[T] })(r:dok cx o=true)(j:A0 x=true)(n:σ.eval x=.sl sz xs)(s:lkT cx.E.tab T=some i)(q:i.shape=.slc e esz eb) :
  A9 cx o σ (.int .i64 (xs.length:Int)) [] [] :=
 Ay r fun τ γ a w h1 z l=>by
  have h:=l.ev x j;rw [h1 x (by simp [m,Op.operands,Call.operands]),n] at h;obtain ⟨A,c,u,_⟩:=h.sl_inv;obtain ⟨p,_,_⟩:=C5 (cx.E.ok T i s) q;exact ⟨.int .i64 (xs.length:Int),by simp [execOp,m,resolve,invoke,builtin,Builtin.len_,u,run_underlying p,goInt,pure],.int _ _⟩
theorem zbq {ty:Nat}(m:o.op=.call { callee:=.builtin .len,args:=#[x],argTypes:=#[T] })(r:dok cx o=true)(j:A0 x=true)(n:σ.eval x=.nils)(s:lkT cx.E.tab T=some i)(q:i.shape=.slc e esz eb) :
  A9 cx o σ (.int .i64 0) [] [] :=
 Ay r fun τ γ a w h1 u l=>by
  have h:=l.ev x j;rw [h1 x (by simp [m,Op.operands,Call.operands]),n] at h;obtain ⟨p,_,_⟩:=C5 (cx.E.ok T i s) q;exact ⟨.int .i64 0,by simp [execOp,m,resolve,invoke,builtin,Builtin.len_,h.nils_inv,run_underlying p,goInt,pure],.int _ _⟩
theorem zp3 (u:o.op=.call { callee:=.builtin .len,args:=#[x],argTypes:=#[T] })(F:dok cx o=true)(n:A0 x=true)(z:σ.eval x=.row id)(E:σ.find id=some (.row ty sz xs))(G:lkT cx.E.tab T=some i)(D:i.shape=.slc e esz eb) :
  A9 cx o σ (.int .i64 (xs.length:Int)) [id] [] :=
 Ay F fun τ γ a w h1 H h=>by
  have m:=h.ev x n;rw [h1 x (by simp [u,Op.operands,Call.operands]),z] at m;have l:=h.me id;rw [H id (by simp),E] at l;obtain ⟨d,r,s,vs,q,_,j,_⟩:=l;subst q;have e:=m.row_inv r;obtain ⟨C,_,_⟩:=C5 (cx.E.ok T i G) D;have p:∃ A c,s=.slice A xs.length c:=by
   rcases j.2 with ⟨rfl,I⟩|⟨g,cap,J,rfl,_⟩
   ·exact ⟨none,0,by rw [I]⟩
   ·exact ⟨_,_,rfl⟩
  obtain ⟨A,c,rfl⟩:=p;exact ⟨.int .i64 (xs.length:Int),by simp [execOp,u,resolve,invoke,builtin,Builtin.len_,e,run_underlying C,goInt,pure],.int _ _⟩
theorem zfw {s:ByteArray}(n:o.op=.call { callee:=.builtin .len,args:=#[x],argTypes:=#[T] })(u:dok cx o=true)(j:A0 x=true)(q:σ.eval x=.str s)(z:lkT cx.E.tab T=some i)(r:i.shape=.str) :
  A9 cx o σ (.int .i64 (s.size:Int)) [] [] :=
 Ay u fun τ γ a w h1 A l=>by
  have h:=l.ev x j;rw [h1 x (by simp [n,Op.operands,Call.operands]),q] at h;obtain ⟨d,m,p⟩:=(cx.E.ok T i z).und;rw [r] at p;cases d<;>simp only [E1,reduceCtorEq] at p;exact ⟨.int .i64 (s.size:Int),by simp [execOp,n,resolve,invoke,builtin,Builtin.len_,h.str_inv,run_underlying m,goInt,pure],.int _ _⟩
theorem zxf {T:Array TypeId}{q:IntKind}{a b:Int}(m:o.op=.call { callee:=.builtin .max,args:=#[x,y],argTypes:=T })(u:dok cx o=true)(l:A0 x=true)(j:A0 y=true)(s:σ.eval x=.int k a)(r:σ.eval y=.int q b):A9 cx o σ (.int k (max a b)) [] [] :=
 Ay u fun τ γ ac w h1 z h=>by
  have p:=h.ev x l;rw [h1 x (by simp [m,Op.operands,Call.operands]),s] at p;have n:=h.ev y j;rw [h1 y (by simp [m,Op.operands,Call.operands]),r] at n;have hm:(if b > a then b else a)=max a b:=by split<;>omega
  refine ⟨.int k (max a b),?_,.int _ _⟩;rw [<-hm];simp only [execOp,m,resolve,invoke,builtin,Sem.run_bind,Sem.run_pure,Result.andThen_ok,map_toArray,map_cons,map_nil,p.int_inv,n.int_inv];rfl
theorem zxe {T:Array TypeId}{q:IntKind}{a b:Int}(m:o.op=.call { callee:=.builtin .min,args:=#[x,y],argTypes:=T })(u:dok cx o=true)(l:A0 x=true)(j:A0 y=true)(s:σ.eval x=.int k a)(r:σ.eval y=.int q b):A9 cx o σ (.int k (min a b)) [] [] :=
 Ay u fun τ γ ac w h1 z h=>by
  have p:=h.ev x l;rw [h1 x (by simp [m,Op.operands,Call.operands]),s] at p;have n:=h.ev y j;rw [h1 y (by simp [m,Op.operands,Call.operands]),r] at n;have hm:(if b<a then b else a)=min a b:=by split<;>omega
  refine ⟨.int k (min a b),?_,.int _ _⟩;rw [<-hm];simp only [execOp,m,resolve,invoke,builtin,Sem.run_bind,Sem.run_pure,Result.andThen_ok,map_toArray,map_cons,map_nil,p.int_inv,n.int_inv];rfl
end
end Go.Proofs.YtkoamfnbbhfaiaaGreatDoor
