/- The abstract walk, third part. -/
import Derived.Test.YthbogefcfhmpgaaGreatK01
set_option linter.unusedVariables false
set_option linter.unusedSimpArgs false
namespace Go.Proofs.YthbogefcfhmpgaaGreat
open Go.RowKit List
open _root_.Array renaming getD_eq_getD_getElem?->aA,getElem?_eq_some_iff->aC,getD->aG,getElem?_eq_getElem->aJ,getElem?_replicate->aK,getElem?_setIfInBounds_ne->aO,getElem?_extract->bB,getElem_toList->bD,all_eq_true->bJ,replicate->bP
open Option.some renaming injEq->aB
open Nat renaming eq_of_beq_eq_true->aD,le_refl->aE,lt_of_lt_of_le->aF,mul_le_mul_right->aH,zero_le->aX,add_assoc->aZ,succ_mul->bL,beq->bQ,beq_refl->bT,add_zero->bU
open Option renaming map_eq_some_iff->aL,toList_none->aW
open List renaming getElem_drop->aM,getElem_take->aN,range->aP,getD_eq_getElem?_getD->aQ,mem_filterMap->aR,getElem_map->aS,length_drop->aT,getElem_append_left->aU,length_take->aY,getElem_range->bA,getElem?_append_right->bC,getElem?_append_left->bE,getElem_append_right->bF,getElem?_take_of_lt->bG,getElem?_eq_getElem->bH,nil_append->bI,getElem?_map->bM,mem_append_right->bN
open Or renaming inl->aV,inr->bS
open Bool renaming not_eq_true'->bK,or_eq_true->bO
def Le (cx:Cx)(σ τ:AS):Prop:=∀ a w,St cx σ a w->St cx τ a w
theorem Le.refl (cx:Cx)(σ:AS):Le cx σ σ:=fun _ _ h=>h
variable {cx:Cx}
theorem Le.trans {a b c:AS}(h:Le cx a b)(k:Le cx b c):Le cx a c:=fun _ _ s=>k _ _ (h _ _ s)
def lift (cx:Cx)(Q:Exit->AS->Prop):Exit->Act->World->Prop:=fun e a w=>∃ σ,Q e σ/\St cx σ a w
def WP (cx:Cx)(c:Code)(Q:Exit->AS->Prop)(σ:AS):Prop:=∀ a w,St cx σ a w->c.wpIn cx.F 0 cx.P (lift cx Q) a w
def Cu (next:AS->Prop)(Q:Exit->AS->Prop):Exit->AS->Prop
 |.normal,σ=>next σ
 |e,σ=>Q e σ
def Nz (id:Nat)(Q:Exit->AS->Prop):Exit->AS->Prop
 |.exit id',σ=>if id'=id then Q .normal σ else Q (.exit id') σ
 |e,σ=>Q e σ
theorem Uf (p:Nat->Prop)(h:∃ n,p n):∃ n,p n/\∀ m,p m->n<=m:=by
 obtain ⟨n,hn⟩:=h
 induction n using Nat.strongRecOn with
 |_ n ih =>
  by_cases hm:∃ m,m<n/\p m
  ·obtain ⟨m,h1,h2⟩:=hm;exact ih m h1 h2
  ·exact ⟨n,hn,fun m h2=>Nat.le_of_not_lt fun h1=>hm ⟨m,h1,h2⟩⟩
section
variable {cx:Cx} {Q:Exit->AS->Prop} {σ τ:AS}
variable {c:Code}
theorem WP.weaken (h:Le cx σ τ)(k:WP cx c Q τ):WP cx c Q σ:=fun a w hs=>k a w (h a w hs)
theorem WP.mono {Q':Exit->AS->Prop}(h:WP cx c Q σ)(k:∀ e σ,Q e σ->Q' e σ):WP cx c Q' σ:=fun a w hs=>wpIn_mono (h a w hs) (fun e a w ⟨σ,h1,h2⟩=>⟨σ,k e σ h1,h2⟩)
theorem WP.skip (h:Q .normal σ):WP cx .skip Q σ:=fun a w hs=>wpIn_skip ⟨σ,h,hs⟩
theorem WP.ret (h:Q .ret σ):WP cx .ret Q σ:=fun a w hs=>wpIn_ret ⟨σ,h,hs⟩
theorem WP.exit {id:Nat}(h:Q (.exit id) σ):WP cx (.exit id) Q σ:=fun a w hs=>wpIn_exit ⟨σ,h,hs⟩
theorem WP.seq {x y:Code}(h:WP cx x (Cu (WP cx y Q) Q) σ):WP cx (.seq x y) Q σ:=fun a w hs=>by
 refine wpIn_seq (wpIn_mono (h a w hs) (fun e a w ⟨τ,h1,h2⟩=>?_))
 cases e with
 |normal=>exact h1 a w h2
 |_=>exact ⟨τ,h1,h2⟩
theorem WP.block {id:Nat}(h:WP cx c (Nz id Q) σ):WP cx (.block id c) Q σ:=fun a w hs=>by
 refine wpIn_block (wpIn_mono (h a w hs) (fun e a w ⟨τ,h1,h2⟩=>?_))
 cases e with
 |exit id' =>
  simp only [Nz] at h1
  simp only [Exit.inBlock]
  by_cases hid:id'=id
  ·rw [if_pos hid] at h1 ⊢;exact ⟨τ,h1,h2⟩
  ·rw [if_neg hid] at h1 ⊢;exact ⟨τ,h1,h2⟩
 |_=>exact ⟨τ,h1,h2⟩
theorem WP.loop (I:Nat->AS->Prop)(n:Nat)(h0:I n σ)(round:∀ n σ,I n σ->WP cx c (Cu (fun σ'=>∃ m,m<n/\I m σ') Q) σ):WP cx (.loop c) Q σ:=fun a w hs=>by
 classical
 let R:Act->World->Nat->Prop:=fun a w n=>∃ σ,I n σ/\St cx σ a w
 let μ:Act->World->Nat:=fun a w=>if h:∃ n,R a w n then Classical.choose (Uf _ h) else 0
 refine wpIn_loop (fun a w=>∃ n,R a w n) μ ⟨n,σ,h0,hs⟩ (fun a w hI=>?_)
 have hμ:μ a w=Classical.choose (Uf _ hI):=dif_pos hI
 obtain ⟨τ,hIτ,hst⟩:=(Classical.choose_spec (Uf _ hI)).1
 refine wpIn_mono (round _ τ hIτ a w hst) (fun e a' w' ⟨τ',h1,h2⟩=>?_)
 cases e with
 |normal =>
  obtain ⟨m,hm,hI'⟩:=h1
  have hex:∃ n,R a' w' n:=⟨m,τ',hI',h2⟩
  refine ⟨hex,?_⟩
  have hle:μ a' w'<=m:=by
   show (if h:∃ n,R a' w' n then Classical.choose (Uf _ h) else 0)<=m
   rw [dif_pos hex]
   exact (Classical.choose_spec (Uf _ hex)).2 m ⟨τ',hI',h2⟩
  omega
 |_=>exact ⟨τ',h1,h2⟩
end
def AV.ofV:Value->AV
 |.int k n=>.int k n
 |.bool b=>.bool b
 |.string s=>.str s
 |.pointer none=>.nilp
 |.slice none 0 0=>.nils
 |.nilFunc=>.nilf
 |.map none=>.mapv []
 |.tuple cs=>if cs.size=0 then .tup [] else .any
 |_=>.any
def Ek:Value->AV
 |.agg cs=>.agg (cs.toList.map AV.ofV)
 |v=>AV.ofV v
def AS.eval (σ:AS):Operand->AV
 |.tmp t=>σ.get t
 |.const v=>Ek v
 |.func f=>.fn f []
 |.global _=>.any
theorem O3 (w:World)(S:Nat->Prop)(γ:Gam)(v:Value):Rep w S γ (AV.ofV v) v:=by
 unfold AV.ofV
 split
 ·exact .int _ _
 ·exact .bool _
 ·exact .str _
 ·exact .nilp
 ·exact .nils
 ·exact .nilf
 ·exact .mapn
 ·rename_i cs
  by_cases h:cs.size=0
  ·rw [if_pos h]
   have:cs=#[]:=Array.eq_empty_of_size_eq_zero h
   subst this
   exact .tup #[] rfl (fun i hi=>by simp at hi)
  ·rw [if_neg h];exact .any _
 ·exact .any _
def Sd:Value->Bool
 |.agg cs=>cs.all (·.oneCell')
 |_=>true
theorem Xq (w:World)(S:Nat->Prop)(γ:Gam)(v:Value)(h:Sd v=true):Rep w S γ (Ek v) v:=by
 unfold Ek
 split
 ·rename_i cs
  refine .agg cs (by simp) (fun i hi=>?_) (fun i hi=>?_)
  ·have hi':i<cs.size:=by simpa using hi
   simp only [aS,bD]
   have:cs.getD i undef=cs[i]:=by simp [aG,hi']
   rw [this]
   exact O3 w S γ _
  ·have:cs.getD i undef=cs[i]:=by simp [aG,hi]
   rw [this]
   simp only [Sd,bJ] at h
   exact h i hi
 ·exact O3 w S γ _
def A5:Operand->Bool
 |.const v=>Sd v
 |_=>true
section
variable {cx:Cx} {γ:Gam} {σ τ:AS} {a:Act} {w:World}
theorem StG.ev (h:StG cx γ σ a w)(x:Operand)(hx:A5 x=true):Rep w (Sg cx.S0 cx.w0.heap.size γ) γ (σ.eval x) (a.eval x):=by
 cases x with
 |tmp t=>exact h.tm t
 |const v=>exact Xq _ _ _ _ hx
 |global g=>exact .any _
 |func f=>exact .fn #[] rfl (fun i hi=>by simp at hi)
theorem zut (a:Act)(d:Option Nat)(v:Value)(t:Nat)(hd:∀ x,d=some x->x<a.tmps.size):(a.put d v).tmps.getD t undef=if d=some t then v else a.tmps.getD t undef:=by
 cases d with
 |none=>simp [Act.put]
 |some d =>
  have hlt:=hd d rfl
  simp only [Act.put,aB]
  by_cases h:d=t
  ·subst h;simp [hlt]
  ·rw [if_neg h]
   simp [aO h]
theorem zu2 (a:Act)(d:Option Nat)(v:Value):(a.put d v).tmps.size=a.tmps.size:=by cases d<;>simp [Act.put]
theorem ze3 (a:Act)(d:Option Nat)(v:Value):(a.put d v).defers=a.defers:=by cases d<;>rfl
variable {dst:Option Nat}{v:Value}
theorem Book.put {cx:Cx}{γ:Gam}{a:Act}{w:World}(h:Book cx γ a w)(hd:∀ x,dst=some x->cx.E.np<=x/\x<cx.nt):Book cx γ (a.put dst v) w:=by
 refine ⟨fun hr=>by rw [ze3];exact h.d0 hr,by rw [ze3];exact h.marks,fun t ht=>?_,h.yl,h.sz⟩
 rw [<-h.pin t ht]
 cases dst with
 |none=>rfl
 |some d =>
  have hne:d≠t:=fun e=>by have:=(hd d rfl).1;omega
  simp only [Act.put,aA]
  rw [aO hne]
variable {w':World}{B:Nat}
theorem _root_.Go.World.ownsRow.moved {w:World}{e size n:Nat}{xs:List Value}(h:w.ownsRow B e size v n xs)(hk:∀ g,Az v=some g->w'.heap[g]? = w.heap[g]?):w'.ownsRow B e size v n xs:=by
 refine ⟨h.1,h.2.elim aV fun ⟨g,cap,cur,hv,hg,hh,r⟩=>bS ⟨g,cap,cur,hv,hg,?_,r⟩⟩
 rw [hk g (by rw [hv];rfl)]
 exact hh
variable {S S':Nat->Prop}
theorem NRep.moved {w:World}{e:NE}(h:NRep w S B v e)(hz:w.heap.size<=w'.heap.size)(hk:∀ b,S b->b<w.heap.size->w'.heap[b]? = w.heap[b]? /\ S' b)(hb:∀ g,Az v=some g->w'.heap[g]? = w.heap[g]?):NRep w' S' B v e:=by
 cases e with
 |row ty sz xs =>
  obtain ⟨h1,vs,hown,hc,hr,ho⟩:=h
  exact ⟨h1,vs,hown.moved hb,hc,fun k hk' j hj=>(hr k hk' j hj).mono hz hk,ho⟩
 |mp ps =>
  obtain ⟨g,ps0,hv,hm,hp⟩:=h
  exact ⟨g,ps0,hv,hm.move hz hk (hb g (by rw [hv];rfl)),hp⟩
 |hole=>exact h
variable {γ':Gam}{d:Option (Option Nat×Value)}{e:Ent}
theorem B6.move (h:B6 w S γ B d e)(hz:w.heap.size<=w'.heap.size)
  (hk:∀ b,S b->b<w.heap.size->w'.heap[b]? = w.heap[b]? /\ S' b) (hγ:∀ id d,γ id=some d->γ' id=some d\/γ' id=some none\/Turn γ' id d) (hblk:∀ b,b∈blks d->w'.heap[b]? = w.heap[b]?):B6 w' S' γ' B d e:=by
 cases e with
 |box ty cells =>
  obtain ⟨g,vs,hd,hb,hs,hr,h1⟩:=h
  exact ⟨g,vs,hd,(hblk g (by rw [hd];exact Bh)).trans hb,hs,fun i hi=>((hr i hi).mono hz hk).gam hγ,h1⟩
 |row ty sz xs =>
  obtain ⟨s,vs,hd,h1,hown,hc,hr,ho⟩:=h
  refine ⟨s,vs,hd,h1,⟨hown.1,hown.2.elim aV (fun ⟨g,cap,cur,hv,hg,hh,r⟩=>bS ⟨g,cap,cur,hv,hg,?_,r⟩)⟩,hc,fun k hk' j hj=>(hr k hk' j hj).mono hz hk,ho⟩
  subst hv
  exact (hblk g (by rw [hd];exact Bh)).trans hh
 |mp ps =>
  obtain ⟨g,hd,hm⟩:=h
  exact ⟨g,hd,hm.move hz hk (hblk g (by rw [hd];exact Bh))⟩
 |nest ty es =>
  obtain ⟨s,vs,hd,h1,hsz,⟨us,hown,hu,hus⟩,hn,hnd⟩:=h
  have hb0:∀ g,Az s=some g->w'.heap[g]? = w.heap[g]? := fun g hg=>hblk g (by rw [hd];simp [blks,Ca,hg])
  have hbk:∀ k,k<es.length->∀ g,Az (vs.getD k undef)=some g->w'.heap[g]? = w.heap[g]? := fun k hk' g hg=>hblk g (by
   rw [hd]
   simp only [blks,aW,bI,Ca,aR]
   refine ⟨vs.getD k undef,?_,hg⟩
   have:k<vs.size:=by omega
   simp [aG,this])
  refine ⟨s,vs,hd,h1,hsz,⟨us,hown.moved fun g hg=>hb0 g hg,hu,hus⟩,fun k hk'=>?_,hnd⟩
  exact (hn k hk').moved hz hk (hbk k hk')
 |mpn ps =>
  obtain ⟨g,es,vs,hd,hh,hl,hsz,hbn,hkk,hvv,hn,hnd⟩:=h
  have hg0:w'.heap[g]? = w.heap[g]? := hblk g (by rw [hd];simp [blks,Ca,Az])
  have hbk:∀ k,k<ps.length->∀ g,Az (vs.getD k undef)=some g->w'.heap[g]? = w.heap[g]? := fun k hk' g hg=>hblk g (by
   rw [hd]
   simp only [blks,aW,bI,Ca,aR]
   refine ⟨vs.getD k undef,?_,hg⟩
   have:k<vs.size:=by omega
   simp [aG,this])
  exact ⟨g,es,vs,hd,hg0.trans hh,hl,hsz,hbn,fun j h h'=>(hkk j h h').mono hz hk,hvv,fun j h'=>(hn j h').moved hz hk (hbk j h'),hnd⟩
 |are ty idx os =>
  obtain ⟨s,vs,us,hd,h1,hsz,hown,hu,hix,hn,hnd⟩:=h
  have hb0:∀ g,Az s=some g->w'.heap[g]? = w.heap[g]? := fun g hg=>hblk g (by rw [hd];simp [blks,Ca,hg])
  have hbk:∀ k,k<os.length->∀ g,Az (vs.getD k undef)=some g->w'.heap[g]? = w.heap[g]? := fun k hk' g hg=>hblk g (by
   rw [hd]
   simp only [blks,aW,bI,Ca,aR]
   refine ⟨vs.getD k undef,?_,hg⟩
   have:k<vs.size:=by omega
   simp [aG,this])
  exact ⟨s,vs,us,hd,h1,hsz,hown.moved fun g hg=>hb0 g hg,hu,fun k hk'=>⟨fun h=>((hix k hk').1 h).mono hz hk,(hix k hk').2⟩,fun j h=>⟨(hn j h).1,(hn j h).2.moved hz hk (hbk j h)⟩,hnd⟩
 |it ps =>
  obtain ⟨g,hd,hi⟩:=h
  exact ⟨g,hd,hi.move hk hz (hblk g (by rw [hd];exact Bh)) (fun es s c d h=>RepM.move h hz hk)⟩
 |itp ps =>
  obtain ⟨g,hd,hi⟩:=h
  exact ⟨g,hd,hi.move hk hz (hblk g (by rw [hd];exact Bh)) (fun es s c d ⟨h0,s0,e,h1,h2,h3⟩=>⟨h0,s0,e,h1,h2,RepM.move h3 hz hk⟩)⟩
 |itc p ps =>
  obtain ⟨g,hd,hi⟩:=h
  exact ⟨g,hd,hi.move hk hz (hblk g (by rw [hd];exact Bh)) (fun es s c d ⟨h0,s0,e,h1,h2,h3,h4⟩=>⟨h0,s0,e,h1,h2,⟨h3.1.mono hz hk,h3.2.mono hz hk⟩,RepM.move h4 hz hk⟩)⟩
 |dead=>exact h
theorem B6.free {w:World}{γ:Gam}(h:B6 w S γ B d e)(hb:∀ ty cs,e≠.box ty cs):B6 w S γ' B d e:=by
 cases e with
 |box ty cs=>exact absurd rfl (hb ty cs)
 |_=>exact h
theorem B6.gmono {w:World}{γ:Gam}(h:B6 w S γ B d e)(hb:∀ ty cs,e≠.box ty cs)(hS:∀ b,S b->S' b):B6 w S' γ' B d e :=
 (h.move (γ':=γ) (aE _) (fun b hb _=>⟨rfl,hS b hb⟩) (fun id d h=>aV h) (fun _ _=>rfl)).free hb
variable {av:AV}
theorem StG.step (h:StG cx γ σ a w){wr:List (Nat×Ent)}(hd:∀ x,dst=some x->cx.E.np<=x/\x<cx.nt)(hz:w.heap.size<=w'.heap.size)
  (hk:∀ b,Sg cx.S0 cx.w0.heap.size γ b->b<w.heap.size->w'.heap[b]? = w.heap[b]? /\ Sg cx.S0 cx.w0.heap.size γ' b)
  (hγ:∀ id d,γ id=some d->γ' id=some d\/γ' id=some none\/Turn γ' id d)
  (hsame:∀ id,lkE wr id=none->γ' id=γ id/\∀ b d,γ id=some d->b∈blks d->w'.heap[b]? = w.heap[b]?)
  (hnew:∀ id e,lkE wr id=some e->∃ x,γ' id=some x/\B6 w' (Sg cx.S0 cx.w0.heap.size γ') γ' cx.w0.heap.size x e)
  (hinj:∀ id id' b d d',γ' id=some d->γ' id'=some d'->b∈blks d->b∈blks d'->id=id')
  (hge:∀ b,own γ' b->Nw cx.S0 cx.w0.heap.size b/\b<w'.heap.size) (hb:Below cx.w0.heap.size cx.w0 w')
  (hv:Rep w' (Sg cx.S0 cx.w0.heap.size γ') γ' av v) (hk0:∀ b,¬own γ b->b<w.heap.size->w'.heap[b]? = w.heap[b]? /\ ¬own γ' b) (hdr:cx.E.dr=true->w.drawn<=w'.drawn):StG cx γ' (σ.upd dst av wr) (a.put dst v) w':=by
 refine ⟨fun t=>?_,fun id=>?_,hinj,hge,hb,by rw [zu2];exact h.size,(h.defers.step hz hk0).put hd,fun b hb=>aF (h.gh b hb) hz,fun b hb=>?_,fun hd=>Nat.le_trans (h.dr hd) (hdr hd)⟩
 rotate_right
 ·obtain ⟨f2,f3,f4⟩:=h.fr b hb
  obtain ⟨k1,k2⟩:=hk0 b f2 f3
  exact ⟨k2,aF f3 hz,k1.trans f4⟩
 ·rw [AS.get_upd,zut a dst v t (fun x hx=>by rw [h.size];exact (hd x hx).2)]
  by_cases ht:dst=some t
  ·rw [if_pos ht,if_pos ht];exact hv
  ·rw [if_neg ht,if_neg ht];exact ((h.tm t).mono hz hk).gam hγ
 ·rw [AS.find_upd]
  cases hw:lkE wr id with
  |some e=>exact hnew id e hw
  |none =>
   rw [Option.none_or]
   obtain ⟨h1,h2⟩:=hsame id hw
   rw [h1]
   have:=h.me id
   cases hf:σ.find id with
   |none=>rw [hf] at this;exact this
   |some e =>
    rw [hf] at this
    obtain ⟨x,hx,he⟩:=this
    exact ⟨x,hx,he.move hz hk hγ (fun b hb=>h2 b x hx hb)⟩
theorem StG.put (h:StG cx γ σ a w)(hd:∀ x,dst=some x->cx.E.np<=x/\x<cx.nt)(hv:Rep w (Sg cx.S0 cx.w0.heap.size γ) γ av v):StG cx γ (σ.upd dst av []) (a.put dst v) w :=
 h.step hd (aE _) (fun b hb _=>⟨rfl,hb⟩) (fun id d hd=>aV hd) (fun id _=>⟨rfl,fun _ _ _ _=>rfl⟩) (fun id e he=>by simp [lkE] at he) h.inj h.ge h.below hv (fun b hb _=>⟨rfl,hb⟩) (fun _=>aE _)
theorem StG.grow (h:StG cx γ σ a w)(hd:∀ x,dst=some x->cx.E.np<=x/\x<cx.nt)(hb:Below w.heap.size w w')(hdr:cx.E.dr=true->w.drawn<=w'.drawn)(hv:Rep w' (Sg cx.S0 cx.w0.heap.size γ) γ av v):StG cx γ (σ.upd dst av []) (a.put dst v) w':=by
 refine h.step hd hb.size (fun b hS hlt=>⟨hb.block b hlt,hS⟩) (fun id d hd=>aV hd) (fun id _=>⟨rfl,fun b d hd hm=>hb.block b (h.ge b ⟨id,d,hd,hm⟩).2⟩) (fun id e he=>by simp [lkE] at he) h.inj
  (fun b hb'=>⟨(h.ge b hb').1,aF (h.ge b hb').2 hb.size⟩) (h.below.trans (hb.mono h.below.size)) hv (fun b hno hlt=>⟨hb.block b hlt,hno⟩) hdr
def Gam.set (γ:Gam)(id:Nat)(x:Option (Option Nat×Value)):Gam:=fun i=>if i=id then some x else γ i
theorem Gam.set_self (γ:Gam)(id:Nat)(x:Option (Option Nat×Value)):γ.set id x id=some x:=by simp [Gam.set]
theorem Gam.set_ne (γ:Gam)(id:Nat)(x:Option (Option Nat×Value)){i:Nat}(h:i≠id):γ.set id x i=γ i:=by simp [Gam.set,h]
theorem StG.name (h:StG cx γ σ a w){id g:Nat}{s:Value}(hd:∀ x,dst=some x->cx.E.np<=x/\x<cx.nt)(hn:σ.find id=none)(hb:Below w.heap.size w w')(hg:w.heap.size<=g)(hg':g<w'.heap.size)
  (he:B6 w' (Sg cx.S0 cx.w0.heap.size (γ.set id (some (some g,s)))) (γ.set id (some (some g,s))) cx.w0.heap.size (some (some g,s)) e)
  (hv:Rep w' (Sg cx.S0 cx.w0.heap.size (γ.set id (some (some g,s)))) (γ.set id (some (some g,s))) av v) (hdr:cx.E.dr=true->w.drawn<=w'.drawn:=by exact fun _=>Nat.le_refl _) (hns:Ca s=[]:=by rfl):StG cx (γ.set id (some (some g,s))) (σ.upd dst av [(id,e)]) (a.put dst v) w':=by
 have hγid:γ id=none:=by have:=h.me id;rw [hn] at this;exact this
 have hold:∀ i x,γ i=some x->i≠id:=fun i x hx e=>by subst e;rw [hγid] at hx;cases hx
 have hown:∀ b,own (γ.set id (some (some g,s))) b->b=g\/own γ b:=fun b ⟨i,d,hi,hm⟩=>by
  by_cases hid:i=id
  ·subst hid;rw [Gam.set_self] at hi;injection hi with hi;subst hi;exact aV (O5 hns hm)
  ·rw [Gam.set_ne _ _ _ hid] at hi;exact bS ⟨i,d,hi,hm⟩
 refine h.step hd hb.size (fun b hS hlt=>⟨hb.block b hlt,?_⟩) (fun i x hx=>aV ?_) (fun i hi=>?_) (fun i e' hi=>?_) (fun i j b d1 d2 h1 h2 m1 m2=>?_) (fun b hbo=>?_) (h.below.trans (hb.mono h.below.size)) hv (fun b hno hlt=>⟨hb.block b hlt,fun ho=>?_⟩) hdr
 rotate_right
 ·rcases hown b ho with rfl|ho
  ·omega
  ·exact hno ho
 ·rcases hS with hS|⟨h1,h2⟩
  ·exact aV hS
  ·refine bS ⟨h1,fun ho=>?_⟩
   rcases hown b ho with rfl|ho
   ·omega
   ·exact h2 ho
 ·rw [Gam.set_ne _ _ _ (hold i x hx)];exact hx
 ·have hid:i≠id:=fun e=>by subst e;simp [lkE] at hi
  refine ⟨Gam.set_ne _ _ _ hid,fun b d hg' hm=>hb.block b (h.ge b ⟨i,d,hg',hm⟩).2⟩
 ·have hid:i=id:=by
   simp only [lkE] at hi
   cases hbq:bQ id i with
   |true=>exact (aD hbq).symm
   |false=>rw [hbq] at hi;cases hi
  subst hid
  simp only [lkE,bT,aB] at hi
  subst hi
  exact ⟨_,Gam.set_self _ _ _,he⟩
 ·by_cases h1':i=id
  ·by_cases h2':j=id
   ·rw [h1',h2']
   ·subst h1'
    rw [Gam.set_self] at h1
    rw [Gam.set_ne _ _ _ h2'] at h2
    injection h1 with h1
    subst h1
    have:=(h.ge b ⟨j,d2,h2,m2⟩).2
    have:=O5 hns m1
    omega
  ·by_cases h2':j=id
   ·subst h2'
    rw [Gam.set_self] at h2
    rw [Gam.set_ne _ _ _ h1'] at h1
    injection h2 with h2
    subst h2
    have:=(h.ge b ⟨i,d1,h1,m1⟩).2
    have:=O5 hns m2
    omega
   ·rw [Gam.set_ne _ _ _ h1'] at h1
    rw [Gam.set_ne _ _ _ h2'] at h2
    exact h.inj i j b d1 d2 h1 h2 m1 m2
 ·rcases hown b hbo with rfl|ho
  ·have:=h.below.size
   exact ⟨⟨by omega,fun h0=>by have:=h.gh _ h0;omega⟩,hg'⟩
  ·have:=h.ge b ho
   exact ⟨this.1,aF this.2 hb.size⟩
end
variable {o:Oper}{w:World}
theorem Bu {a:Act}{K:Act->World->Prop}{Q:Exit->Act->World->Prop}(hnd:∀ c,o.op≠.defer c)(h:o.wp cx.P a w K Q):o.wpIn cx.F 0 cx.P a w K Q:=by
 unfold Oper.wp at h
 refine ⟨fun _ _=>trivial,?_⟩
 rw [Oper.semAt_eq _ _ _ hnd]
 generalize (execOp a.eval o).run cx.P w=r at *
 cases r with
 |ok x w' =>
  cases x with
  |enter f args =>
   simp only [Oper.upon,Oper.uponIn] at h ⊢
   exact ⟨fun h=>by simp [Fence.wide] at h,((callsIn_wide (n:=0-1)).2 h:_)⟩
  |row r args =>
   simp only [Oper.upon,Oper.uponIn] at h ⊢
   exact ⟨fun h=>by simp [Fence.wide] at h,fun c cs _=>let ⟨v,w',r,s⟩:=h c cs;⟨v,w',r,stepsIn_wide.2 s⟩⟩
  |_=>first|exact h|exact h.elim
 |halt x w'=>cases x<;>first|exact h|exact h.elim
variable {P:Program}
theorem z8x {ρ:Operand->Value}{w':World}{v:Value}(h:(execOp ρ o).run P w=.ok (.value v) w'):∀ c,o.op≠.defer c:=by
 intro c hc
 unfold execOp at h
 rw [hc] at h
 simp only [Sem.run_bind] at h
 cases hr:(resolve ρ c o.type).run P w with
 |ok d w2=>rw [hr] at h;simp [Result.andThen] at h
 |halt x w2=>rw [hr] at h;simp [Result.andThen] at h
def Ag (cx:Cx)(o:Oper)(σ:AS)(av:AV)(ids:List Nat)(wr:List (Nat×Ent)):Prop :=
 (∀ id e,lkE wr id=some e->id∈ids) /\
 ∀ τ:AS,(∀ x∈o.op.operands,τ.eval x=σ.eval x)->(∀ id∈ids,τ.find id=σ.find id)->∀ a w Q K,St cx τ a w->(∀ a' w',St cx (τ.upd o.dst av wr) a' w'->K a' w')->o.wpIn cx.F 0 cx.P a w K Q
def dok (cx:Cx)(o:Oper):Bool:=match o.dst with|some d=>Nat.ble cx.E.np d && Nat.blt d cx.nt|none=>true
theorem Bm (h:dok cx o=true):∀ x,o.dst=some x->cx.E.np<=x/\x<cx.nt:=fun x hx=>by
 unfold dok at h;rw [hx] at h;simpa using h
variable {ops:Array Oper}{σ:AS}{av:AV}{wr:List (Nat×Ent)}
theorem Ag.step {i:Nat}{ids:List Nat}(ho:ops[i]? = some o)(hg:o.guard=none)(h:Ag cx o σ av ids wr):Step cx ops i σ ⟨av,ids,wr⟩:=by
 refine ⟨h.1,fun τ h1 h2 a w Q K hst hK=>?_⟩
 have hd:Bf ops i=o.dst:=by simp [Bf,ho]
 have hl:F8 ops i=o.looksAt ops:=by simp [F8,ho]
 unfold Go.wpOpIn
 simp only [ho]
 rw [if_pos (by simp [Region.wanted,hg])]
 refine h.2 τ (fun x hx=>?_) h2 a w Q K hst (by rw [hd] at hK;exact hK)
 cases x with
 |tmp t =>
  refine h1 t ?_
  rw [hl]
  exact mem_append_left _ (aR.2 ⟨.tmp t,by simpa using hx,rfl⟩)
 |_=>rfl
variable {g:Nat}{want:Bool}
theorem Ag.step_guard {i t:Nat}{c:Bool}{ids:List Nat}(ho:ops[i]? = some o)(hg:o.guard=some (g,want))(ht:Bf ops g=some t)(hv:σ.get t=.bool c)(hc:c=want)
  (h:Ag cx o σ av ids wr):Step cx ops i σ ⟨av,ids,wr⟩:=by
 refine ⟨h.1,fun τ h1 h2 a w Q K hst hK=>?_⟩
 have hd:Bf ops i=o.dst:=by simp [Bf,ho]
 have hl:F8 ops i=o.looksAt ops:=by simp [F8,ho]
 have htl:t∈F8 ops i:=by
  rw [hl]
  refine bN _ ?_
  simp only [hg]
  have:(ops[g]?).bind (·.dst)=some t:=ht
  simp [this]
 have hval:a.tmps.getD t undef=.bool c:=by
  obtain ⟨γ,hs⟩:=hst
  have:=hs.tm t
  rw [h1 t htl,hv] at this
  exact this.bool_inv
 unfold Go.wpOpIn
 simp only [ho]
 have hw:Region.wanted o (yielded ops a.tmps)=true:=by
  have ht':(ops[g]?).bind (·.dst)=some t:=ht
  simp only [Region.wanted,hg,yielded]
  rw [ht']
  rw [aA] at hval
  cases hq:a.tmps[t]? with
  |none=>rw [hq] at hval;simp [undef] at hval
  |some u=>rw [hq] at hval;simp at hval;subst hval;simp [hq,hc]
 rw [if_pos hw]
 refine h.2 τ (fun x hx=>?_) h2 a w Q K hst (by rw [hd] at hK;exact hK)
 cases x with
 |tmp t =>
  refine h1 t ?_
  rw [hl]
  exact mem_append_left _ (aR.2 ⟨.tmp t,by simpa using hx,rfl⟩)
 |_=>rfl
theorem za8 {i t:Nat}(ho:ops[i]? = some o)(hok:dok cx o=true)(hg:o.guard=some (g,want))(ht:Bf ops g=some t)(hv:(∃ c,σ.get t=.bool c/\c≠want)\/σ.get t=.tup []):Step cx ops i σ ⟨.tup [],[],[]⟩:=by
 refine ⟨fun id e he=>by simp [lkE] at he,fun τ h1 h2 a w Q K hst hK=>?_⟩
 have hd:Bf ops i=o.dst:=by simp [Bf,ho]
 have hl:F8 ops i=o.looksAt ops:=by simp [F8,ho]
 have ht':(ops[g]?).bind (·.dst)=some t:=ht
 have htl:t∈F8 ops i:=by
  rw [hl]
  refine bN _ ?_
  simp only [hg]
  simp [ht']
 obtain ⟨γ,hs⟩:=hst
 have htm:=hs.tm t
 rw [h1 t htl] at htm
 unfold Go.wpOpIn
 simp only [ho]
 have hw:¬Region.wanted o (yielded ops a.tmps)=true:=by
  simp only [Region.wanted,hg,yielded]
  rw [ht']
  rcases hv with ⟨c,hc,hne⟩|hc
  ·rw [hc] at htm
   have:=htm.bool_inv
   rw [aA] at this
   cases hq:a.tmps[t]? with
   |none=>simp [hq]
   |some u=>rw [hq] at this;simp at this;subst this;simp [hq,hne]
  ·rw [hc] at htm
   obtain ⟨vs,hvs,_,_⟩:=htm.tup_inv
   rw [aA] at hvs
   cases hq:a.tmps[t]? with
   |none=>simp [hq]
   |some u=>rw [hq] at hvs;simp at hvs;subst hvs;simp [hq]
 rw [if_neg hw]
 refine ⟨fun _ _=>trivial,hK _ _ ⟨γ,?_⟩⟩
 rw [hd]
 exact hs.put (Bm hok) (.tup #[] rfl (fun i hi=>by simp at hi))
def Exec (cx:Cx)(ops:Array Oper)(i:Nat)(σ:AS)(trs:List Tr)(Post:List Tr->AS->Prop):Prop:=∃ trs' σ',Run cx ops i σ trs' σ'/\Post (trs.reverse++trs') σ'
section
variable {cx:Cx} {ops:Array Oper} {i:Nat} {σ:AS} {trs:List Tr} {Post:List Tr->AS->Prop}
theorem Exec.done (h:ops.size<=i)(hp:Post trs.reverse σ):Exec cx ops i σ trs Post:=⟨[],σ,.done h (Ext.refl _),by simpa using hp⟩
theorem Exec.cons {tr:Tr}(h:i<ops.size)(hs:Step cx ops i σ tr)(k:Exec cx ops (i+1) (σ.upd (Bf ops i) tr.val tr.wr) (tr::trs) Post):Exec cx ops i σ trs Post:=by
 obtain ⟨trs',σ',hr,hp⟩:=k
 exact ⟨tr::trs',σ',.step h hs (Ext.refl _) hr,by simpa using hp⟩
theorem Exec.ext {σ':AS}(h:Ext σ' σ)(k:Exec cx ops i σ' trs Post):Exec cx ops i σ trs Post:=by
 obtain ⟨trs',τ,hr,hp⟩:=k
 have hs:Ext σ σ':=⟨fun t=>(h.1 t).symm,fun i=>(h.2 i).symm⟩
 cases hr with
 |done hle hx=>exact ⟨[],τ,.done hle (hx.trans h),hp⟩
 |step hlt hst hx hr=>exact ⟨_,τ,.step hlt (hst.ext hs) (hx.trans (h.upd _ _ _)) hr,hp⟩
theorem Exec.op {ids:List Nat}(ho:ops[i]? = some o)(hg:o.guard=none)(h:Ag cx o σ av ids wr)(k:Exec cx ops (i+1) (σ.upd o.dst av wr) (⟨av,ids,wr⟩::trs) Post):Exec cx ops i σ trs Post :=
 Exec.cons (aC.1 ho).1 (Ag.step ho hg h) (by
  have hd:Bf ops i=o.dst:=by simp [Bf,ho]
  rw [hd];exact k)
theorem Exec.guard {t:Nat}{c:Bool}(ho:ops[i]? = some o)(hg:o.guard=some (g,want))(ht:Bf ops g=some t)(hv:σ.get t=.bool c)(hok:dok cx o=true)
  (h1:c=want->∃ av ids wr,Ag cx o σ av ids wr/\Exec cx ops (i+1) (σ.upd o.dst av wr) (⟨av,ids,wr⟩::trs) Post)
  (h2:c≠want->Exec cx ops (i+1) (σ.upd o.dst (.tup []) []) (⟨.tup [],[],[]⟩::trs) Post):Exec cx ops i σ trs Post:=by
 have hd:Bf ops i=o.dst:=by simp [Bf,ho]
 by_cases hc:c=want
 ·obtain ⟨av,ids,wr,hr,k⟩:=h1 hc
  exact Exec.cons (aC.1 ho).1 (Ag.step_guard ho hg ht hv hc hr) (by rw [hd];exact k)
 ·exact Exec.cons (aC.1 ho).1 (za8 ho hok hg ht (aV ⟨c,hv,hc⟩)) (by rw [hd];exact h2 hc)
end
section
variable {cx:Cx} {Q:Exit->AS->Prop} {σ:AS} {id:Nat} {ops:Array Oper}
theorem WP.region (h:Exec cx ops 0 σ [] (fun _ σ'=>Q .normal σ')):WP cx (.region id ops false) Q σ:=fun a w hs=>by
 obtain ⟨trs,σ',hr,hp⟩:=h
 refine wpIn_region ?_
 have:=hr.wpOps (Q:=lift cx Q) (fun a w hs=>⟨σ',hp,hs⟩) (aX _) a w hs
 rw [range_eq_range']
 simpa using this
theorem WP.region_draw (he:Rx ops=true)(h:Exec cx ops 0 σ [] (fun trs σ'=>Sc ops trs=true/\Q .normal σ')):WP cx (.region id ops true) Q σ:=fun a w hs=>by
 obtain ⟨trs,σ',hr,hc,hp⟩:=h
 simp only [reverse_nil,bI] at hc hp
 refine wpIn_region_any cx.E.mixed ?_
 obtain ⟨h1,h2⟩:=hr.steps (σ0:=σ) (tr:=fun k=>trs.getD k default) (aX _) (fun j _=>by simp) (Ext.refl _)
 refine ztk (fun j hj=>h1 j (aX _) hj) (fun i j hij hj hcl=>?_) (fun j o ho e he' hb=>?_) (fun a w hs=>⟨σ',hp,hs.congr h2.1 h2.2⟩) ops.size _ (by simp) (by simp) (fun j o _ hj=>by
  simp only [aA,aK] at hj
  split at hj<;>simp at hj) a _ ?_
 ·simp only [Sc,all_eq_true,mem_range,bO,bK] at hc
  rcases hc j hj i hij with h|h
  ·rw [hcl] at h;cases h
  ·exact h
 ·simp only [Rx,all_eq_true,mem_range] at he
  have:=he j (aC.1 ho).1
  rw [ho] at this
  simp only [Array.all_eq_true_iff_forall_mem,bO,bK] at this
  rcases this e he' with h|h
  ·rw [hb] at h;cases h
  ·simpa using h
 ·have hs':St cx σ a { w with drawn:=w.drawn+1 }:=by
   obtain ⟨γ,hs⟩:=hs
   have hbl:Below w.heap.size w { w with drawn:=w.drawn+1 }:=⟨rfl,rfl,rfl,aE _,fun _ _=>rfl⟩
   have:=hs.grow (dst:=none) (av:=.any) (v:=undef) (fun x hx=>by cases hx) hbl (fun _=>Nat.le_succ _) (.any _)
   exact ⟨γ,this⟩
  refine hs'.congr (fun t=>?_) (fun i=>?_)
  ·have:∀ k,(Bo (Bf ops) (fun k=>trs.getD k default) (fun i=>(bP ops.size false).getD i false) σ k).get t=σ.get t:=fun k =>
    z9x _ _ 0 k t (aX _) (fun j _ _ _=>by simp only [aA,aK];split<;>simp)
   exact this _
  ·have:∀ k,(Bo (Bf ops) (fun k=>trs.getD k default) (fun i=>(bP ops.size false).getD i false) σ k).find i=σ.find i:=fun k =>
    z8j _ _ 0 k i (aX _) (fun j _ _ _=>by simp only [aA,aK];split<;>simp)
   exact this _
theorem WP.cond {c:Operand}{x y:Code}{b:Bool}(hok:A5 c=true)(hc:σ.eval c=.bool b)(ht:b=true->WP cx x Q σ)(hf:b=false->WP cx y Q σ):WP cx (.cond c x y) Q σ:=fun a w hs=>by
 obtain ⟨γ,h⟩:=hs
 have he:=h.ev c hok
 rw [hc] at he
 exact wpIn_cond_split he.bool_inv (fun h'=>ht h' a w ⟨γ,h⟩) (fun h'=>hf h' a w ⟨γ,h⟩)
end
section
variable {cx:Cx} {o:Oper} {σ:AS}
theorem Ay {ids:List Nat}(hd:dok cx o=true)
  (h:∀ τ γ a w,(∀ x∈o.op.operands,τ.eval x=σ.eval x)->(∀ id∈ids,τ.find id=σ.find id)->StG cx γ τ a w->∃ v,(execOp a.eval o).run cx.P w=.ok (.value v) w/\Rep w (Sg cx.S0 cx.w0.heap.size γ) γ av v):Ag cx o σ av ids []:=by
 refine ⟨fun id e he=>by simp [lkE] at he,fun τ h1 h2 a w Q K ⟨γ,hst⟩ hK=>?_⟩
 obtain ⟨v,hr,hv⟩:=h τ γ a w h1 h2 hst
 refine Bu (z8x hr) ?_
 unfold Oper.wp
 rw [hr]
 exact hK _ _ ⟨γ,hst.put (Bm hd) hv⟩
theorem zqa {ids:List Nat}(hd:dok cx o=true)
  (h:∀ τ γ a w,(∀ x∈o.op.operands,τ.eval x=σ.eval x)->(∀ id∈ids,τ.find id=σ.find id)->StG cx γ τ a w->∃ v w',(execOp a.eval o).run cx.P w=.ok (.value v) w'/\Below w.heap.size w w'/\(cx.E.dr=true->w.drawn<=w'.drawn)/\Rep w' (Sg cx.S0 cx.w0.heap.size γ) γ av v):Ag cx o σ av ids []:=by
 refine ⟨fun id e he=>by simp [lkE] at he,fun τ h1 h2 a w Q K ⟨γ,hst⟩ hK=>?_⟩
 obtain ⟨v,w',hr,hb,hdr,hv⟩:=h τ γ a w h1 h2 hst
 refine Bu (z8x hr) ?_
 unfold Oper.wp
 rw [hr]
 exact hK _ _ ⟨γ,hst.grow (Bm hd) hb hdr hv⟩
variable {x:Operand}
theorem zz2 (ho:o.op=.move x)(hd:dok cx o=true)(hxo:A5 x=true)(hx:σ.eval x=av):Ag cx o σ av [] [] :=
 Ay hd fun τ γ a w h1 _ hst=>⟨a.eval x,by simp [execOp,ho],by
  have:=hst.ev x hxo
  rwa [h1 x (by simp [ho,Op.operands]),hx] at this⟩
theorem zu0 (ho:o.op=.assign x)(hd:dok cx o=true)(hxo:A5 x=true)(hx:σ.eval x=av):Ag cx o σ av [] [] :=
 Ay hd fun τ γ a w h1 _ hst=>⟨a.eval x,by simp [execOp,ho],by
  have:=hst.ev x hxo
  rwa [h1 x (by simp [ho,Op.operands]),hx] at this⟩
def AV.toV:AV->Value
 |.int k n=>.int k n
 |.bool b=>.bool b
 |_=>undef
def binI:BinOp->IntKind->Int->Int->Option AV
 |.add,k,a,b=>some (.int k (k.wrap (a+b)))
 |.sub,k,a,b=>some (.int k (k.wrap (a-b)))
 |.mul,k,a,b=>some (.int k (k.wrap (a*b)))
 |.eql,_,a,b=>some (.bool (decide (a=b)))
 |.neq,_,a,b=>some (.bool (!decide (a=b)))
 |.lss,_,a,b=>some (.bool (decide (a<b)))
 |.leq,_,a,b=>some (.bool (decide (a<=b)))
 |.gtr,_,a,b=>some (.bool (decide (b<a)))
 |.geq,_,a,b=>some (.bool (decide (b<=a)))
 |_,_,_,_=>none
variable {y:Operand}{t t2:TypeId}{k:IntKind}{a:Int}
theorem zz7 {op:BinOp}{b:Int}(ho:o.op=.binOp op t x y t2)(hd:dok cx o=true)(hxo:A5 x=true)(hyo:A5 y=true)(hx:σ.eval x=.int k a)(hy:σ.eval y=.int k b)(hc:binI op k a b=some av) :
  Ag cx o σ av [] [] :=
 Ay hd fun τ γ ac w h1 _ hst=>by
  have e1:=hst.ev x hxo
  rw [h1 x (by simp [ho,Op.operands]),hx] at e1
  have e2:=hst.ev y hyo
  rw [h1 y (by simp [ho,Op.operands]),hy] at e2
  have f1:=e1.int_inv
  have f2:=e2.int_inv
  refine ⟨av.toV,?_,?_⟩
  ·cases op<;>simp only [binI,aB,reduceCtorEq] at hc<;>subst hc <;>
    first
     |(simp [execOp,ho,f1,f2,eqGuard,binOp,Op.intArith,Op.intCmp,pure,AV.toV];done)
     |(simp [execOp,ho,f1,f2,eqGuard,binOp,Op.intArith,Op.intCmp,pure,AV.toV];rfl)
     |(simp [execOp,ho,f1,f2,eqGuard,binOp,Op.intArith,Op.intCmp,pure,AV.toV];rw [Bool.eq_iff_iff];simp)
  ·cases op<;>simp only [binI,aB,reduceCtorEq] at hc<;>subst hc<;>first|exact .int _ _|exact .bool _
theorem y0q {b c:Int}(ho:o.op=.binOp .rem t x y t2)(hd:dok cx o=true)(hxo:A5 x=true)(hyo:A5 y=true)(hx:σ.eval x=.int k a)(hy:σ.eval y=.int k b)(hb:b≠0)(hc:a.tmod b=c):Ag cx o σ (.int k c) [] [] :=
 Ay hd fun τ γ ac w h1 _ hst=>by
  have e1:=hst.ev x hxo
  rw [h1 x (by simp [ho,Op.operands]),hx] at e1
  have e2:=hst.ev y hyo
  rw [h1 y (by simp [ho,Op.operands]),hy] at e2
  exact ⟨.int k c,by simp [execOp,ho,e1.int_inv,e2.int_inv,eqGuard,binOp,Op.intDiv,pure,hb,hc],.int _ _⟩
theorem y0r {b c:Int}(ho:o.op=.binOp .quo t x y t2)(hd:dok cx o=true)(hxo:A5 x=true)(hyo:A5 y=true)(hx:σ.eval x=.int k a)(hy:σ.eval y=.int k b)(hb:b≠0)(hc:k.wrap (a.tdiv b)=c):Ag cx o σ (.int k c) [] [] :=
 Ay hd fun τ γ ac w h1 _ hst=>by
  have e1:=hst.ev x hxo
  rw [h1 x (by simp [ho,Op.operands]),hx] at e1
  have e2:=hst.ev y hyo
  rw [h1 y (by simp [ho,Op.operands]),hy] at e2
  exact ⟨.int k c,by simp [execOp,ho,e1.int_inv,e2.int_inv,eqGuard,binOp,Op.intDiv,pure,hb,hc],.int _ _⟩
variable {b:Bool}
theorem y0s (ho:o.op=.unOp .not t x)(hd:dok cx o=true)(hxo:A5 x=true)(hx:σ.eval x=.bool b):Ag cx o σ (.bool (!b)) [] [] :=
 Ay hd fun τ γ ac w h1 _ hst=>by
  have e1:=hst.ev x hxo
  rw [h1 x (by simp [ho,Op.operands]),hx] at e1
  exact ⟨.bool (!b),by simp [execOp,ho,e1.bool_inv,Op.unary,pure],.bool _⟩
theorem y0t {c:Int}(ho:o.op=.unOp .neg t x)(hd:dok cx o=true)(hxo:A5 x=true)(hx:σ.eval x=.int k a)(hc:k.wrap (0-a)=c):Ag cx o σ (.int k c) [] [] :=
 Ay hd fun τ γ ac w h1 _ hst=>by
  have e1:=hst.ev x hxo
  rw [h1 x (by simp [ho,Op.operands]),hx] at e1
  exact ⟨.int k c,by simp [execOp,ho,e1.int_inv,Op.unary,Op.intArith,pure,<-hc],.int _ _⟩
theorem zb9 {c:Operand}(ho:o.op=.pick c x y)(hd:dok cx o=true)(hco:A5 c=true)(hxo:A5 x=true)(hc:σ.eval c=.bool b)(hb:b=true)(hx:σ.eval x=av):Ag cx o σ av [] [] :=
 Ay hd fun τ γ ac w h1 _ hst=>by
  have e1:=hst.ev c hco
  rw [h1 c (by simp [ho,Op.operands]),hc] at e1
  have e2:=hst.ev x hxo
  rw [h1 x (by simp [ho,Op.operands]),hx] at e2
  exact ⟨ac.eval x,by simp [execOp,ho,e1.bool_inv,asBool,hb,pure],e2⟩
theorem zab {c:Operand}(ho:o.op=.pick c x y)(hd:dok cx o=true)(hco:A5 c=true)(hyo:A5 y=true)(hc:σ.eval c=.bool b)(hb:b=false)(hy:σ.eval y=av):Ag cx o σ av [] [] :=
 Ay hd fun τ γ ac w h1 _ hst=>by
  have e1:=hst.ev c hco
  rw [h1 c (by simp [ho,Op.operands]),hc] at e1
  have e2:=hst.ev y hyo
  rw [h1 y (by simp [ho,Op.operands]),hy] at e2
  exact ⟨ac.eval y,by simp [execOp,ho,e1.bool_inv,asBool,hb,pure],e2⟩
theorem y0x {a:Bool}(ho:o.op=.binOp .eql t x y t2)(hd:dok cx o=true)(hxo:A5 x=true)(hyo:A5 y=true)(hx:σ.eval x=.bool a)(hy:σ.eval y=.bool b)(ht:cx.P.underlying t=some .bool):Ag cx o σ (.bool (a == b)) [] [] :=
 Ay hd fun τ γ ac w h1 _ hst=>by
  have e1:=hst.ev x hxo
  rw [h1 x (by simp [ho,Op.operands]),hx] at e1
  have e2:=hst.ev y hyo
  rw [h1 y (by simp [ho,Op.operands]),hy] at e2
  have hq:∀ n:Nat,(Op.equalIn (n+1) t (.bool a) (.bool b)).run cx.P w=.ok (a == b) w:=fun n=>by simp [Op.equalIn,run_underlying ht,pure]
  exact ⟨.bool (a == b),by simp [execOp,ho,e1.bool_inv,e2.bool_inv,eqGuard,binOp,Op.equal,Op.maxDepth,hq 9999,pure],.bool _⟩
theorem y0u {a:Bool}(ho:o.op=.binOp .neq t x y t2)(hd:dok cx o=true)(hxo:A5 x=true)(hyo:A5 y=true)(hx:σ.eval x=.bool a)(hy:σ.eval y=.bool b)(ht:cx.P.underlying t=some .bool):Ag cx o σ (.bool (!(a == b))) [] [] :=
 Ay hd fun τ γ ac w h1 _ hst=>by
  have e1:=hst.ev x hxo
  rw [h1 x (by simp [ho,Op.operands]),hx] at e1
  have e2:=hst.ev y hyo
  rw [h1 y (by simp [ho,Op.operands]),hy] at e2
  have hq:∀ n:Nat,(Op.equalIn (n+1) t (.bool a) (.bool b)).run cx.P w=.ok (a == b) w:=fun n=>by simp [Op.equalIn,run_underlying ht,pure]
  exact ⟨.bool (!(a == b)),by simp [execOp,ho,e1.bool_inv,e2.bool_inv,eqGuard,binOp,Op.equal,Op.maxDepth,hq 9999,pure],.bool _⟩
variable {T:TypeId}{i:TyI}
theorem TyOk.size (h:TyOk P T i)(w:World):(sizeOf T).run P w=.ok i.sz w:=by
 have:=h.info
 cases hq:P.info? T with
 |none=>rw [hq] at this;simp at this
 |some x=>rw [hq] at this;simp at this;simp [sizeOf,typeInfo,hq,this.1]
theorem TyOk.cells (h:TyOk P T i):P.cellsOf T=i.sz:=by
 have:=h.info
 cases hq:P.info? T with
 |none=>rw [hq] at this;simp at this
 |some x=>rw [hq] at this;simp at this;simp [Program.cellsOf,hq,this.1]
theorem TyOk.zeroV (h:TyOk P T i)(w:World):(zeroValue T).run P w=.ok i.zero w:=by
 have:=h.zero
 cases hq:P.info? T with
 |none=>rw [hq] at this;simp at this
 |some x=>rw [hq] at this;simp at this;simp [zeroValue,typeInfo,hq,this]
theorem TyOk.und (h:TyOk P T i):∃ d,P.underlying T=some d/\Dk P d=i.shape:=by
 have:=h.shape
 cases hq:P.underlying T with
 |none=>rw [hq] at this;simp at this
 |some d=>rw [hq] at this;simp at this;exact ⟨d,rfl,this⟩
def E3.agg:E3->Bool
 |.strct _=>true
 |.arr _ _ _ _=>true
 |_=>false
theorem TyOk.agg (h:TyOk P T i)(w:World):(isAgg T).run P w=.ok i.shape.agg w:=by
 obtain ⟨d,hd,hs⟩:=h.und
 rw [<-hs]
 cases d<;>simp [isAgg,run_underlying hd,Dk,E3.agg,pure]
theorem Xf (h:aggT P T=some b)(w:World):(isAgg T).run P w=.ok b w:=by
 unfold aggT at h
 split at h
 ·rename_i fs hq;injection h with h;subst h;simp [isAgg,run_underlying hq,pure]
 ·rename_i n e hq;injection h with h;subst h;simp [isAgg,run_underlying hq,pure]
 ·rename_i d h1 h2 hq
  injection h with h
  subst h
  cases d<;>first|exact (h1 _ rfl).elim|exact (h2 _ _ rfl).elim|simp [isAgg,run_underlying hq,pure]
 ·cases h
end
theorem Xe (P:Program)(w:World)(e:TypeId)(cs:Array Value):(newRow e cs).run P w=.ok ⟨w.heap.size,0,none⟩ (w.alloc (.cells cs e)):=by
 rfl
section
variable {cx:Cx} {o:Oper} {σ:AS}
def AV.ids:AV->List Nat
 |.ptr id _=>[id]
 |.row id=>[id]
 |.elt id _ _ _=>[id]
 |.der _ id=>[id]
 |_=>[]
def okc (σ:AS):AV->Bool
 |.any=>false
 |.tup _=>false
 |.ptr id _=>match σ.find id with|some (.box _ _)=>true|_=>false
 |.row id=>match σ.find id with|some (.row _ _ _)=>true|some (.mp _)=>true|_=>false
 |.elt _ _ _ _=>false
 |.der _ _=>false
 |_=>true
theorem Uy {cx:Cx}{γ:Gam}{τ σ:AS}{a:Act}(h:StG cx γ τ a w){v:Value}(hv:Rep w (Sg cx.S0 cx.w0.heap.size γ) γ av v)(ho:okc σ av=true)(hids:∀ id∈av.ids,τ.find id=σ.find id) :
  v.cells.size=av.cells.length/\(∀ i (hi:i<av.cells.length),Rep w (Sg cx.S0 cx.w0.heap.size γ) γ av.cells[i] (v.cells.getD i undef))/\∀ i,i<v.cells.size->(v.cells.getD i undef).oneCell'=true:=by
 have single:av.cells=[av]->v.oneCell'=true->v.cells.size=av.cells.length/\(∀ i (hi:i<av.cells.length),Rep w (Sg cx.S0 cx.w0.heap.size γ) γ av.cells[i] (v.cells.getD i undef))/\∀ i,i<v.cells.size->(v.cells.getD i undef).oneCell'=true:=by
  intro hc h1
  have hvc:v.cells=#[v]:=by cases v<;>first|rfl|simp [Value.oneCell'] at h1
  refine ⟨by rw [hvc,hc];rfl,fun i hi=>?_,fun i hi=>?_⟩
  ·have hi0:i=0:=by rw [hc] at hi;simpa using hi
   subst hi0
   simp only [hc,hvc]
   exact hv
  ·have hi0:i=0:=by rw [hvc] at hi;simpa using hi
   subst hi0
   simp only [hvc]
   exact h1
 cases av with
 |any=>simp [okc] at ho
 |tup cs=>simp [okc] at ho
 |elt id sz k j=>simp [okc] at ho
 |der φ id=>simp [okc] at ho
 |agg cs =>
  obtain ⟨vs,rfl,hl,hr,h1⟩:=hv.agg_inv
  exact ⟨hl,hr,h1⟩
 |ptr id off =>
  have hf:=hids id (by simp [AV.ids])
  have hme:=h.me id
  simp only [okc] at ho
  split at ho
  ·rename_i ty cs hfs
   rw [hf,hfs] at hme
   obtain ⟨x,hx,g,vs,hxe,_⟩:=hme
   subst hxe
   have:=hv.ptr_inv hx
   exact single rfl (by rw [this];rfl)
  ·cases ho
 |row id =>
  have hf:=hids id (by simp [AV.ids])
  have hme:=h.me id
  simp only [okc] at ho
  split at ho
  ·rename_i ty sz xs hfs
   rw [hf,hfs] at hme
   obtain ⟨x,hx,s,vs,hxe,hone,_⟩:=hme
   subst hxe
   have:=hv.row_inv hx
   exact single rfl (by rw [this];exact hone)
  ·rename_i ps hfs
   rw [hf,hfs] at hme
   obtain ⟨x,hx,g,hxe,_⟩:=hme
   subst hxe
   have:=hv.row_inv hx
   exact single rfl (by rw [this];rfl)
  ·cases ho
 |_=>exact single rfl (hv.one rfl)
variable {T:Nat}{i:TyI}
theorem zwq {d:Nat}(ho:o.op=.alloc T)(hdst:o.dst=some d)(hd:dok cx o=true)(hT:lkT cx.E.tab T=some i)(hn:σ.find d=none)(hz:i.zero.cells.all (·.oneCell')=true) :
  Ag cx o σ (.ptr d 0) [d] [(d,.box T (i.zero.cells.toList.map AV.ofV))]:=by
 refine ⟨fun id e he=>?_,fun τ h1 h2 a w Q K ⟨γ,hst⟩ hK=>Bu (fun c hc=>by rw [ho] at hc;cases hc) ?_⟩
 ·simp only [lkE] at he
  cases hb:bQ d id with
  |true=>simp [aD hb]
  |false=>rw [hb] at he;cases he
 have hok:=cx.E.ok T i hT
 have hrun:(execOp a.eval o).run cx.P w=.ok (.value (.pointer (some ⟨w.heap.size,0,none⟩))) (w.alloc (.cells i.zero.cells T)):=by
  simp [execOp,ho,Instr.alloc,hok.zeroV,newVar,Xe,pure]
 unfold Oper.wp
 rw [hrun]
 refine hK _ _ ⟨_,hst.name (id:=d) (g:=w.heap.size) (s:=.slice none 0 0) (e:=.box T (i.zero.cells.toList.map AV.ofV)) (Bm hd) (by rw [h2 d (by simp)];exact hn) ((Below.refl _ _).alloc (aE _) _) (aE _) (by simp) ?_ ?_⟩
 ·refine ⟨w.heap.size,i.zero.cells,rfl,Blk.new w _ _,by simp,fun j hj=>?_,fun j hj=>?_⟩
  ·have hj':j<i.zero.cells.size:=by simpa using hj
   have:i.zero.cells.getD j undef=i.zero.cells[j]:=by simp [aG,hj']
   simp only [aS,bD,this]
   exact O3 _ _ _ _
  ·have:i.zero.cells.getD j undef=i.zero.cells[j]:=by simp [aG,hj]
   rw [this]
   simp only [bJ] at hz
   exact hz j hj
 ·exact .ptr (Gam.set_self _ _ _) (fun g s e=>by injection e with e;injection e with e _;injection e with e;rw [e])
variable {x:Operand}
theorem y0y {d:Nat}(ho:o.op=.box T x)(hdst:o.dst=some d)(hd:dok cx o=true)(hxo:A5 x=true)(hx:σ.eval x=av)(hc:okc σ av=true)(hn:σ.find d=none) :
  Ag cx o σ (.ptr d 0) (d::av.ids) [(d,.box T av.cells)]:=by
 refine ⟨fun id e he=>?_,fun τ h1 h2 a w Q K ⟨γ,hst⟩ hK=>Bu (fun c hc=>by rw [ho] at hc;cases hc) ?_⟩
 ·simp only [lkE] at he
  cases hb:bQ d id with
  |true=>simp [aD hb]
  |false=>rw [hb] at he;cases he
 have hev:=hst.ev x hxo
 rw [h1 x (by simp [ho,Op.operands]),hx] at hev
 obtain ⟨c1,c2,c3⟩:=Uy hst hev hc (fun id hid=>h2 id (by simp [hid]))
 have hrun:(execOp a.eval o).run cx.P w=.ok (.value (.pointer (some ⟨w.heap.size,0,none⟩))) (w.alloc (.cells (a.eval x).cells T)):=by
  simp [execOp,ho,Instr.box,newVar,Xe,pure]
 unfold Oper.wp
 rw [hrun]
 have hγd:γ d=none:=by have:=hst.me d;rw [h2 d (by simp),hn] at this;exact this
 have hbl:Below w.heap.size w (w.alloc (.cells (a.eval x).cells T)):=(Below.refl _ _).alloc (aE _) _
 refine hK _ _ ⟨_,hst.name (id:=d) (g:=w.heap.size) (s:=.slice none 0 0) (e:=.box T av.cells) (Bm hd) (by rw [h2 d (by simp)];exact hn) hbl (aE _) (by simp) ?_ ?_⟩
 ·refine ⟨w.heap.size,(a.eval x).cells,rfl,Blk.new w _ _,c1,fun j hj=>?_,c3⟩
  refine ((c2 j hj).mono hbl.size (fun b hS hlt=>⟨hbl.block b hlt,?_⟩)).gam (fun id x hx=>aV ?_)
  ·rcases hS with hS|⟨h1,h2⟩
   ·exact aV hS
   ·refine bS ⟨h1,fun ⟨i,s',hi,hb⟩=>?_⟩
    by_cases hid:i=d
    ·subst hid;rw [Gam.set_self] at hi;injection hi with hi;subst hi;have:=O5 rfl hb;omega
    ·rw [Gam.set_ne _ _ _ hid] at hi;exact h2 ⟨i,s',hi,hb⟩
  ·rw [Gam.set_ne]
   ·exact hx
   ·rintro rfl;rw [hγd] at hx;cases hx
 ·exact .ptr (Gam.set_self _ _ _) (fun g s e=>by injection e with e;injection e with e _;injection e with e;rw [e])
variable {fs:List (Nat×Nat×Option Bool)}
theorem Xo {T:TypeId}(h:TyOk P T i)(hs:i.shape=.strct fs):∃ Fs,P.underlying T=some (.struct Fs)/\fs=Fs.toList.map fun f=>(f.offset,P.cellsOf f.type,aggT P f.type):=by
 obtain ⟨d,hd,he⟩:=h.und
 rw [hs] at he
 cases d<;>simp only [Dk,E3.strct.injEq,reduceCtorEq] at he
 exact ⟨_,hd,he.symm⟩
variable {f fo fsz:Nat}{ag:Option Bool}
theorem z8a {T:TypeId}(h:TyOk P T i)(hs:i.shape=.strct fs)(hf:fs[f]? = some (fo,fsz,ag))(hz:fsz≠0)(b off:Nat)(w:World) :
  (Instr.fieldAt T (.pointer (some ⟨b,off,none⟩)) f).run P w=.ok (.pointer (some ⟨b,off+fo,none⟩)) w:=by
 obtain ⟨Fs,hF,rfl⟩:=Xo h hs
 simp only [bM,aL,Prod.mk.injEq] at hf
 obtain ⟨fd,hfd,h1,h2,_⟩:=hf
 have hfd':Fs[f]? = some fd:=by simpa using hfd
 have hsz:∃ info,P.info? fd.type=some info/\info.size=fsz:=by
  unfold Program.cellsOf at h2
  cases hq:P.info? fd.type with
  |none=>rw [hq] at h2;simp at h2;exact absurd h2.symm hz
  |some info=>rw [hq] at h2;simp at h2;exact ⟨info,rfl,h2⟩
 obtain ⟨info,hi,hi2⟩:=hsz
 have hsize:(sizeOf fd.type).run P w=.ok fsz w:=by simp [sizeOf,typeInfo,hi,hi2]
 simp [Instr.fieldAt,run_underlying hF,hfd',Instr.sureAddr,fieldPlace,hsize,hz,pure,Addr.add_lit,h1]
variable {id off:Nat}{ty:TypeId}{cs:List AV}
theorem zln (ho:o.op=.fieldAddr T x f)(hd:dok cx o=true)(hxo:A5 x=true)(hx:σ.eval x=.ptr id off)(hT:lkT cx.E.tab T=some i)(hs:i.shape=.strct fs)(hf:fs[f]? = some (fo,fsz,ag))
  (hz:fsz≠0) (hl:σ.find id=some (.box ty cs)):Ag cx o σ (.ptr id (off+fo)) [id] [] :=
 Ay hd fun τ γ a w h1 h2 hst=>by
  have hev:=hst.ev x hxo
  rw [h1 x (by simp [ho,Op.operands]),hx] at hev
  have hme:=hst.me id
  rw [h2 id (by simp),hl] at hme
  obtain ⟨d,hd',g,vs,hde,_⟩:=hme
  subst hde
  have e:=hev.ptr_inv hd'
  refine ⟨.pointer (some ⟨g,off+fo,none⟩),?_,.ptr hd' (fun g' s e=>by injection e with e;injection e with e _;injection e with e;rw [e])⟩
  simp [execOp,ho,e,z8a (cx.E.ok T i hT) hs hf hz,pure]
theorem zbg {sz k j:Nat}{xs:List AV}(ho:o.op=.fieldAddr T x f)(hd:dok cx o=true)(hxo:A5 x=true)(hx:σ.eval x=.elt id sz k j)(hT:lkT cx.E.tab T=some i)(hs:i.shape=.strct fs)(hf:fs[f]? = some (fo,fsz,ag))
  (hz:fsz≠0) (hl:σ.find id=some (.row ty sz xs)) (hk:k<xs.length):Ag cx o σ (.elt id sz k (j+fo)) [id] [] :=
 Ay hd fun τ γ a w h1 h2 hst=>by
  have hev:=hst.ev x hxo
  rw [h1 x (by simp [ho,Op.operands]),hx] at hev
  have hme:=hst.me id
  rw [h2 id (by simp),hl] at hme
  obtain ⟨d,hd',s,vs,hde,_,hown,_⟩:=hme
  subst hde
  have hg:∃ g,s.ownBlock=some g:=by
   rcases hown.2 with ⟨rfl,h0⟩|⟨g,cap,cur,rfl,_⟩
   ·omega
   ·exact ⟨g,rfl⟩
  obtain ⟨g,hg⟩:=hg
  rw [hg] at hd'
  have e:=hev.elt_inv hd'
  refine ⟨.pointer (some ⟨g,k*sz+(j+fo),none⟩),?_,.elt hd' (fun g' s e=>by injection e with e;injection e with e _;injection e with e;rw [e])⟩
  simp [execOp,ho,e,z8a (cx.E.ok T i hT) hs hf hz,pure,aZ]
theorem zaa {S:Nat->Prop}{γ:Gam}{b k:Nat}{cell:Nat->Value}(hS:S b)(hb:b<w.heap.size)(hc:∀ j,j<cs.length->w.cell? ⟨b,off+j,none⟩=some (cell j))(hr:∀ j (hj:j<cs.length),Rep w S G0 cs[j] (cell j))
  (h1:∀ j,j<cs.length->(cell j).oneCell'=true):Rep w S γ (.ref (cs.drop k)) (.pointer (some ⟨b,off+k,none⟩)):=by
 refine .ref b (off+k) (fun j=>cell (k+j)) hS hb (fun j hj=>?_) (fun j hj=>?_) (fun j hj=>?_)
 ·rw [aT] at hj
  have:=hc (k+j) (by omega)
  rwa [<-aZ] at this
 ·rw [aT] at hj
  rw [aM]
  exact hr (k+j) (by omega)
 ·rw [aT] at hj
  exact h1 (k+j) (by omega)
theorem zbf (ho:o.op=.fieldAddr T x f)(hd:dok cx o=true)(hxo:A5 x=true)(hx:σ.eval x=.ref cs)(hT:lkT cx.E.tab T=some i)(hs:i.shape=.strct fs)(hf:fs[f]? = some (fo,fsz,ag))
  (hz:fsz≠0):Ag cx o σ (.ref (cs.drop fo)) [] [] :=
 Ay hd fun τ γ a w h1 h2 hst=>by
  have hev:=hst.ev x hxo
  rw [h1 x (by simp [ho,Op.operands]),hx] at hev
  obtain ⟨b,off,e,hS,hb,cell,hc,hr,h1c⟩:=hev.ref_inv
  refine ⟨.pointer (some ⟨b,off+fo,none⟩),?_,zaa hS hb hc hr h1c⟩
  simp [execOp,ho,e,z8a (cx.E.ok T i hT) hs hf hz,pure]
theorem Ua {T:TypeId}(h:TyOk P T i)(ha:i.shape.agg=true)(w:World)(ad:Addr)(cs:List Value)(hl:cs.length=i.sz)(hc:∀ j v,cs[j]? = some v->w.cell? (ad.add j)=some v):(loadVar T ad).run P w=.ok (.agg cs.toArray) w:=by
 have:=run_loadCells_list (P:=P) w ad cs hc
 rw [hl] at this
 simp [loadVar,h.agg,ha,h.size,this,pure]
theorem Ra {T:TypeId}(h:TyOk P T i)(ha:i.shape.agg=false)(w:World)(ad:Addr)(v:Value)(hc:w.cell? ad=some v):(loadVar T ad).run P w=.ok v w:=by
 simp [loadVar,h.agg,ha,load,Sem.run,hc]
theorem Nu {vs:Array Value}(h:Blk w g ty vs)(j:Nat)(hj:j<vs.size):w.cell? ⟨g,j,none⟩=some (vs.getD j undef):=by
 rw [h.cell,aJ hj]
 simp [aG,hj]
theorem zox (ho:o.op=.load T x)(hd:dok cx o=true)(hxo:A5 x=true)(hx:σ.eval x=.ptr id off)(hT:lkT cx.E.tab T=some i)(ha:i.shape.agg=true)(hl:σ.find id=some (.box ty cs))(hn:off+i.sz<=cs.length) :
  Ag cx o σ (.agg ((cs.drop off).take i.sz)) [id] [] :=
 Ay hd fun τ γ a w h1 h2 hst=>by
  have hev:=hst.ev x hxo
  rw [h1 x (by simp [ho,Op.operands]),hx] at hev
  have hme:=hst.me id
  rw [h2 id (by simp),hl] at hme
  obtain ⟨d,hd',g,vs,hde,hb,hsz,hr,hone⟩:=hme
  subst hde
  have e:=hev.ptr_inv hd'
  have hlen:((aP i.sz).map fun j=>vs.getD (off+j) undef).length=i.sz:=by simp
  have hrun:=Ua (cx.E.ok T i hT) ha w ⟨g,off,none⟩ ((aP i.sz).map fun j=>vs.getD (off+j) undef) hlen (fun j v hj=>by
   obtain ⟨hj1,hj2⟩:=List.getElem?_eq_some_iff.1 hj
   rw [hlen] at hj1
   simp only [aS,bA] at hj2
   rw [Addr.add_lit,Nu hb _ (by omega),hj2])
  refine ⟨.agg ((aP i.sz).map fun j=>vs.getD (off+j) undef).toArray,by simp only [execOp,ho,e,Instr.loadAt,Instr.sureAddr,Sem.run_bind,Sem.run_pure,Result.andThen_ok,hrun],.agg _ (by simp;omega) (fun j hj=>?_) (fun j hj=>?_)⟩
  ·rw [aY,aT] at hj
   simp only [aN,aM]
   have:((aP i.sz).map fun j=>vs.getD (off+j) undef).toArray.getD j undef=vs.getD (off+j) undef:=by
    have hj':j<i.sz:=by omega
    simp [hj']
   rw [this]
   exact hr (off+j) (by omega)
  ·have hj':j<i.sz:=by simpa using hj
   have:((aP i.sz).map fun j=>vs.getD (off+j) undef).toArray.getD j undef=vs.getD (off+j) undef:=by
    simp [hj']
   rw [this]
   exact hone _ (by omega)
theorem zov (ho:o.op=.load T x)(hd:dok cx o=true)(hxo:A5 x=true)(hx:σ.eval x=.ptr id off)(hT:lkT cx.E.tab T=some i)(ha:i.shape.agg=false)(hl:σ.find id=some (.box ty cs))(hc:cs[off]? = some av) :
  Ag cx o σ av [id] [] :=
 Ay hd fun τ γ a w h1 h2 hst=>by
  have hev:=hst.ev x hxo
  rw [h1 x (by simp [ho,Op.operands]),hx] at hev
  have hme:=hst.me id
  rw [h2 id (by simp),hl] at hme
  obtain ⟨d,hd',g,vs,hde,hb,hsz,hr,hone⟩:=hme
  subst hde
  have e:=hev.ptr_inv hd'
  obtain ⟨hlt,hc'⟩:=List.getElem?_eq_some_iff.1 hc
  have hrun:=Ra (cx.E.ok T i hT) ha w ⟨g,off,none⟩ (vs.getD off undef) (Nu hb off (by omega))
  refine ⟨vs.getD off undef,by simp only [execOp,ho,e,Instr.loadAt,Instr.sureAddr,Sem.run_bind,Sem.run_pure,Result.andThen_ok,hrun],?_⟩
  have:=hr off hlt
  rwa [hc'] at this
theorem zd1 (ho:o.op=.load T x)(hd:dok cx o=true)(hxo:A5 x=true)(hx:σ.eval x=.ref cs)(hT:lkT cx.E.tab T=some i)(ha:i.shape.agg=true)(hn:i.sz<=cs.length) :
  Ag cx o σ (.agg (cs.take i.sz)) [] [] :=
 Ay hd fun τ γ a w h1 h2 hst=>by
  have hev:=hst.ev x hxo
  rw [h1 x (by simp [ho,Op.operands]),hx] at hev
  obtain ⟨b,off,e,hS,hb,cell,hc,hr,h1c⟩:=hev.ref_inv
  have hlen:((aP i.sz).map cell).length=i.sz:=by simp
  have hrun:=Ua (cx.E.ok T i hT) ha w ⟨b,off,none⟩ ((aP i.sz).map cell) hlen (fun j v hj=>by
   obtain ⟨hj1,hj2⟩:=List.getElem?_eq_some_iff.1 hj
   rw [hlen] at hj1
   simp only [aS,bA] at hj2
   rw [Addr.add_lit,hc _ (by omega),hj2])
  refine ⟨.agg ((aP i.sz).map cell).toArray,by simp only [execOp,ho,e,Instr.loadAt,Instr.sureAddr,Sem.run_bind,Sem.run_pure,Result.andThen_ok,hrun],.agg _ (by simp;omega) (fun j hj=>?_) (fun j hj=>?_)⟩
  ·rw [aY] at hj
   simp only [aN]
   have:((aP i.sz).map cell).toArray.getD j undef=cell j:=by
    have hj':j<i.sz:=by omega
    simp [hj']
   rw [this]
   exact (hr j (by omega)).open_
  ·have hj':j<i.sz:=by simpa using hj
   have:((aP i.sz).map cell).toArray.getD j undef=cell j:=by simp [hj']
   rw [this]
   exact h1c _ (by omega)
theorem zd0 (ho:o.op=.load T x)(hd:dok cx o=true)(hxo:A5 x=true)(hx:σ.eval x=.ref (av::cs))(hT:lkT cx.E.tab T=some i)(ha:i.shape.agg=false) :
  Ag cx o σ av [] [] :=
 Ay hd fun τ γ a w h1 h2 hst=>by
  have hev:=hst.ev x hxo
  rw [h1 x (by simp [ho,Op.operands]),hx] at hev
  obtain ⟨b,off,e,hS,hb,cell,hc,hr,h1c⟩:=hev.ref_inv
  have hrun:=Ra (cx.E.ok T i hT) ha w ⟨b,off,none⟩ (cell 0) (by simpa using hc 0 (by simp))
  exact ⟨cell 0,by simp only [execOp,ho,e,Instr.loadAt,Instr.sureAddr,Sem.run_bind,Sem.run_pure,Result.andThen_ok,hrun],(hr 0 (by simp)).open_⟩
theorem Ue {T:TypeId}(h:TyOk P T i)(w:World)(g off:Nat)(ty:TypeId)(vs:Array Value)(v:Value)(hb:Blk w g ty vs)(hl:v.cells.size=i.sz)(hfit:off+i.sz<=vs.size)(h1:∀ u∈v.cells.toList,u.oneCell'=true) :
  (storeVar T ⟨g,off,none⟩ v).run P w=.ok () (w.setRow g (vs.toList.take off++v.cells.toList++vs.toList.drop (off+i.sz)).toArray):=by
 have:=run_storeCells_at P g off ty v.cells.toList 0 vs w hb (by simp [hl];omega) h1
 simp only [bU,Array.length_toList,hl] at this
 simp [storeVar,h.size,hl,this]
theorem zwn {y:Operand}{cs':List AV}(ho:o.op=.store T x y)(hd:dok cx o=true)(hxo:A5 x=true)(hyo:A5 y=true)(hx:σ.eval x=.ptr id off)(hy:σ.eval y=av)(hT:lkT cx.E.tab T=some i)(hl:σ.find id=some (.box ty cs))(hn:off+i.sz<=cs.length)
  (hav:av.cells.length=i.sz) (hc:okc σ av=true) (hcs:cs.take off++av.cells++cs.drop (off+i.sz)=cs'):Ag cx o σ (.tup []) (id::av.ids) [(id,.box ty cs')]:=by
 refine ⟨fun id' e he=>?_,fun τ h1 h2 a w Q K ⟨γ,hst⟩ hK=>Bu (fun c hc=>by rw [ho] at hc;cases hc) ?_⟩
 ·simp only [lkE] at he
  cases hb:bQ id id' with
  |true=>simp [aD hb]
  |false=>rw [hb] at he;cases he
 have hev:=hst.ev x hxo
 rw [h1 x (by simp [ho,Op.operands]),hx] at hev
 have hevy:=hst.ev y hyo
 rw [h1 y (by simp [ho,Op.operands]),hy] at hevy
 have hme:=hst.me id
 rw [h2 id (by simp),hl] at hme
 obtain ⟨d,hd',g,vs,hde,hb,hsz,hr,hone⟩:=hme
 subst hde
 have e:=hev.ptr_inv hd'
 obtain ⟨c1,c2,c3⟩:=Uy hst hevy hc (fun id hid=>h2 id (by simp [hid]))
 have hone':∀ u∈(a.eval y).cells.toList,u.oneCell'=true:=fun u hu=>by
  obtain ⟨j,hj,rfl⟩:=mem_iff_getElem.1 hu
  have hj':j<(a.eval y).cells.size:=by simpa using hj
  have:=c3 j hj'
  simpa [aG,hj'] using this
 have hrun:=Ue (cx.E.ok T i hT) w g off ty vs (a.eval y) hb (c1.trans hav) (by omega) hone'
 unfold Oper.wp
 have hex:(execOp a.eval o).run cx.P w=.ok .skip (w.setRow g (vs.toList.take off++(a.eval y).cells.toList++vs.toList.drop (off+i.sz)).toArray):=by
  simp only [execOp,ho,e,Instr.storeAt,Instr.sureAddr,Sem.run_bind,Sem.run_pure,Result.andThen_ok,hrun]
 rw [hex]
 have hblk:=setRow_heap w g vs (vs.toList.take off++(a.eval y).cells.toList++vs.toList.drop (off+i.sz)).toArray ty (0,0) hb
 have hoth:∀ k,k≠g->(w.setRow g (vs.toList.take off++(a.eval y).cells.toList++vs.toList.drop (off+i.sz)).toArray).heap[k]? = w.heap[k]? := fun k hk=>setRow_other w g k _ hk
 have hgo:own γ g:=own.mk hd'
 have hgl:=hst.ge g hgo
 have hns:∀ b,Sg cx.S0 cx.w0.heap.size γ b->b≠g:=fun b hS e=>by
  subst e
  rcases hS with ⟨_,h⟩|⟨_,h⟩
  ·have:=hgl.1.1;omega
  ·exact h hgo
 generalize hw':w.setRow g (vs.toList.take off++(a.eval y).cells.toList++vs.toList.drop (off+i.sz)).toArray=w' at *
 have hz:w.heap.size<=w'.heap.size:=by rw [<-hw'];simp
 have hdr:w.drawn<=w'.drawn:=by rw [<-hw'];exact aE _
 refine hK _ _ ⟨γ,hst.step (Bm hd) hz (fun b hS hlt=>⟨hoth b (hns b hS),hS⟩) (fun id d h=>aV h) (fun id' hid'=>⟨rfl,fun g' s hg' hm'=>hoth g' ?_⟩) (fun id' e' he'=>?_) hst.inj (fun b hbo=>⟨(hst.ge b hbo).1,aF (hst.ge b hbo).2 hz⟩) ?_ (.tup #[] rfl (fun i hi=>by simp at hi)) (fun b hno _=>⟨hoth b (fun e=>hno (e▸hgo)),hno⟩) (fun _=>hdr)⟩
 ·rintro rfl
  have:=hst.inj _ _ _ _ _ hg' hd' hm' Bh
  subst this
  simp [lkE] at hid'
 ·have hid:id'=id:=by
   simp only [lkE] at he'
   cases hbq:bQ id id' with
   |true=>exact (aD hbq).symm
   |false=>rw [hbq] at he';cases he'
  subst hid
  simp only [lkE,bT,aB] at he'
  subst he'
  have hmv:∀ {av v},Rep w (Sg cx.S0 cx.w0.heap.size γ) γ av v->Rep w' (Sg cx.S0 cx.w0.heap.size γ) γ av v:=fun h=>h.mono hz (fun b hS _=>⟨hoth b (hns b hS),hS⟩)
  have hcl:cs'.length=cs.length:=by rw [<-hcs];simp;omega
  have hvl:(vs.toList.take off++(a.eval y).cells.toList++vs.toList.drop (off+i.sz)).toArray.size=vs.size:=by
   simp;omega
  have hat:∀ j (hj:j<cs.length),(vs.toList.take off++(a.eval y).cells.toList++vs.toList.drop (off+i.sz)).toArray.getD j undef=if j<off then vs.getD j undef else if j<off+i.sz then (a.eval y).cells.getD (j-off) undef else vs.getD j undef:=fun j hj=>by
   simp only [aA,getElem?_toArray]
   congr 1
   by_cases h1:j<off
   ·rw [if_pos h1]
    rw [append_assoc,bE (by simp;omega),bG h1]
    simp
   ·rw [if_neg h1]
    by_cases h2:j<off+i.sz
    ·rw [if_pos h2,append_assoc,bC (by simp;omega),bE (by simp;omega)]
     rw [show j-(List.take off vs.toList).length=j-off by simp;omega]
     simp
    ·rw [if_neg h2,bC (by simp;omega),getElem?_drop]
     rw [show off+i.sz+(j-(List.take off vs.toList++(a.eval y).cells.toList).length)=j by simp;omega]
     simp
  refine ⟨_,hd',g,_,rfl,hblk,by omega,fun j hj=>?_,fun j hj=>?_⟩
  ·rw [hat j (by omega)]
   have hcj:cs'[j]=if h1:j<off then cs[j]'(by omega) else if h2:j<off+i.sz then av.cells[j-off]'(by omega) else cs[j]'(by omega):=by
    subst hcs
    by_cases h1:j<off
    ·rw [dif_pos h1,aU (by simp;omega),aU (by simp;omega),aN]
    ·rw [dif_neg h1]
     by_cases h2:j<off+i.sz
     ·rw [dif_pos h2,aU (by simp;omega),bF (by simp;omega)]
      congr 1
      simp;omega
     ·rw [dif_neg h2,bF (by simp;omega),aM]
      congr 1
      simp;omega
   rw [hcj]
   by_cases h1:j<off
   ·rw [if_pos h1,dif_pos h1];exact hmv (hr j (by omega))
   ·rw [if_neg h1,dif_neg h1]
    by_cases h2:j<off+i.sz
    ·rw [if_pos h2,dif_pos h2];exact hmv (c2 (j-off) (by omega))
    ·rw [if_neg h2,dif_neg h2];exact hmv (hr j (by omega))
  ·rw [hvl] at hj
   rw [hat j (by omega)]
   by_cases h1:j<off
   ·rw [if_pos h1];exact hone j hj
   ·rw [if_neg h1]
    by_cases h2:j<off+i.sz
    ·rw [if_pos h2];exact c3 (j-off) (by omega)
    ·rw [if_neg h2];exact hone j hj
 ·refine hst.below.trans ⟨by rw [<-hw'];rfl,by rw [<-hw'];rfl,by rw [<-hw'];rfl,hz,fun k hk=>hoth k (by have:=hgl.1.1;omega)⟩
end
variable {i:TyI}{e esz eb:Nat}
theorem Ce {T:TypeId}(h:TyOk P T i)(hs:i.shape=.slc e esz eb):P.underlying T=some (.slice e)/\P.cellsOf e=esz/\P.bytesOf e=eb:=by
 obtain ⟨d,hd,he⟩:=h.und
 rw [hs] at he
 cases d<;>simp only [Dk,E3.slc.injEq,reduceCtorEq] at he
 obtain ⟨rfl,h2,h3⟩:=he
 exact ⟨hd,h2,h3⟩
theorem Ei (h:P.cellsOf e=esz)(hz:esz≠0)(w:World):(sizeOf e).run P w=.ok esz w:=by
 unfold Program.cellsOf at h
 cases hq:P.info? e with
 |none=>rw [hq] at h;simp at h;exact absurd h.symm hz
 |some info=>rw [hq] at h;simp at h;simp [sizeOf,typeInfo,hq,h]
section
variable {cx:Cx} {o:Oper} {σ:AS}
variable {T:Nat}{x y:Operand}{sz:Nat}{xs:List AV}{k:IntKind}{el:AV}
theorem zd4 {n:Int}{m:Nat}(ho:o.op=.indexAddr T x y)(hd:dok cx o=true)(hxo:A5 x=true)(hyo:A5 y=true)(hx:σ.eval x=.sl sz xs)(hy:σ.eval y=.int k n)
  (hT:lkT cx.E.tab T=some i) (hs:i.shape=.slc e sz eb) (hz:sz≠0) (hn:n=(m:Int)) (he:xs[m]? = some el):Ag cx o σ (.ref el.cells) [] [] :=
 Ay hd fun τ γ a w h1 h2 hst=>by
  have hev:=hst.ev x hxo
  rw [h1 x (by simp [ho,Op.operands]),hx] at hev
  have hevy:=hst.ev y hyo
  rw [h1 y (by simp [ho,Op.operands]),hy] at hevy
  obtain ⟨hm,hel⟩:=List.getElem?_eq_some_iff.1 he
  obtain ⟨A,c,ex,hc,hlen,cell,hb,hr,h1c⟩:=hev.sl_inv
  obtain ⟨b,off,rfl,hS,hlt,hcell⟩:=hb (by omega)
  obtain ⟨hu,hce,_⟩:=Ce (cx.E.ok T i hT) hs
  have hl:=hlen m hm
  rw [hel] at hl
  refine ⟨.pointer (some ⟨b,off+m*sz,none⟩),?_,.ref b (off+m*sz) (fun j=>cell m j) hS hlt (fun j hj=>?_) (fun j hj=>?_) (fun j hj=>h1c m j)⟩
  ·subst hn
   simp [execOp,ho,ex,hevy.int_inv,Instr.indexAt,asIntOf,run_underlying hu,Ei hce hz,hm,pure,Addr.add_lit]
  ·have:=hcell m j hm (by omega)
   rwa [<-aZ] at this
  ·have hj':j<(xs[m]).cells.length:=by rw [hel];exact hj
   have:=hr m hm j hj'
   simp only [hel] at this
   exact this
variable {id:Nat}{ty:TypeId}
theorem zbc {n:Int}{m:Nat}(ho:o.op=.indexAddr T x y)(hd:dok cx o=true)(hxo:A5 x=true)(hyo:A5 y=true)(hx:σ.eval x=.row id)(hy:σ.eval y=.int k n)
  (hl:σ.find id=some (.row ty sz xs)) (hT:lkT cx.E.tab T=some i) (hs:i.shape=.slc e sz eb) (hz:sz≠0) (hn:n=(m:Int)) (hm:m<xs.length):Ag cx o σ (.elt id sz m 0) [id] [] :=
 Ay hd fun τ γ a w h1 h2 hst=>by
  have hev:=hst.ev x hxo
  rw [h1 x (by simp [ho,Op.operands]),hx] at hev
  have hevy:=hst.ev y hyo
  rw [h1 y (by simp [ho,Op.operands]),hy] at hevy
  have hme:=hst.me id
  rw [h2 id (by simp),hl] at hme
  obtain ⟨d,hd',s,vs,hde,_,hown,_⟩:=hme
  subst hde
  obtain ⟨hu,hce,_⟩:=Ce (cx.E.ok T i hT) hs
  have ex:=hev.row_inv hd'
  rcases hown.2 with ⟨rfl,h0⟩|⟨g,cap,cur,rfl,_⟩
  ·omega
  refine ⟨.pointer (some ⟨g,m*sz,none⟩),?_,.elt hd' (fun g' s e=>by injection e with e;injection e with e _;simp only [Value.ownBlock,aB] at e;rw [<-e];rfl)⟩
  subst hn
  simp [execOp,ho,ex,hevy.int_inv,Instr.indexAt,asIntOf,run_underlying hu,Ei hce hz,hm,pure,Addr.add_lit]
theorem Ro {B ty n:Nat}{s:Value}{vs:List Value}(h:w.ownsRow B ty sz s n vs)(hg:s.ownBlock=some g)(j:Nat)(hj:j<n*sz):w.cell? ⟨g,j,none⟩=some (vs.getD j undef):=by
 obtain ⟨hl,h⟩:=h
 rcases h with ⟨rfl,h0⟩|⟨g',cap,cur,rfl,hb,hh,hn,hm,hs,ht⟩
 ·simp [Value.ownBlock] at hg
 ·simp only [Value.ownBlock,aB] at hg
  subst hg
  have hsz:n*sz<=cap*sz:=aH _ hn
  rw [cell_of_row w g' j cur ty (0,0) hh,<-ht]
  rw [aQ,bG hj]
  simp only [Array.getElem?_toList]
  rw [aJ (by omega)]
  rfl
theorem zd3 {k:Nat}(ho:o.op=.load T x)(hd:dok cx o=true)(hxo:A5 x=true)(hx:σ.eval x=.elt id sz k 0)(hT:lkT cx.E.tab T=some i)(ha:i.shape.agg=true)(hl:σ.find id=some (.row ty sz xs))(hsz:i.sz=sz)(he:xs[k]? = some el) :
  Ag cx o σ (.agg el.cells) [id] [] :=
 Ay hd fun τ γ a w h1 h2 hst=>by
  have hev:=hst.ev x hxo
  rw [h1 x (by simp [ho,Op.operands]),hx] at hev
  have hme:=hst.me id
  rw [h2 id (by simp),hl] at hme
  obtain ⟨d,hd',s,vs,hde,_,hown,hlen,hr,hone⟩:=hme
  subst hde
  obtain ⟨hk,hel⟩:=List.getElem?_eq_some_iff.1 he
  have hg:∃ g,s.ownBlock=some g:=by
   rcases hown.2 with ⟨rfl,h0⟩|⟨g,cap,cur,rfl,_⟩
   ·omega
   ·exact ⟨g,rfl⟩
  obtain ⟨g,hg⟩:=hg
  rw [hg] at hd'
  have e:=hev.elt_inv hd'
  have hle:=hlen k hk
  rw [hel] at hle
  have hin:∀ j,j<sz->k*sz+j<xs.length*sz:=fun j hj=>by
   have:(k+1)*sz<=xs.length*sz:=aH _ hk
   rw [bL] at this
   omega
  have hln:((aP i.sz).map fun j=>vs.getD (k*sz+j) undef).length=i.sz:=by simp
  have hrun:=Ua (cx.E.ok T i hT) ha w ⟨g,k*sz+0,none⟩ ((aP i.sz).map fun j=>vs.getD (k*sz+j) undef) hln (fun j v hj=>by
   obtain ⟨hj1,hj2⟩:=List.getElem?_eq_some_iff.1 hj
   rw [hln] at hj1
   simp only [aS,bA] at hj2
   rw [Addr.add_lit,bU,Ro hown hg _ (hin j (by omega)),hj2])
  refine ⟨.agg ((aP i.sz).map fun j=>vs.getD (k*sz+j) undef).toArray,by simp only [execOp,ho,e,Instr.loadAt,Instr.sureAddr,Sem.run_bind,Sem.run_pure,Result.andThen_ok,hrun],.agg _ (by simp;omega) (fun j hj=>?_) (fun j hj=>?_)⟩
  ·have:((aP i.sz).map fun j=>vs.getD (k*sz+j) undef).toArray.getD j undef=vs.getD (k*sz+j) undef:=by
    have hj':j<i.sz:=by omega
    simp [hj']
   rw [this]
   have hj':j<(xs[k]).cells.length:=by rw [hel];exact hj
   have:=hr k hk j hj'
   simp only [hel] at this
   exact this.open_
  ·have hj':j<i.sz:=by simpa using hj
   have:((aP i.sz).map fun j=>vs.getD (k*sz+j) undef).toArray.getD j undef=vs.getD (k*sz+j) undef:=by simp [hj']
   rw [this]
   have hb:k*sz+j<vs.length:=by rw [hown.1];exact hin j (by omega)
   rw [aQ,bH hb]
   exact hone _ (getElem_mem hb)
theorem zbb {k J:Nat}(ho:o.op=.load T x)(hd:dok cx o=true)(hxo:A5 x=true)(hx:σ.eval x=.elt id sz k J)(hT:lkT cx.E.tab T=some i)(ha:i.shape.agg=true)(hl:σ.find id=some (.row ty sz xs))(hsz:J+i.sz<=sz)(he:xs[k]? = some el) :
  Ag cx o σ (.agg ((el.cells.drop J).take i.sz)) [id] [] :=
 Ay hd fun τ γ a w h1 h2 hst=>by
  have hev:=hst.ev x hxo
  rw [h1 x (by simp [ho,Op.operands]),hx] at hev
  have hme:=hst.me id
  rw [h2 id (by simp),hl] at hme
  obtain ⟨d,hd',s,vs,hde,_,hown,hlen,hr,hone⟩:=hme
  subst hde
  obtain ⟨hk,hel⟩:=List.getElem?_eq_some_iff.1 he
  have hg:∃ g,s.ownBlock=some g:=by
   rcases hown.2 with ⟨rfl,h0⟩|⟨g,cap,cur,rfl,_⟩
   ·omega
   ·exact ⟨g,rfl⟩
  obtain ⟨g,hg⟩:=hg
  rw [hg] at hd'
  have e:=hev.elt_inv hd'
  have hle:=hlen k hk
  rw [hel] at hle
  have hin:∀ j,j<sz->k*sz+j<xs.length*sz:=fun j hj=>by
   have:(k+1)*sz<=xs.length*sz:=aH _ hk
   rw [bL] at this
   omega
  have hln:((aP i.sz).map fun j=>vs.getD (k*sz+(J+j)) undef).length=i.sz:=by simp
  have hrun:=Ua (cx.E.ok T i hT) ha w ⟨g,k*sz+J,none⟩ ((aP i.sz).map fun j=>vs.getD (k*sz+(J+j)) undef) hln (fun j v hj=>by
   obtain ⟨hj1,hj2⟩:=List.getElem?_eq_some_iff.1 hj
   rw [hln] at hj1
   simp only [aS,bA] at hj2
   rw [Addr.add_lit,aZ,Ro hown hg _ (hin (J+j) (by omega)),hj2])
  have hgd:∀ j,j<i.sz->((aP i.sz).map fun j=>vs.getD (k*sz+(J+j)) undef).toArray.getD j undef=vs.getD (k*sz+(J+j)) undef:=fun j hj=>by simp [hj]
  refine ⟨.agg ((aP i.sz).map fun j=>vs.getD (k*sz+(J+j)) undef).toArray,by simp only [execOp,ho,e,Instr.loadAt,Instr.sureAddr,Sem.run_bind,Sem.run_pure,Result.andThen_ok,hrun],.agg _ (by simp;omega) (fun j hj=>?_) (fun j hj=>?_)⟩
  ·have hj1:j<i.sz:=by rw [aY] at hj;omega
   rw [hgd j hj1]
   have hj':J+j<(xs[k]).cells.length:=by rw [hel];omega
   have:=hr k hk (J+j) hj'
   simp only [hel] at this
   simp only [aN,aM]
   exact this.open_
  ·have hj':j<i.sz:=by simpa using hj
   rw [hgd j hj']
   have hb:k*sz+(J+j)<vs.length:=by rw [hown.1];exact hin (J+j) (by omega)
   rw [aQ,bH hb]
   exact hone _ (getElem_mem hb)
theorem zd2 {k j:Nat}(ho:o.op=.load T x)(hd:dok cx o=true)(hxo:A5 x=true)(hx:σ.eval x=.elt id sz k j)(hT:lkT cx.E.tab T=some i)(ha:i.shape.agg=false)(hl:σ.find id=some (.row ty sz xs))(he:xs[k]? = some el)(hc:el.cells[j]? = some av) :
  Ag cx o σ av [id] [] :=
 Ay hd fun τ γ a w h1 h2 hst=>by
  have hev:=hst.ev x hxo
  rw [h1 x (by simp [ho,Op.operands]),hx] at hev
  have hme:=hst.me id
  rw [h2 id (by simp),hl] at hme
  obtain ⟨d,hd',s,vs,hde,_,hown,hlen,hr,hone⟩:=hme
  subst hde
  obtain ⟨hk,hel⟩:=List.getElem?_eq_some_iff.1 he
  obtain ⟨hj,hcj⟩:=List.getElem?_eq_some_iff.1 hc
  have hg:∃ g,s.ownBlock=some g:=by
   rcases hown.2 with ⟨rfl,h0⟩|⟨g,cap,cur,rfl,_⟩
   ·omega
   ·exact ⟨g,rfl⟩
  obtain ⟨g,hg⟩:=hg
  rw [hg] at hd'
  have e:=hev.elt_inv hd'
  have hle:=hlen k hk
  rw [hel] at hle
  have hin:k*sz+j<xs.length*sz:=by
   have:(k+1)*sz<=xs.length*sz:=aH _ hk
   rw [bL] at this
   omega
  have hrun:=Ra (cx.E.ok T i hT) ha w ⟨g,k*sz+j,none⟩ _ (Ro hown hg _ hin)
  refine ⟨vs.getD (k*sz+j) undef,by simp only [execOp,ho,e,Instr.loadAt,Instr.sureAddr,Sem.run_bind,Sem.run_pure,Result.andThen_ok,hrun],?_⟩
  have hj':j<(xs[k]).cells.length:=by rw [hel];exact hj
  have:=hr k hk j hj'
  simp only [hel,hcj] at this
  exact this.open_
theorem getElem?_of_getD {vs:Array Value}{j:Nat}(h:j<vs.size):vs[j]? = some (vs.getD j undef):=by
 rw [aA,aJ h];rfl
variable {fs:List (Nat×Nat×Option Bool)}{cs:List AV}
theorem zll {f fo fsz:Nat}(ho:o.op=.field T x f)(hd:dok cx o=true)(hxo:A5 x=true)(hx:σ.eval x=.agg cs)(hT:lkT cx.E.tab T=some i)(hs:i.shape=.strct fs)(hf:fs[f]? = some (fo,fsz,some false))(hc:cs[fo]? = some av) :
  Ag cx o σ av [] [] :=
 Ay hd fun τ γ a w h1 h2 hst=>by
  have hev:=hst.ev x hxo
  rw [h1 x (by simp [ho,Op.operands]),hx] at hev
  obtain ⟨vs,e,hl,hr,h1c⟩:=hev.agg_inv
  obtain ⟨Fs,hF,rfl⟩:=Xo (cx.E.ok T i hT) hs
  simp only [bM,aL,Prod.mk.injEq] at hf
  obtain ⟨fd,hfd,e1,e2,e3⟩:=hf
  have hfd':Fs[f]? = some fd:=by simpa using hfd
  obtain ⟨hlt,hc'⟩:=List.getElem?_eq_some_iff.1 hc
  have hagg:=Xf e3 w
  have hget:=getElem?_of_getD (vs:=vs) (j:=fo) (by omega)
  refine ⟨vs.getD fo undef,?_,?_⟩
  ·simp only [execOp,ho,e,Instr.field,Sem.run_bind,Sem.run_pure,Result.andThen_ok,run_underlying hF,hfd',asAgg,part,hagg,e1,hget]
   rfl
  ·have:=hr fo hlt
   rwa [hc'] at this
theorem zlm {f fo fsz:Nat}(ho:o.op=.field T x f)(hd:dok cx o=true)(hxo:A5 x=true)(hx:σ.eval x=.agg cs)(hT:lkT cx.E.tab T=some i)(hs:i.shape=.strct fs)(hf:fs[f]? = some (fo,fsz,some true))(hz:fsz≠0)(hc:fo+fsz<=cs.length) :
  Ag cx o σ (.agg ((cs.drop fo).take fsz)) [] [] :=
 Ay hd fun τ γ a w h1 h2 hst=>by
  have hev:=hst.ev x hxo
  rw [h1 x (by simp [ho,Op.operands]),hx] at hev
  obtain ⟨vs,e,hl,hr,h1c⟩:=hev.agg_inv
  obtain ⟨Fs,hF,rfl⟩:=Xo (cx.E.ok T i hT) hs
  simp only [bM,aL,Prod.mk.injEq] at hf
  obtain ⟨fd,hfd,e1,e2,e3⟩:=hf
  have hfd':Fs[f]? = some fd:=by simpa using hfd
  have hagg:=Xf e3 w
  have hsz:=Ei e2 hz w
  have hx:∀ j,j<fsz->(vs.extract fo (fo+fsz)).getD j undef=vs.getD (fo+j) undef:=fun j hj=>by
   rw [aA,aA,bB,if_pos (by omega)]
  refine ⟨.agg (vs.extract fo (fo+fsz)),?_,.agg _ (by simp;omega) (fun j hj=>?_) (fun j hj=>?_)⟩
  ·simp only [execOp,ho,e,Instr.field,Sem.run_bind,Sem.run_pure,Result.andThen_ok,run_underlying hF,hfd',asAgg,part,hagg,e1,if_true,hsz]
  ·rw [aY,aT] at hj
   rw [hx j (by omega)]
   simp only [aN,aM]
   exact hr (fo+j) (by omega)
  ·have hj':j<fsz:=by simp at hj;omega
   rw [hx j hj']
   exact h1c _ (by omega)
theorem zlj {n:Nat}{m:Int}{q:Nat}(ho:o.op=.index T x y)(hd:dok cx o=true)(hxo:A5 x=true)(hyo:A5 y=true)(hx:σ.eval x=.agg cs)(hy:σ.eval y=.int k m)(hT:lkT cx.E.tab T=some i)
  (hs:i.shape=.arr n e esz (some false)) (hz:esz≠0) (hm:m=(q:Int)) (hq:q<n) (hc:cs[q*esz]? = some av):Ag cx o σ av [] [] :=
 Ay hd fun τ γ a w h1 h2 hst=>by
  have hev:=hst.ev x hxo
  rw [h1 x (by simp [ho,Op.operands]),hx] at hev
  have hevy:=hst.ev y hyo
  rw [h1 y (by simp [ho,Op.operands]),hy] at hevy
  obtain ⟨vs,ex,hl,hr,h1c⟩:=hev.agg_inv
  obtain ⟨d,hdu,he⟩:=(cx.E.ok T i hT).und
  rw [hs] at he
  cases d<;>simp only [Dk,E3.arr.injEq,reduceCtorEq] at he
  obtain ⟨hn,rfl,e2,e3⟩:=he
  subst hn
  obtain ⟨hlt,hc'⟩:=List.getElem?_eq_some_iff.1 hc
  have hagg:=Xf e3 w
  have hget:=getElem?_of_getD (vs:=vs) (j:=q*esz) (by omega)
  subst hm
  have hres:=hr (q*esz) hlt
  rw [hc'] at hres
  generalize vs.getD (q*esz) undef=u at *
  exact ⟨u,by simp [execOp,ho,ex,hevy.int_inv,Instr.index,asIntOf,run_underlying hdu,Ei e2 hz,hq,part,hagg,hget,pure],hres⟩
theorem zlk {n:Nat}{m:Int}{q:Nat}(ho:o.op=.index T x y)(hd:dok cx o=true)(hxo:A5 x=true)(hyo:A5 y=true)(hx:σ.eval x=.agg cs)(hy:σ.eval y=.int k m)(hT:lkT cx.E.tab T=some i)
  (hs:i.shape=.arr n e esz (some true)) (hz:esz≠0) (hm:m=(q:Int)) (hq:q<n) (hc:q*esz+esz<=cs.length):Ag cx o σ (.agg ((cs.drop (q*esz)).take esz)) [] [] :=
 Ay hd fun τ γ a w h1 h2 hst=>by
  have hev:=hst.ev x hxo
  rw [h1 x (by simp [ho,Op.operands]),hx] at hev
  have hevy:=hst.ev y hyo
  rw [h1 y (by simp [ho,Op.operands]),hy] at hevy
  obtain ⟨vs,ex,hl,hr,h1c⟩:=hev.agg_inv
  obtain ⟨d,hdu,he⟩:=(cx.E.ok T i hT).und
  rw [hs] at he
  cases d<;>simp only [Dk,E3.arr.injEq,reduceCtorEq] at he
  obtain ⟨rfl,rfl,e2,e3⟩:=he
  have hagg:=Xf e3 w
  have hxx:∀ j,j<esz->(vs.extract (q*esz) (q*esz+esz)).getD j undef=vs.getD (q*esz+j) undef:=fun j hj=>by
   rw [aA,aA,bB,if_pos (by omega)]
  subst hm
  refine ⟨.agg (vs.extract (q*esz) (q*esz+esz)),?_,.agg _ (by simp;omega) (fun j hj=>?_) (fun j hj=>?_)⟩
  ·simp [execOp,ho,ex,hevy.int_inv,Instr.index,asIntOf,run_underlying hdu,Ei e2 hz,hq,part,hagg,pure]
  ·rw [aY,aT] at hj
   rw [hxx j (by omega)]
   simp only [aN,aM]
   exact hr (q*esz+j) (by omega)
  ·have hj':j<esz:=by simp at hj;omega
   rw [hxx j hj']
   exact h1c _ (by omega)
theorem zqn {ix:Nat}(ho:o.op=.extract x ix)(hd:dok cx o=true)(hxo:A5 x=true)(hx:σ.eval x=.tup cs)(hc:cs[ix]? = some av):Ag cx o σ av [] [] :=
 Ay hd fun τ γ a w h1 h2 hst=>by
  have hev:=hst.ev x hxo
  rw [h1 x (by simp [ho,Op.operands]),hx] at hev
  obtain ⟨vs,e,hl,hr⟩:=hev.tup_inv
  obtain ⟨hlt,hc'⟩:=List.getElem?_eq_some_iff.1 hc
  have hget:=getElem?_of_getD (vs:=vs) (j:=ix) (by omega)
  have hres:=hr ix hlt
  rw [hc'] at hres
  generalize vs.getD ix undef=u at *
  exact ⟨u,by simp [execOp,ho,e,Instr.extract,hget,pure],hres⟩
theorem ztw {ty:Nat}(ho:o.op=.call { callee:=.builtin .len,args:=#[x],argTypes:=#[T] })(hd:dok cx o=true)(hxo:A5 x=true)(hx:σ.eval x=.sl sz xs)(hT:lkT cx.E.tab T=some i)(hs:i.shape=.slc e esz eb) :
  Ag cx o σ (.int .i64 (xs.length:Int)) [] [] :=
 Ay hd fun τ γ a w h1 h2 hst=>by
  have hev:=hst.ev x hxo
  rw [h1 x (by simp [ho,Op.operands,Call.operands]),hx] at hev
  obtain ⟨A,c,ex,_⟩:=hev.sl_inv
  obtain ⟨hu,_,_⟩:=Ce (cx.E.ok T i hT) hs
  exact ⟨.int .i64 (xs.length:Int),by simp [execOp,ho,resolve,invoke,builtin,Builtin.len_,ex,run_underlying hu,goInt,pure],.int _ _⟩
theorem zoy {ty:Nat}(ho:o.op=.call { callee:=.builtin .len,args:=#[x],argTypes:=#[T] })(hd:dok cx o=true)(hxo:A5 x=true)(hx:σ.eval x=.nils)(hT:lkT cx.E.tab T=some i)(hs:i.shape=.slc e esz eb) :
  Ag cx o σ (.int .i64 0) [] [] :=
 Ay hd fun τ γ a w h1 h2 hst=>by
  have hev:=hst.ev x hxo
  rw [h1 x (by simp [ho,Op.operands,Call.operands]),hx] at hev
  obtain ⟨hu,_,_⟩:=Ce (cx.E.ok T i hT) hs
  exact ⟨.int .i64 0,by simp [execOp,ho,resolve,invoke,builtin,Builtin.len_,hev.nils_inv,run_underlying hu,goInt,pure],.int _ _⟩
theorem zql (ho:o.op=.call { callee:=.builtin .len,args:=#[x],argTypes:=#[T] })(hd:dok cx o=true)(hxo:A5 x=true)(hx:σ.eval x=.row id)(hl:σ.find id=some (.row ty sz xs))(hT:lkT cx.E.tab T=some i)(hs:i.shape=.slc e esz eb) :
  Ag cx o σ (.int .i64 (xs.length:Int)) [id] [] :=
 Ay hd fun τ γ a w h1 h2 hst=>by
  have hev:=hst.ev x hxo
  rw [h1 x (by simp [ho,Op.operands,Call.operands]),hx] at hev
  have hme:=hst.me id
  rw [h2 id (by simp),hl] at hme
  obtain ⟨d,hd',s,vs,hde,_,hown,_⟩:=hme
  subst hde
  have e:=hev.row_inv hd'
  obtain ⟨hu,_,_⟩:=Ce (cx.E.ok T i hT) hs
  have hsl:∃ A c,s=.slice A xs.length c:=by
   rcases hown.2 with ⟨rfl,h0⟩|⟨g,cap,cur,rfl,_⟩
   ·exact ⟨none,0,by rw [h0]⟩
   ·exact ⟨_,_,rfl⟩
  obtain ⟨A,c,rfl⟩:=hsl
  exact ⟨.int .i64 (xs.length:Int),by simp [execOp,ho,resolve,invoke,builtin,Builtin.len_,e,run_underlying hu,goInt,pure],.int _ _⟩
theorem zqk {s:ByteArray}(ho:o.op=.call { callee:=.builtin .len,args:=#[x],argTypes:=#[T] })(hd:dok cx o=true)(hxo:A5 x=true)(hx:σ.eval x=.str s)(hT:lkT cx.E.tab T=some i)(hs:i.shape=.str) :
  Ag cx o σ (.int .i64 (s.size:Int)) [] [] :=
 Ay hd fun τ γ a w h1 h2 hst=>by
  have hev:=hst.ev x hxo
  rw [h1 x (by simp [ho,Op.operands,Call.operands]),hx] at hev
  obtain ⟨d,hdu,he⟩:=(cx.E.ok T i hT).und
  rw [hs] at he
  cases d<;>simp only [Dk,reduceCtorEq] at he
  exact ⟨.int .i64 (s.size:Int),by simp [execOp,ho,resolve,invoke,builtin,Builtin.len_,hev.str_inv,run_underlying hdu,goInt,pure],.int _ _⟩
theorem y0w {T:Array TypeId}{k':IntKind}{a b:Int}(ho:o.op=.call { callee:=.builtin .max,args:=#[x,y],argTypes:=T })(hd:dok cx o=true)(hxo:A5 x=true)(hyo:A5 y=true)(hx:σ.eval x=.int k a)(hy:σ.eval y=.int k' b):Ag cx o σ (.int k (max a b)) [] [] :=
 Ay hd fun τ γ ac w h1 h2 hst=>by
  have e1:=hst.ev x hxo
  rw [h1 x (by simp [ho,Op.operands,Call.operands]),hx] at e1
  have e2:=hst.ev y hyo
  rw [h1 y (by simp [ho,Op.operands,Call.operands]),hy] at e2
  have hm:(if b > a then b else a)=max a b:=by split<;>omega
  refine ⟨.int k (max a b),?_,.int _ _⟩
  rw [<-hm]
  simp only [execOp,ho,resolve,invoke,builtin,Sem.run_bind,Sem.run_pure,Result.andThen_ok,map_toArray,map_cons,map_nil,e1.int_inv,e2.int_inv]
  rfl
theorem y0v {T:Array TypeId}{k':IntKind}{a b:Int}(ho:o.op=.call { callee:=.builtin .min,args:=#[x,y],argTypes:=T })(hd:dok cx o=true)(hxo:A5 x=true)(hyo:A5 y=true)(hx:σ.eval x=.int k a)(hy:σ.eval y=.int k' b):Ag cx o σ (.int k (min a b)) [] [] :=
 Ay hd fun τ γ ac w h1 h2 hst=>by
  have e1:=hst.ev x hxo
  rw [h1 x (by simp [ho,Op.operands,Call.operands]),hx] at e1
  have e2:=hst.ev y hyo
  rw [h1 y (by simp [ho,Op.operands,Call.operands]),hy] at e2
  have hm:(if b<a then b else a)=min a b:=by split<;>omega
  refine ⟨.int k (min a b),?_,.int _ _⟩
  rw [<-hm]
  simp only [execOp,ho,resolve,invoke,builtin,Sem.run_bind,Sem.run_pure,Result.andThen_ok,map_toArray,map_cons,map_nil,e1.int_inv,e2.int_inv]
  rfl
end
end Go.Proofs.YthbogefcfhmpgaaGreat
