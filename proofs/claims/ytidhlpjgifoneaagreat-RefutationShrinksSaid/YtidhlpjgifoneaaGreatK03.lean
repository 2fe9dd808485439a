/- The abstract walk, third part. -/
import Derived.Test.YtidhlpjgifoneaaGreatK02
set_option linter.unusedVariables false
set_option linter.unusedSimpArgs false
namespace Go.Proofs.YtidhlpjgifoneaaGreat
open Go.RowKit List
def Le (cx:Cx)(σ τ:AS):Prop:=∀ a w,St cx σ a w->St cx τ a w
theorem Le.refl (cx:Cx)(σ:AS):Le cx σ σ:=fun _ _ h=>h
variable {cx:Cx}
theorem Le.trans {a b c:AS}(h:Le cx a b)(k:Le cx b c):Le cx a c:=fun _ _ s=>k _ _ (h _ _ s)
def lift (cx:Cx)(Q:Exit->AS->Prop):Exit->Act->World->Prop:=fun e a w=>∃ σ,Q e σ/\St cx σ a w
def WP (cx:Cx)(c:Code)(Q:Exit->AS->Prop)(σ:AS):Prop:=∀ a w,St cx σ a w->c.wpIn cx.F 0 cx.P (lift cx Q) a w
def zmp (next:AS->Prop)(Q:Exit->AS->Prop):Exit->AS->Prop
 |.normal,σ=>next σ
 |e,σ=>Q e σ
def zoe (id:Nat)(Q:Exit->AS->Prop):Exit->AS->Prop
 |.exit id',σ=>if id'=id then Q .normal σ else Q (.exit id') σ
 |e,σ=>Q e σ
theorem zic (p:Nat->Prop)(h:∃ n,p n):∃ n,p n/\∀ m,p m->n<=m:=by
 obtain ⟨n,hn⟩:=h
 induction n using Nat.strongRecOn with
 |_ n ih =>
  by_cases hm:∃ m,m<n/\p m
  ·obtain ⟨m,h1,h2⟩:=hm;exact ih m h1 h2
  ·exact ⟨n,hn,fun m h2=>Nat.le_of_not_lt fun h1=>hm ⟨m,h1,h2⟩⟩
section
variable {cx:Cx} {Q:Exit->AS->Prop} {σ τ:AS}
variable {c:Code}
theorem WP.weaken (h:Le cx σ τ)(k:WP cx c Q τ):WP cx c Q σ:=fun a w hs=>k a w (h a w hs)
theorem WP.mono {Q':Exit->AS->Prop}(h:WP cx c Q σ)(k:∀ e σ,Q e σ->Q' e σ):WP cx c Q' σ:=fun a w hs=>wpIn_mono (h a w hs) (fun e a w ⟨σ,h1,h2⟩=>⟨σ,k e σ h1,h2⟩)
theorem WP.skip (h:Q .normal σ):WP cx .skip Q σ:=fun a w hs=>wpIn_skip ⟨σ,h,hs⟩
theorem WP.ret (h:Q .ret σ):WP cx .ret Q σ:=fun a w hs=>wpIn_ret ⟨σ,h,hs⟩
theorem WP.exit {id:Nat}(h:Q (.exit id) σ):WP cx (.exit id) Q σ:=fun a w hs=>wpIn_exit ⟨σ,h,hs⟩
theorem WP.seq {x y:Code}(h:WP cx x (zmp (WP cx y Q) Q) σ):WP cx (.seq x y) Q σ:=fun a w hs=>by
 refine wpIn_seq (wpIn_mono (h a w hs) (fun e a w ⟨τ,h1,h2⟩=>?_))
 cases e with
 |normal=>exact h1 a w h2
 |_=>exact ⟨τ,h1,h2⟩
theorem WP.block {id:Nat}(h:WP cx c (zoe id Q) σ):WP cx (.block id c) Q σ:=fun a w hs=>by
 refine wpIn_block (wpIn_mono (h a w hs) (fun e a w ⟨τ,h1,h2⟩=>?_))
 cases e with
 |exit id' =>
  simp only [zoe] at h1
  simp only [Exit.inBlock]
  by_cases hid:id'=id
  ·rw [if_pos hid] at h1 ⊢;exact ⟨τ,h1,h2⟩
  ·rw [if_neg hid] at h1 ⊢;exact ⟨τ,h1,h2⟩
 |_=>exact ⟨τ,h1,h2⟩
theorem WP.loop (I:Nat->AS->Prop)(n:Nat)(h0:I n σ)(round:∀ n σ,I n σ->WP cx c (zmp (fun σ'=>∃ m,m<n/\I m σ') Q) σ):WP cx (.loop c) Q σ:=fun a w hs=>by
 classical
 let R:Act->World->Nat->Prop:=fun a w n=>∃ σ,I n σ/\St cx σ a w
 let μ:Act->World->Nat:=fun a w=>if h:∃ n,R a w n then Classical.choose (zic _ h) else 0
 refine wpIn_loop (fun a w=>∃ n,R a w n) μ ⟨n,σ,h0,hs⟩ (fun a w hI=>?_)
 have hμ:μ a w=Classical.choose (zic _ hI):=dif_pos hI
 obtain ⟨τ,hIτ,hst⟩:=(Classical.choose_spec (zic _ hI)).1
 refine wpIn_mono (round _ τ hIτ a w hst) (fun e a' w' ⟨τ',h1,h2⟩=>?_)
 cases e with
 |normal =>
  obtain ⟨m,hm,hI'⟩:=h1
  have hex:∃ n,R a' w' n:=⟨m,τ',hI',h2⟩
  refine ⟨hex,?_⟩
  have hle:μ a' w'<=m:=by
   show (if h:∃ n,R a' w' n then Classical.choose (zic _ h) else 0)<=m
   rw [dif_pos hex]
   exact (Classical.choose_spec (zic _ hex)).2 m ⟨τ',hI',h2⟩
  omega
 |_=>exact ⟨τ',h1,h2⟩
end
def AV.ofV:Value->AV
 |.int k n=>.int k n
 |.bool b=>.bool b
 |.string s=>.str s
 |.pointer none=>.nilp
 |.slice none 0 0=>.nils
 |.nilFunc=>.nilf
 |.map none=>.mapv []
 |.tuple cs=>if cs.size=0 then .tup [] else .any
 |_=>.any
def zht:Value->AV
 |.agg cs=>.agg (cs.toList.map AV.ofV)
 |v=>AV.ofV v
def AS.eval (σ:AS):Operand->AV
 |.tmp t=>σ.get t
 |.const v=>zht v
 |.func f=>.fn f []
 |.global _=>.any
theorem zt2 (w:World)(S:Nat->Prop)(γ:Gam)(v:Value):Rep w S γ (AV.ofV v) v:=by
 unfold AV.ofV
 split
 ·exact .int _ _
 ·exact .bool _
 ·exact .str _
 ·exact .nilp
 ·exact .nils
 ·exact .nilf
 ·exact .mapn
 ·rename_i cs
  by_cases h:cs.size=0
  ·rw [if_pos h]
   have:cs=#[]:=Array.eq_empty_of_size_eq_zero h
   subst this
   exact .tup #[] rfl (fun i hi=>by simp at hi)
  ·rw [if_neg h];exact .any _
 ·exact .any _
def ybu:Value->Bool
 |.agg cs=>cs.all (·.oneCell')
 |_=>true
theorem zqb (w:World)(S:Nat->Prop)(γ:Gam)(v:Value)(h:ybu v=true):Rep w S γ (zht v) v:=by
 unfold zht
 split
 ·rename_i cs
  refine .agg cs (by simp) (fun i hi=>?_) (fun i hi=>?_)
  ·have hi':i<cs.size:=by simpa using hi
   simp only [getElem_map,Array.getElem_toList]
   have:cs.getD i undef=cs[i]:=by simp [Array.getD,hi']
   rw [this]
   exact zt2 w S γ _
  ·have:cs.getD i undef=cs[i]:=by simp [Array.getD,hi]
   rw [this]
   simp only [ybu,Array.all_eq_true] at h
   exact h i hi
 ·exact zt2 w S γ _
def z0r:Operand->Bool
 |.const v=>ybu v
 |_=>true
section
variable {cx:Cx} {γ:Gam} {σ τ:AS} {a:Act} {w:World}
theorem StG.ev (h:StG cx γ σ a w)(x:Operand)(hx:z0r x=true):Rep w (Sg cx.S0 cx.w0.heap.size γ) γ (σ.eval x) (a.eval x):=by
 cases x with
 |tmp t=>exact h.tm t
 |const v=>exact zqb _ _ _ _ hx
 |global g=>exact .any _
 |func f=>exact .fn #[] rfl (fun i hi=>by simp at hi)
theorem ylf (a:Act)(d:Option Nat)(v:Value)(t:Nat)(hd:∀ x,d=some x->x<a.tmps.size):(a.put d v).tmps.getD t undef=if d=some t then v else a.tmps.getD t undef:=by
 cases d with
 |none=>simp [Act.put]
 |some d =>
  have hlt:=hd d rfl
  simp only [Act.put,Option.some.injEq]
  by_cases h:d=t
  ·subst h;simp [hlt]
  ·rw [if_neg h]
   simp [Array.getElem?_setIfInBounds_ne h]
theorem ykn (a:Act)(d:Option Nat)(v:Value):(a.put d v).tmps.size=a.tmps.size:=by cases d<;>simp [Act.put]
theorem y1d (a:Act)(d:Option Nat)(v:Value):(a.put d v).defers=a.defers:=by cases d<;>rfl
variable {dst:Option Nat}{v:Value}
theorem Book.put {cx:Cx}{γ:Gam}{a:Act}{w:World}(h:Book cx γ a w)(hd:∀ x,dst=some x->cx.E.np<=x/\x<cx.nt):Book cx γ (a.put dst v) w:=by
 refine ⟨fun hr=>by rw [y1d];exact h.d0 hr,by rw [y1d];exact h.marks,fun t ht=>?_,h.yl,h.sz⟩
 rw [<-h.pin t ht]
 cases dst with
 |none=>rfl
 |some d =>
  have hne:d≠t:=fun e=>by have:=(hd d rfl).1;omega
  simp only [Act.put,Array.getD_eq_getD_getElem?]
  rw [Array.getElem?_setIfInBounds_ne hne]
variable {w':World}{B:Nat}
theorem _root_.Go.World.ownsRow.moved {w:World}{e size n:Nat}{xs:List Value}(h:w.ownsRow B e size v n xs)(hk:∀ g,zaw v=some g->w'.heap[g]? = w.heap[g]?):w'.ownsRow B e size v n xs:=by
 refine ⟨h.1,h.2.elim Or.inl fun ⟨g,cap,cur,hv,hg,hh,r⟩=>Or.inr ⟨g,cap,cur,hv,hg,?_,r⟩⟩
 rw [hk g (by rw [hv];rfl)]
 exact hh
variable {S S':Nat->Prop}
theorem NRep.moved {w:World}{e:NE}(h:NRep w S B v e)(hz:w.heap.size<=w'.heap.size)(hk:∀ b,S b->b<w.heap.size->w'.heap[b]? = w.heap[b]? /\ S' b)(hb:∀ g,zaw v=some g->w'.heap[g]? = w.heap[g]?):NRep w' S' B v e:=by
 cases e with
 |row ty sz xs =>
  obtain ⟨h1,vs,hown,hc,hr,ho⟩:=h
  exact ⟨h1,vs,hown.moved hb,hc,fun k hk' j hj=>(hr k hk' j hj).mono hz hk,ho⟩
 |mp ps =>
  obtain ⟨g,ps0,hv,hm,hp⟩:=h
  exact ⟨g,ps0,hv,hm.move hz hk (hb g (by rw [hv];rfl)),hp⟩
 |hole=>exact h
variable {γ':Gam}{d:Option (Option Nat×Value)}{e:Ent}
theorem z8s.move (h:z8s w S γ B d e)(hz:w.heap.size<=w'.heap.size)
  (hk:∀ b,S b->b<w.heap.size->w'.heap[b]? = w.heap[b]? /\ S' b) (hγ:∀ id d,γ id=some d->γ' id=some d\/γ' id=some none\/Turn γ' id d) (hblk:∀ b,b∈blks d->w'.heap[b]? = w.heap[b]?):z8s w' S' γ' B d e:=by
 cases e with
 |box ty cells =>
  obtain ⟨g,vs,hd,hb,hs,hr,h1⟩:=h
  exact ⟨g,vs,hd,(hblk g (by rw [hd];exact z4e)).trans hb,hs,fun i hi=>((hr i hi).mono hz hk).gam hγ,h1⟩
 |row ty sz xs =>
  obtain ⟨s,vs,hd,h1,hown,hc,hr,ho⟩:=h
  refine ⟨s,vs,hd,h1,⟨hown.1,hown.2.elim Or.inl (fun ⟨g,cap,cur,hv,hg,hh,r⟩=>Or.inr ⟨g,cap,cur,hv,hg,?_,r⟩)⟩,hc,fun k hk' j hj=>(hr k hk' j hj).mono hz hk,ho⟩
  subst hv
  exact (hblk g (by rw [hd];exact z4e)).trans hh
 |mp ps =>
  obtain ⟨g,hd,hm⟩:=h
  exact ⟨g,hd,hm.move hz hk (hblk g (by rw [hd];exact z4e))⟩
 |nest ty es =>
  obtain ⟨s,vs,hd,h1,hsz,⟨us,hown,hu,hus⟩,hn,hnd⟩:=h
  have hb0:∀ g,zaw s=some g->w'.heap[g]? = w.heap[g]? := fun g hg=>hblk g (by rw [hd];simp [blks,zh1,hg])
  have hbk:∀ k,k<es.length->∀ g,zaw (vs.getD k undef)=some g->w'.heap[g]? = w.heap[g]? := fun k hk' g hg=>hblk g (by
   rw [hd]
   simp only [blks,Option.toList_none,nil_append,zh1,mem_filterMap]
   refine ⟨vs.getD k undef,?_,hg⟩
   have:k<vs.size:=by omega
   simp [Array.getD,this])
  refine ⟨s,vs,hd,h1,hsz,⟨us,hown.moved fun g hg=>hb0 g hg,hu,hus⟩,fun k hk'=>?_,hnd⟩
  exact (hn k hk').moved hz hk (hbk k hk')
 |mpn ps =>
  obtain ⟨g,es,vs,hd,hh,hl,hsz,hbn,hkk,hvv,hn,hnd⟩:=h
  have hg0:w'.heap[g]? = w.heap[g]? := hblk g (by rw [hd];simp [blks,zh1,zaw])
  have hbk:∀ k,k<ps.length->∀ g,zaw (vs.getD k undef)=some g->w'.heap[g]? = w.heap[g]? := fun k hk' g hg=>hblk g (by
   rw [hd]
   simp only [blks,Option.toList_none,nil_append,zh1,mem_filterMap]
   refine ⟨vs.getD k undef,?_,hg⟩
   have:k<vs.size:=by omega
   simp [Array.getD,this])
  exact ⟨g,es,vs,hd,hg0.trans hh,hl,hsz,hbn,fun j h h'=>(hkk j h h').mono hz hk,hvv,fun j h'=>(hn j h').moved hz hk (hbk j h'),hnd⟩
 |are ty idx os =>
  obtain ⟨s,vs,us,hd,h1,hsz,hown,hu,hix,hn,hnd⟩:=h
  have hb0:∀ g,zaw s=some g->w'.heap[g]? = w.heap[g]? := fun g hg=>hblk g (by rw [hd];simp [blks,zh1,hg])
  have hbk:∀ k,k<os.length->∀ g,zaw (vs.getD k undef)=some g->w'.heap[g]? = w.heap[g]? := fun k hk' g hg=>hblk g (by
   rw [hd]
   simp only [blks,Option.toList_none,nil_append,zh1,mem_filterMap]
   refine ⟨vs.getD k undef,?_,hg⟩
   have:k<vs.size:=by omega
   simp [Array.getD,this])
  exact ⟨s,vs,us,hd,h1,hsz,hown.moved fun g hg=>hb0 g hg,hu,fun k hk'=>⟨fun h=>((hix k hk').1 h).mono hz hk,(hix k hk').2⟩,fun j h=>⟨(hn j h).1,(hn j h).2.moved hz hk (hbk j h)⟩,hnd⟩
 |it ps =>
  obtain ⟨g,hd,hi⟩:=h
  exact ⟨g,hd,hi.move hk hz (hblk g (by rw [hd];exact z4e)) (fun es s c d h=>RepM.move h hz hk)⟩
 |itp ps =>
  obtain ⟨g,hd,hi⟩:=h
  exact ⟨g,hd,hi.move hk hz (hblk g (by rw [hd];exact z4e)) (fun es s c d ⟨h0,s0,e,h1,h2,h3⟩=>⟨h0,s0,e,h1,h2,RepM.move h3 hz hk⟩)⟩
 |itc p ps =>
  obtain ⟨g,hd,hi⟩:=h
  exact ⟨g,hd,hi.move hk hz (hblk g (by rw [hd];exact z4e)) (fun es s c d ⟨h0,s0,e,h1,h2,h3,h4⟩=>⟨h0,s0,e,h1,h2,⟨h3.1.mono hz hk,h3.2.mono hz hk⟩,RepM.move h4 hz hk⟩)⟩
 |dead=>exact h
theorem z8s.free {w:World}{γ:Gam}(h:z8s w S γ B d e)(hb:∀ ty cs,e≠.box ty cs):z8s w S γ' B d e:=by
 cases e with
 |box ty cs=>exact absurd rfl (hb ty cs)
 |_=>exact h
theorem z8s.gmono {w:World}{γ:Gam}(h:z8s w S γ B d e)(hb:∀ ty cs,e≠.box ty cs)(hS:∀ b,S b->S' b):z8s w S' γ' B d e :=
 (h.move (γ':=γ) (Nat.le_refl _) (fun b hb _=>⟨rfl,hS b hb⟩) (fun id d h=>Or.inl h) (fun _ _=>rfl)).free hb
variable {av:AV}
theorem StG.step (h:StG cx γ σ a w){wr:List (Nat×Ent)}(hd:∀ x,dst=some x->cx.E.np<=x/\x<cx.nt)(hz:w.heap.size<=w'.heap.size)
  (hk:∀ b,Sg cx.S0 cx.w0.heap.size γ b->b<w.heap.size->w'.heap[b]? = w.heap[b]? /\ Sg cx.S0 cx.w0.heap.size γ' b)
  (hγ:∀ id d,γ id=some d->γ' id=some d\/γ' id=some none\/Turn γ' id d)
  (hsame:∀ id,lkE wr id=none->γ' id=γ id/\∀ b d,γ id=some d->b∈blks d->w'.heap[b]? = w.heap[b]?)
  (hnew:∀ id e,lkE wr id=some e->∃ x,γ' id=some x/\z8s w' (Sg cx.S0 cx.w0.heap.size γ') γ' cx.w0.heap.size x e)
  (hinj:∀ id id' b d d',γ' id=some d->γ' id'=some d'->b∈blks d->b∈blks d'->id=id')
  (hge:∀ b,own γ' b->Nw cx.S0 cx.w0.heap.size b/\b<w'.heap.size) (hb:Below cx.w0.heap.size cx.w0 w')
  (hv:Rep w' (Sg cx.S0 cx.w0.heap.size γ') γ' av v) (hk0:∀ b,¬own γ b->b<w.heap.size->w'.heap[b]? = w.heap[b]? /\ ¬own γ' b) (hdr:cx.E.dr=true->w.drawn<=w'.drawn):StG cx γ' (σ.upd dst av wr) (a.put dst v) w':=by
 refine ⟨fun t=>?_,fun id=>?_,hinj,hge,hb,by rw [ykn];exact h.size,(h.defers.step hz hk0).put hd,fun b hb=>Nat.lt_of_lt_of_le (h.gh b hb) hz,fun b hb=>?_,fun hd=>Nat.le_trans (h.dr hd) (hdr hd)⟩
 rotate_right
 ·obtain ⟨f2,f3,f4⟩:=h.fr b hb
  obtain ⟨k1,k2⟩:=hk0 b f2 f3
  exact ⟨k2,Nat.lt_of_lt_of_le f3 hz,k1.trans f4⟩
 ·rw [AS.get_upd,ylf a dst v t (fun x hx=>by rw [h.size];exact (hd x hx).2)]
  by_cases ht:dst=some t
  ·rw [if_pos ht,if_pos ht];exact hv
  ·rw [if_neg ht,if_neg ht];exact ((h.tm t).mono hz hk).gam hγ
 ·rw [AS.find_upd]
  cases hw:lkE wr id with
  |some e=>exact hnew id e hw
  |none =>
   rw [Option.none_or]
   obtain ⟨h1,h2⟩:=hsame id hw
   rw [h1]
   have:=h.me id
   cases hf:σ.find id with
   |none=>rw [hf] at this;exact this
   |some e =>
    rw [hf] at this
    obtain ⟨x,hx,he⟩:=this
    exact ⟨x,hx,he.move hz hk hγ (fun b hb=>h2 b x hx hb)⟩
theorem StG.put (h:StG cx γ σ a w)(hd:∀ x,dst=some x->cx.E.np<=x/\x<cx.nt)(hv:Rep w (Sg cx.S0 cx.w0.heap.size γ) γ av v):StG cx γ (σ.upd dst av []) (a.put dst v) w :=
 h.step hd (Nat.le_refl _) (fun b hb _=>⟨rfl,hb⟩) (fun id d hd=>Or.inl hd) (fun id _=>⟨rfl,fun _ _ _ _=>rfl⟩) (fun id e he=>by simp [lkE] at he) h.inj h.ge h.below hv (fun b hb _=>⟨rfl,hb⟩) (fun _=>Nat.le_refl _)
theorem StG.grow (h:StG cx γ σ a w)(hd:∀ x,dst=some x->cx.E.np<=x/\x<cx.nt)(hb:Below w.heap.size w w')(hdr:cx.E.dr=true->w.drawn<=w'.drawn)(hv:Rep w' (Sg cx.S0 cx.w0.heap.size γ) γ av v):StG cx γ (σ.upd dst av []) (a.put dst v) w':=by
 refine h.step hd hb.size (fun b hS hlt=>⟨hb.block b hlt,hS⟩) (fun id d hd=>Or.inl hd) (fun id _=>⟨rfl,fun b d hd hm=>hb.block b (h.ge b ⟨id,d,hd,hm⟩).2⟩) (fun id e he=>by simp [lkE] at he) h.inj
  (fun b hb'=>⟨(h.ge b hb').1,Nat.lt_of_lt_of_le (h.ge b hb').2 hb.size⟩) (h.below.trans (hb.mono h.below.size)) hv (fun b hno hlt=>⟨hb.block b hlt,hno⟩) hdr
def Gam.set (γ:Gam)(id:Nat)(x:Option (Option Nat×Value)):Gam:=fun i=>if i=id then some x else γ i
theorem Gam.set_self (γ:Gam)(id:Nat)(x:Option (Option Nat×Value)):γ.set id x id=some x:=by simp [Gam.set]
theorem Gam.set_ne (γ:Gam)(id:Nat)(x:Option (Option Nat×Value)){i:Nat}(h:i≠id):γ.set id x i=γ i:=by simp [Gam.set,h]
theorem StG.name (h:StG cx γ σ a w){id g:Nat}{s:Value}(hd:∀ x,dst=some x->cx.E.np<=x/\x<cx.nt)(hn:σ.find id=none)(hb:Below w.heap.size w w')(hg:w.heap.size<=g)(hg':g<w'.heap.size)
  (he:z8s w' (Sg cx.S0 cx.w0.heap.size (γ.set id (some (some g,s)))) (γ.set id (some (some g,s))) cx.w0.heap.size (some (some g,s)) e)
  (hv:Rep w' (Sg cx.S0 cx.w0.heap.size (γ.set id (some (some g,s)))) (γ.set id (some (some g,s))) av v) (hdr:cx.E.dr=true->w.drawn<=w'.drawn:=by exact fun _=>Nat.le_refl _) (hns:zh1 s=[]:=by rfl):StG cx (γ.set id (some (some g,s))) (σ.upd dst av [(id,e)]) (a.put dst v) w':=by
 have hγid:γ id=none:=by have:=h.me id;rw [hn] at this;exact this
 have hold:∀ i x,γ i=some x->i≠id:=fun i x hx e=>by subst e;rw [hγid] at hx;cases hx
 have hown:∀ b,own (γ.set id (some (some g,s))) b->b=g\/own γ b:=fun b ⟨i,d,hi,hm⟩=>by
  by_cases hid:i=id
  ·subst hid;rw [Gam.set_self] at hi;injection hi with hi;subst hi;exact Or.inl (zth hns hm)
  ·rw [Gam.set_ne _ _ _ hid] at hi;exact Or.inr ⟨i,d,hi,hm⟩
 refine h.step hd hb.size (fun b hS hlt=>⟨hb.block b hlt,?_⟩) (fun i x hx=>Or.inl ?_) (fun i hi=>?_) (fun i e' hi=>?_) (fun i j b d1 d2 h1 h2 m1 m2=>?_) (fun b hbo=>?_) (h.below.trans (hb.mono h.below.size)) hv (fun b hno hlt=>⟨hb.block b hlt,fun ho=>?_⟩) hdr
 rotate_right
 ·rcases hown b ho with rfl|ho
  ·omega
  ·exact hno ho
 ·rcases hS with hS|⟨h1,h2⟩
  ·exact Or.inl hS
  ·refine Or.inr ⟨h1,fun ho=>?_⟩
   rcases hown b ho with rfl|ho
   ·omega
   ·exact h2 ho
 ·rw [Gam.set_ne _ _ _ (hold i x hx)];exact hx
 ·have hid:i≠id:=fun e=>by subst e;simp [lkE] at hi
  refine ⟨Gam.set_ne _ _ _ hid,fun b d hg' hm=>hb.block b (h.ge b ⟨i,d,hg',hm⟩).2⟩
 ·have hid:i=id:=by
   simp only [lkE] at hi
   cases hbq:Nat.beq id i with
   |true=>exact (Nat.eq_of_beq_eq_true hbq).symm
   |false=>rw [hbq] at hi;cases hi
  subst hid
  simp only [lkE,Nat.beq_refl,Option.some.injEq] at hi
  subst hi
  exact ⟨_,Gam.set_self _ _ _,he⟩
 ·by_cases h1':i=id
  ·by_cases h2':j=id
   ·rw [h1',h2']
   ·subst h1'
    rw [Gam.set_self] at h1
    rw [Gam.set_ne _ _ _ h2'] at h2
    injection h1 with h1
    subst h1
    have:=(h.ge b ⟨j,d2,h2,m2⟩).2
    have:=zth hns m1
    omega
  ·by_cases h2':j=id
   ·subst h2'
    rw [Gam.set_self] at h2
    rw [Gam.set_ne _ _ _ h1'] at h1
    injection h2 with h2
    subst h2
    have:=(h.ge b ⟨i,d1,h1,m1⟩).2
    have:=zth hns m2
    omega
   ·rw [Gam.set_ne _ _ _ h1'] at h1
    rw [Gam.set_ne _ _ _ h2'] at h2
    exact h.inj i j b d1 d2 h1 h2 m1 m2
 ·rcases hown b hbo with rfl|ho
  ·have:=h.below.size
   exact ⟨⟨by omega,fun h0=>by have:=h.gh _ h0;omega⟩,hg'⟩
  ·have:=h.ge b ho
   exact ⟨this.1,Nat.lt_of_lt_of_le this.2 hb.size⟩
end
variable {o:Oper}
theorem zhj {a:Act}{w:World}{K:Act->World->Prop}{Q:Exit->Act->World->Prop}(hnd:∀ c,o.op≠.defer c)(h:o.wp cx.P a w K Q):o.wpIn cx.F 0 cx.P a w K Q:=by
 unfold Oper.wp at h
 refine ⟨fun _ _=>trivial,?_⟩
 rw [Oper.semAt_eq _ _ _ hnd]
 generalize (execOp a.eval o).run cx.P w=r at *
 cases r with
 |ok x w' =>
  cases x with
  |enter f args =>
   simp only [Oper.upon,Oper.uponIn] at h ⊢
   exact ⟨fun h=>by simp [Fence.wide] at h,((callsIn_wide (n:=0-1)).2 h:_)⟩
  |row r args =>
   simp only [Oper.upon,Oper.uponIn] at h ⊢
   exact ⟨fun h=>by simp [Fence.wide] at h,fun c cs _=>let ⟨v,w',r,s⟩:=h c cs;⟨v,w',r,stepsIn_wide.2 s⟩⟩
  |_=>first|exact h|exact h.elim
 |halt x w'=>cases x<;>first|exact h|exact h.elim
variable {P:Program}
theorem ztv {ρ:Operand->Value}{w w':World}{v:Value}(h:(execOp ρ o).run P w=.ok (.value v) w'):∀ c,o.op≠.defer c:=by
 intro c hc
 unfold execOp at h
 rw [hc] at h
 simp only [Sem.run_bind] at h
 cases hr:(resolve ρ c o.type).run P w with
 |ok d w2=>rw [hr] at h;simp [Result.andThen] at h
 |halt x w2=>rw [hr] at h;simp [Result.andThen] at h
def z11 (cx:Cx)(o:Oper)(σ:AS)(av:AV)(ids:List Nat)(wr:List (Nat×Ent)):Prop :=
 (∀ id e,lkE wr id=some e->id∈ids) /\
 ∀ τ:AS,(∀ x∈o.op.operands,τ.eval x=σ.eval x)->(∀ id∈ids,τ.find id=σ.find id)->∀ a w Q K,St cx τ a w->(∀ a' w',St cx (τ.upd o.dst av wr) a' w'->K a' w')->o.wpIn cx.F 0 cx.P a w K Q
def dok (cx:Cx)(o:Oper):Bool:=match o.dst with|some d=>Nat.ble cx.E.np d && Nat.blt d cx.nt|none=>true
theorem z9f (h:dok cx o=true):∀ x,o.dst=some x->cx.E.np<=x/\x<cx.nt:=fun x hx=>by
 unfold dok at h;rw [hx] at h;simpa using h
variable {ops:Array Oper}{av:AV}{ids:List Nat}{wr:List (Nat×Ent)}
theorem z11.step {i:Nat}{σ:AS}(ho:ops[i]? = some o)(hg:o.guard=none)(h:z11 cx o σ av ids wr):Step cx ops i σ ⟨av,ids,wr⟩:=by
 refine ⟨h.1,fun τ h1 h2 a w Q K hst hK=>?_⟩
 have hd:zfp ops i=o.dst:=by simp [zfp,ho]
 have hl:zwn ops i=o.looksAt ops:=by simp [zwn,ho]
 unfold Go.wpOpIn
 simp only [ho]
 rw [if_pos (by simp [Region.wanted,hg])]
 refine h.2 τ (fun x hx=>?_) h2 a w Q K hst (by rw [hd] at hK;exact hK)
 cases x with
 |tmp t =>
  refine h1 t ?_
  rw [hl]
  exact mem_append_left _ (mem_filterMap.2 ⟨.tmp t,by simpa using hx,rfl⟩)
 |_=>rfl
variable {want:Bool}
theorem z11.step_guard {i g t:Nat}{c:Bool}{σ:AS}(ho:ops[i]? = some o)(hg:o.guard=some (g,want))(ht:zfp ops g=some t)(hv:σ.get t=.bool c)(hc:c=want)
  (h:z11 cx o σ av ids wr):Step cx ops i σ ⟨av,ids,wr⟩:=by
 refine ⟨h.1,fun τ h1 h2 a w Q K hst hK=>?_⟩
 have hd:zfp ops i=o.dst:=by simp [zfp,ho]
 have hl:zwn ops i=o.looksAt ops:=by simp [zwn,ho]
 have htl:t∈zwn ops i:=by
  rw [hl]
  refine mem_append_right _ ?_
  simp only [hg]
  have:(ops[g]?).bind (·.dst)=some t:=ht
  simp [this]
 have hval:a.tmps.getD t undef=.bool c:=by
  obtain ⟨γ,hs⟩:=hst
  have:=hs.tm t
  rw [h1 t htl,hv] at this
  exact this.bool_inv
 unfold Go.wpOpIn
 simp only [ho]
 have hw:Region.wanted o (yielded ops a.tmps)=true:=by
  have ht':(ops[g]?).bind (·.dst)=some t:=ht
  simp only [Region.wanted,hg,yielded]
  rw [ht']
  rw [Array.getD_eq_getD_getElem?] at hval
  cases hq:a.tmps[t]? with
  |none=>rw [hq] at hval;simp [undef] at hval
  |some u=>rw [hq] at hval;simp at hval;subst hval;simp [hq,hc]
 rw [if_pos hw]
 refine h.2 τ (fun x hx=>?_) h2 a w Q K hst (by rw [hd] at hK;exact hK)
 cases x with
 |tmp t =>
  refine h1 t ?_
  rw [hl]
  exact mem_append_left _ (mem_filterMap.2 ⟨.tmp t,by simpa using hx,rfl⟩)
 |_=>rfl
theorem zvr {i g t:Nat}{σ:AS}(ho:ops[i]? = some o)(hok:dok cx o=true)(hg:o.guard=some (g,want))(ht:zfp ops g=some t)(hv:(∃ c,σ.get t=.bool c/\c≠want)\/σ.get t=.tup []):Step cx ops i σ ⟨.tup [],[],[]⟩:=by
 refine ⟨fun id e he=>by simp [lkE] at he,fun τ h1 h2 a w Q K hst hK=>?_⟩
 have hd:zfp ops i=o.dst:=by simp [zfp,ho]
 have hl:zwn ops i=o.looksAt ops:=by simp [zwn,ho]
 have ht':(ops[g]?).bind (·.dst)=some t:=ht
 have htl:t∈zwn ops i:=by
  rw [hl]
  refine mem_append_right _ ?_
  simp only [hg]
  simp [ht']
 obtain ⟨γ,hs⟩:=hst
 have htm:=hs.tm t
 rw [h1 t htl] at htm
 unfold Go.wpOpIn
 simp only [ho]
 have hw:¬Region.wanted o (yielded ops a.tmps)=true:=by
  simp only [Region.wanted,hg,yielded]
  rw [ht']
  rcases hv with ⟨c,hc,hne⟩|hc
  ·rw [hc] at htm
   have:=htm.bool_inv
   rw [Array.getD_eq_getD_getElem?] at this
   cases hq:a.tmps[t]? with
   |none=>simp [hq]
   |some u=>rw [hq] at this;simp at this;subst this;simp [hq,hne]
  ·rw [hc] at htm
   obtain ⟨vs,hvs,_,_⟩:=htm.tup_inv
   rw [Array.getD_eq_getD_getElem?] at hvs
   cases hq:a.tmps[t]? with
   |none=>simp [hq]
   |some u=>rw [hq] at hvs;simp at hvs;subst hvs;simp [hq]
 rw [if_neg hw]
 refine ⟨fun _ _=>trivial,hK _ _ ⟨γ,?_⟩⟩
 rw [hd]
 exact hs.put (z9f hok) (.tup #[] rfl (fun i hi=>by simp at hi))
def Exec (cx:Cx)(ops:Array Oper)(i:Nat)(σ:AS)(trs:List Tr)(Post:List Tr->AS->Prop):Prop:=∃ trs' σ',Run cx ops i σ trs' σ'/\Post (trs.reverse++trs') σ'
section
variable {cx:Cx} {ops:Array Oper} {i:Nat} {σ:AS} {trs:List Tr} {Post:List Tr->AS->Prop}
theorem Exec.done (h:ops.size<=i)(hp:Post trs.reverse σ):Exec cx ops i σ trs Post:=⟨[],σ,.done h (Ext.refl _),by simpa using hp⟩
theorem Exec.cons {tr:Tr}(h:i<ops.size)(hs:Step cx ops i σ tr)(k:Exec cx ops (i+1) (σ.upd (zfp ops i) tr.val tr.wr) (tr::trs) Post):Exec cx ops i σ trs Post:=by
 obtain ⟨trs',σ',hr,hp⟩:=k
 exact ⟨tr::trs',σ',.step h hs (Ext.refl _) hr,by simpa using hp⟩
theorem Exec.ext {σ':AS}(h:Ext σ' σ)(k:Exec cx ops i σ' trs Post):Exec cx ops i σ trs Post:=by
 obtain ⟨trs',τ,hr,hp⟩:=k
 have hs:Ext σ σ':=⟨fun t=>(h.1 t).symm,fun i=>(h.2 i).symm⟩
 cases hr with
 |done hle hx=>exact ⟨[],τ,.done hle (hx.trans h),hp⟩
 |step hlt hst hx hr=>exact ⟨_,τ,.step hlt (hst.ext hs) (hx.trans (h.upd _ _ _)) hr,hp⟩
theorem Exec.op (ho:ops[i]? = some o)(hg:o.guard=none)(h:z11 cx o σ av ids wr)(k:Exec cx ops (i+1) (σ.upd o.dst av wr) (⟨av,ids,wr⟩::trs) Post):Exec cx ops i σ trs Post :=
 Exec.cons (Array.getElem?_eq_some_iff.1 ho).1 (z11.step ho hg h) (by
  have hd:zfp ops i=o.dst:=by simp [zfp,ho]
  rw [hd];exact k)
theorem Exec.guard {g t:Nat}{c:Bool}(ho:ops[i]? = some o)(hg:o.guard=some (g,want))(ht:zfp ops g=some t)(hv:σ.get t=.bool c)(hok:dok cx o=true)
  (h1:c=want->∃ av ids wr,z11 cx o σ av ids wr/\Exec cx ops (i+1) (σ.upd o.dst av wr) (⟨av,ids,wr⟩::trs) Post)
  (h2:c≠want->Exec cx ops (i+1) (σ.upd o.dst (.tup []) []) (⟨.tup [],[],[]⟩::trs) Post):Exec cx ops i σ trs Post:=by
 have hd:zfp ops i=o.dst:=by simp [zfp,ho]
 by_cases hc:c=want
 ·obtain ⟨av,ids,wr,hr,k⟩:=h1 hc
  exact Exec.cons (Array.getElem?_eq_some_iff.1 ho).1 (z11.step_guard ho hg ht hv hc hr) (by rw [hd];exact k)
 ·exact Exec.cons (Array.getElem?_eq_some_iff.1 ho).1 (zvr ho hok hg ht (Or.inl ⟨c,hv,hc⟩)) (by rw [hd];exact h2 hc)
end
section
variable {cx:Cx} {Q:Exit->AS->Prop} {σ:AS} {id:Nat} {ops:Array Oper}
theorem WP.region (h:Exec cx ops 0 σ [] (fun _ σ'=>Q .normal σ')):WP cx (.region id ops false) Q σ:=fun a w hs=>by
 obtain ⟨trs,σ',hr,hp⟩:=h
 refine wpIn_region ?_
 have:=hr.wpOps (Q:=lift cx Q) (fun a w hs=>⟨σ',hp,hs⟩) (Nat.zero_le _) a w hs
 rw [range_eq_range']
 simpa using this
theorem WP.region_draw (he:zve ops=true)(h:Exec cx ops 0 σ [] (fun trs σ'=>yfp ops trs=true/\Q .normal σ')):WP cx (.region id ops true) Q σ:=fun a w hs=>by
 obtain ⟨trs,σ',hr,hc,hp⟩:=h
 simp only [reverse_nil,nil_append] at hc hp
 refine wpIn_region_any cx.E.mixed ?_
 obtain ⟨h1,h2⟩:=hr.steps (σ0:=σ) (tr:=fun k=>trs.getD k default) (Nat.zero_le _) (fun j _=>by simp) (Ext.refl _)
 refine yk8 (fun j hj=>h1 j (Nat.zero_le _) hj) (fun i j hij hj hcl=>?_) (fun j o ho e he' hb=>?_) (fun a w hs=>⟨σ',hp,hs.congr h2.1 h2.2⟩) ops.size _ (by simp) (by simp) (fun j o _ hj=>by
  simp only [Array.getD_eq_getD_getElem?,Array.getElem?_replicate] at hj
  split at hj<;>simp at hj) a _ ?_
 ·simp only [yfp,all_eq_true,mem_range,Bool.or_eq_true,Bool.not_eq_true'] at hc
  rcases hc j hj i hij with h|h
  ·rw [hcl] at h;cases h
  ·exact h
 ·simp only [zve,all_eq_true,mem_range] at he
  have:=he j (Array.getElem?_eq_some_iff.1 ho).1
  rw [ho] at this
  simp only [Array.all_eq_true_iff_forall_mem,Bool.or_eq_true,Bool.not_eq_true'] at this
  rcases this e he' with h|h
  ·rw [hb] at h;cases h
  ·simpa using h
 ·have hs':St cx σ a { w with drawn:=w.drawn+1 }:=by
   obtain ⟨γ,hs⟩:=hs
   have hbl:Below w.heap.size w { w with drawn:=w.drawn+1 }:=⟨rfl,rfl,rfl,Nat.le_refl _,fun _ _=>rfl⟩
   have:=hs.grow (dst:=none) (av:=.any) (v:=undef) (fun x hx=>by cases hx) hbl (fun _=>Nat.le_succ _) (.any _)
   exact ⟨γ,this⟩
  refine hs'.congr (fun t=>?_) (fun i=>?_)
  ·have:∀ k,(zh2 (zfp ops) (fun k=>trs.getD k default) (fun i=>(Array.replicate ops.size false).getD i false) σ k).get t=σ.get t:=fun k =>
    zv8 _ _ 0 k t (Nat.zero_le _) (fun j _ _ _=>by simp only [Array.getD_eq_getD_getElem?,Array.getElem?_replicate];split<;>simp)
   exact this _
  ·have:∀ k,(zh2 (zfp ops) (fun k=>trs.getD k default) (fun i=>(Array.replicate ops.size false).getD i false) σ k).find i=σ.find i:=fun k =>
    zta _ _ 0 k i (Nat.zero_le _) (fun j _ _ _=>by simp only [Array.getD_eq_getD_getElem?,Array.getElem?_replicate];split<;>simp)
   exact this _
theorem WP.cond {c:Operand}{x y:Code}{b:Bool}(hok:z0r c=true)(hc:σ.eval c=.bool b)(ht:b=true->WP cx x Q σ)(hf:b=false->WP cx y Q σ):WP cx (.cond c x y) Q σ:=fun a w hs=>by
 obtain ⟨γ,h⟩:=hs
 have he:=h.ev c hok
 rw [hc] at he
 exact wpIn_cond_split he.bool_inv (fun h'=>ht h' a w ⟨γ,h⟩) (fun h'=>hf h' a w ⟨γ,h⟩)
end
section
variable {cx:Cx} {o:Oper} {σ:AS}
theorem z14 (hd:dok cx o=true)
  (h:∀ τ γ a w,(∀ x∈o.op.operands,τ.eval x=σ.eval x)->(∀ id∈ids,τ.find id=σ.find id)->StG cx γ τ a w->∃ v,(execOp a.eval o).run cx.P w=.ok (.value v) w/\Rep w (Sg cx.S0 cx.w0.heap.size γ) γ av v):z11 cx o σ av ids []:=by
 refine ⟨fun id e he=>by simp [lkE] at he,fun τ h1 h2 a w Q K ⟨γ,hst⟩ hK=>?_⟩
 obtain ⟨v,hr,hv⟩:=h τ γ a w h1 h2 hst
 refine zhj (ztv hr) ?_
 unfold Oper.wp
 rw [hr]
 exact hK _ _ ⟨γ,hst.put (z9f hd) hv⟩
theorem ygg (hd:dok cx o=true)
  (h:∀ τ γ a w,(∀ x∈o.op.operands,τ.eval x=σ.eval x)->(∀ id∈ids,τ.find id=σ.find id)->StG cx γ τ a w->∃ v w',(execOp a.eval o).run cx.P w=.ok (.value v) w'/\Below w.heap.size w w'/\(cx.E.dr=true->w.drawn<=w'.drawn)/\Rep w' (Sg cx.S0 cx.w0.heap.size γ) γ av v):z11 cx o σ av ids []:=by
 refine ⟨fun id e he=>by simp [lkE] at he,fun τ h1 h2 a w Q K ⟨γ,hst⟩ hK=>?_⟩
 obtain ⟨v,w',hr,hb,hdr,hv⟩:=h τ γ a w h1 h2 hst
 refine zhj (ztv hr) ?_
 unfold Oper.wp
 rw [hr]
 exact hK _ _ ⟨γ,hst.grow (z9f hd) hb hdr hv⟩
variable {x:Operand}
theorem yq1 (ho:o.op=.move x)(hd:dok cx o=true)(hxo:z0r x=true)(hx:σ.eval x=av):z11 cx o σ av [] [] :=
 z14 hd fun τ γ a w h1 _ hst=>⟨a.eval x,by simp [execOp,ho],by
  have:=hst.ev x hxo
  rwa [h1 x (by simp [ho,Op.operands]),hx] at this⟩
theorem ykl (ho:o.op=.assign x)(hd:dok cx o=true)(hxo:z0r x=true)(hx:σ.eval x=av):z11 cx o σ av [] [] :=
 z14 hd fun τ γ a w h1 _ hst=>⟨a.eval x,by simp [execOp,ho],by
  have:=hst.ev x hxo
  rwa [h1 x (by simp [ho,Op.operands]),hx] at this⟩
def AV.toV:AV->Value
 |.int k n=>.int k n
 |.bool b=>.bool b
 |_=>undef
def binI:BinOp->IntKind->Int->Int->Option AV
 |.add,k,a,b=>some (.int k (k.wrap (a+b)))
 |.sub,k,a,b=>some (.int k (k.wrap (a-b)))
 |.mul,k,a,b=>some (.int k (k.wrap (a*b)))
 |.eql,_,a,b=>some (.bool (decide (a=b)))
 |.neq,_,a,b=>some (.bool (!decide (a=b)))
 |.lss,_,a,b=>some (.bool (decide (a<b)))
 |.leq,_,a,b=>some (.bool (decide (a<=b)))
 |.gtr,_,a,b=>some (.bool (decide (b<a)))
 |.geq,_,a,b=>some (.bool (decide (b<=a)))
 |_,_,_,_=>none
variable {y:Operand}{t t2:TypeId}{k:IntKind}{a:Int}
theorem yq6 {op:BinOp}{b:Int}(ho:o.op=.binOp op t x y t2)(hd:dok cx o=true)(hxo:z0r x=true)(hyo:z0r y=true)(hx:σ.eval x=.int k a)(hy:σ.eval y=.int k b)(hc:binI op k a b=some av) :
  z11 cx o σ av [] [] :=
 z14 hd fun τ γ ac w h1 _ hst=>by
  have e1:=hst.ev x hxo
  rw [h1 x (by simp [ho,Op.operands]),hx] at e1
  have e2:=hst.ev y hyo
  rw [h1 y (by simp [ho,Op.operands]),hy] at e2
  have f1:=e1.int_inv
  have f2:=e2.int_inv
  refine ⟨av.toV,?_,?_⟩
  ·cases op<;>simp only [binI,Option.some.injEq,reduceCtorEq] at hc<;>subst hc <;>
    first
     |(simp [execOp,ho,f1,f2,eqGuard,binOp,Op.intArith,Op.intCmp,pure,AV.toV];done)
     |(simp [execOp,ho,f1,f2,eqGuard,binOp,Op.intArith,Op.intCmp,pure,AV.toV];rfl)
     |(simp [execOp,ho,f1,f2,eqGuard,binOp,Op.intArith,Op.intCmp,pure,AV.toV];rw [Bool.eq_iff_iff];simp)
  ·cases op<;>simp only [binI,Option.some.injEq,reduceCtorEq] at hc<;>subst hc<;>first|exact .int _ _|exact .bool _
theorem yrx {b c:Int}(ho:o.op=.binOp .rem t x y t2)(hd:dok cx o=true)(hxo:z0r x=true)(hyo:z0r y=true)(hx:σ.eval x=.int k a)(hy:σ.eval y=.int k b)(hb:b≠0)(hc:a.tmod b=c):z11 cx o σ (.int k c) [] [] :=
 z14 hd fun τ γ ac w h1 _ hst=>by
  have e1:=hst.ev x hxo
  rw [h1 x (by simp [ho,Op.operands]),hx] at e1
  have e2:=hst.ev y hyo
  rw [h1 y (by simp [ho,Op.operands]),hy] at e2
  exact ⟨.int k c,by simp [execOp,ho,e1.int_inv,e2.int_inv,eqGuard,binOp,Op.intDiv,pure,hb,hc],.int _ _⟩
theorem yry {b c:Int}(ho:o.op=.binOp .quo t x y t2)(hd:dok cx o=true)(hxo:z0r x=true)(hyo:z0r y=true)(hx:σ.eval x=.int k a)(hy:σ.eval y=.int k b)(hb:b≠0)(hc:k.wrap (a.tdiv b)=c):z11 cx o σ (.int k c) [] [] :=
 z14 hd fun τ γ ac w h1 _ hst=>by
  have e1:=hst.ev x hxo
  rw [h1 x (by simp [ho,Op.operands]),hx] at e1
  have e2:=hst.ev y hyo
  rw [h1 y (by simp [ho,Op.operands]),hy] at e2
  exact ⟨.int k c,by simp [execOp,ho,e1.int_inv,e2.int_inv,eqGuard,binOp,Op.intDiv,pure,hb,hc],.int _ _⟩
variable {b:Bool}
theorem yrz (ho:o.op=.unOp .not t x)(hd:dok cx o=true)(hxo:z0r x=true)(hx:σ.eval x=.bool b):z11 cx o σ (.bool (!b)) [] [] :=
 z14 hd fun τ γ ac w h1 _ hst=>by
  have e1:=hst.ev x hxo
  rw [h1 x (by simp [ho,Op.operands]),hx] at e1
  exact ⟨.bool (!b),by simp [execOp,ho,e1.bool_inv,Op.unary,pure],.bool _⟩
theorem ys0 {c:Int}(ho:o.op=.unOp .neg t x)(hd:dok cx o=true)(hxo:z0r x=true)(hx:σ.eval x=.int k a)(hc:k.wrap (0-a)=c):z11 cx o σ (.int k c) [] [] :=
 z14 hd fun τ γ ac w h1 _ hst=>by
  have e1:=hst.ev x hxo
  rw [h1 x (by simp [ho,Op.operands]),hx] at e1
  exact ⟨.int k c,by simp [execOp,ho,e1.int_inv,Op.unary,Op.intArith,pure,<-hc],.int _ _⟩
theorem zxz {c:Operand}(ho:o.op=.pick c x y)(hd:dok cx o=true)(hco:z0r c=true)(hxo:z0r x=true)(hc:σ.eval c=.bool b)(hb:b=true)(hx:σ.eval x=av):z11 cx o σ av [] [] :=
 z14 hd fun τ γ ac w h1 _ hst=>by
  have e1:=hst.ev c hco
  rw [h1 c (by simp [ho,Op.operands]),hc] at e1
  have e2:=hst.ev x hxo
  rw [h1 x (by simp [ho,Op.operands]),hx] at e2
  exact ⟨ac.eval x,by simp [execOp,ho,e1.bool_inv,asBool,hb,pure],e2⟩
theorem zvv {c:Operand}(ho:o.op=.pick c x y)(hd:dok cx o=true)(hco:z0r c=true)(hyo:z0r y=true)(hc:σ.eval c=.bool b)(hb:b=false)(hy:σ.eval y=av):z11 cx o σ av [] [] :=
 z14 hd fun τ γ ac w h1 _ hst=>by
  have e1:=hst.ev c hco
  rw [h1 c (by simp [ho,Op.operands]),hc] at e1
  have e2:=hst.ev y hyo
  rw [h1 y (by simp [ho,Op.operands]),hy] at e2
  exact ⟨ac.eval y,by simp [execOp,ho,e1.bool_inv,asBool,hb,pure],e2⟩
theorem ys4 {a:Bool}(ho:o.op=.binOp .eql t x y t2)(hd:dok cx o=true)(hxo:z0r x=true)(hyo:z0r y=true)(hx:σ.eval x=.bool a)(hy:σ.eval y=.bool b)(ht:cx.P.underlying t=some .bool):z11 cx o σ (.bool (a == b)) [] [] :=
 z14 hd fun τ γ ac w h1 _ hst=>by
  have e1:=hst.ev x hxo
  rw [h1 x (by simp [ho,Op.operands]),hx] at e1
  have e2:=hst.ev y hyo
  rw [h1 y (by simp [ho,Op.operands]),hy] at e2
  have hq:∀ n:Nat,(Op.equalIn (n+1) t (.bool a) (.bool b)).run cx.P w=.ok (a == b) w:=fun n=>by simp [Op.equalIn,run_underlying ht,pure]
  exact ⟨.bool (a == b),by simp [execOp,ho,e1.bool_inv,e2.bool_inv,eqGuard,binOp,Op.equal,Op.maxDepth,hq 9999,pure],.bool _⟩
theorem ys1 {a:Bool}(ho:o.op=.binOp .neq t x y t2)(hd:dok cx o=true)(hxo:z0r x=true)(hyo:z0r y=true)(hx:σ.eval x=.bool a)(hy:σ.eval y=.bool b)(ht:cx.P.underlying t=some .bool):z11 cx o σ (.bool (!(a == b))) [] [] :=
 z14 hd fun τ γ ac w h1 _ hst=>by
  have e1:=hst.ev x hxo
  rw [h1 x (by simp [ho,Op.operands]),hx] at e1
  have e2:=hst.ev y hyo
  rw [h1 y (by simp [ho,Op.operands]),hy] at e2
  have hq:∀ n:Nat,(Op.equalIn (n+1) t (.bool a) (.bool b)).run cx.P w=.ok (a == b) w:=fun n=>by simp [Op.equalIn,run_underlying ht,pure]
  exact ⟨.bool (!(a == b)),by simp [execOp,ho,e1.bool_inv,e2.bool_inv,eqGuard,binOp,Op.equal,Op.maxDepth,hq 9999,pure],.bool _⟩
variable {T:TypeId}{i:TyI}
theorem TyOk.size (h:TyOk P T i)(w:World):(sizeOf T).run P w=.ok i.sz w:=by
 have:=h.info
 cases hq:P.info? T with
 |none=>rw [hq] at this;simp at this
 |some x=>rw [hq] at this;simp at this;simp [sizeOf,typeInfo,hq,this.1]
theorem TyOk.cells (h:TyOk P T i):P.cellsOf T=i.sz:=by
 have:=h.info
 cases hq:P.info? T with
 |none=>rw [hq] at this;simp at this
 |some x=>rw [hq] at this;simp at this;simp [Program.cellsOf,hq,this.1]
theorem TyOk.zeroV (h:TyOk P T i)(w:World):(zeroValue T).run P w=.ok i.zero w:=by
 have:=h.zero
 cases hq:P.info? T with
 |none=>rw [hq] at this;simp at this
 |some x=>rw [hq] at this;simp at this;simp [zeroValue,typeInfo,hq,this]
theorem TyOk.und (h:TyOk P T i):∃ d,P.underlying T=some d/\zhk P d=i.shape:=by
 have:=h.shape
 cases hq:P.underlying T with
 |none=>rw [hq] at this;simp at this
 |some d=>rw [hq] at this;simp at this;exact ⟨d,rfl,this⟩
def zun.agg:zun->Bool
 |.strct _=>true
 |.arr _ _ _ _=>true
 |_=>false
theorem TyOk.agg (h:TyOk P T i)(w:World):(isAgg T).run P w=.ok i.shape.agg w:=by
 obtain ⟨d,hd,hs⟩:=h.und
 rw [<-hs]
 cases d<;>simp [isAgg,run_underlying hd,zhk,zun.agg,pure]
theorem zrm (h:aggT P T=some b)(w:World):(isAgg T).run P w=.ok b w:=by
 unfold aggT at h
 split at h
 ·rename_i fs hq;injection h with h;subst h;simp [isAgg,run_underlying hq,pure]
 ·rename_i n e hq;injection h with h;subst h;simp [isAgg,run_underlying hq,pure]
 ·rename_i d h1 h2 hq
  injection h with h
  subst h
  cases d<;>first|exact (h1 _ rfl).elim|exact (h2 _ _ rfl).elim|simp [isAgg,run_underlying hq,pure]
 ·cases h
end
end Go.Proofs.YtidhlpjgifoneaaGreat
