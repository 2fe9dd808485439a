/- The abstract walk. -/
import Derived.Test.YtkoamfnbbhfaiaaGreatDoorK08
set_option linter.unusedVariables false
set_option linter.unusedSimpArgs false
namespace Go.Proofs.YtkoamfnbbhfaiaaGreatDoor
open Go.RowKit List
open Nat renaming mul_le_mul_right->aA,eq_of_beq_eq_true->aB,le_refl->aD,succ_mul->aK,beq->aM,lt_of_lt_of_le->aP,le_of_ble_eq_true->aS,ne_of_beq_eq_false->aW,add_mul->bD,le_trans->bH,add_assoc->bO,beq_refl->bP
open List renaming getD_eq_getElem?_getD->aC,getElem?_eq_getElem->aF,length_map->aQ,getElem_replicate->aR,length_replicate->aT,length_take->aV,mem_iff_getElem->bA,mem_of_mem_take->bB,getElem_map->bE,length_append->bF,getElem?_drop->bG,getElem?_map->bI,replicate->bK,getElem_set->bL,length_drop->bM,map_cons->bN
open Gam renaming set_self->aE,set_ne->aL
open Option.some renaming injEq->aG
open Or renaming inl->aH,inr->aN
open _root_.Array renaming getD_eq_getD_getElem?->aJ,length_toList->aO,getElem?_eq_some_iff->aU,getD->aX,getElem_toList->bC,toList_map->bJ,range->bQ
open Option renaming map_none->aY,map_some->aZ
def AV.leafId:AV->Option Nat |.row i=>some i |.ptr i _=>some i |.elt i _ _ _=>some i |.der _ i=>some i |.cont _ i=>some i |_=>none
def AV.rp0 (r:Nat)(src:AV->Bool)(tgt x:AV):AV:=match x.leafId with
 |some i=>match aM i r with
  |true=>match src x with
   |true=>tgt
   |false=>.any
  |false=>x
 |none=>x
mutual
def AV.rp (r:Nat)(src:AV->Bool)(tgt:AV):AV->AV |.fn f cap=>.fn f (AV.rpL r src tgt cap) |.yld l T cap=>.yld l T (AV.rpL r src tgt cap) |.agg cs=>.agg (AV.rpL r src tgt cs) |.tup cs=>.tup (AV.rpL r src tgt cs) |x=>AV.rp0 r src tgt x
def AV.rpL (r:Nat)(src:AV->Bool)(tgt:AV):List AV->List AV |[]=>[] |x::l=>AV.rp r src tgt x::AV.rpL r src tgt l
end
section
variable {r:Nat} {src:AV->Bool} {tgt:AV}
theorem AV.rpL_length (l:List AV):(AV.rpL r src tgt l).length=l.length:=by
 induction l with
 |nil=>rfl
 |cons x l ih=>simp [AV.rpL,ih]
theorem AV.rpL_at (l:List AV)(i:Nat)(hi:i<l.length):(AV.rpL r src tgt l)[i]'(by rw [AV.rpL_length];exact hi)=AV.rp r src tgt l[i]:=by
 induction l generalizing i with
 |nil=>simp at hi
 |cons x l ih =>
  cases i with
  |zero=>rfl
  |succ i=>exact ih i (by simpa using hi)
theorem Rep.rp {w:World}{S:Nat->Prop}{γ γ':Gam}(e:∀ i x,i≠r->γ i=some x->γ' i=some x)(B:∀ x v,src x=true->x.leafId=some r->Rep w S γ x v->Rep w S γ' tgt v){av:AV}{v:Value}(h:Rep w S γ av v):Rep w S γ' (AV.rp r src tgt av) v:=by
 have leaf:∀ {x:AV} {v:Value} {i:Nat},x.leafId=some i->Rep w S γ x v->(∀ h:i≠r,Rep w S γ' x v)->Rep w S γ' (AV.rp0 r src tgt x) v:=fun {x v i} I h O=>by
  simp only [AV.rp0,I];cases t:aM i r with
  |true =>
   have:=aB t;subst this;simp only;cases M:src x with
   |true=>exact B x v M I h
   |false=>exact .any _
  |false=>exact O (aW t)
 induction h with
 |any=>exact .any _
 |int=>exact .int _ _
 |bool=>exact .bool _
 |str=>exact .str _
 |nilp=>exact .nilp
 |nils=>exact .nils
 |nilf=>exact .nilf
 |@ptr γ id off v D h m=>exact leaf rfl (.ptr h m) (fun hi=>.ptr (e _ _ hi h) m)
 |@elt γ id sz k j v D h m=>exact leaf rfl (.elt h m) (fun hi=>.elt (e _ _ hi h) m)
 |@der γ W id v D h m=>exact leaf rfl (.der h m) (fun hi=>.der (e _ _ hi h) m)
 |@row γ id v D h m=>exact leaf rfl (.row h m) (fun hi=>.row (e _ _ hi h) m)
 |mapv F N g es clock t H U Q s P m L J=>exact .mapv F N g es clock t H U Q s P m
 |mapn=>exact .mapn
 |slen A n c=>exact .slen A n c
 |@cont γ n id v D h m s=>exact leaf rfl (.cont h m s) (fun hi=>.cont (e _ _ hi h) m s)
 |sl A c cell G C t z h1 ih=>exact .sl A c cell G C t z h1
 |ref b off cell H t G z h1 ih=>exact .ref b off cell H t G z h1
 |fn vs s u ih =>
  exact .fn vs (by rw [s,AV.rpL_length]) (fun i q=>by
   have a:=q;rw [AV.rpL_length] at a;rw [AV.rpL_at _ i a];exact ih i a e B leaf)
 |yld u ih =>
  exact .yld (fun i q=>by
   have a:=q;rw [AV.rpL_length] at a;rw [AV.rpL_at _ i a];exact ih i a e B leaf)
 |agg vs s u h1 ih =>
  exact .agg vs (by rw [s,AV.rpL_length]) (fun i q=>by
   have a:=q;rw [AV.rpL_length] at a;rw [AV.rpL_at _ i a];exact ih i a e B leaf) h1
 |tup vs s u ih =>
  exact .tup vs (by rw [s,AV.rpL_length]) (fun i q=>by
   have a:=q;rw [AV.rpL_length] at a;rw [AV.rpL_at _ i a];exact ih i a e B leaf)
end
theorem AV.rp_cells {r:Nat}{src:AV->Bool}{tgt:AV}(j:tgt.cells=[tgt])(x:AV):(AV.rp r src tgt x).cells=AV.rpL r src tgt x.cells:=by
 have e:∀ x:AV,x.cells=[x]->(AV.rp0 r src tgt x).cells=[AV.rp0 r src tgt x]:=fun x g=>by
  unfold AV.rp0;split
  ·split
   ·split
    ·exact j
    ·rfl
   ·exact g
  ·exact g
 cases x with
 |agg cs=>rfl
 |fn f cap=>rfl
 |yld l T cap=>rfl
 |tup cs=>rfl
 |any=>exact e (.any) rfl
 |int k n=>exact e (.int k n) rfl
 |bool b=>exact e (.bool b) rfl
 |str s=>exact e (.str s) rfl
 |nilp=>exact e (.nilp) rfl
 |ptr id off=>exact e (.ptr id off) rfl
 |nils=>exact e (.nils) rfl
 |sl sz xs=>exact e (.sl sz xs) rfl
 |row id=>exact e (.row id) rfl
 |elt a b c d=>exact e (.elt a b c d) rfl
 |nilf=>exact e (.nilf) rfl
 |ref cs=>exact e (.ref cs) rfl
 |der h id=>exact e (.der h id) rfl
 |mapv ps=>exact e (.mapv ps) rfl
 |slen n=>exact e (.slen n) rfl
 |cont n id=>exact e (.cont n id) rfl
def Ent.rp (r:Nat)(src:AV->Bool)(tgt:AV):Ent->Ent |.box ty cs=>.box ty (AV.rpL r src tgt cs) |.gen ty sz xs=>.gen ty sz (AV.rpL r src tgt xs) |.lp fn ps a b nt busy caps=>.lp fn ps a b nt busy (AV.rpL r src tgt caps) |e=>e
def AS.rpAll (σ:AS)(r:Nat)(src:AV->Bool)(tgt:AV)(e:Ent):AS:=⟨σ.tm.map fun p=>(p.1,AV.rp r src tgt p.2),(r,e)::σ.me.map fun p=>(p.1,p.2.rp r src tgt)⟩
variable {σ:AS}
theorem Le.rpAll {cx:Cx}(r:Nat)(src:AV->Bool)(tgt:AV)(e I:Ent)(hr:σ.find r=some e)(ab:∀ (_:TypeId) (_:List AV),I.opn->False)
  (H:∀ (cx:Cx) (γ:Gam) (a:Act) (w:World) (d:Option (Option Nat×Value)),StG cx γ σ a w->γ r=some d->B8 w (Sg cx.S0 cx.w0.heap.size γ) γ cx.w0.heap.size d e->∃ z,(∀ b,b∈blks z->b∈blks d)/\∀ S':Nat->Prop,(∀ b,Sg cx.S0 cx.w0.heap.size γ b->S' b)->(∀ b,b∈blks d->b ∉ blks z->S' b) ->
    B8 w S' G0 cx.w0.heap.size z I/\∀ γ' x v,γ' r=some z->src x=true->x.leafId=some r->Rep w S' γ x v->Rep w S' γ' tgt v) (aa:cx.ev=false\/I=.dead) (S:tgt.cells=[tgt]):Le cx σ (σ.rpAll r src tgt I):=fun a w ⟨γ,h⟩=>by
 have W:=h.me r;rw [hr] at W;obtain ⟨d,Q,G⟩:=W;obtain ⟨z,A,H⟩:=H cx γ a w d h Q G;have m:∀ b,own (γ.set r z) b->own γ b:=fun b ⟨i,s,hi,hm⟩=>by
  by_cases c:i=r
  ·subst c;rw [aE] at hi;injection hi with hi;subst hi;exact ⟨_,_,Q,A b hm⟩
  ·rw [aL _ _ _ c] at hi;exact ⟨i,s,hi,hm⟩
 have hS:∀ b,Sg cx.S0 cx.w0.heap.size γ b->Sg cx.S0 cx.w0.heap.size (γ.set r z) b:=fun b q=>q.elim aH (fun ⟨h1,Y⟩=>aN ⟨h1,fun ho=>Y (m b ho)⟩)
 obtain ⟨H1,H2⟩:=H (Sg cx.S0 cx.w0.heap.size (γ.set r z)) hS (fun b q ad=>aN ⟨(h.ge b ⟨_,_,Q,q⟩).1,fun ⟨i,s,hi,hm⟩=>by
  by_cases c:i=r
  ·subst c;rw [aE] at hi;injection hi with hi;subst hi;exact ad hm
  ·rw [aL _ _ _ c] at hi;exact c (h.inj _ _ _ _ _ hi Q hm q)⟩)
 have mv:∀ {av v},Rep w (Sg cx.S0 cx.w0.heap.size γ) γ av v->Rep w (Sg cx.S0 cx.w0.heap.size (γ.set r z)) (γ.set r z) (AV.rp r src tgt av) v:=fun Z =>
  (Z.mono (aD _) (fun b q _=>⟨rfl,hS b q⟩)).rp (src:=src) (fun i x hi F=>by rw [aL _ _ _ hi];exact F) (fun x v hs hl F=>H2 _ x v (aE _ _ _) hs hl F)
 refine ⟨γ.set r z,fun u=>?_,fun i=>?_,fun i j b s s' hi C mi mj=>?_,fun b q=>h.ge b (m b q),h.below,h.size,aa.elim (fun Z=>h.defers.gam m Z) (fun ac=>h.defers.gamE m (fun i x hi=>by
  by_cases c:i=r
  ·subst c;rw [ac] at H1;have H1:z=none:=H1;subst H1;exact aN (aH (aE _ _ _))
  ·exact aH (by rw [aL _ _ _ c];exact hi))),h.gh,fun b q=>by obtain ⟨f2,f3,f4⟩:=h.fr b q;exact ⟨fun ho=>f2 (m b ho),f3,f4⟩,h.dr⟩
 ·have e:(σ.rpAll r src tgt I).get u=AV.rp r src tgt (σ.get u):=zq2 _ rfl _ _;rw [e];exact mv (h.tm u)
 ·by_cases hi:r=i
  ·subst hi;have e:(σ.rpAll r src tgt I).find r=some I:=by simp [AS.rpAll,AS.find,lkE]
   rw [e];exact ⟨z,aE _ _ _,H1.free ab⟩
  ·have e:(σ.rpAll r src tgt I).find i=(σ.find i).map (Ent.rp r src tgt):=by
    unfold AS.rpAll AS.find;simp only [lkE];cases q:aM r i with
    |true=>exact absurd (aB q) hi
    |false=>exact zq5 _ _ _
   rw [e,aL _ _ _ (Ne.symm hi)];have:=h.me i;cases hf:σ.find i with
   |none=>rw [hf] at this;exact this
   |some en =>
    rw [hf] at this;obtain ⟨x,F,G⟩:=this;have heq:∀ en:Ent,(∀ (_:TypeId) (_:List AV),en.opn->False)->B8 w (Sg cx.S0 cx.w0.heap.size γ) γ cx.w0.heap.size x en->B8 w (Sg cx.S0 cx.w0.heap.size (γ.set r z)) (γ.set r z) cx.w0.heap.size x en:=fun en q G =>
     (G.move (γ':=γ) (aD _) (fun b q _=>⟨rfl,hS b q⟩) (fun id d h=>aH h) (fun _ _=>rfl)).free q
    cases en with
    |box ty cs =>
     obtain ⟨g,vs,h1,Y,h3,h4,h5⟩:=G;exact ⟨x,F,g,vs,h1,Y,by rw [h3,AV.rpL_length],fun i hi=>by
      have P:=hi;rw [AV.rpL_length] at P;rw [AV.rpL_at _ i P];exact mv (h4 i P),h5⟩
    |gen ty sz xs =>
     obtain ⟨s,vs,h1,Y,M,X,L,U⟩:=G;refine ⟨x,F,s,vs,h1,Y,by rw [AV.rpL_length];exact M,fun k N=>?_,fun k N j C=>?_,U⟩
     ·rw [AV.rpL_length] at N;rw [AV.rpL_at _ k N,AV.rp_cells S,AV.rpL_length];exact X k N
     ·rw [AV.rpL_length] at N;have O:=C;simp only [AV.rpL_at _ k N,AV.rp_cells S,AV.rpL_length] at O ⊢;rw [AV.rpL_at _ j O];exact mv (L k N j O)
    |lp fn ps a b nt busy caps =>
     obtain ⟨l,T,D,fn0,h1,hh,hT,L⟩:=G;exact ⟨x,F,l,T,D,fn0,h1,hh,hT,fun t ht=>by
      have J:=ht;rw [AV.rpL_length] at J;rw [AV.rpL_at _ t J];exact mv (L t J)⟩
    |_=>exact ⟨x,F,heq _ (fun ty cs h=>by cases h) G⟩
 ·by_cases c:i=r
  ·by_cases B:j=r
   ·rw [c,B]
   ·subst c;rw [aE] at hi;injection hi with hi
    subst hi;rw [aL _ _ _ B] at C;exact h.inj _ _ _ _ _ Q C (A b mi) mj
  ·rw [aL _ _ _ c] at hi;by_cases B:j=r
   ·subst B;rw [aE] at C;injection C with C
    subst C;exact h.inj _ _ _ _ _ hi Q mi (A b mj)
   ·rw [aL _ _ _ B] at C;exact h.inj _ _ _ _ _ hi C mi mj
variable {nt:Nat}
theorem LeX.rpAll {E:Env}(r:Nat)(src:AV->Bool)(tgt:AV)(e g:Ent)(q:σ.find r=some e)(j:∀ (_:TypeId) (_:List AV),g.opn->False)
  (H:∀ (cx:Cx) (γ:Gam) (a:Act) (w:World) (d:Option (Option Nat×Value)),StG cx γ σ a w->γ r=some d->B8 w (Sg cx.S0 cx.w0.heap.size γ) γ cx.w0.heap.size d e->∃ h,(∀ b,b∈blks h->b∈blks d)/\∀ S':Nat->Prop,(∀ b,Sg cx.S0 cx.w0.heap.size γ b->S' b)->(∀ b,b∈blks d->b ∉ blks h->S' b) ->
    B8 w S' G0 cx.w0.heap.size h g/\∀ γ' x v,γ' r=some h->src x=true->x.leafId=some r->Rep w S' γ x v->Rep w S' γ' tgt v) (c:tgt.cells=[tgt]:=by rfl)(c:tgt.cells=[tgt]:=by rfl):LeX E nt σ (σ.rpAll r src tgt g):=fun cx t s m=>Le.rpAll r src tgt e g q j H (aH m) c
open Go.RowKit
section
variable {cx:Cx} {o:Oper} {σ:AS}
variable {T:Nat}{i:TyI}
theorem zrw {d n:Nat}(z:o.op=.alloc T)(A:o.dst=some d)(F:dok cx o=true)(G:lkT cx.E.tab T=some i)(D:σ.find n=none)(v:i.zero.cells.all (·.oneCell')=true) :
  A9 cx o σ (.ptr n 0) [n] [(n,.box T (i.zero.cells.toList.map AV.ofV))]:=by
 refine ⟨fun id e u=>?_,fun τ h1 I a w Q K ⟨γ,m⟩ H=>Br (fun c B=>by rw [z] at B;cases B) ?_⟩
 ·simp only [lkE] at u;cases C:aM n id with
  |true=>simp [aB C]
  |false=>rw [C] at u;cases u
 have q:=cx.E.ok T i G;have b:(execOp a.eval o).run cx.P w=.ok (.value (.pointer (some ⟨w.heap.size,0,none⟩))) (w.alloc (.cells i.zero.cells T)):=by
  simp [execOp,z,Instr.alloc,q.zeroV,newVar,Qc,pure]
 unfold Oper.wp;rw [b];refine H _ _ ⟨_,m.name (id:=n) (g:=w.heap.size) (s:=.slice none 0 0) (e:=.box T (i.zero.cells.toList.map AV.ofV)) (Bj F) (by rw [I n (by simp)];exact D) ((Below.refl _ _).alloc (aD _) _) (aD _) (by simp) ?_ ?_⟩
 ·refine ⟨w.heap.size,i.zero.cells,rfl,Blk.new w _ _,by simp,fun j h=>?_,fun j h=>?_⟩
  ·have t:j<i.zero.cells.size:=by simpa using h
   have:i.zero.cells.getD j undef=i.zero.cells[j]:=by simp [aX,t]
   simp only [bE,bC,this];exact Gk _ _ _ _
  ·have:i.zero.cells.getD j undef=i.zero.cells[j]:=by simp [aX,h]
   rw [this];simp only [Array.all_eq_true] at v;exact v j h
 ·exact .ptr (aE _ _ _) (fun g s e=>by injection e with e;injection e with e _;injection e with e;rw [e])
variable {x:Operand}
theorem zxi {d n:Nat}{av:AV}(F:o.op=.box T x)(L:o.dst=some d)(O:dok cx o=true)(D:A0 x=true)(u:σ.eval x=av)(C:okc σ av=true)(J:σ.find n=none) :
  A9 cx o σ (.ptr n 0) (n::av.ids) [(n,.box T av.cells)]:=by
 refine ⟨fun id e H=>?_,fun τ h1 B a w Q K ⟨γ,h⟩ P=>Br (fun c C=>by rw [F] at C;cases C) ?_⟩
 ·simp only [lkE] at H;cases A:aM n id with
  |true=>simp [aB A]
  |false=>rw [A] at H;cases H
 have z:=h.ev x D;rw [h1 x (by simp [F,Op.operands]),u] at z;obtain ⟨W,U,S⟩:=Qf h z C (fun id m=>B id (by simp [m]));have v:(execOp a.eval o).run cx.P w=.ok (.value (.pointer (some ⟨w.heap.size,0,none⟩))) (w.alloc (.cells (a.eval x).cells T)):=by
  simp [execOp,F,Instr.box,newVar,Qc,pure]
 unfold Oper.wp;rw [v];have t:γ n=none:=by have:=h.me n;rw [B n (by simp),J] at this;exact this
 have q:Below w.heap.size w (w.alloc (.cells (a.eval x).cells T)):=(Below.refl _ _).alloc (aD _) _;refine P _ _ ⟨_,h.name (id:=n) (g:=w.heap.size) (s:=.slice none 0 0) (e:=.box T av.cells) (Bj O) (by rw [B n (by simp)];exact J) q (aD _) (by simp) ?_ ?_⟩
 ·refine ⟨w.heap.size,(a.eval x).cells,rfl,Blk.new w _ _,W,fun j N=>?_,S⟩;refine ((U j N).mono q.size (fun b I G=>⟨q.block b G,?_⟩)).gam (fun id x u=>aH ?_)
  ·rcases I with I|⟨h1,B⟩
   ·exact aH I
   ·refine aN ⟨h1,fun ⟨i,M,hi,A⟩=>?_⟩;by_cases m:i=n
    ·subst m;rw [aE] at hi;injection hi with hi;subst hi;have:=Jk rfl A;omega
    ·rw [aL _ _ _ m] at hi;exact B ⟨i,M,hi,A⟩
  ·rw [aL]
   ·exact u
   ·rintro rfl;rw [t] at u;cases u
 ·exact .ptr (aE _ _ _) (fun g s e=>by injection e with e;injection e with e _;injection e with e;rw [e])
theorem zng {d n:Nat}(q:o.op=.makeMap T none)(t:o.dst=some d)(A:dok cx o=true)(v:σ.find n=none):A9 cx o σ (.row n) [n] [(n,.mp [])]:=by
 refine ⟨fun id e z=>Es z,fun τ h1 C a w Q K ⟨γ,m⟩ B=>Br (fun c u=>by rw [q] at u;cases u) ?_⟩;have b:(execOp a.eval o).run cx.P w=.ok (.value (.map (some w.heap.size))) (w.alloc (.map #[] 0)):=by
  simp only [execOp,q,aY,Sem.run_bind,run_makeMap,Result.andThen_ok,Sem.run_pure]
 unfold Oper.wp;rw [b];refine B _ _ ⟨_,m.name (id:=n) (g:=w.heap.size) (s:=.map (some w.heap.size)) (e:=.mp []) (Bj A) (by rw [C n (by simp)];exact v) ((Below.refl _ _).alloc (aD _) _) (aD _) (by simp) ?_ ?_⟩
 ·exact ⟨w.heap.size,rfl,#[],0,(MapKept.heap_alloc w _).1,rfl,⟨by simp,fun e h=>by simp at h⟩,fun j h=>absurd h (by simp)⟩
 ·exact .row (aE _ _ _) (fun g s e _=>by injection e with e;injection e with _ e)
variable {id sz k:Nat}{ty:TypeId}{xs:List AV}
theorem z94 {J:Nat}{el:AV}(Q:o.op=.load T x)(hd:dok cx o=true)(M:A0 x=true)(U:σ.eval x=.elt id sz k J)(hT:lkT cx.E.tab T=some i)(ha:i.shape.agg=true)(Y:σ.find id=some (.gen ty sz xs))(W:J+i.sz<=sz)(Z:xs[k]? = some el) :
  A9 cx o σ (.agg ((el.cells.drop J).take i.sz)) [id] [] :=
 Ay hd fun τ γ a w h1 h2 t=>by
  have H:=t.ev x M;rw [h1 x (by simp [Q,Op.operands]),U] at H;have A:=t.me id;rw [h2 id (by simp),Y] at A;obtain ⟨d,I,s,vs,P,_,b,C,X,z⟩:=A;subst P;obtain ⟨O,q⟩:=List.getElem?_eq_some_iff.1 Z;have L:∃ g,s.ownBlock=some g:=by
   rcases b.2 with ⟨rfl,h0⟩|⟨g,cap,aa,rfl,_⟩
   ·omega
   ·exact ⟨g,rfl⟩
  obtain ⟨g,L⟩:=L;rw [L] at I;have e:=H.elt_inv I;have N:=C k O;rw [q] at N;have F:∀ j,j<sz->k*sz+j<xs.length*sz:=fun j c=>by
   have:(k+1)*sz<=xs.length*sz:=aA _ O;rw [aK] at this;omega
  have B:((range i.sz).map fun j=>vs.getD (k*sz+(J+j)) undef).length=i.sz:=by simp
  have u:=Q1 (cx.E.ok T i hT) ha w ⟨g,k*sz+J,none⟩ ((range i.sz).map fun j=>vs.getD (k*sz+(J+j)) undef) B (fun j v c=>by
   obtain ⟨h,D⟩:=List.getElem?_eq_some_iff.1 c;rw [B] at h;simp only [bE,getElem_range] at D;rw [Addr.add_lit,bO,Fm b L _ (F (J+j) (by omega)),D])
  have G:∀ j,j<i.sz->((range i.sz).map fun j=>vs.getD (k*sz+(J+j)) undef).toArray.getD j undef=vs.getD (k*sz+(J+j)) undef:=fun j c=>by simp [c]
  refine ⟨.agg ((range i.sz).map fun j=>vs.getD (k*sz+(J+j)) undef).toArray,by simp only [execOp,Q,e,Instr.loadAt,Instr.sureAddr,Sem.run_bind,Sem.run_pure,Result.andThen_ok,u],.agg _ (by simp;omega) (fun j c=>?_) (fun j c=>?_)⟩
  ·have h:j<i.sz:=by rw [aV] at c;omega
   rw [G j h];have m:J+j<(xs[k]).cells.length:=by rw [q];omega
   have:=X k O (J+j) m;simp only [q] at this;simp only [getElem_take,getElem_drop];exact this
  ·have m:j<i.sz:=by simpa using c
   rw [G j m];have S:k*sz+(J+j)<vs.length:=by rw [b.1];exact F (J+j) (by omega)
   rw [aC,aF S];exact z _ (getElem_mem S)
theorem zan {j:Nat}{el av:AV}(J:o.op=.load T x)(Q:dok cx o=true)(A:A0 x=true)(L:σ.eval x=.elt id sz k j)(W:lkT cx.E.tab T=some i)(U:i.shape.agg=false)(N:σ.find id=some (.gen ty sz xs))(P:xs[k]? = some el)(S:el.cells[j]? = some av) :
  A9 cx o σ av [id] [] :=
 Ay Q fun τ γ a w h1 X h=>by
  have u:=h.ev x A;rw [h1 x (by simp [J,Op.operands]),L] at u;have q:=h.me id;rw [X id (by simp),N] at q;obtain ⟨d,v,s,vs,G,_,b,t,M,I⟩:=q;subst G;obtain ⟨C,c⟩:=List.getElem?_eq_some_iff.1 P;obtain ⟨O,H⟩:=List.getElem?_eq_some_iff.1 S;have z:∃ g,s.ownBlock=some g:=by
   rcases b.2 with ⟨rfl,Z⟩|⟨g,cap,Y,rfl,_⟩
   ·omega
   ·exact ⟨g,rfl⟩
  obtain ⟨g,z⟩:=z;rw [z] at v;have e:=u.elt_inv v;have B:=t k C;rw [c] at B;have F:k*sz+j<xs.length*sz:=by
   have:(k+1)*sz<=xs.length*sz:=aA _ C;rw [aK] at this;omega
  have m:=Q0 (cx.E.ok T i W) U w ⟨g,k*sz+j,none⟩ _ (Fm b z _ F);refine ⟨vs.getD (k*sz+j) undef,by simp only [execOp,J,e,Instr.loadAt,Instr.sureAddr,Sem.run_bind,Sem.run_pure,Result.andThen_ok,m],?_⟩;have D:j<(xs[k]).cells.length:=by rw [c];exact O
  have:=M k C j D;simp only [c,H] at this;exact this
theorem z9c {j f fo fsz:Nat}{fs:List (Nat×Nat×Option Bool)}{ag:Option Bool}(z:o.op=.fieldAddr T x f)(G:dok cx o=true)(t:A0 x=true)(B:σ.eval x=.elt id sz k j)(H:lkT cx.E.tab T=some i)(C:i.shape=.strct fs)(F:fs[f]? = some (fo,fsz,ag))
  (A:fsz≠0) (D:σ.find id=some (.gen ty sz xs)) (L:k<xs.length):A9 cx o σ (.elt id sz k (j+fo)) [id] [] :=
 Ay G fun τ γ a w h1 I c=>by
  have q:=c.ev x t;rw [h1 x (by simp [z,Op.operands]),B] at q;have m:=c.me id;rw [I id (by simp),D] at m;obtain ⟨d,b,s,vs,v,_,h,_⟩:=m;subst v;have u:∃ g,s.ownBlock=some g:=by
   rcases h.2 with ⟨rfl,M⟩|⟨g,cap,J,rfl,_⟩
   ·omega
   ·exact ⟨g,rfl⟩
  obtain ⟨g,u⟩:=u;rw [u] at b;have e:=q.elt_inv b;refine ⟨.pointer (some ⟨g,k*sz+(j+fo),none⟩),?_,.elt b (fun N s e=>by injection e with e;injection e with e _;injection e with e;rw [e])⟩;simp [execOp,z,e,Wn (cx.E.ok T i H) C F A,pure,bO]
theorem zjh {j:Nat}{y:Operand}{av el el':AV}(ho:o.op=.store T x y)(hd:dok cx o=true)(bc:A0 x=true)(bb:A0 y=true)(hx:σ.eval x=.elt id sz k j)(hy:σ.eval y=av)(hT:lkT cx.E.tab T=some i)(hl:σ.find id=some (.gen ty sz xs))
  (he:xs[k]? = some el) (ba:av.cells.length=i.sz) (bp:j+i.sz<=sz) (hc:okc σ av=true) (W:el'.cells=el.cells.take j++av.cells++el.cells.drop (j+i.sz)) :
  A9 cx o σ (.tup []) (id::av.ids) [(id,.gen ty sz (xs.set k el'))]:=by
 refine ⟨fun D e he=>?_,fun τ h1 h2 a w Q K ⟨γ,t⟩ hK=>Br (fun c hc=>by rw [ho] at hc;cases hc) ?_⟩
 ·simp only [lkE] at he;cases hb:aM id D with
  |true=>simp [aB hb]
  |false=>rw [hb] at he;cases he
 have aw:=t.ev x bc;rw [h1 x (by simp [ho,Op.operands]),hx] at aw;have ab:=t.ev y bb;rw [h1 y (by simp [ho,Op.operands]),hy] at ab;have an:=t.me id;rw [h2 id (by simp),hl] at an;obtain ⟨d,C,s,vs,bn,bf,ak,L,hr,Z⟩:=an;subst bn;obtain ⟨hk,X⟩:=List.getElem?_eq_some_iff.1 he;obtain ⟨bd,ag⟩:=ak;rcases ag with ⟨_,h0⟩|⟨g,cap,P,rfl,ah,M,J,hm,bo,ac⟩
 ·omega
 have C:γ id=some (some (some g,.slice (some ⟨g,0,none⟩) xs.length cap)):=C;have e:=aw.elt_inv C;obtain ⟨c1,c2,c3⟩:=Qf t ab hc (fun id ae=>h2 id (by simp [ae]));have I:∀ u∈(a.eval y).cells.toList,u.oneCell'=true:=fun u S=>by
  obtain ⟨q,H,rfl⟩:=bA.1 S;have aj:q<(a.eval y).cells.size:=by simpa using H
  have:=c3 q aj;simpa [aX,aj] using this
 have U:(a.eval y).cells.toList.length=i.sz:=by simp;omega
 have ap:=L k hk;have bs:k*sz+sz<=xs.length*sz:=by
  have:(k+1)*sz<=xs.length*sz:=aA _ hk;rw [aK] at this;exact this
 have bt:xs.length*sz<=cap*sz:=aA _ J;have Y:=Wh (cx.E.ok T i hT) w g (k*sz+j) ty P (a.eval y) M (c1.trans ba) (by omega) I;unfold Oper.wp;generalize O:(P.toList.take (k*sz+j)++(a.eval y).cells.toList++P.toList.drop (k*sz+j+i.sz)).toArray=z at Y;have bl:(execOp a.eval o).run cx.P w=.ok .skip (w.setRow g z):=by
  simp only [execOp,ho,e,Instr.storeAt,Instr.sureAddr,Sem.run_bind,Sem.run_pure,Result.andThen_ok,Y]
 rw [bl];have az:=setRow_heap w g P z ty (0,0) M;have A:∀ q,q≠g->(w.setRow g z).heap[q]? = w.heap[q]? := fun q H=>setRow_other w g q _ H
 have af:own γ g:=own.mk C;have ar:=t.ge g af;have al:∀ b,Sg cx.S0 cx.w0.heap.size γ b->b≠g:=fun b hS e=>by
  subst e;rcases hS with ⟨_,h⟩|⟨_,h⟩
  ·have:=ar.1.1;omega
  ·exact h af
 generalize F:w.setRow g z=w' at *;have hz:w.heap.size<=w'.heap.size:=by rw [<-F];simp
 have bm:w.drawn<=w'.drawn:=by rw [<-F];exact aD _
 have ad:∀ {γ':Gam} {av v},Rep w (Sg cx.S0 cx.w0.heap.size γ) γ' av v->Rep w' (Sg cx.S0 cx.w0.heap.size γ) γ' av v:=fun h=>h.mono hz (fun b hS _=>⟨A b (al b hS),hS⟩)
 refine hK _ _ ⟨γ,t.step (Bj hd) hz (fun b hS ao=>⟨A b (al b hS),hS⟩) (fun id d h=>aH h) (fun D aq=>⟨rfl,fun g' s bk bj=>A g' ?_⟩) (fun D e' N=>?_) t.inj (fun b ay=>⟨(t.ge b ay).1,aP (t.ge b ay).2 hz⟩) ?_ (.tup #[] rfl (fun i hi=>by simp at hi)) (fun b am _=>⟨A b (fun e=>am (e▸af)),am⟩) (fun _=>bm)⟩
 ·rintro rfl;have:=t.inj _ _ _ _ _ bk C bj Bc;subst this;simp [lkE] at aq
 ·have ae:D=id:=by
   simp only [lkE] at N;cases ax:aM id D with
   |true=>exact (aB ax).symm
   |false=>rw [ax] at N;cases N
  subst ae;simp only [lkE,bP,aG] at N;subst N;have ai:z.toList.take (xs.length*sz)=vs.take (k*sz+j)++(a.eval y).cells.toList++vs.drop (k*sz+j+i.sz):=by
   rw [<-O,<-ac,<-U];exact X7 _ _ _ _ (by omega) (by simp;omega)
  have au:∀ q,(vs.take (k*sz+j)++(a.eval y).cells.toList++vs.drop (k*sz+j+i.sz))[q]? = if q<k*sz+j then vs[q]? else if q<k*sz+j+i.sz then (a.eval y).cells.toList[q-(k*sz+j)]? else vs[q]? := fun q=>by
   rw [<-U];exact Jf _ _ _ _ (by omega)
  refine ⟨_,C,.slice (some ⟨g,0,none⟩) xs.length cap,vs.take (k*sz+j)++(a.eval y).cells.toList++vs.drop (k*sz+j+i.sz),rfl,bf,⟨?_,aN ⟨g,cap,z,by simp,ah,az,by simpa using J,hm,?_,by simpa using ai⟩⟩,?_,?_,?_⟩
  ·rw [<-U,U9 _ _ _ (by omega)];simpa using bd
  ·rw [<-O];have:=U9 P.toList (a.eval y).cells.toList (k*sz+j) (by simp;omega);rw [U] at this;simpa [bo] using this
  ·intro q H;rw [length_set] at H;rw [bL];by_cases B:k=q
   ·rw [if_pos B,W];rw [X] at ap;simp;omega
   ·rw [if_neg B];exact L q H
  ·intro q H r G;rw [length_set] at H;have br:=L q H;rw [aC,au];rw [bL] at G;by_cases B:k=q
   ·subst B;rw [X] at ap;simp only [getElem_set_self];rw [if_pos rfl,W] at G;simp only [bF,aV,bM] at G;have aa:∀ r,(h:r<el.cells.length)->Rep w' (Sg cx.S0 cx.w0.heap.size γ) γ el.cells[r] (vs[k*sz+r]?.getD undef):=fun r h=>by
     have:=hr k hk r (by rw [X];exact h);simp only [X] at this;rw [aC] at this;exact ad this
    have m:(el'.cells)[r]? = if r<j then el.cells[r]? else if r<j+i.sz then av.cells[r-j]? else el.cells[r]? := by
     rw [W,<-ba];exact Jf _ _ _ _ (by omega)
    have bg:r<el'.cells.length:=by rw [W];simp;omega
    rw [aF bg] at m;by_cases h1:r<j
    ·rw [if_pos (by omega)];rw [if_pos h1,aF (by omega)] at m;injection m with m
     rw [m];exact aa r (by omega)
    ·rw [if_neg (by omega)];rw [if_neg h1] at m;by_cases h2:r<j+i.sz
     ·rw [if_pos (by omega)];rw [if_pos h2,aF (by omega)] at m;injection m with m
      rw [m];have bh:=c2 (r-j) (by omega);have:=ad bh;rw [show k*sz+r-(k*sz+j)=r-j by omega];simpa [aJ] using this
     ·rw [if_neg (by omega)];rw [if_neg h2,aF (by omega)] at m;injection m with m
      rw [m];exact aa r (by omega)
   ·have bi:(xs.set k el')[q]'(by simpa using H)=xs[q]:=by rw [bL,if_neg B]
    rw [if_neg B] at G;simp only [bi];have:=ad (hr q H r G);rw [aC] at this;have bq:¬(k*sz+j<=q*sz+r/\q*sz+r<k*sz+j+i.sz):=fun ⟨h1,h2⟩=>by
     rcases Nat.lt_or_gt_of_ne B with ao|m
     ·have:(k+1)*sz<=q*sz:=aA _ ao;rw [aK] at this;omega
     ·have:(q+1)*sz<=k*sz:=aA _ m;rw [aK] at this;omega
    by_cases h1:q*sz+r<k*sz+j
    ·rw [if_pos h1];exact this
    ·rw [if_neg h1,if_neg (by omega)];exact this
  ·intro u S;simp only [mem_append] at S;rcases S with (S|S)|S
   ·exact Z u (bB S)
   ·exact I u S
   ·exact Z u (mem_of_mem_drop S)
 ·refine t.below.trans ⟨by rw [<-F];rfl,by rw [<-F];rfl,by rw [<-F];rfl,hz,fun k hk=>A k (by have:=ar.1.1;omega)⟩
end
open Go.RowKit
section
variable {cx:Cx} {o:Oper} {σ:AS}
structure Part where
 id:Nat
 ty:Nat
 sz:Nat
 xs:List AV
 lo:Nat
 n:Nat
def Ce (σ:AS):AV->Option Part
 |.row id=>match σ.find id with
  |some (.gen ty sz xs)=>some ⟨id,ty,sz,xs,0,xs.length⟩
  |_=>none
 |.cont m id=>match σ.find id with
  |some (.gen ty sz xs)=>match aM m xs.length with
   |true=>some ⟨id,ty,sz,xs,0,xs.length⟩
   |false=>none
  |_=>none
 |.der (.gs sz lo n) id=>match σ.find id with
  |some (.gen ty a xs)=>match aM a sz && Nat.ble (lo+n) xs.length with
   |true=>some ⟨id,ty,sz,xs,lo,n⟩
   |false=>none
  |_=>none
 |_=>none
variable {x:AV}{p:Part}
theorem J6 (h:Ce σ x=some p):σ.find p.id=some (.gen p.ty p.sz p.xs)/\p.lo+p.n<=p.xs.length:=by
 unfold Ce at h;split at h
 ·split at h
  ·rename_i a;injection h with h;subst h;exact ⟨a,by simp⟩
  ·cases h
 ·split at h
  ·rename_i a;split at h
   ·injection h with h;subst h;exact ⟨a,by simp⟩
   ·cases h
  ·cases h
 ·split at h
  ·rename_i a;split at h
   ·rename_i b;simp only [Bool.and_eq_true] at b;have h1:=aB b.1;injection h with h;subst h;subst h1
    exact ⟨a,aS b.2⟩
   ·cases h
  ·cases h
 ·cases h
theorem J5 {τ:AS}(h:Ce σ x=some p)(e:τ.find p.id=σ.find p.id):Ce τ x=some p:=by
 have j:=h;unfold Ce at h;split at h
 ·split at h
  ·rename_i a _ ty sz xs c;injection h with h;subst h
   have b:τ.find a=σ.find a:=e;simp only [Ce,b,c]
  ·cases h
 ·split at h
  ·rename_i a _ ty sz xs c;split at h
   ·rename_i g;injection h with h;subst h
    have b:τ.find a=σ.find a:=e;simp only [Ce,b,c,g]
   ·cases h
  ·cases h
 ·split at h
  ·rename_i c;split at h
   ·rename_i g;injection h with h;subst h
    have b:τ.find _=σ.find _:=e;simp only [Ce,b,c,g]
   ·cases h
  ·cases h
 ·cases h
variable {w:World}{sz:Nat}
theorem zkd {γ:Gam}{τ:AS}{a:Act}{id:Nat}{ty:Nat}{xs:List AV}(h:StG cx γ τ a w)(v:τ.find id=some (.gen ty sz xs)) :
  ∃ s vs,γ id=some (some (s.ownBlock,s))/\s.oneCell'=true/\w.ownsRow cx.w0.heap.size ty sz s xs.length vs/\(∀ k (z:k<xs.length),(xs[k]).cells.length=sz) /\
   (∀ k (z:k<xs.length) j (A:j<(xs[k]).cells.length),Rep w (Sg cx.S0 cx.w0.heap.size γ) γ ((xs[k]).cells[j]) (vs.getD (k*sz+j) undef))/\∀ u∈vs,u.oneCell'=true:=by
 have e:=h.me id;rw [v] at e;obtain ⟨d,q,s,vs,m,h1,b,g,t,c⟩:=e;subst m;exact ⟨s,vs,q,h1,b,g,t,c⟩
def RowC (x:AV)(id:Nat):Prop:=x=.row id\/∃ m,x=.cont m id
theorem X9 {S:Nat->Prop}{γ:Gam}{B ty n:Nat}{vs:List Value}{v s:Value}{id:Nat}(t:RowC x id)(b:Rep w S γ x v)(q:γ id=some (some (s.ownBlock,s)))(a:w.ownsRow B ty sz s n vs):v=s:=by
 have j:s=.slice none 0 0\/∃ A m c,s=.slice A m c:=by
  rcases a.2 with ⟨e,_⟩|⟨g,cap,u,e,_⟩
  ·exact aH e
  ·exact aN ⟨_,_,_,e⟩
 rcases t with rfl|⟨m,rfl⟩
 ·exact b.row_inv q (by rcases j with e|⟨_,_,_,e⟩<;>(rw [e];rfl))
 ·cases b with
  |cont h b z =>
   rw [q] at h;injection h with h
   have:=b _ _ h.symm;rw [this];rcases j with e|⟨_,_,_,e⟩<;>(rw [e];rfl)
theorem J8 {γ:Gam}{τ:AS}{a:Act}{v:Value}(A:StG cx γ τ a w)(b:Ce τ x=some p)(z:Rep w (Sg cx.S0 cx.w0.heap.size γ) γ x v) :
  ∃ s vs,γ p.id=some (some (s.ownBlock,s))/\w.ownsRow cx.w0.heap.size p.ty p.sz s p.xs.length vs/\(∀ k (I:k<p.xs.length),(p.xs[k]).cells.length=p.sz) /\
   (∀ k (I:k<p.xs.length) j (N:j<(p.xs[k]).cells.length),Rep w (Sg cx.S0 cx.w0.heap.size γ) γ ((p.xs[k]).cells[j]) (vs.getD (k*p.sz+j) undef))/\(∀ u∈vs,u.oneCell'=true) /\
   ((s=.slice none 0 0/\p.xs.length=0/\v=.slice none 0 0)\/∃ g cap,s=.slice (some ⟨g,0,none⟩) p.xs.length cap/\p.xs.length<=cap/\v=.slice (some (if cap=p.lo then ⟨g,0,none⟩ else ⟨g,p.lo*p.sz,none⟩)) p.n (cap-p.lo)):=by
 obtain ⟨J,H⟩:=J6 b;obtain ⟨s,vs,e,h1,c,t,G,q⟩:=zkd (id:=p.id) A J;refine ⟨s,vs,e,c,t,G,q,?_⟩;have C:(RowC x p.id/\p.lo=0/\p.n=p.xs.length)\/x=.der (.gs p.sz p.lo p.n) p.id:=by
  unfold Ce at b;split at b
  ·split at b
   ·injection b with b;subst b;exact aH ⟨aH rfl,rfl,rfl⟩
   ·cases b
  ·split at b
   ·split at b
    ·injection b with b;subst b;exact aH ⟨aN ⟨_,rfl⟩,rfl,rfl⟩
    ·cases b
   ·cases b
  ·split at b
   ·split at b
    ·injection b with b;subst b;exact aN rfl
    ·cases b
   ·cases b
  ·cases b
 rcases c.2 with ⟨h,L⟩|⟨g,cap,M,h,_,_,B,_⟩
 ·left;refine ⟨h,L,?_⟩;rcases C with ⟨m,F,D⟩|rfl
  ·rw [X9 m z e c,h]
  ·have:=z.der_inv e;rw [this,h];have:p.n=0:=by omega
   rw [this];rfl
 ·right;refine ⟨g,cap,h,B,?_⟩;rcases C with ⟨m,F,D⟩|rfl
  ·rw [X9 m z e c,h,F,D];simp
  ·have:=z.der_inv e;rw [this,h];simp only [Dv.of,Nat.zero_add]
variable {eb:Nat}
theorem znh {T:Nat}{x:Operand}{i:TyI}{e esz:Nat}(u:o.op=.call { callee:=.builtin .len,args:=#[x],argTypes:=#[T] })(C:dok cx o=true)(q:A0 x=true)(t:Ce σ (σ.eval x)=some p)(D:lkT cx.E.tab T=some i)(z:i.shape=.slc e esz eb):A9 cx o σ (.int .i64 (p.n:Int)) [p.id] [] :=
 Ay C fun τ γ a w h1 F j=>by
  have m:=j.ev x q;rw [h1 x (by simp [u,Op.operands,Call.operands])] at m;obtain ⟨v,_,_⟩:=C5 (cx.E.ok T i D) z;obtain ⟨_,B⟩:=J6 t;obtain ⟨s,vs,_,_,_,_,_,h⟩:=J8 j (J5 t (F p.id (by simp))) m;have b:∃ A c,a.eval x=.slice A p.n c:=by
   rcases h with ⟨_,G,h⟩|⟨g,cap,_,_,h⟩
   ·exact ⟨none,0,by rw [h];congr 1;omega⟩
   ·exact ⟨_,_,h⟩
  obtain ⟨A,c,b⟩:=b;refine ⟨.int .i64 (p.n:Int),?_,.int _ _⟩;simp only [execOp,u,resolve,invoke,builtin,Builtin.len_,Array.map_push,map_toArray,bN,map_nil,b];simp [run_underlying v,goInt,pure]
theorem z8j {T:Nat}{x y:Operand}{i:TyI}{e:Nat}{k:IntKind}{n:Int}{m:Nat}(A:o.op=.indexAddr T x y)(N:dok cx o=true)(u:A0 x=true)(t:A0 y=true)(C:Ce σ (σ.eval x)=some p)(H:σ.eval y=.int k n)
  (O:lkT cx.E.tab T=some i) (J:i.shape=.slc e sz eb) (G:sz≠0) (v:p.sz=sz) (L:n=(m:Int)) (hm:m<p.n):A9 cx o σ (.elt p.id sz (p.lo+m) 0) [p.id] [] :=
 Ay N fun τ γ a w h1 P c=>by
  have q:=c.ev x u;rw [h1 x (by simp [A,Op.operands])] at q;have b:=c.ev y t;rw [h1 y (by simp [A,Op.operands]),H] at b;obtain ⟨I,B,_⟩:=C5 (cx.E.ok T i O) J;obtain ⟨_,M⟩:=J6 C;obtain ⟨s,vs,h,D,_,_,_,j⟩:=J8 c (J5 C (P p.id (by simp))) q;rcases j with ⟨_,Q,j⟩|⟨g,cap,z,F,j⟩
  ·omega
  rw [if_neg (by omega)] at j;have h:γ p.id=some (some (some g,s)):=by rw [h,z];rfl
  refine ⟨.pointer (some ⟨g,(p.lo+m)*sz,none⟩),?_,.elt h (fun S s e=>by injection e with e;injection e with e _;simp only [aG] at e;rw [<-e];rfl)⟩;subst L;simp [execOp,A,j,b.int_inv,Instr.indexAt,asIntOf,run_underlying I,Dp B G,hm,pure,Addr.add_lit,bD,v]
theorem zfv {T e l h:Nat}{x:Operand}{lo hi:Option Operand}{i:TyI}(G:o.op=.slice T x lo hi none)(hd:dok cx o=true)(C:A0 x=true)(I:opdO lo=true)(L:opdO hi=true)(Q:Ce σ (σ.eval x)=some p)(hT:lkT cx.E.tab T=some i)(hs:i.shape=.slc e sz eb)(u:sz≠0)(D:p.sz=sz)
  (hl:bndA σ 0 lo=some (l:Int)) (hh:bndA σ p.n hi=some (h:Int)) (h1:l<=h) (h2:h<=p.n) (h0:p.lo=0\/l=0):A9 cx o σ (.der (.gs sz (p.lo+l) (h-l)) p.id) [p.id] [] :=
 Ay hd fun τ γ a w q M m=>by
  obtain ⟨m1,m2,Z⟩:=X1 G;have A:=m.ev x C;rw [q x m1] at A;obtain ⟨S,O,_⟩:=C5 (cx.E.ok T i hT) hs;have b:=Dp O u w;obtain ⟨_,ab⟩:=J6 Q;obtain ⟨s,vs,B,U,_,_,_,v⟩:=J8 m (J5 Q (M p.id (by simp))) A;have t:∀ c,p.n<=c->(Instr.sliceBounds true p.n c (lo.map a.eval) (hi.map a.eval) none).run cx.P w=.ok (l,h,c) w:=fun c hc =>
   Uc (σ:=σ) (l:=l) (h:=h) (c:=c) (n:=p.n) (lo:=lo) (hi:=hi) m I L (fun z u=>q z (m2 z u)) (fun z u=>q z (Z z u)) hl hh h1 (by omega)
  rcases v with ⟨j,aa,v⟩|⟨g,cap,j,W,v⟩
  ·have H:p.n=0:=by omega
   have J:l=0:=by omega
   have N:h=0:=by omega
   have t:=t 0 (by omega);rw [H] at t;subst J N;refine ⟨.slice none 0 0,?_,.der B (fun g Y e=>by injection e with e;injection e with _ e;subst e;rw [j];exact ⟨rfl,rfl⟩)⟩;simp only [execOp,G,v,aY,Sem.run_bind,Sem.run_pure,Result.andThen_ok];simp [Instr.sliceAt,Instr.slice,run_underlying S,t,b,pure]
  ·have t:=t (cap-p.lo) (by omega);refine ⟨.slice (some (if cap=p.lo+l then ⟨g,0,none⟩ else ⟨g,(p.lo+l)*sz,none⟩)) (h-l) (cap-(p.lo+l)),?_,.der B (fun g Y e=>by injection e with e;injection e with _ e;subst e;rw [j];exact ⟨rfl,by simp [Dv.of]⟩)⟩;simp only [execOp,G,v,aY,Sem.run_bind,Sem.run_pure,Result.andThen_ok];simp only [Instr.sliceAt,Instr.slice,run_underlying S,t,b,pure,Sem.run_bind,Sem.run_pure,Result.andThen_ok];have e:(if cap-p.lo=l then some (if cap=p.lo then (⟨g,0,none⟩:Addr) else ⟨g,p.lo*p.sz,none⟩) else Option.map (fun x=>x.add (l*sz)) (some (if cap=p.lo then (⟨g,0,none⟩:Addr) else ⟨g,p.lo*p.sz,none⟩))) =
     some (if cap=p.lo+l then (⟨g,0,none⟩:Addr) else ⟨g,(p.lo+l)*sz,none⟩):=by
    by_cases P:cap=p.lo
    ·rw [if_pos (show cap-p.lo=l by omega),if_pos P,if_pos (show cap=p.lo+l by omega)]
    ·by_cases X:cap-p.lo=l
     ·have F:p.lo=0:=by omega
      rw [if_pos X,if_neg P,if_pos (show cap=p.lo+l by omega),F,Nat.zero_mul]
     ·rw [if_neg X,if_neg P,if_neg (show ¬cap=p.lo+l by omega),aZ,Addr.add_lit,D,bD]
   rw [e,show cap-p.lo-l=cap-(p.lo+l) by omega];rfl
end
open Go.RowKit
section
variable {cx:Cx} {o:Oper} {σ:AS}
variable {d eb:Nat}{ie:TyI}{xs:List AV}
theorem zg1 {T n e sz:Nat}{x y:Operand}{i:TyI}{ys:List AV}{oid:Option Nat}{yids:List Nat}(ho:o.op=.call { callee:=.builtin .append,args:=#[x,y],argTypes:=#[T,T] })(ai:o.dst=some d)(hd:dok cx o=true)(bn:A0 x=true)(bm:A0 y=true)
  (hT:lkT cx.E.tab T=some i) (hs:i.shape=.slc e sz eb) (he:lkT cx.E.tab e=some ie) (bq:ie.sz=sz) (hz:sz≠0) (bl:ie.zero.cells.size=sz)
  (hx:(σ.eval x=.nils/\oid=none/\xs=[])\/∃ id,RowC (σ.eval x) id/\oid=some id/\id≠n/\σ.find id=some (.gen e sz xs)) (hy:(∃ p,Ce σ (σ.eval y)=some p/\p.sz=sz/\ys=(p.xs.drop p.lo).take p.n/\p.id∈yids)\/(σ.eval y=.nils/\ys=[])) (hn:σ.find n=none)
  (ck:xs.length+ys.length<=1099511627776) (cd:(xs.length+ys.length)*ie.bytes<=140737488355328)
  (bi:cx.E.dr=false):A9 cx o σ (.row n) (n::(oid.toList++yids)) ((n,.gen e sz (xs++ys))::Dh oid):=by
 have ar:∀ id,lkE (Dh oid) id=if oid=some id then some .dead else none:=fun id=>by
  cases oid with
  |none=>simp [Dh,lkE]
  |some j =>
   simp only [Dh,lkE,aG];by_cases h:j=id
   ·subst h;simp
   ·rw [if_neg h];cases J:aM j id with
    |true=>exact absurd (aB J) h
    |false=>rfl
 have ak:∀ id,lkE ((n,Ent.gen e sz (xs++ys))::Dh oid) id=if n=id then some (.gen e sz (xs++ys)) else if oid=some id then some .dead else none:=fun id=>by
  simp only [lkE];by_cases h:n=id
  ·subst h;simp
  ·rw [if_neg h,<-ar];cases J:aM n id with
   |true=>exact absurd (aB J) h
   |false=>rfl
 refine ⟨fun id e' ag=>?_,fun τ h1 h2 a w Q K ⟨γ,q⟩ hK=>Br (fun c hc=>by rw [ho] at hc;cases hc) ?_⟩
 ·rw [ak] at ag;by_cases h:n=id
  ·simp [h]
  ·rw [if_neg h] at ag;by_cases G:oid=some id
   ·simp [G]
   ·rw [if_neg G] at ag;cases ag
 have Z:=q.ev x bn;rw [h1 x (by simp [ho,Op.operands,Call.operands])] at Z;have Y:=q.ev y bm;rw [h1 y (by simp [ho,Op.operands,Call.operands])] at Y;obtain ⟨hu,cj,_⟩:=C5 (cx.E.ok T i hT) hs;have ah:γ n=none:=by have:=q.me n;rw [h2 n (by simp),hn] at this;exact this
 have am:=q.below.size
 -- the row that is appended to
 have hX:∃ vs:List Value,w.ownsRow cx.w0.heap.size e sz (a.eval x) xs.length vs/\(∀ k (F:k<xs.length),(xs[k]).cells.length=sz)/\(∀ k (F:k<xs.length) j (X:j<(xs[k]).cells.length),Rep w (Sg cx.S0 cx.w0.heap.size γ) γ ((xs[k]).cells[j]) (vs.getD (k*sz+j) undef))/\(∀ u∈vs,u.oneCell'=true) /\
   (∀ g,(a.eval x).ownBlock=some g->∃ id s,oid=some id/\γ id=some (some (some g,s))):=by
  rcases hx with ⟨hx,rfl,rfl⟩|⟨id,hx,rfl,cf,hl⟩
  ·rw [hx] at Z;rw [Z.nils_inv];exact ⟨[],World.ownsRow_nil w _ _ _,fun k F=>absurd F (by simp),fun k F=>absurd F (by simp),fun u hu=>absurd hu (by simp),fun g hg=>by simp [Value.ownBlock] at hg⟩
  ·have bd:=q.me id;rw [h2 id (by simp),hl] at bd;obtain ⟨dd,bj,s,vs,cc,_,L,bf,hr,az⟩:=bd;subst cc;have ex:=X9 hx Z bj L;rw [ex];exact ⟨vs,L,bf,hr,az,fun g hg=>⟨id,s,rfl,by rw [bj,hg]⟩⟩
 obtain ⟨vs,L,ac,bs,an,t⟩:=hX
 -- what is appended
 have hY:∃ (A:Option Addr) (c:Nat) (news:List Value),a.eval y=.slice A ys.length c/\news.length=ys.length*sz/\(0<ys.length->∃ b off,A=some ⟨b,off,none⟩/\∀ j u,news[j]? = some u->w.cell? ⟨b,off+j,none⟩=some u)/\(∀ u∈news,u.oneCell'=true) /\
   (∀ k (F:k<ys.length),(ys[k]).cells.length=sz)/\(∀ k (F:k<ys.length) j (X:j<(ys[k]).cells.length),Rep w (Sg cx.S0 cx.w0.heap.size γ) γ ((ys[k]).cells[j]) (news.getD (k*sz+j) undef)):=by
  rcases hy with ⟨p,hp,M,au,bu⟩|⟨hy,rfl⟩
  ·obtain ⟨_,bx⟩:=J6 hp;obtain ⟨s,us,ci,aa,W,bt,ao,hv⟩:=J8 q (J5 hp (h2 p.id (by simp [bu]))) Y;have bp:us.length=p.xs.length*sz:=by rw [aa.1,M]
   have aw:ys.length=p.n:=by rw [au,aV,bM];omega
   have bw:(p.lo+p.n)*sz<=p.xs.length*sz:=aA _ bx;rw [bD] at bw;have aj:∀ k (F:k<ys.length) (H:p.lo+k<p.xs.length),ys[k]=p.xs[p.lo+k]:=fun k F H=>by
    have h1:ys[k]? = p.xs[p.lo+k]? := by rw [au,List.getElem?_take,if_pos (by omega),bG]
    rw [aF F,aF H] at h1;injection h1
   rcases hv with ⟨hs,h0,hv⟩|⟨g,cap,hs,ce,hv⟩
   ·have ax:ys.length=0:=by omega
    exact ⟨none,0,[],by rw [hv,ax],by rw [ax];simp,fun h=>absurd h (by omega),fun u hu=>absurd hu (by simp),fun k F=>absurd F (by omega),fun k F=>absurd F (by omega)⟩
   refine ⟨_,_,(us.drop (p.lo*sz)).take (p.n*sz),by rw [hv,aw],?_,fun h0=>?_,fun u hu=>ao u (mem_of_mem_drop (bB hu)),fun k F=>?_,fun k F j X=>?_⟩
   ·rw [aV,bM,bp,aw];omega
   ·subst hs;refine ⟨g,p.lo*sz,by rw [if_neg (by omega),M],fun j u X=>?_⟩;rw [List.getElem?_take] at X;split at X
    ·rename_i cg;rw [bG] at X;have ca:p.lo*sz+j<p.xs.length*p.sz:=by rw [M];omega
     rw [Fm aa (g:=g) rfl _ ca,aC,X];rfl
    ·cases X
   ·have H:p.lo+k<p.xs.length:=by omega
    rw [aj k F H,<-M];exact W _ H
   ·have H:p.lo+k<p.xs.length:=by omega
    have bg:=X;rw [aj k F H,W _ H,M] at bg;have bz:(k+1)*sz<=p.n*sz:=aA _ (by omega);rw [aK] at bz;have e:((us.drop (p.lo*sz)).take (p.n*sz)).getD (k*sz+j) undef=us.getD ((p.lo+k)*p.sz+j) undef:=by
     rw [aC,List.getElem?_take,if_pos (by omega),bG,<-aC,M,bD];congr 1;omega
    rw [e];have:=bt _ H j (by rw [W _ H,M];exact bg);simp only [aj k F H];exact this
  ·rw [hy] at Y;exact ⟨none,0,[],Y.nils_inv,by simp,fun h=>absurd h (by simp),fun u hu=>absurd hu (by simp),fun k F=>absurd F (by simp),fun k F=>absurd F (by simp)⟩
 obtain ⟨A,c,news,ey,bv,hA,ab,ap,br⟩:=hY;obtain ⟨v',w',ay,q1,q2,q3⟩:=z5n (P:=cx.P) (c:=c) (ty:=o.type) hu (cx.E.ok e ie he) bq hz bl L hA bv ab (by simp only [maxLen];omega) cd am;have cb:(execOp a.eval o).run cx.P w=.ok (.value v') w':=by
  simp only [execOp,ho,resolve,invoke,builtin,Sem.run_bind,Sem.run_pure,Result.andThen_ok,map_toArray,bN,map_nil,ey,ay]
 unfold Oper.wp;rw [cb];have al:v'.oneCell'=true:=Cg q1;let γ':Gam:=fun id=>if n=id then some (some (v'.ownBlock,v')) else if oid=some id then some none else γ id
 have I:γ' n=some (some (v'.ownBlock,v')):=if_pos rfl;have D:∀ id,n≠id->oid≠some id->γ' id=γ id:=fun id h1 h2=>by show (if n=id then _ else if oid=some id then _ else γ id)=γ id;rw [if_neg h1,if_neg h2]
 have C:∀ id,n≠id->oid=some id->γ' id=some none:=fun id h1 h2=>by show (if n=id then _ else if oid=some id then _ else γ id)=some none;rw [if_neg h1,if_pos h2]
 have N:∀ b,own γ' b->v'.ownBlock=some b\/own γ b:=fun b ⟨id,dd,hi,hm⟩=>by
  by_cases h:n=id
  ·subst h;rw [I] at hi;injection hi with hi;subst hi;exact aH (D9 (D8 al) hm)
  ·by_cases G:oid=some id
   ·rw [C id h G] at hi;injection hi with hi;subst hi;simp [blks] at hm
   ·rw [D id h G] at hi;exact aN ⟨id,dd,hi,hm⟩
 have ae:∀ b,v'.ownBlock=some b->(own γ b/\(a.eval x).ownBlock=some b)\/b=w.heap.size:=fun b J=>by
  rcases q3 with q3|q3
  ·rw [q3] at J;obtain ⟨id,s,_,hi⟩:=t b J;exact aH ⟨own.mk hi,J⟩
  ·rw [q3] at J;injection J with J;exact aN J.symm
 have F:∀ b,Sg cx.S0 cx.w0.heap.size γ b->b<w.heap.size->w'.heap[b]? = w.heap[b]? /\ Sg cx.S0 cx.w0.heap.size γ' b:=fun b hS U=>by
  have S:¬own γ b:=by
   rcases hS with ⟨_,h⟩|⟨_,h⟩
   ·intro J;have:=(q.ge b J).1.1;omega
   ·exact h
  refine ⟨q2.block b U (fun e=>?_),?_⟩
  ·obtain ⟨id,s,_,hi⟩:=t b e.symm;exact S (own.mk hi)
  ·rcases hS with hS|⟨hB,_⟩
   ·exact aH hS
   ·refine aN ⟨hB,fun O=>?_⟩;rcases N b O with h|h
    ·rcases ae b h with ⟨h,_⟩|h
     ·exact S h
     ·omega
    ·exact S h
 have bh:∀ id x,γ id=some x->γ' id=some x\/γ' id=some none\/Turn γ' id x:=fun id x m=>by
  by_cases h:n=id
  ·subst h;rw [ah] at m;cases m
  ·by_cases G:oid=some id
   ·exact aN (aH (C id h G))
   ·exact aH (by rw [D id h G];exact m)
 have bc:∀ {av v},Rep w (Sg cx.S0 cx.w0.heap.size γ) γ av v->Rep w' (Sg cx.S0 cx.w0.heap.size γ') γ' av v:=fun h=>(h.mono q2.size F).gam bh
 refine hK _ _ ⟨γ',?_⟩;rw [ai];refine q.step (γ':=γ') (fun x hx=>by injection hx with hx;subst hx;exact Bj hd _ ai) q2.size F (fun id x m=>?_) (fun id m=>?_) (fun id e' m=>?_) (fun id B b d1 d2 hi z m1 m2=>?_) (fun b J=>?_) ?_ (.row I (fun g s e _=>by injection e with e;injection e with e e2)) (fun b S U=>⟨q2.block b U (fun e=>by obtain ⟨id,s,_,hi⟩:=t b e.symm;exact S (own.mk hi)),fun O=>by
  rcases N b O with h|h
  ·rcases ae b h with ⟨h,_⟩|h
   ·exact S h
   ·omega
  ·exact S h⟩) (fun h=>absurd (bi.symm.trans h) (by simp))
 ·by_cases h:n=id
  ·subst h;rw [ah] at m;cases m
  ·by_cases G:oid=some id
   ·exact aN (aH (C id h G))
   ·exact aH (by rw [D id h G];exact m)
 ·rw [ak] at m;by_cases h:n=id
  ·rw [if_pos h] at m;cases m
  ·rw [if_neg h] at m;by_cases G:oid=some id
   ·rw [if_pos G] at m;cases m
   ·refine ⟨D id h G,fun g dd hg hm=>q2.block g (q.ge g ⟨id,dd,hg,hm⟩).2 (fun e=>?_)⟩;obtain ⟨bk,s0,h0,aq⟩:=t g e.symm;have:=q.inj _ _ _ _ _ hg aq hm Bc;subst this;exact G h0
 ·rw [ak] at m;by_cases h:n=id
  ·subst h;rw [if_pos rfl] at m;injection m with m
   subst m;refine ⟨_,I,v',vs++news,rfl,al,by rw [bF];exact q1,fun k F=>?_,fun k F j X=>?_,fun u hu=>(mem_append.1 hu).elim (an u) (ab u)⟩
   ·rw [getElem_append];split
    ·exact ac k _
    ·exact ap _ _
   ·rw [bF] at F;have bo:vs.length=xs.length*sz:=L.1;by_cases af:k<xs.length
    ·simp only [getElem_append_left af] at X ⊢;have ch:j<sz:=by rw [<-ac k af];exact X
     have U:k*sz+j<vs.length:=by
      have:(k+1)*sz<=xs.length*sz:=aA _ af;rw [aK] at this;omega
     rw [aC,getElem?_append_left U,<-aC];exact bc (bs k af j X)
    ·have ad:xs.length<=k:=by omega
     simp only [getElem_append_right ad] at X ⊢;have U:vs.length<=k*sz+j:=by
      have:xs.length*sz<=k*sz:=aA _ ad;omega
     rw [aC,getElem?_append_right U,<-aC];rw [show k*sz+j-vs.length=(k-xs.length)*sz+j by
      rw [bo,Nat.sub_mul];have:xs.length*sz<=k*sz:=aA _ ad;omega]
     exact bc (br (k-xs.length) (by omega) j X)
  ·rw [if_neg h] at m;by_cases G:oid=some id
   ·rw [if_pos G] at m;injection m with m
    subst m;exact ⟨none,C id h G,rfl⟩
   ·rw [if_neg G] at m;cases m
 ·have key:∀ id B b d1 d2,n=id->n≠B->γ' id=some d1->γ' B=some d2->b∈blks d1->b∈blks d2->False:=fun id B b d1 d2 h G hi z m1 m2=>by
   subst h;rw [I] at hi;injection hi with hi
   subst hi;have hi:=D9 (D8 al) m1;by_cases O:oid=some B
   ·rw [C B G O] at z;injection z with z;subst z;simp [blks] at m2
   ·rw [D B G O] at z;rcases ae b hi with ⟨_,J⟩|J
    ·obtain ⟨bk,s0,h0,aq⟩:=t b J;have:=q.inj _ _ _ _ _ z aq m2 Bc;subst this;exact O h0
    ·have:=(q.ge b ⟨B,d2,z,m2⟩).2;omega
  by_cases h:n=id
  ·by_cases G:n=B
   ·rw [<-h,<-G]
   ·exact (key id B b d1 d2 h G hi z m1 m2).elim
  ·by_cases G:n=B
   ·exact (key B id b d2 d1 G h z hi m2 m1).elim
   ·by_cases bb:oid=some id
    ·rw [C id h bb] at hi;injection hi with hi;subst hi;simp [blks] at m1
    ·by_cases ba:oid=some B
     ·rw [C B G ba] at z;injection z with z;subst z;simp [blks] at m2
     ·rw [D id h bb] at hi;rw [D B G ba] at z;exact q.inj _ _ _ _ _ hi z m1 m2
 ·rcases N b J with h|h
  ·rcases ae b h with ⟨h,_⟩|G
   ·exact ⟨(q.ge b h).1,aP (q.ge b h).2 q2.size⟩
   ·refine ⟨⟨by omega,fun h0=>by have:=q.gh _ h0;omega⟩,?_⟩;rcases q1.2 with ⟨hv,_⟩|⟨g,cap,cl,hv,_,hh,_⟩
    ·rw [hv] at h;simp [Value.ownBlock] at h
    ·rw [hv] at h;simp only [Value.ownBlock,aG] at h;subst h;exact (aU.1 hh).1
  ·exact ⟨(q.ge b h).1,aP (q.ge b h).2 q2.size⟩
 ·refine q.below.trans ⟨q2.os,q2.tape,q2.output,q2.size,fun k F=>q2.block k (by omega) (fun e=>?_)⟩;obtain ⟨id,s,_,hi⟩:=t k e.symm;have:=(q.ge k (own.mk hi)).1.1;omega
theorem zpx {τ:AS}{γ:Gam}{a:Act}{w w':World}{dst:Option Nat}{ty sz:Nat}{v u:Value}{us:List Value}{av:AV}(q:StG cx γ τ a w)(ae:cx.E.dr=true->w.drawn<=w'.drawn)(hn:τ.find d=none)(hd:∀ x,dst=some x->cx.E.np<=x/\x<cx.nt)(F:Below w.heap.size w w')(t:w'.ownsRow w.heap.size ty sz v xs.length us)
  (Q:∀ k (hk:k<xs.length),(xs[k]).cells.length=sz) (Z:∀ k (hk:k<xs.length) j (J:j<(xs[k]).cells.length),Rep w' (fun b=>(Sg cx.S0 cx.w0.heap.size γ b\/w.heap.size<=b)/\v.ownBlock≠some b) γ ((xs[k]).cells[j]) (us.getD (k*sz+j) undef)) (P:∀ u∈us,u.oneCell'=true)
  (hu:(∀ b,(Sg cx.S0 cx.w0.heap.size γ b\/w.heap.size<=b)/\v.ownBlock≠some b->Sg cx.S0 cx.w0.heap.size (γ.set d (some (v.ownBlock,v))) b)->Rep w' (Sg cx.S0 cx.w0.heap.size (γ.set d (some (v.ownBlock,v)))) (γ.set d (some (v.ownBlock,v))) av u) :
  St cx (τ.upd dst av [(d,.gen ty sz xs)]) (a.put dst u) w':=by
 have M:γ d=none:=by have:=q.me d;rw [hn] at this;exact this
 have G:=q.below.size;generalize H:γ.set d (some (v.ownBlock,v))=γ' at *;have z:γ' d=some (some (v.ownBlock,v)):=by rw [<-H];exact aE _ _ _
 have c:∀ i,i≠d->γ' i=γ i:=fun i hi=>by rw [<-H];exact aL _ _ _ hi
 have m:∀ b,v.ownBlock=some b->w.heap.size<=b/\b<w'.heap.size:=fun b m=>by
  rcases t.2 with ⟨O,_⟩|⟨g,cap,W,O,ag,hh,_⟩
  ·rw [O] at m;simp [Value.ownBlock] at m
  ·rw [O] at m;simp only [Value.ownBlock,aG] at m;subst m;exact ⟨ag,(aU.1 hh).1⟩
 have A:∀ b,own γ' b->v.ownBlock=some b\/own γ b:=fun b ⟨id,s,hi,hm⟩=>by
  by_cases h:id=d
  ·subst h;rw [z] at hi;injection hi with hi;subst hi;exact aH (D9 (D8 (Cg t)) hm)
  ·rw [c id h] at hi;exact aN ⟨id,s,hi,hm⟩
 have I:∀ i x,γ i=some x->i≠d:=fun i x N e=>by subst e;rw [M] at N;cases N
 have U:∀ b,(Sg cx.S0 cx.w0.heap.size γ b\/w.heap.size<=b)/\v.ownBlock≠some b->Sg cx.S0 cx.w0.heap.size γ' b:=fun b ⟨h1,D⟩=>by
  rcases h1 with (h1|⟨h1,h3⟩)|h1
  ·exact aH h1
  ·refine aN ⟨h1,fun ho=>?_⟩;rcases A b ho with h|h
   ·exact D h
   ·exact h3 h
  ·refine aN ⟨⟨bH G h1,fun h0=>by have:=q.gh _ h0;omega⟩,fun ho=>?_⟩;rcases A b ho with h|h
   ·exact D h
   ·have:=(q.ge b h).2;omega
 have L:∀ b,Sg cx.S0 cx.w0.heap.size γ b->b<w.heap.size->Sg cx.S0 cx.w0.heap.size γ' b:=fun b F C=>U b ⟨aH F,fun e=>by have:=(m b e).1;omega⟩
 refine ⟨γ',q.step (γ':=γ') hd F.size (fun b U C=>⟨F.block b C,L b U C⟩) (fun i x N=>aH (by rw [c i (I i x N)];exact N)) (fun i hi=>?_) (fun i e' hi=>?_) (fun i j b s1 s2 h1 D Y X=>?_) (fun b af=>?_) (q.below.trans (F.mono G)) (hu U) (fun b ab C=>⟨F.block b C,fun aa=>by
  rcases A b aa with h|h
  ·have:=(m b h).1;omega
  ·exact ab h⟩) ae⟩
 ·have B:i≠d:=fun e=>by subst e;simp [lkE] at hi
  exact ⟨c i B,fun g' s' ad ac=>F.block g' (q.ge g' ⟨i,s',ad,ac⟩).2⟩
 ·have B:i=d:=by
   simp only [lkE] at hi;cases S:aM d i with
   |true=>exact (aB S).symm
   |false=>rw [S] at hi;cases hi
  subst B;simp only [lkE,bP,aG] at hi;subst hi;exact ⟨_,z,v,us,rfl,Cg t,⟨t.1,t.2.elim aH (fun ⟨g,cap,W,O,hg,r⟩=>aN ⟨g,cap,W,O,bH G hg,r⟩)⟩,Q,fun k hk j J=>((Z k hk j J).mono (aD _) (fun b F _=>⟨rfl,U b F⟩)).gam (fun id dd B=>aH (by rw [c id (I id dd B)];exact B)),P⟩
 ·by_cases hi:i=d
  ·by_cases J:j=d
   ·rw [hi,J]
   ·subst hi;rw [z] at h1;rw [c j J] at D;injection h1 with h1
    subst h1;have q1:=(m b (D9 (D8 (Cg t)) Y)).1;have q2:=(q.ge b ⟨j,_,D,X⟩).2;omega
  ·rw [c i hi] at h1;by_cases J:j=d
   ·subst J;rw [z] at D;injection D with D
    subst D;have q1:=(m b (D9 (D8 (Cg t)) X)).1;have q2:=(q.ge b ⟨i,_,h1,Y⟩).2;omega
   ·rw [c j J] at D;exact q.inj _ _ _ _ _ h1 D Y X
 ·rcases A b af with h|h
  ·exact ⟨⟨bH G (m b h).1,fun h0=>by have:=q.gh _ h0;have:=(m b h).1;omega⟩,(m b h).2⟩
  ·exact ⟨(q.ge b h).1,aP (q.ge b h).2 F.size⟩
theorem z8m {T n nm:Nat}{ps:Array (Nat×Operand)}{i:TyI}{e esz:Nat}(Y:o.op=.buildSlice T n ps)(B:o.dst=some d)(hd:dok cx o=true)(hT:lkT cx.E.tab T=some i)(hs:i.shape=.slc e esz eb)(he:lkT cx.E.tab e=some ie)(hz:esz≠0)(hn:Nat.ble (n*esz) 16777216=true)
  (S:ie.zero.cells.all (·.oneCell')=true) (U:Nat.blt 0 ie.zero.cells.size=true) (X:Dq σ ps=true) (t:xs.length=n) (hl:xs.all (fun x=>aM x.cells.length esz)=true)
  (hf:Cr (fun j=>some (j*esz,esz)) (bK (n*esz) .any) (Cd σ ps)=some (xs.flatMap AV.cells)) (Z:σ.find nm=none):A9 cx o σ (.row nm) (nm::E2 (Cd σ ps)) [(nm,.gen e esz xs)]:=by
 refine ⟨fun id e he=>?_,fun τ h1 h2 a w Q K ⟨γ,M⟩ hK=>Br (fun c hc=>by rw [Y] at hc;cases hc) ?_⟩
 ·have:=Es he;simp at this;simp [this]
 have O:=Ug M X (fun p hp=>h1 p.2 (by simp only [Y,Op.operands,mem_toArray,mem_map];exact ⟨p,hp,rfl⟩)) (fun id ab=>h2 id (mem_cons_of_mem _ ab));have G:∀ j,(ie.zero.cells[j % ie.zero.cells.size]!).oneCell'=true:=zdk S (by simpa using U);have I:CRel w (Sg cx.S0 cx.w0.heap.size γ) γ ((bQ (n*esz)).map (ie.zero.cells[· % ie.zero.cells.size]!)) (bK (n*esz) .any):=by
  refine ⟨by simp,fun j L=>by simp only [aR];exact .any _,fun j L=>?_⟩;have C:j<n*esz:=by simpa using L
  have:((bQ (n*esz)).map (ie.zero.cells[· % ie.zero.cells.size]!)).getD j undef=ie.zero.cells[j % ie.zero.cells.size]! := by
   rw [aJ,Array.getElem?_map,Array.getElem?_range,if_pos C];rfl
  rw [this];exact G j
 obtain ⟨cells',D,af,ae,ad⟩:=Qp (f:=a.eval) (g:=σ.eval) ps.toList _ _ _ O I hf;have N:=Wc (parts:=ps.map fun p=>(p.1,a.eval p.2)) (cx.E.ok T i hT) hs (cx.E.ok e ie he) hz (aS hn) (by rw [bJ];exact D) w;have H:Below w.heap.size w (w.alloc (.cells cells' e)):=(Below.refl _ _).alloc (aD _) _;have m:∀ k (A:k<xs.length),(xs[k]).cells.length=esz:=fun k A=>by
  simp only [all_eq_true] at hl;exact aB (hl _ (getElem_mem A))
 obtain ⟨g1,g2⟩:=zke m;have aa:∀ k j,k<xs.length->j<esz->k*esz+j<xs.length*esz:=fun k j A L=>by
  have:(k+1)*esz<=xs.length*esz:=aA _ A;rw [aK] at this;omega
 have F:cells'.size=n*esz:=by rw [af,g1,t]
 have ag:n<=16777216:=by
  have h:=aS hn;have:n*1<=n*esz:=Nat.mul_le_mul_left _ (by omega);omega
 unfold Oper.wp;have ac:(execOp a.eval o).run cx.P w=.ok (.value (.slice (some ⟨w.heap.size,0,none⟩) n n)) (w.alloc (.cells cells' e)):=by
  have e':(ps.map fun x=>match x with|(i,x)=>(i,a.eval x))=ps.map fun p=>(p.1,a.eval p.2):=rfl
  simp only [execOp,Y,e',Sem.run_bind,Sem.run_pure,Result.andThen_ok,N]
 rw [ac];refine hK _ _ ?_;rw [B];refine zpx (d:=nm) (v:=.slice (some ⟨w.heap.size,0,none⟩) n n) (us:=cells'.toList) M (fun _=>aD _) (by rw [h2 nm (by simp),Z]) (fun x W=>by injection W with W;subst W;exact Bj hd _ B) H
  ⟨by rw [aO,F,t],aN ⟨w.heap.size,n,cells',by rw [t],aD _,Blk.new w _ _,by omega,by unfold maxLen;omega,F,?_⟩⟩ m (fun k A j L=>?_) (fun u hu=>?_)
  (fun hS=>.row (aE _ _ _) (fun g s e _=>by injection e with e;injection e with _ e))
 ·rw [take_of_length_le (by rw [aO,F,t];exact aD _)]
 ·have C:j<esz:=by rw [<-m k A];exact L
  have z:k*esz+j<(xs.flatMap AV.cells).length:=by rw [g1];exact aa k j A C
  have:=ae (k*esz+j) z;have J:=g2 k A j L;rw [aF z] at J;injection J with J
  rw [J] at this;have e2:cells'.toList.getD (k*esz+j) undef=cells'.getD (k*esz+j) undef:=by
   rw [aC,aJ,Array.getElem?_toList]
  rw [e2];refine (this.mono H.size (fun b hS z=>⟨H.block b z,aH hS,fun e=>?_⟩));simp only [Value.ownBlock,aG] at e;omega
 ·obtain ⟨q,J,rfl⟩:=bA.1 hu;have P:q<cells'.size:=by simpa using J
  have:=ad q P;rw [aJ,Array.getElem?_eq_getElem P] at this;simpa using this
theorem z93 {T nm e esz c:Nat}{x y:Operand}{i:TyI}{k k':IntKind}{n:Int}{m:Nat}(ho:o.op=.makeSlice T x y)(A:o.dst=some d)(hd:dok cx o=true)(ac:A0 x=true)(ab:A0 y=true)(J:σ.eval x=.int k n)(hy:σ.eval y=.int k' (c:Int))(S:m<=c)
  (hT:lkT cx.E.tab T=some i) (hs:i.shape=.slc e esz eb) (X:lkT cx.E.tab e=some ie) (hz:esz≠0) (aa:Gl ie=true) (z:ie.zero.cells.all (·.oneCell')=true) (hn:σ.find nm=none) (hm:n=(m:Int)) (h1:c<=1099511627776) (h2:ie.bytes*c<=281474976710656)
  (Y:cx.E.dr=false):A9 cx o σ (.row nm) [nm] [(nm,.gen e esz (bK m (Cw ie)))]:=by
 refine ⟨fun id e X=>?_,fun τ q1 q2 a w Q K ⟨γ,C⟩ hK=>Br (fun c hc=>by rw [ho] at hc;cases hc) ?_⟩
 ·simp only [lkE] at X;cases hb:aM nm id with
  |true=>simp [aB hb]
  |false=>rw [hb] at X;cases X
 have ex:=C.ev x ac;rw [q1 x (by simp [ho,Op.operands]),J] at ex;have ey:=C.ev y ab;rw [q1 y (by simp [ho,Op.operands]),hy] at ey;obtain ⟨hu,ak,_⟩:=C5 (cx.E.ok T i hT) hs;have O:=cx.E.ok e ie X;obtain ⟨info,hi,ah,ag,af⟩:=O.both;have B:ie.sz=esz:=O.cells.symm.trans ak;obtain ⟨I,H⟩:=Wm aa;subst hm;have am:(info.bytes:Int)*(c:Int)<=281474976710656:=by
  have h:((info.bytes*c:Nat):Int)<=281474976710656:=by rw [ag];omega
  rwa [Int.natCast_mul] at h
 have b:=run_make (P:=cx.P) w T e info ie.zero hu hi af k k' m c (by omega) (by omega) am (by omega);simp only [Int.toNat_natCast] at b;rw [show info.size=esz from ah.trans B] at b;generalize L:w.alloc (.cells (madeCells ie.zero.cells (c*esz)) e)=w' at b;have al:Below w.heap.size w w':=by rw [<-L];exact (Below.refl _ _).alloc (aD _) _
 have F:w'.heap[w.heap.size]? = some (.cells (madeCells ie.zero.cells (c*esz)) e (0,0)):=by rw [<-L];exact World.alloc_heap_new w _
 have an:m*esz<=c*esz:=aA _ S;unfold Oper.wp;have ai:(execOp a.eval o).run cx.P w=.ok (.value (.slice (some ⟨w.heap.size,0,none⟩) m c)) w':=by
  simp only [execOp,ho,ex.int_inv,ey.int_inv,Sem.run_bind,b,Result.andThen_ok,Sem.run_pure]
 rw [ai];refine hK _ _ ?_;rw [A];have aj:(Cw ie).cells.length=esz:=by rw [I,aQ,aO,H,B]
 have W:∀ q j,q<m->j<esz->((madeCells ie.zero.cells (c*esz)).toList.take (m*esz)).getD (q*esz+j) undef=ie.zero.cells.getD j undef:=fun q j G hj=>by
  have ad:q*esz+j<m*esz:=by
   have:(q+1)*esz<=m*esz:=aA _ G;rw [aK] at this;omega
  have t:(q*esz+j) % ie.zero.cells.size=j:=by
   rw [H,B,Nat.mul_comm,Nat.mul_add_mod,Nat.mod_eq_of_lt hj]
  rw [aC,List.getElem?_take,if_pos ad];have D:j<ie.zero.cells.size:=by omega
  have U:q*esz+j<c*esz:=by omega
  simp [madeCells,U,t,aX,D]
 have Z:∀ v∈ie.zero.cells,v.oneCell'=true:=by
  rw [Array.all_eq_true_iff_forall_mem] at z;exact z
 refine zpx (d:=nm) (v:=.slice (some ⟨w.heap.size,0,none⟩) m c) (us:=(madeCells ie.zero.cells (c*esz)).toList.take (m*esz)) C (fun h=>absurd (Y.symm.trans h) (by simp)) (by rw [q2 nm (by simp),hn]) (fun x J=>by injection J with J;subst J;exact Bj hd _ A) al
  ⟨by rw [aV,aO,size_madeCells,aT];omega,aN ⟨w.heap.size,c,_,by rw [aT],aD _,F,by rw [aT];exact S,by unfold maxLen;omega,size_madeCells _ _,by rw [aT]⟩⟩ (fun q G=>by rw [aR];exact aj) (fun q G j hj=>?_) (fun u hu=>?_)
  (fun hS=>.row (aE _ _ _) (fun g s e _=>by injection e with e;injection e with _ e))
 ·have M:q<m:=by simpa using G
  rw [aR] at hj;have D:j<esz:=by omega
  rw [W q j M D];simp only [aR,I,bE];have ae:j<ie.zero.cells.size:=by omega
  have:ie.zero.cells.getD j undef=ie.zero.cells[j]:=by simp [aX,ae]
  rw [this];simpa using Gk _ _ _ (ie.zero.cells[j])
 ·obtain ⟨q,G,rfl⟩:=bA.1 (bB hu);have M:q<c*esz:=by simpa [size_madeCells] using G
  have N:0<ie.zero.cells.size:=by omega
  have t:=Nat.mod_lt q N;simp only [madeCells,bJ,bE,bC,Array.getElem_range];rw [getElem!_pos ie.zero.cells _ t];exact Z _ (Array.getElem_mem _)
end
open Go.RowKit
section
variable {α β γ δ:Type}
def cnd (b:Bool)(x y:Option β):Option β:=match b with|true=>x|false=>y
def idx (l:List α)(n:Int)(k:α->Option β):Option β:=if 0<=n then (match l[n.toNat]? with|some x=>k x|none=>none) else none
def nat (n:Int)(len:Nat)(k:Nat->Option β):Option β:=if 0<=n/\n.toNat<len then k n.toNat else none
def ltx (m len:Nat)(x:Option β):Option β:=if m<len then x else none
def elt (l:List α)(m:Nat)(k:α->Option β):Option β:=match l[m]? with|some x=>k x|none=>none
def slc (len:Nat)(lo hi:Int)(k:Nat->Nat->Option β):Option β:=if 0<=lo/\lo<=hi/\hi<=(len:Int) then k lo.toNat hi.toNat else none
def sls (l:List α)(lo hi:Int)(k:List α->Option β):Option β:=if 0<=lo/\lo<=hi/\hi<=(l.length:Int) then k ((l.take hi.toNat).drop lo.toNat) else none
def app (l m:List α)(bytes:Nat)(k:List α->Option β):Option β:=if l.length+m.length<=1099511627776/\(l.length+m.length)*bytes<=140737488355328 then k (l++m) else none
def mak (n:Int)(bytes:Nat)(z:α)(k:List α->Option β):Option β:=if 0<=n/\n.toNat<=1099511627776/\bytes*n.toNat<=281474976710656 then k (bK n.toNat z) else none
def stx (l:List α)(m:Nat)(f:α->α)(k:List α->Option β):Option β:=match l[m]? with|some x=>k (l.set m (f x))|none=>none
variable {κ ν:Type}
def mlk [DecidableEq κ]:List (κ×ν)->κ->Option ν
 |[],_=>none
 |(a,v)::r,k=>if k=a then some v else mlk r k
def mput [DecidableEq κ]:List (κ×ν)->κ->ν->List (κ×ν)
 |[],k,v=>[(k,v)]
 |(a,x)::r,k,v=>if k=a then (k,v)::r else (a,x)::mput r k v
def mgt [DecidableEq κ](l:List (κ×ν))(k:κ)(z:ν)(c:ν->Bool->Option β):Option β:=c ((mlk l k).getD z) (mlk l k).isSome
def mst [DecidableEq κ](l:List (κ×ν))(k:κ)(v:ν)(c:List (κ×ν)->Option β):Option β:=c (mput l k v)
def nzx (b:Int)(x:Option β):Option β:=if b=0 then none else x
def psx (b:Int)(x:Option β):Option β:=if 0<b then x else none
def shx (b:Int)(x:Option β):Option β:=if 0<=b then x else none
def bnd (o:Option α)(k:α->Option β):Option β:=match o with|some a=>k a|none=>none
def bndC (o:Option α)(k:α->Option β):Option β:=match o with|some a=>k a|none=>none
def bndR (o:Option α)(k:α->Option β):Option β:=match o with|some a=>k a|none=>none
def frz (id:Nat)(x:Option β):Option β:=x
def reg (x:Option β):Option β:=x
variable {x y:Option β}{r:β}
theorem Ac.o {b:Bool}{p q:Prop}(h:cnd b x y=some r)(h1:x=some r->p)(a:y=some r->q):Ac b p q:=⟨fun e=>h1 (by subst e;exact h),fun e=>a (by subst e;exact h)⟩
variable {l:List α}{n:Int}{K:AV->Prop}{k:α->Option β}
theorem IdxX.o (enc:α->AV)(h:idx l n k=some r)(b:∀ x,k x=some r->K (enc x)):IdxX (l.map enc) n K:=by
 unfold idx at h;split at h
 ·rename_i c;split at h
  ·rename_i x a;exact .mk n.toNat (enc x) (by omega) (by rw [bI,a];rfl) (b x h)
  ·cases h
 ·cases h
theorem IdxX.o2 {u v:AV}(h:cnd (decide (n=0)) x (cnd (decide (n=1)) y none)=some r)(a:x=some r->K u)(h1:y=some r->K v):IdxX [u,v] n K:=by
 unfold cnd at h;split at h
 ·rename_i e;exact .mk 0 u (of_decide_eq_true e) rfl (a h)
 ·split at h
  ·rename_i e;exact .mk 1 v (of_decide_eq_true e) rfl (h1 h)
  ·cases h
theorem Qg (a b:ByteArray):(a.toList == b.toList)=decide (a=b):=by
 rw [<-za7,Bool.eq_iff_iff,MapKept.bytes_beq];simp
variable {len:Nat}
theorem NatX.o {K:Nat->Prop}{k:Nat->Option β}(h:nat n len k=some r)(b:∀ m,k m=some r->K m):NatX n len K:=by
 unfold nat at h;split at h
 ·rename_i a;exact .mk n.toNat (by omega) a.2 (b _ h)
 ·cases h
theorem NatX.o2 {K:Nat->Prop}(h:cnd (decide (n=0)) x (cnd (decide (n=1)) y none)=some r)(a:x=some r->K 0)(h1:y=some r->K 1):NatX n 2 K:=by
 unfold cnd at h;split at h
 ·rename_i e;exact .mk 0 (of_decide_eq_true e) (by omega) (a h)
 ·split at h
  ·rename_i e;exact .mk 1 (of_decide_eq_true e) (by omega) (h1 h)
  ·cases h
theorem NatX.o3 {K:Nat->Prop}{z:Option β}(h:cnd (decide (n=0)) x (cnd (decide (n=1)) y (cnd (decide (n=2)) z none))=some r)(b:x=some r->K 0)(h1:y=some r->K 1)(a:z=some r->K 2):NatX n 3 K:=by
 unfold cnd at h;split at h
 ·rename_i e;exact .mk 0 (of_decide_eq_true e) (by omega) (b h)
 ·split at h
  ·rename_i e;exact .mk 1 (of_decide_eq_true e) (by omega) (h1 h)
  ·split at h
   ·rename_i e;exact .mk 2 (of_decide_eq_true e) (by omega) (a h)
   ·cases h
theorem LtX.o {m:Nat}{K:Prop}(h:ltx m len x=some r)(a:x=some r->K):LtX m len K:=by
 unfold ltx at h;split at h
 ·rename_i hm;exact .mk hm (a h)
 ·cases h
theorem EltX.o (enc:α->AV){m:Nat}(h:elt l m k=some r)(b:∀ x,k x=some r->K (enc x)):EltX (l.map enc) m K:=by
 unfold elt at h;split at h
 ·rename_i x a;exact .mk (enc x) (by rw [bI,a];rfl) (b x h)
 ·cases h
theorem SlcX.o {lo hi:Int}{K:Nat->Nat->Prop}{k:Nat->Nat->Option β}(h:slc len lo hi k=some r)(a:∀ l h,k l h=some r->K l h):SlcX len lo hi K:=by
 unfold slc at h;split at h
 ·rename_i b;exact .mk lo.toNat hi.toNat (by omega) (by omega) (by omega) (by omega) (a _ _ h)
 ·cases h
theorem SlsX.o (enc:α->AV){lo hi:Int}{K:List AV->Prop}{k:List α->Option β}(h:sls l lo hi k=some r)(b:∀ a,k a=some r->K (a.map enc)):SlsX (l.map enc) lo hi K:=by
 unfold sls at h;split at h
 ·rename_i c;exact .mk lo.toNat hi.toNat (by omega) (by omega) (by omega) (by rw [aQ];omega) _ (by rw [map_drop,map_take]) (b _ h)
 ·cases h
variable {bytes:Nat}
theorem AppX.o {m:List α}(enc:α->AV){ys:List AV}{K:List AV->Prop}{k:List α->Option β}(h:app l m bytes k=some r)(b:SubR ys (m.map enc))(g:∀ a,k a=some r->K (a.map enc)):AppX ((l.map enc).length+ys.length) bytes (l.map enc++ys) K:=by
 have e:=b.len;unfold app at h;split at h
 ·rename_i c;exact .sub ((l++m).map enc) (by rw [map_append];exact .append (.refl _) b) (by rw [aQ,e,aQ];exact c.1) (by rw [aQ,e,aQ];exact c.2) (g _ h)
 ·cases h
theorem AppX.o0 {m:List α}(enc:α->AV){ys:List AV}{K:List AV->Prop}{k:List α->Option β}(h:app [] m bytes k=some r)(b:SubR ys (m.map enc))(g:∀ a,k a=some r->K (a.map enc)):AppX ys.length bytes ys K:=by
 have e:=b.len;unfold app at h;split at h
 ·rename_i c;exact .sub (m.map enc) b (by rw [e,aQ];simpa using c.1) (by rw [e,aQ];simpa using c.2) (g _ h)
 ·cases h
theorem MakX.o {z:α}(enc:α->AV){y:AV}{K:List AV->Prop}{k:List α->Option β}(h:mak n bytes z k=some r)(c:SubL y.cells (enc z).cells)(e:∀ a,k a=some r->K (a.map enc)):MakX n bytes y K:=by
 unfold mak at h;split at h
 ·rename_i b;exact .mk n.toNat (by omega) b.2.1 b.2.2 _ (by rw [map_replicate];exact .replicate c _) (e _ h)
 ·cases h
theorem SetX.o (enc:α->AV){f:α->α}{m j n:Nat}{av:AV}{ok:AV->Bool}{put:AV->AV}{K:List AV->Prop}{k:List α->Option β}(h:stx l m f k=some r)(b:∀ x,ok (enc x)=true)(a:∀ x,SubL (put (enc x)).cells (enc (f x)).cells)(g:∀ c,k c=some r->K (c.map enc)):SetX (l.map enc) m j n av ok put K:=by
 unfold stx at h;split at h
 ·rename_i x e;exact .mk (enc x) (by rw [bI,e];rfl) (b x) _ (by rw [map_set];exact .set (a x) _ _) (g _ h)
 ·cases h
theorem ShX.o {b:Int}{K:Prop}(h:shx b x=some r)(a:x=some r->K):ShX b K:=by
 unfold shx at h;split at h
 ·rename_i c;exact .mk c (a h)
 ·cases h
def encM (encK:κ->AV)(encV:ν->AV)(p:κ×ν):AV×AV:=(encK p.1,encV p.2)
theorem Zz [DecidableEq κ](encK:κ->AV)(encV:ν->AV)(m:∀ a b,eqK (encK a) (encK b)=some (decide (a=b)))(k:κ):∀ (l:List (κ×ν)) (i:Nat),
  ∃ r,Bq (encK k) ((l.map (encM encK encV)).map (·.1)) i=some r/\r.isSome=(mlk l k).isSome/\(∀ j,r=some j->i<=j/\∃ v,mlk l k=some v/\((l.map (encM encK encV)).getD (j-i) default).2=encV v) /\
   ∀ (v:ν) (x:AV),Sub x (encV v)->SubM (putK (r.map (· - i)) (encK k) x (l.map (encM encK encV))) ((mput l k v).map (encM encK encV))
 |[],i=>⟨none,rfl,rfl,fun j h=>(by cases h),fun v x c=>.cons _ c .nil⟩
 |(a,v)::r,i=>by
  simp only [bN,encM,Bq,m,mlk,mput];by_cases e:k=a
  ·subst e;simp only [decide_true];refine ⟨some i,rfl,by simp,fun j g=>?_,fun v' x c=>?_⟩
   ·injection g with g;subst g;exact ⟨aD _,v,by simp,by simp⟩
   ·simp only [if_true,aZ,Nat.sub_self,putK,set_cons_zero,bN];exact .cons _ c (.refl _)
  ·rw [decide_eq_false e];obtain ⟨q,h1,u,s,t⟩:=Zz encK encV m k r (i+1);refine ⟨q,h1,by rw [u,if_neg e],fun j g=>?_,fun v' x c=>?_⟩
   ·obtain ⟨B,v',A,z⟩:=s j g;refine ⟨by omega,v',by rw [if_neg e];exact A,?_⟩;rw [show j-i=(j-(i+1))+1 by omega,getD_cons_succ];exact z
   ·have:=t v' x c;rw [if_neg e];cases q with
    |none=>exact .cons _ (.refl _) this
    |some j =>
     obtain ⟨B,_⟩:=s j rfl;simp only [aZ,putK] at this ⊢;rw [show j-i=(j-(i+1))+1 by omega,set_cons_succ];exact .cons _ (.refl _) this
theorem LkX.o [DecidableEq κ]{l:List (κ×ν)}{k:κ}{z:ν}{P:Program}{kt:Nat}{zA:AV}{K:AV->Bool->Prop}{c:ν->Bool->Option β}(encK:κ->AV)(encV:ν->AV)(h:mgt l k z c=some r)(m:Bp P kt (encK k)=true)(s:∀ a b,eqK (encK a) (encK b)=some (decide (a=b)))(g:Sub zA (encV z))
  (t:∀ v b,c v b=some r->K (encV v) b):LkX P kt (encK k) (l.map (encM encK encV)) zA K:=by
 obtain ⟨q,h1,e,u,_⟩:=Zz encK encV s k l 0;refine .mk q (encV ((mlk l k).getD z)) (mlk l k).isSome m h1 e ?_ (t _ _ h);cases q with
 |none =>
  have:mlk l k=none:=by cases hm:mlk l k with
   |none=>rfl
   |some v=>rw [hm] at e;cases e
  rw [this];exact g
 |some j =>
  obtain ⟨_,v,B,A⟩:=u j rfl;rw [B,Option.getD_some,<-A];exact .refl _
theorem UpX.o [DecidableEq κ]{l:List (κ×ν)}{k:κ}{v:ν}{P:Program}{kt:Nat}{x:AV}{K:List (AV×AV)->Prop}{c:List (κ×ν)->Option β}(encK:κ->AV)(encV:ν->AV)(h:mst l k v c=some r)(m:Bp P kt (encK k)=true)(s:∀ a b,eqK (encK a) (encK b)=some (decide (a=b)))(g:Sub x (encV v))
  (t:∀ e,c e=some r->K (e.map (encM encK encV))):UpX P kt (encK k) x (l.map (encM encK encV)) K:=by
 obtain ⟨q,h1,_,_,u⟩:=Zz encK encV s k l 0;refine .mk q _ m h1 ?_ (t _ h);have:=u v x g;cases q with
 |none=>exact this
 |some j=>exact this
theorem PosX.o {b:Int}{K:Prop}(h:psx b x=some r)(a:x=some r->K):PosX b K:=by
 unfold psx at h;split at h
 ·rename_i c;exact .mk c (a h)
 ·cases h
theorem NzX.o {b:Int}{K:Prop}(h:nzx b x=some r)(a:x=some r->K):NzX b K:=by
 unfold nzx at h;split at h
 ·cases h
 ·rename_i c;exact .mk c (a h)
section
variable {E:Env} {nt:Nat} {f:FuncId} {avs:List AV}
variable {fr:Bool}{R:Nat->Nat->List AV->AV->Prop}{find:Nat->Option Ent}{KR:AV->List Nat->List (Nat×Ent)->Prop}
theorem Ag.o {o:Option α}(h:bnd o k=some r)(enc:α->AV)(c:∀ a,o=some a->Con E fr f avs (enc a))(b:∀ a,k a=some r->K (enc a)):Ag E f avs K R find KR:=by
 unfold bnd at h;split at h
 ·exact .mk fr _ (c _ rfl) (b _ h)
 ·cases h
variable {ty sz:Nat}
theorem Ag.oR {o:Option α}(h:bndR o k=some r)(rl:α->List γ)(encE:γ->AV)(res:α->AV)(b:E.dr=false)(e:∀ a,o=some a->ConT E f avs ty sz ((rl a).map encE) (res a))(c:∀ a,k a=some r->R ty sz ((rl a).map encE) (res a)):Ag E f avs K R find KR:=by
 unfold bndR at h;split at h
 ·exact .rowT ty sz _ _ b (e _ rfl) (c _ h)
 ·cases h
variable {raw:List AV}{dst:Option Nat}
theorem Be.o {o:Option α}(h:bnd o k=some r)(enc:α->AV)(e:∀ a,o=some a->Con E fr f avs (enc a))(c:∀ a,fr=true\/(enc a).flat=true)(b:∀ a,k a=some r->K (enc a)):Be E f avs K raw find dst KR:=by
 unfold bnd at h;split at h
 ·exact .mk fr _ (e _ rfl) (c _) (b _ h)
 ·cases h
variable {xs cargs:List AV}
theorem Be.oC {o:Option α}{d b c:Nat}(h:bndC o k=some r)(id:Nat)(rl:α->List γ)(encE:γ->AV)(res:α->AV)(e:E.dr=false)(v:∀ a,o=some a->ConC false E f cargs ty sz xs b c ((rl a).map encE) (res a))
  (m:AV.renL (fun _=>id) cargs=raw) (j:AV.inML [0] cargs=true) (s:find id=some (.row ty sz xs)) (u:dst=some d) (q:find d=none) (g:aM id d=false) (t:∀ a,k a=some r->KR ((res a).ren fun _=>d) [d,id] [(d,.row b c ((rl a).map encE)),(id,.dead)]):Be E f avs K raw find dst KR:=by
 unfold bndC at h;split at h
 ·exact .take id d ty sz xs b c _ _ cargs e (v _ rfl) m j s u q (aW g) (t _ h)
 ·cases h
theorem Be.oE {o:Option α}{b:List AV}(h:bnd o k=some r)(id:Nat)(enc:α->AV)(e:find id=some (.row ty sz xs))(j:∀ a,o=some a->Con E fr f b (enc a))(m:AV.frzL id sz xs raw=b)(c:AV.closedL b=true)(g:∀ a,k a=some r->KR (enc a) [id] [(id,.dead)]):Be E f avs K raw find dst KR:=by
 unfold bnd at h;split at h
 ·exact .eat id ty sz xs b fr _ e m c (j _ rfl) (g _ h)
 ·cases h
theorem Be.oI {o:Option α}(h:bndC o k=some r)(id:Nat)(rl:α->List γ)(encE:γ->AV)(res:α->AV)(b:E.dr=false)(m:∀ a,o=some a->ConC true E f cargs ty sz xs ty sz ((rl a).map encE) (res a))
  (e:AV.renL (fun _=>id) cargs=raw) (c:AV.inML [0] cargs=true) (g:find id=some (.row ty sz xs)) (j:∀ a,k a=some r->KR ((res a).ren fun _=>id) [id] [(id,.row ty sz ((rl a).map encE))]):Be E f avs K raw find dst KR:=by
 unfold bndC at h;split at h
 ·exact .turn id ty sz xs _ _ cargs b (m _ rfl) e c g (j _ h)
 ·cases h
theorem B5.o {V:Type}{L:Nat->V->Option β}{S:V->AS}{F:(AS->Prop)->AS->Prop}{n:Nat}{b:V}(h:L n b=some r)(e:∀ v,L 0 v=none)(g:LeX E nt σ (S b))(round:∀ m v,L (m+1) v=some r->F (fun a=>∃ v',L m v'=some r/\LeX E nt a (S v')) (S v))
  (mono:∀ (P Q:AS->Prop) σ,(∀ σ,P σ->Q σ)->F P σ->F Q σ):B5 E nt F σ:=by
 refine .mk (fun m σ=>∃ v,L m v=some r/\σ=S v) n (S b) g ⟨b,h,rfl⟩ ?_;rintro m σ ⟨v,c,rfl⟩;cases m with
 |zero=>rw [e] at c;cases c
 |succ m =>
  refine mono _ _ _ (fun a ⟨v',h1,j⟩=>?_) (round m v c);exact ⟨m,S v',j,Nat.lt_succ_self _,v',h1,rfl⟩
end
theorem RetX.o {v:AV}{a:β}{enc:β->AV}(h:some a=some r)(b:Sub v (enc a)):RetX v (enc r):=by injection h with h;subst h;exact .sub b
theorem TX.o {E:Env}{fn:Func}{ty sz:Nat}{a:β}{rl:β->List AV}{res:β->AV}(h:some a=some r)(b:TX E nt fn σ ty sz (rl a) (res a)):TX E nt fn σ ty sz (rl r) (res r):=by injection h with h;subst h;exact b
end
section
variable {E:Env} {nt:Nat}
theorem AW.mono1 {c:Code}{K:Exit->AS->Prop}{P Q:AS->Prop}(h:∀ σ,P σ->Q σ)(k:AW E nt (Cy P K) [.code c] .normal σ):AW E nt (Cy Q K) [.code c] .normal σ:=⟨fun cx m j g=>WP.mono (k.out cx m j g) (fun e b a=>by cases e<;>first|exact h _ a|exact a)⟩
end
section
variable {β V:Type} {E:Env} {nt:Nat} {R:Exit->AS->Prop} {K:List Bi}
theorem LoopA.o {L:Nat->V->Option β}{S:V->AS}{c:Code}{r:β}{n:Nat}{e:V}(h:L n e=some r)(g:∀ v,L 0 v=none)(j:LeX E nt σ (S e))
  (round:∀ m v,L (m+1) v=some r->AW E nt (Cy (fun a=>∃ v',L m v'=some r/\LeX E nt a (S v')) (AW E nt R K)) [.code c] .normal (S v)):B5 E nt (fun next a=>AW E nt (Cy next (AW E nt R K)) [.code c] .normal a) σ :=
 B5.o h g j round (fun P Q σ b q=>AW.mono1 b q)
theorem AW.frzO {id ty sz:Nat}{xs:List AV}{c:Code}{x:Option β}{y:β}(h:frz id x=some y)(r:Nat)(a:σ.find r=some (.row ty sz xs))(k:x=some y->AW E nt R (.code c::K) .normal (σ.frzAll r sz xs)):AW E nt R (.code c::K) .normal σ:=AW.weaken (LeX.frzAll r ty sz xs a) (k h)
theorem AW.regO {id:Nat}{a:Array Oper}{d:Bool}{x:Option β}{y:β}(h:reg x=some y)(k:x=some y->AW E nt R (.ops d a a.toList [] []::K) .normal σ):AW E nt R (.code (.region id a d)::K) .normal σ:=AW.into (k h)
end
def AS.putS (σ:AS)(t:Nat)(v:AV):AS:=⟨(t,v)::σ.tm,σ.me⟩
theorem LeX.put {E:Env}(t:Nat)(v:AV)(c:Sub (σ.get t) v):LeX E nt σ (σ.putS t v):=fun cx q m j a w ⟨γ,h⟩=>by
 refine ⟨γ,fun u=>?_,fun i=>h.me i,h.inj,h.ge,h.below,h.size,h.defers,h.gh,h.fr,h.dr⟩;by_cases b:t=u
 ·subst b;have e:(σ.putS t v).get t=v:=by simp [AS.putS,AS.get,lkV]
  rw [e];exact (h.tm t).sub c
 ·have e:(σ.putS t v).get u=σ.get u:=by
   unfold AS.putS AS.get;simp only [lkV];cases g:aM t u with
   |true=>exact absurd (aB g) b
   |false=>rfl
  rw [e];exact h.tm u
attribute [irreducible] cnd idx nat ltx elt slc sls app mak stx nzx shx bnd bndC bndR frz reg mgt mst psx
end Go.Proofs.YtkoamfnbbhfaiaaGreatDoor
