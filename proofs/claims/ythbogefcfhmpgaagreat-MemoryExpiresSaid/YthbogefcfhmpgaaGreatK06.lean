/- The abstract walk, before its evaluator. -/
import Derived.Test.YthbogefcfhmpgaaGreatK05
import Derived.RangeFuncNested
set_option linter.unusedVariables false
set_option linter.unusedSimpArgs false
namespace Go.Proofs.YthbogefcfhmpgaaGreat
open Go.RowKit List
open Nat renaming eq_of_beq_eq_true->aA,le_refl->aB,beq->aJ,not_lt_zero->aV,lt_of_lt_of_le->aY,le_trans->bI,mul_comm->bJ
open Or renaming inr->aC,inl->aD
open AV renaming renL_length->aE,renL->bD,inML->bE,renL_at->bF,inML_at->bG
open _root_.Array renaming getD_eq_getD_getElem?->aF,length_toList->aH,getD->aP,getElem_toList->aW,append_empty->aZ
open Gam renaming set_self->aG,set_ne->aO
open List renaming mem_map->aK,mem_map_of_mem->aL,all_eq_true->aM,mem_append_left->aN,getElem_replicate->aS,mem_append_right->aT,mem_filterMap->aX,getElem_map->bB,any_eq_true->bC,nil_append->bH
open Option renaming toList_none->aQ
open Bool renaming not_eq_true'->aR,or_eq_true->aU
mutual
def AV.frz (r sz:Nat)(xs:List AV):AV->AV
 |.row id=>match aJ id r with|true=>.sl sz xs|false=>.row id
 |.fn f cap=>.fn f (AV.frzL r sz xs cap)
 |.yld l T cap=>.yld l T (AV.frzL r sz xs cap)
 |.agg cs=>.agg (AV.frzL r sz xs cs)
 |.tup cs=>.tup (AV.frzL r sz xs cs)
 |x=>x
def AV.frzL (r sz:Nat)(xs:List AV):List AV->List AV |[]=>[] |x::l=>x.frz r sz xs::AV.frzL r sz xs l
end
theorem AV.frzL_length (r sz:Nat)(xs l:List AV):(AV.frzL r sz xs l).length=l.length:=by
 induction l with
 |nil=>rfl
 |cons x l ih=>simp [AV.frzL,ih]
theorem AV.frzL_at (r sz:Nat)(xs l:List AV)(i:Nat)(hi:i<l.length):(AV.frzL r sz xs l)[i]'(by rw [AV.frzL_length];exact hi)=l[i].frz r sz xs:=by
 induction l generalizing i with
 |nil=>simp at hi
 |cons x l ih =>
  cases i with
  |zero=>rfl
  |succ i=>exact ih i (by simpa using hi)
variable {w:World}{S:Nat->Prop}{γ:Gam}{d:Option (Option Nat×Value)}
theorem Rep.frz {γ':Gam}{r sz:Nat}{xs:List AV}(m:∀ i x,i≠r->γ i=some x->γ' i=some x)(C:γ r=some d)(u:γ' r=some none)
  (G:∀ v,(∀ g s,d=some (g,s)->Nk s=false->v=s)->Rep w S γ' (.sl sz xs) v) {av:AV} {v:Value} (h:Rep w S γ av v):Rep w S γ' (av.frz r sz xs) v:=by
 induction h with
 |any=>exact .any _
 |int=>exact .int _ _
 |bool=>exact .bool _
 |str=>exact .str _
 |nilp=>exact .nilp
 |nils=>exact .nils
 |nilf=>exact .nilf
 |@ptr γ id off v E h q =>
  by_cases hi:id=r
  ·subst hi;exact .ptr u (fun g s e=>by cases e)
  ·exact .ptr (m _ _ hi h) q
 |@elt γ id sz k j v E h q =>
  by_cases hi:id=r
  ·subst hi;exact .elt u (fun g s e=>by cases e)
  ·exact .elt (m _ _ hi h) q
 |@der γ Q id v E h q =>
  by_cases hi:id=r
  ·subst hi;exact .der u (fun g s e=>by cases e)
  ·exact .der (m _ _ hi h) q
 |mapv F M g es clock y I P O t N q K J=>exact .mapv F M g es clock y I P O t N q
 |mapn=>exact .mapn
 |slen A n c=>exact .slen A n c
 |@cont γ n id v E h q t =>
  by_cases hi:id=r
  ·subst hi;exact .cont u (fun g s e=>by cases e) t
  ·exact .cont (m _ _ hi h) q t
 |@row γ id v E h q =>
  simp only [AV.frz];cases y:aJ id r with
  |true =>
   have:=aA y;subst this;rw [C] at h;injection h with h
   subst h;exact G _ q
  |false=>exact .row (m _ _ (Nat.ne_of_beq_eq_false y) h) q
 |sl A c cell H D y B h1 ih=>exact .sl A c cell H D y B h1
 |ref b off cell I y H B h1 ih=>exact .ref b off cell I y H B h1
 |fn vs t z ih =>
  exact .fn vs (by rw [t,AV.frzL_length]) (fun i p=>by
   have f:=p;rw [AV.frzL_length] at f;rw [AV.frzL_at r sz xs _ i f];exact ih i f m C)
 |yld z ih =>
  exact .yld (fun i p=>by
   have f:=p;rw [AV.frzL_length] at f;rw [AV.frzL_at r sz xs _ i f];exact ih i f m C)
 |agg vs t z h1 ih =>
  exact .agg vs (by rw [t,AV.frzL_length]) (fun i p=>by
   have f:=p;rw [AV.frzL_length] at f;rw [AV.frzL_at r sz xs _ i f];exact ih i f m C) h1
 |tup vs t z ih =>
  exact .tup vs (by rw [t,AV.frzL_length]) (fun i p=>by
   have f:=p;rw [AV.frzL_length] at f;rw [AV.frzL_at r sz xs _ i f];exact ih i f m C)
section
variable {cx:Cx} {o:Oper} {σ:AS}
theorem zu6 {x:Operand}{args:Array Operand}{tys:Array TypeId}{f id ty sz:Nat}{p avs xs:List AV}{res:AV}{fr:Bool}(t:o.op=.call { callee:=.value x,args:=args,argTypes:=tys })(hd:dok cx o=true)(O:A4 x=true)(R:args.toList.all A4=true)(C:σ.eval x=.fn f p)
  (hl:σ.find id=some (.row ty sz xs)) (ha:AV.frzL id sz xs (C8 σ args p)=avs) (ac:AV.closedL avs=true) (J:Con cx.E fr f avs res):Ah cx o σ res [id] [(id,.dead)]:=by
 refine ⟨fun i e Z=>D6 Z,fun τ h1 h2 a w Q K ⟨γ,h⟩ hK=>C6 (fun c J=>by rw [t] at J;cases J) ?_⟩;have F:o.op.operands=#[x]++args:=by simp [t,Op.operands,Call.operands]
 obtain ⟨caps,ab,W,hr⟩:=N6 h R O (fun y hy=>h1 y (by rw [F];simp at hy ⊢;exact aC hy)) (h1 x (by rw [F];simp)) C;have G:=h.me id;rw [h2 id (by simp),hl] at G;obtain ⟨d,A,Z⟩:=G;have k:∀ b,own (γ.set id none) b->own γ b/\∀ s,γ id≠some (some (some b,s)):=fun b ⟨i,s,hi,hm⟩=>by
  by_cases m:i=id
  ·subst m;rw [aG] at hi;injection hi with hi;subst hi;simp [blks] at hm
  ·rw [aO _ _ _ m] at hi;exact ⟨⟨i,s,hi,hm⟩,fun s' P=>m (h.inj _ _ _ _ _ hi P hm Bz)⟩
 have hS:∀ b,Sg cx.S0 cx.w0.heap.size γ b->Sg cx.S0 cx.w0.heap.size (γ.set id none) b:=fun b q=>q.elim aD (fun ⟨h1,h2⟩=>aC ⟨h1,fun t=>h2 (k b t).1⟩)
 have N:∀ i x,γ i=some x->γ.set id none i=some x\/γ.set id none i=some none\/Turn (γ.set id none) i x:=fun i x C=>by
  by_cases m:i=id
  ·subst m;exact aC (aD (aG _ _ _))
  ·exact aD (by rw [aO _ _ _ m];exact C)
 obtain ⟨s,hs,E⟩:=Gk (S':=Sg cx.S0 cx.w0.heap.size (γ.set id none)) Z (fun b q _=>hS b q) (fun s g N=>aC ⟨(h.ge g (own.mk (id:=id) (s:=s) (by rw [A,N]))).1,fun t=>(k g t).2 s (by rw [A,N])⟩) (γ.set id none);have mv:∀ {av v},Rep w (Sg cx.S0 cx.w0.heap.size γ) γ av v->Rep w (Sg cx.S0 cx.w0.heap.size (γ.set id none)) (γ.set id none) (av.frz id sz xs) v:=fun D =>
  (D.mono (aB _) (fun b q _=>⟨rfl,hS b q⟩)).frz (fun i x hi C=>by rw [aO _ _ _ hi];exact C) A (aG _ _ _) (fun v D=>by rw [D _ _ hs E.sl_tup];exact E)
 unfold Oper.wp;rw [My t ab J.1];show Calls _ _ _ _ _;have H:avs.length=(C8 σ args p).length:=by rw [<-ha,AV.frzL_length]
 refine (J.2 (Sg cx.S0 cx.w0.heap.size (γ.set id none)) w _ ⟨by rw [H];exact W,fun i hi=>?_⟩).mono ?_
 ·have I:i<(C8 σ args p).length:=by omega
  have e:avs[i]=(C8 σ args p)[i].frz id sz xs:=by
   have:(AV.frzL id sz xs (C8 σ args p))[i]'(by rw [AV.frzL_length];exact I)=avs[i]:=by simp only [ha]
   rw [<-this,AV.frzL_at]
  have:=mv (hr i I);rw [<-e] at this;exact this.close (AV.closedL_at ac i hi)
 rintro e w' ⟨v,rfl,⟨q,aa⟩,D⟩;refine hK _ _ ⟨γ.set id none,h.step (γ':=γ.set id none) (C2 hd) q.size (fun b n u=>⟨q.block b u,hS b n⟩) N (fun i hi=>?_) (fun i e hi=>?_) (fun i j b s s' hi B mi mj=>?_) (fun b M=>⟨(h.ge b (k b M).1).1,aY (h.ge b (k b M).1).2 q.size⟩) (h.below.trans (q.mono h.below.size)) ?_ (fun b U u=>⟨q.block b u,fun t=>U (k b t).1⟩) aa⟩
 ·have z:i≠id:=fun e=>by subst e;simp [lkE] at hi
  exact ⟨aO _ _ _ z,fun g s Y V=>q.block g (h.ge g ⟨i,s,Y,V⟩).2⟩
 ·have z:i=id:=by have:=D6 hi;simpa using this
  subst z;simp only [lkE,Nat.beq_refl,Option.some.injEq] at hi;subst hi;exact ⟨none,aG _ _ _,rfl⟩
 ·have m:i≠id:=fun e=>by subst e;rw [aG] at hi;injection hi with hi;subst hi;simp [blks] at mi
  have X:j≠id:=fun e=>by subst e;rw [aG] at B;injection B with B;subst B;simp [blks] at mj
  rw [aO _ _ _ m] at hi;rw [aO _ _ _ X] at B;exact h.inj _ _ _ _ _ hi B mi mj
 ·refine (D.mono (aB _) (fun b n _=>⟨rfl,?_⟩)).open_;rcases n with ⟨_,n⟩|n
  ·exact n
  ·exact aC ⟨⟨bI h.below.size n,fun h0=>by have:=h.gh _ h0;omega⟩,fun T=>by have:=(h.ge b (k b T).1).2;omega⟩
theorem zgk {T Ti d e esz eb:Nat}{x y:Operand}{i ie it:TyI}{k kn:IntKind}{n:Int}{m:Nat}(Z:o.op=.call { callee:=.builtin .append,args:=#[x,y],argTypes:=#[T,Ti] })(A:o.dst=some d)(hd:dok cx o=true)(ac:A4 x=true)(ab:A4 y=true)(O:σ.eval x=.nils)(hy:σ.eval y=.int k n)
  (hT:lkT cx.E.tab T=some i) (hs:i.shape=.slc e esz eb) (ar:lkT cx.E.tab Ti=some it) (af:it.shape=.int kn) (he:lkT cx.E.tab e=some ie) (hz:esz≠0) (aa:Jh ie=true) (z:ie.zero.cells.all (·.oneCell')=true) (hn:σ.find d=none) (hm:n=(m:Int)) (h0:0<n) (h1:m<=1099511627776) (h2:ie.bytes*m<=281474976710656) :
  Ah cx o σ (.row d) [d] [(d,.row e esz (replicate m (Da ie)))]:=by
 refine ⟨fun id e he=>D6 he,fun τ q1 q2 a w Q K ⟨γ,E⟩ hK=>C6 (fun c hc=>by rw [Z] at hc;cases hc) ?_⟩;have ex:=E.ev x ac;rw [q1 x (by simp [Z,Op.operands,Call.operands]),O] at ex;have ey:=E.ev y ab;rw [q1 y (by simp [Z,Op.operands,Call.operands]),hy] at ey;obtain ⟨hu,aq,_⟩:=Cu (cx.E.ok T i hT) hs;have ae:cx.P.underlying Ti=some (.int kn):=by
  obtain ⟨dd,an,G⟩:=(cx.E.ok Ti it ar).und;rw [af] at G;cases dd<;>simp only [Dq,reduceCtorEq,E3.int.injEq] at G;subst G;exact an
 have W:=cx.E.ok e ie he;obtain ⟨info,hi,al,ak,aj⟩:=W.both;have D:ie.sz=esz:=W.cells.symm.trans aq;obtain ⟨N,M⟩:=zae aa;subst hm;have ag:0<m:=by omega
 have h:=Lib.run_append_nil_zeros (P:=cx.P) w T Ti o.type e info ie.zero k kn hu ae hi aj m ag (by rw [al,D];omega) (by omega) (by rw [ak,bJ];exact h2);generalize C:grownCap w m 0 e=f at h;have I:m<=f:=by rw [<-C];exact grownCap_ge _ _ _ _
 have H:f<=maxLen:=by rw [<-C];exact grownCap_le_maxLen _ _ _ _ (by unfold maxLen;omega)
 generalize B:Builtin.zeroCells ie.zero.cells m++Builtin.zeroCells ie.zero.cells (f-m)=t at h;have b:ie.zero.cells.size=esz:=M.trans D;have ao:t.size=f*esz:=by
  rw [<-B,Array.size_append,size_zeroCells,size_zeroCells,b,<-Nat.add_mul];congr 1;omega
 have am:(execOp a.eval o).run cx.P w=.ok (.value (.slice (some ⟨w.heap.size,0,none⟩) m f)) (w.drew.alloc (.cells t e)):=by
  simp only [execOp,Z,resolve,invoke,builtin,Sem.run_bind,Sem.run_pure,Result.andThen_ok,map_toArray,map_cons,map_nil,ex.nils_inv,ey.int_inv,h]
 unfold Oper.wp;rw [am];refine hK _ _ ?_;rw [A];have ap:(Da ie).cells.length=esz:=by rw [N,length_map,aH,M,D]
 have ad:t.toList.take (m*esz)=(madeCells ie.zero.cells (m*esz)).toList:=by
  rw [<-B,Array.toList_append,take_append_of_le_length (by rw [aH,size_zeroCells,b];exact aB _),take_of_length_le (by rw [aH,size_zeroCells,b];exact aB _)];unfold Builtin.zeroCells madeCells;rw [b]
 have V:(w.drew.alloc (.cells t e)).ownsRow w.heap.size e esz (.slice (some ⟨w.heap.size,0,none⟩) m f) m (madeCells ie.zero.cells (m*esz)).toList :=
  ⟨by simp [size_madeCells],aC ⟨w.heap.size,f,t,rfl,aB _,(MapKept.heap_alloc w.drew _).1,I,H,ao,ad⟩⟩
 have X:∀ q j,q<m->j<esz->(madeCells ie.zero.cells (m*esz)).toList.getD (q*esz+j) undef=ie.zero.cells.getD j undef:=fun q j J hj=>by
  have ah:q*esz+j<m*esz:=by
   have:(q+1)*esz<=m*esz:=Nat.mul_le_mul_right _ J;rw [Nat.succ_mul] at this;omega
  have p:(q*esz+j) % ie.zero.cells.size=j:=by
   rw [b,bJ,Nat.mul_add_mod,Nat.mod_eq_of_lt hj]
  rw [getD_eq_getElem?_getD];have F:j<ie.zero.cells.size:=by omega
  simp [madeCells,ah,p,aP,F]
 have Y:∀ v∈ie.zero.cells,v.oneCell'=true:=by
  rw [Array.all_eq_true_iff_forall_mem] at z;exact z
 refine Wy (v:=.slice (some ⟨w.heap.size,0,none⟩) m f) (us:=(madeCells ie.zero.cells (m*esz)).toList) E (fun _=>Nat.le_succ _) (by rw [q2 d (by simp),hn]) (fun x O=>by injection O with O;subst O;exact C2 hd _ A) (((Below.refl _ _).drew).alloc (aB _) _)
  (by rw [length_replicate];exact V) (fun q J=>by rw [aS];exact ap) (fun q J j hj=>?_) (fun u hu=>?_)
  (fun hS=>.row (aG _ _ _) (fun g s e _=>by injection e with e;injection e with _ e))
 ·have R:q<m:=by simpa using J
  rw [aS] at hj;have F:j<esz:=by omega
  rw [X q j R F];simp only [aS,N,bB];have ai:j<ie.zero.cells.size:=by omega
  have:ie.zero.cells.getD j undef=ie.zero.cells[j]:=by simp [aP,ai]
  rw [this];simpa using N7 _ _ _ (ie.zero.cells[j])
 ·obtain ⟨q,J,rfl⟩:=mem_iff_getElem.1 hu;have R:q<m*esz:=by simpa [size_madeCells] using J
  have U:0<ie.zero.cells.size:=by omega
  have p:=Nat.mod_lt q U;simp only [madeCells,Array.toList_map,bB,aW,Array.getElem_range];rw [getElem!_pos ie.zero.cells _ p];exact Y _ (Array.getElem_mem _)
end
open Go.RowKit
abbrev MeSt (cx:Cx)(γ:Gam)(me:List (Nat×Ent))(w:World):Prop:=StG cx γ ⟨[],me⟩ ⟨#[],[]⟩ w
def Cx.sub (cx:Cx)(γ γc:Gam)(w:World):Cx:=⟨{ cx.E with np:=0 },fun b=>cx.S0 b\/(own γ b/\¬own γc b),cx.w0,0,fun _=>False,w,none,#[],fun _=>rfl⟩
def memL (ρ:Nat->Nat)(ids:List Nat)(j:Nat):Option Nat:=ids.find? fun i=>aJ (ρ i) j
variable {ρ:Nat->Nat}{ids:List Nat}{j:Nat}
theorem Mv {i:Nat}(h:memL ρ ids j=some i):i∈ids/\ρ i=j:=by
 have h1:=mem_of_find?_eq_some h;have b:=find?_some h;exact ⟨h1,aA b⟩
theorem zwt (h:memL ρ ids j=none):∀ i∈ids,ρ i≠j:=fun i hi e=>by
 have:=find?_eq_none.1 h i hi;simp [e] at this
theorem zwu {i:Nat}(b:injB ρ ids=true)(hi:i∈ids):memL ρ ids (ρ i)=some i:=by
 cases h:memL ρ ids (ρ i) with
 |none=>exact absurd rfl (zwt h i hi)
 |some k =>
  obtain ⟨h1,e⟩:=Mv h;simp only [injB,aM,aU,aR] at b;rcases b k h1 i hi with c|c
  ·rw [e] at c;simp at c
  ·rw [aA c]
section
variable {cx:Cx} {γ:Gam} {τ:AS} {a:Act} {w:World}
theorem StG.own_ge (h:StG cx γ τ a w){b:Nat}(c:own γ b):cx.w0.heap.size<=b/\¬cx.S0 b/\b<w.heap.size:=⟨(h.ge b c).1.1,(h.ge b c).1.2,(h.ge b c).2⟩
variable {me:List (Nat×Ent)}
theorem StG.part (h:StG cx γ τ a w)(C:injB ρ (me.map (·.1))=true)(K:LeE τ ρ (me.map (·.1)) me) :
  ∃ γc:Gam,(∀ i∈me.map (·.1),γc i=γ (ρ i))/\(∀ i,i ∉ me.map (·.1)->γc i=none)/\(∀ b,own γc b->own γ b) /\
   (∀ b,Sg (Cx.sub cx γ γc w).S0 cx.w0.heap.size γc b ↔ Sg cx.S0 cx.w0.heap.size γ b)/\MeSt (Cx.sub cx γ γc w) γc me w:=by
 generalize H:me.map (·.1)=ids at *;have B:∀ i,lkE me i≠none ↔ i∈ids:=fun i=>by rw [Mz,H]
 let γc:Gam:=fun i=>if i∈ids then γ (ρ i) else none
 have n:∀ i,i∈ids->γc i=γ (ρ i):=fun i hi=>if_pos hi
 have m:∀ i,i ∉ ids->γc i=none:=fun i hi=>if_neg hi
 have f:∀ b,own γc b->own γ b:=fun b ⟨i,s,hi,c⟩=>by
  by_cases hm:i∈ids
  ·rw [n i hm] at hi;exact ⟨_,s,hi,c⟩
  ·rw [m i hm] at hi;cases hi
 have z:∀ b,Sg (Cx.sub cx γ γc w).S0 cx.w0.heap.size γc b ↔ Sg cx.S0 cx.w0.heap.size γ b:=fun b=>by
  constructor
  ·rintro (⟨h1|⟨h1,_⟩,q⟩|⟨⟨h1,q⟩,N⟩)
   ·exact aD ⟨h1,q⟩
   ·have:=(h.own_ge h1).1;omega
   ·exact aC ⟨⟨h1,fun A=>q (aD A)⟩,fun A=>q (aC ⟨A,N⟩)⟩
  ·rintro (⟨h1,q⟩|⟨⟨h1,q⟩,N⟩)
   ·exact aD ⟨aD h1,q⟩
   ·exact aC ⟨⟨h1,fun A=>A.elim q (fun U=>N U.1)⟩,fun A=>N (f b A)⟩
 have F:∀ {g:Gam} {av v},Rep w (Sg cx.S0 cx.w0.heap.size γ) g av v->Rep w (Sg (Cx.sub cx γ γc w).S0 cx.w0.heap.size γc) g av v:=fun h=>h.mono (aB _) (fun b c _=>⟨rfl,(z b).2 c⟩)
 refine ⟨γc,n,m,f,z,fun t=>.any _,fun i=>?_,fun i j b s s' hi D mi mj=>?_,fun b c=>?_,h.below,rfl,⟨fun _=>rfl,⟨[],rfl,.nil,fun r E=>by cases E⟩,fun t X=>absurd X (aV _),fun l R Z=>?_,aB _⟩,fun b c=>?_,fun b c=>c.elim,h.dr⟩
 ·rcases K.get i with J|⟨e,J,hf,hm⟩
  ·unfold AS.find;rw [J];have:i ∉ ids:=fun hi=>(B i).2 hi J
   exact if_neg this
  ·unfold AS.find;rw [J];have hi:i∈ids:=(B i).1 (by rw [J];simp);rw [n i hi];have:=h.me (ρ i);rw [hf] at this;obtain ⟨x,W,y⟩:=this;refine ⟨x,W,?_⟩;cases e with
   |box ty cs =>
    obtain ⟨g,vs,I,c,T,E,u⟩:=y;simp only [Ent.inM] at hm;refine ⟨g,vs,I,c,by rw [T,aE],fun k M=>F ((E k (by rw [aE];exact M)).ren n _ (bF _ _ _ _) (bG hm k M)),u⟩
   |row ty sz xs =>
    obtain ⟨s,vs,I,h1,f,G,E,u⟩:=y;exact ⟨s,vs,I,h1,f,G,fun k M j D=>F (E k M j D),u⟩
   |mp ps =>
    obtain ⟨g,I,hm⟩:=y;exact ⟨g,I,hm.move (aB _) (fun b c _=>⟨rfl,(z b).2 c⟩) rfl⟩
   |nest ty es=>exact Bj.nest_mono y (fun b c=>(z b).2 c)
   |mpn ps=>exact Bj.mpn_mono y (fun b c=>(z b).2 c)
   |are ty idx os=>exact y.gmono (fun _ _ h=>by cases h) (fun b c=>(z b).2 c)
   |it ps=>exact y.gmono (fun _ _ h=>by cases h) (fun b c=>(z b).2 c)
   |itp ps=>exact y.gmono (fun _ _ h=>by cases h) (fun b c=>(z b).2 c)
   |itc p ps=>exact y.gmono (fun _ _ h=>by cases h) (fun b c=>(z b).2 c)
   |dead=>exact y
 ·by_cases h1:i∈ids
  ·by_cases K:j∈ids
   ·rw [n i h1] at hi;rw [n j K] at D;have e:=h.inj _ _ _ _ _ hi D mi mj;simp only [injB,aM,aU,aR] at C;rcases C i h1 j K with q|q
    ·rw [e] at q;simp at q
    ·exact aA q
   ·rw [m j K] at D;cases D
  ·rw [m i h1] at hi;cases hi
 ·obtain ⟨Q,P,O⟩:=h.own_ge (f b c);exact ⟨⟨Q,fun A=>A.elim P (fun U=>U.2 c)⟩,O⟩
 ·obtain ⟨V,Q,P,O⟩:=h.defers.yl l R Z;exact ⟨V,Q,fun Y=>P (f l Y),O⟩
 ·rcases c with c|⟨c,_⟩
  ·exact h.gh b c
  ·exact (h.own_ge c).2.2
def wrG (ρ':Nat->Nat)(me':List (Nat×Ent))(dead:List Nat):List (Nat×Ent):=me'.map (fun x=>(ρ' x.1,x.2.renI ρ'))++dead.map fun i=>(i,.dead)
def Sj:List Nat->Bool |[]=>true |x::r=>!memB x r && Sj r
variable {l:List (Nat×Ent)}
theorem zwz (h:Sj (l.map (·.1))=true):∀ x∈l,lkE l x.1=some x.2:=by
 induction l with
 |nil=>intro x b;cases b
 |cons y r ih =>
  obtain ⟨u,e⟩:=y;simp only [map_cons,Sj,Bool.and_eq_true,aR] at h;intro x b;rcases mem_cons.1 b with rfl|b
  ·simp [lkE]
  ·have c:¬u=x.1:=fun e=>by
    have:memB u (r.map (·.1))=true:=(Dh _ _).2 (by rw [e];exact aK.2 ⟨x,b,rfl⟩);rw [h.1] at this;cases this
   have g:aJ u x.1=false:=by
    cases f:aJ u x.1 with
    |true=>exact absurd (aA f) c
    |false=>rfl
   simp only [lkE,g];exact ih h.2 x b
theorem Sn {i:Nat}{e:Ent}(h:lkE l i=some e):(i,e)∈l:=by
 induction l with
 |nil=>simp [lkE] at h
 |cons x r ih =>
  obtain ⟨u,c⟩:=x;simp only [lkE] at h;cases b:aJ u i with
  |true =>
   rw [b] at h;injection h with h
   rw [<-aA b,h];exact mem_cons_self ..
  |false=>rw [b] at h;exact mem_cons_of_mem _ (ih h)
variable {ρ':Nat->Nat}{me':List (Nat×Ent)}{dead:List Nat}
theorem wrG_get (k:Sj (me'.map (·.1))=true){e:Ent}(h:lkE (wrG ρ' me' dead) j=some e) :
  (∃ i m,lkE me' i=some m/\i∈me'.map (·.1)/\ρ' i=j/\e=m.renI ρ')\/((∀ i∈me'.map (·.1),ρ' i≠j)/\j∈dead/\e=.dead):=by
 unfold wrG at h;rw [zi7] at h;cases h1:lkE (me'.map fun x=>(ρ' x.1,x.2.renI ρ')) j with
 |some p =>
  rw [h1] at h;simp only [Option.some_or,Option.some.injEq] at h;subst h;obtain ⟨x,c,b⟩:=aK.1 (Sn h1);injection b with g f
  exact aD ⟨x.1,x.2,zwz k x c,aK.2 ⟨x,c,rfl⟩,g,f.symm⟩
 |none =>
  rw [h1] at h;simp only [Option.none_or] at h;obtain ⟨x,c,b⟩:=aK.1 (Sn h);injection b with g f
  refine aC ⟨fun i hi e=>?_,g▸c,f.symm⟩;obtain ⟨y,n,rfl⟩:=aK.1 hi;have:lkE (me'.map fun x=>(ρ' x.1,x.2.renI ρ')) j≠none:=by
   rw [Mz];exact aK.2 ⟨(ρ' y.1,y.2.renI ρ'),aK.2 ⟨y,n,rfl⟩,e⟩
  exact this h1
theorem zyn (h:lkE (wrG ρ' me' dead) j=none):(∀ i∈me'.map (·.1),ρ' i≠j)/\j ∉ dead:=by
 constructor
 ·intro i hi e;obtain ⟨y,b,rfl⟩:=aK.1 hi;have:lkE (wrG ρ' me' dead) j≠none:=by
   rw [Mz];unfold wrG;rw [map_append];exact aN _ (aK.2 ⟨(ρ' y.1,y.2.renI ρ'),aK.2 ⟨y,b,rfl⟩,e⟩)
  exact this h
 ·intro c;have:lkE (wrG ρ' me' dead) j≠none:=by
   rw [Mz];unfold wrG;rw [map_append];exact aT _ (aK.2 ⟨(j,.dead),aK.2 ⟨j,c,rfl⟩,rfl⟩)
  exact this h
def Hr (me me':List (Nat×Ent))(i:Nat):Bool:=match lkE me i,lkE me' i with
 |some (.box _ _),_=>true
 |some (.row _ _ _),some _=>true
 |_,_=>false
def zzw (τf:Nat->Option Ent)(ρ ρ':Nat->Nat)(me:List (Nat×Ent))(i:Nat):Bool:=match lkE me i,τf (ρ' i) with
 |some (.box _ _),_=>aJ (ρ' i) (ρ i)
 |some (.row _ _ _),_=>aJ (ρ' i) (ρ i)
 |_,none=>true
 |_,_=>false
theorem StG.join (h:StG cx γ τ a w){γc γc':Gam}{w':World}{dst:Option Nat}{u:Value}{res:AV}(ac:injB ρ (me.map (·.1))=true)(Z:∀ i∈me.map (·.1),γc i=γ (ρ i))(ai:∀ i,i ∉ me.map (·.1)->γc i=none)
  (C:MeSt (Cx.sub cx γ γc w) γc' me' w') (hz:w.heap.size<=w'.heap.size) (aj:∀ i,Hr me me' i=true->γc' i=γc i) (ag:∀ b,¬own γc b->b<w.heap.size->w'.heap[b]? = w.heap[b]? /\ ¬own γc' b) (ar:cx.E.dr=true->w.drawn<=w'.drawn)
  (hd:∀ x,dst=some x->cx.E.np<=x/\x<cx.nt) (am:Sj (me'.map (·.1))=true) (X:injB ρ' (me'.map (·.1))=true) (ad:me'.all (fun x=>x.2.inM (me'.map (·.1)))=true) (G:(me'.map (·.1)).all (zzw τ.find ρ ρ' me)=true)
  (R:(me.map (·.1)).all (fun i=>memB (ρ i) dead || (me'.map (·.1)).any fun k=>aJ (ρ' k) (ρ i))=true) (H:dead.all (fun j=>(me.map (·.1)).any fun i=>aJ (ρ i) j)=true)
  (hu:Rep w' (Sg (Cx.sub cx γ γc w).S0 cx.w0.heap.size γc') γc' res u) (aa:res.inM (me'.map (·.1))=true) :
  ∃ γ',StG cx γ' (τ.upd dst (res.ren ρ') (wrG ρ' me' dead)) (a.put dst u) w':=by
 generalize ae:me.map (·.1)=ids at *;generalize q:me'.map (·.1)=c at *;have W:∀ i,lkE me' i≠none ↔ i∈c:=fun i=>by rw [Mz,q]
 let γ':Gam:=fun j=>match memL ρ' c j with|some i=>γc' i|none=>(match memL ρ ids j with|some _=>some none|none=>γ j)
 have F1:∀ i∈c,γ' (ρ' i)=γc' i:=fun i hi=>by
  show (match memL ρ' c (ρ' i) with|some i=>γc' i|none=>_)=_;rw [zwu X hi]
 have F2:∀ j,(∀ i∈c,ρ' i≠j)->(∃ i∈ids,ρ i=j)->γ' j=some none:=fun j h1 ⟨i,hi,e⟩=>by
  show (match memL ρ' c j with|some i=>γc' i|none=>_)=_;have e1:memL ρ' c j=none:=by
   cases K:memL ρ' c j with
   |none=>rfl
   |some k=>exact absurd (Mv K).2 (h1 k (Mv K).1)
  rw [e1];subst e;show (match memL ρ ids (ρ i) with|some _=>some none|none=>γ (ρ i))=_;rw [zwu ac hi]
 have F3:∀ j,(∀ i∈c,ρ' i≠j)->(∀ i∈ids,ρ i≠j)->γ' j=γ j:=fun j h1 y=>by
  show (match memL ρ' c j with|some i=>γc' i|none=>_)=_;have e1:memL ρ' c j=none:=by
   cases K:memL ρ' c j with
   |none=>rfl
   |some k=>exact absurd (Mv K).2 (h1 k (Mv K).1)
  have e2:memL ρ ids j=none:=by
   cases K:memL ρ ids j with
   |none=>rfl
   |some k=>exact absurd (Mv K).2 (y k (Mv K).1)
  rw [e1];show (match memL ρ ids j with|some _=>some none|none=>γ j)=_;rw [e2]
 have T:∀ b,own γc b->own γ b:=fun b ⟨i,s,hi,m⟩=>by
  by_cases hm:i∈ids
  ·rw [Z i hm] at hi;exact ⟨_,s,hi,m⟩
  ·rw [ai i hm] at hi;cases hi
 -- what another name owns is not given
 have n:∀ j b s,(∀ i∈ids,ρ i≠j)->γ j=some s->b∈blks s->¬own γc b:=fun j b s f m au ⟨i,s',hi,ao⟩=>by
  by_cases hm:i∈ids
  ·rw [Z i hm] at hi;exact f i hm (h.inj _ _ _ _ _ hi m ao au)
  ·rw [ai i hm] at hi;cases hi
 have t:∀ j,(∃ i∈c,ρ' i=j)\/((∀ i∈c,ρ' i≠j)/\((∃ i∈ids,ρ i=j)\/∀ i∈ids,ρ i≠j)):=fun j=>by
  by_cases h1:∃ i∈c,ρ' i=j
  ·exact aD h1
  ·refine aC ⟨fun i hi e=>h1 ⟨i,hi,e⟩,?_⟩;by_cases y:∃ i∈ids,ρ i=j
   ·exact aD y
   ·exact aC (fun i hi e=>y ⟨i,hi,e⟩)
 have z:∀ b,own γ' b->own γc' b\/(own γ b/\¬own γc b):=fun b ⟨j,s,f,hm⟩=>by
  rcases t j with ⟨i,hi,rfl⟩|⟨h1,y|y⟩
  ·rw [F1 i hi] at f;exact aD ⟨i,s,f,hm⟩
  ·rw [F2 j h1 y] at f;injection f with f;subst f;simp [blks] at hm
  ·rw [F3 j h1 y] at f;exact aC ⟨⟨j,s,f,hm⟩,n j b s y f hm⟩
 have U:∀ b,¬own γ b->b<w.heap.size->w'.heap[b]? = w.heap[b]? /\ ¬own γ' b:=fun b m O=>by
  obtain ⟨q1,q2⟩:=ag b (fun D=>m (T b D)) O;exact ⟨q1,fun D=>(z b D).elim q2 (fun h=>m h.1)⟩
 have N:∀ b,Sg (Cx.sub cx γ γc w).S0 cx.w0.heap.size γc' b->Sg cx.S0 cx.w0.heap.size γ' b:=by
  rintro b (⟨h1|⟨h1,_⟩,h3⟩|⟨⟨h1,h3⟩,h4⟩)
  ·exact aD ⟨h1,h3⟩
  ·have:=(h.own_ge h1).1;omega
  ·exact aC ⟨⟨h1,fun h5=>h3 (aD h5)⟩,fun D=>(z b D).elim h4 (fun h6=>h3 (aC h6))⟩
 have Q:∀ b,Sg cx.S0 cx.w0.heap.size γ b->¬own γ b:=fun b N D=>by
  rcases N with ⟨_,h1⟩|⟨_,h1⟩
  ·have:=(h.own_ge D).1;omega
  ·exact h1 D
 have V:∀ {g:Gam} {av v},Rep w' (Sg (Cx.sub cx γ γc w).S0 cx.w0.heap.size γc') g av v->Rep w' (Sg cx.S0 cx.w0.heap.size γ') g av v:=fun h=>h.mono (aB _) (fun b m _=>⟨rfl,N b m⟩)
 simp only [aM] at ad G R H;have P:∀ i∈c,(Hr me me' i=true/\i∈ids/\ρ' i=ρ i)\/τ.find (ρ' i)=none:=fun i hi=>by
  have E:=G i hi;have al:=(W i).2 hi;have af:lkE me i≠none->i∈ids:=fun m=>by rw [<-ae];exact Mz.1 m
  unfold zzw at E;split at E
  ·rename_i ty es m;exact aD ⟨by unfold Hr;rw [m],af (by rw [m];simp),aA E⟩
  ·rename_i ty sz xs m;refine aD ⟨?_,af (by rw [m];simp),aA E⟩;unfold Hr;cases K:lkE me' i with
   |none=>exact absurd K al
   |some e=>rw [m]
  ·first|(rename_i Y _ _;exact aC Y)|(rename_i Y _;exact aC Y)|(rename_i _ _ Y;exact aC Y)|(rename_i Y;exact aC Y)
  ·cases E
 refine ⟨γ',h.step (γ':=γ') hd hz (fun b m O=>⟨(U b (Q b m) O).1,?_⟩) (fun j x f=>?_) (fun j f=>?_) (fun j e f=>?_) (fun i j b s s' hi f mi mj=>?_) (fun b m=>?_) C.below ?_ U ar⟩
 ·have hn:=(U b (Q b m) O).2;rcases m with m|⟨h1,_⟩
  ·exact aD m
  ·exact aC ⟨h1,hn⟩
 ·rcases t j with ⟨i,hi,rfl⟩|⟨h1,y|y⟩
  ·rcases P i hi with ⟨m,ap,e⟩|hn
   ·left;rw [F1 i hi,aj i m,Z i ap,<-e];exact f
   ·have:=h.me (ρ' i);rw [hn] at this;rw [show γ (ρ' i)=none from this] at f;cases f
  ·exact aC (aD (F2 j h1 y))
  ·exact aD (by rw [F3 j h1 y];exact f)
 ·obtain ⟨h1,y⟩:=zyn f;rw [q] at h1;have h3:∀ i∈ids,ρ i≠j:=fun i hi e=>by
   have hc:=R i hi;rw [aU] at hc;rcases hc with hc|hc
   ·exact y (by rw [<-e];exact (Dh _ _).1 hc)
   ·obtain ⟨k,E,an⟩:=bC.1 hc;exact h1 k E ((aA an).trans e)
  refine ⟨F3 j h1 h3,fun g s hg hm=>(ag g (n j g s h3 hg hm) (h.ge g ⟨j,s,hg,hm⟩).2).1⟩
 ·rcases wrG_get (by rw [q];exact am) f with ⟨i,e0,ah,hi,rfl,rfl⟩|⟨h1,y,rfl⟩
  ·rw [q] at hi;have:=C.me i;unfold AS.find at this;rw [ah] at this;obtain ⟨x,hx,M⟩:=this;refine ⟨x,by rw [F1 i hi];exact hx,?_⟩;have hm:=ad (i,e0) (Sn ah);cases e0 with
   |box ty cs =>
    obtain ⟨g,vs,I,m,ak,hr,F⟩:=M;simp only [Ent.inM] at hm;refine ⟨g,vs,I,m,by rw [ak,aE],fun k E=>?_,F⟩;have A:=E;rw [aE] at A;rw [bF ρ' _ k A];exact V ((hr k A).renF F1 (bG hm k A))
   |row ty sz xs =>
    obtain ⟨s,vs,I,h1,z,ab,hr,F⟩:=M;exact ⟨s,vs,I,h1,z,ab,fun k E j f=>V (hr k E j f),F⟩
   |mp ps =>
    obtain ⟨g,I,hm⟩:=M;exact ⟨g,I,hm.move (aB _) (fun b m _=>⟨rfl,N b m⟩) rfl⟩
   |nest ty es=>exact Bj.nest_mono M N
   |mpn ps=>exact Bj.mpn_mono M N
   |are ty idx os=>exact M.gmono (fun _ _ h=>by cases h) N
   |it ps=>exact M.gmono (fun _ _ h=>by cases h) N
   |itp ps=>exact M.gmono (fun _ _ h=>by cases h) N
   |itc p ps=>exact M.gmono (fun _ _ h=>by cases h) N
   |dead=>exact M
  ·rw [q] at h1;obtain ⟨i,hi,aq⟩:=bC.1 (H j y);exact ⟨none,F2 j h1 ⟨i,hi,aA aq⟩,rfl⟩
 ·rcases t i with ⟨k,E,rfl⟩|⟨h1,y|y⟩
  ·rw [F1 k E] at hi;rcases t j with ⟨k',A,rfl⟩|⟨J,B|B⟩
   ·rw [F1 k' A] at f;rw [C.inj _ _ _ _ _ hi f mi mj]
   ·rw [F2 j J B] at f;injection f with f;subst f;simp [blks] at mj
   ·rw [F3 j J B] at f;exact absurd (aC ⟨⟨j,s',f,mj⟩,n j b s' B f mj⟩) (C.ge b ⟨k,s,hi,mi⟩).1.2
  ·rw [F2 i h1 y] at hi;injection hi with hi;subst hi;simp [blks] at mi
  ·rw [F3 i h1 y] at hi;rcases t j with ⟨k',A,rfl⟩|⟨J,B|B⟩
   ·rw [F1 k' A] at f;exact absurd (aC ⟨⟨i,s,hi,mi⟩,n i b s y hi mi⟩) (C.ge b ⟨k',s',f,mj⟩).1.2
   ·rw [F2 j J B] at f;injection f with f;subst f;simp [blks] at mj
   ·rw [F3 j J B] at f;exact h.inj _ _ _ _ _ hi f mi mj
 ·rcases z b m with D|⟨D,_⟩
  ·have:=C.ge b D;exact ⟨⟨this.1.1,fun h5=>this.1.2 (aD h5)⟩,this.2⟩
  ·exact ⟨(h.ge b D).1,aY (h.ge b D).2 hz⟩
 ·exact V (hu.renF F1 aa)
end
open Go.RowKit
abbrev CalT:=Array Value->Array Value->World->(Ending->World->Prop)->Prop
def CalF (P:Program)(f k:Nat):CalT:=fun vs cs w R=>cs.size=k->Calls P f (vs++cs) w R
def CalY (P:Program)(l:Nat):CalT:=fun vs cs w R=>YieldAt Fence.wide 0 P l vs w R
def ConG (P:Program)(yl:Option (Nat×Obj))(C:CalT)(args caps:List AV)(me:List (Nat×Ent))(res:AV)(me':List (Nat×Ent)):Prop:=∀ (cx:Cx) (γ:Gam) (w:World) (vs cs:Array Value),cx.E.P=P->cx.E.dr=false->(∀ x,yl=some x->cx.E.yl=some x)->cx.nt=0->cx.E.np=0->MeSt cx γ me w->vs.size=args.length -> (∀ i (hi:i<args.length),Rep w (Sg cx.S0 cx.w0.heap.size γ) γ args[i] (vs.getD i undef))->(∀ i (hi:i<caps.length),Rep w (Sg cx.S0 cx.w0.heap.size γ) γ caps[i] (cs.getD i undef)) -> C vs cs w fun e w'=>∃ u γ',e=.returned u/\MeSt cx γ' me' w'/\Rep w' (Sg cx.S0 cx.w0.heap.size γ') γ' res u/\w.heap.size<=w'.heap.size/\(∀ i,Hr me me' i=true->γ' i=γ i) /\ (∀ b,¬own γ b->b<w.heap.size->w'.heap[b]? = w.heap[b]? /\ ¬own γ' b)
variable {σ:AS}{l:List (Nat×Ent)}
theorem LeE.congr {τ:AS}(h:LeE σ ρ ids l)(c:∀ i∈l.map (·.1),τ.find (ρ i)=σ.find (ρ i)):LeE τ ρ ids l:=by
 induction l with
 |nil=>trivial
 |cons x r ih =>
  obtain ⟨i,e⟩:=x;simp only [LeE] at h ⊢;exact ⟨⟨(c i (by simp)).trans h.1.1,h.1.2⟩,ih h.2 (fun j b=>c j (by simp at b ⊢;exact aC b))⟩
def LeF (find:Nat->Option Ent)(ρ:Nat->Nat)(ids:List Nat):List (Nat×Ent)->Prop |[]=>True |(i,e)::r=>(find (ρ i)=some (e.renI ρ)/\e.inM ids=true)/\LeF find ρ ids r
theorem LeF.le (h:LeF σ.find ρ ids l):LeE σ ρ ids l:=by
 induction l with
 |nil=>trivial
 |cons x r ih=>exact ⟨h.1,ih h.2⟩
structure D2 (find:Nat->Option Ent) (ρ ρ':Nat->Nat) (me me':List (Nat×Ent)) (res:AV) (dead:List Nat):Prop where
 inj:injB ρ (me.map (·.1))=true
 nd:Sj (me'.map (·.1))=true
 inj':injB ρ' (me'.map (·.1))=true
 hin:me'.all (fun x=>x.2.inM (me'.map (·.1)))=true
 keep:(me'.map (·.1)).all (zzw find ρ ρ' me)=true
 cov:(me.map (·.1)).all (fun i=>memB (ρ i) dead || (me'.map (·.1)).any fun k=>aJ (ρ' k) (ρ i))=true
 dd:dead.all (fun j=>(me.map (·.1)).any fun i=>aJ (ρ i) j)=true
 res:res.inM (me'.map (·.1))=true
def idsG (ρ ρ':Nat->Nat)(me me':List (Nat×Ent)):List Nat:=(me.map (·.1)).map ρ++(me'.map (·.1)).map ρ'
variable {ρ':Nat->Nat}{me me':List (Nat×Ent)}{res:AV}{dead:List Nat}
theorem zvd {find:Nat->Option Ent}(h:D2 find ρ ρ' me me' res dead)(id:Nat)(e:Ent)(c:lkE (wrG ρ' me' dead) id=some e):id∈idsG ρ ρ' me me':=by
 rcases wrG_get h.nd c with ⟨i,_,_,hi,rfl,_⟩|⟨_,f,_⟩
 ·exact aT _ (aL hi)
 ·have:=aM.1 h.dd id f;obtain ⟨i,hi,b⟩:=bC.1 this;rw [<-aA b];exact aN _ (aL hi)
theorem D2.congr {f g:Nat->Option Ent}(h:D2 f ρ ρ' me me' res dead)(c:∀ id∈idsG ρ ρ' me me',g id=f id):D2 g ρ ρ' me me' res dead:=by
 refine ⟨h.inj,h.nd,h.inj',h.hin,?_,h.cov,h.dd,h.res⟩;have b:=h.keep;rw [aM] at b ⊢;intro i hi;have:=b i hi;unfold zzw at this ⊢;rw [c (ρ' i) (aT _ (aL hi))];exact this
section
variable {cx:Cx} {σ:AS} {o:Oper}
theorem zqn {γc:Gam}{τ:AS}{a:Act}{w':World}{dst:Option Nat}{u:Value}{γ':Gam}(f:StG cx γ τ a w)(c:D2 τ.find ρ ρ' me me' res dead)(e:cx.E.dr=false)
  (m:∀ x,dst=some x->cx.E.np<=x/\x<cx.nt) (k:∀ i∈me.map (·.1),γc i=γ (ρ i)) (g:∀ i,i ∉ me.map (·.1)->γc i=none)
  (h1:MeSt (Cx.sub cx γ γc w) γ' me' w') (s:Rep w' (Sg (Cx.sub cx γ γc w).S0 cx.w0.heap.size γ') γ' res u) (q:w.heap.size<=w'.heap.size) (p:∀ i,Hr me me' i=true->γ' i=γc i)
  (n:∀ b,¬own γc b->b<w.heap.size->w'.heap[b]? = w.heap[b]? /\ ¬own γ' b):St cx (τ.upd dst (res.ren ρ') (wrG ρ' me' dead)) (a.put dst u) w' :=
 f.join c.inj k g h1 q p n (fun h=>absurd (e.symm.trans h) (by simp)) m c.nd c.inj' c.hin c.keep c.cov c.dd s c.res
theorem zdo {γc:Gam}{S':Nat->Prop}{l m:List AV}{vs:Nat->Value}(e:∀ i∈ids,γc i=γ (ρ i))(k:∀ b,S b->S' b)(f:bD ρ l=m)(c:bE ids l=true)
  (h:∀ i (hi:i<m.length),Rep w S γ m[i] (vs i)):∀ i (hi:i<l.length),Rep w S' γc l[i] (vs i):=fun i hi=>by
 subst f;have:=h i (by rw [aE];exact hi);exact ((this.ren e _ (bF _ _ _ _) (bG c i hi))).mono (aB _) (fun b g _=>⟨rfl,k b g⟩)
variable {x:Operand}{args:Array Operand}{tys:Array TypeId}{cargs:List AV}{yl:Option (Nat×Obj)}
theorem zry {f:Nat}{q:List AV}(A:o.op=.call { callee:=.value x,args:=args,argTypes:=tys })(hd:dok cx o=true)(v:A4 x=true)(z:args.toList.all A4=true)(X:σ.eval x=.fn f q)
  (he:Cc cx.E f) (g:cx.E.dr=false) (k:bD ρ cargs=C8 σ args q) (G:bE (me.map (·.1)) cargs=true) (E:LeE σ ρ (me.map (·.1)) me) (C:D2 σ.find ρ ρ' me me' res dead)
   (t:∀ x,yl=some x->cx.E.yl=some x) (s:ConG cx.P yl (CalF cx.P f 0) cargs [] me res me'):Ah cx o σ (res.ren ρ') (idsG ρ ρ' me me') (wrG ρ' me' dead):=by
 refine ⟨zvd C,fun τ h1 P a w Q K ⟨γ,h⟩ hK=>C6 (fun c s=>by rw [A] at s;cases s) ?_⟩;have m:o.op.operands=#[x]++args:=by simp [A,Op.operands,Call.operands]
 obtain ⟨caps,I,Z,Y⟩:=N6 h z v (fun y N=>h1 y (by rw [m];simp at N ⊢;exact aC N)) (h1 x (by rw [m];simp)) X;have n:LeE τ ρ (me.map (·.1)) me:=E.congr (fun i hi=>P _ (aN _ (aL hi)));have B:D2 τ.find ρ ρ' me me' res dead:=C.congr (fun id F=>P id F);obtain ⟨γc,p,J,O,hS,D⟩:=h.part C.inj n;unfold Oper.wp;rw [My A I he];show Calls _ _ _ _ _;have M:(args.map a.eval++caps).size=cargs.length:=by rw [Z,<-k,aE]
 have H:=s (Cx.sub cx γ γc w) γc w (args.map a.eval++caps) #[] rfl g t rfl rfl D M
  (zdo (γ:=γ) (S:=Sg cx.S0 cx.w0.heap.size γ) (vs:=fun i=>(args.map a.eval++caps).getD i undef) p (fun b hb=>(hS b).2 hb) k G Y) (fun i hi=>absurd hi (by simp)) rfl
 rw [aZ] at H;refine H.mono ?_;rintro e w' ⟨u,γ',rfl,W,V,U,T,R⟩;exact hK _ _ (zqn h B g (C2 hd) p J W V U T R)
theorem zgb {P:Program}{l:Nat}{a:Act}(c:o.op=.call { callee:=.value x,args:=args,argTypes:=tys })(b:a.eval x=.func (.yield l) #[] #[]) :
  (execOp a.eval o).run P w=(Instr.yield l (args.map a.eval)).run P w:=by
 simp only [execOp,c,resolve,b,Deferred.ofValue,invoke,Sem.run_bind,Sem.run_pure,Result.andThen_ok,Array.empty_append]
theorem zvn {l:Nat}{T:Array Value}{v ccaps:List AV}(G:o.op=.call { callee:=.value x,args:=args,argTypes:=tys })(hd:dok cx o=true)(C:A4 x=true)(E:args.toList.all A4=true)(hx:σ.eval x=.yld l T v)
  (k:cx.E.dr=false) (p:bD ρ cargs=args.toList.map σ.eval) (D:bD ρ ccaps=v) (U:bE (me.map (·.1)) cargs=true) (P:bE (me.map (·.1)) ccaps=true) (N:LeE σ ρ (me.map (·.1)) me) (J:D2 σ.find ρ ρ' me me' res dead)
   (B:∀ x,yl=some x->cx.E.yl=some x) (A:ConG cx.P yl (fun vs cs w R=>cs=T->CalY cx.P l vs cs w R) cargs ccaps me res me'):Ah cx o σ (res.ren ρ') (idsG ρ ρ' me me') (wrG ρ' me' dead):=by
 refine ⟨zvd J,fun τ h1 h2 a w Q K ⟨γ,f⟩ hK=>?_⟩;have q:o.op.operands=#[x]++args:=by simp [G,Op.operands,Call.operands]
 have aa:∀ y∈args.toList,τ.eval y=σ.eval y:=fun y z=>h1 y (by rw [q];simp at z ⊢;exact aC z)
 have t:=f.ev x C;rw [h1 x (by rw [q];simp),hx] at t;obtain ⟨W,hr⟩:=t.yld_inv;have s:LeE τ ρ (me.map (·.1)) me:=N.congr (fun i hi=>h2 _ (aN _ (aL hi)));have I:D2 τ.find ρ ρ' me me' res dead:=J.congr (fun id O=>h2 id O);obtain ⟨γc,m,X,ab,hS,M⟩:=f.part J.inj s;have Z:(args.map a.eval).size=cargs.length:=by rw [Array.size_map];have:=congrArg length p;rw [aE,length_map,aH] at this;exact this.symm
 have H:=A (Cx.sub cx γ γc w) γc w (args.map a.eval) T rfl k B rfl rfl M Z
  (zdo (γ:=γ) (S:=Sg cx.S0 cx.w0.heap.size γ) (vs:=fun i=>(args.map a.eval).getD i undef) m (fun b Y=>(hS b).2 Y) p U (fun i hi=>by
    have V:i<args.size:=by simpa using hi
    simp only [bB,aW];have e:(args.map a.eval).getD i undef=a.eval args[i]:=by simp [aP,V]
    rw [e,<-aa args[i] (by simp)];exact f.ev _ (aM.mp E _ (by simp))))
  (zdo (γ:=γ) (S:=Sg cx.S0 cx.w0.heap.size γ) (vs:=fun i=>T.getD i undef) m (fun b Y=>(hS b).2 Y) D P hr) rfl
 obtain ⟨fn,tmps,assign,body,z,g⟩:=H;refine ⟨fun _ _=>trivial,?_⟩;rw [Oper.semAt_eq _ _ _ (fun c A=>by rw [G] at A;cases A),zgb G W,z];refine ⟨fun h=>by simp [Fence.wide] at h,RoundIn.mono (F:=cx.F) (n:=0) (g:_) ?_⟩;rintro e w' ⟨u,γ',rfl,q1,q2,q3,q4,q5⟩;exact hK _ _ (zqn f I k (C2 hd) m X q1 q2 q3 q4 q5)
end
open Go.RowKit
abbrev recR (fn:FuncId)(T:Array Value)(ps:Array Tmp)(assign body:Code)(D:Nat):Loop:={ state:=.ready,pending:=none,fn:=fn,tmps:=T,params:=ps,assign:=assign,body:=body,defers:=D }
section
variable {w:World} {r:Nat} {o:Obj}
theorem Ci {b:Nat}(h:b≠r):(w.putObj r o).heap[b]? = w.heap[b]? := World.putObj_heap_other h
theorem Cy:(w.putObj r o).heap.size=w.heap.size:=by simp [World.putObj]
theorem Rep.putObj {av:AV}{v:Value}(N:∀ off,w.cell? ⟨r,off,none⟩=none)(E:∀ es c,w.heap[r]? ≠ some (.map es c))(h:Rep w S γ av v):Rep (w.putObj r o) S γ av v:=by
 have key:∀ b off u,w.cell? ⟨b,off,none⟩=some u->(w.putObj r o).cell? ⟨b,off,none⟩=some u:=fun b off u D=>by
  have F:b≠r:=fun e=>by subst e;rw [N off] at D;cases D
  exact (World.cell?_of_block (w:=w) (a:=⟨b,off,none⟩) (Ci F)).trans D
 induction h with
 |any=>exact .any _
 |int=>exact .int _ _
 |bool=>exact .bool _
 |str=>exact .str _
 |nilp=>exact .nilp
 |ptr h i=>exact .ptr h i
 |elt h i=>exact .elt h i
 |nils=>exact .nils
 |sl A c cell I s t q h1 f =>
  refine .sl A c cell I s (fun R=>?_) (fun k J j H=>f k J j H) h1;obtain ⟨b,off,P,y,G,p⟩:=t R;exact ⟨b,off,P,y,by rw [Cy];exact G,fun k j h1 Q=>key _ _ _ (p k j h1 Q)⟩
 |row h i=>exact .row h i
 |fn vs m q f=>exact .fn vs m f
 |yld q f=>exact .yld f
 |nilf=>exact .nilf
 |agg vs m q h1 f=>exact .agg vs m f h1
 |tup vs m q f=>exact .tup vs m f
 |ref b off cell y t I q h1 f=>exact .ref b off cell y (by rw [Cy];exact t) (fun j H=>key _ _ _ (I j H)) f h1
 |der h i=>exact .der h i
 |cont h i m=>exact .cont h i m
 |mapv z M g es clock t y O K m J i C B=>exact .mapv z M g es clock t y (by rw [Cy];exact O) ((Ci (fun e=>by subst e;exact E _ _ K)).trans K) m C B
 |mapn=>exact .mapn
 |slen A n c=>exact .slen A n c
variable {L:List MapEntry}{ps:List (AV×AV)}
theorem RepL.putObj (f:∀ off,w.cell? ⟨r,off,none⟩=none)(b:∀ es c,w.heap[r]? ≠ some (.map es c))(h:RepL w S L ps):RepL (w.putObj r o) S L ps:=⟨h.1,fun j q e=>⟨(h.2 j q e).1.putObj f b,(h.2 j q e).2.putObj f b⟩⟩
theorem RepM.putObj (f:∀ off,w.cell? ⟨r,off,none⟩=none)(e:∀ es c,w.heap[r]? ≠ some (.map es c))(h:RepM w S L ps):RepM (w.putObj r o) S L ps:=by
 obtain ⟨b,h1,g⟩:=h;exact ⟨b,h1,RepL.putObj f e g⟩
theorem ItIs.putObj {g:Nat}{P P':Array MapEntry->Array Nat->Nat->Nat->Prop}(B:∀ off,w.cell? ⟨r,off,none⟩=none)(k:∀ es c,w.heap[r]? ≠ some (.map es c))(i:g≠r)(h:ItIs w S g P)(n:∀ es s c d,P es s c d->P' es s c d):ItIs (w.putObj r o) S g P':=by
 rcases h with ⟨bm,since,f,A,es,clock,h1,m,z,p,y,v,u,t,q⟩|⟨a,b,s,h1,m⟩
 ·exact aD ⟨bm,since,f,A,es,clock,(Ci i).trans h1,m,by rw [Cy];exact z,(Ci (fun e=>by subst e;exact k _ _ p)).trans p,y,v,u,t,n _ _ _ _ q⟩
 ·exact aC ⟨a,b,s,(Ci i).trans h1,n _ _ _ _ m⟩
theorem Bj.putObj {B:Nat}{e:Ent}(t:∀ off,w.cell? ⟨r,off,none⟩=none)(m:∀ es c,w.heap[r]? ≠ some (.map es c))(G:∀ b,b∈blks d->b≠r)(h:Bj w S γ B d e):Bj (w.putObj r o) S γ B d e:=by
 cases e with
 |box ty cells =>
  obtain ⟨g,vs,f,hb,hs,Y,h1⟩:=h;exact ⟨g,vs,f,(Ci (G g (by rw [f];exact Bz))).trans hb,hs,fun i hi=>(Y i hi).putObj t m,h1⟩
 |row ty sz xs =>
  obtain ⟨s,vs,f,h1,v,hc,Y,ho⟩:=h;refine ⟨s,vs,f,h1,⟨v.1,v.2.elim aD (fun ⟨g,ad,ac,I,u,hh,q⟩=>aC ⟨g,ad,ac,I,u,?_,q⟩)⟩,hc,fun k n j M=>(Y k n j M).putObj t m,ho⟩;subst I;exact (Ci (G g (by rw [f];exact Bz))).trans hh
 |mp ps =>
  obtain ⟨g,f,es,clock,D,C,qb,y⟩:=h;exact ⟨g,f,es,clock,(Ci (G g (by rw [f];exact Bz))).trans D,C,qb,fun j h F=>⟨(y j h F).1.putObj t m,(y j h F).2.putObj t m⟩⟩
 |nest ty es =>
  obtain ⟨s,vs,f,h1,J,⟨us,v,X,W⟩,E,K⟩:=h;have N:∀ g,B5 s=some g->(w.putObj r o).heap[g]? = w.heap[g]? := fun g u=>Ci (G g (by rw [f];simp [blks,Cn,u]))
  refine ⟨s,vs,f,h1,J,⟨us,v.moved fun g u=>N g u,X,W⟩,fun k A=>?_,K⟩;have z:∀ g,B5 (vs.getD k undef)=some g->g≠r:=fun g u=>G g (by
   rw [f];simp only [blks,aQ,bH,Cn,aX];refine ⟨vs.getD k undef,?_,u⟩;have:k<vs.size:=by omega
   simp [aP,this])
  have n:=E k A;generalize es[k]=e at n;cases e with
  |row ty sz xs =>
   obtain ⟨D,us',C,y,P,O⟩:=n;exact ⟨D,us',C.moved (fun g u=>Ci (z g u)),y,fun k A j M=>(P k A j M).putObj t m,O⟩
  |mp ps =>
   obtain ⟨g,H,I,⟨es,clock,D,C,qb,y⟩,Q⟩:=n;exact ⟨g,H,I,⟨es,clock,(Ci (z g (by rw [I];rfl))).trans D,C,qb,fun j h F=>⟨(y j h F).1.putObj t m,(y j h F).2.putObj t m⟩⟩,Q⟩
  |hole=>exact n
 |mpn ps =>
  obtain ⟨g,es,vs,f,hh,hl,J,ab,Z,V,E,K⟩:=h;have aa:(w.putObj r o).heap[g]? = w.heap[g]? := Ci (G g (by rw [f];simp [blks,Cn,B5]));refine ⟨g,es,vs,f,aa.trans hh,hl,J,ab,fun j h F=>(Z j h F).putObj t m,V,fun k A=>?_,K⟩;have z:∀ g,B5 (vs.getD k undef)=some g->g≠r:=fun g u=>G g (by
   rw [f];simp only [blks,aQ,bH,Cn,aX];refine ⟨vs.getD k undef,?_,u⟩;have:k<vs.size:=by omega
   simp [aP,this])
  have n:=E k A;generalize (ps[k]).2=e at n;cases e with
  |row ty sz xs =>
   obtain ⟨D,us',C,y,P,O⟩:=n;exact ⟨D,us',C.moved (fun g u=>Ci (z g u)),y,fun k A j M=>(P k A j M).putObj t m,O⟩
  |mp ps =>
   obtain ⟨g,H,I,⟨es,clock,D,C,qb,y⟩,Q⟩:=n;exact ⟨g,H,I,⟨es,clock,(Ci (z g (by rw [I];rfl))).trans D,C,qb,fun j h F=>⟨(y j h F).1.putObj t m,(y j h F).2.putObj t m⟩⟩,Q⟩
  |hole=>exact n
 |are ty idx os =>
  obtain ⟨s,vs,us,f,h1,J,v,X,R,E,K⟩:=h;have N:∀ g,B5 s=some g->(w.putObj r o).heap[g]? = w.heap[g]? := fun g u=>Ci (G g (by rw [f];simp [blks,Cn,u]))
  refine ⟨s,vs,us,f,h1,J,v.moved fun g u=>N g u,X,fun k A=>⟨fun h=>((R k A).1 h).putObj t m,(R k A).2⟩,fun k A=>⟨(E k A).1,?_⟩,K⟩;have z:∀ g,B5 (vs.getD k undef)=some g->g≠r:=fun g u=>G g (by
   rw [f];simp only [blks,aQ,bH,Cn,aX];refine ⟨vs.getD k undef,?_,u⟩;have:k<vs.size:=by omega
   simp [aP,this])
  have n:=(E k A).2;generalize os[k]=e at n;cases e with
  |row ty sz xs =>
   obtain ⟨D,us',C,y,P,O⟩:=n;exact ⟨D,us',C.moved (fun g u=>Ci (z g u)),y,fun k A j M=>(P k A j M).putObj t m,O⟩
  |mp ps =>
   obtain ⟨g,H,I,⟨es,clock,D,C,qb,y⟩,Q⟩:=n;exact ⟨g,H,I,⟨es,clock,(Ci (z g (by rw [I];rfl))).trans D,C,qb,fun j h F=>⟨(y j h F).1.putObj t m,(y j h F).2.putObj t m⟩⟩,Q⟩
  |hole=>exact n
 |it ps =>
  obtain ⟨g,f,hi⟩:=h;exact ⟨g,f,hi.putObj t m (G g (by rw [f];exact Bz)) (fun es s c d h=>RepM.putObj t m h)⟩
 |itp ps =>
  obtain ⟨g,f,hi⟩:=h;exact ⟨g,f,hi.putObj t m (G g (by rw [f];exact Bz)) (fun es s c d ⟨h0,U,e,h1,h2,T⟩=>⟨h0,U,e,h1,h2,RepM.putObj t m T⟩)⟩
 |itc p ps =>
  obtain ⟨g,f,hi⟩:=h;exact ⟨g,f,hi.putObj t m (G g (by rw [f];exact Bz)) (fun es s c d ⟨h0,U,e,h1,h2,T,h4⟩=>⟨h0,U,e,h1,h2,⟨T.1.putObj t m,T.2.putObj t m⟩,RepM.putObj t m h4⟩)⟩
 |dead=>exact h
theorem zwq {k:Nat}(h:w.heap[r]? = some o)(b:o.isCells=false)(off:Nat):w.cell? ⟨r,off,none⟩=none:=by
 cases c:w.cell? ⟨r,off,none⟩ with
 |none=>rfl
 |some u =>
  obtain ⟨o',h1,e⟩:=cells_of_cell c;rw [h] at h1;injection h1 with h1
  rw [h1,e] at b;cases b
end
section
variable {cx:Cx} {γ:Gam} {σ:AS} {a:Act} {w:World}
theorem StG.putObj (h:StG cx γ σ a w){r:Nat}{o o':Obj}{ds:List Deferred}(u:w.heap[r]? = some o)(C:o.isCells=false)(E:cx.w0.heap.size<=r)(m:¬own γ r)(q:Book cx γ { a with defers:=ds } (w.putObj r o'))(p:∀ b,cx.Fr b->b≠r)(g:∀ es c,o≠.map es c:=by intro es c h;cases h)(g:∀ es c,o≠.map es c:=by intro es c h;cases h):StG cx γ σ { a with defers:=ds } (w.putObj r o'):=by
 have v:=zwq (k:=0) u C;have i:∀ es c,w.heap[r]? ≠ some (.map es c):=fun es c h=>by rw [u] at h;injection h with h;exact g es c h
 have n:∀ b,own γ b->b≠r:=fun b f e=>m (e▸f)
 refine ⟨fun t=>(h.tm t).putObj v i,fun id=>?_,h.inj,fun b f=>by rw [Cy];exact h.ge b f,h.below.trans ⟨rfl,rfl,rfl,by rw [Cy];exact aB _,fun b f=>Ci (by omega)⟩,h.size,q,fun b f=>by rw [Cy];exact h.gh b f,fun b f=>?_,h.dr⟩
 ·have:=h.me id;cases y:σ.find id with
  |none=>rw [y] at this;exact this
  |some e =>
   rw [y] at this;obtain ⟨x,s,D⟩:=this;exact ⟨x,s,D.putObj v i (fun b f=>n b ⟨id,x,s,f⟩)⟩
 ·obtain ⟨B,A,z⟩:=h.fr b f;exact ⟨B,by rw [Cy];exact A,(Ci (p b f)).trans z⟩
end
def LeY (σ:AS)(ρ:Nat->Nat)(ids:List Nat):Nat->List AV->Prop |_,[]=>True |t,.any::r=>LeY σ ρ ids (t+1) r |t,x::r=>(σ.get t=x.ren ρ/\x.inM ids=true)/\LeY σ ρ ids (t+1) r
theorem LeY.at:∀ {l:List AV} {n:Nat},LeY σ ρ ids n l->∀ t (b:t<l.length),l[t]=.any\/(σ.get (n+t)=l[t].ren ρ/\l[t].inM ids=true)
 |[],n,h,t,b=>by simp at b
 |x::r,n,h,t,b=>by
  cases t with
  |zero =>
   cases x<;>first|exact aD rfl|exact aC h.1
  |succ t =>
   have c:LeY σ ρ ids (n+1) r:=by cases x<;>first|exact h|exact h.2
   have:=c.at t (by simpa using b);rw [show n+1+t=n+(t+1) by omega] at this;exact this
theorem WP.rangeFunc {cx:Cx}{g:Operand}{ps:Array Tmp}{assign body:Code}{Q:Exit->AS->Prop}{gf:Nat}{an ycaps ccaps:List AV}
  (ad:cx.E.rg=true) (C:cx.E.dr=false) (O:cx.E.yl=none) (ai:A4 g=true) (U:σ.eval g=.fn gf an) (he:Cc cx.E gf)
  (ae:bD ρ ccaps=an) (au:bE (me.map (·.1)) ccaps=true) (hy:LeY σ ρ (me.map (·.1)) 0 ycaps) (aq:LeE σ ρ (me.map (·.1)) me) (hn:D2 σ.find ρ ρ' me me' (.tup []) dead)
  (Y:∀ (l D:Nat) (fn:FuncId) (T:Array Value),T.size=cx.nt->ConG cx.P (some (l,.loop (recR fn T ps assign body D))) (CalF cx.P gf 0) (.yld l T ycaps::ccaps) [] me (.tup []) me')
  (k:Q .normal (σ.upd none (.tup []) (wrG ρ' me' dead))):WP cx (.rangeFunc g ps assign body) Q σ:=by
 have hrd:cx.rd=none:=cx.hrd ad;intro a w ⟨γ,p⟩;have aj:=p.ev g ai;rw [U] at aj;obtain ⟨caps,ak,hl,_⟩:=aj.fn_inv;refine wpIn_rangeFunc (fun fn bc=>?_);obtain ⟨W1,G⟩:∃ W1,(w.alloc (.deferred (some []))).alloc (.loop (recR fn a.tmps ps assign body w.heap.size))=W1:=⟨_,rfl⟩;have al:W1.heap[w.heap.size+1]? = some (.loop (recR fn a.tmps ps assign body w.heap.size)):=by
  rw [<-G];have:=World.alloc_heap_new (w.alloc (.deferred (some []))) (.loop (recR fn a.tmps ps assign body w.heap.size));rwa [World.size_alloc] at this
 have ay:W1.heap[w.heap.size]? = some (.deferred (some [])):=by
  rw [<-G];exact (Below.heap_alloc _ _ _ (by simp)).trans (World.alloc_heap_new w _)
 have bb:W1.heap.size=w.heap.size+2:=by rw [<-G];simp
 have ax:Below w.heap.size w W1:=by rw [<-G];exact ((Below.refl _ w).alloc (aB _) _).alloc (by simp) _
 have c:StG cx γ (σ.upd none .any []) (a.put none undef) W1:=p.grow (dst:=none) (av:=.any) (v:=undef) (fun x U=>by cases U) ax (fun h=>absurd (C.symm.trans h) (by simp)) (.any _);have ba:Ext σ (σ.upd none .any []):=⟨fun _=>rfl,fun _=>rfl⟩;have c:StG cx γ σ a W1:=⟨fun t=>c.tm t,fun i=>c.me i,c.inj,c.ge,c.below,c.size,c.defers,c.gh,c.fr,c.dr⟩;have A:∀ b,own γ b->b<w.heap.size:=fun b f=>(p.ge b f).2
 have az:cx.w0.heap.size<=w.heap.size:=p.below.size
 -- the iterator's part
 obtain ⟨γc,aa,aw,z,hS,q⟩:=c.part hn.inj aq;let cxs:Cx:={ Cx.sub cx γ γc W1 with E:={ cx.E with np:=0,yl:=some (w.heap.size+1,.loop (recR fn a.tmps ps assign body w.heap.size)) },hrd:=fun _=>rfl };have af:MeSt cxs γc me W1:=⟨q.tm,q.me,q.inj,q.ge,q.below,rfl,⟨fun _=>rfl,⟨[],rfl,.nil,fun r I=>by cases I⟩,fun t ht=>absurd ht (aV _),fun l R B=>by
  have e:some (w.heap.size+1,Obj.loop (recR fn a.tmps ps assign body w.heap.size))=some (l,R):=B;injection e with e
  injection e with e1 e2
  subst e1 e2;exact ⟨by show cx.w0.heap.size<=_;omega,by omega,fun J=>by have:=A _ (z _ J);omega,al⟩,aB _⟩,q.gh,fun b f=>f.elim,q.dr⟩
 have W:=c.ev g ai;rw [U] at W;obtain ⟨caps',s,_,X⟩:=W.fn_inv;rw [ak] at s;injection s with _ _ s
 subst s;have Z:=zdo (γ:=γ) (γc:=γc) (w:=W1) (S:=Sg cx.S0 cx.w0.heap.size γ) (S':=Sg (Cx.sub cx γ γc W1).S0 cx.w0.heap.size γc) (vs:=fun i=>caps.getD i undef) aa (fun b f=>(hS b).2 f) ae au X;have ab:Rep W1 (Sg (Cx.sub cx γ γc W1).S0 cx.w0.heap.size γc) γc (.yld (w.heap.size+1) a.tmps ycaps) (.func (.yield (w.heap.size+1)) #[] #[]):=.yld (fun t ht=>by
  rcases hy.at t ht with ha|⟨ha,hm⟩
  ·rw [ha];exact .any _
  ·rw [Nat.zero_add] at ha;have r1:=c.tm t;rw [ha] at r1;exact (r1.ren aa _ rfl hm).mono (aB _) (fun b f _=>⟨rfl,(hS b).2 f⟩))
 have H:=Y (w.heap.size+1) w.heap.size fn a.tmps p.size cxs γc W1 (#[.func (.yield (w.heap.size+1)) #[] #[]]++caps) #[] rfl C (fun x U=>U) rfl rfl af (by
   have:=congrArg length ae;rw [aE] at this;simp [hl,this];omega)
  (fun i hi=>by
    match i with
    |0 =>
     have e:(#[Value.func (.yield (w.heap.size+1)) #[] #[]]++caps).getD 0 undef=.func (.yield (w.heap.size+1)) #[] #[]:=by
      rw [aF,Array.getElem?_append_left (by simp)];rfl
     rw [e];exact ab
    |i+1 =>
     have:=Z i (by simpa using hi);have e:(#[Value.func (.yield (w.heap.size+1)) #[] #[]]++caps).getD (i+1) undef=caps.getD i undef:=by
      rw [aF,Array.getElem?_append_right (by simp),aF];simp
     rw [e];exact this)
  (fun i hi=>absurd hi (by simp)) rfl
 rw [aZ] at H;refine ⟨w.heap.size+1,[{ target:=.collected w.heap.size,args:=#[] }],W1,{ target:=.fn (.func gf) caps,args:=#[.func (.yield (w.heap.size+1)) #[] #[]] },W1,gf,
  #[.func (.yield (w.heap.size+1)) #[] #[]]++caps,W1,?_,?_,?_,?_,fun h=>by simp [Fence.wide] at h,?_⟩
 ·show (Instr.enterLoop fn a.tmps ps assign body cx.rd).run cx.P w=_;rw [hrd,<-G];exact run_enterLoop_outer _ _ _ _ _
 ·simp only [resolve,ak];simp [go_sem]
 ·intro f' bd;trivial
 ·simp [invoke,go_sem,he _ _]
 ·refine CallsIn.mono (F:=cx.F) ((callsIn_wide (n:=0)).2 H:_) ?_;rintro e W2 ⟨u,γ',rfl,N,q2,q3,q4,q5⟩;have ag:W2.heap[w.heap.size+1]? = some (.loop (recR fn a.tmps ps assign body w.heap.size)):=(q5 _ (fun J=>by have:=A _ (z _ J);omega) (by omega)).1.trans al;have ar:W2.heap[w.heap.size]? = some (.deferred (some [])):=(q5 _ (fun J=>by have:=A _ (z _ J);omega) (by omega)).1.trans ay;refine ⟨none,_,run_endLoop (P:=cx.P) ag (by simp),?_⟩;have ap:MeSt (Cx.sub cx γ γc W1) γ' me' W2:=⟨N.tm,N.me,N.inj,N.ge,N.below,rfl,⟨fun _=>rfl,⟨[],rfl,.nil,fun r I=>by cases I⟩,fun t ht=>absurd ht (aV _),fun l R B=>absurd (O.symm.trans B) (by simp),N.defers.sz⟩,N.gh,fun b f=>f.elim,N.dr⟩
  -- the marked blocks are no one's
  let am:Cx:={ cx with Fr:=fun b=>cx.Fr b\/b=w.heap.size\/b=w.heap.size+1,w1:=W1 };have ac:StG am γ σ a W1:=⟨c.tm,c.me,c.inj,c.ge,c.below,c.size,⟨c.defers.d0,c.defers.marks,c.defers.pin,c.defers.yl,aB _⟩,c.gh,fun b f=>by
   rcases f with f|f|f
   ·obtain ⟨p1,p2,_⟩:=c.fr b f;exact ⟨p1,p2,rfl⟩
   ·exact ⟨fun J=>by have:=A _ J;omega,by omega,rfl⟩
   ·exact ⟨fun J=>by have:=A _ J;omega,by omega,rfl⟩,c.dr⟩
  obtain ⟨M,m⟩:=zqn (cx:=am) (dst:=none) (τ:=σ) ac hn C (fun x U=>by cases U) aa aw ap q2 q3 q4 q5;obtain ⟨d1,d2,d3⟩:=m.fr w.heap.size (aC (aD rfl));obtain ⟨l1,l2,l3⟩:=m.fr (w.heap.size+1) (aC (aC rfl));have K:StG cx M (σ.upd none (AV.ren ρ' (.tup [])) (wrG ρ' me' dead)) a W2:=⟨m.tm,m.me,m.inj,m.ge,m.below,m.size,⟨m.defers.d0,m.defers.marks,m.defers.pin,m.defers.yl,bI c.defers.sz m.defers.sz⟩,m.gh,fun b f=>by
   obtain ⟨p1,p2,p3⟩:=m.fr b (aD f);obtain ⟨p4,p5,p6⟩:=c.fr b f;exact ⟨p1,p2,p3.trans p6⟩,m.dr⟩
  obtain ⟨rs,m1,m2,m3⟩:=K.defers.marks;have V:∀ r∈rs,r<w.heap.size:=fun r I=>by
   obtain ⟨ao,n1,n2,n3⟩:=p.defers.marks;have:ao=rs:=by
    have e:=n1.symm.trans m1;have ah:∀ (x y:Nat),({ target:=.collected x,args:=#[] }:Deferred)={ target:=.collected y,args:=#[] }->x=y:=fun x y h=>by injection h with h _;injection h
    exact (List.map_inj_right ah).1 e
   subst this;exact (n3 r I).2.1
  refine ⟨σ.upd none (AV.ren ρ' (.tup [])) (wrG ρ' me' dead),k,M,?_⟩;refine K.putObj (o':=.loop { recR fn a.tmps ps assign body w.heap.size with state:=.exhausted }) (ds:=[{ target:=.collected w.heap.size,args:=#[] }]++a.defers) ag rfl (by omega) l1
   ⟨fun h0=>absurd (h0.symm.trans ad) (by simp),⟨w.heap.size::rs,by rw [m1];rfl,nodup_cons.2 ⟨fun h=>by have:=V _ h;omega,m2⟩,fun r I=>?_⟩,K.defers.pin,fun l R B=>absurd (O.symm.trans B) (by simp),by rw [Cy];exact K.defers.sz⟩
   (fun b f e=>by obtain ⟨_,p2,_⟩:=p.fr b f;omega)
  rcases mem_cons.1 I with rfl|I
  ·exact ⟨az,by rw [Cy];omega,d1,(Ci (by omega)).trans ar⟩
  ·obtain ⟨p1,p2,p3,p4⟩:=m3 r I;have:=V r I;exact ⟨p1,by rw [Cy];exact p2,p3,(Ci (by omega)).trans p4⟩
end Go.Proofs.YthbogefcfhmpgaaGreat
