/- The abstract walk, before its evaluator. -/
import Derived.Test.YthbogefcfhmpgaaGreatK05
import Derived.RangeFuncNested
set_option linter.unusedVariables false
set_option linter.unusedSimpArgs false
namespace Go.Proofs.YthbogefcfhmpgaaGreat
open Go.RowKit List
open Nat renaming eq_of_beq_eq_true->aA,le_refl->aB,beq->aJ,not_lt_zero->aV,lt_of_lt_of_le->aY,le_trans->bI,mul_comm->bJ
open Or renaming inr->aC,inl->aD
open AV renaming renL_length->aE,renL->bD,inML->bE,renL_at->bF,inML_at->bG
open _root_.Array renaming getD_eq_getD_getElem?->aF,length_toList->aH,getD->aP,getElem_toList->aW,append_empty->aZ
open Gam renaming set_self->aG,set_ne->aO
open List renaming mem_map->aK,mem_map_of_mem->aL,all_eq_true->aM,mem_append_left->aN,getElem_replicate->aS,mem_append_right->aT,mem_filterMap->aX,getElem_map->bB,any_eq_true->bC,nil_append->bH
open Option renaming toList_none->aQ
open Bool renaming not_eq_true'->aR,or_eq_true->aU
mutual
def AV.frz (r sz:Nat)(xs:List AV):AV->AV
 |.row id=>match aJ id r with|true=>.sl sz xs|false=>.row id
 |.fn f cap=>.fn f (AV.frzL r sz xs cap)
 |.yld l T cap=>.yld l T (AV.frzL r sz xs cap)
 |.agg cs=>.agg (AV.frzL r sz xs cs)
 |.tup cs=>.tup (AV.frzL r sz xs cs)
 |x=>x
def AV.frzL (r sz:Nat)(xs:List AV):List AV->List AV
 |[]=>[]
 |x::l=>x.frz r sz xs::AV.frzL r sz xs l
end
theorem AV.frzL_length (r sz:Nat)(xs l:List AV):(AV.frzL r sz xs l).length=l.length:=by
 induction l with
 |nil=>rfl
 |cons x l ih=>simp [AV.frzL,ih]
theorem AV.frzL_at (r sz:Nat)(xs l:List AV)(i:Nat)(hi:i<l.length):(AV.frzL r sz xs l)[i]'(by rw [AV.frzL_length];exact hi)=l[i].frz r sz xs:=by
 induction l generalizing i with
 |nil=>simp at hi
 |cons x l ih =>
  cases i with
  |zero=>rfl
  |succ i=>exact ih i (by simpa using hi)
variable {w:World}{S:Nat->Prop}{γ:Gam}{d:Option (Option Nat×Value)}
theorem Rep.frz {γ':Gam}{r sz:Nat}{xs:List AV}(hγ:∀ i x,i≠r->γ i=some x->γ' i=some x)(hr:γ r=some d)(hr':γ' r=some none)
  (hsl:∀ v,(∀ g s,d=some (g,s)->Oh s=false->v=s)->Rep w S γ' (.sl sz xs) v) {av:AV} {v:Value} (h:Rep w S γ av v):Rep w S γ' (av.frz r sz xs) v:=by
 induction h with
 |any=>exact .any _
 |int=>exact .int _ _
 |bool=>exact .bool _
 |str=>exact .str _
 |nilp=>exact .nilp
 |nils=>exact .nils
 |nilf=>exact .nilf
 |@ptr γ id off v d' h hv =>
  by_cases hi:id=r
  ·subst hi;exact .ptr hr' (fun g s e=>by cases e)
  ·exact .ptr (hγ _ _ hi h) hv
 |@elt γ id sz k j v d' h hv =>
  by_cases hi:id=r
  ·subst hi;exact .elt hr' (fun g s e=>by cases e)
  ·exact .elt (hγ _ _ hi h) hv
 |@der γ φ id v d' h hv =>
  by_cases hi:id=r
  ·subst hi;exact .der hr' (fun g s e=>by cases e)
  ·exact .der (hγ _ _ hi h) hv
 |mapv ps0 hp g es clock hb hS hg hh hl hk hv ih1 ih2=>exact .mapv ps0 hp g es clock hb hS hg hh hl hk hv
 |mapn=>exact .mapn
 |slen A n c=>exact .slen A n c
 |@cont γ n id v d' h hv hl =>
  by_cases hi:id=r
  ·subst hi;exact .cont hr' (fun g s e=>by cases e) hl
  ·exact .cont (hγ _ _ hi h) hv hl
 |@row γ id v d' h hv =>
  simp only [AV.frz]
  cases hb:aJ id r with
  |true =>
   have:=aA hb
   subst this
   rw [hr] at h
   injection h with h
   subst h
   exact hsl _ hv
  |false=>exact .row (hγ _ _ (Nat.ne_of_beq_eq_false hb) h) hv
 |sl A c cell hc hlen hb hr2 h1 ih=>exact .sl A c cell hc hlen hb hr2 h1
 |ref b off cell hS hb hc hr2 h1 ih=>exact .ref b off cell hS hb hc hr2 h1
 |fn vs hl hrr ih =>
  exact .fn vs (by rw [hl,AV.frzL_length]) (fun i hi'=>by
   have hi2:=hi'
   rw [AV.frzL_length] at hi2
   rw [AV.frzL_at r sz xs _ i hi2]
   exact ih i hi2 hγ hr)
 |yld hrr ih =>
  exact .yld (fun i hi'=>by
   have hi2:=hi'
   rw [AV.frzL_length] at hi2
   rw [AV.frzL_at r sz xs _ i hi2]
   exact ih i hi2 hγ hr)
 |agg vs hl hrr h1 ih =>
  exact .agg vs (by rw [hl,AV.frzL_length]) (fun i hi'=>by
   have hi2:=hi'
   rw [AV.frzL_length] at hi2
   rw [AV.frzL_at r sz xs _ i hi2]
   exact ih i hi2 hγ hr) h1
 |tup vs hl hrr ih =>
  exact .tup vs (by rw [hl,AV.frzL_length]) (fun i hi'=>by
   have hi2:=hi'
   rw [AV.frzL_length] at hi2
   rw [AV.frzL_at r sz xs _ i hi2]
   exact ih i hi2 hγ hr)
section
variable {cx:Cx} {o:Oper} {σ:AS}
theorem zp3 {x:Operand}{args:Array Operand}{tys:Array TypeId}{f id ty sz:Nat}{cap avs xs:List AV}{res:AV}{fr:Bool}(ho:o.op=.call { callee:=.value x,args:=args,argTypes:=tys })(hd:dok cx o=true)(hxo:A5 x=true)(hok:args.toList.all A5=true)(hx:σ.eval x=.fn f cap)
  (hl:σ.find id=some (.row ty sz xs)) (ha:AV.frzL id sz xs (Bw σ args cap)=avs) (hcl:AV.closedL avs=true) (hc:Con cx.E fr f avs res):Ag cx o σ res [id] [(id,.dead)]:=by
 refine ⟨fun i e he=>Co he,fun τ h1 h2 a w Q K ⟨γ,hst⟩ hK=>Bu (fun c hc=>by rw [ho] at hc;cases hc) ?_⟩
 have hop:o.op.operands=#[x]++args:=by simp [ho,Op.operands,Call.operands]
 obtain ⟨caps,hcx,hl',hr⟩:=O0 hst hok hxo (fun y hy=>h1 y (by rw [hop];simp at hy ⊢;exact aC hy)) (h1 x (by rw [hop];simp)) hx
 have hme:=hst.me id
 rw [h2 id (by simp),hl] at hme
 obtain ⟨d,hd',he⟩:=hme
 have hown:∀ b,own (γ.set id none) b->own γ b/\∀ s,γ id≠some (some (some b,s)):=fun b ⟨i,s,hi,hm⟩=>by
  by_cases hir:i=id
  ·subst hir;rw [aG] at hi;injection hi with hi;subst hi;simp [blks] at hm
  ·rw [aO _ _ _ hir] at hi
   exact ⟨⟨i,s,hi,hm⟩,fun s' hs'=>hir (hst.inj _ _ _ _ _ hi hs' hm Bh)⟩
 have hS:∀ b,Sg cx.S0 cx.w0.heap.size γ b->Sg cx.S0 cx.w0.heap.size (γ.set id none) b:=fun b hb=>hb.elim aD (fun ⟨h1,h2⟩=>aC ⟨h1,fun ho=>h2 (hown b ho).1⟩)
 have hg:∀ i x,γ i=some x->γ.set id none i=some x\/γ.set id none i=some none\/Turn (γ.set id none) i x:=fun i x hx=>by
  by_cases hir:i=id
  ·subst hir;exact aC (aD (aG _ _ _))
  ·exact aD (by rw [aO _ _ _ hir];exact hx)
 obtain ⟨s,hs,hrr⟩:=H0 (S':=Sg cx.S0 cx.w0.heap.size (γ.set id none)) he (fun b hb _=>hS b hb) (fun s g hg=>aC ⟨(hst.ge g (own.mk (id:=id) (s:=s) (by rw [hd',hg]))).1,fun ho=>(hown g ho).2 s (by rw [hd',hg])⟩) (γ.set id none)
 have mv:∀ {av v},Rep w (Sg cx.S0 cx.w0.heap.size γ) γ av v->Rep w (Sg cx.S0 cx.w0.heap.size (γ.set id none)) (γ.set id none) (av.frz id sz xs) v:=fun hv =>
  (hv.mono (aB _) (fun b hb _=>⟨rfl,hS b hb⟩)).frz (fun i x hi hx=>by rw [aO _ _ _ hi];exact hx) hd' (aG _ _ _) (fun v hv=>by rw [hv _ _ hs hrr.sl_tup];exact hrr)
 unfold Oper.wp
 rw [Nx ho hcx hc.1]
 show Calls _ _ _ _ _
 have hlen:avs.length=(Bw σ args cap).length:=by rw [<-ha,AV.frzL_length]
 refine (hc.2 (Sg cx.S0 cx.w0.heap.size (γ.set id none)) w _ ⟨by rw [hlen];exact hl',fun i hi=>?_⟩).mono ?_
 ·have hi':i<(Bw σ args cap).length:=by omega
  have e:avs[i]=(Bw σ args cap)[i].frz id sz xs:=by
   have:(AV.frzL id sz xs (Bw σ args cap))[i]'(by rw [AV.frzL_length];exact hi')=avs[i]:=by simp only [ha]
   rw [<-this,AV.frzL_at]
  have:=mv (hr i hi')
  rw [<-e] at this
  exact this.close (AV.closedL_at hcl i hi)
 rintro e w' ⟨v,rfl,⟨hb,hdr⟩,hv⟩
 refine hK _ _ ⟨γ.set id none,hst.step (γ':=γ.set id none) (Bm hd) hb.size (fun b hS' hlt=>⟨hb.block b hlt,hS b hS'⟩) hg (fun i hi=>?_) (fun i e hi=>?_) (fun i j b s s' hi hj mi mj=>?_) (fun b hb'=>⟨(hst.ge b (hown b hb').1).1,aY (hst.ge b (hown b hb').1).2 hb.size⟩) (hst.below.trans (hb.mono hst.below.size)) ?_ (fun b hno hlt=>⟨hb.block b hlt,fun ho=>hno (hown b ho).1⟩) hdr⟩
 ·have hid:i≠id:=fun e=>by subst e;simp [lkE] at hi
  exact ⟨aO _ _ _ hid,fun g s hgi hmi=>hb.block g (hst.ge g ⟨i,s,hgi,hmi⟩).2⟩
 ·have hid:i=id:=by have:=Co hi;simpa using this
  subst hid
  simp only [lkE,Nat.beq_refl,Option.some.injEq] at hi
  subst hi
  exact ⟨none,aG _ _ _,rfl⟩
 ·have hir:i≠id:=fun e=>by subst e;rw [aG] at hi;injection hi with hi;subst hi;simp [blks] at mi
  have hjr:j≠id:=fun e=>by subst e;rw [aG] at hj;injection hj with hj;subst hj;simp [blks] at mj
  rw [aO _ _ _ hir] at hi
  rw [aO _ _ _ hjr] at hj
  exact hst.inj _ _ _ _ _ hi hj mi mj
 ·refine (hv.mono (aB _) (fun b hS' _=>⟨rfl,?_⟩)).open_
  rcases hS' with ⟨_,hS'⟩|hS'
  ·exact hS'
  ·exact aC ⟨⟨bI hst.below.size hS',fun h0=>by have:=hst.gh _ h0;omega⟩,fun ho'=>by have:=(hst.ge b (hown b ho').1).2;omega⟩
theorem zd5 {T Ti d e esz eb:Nat}{x y:Operand}{i ie it:TyI}{k kn:IntKind}{n:Int}{m:Nat}(ho:o.op=.call { callee:=.builtin .append,args:=#[x,y],argTypes:=#[T,Ti] })(hdst:o.dst=some d)(hd:dok cx o=true)(hxo:A5 x=true)(hyo:A5 y=true)(hx:σ.eval x=.nils)(hy:σ.eval y=.int k n)
  (hT:lkT cx.E.tab T=some i) (hs:i.shape=.slc e esz eb) (hTi:lkT cx.E.tab Ti=some it) (hsi:it.shape=.int kn) (he:lkT cx.E.tab e=some ie) (hz:esz≠0) (hzo:Kr ie=true) (hone:ie.zero.cells.all (·.oneCell')=true) (hn:σ.find d=none) (hm:n=(m:Int)) (h0:0<n) (h1:m<=1099511627776) (h2:ie.bytes*m<=281474976710656) :
  Ag cx o σ (.row d) [d] [(d,.row e esz (replicate m (D1 ie)))]:=by
 refine ⟨fun id e he=>Co he,fun τ q1 q2 a w Q K ⟨γ,hst⟩ hK=>Bu (fun c hc=>by rw [ho] at hc;cases hc) ?_⟩
 have ex:=hst.ev x hxo
 rw [q1 x (by simp [ho,Op.operands,Call.operands]),hx] at ex
 have ey:=hst.ev y hyo
 rw [q1 y (by simp [ho,Op.operands,Call.operands]),hy] at ey
 obtain ⟨hu,hce,_⟩:=Ce (cx.E.ok T i hT) hs
 have hui:cx.P.underlying Ti=some (.int kn):=by
  obtain ⟨dd,hdd,he'⟩:=(cx.E.ok Ti it hTi).und
  rw [hsi] at he'
  cases dd<;>simp only [Dk,reduceCtorEq,E3.int.injEq] at he'
  subst he'
  exact hdd
 have hok:=cx.E.ok e ie he
 obtain ⟨info,hi,hi1,hi2,hi3⟩:=hok.both
 have hsz:ie.sz=esz:=hok.cells.symm.trans hce
 obtain ⟨hzc,hzs⟩:=z89 hzo
 subst hm
 have hm0:0<m:=by omega
 have hrun:=Lib.run_append_nil_zeros (P:=cx.P) w T Ti o.type e info ie.zero k kn hu hui hi hi3 m hm0 (by rw [hi1,hsz];omega) (by omega) (by rw [hi2,bJ];exact h2)
 generalize hcap:grownCap w m 0 e=cap at hrun
 have hcap1:m<=cap:=by rw [<-hcap];exact grownCap_ge _ _ _ _
 have hcap2:cap<=maxLen:=by rw [<-hcap];exact grownCap_le_maxLen _ _ _ _ (by unfold maxLen;omega)
 generalize hcur:Builtin.zeroCells ie.zero.cells m++Builtin.zeroCells ie.zero.cells (cap-m)=cur at hrun
 have hzs2:ie.zero.cells.size=esz:=hzs.trans hsz
 have hcs:cur.size=cap*esz:=by
  rw [<-hcur,Array.size_append,size_zeroCells,size_zeroCells,hzs2,<-Nat.add_mul]
  congr 1;omega
 have hex:(execOp a.eval o).run cx.P w=.ok (.value (.slice (some ⟨w.heap.size,0,none⟩) m cap)) (w.drew.alloc (.cells cur e)):=by
  simp only [execOp,ho,resolve,invoke,builtin,Sem.run_bind,Sem.run_pure,Result.andThen_ok,map_toArray,map_cons,map_nil,ex.nils_inv,ey.int_inv,hrun]
 unfold Oper.wp
 rw [hex]
 refine hK _ _ ?_
 rw [hdst]
 have hcl:(D1 ie).cells.length=esz:=by rw [hzc,length_map,aH,hzs,hsz]
 have hus:cur.toList.take (m*esz)=(madeCells ie.zero.cells (m*esz)).toList:=by
  rw [<-hcur,Array.toList_append,take_append_of_le_length (by rw [aH,size_zeroCells,hzs2];exact aB _),take_of_length_le (by rw [aH,size_zeroCells,hzs2];exact aB _)]
  unfold Builtin.zeroCells madeCells
  rw [hzs2]
 have hown:(w.drew.alloc (.cells cur e)).ownsRow w.heap.size e esz (.slice (some ⟨w.heap.size,0,none⟩) m cap) m (madeCells ie.zero.cells (m*esz)).toList :=
  ⟨by simp [size_madeCells],aC ⟨w.heap.size,cap,cur,rfl,aB _,(MapKept.heap_alloc w.drew _).1,hcap1,hcap2,hcs,hus⟩⟩
 have hget:∀ q j,q<m->j<esz->(madeCells ie.zero.cells (m*esz)).toList.getD (q*esz+j) undef=ie.zero.cells.getD j undef:=fun q j hq hj=>by
  have hlt:q*esz+j<m*esz:=by
   have:(q+1)*esz<=m*esz:=Nat.mul_le_mul_right _ hq
   rw [Nat.succ_mul] at this
   omega
  have hmod:(q*esz+j) % ie.zero.cells.size=j:=by
   rw [hzs2,bJ,Nat.mul_add_mod,Nat.mod_eq_of_lt hj]
  rw [getD_eq_getElem?_getD]
  have hj':j<ie.zero.cells.size:=by omega
  simp [madeCells,hlt,hmod,aP,hj']
 have hall:∀ v∈ie.zero.cells,v.oneCell'=true:=by
  rw [Array.all_eq_true_iff_forall_mem] at hone
  exact hone
 refine V6 (v:=.slice (some ⟨w.heap.size,0,none⟩) m cap) (us:=(madeCells ie.zero.cells (m*esz)).toList) hst (fun _=>Nat.le_succ _) (by rw [q2 d (by simp),hn]) (fun x hx=>by injection hx with hx;subst hx;exact Bm hd _ hdst) (((Below.refl _ _).drew).alloc (aB _) _)
  (by rw [length_replicate];exact hown) (fun q hq=>by rw [aS];exact hcl) (fun q hq j hj=>?_) (fun u hu=>?_)
  (fun hS=>.row (aG _ _ _) (fun g s e _=>by injection e with e;injection e with _ e))
 ·have hq':q<m:=by simpa using hq
  rw [aS] at hj
  have hj':j<esz:=by omega
  rw [hget q j hq' hj']
  simp only [aS,hzc,bB]
  have hj2:j<ie.zero.cells.size:=by omega
  have:ie.zero.cells.getD j undef=ie.zero.cells[j]:=by simp [aP,hj2]
  rw [this]
  simpa using O3 _ _ _ (ie.zero.cells[j])
 ·obtain ⟨q,hq,rfl⟩:=mem_iff_getElem.1 hu
  have hq':q<m*esz:=by simpa [size_madeCells] using hq
  have hpos:0<ie.zero.cells.size:=by omega
  have hmod:=Nat.mod_lt q hpos
  simp only [madeCells,Array.toList_map,bB,aW,Array.getElem_range]
  rw [getElem!_pos ie.zero.cells _ hmod]
  exact hall _ (Array.getElem_mem _)
end
open Go.RowKit
abbrev MeSt (cx:Cx)(γ:Gam)(me:List (Nat×Ent))(w:World):Prop:=StG cx γ ⟨[],me⟩ ⟨#[],[]⟩ w
def Cx.sub (cx:Cx)(γ γc:Gam)(w:World):Cx:=⟨{ cx.E with np:=0 },fun b=>cx.S0 b\/(own γ b/\¬own γc b),cx.w0,0,fun _=>False,w,none,#[],fun _=>rfl⟩
def memL (ρ:Nat->Nat)(ids:List Nat)(j:Nat):Option Nat:=ids.find? fun i=>aJ (ρ i) j
variable {ρ:Nat->Nat}{ids:List Nat}{j:Nat}
theorem Ns {i:Nat}(h:memL ρ ids j=some i):i∈ids/\ρ i=j:=by
 have h1:=mem_of_find?_eq_some h
 have h2:=find?_some h
 exact ⟨h1,aA h2⟩
theorem zrj (h:memL ρ ids j=none):∀ i∈ids,ρ i≠j:=fun i hi e=>by
 have:=find?_eq_none.1 h i hi
 simp [e] at this
theorem zrk {i:Nat}(hinj:injB ρ ids=true)(hi:i∈ids):memL ρ ids (ρ i)=some i:=by
 cases h:memL ρ ids (ρ i) with
 |none=>exact absurd rfl (zrj h i hi)
 |some k =>
  obtain ⟨h1,h2⟩:=Ns h
  simp only [injB,aM,aU,aR] at hinj
  rcases hinj k h1 i hi with h3|h3
  ·rw [h2] at h3;simp at h3
  ·rw [aA h3]
section
variable {cx:Cx} {γ:Gam} {τ:AS} {a:Act} {w:World}
theorem StG.own_ge (h:StG cx γ τ a w){b:Nat}(ho:own γ b):cx.w0.heap.size<=b/\¬cx.S0 b/\b<w.heap.size:=⟨(h.ge b ho).1.1,(h.ge b ho).1.2,(h.ge b ho).2⟩
variable {me:List (Nat×Ent)}
theorem StG.part (h:StG cx γ τ a w)(hinj:injB ρ (me.map (·.1))=true)(h2:LeE τ ρ (me.map (·.1)) me) :
  ∃ γc:Gam,(∀ i∈me.map (·.1),γc i=γ (ρ i))/\(∀ i,i ∉ me.map (·.1)->γc i=none)/\(∀ b,own γc b->own γ b) /\
   (∀ b,Sg (Cx.sub cx γ γc w).S0 cx.w0.heap.size γc b ↔ Sg cx.S0 cx.w0.heap.size γ b)/\MeSt (Cx.sub cx γ γc w) γc me w:=by
 generalize hids:me.map (·.1)=ids at *
 have hmem:∀ i,lkE me i≠none ↔ i∈ids:=fun i=>by rw [Ny,hids]
 let γc:Gam:=fun i=>if i∈ids then γ (ρ i) else none
 have hγ:∀ i,i∈ids->γc i=γ (ρ i):=fun i hi=>if_pos hi
 have hγn:∀ i,i ∉ ids->γc i=none:=fun i hi=>if_neg hi
 have hown:∀ b,own γc b->own γ b:=fun b ⟨i,s,hi,hb⟩=>by
  by_cases hm:i∈ids
  ·rw [hγ i hm] at hi;exact ⟨_,s,hi,hb⟩
  ·rw [hγn i hm] at hi;cases hi
 have hS:∀ b,Sg (Cx.sub cx γ γc w).S0 cx.w0.heap.size γc b ↔ Sg cx.S0 cx.w0.heap.size γ b:=fun b=>by
  constructor
  ·rintro (⟨h1|⟨h1,_⟩,h3⟩|⟨⟨h1,h3⟩,h4⟩)
   ·exact aD ⟨h1,h3⟩
   ·have:=(h.own_ge h1).1;omega
   ·exact aC ⟨⟨h1,fun h5=>h3 (aD h5)⟩,fun h5=>h3 (aC ⟨h5,h4⟩)⟩
  ·rintro (⟨h1,h3⟩|⟨⟨h1,h3⟩,h4⟩)
   ·exact aD ⟨aD h1,h3⟩
   ·exact aC ⟨⟨h1,fun h5=>h5.elim h3 (fun h6=>h4 h6.1)⟩,fun h5=>h4 (hown b h5)⟩
 have hmv:∀ {g:Gam} {av v},Rep w (Sg cx.S0 cx.w0.heap.size γ) g av v->Rep w (Sg (Cx.sub cx γ γc w).S0 cx.w0.heap.size γc) g av v:=fun h=>h.mono (aB _) (fun b hb _=>⟨rfl,(hS b).2 hb⟩)
 refine ⟨γc,hγ,hγn,hown,hS,fun t=>.any _,fun i=>?_,fun i j b s s' hi hj mi mj=>?_,fun b hb=>?_,h.below,rfl,⟨fun _=>rfl,⟨[],rfl,.nil,fun r hr=>by cases hr⟩,fun t ht=>absurd ht (aV _),fun l R hl=>?_,aB _⟩,fun b hb=>?_,fun b hb=>hb.elim,h.dr⟩
 ·rcases h2.get i with ha|⟨e,ha,hf,hm⟩
  ·unfold AS.find
   rw [ha]
   have:i ∉ ids:=fun hi=>(hmem i).2 hi ha
   exact if_neg this
  ·unfold AS.find
   rw [ha]
   have hi:i∈ids:=(hmem i).1 (by rw [ha];simp)
   rw [hγ i hi]
   have:=h.me (ρ i)
   rw [hf] at this
   obtain ⟨x,hx,he⟩:=this
   refine ⟨x,hx,?_⟩
   cases e with
   |box ty cs =>
    obtain ⟨g,vs,hd,hb,hsz,hr,hone⟩:=he
    simp only [Ent.inM] at hm
    refine ⟨g,vs,hd,hb,by rw [hsz,aE],fun k hk=>hmv ((hr k (by rw [aE];exact hk)).ren hγ _ (bF _ _ _ _) (bG hm k hk)),hone⟩
   |row ty sz xs =>
    obtain ⟨s,vs,hd,h1,hown,hlen,hr,hone⟩:=he
    exact ⟨s,vs,hd,h1,hown,hlen,fun k hk j hj=>hmv (hr k hk j hj),hone⟩
   |mp ps =>
    obtain ⟨g,hd,hm⟩:=he
    exact ⟨g,hd,hm.move (aB _) (fun b hb _=>⟨rfl,(hS b).2 hb⟩) rfl⟩
   |nest ty es=>exact B6.nest_mono he (fun b hb=>(hS b).2 hb)
   |mpn ps=>exact B6.mpn_mono he (fun b hb=>(hS b).2 hb)
   |are ty idx os=>exact he.gmono (fun _ _ h=>by cases h) (fun b hb=>(hS b).2 hb)
   |it ps=>exact he.gmono (fun _ _ h=>by cases h) (fun b hb=>(hS b).2 hb)
   |itp ps=>exact he.gmono (fun _ _ h=>by cases h) (fun b hb=>(hS b).2 hb)
   |itc p ps=>exact he.gmono (fun _ _ h=>by cases h) (fun b hb=>(hS b).2 hb)
   |dead=>exact he
 ·by_cases h1:i∈ids
  ·by_cases h2:j∈ids
   ·rw [hγ i h1] at hi
    rw [hγ j h2] at hj
    have e:=h.inj _ _ _ _ _ hi hj mi mj
    simp only [injB,aM,aU,aR] at hinj
    rcases hinj i h1 j h2 with h3|h3
    ·rw [e] at h3;simp at h3
    ·exact aA h3
   ·rw [hγn j h2] at hj;cases hj
  ·rw [hγn i h1] at hi;cases hi
 ·obtain ⟨q1,q2,q3⟩:=h.own_ge (hown b hb)
  exact ⟨⟨q1,fun h5=>h5.elim q2 (fun h6=>h6.2 hb)⟩,q3⟩
 ·obtain ⟨q0,q1,q2,q3⟩:=h.defers.yl l R hl
  exact ⟨q0,q1,fun ho=>q2 (hown l ho),q3⟩
 ·rcases hb with hb|⟨hb,_⟩
  ·exact h.gh b hb
  ·exact (h.own_ge hb).2.2
def wrG (ρ':Nat->Nat)(me':List (Nat×Ent))(dead:List Nat):List (Nat×Ent):=me'.map (fun x=>(ρ' x.1,x.2.renI ρ'))++dead.map fun i=>(i,.dead)
def Ry:List Nat->Bool
 |[]=>true
 |x::r=>!memB x r && Ry r
variable {l:List (Nat×Ent)}
theorem zrx (h:Ry (l.map (·.1))=true):∀ x∈l,lkE l x.1=some x.2:=by
 induction l with
 |nil=>intro x hx;cases hx
 |cons y r ih =>
  obtain ⟨u,e⟩:=y
  simp only [map_cons,Ry,Bool.and_eq_true,aR] at h
  intro x hx
  rcases mem_cons.1 hx with rfl|hx
  ·simp [lkE]
  ·have hne:¬u=x.1:=fun e=>by
    have:memB u (r.map (·.1))=true:=(Dc _ _).2 (by rw [e];exact aK.2 ⟨x,hx,rfl⟩)
    rw [h.1] at this;cases this
   have hb:aJ u x.1=false:=by
    cases hq:aJ u x.1 with
    |true=>exact absurd (aA hq) hne
    |false=>rfl
   simp only [lkE,hb]
   exact ih h.2 x hx
theorem S1 {i:Nat}{e:Ent}(h:lkE l i=some e):(i,e)∈l:=by
 induction l with
 |nil=>simp [lkE] at h
 |cons x r ih =>
  obtain ⟨u,e'⟩:=x
  simp only [lkE] at h
  cases hb:aJ u i with
  |true =>
   rw [hb] at h
   injection h with h
   rw [<-aA hb,h];exact mem_cons_self ..
  |false=>rw [hb] at h;exact mem_cons_of_mem _ (ih h)
variable {ρ':Nat->Nat}{me':List (Nat×Ent)}{dead:List Nat}
theorem wrG_get (hnd:Ry (me'.map (·.1))=true){e:Ent}(h:lkE (wrG ρ' me' dead) j=some e) :
  (∃ i e0,lkE me' i=some e0/\i∈me'.map (·.1)/\ρ' i=j/\e=e0.renI ρ')\/((∀ i∈me'.map (·.1),ρ' i≠j)/\j∈dead/\e=.dead):=by
 unfold wrG at h
 rw [zei] at h
 cases h1:lkE (me'.map fun x=>(ρ' x.1,x.2.renI ρ')) j with
 |some e1 =>
  rw [h1] at h
  simp only [Option.some_or,Option.some.injEq] at h
  subst h
  obtain ⟨x,hx,hxe⟩:=aK.1 (S1 h1)
  injection hxe with q1 q2
  exact aD ⟨x.1,x.2,zrx hnd x hx,aK.2 ⟨x,hx,rfl⟩,q1,q2.symm⟩
 |none =>
  rw [h1] at h
  simp only [Option.none_or] at h
  obtain ⟨x,hx,hxe⟩:=aK.1 (S1 h)
  injection hxe with q1 q2
  refine aC ⟨fun i hi e=>?_,q1▸hx,q2.symm⟩
  obtain ⟨y,hy,rfl⟩:=aK.1 hi
  have:lkE (me'.map fun x=>(ρ' x.1,x.2.renI ρ')) j≠none:=by
   rw [Ny]
   exact aK.2 ⟨(ρ' y.1,y.2.renI ρ'),aK.2 ⟨y,hy,rfl⟩,e⟩
  exact this h1
theorem ztj (h:lkE (wrG ρ' me' dead) j=none):(∀ i∈me'.map (·.1),ρ' i≠j)/\j ∉ dead:=by
 constructor
 ·intro i hi e
  obtain ⟨y,hy,rfl⟩:=aK.1 hi
  have:lkE (wrG ρ' me' dead) j≠none:=by
   rw [Ny]
   unfold wrG
   rw [map_append]
   exact aN _ (aK.2 ⟨(ρ' y.1,y.2.renI ρ'),aK.2 ⟨y,hy,rfl⟩,e⟩)
  exact this h
 ·intro hd
  have:lkE (wrG ρ' me' dead) j≠none:=by
   rw [Ny]
   unfold wrG
   rw [map_append]
   exact aT _ (aK.2 ⟨(j,.dead),aK.2 ⟨j,hd,rfl⟩,rfl⟩)
  exact this h
def Ik (me me':List (Nat×Ent))(i:Nat):Bool:=match lkE me i,lkE me' i with
 |some (.box _ _),_=>true
 |some (.row _ _ _),some _=>true
 |_,_=>false
def Z1 (τf:Nat->Option Ent)(ρ ρ':Nat->Nat)(me:List (Nat×Ent))(i:Nat):Bool:=match lkE me i,τf (ρ' i) with
 |some (.box _ _),_=>aJ (ρ' i) (ρ i)
 |some (.row _ _ _),_=>aJ (ρ' i) (ρ i)
 |_,none=>true
 |_,_=>false
theorem StG.join (h:StG cx γ τ a w){γc γc':Gam}{w':World}{dst:Option Nat}{u:Value}{res:AV}(hinj:injB ρ (me.map (·.1))=true)(hc1:∀ i∈me.map (·.1),γc i=γ (ρ i))(hc2:∀ i,i ∉ me.map (·.1)->γc i=none)
  (hst:MeSt (Cx.sub cx γ γc w) γc' me' w') (hz:w.heap.size<=w'.heap.size) (hbox:∀ i,Ik me me' i=true->γc' i=γc i) (hfr:∀ b,¬own γc b->b<w.heap.size->w'.heap[b]? = w.heap[b]? /\ ¬own γc' b) (hdr:cx.E.dr=true->w.drawn<=w'.drawn)
  (hd:∀ x,dst=some x->cx.E.np<=x/\x<cx.nt) (hnd:Ry (me'.map (·.1))=true) (hinj':injB ρ' (me'.map (·.1))=true) (hin:me'.all (fun x=>x.2.inM (me'.map (·.1)))=true) (hkeep:(me'.map (·.1)).all (Z1 τ.find ρ ρ' me)=true)
  (hcov:(me.map (·.1)).all (fun i=>memB (ρ i) dead || (me'.map (·.1)).any fun k=>aJ (ρ' k) (ρ i))=true) (hdead:dead.all (fun j=>(me.map (·.1)).any fun i=>aJ (ρ i) j)=true)
  (hu:Rep w' (Sg (Cx.sub cx γ γc w).S0 cx.w0.heap.size γc') γc' res u) (hres:res.inM (me'.map (·.1))=true) :
  ∃ γ',StG cx γ' (τ.upd dst (res.ren ρ') (wrG ρ' me' dead)) (a.put dst u) w':=by
 generalize hids:me.map (·.1)=ids at *
 generalize hids':me'.map (·.1)=ids' at *
 have hmem':∀ i,lkE me' i≠none ↔ i∈ids':=fun i=>by rw [Ny,hids']
 let γ':Gam:=fun j=>match memL ρ' ids' j with|some i=>γc' i|none=>(match memL ρ ids j with|some _=>some none|none=>γ j)
 have F1:∀ i∈ids',γ' (ρ' i)=γc' i:=fun i hi=>by
  show (match memL ρ' ids' (ρ' i) with|some i=>γc' i|none=>_)=_
  rw [zrk hinj' hi]
 have F2:∀ j,(∀ i∈ids',ρ' i≠j)->(∃ i∈ids,ρ i=j)->γ' j=some none:=fun j h1 ⟨i,hi,e⟩=>by
  show (match memL ρ' ids' j with|some i=>γc' i|none=>_)=_
  have e1:memL ρ' ids' j=none:=by
   cases hq:memL ρ' ids' j with
   |none=>rfl
   |some k=>exact absurd (Ns hq).2 (h1 k (Ns hq).1)
  rw [e1]
  subst e
  show (match memL ρ ids (ρ i) with|some _=>some none|none=>γ (ρ i))=_
  rw [zrk hinj hi]
 have F3:∀ j,(∀ i∈ids',ρ' i≠j)->(∀ i∈ids,ρ i≠j)->γ' j=γ j:=fun j h1 h2=>by
  show (match memL ρ' ids' j with|some i=>γc' i|none=>_)=_
  have e1:memL ρ' ids' j=none:=by
   cases hq:memL ρ' ids' j with
   |none=>rfl
   |some k=>exact absurd (Ns hq).2 (h1 k (Ns hq).1)
  have e2:memL ρ ids j=none:=by
   cases hq:memL ρ ids j with
   |none=>rfl
   |some k=>exact absurd (Ns hq).2 (h2 k (Ns hq).1)
  rw [e1]
  show (match memL ρ ids j with|some _=>some none|none=>γ j)=_
  rw [e2]
 have hownc:∀ b,own γc b->own γ b:=fun b ⟨i,s,hi,hb⟩=>by
  by_cases hm:i∈ids
  ·rw [hc1 i hm] at hi;exact ⟨_,s,hi,hb⟩
  ·rw [hc2 i hm] at hi;cases hi
 -- what another name owns is not given
 have hother:∀ j b s,(∀ i∈ids,ρ i≠j)->γ j=some s->b∈blks s->¬own γc b:=fun j b s hj hb hbm ⟨i,s',hi,him⟩=>by
  by_cases hm:i∈ids
  ·rw [hc1 i hm] at hi
   exact hj i hm (h.inj _ _ _ _ _ hi hb him hbm)
  ·rw [hc2 i hm] at hi;cases hi
 have hcase:∀ j,(∃ i∈ids',ρ' i=j)\/((∀ i∈ids',ρ' i≠j)/\((∃ i∈ids,ρ i=j)\/∀ i∈ids,ρ i≠j)):=fun j=>by
  by_cases h1:∃ i∈ids',ρ' i=j
  ·exact aD h1
  ·refine aC ⟨fun i hi e=>h1 ⟨i,hi,e⟩,?_⟩
   by_cases h2:∃ i∈ids,ρ i=j
   ·exact aD h2
   ·exact aC (fun i hi e=>h2 ⟨i,hi,e⟩)
 have hown:∀ b,own γ' b->own γc' b\/(own γ b/\¬own γc b):=fun b ⟨j,s,hj,hm⟩=>by
  rcases hcase j with ⟨i,hi,rfl⟩|⟨h1,h2|h2⟩
  ·rw [F1 i hi] at hj;exact aD ⟨i,s,hj,hm⟩
  ·rw [F2 j h1 h2] at hj;injection hj with hj;subst hj;simp [blks] at hm
  ·rw [F3 j h1 h2] at hj;exact aC ⟨⟨j,s,hj,hm⟩,hother j b s h2 hj hm⟩
 have hno:∀ b,¬own γ b->b<w.heap.size->w'.heap[b]? = w.heap[b]? /\ ¬own γ' b:=fun b hb hlt=>by
  obtain ⟨q1,q2⟩:=hfr b (fun ho=>hb (hownc b ho)) hlt
  exact ⟨q1,fun ho=>(hown b ho).elim q2 (fun h=>hb h.1)⟩
 have hS:∀ b,Sg (Cx.sub cx γ γc w).S0 cx.w0.heap.size γc' b->Sg cx.S0 cx.w0.heap.size γ' b:=by
  rintro b (⟨h1|⟨h1,_⟩,h3⟩|⟨⟨h1,h3⟩,h4⟩)
  ·exact aD ⟨h1,h3⟩
  ·have:=(h.own_ge h1).1;omega
  ·exact aC ⟨⟨h1,fun h5=>h3 (aD h5)⟩,fun ho=>(hown b ho).elim h4 (fun h6=>h3 (aC h6))⟩
 have hnoS:∀ b,Sg cx.S0 cx.w0.heap.size γ b->¬own γ b:=fun b hS ho=>by
  rcases hS with ⟨_,h1⟩|⟨_,h1⟩
  ·have:=(h.own_ge ho).1;omega
  ·exact h1 ho
 have hmv:∀ {g:Gam} {av v},Rep w' (Sg (Cx.sub cx γ γc w).S0 cx.w0.heap.size γc') g av v->Rep w' (Sg cx.S0 cx.w0.heap.size γ') g av v:=fun h=>h.mono (aB _) (fun b hb _=>⟨rfl,hS b hb⟩)
 simp only [aM] at hin hkeep hcov hdead
 have hkeep':∀ i∈ids',(Ik me me' i=true/\i∈ids/\ρ' i=ρ i)\/τ.find (ρ' i)=none:=fun i hi=>by
  have hk:=hkeep i hi
  have hne:=(hmem' i).2 hi
  have hid:lkE me i≠none->i∈ids:=fun hb=>by rw [<-hids];exact Ny.1 hb
  unfold Z1 at hk
  split at hk
  ·rename_i ty es hb;exact aD ⟨by unfold Ik;rw [hb],hid (by rw [hb];simp),aA hk⟩
  ·rename_i ty sz xs hb
   refine aD ⟨?_,hid (by rw [hb];simp),aA hk⟩
   unfold Ik
   cases hq:lkE me' i with
   |none=>exact absurd hq hne
   |some e=>rw [hb]
  ·first|(rename_i hf _ _;exact aC hf)|(rename_i hf _;exact aC hf)|(rename_i _ _ hf;exact aC hf)|(rename_i hf;exact aC hf)
  ·cases hk
 refine ⟨γ',h.step (γ':=γ') hd hz (fun b hb hlt=>⟨(hno b (hnoS b hb) hlt).1,?_⟩) (fun j x hj=>?_) (fun j hj=>?_) (fun j e hj=>?_) (fun i j b s s' hi hj mi mj=>?_) (fun b hb=>?_) hst.below ?_ hno hdr⟩
 ·have hn:=(hno b (hnoS b hb) hlt).2
  rcases hb with hb|⟨h1,_⟩
  ·exact aD hb
  ·exact aC ⟨h1,hn⟩
 ·rcases hcase j with ⟨i,hi,rfl⟩|⟨h1,h2|h2⟩
  ·rcases hkeep' i hi with ⟨hb,hii,e⟩|hn
   ·left
    rw [F1 i hi,hbox i hb,hc1 i hii,<-e];exact hj
   ·have:=h.me (ρ' i)
    rw [hn] at this
    rw [show γ (ρ' i)=none from this] at hj;cases hj
  ·exact aC (aD (F2 j h1 h2))
  ·exact aD (by rw [F3 j h1 h2];exact hj)
 ·obtain ⟨h1,h2⟩:=ztj hj
  rw [hids'] at h1
  have h3:∀ i∈ids,ρ i≠j:=fun i hi e=>by
   have hc:=hcov i hi
   rw [aU] at hc
   rcases hc with hc|hc
   ·exact h2 (by rw [<-e];exact (Dc _ _).1 hc)
   ·obtain ⟨k,hk,hke⟩:=bC.1 hc
    exact h1 k hk ((aA hke).trans e)
  refine ⟨F3 j h1 h3,fun g s hg hm=>(hfr g (hother j g s h3 hg hm) (h.ge g ⟨j,s,hg,hm⟩).2).1⟩
 ·rcases wrG_get (by rw [hids'];exact hnd) hj with ⟨i,e0,he0,hi,rfl,rfl⟩|⟨h1,h2,rfl⟩
  ·rw [hids'] at hi
   have:=hst.me i
   unfold AS.find at this
   rw [he0] at this
   obtain ⟨x,hx,he⟩:=this
   refine ⟨x,by rw [F1 i hi];exact hx,?_⟩
   have hm:=hin (i,e0) (S1 he0)
   cases e0 with
   |box ty cs =>
    obtain ⟨g,vs,hdd,hb,hsz,hr,hone⟩:=he
    simp only [Ent.inM] at hm
    refine ⟨g,vs,hdd,hb,by rw [hsz,aE],fun k hk=>?_,hone⟩
    have hk':=hk
    rw [aE] at hk'
    rw [bF ρ' _ k hk']
    exact hmv ((hr k hk').renF F1 (bG hm k hk'))
   |row ty sz xs =>
    obtain ⟨s,vs,hdd,h1,hown,hlen,hr,hone⟩:=he
    exact ⟨s,vs,hdd,h1,hown,hlen,fun k hk j hj=>hmv (hr k hk j hj),hone⟩
   |mp ps =>
    obtain ⟨g,hdd,hm⟩:=he
    exact ⟨g,hdd,hm.move (aB _) (fun b hb _=>⟨rfl,hS b hb⟩) rfl⟩
   |nest ty es=>exact B6.nest_mono he hS
   |mpn ps=>exact B6.mpn_mono he hS
   |are ty idx os=>exact he.gmono (fun _ _ h=>by cases h) hS
   |it ps=>exact he.gmono (fun _ _ h=>by cases h) hS
   |itp ps=>exact he.gmono (fun _ _ h=>by cases h) hS
   |itc p ps=>exact he.gmono (fun _ _ h=>by cases h) hS
   |dead=>exact he
  ·rw [hids'] at h1
   obtain ⟨i,hi,hie⟩:=bC.1 (hdead j h2)
   exact ⟨none,F2 j h1 ⟨i,hi,aA hie⟩,rfl⟩
 ·rcases hcase i with ⟨k,hk,rfl⟩|⟨h1,h2|h2⟩
  ·rw [F1 k hk] at hi
   rcases hcase j with ⟨k',hk',rfl⟩|⟨h1',h2'|h2'⟩
   ·rw [F1 k' hk'] at hj
    rw [hst.inj _ _ _ _ _ hi hj mi mj]
   ·rw [F2 j h1' h2'] at hj;injection hj with hj;subst hj;simp [blks] at mj
   ·rw [F3 j h1' h2'] at hj
    exact absurd (aC ⟨⟨j,s',hj,mj⟩,hother j b s' h2' hj mj⟩) (hst.ge b ⟨k,s,hi,mi⟩).1.2
  ·rw [F2 i h1 h2] at hi;injection hi with hi;subst hi;simp [blks] at mi
  ·rw [F3 i h1 h2] at hi
   rcases hcase j with ⟨k',hk',rfl⟩|⟨h1',h2'|h2'⟩
   ·rw [F1 k' hk'] at hj
    exact absurd (aC ⟨⟨i,s,hi,mi⟩,hother i b s h2 hi mi⟩) (hst.ge b ⟨k',s',hj,mj⟩).1.2
   ·rw [F2 j h1' h2'] at hj;injection hj with hj;subst hj;simp [blks] at mj
   ·rw [F3 j h1' h2'] at hj;exact h.inj _ _ _ _ _ hi hj mi mj
 ·rcases hown b hb with ho|⟨ho,_⟩
  ·have:=hst.ge b ho
   exact ⟨⟨this.1.1,fun h5=>this.1.2 (aD h5)⟩,this.2⟩
  ·exact ⟨(h.ge b ho).1,aY (h.ge b ho).2 hz⟩
 ·exact hmv (hu.renF F1 hres)
end
open Go.RowKit
abbrev CalT:=Array Value->Array Value->World->(Ending->World->Prop)->Prop
def CalF (P:Program)(f k:Nat):CalT:=fun vs cs w R=>cs.size=k->Calls P f (vs++cs) w R
def CalY (P:Program)(l:Nat):CalT:=fun vs cs w R=>YieldAt Fence.wide 0 P l vs w R
def ConG (P:Program)(yl:Option (Nat×Obj))(C:CalT)(args caps:List AV)(me:List (Nat×Ent))(res:AV)(me':List (Nat×Ent)):Prop :=
 ∀ (cx:Cx) (γ:Gam) (w:World) (vs cs:Array Value),cx.E.P=P->cx.E.dr=false->(∀ x,yl=some x->cx.E.yl=some x)->cx.nt=0->cx.E.np=0->MeSt cx γ me w->vs.size=args.length ->
  (∀ i (hi:i<args.length),Rep w (Sg cx.S0 cx.w0.heap.size γ) γ args[i] (vs.getD i undef))->(∀ i (hi:i<caps.length),Rep w (Sg cx.S0 cx.w0.heap.size γ) γ caps[i] (cs.getD i undef)) ->
  C vs cs w fun e w'=>∃ u γ',e=.returned u/\MeSt cx γ' me' w'/\Rep w' (Sg cx.S0 cx.w0.heap.size γ') γ' res u/\w.heap.size<=w'.heap.size/\(∀ i,Ik me me' i=true->γ' i=γ i) /\
   (∀ b,¬own γ b->b<w.heap.size->w'.heap[b]? = w.heap[b]? /\ ¬own γ' b)
variable {σ:AS}{l:List (Nat×Ent)}
theorem LeE.congr {τ:AS}(h:LeE σ ρ ids l)(hc:∀ i∈l.map (·.1),τ.find (ρ i)=σ.find (ρ i)):LeE τ ρ ids l:=by
 induction l with
 |nil=>trivial
 |cons x r ih =>
  obtain ⟨i,e⟩:=x
  simp only [LeE] at h ⊢
  exact ⟨⟨(hc i (by simp)).trans h.1.1,h.1.2⟩,ih h.2 (fun j hj=>hc j (by simp at hj ⊢;exact aC hj))⟩
def LeF (find:Nat->Option Ent)(ρ:Nat->Nat)(ids:List Nat):List (Nat×Ent)->Prop
 |[]=>True
 |(i,e)::r=>(find (ρ i)=some (e.renI ρ)/\e.inM ids=true)/\LeF find ρ ids r
theorem LeF.le (h:LeF σ.find ρ ids l):LeE σ ρ ids l:=by
 induction l with
 |nil=>trivial
 |cons x r ih=>exact ⟨h.1,ih h.2⟩
structure Ct (find:Nat->Option Ent) (ρ ρ':Nat->Nat) (me me':List (Nat×Ent)) (res:AV) (dead:List Nat):Prop where
 inj:injB ρ (me.map (·.1))=true
 nd:Ry (me'.map (·.1))=true
 inj':injB ρ' (me'.map (·.1))=true
 hin:me'.all (fun x=>x.2.inM (me'.map (·.1)))=true
 keep:(me'.map (·.1)).all (Z1 find ρ ρ' me)=true
 cov:(me.map (·.1)).all (fun i=>memB (ρ i) dead || (me'.map (·.1)).any fun k=>aJ (ρ' k) (ρ i))=true
 dd:dead.all (fun j=>(me.map (·.1)).any fun i=>aJ (ρ i) j)=true
 res:res.inM (me'.map (·.1))=true
def idsG (ρ ρ':Nat->Nat)(me me':List (Nat×Ent)):List Nat:=(me.map (·.1)).map ρ++(me'.map (·.1)).map ρ'
variable {ρ':Nat->Nat}{me me':List (Nat×Ent)}{res:AV}{dead:List Nat}
theorem zq3 {find:Nat->Option Ent}(h:Ct find ρ ρ' me me' res dead)(id:Nat)(e:Ent)(he:lkE (wrG ρ' me' dead) id=some e):id∈idsG ρ ρ' me me':=by
 rcases wrG_get h.nd he with ⟨i,_,_,hi,rfl,_⟩|⟨_,h2,_⟩
 ·exact aT _ (aL hi)
 ·have:=aM.1 h.dd id h2
  obtain ⟨i,hi,hie⟩:=bC.1 this
  rw [<-aA hie]
  exact aN _ (aL hi)
theorem Ct.congr {f g:Nat->Option Ent}(h:Ct f ρ ρ' me me' res dead)(hc:∀ id∈idsG ρ ρ' me me',g id=f id):Ct g ρ ρ' me me' res dead:=by
 refine ⟨h.inj,h.nd,h.inj',h.hin,?_,h.cov,h.dd,h.res⟩
 have hk:=h.keep
 rw [aM] at hk ⊢
 intro i hi
 have:=hk i hi
 unfold Z1 at this ⊢
 rw [hc (ρ' i) (aT _ (aL hi))]
 exact this
section
variable {cx:Cx} {σ:AS} {o:Oper}
theorem zm5 {γc:Gam}{τ:AS}{a:Act}{w':World}{dst:Option Nat}{u:Value}{γ':Gam}(hst:StG cx γ τ a w)(hn:Ct τ.find ρ ρ' me me' res dead)(hdr0:cx.E.dr=false)
  (hd:∀ x,dst=some x->cx.E.np<=x/\x<cx.nt) (hc1:∀ i∈me.map (·.1),γc i=γ (ρ i)) (hc2:∀ i,i ∉ me.map (·.1)->γc i=none)
  (h1:MeSt (Cx.sub cx γ γc w) γ' me' w') (h2:Rep w' (Sg (Cx.sub cx γ γc w).S0 cx.w0.heap.size γ') γ' res u) (h3:w.heap.size<=w'.heap.size) (h4:∀ i,Ik me me' i=true->γ' i=γc i)
  (h5:∀ b,¬own γc b->b<w.heap.size->w'.heap[b]? = w.heap[b]? /\ ¬own γ' b):St cx (τ.upd dst (res.ren ρ') (wrG ρ' me' dead)) (a.put dst u) w' :=
 hst.join hn.inj hc1 hc2 h1 h3 h4 h5 (fun h=>absurd (hdr0.symm.trans h) (by simp)) hd hn.nd hn.inj' hn.hin hn.keep hn.cov hn.dd h2 hn.res
theorem Y7 {γc:Gam}{S':Nat->Prop}{l m:List AV}{vs:Nat->Value}(hc1:∀ i∈ids,γc i=γ (ρ i))(hS:∀ b,S b->S' b)(he:bD ρ l=m)(hin:bE ids l=true)
  (h:∀ i (hi:i<m.length),Rep w S γ m[i] (vs i)):∀ i (hi:i<l.length),Rep w S' γc l[i] (vs i):=fun i hi=>by
 subst he
 have:=h i (by rw [aE];exact hi)
 exact ((this.ren hc1 _ (bF _ _ _ _) (bG hin i hi))).mono (aB _) (fun b hb _=>⟨rfl,hS b hb⟩)
variable {x:Operand}{args:Array Operand}{tys:Array TypeId}{cargs:List AV}{yl:Option (Nat×Obj)}
theorem znb {f:Nat}{cap:List AV}(ho:o.op=.call { callee:=.value x,args:=args,argTypes:=tys })(hd:dok cx o=true)(hxo:A5 x=true)(hok:args.toList.all A5=true)(hx:σ.eval x=.fn f cap)
  (he:C6 cx.E f) (hdr0:cx.E.dr=false) (hra:bD ρ cargs=Bw σ args cap) (hia:bE (me.map (·.1)) cargs=true) (hle:LeE σ ρ (me.map (·.1)) me) (hn:Ct σ.find ρ ρ' me me' res dead)
   (hyl:∀ x,yl=some x->cx.E.yl=some x) (hc:ConG cx.P yl (CalF cx.P f 0) cargs [] me res me'):Ag cx o σ (res.ren ρ') (idsG ρ ρ' me me') (wrG ρ' me' dead):=by
 refine ⟨zq3 hn,fun τ h1 h2 a w Q K ⟨γ,hst⟩ hK=>Bu (fun c hc=>by rw [ho] at hc;cases hc) ?_⟩
 have hop:o.op.operands=#[x]++args:=by simp [ho,Op.operands,Call.operands]
 obtain ⟨caps,hcx,hl,hr⟩:=O0 hst hok hxo (fun y hy=>h1 y (by rw [hop];simp at hy ⊢;exact aC hy)) (h1 x (by rw [hop];simp)) hx
 have hle':LeE τ ρ (me.map (·.1)) me:=hle.congr (fun i hi=>h2 _ (aN _ (aL hi)))
 have hn':Ct τ.find ρ ρ' me me' res dead:=hn.congr (fun id hid=>h2 id hid)
 obtain ⟨γc,hc1,hc2,hown,hS,hme⟩:=hst.part hn.inj hle'
 unfold Oper.wp
 rw [Nx ho hcx he]
 show Calls _ _ _ _ _
 have hal:(args.map a.eval++caps).size=cargs.length:=by rw [hl,<-hra,aE]
 have H:=hc (Cx.sub cx γ γc w) γc w (args.map a.eval++caps) #[] rfl hdr0 hyl rfl rfl hme hal
  (Y7 (γ:=γ) (S:=Sg cx.S0 cx.w0.heap.size γ) (vs:=fun i=>(args.map a.eval++caps).getD i undef) hc1 (fun b hb=>(hS b).2 hb) hra hia hr) (fun i hi=>absurd hi (by simp)) rfl
 rw [aZ] at H
 refine H.mono ?_
 rintro e w' ⟨u,γ',rfl,q1,q2,q3,q4,q5⟩
 exact hK _ _ (zm5 hst hn' hdr0 (Bm hd) hc1 hc2 q1 q2 q3 q4 q5)
theorem zcz {P:Program}{l:Nat}{a:Act}(ho:o.op=.call { callee:=.value x,args:=args,argTypes:=tys })(hx:a.eval x=.func (.yield l) #[] #[]) :
  (execOp a.eval o).run P w=(Instr.yield l (args.map a.eval)).run P w:=by
 simp only [execOp,ho,resolve,hx,Deferred.ofValue,invoke,Sem.run_bind,Sem.run_pure,Result.andThen_ok,Array.empty_append]
theorem zqi {l:Nat}{T:Array Value}{cap ccaps:List AV}(ho:o.op=.call { callee:=.value x,args:=args,argTypes:=tys })(hd:dok cx o=true)(hxo:A5 x=true)(hok:args.toList.all A5=true)(hx:σ.eval x=.yld l T cap)
  (hdr0:cx.E.dr=false) (hra:bD ρ cargs=args.toList.map σ.eval) (hrc:bD ρ ccaps=cap) (hia:bE (me.map (·.1)) cargs=true) (hic:bE (me.map (·.1)) ccaps=true) (hle:LeE σ ρ (me.map (·.1)) me) (hn:Ct σ.find ρ ρ' me me' res dead)
   (hyl:∀ x,yl=some x->cx.E.yl=some x) (hc:ConG cx.P yl (fun vs cs w R=>cs=T->CalY cx.P l vs cs w R) cargs ccaps me res me'):Ag cx o σ (res.ren ρ') (idsG ρ ρ' me me') (wrG ρ' me' dead):=by
 refine ⟨zq3 hn,fun τ h1 h2 a w Q K ⟨γ,hst⟩ hK=>?_⟩
 have hop:o.op.operands=#[x]++args:=by simp [ho,Op.operands,Call.operands]
 have h1a:∀ y∈args.toList,τ.eval y=σ.eval y:=fun y hy=>h1 y (by rw [hop];simp at hy ⊢;exact aC hy)
 have hev:=hst.ev x hxo
 rw [h1 x (by rw [hop];simp),hx] at hev
 obtain ⟨hcx,hr⟩:=hev.yld_inv
 have hle':LeE τ ρ (me.map (·.1)) me:=hle.congr (fun i hi=>h2 _ (aN _ (aL hi)))
 have hn':Ct τ.find ρ ρ' me me' res dead:=hn.congr (fun id hid=>h2 id hid)
 obtain ⟨γc,hc1,hc2,hown,hS,hme⟩:=hst.part hn.inj hle'
 have hal:(args.map a.eval).size=cargs.length:=by rw [Array.size_map];have:=congrArg length hra;rw [aE,length_map,aH] at this;exact this.symm
 have H:=hc (Cx.sub cx γ γc w) γc w (args.map a.eval) T rfl hdr0 hyl rfl rfl hme hal
  (Y7 (γ:=γ) (S:=Sg cx.S0 cx.w0.heap.size γ) (vs:=fun i=>(args.map a.eval).getD i undef) hc1 (fun b hb=>(hS b).2 hb) hra hia (fun i hi=>by
    have hi':i<args.size:=by simpa using hi
    simp only [bB,aW]
    have e:(args.map a.eval).getD i undef=a.eval args[i]:=by simp [aP,hi']
    rw [e,<-h1a args[i] (by simp)]
    exact hst.ev _ (aM.mp hok _ (by simp))))
  (Y7 (γ:=γ) (S:=Sg cx.S0 cx.w0.heap.size γ) (vs:=fun i=>T.getD i undef) hc1 (fun b hb=>(hS b).2 hb) hrc hic hr) rfl
 obtain ⟨fn,tmps,assign,body,hy,hround⟩:=H
 refine ⟨fun _ _=>trivial,?_⟩
 rw [Oper.semAt_eq _ _ _ (fun c hc=>by rw [ho] at hc;cases hc),zcz ho hcx,hy]
 refine ⟨fun h=>by simp [Fence.wide] at h,RoundIn.mono (F:=cx.F) (n:=0) (hround:_) ?_⟩
 rintro e w' ⟨u,γ',rfl,q1,q2,q3,q4,q5⟩
 exact hK _ _ (zm5 hst hn' hdr0 (Bm hd) hc1 hc2 q1 q2 q3 q4 q5)
end
open Go.RowKit
abbrev recR (fn:FuncId)(T:Array Value)(ps:Array Tmp)(assign body:Code)(D:Nat):Loop:={ state:=.ready,pending:=none,fn:=fn,tmps:=T,params:=ps,assign:=assign,body:=body,defers:=D }
section
variable {w:World} {r:Nat} {o:Obj}
theorem C4 {b:Nat}(h:b≠r):(w.putObj r o).heap[b]? = w.heap[b]? := World.putObj_heap_other h
theorem Cz:(w.putObj r o).heap.size=w.heap.size:=by simp [World.putObj]
theorem Rep.putObj {av:AV}{v:Value}(hn:∀ off,w.cell? ⟨r,off,none⟩=none)(hnm:∀ es c,w.heap[r]? ≠ some (.map es c))(h:Rep w S γ av v):Rep (w.putObj r o) S γ av v:=by
 have key:∀ b off u,w.cell? ⟨b,off,none⟩=some u->(w.putObj r o).cell? ⟨b,off,none⟩=some u:=fun b off u hu=>by
  have hne:b≠r:=fun e=>by subst e;rw [hn off] at hu;cases hu
  exact (World.cell?_of_block (w:=w) (a:=⟨b,off,none⟩) (C4 hne)).trans hu
 induction h with
 |any=>exact .any _
 |int=>exact .int _ _
 |bool=>exact .bool _
 |str=>exact .str _
 |nilp=>exact .nilp
 |ptr h hv=>exact .ptr h hv
 |elt h hv=>exact .elt h hv
 |nils=>exact .nils
 |sl A c cell hc hlen hb hr h1 ih =>
  refine .sl A c cell hc hlen (fun h0=>?_) (fun k hk j hj=>ih k hk j hj) h1
  obtain ⟨b,off,hA,hS,hlt,hcell⟩:=hb h0
  exact ⟨b,off,hA,hS,by rw [Cz];exact hlt,fun k j h1 h2=>key _ _ _ (hcell k j h1 h2)⟩
 |row h hv=>exact .row h hv
 |fn vs hl hr ih=>exact .fn vs hl ih
 |yld hr ih=>exact .yld ih
 |nilf=>exact .nilf
 |agg vs hl hr h1 ih=>exact .agg vs hl ih h1
 |tup vs hl hr ih=>exact .tup vs hl ih
 |ref b off cell hS hb hc hr h1 ih=>exact .ref b off cell hS (by rw [Cz];exact hb) (fun j hj=>key _ _ _ (hc j hj)) ih h1
 |der h hv=>exact .der h hv
 |cont h hv hl=>exact .cont h hv hl
 |mapv ps0 hp g es clock hb hS hg hh hl hk hv ih1 ih2=>exact .mapv ps0 hp g es clock hb hS (by rw [Cz];exact hg) ((C4 (fun e=>by subst e;exact hnm _ _ hh)).trans hh) hl ih1 ih2
 |mapn=>exact .mapn
 |slen A n c=>exact .slen A n c
variable {L:List MapEntry}{ps:List (AV×AV)}
theorem RepL.putObj (hn:∀ off,w.cell? ⟨r,off,none⟩=none)(hnm:∀ es c,w.heap[r]? ≠ some (.map es c))(h:RepL w S L ps):RepL (w.putObj r o) S L ps:=⟨h.1,fun j q q'=>⟨(h.2 j q q').1.putObj hn hnm,(h.2 j q q').2.putObj hn hnm⟩⟩
theorem RepM.putObj (hn:∀ off,w.cell? ⟨r,off,none⟩=none)(hnm:∀ es c,w.heap[r]? ≠ some (.map es c))(h:RepM w S L ps):RepM (w.putObj r o) S L ps:=by
 obtain ⟨ps0,h1,h2⟩:=h
 exact ⟨ps0,h1,RepL.putObj hn hnm h2⟩
theorem ItIs.putObj {g:Nat}{P P':Array MapEntry->Array Nat->Nat->Nat->Prop}(hn:∀ off,w.cell? ⟨r,off,none⟩=none)(hnm:∀ es c,w.heap[r]? ≠ some (.map es c))(hgr:g≠r)(h:ItIs w S g P)(hP:∀ es s c d,P es s c d->P' es s c d):ItIs (w.putObj r o) S g P':=by
 rcases h with ⟨bm,since,seen,c0,es,clock,h1,h2,h3,h4,h5,h6,h7,h8,h9⟩|⟨a,b,s,h1,h2⟩
 ·exact aD ⟨bm,since,seen,c0,es,clock,(C4 hgr).trans h1,h2,by rw [Cz];exact h3,(C4 (fun e=>by subst e;exact hnm _ _ h4)).trans h4,h5,h6,h7,h8,hP _ _ _ _ h9⟩
 ·exact aC ⟨a,b,s,(C4 hgr).trans h1,hP _ _ _ _ h2⟩
theorem B6.putObj {B:Nat}{e:Ent}(hn:∀ off,w.cell? ⟨r,off,none⟩=none)(hnm:∀ es c,w.heap[r]? ≠ some (.map es c))(hd:∀ b,b∈blks d->b≠r)(h:B6 w S γ B d e):B6 (w.putObj r o) S γ B d e:=by
 cases e with
 |box ty cells =>
  obtain ⟨g,vs,hd',hb,hs,hr,h1⟩:=h
  exact ⟨g,vs,hd',(C4 (hd g (by rw [hd'];exact Bh))).trans hb,hs,fun i hi=>(hr i hi).putObj hn hnm,h1⟩
 |row ty sz xs =>
  obtain ⟨s,vs,hd',h1,hown,hc,hr,ho⟩:=h
  refine ⟨s,vs,hd',h1,⟨hown.1,hown.2.elim aD (fun ⟨g,cap,cur,hv,hg,hh,q⟩=>aC ⟨g,cap,cur,hv,hg,?_,q⟩)⟩,hc,fun k hk' j hj=>(hr k hk' j hj).putObj hn hnm,ho⟩
  subst hv
  exact (C4 (hd g (by rw [hd'];exact Bh))).trans hh
 |mp ps =>
  obtain ⟨g,hd',es,clock,q1,q2,qb,q3⟩:=h
  exact ⟨g,hd',es,clock,(C4 (hd g (by rw [hd'];exact Bh))).trans q1,q2,qb,fun j h h'=>⟨(q3 j h h').1.putObj hn hnm,(q3 j h h').2.putObj hn hnm⟩⟩
 |nest ty es =>
  obtain ⟨s,vs,hd',h1,hsz,⟨us,hown,hu,hus⟩,hns,hnd⟩:=h
  have hb0:∀ g,Az s=some g->(w.putObj r o).heap[g]? = w.heap[g]? := fun g hg=>C4 (hd g (by rw [hd'];simp [blks,Ca,hg]))
  refine ⟨s,vs,hd',h1,hsz,⟨us,hown.moved fun g hg=>hb0 g hg,hu,hus⟩,fun k hk=>?_,hnd⟩
  have hbk:∀ g,Az (vs.getD k undef)=some g->g≠r:=fun g hg=>hd g (by
   rw [hd']
   simp only [blks,aQ,bH,Ca,aX]
   refine ⟨vs.getD k undef,?_,hg⟩
   have:k<vs.size:=by omega
   simp [aP,this])
  have hk':=hns k hk
  generalize es[k]=e at hk'
  cases e with
  |row ty sz xs =>
   obtain ⟨q1,us',q2,q3,q4,q5⟩:=hk'
   exact ⟨q1,us',q2.moved (fun g hg=>C4 (hbk g hg)),q3,fun k hk j hj=>(q4 k hk j hj).putObj hn hnm,q5⟩
  |mp ps =>
   obtain ⟨g,ps0,hv,⟨es,clock,q1,q2,qb,q3⟩,hp⟩:=hk'
   exact ⟨g,ps0,hv,⟨es,clock,(C4 (hbk g (by rw [hv];rfl))).trans q1,q2,qb,fun j h h'=>⟨(q3 j h h').1.putObj hn hnm,(q3 j h h').2.putObj hn hnm⟩⟩,hp⟩
  |hole=>exact hk'
 |mpn ps =>
  obtain ⟨g,es,vs,hd',hh,hl,hsz,hbn,hkk,hvv,hns,hnd⟩:=h
  have hg0:(w.putObj r o).heap[g]? = w.heap[g]? := C4 (hd g (by rw [hd'];simp [blks,Ca,Az]))
  refine ⟨g,es,vs,hd',hg0.trans hh,hl,hsz,hbn,fun j h h'=>(hkk j h h').putObj hn hnm,hvv,fun k hk=>?_,hnd⟩
  have hbk:∀ g,Az (vs.getD k undef)=some g->g≠r:=fun g hg=>hd g (by
   rw [hd']
   simp only [blks,aQ,bH,Ca,aX]
   refine ⟨vs.getD k undef,?_,hg⟩
   have:k<vs.size:=by omega
   simp [aP,this])
  have hk':=hns k hk
  generalize (ps[k]).2=e at hk'
  cases e with
  |row ty sz xs =>
   obtain ⟨q1,us',q2,q3,q4,q5⟩:=hk'
   exact ⟨q1,us',q2.moved (fun g hg=>C4 (hbk g hg)),q3,fun k hk j hj=>(q4 k hk j hj).putObj hn hnm,q5⟩
  |mp ps =>
   obtain ⟨g,ps0,hv,⟨es,clock,q1,q2,qb,q3⟩,hp⟩:=hk'
   exact ⟨g,ps0,hv,⟨es,clock,(C4 (hbk g (by rw [hv];rfl))).trans q1,q2,qb,fun j h h'=>⟨(q3 j h h').1.putObj hn hnm,(q3 j h h').2.putObj hn hnm⟩⟩,hp⟩
  |hole=>exact hk'
 |are ty idx os =>
  obtain ⟨s,vs,us,hd',h1,hsz,hown,hu,hix,hns,hnd⟩:=h
  have hb0:∀ g,Az s=some g->(w.putObj r o).heap[g]? = w.heap[g]? := fun g hg=>C4 (hd g (by rw [hd'];simp [blks,Ca,hg]))
  refine ⟨s,vs,us,hd',h1,hsz,hown.moved fun g hg=>hb0 g hg,hu,fun k hk=>⟨fun h=>((hix k hk).1 h).putObj hn hnm,(hix k hk).2⟩,fun k hk=>⟨(hns k hk).1,?_⟩,hnd⟩
  have hbk:∀ g,Az (vs.getD k undef)=some g->g≠r:=fun g hg=>hd g (by
   rw [hd']
   simp only [blks,aQ,bH,Ca,aX]
   refine ⟨vs.getD k undef,?_,hg⟩
   have:k<vs.size:=by omega
   simp [aP,this])
  have hk':=(hns k hk).2
  generalize os[k]=e at hk'
  cases e with
  |row ty sz xs =>
   obtain ⟨q1,us',q2,q3,q4,q5⟩:=hk'
   exact ⟨q1,us',q2.moved (fun g hg=>C4 (hbk g hg)),q3,fun k hk j hj=>(q4 k hk j hj).putObj hn hnm,q5⟩
  |mp ps =>
   obtain ⟨g,ps0,hv,⟨es,clock,q1,q2,qb,q3⟩,hp⟩:=hk'
   exact ⟨g,ps0,hv,⟨es,clock,(C4 (hbk g (by rw [hv];rfl))).trans q1,q2,qb,fun j h h'=>⟨(q3 j h h').1.putObj hn hnm,(q3 j h h').2.putObj hn hnm⟩⟩,hp⟩
  |hole=>exact hk'
 |it ps =>
  obtain ⟨g,hd',hi⟩:=h
  exact ⟨g,hd',hi.putObj hn hnm (hd g (by rw [hd'];exact Bh)) (fun es s c d h=>RepM.putObj hn hnm h)⟩
 |itp ps =>
  obtain ⟨g,hd',hi⟩:=h
  exact ⟨g,hd',hi.putObj hn hnm (hd g (by rw [hd'];exact Bh)) (fun es s c d ⟨h0,s0,e,h1,h2,h3⟩=>⟨h0,s0,e,h1,h2,RepM.putObj hn hnm h3⟩)⟩
 |itc p ps =>
  obtain ⟨g,hd',hi⟩:=h
  exact ⟨g,hd',hi.putObj hn hnm (hd g (by rw [hd'];exact Bh)) (fun es s c d ⟨h0,s0,e,h1,h2,h3,h4⟩=>⟨h0,s0,e,h1,h2,⟨h3.1.putObj hn hnm,h3.2.putObj hn hnm⟩,RepM.putObj hn hnm h4⟩)⟩
 |dead=>exact h
theorem zre {k:Nat}(h:w.heap[r]? = some o)(ho:o.isCells=false)(off:Nat):w.cell? ⟨r,off,none⟩=none:=by
 cases hq:w.cell? ⟨r,off,none⟩ with
 |none=>rfl
 |some u =>
  obtain ⟨o',h1,h2⟩:=cells_of_cell hq
  rw [h] at h1
  injection h1 with h1
  rw [h1,h2] at ho;cases ho
end
section
variable {cx:Cx} {γ:Gam} {σ:AS} {a:Act} {w:World}
theorem StG.putObj (h:StG cx γ σ a w){r:Nat}{o o':Obj}{ds:List Deferred}(hr:w.heap[r]? = some o)(ho:o.isCells=false)(hB:cx.w0.heap.size<=r)(hno:¬own γ r)(hbk:Book cx γ { a with defers:=ds } (w.putObj r o'))(hfr:∀ b,cx.Fr b->b≠r)(hom:∀ es c,o≠.map es c:=by intro es c h;cases h)(hom:∀ es c,o≠.map es c:=by intro es c h;cases h):StG cx γ σ { a with defers:=ds } (w.putObj r o'):=by
 have hn:=zre (k:=0) hr ho
 have hnm:∀ es c,w.heap[r]? ≠ some (.map es c):=fun es c h=>by rw [hr] at h;injection h with h;exact hom es c h
 have hne:∀ b,own γ b->b≠r:=fun b hb e=>hno (e▸hb)
 refine ⟨fun t=>(h.tm t).putObj hn hnm,fun id=>?_,h.inj,fun b hb=>by rw [Cz];exact h.ge b hb,h.below.trans ⟨rfl,rfl,rfl,by rw [Cz];exact aB _,fun b hb=>C4 (by omega)⟩,h.size,hbk,fun b hb=>by rw [Cz];exact h.gh b hb,fun b hb=>?_,h.dr⟩
 ·have:=h.me id
  cases hf:σ.find id with
  |none=>rw [hf] at this;exact this
  |some e =>
   rw [hf] at this
   obtain ⟨x,hx,he⟩:=this
   exact ⟨x,hx,he.putObj hn hnm (fun b hb=>hne b ⟨id,x,hx,hb⟩)⟩
 ·obtain ⟨q1,q2,q3⟩:=h.fr b hb
  exact ⟨q1,by rw [Cz];exact q2,(C4 (hfr b hb)).trans q3⟩
end
def LeY (σ:AS)(ρ:Nat->Nat)(ids:List Nat):Nat->List AV->Prop
 |_,[]=>True
 |t,.any::r=>LeY σ ρ ids (t+1) r
 |t,x::r=>(σ.get t=x.ren ρ/\x.inM ids=true)/\LeY σ ρ ids (t+1) r
theorem LeY.at:∀ {l:List AV} {n:Nat},LeY σ ρ ids n l->∀ t (ht:t<l.length),l[t]=.any\/(σ.get (n+t)=l[t].ren ρ/\l[t].inM ids=true)
 |[],n,h,t,ht=>by simp at ht
 |x::r,n,h,t,ht=>by
  cases t with
  |zero =>
   cases x<;>first|exact aD rfl|exact aC h.1
  |succ t =>
   have hr:LeY σ ρ ids (n+1) r:=by cases x<;>first|exact h|exact h.2
   have:=hr.at t (by simpa using ht)
   rw [show n+1+t=n+(t+1) by omega] at this
   exact this
theorem WP.rangeFunc {cx:Cx}{g:Operand}{ps:Array Tmp}{assign body:Code}{Q:Exit->AS->Prop}{gf:Nat}{cap ycaps ccaps:List AV}
  (hrg:cx.E.rg=true) (hdr0:cx.E.dr=false) (hyl0:cx.E.yl=none) (hgo:A5 g=true) (hx:σ.eval g=.fn gf cap) (he:C6 cx.E gf)
  (hrc:bD ρ ccaps=cap) (hic:bE (me.map (·.1)) ccaps=true) (hy:LeY σ ρ (me.map (·.1)) 0 ycaps) (hle:LeE σ ρ (me.map (·.1)) me) (hn:Ct σ.find ρ ρ' me me' (.tup []) dead)
  (hiter:∀ (l D:Nat) (fn:FuncId) (T:Array Value),T.size=cx.nt->ConG cx.P (some (l,.loop (recR fn T ps assign body D))) (CalF cx.P gf 0) (.yld l T ycaps::ccaps) [] me (.tup []) me')
  (k:Q .normal (σ.upd none (.tup []) (wrG ρ' me' dead))):WP cx (.rangeFunc g ps assign body) Q σ:=by
 have hrd:cx.rd=none:=cx.hrd hrg
 intro a w ⟨γ,hst⟩
 have hev:=hst.ev g hgo
 rw [hx] at hev
 obtain ⟨caps,hcx,hl,_⟩:=hev.fn_inv
 refine wpIn_rangeFunc (fun fn hfn=>?_)
 obtain ⟨W1,hW1⟩:∃ W1,(w.alloc (.deferred (some []))).alloc (.loop (recR fn a.tmps ps assign body w.heap.size))=W1:=⟨_,rfl⟩
 have hL1:W1.heap[w.heap.size+1]? = some (.loop (recR fn a.tmps ps assign body w.heap.size)):=by
  rw [<-hW1];have:=World.alloc_heap_new (w.alloc (.deferred (some []))) (.loop (recR fn a.tmps ps assign body w.heap.size));rwa [World.size_alloc] at this
 have hK1:W1.heap[w.heap.size]? = some (.deferred (some [])):=by
  rw [<-hW1];exact (Below.heap_alloc _ _ _ (by simp)).trans (World.alloc_heap_new w _)
 have hs1:W1.heap.size=w.heap.size+2:=by rw [<-hW1];simp
 have hb1:Below w.heap.size w W1:=by rw [<-hW1];exact ((Below.refl _ w).alloc (aB _) _).alloc (by simp) _
 have hst1:StG cx γ (σ.upd none .any []) (a.put none undef) W1:=hst.grow (dst:=none) (av:=.any) (v:=undef) (fun x hx=>by cases hx) hb1 (fun h=>absurd (hdr0.symm.trans h) (by simp)) (.any _)
 have hxt:Ext σ (σ.upd none .any []):=⟨fun _=>rfl,fun _=>rfl⟩
 have hst1:StG cx γ σ a W1:=⟨fun t=>hst1.tm t,fun i=>hst1.me i,hst1.inj,hst1.ge,hst1.below,hst1.size,hst1.defers,hst1.gh,hst1.fr,hst1.dr⟩
 have hnl:∀ b,own γ b->b<w.heap.size:=fun b hb=>(hst.ge b hb).2
 have hBw:cx.w0.heap.size<=w.heap.size:=hst.below.size
 -- the iterator's part
 obtain ⟨γc,hc1,hc2,hown,hS,hme⟩:=hst1.part hn.inj hle
 let cxs:Cx:={ Cx.sub cx γ γc W1 with E:={ cx.E with np:=0,yl:=some (w.heap.size+1,.loop (recR fn a.tmps ps assign body w.heap.size)) },hrd:=fun _=>rfl }
 have hme':MeSt cxs γc me W1:=⟨hme.tm,hme.me,hme.inj,hme.ge,hme.below,rfl,⟨fun _=>rfl,⟨[],rfl,.nil,fun r hr=>by cases hr⟩,fun t ht=>absurd ht (aV _),fun l R hlR=>by
  have e:some (w.heap.size+1,Obj.loop (recR fn a.tmps ps assign body w.heap.size))=some (l,R):=hlR
  injection e with e
  injection e with e1 e2
  subst e1 e2
  exact ⟨by show cx.w0.heap.size<=_;omega,by omega,fun ho=>by have:=hnl _ (hown _ ho);omega,hL1⟩,aB _⟩,hme.gh,fun b hb=>hb.elim,hme.dr⟩
 have hevc:=hst1.ev g hgo
 rw [hx] at hevc
 obtain ⟨caps',hcx',_,hrcap⟩:=hevc.fn_inv
 rw [hcx] at hcx'
 injection hcx' with _ _ hcx'
 subst hcx'
 have hcaps:=Y7 (γ:=γ) (γc:=γc) (w:=W1) (S:=Sg cx.S0 cx.w0.heap.size γ) (S':=Sg (Cx.sub cx γ γc W1).S0 cx.w0.heap.size γc) (vs:=fun i=>caps.getD i undef) hc1 (fun b hb=>(hS b).2 hb) hrc hic hrcap
 have hyld:Rep W1 (Sg (Cx.sub cx γ γc W1).S0 cx.w0.heap.size γc) γc (.yld (w.heap.size+1) a.tmps ycaps) (.func (.yield (w.heap.size+1)) #[] #[]):=.yld (fun t ht=>by
  rcases hy.at t ht with ha|⟨ha,hm⟩
  ·rw [ha];exact .any _
  ·rw [Nat.zero_add] at ha
   have r1:=hst1.tm t
   rw [ha] at r1
   exact (r1.ren hc1 _ rfl hm).mono (aB _) (fun b hb _=>⟨rfl,(hS b).2 hb⟩))
 have H:=hiter (w.heap.size+1) w.heap.size fn a.tmps hst.size cxs γc W1 (#[.func (.yield (w.heap.size+1)) #[] #[]]++caps) #[] rfl hdr0 (fun x hx=>hx) rfl rfl hme' (by
   have:=congrArg length hrc
   rw [aE] at this
   simp [hl,this];omega)
  (fun i hi=>by
    match i with
    |0 =>
     have e:(#[Value.func (.yield (w.heap.size+1)) #[] #[]]++caps).getD 0 undef=.func (.yield (w.heap.size+1)) #[] #[]:=by
      rw [aF,Array.getElem?_append_left (by simp)];rfl
     rw [e];exact hyld
    |i+1 =>
     have:=hcaps i (by simpa using hi)
     have e:(#[Value.func (.yield (w.heap.size+1)) #[] #[]]++caps).getD (i+1) undef=caps.getD i undef:=by
      rw [aF,Array.getElem?_append_right (by simp),aF];simp
     rw [e];exact this)
  (fun i hi=>absurd hi (by simp)) rfl
 rw [aZ] at H
 refine ⟨w.heap.size+1,[{ target:=.collected w.heap.size,args:=#[] }],W1,{ target:=.fn (.func gf) caps,args:=#[.func (.yield (w.heap.size+1)) #[] #[]] },W1,gf,
  #[.func (.yield (w.heap.size+1)) #[] #[]]++caps,W1,?_,?_,?_,?_,fun h=>by simp [Fence.wide] at h,?_⟩
 ·show (Instr.enterLoop fn a.tmps ps assign body cx.rd).run cx.P w=_
  rw [hrd,<-hW1];exact run_enterLoop_outer _ _ _ _ _
 ·simp only [resolve,hcx]
  simp [go_sem]
 ·intro f' hf';trivial
 ·simp [invoke,go_sem,he _ _]
 ·refine CallsIn.mono (F:=cx.F) ((callsIn_wide (n:=0)).2 H:_) ?_
  rintro e W2 ⟨u,γ',rfl,q1,q2,q3,q4,q5⟩
  have hl2:W2.heap[w.heap.size+1]? = some (.loop (recR fn a.tmps ps assign body w.heap.size)):=(q5 _ (fun ho=>by have:=hnl _ (hown _ ho);omega) (by omega)).1.trans hL1
  have hk2:W2.heap[w.heap.size]? = some (.deferred (some [])):=(q5 _ (fun ho=>by have:=hnl _ (hown _ ho);omega) (by omega)).1.trans hK1
  refine ⟨none,_,run_endLoop (P:=cx.P) hl2 (by simp),?_⟩
  have q1':MeSt (Cx.sub cx γ γc W1) γ' me' W2:=⟨q1.tm,q1.me,q1.inj,q1.ge,q1.below,rfl,⟨fun _=>rfl,⟨[],rfl,.nil,fun r hr=>by cases hr⟩,fun t ht=>absurd ht (aV _),fun l R hlR=>absurd (hyl0.symm.trans hlR) (by simp),q1.defers.sz⟩,q1.gh,fun b hb=>hb.elim,q1.dr⟩
  -- the marked blocks are no one's
  let cx2:Cx:={ cx with Fr:=fun b=>cx.Fr b\/b=w.heap.size\/b=w.heap.size+1,w1:=W1 }
  have hst2:StG cx2 γ σ a W1:=⟨hst1.tm,hst1.me,hst1.inj,hst1.ge,hst1.below,hst1.size,⟨hst1.defers.d0,hst1.defers.marks,hst1.defers.pin,hst1.defers.yl,aB _⟩,hst1.gh,fun b hb=>by
   rcases hb with hb|hb|hb
   ·obtain ⟨p1,p2,_⟩:=hst1.fr b hb;exact ⟨p1,p2,rfl⟩
   ·exact ⟨fun ho=>by have:=hnl _ ho;omega,by omega,rfl⟩
   ·exact ⟨fun ho=>by have:=hnl _ ho;omega,by omega,rfl⟩,hst1.dr⟩
  obtain ⟨γ'',hj⟩:=zm5 (cx:=cx2) (dst:=none) (τ:=σ) hst2 hn hdr0 (fun x hx=>by cases hx) hc1 hc2 q1' q2 q3 q4 q5
  obtain ⟨d1,d2,d3⟩:=hj.fr w.heap.size (aC (aD rfl))
  obtain ⟨l1,l2,l3⟩:=hj.fr (w.heap.size+1) (aC (aC rfl))
  have hj1:StG cx γ'' (σ.upd none (AV.ren ρ' (.tup [])) (wrG ρ' me' dead)) a W2:=⟨hj.tm,hj.me,hj.inj,hj.ge,hj.below,hj.size,⟨hj.defers.d0,hj.defers.marks,hj.defers.pin,hj.defers.yl,bI hst1.defers.sz hj.defers.sz⟩,hj.gh,fun b hb=>by
   obtain ⟨p1,p2,p3⟩:=hj.fr b (aD hb)
   obtain ⟨p4,p5,p6⟩:=hst1.fr b hb
   exact ⟨p1,p2,p3.trans p6⟩,hj.dr⟩
  obtain ⟨rs,m1,m2,m3⟩:=hj1.defers.marks
  have hold:∀ r∈rs,r<w.heap.size:=fun r hr=>by
   obtain ⟨rs0,n1,n2,n3⟩:=hst.defers.marks
   have:rs0=rs:=by
    have e:=n1.symm.trans m1
    have hinj:∀ (x y:Nat),({ target:=.collected x,args:=#[] }:Deferred)={ target:=.collected y,args:=#[] }->x=y:=fun x y h=>by injection h with h _;injection h
    exact (List.map_inj_right hinj).1 e
   subst this
   exact (n3 r hr).2.1
  refine ⟨σ.upd none (AV.ren ρ' (.tup [])) (wrG ρ' me' dead),k,γ'',?_⟩
  refine hj1.putObj (o':=.loop { recR fn a.tmps ps assign body w.heap.size with state:=.exhausted }) (ds:=[{ target:=.collected w.heap.size,args:=#[] }]++a.defers) hl2 rfl (by omega) l1
   ⟨fun h0=>absurd (h0.symm.trans hrg) (by simp),⟨w.heap.size::rs,by rw [m1];rfl,nodup_cons.2 ⟨fun h=>by have:=hold _ h;omega,m2⟩,fun r hr=>?_⟩,hj1.defers.pin,fun l R hlR=>absurd (hyl0.symm.trans hlR) (by simp),by rw [Cz];exact hj1.defers.sz⟩
   (fun b hb e=>by obtain ⟨_,p2,_⟩:=hst.fr b hb;omega)
  rcases mem_cons.1 hr with rfl|hr
  ·exact ⟨hBw,by rw [Cz];omega,d1,(C4 (by omega)).trans hk2⟩
  ·obtain ⟨p1,p2,p3,p4⟩:=m3 r hr
   have:=hold r hr
   exact ⟨p1,by rw [Cz];exact p2,p3,(C4 (by omega)).trans p4⟩
end Go.Proofs.YthbogefcfhmpgaaGreat
