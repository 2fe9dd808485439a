/- The abstract walk, before its evaluator. -/
import Derived.Test.YtkoamfnbbhfaiaaGreatDoorK05
import Derived.RangeFuncNested
set_option linter.unusedVariables false
set_option linter.unusedSimpArgs false
namespace Go.Proofs.YtkoamfnbbhfaiaaGreatDoor
open Go.RowKit List
open Nat renaming eq_of_beq_eq_true->aA,le_refl->aB,beq->aJ,not_lt_zero->aX,lt_of_lt_of_le->bC,zero_le->bF,le_trans->bJ,mul_comm->bK
open AV renaming renL_length->aC,renL_at->aM,inML_at->aR,inML->aZ,renL->bA
open Or renaming inr->aD,inl->aE
open _root_.Array renaming getD_eq_getD_getElem?->aF,length_toList->aH,getD->aQ,getElem_toList->aY,append_empty->bD
open Gam renaming set_self->aG,set_ne->aP
open List renaming mem_map->aK,mem_map_of_mem->aL,all_eq_true->aN,mem_append_left->aO,getElem_replicate->aU,mem_append_right->aV,mem_filterMap->bB,getElem_map->bG,any_eq_true->bH,nil_append->bI
open Option renaming toList_none->aS
open Bool renaming not_eq_true'->aT,or_eq_true->aW
mutual
def AV.frz (r sz:Nat)(xs:List AV):AV->AV
 |.row id=>match aJ id r with|true=>.sl sz xs|false=>.row id
 |.fn f cap=>.fn f (AV.frzL r sz xs cap)
 |.yld l T cap=>.yld l T (AV.frzL r sz xs cap)
 |.agg cs=>.agg (AV.frzL r sz xs cs)
 |.tup cs=>.tup (AV.frzL r sz xs cs)
 |x=>x
def AV.frzL (r sz:Nat)(xs:List AV):List AV->List AV |[]=>[] |x::l=>x.frz r sz xs::AV.frzL r sz xs l
end
theorem AV.frzL_length (r sz:Nat)(xs l:List AV):(AV.frzL r sz xs l).length=l.length:=by
 induction l with
 |nil=>rfl
 |cons x l ih=>simp [AV.frzL,ih]
theorem AV.frzL_at (r sz:Nat)(xs l:List AV)(i:Nat)(hi:i<l.length):(AV.frzL r sz xs l)[i]'(by rw [AV.frzL_length];exact hi)=l[i].frz r sz xs:=by
 induction l generalizing i with
 |nil=>simp at hi
 |cons x l ih =>
  cases i with
  |zero=>rfl
  |succ i=>exact ih i (by simpa using hi)
variable {w:World}{S:Nat->Prop}{γ γ':Gam}{sz:Nat}{xs:List AV}{d:Option (Option Nat×Value)}
theorem Rep.frz {r:Nat}(m:∀ i x,i≠r->γ i=some x->γ' i=some x)(C:γ r=some d)(u:γ' r=some none)
  (G:∀ v,(∀ g s,d=some (g,s)->Mu s=false->v=s)->Rep w S γ' (.sl sz xs) v) {av:AV} {v:Value} (h:Rep w S γ av v):Rep w S γ' (av.frz r sz xs) v:=by
 induction h with
 |any=>exact .any _
 |int=>exact .int _ _
 |bool=>exact .bool _
 |str=>exact .str _
 |nilp=>exact .nilp
 |nils=>exact .nils
 |nilf=>exact .nilf
 |@ptr γ id off v E h q =>
  by_cases hi:id=r
  ·subst hi;exact .ptr u (fun g s e=>by cases e)
  ·exact .ptr (m _ _ hi h) q
 |@elt γ id sz k j v E h q =>
  by_cases hi:id=r
  ·subst hi;exact .elt u (fun g s e=>by cases e)
  ·exact .elt (m _ _ hi h) q
 |@der γ Q id v E h q =>
  by_cases hi:id=r
  ·subst hi;exact .der u (fun g s e=>by cases e)
  ·exact .der (m _ _ hi h) q
 |mapv F M g es clock y I P O t N q K J=>exact .mapv F M g es clock y I P O t N q
 |mapn=>exact .mapn
 |slen A n c=>exact .slen A n c
 |@cont γ n id v E h q t =>
  by_cases hi:id=r
  ·subst hi;exact .cont u (fun g s e=>by cases e) t
  ·exact .cont (m _ _ hi h) q t
 |@row γ id v E h q =>
  simp only [AV.frz];cases y:aJ id r with
  |true =>
   have:=aA y;subst this;rw [C] at h;injection h with h
   subst h;exact G _ q
  |false=>exact .row (m _ _ (Nat.ne_of_beq_eq_false y) h) q
 |sl A c cell H D y B h1 ih=>exact .sl A c cell H D y B h1
 |ref b off cell I y H B h1 ih=>exact .ref b off cell I y H B h1
 |fn vs t z ih =>
  exact .fn vs (by rw [t,AV.frzL_length]) (fun i p=>by
   have f:=p;rw [AV.frzL_length] at f;rw [AV.frzL_at r sz xs _ i f];exact ih i f m C)
 |yld z ih =>
  exact .yld (fun i p=>by
   have f:=p;rw [AV.frzL_length] at f;rw [AV.frzL_at r sz xs _ i f];exact ih i f m C)
 |agg vs t z h1 ih =>
  exact .agg vs (by rw [t,AV.frzL_length]) (fun i p=>by
   have f:=p;rw [AV.frzL_length] at f;rw [AV.frzL_at r sz xs _ i f];exact ih i f m C) h1
 |tup vs t z ih =>
  exact .tup vs (by rw [t,AV.frzL_length]) (fun i p=>by
   have f:=p;rw [AV.frzL_length] at f;rw [AV.frzL_at r sz xs _ i f];exact ih i f m C)
section
variable {cx:Cx} {o:Oper} {σ:AS}
theorem znk {x:Operand}{args:Array Operand}{tys:Array TypeId}{f id ty:Nat}{cap avs:List AV}{res:AV}{fr:Bool}(q:o.op=.call { callee:=.value x,args:=args,argTypes:=tys })(hd:dok cx o=true)(N:A0 x=true)(P:args.toList.all A0=true)(B:σ.eval x=.fn f cap)
  (hl:σ.find id=some (.row ty sz xs)) (ha:AV.frzL id sz xs (Bw σ args cap)=avs) (ab:AV.closedL avs=true) (I:Con cx.E fr f avs res):A9 cx o σ res [id] [(id,.dead)]:=by
 refine ⟨fun i e Y=>Es Y,fun τ h1 h2 a w Q K ⟨γ,h⟩ hK=>Br (fun c I=>by rw [q] at I;cases I) ?_⟩;have E:o.op.operands=#[x]++args:=by simp [q,Op.operands,Call.operands]
 obtain ⟨caps,aa,V,hr⟩:=Jd h P N (fun y hy=>h1 y (by rw [E];simp at hy ⊢;exact aD hy)) (h1 x (by rw [E];simp)) B;have F:=h.me id;rw [h2 id (by simp),hl] at F;obtain ⟨d,z,Y⟩:=F;have k:∀ b,own (γ.set id none) b->own γ b/\∀ s,γ id≠some (some (some b,s)):=fun b ⟨i,s,hi,hm⟩=>by
  by_cases m:i=id
  ·subst m;rw [aG] at hi;injection hi with hi;subst hi;simp [blks] at hm
  ·rw [aP _ _ _ m] at hi;exact ⟨⟨i,s,hi,hm⟩,fun s' O=>m (h.inj _ _ _ _ _ hi O hm Bc)⟩
 have hS:∀ b,Sg cx.S0 cx.w0.heap.size γ b->Sg cx.S0 cx.w0.heap.size (γ.set id none) b:=fun b p=>p.elim aE (fun ⟨h1,h2⟩=>aD ⟨h1,fun q=>h2 (k b q).1⟩)
 have M:∀ i x,γ i=some x->γ.set id none i=some x\/γ.set id none i=some none\/Turn (γ.set id none) i x:=fun i x B=>by
  by_cases m:i=id
  ·subst m;exact aD (aE (aG _ _ _))
  ·exact aE (by rw [aP _ _ _ m];exact B)
 obtain ⟨s,hs,D⟩:=Gn (S':=Sg cx.S0 cx.w0.heap.size (γ.set id none)) Y (fun b p _=>hS b p) (fun s g M=>aD ⟨(h.ge g (own.mk (id:=id) (s:=s) (by rw [z,M]))).1,fun q=>(k g q).2 s (by rw [z,M])⟩) (γ.set id none);have mv:∀ {av v},Rep w (Sg cx.S0 cx.w0.heap.size γ) γ av v->Rep w (Sg cx.S0 cx.w0.heap.size (γ.set id none)) (γ.set id none) (av.frz id sz xs) v:=fun C =>
  (C.mono (aB _) (fun b p _=>⟨rfl,hS b p⟩)).frz (fun i x hi B=>by rw [aP _ _ _ hi];exact B) z (aG _ _ _) (fun v C=>by rw [C _ _ hs D.sl_tup];exact D)
 unfold Oper.wp;rw [J7 q aa I.1];show Calls _ _ _ _ _;have G:avs.length=(Bw σ args cap).length:=by rw [<-ha,AV.frzL_length]
 refine (I.2 (Sg cx.S0 cx.w0.heap.size (γ.set id none)) w _ ⟨by rw [G];exact V,fun i hi=>?_⟩).mono ?_
 ·have H:i<(Bw σ args cap).length:=by omega
  have e:avs[i]=(Bw σ args cap)[i].frz id sz xs:=by
   have:(AV.frzL id sz xs (Bw σ args cap))[i]'(by rw [AV.frzL_length];exact H)=avs[i]:=by simp only [ha]
   rw [<-this,AV.frzL_at]
  have:=mv (hr i H);rw [<-e] at this;exact this.close (AV.closedL_at ab i hi)
 rintro e w' ⟨v,rfl,⟨p,Z⟩,C⟩;refine hK _ _ ⟨γ.set id none,h.step (γ':=γ.set id none) (Bj hd) p.size (fun b n t=>⟨p.block b t,hS b n⟩) M (fun i hi=>?_) (fun i e hi=>?_) (fun i j b s s' hi A mi mj=>?_) (fun b J=>⟨(h.ge b (k b J).1).1,bC (h.ge b (k b J).1).2 p.size⟩) (h.below.trans (p.mono h.below.size)) ?_ (fun b T t=>⟨p.block b t,fun q=>T (k b q).1⟩) Z⟩
 ·have u:i≠id:=fun e=>by subst e;simp [lkE] at hi
  exact ⟨aP _ _ _ u,fun g s X U=>p.block g (h.ge g ⟨i,s,X,U⟩).2⟩
 ·have u:i=id:=by have:=Es hi;simpa using this
  subst u;simp only [lkE,Nat.beq_refl,Option.some.injEq] at hi;subst hi;exact ⟨none,aG _ _ _,rfl⟩
 ·have m:i≠id:=fun e=>by subst e;rw [aG] at hi;injection hi with hi;subst hi;simp [blks] at mi
  have W:j≠id:=fun e=>by subst e;rw [aG] at A;injection A with A;subst A;simp [blks] at mj
  rw [aP _ _ _ m] at hi;rw [aP _ _ _ W] at A;exact h.inj _ _ _ _ _ hi A mi mj
 ·refine (C.mono (aB _) (fun b n _=>⟨rfl,?_⟩)).open_;rcases n with ⟨_,n⟩|n
  ·exact n
  ·exact aD ⟨⟨bJ h.below.size n,fun h0=>by have:=h.gh _ h0;omega⟩,fun R=>by have:=(h.ge b (k b R).1).2;omega⟩
theorem zar {T Ti d e esz eb:Nat}{x y:Operand}{i ie it:TyI}{k kn:IntKind}{n:Int}{m:Nat}(Y:o.op=.call { callee:=.builtin .append,args:=#[x,y],argTypes:=#[T,Ti] })(z:o.dst=some d)(hd:dok cx o=true)(ab:A0 x=true)(aa:A0 y=true)(N:σ.eval x=.nils)(hy:σ.eval y=.int k n)
  (hT:lkT cx.E.tab T=some i) (hs:i.shape=.slc e esz eb) (aq:lkT cx.E.tab Ti=some it) (ae:it.shape=.int kn) (he:lkT cx.E.tab e=some ie) (hz:esz≠0) (Z:Gl ie=true) (t:ie.zero.cells.all (·.oneCell')=true) (hn:σ.find d=none) (hm:n=(m:Int)) (h0:0<n) (h1:m<=1099511627776) (h2:ie.bytes*m<=281474976710656) :
  A9 cx o σ (.row d) [d] [(d,.row e esz (replicate m (Cw ie)))]:=by
 refine ⟨fun id e he=>Es he,fun τ q1 q2 a w Q K ⟨γ,D⟩ hK=>Br (fun c hc=>by rw [Y] at hc;cases hc) ?_⟩;have ex:=D.ev x ab;rw [q1 x (by simp [Y,Op.operands,Call.operands]),N] at ex;have ey:=D.ev y aa;rw [q1 y (by simp [Y,Op.operands,Call.operands]),hy] at ey;obtain ⟨hu,ap,_⟩:=C5 (cx.E.ok T i hT) hs;have ad:cx.P.underlying Ti=some (.int kn):=by
  obtain ⟨dd,am,F⟩:=(cx.E.ok Ti it aq).und;rw [ae] at F;cases dd<;>simp only [E1,reduceCtorEq,Eg.int.injEq] at F;subst F;exact am
 have V:=cx.E.ok e ie he;obtain ⟨info,hi,ak,aj,ai⟩:=V.both;have C:ie.sz=esz:=V.cells.symm.trans ap;obtain ⟨M,J⟩:=Wm Z;subst hm;have af:0<m:=by omega
 have f:=Lib.run_append_nil_zeros (P:=cx.P) w T Ti o.type e info ie.zero k kn hu ad hi ai m af (by rw [ak,C];omega) (by omega) (by rw [aj,bK];exact h2);generalize B:grownCap w m 0 e=cap at f;have H:m<=cap:=by rw [<-B];exact grownCap_ge _ _ _ _
 have G:cap<=maxLen:=by rw [<-B];exact grownCap_le_maxLen _ _ _ _ (by unfold maxLen;omega)
 generalize A:Builtin.zeroCells ie.zero.cells m++Builtin.zeroCells ie.zero.cells (cap-m)=p at f;have b:ie.zero.cells.size=esz:=J.trans C;have an:p.size=cap*esz:=by
  rw [<-A,Array.size_append,size_zeroCells,size_zeroCells,b,<-Nat.add_mul];congr 1;omega
 have al:(execOp a.eval o).run cx.P w=.ok (.value (.slice (some ⟨w.heap.size,0,none⟩) m cap)) (w.drew.alloc (.cells p e)):=by
  simp only [execOp,Y,resolve,invoke,builtin,Sem.run_bind,Sem.run_pure,Result.andThen_ok,map_toArray,map_cons,map_nil,ex.nils_inv,ey.int_inv,f]
 unfold Oper.wp;rw [al];refine hK _ _ ?_;rw [z];have ao:(Cw ie).cells.length=esz:=by rw [M,length_map,aH,J,C]
 have ac:p.toList.take (m*esz)=(madeCells ie.zero.cells (m*esz)).toList:=by
  rw [<-A,Array.toList_append,take_append_of_le_length (by rw [aH,size_zeroCells,b];exact aB _),take_of_length_le (by rw [aH,size_zeroCells,b];exact aB _)];unfold Builtin.zeroCells madeCells;rw [b]
 have U:(w.drew.alloc (.cells p e)).ownsRow w.heap.size e esz (.slice (some ⟨w.heap.size,0,none⟩) m cap) m (madeCells ie.zero.cells (m*esz)).toList :=
  ⟨by simp [size_madeCells],aD ⟨w.heap.size,cap,p,rfl,aB _,(MapKept.heap_alloc w.drew _).1,H,G,an,ac⟩⟩
 have W:∀ q j,q<m->j<esz->(madeCells ie.zero.cells (m*esz)).toList.getD (q*esz+j) undef=ie.zero.cells.getD j undef:=fun q j I hj=>by
  have ag:q*esz+j<m*esz:=by
   have:(q+1)*esz<=m*esz:=Nat.mul_le_mul_right _ I;rw [Nat.succ_mul] at this;omega
  have h:(q*esz+j) % ie.zero.cells.size=j:=by
   rw [b,bK,Nat.mul_add_mod,Nat.mod_eq_of_lt hj]
  rw [getD_eq_getElem?_getD];have E:j<ie.zero.cells.size:=by omega
  simp [madeCells,ag,h,aQ,E]
 have X:∀ v∈ie.zero.cells,v.oneCell'=true:=by
  rw [Array.all_eq_true_iff_forall_mem] at t;exact t
 refine Uu (v:=.slice (some ⟨w.heap.size,0,none⟩) m cap) (us:=(madeCells ie.zero.cells (m*esz)).toList) D (fun _=>Nat.le_succ _) (by rw [q2 d (by simp),hn]) (fun x N=>by injection N with N;subst N;exact Bj hd _ z) (((Below.refl _ _).drew).alloc (aB _) _)
  (by rw [length_replicate];exact U) (fun q I=>by rw [aU];exact ao) (fun q I j hj=>?_) (fun u hu=>?_)
  (fun hS=>.row (aG _ _ _) (fun g s e _=>by injection e with e;injection e with _ e))
 ·have O:q<m:=by simpa using I
  rw [aU] at hj;have E:j<esz:=by omega
  rw [W q j O E];simp only [aU,M,bG];have ah:j<ie.zero.cells.size:=by omega
  have:ie.zero.cells.getD j undef=ie.zero.cells[j]:=by simp [aQ,ah]
  rw [this];simpa using Gk _ _ _ (ie.zero.cells[j])
 ·obtain ⟨q,I,rfl⟩:=mem_iff_getElem.1 hu;have O:q<m*esz:=by simpa [size_madeCells] using I
  have R:0<ie.zero.cells.size:=by omega
  have h:=Nat.mod_lt q R;simp only [madeCells,Array.toList_map,bG,aY,Array.getElem_range];rw [getElem!_pos ie.zero.cells _ h];exact X _ (Array.getElem_mem _)
end
open Go.RowKit
variable {S':Nat->Prop}{ids:List Nat}{ρ:Nat->Nat}
theorem B8.gen_renF {B:Nat}{ty:TypeId}(q:B8 w S γ B d (.gen ty sz xs))
  (i:∀ id,id∈ids->γ' (ρ id)=γ id) (hm:aZ ids xs=true) (v:∀ b,S b->S' b):B8 w S' γ' B d (.gen ty sz (bA ρ xs)):=by
 obtain ⟨s,vs,t,h1,f,h,m,g⟩:=q;refine ⟨s,vs,t,h1,by rw [aC];exact f,fun k e=>?_,fun k e j p=>?_,g⟩
 ·rw [aC] at e;rw [aM ρ _ k e,AV.ren_cells,aC];exact h k e
 ·rw [aC] at e;have c:=p;have n:=m k e j;simp only [aM ρ _ k e,AV.ren_cells,aC] at c ⊢;rw [aM ρ _ j c];exact ((n c).renF i (aR (AV.inM_cells (aR hm k e)) j c)).mono (aB _) (fun b u _=>⟨rfl,v b u⟩)
theorem B8.lp_renF {B:Nat}{fn:FuncId}{ps:Array Tmp}{a b:Code}{f:Nat}{busy:Bool}{caps:List AV}(k:B8 w S γ B d (.lp fn ps a b f busy caps))
  (e:∀ id,id∈ids->γ' (ρ id)=γ id) (hm:aZ ids caps=true) (q:∀ b,S b->S' b):B8 w S' γ' B d (.lp fn ps a b f busy (bA ρ caps)):=by
 obtain ⟨l,T,D,fn0,m,i,p,h⟩:=k;refine ⟨l,T,D,fn0,m,i,p,fun t g=>?_⟩;have c:=g;rw [aC] at c;rw [aM ρ _ t c];exact ((h t c).renF e (aR hm t c)).mono (aB _) (fun b n _=>⟨rfl,q b n⟩)
abbrev MeSt (cx:Cx)(γ:Gam)(me:List (Nat×Ent))(w:World):Prop:=StG cx γ ⟨[],me⟩ ⟨#[],[]⟩ w
def Cx.sub (cx:Cx)(γ γc:Gam)(w:World):Cx:=⟨{ cx.E with np:=0 },fun b=>cx.S0 b\/(own γ b/\¬own γc b),cx.w0,0,fun _=>False,w,none,#[],fun _=>rfl,false,G0,0⟩
def memL (ρ:Nat->Nat)(ids:List Nat)(j:Nat):Option Nat:=ids.find? fun i=>aJ (ρ i) j
variable {j:Nat}
theorem Mf {i:Nat}(h:memL ρ ids j=some i):i∈ids/\ρ i=j:=by
 have h1:=mem_of_find?_eq_some h;have b:=find?_some h;exact ⟨h1,aA b⟩
theorem zpy (h:memL ρ ids j=none):∀ i∈ids,ρ i≠j:=fun i hi e=>by
 have:=find?_eq_none.1 h i hi;simp [e] at this
theorem zpz {i:Nat}(b:injB ρ ids=true)(hi:i∈ids):memL ρ ids (ρ i)=some i:=by
 cases h:memL ρ ids (ρ i) with
 |none=>exact absurd rfl (zpy h i hi)
 |some k =>
  obtain ⟨h1,e⟩:=Mf h;simp only [injB,aN,aW,aT] at b;rcases b k h1 i hi with c|c
  ·rw [e] at c;simp at c
  ·rw [aA c]
section
variable {cx:Cx} {γ:Gam} {τ:AS} {a:Act} {w:World}
theorem StG.own_ge (h:StG cx γ τ a w){b:Nat}(c:own γ b):cx.w0.heap.size<=b/\¬cx.S0 b/\b<w.heap.size:=⟨(h.ge b c).1.1,(h.ge b c).1.2,(h.ge b c).2⟩
variable {me:List (Nat×Ent)}
theorem StG.part (h:StG cx γ τ a w)(C:injB ρ (me.map (·.1))=true)(K:LeE τ ρ (me.map (·.1)) me) :
  ∃ γc:Gam,(∀ i∈me.map (·.1),γc i=γ (ρ i))/\(∀ i,i ∉ me.map (·.1)->γc i=none)/\(∀ b,own γc b->own γ b) /\
   (∀ b,Sg (Cx.sub cx γ γc w).S0 cx.w0.heap.size γc b ↔ Sg cx.S0 cx.w0.heap.size γ b)/\MeSt (Cx.sub cx γ γc w) γc me w:=by
 generalize I:me.map (·.1)=ids at *;have B:∀ i,lkE me i≠none ↔ i∈ids:=fun i=>by rw [Hk,I]
 let γc:Gam:=fun i=>if i∈ids then γ (ρ i) else none
 have m:∀ i,i∈ids->γc i=γ (ρ i):=fun i hi=>if_pos hi
 have n:∀ i,i ∉ ids->γc i=none:=fun i hi=>if_neg hi
 have f:∀ b,own γc b->own γ b:=fun b ⟨i,s,hi,c⟩=>by
  by_cases hm:i∈ids
  ·rw [m i hm] at hi;exact ⟨_,s,hi,c⟩
  ·rw [n i hm] at hi;cases hi
 have z:∀ b,Sg (Cx.sub cx γ γc w).S0 cx.w0.heap.size γc b ↔ Sg cx.S0 cx.w0.heap.size γ b:=fun b=>by
  constructor
  ·rintro (⟨h1|⟨h1,_⟩,q⟩|⟨⟨h1,q⟩,N⟩)
   ·exact aE ⟨h1,q⟩
   ·have:=(h.own_ge h1).1;omega
   ·exact aD ⟨⟨h1,fun A=>q (aE A)⟩,fun A=>q (aD ⟨A,N⟩)⟩
  ·rintro (⟨h1,q⟩|⟨⟨h1,q⟩,N⟩)
   ·exact aE ⟨aE h1,q⟩
   ·exact aD ⟨⟨h1,fun A=>A.elim q (fun V=>N V.1)⟩,fun A=>N (f b A)⟩
 have G:∀ {g:Gam} {av v},Rep w (Sg cx.S0 cx.w0.heap.size γ) g av v->Rep w (Sg (Cx.sub cx γ γc w).S0 cx.w0.heap.size γc) g av v:=fun h=>h.mono (aB _) (fun b c _=>⟨rfl,(z b).2 c⟩)
 refine ⟨γc,m,n,f,z,fun t=>.any _,fun i=>?_,fun i j b s s' hi E mi mj=>?_,fun b c=>?_,h.below,rfl,⟨fun _=>rfl,⟨[],rfl,.nil,fun r F=>by cases F⟩,fun t Y=>absurd Y (aX _),fun l R U=>?_,aB _,fun h=>absurd h (by simp [Cx.sub]),fun U=>(h.defers.laid U).mono (aB _) (fun b c _=>⟨rfl,aE c⟩),(fun d D=>by cases D),bF _⟩,fun b c=>?_,fun b c=>c.elim,h.dr⟩
 ·rcases K.get i with J|⟨e,J,hf,hm⟩
  ·unfold AS.find;rw [J];have:i ∉ ids:=fun hi=>(B i).2 hi J
   exact if_neg this
  ·unfold AS.find;rw [J];have hi:i∈ids:=(B i).1 (by rw [J];simp);rw [m i hi];have:=h.me (ρ i);rw [hf] at this;obtain ⟨x,X,u⟩:=this;refine ⟨x,X,?_⟩;cases e with
   |box ty cs =>
    obtain ⟨g,vs,D,c,T,F,y⟩:=u;simp only [Ent.inM] at hm;refine ⟨g,vs,D,c,by rw [T,aC],fun k M=>G ((F k (by rw [aC];exact M)).ren m _ (aM _ _ _ _) (aR hm k M)),y⟩
   |row ty sz xs =>
    obtain ⟨s,vs,D,h1,f,H,F,y⟩:=u;exact ⟨s,vs,D,h1,f,H,fun k M j E=>G (F k M j E),y⟩
   |mp ps =>
    obtain ⟨g,D,hm⟩:=u;exact ⟨g,D,hm.move (aB _) (fun b c _=>⟨rfl,(z b).2 c⟩) rfl⟩
   |nest ty es=>exact B8.nest_mono u (fun b c=>(z b).2 c)
   |mpn ps=>exact B8.mpn_mono u (fun b c=>(z b).2 c)
   |are ty idx os=>exact u.gmono (fun _ _ h=>by cases h) (fun b c=>(z b).2 c)
   |it ps=>exact u.gmono (fun _ _ h=>by cases h) (fun b c=>(z b).2 c)
   |itp ps=>exact u.gmono (fun _ _ h=>by cases h) (fun b c=>(z b).2 c)
   |itc p ps=>exact u.gmono (fun _ _ h=>by cases h) (fun b c=>(z b).2 c)
   |dead=>exact u
   |gen ty sz xs=>exact u.gen_ren m hm (fun b c=>(z b).2 c)
   |lp fn ps a b nt busy caps=>exact u.lp_ren m hm (fun b c=>(z b).2 c)
 ·by_cases h1:i∈ids
  ·by_cases K:j∈ids
   ·rw [m i h1] at hi;rw [m j K] at E;have e:=h.inj _ _ _ _ _ hi E mi mj;simp only [injB,aN,aW,aT] at C;rcases C i h1 j K with q|q
    ·rw [e] at q;simp at q
    ·exact aA q
   ·rw [n j K] at E;cases E
  ·rw [n i h1] at hi;cases hi
 ·obtain ⟨Q,P,O⟩:=h.own_ge (f b c);exact ⟨⟨Q,fun A=>A.elim P (fun V=>V.2 c)⟩,O⟩
 ·obtain ⟨W,Q,P,O⟩:=h.defers.yl l R U;exact ⟨W,Q,fun Z=>P (f l Z),O⟩
 ·rcases c with c|⟨c,_⟩
  ·exact h.gh b c
  ·exact (h.own_ge c).2.2
def wrG (ρ':Nat->Nat)(me':List (Nat×Ent))(dead:List Nat):List (Nat×Ent):=me'.map (fun x=>(ρ' x.1,x.2.renI ρ'))++dead.map fun i=>(i,.dead)
def R3:List Nat->Bool |[]=>true |x::r=>!memB x r && R3 r
variable {l:List (Nat×Ent)}
theorem zq4 (h:R3 (l.map (·.1))=true):∀ x∈l,lkE l x.1=some x.2:=by
 induction l with
 |nil=>intro x b;cases b
 |cons y r ih =>
  obtain ⟨u,e⟩:=y;simp only [map_cons,R3,Bool.and_eq_true,aT] at h;intro x b;rcases mem_cons.1 b with rfl|b
  ·simp [lkE]
  ·have c:¬u=x.1:=fun e=>by
    have:memB u (r.map (·.1))=true:=(Ct _ _).2 (by rw [e];exact aK.2 ⟨x,b,rfl⟩);rw [h.1] at this;cases this
   have g:aJ u x.1=false:=by
    cases f:aJ u x.1 with
    |true=>exact absurd (aA f) c
    |false=>rfl
   simp only [lkE,g];exact ih h.2 x b
theorem Ea {i:Nat}{e:Ent}(h:lkE l i=some e):(i,e)∈l:=by
 induction l with
 |nil=>simp [lkE] at h
 |cons x r ih =>
  obtain ⟨u,c⟩:=x;simp only [lkE] at h;cases b:aJ u i with
  |true =>
   rw [b] at h;injection h with h
   rw [<-aA b,h];exact mem_cons_self ..
  |false=>rw [b] at h;exact mem_cons_of_mem _ (ih h)
variable {ρ':Nat->Nat}{me':List (Nat×Ent)}{dead:List Nat}
theorem wrG_get (k:R3 (me'.map (·.1))=true){e:Ent}(h:lkE (wrG ρ' me' dead) j=some e) :
  (∃ i m,lkE me' i=some m/\i∈me'.map (·.1)/\ρ' i=j/\e=m.renI ρ')\/((∀ i∈me'.map (·.1),ρ' i≠j)/\j∈dead/\e=.dead):=by
 unfold wrG at h;rw [zca] at h;cases h1:lkE (me'.map fun x=>(ρ' x.1,x.2.renI ρ')) j with
 |some p =>
  rw [h1] at h;simp only [Option.some_or,Option.some.injEq] at h;subst h;obtain ⟨x,c,b⟩:=aK.1 (Ea h1);injection b with g f
  exact aE ⟨x.1,x.2,zq4 k x c,aK.2 ⟨x,c,rfl⟩,g,f.symm⟩
 |none =>
  rw [h1] at h;simp only [Option.none_or] at h;obtain ⟨x,c,b⟩:=aK.1 (Ea h);injection b with g f
  refine aD ⟨fun i hi e=>?_,g▸c,f.symm⟩;obtain ⟨y,n,rfl⟩:=aK.1 hi;have:lkE (me'.map fun x=>(ρ' x.1,x.2.renI ρ')) j≠none:=by
   rw [Hk];exact aK.2 ⟨(ρ' y.1,y.2.renI ρ'),aK.2 ⟨y,n,rfl⟩,e⟩
  exact this h1
theorem zrn (h:lkE (wrG ρ' me' dead) j=none):(∀ i∈me'.map (·.1),ρ' i≠j)/\j ∉ dead:=by
 constructor
 ·intro i hi e;obtain ⟨y,b,rfl⟩:=aK.1 hi;have:lkE (wrG ρ' me' dead) j≠none:=by
   rw [Hk];unfold wrG;rw [map_append];exact aO _ (aK.2 ⟨(ρ' y.1,y.2.renI ρ'),aK.2 ⟨y,b,rfl⟩,e⟩)
  exact this h
 ·intro c;have:lkE (wrG ρ' me' dead) j≠none:=by
   rw [Hk];unfold wrG;rw [map_append];exact aV _ (aK.2 ⟨(j,.dead),aK.2 ⟨j,c,rfl⟩,rfl⟩)
  exact this h
def Ho (me me':List (Nat×Ent))(i:Nat):Bool:=match lkE me i,lkE me' i with
 |some (.box _ _),_=>true
 |some (.row _ _ _),some _=>true
 |_,_=>false
def Ym (τf:Nat->Option Ent)(ρ ρ':Nat->Nat)(me:List (Nat×Ent))(i:Nat):Bool:=match lkE me i,τf (ρ' i) with
 |some (.box _ _),_=>aJ (ρ' i) (ρ i)
 |some (.row _ _ _),_=>aJ (ρ' i) (ρ i)
 |_,none=>true
 |_,_=>false
theorem StG.join (h:StG cx γ τ a w){γc γc':Gam}{w':World}{dst:Option Nat}{u:Value}{res:AV}(ac:injB ρ (me.map (·.1))=true)(Z:∀ i∈me.map (·.1),γc i=γ (ρ i))(ai:∀ i,i ∉ me.map (·.1)->γc i=none)
  (C:MeSt (Cx.sub cx γ γc w) γc' me' w') (hz:w.heap.size<=w'.heap.size) (aj:∀ i,Ho me me' i=true->γc' i=γc i) (ag:∀ b,¬own γc b->b<w.heap.size->w'.heap[b]? = w.heap[b]? /\ ¬own γc' b) (ar:cx.E.dr=true->w.drawn<=w'.drawn)
  (hd:∀ x,dst=some x->cx.E.np<=x/\x<cx.nt) (am:R3 (me'.map (·.1))=true) (X:injB ρ' (me'.map (·.1))=true) (ad:me'.all (fun x=>x.2.inM (me'.map (·.1)))=true) (I:(me'.map (·.1)).all (Ym τ.find ρ ρ' me)=true)
  (R:(me.map (·.1)).all (fun i=>memB (ρ i) dead || (me'.map (·.1)).any fun k=>aJ (ρ' k) (ρ i))=true) (J:dead.all (fun j=>(me.map (·.1)).any fun i=>aJ (ρ i) j)=true)
  (hu:Rep w' (Sg (Cx.sub cx γ γc w).S0 cx.w0.heap.size γc') γc' res u) (aa:res.inM (me'.map (·.1))=true) :
  ∃ γ',StG cx γ' (τ.upd dst (res.ren ρ') (wrG ρ' me' dead)) (a.put dst u) w':=by
 generalize ae:me.map (·.1)=ids at *;generalize q:me'.map (·.1)=c at *;have W:∀ i,lkE me' i≠none ↔ i∈c:=fun i=>by rw [Hk,q]
 let γ':Gam:=fun j=>match memL ρ' c j with|some i=>γc' i|none=>(match memL ρ ids j with|some _=>some none|none=>γ j)
 have F1:∀ i∈c,γ' (ρ' i)=γc' i:=fun i hi=>by
  show (match memL ρ' c (ρ' i) with|some i=>γc' i|none=>_)=_;rw [zpz X hi]
 have F2:∀ j,(∀ i∈c,ρ' i≠j)->(∃ i∈ids,ρ i=j)->γ' j=some none:=fun j h1 ⟨i,hi,e⟩=>by
  show (match memL ρ' c j with|some i=>γc' i|none=>_)=_;have e1:memL ρ' c j=none:=by
   cases N:memL ρ' c j with
   |none=>rfl
   |some k=>exact absurd (Mf N).2 (h1 k (Mf N).1)
  rw [e1];subst e;show (match memL ρ ids (ρ i) with|some _=>some none|none=>γ (ρ i))=_;rw [zpz ac hi]
 have F3:∀ j,(∀ i∈c,ρ' i≠j)->(∀ i∈ids,ρ i≠j)->γ' j=γ j:=fun j h1 y=>by
  show (match memL ρ' c j with|some i=>γc' i|none=>_)=_;have e1:memL ρ' c j=none:=by
   cases N:memL ρ' c j with
   |none=>rfl
   |some k=>exact absurd (Mf N).2 (h1 k (Mf N).1)
  have e2:memL ρ ids j=none:=by
   cases N:memL ρ ids j with
   |none=>rfl
   |some k=>exact absurd (Mf N).2 (y k (Mf N).1)
  rw [e1];show (match memL ρ ids j with|some _=>some none|none=>γ j)=_;rw [e2]
 have T:∀ b,own γc b->own γ b:=fun b ⟨i,s,hi,m⟩=>by
  by_cases hm:i∈ids
  ·rw [Z i hm] at hi;exact ⟨_,s,hi,m⟩
  ·rw [ai i hm] at hi;cases hi
 -- what another name owns is not given
 have n:∀ j b s,(∀ i∈ids,ρ i≠j)->γ j=some s->b∈blks s->¬own γc b:=fun j b s f m au ⟨i,s',hi,ao⟩=>by
  by_cases hm:i∈ids
  ·rw [Z i hm] at hi;exact f i hm (h.inj _ _ _ _ _ hi m ao au)
  ·rw [ai i hm] at hi;cases hi
 have t:∀ j,(∃ i∈c,ρ' i=j)\/((∀ i∈c,ρ' i≠j)/\((∃ i∈ids,ρ i=j)\/∀ i∈ids,ρ i≠j)):=fun j=>by
  by_cases h1:∃ i∈c,ρ' i=j
  ·exact aE h1
  ·refine aD ⟨fun i hi e=>h1 ⟨i,hi,e⟩,?_⟩;by_cases y:∃ i∈ids,ρ i=j
   ·exact aE y
   ·exact aD (fun i hi e=>y ⟨i,hi,e⟩)
 have z:∀ b,own γ' b->own γc' b\/(own γ b/\¬own γc b):=fun b ⟨j,s,f,hm⟩=>by
  rcases t j with ⟨i,hi,rfl⟩|⟨h1,y|y⟩
  ·rw [F1 i hi] at f;exact aE ⟨i,s,f,hm⟩
  ·rw [F2 j h1 y] at f;injection f with f;subst f;simp [blks] at hm
  ·rw [F3 j h1 y] at f;exact aD ⟨⟨j,s,f,hm⟩,n j b s y f hm⟩
 have U:∀ b,¬own γ b->b<w.heap.size->w'.heap[b]? = w.heap[b]? /\ ¬own γ' b:=fun b m O=>by
  obtain ⟨q1,q2⟩:=ag b (fun D=>m (T b D)) O;exact ⟨q1,fun D=>(z b D).elim q2 (fun h=>m h.1)⟩
 have G:∀ b,Sg (Cx.sub cx γ γc w).S0 cx.w0.heap.size γc' b->Sg cx.S0 cx.w0.heap.size γ' b:=by
  rintro b (⟨h1|⟨h1,_⟩,h3⟩|⟨⟨h1,h3⟩,h4⟩)
  ·exact aE ⟨h1,h3⟩
  ·have:=(h.own_ge h1).1;omega
  ·exact aD ⟨⟨h1,fun h5=>h3 (aE h5)⟩,fun D=>(z b D).elim h4 (fun h6=>h3 (aD h6))⟩
 have Q:∀ b,Sg cx.S0 cx.w0.heap.size γ b->¬own γ b:=fun b G D=>by
  rcases G with ⟨_,h1⟩|⟨_,h1⟩
  ·have:=(h.own_ge D).1;omega
  ·exact h1 D
 have V:∀ {g:Gam} {av v},Rep w' (Sg (Cx.sub cx γ γc w).S0 cx.w0.heap.size γc') g av v->Rep w' (Sg cx.S0 cx.w0.heap.size γ') g av v:=fun h=>h.mono (aB _) (fun b m _=>⟨rfl,G b m⟩)
 simp only [aN] at ad I R J;have P:∀ i∈c,(Ho me me' i=true/\i∈ids/\ρ' i=ρ i)\/τ.find (ρ' i)=none:=fun i hi=>by
  have E:=I i hi;have al:=(W i).2 hi;have af:lkE me i≠none->i∈ids:=fun m=>by rw [<-ae];exact Hk.1 m
  unfold Ym at E;split at E
  ·rename_i ty es m;exact aE ⟨by unfold Ho;rw [m],af (by rw [m];simp),aA E⟩
  ·rename_i ty sz xs m;refine aE ⟨?_,af (by rw [m];simp),aA E⟩;unfold Ho;cases N:lkE me' i with
   |none=>exact absurd N al
   |some e=>rw [m]
  ·first|(rename_i Y _ _;exact aD Y)|(rename_i Y _;exact aD Y)|(rename_i _ _ Y;exact aD Y)|(rename_i Y;exact aD Y)
  ·cases E
 refine ⟨γ',h.step (γ':=γ') hd hz (fun b m O=>⟨(U b (Q b m) O).1,?_⟩) (fun j x f=>?_) (fun j f=>?_) (fun j e f=>?_) (fun i j b s s' hi f mi mj=>?_) (fun b m=>?_) C.below ?_ U ar⟩
 ·have hn:=(U b (Q b m) O).2;rcases m with m|⟨h1,_⟩
  ·exact aE m
  ·exact aD ⟨h1,hn⟩
 ·rcases t j with ⟨i,hi,rfl⟩|⟨h1,y|y⟩
  ·rcases P i hi with ⟨m,ap,e⟩|hn
   ·left;rw [F1 i hi,aj i m,Z i ap,<-e];exact f
   ·have:=h.me (ρ' i);rw [hn] at this;rw [show γ (ρ' i)=none from this] at f;cases f
  ·exact aD (aE (F2 j h1 y))
  ·exact aE (by rw [F3 j h1 y];exact f)
 ·obtain ⟨h1,y⟩:=zrn f;rw [q] at h1;have h3:∀ i∈ids,ρ i≠j:=fun i hi e=>by
   have hc:=R i hi;rw [aW] at hc;rcases hc with hc|hc
   ·exact y (by rw [<-e];exact (Ct _ _).1 hc)
   ·obtain ⟨k,E,an⟩:=bH.1 hc;exact h1 k E ((aA an).trans e)
  refine ⟨F3 j h1 h3,fun g s hg hm=>(ag g (n j g s h3 hg hm) (h.ge g ⟨j,s,hg,hm⟩).2).1⟩
 ·rcases wrG_get (by rw [q];exact am) f with ⟨i,e0,ah,hi,rfl,rfl⟩|⟨h1,y,rfl⟩
  ·rw [q] at hi;have:=C.me i;unfold AS.find at this;rw [ah] at this;obtain ⟨x,hx,F⟩:=this;refine ⟨x,by rw [F1 i hi];exact hx,?_⟩;have hm:=ad (i,e0) (Ea ah);cases e0 with
   |box ty cs =>
    obtain ⟨g,vs,K,m,ak,hr,H⟩:=F;simp only [Ent.inM] at hm;refine ⟨g,vs,K,m,by rw [ak,aC],fun k E=>?_,H⟩;have A:=E;rw [aC] at A;rw [aM ρ' _ k A];exact V ((hr k A).renF F1 (aR hm k A))
   |row ty sz xs =>
    obtain ⟨s,vs,K,h1,z,ab,hr,H⟩:=F;exact ⟨s,vs,K,h1,z,ab,fun k E j f=>V (hr k E j f),H⟩
   |mp ps =>
    obtain ⟨g,K,hm⟩:=F;exact ⟨g,K,hm.move (aB _) (fun b m _=>⟨rfl,G b m⟩) rfl⟩
   |nest ty es=>exact B8.nest_mono F G
   |mpn ps=>exact B8.mpn_mono F G
   |are ty idx os=>exact F.gmono (fun _ _ h=>by cases h) G
   |it ps=>exact F.gmono (fun _ _ h=>by cases h) G
   |itp ps=>exact F.gmono (fun _ _ h=>by cases h) G
   |itc p ps=>exact F.gmono (fun _ _ h=>by cases h) G
   |dead=>exact F
   |gen ty sz xs=>exact F.gen_renF F1 hm G
   |lp fn ps a b nt busy caps=>exact F.lp_renF F1 hm G
  ·rw [q] at h1;obtain ⟨i,hi,aq⟩:=bH.1 (J j y);exact ⟨none,F2 j h1 ⟨i,hi,aA aq⟩,rfl⟩
 ·rcases t i with ⟨k,E,rfl⟩|⟨h1,y|y⟩
  ·rw [F1 k E] at hi;rcases t j with ⟨k',A,rfl⟩|⟨M,B|B⟩
   ·rw [F1 k' A] at f;rw [C.inj _ _ _ _ _ hi f mi mj]
   ·rw [F2 j M B] at f;injection f with f;subst f;simp [blks] at mj
   ·rw [F3 j M B] at f;exact absurd (aD ⟨⟨j,s',f,mj⟩,n j b s' B f mj⟩) (C.ge b ⟨k,s,hi,mi⟩).1.2
  ·rw [F2 i h1 y] at hi;injection hi with hi;subst hi;simp [blks] at mi
  ·rw [F3 i h1 y] at hi;rcases t j with ⟨k',A,rfl⟩|⟨M,B|B⟩
   ·rw [F1 k' A] at f;exact absurd (aD ⟨⟨i,s,hi,mi⟩,n i b s y hi mi⟩) (C.ge b ⟨k',s',f,mj⟩).1.2
   ·rw [F2 j M B] at f;injection f with f;subst f;simp [blks] at mj
   ·rw [F3 j M B] at f;exact h.inj _ _ _ _ _ hi f mi mj
 ·rcases z b m with D|⟨D,_⟩
  ·have:=C.ge b D;exact ⟨⟨this.1.1,fun h5=>this.1.2 (aE h5)⟩,this.2⟩
  ·exact ⟨(h.ge b D).1,bC (h.ge b D).2 hz⟩
 ·exact V (hu.renF F1 aa)
end
open Go.RowKit
abbrev CalT:=Array Value->Array Value->World->(Ending->World->Prop)->Prop
def CalF (P:Program)(f k:Nat):CalT:=fun vs cs w R=>cs.size=k->Calls P f (vs++cs) w R
def CalY (P:Program)(l:Nat):CalT:=fun vs cs w R=>YieldAt Fence.wide 0 P l vs w R
def ConG (P:Program)(yl:Option (Nat×Obj))(C:CalT)(args caps:List AV)(me:List (Nat×Ent))(res:AV)(me':List (Nat×Ent)):Prop:=∀ (cx:Cx) (γ:Gam) (w:World) (vs cs:Array Value),cx.E.P=P->cx.E.dr=false->cx.ev=false->(∀ x,yl=some x->cx.E.yl=some x)->cx.nt=0->cx.E.np=0->MeSt cx γ me w->vs.size=args.length -> (∀ i (hi:i<args.length),Rep w (Sg cx.S0 cx.w0.heap.size γ) γ args[i] (vs.getD i undef))->(∀ i (hi:i<caps.length),Rep w (Sg cx.S0 cx.w0.heap.size γ) γ caps[i] (cs.getD i undef)) -> C vs cs w fun e w'=>∃ u γ',e=.returned u/\MeSt cx γ' me' w'/\Rep w' (Sg cx.S0 cx.w0.heap.size γ') γ' res u/\w.heap.size<=w'.heap.size/\(∀ i,Ho me me' i=true->γ' i=γ i) /\ (∀ b,¬own γ b->b<w.heap.size->w'.heap[b]? = w.heap[b]? /\ ¬own γ' b)
variable {σ:AS}{l:List (Nat×Ent)}
theorem LeE.congr {τ:AS}(h:LeE σ ρ ids l)(c:∀ i∈l.map (·.1),τ.find (ρ i)=σ.find (ρ i)):LeE τ ρ ids l:=by
 induction l with
 |nil=>trivial
 |cons x r ih =>
  obtain ⟨i,e⟩:=x;simp only [LeE] at h ⊢;exact ⟨⟨(c i (by simp)).trans h.1.1,h.1.2⟩,ih h.2 (fun j b=>c j (by simp at b ⊢;exact aD b))⟩
def LeF (find:Nat->Option Ent)(ρ:Nat->Nat)(ids:List Nat):List (Nat×Ent)->Prop |[]=>True |(i,e)::r=>(find (ρ i)=some (e.renI ρ)/\e.inM ids=true)/\LeF find ρ ids r
theorem LeF.le (h:LeF σ.find ρ ids l):LeE σ ρ ids l:=by
 induction l with
 |nil=>trivial
 |cons x r ih=>exact ⟨h.1,ih h.2⟩
structure Dc (find:Nat->Option Ent) (ρ ρ':Nat->Nat) (me me':List (Nat×Ent)) (res:AV) (dead:List Nat):Prop where
 inj:injB ρ (me.map (·.1))=true
 nd:R3 (me'.map (·.1))=true
 inj':injB ρ' (me'.map (·.1))=true
 hin:me'.all (fun x=>x.2.inM (me'.map (·.1)))=true
 keep:(me'.map (·.1)).all (Ym find ρ ρ' me)=true
 cov:(me.map (·.1)).all (fun i=>memB (ρ i) dead || (me'.map (·.1)).any fun k=>aJ (ρ' k) (ρ i))=true
 dd:dead.all (fun j=>(me.map (·.1)).any fun i=>aJ (ρ i) j)=true
 res:res.inM (me'.map (·.1))=true
def idsG (ρ ρ':Nat->Nat)(me me':List (Nat×Ent)):List Nat:=(me.map (·.1)).map ρ++(me'.map (·.1)).map ρ'
variable {ρ':Nat->Nat}{me me':List (Nat×Ent)}{res:AV}{dead:List Nat}
theorem zoi {find:Nat->Option Ent}(h:Dc find ρ ρ' me me' res dead)(id:Nat)(e:Ent)(c:lkE (wrG ρ' me' dead) id=some e):id∈idsG ρ ρ' me me':=by
 rcases wrG_get h.nd c with ⟨i,_,_,hi,rfl,_⟩|⟨_,f,_⟩
 ·exact aV _ (aL hi)
 ·have:=aN.1 h.dd id f;obtain ⟨i,hi,b⟩:=bH.1 this;rw [<-aA b];exact aO _ (aL hi)
theorem Dc.congr {f g:Nat->Option Ent}(h:Dc f ρ ρ' me me' res dead)(c:∀ id∈idsG ρ ρ' me me',g id=f id):Dc g ρ ρ' me me' res dead:=by
 refine ⟨h.inj,h.nd,h.inj',h.hin,?_,h.cov,h.dd,h.res⟩;have b:=h.keep;rw [aN] at b ⊢;intro i hi;have:=b i hi;unfold Ym at this ⊢;rw [c (ρ' i) (aV _ (aL hi))];exact this
section
variable {cx:Cx} {σ:AS} {o:Oper}
theorem zka {γc:Gam}{τ:AS}{a:Act}{w':World}{dst:Option Nat}{u:Value}(f:StG cx γ τ a w)(c:Dc τ.find ρ ρ' me me' res dead)(e:cx.E.dr=false)
  (m:∀ x,dst=some x->cx.E.np<=x/\x<cx.nt) (k:∀ i∈me.map (·.1),γc i=γ (ρ i)) (g:∀ i,i ∉ me.map (·.1)->γc i=none)
  (h1:MeSt (Cx.sub cx γ γc w) γ' me' w') (s:Rep w' (Sg (Cx.sub cx γ γc w).S0 cx.w0.heap.size γ') γ' res u) (q:w.heap.size<=w'.heap.size) (p:∀ i,Ho me me' i=true->γ' i=γc i)
  (n:∀ b,¬own γc b->b<w.heap.size->w'.heap[b]? = w.heap[b]? /\ ¬own γ' b):St cx (τ.upd dst (res.ren ρ') (wrG ρ' me' dead)) (a.put dst u) w' :=
 f.join c.inj k g h1 q p n (fun h=>absurd (e.symm.trans h) (by simp)) m c.nd c.inj' c.hin c.keep c.cov c.dd s c.res
theorem Xf {γc:Gam}{l m:List AV}{vs:Nat->Value}(e:∀ i∈ids,γc i=γ (ρ i))(k:∀ b,S b->S' b)(f:bA ρ l=m)(c:aZ ids l=true)
  (h:∀ i (hi:i<m.length),Rep w S γ m[i] (vs i)):∀ i (hi:i<l.length),Rep w S' γc l[i] (vs i):=fun i hi=>by
 subst f;have:=h i (by rw [aC];exact hi);exact ((this.ren e _ (aM _ _ _ _) (aR c i hi))).mono (aB _) (fun b g _=>⟨rfl,k b g⟩)
variable {x:Operand}{args:Array Operand}{tys:Array TypeId}{cargs:List AV}{yl:Option (Nat×Obj)}
theorem zlm {f:Nat}{cap:List AV}(z:o.op=.call { callee:=.value x,args:=args,argTypes:=tys })(hd:dok cx o=true)(t:A0 x=true)(v:args.toList.all A0=true)(W:σ.eval x=.fn f cap)
  (Z:Bh cx.E f) (g:cx.E.dr=false) (k:bA ρ cargs=Bw σ args cap) (F:aZ (me.map (·.1)) cargs=true) (D:LeE σ ρ (me.map (·.1)) me) (B:Dc σ.find ρ ρ' me me' res dead)
   (s:∀ x,yl=some x->cx.E.yl=some x) (q:ConG cx.P yl (CalF cx.P f 0) cargs [] me res me'):A9 cx o σ (res.ren ρ') (idsG ρ ρ' me me') (wrG ρ' me' dead):=by
 refine ⟨zoi B,fun τ h1 O a w Q K ⟨γ,h⟩ hK=>Br (fun c q=>by rw [z] at q;cases q) ?_⟩;have m:o.op.operands=#[x]++args:=by simp [z,Op.operands,Call.operands]
 obtain ⟨caps,G,Y,X⟩:=Jd h v t (fun y M=>h1 y (by rw [m];simp at M ⊢;exact aD M)) (h1 x (by rw [m];simp)) W;have n:LeE τ ρ (me.map (·.1)) me:=D.congr (fun i hi=>O _ (aO _ (aL hi)));have A:Dc τ.find ρ ρ' me me' res dead:=B.congr (fun id E=>O id E);obtain ⟨γc,p,I,N,hS,C⟩:=h.part B.inj n;unfold Oper.wp;rw [J7 z G Z];show Calls _ _ _ _ _;have J:(args.map a.eval++caps).size=cargs.length:=by rw [Y,<-k,aC]
 have H:=q (Cx.sub cx γ γc w) γc w (args.map a.eval++caps) #[] rfl g rfl s rfl rfl C J
  (Xf (γ:=γ) (S:=Sg cx.S0 cx.w0.heap.size γ) (vs:=fun i=>(args.map a.eval++caps).getD i undef) p (fun b hb=>(hS b).2 hb) k F X) (fun i hi=>absurd hi (by simp)) rfl
 rw [bD] at H;refine H.mono ?_;rintro e w' ⟨u,γ',rfl,V,U,T,R,P⟩;exact hK _ _ (zka h A g (Bj hd) p I V U T R P)
theorem z6y {P:Program}{l:Nat}{a:Act}(c:o.op=.call { callee:=.value x,args:=args,argTypes:=tys })(b:a.eval x=.func (.yield l) #[] #[]) :
  (execOp a.eval o).run P w=(Instr.yield l (args.map a.eval)).run P w:=by
 simp only [execOp,c,resolve,b,Deferred.ofValue,invoke,Sem.run_bind,Sem.run_pure,Result.andThen_ok,Array.empty_append]
theorem zoz {l:Nat}{T:Array Value}{cap ccaps:List AV}(E:o.op=.call { callee:=.value x,args:=args,argTypes:=tys })(hd:dok cx o=true)(B:A0 x=true)(D:args.toList.all A0=true)(hx:σ.eval x=.yld l T cap)
  (k:cx.E.dr=false) (p:bA ρ cargs=args.toList.map σ.eval) (C:bA ρ ccaps=cap) (P:aZ (me.map (·.1)) cargs=true) (O:aZ (me.map (·.1)) ccaps=true) (M:LeE σ ρ (me.map (·.1)) me) (I:Dc σ.find ρ ρ' me me' res dead)
   (A:∀ x,yl=some x->cx.E.yl=some x) (z:ConG cx.P yl (fun vs cs w R=>cs=T->CalY cx.P l vs cs w R) cargs ccaps me res me'):A9 cx o σ (res.ren ρ') (idsG ρ ρ' me me') (wrG ρ' me' dead):=by
 refine ⟨zoi I,fun τ h1 h2 a w Q K ⟨γ,f⟩ hK=>?_⟩;have q:o.op.operands=#[x]++args:=by simp [E,Op.operands,Call.operands]
 have Z:∀ y∈args.toList,τ.eval y=σ.eval y:=fun y v=>h1 y (by rw [q];simp at v ⊢;exact aD v)
 have t:=f.ev x B;rw [h1 x (by rw [q];simp),hx] at t;obtain ⟨V,hr⟩:=t.yld_inv;have s:LeE τ ρ (me.map (·.1)) me:=M.congr (fun i hi=>h2 _ (aO _ (aL hi)));have G:Dc τ.find ρ ρ' me me' res dead:=I.congr (fun id N=>h2 id N);obtain ⟨γc,m,W,aa,hS,J⟩:=f.part I.inj s;have Y:(args.map a.eval).size=cargs.length:=by rw [Array.size_map];have:=congrArg length p;rw [aC,length_map,aH] at this;exact this.symm
 have H:=z (Cx.sub cx γ γc w) γc w (args.map a.eval) T rfl k rfl A rfl rfl J Y
  (Xf (γ:=γ) (S:=Sg cx.S0 cx.w0.heap.size γ) (vs:=fun i=>(args.map a.eval).getD i undef) m (fun b X=>(hS b).2 X) p P (fun i hi=>by
    have U:i<args.size:=by simpa using hi
    simp only [bG,aY];have e:(args.map a.eval).getD i undef=a.eval args[i]:=by simp [aQ,U]
    rw [e,<-Z args[i] (by simp)];exact f.ev _ (aN.mp D _ (by simp))))
  (Xf (γ:=γ) (S:=Sg cx.S0 cx.w0.heap.size γ) (vs:=fun i=>T.getD i undef) m (fun b X=>(hS b).2 X) C O hr) rfl
 obtain ⟨fn,tmps,assign,body,v,g⟩:=H;refine ⟨fun _ _=>trivial,?_⟩;rw [Oper.semAt_eq _ _ _ (fun c z=>by rw [E] at z;cases z),z6y E V,v];refine ⟨fun h=>by simp [Fence.wide] at h,RoundIn.mono (F:=cx.F) (n:=0) (g:_) ?_⟩;rintro e w' ⟨u,γ',rfl,q1,q2,q3,q4,q5⟩;exact hK _ _ (zka f G k (Bj hd) m W q1 q2 q3 q4 q5)
end
open Go.RowKit
abbrev recR (fn:FuncId)(T:Array Value)(ps:Array Tmp)(assign body:Code)(D:Nat):Loop:={ state:=.ready,pending:=none,fn:=fn,tmps:=T,params:=ps,assign:=assign,body:=body,defers:=D }
section
variable {w:World} {r:Nat} {o:Obj}
theorem Bo {b:Nat}(h:b≠r):(w.putObj r o).heap[b]? = w.heap[b]? := World.putObj_heap_other h
theorem Bx:(w.putObj r o).heap.size=w.heap.size:=by simp [World.putObj]
theorem Rep.putObj {av:AV}{v:Value}(N:∀ off,w.cell? ⟨r,off,none⟩=none)(E:∀ es c,w.heap[r]? ≠ some (.map es c))(h:Rep w S γ av v):Rep (w.putObj r o) S γ av v:=by
 have key:∀ b off u,w.cell? ⟨b,off,none⟩=some u->(w.putObj r o).cell? ⟨b,off,none⟩=some u:=fun b off u D=>by
  have F:b≠r:=fun e=>by subst e;rw [N off] at D;cases D
  exact (World.cell?_of_block (w:=w) (a:=⟨b,off,none⟩) (Bo F)).trans D
 induction h with
 |any=>exact .any _
 |int=>exact .int _ _
 |bool=>exact .bool _
 |str=>exact .str _
 |nilp=>exact .nilp
 |ptr h i=>exact .ptr h i
 |elt h i=>exact .elt h i
 |nils=>exact .nils
 |sl A c cell I s t q h1 f =>
  refine .sl A c cell I s (fun R=>?_) (fun k J j H=>f k J j H) h1;obtain ⟨b,off,P,y,G,p⟩:=t R;exact ⟨b,off,P,y,by rw [Bx];exact G,fun k j h1 Q=>key _ _ _ (p k j h1 Q)⟩
 |row h i=>exact .row h i
 |fn vs m q f=>exact .fn vs m f
 |yld q f=>exact .yld f
 |nilf=>exact .nilf
 |agg vs m q h1 f=>exact .agg vs m f h1
 |tup vs m q f=>exact .tup vs m f
 |ref b off cell y t I q h1 f=>exact .ref b off cell y (by rw [Bx];exact t) (fun j H=>key _ _ _ (I j H)) f h1
 |der h i=>exact .der h i
 |cont h i m=>exact .cont h i m
 |mapv z M g es clock t y O K m J i C B=>exact .mapv z M g es clock t y (by rw [Bx];exact O) ((Bo (fun e=>by subst e;exact E _ _ K)).trans K) m C B
 |mapn=>exact .mapn
 |slen A n c=>exact .slen A n c
variable {L:List MapEntry}{ps:List (AV×AV)}
theorem RepL.putObj (f:∀ off,w.cell? ⟨r,off,none⟩=none)(b:∀ es c,w.heap[r]? ≠ some (.map es c))(h:RepL w S L ps):RepL (w.putObj r o) S L ps:=⟨h.1,fun j q e=>⟨(h.2 j q e).1.putObj f b,(h.2 j q e).2.putObj f b⟩⟩
theorem RepM.putObj (f:∀ off,w.cell? ⟨r,off,none⟩=none)(e:∀ es c,w.heap[r]? ≠ some (.map es c))(h:RepM w S L ps):RepM (w.putObj r o) S L ps:=by
 obtain ⟨b,h1,g⟩:=h;exact ⟨b,h1,RepL.putObj f e g⟩
theorem ItIs.putObj {g:Nat}{P P':Array MapEntry->Array Nat->Nat->Nat->Prop}(B:∀ off,w.cell? ⟨r,off,none⟩=none)(k:∀ es c,w.heap[r]? ≠ some (.map es c))(i:g≠r)(h:ItIs w S g P)(n:∀ es s c d,P es s c d->P' es s c d):ItIs (w.putObj r o) S g P':=by
 rcases h with ⟨bm,since,f,A,es,clock,h1,m,z,p,y,v,u,t,q⟩|⟨a,b,s,h1,m⟩
 ·exact aE ⟨bm,since,f,A,es,clock,(Bo i).trans h1,m,by rw [Bx];exact z,(Bo (fun e=>by subst e;exact k _ _ p)).trans p,y,v,u,t,n _ _ _ _ q⟩
 ·exact aD ⟨a,b,s,(Bo i).trans h1,n _ _ _ _ m⟩
theorem B8.putObj {B:Nat}{e:Ent}(v:∀ off,w.cell? ⟨r,off,none⟩=none)(m:∀ es c,w.heap[r]? ≠ some (.map es c))(F:∀ b,b∈blks d->b≠r)(h:B8 w S γ B d e):B8 (w.putObj r o) S γ B d e:=by
 cases e with
 |box ty cells =>
  obtain ⟨g,vs,f,hb,hs,P,h1⟩:=h;exact ⟨g,vs,f,(Bo (F g (by rw [f];exact Bc))).trans hb,hs,fun i hi=>(P i hi).putObj v m,h1⟩
 |row ty sz xs =>
  obtain ⟨s,vs,f,h1,u,hc,P,ho⟩:=h;refine ⟨s,vs,f,h1,⟨u.1,u.2.elim aE (fun ⟨g,cap,U,E,y,Q,q⟩=>aD ⟨g,cap,U,E,y,?_,q⟩)⟩,hc,fun k n j O=>(P k n j O).putObj v m,ho⟩;subst E;exact (Bo (F g (by rw [f];exact Bc))).trans Q
 |mp ps =>
  obtain ⟨g,f,es,clock,H,G,qb,z⟩:=h;exact ⟨g,f,es,clock,(Bo (F g (by rw [f];exact Bc))).trans H,G,qb,fun j h J=>⟨(z j h J).1.putObj v m,(z j h J).2.putObj v m⟩⟩
 |nest ty es =>
  obtain ⟨s,vs,f,h1,M,⟨us,u,hu,ab⟩,I,N⟩:=h;have R:∀ g,B4 s=some g->(w.putObj r o).heap[g]? = w.heap[g]? := fun g y=>Bo (F g (by rw [f];simp [blks,Cm,y]))
  refine ⟨s,vs,f,h1,M,⟨us,u.moved fun g y=>R g y,hu,ab⟩,fun k C=>?_,N⟩;have A:∀ g,B4 (vs.getD k undef)=some g->g≠r:=fun g y=>F g (by
   rw [f];simp only [blks,aS,bI,Cm,bB];refine ⟨vs.getD k undef,?_,y⟩;have:k<vs.size:=by omega
   simp [aQ,this])
  have n:=I k C;generalize es[k]=e at n;cases e with
  |row ty sz xs =>
   obtain ⟨H,us',G,z,W,V⟩:=n;exact ⟨H,us',G.moved (fun g y=>Bo (A g y)),z,fun k C j O=>(W k C j O).putObj v m,V⟩
  |mp ps =>
   obtain ⟨g,K,E,⟨es,clock,H,G,qb,z⟩,X⟩:=n;exact ⟨g,K,E,⟨es,clock,(Bo (A g (by rw [E];rfl))).trans H,G,qb,fun j h J=>⟨(z j h J).1.putObj v m,(z j h J).2.putObj v m⟩⟩,X⟩
  |hole=>exact n
 |mpn ps =>
  obtain ⟨g,es,vs,f,Q,hl,M,ae,ac,aa,I,N⟩:=h;have ad:(w.putObj r o).heap[g]? = w.heap[g]? := Bo (F g (by rw [f];simp [blks,Cm,B4]));refine ⟨g,es,vs,f,ad.trans Q,hl,M,ae,fun j h J=>(ac j h J).putObj v m,aa,fun k C=>?_,N⟩;have A:∀ g,B4 (vs.getD k undef)=some g->g≠r:=fun g y=>F g (by
   rw [f];simp only [blks,aS,bI,Cm,bB];refine ⟨vs.getD k undef,?_,y⟩;have:k<vs.size:=by omega
   simp [aQ,this])
  have n:=I k C;generalize (ps[k]).2=e at n;cases e with
  |row ty sz xs =>
   obtain ⟨H,us',G,z,W,V⟩:=n;exact ⟨H,us',G.moved (fun g y=>Bo (A g y)),z,fun k C j O=>(W k C j O).putObj v m,V⟩
  |mp ps =>
   obtain ⟨g,K,E,⟨es,clock,H,G,qb,z⟩,X⟩:=n;exact ⟨g,K,E,⟨es,clock,(Bo (A g (by rw [E];rfl))).trans H,G,qb,fun j h J=>⟨(z j h J).1.putObj v m,(z j h J).2.putObj v m⟩⟩,X⟩
  |hole=>exact n
 |are ty idx os =>
  obtain ⟨s,vs,us,f,h1,M,u,hu,Y,I,N⟩:=h;have R:∀ g,B4 s=some g->(w.putObj r o).heap[g]? = w.heap[g]? := fun g y=>Bo (F g (by rw [f];simp [blks,Cm,y]))
  refine ⟨s,vs,us,f,h1,M,u.moved fun g y=>R g y,hu,fun k C=>⟨fun h=>((Y k C).1 h).putObj v m,(Y k C).2⟩,fun k C=>⟨(I k C).1,?_⟩,N⟩;have A:∀ g,B4 (vs.getD k undef)=some g->g≠r:=fun g y=>F g (by
   rw [f];simp only [blks,aS,bI,Cm,bB];refine ⟨vs.getD k undef,?_,y⟩;have:k<vs.size:=by omega
   simp [aQ,this])
  have n:=(I k C).2;generalize os[k]=e at n;cases e with
  |row ty sz xs =>
   obtain ⟨H,us',G,z,W,V⟩:=n;exact ⟨H,us',G.moved (fun g y=>Bo (A g y)),z,fun k C j O=>(W k C j O).putObj v m,V⟩
  |mp ps =>
   obtain ⟨g,K,E,⟨es,clock,H,G,qb,z⟩,X⟩:=n;exact ⟨g,K,E,⟨es,clock,(Bo (A g (by rw [E];rfl))).trans H,G,qb,fun j h J=>⟨(z j h J).1.putObj v m,(z j h J).2.putObj v m⟩⟩,X⟩
  |hole=>exact n
 |it ps =>
  obtain ⟨g,f,hi⟩:=h;exact ⟨g,f,hi.putObj v m (F g (by rw [f];exact Bc)) (fun es s c d h=>RepM.putObj v m h)⟩
 |itp ps =>
  obtain ⟨g,f,hi⟩:=h;exact ⟨g,f,hi.putObj v m (F g (by rw [f];exact Bc)) (fun es s c d ⟨h0,s0,e,h1,h2,Z⟩=>⟨h0,s0,e,h1,h2,RepM.putObj v m Z⟩)⟩
 |itc p ps =>
  obtain ⟨g,f,hi⟩:=h;exact ⟨g,f,hi.putObj v m (F g (by rw [f];exact Bc)) (fun es s c d ⟨h0,s0,e,h1,h2,Z,h4⟩=>⟨h0,s0,e,h1,h2,⟨Z.1.putObj v m,Z.2.putObj v m⟩,RepM.putObj v m h4⟩)⟩
 |dead=>exact h
 |gen ty sz xs =>
  obtain ⟨s,vs,f,h1,u,hc,P,ho⟩:=h;refine ⟨s,vs,f,h1,⟨u.1,u.2.elim aE (fun ⟨g,cap,U,E,y,Q,q⟩=>aD ⟨g,cap,U,E,y,?_,q⟩)⟩,hc,fun k n j O=>(P k n j O).putObj v m,ho⟩;subst E;exact (Bo (F g (by rw [f];exact Bc))).trans Q
 |lp fn ps a b nt busy caps =>
  obtain ⟨l,T,D,fn0,f,Q,hT,P⟩:=h;exact ⟨l,T,D,fn0,f,(Bo (F l (by rw [f];exact Bc))).trans Q,hT,fun t ht=>(P t ht).putObj v m⟩
theorem zk4 {k:Nat}(h:w.heap[r]? = some o)(b:o.isCells=false)(off:Nat):w.cell? ⟨r,off,none⟩=none:=by
 cases c:w.cell? ⟨r,off,none⟩ with
 |none=>rfl
 |some u =>
  obtain ⟨o',h1,e⟩:=cells_of_cell c;rw [h] at h1;injection h1 with h1
  rw [h1,e] at b;cases b
end
section
variable {cx:Cx} {γ:Gam} {σ:AS} {a:Act} {w:World}
theorem StG.putObj (h:StG cx γ σ a w){r:Nat}{o o':Obj}{ds:List Deferred}(u:w.heap[r]? = some o)(C:o.isCells=false)(E:cx.w0.heap.size<=r)(m:¬own γ r)(q:Book cx γ { a with defers:=ds } (w.putObj r o'))(p:∀ b,cx.Fr b->b≠r)(g:∀ es c,o≠.map es c:=by intro es c h;cases h)(g:∀ es c,o≠.map es c:=by intro es c h;cases h):StG cx γ σ { a with defers:=ds } (w.putObj r o'):=by
 have v:=zk4 (k:=0) u C;have i:∀ es c,w.heap[r]? ≠ some (.map es c):=fun es c h=>by rw [u] at h;injection h with h;exact g es c h
 have n:∀ b,own γ b->b≠r:=fun b f e=>m (e▸f)
 refine ⟨fun t=>(h.tm t).putObj v i,fun id=>?_,h.inj,fun b f=>by rw [Bx];exact h.ge b f,h.below.trans ⟨rfl,rfl,rfl,by rw [Bx];exact aB _,fun b f=>Bo (by omega)⟩,h.size,q,fun b f=>by rw [Bx];exact h.gh b f,fun b f=>?_,h.dr⟩
 ·have:=h.me id;cases y:σ.find id with
  |none=>rw [y] at this;exact this
  |some e =>
   rw [y] at this;obtain ⟨x,s,D⟩:=this;exact ⟨x,s,D.putObj v i (fun b f=>n b ⟨id,x,s,f⟩)⟩
 ·obtain ⟨B,A,z⟩:=h.fr b f;exact ⟨B,by rw [Bx];exact A,(Bo (p b f)).trans z⟩
end
def LeY (σ:AS)(ρ:Nat->Nat)(ids:List Nat):Nat->List AV->Prop |_,[]=>True |t,.any::r=>LeY σ ρ ids (t+1) r |t,x::r=>(σ.get t=x.ren ρ/\x.inM ids=true)/\LeY σ ρ ids (t+1) r
theorem LeY.at:∀ {l:List AV} {n:Nat},LeY σ ρ ids n l->∀ t (b:t<l.length),l[t]=.any\/(σ.get (n+t)=l[t].ren ρ/\l[t].inM ids=true)
 |[],n,h,t,b=>by simp at b
 |x::r,n,h,t,b=>by
  cases t with
  |zero =>
   cases x<;>first|exact aE rfl|exact aD h.1
  |succ t =>
   have c:LeY σ ρ ids (n+1) r:=by cases x<;>first|exact h|exact h.2
   have:=c.at t (by simpa using b);rw [show n+1+t=n+(t+1) by omega] at this;exact this
theorem WP.rangeFunc {cx:Cx}{g:Operand}{ps:Array Tmp}{assign body:Code}{Q:Exit->AS->Prop}{gf:Nat}{cap ycaps ccaps:List AV}
  (ad:cx.E.rg=true) (I:cx.E.dr=false) (O:cx.E.yl=none) (ai:A0 g=true) (U:σ.eval g=.fn gf cap) (he:Bh cx.E gf)
  (ae:bA ρ ccaps=cap) (ar:aZ (me.map (·.1)) ccaps=true) (hy:LeY σ ρ (me.map (·.1)) 0 ycaps) (ap:LeE σ ρ (me.map (·.1)) me) (hn:Dc σ.find ρ ρ' me me' (.tup []) dead)
  (Y:∀ (l D:Nat) (fn:FuncId) (T:Array Value),T.size=cx.nt->ConG cx.P (some (l,.loop (recR fn T ps assign body D))) (CalF cx.P gf 0) (.yld l T ycaps::ccaps) [] me (.tup []) me')
  (k:Q .normal (σ.upd none (.tup []) (wrG ρ' me' dead))):WP cx (.rangeFunc g ps assign body) Q σ:=by
 have hrd:cx.rd=none:=cx.hrd ad;intro a w ⟨γ,p⟩;have aj:=p.ev g ai;rw [U] at aj;obtain ⟨caps,ak,hl,_⟩:=aj.fn_inv;refine wpIn_rangeFunc (fun fn bb=>?_);obtain ⟨W1,J⟩:∃ W1,(w.alloc (.deferred (some []))).alloc (.loop (recR fn a.tmps ps assign body w.heap.size))=W1:=⟨_,rfl⟩;have al:W1.heap[w.heap.size+1]? = some (.loop (recR fn a.tmps ps assign body w.heap.size)):=by
  rw [<-J];have:=World.alloc_heap_new (w.alloc (.deferred (some []))) (.loop (recR fn a.tmps ps assign body w.heap.size));rwa [World.size_alloc] at this
 have ax:W1.heap[w.heap.size]? = some (.deferred (some [])):=by
  rw [<-J];exact (Below.heap_alloc _ _ _ (by simp)).trans (World.alloc_heap_new w _)
 have ba:W1.heap.size=w.heap.size+2:=by rw [<-J];simp
 have aw:Below w.heap.size w W1:=by rw [<-J];exact ((Below.refl _ w).alloc (aB _) _).alloc (by simp) _
 have c:StG cx γ (σ.upd none .any []) (a.put none undef) W1:=p.grow (dst:=none) (av:=.any) (v:=undef) (fun x U=>by cases U) aw (fun h=>absurd (I.symm.trans h) (by simp)) (.any _);have az:Ext σ (σ.upd none .any []):=⟨fun _=>rfl,fun _=>rfl⟩;have c:StG cx γ σ a W1:=⟨fun t=>c.tm t,fun i=>c.me i,c.inj,c.ge,c.below,c.size,c.defers,c.gh,c.fr,c.dr⟩;have C:∀ b,own γ b->b<w.heap.size:=fun b m=>(p.ge b m).2
 have ay:cx.w0.heap.size<=w.heap.size:=p.below.size
 -- the iterator's part
 obtain ⟨γc,aa,au,B,hS,q⟩:=c.part hn.inj ap;let cxs:Cx:={ Cx.sub cx γ γc W1 with E:={ cx.E with np:=0,yl:=some (w.heap.size+1,.loop (recR fn a.tmps ps assign body w.heap.size)) },hrd:=fun _=>rfl };have af:MeSt cxs γc me W1:=⟨q.tm,q.me,q.inj,q.ge,q.below,rfl,⟨fun _=>rfl,⟨[],rfl,.nil,fun r z=>by cases z⟩,fun t ht=>absurd ht (aX _),fun l R G=>by
  have e:some (w.heap.size+1,Obj.loop (recR fn a.tmps ps assign body w.heap.size))=some (l,R):=G;injection e with e
  injection e with e1 e2
  subst e1 e2;exact ⟨by show cx.w0.heap.size<=_;omega,by omega,fun M=>by have:=C _ (B _ M);omega,al⟩,aB _,fun h=>absurd h (by simp [cxs,Cx.sub]),q.defers.laid,(fun d hd=>by cases hd),bF _⟩,q.gh,fun b m=>m.elim,q.dr⟩
 have W:=c.ev g ai;rw [U] at W;obtain ⟨caps',A,_,X⟩:=W.fn_inv;rw [ak] at A;injection A with _ _ A
 subst A;have Z:=Xf (γ:=γ) (γc:=γc) (w:=W1) (S:=Sg cx.S0 cx.w0.heap.size γ) (S':=Sg (Cx.sub cx γ γc W1).S0 cx.w0.heap.size γc) (vs:=fun i=>caps.getD i undef) aa (fun b m=>(hS b).2 m) ae ar X;have ab:Rep W1 (Sg (Cx.sub cx γ γc W1).S0 cx.w0.heap.size γc) γc (.yld (w.heap.size+1) a.tmps ycaps) (.func (.yield (w.heap.size+1)) #[] #[]):=.yld (fun t ht=>by
  rcases hy.at t ht with ha|⟨ha,hm⟩
  ·rw [ha];exact .any _
  ·rw [Nat.zero_add] at ha;have r1:=c.tm t;rw [ha] at r1;exact (r1.ren aa _ rfl hm).mono (aB _) (fun b m _=>⟨rfl,(hS b).2 m⟩))
 have H:=Y (w.heap.size+1) w.heap.size fn a.tmps p.size cxs γc W1 (#[.func (.yield (w.heap.size+1)) #[] #[]]++caps) #[] rfl I rfl (fun x U=>U) rfl rfl af (by
   have:=congrArg length ae;rw [aC] at this;simp [hl,this];omega)
  (fun i hi=>by
    match i with
    |0 =>
     have e:(#[Value.func (.yield (w.heap.size+1)) #[] #[]]++caps).getD 0 undef=.func (.yield (w.heap.size+1)) #[] #[]:=by
      rw [aF,Array.getElem?_append_left (by simp)];rfl
     rw [e];exact ab
    |i+1 =>
     have:=Z i (by simpa using hi);have e:(#[Value.func (.yield (w.heap.size+1)) #[] #[]]++caps).getD (i+1) undef=caps.getD i undef:=by
      rw [aF,Array.getElem?_append_right (by simp),aF];simp
     rw [e];exact this)
  (fun i hi=>absurd hi (by simp)) rfl
 rw [bD] at H;refine ⟨w.heap.size+1,[{ target:=.collected w.heap.size,args:=#[] }],W1,{ target:=.fn (.func gf) caps,args:=#[.func (.yield (w.heap.size+1)) #[] #[]] },W1,gf,
  #[.func (.yield (w.heap.size+1)) #[] #[]]++caps,W1,?_,?_,?_,?_,fun h=>by simp [Fence.wide] at h,?_⟩
 ·show (Instr.enterLoop fn a.tmps ps assign body cx.rd).run cx.P w=_;rw [hrd,<-J];exact run_enterLoop_outer _ _ _ _ _
 ·simp only [resolve,ak];simp [go_sem]
 ·intro f' bc;trivial
 ·simp [invoke,go_sem,he _ _]
 ·refine CallsIn.mono (F:=cx.F) ((callsIn_wide (n:=0)).2 H:_) ?_;rintro e W2 ⟨u,γ',rfl,K,q2,q3,q4,q5⟩;have ag:W2.heap[w.heap.size+1]? = some (.loop (recR fn a.tmps ps assign body w.heap.size)):=(q5 _ (fun M=>by have:=C _ (B _ M);omega) (by omega)).1.trans al;have aq:W2.heap[w.heap.size]? = some (.deferred (some [])):=(q5 _ (fun M=>by have:=C _ (B _ M);omega) (by omega)).1.trans ax;refine ⟨none,_,run_endLoop (P:=cx.P) ag (by simp),?_⟩;have ao:MeSt (Cx.sub cx γ γc W1) γ' me' W2:=⟨K.tm,K.me,K.inj,K.ge,K.below,rfl,⟨fun _=>rfl,⟨[],rfl,.nil,fun r z=>by cases z⟩,fun t ht=>absurd ht (aX _),fun l R G=>absurd (O.symm.trans G) (by simp),K.defers.sz,fun h=>absurd h (by simp [Cx.sub]),K.defers.laid,(fun d hd=>by cases hd),bF _⟩,K.gh,fun b m=>m.elim,K.dr⟩
  -- the marked blocks are no one's
  let am:Cx:={ cx with Fr:=fun b=>cx.Fr b\/b=w.heap.size\/b=w.heap.size+1,w1:=W1 };have ac:StG am γ σ a W1:=⟨c.tm,c.me,c.inj,c.ge,c.below,c.size,⟨c.defers.d0,c.defers.marks,c.defers.pin,c.defers.yl,aB _,c.defers.evo,c.defers.laid,c.defers.mks,c.defers.wsz⟩,c.gh,fun b m=>by
   rcases m with m|m|m
   ·obtain ⟨p1,p2,_⟩:=c.fr b m;exact ⟨p1,p2,rfl⟩
   ·exact ⟨fun M=>by have:=C _ M;omega,by omega,rfl⟩
   ·exact ⟨fun M=>by have:=C _ M;omega,by omega,rfl⟩,c.dr⟩
  obtain ⟨N,f⟩:=zka (cx:=am) (dst:=none) (τ:=σ) ac hn I (fun x U=>by cases U) aa au ao q2 q3 q4 q5;obtain ⟨d1,d2,d3⟩:=f.fr w.heap.size (aD (aE rfl));obtain ⟨l1,l2,l3⟩:=f.fr (w.heap.size+1) (aD (aD rfl));have s:StG cx N (σ.upd none (AV.ren ρ' (.tup [])) (wrG ρ' me' dead)) a W2:=⟨f.tm,f.me,f.inj,f.ge,f.below,f.size,⟨f.defers.d0,f.defers.marks,f.defers.pin,f.defers.yl,bJ c.defers.sz f.defers.sz,f.defers.evo,f.defers.laid,f.defers.mks,f.defers.wsz⟩,f.gh,fun b m=>by
   obtain ⟨p1,p2,p3⟩:=f.fr b (aE m);obtain ⟨p4,p5,p6⟩:=c.fr b m;exact ⟨p1,p2,p3.trans p6⟩,f.dr⟩
  obtain ⟨rs,m1,m2,m3⟩:=s.defers.marks;have V:∀ r∈rs,r<w.heap.size:=fun r z=>by
   obtain ⟨an,n1,n2,n3⟩:=p.defers.marks;have:an=rs:=by
    have e:=n1.symm.trans m1;have ah:∀ (x y:Nat),({ target:=.collected x,args:=#[] }:Deferred)={ target:=.collected y,args:=#[] }->x=y:=fun x y h=>by injection h with h _;injection h
    exact (List.map_inj_right ah).1 e
   subst this;exact (n3 r z).2.1
  refine ⟨σ.upd none (AV.ren ρ' (.tup [])) (wrG ρ' me' dead),k,N,?_⟩;refine s.putObj (o':=.loop { recR fn a.tmps ps assign body w.heap.size with state:=.exhausted }) (ds:=[{ target:=.collected w.heap.size,args:=#[] }]++a.defers) ag rfl (by omega) l1
   ⟨fun h0=>absurd (h0.symm.trans ad) (by simp),⟨w.heap.size::rs,by rw [m1];rfl,nodup_cons.2 ⟨fun h=>by have:=V _ h;omega,m2⟩,fun r z=>?_⟩,s.defers.pin,fun l R G=>absurd (O.symm.trans G) (by simp),by rw [Bx];exact s.defers.sz,s.defers.evo,s.defers.laid,(fun d hd r z=>(mem_cons.1 hd).elim (fun e=>by subst e;injection z with z;rw [<-z];exact p.defers.wsz) (fun h=>s.defers.mks d h r z)),by rw [Bx];exact s.defers.wsz⟩
   (fun b m e=>by obtain ⟨_,p2,_⟩:=p.fr b m;omega)
  rcases mem_cons.1 z with rfl|z
  ·exact ⟨ay,by rw [Bx];omega,d1,(Bo (by omega)).trans aq⟩
  ·obtain ⟨p1,p2,p3,p4⟩:=m3 r z;have:=V r z;exact ⟨p1,by rw [Bx];exact p2,p3,(Bo (by omega)).trans p4⟩
end Go.Proofs.YtkoamfnbbhfaiaaGreatDoor
