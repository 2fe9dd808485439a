/- The abstract walk, seventh part. -/
import Derived.Test.YtkoamfnbbhfaiaaGreatDoorK02
import Derived.Laws.Tables
import Derived.Laws.MakeOwn
set_option linter.unusedVariables false
set_option linter.unusedSimpArgs false
namespace Go.Proofs.YtkoamfnbbhfaiaaGreatDoor
open Go.RowKit List
open _root_.Array renaming getD_eq_getD_getElem?->aA,getElem?_eq_some_iff->aH,getElem?_append_left->aZ,range->bA,toList_map->bG,getD->bH,all_eq_true->bO
open Option.some renaming injEq->aB
open List renaming getD_eq_getElem?_getD->aC,getElem_append_left->aJ,getElem_append_right->aN,getElem_map->aO,getElem?_eq_getElem->aP,getElem_mem->aQ,all_eq_true->bB,mem_flatMap->bC,getElem_cons_zero->bD,getElem?_append_right->bJ,getElem?_append_left->bK,length_append->bM,length_eq_zero_iff->bN,getElem_take->bQ,getElem_drop->bR,mem_map->bS,mem_toArray->bT
open Nat renaming mul_le_mul_right->aD,eq_of_beq_eq_true->aE,le_refl->aF,succ_mul->aK,zero_add->aV,le_trans->aW,lt_of_lt_of_le->aY,le_of_ble_eq_true->bI,beq->bL,mul_comm->bP,zero_mul->bX,add_zero->bY
open Bool renaming false_eq_true->aG,and_eq_true->bF
open Or renaming inr->aL,inl->aR
open Option renaming isSome_none->aM,map_some->aU,map_none->bU
open AV renaming closedL->aS,closedL_at->bE,cells->bV,closed->bW
open Gam renaming set_ne->aT,set_self->aX
def CRel (w:World)(S:Nat->Prop)(γ:Gam)(cells:Array Value)(cs:List AV):Prop:=cells.size=cs.length/\(∀ i (hi:i<cs.length),Rep w S γ cs[i] (cells.getD i undef))/\∀ i,i<cells.size->(cells.getD i undef).oneCell'=true
def Cr (place:Nat->Option (Nat×Nat)):List AV->List (Nat×AV)->Option (List AV)
 |cells,[]=>some cells
 |cells,(i,v)::r=>match place i with
  |none=>none
  |some (off,size)=>match bL v.cells.length size && Nat.ble (off+size) cells.length with
   |true=>Cr place (cells.take off++v.cells++cells.drop (off+size)) r
   |false=>none
theorem z85 (off:Nat):∀ (l:List Value) (n:Nat) (cells:Array Value),((l.zipIdx n).foldl (fun cs p=>cs.setIfInBounds (off+p.2) p.1) cells).size=cells.size /\
  ∀ m,((l.zipIdx n).foldl (fun cs p=>cs.setIfInBounds (off+p.2) p.1) cells).getD m undef=if off+n<=m/\m<off+n+l.length/\m<cells.size then l.getD (m-(off+n)) undef else cells.getD m undef
 |[],n,cells=>⟨rfl,fun m=>by rw [if_neg (by simp;omega)];rfl⟩
 |v::r,n,cells=>by
  simp only [zipIdx_cons,foldl_cons];obtain ⟨h1,e⟩:=z85 off r (n+1) (cells.setIfInBounds (off+n) v);refine ⟨by rw [h1];simp,fun m=>?_⟩;rw [e m];simp only [Array.size_setIfInBounds,length_cons];by_cases hm:m=off+n
  ·subst hm;rw [if_neg (by omega)];by_cases d:off+n<cells.size
   ·rw [if_pos (by omega)];simp [aA,d]
   ·rw [if_neg (by omega)];simp [aA,d]
  ·have b:(cells.setIfInBounds (off+n) v).getD m undef=cells.getD m undef:=by
    simp only [aA,Array.getElem?_setIfInBounds_ne (Ne.symm hm)]
   rw [b];by_cases c:off+(n+1)<=m/\m<off+(n+1)+r.length/\m<cells.size
   ·rw [if_pos c,if_pos (by omega)];rw [show m-(off+n)=(m-(off+(n+1)))+1 by omega];simp
   ·rw [if_neg c,if_neg (by omega)]
variable {w:World}{S:Nat->Prop}{γ:Gam}
theorem Qp {place:Nat->Option (Nat×Nat)}{f:Operand->Value}{g:Operand->AV}:∀ (ops:List (Nat×Operand)) (cells:Array Value) (cs e:List AV),(∀ p∈ops,CRel w S γ (f p.2).cells (g p.2).cells)->CRel w S γ cells cs ->
  Cr place cs (ops.map fun p=>(p.1,g p.2))=some e->∃ cells',Instr.fill place cells (ops.map fun p=>(p.1,f p.2))=some cells'/\CRel w S γ cells' e
 |[],cells,cs,e,_,k,h=>by
  simp only [map_nil,Cr,aB] at h;subst h;exact ⟨cells,rfl,k⟩
 |(i,x)::r,cells,cs,e,G,k,h=>by
  simp only [map_cons,Cr] at h;obtain ⟨F,E,D⟩:=G (i,x) (by simp);simp only at F E D;cases q:place i with
  |none=>rw [q] at h;simp at h
  |some I =>
   obtain ⟨off,size⟩:=I;rw [q] at h;simp only at h;split at h
   ·rename_i b;simp only [bF] at b;have M:(g x).cells.length=size:=aE b.1;have L:off+size<=cs.length:=bI b.2;simp only [map_cons,Instr.fill,q];have A:¬(((f x).cells.size≠size || off+(f x).cells.size > cells.size)=true):=by
     have:=k.1;simp only [Bool.or_eq_true,decide_eq_true_eq];simp only [F] at *;omega
    rw [if_neg A];refine Qp r _ _ e (fun p z=>G p (by simp [z])) ?_ h;have s:((f x).cells.zipIdx.foldl (fun cs (p:Value×Nat)=>cs.setIfInBounds (off+p.2) p.1) cells)=(((f x).cells.toList.zipIdx 0).foldl (fun cs p=>cs.setIfInBounds (off+p.2) p.1) cells):=by
     rw [<-Array.foldl_toList,Array.toList_zipIdx]
    have l:((f x).cells.zipIdx.foldl (fun cs x=>match x with|(c,j)=>cs.setIfInBounds (off+j) c) cells)=(((f x).cells.toList.zipIdx 0).foldl (fun cs p=>cs.setIfInBounds (off+p.2) p.1) cells):=s;obtain ⟨C,H⟩:=z85 off (f x).cells.toList 0 cells;have u:(cs.take off++(g x).cells++cs.drop (off+size)).length=cs.length:=by simp;omega
    have n:∀ m,m<cs.length->(((f x).cells.toList.zipIdx 0).foldl (fun cs p=>cs.setIfInBounds (off+p.2) p.1) cells).getD m undef=if off<=m/\m<off+size then (f x).cells.getD (m-off) undef else cells.getD m undef:=fun m hm=>by
     rw [H m];have J:=k.1;have K:(f x).cells.toList.length=size:=by rw [Array.length_toList];omega
     by_cases y:off<=m/\m<off+size
     ·rw [if_pos y,if_pos (by omega)];simp [aA,aC]
     ·rw [if_neg y,if_neg (by omega)]
    have t:CRel w S γ (((f x).cells.toList.zipIdx 0).foldl (fun cs p=>cs.setIfInBounds (off+p.2) p.1) cells) (cs.take off++(g x).cells++cs.drop (off+size)):=by
     refine ⟨by rw [C,u];exact k.1,fun m hm=>?_,fun m hm=>?_⟩
     ·rw [u] at hm;rw [n m hm];by_cases h1:m<off
      ·rw [if_neg (by omega),aJ (by simp;omega),aJ (by simp;omega),bQ];exact k.2.1 m hm
      ·by_cases N:m<off+size
       ·rw [if_pos (by omega),aJ (by simp;omega),aN (by simp;omega)];have d:(cs.take off).length=off:=by simp;omega
        simp only [d];exact E (m-off) (by omega)
       ·rw [if_neg (by omega),aN (by simp;omega),bR];have d:off+size+(m-(cs.take off++(g x).cells).length)=m:=by simp;omega
        simp only [d];exact k.2.1 m hm
     ·rw [C] at hm;rw [n m (by have:=k.1;omega)];by_cases y:off<=m/\m<off+size
      ·rw [if_pos y];exact D (m-off) (by omega)
      ·rw [if_neg y];exact k.2.2 m hm
    rw [l];exact t
   ·cases h
theorem zhf (w:World)(S:Nat->Prop)(γ:Gam)(z:Value)(d:z.cells.all (·.oneCell')=true):CRel w S γ z.cells (z.cells.toList.map AV.ofV):=by
 refine ⟨by simp,fun j b=>?_,fun j b=>?_⟩
 ·have c:j<z.cells.size:=by simpa using b
  have:z.cells.getD j undef=z.cells[j]:=by simp [bH,c]
  simp only [aO,Array.getElem_toList,this];exact Gk _ _ _ _
 ·have:z.cells.getD j undef=z.cells[j]:=by simp [bH,b]
  rw [this];simp only [bO] at d;exact d j b
section
variable {cx:Cx} {o:Oper} {σ:AS}
def Cd (σ:AS)(ps:Array (Nat×Operand)):List (Nat×AV):=ps.toList.map fun p=>(p.1,σ.eval p.2)
def E2 (l:List (Nat×AV)):List Nat:=l.flatMap fun p=>p.2.ids
def Dq (σ:AS)(ps:Array (Nat×Operand)):Bool:=ps.toList.all fun p=>A0 p.2 && okc σ (σ.eval p.2)
variable {ps:Array (Nat×Operand)}
theorem Ug {τ:AS}{a:Act}(b:StG cx γ τ a w)(c:Dq σ ps=true)(h1:∀ p∈ps.toList,τ.eval p.2=σ.eval p.2)(k:∀ id∈E2 (Cd σ ps),τ.find id=σ.find id) :
  ∀ p∈ps.toList,CRel w (Sg cx.S0 cx.w0.heap.size γ) γ (a.eval p.2).cells (σ.eval p.2).cells:=fun p e=>by
 simp only [Dq,bB,bF] at c;obtain ⟨j,h⟩:=c p e;have d:=b.ev p.2 j;rw [h1 p e] at d;exact Qf b d h (fun id g=>k id (bC.2 ⟨(p.1,σ.eval p.2),bS.2 ⟨p,e,rfl⟩,g⟩))
variable {P:Program}{esz:Nat}
theorem z7o {e:Nat}(h:P.cellsOf e=esz)(c:esz≠0):∃ info,P.info? e=some info/\info.size=esz:=by
 unfold Program.cellsOf at h;cases b:P.info? e with
 |none=>rw [b] at h;simp at h;exact absurd h.symm c
 |some info=>rw [b] at h;simp at h;exact ⟨info,rfl,h⟩
theorem zp5 (Fs:List Field)(h:∀ f∈Fs,P.cellsOf f.type≠0):Fs.mapM (fun f=>(P.info? f.type).map fun i=>(f.offset,i.size))=some (Fs.map fun f=>(f.offset,P.cellsOf f.type)):=by
 induction Fs with
 |nil=>rfl
 |cons f r b =>
  obtain ⟨info,hi,c⟩:=z7o rfl (h f (by simp));rw [mapM_cons,b (fun g d=>h g (by simp [d]))];simp [hi,c]
theorem z7k {T:Nat}{i:TyI}{fs:List (Nat×Nat×Option Bool)}{cs:List AV}(D:o.op=.build T ps)(H:dok cx o=true)(J:lkT cx.E.tab T=some i)(F:i.shape=.strct fs)(E:i.zero.cells.all (·.oneCell')=true)(r:Dq σ ps=true)
  (l:fs.all (fun f=>!(bL f.2.1 0))=true) (u:Cr (fun j=>(fs[j]?).map fun f=>(f.1,f.2.1)) (i.zero.cells.toList.map AV.ofV) (Cd σ ps)=some cs):A9 cx o σ (.agg cs) (E2 (Cd σ ps)) [] :=
 Ay H fun τ γ a w h1 L n=>by
  have k:=Ug n r (fun p G=>h1 p.2 (by simp only [D,Op.operands,bT,bS];exact ⟨p,G,rfl⟩)) L;have c:=cx.E.ok T i J;obtain ⟨Fs,K,d⟩:=X0 c F;obtain ⟨cells',b,A,z,y⟩:=Qp (f:=a.eval) (g:=σ.eval) ps.toList i.zero.cells _ cs k (zhf w _ γ i.zero E) u;have q:(fun j:Nat=>(fs[j]?).map fun (f:Nat×Nat×Option Bool)=>(f.1,f.2.1))=fun j:Nat=>(Fs.toList.map fun f=>(f.offset,cx.P.cellsOf f.type))[j]? := by
   funext j;rw [d];simp [getElem?_map,Option.map_map];rfl
  rw [q] at b;have I:cx.P.built T ((ps.map fun p=>(p.1,a.eval p.2)).toList)=some cells':=by
   obtain ⟨it,t,m⟩:∃ it,cx.P.info? T=some it/\it.zero=some i.zero:=by
    have:=c.zero;cases C:cx.P.info? T with
    |none=>rw [C] at this;simp at this
    |some it=>rw [C] at this;exact ⟨it,rfl,by simpa using this⟩
   have s:∀ f∈Fs.toList,cx.P.cellsOf f.type≠0:=fun f u=>by
    simp only [d,bB] at l;have:=l (f.offset,cx.P.cellsOf f.type,aggT cx.P f.type) (bS.2 ⟨f,u,rfl⟩);intro e;simp [e] at this
   unfold Program.built;rw [t,K];simp only [m,zp5 Fs.toList s,bG];simpa using b
  have h:=run_build (P:=cx.P) w T (ps.map fun p=>(p.1,a.eval p.2)) cells' I;refine ⟨.agg cells',?_,.agg cells' A z y⟩;have e:(ps.map fun x=>match x with|(i,x)=>(i,a.eval x))=ps.map fun p=>(p.1,a.eval p.2):=rfl
  simp only [execOp,D,e,Sem.run_bind,Sem.run_pure,Result.andThen_ok,h]
variable {ag:Option Bool}
theorem zja {T:TypeId}{i:TyI}{n e:Nat}(h:TyOk P T i)(c:i.shape=.arr n e esz ag):P.underlying T=some (.array n e)/\P.cellsOf e=esz/\aggT P e=ag:=by
 obtain ⟨d,g,b⟩:=h.und;rw [c] at b;cases d<;>simp only [E1,Eg.arr.injEq,reduceCtorEq] at b;obtain ⟨rfl,rfl,k,j⟩:=b;exact ⟨g,k,j⟩
theorem z9f {T n e:Nat}{i:TyI}{cs:List AV}(D:o.op=.build T ps)(J:dok cx o=true)(L:lkT cx.E.tab T=some i)(G:i.shape=.arr n e esz ag)(E:i.zero.cells.all (·.oneCell')=true)(r:Dq σ ps=true)(l:esz≠0)
  (I:Cr (fun j=>some (j*esz,esz)) (i.zero.cells.toList.map AV.ofV) (Cd σ ps)=some cs):A9 cx o σ (.agg cs) (E2 (Cd σ ps)) [] :=
 Ay J fun τ γ a w h1 M q=>by
  have h:=Ug q r (fun p H=>h1 p.2 (by simp only [D,Op.operands,bT,bS];exact ⟨p,H,rfl⟩)) M;have b:=cx.E.ok T i L;obtain ⟨F,u,_⟩:=zja b G;obtain ⟨cells',c,A,z,y⟩:=Qp (f:=a.eval) (g:=σ.eval) ps.toList i.zero.cells _ cs h (zhf w _ γ i.zero E) I;have K:cx.P.built T ((ps.map fun p=>(p.1,a.eval p.2)).toList)=some cells':=by
   obtain ⟨it,s,m⟩:∃ it,cx.P.info? T=some it/\it.zero=some i.zero:=by
    have:=b.zero;cases C:cx.P.info? T with
    |none=>rw [C] at this;simp at this
    |some it=>rw [C] at this;exact ⟨it,rfl,by simpa using this⟩
   obtain ⟨ie,t,k⟩:=z7o u l;unfold Program.built;rw [s,F];simp only [m,t,k,bG];exact c
  have d:=run_build (P:=cx.P) w T (ps.map fun p=>(p.1,a.eval p.2)) cells' K;refine ⟨.agg cells',?_,.agg cells' A z y⟩;have e:(ps.map fun x=>match x with|(i,x)=>(i,a.eval x))=ps.map fun p=>(p.1,a.eval p.2):=rfl
  simp only [execOp,D,e,Sem.run_bind,Sem.run_pure,Result.andThen_ok,d]
end
theorem Z4 {x:AV}(h:x.closed=true)(j:Nat)(c:j<x.cells.length):(x.cells[j]).closed=true:=by
 have single:x.cells=[x]->(x.cells[j]).closed=true:=fun d=>by
  have e:∀ y∈x.cells,y.closed=true:=fun y b=>by
   rw [d,mem_singleton] at b;rw [b];exact h
  exact e _ (aQ c)
 cases x with
 |agg cs=>simp only [bW] at h;exact bE h j c
 |_=>exact single rfl
variable {xs:List AV}{sz:Nat}
theorem zke (h:∀ k (b:k<xs.length),(xs[k]).cells.length=sz):(xs.flatMap bV).length=xs.length*sz/\∀ k (b:k<xs.length) j (c:j<(xs[k]).cells.length),(xs.flatMap bV)[k*sz+j]? = some ((xs[k]).cells[j]):=by
 induction xs with
 |nil=>exact ⟨by simp,fun k b=>absurd b (by simp)⟩
 |cons x r e =>
  have d:=h 0 (by simp);simp only [bD] at d;obtain ⟨l,g⟩:=e (fun k b=>by have:=h (k+1) (by simpa using b);simpa using this);refine ⟨by rw [flatMap_cons,bM,d,l,length_cons,aK];omega,fun k b j c=>?_⟩;rw [flatMap_cons];cases k with
  |zero =>
   simp only [bD] at c ⊢;rw [bX,aV,bK c,aP c]
  |succ k =>
   simp only [getElem_cons_succ] at c ⊢;rw [bJ (by rw [d,aK];omega),d,show (k+1)*sz+j-sz=k*sz+j by rw [aK];omega];exact g k (by simpa using b) j c
section
variable {cx:Cx} {o:Oper} {σ:AS}
theorem zdk {z:Array Value}(c:z.all (·.oneCell')=true)(d:0<z.size)(x:Nat):(z[x % z.size]!).oneCell'=true:=by
 have b:=Nat.mod_lt x d;rw [getElem!_pos z _ b];simp only [bO] at c;exact c _ b
variable {P:Program}{T:Nat}{i:TyI}{esz eb:Nat}
theorem Wc {ie:TyI}{e n:Nat}{parts:Array (Nat×Value)}{cells':Array Value}(r:TyOk P T i)(p:i.shape=.slc e esz eb)(q:TyOk P e ie)(k:esz≠0)(u:n*esz<=16777216)
  (g:Instr.fill (fun j=>some (j*esz,esz)) ((bA (n*esz)).map (ie.zero.cells[· % ie.zero.cells.size]!)) parts.toList=some cells') (w:World):(Instr.buildSlice T n parts).run P w=.ok (.slice (some ⟨w.heap.size,0,none⟩) n n) (w.alloc (.cells cells' e)):=by
 obtain ⟨l,h,_⟩:=C5 r p;have b:=Dp h k w;have c:=q.zeroV w;by_cases m:n*esz=0
 ·have d:n=0:=(Nat.mul_eq_zero.1 m).resolve_right k;subst d;have t:((bA (0*esz)).map (ie.zero.cells[· % ie.zero.cells.size]!))=#[]:=by simp
  rw [t] at g;unfold Instr.buildSlice;simp only [Sem.run_bind,run_underlying l,Result.andThen_ok,b];rw [if_neg (by omega)];simp only [bX,if_true,Sem.run_bind,Sem.run_pure,Result.andThen_ok];have s:((bA 0).map fun x=>(#[]:Array Value)[x % (#[]:Array Value).size]!)=#[]:=by simp
  rw [s,g];simp [Qc,pure]
 ·unfold Instr.buildSlice;simp only [Sem.run_bind,run_underlying l,Result.andThen_ok,b];rw [if_neg (by omega),if_neg m];simp only [Sem.run_bind,c,Sem.run_pure,Result.andThen_ok];rw [g];simp [Qc,pure]
theorem z88 {n:Nat}{ps:Array (Nat×Operand)}{ie:TyI}{e:Nat}(R:o.op=.buildSlice T n ps)(hd:dok cx o=true)(hT:lkT cx.E.tab T=some i)(W:i.shape=.slc e esz eb)(he:lkT cx.E.tab e=some ie)(V:esz≠0)(Y:Nat.ble (n*esz) 16777216=true)
  (I:ie.zero.cells.all (·.oneCell')=true) (J:Nat.blt 0 ie.zero.cells.size=true) (L:Dq σ ps=true) (M:aS xs=true) (E:xs.length=n) (U:xs.all (fun x=>bL x.cells.length esz)=true)
  (Z:Cr (fun j=>some (j*esz,esz)) (replicate (n*esz) .any) (Cd σ ps)=some (xs.flatMap bV)):A9 cx o σ (.sl esz xs) (E2 (Cd σ ps)) [] :=
 zos hd fun τ γ a w h1 h2 m=>by
  have C:=Ug m L (fun p X=>h1 p.2 (by simp only [R,Op.operands,bT,bS];exact ⟨p,X,rfl⟩)) h2;have u:∀ j,(ie.zero.cells[j % ie.zero.cells.size]!).oneCell'=true:=zdk I (by simpa using J);have z:CRel w (Sg cx.S0 cx.w0.heap.size γ) γ ((bA (n*esz)).map (ie.zero.cells[· % ie.zero.cells.size]!)) (replicate (n*esz) .any):=by
   refine ⟨by simp,fun j l=>by simp only [getElem_replicate];exact .any _,fun j l=>?_⟩;have r:j<n*esz:=by simpa using l
   have:((bA (n*esz)).map (ie.zero.cells[· % ie.zero.cells.size]!)).getD j undef=ie.zero.cells[j % ie.zero.cells.size]! := by
    rw [aA,Array.getElem?_map,Array.getElem?_range,if_pos r];rfl
   rw [this];exact u j
  obtain ⟨cells',t,F,O,N⟩:=Qp (f:=a.eval) (g:=σ.eval) ps.toList _ _ _ C z Z;have A:=Wc (parts:=ps.map fun p=>(p.1,a.eval p.2)) (cx.E.ok T i hT) W (cx.E.ok e ie he) V (bI Y) (by rw [bG];exact t) w;have y:Below w.heap.size w (w.alloc (.cells cells' e)):=(Below.refl _ _).alloc (aF _) _;have G:Blk (w.alloc (.cells cells' e)) w.heap.size e cells':=Blk.new w _ _;have c:∀ k (d:k<xs.length),(xs[k]).cells.length=esz:=fun k d=>by
   simp only [bB] at U;exact aE (U _ (aQ d))
  obtain ⟨Q,g2⟩:=zke c;have s:∀ k j,k<xs.length->j<esz->k*esz+j<xs.length*esz:=fun k j d l=>by
   have:(k+1)*esz<=xs.length*esz:=aD _ d;rw [aK] at this;omega
  have K:=m.below.size;refine ⟨.slice (some ⟨w.heap.size,0,none⟩) n n,w.alloc (.cells cells' e),?_,y,fun _=>aF _,?_⟩
  ·have e':(ps.map fun x=>match x with|(i,x)=>(i,a.eval x))=ps.map fun p=>(p.1,a.eval p.2):=rfl
   simp only [execOp,R,e',Sem.run_bind,Sem.run_pure,Result.andThen_ok,A]
  ·subst E;refine .sl (some ⟨w.heap.size,0,none⟩) xs.length (fun k j=>if k<xs.length/\j<esz then cells'.getD (k*esz+j) undef else .bool true) (aF _) c (fun _=>⟨w.heap.size,0,rfl,aL ⟨⟨K,fun h0=>by have:=m.gh _ h0;omega⟩,fun D=>by have:=(m.ge _ D).2;omega⟩,by simp,fun k j d l=>?_⟩) (fun k d j l=>?_) (fun k j=>?_)
   ·rw [if_pos ⟨d,l⟩,aV];exact Mh G _ (by rw [F,Q];exact s k j d l)
   ·have r:j<esz:=by rw [<-c k d];exact l
    rw [if_pos ⟨d,r⟩];have q:k*esz+j<(xs.flatMap bV).length:=by rw [Q];exact s k j d r
    have:=O (k*esz+j) q;have H:=g2 k d j l;rw [aP q] at H;injection H with H
    rw [H] at this;refine (this.mono y.size (fun b hS q=>⟨y.block b q,hS⟩)).close ?_;exact Z4 (bE M k d) j l
   ·by_cases h:k<xs.length/\j<esz
    ·rw [if_pos h];exact N _ (by rw [F,Q];exact s k j h.1 h.2)
    ·rw [if_neg h];rfl
def bndA (σ:AS)(d:Nat):Option Operand->Option Int
 |none=>some d
 |some y=>match σ.eval y with|.int _ n=>some n|_=>none
def opdO:Option Operand->Bool |none=>true |some y=>A0 y
theorem Uf (k:IntKind)(m y:Nat)(c:BoundsCode)(h:m<=y):(Instr.sliceBound (.int k (m:Int)) y c).run P w=.ok m w:=by
 have:(0:Int)<=m/\(m:Int)<=y:=by omega
 simp [Instr.sliceBound,asIntOf,this.1,this.2,pure,h]
variable {x:Operand}{lo hi:Option Operand}
theorem znf {l h:Nat}{e esz:Nat}(G:o.op=.slice T x lo hi none)(hd:dok cx o=true)(I:A0 x=true)(L:opdO lo=true)(O:opdO hi=true)(X:σ.eval x=.sl sz xs)(hT:lkT cx.E.tab T=some i)(Z:i.shape=.slc e sz eb)(W:sz≠0)
  (h1:bndA σ 0 lo=some (l:Int)) (z:bndA σ xs.length hi=some (h:Int)) (M:l<=h) (hh:h<=xs.length):A9 cx o σ (.sl sz ((xs.take h).drop l)) [] [] :=
 Ay hd fun τ γ a w s aa p=>by
  have E:=p.ev x I;rw [s x (by simp [G,Op.operands]),X] at E;obtain ⟨A,c,ex,hc,D,cell,hb,hr,U⟩:=E.sl_inv;obtain ⟨Y,Q,_⟩:=C5 (cx.E.ok T i hT) Z;have J:=Dp Q W w;have R:∃ F:Option Value,hi.map a.eval=F/\(match F with|some v=>Instr.sliceBound v c .sliceAcap|none=>pure xs.length:Sem Nat).run cx.P w=.ok h w:=by
   refine ⟨_,rfl,?_⟩;cases hi with
   |none=>simp only [bndA,aB] at z;have:xs.length=h:=by omega
          simp [this]
   |some y =>
    have t:=p.ev y O;rw [s y (by simp [G,Op.operands])] at t;simp only [bndA] at z;cases C:σ.eval y with
    |int k n =>
     rw [C] at t z;simp only [aB] at z;subst z;simp only [aU,t.int_inv];exact Uf k h c _ (by omega)
    |_=>rw [C] at z;simp at z
  have d:(match lo.map a.eval with|some v=>Instr.sliceBound v h .sliceB|none=>pure 0:Sem Nat).run cx.P w=.ok l w:=by
   cases lo with
   |none=>simp only [bndA,aB] at h1;have:l=0:=by omega
          simp [this]
   |some y =>
    have t:=p.ev y L;rw [s y (by simp [G,Op.operands])] at t;simp only [bndA] at h1;cases C:σ.eval y with
    |int k n =>
     rw [C] at t h1;simp only [aB] at h1;subst h1;simp only [aU,t.int_inv];exact Uf k l h _ M
    |_=>rw [C] at h1;simp at h1
  obtain ⟨F,N,m⟩:=R;have hB:(Instr.sliceBounds true xs.length c (lo.map a.eval) (hi.map a.eval) none).run cx.P w=.ok (l,h,c) w:=by
   rw [N];unfold Instr.sliceBounds;cases F with
   |none =>
    simp only [Sem.run_bind,Sem.run_pure,Result.andThen_ok] at m ⊢;have:xs.length=h:=by simpa using m
    subst this;cases g:lo.map a.eval with
    |none=>rw [g] at d;simp only [Sem.run_pure,Result.ok.injEq,and_true] at d ⊢;simp [d]
    |some v=>rw [g] at d;simp only [aM,aG,if_false,Sem.run_bind,Sem.run_pure,d,Result.andThen_ok]
   |some v =>
    simp only [if_true,Sem.run_bind,Sem.run_pure,Result.andThen_ok,m] at m ⊢;cases g:lo.map a.eval with
    |none=>rw [g] at d;simp only [Sem.run_pure,Result.ok.injEq,and_true] at d ⊢;simp [d]
    |some v=>rw [g] at d;simp only [aM,aG,if_false,Sem.run_bind,Sem.run_pure,d,Result.andThen_ok]
  have q:((xs.take h).drop l).length=h-l:=by simp;omega
  refine ⟨.slice (if c=l then A else A.map (·.add (l*sz))) (h-l) (c-l),?_,?_⟩
  ·simp only [execOp,G,ex,Instr.sliceAt,Instr.slice,Sem.run_bind,Sem.run_pure,Result.andThen_ok,run_underlying Y,hB,J,bU]
  ·rw [<-q];refine .sl _ _ (fun k j=>cell (l+k) j) (by omega) (fun k V=>?_) (fun h0=>?_) (fun k V j H=>?_) (fun k j=>U _ _)
   ·have r:l+k<xs.length:=by omega
    simp only [bR,bQ];exact D _ r
   ·obtain ⟨b,off,rfl,hS,K,u⟩:=hb (by omega);refine ⟨b,off+l*sz,?_,hS,K,fun k j V H=>?_⟩
    ·rw [if_neg (by omega)];simp [Addr.add_lit]
    ·have:=u (l+k) j (by omega) H;rw [show off+l*sz+(k*sz+j)=off+((l+k)*sz+j) by rw [Nat.add_mul];omega];exact this
   ·have r:l+k<xs.length:=by omega
    simp only [bR,bQ] at H ⊢;exact hr (l+k) r j H
theorem z91 {l h:Nat}{s:ByteArray}(u:o.op=.slice T x lo hi none)(J:dok cx o=true)(z:A0 x=true)(A:opdO lo=true)(E:opdO hi=true)(G:σ.eval x=.str s)(K:lkT cx.E.tab T=some i)(H:i.shape=.str)
  (h1:bndA σ 0 lo=some (l:Int)) (p:bndA σ s.size hi=some (h:Int)) (C:l<=h) (M:h<=s.size):A9 cx o σ (.str (s.extract l h)) [] [] :=
 Ay J fun τ γ a w m I j=>by
  have r:=j.ev x z;rw [m x (by simp [u,Op.operands]),G] at r;obtain ⟨d,F,g⟩:=(cx.E.ok T i K).und;rw [H] at g;cases d<;>simp only [E1,reduceCtorEq] at g;have c:∃ t:Option Value,hi.map a.eval=t/\(match t with|some v=>Instr.sliceBound v s.size .sliceAlen|none=>pure s.size:Sem Nat).run cx.P w=.ok h w:=by
   refine ⟨_,rfl,?_⟩;cases hi with
   |none=>simp only [bndA,aB] at p;have:s.size=h:=by omega
          simp [this]
   |some y =>
    have g:=j.ev y E;rw [m y (by simp [u,Op.operands])] at g;simp only [bndA] at p;cases q:σ.eval y with
    |int k n =>
     rw [q] at g p;simp only [aB] at p;subst p;simp only [aU,g.int_inv];exact Uf k h _ _ (by omega)
    |_=>rw [q] at p;simp at p
  have b:(match lo.map a.eval with|some v=>Instr.sliceBound v h .sliceB|none=>pure 0:Sem Nat).run cx.P w=.ok l w:=by
   cases lo with
   |none=>simp only [bndA,aB] at h1;have:l=0:=by omega
          simp [this]
   |some y =>
    have g:=j.ev y A;rw [m y (by simp [u,Op.operands])] at g;simp only [bndA] at h1;cases q:σ.eval y with
    |int k n =>
     rw [q] at g h1;simp only [aB] at h1;subst h1;simp only [aU,g.int_inv];exact Uf k l h _ C
    |_=>rw [q] at h1;simp at h1
  obtain ⟨t,D,c⟩:=c;have L:(Instr.sliceBounds false s.size s.size (lo.map a.eval) (hi.map a.eval) none).run cx.P w=.ok (l,h,s.size) w:=by
   rw [D];unfold Instr.sliceBounds;cases t with
   |none =>
    simp only [Sem.run_bind,Sem.run_pure,Result.andThen_ok] at c ⊢;have:s.size=h:=by simpa using c
    subst this;cases e:lo.map a.eval with
    |none=>rw [e] at b;simp only [Sem.run_pure,Result.ok.injEq,and_true] at b ⊢;simp [b]
    |some v=>rw [e] at b;simp only [aM,aG,if_false,Sem.run_bind,Sem.run_pure,b,Result.andThen_ok]
   |some v =>
    simp only [aG,if_false,Sem.run_bind,Sem.run_pure,Result.andThen_ok,c] at c ⊢;cases e:lo.map a.eval with
    |none=>rw [e] at b;simp only [Sem.run_pure,Result.ok.injEq,and_true] at b ⊢;simp [b]
    |some v=>rw [e] at b;simp only [aM,aG,if_false,Sem.run_bind,Sem.run_pure,b,Result.andThen_ok]
  refine ⟨.string (s.extract l h),?_,.str _⟩;simp only [execOp,u,r.str_inv,Instr.sliceAt,Instr.slice,Sem.run_bind,Sem.run_pure,Result.andThen_ok,run_underlying F,L,bU,aM,aG,if_false]
theorem zok {k:IntKind}(h:TyOk P T i)(c:i.shape=.int k):P.underlying T=some (.int k):=by
 obtain ⟨d,e,b⟩:=h.und;rw [c] at b;cases d<;>simp only [E1,reduceCtorEq,Eg.int.injEq] at b;subst b;exact e
theorem zfz {T':Nat}{j:TyI}{k b:IntKind}{n:Int}(m:o.op=.convert T T' x)(s:dok cx o=true)(e:A0 x=true)(p:σ.eval x=.int k n)(t:lkT cx.E.tab T=some i)(l:lkT cx.E.tab T'=some j)(r:j.shape=.int b):A9 cx o σ (.int b (b.wrap n)) [] [] :=
 Ay s fun τ γ a w h1 u g=>by
  have c:=g.ev x e;rw [h1 x (by simp [m,Op.operands]),p] at c;obtain ⟨d,h,_⟩:=(cx.E.ok T i t).und;have q:=zok (cx.E.ok T' j l) r;refine ⟨.int b (b.wrap n),?_,.int _ _⟩;simp only [execOp,m,c.int_inv,convert,Sem.run_bind,Sem.run_pure,Result.andThen_ok,run_underlying h,run_underlying q,Conv.intToInt]
theorem zbm {f:FuncId}{ps:Array Operand}{cs:List AV}(h:o.op=.makeFunc (.func f) #[] ps)(j:dok cx o=true)(b:ps.toList.all A0=true)(k:ps.toList.map σ.eval=cs):A9 cx o σ (.fn f cs) [] [] :=
 Ay j fun τ γ a w h1 l d=>by
  subst k;refine ⟨.func (.func f) #[] (ps.map a.eval),by simp [execOp,h,Instr.makeFunc,pure],.fn _ (by simp) (fun i hi=>?_)⟩;have g:i<ps.size:=by simpa using hi
  have e:(ps.map a.eval).getD i undef=a.eval ps[i]:=by simp [bH,g]
  rw [e];simp only [bB] at b;have c:=d.ev ps[i] (b _ (by simp));rw [h1 ps[i] (by simp [h,Op.operands])] at c;simpa using c
end
variable {P:Program}
theorem TyOk.both {T:TypeId}{i:TyI}(h:TyOk P T i):∃ x,P.info? T=some x/\x.size=i.sz/\x.bytes=i.bytes/\x.zero=some i.zero:=by
 have h1:=h.info;have b:=h.zero;cases c:P.info? T with
 |none=>rw [c] at h1;simp at h1
 |some x=>rw [c] at h1 b;simp at h1 b;exact ⟨x,rfl,h1.1,h1.2,b⟩
variable {ty:Nat}{v:Value}{vs:List Value}
theorem z5n {base T e n m c:Nat}{ie:TyI}{A:Option Addr}{news:List Value}(r:P.underlying T=some (.slice e))(M:TyOk P e ie)(s:ie.sz=sz)(Q:sz≠0)(q:ie.zero.cells.size=sz)
  (d:w.ownsRow base e sz v n vs) (N:0<m->∃ b off,A=some ⟨b,off,none⟩/\∀ j u,news[j]? = some u->w.cell? ⟨b,off+j,none⟩=some u) (F:news.length=m*sz) (h1:∀ u∈news,u.oneCell'=true)
  (E:n+m<=maxLen) (D:(n+m)*ie.bytes<=140737488355328) (k:base<=w.heap.size) :
  ∃ v' w',(Builtin.append_ #[T,T] ty #[v,.slice A m c]).run P w=.ok v' w'/\w'.ownsRow base e sz v' (n+m) (vs++news)/\w.grownBy w' v.ownBlock/\(v'.ownBlock=v.ownBlock\/v'.ownBlock=some w.heap.size):=by
 obtain ⟨i,hi,C,z,y⟩:=M.both;rcases Nat.eq_zero_or_pos m with p|p
 ·subst p;have K:news=[]:=bN.1 (by rw [F];simp);subst K;refine ⟨v,w,?_,by simpa using d,World.grownBy.refl w _,.inl rfl⟩;have G:(Builtin.firstCells i.size 0 (.slice A 0 c)).run P w=.ok #[] w:=by
   cases A<;>simp [Builtin.firstCells,loadCells,loadCellsFrom,pure]
  rcases d.2 with ⟨rfl,p⟩|⟨g,cap,O,rfl,_,_,t,_⟩
  ·simp [Builtin.append_,run_underlying r,Go.sizeOf,typeInfo,hi,Builtin.lenOf,G]
  ·simp [Builtin.append_,run_underlying r,Go.sizeOf,typeInfo,hi,Builtin.lenOf,G,t,storeCells]
 ·obtain ⟨b,off,rfl,h⟩:=N p;obtain ⟨v',w',l,J,I,_,H⟩:=run_append_own_at (P:=P) w base T ty e i ie.zero sz ie.bytes r hi y (C.trans s) z q (by omega) v n vs d ⟨b,off,none⟩ m c news F (fun j u L=>by rw [Addr.add_lit];exact h j u L) h1 E D k;exact ⟨v',w',l,J,I,H⟩
theorem Cg {base e n:Nat}(h:w.ownsRow base e sz v n vs):v.oneCell'=true:=by
 rcases h.2 with ⟨rfl,_⟩|⟨g,cap,b,rfl,_⟩<;>rfl
def Dh:Option Nat->List (Nat×Ent) |none=>[] |some id=>[(id,.dead)]
section
variable {cx:Cx} {o:Oper} {σ:AS}
theorem zda {T d e eb:Nat}{x y:Operand}{i ie:TyI}{ys:List AV}{oid:Option Nat}(ho:o.op=.call { callee:=.builtin .append,args:=#[x,y],argTypes:=#[T,T] })(ac:o.dst=some d)(hd:dok cx o=true)(bg:A0 x=true)(bf:A0 y=true)
  (hT:lkT cx.E.tab T=some i) (hs:i.shape=.slc e sz eb) (he:lkT cx.E.tab e=some ie) (bi:ie.sz=sz) (hz:sz≠0) (bd:ie.zero.cells.size=sz)
  (Y:(σ.eval x=.nils/\oid=none/\xs=[])\/∃ id,σ.eval x=.row id/\oid=some id/\id≠d/\σ.find id=some (.row e sz xs)) (hy:σ.eval y=.sl sz ys\/(σ.eval y=.nils/\ys=[])) (hn:σ.find d=none)
  (bs:xs.length+ys.length<=1099511627776) (bo:(xs.length+ys.length)*ie.bytes<=140737488355328)
  (ba:cx.E.dr=false):A9 cx o σ (.row d) (d::oid.toList) ((d,.row e sz (xs++ys))::Dh oid):=by
 have al:∀ id,lkE (Dh oid) id=if oid=some id then some .dead else none:=fun id=>by
  cases oid with
  |none=>simp [Dh,lkE]
  |some j =>
   simp only [Dh,lkE,aB];by_cases h:j=id
   ·subst h;simp
   ·rw [if_neg h];cases F:bL j id with
    |true=>exact absurd (aE F) h
    |false=>rfl
 have ad:∀ id,lkE ((d,Ent.row e sz (xs++ys))::Dh oid) id=if d=id then some (.row e sz (xs++ys)) else if oid=some id then some .dead else none:=fun id=>by
  simp only [lkE];by_cases h:d=id
  ·subst h;simp
  ·rw [if_neg h,<-al];cases F:bL d id with
   |true=>exact absurd (aE F) h
   |false=>rfl
 refine ⟨fun id e' ab=>?_,fun τ h1 h2 a w Q K ⟨γ,m⟩ hK=>Br (fun c hc=>by rw [ho] at hc;cases hc) ?_⟩
 ·rw [ad] at ab;by_cases h:d=id
  ·simp [h]
  ·rw [if_neg h] at ab;by_cases C:oid=some id
   ·simp [C]
   ·rw [if_neg C] at ab;cases ab
 have I:=m.ev x bg;rw [h1 x (by simp [ho,Op.operands,Call.operands])] at I;have H:=m.ev y bf;rw [h1 y (by simp [ho,Op.operands,Call.operands])] at H;obtain ⟨hu,br,_⟩:=C5 (cx.E.ok T i hT) hs;have an:γ d=none:=by have:=m.me d;rw [h2 d (by simp),hn] at this;exact this
 have af:=m.below.size
 -- the row that is appended to
 have hX:∃ vs:List Value,w.ownsRow cx.w0.heap.size e sz (a.eval x) xs.length vs/\(∀ k (D:k<xs.length),(xs[k]).cells.length=sz)/\(∀ k (D:k<xs.length) j (U:j<(xs[k]).cells.length),Rep w (Sg cx.S0 cx.w0.heap.size γ) G0 ((xs[k]).cells[j]) (vs.getD (k*sz+j) undef))/\(∀ u∈vs,u.oneCell'=true) /\
   (∀ g,(a.eval x).ownBlock=some g->∃ id s,oid=some id/\γ id=some (some (some g,s))):=by
  rcases Y with ⟨Y,rfl,rfl⟩|⟨id,Y,rfl,bq,hl⟩
  ·rw [Y] at I;rw [I.nils_inv];exact ⟨[],World.ownsRow_nil w _ _ _,fun k D=>absurd D (by simp),fun k D=>absurd D (by simp),fun u hu=>absurd hu (by simp),fun g hg=>by simp [Value.ownBlock] at hg⟩
  ·rw [Y] at I;have ax:=m.me id;rw [h2 id (by simp),hl] at ax;obtain ⟨dd,bb,s,vs,bn,_,N,O,hr,ap⟩:=ax;subst bn;have ex:=I.row_inv bb;rw [ex];exact ⟨vs,N,O,hr,ap,fun g hg=>⟨id,s,rfl,by rw [bb,hg]⟩⟩
 obtain ⟨vs,N,W,bk,ah,n⟩:=hX
 -- what is appended
 have hY:∃ (A:Option Addr) (c:Nat) (news:List Value),a.eval y=.slice A ys.length c/\news.length=ys.length*sz/\(0<ys.length->∃ b off,A=some ⟨b,off,none⟩/\∀ j u,news[j]? = some u->w.cell? ⟨b,off+j,none⟩=some u)/\(∀ u∈news,u.oneCell'=true) /\
   (∀ k (D:k<ys.length),(ys[k]).cells.length=sz)/\(∀ k (D:k<ys.length) j (U:j<(ys[k]).cells.length),Rep w (Sg cx.S0 cx.w0.heap.size γ) G0 ((ys[k]).cells[j]) (news.getD (k*sz+j) undef)):=by
  rcases hy with hy|⟨hy,rfl⟩
  ·rw [hy] at H;obtain ⟨A,c,ey,hc,O,cell,F,hr,bp⟩:=H.sl_inv;refine ⟨A,c,(range (ys.length*sz)).map (fun q=>cell (q / sz) (q % sz)),ey,by simp,fun h0=>?_,fun u hu=>?_,O,fun k D j U=>?_⟩
   ·obtain ⟨b,off,rfl,hS,E,am⟩:=F h0;refine ⟨b,off,rfl,fun j u U=>?_⟩;obtain ⟨az,ay⟩:=List.getElem?_eq_some_iff.1 U;simp only [length_map,length_range] at az;simp only [aO,getElem_range] at ay;have hq:j / sz<ys.length:=(Nat.div_lt_iff_lt_mul (by omega)).2 az;have hm:j % sz<sz:=Nat.mod_lt _ (by omega);have:=am (j / sz) (j % sz) hq hm;rw [show j / sz*sz+j % sz=j by rw [bP];exact Nat.div_add_mod j sz] at this;rw [this,ay]
   ·obtain ⟨q,_,rfl⟩:=bS.1 hu;exact bp _ _
   ·have aj:j<sz:=by rw [<-O k D];exact U
    have E:k*sz+j<ys.length*sz:=by
     have:(k+1)*sz<=ys.length*sz:=aD _ D;rw [aK] at this;omega
    have hq:(k*sz+j) / sz=k:=by rw [bP,Nat.mul_add_div (by omega),Nat.div_eq_of_lt aj,bY]
    have aw:(k*sz+j) % sz=j:=by rw [bP,Nat.mul_add_mod,Nat.mod_eq_of_lt aj]
    have:((range (ys.length*sz)).map (fun q=>cell (q / sz) (q % sz))).getD (k*sz+j) undef=cell k j:=by
     rw [aC,getElem?_map,getElem?_range E];simp [hq,aw]
    rw [this];exact hr k D j U
  ·rw [hy] at H;exact ⟨none,0,[],H.nils_inv,by simp,fun h=>absurd h (by simp),fun u hu=>absurd hu (by simp),fun k D=>absurd D (by simp),fun k D=>absurd D (by simp)⟩
 obtain ⟨A,c,news,ey,bl,hA,V,ai,bj⟩:=hY;obtain ⟨v',w',ao,q1,R,q3⟩:=z5n (P:=cx.P) (c:=c) (ty:=o.type) hu (cx.E.ok e ie he) bi hz bd N hA bl V (by simp only [maxLen];omega) bo af;have bm:(execOp a.eval o).run cx.P w=.ok (.value v') w':=by
  simp only [execOp,ho,resolve,invoke,builtin,Sem.run_bind,Sem.run_pure,Result.andThen_ok,map_toArray,map_cons,map_nil,ey,ao]
 unfold Oper.wp;rw [bm];have ae:v'.oneCell'=true:=Cg q1;let γ':Gam:=fun id=>if d=id then some (some (v'.ownBlock,v')) else if oid=some id then some none else γ id
 have G:γ' d=some (some (v'.ownBlock,v')):=if_pos rfl;have z:∀ id,d≠id->oid≠some id->γ' id=γ id:=fun id h1 h2=>by show (if d=id then _ else if oid=some id then _ else γ id)=γ id;rw [if_neg h1,if_neg h2]
 have t:∀ id,d≠id->oid=some id->γ' id=some none:=fun id h1 h2=>by show (if d=id then _ else if oid=some id then _ else γ id)=some none;rw [if_neg h1,if_pos h2]
 have J:∀ b,own γ' b->v'.ownBlock=some b\/own γ b:=fun b ⟨id,dd,hi,hm⟩=>by
  by_cases h:d=id
  ·subst h;rw [G] at hi;injection hi with hi;subst hi;exact aR (D9 (D8 ae) hm)
  ·by_cases C:oid=some id
   ·rw [t id h C] at hi;injection hi with hi;subst hi;simp [blks] at hm
   ·rw [z id h C] at hi;exact aL ⟨id,dd,hi,hm⟩
 have Z:∀ b,v'.ownBlock=some b->(own γ b/\(a.eval x).ownBlock=some b)\/b=w.heap.size:=fun b F=>by
  rcases q3 with q3|q3
  ·rw [q3] at F;obtain ⟨id,s,_,hi⟩:=n b F;exact aR ⟨own.mk hi,F⟩
  ·rw [q3] at F;injection F with F;exact aL F.symm
 have D:∀ b,Sg cx.S0 cx.w0.heap.size γ b->b<w.heap.size->w'.heap[b]? = w.heap[b]? /\ Sg cx.S0 cx.w0.heap.size γ' b:=fun b hS E=>by
  have M:¬own γ b:=by
   rcases hS with ⟨_,h⟩|⟨_,h⟩
   ·intro F;have:=(m.ge b F).1.1;omega
   ·exact h
  refine ⟨R.block b E (fun e=>?_),?_⟩
  ·obtain ⟨id,s,_,hi⟩:=n b e.symm;exact M (own.mk hi)
  ·rcases hS with hS|⟨hB,_⟩
   ·exact aR hS
   ·refine aL ⟨hB,fun L=>?_⟩;rcases J b L with h|h
    ·rcases Z b h with ⟨h,_⟩|h
     ·exact M h
     ·omega
    ·exact M h
 have au:∀ {av v},Rep w (Sg cx.S0 cx.w0.heap.size γ) G0 av v->Rep w' (Sg cx.S0 cx.w0.heap.size γ') G0 av v:=fun h=>h.mono R.size D
 refine hK _ _ ⟨γ',?_⟩;rw [ac];refine m.step (γ':=γ') (fun x Y=>by injection Y with Y;subst Y;exact Bj hd _ ac) R.size D (fun id x l=>?_) (fun id l=>?_) (fun id e' l=>?_) (fun id r b d1 d2 hi p m1 m2=>?_) (fun b F=>?_) ?_ (.row G (fun g s e _=>by injection e with e;injection e with e e2)) (fun b M E=>⟨R.block b E (fun e=>by obtain ⟨id,s,_,hi⟩:=n b e.symm;exact M (own.mk hi)),fun L=>by
  rcases J b L with h|h
  ·rcases Z b h with ⟨h,_⟩|h
   ·exact M h
   ·omega
  ·exact M h⟩) (fun h=>absurd (ba.symm.trans h) (by simp))
 ·by_cases h:d=id
  ·subst h;rw [an] at l;cases l
  ·by_cases C:oid=some id
   ·exact aL (aR (t id h C))
   ·exact aR (by rw [z id h C];exact l)
 ·rw [ad] at l;by_cases h:d=id
  ·rw [if_pos h] at l;cases l
  ·rw [if_neg h] at l;by_cases C:oid=some id
   ·rw [if_pos C] at l;cases l
   ·refine ⟨z id h C,fun g dd hg hm=>R.block g (m.ge g ⟨id,dd,hg,hm⟩).2 (fun e=>?_)⟩;obtain ⟨bc,s0,h0,ak⟩:=n g e.symm;have:=m.inj _ _ _ _ _ hg ak hm Bc;subst this;exact C h0
 ·rw [ad] at l;by_cases h:d=id
  ·subst h;rw [if_pos rfl] at l;injection l with l
   subst l;refine ⟨_,G,v',vs++news,rfl,ae,by rw [bM];exact q1,fun k D=>?_,fun k D j U=>?_,fun u hu=>(mem_append.1 hu).elim (ah u) (V u)⟩
   ·rw [getElem_append];split
    ·exact W k _
    ·exact ai _ _
   ·rw [bM] at D;have bh:vs.length=xs.length*sz:=N.1;by_cases aa:k<xs.length
    ·simp only [aJ aa] at U ⊢;have aj:j<sz:=by rw [<-W k aa];exact U
     have E:k*sz+j<vs.length:=by
      have:(k+1)*sz<=xs.length*sz:=aD _ aa;rw [aK] at this;omega
     rw [aC,bK E,<-aC];exact au (bk k aa j U)
    ·have X:xs.length<=k:=by omega
     simp only [aN X] at U ⊢;have E:vs.length<=k*sz+j:=by
      have:xs.length*sz<=k*sz:=aD _ X;omega
     rw [aC,bJ E,<-aC];rw [show k*sz+j-vs.length=(k-xs.length)*sz+j by
      rw [bh,Nat.sub_mul];have:xs.length*sz<=k*sz:=aD _ X;omega]
     exact au (bj (k-xs.length) (by omega) j U)
  ·rw [if_neg h] at l;by_cases C:oid=some id
   ·rw [if_pos C] at l;injection l with l
    subst l;exact ⟨none,t id h C,rfl⟩
   ·rw [if_neg C] at l;cases l
 ·have key:∀ id r b d1 d2,d=id->d≠r->γ' id=some d1->γ' r=some d2->b∈blks d1->b∈blks d2->False:=fun id r b d1 d2 h C hi p m1 m2=>by
   subst h;rw [G] at hi;injection hi with hi
   subst hi;have hi:=D9 (D8 ae) m1;by_cases L:oid=some r
   ·rw [t r C L] at p;injection p with p;subst p;simp [blks] at m2
   ·rw [z r C L] at p;rcases Z b hi with ⟨_,F⟩|F
    ·obtain ⟨bc,s0,h0,ak⟩:=n b F;have:=m.inj _ _ _ _ _ p ak m2 Bc;subst this;exact L h0
    ·have:=(m.ge b ⟨r,d2,p,m2⟩).2;omega
  by_cases h:d=id
  ·by_cases C:d=r
   ·rw [<-h,<-C]
   ·exact (key id r b d1 d2 h C hi p m1 m2).elim
  ·by_cases C:d=r
   ·exact (key r id b d2 d1 C h p hi m2 m1).elim
   ·by_cases ar:oid=some id
    ·rw [t id h ar] at hi;injection hi with hi;subst hi;simp [blks] at m1
    ·by_cases aq:oid=some r
     ·rw [t r C aq] at p;injection p with p;subst p;simp [blks] at m2
     ·rw [z id h ar] at hi;rw [z r C aq] at p;exact m.inj _ _ _ _ _ hi p m1 m2
 ·rcases J b F with h|h
  ·rcases Z b h with ⟨h,_⟩|C
   ·exact ⟨(m.ge b h).1,aY (m.ge b h).2 R.size⟩
   ·refine ⟨⟨by omega,fun h0=>by have:=m.gh _ h0;omega⟩,?_⟩;rcases q1.2 with ⟨hv,_⟩|⟨g,cap,bt,hv,_,hh,_⟩
    ·rw [hv] at h;simp [Value.ownBlock] at h
    ·rw [hv] at h;simp only [Value.ownBlock,aB] at h;subst h;exact (aH.1 hh).1
  ·exact ⟨(m.ge b h).1,aY (m.ge b h).2 R.size⟩
 ·refine m.below.trans ⟨R.os,R.tape,R.output,R.size,fun k D=>R.block k (by omega) (fun e=>?_)⟩;obtain ⟨id,s,_,hi⟩:=n k e.symm;have:=(m.ge k (own.mk hi)).1.1;omega
end
def Bh (E:Env)(f:FuncId):Prop:=∀ args w,(callFunc f args).run E.P w=.ok (.enter f args) w
def Args (w:World)(S:Nat->Prop)(args:List AV)(vs:Array Value):Prop:=vs.size=args.length/\∀ i (hi:i<args.length),Rep w S G0 args[i] (vs.getD i undef)
def BelE (E:Env)(w w':World):Prop:=Below w.heap.size w w'/\(E.dr=true->w.drawn<=w'.drawn)
def Con (E:Env)(fr:Bool)(f:FuncId)(args:List AV)(res:AV):Prop:=Bh E f/\∀ (S:Nat->Prop) (w:World) (vs:Array Value),Args w S args vs->Calls E.P f vs w fun e w'=>∃ v,e=.returned v/\BelE E w w'/\Rep w' (fun b=>(fr=false/\S b)\/w.heap.size<=b) G0 res v
def E4 (E:Env)(f:FuncId)(args:List AV)(ty sz:Nat)(xs:List AV):Prop:=Bh E f/\∀ (S:Nat->Prop) (w:World) (vs:Array Value),Args w S args vs->Calls E.P f vs w fun e w'=>∃ v us,e=.returned v/\Below w.heap.size w w'/\w'.ownsRow w.heap.size ty sz v xs.length us /\ (∀ k (c:k<xs.length),(xs[k]).cells.length=sz)/\(∀ k (c:k<xs.length) j (d:j<(xs[k]).cells.length),Rep w' (fun b=>(S b\/w.heap.size<=b)/\v.ownBlock≠some b) G0 ((xs[k]).cells[j]) (us.getD (k*sz+j) undef))/\∀ u∈us,u.oneCell'=true
mutual
def AV.flat:AV->Bool |.ptr _ _=>false |.row _=>false |.elt _ _ _ _=>false |.sl _ _=>false |.ref _=>false |.der _ _=>false |.cont _ _=>false |.mapv _=>false |.fn _ cap=>AV.flatL cap |.yld _ _ cap=>AV.flatL cap |.agg cs=>AV.flatL cs |.tup cs=>AV.flatL cs |_=>true
def AV.flatL:List AV->Bool |[]=>true |x::r=>x.flat && AV.flatL r
end
theorem AV.flatL_at {l:List AV}(h:AV.flatL l=true)(i:Nat)(hi:i<l.length):l[i].flat=true:=by
 induction l generalizing i with
 |nil=>simp at hi
 |cons x r ih =>
  simp only [AV.flatL,bF] at h;cases i with
  |zero=>exact h.1
  |succ i=>exact ih h.2 i (by simpa using hi)
variable {S':Nat->Prop}
theorem Rep.flat {w':World}{γ':Gam}{av:AV}(h:Rep w S γ av v)(d:av.flat=true):Rep w' S' γ' av v:=by
 induction h with
 |any=>exact .any _
 |int=>exact .int _ _
 |bool=>exact .bool _
 |str=>exact .str _
 |nilp=>exact .nilp
 |ptr h k=>simp [AV.flat] at d
 |elt h k=>simp [AV.flat] at d
 |der h k=>simp [AV.flat] at d
 |cont h k j=>simp [AV.flat] at d
 |mapv q y g es clock p u D C j z k s r=>simp [AV.flat] at d
 |mapn=>simp [AV.flat] at d
 |slen A n c=>exact .slen A n c
 |nils=>exact .nils
 |sl A c cell t m p l h1 e=>simp [AV.flat] at d
 |row h k=>simp [AV.flat] at d
 |fn vs j l e=>simp only [AV.flat] at d;exact .fn vs j (fun i hi=>e i hi (AV.flatL_at d i hi))
 |yld l e=>simp only [AV.flat] at d;exact .yld (fun i hi=>e i hi (AV.flatL_at d i hi))
 |nilf=>exact .nilf
 |agg vs j l h1 e=>simp only [AV.flat] at d;exact .agg vs j (fun i hi=>e i hi (AV.flatL_at d i hi)) h1
 |tup vs j l e=>simp only [AV.flat] at d;exact .tup vs j (fun i hi=>e i hi (AV.flatL_at d i hi))
 |ref b off cell u p t l h1 e=>simp [AV.flat] at d
section
variable {w:World} {S:Nat->Prop} {γ:Gam} {B:Nat}
theorem Gn {d:Option (Option Nat×Value)}(h:B8 w S γ B d (.row ty sz xs))(H:∀ b,S b->b<w.heap.size->S' b)(G:∀ s g,d=some (some g,s)->S' g)(γ':Gam):∃ s,d=some (s.ownBlock,s)/\Rep w S' γ' (.sl sz xs) s:=by
 obtain ⟨s,vs,y,h1,c,e,A,r⟩:=h;refine ⟨s,y,?_⟩;have l:∀ k j,((fun k j=>if k<xs.length/\j<sz then vs.getD (k*sz+j) undef else Value.bool true) k j).oneCell'=true:=fun k j=>by
  by_cases h:k<xs.length/\j<sz
  ·simp only [if_pos h];have m:k*sz+j<vs.length:=by
    rw [c.1];have:(k+1)*sz<=xs.length*sz:=aD _ h.1;rw [aK] at this;omega
   rw [aC,aP m];exact r _ (aQ m)
  ·simp only [if_neg h];rfl
 have q:∀ k (n:k<xs.length) j (p:j<(xs[k]).cells.length),Rep w S' G0 ((xs[k]).cells[j]) ((fun k j=>if k<xs.length/\j<sz then vs.getD (k*sz+j) undef else Value.bool true) k j):=fun k n j p=>by
  simp only [if_pos (show k<xs.length/\j<sz from ⟨n,by rw [<-e k n];exact p⟩)];exact (A k n j p).mono (aF _) (fun b u m=>⟨rfl,H b u m⟩)
 have t:∀ g,s.ownBlock=some g->∀ k j,k<xs.length->j<sz->w.cell? ⟨g,k*sz+j,none⟩=some ((fun k j=>if k<xs.length/\j<sz then vs.getD (k*sz+j) undef else Value.bool true) k j):=fun g E k j n p=>by
  simp only [if_pos (show k<xs.length/\j<sz from ⟨n,p⟩)];refine Fm c E _ ?_;have:(k+1)*sz<=xs.length*sz:=aD _ n;rw [aK] at this;omega
 rcases c.2 with ⟨rfl,I⟩|⟨g,cap,J,rfl,F,D,C,hm,L,K⟩
 ·have z:xs=[]:=bN.1 I;subst z;exact .sl none 0 _ (aF _) e (fun h=>absurd h (by simp)) q l
 ·refine .sl _ cap _ C e (fun _=>⟨g,0,rfl,G _ g (by rw [y];rfl),(aH.1 D).1,fun k j n p=>?_⟩) q l;rw [aV];exact t g rfl k j n p
end
theorem zvs {g:Nat}{ps:List (AV×AV)}(h:Eh w S g ps)(n:S' g)(l:∀ b,S b->b<w.heap.size->S' b)(γ:Gam):Rep w S' γ (.mapv ps) (.map (some g)):=by
 obtain ⟨es,clock,h1,p,e,m⟩:=h;exact .mapv ps (.inl rfl) g es clock e n (aH.1 h1).1 h1 p (fun j q c=>(m j q c).1.mono (aF _) (fun b k d=>⟨rfl,l b k d⟩)) (fun j q c=>(m j q c).2.mono (aF _) (fun b k d=>⟨rfl,l b k d⟩))
def obA:NE->AV |.row _ sz xs=>.sl sz xs |_=>.any
def arA (b:List NE):Option Nat->AV |none=>.any |some j=>obA (b.getD j .hole)
theorem zvt {s:Value}{b:Nat}{vs:Array Value}(h:B4 s=some b\/∃ j,B4 (vs.getD j undef)=some b):b∈blks (some (none,.agg (#[s]++vs))):=by
 simp only [blks,Option.toList_none,nil_append,Cm,Array.toList_append,filterMap_append,mem_append];rcases h with h|⟨j,h⟩
 ·left;exact mem_filterMap.2 ⟨s,by simp,h⟩
 ·right;by_cases c:j<vs.size
  ·refine mem_filterMap.2 ⟨vs[j],by simp,?_⟩;simpa [bH,c] using h
  ·simp [bH,c,undef,B4] at h
def Eu (σ:AS):AV->AV
 |.row id=>match σ.find id with|some (.row _ sz xs)=>.sl sz xs|some (.mp ps)=>.mapv ps|_=>.any
 |.ptr _ _=>.any
 |.elt _ _ _ _=>.any
 |.der _ _=>.any
 |.cont _ id=>match σ.find id with|some (.are _ idx os)=>.sl 1 (idx.map (arA os))|_=>.any
 |.agg _=>.any
 |.tup _=>.any
 |.fn f cap=>match aS cap with|true=>.fn f cap|false=>.any
 |.yld l T cap=>match aS cap with|true=>.yld l T cap|false=>.any
 |x=>x
def Mq (σ:AS):AV->AV
 |.ptr id off=>match σ.find id with|some (.box _ cs)=>.ref ((cs.map (Eu σ)).drop off)|_=>.any
 |.agg cs=>.agg (cs.map (Eu σ))
 |.fn f cap=>.fn f (cap.map fun x=>match x with
   |.ptr id off=>match σ.find id with|some (.box _ cs)=>.ref ((cs.map (Eu σ)).drop off)|_=>.any
   |x=>Eu σ x)
 |x=>Eu σ x
def ids1:AV->List Nat |.row id=>[id] |.cont _ id=>[id] |_=>[]
def ids2 (σ:AS):AV->List Nat
 |.ptr id _=>id::(match σ.find id with|some (.box _ cs)=>cs.flatMap ids1|_=>[])
 |.agg cs=>cs.flatMap ids1
 |.fn _ cap=>cap.flatMap fun x=>match x with
   |.ptr id _=>id::(match σ.find id with|some (.box _ cs)=>cs.flatMap ids1|_=>[])
   |x=>ids1 x
 |x=>ids1 x
section
variable {cx:Cx} {σ τ:AS} {γ:Gam} {a:Act} {w:World} {S':Nat->Prop}
theorem Wx (E:StG cx γ τ a w)(p:∀ b,Sg cx.S0 cx.w0.heap.size γ b\/own γ b->S' b){av:AV}(h:Rep w (Sg cx.S0 cx.w0.heap.size γ) γ av v)(y:∀ id∈ids1 av,τ.find id=σ.find id):Rep w S' G0 (Eu σ av) v:=by
 have cl:av.closed=true->Rep w S' G0 av v:=fun D=>(h.close D).mono (aF _) (fun b r _=>⟨rfl,p b (aR r)⟩)
 cases av with
 |row id =>
  simp only [Eu];have M:=y id (by simp [ids1]);have m:=E.me id;cases L:σ.find id with
  |none=>exact .any _
  |some e =>
   cases e with
   |row ty sz xs =>
    rw [M,L] at m;obtain ⟨d,z,he⟩:=m;obtain ⟨s,hs,hr⟩:=Gn (S':=S') he (fun b r _=>p b (aR r)) (fun s g hg=>p g (aL (own.mk (id:=id) (s:=s) (by rw [z,hg])))) G0;subst hs;rw [h.row_inv z];exact hr
   |mp ps =>
    rw [M,L] at m;obtain ⟨d,z,g,A,hm⟩:=m;subst A;rw [h.row_inv z];exact zvs hm (p g (aL (own.mk z))) (fun b r _=>p b (aR r)) G0
   |_=>exact .any _
 |fn f cap =>
  simp only [Eu];cases D:aS cap with
  |true=>exact cl (by simp only [bW];exact D)
  |false=>exact .any _
 |yld l T cap =>
  simp only [Eu];cases D:aS cap with
  |true=>exact cl (by simp only [bW];exact D)
  |false=>exact .any _
 |ptr=>exact .any _
 |elt=>exact .any _
 |der=>exact .any _
 |cont n id =>
  simp only [Eu];have M:=y id (by simp [ids1]);have m:=E.me id;cases L:σ.find id with
  |none=>exact .any _
  |some e =>
   cases e with
   |are ty idx t =>
    rw [M,L] at m;obtain ⟨d,z,s,vs,us,A,Q,aa,u,G,Y,V,ab⟩:=m;subst A;have O:v=s:=by
     cases h with
     |cont N hv hl =>
      rw [z] at N;injection N with N
      have e:=hv none _ N.symm;rw [e];simp [Dv.of,aA,aZ]
    subst O;have H:∀ b,(B4 v=some b\/∃ j,B4 (vs.getD j undef)=some b)->S' b:=fun b r=>p b (aL ⟨id,_,z,zvt r⟩)
    have J:∀ {B ty sz n:Nat} {s:Value} {vs:List Value},w.ownsRow B ty sz s n vs->s.ownBlock=B4 s:=fun h=>by
     rcases h.2 with ⟨rfl,_⟩|⟨g,cap,ac,rfl,_⟩<;>rfl
    have C:∀ i:Option Nat,(arA t i).cells=[arA t i]:=fun i=>by
     cases i with
     |none=>rfl
     |some j=>exact (fun (e:NE)=>(by cases e<;>rfl:(obA e).cells=[obA e])) (t.getD j .hole)
    have Z:∀ k (I:k<idx.length),Rep w S' G0 (arA t idx[k]) (us.getD k undef):=fun k I=>by
     obtain ⟨q1,q2⟩:=Y k I;cases D:idx[k] with
     |none=>exact .any _
     |some j =>
      obtain ⟨q3,q4⟩:=q2 j D;rw [q4];have h2:=(V j q3).2;have e:t.getD j .hole=t[j]:=by rw [aC,aP q3];rfl
      show Rep w S' G0 (obA (t.getD j .hole)) _;rw [e];cases U:t[j] with
      |row ety sz xs =>
       rw [U] at h2;obtain ⟨p1,us',p2,p3,p4,p5⟩:=h2;obtain ⟨s',c,F⟩:=Gn (w:=w) (S:=Sg cx.S0 cx.w0.heap.size γ) (γ:=γ) (S':=S') (d:=some ((vs.getD j undef).ownBlock,vs.getD j undef)) ⟨_,us',rfl,p1,p2,p3,p4,p5⟩ (fun b r _=>p b (aR r)) (fun s g' e=>by
        injection e with e
        injection e with K e2
        rw [J p2] at K;exact H g' (aL ⟨j,K⟩)) G0
       injection c with c
       injection c with _ c
       rw [c];exact F
      |_=>exact .any _
    obtain ⟨s0,q,R⟩:=Gn (w:=w) (S:=S') (γ:=γ) (S':=S') (B:=cx.w0.heap.size) (ty:=ty) (sz:=1) (xs:=idx.map (arA t)) (d:=some (v.ownBlock,v)) ⟨v,us,rfl,Q,by rw [length_map];exact u,fun k I=>by rw [aO,C];rfl,fun k I j hj=>by
      have W:k<idx.length:=by simpa using I
      have X:j=0:=by
       have:j<1:=by simpa [C] using hj
       omega
      subst X;simp only [aO,C,bD,Nat.mul_one,bY];exact Z k W,G⟩ (fun b r _=>r) (fun s g' e=>by
      injection e with e
      injection e with K e2
      rw [J u] at K;exact H g' (aR K)) G0
    injection q with q
    injection q with _ q
    rw [q];exact R
   |_=>exact .any _
 |agg=>exact .any _
 |tup=>exact .any _
 |_=>exact cl rfl
theorem zia (m:StG cx γ τ a w)(s:∀ b,Sg cx.S0 cx.w0.heap.size γ b\/own γ b->S' b){id off:Nat}(h:Rep w (Sg cx.S0 cx.w0.heap.size γ) γ (.ptr id off) v)(c:∀ i∈(id::(match σ.find id with|some (.box _ cs)=>cs.flatMap ids1|_=>[])),τ.find i=σ.find i) :
  Rep w S' G0 (match σ.find id with|some (.box _ cs)=>.ref ((cs.map (Eu σ)).drop off)|_=>.any) v:=by
 have C:=c id (by simp);have p:=m.me id;cases u:σ.find id with
 |none=>exact .any _
 |some e =>
  cases e with
  |box ty cs =>
   rw [C,u] at p;obtain ⟨d,y,g,vs,t,z,l,A,n⟩:=p;subst t;rw [h.ptr_inv y];have:=Z1 (w:=w) (S:=S') (γ:=G0) (cs:=cs.map (Eu σ)) (b:=g) (off:=0) (k:=off) (cell:=fun j=>vs.getD j undef) (s g (aL (own.mk y))) z.lt (fun j r=>by rw [aV];exact Mh z j (by simpa [l] using r))
    (fun j r=>by
      have q:j<cs.length:=by simpa using r
      simp only [aO];exact Wx m s (A j q) (fun i hi=>c i (by simp only [u];exact mem_cons_of_mem _ (bC.2 ⟨_,aQ q,hi⟩))))
    (fun j r=>n j (by simpa [l] using r))
   rw [aV] at this;exact this
  |_=>exact .any _
theorem Zm (d:StG cx γ τ a w)(g:∀ b,Sg cx.S0 cx.w0.heap.size γ b\/own γ b->S' b){av:AV}(h:Rep w (Sg cx.S0 cx.w0.heap.size γ) γ av v)(c:∀ id∈ids2 σ av,τ.find id=σ.find id):Rep w S' G0 (Mq σ av) v:=by
 have p:(∀ id∈ids1 av,τ.find id=σ.find id)->Rep w S' G0 (Eu σ av) v:=Wx d g h;cases av with
 |ptr id off=>exact zia d g h c
 |agg cs =>
  obtain ⟨vs,rfl,n,m,h1⟩:=h.agg_inv;simp only [Mq];refine .agg vs (by simpa using n) (fun i hi=>?_) h1;have e:i<cs.length:=by simpa using hi
  simp only [aO];exact Wx d g (m i e) (fun id k=>c id (bC.2 ⟨_,aQ e,k⟩))
 |fn f cap =>
  obtain ⟨vs,rfl,n,m⟩:=h.fn_inv;simp only [Mq];refine .fn vs (by simpa using n) (fun i hi=>?_);have e:i<cap.length:=by simpa using hi
  simp only [aO];have j:∀ id,id∈(match cap[i] with|.ptr id _=>id::(match σ.find id with|some (.box _ cs)=>cs.flatMap ids1|_=>[])|x=>ids1 x)->τ.find id=σ.find id:=fun id k=>c id (bC.2 ⟨_,aQ e,k⟩)
  have l:=m i e;generalize cap[i]=x at *;cases x with
  |ptr id off=>exact zia d g l j
  |_=>exact Wx d g l j
 |_=>exact p c
end
section
variable {cx:Cx} {o:Oper} {σ:AS}
def Bw (σ:AS)(args:Array Operand)(cap:List AV):List AV:=args.toList.map σ.eval++cap
variable {x:Operand}{args:Array Operand}{cap:List AV}{f:FuncId}
theorem Jd {τ:AS}{a:Act}(b:StG cx γ τ a w)(c:args.toList.all A0=true)(e:A0 x=true)(h1:∀ y∈args.toList,τ.eval y=σ.eval y)(j:τ.eval x=σ.eval x)(l:σ.eval x=.fn f cap) :
  ∃ caps:Array Value,a.eval x=.func (.func f) #[] caps/\(args.map a.eval++caps).size=(Bw σ args cap).length/\∀ i (hi:i<(Bw σ args cap).length),Rep w (Sg cx.S0 cx.w0.heap.size γ) γ (Bw σ args cap)[i] ((args.map a.eval++caps).getD i undef):=by
 have d:=b.ev x e;rw [j,l] at d;obtain ⟨caps,p,n,m⟩:=d.fn_inv;refine ⟨caps,p,by simp [Bw,n],fun i hi=>?_⟩;unfold Bw at hi ⊢;rw [aA];by_cases h:i<args.size
 ·rw [aJ (by simpa using h),aZ (by simpa using h)];simp only [bB] at c;have k:=b.ev args[i] (c _ (by simp));rw [h1 args[i] (by simp)] at k;simpa [h] using k
 ·have g:i-args.size<cap.length:=by simp at hi;omega
  rw [aN (by simpa using h),Array.getElem?_append_right (by simpa using h)];have:=m (i-args.size) g;rw [aA] at this;simpa using this
variable {tys:Array TypeId}
theorem J7 {caps:Array Value}{a:Act}(c:o.op=.call { callee:=.value x,args:=args,argTypes:=tys })(b:a.eval x=.func (.func f) #[] caps)(d:∀ args w,(callFunc f args).run P w=.ok (.enter f args) w) :
  (execOp a.eval o).run P w=.ok (.enter f (args.map a.eval++caps)) w:=by
 simp only [execOp,c,resolve,b,Deferred.ofValue,invoke,Sem.run_bind,Sem.run_pure,Result.andThen_ok,Array.empty_append,d]
variable {avs:List AV}
theorem zxh {res:AV}{fr:Bool}(n:o.op=.call { callee:=.value x,args:=args,argTypes:=tys })(D:dok cx o=true)(k:A0 x=true)(l:args.toList.all A0=true)(t:σ.eval x=.fn f cap)
  (F:Bw σ args cap=avs) (r:aS avs=true) (h:Con cx.E fr f avs res):A9 cx o σ res [] []:=by
 refine ⟨fun id e C=>by simp [lkE] at C,fun τ h1 I a w Q K ⟨γ,d⟩ G=>Br (fun c h=>by rw [n] at h;cases h) ?_⟩;have g:o.op.operands=#[x]++args:=by simp [n,Op.operands,Call.operands]
 obtain ⟨caps,q,A,z⟩:=Jd d l k (fun y s=>h1 y (by rw [g];simp at s ⊢;exact aL s)) (h1 x (by rw [g];simp)) t;subst F;unfold Oper.wp;rw [J7 n q h.1];show Calls _ _ _ _ _;refine (h.2 (Sg cx.S0 cx.w0.heap.size γ) w _ ⟨A,fun i hi=>(z i hi).close (bE r i hi)⟩).mono ?_;rintro e w' ⟨v,rfl,⟨E,p⟩,u⟩;refine G _ _ ⟨γ,d.grow (Bj D) E p ?_⟩;refine (u.mono (aF _) (fun b j _=>⟨rfl,?_⟩)).open_;rcases j with ⟨_,j⟩|j
 ·exact j
 ·exact aL ⟨⟨aW d.below.size j,fun H=>by have:=d.gh _ H;omega⟩,fun m=>by have:=(d.ge b m).2;omega⟩
theorem zg0 {res:AV}{fr:Bool}(q:o.op=.call { callee:=.value x,args:=args,argTypes:=tys })(F:dok cx o=true)(m:A0 x=true)(n:args.toList.all A0=true)(A:σ.eval x=.fn f cap)
  (H:(Bw σ args cap).map (Mq σ)=avs) (l:Con cx.E fr f avs res) (k:fr=true\/res.flat=true):A9 cx o σ res ((Bw σ args cap).flatMap (ids2 σ)) []:=by
 refine ⟨fun id e E=>by simp [lkE] at E,fun τ h1 J a w Q K ⟨γ,d⟩ I=>Br (fun c l=>by rw [q] at l;cases l) ?_⟩;have h:o.op.operands=#[x]++args:=by simp [q,Op.operands,Call.operands]
 obtain ⟨caps,t,D,C⟩:=Jd d n m (fun y u=>h1 y (by rw [h];simp at u ⊢;exact aL u)) (h1 x (by rw [h];simp)) A;subst H;unfold Oper.wp;rw [J7 q t l.1];show Calls _ _ _ _ _;refine (l.2 (fun _=>True) w _ ⟨by simpa using D,fun i hi=>?_⟩).mono ?_
 ·have j:i<(Bw σ args cap).length:=by simpa using hi
  simp only [aO];exact Zm d (fun _ _=>trivial) (C i j) (fun id r=>J id (bC.2 ⟨_,aQ j,r⟩))
 rintro e w' ⟨v,rfl,⟨G,s⟩,z⟩;refine I _ _ ⟨γ,d.grow (Bj F) G s ?_⟩;rcases k with k|k
 ·refine (z.mono (aF _) (fun b g _=>⟨rfl,?_⟩)).open_;rcases g with ⟨g,_⟩|g
  ·rw [k] at g;cases g
  ·exact aL ⟨⟨aW d.below.size g,fun L=>by have:=d.gh _ L;omega⟩,fun p=>by have:=(d.ge b p).2;omega⟩
 ·exact z.flat k
theorem znj {f d:Nat}(ho:o.op=.call { callee:=.value x,args:=args,argTypes:=tys })(G:o.dst=some d)(hd:dok cx o=true)(aa:A0 x=true)(ac:args.toList.all A0=true)(A:σ.eval x=.fn f cap)
  (ha:Bw σ args cap=avs) (ai:aS avs=true) (hn:σ.find d=none) (W:E4 cx.E f avs ty sz xs) (V:cx.E.dr=false):A9 cx o σ (.row d) [d] [(d,.row ty sz xs)]:=by
 refine ⟨fun id e he=>?_,fun τ h1 u a w Q K ⟨γ,l⟩ hK=>Br (fun c W=>by rw [ho] at W;cases W) ?_⟩
 ·simp only [lkE] at he;cases E:bL d id with
  |true=>simp [aE E]
  |false=>rw [E] at he;cases he
 have N:o.op.operands=#[x]++args:=by simp [ho,Op.operands,Call.operands]
 obtain ⟨caps,ah,hl,hr⟩:=Jd l ac aa (fun y hy=>h1 y (by rw [N];simp at hy ⊢;exact aL hy)) (h1 x (by rw [N];simp)) A;subst ha;have L:γ d=none:=by have:=l.me d;rw [u d (by simp),hn] at this;exact this
 unfold Oper.wp;rw [J7 ho ah W.1];show Calls _ _ _ _ _;refine (W.2 (Sg cx.S0 cx.w0.heap.size γ) w _ ⟨hl,fun i hi=>(hr i hi).close (bE ai i hi)⟩).mono ?_;rintro e w' ⟨v,us,rfl,E,p,U,ab,O⟩;have D:=l.below.size;let γ':Gam:=γ.set d (some (v.ownBlock,v));have m:∀ b,v.ownBlock=some b->w.heap.size<=b/\b<w'.heap.size:=fun b m=>by
  rcases p.2 with ⟨M,_⟩|⟨g,cap,Z,M,ak,hh,_⟩
  ·rw [M] at m;simp [Value.ownBlock] at m
  ·rw [M] at m;simp only [Value.ownBlock,aB] at m;subst m;exact ⟨ak,(aH.1 hh).1⟩
 have n:∀ b,own γ' b->v.ownBlock=some b\/own γ b:=fun b ⟨id,s,hi,hm⟩=>by
  by_cases h:id=d
  ·subst h;rw [show γ' id=_ from aX _ _ _] at hi;injection hi with hi;subst hi;exact aR (D9 (D8 (Cg p)) hm)
  ·rw [show γ' id=_ from aT _ _ _ h] at hi;exact aL ⟨id,s,hi,hm⟩
 have R:∀ i x,γ i=some x->i≠d:=fun i x A e=>by subst e;rw [L] at A;cases A
 have H:∀ b,Sg cx.S0 cx.w0.heap.size γ b->b<w.heap.size->Sg cx.S0 cx.w0.heap.size γ' b:=fun b J z=>by
  rcases J with J|⟨h1,u⟩
  ·exact aR J
  ·refine aL ⟨h1,fun q=>?_⟩;rcases n b q with h|h
   ·have:=(m b h).1;omega
   ·exact u h
 refine hK _ _ ⟨γ',?_⟩;rw [G];refine l.step (γ':=γ') (fun x A=>by injection A with A;subst A;exact Bj hd _ G) E.size (fun b J z=>⟨E.block b z,H b J z⟩) (fun i x A=>aR (by rw [show γ' i=_ from aT _ _ _ (R i x A)];exact A)) (fun i hi=>?_) (fun i e' hi=>?_) (fun i j b s1 s2 h1 u m1 m2=>?_) (fun b aj=>?_) (l.below.trans (E.mono D)) (.row (aX _ _ _) (fun g s e _=>by injection e with e;injection e with e e2)) (fun b ad z=>⟨E.block b z,fun q=>by
  rcases n b q with h|h
  ·have:=(m b h).1;omega
  ·exact ad h⟩) (fun h=>absurd (V.symm.trans h) (by simp))
 ·have I:i≠d:=fun e=>by subst e;simp [lkE] at hi
  exact ⟨aT _ _ _ I,fun g' s' af ae=>E.block g' (l.ge g' ⟨i,s',af,ae⟩).2⟩
 ·have I:i=d:=by
   simp only [lkE] at hi;cases X:bL d i with
   |true=>exact (aE X).symm
   |false=>rw [X] at hi;cases hi
  subst I;simp only [lkE,Nat.beq_refl,aB] at hi;subst hi;refine ⟨_,aX _ _ _,v,us,rfl,Cg p,⟨p.1,p.2.elim aR (fun ⟨g,cap,Z,M,hg,r⟩=>aL ⟨g,cap,Z,M,aW D hg,r⟩)⟩,U,fun k hk j hj=>?_,O⟩;refine (ab k hk j hj).mono (aF _) (fun b J z=>⟨rfl,?_⟩);obtain ⟨t,Y⟩:=J;rcases t with t|t
  ·rcases t with t|⟨h1,u⟩
   ·exact aR t
   ·refine aL ⟨h1,fun q=>?_⟩;rcases n b q with h|h
    ·exact Y h
    ·exact u h
  ·refine aL ⟨⟨aW D t,fun h0=>by have:=l.gh _ h0;omega⟩,fun q=>?_⟩;rcases n b q with h|h
   ·exact Y h
   ·have:=(l.ge b h).2;omega
 ·by_cases F:i=d
  ·by_cases C:j=d
   ·rw [F,C]
   ·subst F;rw [show γ' i=_ from aX _ _ _] at h1;rw [show γ' j=_ from aT _ _ _ C] at u;injection h1 with h1
    subst h1;have:=(l.ge b ⟨j,s2,u,m2⟩).2;have:=(m b (D9 (D8 (Cg p)) m1)).1;omega
  ·by_cases C:j=d
   ·subst C;rw [show γ' j=_ from aX _ _ _] at u;rw [show γ' i=_ from aT _ _ _ F] at h1;injection u with u
    subst u;have:=(l.ge b ⟨i,s1,h1,m1⟩).2;have:=(m b (D9 (D8 (Cg p)) m2)).1;omega
   ·rw [show γ' i=_ from aT _ _ _ F] at h1;rw [show γ' j=_ from aT _ _ _ C] at u;exact l.inj i j b s1 s2 h1 u m1 m2
 ·rcases n b aj with h|h
  ·have:=m b h;exact ⟨⟨aW D this.1,fun h0=>by have:=l.gh _ h0;omega⟩,this.2⟩
  ·exact ⟨(l.ge b h).1,aY (l.ge b h).2 E.size⟩
end
end Go.Proofs.YtkoamfnbbhfaiaaGreatDoor
