/- The abstract walk, seventh part. -/
import Derived.Test.YtidhlpjgifoneaaGreatK04
import Derived.Laws.Tables
import Derived.Laws.MakeOwn
set_option linter.unusedVariables false
set_option linter.unusedSimpArgs false
namespace Go.Proofs.YtidhlpjgifoneaaGreat
open Go.RowKit List
open Option.some renaming injEq->aA
open _root_.Array renaming getD_eq_getD_getElem?->aB,range->aM,toList_map->aN,all_eq_true->aV,getD->bG
open List renaming getD_eq_getElem?_getD->aC,getElem_append_left->aH,getElem_append_right->aK,getElem?_append_right->aP,all_eq_true->aQ,getElem?_append_left->aR,getElem?_eq_getElem->aS,length_append->aT,getElem_take->aX,getElem_drop->aY,mem_map->aZ,getElem_cons_zero->bA,mem_toArray->bD
open Bool renaming false_eq_true->aD,and_eq_true->bB
open Nat renaming mul_le_mul_right->aE,eq_of_beq_eq_true->aG,succ_mul->aJ,le_of_ble_eq_true->aO,lt_of_lt_of_le->aU,mul_comm->aW,le_refl->bC,beq->bF,zero_mul->bJ,zero_add->bK
open Option renaming isSome_none->aF,map_some->aL,map_none->bE
open AV renaming cells->bH,closedL_at->bI
open Or renaming inr->bL,inl->bM
def CRel (w:World)(S:Nat->Prop)(γ:Gam)(cells:Array Value)(cs:List AV):Prop:=cells.size=cs.length/\(∀ i (hi:i<cs.length),Rep w S γ cs[i] (cells.getD i undef))/\∀ i,i<cells.size->(cells.getD i undef).oneCell'=true
def D9 (place:Nat->Option (Nat×Nat)):List AV->List (Nat×AV)->Option (List AV)
 |cells,[]=>some cells
 |cells,(i,v)::r=>match place i with
  |none=>none
  |some (off,size)=>match bF v.cells.length size && Nat.ble (off+size) cells.length with
   |true=>D9 place (cells.take off++v.cells++cells.drop (off+size)) r
   |false=>none
theorem zc2 (off:Nat):∀ (l:List Value) (n:Nat) (cells:Array Value),((l.zipIdx n).foldl (fun cs p=>cs.setIfInBounds (off+p.2) p.1) cells).size=cells.size /\
  ∀ m,((l.zipIdx n).foldl (fun cs p=>cs.setIfInBounds (off+p.2) p.1) cells).getD m undef=if off+n<=m/\m<off+n+l.length/\m<cells.size then l.getD (m-(off+n)) undef else cells.getD m undef
 |[],n,cells=>⟨rfl,fun m=>by rw [if_neg (by simp;omega)];rfl⟩
 |v::r,n,cells=>by
  simp only [zipIdx_cons,foldl_cons];obtain ⟨h1,d⟩:=zc2 off r (n+1) (cells.setIfInBounds (off+n) v);refine ⟨by rw [h1];simp,fun m=>?_⟩;rw [d m];simp only [Array.size_setIfInBounds,length_cons];by_cases hm:m=off+n
  ·subst hm;rw [if_neg (by omega)];by_cases c:off+n<cells.size
   ·rw [if_pos (by omega)];simp [aB,c]
   ·rw [if_neg (by omega)];simp [aB,c]
  ·have a:(cells.setIfInBounds (off+n) v).getD m undef=cells.getD m undef:=by
    simp only [aB,Array.getElem?_setIfInBounds_ne (Ne.symm hm)]
   rw [a];by_cases b:off+(n+1)<=m/\m<off+(n+1)+r.length/\m<cells.size
   ·rw [if_pos b,if_pos (by omega)];rw [show m-(off+n)=(m-(off+(n+1)))+1 by omega];simp
   ·rw [if_neg b,if_neg (by omega)]
variable {w:World}
theorem Xe {S:Nat->Prop}{γ:Gam}{place:Nat->Option (Nat×Nat)}{f:Operand->Value}{g:Operand->AV}:∀ (ops:List (Nat×Operand)) (cells:Array Value) (cs d:List AV),(∀ p∈ops,CRel w S γ (f p.2).cells (g p.2).cells)->CRel w S γ cells cs ->
  D9 place cs (ops.map fun p=>(p.1,g p.2))=some d->∃ cells',Instr.fill place cells (ops.map fun p=>(p.1,f p.2))=some cells'/\CRel w S γ cells' d
 |[],cells,cs,d,_,e,h=>by
  simp only [map_nil,D9,aA] at h;subst h;exact ⟨cells,rfl,e⟩
 |(i,x)::r,cells,cs,d,D,e,h=>by
  simp only [map_cons,D9] at h;obtain ⟨C,B,A⟩:=D (i,x) (by simp);simp only at C B A;cases n:place i with
  |none=>rw [n] at h;simp at h
  |some F =>
   obtain ⟨off,size⟩:=F;rw [n] at h;simp only at h;split at h
   ·rename_i a;simp only [bB] at a;have J:(g x).cells.length=size:=aG a.1;have I:off+size<=cs.length:=aO a.2;simp only [map_cons,Instr.fill,n];have y:¬(((f x).cells.size≠size || off+(f x).cells.size > cells.size)=true):=by
     have:=e.1;simp only [Bool.or_eq_true,decide_eq_true_eq];simp only [C] at *;omega
    rw [if_neg y];refine Xe r _ _ d (fun p v=>D p (by simp [v])) ?_ h;have q:((f x).cells.zipIdx.foldl (fun cs (p:Value×Nat)=>cs.setIfInBounds (off+p.2) p.1) cells)=(((f x).cells.toList.zipIdx 0).foldl (fun cs p=>cs.setIfInBounds (off+p.2) p.1) cells):=by
     rw [<-Array.foldl_toList,Array.toList_zipIdx]
    have k:((f x).cells.zipIdx.foldl (fun cs x=>match x with|(c,j)=>cs.setIfInBounds (off+j) c) cells)=(((f x).cells.toList.zipIdx 0).foldl (fun cs p=>cs.setIfInBounds (off+p.2) p.1) cells):=q;obtain ⟨z,E⟩:=zc2 off (f x).cells.toList 0 cells;have t:(cs.take off++(g x).cells++cs.drop (off+size)).length=cs.length:=by simp;omega
    have l:∀ m,m<cs.length->(((f x).cells.toList.zipIdx 0).foldl (fun cs p=>cs.setIfInBounds (off+p.2) p.1) cells).getD m undef=if off<=m/\m<off+size then (f x).cells.getD (m-off) undef else cells.getD m undef:=fun m hm=>by
     rw [E m];have G:=e.1;have H:(f x).cells.toList.length=size:=by rw [Array.length_toList];omega
     by_cases u:off<=m/\m<off+size
     ·rw [if_pos u,if_pos (by omega)];simp [aB,aC]
     ·rw [if_neg u,if_neg (by omega)]
    have s:CRel w S γ (((f x).cells.toList.zipIdx 0).foldl (fun cs p=>cs.setIfInBounds (off+p.2) p.1) cells) (cs.take off++(g x).cells++cs.drop (off+size)):=by
     refine ⟨by rw [z,t];exact e.1,fun m hm=>?_,fun m hm=>?_⟩
     ·rw [t] at hm;rw [l m hm];by_cases h1:m<off
      ·rw [if_neg (by omega),aH (by simp;omega),aH (by simp;omega),aX];exact e.2.1 m hm
      ·by_cases K:m<off+size
       ·rw [if_pos (by omega),aH (by simp;omega),aK (by simp;omega)];have b:(cs.take off).length=off:=by simp;omega
        simp only [b];exact B (m-off) (by omega)
       ·rw [if_neg (by omega),aK (by simp;omega),aY];have b:off+size+(m-(cs.take off++(g x).cells).length)=m:=by simp;omega
        simp only [b];exact e.2.1 m hm
     ·rw [z] at hm;rw [l m (by have:=e.1;omega)];by_cases u:off<=m/\m<off+size
      ·rw [if_pos u];exact A (m-off) (by omega)
      ·rw [if_neg u];exact e.2.2 m hm
    rw [k];exact s
   ·cases h
theorem znl (w:World)(S:Nat->Prop)(γ:Gam)(z:Value)(c:z.cells.all (·.oneCell')=true):CRel w S γ z.cells (z.cells.toList.map AV.ofV):=by
 refine ⟨by simp,fun j a=>?_,fun j a=>?_⟩
 ·have b:j<z.cells.size:=by simpa using a
  have:z.cells.getD j undef=z.cells[j]:=by simp [bG,b]
  simp only [getElem_map,Array.getElem_toList,this];exact O9 _ _ _ _
 ·have:z.cells.getD j undef=z.cells[j]:=by simp [bG,a]
  rw [this];simp only [aV] at c;exact c j a
section
variable {cx:Cx} {o:Oper} {σ:AS}
def Cr (σ:AS)(ps:Array (Nat×Operand)):List (Nat×AV):=ps.toList.map fun p=>(p.1,σ.eval p.2)
def Fg (l:List (Nat×AV)):List Nat:=l.flatMap fun p=>p.2.ids
def Ff (σ:AS)(ps:Array (Nat×Operand)):Bool:=ps.toList.all fun p=>A7 p.2 && okc σ (σ.eval p.2)
variable {ps:Array (Nat×Operand)}
theorem Zr {γ:Gam}{τ:AS}{a:Act}(b:StG cx γ τ a w)(c:Ff σ ps=true)(h1:∀ p∈ps.toList,τ.eval p.2=σ.eval p.2)(j:∀ id∈Fg (Cr σ ps),τ.find id=σ.find id) :
  ∀ p∈ps.toList,CRel w (Sg cx.S0 cx.w0.heap.size γ) γ (a.eval p.2).cells (σ.eval p.2).cells:=fun p e=>by
 simp only [Ff,aQ,bB] at c;obtain ⟨h,g⟩:=c p e;have d:=b.ev p.2 h;rw [h1 p e] at d;exact X8 b d g (fun id f=>j id (mem_flatMap.2 ⟨(p.1,σ.eval p.2),aZ.2 ⟨p,e,rfl⟩,f⟩))
variable {P:Program}{esz:Nat}
theorem zb4 {e:Nat}(h:P.cellsOf e=esz)(b:esz≠0):∃ info,P.info? e=some info/\info.size=esz:=by
 unfold Program.cellsOf at h;cases a:P.info? e with
 |none=>rw [a] at h;simp at h;exact absurd h.symm b
 |some info=>rw [a] at h;simp at h;exact ⟨info,rfl,h⟩
theorem zwv (Fs:List Field)(h:∀ f∈Fs,P.cellsOf f.type≠0):Fs.mapM (fun f=>(P.info? f.type).map fun i=>(f.offset,i.size))=some (Fs.map fun f=>(f.offset,P.cellsOf f.type)):=by
 induction Fs with
 |nil=>rfl
 |cons f r a =>
  obtain ⟨info,hi,b⟩:=zb4 rfl (h f (by simp));rw [mapM_cons,a (fun g c=>h g (by simp [c]))];simp [hi,b]
theorem zih {T:Nat}{i:TyI}{fs:List (Nat×Nat×Option Bool)}{cs:List AV}(B:o.op=.build T ps)(F:dok cx o=true)(H:lkT cx.E.tab T=some i)(D:i.shape=.strct fs)(C:i.zero.cells.all (·.oneCell')=true)(r:Ff σ ps=true)
  (l:fs.all (fun f=>!(bF f.2.1 0))=true) (u:D9 (fun j=>(fs[j]?).map fun f=>(f.1,f.2.1)) (i.zero.cells.toList.map AV.ofV) (Cr σ ps)=some cs):Aj cx o σ (.agg cs) (Fg (Cr σ ps)) [] :=
 B8 F fun τ γ a w h1 J n=>by
  have k:=Zr n r (fun p E=>h1 p.2 (by simp only [B,Op.operands,bD,aZ];exact ⟨p,E,rfl⟩)) J;have c:=cx.E.ok T i H;obtain ⟨Fs,I,d⟩:=Zq c D;obtain ⟨cells',b,z,y,v⟩:=Xe (f:=a.eval) (g:=σ.eval) ps.toList i.zero.cells _ cs k (znl w _ γ i.zero C) u;have q:(fun j:Nat=>(fs[j]?).map fun (f:Nat×Nat×Option Bool)=>(f.1,f.2.1))=fun j:Nat=>(Fs.toList.map fun f=>(f.offset,cx.P.cellsOf f.type))[j]? := by
   funext j;rw [d];simp [getElem?_map,Option.map_map];rfl
  rw [q] at b;have G:cx.P.built T ((ps.map fun p=>(p.1,a.eval p.2)).toList)=some cells':=by
   obtain ⟨it,t,m⟩:∃ it,cx.P.info? T=some it/\it.zero=some i.zero:=by
    have:=c.zero;cases A:cx.P.info? T with
    |none=>rw [A] at this;simp at this
    |some it=>rw [A] at this;exact ⟨it,rfl,by simpa using this⟩
   have s:∀ f∈Fs.toList,cx.P.cellsOf f.type≠0:=fun f u=>by
    simp only [d,aQ] at l;have:=l (f.offset,cx.P.cellsOf f.type,aggT cx.P f.type) (aZ.2 ⟨f,u,rfl⟩);intro e;simp [e] at this
   unfold Program.built;rw [t,I];simp only [m,zwv Fs.toList s,aN];simpa using b
  have h:=run_build (P:=cx.P) w T (ps.map fun p=>(p.1,a.eval p.2)) cells' G;refine ⟨.agg cells',?_,.agg cells' z y v⟩;have e:(ps.map fun x=>match x with|(i,x)=>(i,a.eval x))=ps.map fun p=>(p.1,a.eval p.2):=rfl
  simp only [execOp,B,e,Sem.run_bind,Sem.run_pure,Result.andThen_ok,h]
variable {ag:Option Bool}
theorem zvv {T:TypeId}{i:TyI}{n e:Nat}(h:TyOk P T i)(b:i.shape=.arr n e esz ag):P.underlying T=some (.array n e)/\P.cellsOf e=esz/\aggT P e=ag:=by
 obtain ⟨d,c,a⟩:=h.und;rw [b] at a;cases d<;>simp only [Dx,E2.arr.injEq,reduceCtorEq] at a;obtain ⟨rfl,rfl,g,f⟩:=a;exact ⟨c,g,f⟩
theorem zpu {T n e:Nat}{i:TyI}{cs:List AV}(B:o.op=.build T ps)(H:dok cx o=true)(J:lkT cx.E.tab T=some i)(E:i.shape=.arr n e esz ag)(C:i.zero.cells.all (·.oneCell')=true)(r:Ff σ ps=true)(l:esz≠0)
  (G:D9 (fun j=>some (j*esz,esz)) (i.zero.cells.toList.map AV.ofV) (Cr σ ps)=some cs):Aj cx o σ (.agg cs) (Fg (Cr σ ps)) [] :=
 B8 H fun τ γ a w h1 K q=>by
  have h:=Zr q r (fun p F=>h1 p.2 (by simp only [B,Op.operands,bD,aZ];exact ⟨p,F,rfl⟩)) K;have b:=cx.E.ok T i J;obtain ⟨D,u,_⟩:=zvv b E;obtain ⟨cells',c,z,y,v⟩:=Xe (f:=a.eval) (g:=σ.eval) ps.toList i.zero.cells _ cs h (znl w _ γ i.zero C) G;have I:cx.P.built T ((ps.map fun p=>(p.1,a.eval p.2)).toList)=some cells':=by
   obtain ⟨it,s,m⟩:∃ it,cx.P.info? T=some it/\it.zero=some i.zero:=by
    have:=b.zero;cases A:cx.P.info? T with
    |none=>rw [A] at this;simp at this
    |some it=>rw [A] at this;exact ⟨it,rfl,by simpa using this⟩
   obtain ⟨ie,t,k⟩:=zb4 u l;unfold Program.built;rw [s,D];simp only [m,t,k,aN];exact c
  have d:=run_build (P:=cx.P) w T (ps.map fun p=>(p.1,a.eval p.2)) cells' I;refine ⟨.agg cells',?_,.agg cells' z y v⟩;have e:(ps.map fun x=>match x with|(i,x)=>(i,a.eval x))=ps.map fun p=>(p.1,a.eval p.2):=rfl
  simp only [execOp,B,e,Sem.run_bind,Sem.run_pure,Result.andThen_ok,d]
end
theorem z8w {x:AV}(h:x.closed=true)(j:Nat)(b:j<x.cells.length):(x.cells[j]).closed=true:=by
 have single:x.cells=[x]->(x.cells[j]).closed=true:=fun c=>by
  have d:∀ y∈x.cells,y.closed=true:=fun y a=>by
   rw [c,mem_singleton] at a;rw [a];exact h
  exact d _ (getElem_mem b)
 cases x with
 |agg cs=>simp only [AV.closed] at h;exact bI h j b
 |_=>exact single rfl
variable {xs:List AV}{sz:Nat}
theorem zyk (h:∀ k (a:k<xs.length),(xs[k]).cells.length=sz):(xs.flatMap bH).length=xs.length*sz/\∀ k (a:k<xs.length) j (b:j<(xs[k]).cells.length),(xs.flatMap bH)[k*sz+j]? = some ((xs[k]).cells[j]):=by
 induction xs with
 |nil=>exact ⟨by simp,fun k a=>absurd a (by simp)⟩
 |cons x r d =>
  have c:=h 0 (by simp);simp only [bA] at c;obtain ⟨f,e⟩:=d (fun k a=>by have:=h (k+1) (by simpa using a);simpa using this);refine ⟨by rw [flatMap_cons,aT,c,f,length_cons,aJ];omega,fun k a j b=>?_⟩;rw [flatMap_cons];cases k with
  |zero =>
   simp only [bA] at b ⊢;rw [bJ,bK,aR b,aS b]
  |succ k =>
   simp only [getElem_cons_succ] at b ⊢;rw [aP (by rw [c,aJ];omega),c,show (k+1)*sz+j-sz=k*sz+j by rw [aJ];omega];exact e k (by simpa using a) j b
section
variable {cx:Cx} {o:Oper} {σ:AS}
theorem zt9 {z:Array Value}(b:z.all (·.oneCell')=true)(c:0<z.size)(x:Nat):(z[x % z.size]!).oneCell'=true:=by
 have a:=Nat.mod_lt x c;rw [getElem!_pos z _ a];simp only [aV] at b;exact b _ a
variable {P:Program}{T:Nat}{i:TyI}{esz eb:Nat}
theorem Z5 {ie:TyI}{e n:Nat}{parts:Array (Nat×Value)}{cells':Array Value}(p:TyOk P T i)(l:i.shape=.slc e esz eb)(m:TyOk P e ie)(g:esz≠0)(s:n*esz<=16777216)
  (d:Instr.fill (fun j=>some (j*esz,esz)) ((aM (n*esz)).map (ie.zero.cells[· % ie.zero.cells.size]!)) parts.toList=some cells') (w:World):(Instr.buildSlice T n parts).run P w=.ok (.slice (some ⟨w.heap.size,0,none⟩) n n) (w.alloc (.cells cells' e)):=by
 obtain ⟨h,f,_⟩:=Cn p l;have a:=Du f g w;have b:=m.zeroV w;by_cases k:n*esz=0
 ·have c:n=0:=(Nat.mul_eq_zero.1 k).resolve_right g;subst c;have r:((aM (0*esz)).map (ie.zero.cells[· % ie.zero.cells.size]!))=#[]:=by simp
  rw [r] at d;unfold Instr.buildSlice;simp only [Sem.run_bind,run_underlying h,Result.andThen_ok,a];rw [if_neg (by omega)];simp only [bJ,if_true,Sem.run_bind,Sem.run_pure,Result.andThen_ok];have q:((aM 0).map fun x=>(#[]:Array Value)[x % (#[]:Array Value).size]!)=#[]:=by simp
  rw [q,d];simp [Zg,pure]
 ·unfold Instr.buildSlice;simp only [Sem.run_bind,run_underlying h,Result.andThen_ok,a];rw [if_neg (by omega),if_neg k];simp only [Sem.run_bind,b,Sem.run_pure,Result.andThen_ok];rw [d];simp [Zg,pure]
theorem zc6 {n:Nat}{ps:Array (Nat×Operand)}{ie:TyI}{e:Nat}(O:o.op=.buildSlice T n ps)(Y:dok cx o=true)(Z:lkT cx.E.tab T=some i)(S:i.shape=.slc e esz eb)(X:lkT cx.E.tab e=some ie)(R:esz≠0)(V:Nat.ble (n*esz) 16777216=true)
  (G:ie.zero.cells.all (·.oneCell')=true) (H:Nat.blt 0 ie.zero.cells.size=true) (J:Ff σ ps=true) (K:AV.closedL xs=true) (C:xs.length=n) (Q:xs.all (fun x=>bF x.cells.length esz)=true)
  (W:D9 (fun j=>some (j*esz,esz)) (replicate (n*esz) .any) (Cr σ ps)=some (xs.flatMap bH)):Aj cx o σ (.sl esz xs) (Fg (Cr σ ps)) [] :=
 zw9 Y fun τ γ a w h1 h2 m=>by
  have A:=Zr m J (fun p U=>h1 p.2 (by simp only [O,Op.operands,bD,aZ];exact ⟨p,U,rfl⟩)) h2;have u:∀ j,(ie.zero.cells[j % ie.zero.cells.size]!).oneCell'=true:=zt9 G (by simpa using H);have y:CRel w (Sg cx.S0 cx.w0.heap.size γ) γ ((aM (n*esz)).map (ie.zero.cells[· % ie.zero.cells.size]!)) (replicate (n*esz) .any):=by
   refine ⟨by simp,fun j l=>by simp only [getElem_replicate];exact .any _,fun j l=>?_⟩;have r:j<n*esz:=by simpa using l
   have:((aM (n*esz)).map (ie.zero.cells[· % ie.zero.cells.size]!)).getD j undef=ie.zero.cells[j % ie.zero.cells.size]! := by
    rw [aB,Array.getElem?_map,Array.getElem?_range,if_pos r];rfl
   rw [this];exact u j
  obtain ⟨cells',t,D,M,L⟩:=Xe (f:=a.eval) (g:=σ.eval) ps.toList _ _ _ A y W;have z:=Z5 (parts:=ps.map fun p=>(p.1,a.eval p.2)) (cx.E.ok T i Z) S (cx.E.ok e ie X) R (aO V) (by rw [aN];exact t) w;have v:Below w.heap.size w (w.alloc (.cells cells' e)):=(Below.refl _ _).alloc (bC _) _;have E:Blk (w.alloc (.cells cells' e)) w.heap.size e cells':=Blk.new w _ _;have c:∀ k (d:k<xs.length),(xs[k]).cells.length=esz:=fun k d=>by
   simp only [aQ] at Q;exact aG (Q _ (getElem_mem d))
  obtain ⟨N,g2⟩:=zyk c;have s:∀ k j,k<xs.length->j<esz->k*esz+j<xs.length*esz:=fun k j d l=>by
   have:(k+1)*esz<=xs.length*esz:=aE _ d;rw [aJ] at this;omega
  have I:=m.below.size;refine ⟨.slice (some ⟨w.heap.size,0,none⟩) n n,w.alloc (.cells cells' e),?_,v,fun _=>bC _,?_⟩
  ·have e':(ps.map fun x=>match x with|(i,x)=>(i,a.eval x))=ps.map fun p=>(p.1,a.eval p.2):=rfl
   simp only [execOp,O,e',Sem.run_bind,Sem.run_pure,Result.andThen_ok,z]
  ·subst C;refine .sl (some ⟨w.heap.size,0,none⟩) xs.length (fun k j=>if k<xs.length/\j<esz then cells'.getD (k*esz+j) undef else .bool true) (bC _) c (fun _=>⟨w.heap.size,0,rfl,bL ⟨⟨I,fun h0=>by have:=m.gh _ h0;omega⟩,fun B=>by have:=(m.ge _ B).2;omega⟩,by simp,fun k j d l=>?_⟩) (fun k d j l=>?_) (fun k j=>?_)
   ·rw [if_pos ⟨d,l⟩,bK];exact O0 E _ (by rw [D,N];exact s k j d l)
   ·have r:j<esz:=by rw [<-c k d];exact l
    rw [if_pos ⟨d,r⟩];have q:k*esz+j<(xs.flatMap bH).length:=by rw [N];exact s k j d r
    have:=M (k*esz+j) q;have F:=g2 k d j l;rw [aS q] at F;injection F with F
    rw [F] at this;refine (this.mono v.size (fun b hS q=>⟨v.block b q,hS⟩)).close ?_;exact z8w (bI K k d) j l
   ·by_cases h:k<xs.length/\j<esz
    ·rw [if_pos h];exact L _ (by rw [D,N];exact s k j h.1 h.2)
    ·rw [if_neg h];rfl
def bndA (σ:AS)(d:Nat):Option Operand->Option Int
 |none=>some d
 |some y=>match σ.eval y with|.int _ n=>some n|_=>none
def opdO:Option Operand->Bool |none=>true |some y=>A7 y
theorem X3 (k:IntKind)(m y:Nat)(c:BoundsCode)(h:m<=y):(Instr.sliceBound (.int k (m:Int)) y c).run P w=.ok m w:=by
 have:(0:Int)<=m/\(m:Int)<=y:=by omega
 simp [Instr.sliceBound,asIntOf,this.1,this.2,pure,h]
variable {x:Operand}{lo hi:Option Operand}
theorem zuf {l h:Nat}{e esz:Nat}(E:o.op=.slice T x lo hi none)(Z:dok cx o=true)(G:A7 x=true)(J:opdO lo=true)(M:opdO hi=true)(U:σ.eval x=.sl sz xs)(hT:lkT cx.E.tab T=some i)(W:i.shape=.slc e sz eb)(S:sz≠0)
  (h1:bndA σ 0 lo=some (l:Int)) (u:bndA σ xs.length hi=some (h:Int)) (K:l<=h) (hh:h<=xs.length):Aj cx o σ (.sl sz ((xs.take h).drop l)) [] [] :=
 B8 Z fun τ γ a w r Y m=>by
  have C:=m.ev x G;rw [r x (by simp [E,Op.operands]),U] at C;obtain ⟨A,c,ex,hc,B,cell,hb,X,Q⟩:=C.sl_inv;obtain ⟨V,N,_⟩:=Cn (cx.E.ok T i hT) W;have H:=Du N S w;have O:∃ D:Option Value,hi.map a.eval=D/\(match D with|some v=>Instr.sliceBound v c .sliceAcap|none=>pure xs.length:Sem Nat).run cx.P w=.ok h w:=by
   refine ⟨_,rfl,?_⟩;cases hi with
   |none=>simp only [bndA,aA] at u;have:xs.length=h:=by omega
          simp [this]
   |some y =>
    have s:=m.ev y M;rw [r y (by simp [E,Op.operands])] at s;simp only [bndA] at u;cases z:σ.eval y with
    |int k n =>
     rw [z] at s u;simp only [aA] at u;subst u;simp only [aL,s.int_inv];exact X3 k h c _ (by omega)
    |_=>rw [z] at u;simp at u
  have d:(match lo.map a.eval with|some v=>Instr.sliceBound v h .sliceB|none=>pure 0:Sem Nat).run cx.P w=.ok l w:=by
   cases lo with
   |none=>simp only [bndA,aA] at h1;have:l=0:=by omega
          simp [this]
   |some y =>
    have s:=m.ev y J;rw [r y (by simp [E,Op.operands])] at s;simp only [bndA] at h1;cases z:σ.eval y with
    |int k n =>
     rw [z] at s h1;simp only [aA] at h1;subst h1;simp only [aL,s.int_inv];exact X3 k l h _ K
    |_=>rw [z] at h1;simp at h1
  obtain ⟨D,L,g⟩:=O;have hB:(Instr.sliceBounds true xs.length c (lo.map a.eval) (hi.map a.eval) none).run cx.P w=.ok (l,h,c) w:=by
   rw [L];unfold Instr.sliceBounds;cases D with
   |none =>
    simp only [Sem.run_bind,Sem.run_pure,Result.andThen_ok] at g ⊢;have:xs.length=h:=by simpa using g
    subst this;cases f:lo.map a.eval with
    |none=>rw [f] at d;simp only [Sem.run_pure,Result.ok.injEq,and_true] at d ⊢;simp [d]
    |some v=>rw [f] at d;simp only [aF,aD,if_false,Sem.run_bind,Sem.run_pure,d,Result.andThen_ok]
   |some v =>
    simp only [if_true,Sem.run_bind,Sem.run_pure,Result.andThen_ok,g] at g ⊢;cases f:lo.map a.eval with
    |none=>rw [f] at d;simp only [Sem.run_pure,Result.ok.injEq,and_true] at d ⊢;simp [d]
    |some v=>rw [f] at d;simp only [aF,aD,if_false,Sem.run_bind,Sem.run_pure,d,Result.andThen_ok]
  have p:((xs.take h).drop l).length=h-l:=by simp;omega
  refine ⟨.slice (if c=l then A else A.map (·.add (l*sz))) (h-l) (c-l),?_,?_⟩
  ·simp only [execOp,E,ex,Instr.sliceAt,Instr.slice,Sem.run_bind,Sem.run_pure,Result.andThen_ok,run_underlying V,hB,H,bE]
  ·rw [<-p];refine .sl _ _ (fun k j=>cell (l+k) j) (by omega) (fun k R=>?_) (fun h0=>?_) (fun k R j F=>?_) (fun k j=>Q _ _)
   ·have q:l+k<xs.length:=by omega
    simp only [aY,aX];exact B _ q
   ·obtain ⟨b,off,rfl,hS,I,t⟩:=hb (by omega);refine ⟨b,off+l*sz,?_,hS,I,fun k j R F=>?_⟩
    ·rw [if_neg (by omega)];simp [Addr.add_lit]
    ·have:=t (l+k) j (by omega) F;rw [show off+l*sz+(k*sz+j)=off+((l+k)*sz+j) by rw [Nat.add_mul];omega];exact this
   ·have q:l+k<xs.length:=by omega
    simp only [aY,aX] at F ⊢;exact X (l+k) q j F
theorem zph {l h:Nat}{s:ByteArray}(t:o.op=.slice T x lo hi none)(H:dok cx o=true)(u:A7 x=true)(z:opdO lo=true)(C:opdO hi=true)(E:σ.eval x=.str s)(I:lkT cx.E.tab T=some i)(F:i.shape=.str)
  (h1:bndA σ 0 lo=some (l:Int)) (m:bndA σ s.size hi=some (h:Int)) (A:l<=h) (K:h<=s.size):Aj cx o σ (.str (s.extract l h)) [] [] :=
 B8 H fun τ γ a w j G g=>by
  have q:=g.ev x u;rw [j x (by simp [t,Op.operands]),E] at q;obtain ⟨d,D,f⟩:=(cx.E.ok T i I).und;rw [F] at f;cases d<;>simp only [Dx,reduceCtorEq] at f;have c:∃ r:Option Value,hi.map a.eval=r/\(match r with|some v=>Instr.sliceBound v s.size .sliceAlen|none=>pure s.size:Sem Nat).run cx.P w=.ok h w:=by
   refine ⟨_,rfl,?_⟩;cases hi with
   |none=>simp only [bndA,aA] at m;have:s.size=h:=by omega
          simp [this]
   |some y =>
    have f:=g.ev y C;rw [j y (by simp [t,Op.operands])] at f;simp only [bndA] at m;cases p:σ.eval y with
    |int k n =>
     rw [p] at f m;simp only [aA] at m;subst m;simp only [aL,f.int_inv];exact X3 k h _ _ (by omega)
    |_=>rw [p] at m;simp at m
  have b:(match lo.map a.eval with|some v=>Instr.sliceBound v h .sliceB|none=>pure 0:Sem Nat).run cx.P w=.ok l w:=by
   cases lo with
   |none=>simp only [bndA,aA] at h1;have:l=0:=by omega
          simp [this]
   |some y =>
    have f:=g.ev y z;rw [j y (by simp [t,Op.operands])] at f;simp only [bndA] at h1;cases p:σ.eval y with
    |int k n =>
     rw [p] at f h1;simp only [aA] at h1;subst h1;simp only [aL,f.int_inv];exact X3 k l h _ A
    |_=>rw [p] at h1;simp at h1
  obtain ⟨r,B,c⟩:=c;have J:(Instr.sliceBounds false s.size s.size (lo.map a.eval) (hi.map a.eval) none).run cx.P w=.ok (l,h,s.size) w:=by
   rw [B];unfold Instr.sliceBounds;cases r with
   |none =>
    simp only [Sem.run_bind,Sem.run_pure,Result.andThen_ok] at c ⊢;have:s.size=h:=by simpa using c
    subst this;cases e:lo.map a.eval with
    |none=>rw [e] at b;simp only [Sem.run_pure,Result.ok.injEq,and_true] at b ⊢;simp [b]
    |some v=>rw [e] at b;simp only [aF,aD,if_false,Sem.run_bind,Sem.run_pure,b,Result.andThen_ok]
   |some v =>
    simp only [aD,if_false,Sem.run_bind,Sem.run_pure,Result.andThen_ok,c] at c ⊢;cases e:lo.map a.eval with
    |none=>rw [e] at b;simp only [Sem.run_pure,Result.ok.injEq,and_true] at b ⊢;simp [b]
    |some v=>rw [e] at b;simp only [aF,aD,if_false,Sem.run_bind,Sem.run_pure,b,Result.andThen_ok]
  refine ⟨.string (s.extract l h),?_,.str _⟩;simp only [execOp,t,q.str_inv,Instr.sliceAt,Instr.slice,Sem.run_bind,Sem.run_pure,Result.andThen_ok,run_underlying D,J,bE,aF,aD,if_false]
theorem y3m {k:IntKind}(h:TyOk P T i)(b:i.shape=.int k):P.underlying T=some (.int k):=by
 obtain ⟨d,c,a⟩:=h.und;rw [b] at a;cases d<;>simp only [Dx,reduceCtorEq,E2.int.injEq] at a;subst a;exact c
theorem zwp {T':Nat}{j:TyI}{k b:IntKind}{n:Int}(l:o.op=.convert T T' x)(r:dok cx o=true)(e:A7 x=true)(m:σ.eval x=.int k n)(s:lkT cx.E.tab T=some i)(h:lkT cx.E.tab T'=some j)(q:j.shape=.int b):Aj cx o σ (.int b (b.wrap n)) [] [] :=
 B8 r fun τ γ a w h1 t f=>by
  have c:=f.ev x e;rw [h1 x (by simp [l,Op.operands]),m] at c;obtain ⟨d,g,_⟩:=(cx.E.ok T i s).und;have p:=y3m (cx.E.ok T' j h) q;refine ⟨.int b (b.wrap n),?_,.int _ _⟩;simp only [execOp,l,c.int_inv,convert,Sem.run_bind,Sem.run_pure,Result.andThen_ok,run_underlying g,run_underlying p,Conv.intToInt]
theorem zuh {f:FuncId}{ps:Array Operand}{cs:List AV}(h:o.op=.makeFunc (.func f) #[] ps)(j:dok cx o=true)(b:ps.toList.all A7=true)(k:ps.toList.map σ.eval=cs):Aj cx o σ (.fn f cs) [] [] :=
 B8 j fun τ γ a w h1 l d=>by
  subst k;refine ⟨.func (.func f) #[] (ps.map a.eval),by simp [execOp,h,Instr.makeFunc,pure],.fn _ (by simp) (fun i hi=>?_)⟩;have g:i<ps.size:=by simpa using hi
  have e:(ps.map a.eval).getD i undef=a.eval ps[i]:=by simp [bG,g]
  rw [e];simp only [aQ] at b;have c:=d.ev ps[i] (b _ (by simp));rw [h1 ps[i] (by simp [h,Op.operands])] at c;simpa using c
end
theorem TyOk.both {P:Program}{T:TypeId}{i:TyI}(h:TyOk P T i):∃ x,P.info? T=some x/\x.size=i.sz/\x.bytes=i.bytes/\x.zero=some i.zero:=by
 have h1:=h.info;have a:=h.zero;cases b:P.info? T with
 |none=>rw [b] at h1;simp at h1
 |some x=>rw [b] at h1 a;simp at h1 a;exact ⟨x,rfl,h1.1,h1.2,a⟩
variable {vs:List Value}
theorem z8l {P:Program}{base T e ty n m c:Nat}{ie:TyI}{v:Value}{A:Option Addr}{news:List Value}(p:P.underlying T=some (.slice e))(J:TyOk P e ie)(q:ie.sz=sz)(N:sz≠0)(l:ie.zero.cells.size=sz)
  (a:w.ownsRow base e sz v n vs) (K:0<m->∃ b off,A=some ⟨b,off,none⟩/\∀ j u,news[j]? = some u->w.cell? ⟨b,off+j,none⟩=some u) (C:news.length=m*sz) (h1:∀ u∈news,u.oneCell'=true)
  (B:n+m<=maxLen) (z:(n+m)*ie.bytes<=140737488355328) (f:base<=w.heap.size) :
  ∃ v' w',(Builtin.append_ #[T,T] ty #[v,.slice A m c]).run P w=.ok v' w'/\w'.ownsRow base e sz v' (n+m) (vs++news)/\w.grownBy w' v.ownBlock/\(v'.ownBlock=v.ownBlock\/v'.ownBlock=some w.heap.size):=by
 obtain ⟨i,hi,y,t,s⟩:=J.both;rcases Nat.eq_zero_or_pos m with k|k
 ·subst k;have H:news=[]:=length_eq_zero_iff.1 (by rw [C];simp);subst H;refine ⟨v,w,?_,by simpa using a,World.grownBy.refl w _,.inl rfl⟩;have D:(Builtin.firstCells i.size 0 (.slice A 0 c)).run P w=.ok #[] w:=by
   cases A<;>simp [Builtin.firstCells,loadCells,loadCellsFrom,pure]
  rcases a.2 with ⟨rfl,k⟩|⟨g,M,L,rfl,_,_,r,_⟩
  ·simp [Builtin.append_,run_underlying p,Go.sizeOf,typeInfo,hi,Builtin.lenOf,D]
  ·simp [Builtin.append_,run_underlying p,Go.sizeOf,typeInfo,hi,Builtin.lenOf,D,r,storeCells]
 ·obtain ⟨b,off,rfl,d⟩:=K k;obtain ⟨v',w',h,G,F,_,E⟩:=run_append_own_at (P:=P) w base T ty e i ie.zero sz ie.bytes p hi s (y.trans q) t l (by omega) v n vs a ⟨b,off,none⟩ m c news C (fun j u I=>by rw [Addr.add_lit];exact d j u I) h1 B z f;exact ⟨v',w',h,G,F,E⟩
theorem Cw {base e n:Nat}{v:Value}(h:w.ownsRow base e sz v n vs):v.oneCell'=true:=by
 rcases h.2 with ⟨rfl,_⟩|⟨g,b,a,rfl,_⟩<;>rfl
def Xn:Option Nat->List (Nat×Ent) |none=>[] |some id=>[(id,.dead)]
section
variable {cx:Cx} {o:Oper} {σ:AS}
theorem zij {T d e eb:Nat}{x y:Operand}{i ie:TyI}{ys:List AV}{oid:Option Nat}(ho:o.op=.call { callee:=.builtin .append,args:=#[x,y],argTypes:=#[T,T] })(aa:o.dst=some d)(hd:dok cx o=true)(bd:A7 x=true)(bc:A7 y=true)
  (hT:lkT cx.E.tab T=some i) (hs:i.shape=.slc e sz eb) (he:lkT cx.E.tab e=some ie) (bg:ie.sz=sz) (hz:sz≠0) (bb:ie.zero.cells.size=sz)
  (V:(σ.eval x=.nils/\oid=none/\xs=[])\/∃ id,σ.eval x=.row id/\oid=some id/\id≠d/\σ.find id=some (.row e sz xs)) (hy:σ.eval y=.sl sz ys\/(σ.eval y=.nils/\ys=[])) (hn:σ.find d=none)
  (bq:xs.length+ys.length<=1099511627776) (bm:(xs.length+ys.length)*ie.bytes<=140737488355328)
  (ay:cx.E.dr=false):Aj cx o σ (.row d) (d::oid.toList) ((d,.row e sz (xs++ys))::Xn oid):=by
 have aj:∀ id,lkE (Xn oid) id=if oid=some id then some .dead else none:=fun id=>by
  cases oid with
  |none=>simp [Xn,lkE]
  |some j =>
   simp only [Xn,lkE,aA];by_cases h:j=id
   ·subst h;simp
   ·rw [if_neg h];cases D:bF j id with
    |true=>exact absurd (aG D) h
    |false=>rfl
 have ab:∀ id,lkE ((d,Ent.row e sz (xs++ys))::Xn oid) id=if d=id then some (.row e sz (xs++ys)) else if oid=some id then some .dead else none:=fun id=>by
  simp only [lkE];by_cases h:d=id
  ·subst h;simp
  ·rw [if_neg h,<-aj];cases D:bF d id with
   |true=>exact absurd (aG D) h
   |false=>rfl
 refine ⟨fun id e' Z=>?_,fun τ h1 h2 a w Q K ⟨γ,l⟩ hK=>C5 (fun c hc=>by rw [ho] at hc;cases hc) ?_⟩
 ·rw [ab] at Z;by_cases h:d=id
  ·simp [h]
  ·rw [if_neg h] at Z;by_cases z:oid=some id
   ·simp [z]
   ·rw [if_neg z] at Z;cases Z
 have G:=l.ev x bd;rw [h1 x (by simp [ho,Op.operands,Call.operands])] at G;have F:=l.ev y bc;rw [h1 y (by simp [ho,Op.operands,Call.operands])] at F;obtain ⟨X,bp,_⟩:=Cn (cx.E.ok T i hT) hs;have al:γ d=none:=by have:=l.me d;rw [h2 d (by simp),hn] at this;exact this
 have ad:=l.below.size
 -- the row that is appended to
 have hX:∃ vs:List Value,w.ownsRow cx.w0.heap.size e sz (a.eval x) xs.length vs/\(∀ k (B:k<xs.length),(xs[k]).cells.length=sz)/\(∀ k (B:k<xs.length) j (O:j<(xs[k]).cells.length),Rep w (Sg cx.S0 cx.w0.heap.size γ) G0 ((xs[k]).cells[j]) (vs.getD (k*sz+j) undef))/\(∀ u∈vs,u.oneCell'=true) /\
   (∀ g,(a.eval x).ownBlock=some g->∃ id s,oid=some id/\γ id=some (some (some g,s))):=by
  rcases V with ⟨V,rfl,rfl⟩|⟨id,V,rfl,bo,hl⟩
  ·rw [V] at G;rw [G.nils_inv];exact ⟨[],World.ownsRow_nil w _ _ _,fun k B=>absurd B (by simp),fun k B=>absurd B (by simp),fun u X=>absurd X (by simp),fun g hg=>by simp [Value.ownBlock] at hg⟩
  ·rw [V] at G;have au:=l.me id;rw [h2 id (by simp),hl] at au;obtain ⟨dd,az,s,vs,bl,_,L,M,hr,an⟩:=au;subst bl;have ex:=G.row_inv az;rw [ex];exact ⟨vs,L,M,hr,an,fun g hg=>⟨id,s,rfl,by rw [az,hg]⟩⟩
 obtain ⟨vs,L,S,bi,ae,m⟩:=hX
 -- what is appended
 have hY:∃ (A:Option Addr) (c:Nat) (news:List Value),a.eval y=.slice A ys.length c/\news.length=ys.length*sz/\(0<ys.length->∃ b off,A=some ⟨b,off,none⟩/\∀ j u,news[j]? = some u->w.cell? ⟨b,off+j,none⟩=some u)/\(∀ u∈news,u.oneCell'=true) /\
   (∀ k (B:k<ys.length),(ys[k]).cells.length=sz)/\(∀ k (B:k<ys.length) j (O:j<(ys[k]).cells.length),Rep w (Sg cx.S0 cx.w0.heap.size γ) G0 ((ys[k]).cells[j]) (news.getD (k*sz+j) undef)):=by
  rcases hy with hy|⟨hy,rfl⟩
  ·rw [hy] at F;obtain ⟨A,c,ey,hc,M,cell,D,hr,bn⟩:=F.sl_inv;refine ⟨A,c,(range (ys.length*sz)).map (fun q=>cell (q / sz) (q % sz)),ey,by simp,fun h0=>?_,fun u X=>?_,M,fun k B j O=>?_⟩
   ·obtain ⟨b,off,rfl,hS,C,ak⟩:=D h0;refine ⟨b,off,rfl,fun j u O=>?_⟩;obtain ⟨ax,aw⟩:=List.getElem?_eq_some_iff.1 O;simp only [length_map,length_range] at ax;simp only [getElem_map,getElem_range] at aw;have hq:j / sz<ys.length:=(Nat.div_lt_iff_lt_mul (by omega)).2 ax;have hm:j % sz<sz:=Nat.mod_lt _ (by omega);have:=ak (j / sz) (j % sz) hq hm;rw [show j / sz*sz+j % sz=j by rw [aW];exact Nat.div_add_mod j sz] at this;rw [this,aw]
   ·obtain ⟨q,_,rfl⟩:=aZ.1 X;exact bn _ _
   ·have ah:j<sz:=by rw [<-M k B];exact O
    have C:k*sz+j<ys.length*sz:=by
     have:(k+1)*sz<=ys.length*sz:=aE _ B;rw [aJ] at this;omega
    have hq:(k*sz+j) / sz=k:=by rw [aW,Nat.mul_add_div (by omega),Nat.div_eq_of_lt ah,Nat.add_zero]
    have ar:(k*sz+j) % sz=j:=by rw [aW,Nat.mul_add_mod,Nat.mod_eq_of_lt ah]
    have:((range (ys.length*sz)).map (fun q=>cell (q / sz) (q % sz))).getD (k*sz+j) undef=cell k j:=by
     rw [aC,getElem?_map,getElem?_range C];simp [hq,ar]
    rw [this];exact hr k B j O
  ·rw [hy] at F;exact ⟨none,0,[],F.nils_inv,by simp,fun h=>absurd h (by simp),fun u X=>absurd X (by simp),fun k B=>absurd B (by simp),fun k B=>absurd B (by simp)⟩
 obtain ⟨A,c,news,ey,bj,hA,R,af,bh⟩:=hY;obtain ⟨v',w',am,q1,N,q3⟩:=z8l (P:=cx.P) (c:=c) (ty:=o.type) X (cx.E.ok e ie he) bg hz bb L hA bj R (by simp only [maxLen];omega) bm ad;have bk:(execOp a.eval o).run cx.P w=.ok (.value v') w':=by
  simp only [execOp,ho,resolve,invoke,builtin,Sem.run_bind,Sem.run_pure,Result.andThen_ok,map_toArray,map_cons,map_nil,ey,am]
 unfold Oper.wp;rw [bk];have ac:v'.oneCell'=true:=Cw q1;let γ':Gam:=fun id=>if d=id then some (some (v'.ownBlock,v')) else if oid=some id then some none else γ id
 have E:γ' d=some (some (v'.ownBlock,v')):=if_pos rfl;have t:∀ id,d≠id->oid≠some id->γ' id=γ id:=fun id h1 h2=>by show (if d=id then _ else if oid=some id then _ else γ id)=γ id;rw [if_neg h1,if_neg h2]
 have r:∀ id,d≠id->oid=some id->γ' id=some none:=fun id h1 h2=>by show (if d=id then _ else if oid=some id then _ else γ id)=some none;rw [if_neg h1,if_pos h2]
 have H:∀ b,own γ' b->v'.ownBlock=some b\/own γ b:=fun b ⟨id,dd,hi,hm⟩=>by
  by_cases h:d=id
  ·subst h;rw [E] at hi;injection hi with hi;subst hi;exact bM (Fe (Fd ac) hm)
  ·by_cases z:oid=some id
   ·rw [r id h z] at hi;injection hi with hi;subst hi;simp [blks] at hm
   ·rw [t id h z] at hi;exact bL ⟨id,dd,hi,hm⟩
 have W:∀ b,v'.ownBlock=some b->(own γ b/\(a.eval x).ownBlock=some b)\/b=w.heap.size:=fun b D=>by
  rcases q3 with q3|q3
  ·rw [q3] at D;obtain ⟨id,s,_,hi⟩:=m b D;exact bM ⟨own.mk hi,D⟩
  ·rw [q3] at D;injection D with D;exact bL D.symm
 have B:∀ b,Sg cx.S0 cx.w0.heap.size γ b->b<w.heap.size->w'.heap[b]? = w.heap[b]? /\ Sg cx.S0 cx.w0.heap.size γ' b:=fun b hS C=>by
  have J:¬own γ b:=by
   rcases hS with ⟨_,h⟩|⟨_,h⟩
   ·intro D;have:=(l.ge b D).1.1;omega
   ·exact h
  refine ⟨N.block b C (fun e=>?_),?_⟩
  ·obtain ⟨id,s,_,hi⟩:=m b e.symm;exact J (own.mk hi)
  ·rcases hS with hS|⟨hB,_⟩
   ·exact bM hS
   ·refine bL ⟨hB,fun I=>?_⟩;rcases H b I with h|h
    ·rcases W b h with ⟨h,_⟩|h
     ·exact J h
     ·omega
    ·exact J h
 have aq:∀ {av v},Rep w (Sg cx.S0 cx.w0.heap.size γ) G0 av v->Rep w' (Sg cx.S0 cx.w0.heap.size γ') G0 av v:=fun h=>h.mono N.size B
 refine hK _ _ ⟨γ',?_⟩;rw [aa];refine l.step (γ':=γ') (fun x V=>by injection V with V;subst V;exact C0 hd _ aa) N.size B (fun id x f=>?_) (fun id f=>?_) (fun id e' f=>?_) (fun id p b d1 d2 hi n m1 m2=>?_) (fun b D=>?_) ?_ (.row E (fun g s e _=>by injection e with e;injection e with e e2)) (fun b J C=>⟨N.block b C (fun e=>by obtain ⟨id,s,_,hi⟩:=m b e.symm;exact J (own.mk hi)),fun I=>by
  rcases H b I with h|h
  ·rcases W b h with ⟨h,_⟩|h
   ·exact J h
   ·omega
  ·exact J h⟩) (fun h=>absurd (ay.symm.trans h) (by simp))
 ·by_cases h:d=id
  ·subst h;rw [al] at f;cases f
  ·by_cases z:oid=some id
   ·exact bL (bM (r id h z))
   ·exact bM (by rw [t id h z];exact f)
 ·rw [ab] at f;by_cases h:d=id
  ·rw [if_pos h] at f;cases f
  ·rw [if_neg h] at f;by_cases z:oid=some id
   ·rw [if_pos z] at f;cases f
   ·refine ⟨t id h z,fun g dd hg hm=>N.block g (l.ge g ⟨id,dd,hg,hm⟩).2 (fun e=>?_)⟩;obtain ⟨ba,s0,h0,ai⟩:=m g e.symm;have:=l.inj _ _ _ _ _ hg ai hm C1;subst this;exact z h0
 ·rw [ab] at f;by_cases h:d=id
  ·subst h;rw [if_pos rfl] at f;injection f with f
   subst f;refine ⟨_,E,v',vs++news,rfl,ac,by rw [aT];exact q1,fun k B=>?_,fun k B j O=>?_,fun u X=>(mem_append.1 X).elim (ae u) (R u)⟩
   ·rw [getElem_append];split
    ·exact S k _
    ·exact af _ _
   ·rw [aT] at B;have bf:vs.length=xs.length*sz:=L.1;by_cases Y:k<xs.length
    ·simp only [aH Y] at O ⊢;have ah:j<sz:=by rw [<-S k Y];exact O
     have C:k*sz+j<vs.length:=by
      have:(k+1)*sz<=xs.length*sz:=aE _ Y;rw [aJ] at this;omega
     rw [aC,aR C,<-aC];exact aq (bi k Y j O)
    ·have U:xs.length<=k:=by omega
     simp only [aK U] at O ⊢;have C:vs.length<=k*sz+j:=by
      have:xs.length*sz<=k*sz:=aE _ U;omega
     rw [aC,aP C,<-aC];rw [show k*sz+j-vs.length=(k-xs.length)*sz+j by
      rw [bf,Nat.sub_mul];have:xs.length*sz<=k*sz:=aE _ U;omega]
     exact aq (bh (k-xs.length) (by omega) j O)
  ·rw [if_neg h] at f;by_cases z:oid=some id
   ·rw [if_pos z] at f;injection f with f
    subst f;exact ⟨none,r id h z,rfl⟩
   ·rw [if_neg z] at f;cases f
 ·have key:∀ id p b d1 d2,d=id->d≠p->γ' id=some d1->γ' p=some d2->b∈blks d1->b∈blks d2->False:=fun id p b d1 d2 h z hi n m1 m2=>by
   subst h;rw [E] at hi;injection hi with hi
   subst hi;have hi:=Fe (Fd ac) m1;by_cases I:oid=some p
   ·rw [r p z I] at n;injection n with n;subst n;simp [blks] at m2
   ·rw [t p z I] at n;rcases W b hi with ⟨_,D⟩|D
    ·obtain ⟨ba,s0,h0,ai⟩:=m b D;have:=l.inj _ _ _ _ _ n ai m2 C1;subst this;exact I h0
    ·have:=(l.ge b ⟨p,d2,n,m2⟩).2;omega
  by_cases h:d=id
  ·by_cases z:d=p
   ·rw [<-h,<-z]
   ·exact (key id p b d1 d2 h z hi n m1 m2).elim
  ·by_cases z:d=p
   ·exact (key p id b d2 d1 z h n hi m2 m1).elim
   ·by_cases ap:oid=some id
    ·rw [r id h ap] at hi;injection hi with hi;subst hi;simp [blks] at m1
    ·by_cases ao:oid=some p
     ·rw [r p z ao] at n;injection n with n;subst n;simp [blks] at m2
     ·rw [t id h ap] at hi;rw [t p z ao] at n;exact l.inj _ _ _ _ _ hi n m1 m2
 ·rcases H b D with h|h
  ·rcases W b h with ⟨h,_⟩|z
   ·exact ⟨(l.ge b h).1,aU (l.ge b h).2 N.size⟩
   ·refine ⟨⟨by omega,fun h0=>by have:=l.gh _ h0;omega⟩,?_⟩;rcases q1.2 with ⟨hv,_⟩|⟨g,bs,br,hv,_,hh,_⟩
    ·rw [hv] at h;simp [Value.ownBlock] at h
    ·rw [hv] at h;simp only [Value.ownBlock,aA] at h;subst h;exact (Array.getElem?_eq_some_iff.1 hh).1
  ·exact ⟨(l.ge b h).1,aU (l.ge b h).2 N.size⟩
 ·refine l.below.trans ⟨N.os,N.tape,N.output,N.size,fun k B=>N.block k (by omega) (fun e=>?_)⟩;obtain ⟨id,s,_,hi⟩:=m k e.symm;have:=(l.ge k (own.mk hi)).1.1;omega
end
end Go.Proofs.YtidhlpjgifoneaaGreat
