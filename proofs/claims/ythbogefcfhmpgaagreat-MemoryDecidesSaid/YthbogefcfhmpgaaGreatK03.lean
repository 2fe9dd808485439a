/- The abstract walk, seventh part. -/
import Derived.Test.YthbogefcfhmpgaaGreatK02
import Derived.Laws.Tables
import Derived.Laws.MakeOwn
set_option linter.unusedVariables false
set_option linter.unusedSimpArgs false
namespace Go.Proofs.YthbogefcfhmpgaaGreat
open Go.RowKit List
open _root_.Array renaming getD_eq_getD_getElem?->aA,getElem?_eq_some_iff->aH,getElem?_append_left->aZ,range->bA,toList_map->bG,getD->bH,all_eq_true->bO
open Option.some renaming injEq->aB
open List renaming getD_eq_getElem?_getD->aC,getElem_append_left->aJ,getElem_append_right->aN,getElem_map->aO,getElem?_eq_getElem->aP,getElem_mem->aQ,all_eq_true->bB,mem_flatMap->bC,getElem_cons_zero->bD,getElem?_append_right->bJ,getElem?_append_left->bK,length_append->bM,length_eq_zero_iff->bN,getElem_take->bQ,getElem_drop->bR,mem_map->bS,mem_toArray->bT
open Nat renaming mul_le_mul_right->aD,eq_of_beq_eq_true->aE,le_refl->aF,succ_mul->aK,zero_add->aV,le_trans->aW,lt_of_lt_of_le->aY,le_of_ble_eq_true->bI,beq->bL,mul_comm->bP,zero_mul->bX,add_zero->bY
open Bool renaming false_eq_true->aG,and_eq_true->bF
open Or renaming inr->aL,inl->aR
open Option renaming isSome_none->aM,map_some->aU,map_none->bU
open AV renaming closedL->aS,closedL_at->bE,cells->bV,closed->bW
open Gam renaming set_ne->aT,set_self->aX
def CRel (w:World)(S:Nat->Prop)(γ:Gam)(cells:Array Value)(cs:List AV):Prop :=
 cells.size=cs.length/\(∀ i (hi:i<cs.length),Rep w S γ cs[i] (cells.getD i undef))/\∀ i,i<cells.size->(cells.getD i undef).oneCell'=true
def Df (place:Nat->Option (Nat×Nat)):List AV->List (Nat×AV)->Option (List AV)
 |cells,[]=>some cells
 |cells,(i,v)::r=>match place i with
  |none=>none
  |some (off,size)=>match bL v.cells.length size && Nat.ble (off+size) cells.length with
   |true=>Df place (cells.take off++v.cells++cells.drop (off+size)) r
   |false=>none
theorem za9 (off:Nat):∀ (l:List Value) (n:Nat) (cells:Array Value),((l.zipIdx n).foldl (fun cs p=>cs.setIfInBounds (off+p.2) p.1) cells).size=cells.size /\
  ∀ m,((l.zipIdx n).foldl (fun cs p=>cs.setIfInBounds (off+p.2) p.1) cells).getD m undef=if off+n<=m/\m<off+n+l.length/\m<cells.size then l.getD (m-(off+n)) undef else cells.getD m undef
 |[],n,cells=>⟨rfl,fun m=>by rw [if_neg (by simp;omega)];rfl⟩
 |v::r,n,cells=>by
  simp only [zipIdx_cons,foldl_cons]
  obtain ⟨h1,h2⟩:=za9 off r (n+1) (cells.setIfInBounds (off+n) v)
  refine ⟨by rw [h1];simp,fun m=>?_⟩
  rw [h2 m]
  simp only [Array.size_setIfInBounds,length_cons]
  by_cases hm:m=off+n
  ·subst hm
   rw [if_neg (by omega)]
   by_cases hb:off+n<cells.size
   ·rw [if_pos (by omega)]
    simp [aA,hb]
   ·rw [if_neg (by omega)]
    simp [aA,hb]
  ·have hset:(cells.setIfInBounds (off+n) v).getD m undef=cells.getD m undef:=by
    simp only [aA,Array.getElem?_setIfInBounds_ne (Ne.symm hm)]
   rw [hset]
   by_cases hc:off+(n+1)<=m/\m<off+(n+1)+r.length/\m<cells.size
   ·rw [if_pos hc,if_pos (by omega)]
    rw [show m-(off+n)=(m-(off+(n+1)))+1 by omega]
    simp
   ·rw [if_neg hc,if_neg (by omega)]
variable {w:World}{S:Nat->Prop}{γ:Gam}
theorem V3 {place:Nat->Option (Nat×Nat)}{f:Operand->Value}{g:Operand->AV}:∀ (ops:List (Nat×Operand)) (cells:Array Value) (cs cs':List AV),(∀ p∈ops,CRel w S γ (f p.2).cells (g p.2).cells)->CRel w S γ cells cs ->
  Df place cs (ops.map fun p=>(p.1,g p.2))=some cs'->∃ cells',Instr.fill place cells (ops.map fun p=>(p.1,f p.2))=some cells'/\CRel w S γ cells' cs'
 |[],cells,cs,cs',_,hr,h=>by
  simp only [map_nil,Df,aB] at h
  subst h
  exact ⟨cells,rfl,hr⟩
 |(i,x)::r,cells,cs,cs',hp,hr,h=>by
  simp only [map_cons,Df] at h
  obtain ⟨q1,q2,q3⟩:=hp (i,x) (by simp)
  simp only at q1 q2 q3
  cases hpl:place i with
  |none=>rw [hpl] at h;simp at h
  |some os =>
   obtain ⟨off,size⟩:=os
   rw [hpl] at h
   simp only at h
   split at h
   ·rename_i hcond
    simp only [bF] at hcond
    have hc1:(g x).cells.length=size:=aE hcond.1
    have hc2:off+size<=cs.length:=bI hcond.2
    simp only [map_cons,Instr.fill,hpl]
    have hns:¬(((f x).cells.size≠size || off+(f x).cells.size > cells.size)=true):=by
     have:=hr.1
     simp only [Bool.or_eq_true,decide_eq_true_eq]
     simp only [q1] at *
     omega
    rw [if_neg hns]
    refine V3 r _ _ cs' (fun p hp'=>hp p (by simp [hp'])) ?_ h
    have hfold:((f x).cells.zipIdx.foldl (fun cs (p:Value×Nat)=>cs.setIfInBounds (off+p.2) p.1) cells)=(((f x).cells.toList.zipIdx 0).foldl (fun cs p=>cs.setIfInBounds (off+p.2) p.1) cells):=by
     rw [<-Array.foldl_toList,Array.toList_zipIdx]
    have hfold':((f x).cells.zipIdx.foldl (fun cs x=>match x with|(c,j)=>cs.setIfInBounds (off+j) c) cells)=(((f x).cells.toList.zipIdx 0).foldl (fun cs p=>cs.setIfInBounds (off+p.2) p.1) cells):=hfold
    obtain ⟨s1,s2⟩:=za9 off (f x).cells.toList 0 cells
    have hcl:(cs.take off++(g x).cells++cs.drop (off+size)).length=cs.length:=by simp;omega
    have hval:∀ m,m<cs.length->(((f x).cells.toList.zipIdx 0).foldl (fun cs p=>cs.setIfInBounds (off+p.2) p.1) cells).getD m undef=if off<=m/\m<off+size then (f x).cells.getD (m-off) undef else cells.getD m undef:=fun m hm=>by
     rw [s2 m]
     have hrs:=hr.1
     have hls:(f x).cells.toList.length=size:=by rw [Array.length_toList];omega
     by_cases hc:off<=m/\m<off+size
     ·rw [if_pos hc,if_pos (by omega)]
      simp [aA,aC]
     ·rw [if_neg hc,if_neg (by omega)]
    have hres:CRel w S γ (((f x).cells.toList.zipIdx 0).foldl (fun cs p=>cs.setIfInBounds (off+p.2) p.1) cells) (cs.take off++(g x).cells++cs.drop (off+size)):=by
     refine ⟨by rw [s1,hcl];exact hr.1,fun m hm=>?_,fun m hm=>?_⟩
     ·rw [hcl] at hm
      rw [hval m hm]
      by_cases h1:m<off
      ·rw [if_neg (by omega),aJ (by simp;omega),aJ (by simp;omega),bQ]
       exact hr.2.1 m hm
      ·by_cases h2:m<off+size
       ·rw [if_pos (by omega),aJ (by simp;omega),aN (by simp;omega)]
        have hlen:(cs.take off).length=off:=by simp;omega
        simp only [hlen]
        exact q2 (m-off) (by omega)
       ·rw [if_neg (by omega),aN (by simp;omega),bR]
        have hlen:off+size+(m-(cs.take off++(g x).cells).length)=m:=by simp;omega
        simp only [hlen]
        exact hr.2.1 m hm
     ·rw [s1] at hm
      rw [hval m (by have:=hr.1;omega)]
      by_cases hc:off<=m/\m<off+size
      ·rw [if_pos hc];exact q3 (m-off) (by omega)
      ·rw [if_neg hc];exact hr.2.2 m hm
    rw [hfold']
    exact hres
   ·cases h
theorem zjk (w:World)(S:Nat->Prop)(γ:Gam)(z:Value)(hz:z.cells.all (·.oneCell')=true):CRel w S γ z.cells (z.cells.toList.map AV.ofV):=by
 refine ⟨by simp,fun j hj=>?_,fun j hj=>?_⟩
 ·have hj':j<z.cells.size:=by simpa using hj
  have:z.cells.getD j undef=z.cells[j]:=by simp [bH,hj']
  simp only [aO,Array.getElem_toList,this]
  exact O3 _ _ _ _
 ·have:z.cells.getD j undef=z.cells[j]:=by simp [bH,hj]
  rw [this]
  simp only [bO] at hz
  exact hz j hj
section
variable {cx:Cx} {o:Oper} {σ:AS}
def Cp (σ:AS)(ps:Array (Nat×Operand)):List (Nat×AV):=ps.toList.map fun p=>(p.1,σ.eval p.2)
def Gx (l:List (Nat×AV)):List Nat:=l.flatMap fun p=>p.2.ids
def Gw (σ:AS)(ps:Array (Nat×Operand)):Bool:=ps.toList.all fun p=>A5 p.2 && okc σ (σ.eval p.2)
variable {ps:Array (Nat×Operand)}
theorem Xr {τ:AS}{a:Act}(hst:StG cx γ τ a w)(hok:Gw σ ps=true)(h1:∀ p∈ps.toList,τ.eval p.2=σ.eval p.2)(h2:∀ id∈Gx (Cp σ ps),τ.find id=σ.find id) :
  ∀ p∈ps.toList,CRel w (Sg cx.S0 cx.w0.heap.size γ) γ (a.eval p.2).cells (σ.eval p.2).cells:=fun p hp=>by
 simp only [Gw,bB,bF] at hok
 obtain ⟨k1,k2⟩:=hok p hp
 have hev:=hst.ev p.2 k1
 rw [h1 p hp] at hev
 exact Uy hst hev k2 (fun id hid=>h2 id (bC.2 ⟨(p.1,σ.eval p.2),bS.2 ⟨p,hp,rfl⟩,hid⟩))
variable {P:Program}{esz:Nat}
theorem z94 {e:Nat}(h:P.cellsOf e=esz)(hz:esz≠0):∃ info,P.info? e=some info/\info.size=esz:=by
 unfold Program.cellsOf at h
 cases hq:P.info? e with
 |none=>rw [hq] at h;simp at h;exact absurd h.symm hz
 |some info=>rw [hq] at h;simp at h;exact ⟨info,rfl,h⟩
theorem zqs (Fs:List Field)(h:∀ f∈Fs,P.cellsOf f.type≠0):Fs.mapM (fun f=>(P.info? f.type).map fun i=>(f.offset,i.size))=some (Fs.map fun f=>(f.offset,P.cellsOf f.type)):=by
 induction Fs with
 |nil=>rfl
 |cons f r ih =>
  obtain ⟨info,hi,hs⟩:=z94 rfl (h f (by simp))
  rw [mapM_cons,ih (fun g hg=>h g (by simp [hg]))]
  simp [hi,hs]
theorem zf9 {T:Nat}{i:TyI}{fs:List (Nat×Nat×Option Bool)}{cs:List AV}(ho:o.op=.build T ps)(hd:dok cx o=true)(hT:lkT cx.E.tab T=some i)(hs:i.shape=.strct fs)(hz:i.zero.cells.all (·.oneCell')=true)(hok:Gw σ ps=true)
  (hfs:fs.all (fun f=>!(bL f.2.1 0))=true) (hf:Df (fun j=>(fs[j]?).map fun f=>(f.1,f.2.1)) (i.zero.cells.toList.map AV.ofV) (Cp σ ps)=some cs):Ag cx o σ (.agg cs) (Gx (Cp σ ps)) [] :=
 Ay hd fun τ γ a w h1 h2 hst=>by
  have hrel:=Xr hst hok (fun p hp=>h1 p.2 (by simp only [ho,Op.operands,bT,bS];exact ⟨p,hp,rfl⟩)) h2
  have hokT:=cx.E.ok T i hT
  obtain ⟨Fs,hF,hfsE⟩:=Xo hokT hs
  obtain ⟨cells',hfill,hc1,hc2,hc3⟩:=V3 (f:=a.eval) (g:=σ.eval) ps.toList i.zero.cells _ cs hrel (zjk w _ γ i.zero hz) hf
  have hpl:(fun j:Nat=>(fs[j]?).map fun (f:Nat×Nat×Option Bool)=>(f.1,f.2.1))=fun j:Nat=>(Fs.toList.map fun f=>(f.offset,cx.P.cellsOf f.type))[j]? := by
   funext j
   rw [hfsE]
   simp [getElem?_map,Option.map_map]
   rfl
  rw [hpl] at hfill
  have hb:cx.P.built T ((ps.map fun p=>(p.1,a.eval p.2)).toList)=some cells':=by
   obtain ⟨it,hit,hz'⟩:∃ it,cx.P.info? T=some it/\it.zero=some i.zero:=by
    have:=hokT.zero
    cases hq:cx.P.info? T with
    |none=>rw [hq] at this;simp at this
    |some it=>rw [hq] at this;exact ⟨it,rfl,by simpa using this⟩
   have hnz:∀ f∈Fs.toList,cx.P.cellsOf f.type≠0:=fun f hf=>by
    simp only [hfsE,bB] at hfs
    have:=hfs (f.offset,cx.P.cellsOf f.type,aggT cx.P f.type) (bS.2 ⟨f,hf,rfl⟩)
    intro e
    simp [e] at this
   unfold Program.built
   rw [hit,hF]
   simp only [hz',zqs Fs.toList hnz,bG]
   simpa using hfill
  have hrun:=run_build (P:=cx.P) w T (ps.map fun p=>(p.1,a.eval p.2)) cells' hb
  refine ⟨.agg cells',?_,.agg cells' hc1 hc2 hc3⟩
  have e:(ps.map fun x=>match x with|(i,x)=>(i,a.eval x))=ps.map fun p=>(p.1,a.eval p.2):=rfl
  simp only [execOp,ho,e,Sem.run_bind,Sem.run_pure,Result.andThen_ok,hrun]
variable {ag:Option Bool}
theorem zq5 {T:TypeId}{i:TyI}{n e:Nat}(h:TyOk P T i)(hs:i.shape=.arr n e esz ag):P.underlying T=some (.array n e)/\P.cellsOf e=esz/\aggT P e=ag:=by
 obtain ⟨d,hd,he⟩:=h.und
 rw [hs] at he
 cases d<;>simp only [Dk,E3.arr.injEq,reduceCtorEq] at he
 obtain ⟨rfl,rfl,h2,h3⟩:=he
 exact ⟨hd,h2,h3⟩
theorem zlq {T n e:Nat}{i:TyI}{cs:List AV}(ho:o.op=.build T ps)(hd:dok cx o=true)(hT:lkT cx.E.tab T=some i)(hs:i.shape=.arr n e esz ag)(hz:i.zero.cells.all (·.oneCell')=true)(hok:Gw σ ps=true)(hesz:esz≠0)
  (hf:Df (fun j=>some (j*esz,esz)) (i.zero.cells.toList.map AV.ofV) (Cp σ ps)=some cs):Ag cx o σ (.agg cs) (Gx (Cp σ ps)) [] :=
 Ay hd fun τ γ a w h1 h2 hst=>by
  have hrel:=Xr hst hok (fun p hp=>h1 p.2 (by simp only [ho,Op.operands,bT,bS];exact ⟨p,hp,rfl⟩)) h2
  have hokT:=cx.E.ok T i hT
  obtain ⟨hu,hce,_⟩:=zq5 hokT hs
  obtain ⟨cells',hfill,hc1,hc2,hc3⟩:=V3 (f:=a.eval) (g:=σ.eval) ps.toList i.zero.cells _ cs hrel (zjk w _ γ i.zero hz) hf
  have hb:cx.P.built T ((ps.map fun p=>(p.1,a.eval p.2)).toList)=some cells':=by
   obtain ⟨it,hit,hz'⟩:∃ it,cx.P.info? T=some it/\it.zero=some i.zero:=by
    have:=hokT.zero
    cases hq:cx.P.info? T with
    |none=>rw [hq] at this;simp at this
    |some it=>rw [hq] at this;exact ⟨it,rfl,by simpa using this⟩
   obtain ⟨ie,hie,hie2⟩:=z94 hce hesz
   unfold Program.built
   rw [hit,hu]
   simp only [hz',hie,hie2,bG]
   exact hfill
  have hrun:=run_build (P:=cx.P) w T (ps.map fun p=>(p.1,a.eval p.2)) cells' hb
  refine ⟨.agg cells',?_,.agg cells' hc1 hc2 hc3⟩
  have e:(ps.map fun x=>match x with|(i,x)=>(i,a.eval x))=ps.map fun p=>(p.1,a.eval p.2):=rfl
  simp only [execOp,ho,e,Sem.run_bind,Sem.run_pure,Result.andThen_ok,hrun]
end
theorem z6x {x:AV}(h:x.closed=true)(j:Nat)(hj:j<x.cells.length):(x.cells[j]).closed=true:=by
 have single:x.cells=[x]->(x.cells[j]).closed=true:=fun hc=>by
  have h2:∀ y∈x.cells,y.closed=true:=fun y hy=>by
   rw [hc,mem_singleton] at hy
   rw [hy];exact h
  exact h2 _ (aQ hj)
 cases x with
 |agg cs=>simp only [bW] at h;exact bE h j hj
 |_=>exact single rfl
variable {xs:List AV}{sz:Nat}
theorem zsj (h:∀ k (hk:k<xs.length),(xs[k]).cells.length=sz):(xs.flatMap bV).length=xs.length*sz/\∀ k (hk:k<xs.length) j (hj:j<(xs[k]).cells.length),(xs.flatMap bV)[k*sz+j]? = some ((xs[k]).cells[j]):=by
 induction xs with
 |nil=>exact ⟨by simp,fun k hk=>absurd hk (by simp)⟩
 |cons x r ih =>
  have hx:=h 0 (by simp)
  simp only [bD] at hx
  obtain ⟨i1,i2⟩:=ih (fun k hk=>by have:=h (k+1) (by simpa using hk);simpa using this)
  refine ⟨by rw [flatMap_cons,bM,hx,i1,length_cons,aK];omega,fun k hk j hj=>?_⟩
  rw [flatMap_cons]
  cases k with
  |zero =>
   simp only [bD] at hj ⊢
   rw [bX,aV,bK hj,aP hj]
  |succ k =>
   simp only [getElem_cons_succ] at hj ⊢
   rw [bJ (by rw [hx,aK];omega),hx,show (k+1)*sz+j-sz=k*sz+j by rw [aK];omega]
   exact i2 k (by simpa using hk) j hj
section
variable {cx:Cx} {o:Oper} {σ:AS}
theorem znz {z:Array Value}(hz:z.all (·.oneCell')=true)(h0:0<z.size)(x:Nat):(z[x % z.size]!).oneCell'=true:=by
 have hlt:=Nat.mod_lt x h0
 rw [getElem!_pos z _ hlt]
 simp only [bO] at hz
 exact hz _ hlt
variable {P:Program}{T:Nat}{i:TyI}{esz eb:Nat}
theorem Zr {ie:TyI}{e n:Nat}{parts:Array (Nat×Value)}{cells':Array Value}(hT:TyOk P T i)(hs:i.shape=.slc e esz eb)(he:TyOk P e ie)(hz:esz≠0)(hn:n*esz<=16777216)
  (hf:Instr.fill (fun j=>some (j*esz,esz)) ((bA (n*esz)).map (ie.zero.cells[· % ie.zero.cells.size]!)) parts.toList=some cells') (w:World):(Instr.buildSlice T n parts).run P w=.ok (.slice (some ⟨w.heap.size,0,none⟩) n n) (w.alloc (.cells cells' e)):=by
 obtain ⟨hu,hce,_⟩:=Ce hT hs
 have hsz:=Ei hce hz w
 have hzr:=he.zeroV w
 by_cases h0:n*esz=0
 ·have hn0:n=0:=(Nat.mul_eq_zero.1 h0).resolve_right hz
  subst hn0
  have e1:((bA (0*esz)).map (ie.zero.cells[· % ie.zero.cells.size]!))=#[]:=by simp
  rw [e1] at hf
  unfold Instr.buildSlice
  simp only [Sem.run_bind,run_underlying hu,Result.andThen_ok,hsz]
  rw [if_neg (by omega)]
  simp only [bX,if_true,Sem.run_bind,Sem.run_pure,Result.andThen_ok]
  have e2:((bA 0).map fun x=>(#[]:Array Value)[x % (#[]:Array Value).size]!)=#[]:=by simp
  rw [e2,hf]
  simp [Xe,pure]
 ·unfold Instr.buildSlice
  simp only [Sem.run_bind,run_underlying hu,Result.andThen_ok,hsz]
  rw [if_neg (by omega),if_neg h0]
  simp only [Sem.run_bind,hzr,Sem.run_pure,Result.andThen_ok]
  rw [hf]
  simp [Xe,pure]
theorem zhy {n:Nat}{ps:Array (Nat×Operand)}{ie:TyI}{e:Nat}(ho:o.op=.buildSlice T n ps)(hd:dok cx o=true)(hT:lkT cx.E.tab T=some i)(hs:i.shape=.slc e esz eb)(he:lkT cx.E.tab e=some ie)(hz:esz≠0)(hn:Nat.ble (n*esz) 16777216=true)
  (hze:ie.zero.cells.all (·.oneCell')=true) (hz0:Nat.blt 0 ie.zero.cells.size=true) (hok:Gw σ ps=true) (hcl:aS xs=true) (hlen:xs.length=n) (hl:xs.all (fun x=>bL x.cells.length esz)=true)
  (hf:Df (fun j=>some (j*esz,esz)) (replicate (n*esz) .any) (Cp σ ps)=some (xs.flatMap bV)):Ag cx o σ (.sl esz xs) (Gx (Cp σ ps)) [] :=
 zqa hd fun τ γ a w h1 h2 hst=>by
  have hrel:=Xr hst hok (fun p hp=>h1 p.2 (by simp only [ho,Op.operands,bT,bS];exact ⟨p,hp,rfl⟩)) h2
  have hcell:∀ j,(ie.zero.cells[j % ie.zero.cells.size]!).oneCell'=true:=znz hze (by simpa using hz0)
  have h0rel:CRel w (Sg cx.S0 cx.w0.heap.size γ) γ ((bA (n*esz)).map (ie.zero.cells[· % ie.zero.cells.size]!)) (replicate (n*esz) .any):=by
   refine ⟨by simp,fun j hj=>by simp only [getElem_replicate];exact .any _,fun j hj=>?_⟩
   have hj':j<n*esz:=by simpa using hj
   have:((bA (n*esz)).map (ie.zero.cells[· % ie.zero.cells.size]!)).getD j undef=ie.zero.cells[j % ie.zero.cells.size]! := by
    rw [aA,Array.getElem?_map,Array.getElem?_range,if_pos hj'];rfl
   rw [this]
   exact hcell j
  obtain ⟨cells',hfill,hc1,hc2,hc3⟩:=V3 (f:=a.eval) (g:=σ.eval) ps.toList _ _ _ hrel h0rel hf
  have hrun:=Zr (parts:=ps.map fun p=>(p.1,a.eval p.2)) (cx.E.ok T i hT) hs (cx.E.ok e ie he) hz (bI hn) (by rw [bG];exact hfill) w
  have hbl:Below w.heap.size w (w.alloc (.cells cells' e)):=(Below.refl _ _).alloc (aF _) _
  have hblk:Blk (w.alloc (.cells cells' e)) w.heap.size e cells':=Blk.new w _ _
  have hlen':∀ k (hk:k<xs.length),(xs[k]).cells.length=esz:=fun k hk=>by
   simp only [bB] at hl
   exact aE (hl _ (aQ hk))
  obtain ⟨g1,g2⟩:=zsj hlen'
  have hin:∀ k j,k<xs.length->j<esz->k*esz+j<xs.length*esz:=fun k j hk hj=>by
   have:(k+1)*esz<=xs.length*esz:=aD _ hk
   rw [aK] at this
   omega
  have hsz:=hst.below.size
  refine ⟨.slice (some ⟨w.heap.size,0,none⟩) n n,w.alloc (.cells cells' e),?_,hbl,fun _=>aF _,?_⟩
  ·have e':(ps.map fun x=>match x with|(i,x)=>(i,a.eval x))=ps.map fun p=>(p.1,a.eval p.2):=rfl
   simp only [execOp,ho,e',Sem.run_bind,Sem.run_pure,Result.andThen_ok,hrun]
  ·subst hlen
   refine .sl (some ⟨w.heap.size,0,none⟩) xs.length (fun k j=>if k<xs.length/\j<esz then cells'.getD (k*esz+j) undef else .bool true) (aF _) hlen' (fun _=>⟨w.heap.size,0,rfl,aL ⟨⟨hsz,fun h0=>by have:=hst.gh _ h0;omega⟩,fun hown=>by have:=(hst.ge _ hown).2;omega⟩,by simp,fun k j hk hj=>?_⟩) (fun k hk j hj=>?_) (fun k j=>?_)
   ·rw [if_pos ⟨hk,hj⟩,aV]
    exact Nu hblk _ (by rw [hc1,g1];exact hin k j hk hj)
   ·have hj':j<esz:=by rw [<-hlen' k hk];exact hj
    rw [if_pos ⟨hk,hj'⟩]
    have hlt:k*esz+j<(xs.flatMap bV).length:=by rw [g1];exact hin k j hk hj'
    have:=hc2 (k*esz+j) hlt
    have hq:=g2 k hk j hj
    rw [aP hlt] at hq
    injection hq with hq
    rw [hq] at this
    refine (this.mono hbl.size (fun b hS hlt=>⟨hbl.block b hlt,hS⟩)).close ?_
    exact z6x (bE hcl k hk) j hj
   ·by_cases h:k<xs.length/\j<esz
    ·rw [if_pos h]
     exact hc3 _ (by rw [hc1,g1];exact hin k j h.1 h.2)
    ·rw [if_neg h];rfl
def bndA (σ:AS)(d:Nat):Option Operand->Option Int
 |none=>some d
 |some y=>match σ.eval y with|.int _ n=>some n|_=>none
def opdO:Option Operand->Bool
 |none=>true
 |some y=>A5 y
theorem Uw (k:IntKind)(m y:Nat)(c:BoundsCode)(h:m<=y):(Instr.sliceBound (.int k (m:Int)) y c).run P w=.ok m w:=by
 have:(0:Int)<=m/\(m:Int)<=y:=by omega
 simp [Instr.sliceBound,asIntOf,this.1,this.2,pure,h]
variable {x:Operand}{lo hi:Option Operand}
theorem zos {l h:Nat}{e esz:Nat}(ho:o.op=.slice T x lo hi none)(hd:dok cx o=true)(hxo:A5 x=true)(hlo:opdO lo=true)(hhi:opdO hi=true)(hx:σ.eval x=.sl sz xs)(hT:lkT cx.E.tab T=some i)(hs:i.shape=.slc e sz eb)(hz:sz≠0)
  (h1:bndA σ 0 lo=some (l:Int)) (h2:bndA σ xs.length hi=some (h:Int)) (hlh:l<=h) (hh:h<=xs.length):Ag cx o σ (.sl sz ((xs.take h).drop l)) [] [] :=
 Ay hd fun τ γ a w hh1 hh2 hst=>by
  have hev:=hst.ev x hxo
  rw [hh1 x (by simp [ho,Op.operands]),hx] at hev
  obtain ⟨A,c,ex,hc,hlen,cell,hb,hr,h1c⟩:=hev.sl_inv
  obtain ⟨hu,hce,_⟩:=Ce (cx.E.ok T i hT) hs
  have hsz:=Ei hce hz w
  have hbh:∃ hv:Option Value,hi.map a.eval=hv/\(match hv with|some v=>Instr.sliceBound v c .sliceAcap|none=>pure xs.length:Sem Nat).run cx.P w=.ok h w:=by
   refine ⟨_,rfl,?_⟩
   cases hi with
   |none=>simp only [bndA,aB] at h2;have:xs.length=h:=by omega
          simp [this]
   |some y =>
    have he:=hst.ev y hhi
    rw [hh1 y (by simp [ho,Op.operands])] at he
    simp only [bndA] at h2
    cases hy:σ.eval y with
    |int k n =>
     rw [hy] at he h2
     simp only [aB] at h2
     subst h2
     simp only [aU,he.int_inv]
     exact Uw k h c _ (by omega)
    |_=>rw [hy] at h2;simp at h2
  have hbl:(match lo.map a.eval with|some v=>Instr.sliceBound v h .sliceB|none=>pure 0:Sem Nat).run cx.P w=.ok l w:=by
   cases lo with
   |none=>simp only [bndA,aB] at h1;have:l=0:=by omega
          simp [this]
   |some y =>
    have he:=hst.ev y hlo
    rw [hh1 y (by simp [ho,Op.operands])] at he
    simp only [bndA] at h1
    cases hy:σ.eval y with
    |int k n =>
     rw [hy] at he h1
     simp only [aB] at h1
     subst h1
     simp only [aU,he.int_inv]
     exact Uw k l h _ hlh
    |_=>rw [hy] at h1;simp at h1
  obtain ⟨hv,hhv,hrun⟩:=hbh
  have hB:(Instr.sliceBounds true xs.length c (lo.map a.eval) (hi.map a.eval) none).run cx.P w=.ok (l,h,c) w:=by
   rw [hhv]
   unfold Instr.sliceBounds
   cases hv with
   |none =>
    simp only [Sem.run_bind,Sem.run_pure,Result.andThen_ok] at hrun ⊢
    have:xs.length=h:=by simpa using hrun
    subst this
    cases hlo':lo.map a.eval with
    |none=>rw [hlo'] at hbl;simp only [Sem.run_pure,Result.ok.injEq,and_true] at hbl ⊢;simp [hbl]
    |some v=>rw [hlo'] at hbl;simp only [aM,aG,if_false,Sem.run_bind,Sem.run_pure,hbl,Result.andThen_ok]
   |some v =>
    simp only [if_true,Sem.run_bind,Sem.run_pure,Result.andThen_ok,hrun] at hrun ⊢
    cases hlo':lo.map a.eval with
    |none=>rw [hlo'] at hbl;simp only [Sem.run_pure,Result.ok.injEq,and_true] at hbl ⊢;simp [hbl]
    |some v=>rw [hlo'] at hbl;simp only [aM,aG,if_false,Sem.run_bind,Sem.run_pure,hbl,Result.andThen_ok]
  have hlen':((xs.take h).drop l).length=h-l:=by simp;omega
  refine ⟨.slice (if c=l then A else A.map (·.add (l*sz))) (h-l) (c-l),?_,?_⟩
  ·simp only [execOp,ho,ex,Instr.sliceAt,Instr.slice,Sem.run_bind,Sem.run_pure,Result.andThen_ok,run_underlying hu,hB,hsz,bU]
  ·rw [<-hlen']
   refine .sl _ _ (fun k j=>cell (l+k) j) (by omega) (fun k hk=>?_) (fun h0=>?_) (fun k hk j hj=>?_) (fun k j=>h1c _ _)
   ·have hk':l+k<xs.length:=by omega
    simp only [bR,bQ]
    exact hlen _ hk'
   ·obtain ⟨b,off,rfl,hS,hlt,hcell⟩:=hb (by omega)
    refine ⟨b,off+l*sz,?_,hS,hlt,fun k j hk hj=>?_⟩
    ·rw [if_neg (by omega)]
     simp [Addr.add_lit]
    ·have:=hcell (l+k) j (by omega) hj
     rw [show off+l*sz+(k*sz+j)=off+((l+k)*sz+j) by rw [Nat.add_mul];omega]
     exact this
   ·have hk':l+k<xs.length:=by omega
    simp only [bR,bQ] at hj ⊢
    exact hr (l+k) hk' j hj
theorem zld {l h:Nat}{s:ByteArray}(ho:o.op=.slice T x lo hi none)(hd:dok cx o=true)(hxo:A5 x=true)(hlo:opdO lo=true)(hhi:opdO hi=true)(hx:σ.eval x=.str s)(hT:lkT cx.E.tab T=some i)(hs:i.shape=.str)
  (h1:bndA σ 0 lo=some (l:Int)) (h2:bndA σ s.size hi=some (h:Int)) (hlh:l<=h) (hh:h<=s.size):Ag cx o σ (.str (s.extract l h)) [] [] :=
 Ay hd fun τ γ a w hh1 hh2 hst=>by
  have hev:=hst.ev x hxo
  rw [hh1 x (by simp [ho,Op.operands]),hx] at hev
  obtain ⟨d,hdu,he⟩:=(cx.E.ok T i hT).und
  rw [hs] at he
  cases d<;>simp only [Dk,reduceCtorEq] at he
  have hrun:∃ hv:Option Value,hi.map a.eval=hv/\(match hv with|some v=>Instr.sliceBound v s.size .sliceAlen|none=>pure s.size:Sem Nat).run cx.P w=.ok h w:=by
   refine ⟨_,rfl,?_⟩
   cases hi with
   |none=>simp only [bndA,aB] at h2;have:s.size=h:=by omega
          simp [this]
   |some y =>
    have he:=hst.ev y hhi
    rw [hh1 y (by simp [ho,Op.operands])] at he
    simp only [bndA] at h2
    cases hy:σ.eval y with
    |int k n =>
     rw [hy] at he h2
     simp only [aB] at h2
     subst h2
     simp only [aU,he.int_inv]
     exact Uw k h _ _ (by omega)
    |_=>rw [hy] at h2;simp at h2
  have hbl:(match lo.map a.eval with|some v=>Instr.sliceBound v h .sliceB|none=>pure 0:Sem Nat).run cx.P w=.ok l w:=by
   cases lo with
   |none=>simp only [bndA,aB] at h1;have:l=0:=by omega
          simp [this]
   |some y =>
    have he:=hst.ev y hlo
    rw [hh1 y (by simp [ho,Op.operands])] at he
    simp only [bndA] at h1
    cases hy:σ.eval y with
    |int k n =>
     rw [hy] at he h1
     simp only [aB] at h1
     subst h1
     simp only [aU,he.int_inv]
     exact Uw k l h _ hlh
    |_=>rw [hy] at h1;simp at h1
  obtain ⟨hv,hhv,hrun⟩:=hrun
  have hB:(Instr.sliceBounds false s.size s.size (lo.map a.eval) (hi.map a.eval) none).run cx.P w=.ok (l,h,s.size) w:=by
   rw [hhv]
   unfold Instr.sliceBounds
   cases hv with
   |none =>
    simp only [Sem.run_bind,Sem.run_pure,Result.andThen_ok] at hrun ⊢
    have:s.size=h:=by simpa using hrun
    subst this
    cases hlo':lo.map a.eval with
    |none=>rw [hlo'] at hbl;simp only [Sem.run_pure,Result.ok.injEq,and_true] at hbl ⊢;simp [hbl]
    |some v=>rw [hlo'] at hbl;simp only [aM,aG,if_false,Sem.run_bind,Sem.run_pure,hbl,Result.andThen_ok]
   |some v =>
    simp only [aG,if_false,Sem.run_bind,Sem.run_pure,Result.andThen_ok,hrun] at hrun ⊢
    cases hlo':lo.map a.eval with
    |none=>rw [hlo'] at hbl;simp only [Sem.run_pure,Result.ok.injEq,and_true] at hbl ⊢;simp [hbl]
    |some v=>rw [hlo'] at hbl;simp only [aM,aG,if_false,Sem.run_bind,Sem.run_pure,hbl,Result.andThen_ok]
  refine ⟨.string (s.extract l h),?_,.str _⟩
  simp only [execOp,ho,hev.str_inv,Instr.sliceAt,Instr.slice,Sem.run_bind,Sem.run_pure,Result.andThen_ok,run_underlying hdu,hB,bU,aM,aG,if_false]
theorem zwe {k:IntKind}(h:TyOk P T i)(hs:i.shape=.int k):P.underlying T=some (.int k):=by
 obtain ⟨d,hd,he⟩:=h.und
 rw [hs] at he
 cases d<;>simp only [Dk,reduceCtorEq,E3.int.injEq] at he
 subst he
 exact hd
theorem zqo {T':Nat}{j:TyI}{k k':IntKind}{n:Int}(ho:o.op=.convert T T' x)(hd:dok cx o=true)(hxo:A5 x=true)(hx:σ.eval x=.int k n)(hT:lkT cx.E.tab T=some i)(hT':lkT cx.E.tab T'=some j)(hs:j.shape=.int k'):Ag cx o σ (.int k' (k'.wrap n)) [] [] :=
 Ay hd fun τ γ a w h1 h2 hst=>by
  have hev:=hst.ev x hxo
  rw [h1 x (by simp [ho,Op.operands]),hx] at hev
  obtain ⟨d,hdd,_⟩:=(cx.E.ok T i hT).und
  have hu:=zwe (cx.E.ok T' j hT') hs
  refine ⟨.int k' (k'.wrap n),?_,.int _ _⟩
  simp only [execOp,ho,hev.int_inv,convert,Sem.run_bind,Sem.run_pure,Result.andThen_ok,run_underlying hdd,run_underlying hu,Conv.intToInt]
theorem zou {f:FuncId}{ps:Array Operand}{cs:List AV}(ho:o.op=.makeFunc (.func f) #[] ps)(hd:dok cx o=true)(hok:ps.toList.all A5=true)(hc:ps.toList.map σ.eval=cs):Ag cx o σ (.fn f cs) [] [] :=
 Ay hd fun τ γ a w h1 h2 hst=>by
  subst hc
  refine ⟨.func (.func f) #[] (ps.map a.eval),by simp [execOp,ho,Instr.makeFunc,pure],.fn _ (by simp) (fun i hi=>?_)⟩
  have hi':i<ps.size:=by simpa using hi
  have e:(ps.map a.eval).getD i undef=a.eval ps[i]:=by simp [bH,hi']
  rw [e]
  simp only [bB] at hok
  have hev:=hst.ev ps[i] (hok _ (by simp))
  rw [h1 ps[i] (by simp [ho,Op.operands])] at hev
  simpa using hev
end
variable {P:Program}
theorem TyOk.both {T:TypeId}{i:TyI}(h:TyOk P T i):∃ x,P.info? T=some x/\x.size=i.sz/\x.bytes=i.bytes/\x.zero=some i.zero:=by
 have h1:=h.info
 have h2:=h.zero
 cases hq:P.info? T with
 |none=>rw [hq] at h1;simp at h1
 |some x=>rw [hq] at h1 h2;simp at h1 h2;exact ⟨x,rfl,h1.1,h1.2,h2⟩
variable {ty:Nat}{v:Value}{vs:List Value}
theorem zb6 {base T e n m c:Nat}{ie:TyI}{A:Option Addr}{news:List Value}(hu:P.underlying T=some (.slice e))(he:TyOk P e ie)(hsz:ie.sz=sz)(hz:sz≠0)(hzs:ie.zero.cells.size=sz)
  (hown:w.ownsRow base e sz v n vs) (hA:0<m->∃ b off,A=some ⟨b,off,none⟩/\∀ j u,news[j]? = some u->w.cell? ⟨b,off+j,none⟩=some u) (hl:news.length=m*sz) (h1:∀ u∈news,u.oneCell'=true)
  (h63:n+m<=maxLen) (hby:(n+m)*ie.bytes<=140737488355328) (hbase:base<=w.heap.size) :
  ∃ v' w',(Builtin.append_ #[T,T] ty #[v,.slice A m c]).run P w=.ok v' w'/\w'.ownsRow base e sz v' (n+m) (vs++news)/\w.grownBy w' v.ownBlock/\(v'.ownBlock=v.ownBlock\/v'.ownBlock=some w.heap.size):=by
 obtain ⟨i,hi,hi1,hi2,hi3⟩:=he.both
 rcases Nat.eq_zero_or_pos m with h0|h0
 ·subst h0
  have hn:news=[]:=bN.1 (by rw [hl];simp)
  subst hn
  refine ⟨v,w,?_,by simpa using hown,World.grownBy.refl w _,.inl rfl⟩
  have hf:(Builtin.firstCells i.size 0 (.slice A 0 c)).run P w=.ok #[] w:=by
   cases A<;>simp [Builtin.firstCells,loadCells,loadCellsFrom,pure]
  rcases hown.2 with ⟨rfl,h0⟩|⟨g,cap,cur,rfl,_,_,hnc,_⟩
  ·simp [Builtin.append_,run_underlying hu,Go.sizeOf,typeInfo,hi,Builtin.lenOf,hf]
  ·simp [Builtin.append_,run_underlying hu,Go.sizeOf,typeInfo,hi,Builtin.lenOf,hf,hnc,storeCells]
 ·obtain ⟨b,off,rfl,hcell⟩:=hA h0
  obtain ⟨v',w',hrun,q1,q2,_,q3⟩:=run_append_own_at (P:=P) w base T ty e i ie.zero sz ie.bytes hu hi hi3 (hi1.trans hsz) hi2 hzs (by omega) v n vs hown ⟨b,off,none⟩ m c news hl (fun j u hj=>by rw [Addr.add_lit];exact hcell j u hj) h1 h63 hby hbase
  exact ⟨v',w',hrun,q1,q2,q3⟩
theorem Db {base e n:Nat}(h:w.ownsRow base e sz v n vs):v.oneCell'=true:=by
 rcases h.2 with ⟨rfl,_⟩|⟨g,cap,cur,rfl,_⟩<;>rfl
def Vb:Option Nat->List (Nat×Ent)
 |none=>[]
 |some id=>[(id,.dead)]
section
variable {cx:Cx} {o:Oper} {σ:AS}
theorem zfb {T d e eb:Nat}{x y:Operand}{i ie:TyI}{ys:List AV}{oid:Option Nat}(ho:o.op=.call { callee:=.builtin .append,args:=#[x,y],argTypes:=#[T,T] })(hdst:o.dst=some d)(hd:dok cx o=true)(hxo:A5 x=true)(hyo:A5 y=true)
  (hT:lkT cx.E.tab T=some i) (hs:i.shape=.slc e sz eb) (he:lkT cx.E.tab e=some ie) (hsz:ie.sz=sz) (hz:sz≠0) (hzs:ie.zero.cells.size=sz)
  (hx:(σ.eval x=.nils/\oid=none/\xs=[])\/∃ id,σ.eval x=.row id/\oid=some id/\id≠d/\σ.find id=some (.row e sz xs)) (hy:σ.eval y=.sl sz ys\/(σ.eval y=.nils/\ys=[])) (hn:σ.find d=none)
  (h63:xs.length+ys.length<=1099511627776) (hby:(xs.length+ys.length)*ie.bytes<=140737488355328)
  (hdr0:cx.E.dr=false):Ag cx o σ (.row d) (d::oid.toList) ((d,.row e sz (xs++ys))::Vb oid):=by
 have hdead:∀ id,lkE (Vb oid) id=if oid=some id then some .dead else none:=fun id=>by
  cases oid with
  |none=>simp [Vb,lkE]
  |some j =>
   simp only [Vb,lkE,aB]
   by_cases h:j=id
   ·subst h;simp
   ·rw [if_neg h]
    cases hb:bL j id with
    |true=>exact absurd (aE hb) h
    |false=>rfl
 have hwr:∀ id,lkE ((d,Ent.row e sz (xs++ys))::Vb oid) id=if d=id then some (.row e sz (xs++ys)) else if oid=some id then some .dead else none:=fun id=>by
  simp only [lkE]
  by_cases h:d=id
  ·subst h;simp
  ·rw [if_neg h,<-hdead]
   cases hb:bL d id with
   |true=>exact absurd (aE hb) h
   |false=>rfl
 refine ⟨fun id e' he'=>?_,fun τ h1 h2 a w Q K ⟨γ,hst⟩ hK=>Bu (fun c hc=>by rw [ho] at hc;cases hc) ?_⟩
 ·rw [hwr] at he'
  by_cases h:d=id
  ·simp [h]
  ·rw [if_neg h] at he'
   by_cases h':oid=some id
   ·simp [h']
   ·rw [if_neg h'] at he';cases he'
 have hevx:=hst.ev x hxo
 rw [h1 x (by simp [ho,Op.operands,Call.operands])] at hevx
 have hevy:=hst.ev y hyo
 rw [h1 y (by simp [ho,Op.operands,Call.operands])] at hevy
 obtain ⟨hu,hce,_⟩:=Ce (cx.E.ok T i hT) hs
 have hγd:γ d=none:=by have:=hst.me d;rw [h2 d (by simp),hn] at this;exact this
 have hsize:=hst.below.size
 -- the row that is appended to
 have hX:∃ vs:List Value,w.ownsRow cx.w0.heap.size e sz (a.eval x) xs.length vs/\(∀ k (hk:k<xs.length),(xs[k]).cells.length=sz)/\(∀ k (hk:k<xs.length) j (hj:j<(xs[k]).cells.length),Rep w (Sg cx.S0 cx.w0.heap.size γ) G0 ((xs[k]).cells[j]) (vs.getD (k*sz+j) undef))/\(∀ u∈vs,u.oneCell'=true) /\
   (∀ g,(a.eval x).ownBlock=some g->∃ id s,oid=some id/\γ id=some (some (some g,s))):=by
  rcases hx with ⟨hx,rfl,rfl⟩|⟨id,hx,rfl,hne,hl⟩
  ·rw [hx] at hevx
   rw [hevx.nils_inv]
   exact ⟨[],World.ownsRow_nil w _ _ _,fun k hk=>absurd hk (by simp),fun k hk=>absurd hk (by simp),fun u hu=>absurd hu (by simp),fun g hg=>by simp [Value.ownBlock] at hg⟩
  ·rw [hx] at hevx
   have hme:=hst.me id
   rw [h2 id (by simp),hl] at hme
   obtain ⟨dd,hd',s,vs,hde,_,hown,hlen,hr,hone⟩:=hme
   subst hde
   have ex:=hevx.row_inv hd'
   rw [ex]
   exact ⟨vs,hown,hlen,hr,hone,fun g hg=>⟨id,s,rfl,by rw [hd',hg]⟩⟩
 obtain ⟨vs,hown,hlenx,hrx,honex,hblock⟩:=hX
 -- what is appended
 have hY:∃ (A:Option Addr) (c:Nat) (news:List Value),a.eval y=.slice A ys.length c/\news.length=ys.length*sz/\(0<ys.length->∃ b off,A=some ⟨b,off,none⟩/\∀ j u,news[j]? = some u->w.cell? ⟨b,off+j,none⟩=some u)/\(∀ u∈news,u.oneCell'=true) /\
   (∀ k (hk:k<ys.length),(ys[k]).cells.length=sz)/\(∀ k (hk:k<ys.length) j (hj:j<(ys[k]).cells.length),Rep w (Sg cx.S0 cx.w0.heap.size γ) G0 ((ys[k]).cells[j]) (news.getD (k*sz+j) undef)):=by
  rcases hy with hy|⟨hy,rfl⟩
  ·rw [hy] at hevy
   obtain ⟨A,c,ey,hc,hlen,cell,hb,hr,h1c⟩:=hevy.sl_inv
   refine ⟨A,c,(range (ys.length*sz)).map (fun q=>cell (q / sz) (q % sz)),ey,by simp,fun h0=>?_,fun u hu=>?_,hlen,fun k hk j hj=>?_⟩
   ·obtain ⟨b,off,rfl,hS,hlt,hcell⟩:=hb h0
    refine ⟨b,off,rfl,fun j u hj=>?_⟩
    obtain ⟨hj1,hj2⟩:=List.getElem?_eq_some_iff.1 hj
    simp only [length_map,length_range] at hj1
    simp only [aO,getElem_range] at hj2
    have hq:j / sz<ys.length:=(Nat.div_lt_iff_lt_mul (by omega)).2 hj1
    have hm:j % sz<sz:=Nat.mod_lt _ (by omega)
    have:=hcell (j / sz) (j % sz) hq hm
    rw [show j / sz*sz+j % sz=j by rw [bP];exact Nat.div_add_mod j sz] at this
    rw [this,hj2]
   ·obtain ⟨q,_,rfl⟩:=bS.1 hu
    exact h1c _ _
   ·have hj':j<sz:=by rw [<-hlen k hk];exact hj
    have hlt:k*sz+j<ys.length*sz:=by
     have:(k+1)*sz<=ys.length*sz:=aD _ hk
     rw [aK] at this
     omega
    have hq:(k*sz+j) / sz=k:=by rw [bP,Nat.mul_add_div (by omega),Nat.div_eq_of_lt hj',bY]
    have hmod:(k*sz+j) % sz=j:=by rw [bP,Nat.mul_add_mod,Nat.mod_eq_of_lt hj']
    have:((range (ys.length*sz)).map (fun q=>cell (q / sz) (q % sz))).getD (k*sz+j) undef=cell k j:=by
     rw [aC,getElem?_map,getElem?_range hlt]
     simp [hq,hmod]
    rw [this]
    exact hr k hk j hj
  ·rw [hy] at hevy
   exact ⟨none,0,[],hevy.nils_inv,by simp,fun h=>absurd h (by simp),fun u hu=>absurd hu (by simp),fun k hk=>absurd hk (by simp),fun k hk=>absurd hk (by simp)⟩
 obtain ⟨A,c,news,ey,hnl,hA,hone2,hleny,hry⟩:=hY
 obtain ⟨v',w',hrun,q1,q2,q3⟩:=zb6 (P:=cx.P) (c:=c) (ty:=o.type) hu (cx.E.ok e ie he) hsz hz hzs hown hA hnl hone2 (by simp only [maxLen];omega) hby hsize
 have hex:(execOp a.eval o).run cx.P w=.ok (.value v') w':=by
  simp only [execOp,ho,resolve,invoke,builtin,Sem.run_bind,Sem.run_pure,Result.andThen_ok,map_toArray,map_cons,map_nil,ey,hrun]
 unfold Oper.wp
 rw [hex]
 have hv1:v'.oneCell'=true:=Db q1
 let γ':Gam:=fun id=>if d=id then some (some (v'.ownBlock,v')) else if oid=some id then some none else γ id
 have hγ'd:γ' d=some (some (v'.ownBlock,v')):=if_pos rfl
 have hγ'o:∀ id,d≠id->oid≠some id->γ' id=γ id:=fun id h1 h2=>by show (if d=id then _ else if oid=some id then _ else γ id)=γ id;rw [if_neg h1,if_neg h2]
 have hγ'x:∀ id,d≠id->oid=some id->γ' id=some none:=fun id h1 h2=>by show (if d=id then _ else if oid=some id then _ else γ id)=some none;rw [if_neg h1,if_pos h2]
 have hown':∀ b,own γ' b->v'.ownBlock=some b\/own γ b:=fun b ⟨id,dd,hi,hm⟩=>by
  by_cases h:d=id
  ·subst h;rw [hγ'd] at hi;injection hi with hi;subst hi;exact aR (Fq (Fp hv1) hm)
  ·by_cases h':oid=some id
   ·rw [hγ'x id h h'] at hi;injection hi with hi;subst hi;simp [blks] at hm
   ·rw [hγ'o id h h'] at hi;exact aL ⟨id,dd,hi,hm⟩
 have hvb:∀ b,v'.ownBlock=some b->(own γ b/\(a.eval x).ownBlock=some b)\/b=w.heap.size:=fun b hb=>by
  rcases q3 with q3|q3
  ·rw [q3] at hb
   obtain ⟨id,s,_,hi⟩:=hblock b hb
   exact aR ⟨own.mk hi,hb⟩
  ·rw [q3] at hb;injection hb with hb;exact aL hb.symm
 have hk:∀ b,Sg cx.S0 cx.w0.heap.size γ b->b<w.heap.size->w'.heap[b]? = w.heap[b]? /\ Sg cx.S0 cx.w0.heap.size γ' b:=fun b hS hlt=>by
  have hno:¬own γ b:=by
   rcases hS with ⟨_,h⟩|⟨_,h⟩
   ·intro hb;have:=(hst.ge b hb).1.1;omega
   ·exact h
  refine ⟨q2.block b hlt (fun e=>?_),?_⟩
  ·obtain ⟨id,s,_,hi⟩:=hblock b e.symm
   exact hno (own.mk hi)
  ·rcases hS with hS|⟨hB,_⟩
   ·exact aR hS
   ·refine aL ⟨hB,fun ho'=>?_⟩
    rcases hown' b ho' with h|h
    ·rcases hvb b h with ⟨h,_⟩|h
     ·exact hno h
     ·omega
    ·exact hno h
 have hmv:∀ {av v},Rep w (Sg cx.S0 cx.w0.heap.size γ) G0 av v->Rep w' (Sg cx.S0 cx.w0.heap.size γ') G0 av v:=fun h=>h.mono q2.size hk
 refine hK _ _ ⟨γ',?_⟩
 rw [hdst]
 refine hst.step (γ':=γ') (fun x hx=>by injection hx with hx;subst hx;exact Bm hd _ hdst) q2.size hk (fun id x hid=>?_) (fun id hid=>?_) (fun id e' hid=>?_) (fun id id' b d1 d2 hi hi' m1 m2=>?_) (fun b hb=>?_) ?_ (.row hγ'd (fun g s e _=>by injection e with e;injection e with e e2)) (fun b hno hlt=>⟨q2.block b hlt (fun e=>by obtain ⟨id,s,_,hi⟩:=hblock b e.symm;exact hno (own.mk hi)),fun ho'=>by
  rcases hown' b ho' with h|h
  ·rcases hvb b h with ⟨h,_⟩|h
   ·exact hno h
   ·omega
  ·exact hno h⟩) (fun h=>absurd (hdr0.symm.trans h) (by simp))
 ·by_cases h:d=id
  ·subst h;rw [hγd] at hid;cases hid
  ·by_cases h':oid=some id
   ·exact aL (aR (hγ'x id h h'))
   ·exact aR (by rw [hγ'o id h h'];exact hid)
 ·rw [hwr] at hid
  by_cases h:d=id
  ·rw [if_pos h] at hid;cases hid
  ·rw [if_neg h] at hid
   by_cases h':oid=some id
   ·rw [if_pos h'] at hid;cases hid
   ·refine ⟨hγ'o id h h',fun g dd hg hm=>q2.block g (hst.ge g ⟨id,dd,hg,hm⟩).2 (fun e=>?_)⟩
    obtain ⟨id0,s0,h0,hi0⟩:=hblock g e.symm
    have:=hst.inj _ _ _ _ _ hg hi0 hm Bh
    subst this
    exact h' h0
 ·rw [hwr] at hid
  by_cases h:d=id
  ·subst h
   rw [if_pos rfl] at hid
   injection hid with hid
   subst hid
   refine ⟨_,hγ'd,v',vs++news,rfl,hv1,by rw [bM];exact q1,fun k hk=>?_,fun k hk j hj=>?_,fun u hu=>(mem_append.1 hu).elim (honex u) (hone2 u)⟩
   ·rw [getElem_append]
    split
    ·exact hlenx k _
    ·exact hleny _ _
   ·rw [bM] at hk
    have hvl:vs.length=xs.length*sz:=hown.1
    by_cases hkx:k<xs.length
    ·simp only [aJ hkx] at hj ⊢
     have hj':j<sz:=by rw [<-hlenx k hkx];exact hj
     have hlt:k*sz+j<vs.length:=by
      have:(k+1)*sz<=xs.length*sz:=aD _ hkx
      rw [aK] at this
      omega
     rw [aC,bK hlt,<-aC]
     exact hmv (hrx k hkx j hj)
    ·have hkx':xs.length<=k:=by omega
     simp only [aN hkx'] at hj ⊢
     have hlt:vs.length<=k*sz+j:=by
      have:xs.length*sz<=k*sz:=aD _ hkx'
      omega
     rw [aC,bJ hlt,<-aC]
     rw [show k*sz+j-vs.length=(k-xs.length)*sz+j by
      rw [hvl,Nat.sub_mul]
      have:xs.length*sz<=k*sz:=aD _ hkx'
      omega]
     exact hmv (hry (k-xs.length) (by omega) j hj)
  ·rw [if_neg h] at hid
   by_cases h':oid=some id
   ·rw [if_pos h'] at hid
    injection hid with hid
    subst hid
    exact ⟨none,hγ'x id h h',rfl⟩
   ·rw [if_neg h'] at hid;cases hid
 ·have key:∀ id id' b d1 d2,d=id->d≠id'->γ' id=some d1->γ' id'=some d2->b∈blks d1->b∈blks d2->False:=fun id id' b d1 d2 h h' hi hi' m1 m2=>by
   subst h
   rw [hγ'd] at hi
   injection hi with hi
   subst hi
   have hi:=Fq (Fp hv1) m1
   by_cases ho':oid=some id'
   ·rw [hγ'x id' h' ho'] at hi';injection hi' with hi';subst hi';simp [blks] at m2
   ·rw [hγ'o id' h' ho'] at hi'
    rcases hvb b hi with ⟨_,hb⟩|hb
    ·obtain ⟨id0,s0,h0,hi0⟩:=hblock b hb
     have:=hst.inj _ _ _ _ _ hi' hi0 m2 Bh
     subst this
     exact ho' h0
    ·have:=(hst.ge b ⟨id',d2,hi',m2⟩).2
     omega
  by_cases h:d=id
  ·by_cases h':d=id'
   ·rw [<-h,<-h']
   ·exact (key id id' b d1 d2 h h' hi hi' m1 m2).elim
  ·by_cases h':d=id'
   ·exact (key id' id b d2 d1 h' h hi' hi m2 m1).elim
   ·by_cases ho1:oid=some id
    ·rw [hγ'x id h ho1] at hi;injection hi with hi;subst hi;simp [blks] at m1
    ·by_cases ho2:oid=some id'
     ·rw [hγ'x id' h' ho2] at hi';injection hi' with hi';subst hi';simp [blks] at m2
     ·rw [hγ'o id h ho1] at hi
      rw [hγ'o id' h' ho2] at hi'
      exact hst.inj _ _ _ _ _ hi hi' m1 m2
 ·rcases hown' b hb with h|h
  ·rcases hvb b h with ⟨h,_⟩|h'
   ·exact ⟨(hst.ge b h).1,aY (hst.ge b h).2 q2.size⟩
   ·refine ⟨⟨by omega,fun h0=>by have:=hst.gh _ h0;omega⟩,?_⟩
    rcases q1.2 with ⟨hv,_⟩|⟨g,cap,cur,hv,_,hh,_⟩
    ·rw [hv] at h;simp [Value.ownBlock] at h
    ·rw [hv] at h;simp only [Value.ownBlock,aB] at h;subst h
     exact (aH.1 hh).1
  ·exact ⟨(hst.ge b h).1,aY (hst.ge b h).2 q2.size⟩
 ·refine hst.below.trans ⟨q2.os,q2.tape,q2.output,q2.size,fun k hk=>q2.block k (by omega) (fun e=>?_)⟩
  obtain ⟨id,s,_,hi⟩:=hblock k e.symm
  have:=(hst.ge k (own.mk hi)).1.1
  omega
end
def C6 (E:Env)(f:FuncId):Prop:=∀ args w,(callFunc f args).run E.P w=.ok (.enter f args) w
def Args (w:World)(S:Nat->Prop)(args:List AV)(vs:Array Value):Prop:=vs.size=args.length/\∀ i (hi:i<args.length),Rep w S G0 args[i] (vs.getD i undef)
def BelE (E:Env)(w w':World):Prop:=Below w.heap.size w w'/\(E.dr=true->w.drawn<=w'.drawn)
def Con (E:Env)(fr:Bool)(f:FuncId)(args:List AV)(res:AV):Prop :=
 C6 E f/\∀ (S:Nat->Prop) (w:World) (vs:Array Value),Args w S args vs->Calls E.P f vs w fun e w'=>∃ v,e=.returned v/\BelE E w w'/\Rep w' (fun b=>(fr=false/\S b)\/w.heap.size<=b) G0 res v
def Fu (E:Env)(f:FuncId)(args:List AV)(ty sz:Nat)(xs:List AV):Prop :=
 C6 E f/\∀ (S:Nat->Prop) (w:World) (vs:Array Value),Args w S args vs->Calls E.P f vs w fun e w'=>∃ v us,e=.returned v/\Below w.heap.size w w'/\w'.ownsRow w.heap.size ty sz v xs.length us /\
  (∀ k (hk:k<xs.length),(xs[k]).cells.length=sz)/\(∀ k (hk:k<xs.length) j (hj:j<(xs[k]).cells.length),Rep w' (fun b=>(S b\/w.heap.size<=b)/\v.ownBlock≠some b) G0 ((xs[k]).cells[j]) (us.getD (k*sz+j) undef))/\∀ u∈us,u.oneCell'=true
mutual
def AV.flat:AV->Bool
 |.ptr _ _=>false
 |.row _=>false
 |.elt _ _ _ _=>false
 |.sl _ _=>false
 |.ref _=>false
 |.der _ _=>false
 |.cont _ _=>false
 |.mapv _=>false
 |.fn _ cap=>AV.flatL cap
 |.yld _ _ cap=>AV.flatL cap
 |.agg cs=>AV.flatL cs
 |.tup cs=>AV.flatL cs
 |_=>true
def AV.flatL:List AV->Bool
 |[]=>true
 |x::r=>x.flat && AV.flatL r
end
theorem AV.flatL_at {l:List AV}(h:AV.flatL l=true)(i:Nat)(hi:i<l.length):l[i].flat=true:=by
 induction l generalizing i with
 |nil=>simp at hi
 |cons x r ih =>
  simp only [AV.flatL,bF] at h
  cases i with
  |zero=>exact h.1
  |succ i=>exact ih h.2 i (by simpa using hi)
variable {S':Nat->Prop}
theorem Rep.flat {w':World}{γ':Gam}{av:AV}(h:Rep w S γ av v)(hf:av.flat=true):Rep w' S' γ' av v:=by
 induction h with
 |any=>exact .any _
 |int=>exact .int _ _
 |bool=>exact .bool _
 |str=>exact .str _
 |nilp=>exact .nilp
 |ptr h hv=>simp [AV.flat] at hf
 |elt h hv=>simp [AV.flat] at hf
 |der h hv=>simp [AV.flat] at hf
 |cont h hv hl=>simp [AV.flat] at hf
 |mapv ps0 hp g es clock hb hS hg hh hl hk hv ih1 ih2=>simp [AV.flat] at hf
 |mapn=>simp [AV.flat] at hf
 |slen A n c=>exact .slen A n c
 |nils=>exact .nils
 |sl A c cell hc hlen hb hr h1 ih=>simp [AV.flat] at hf
 |row h hv=>simp [AV.flat] at hf
 |fn vs hl hr ih=>simp only [AV.flat] at hf;exact .fn vs hl (fun i hi=>ih i hi (AV.flatL_at hf i hi))
 |yld hr ih=>simp only [AV.flat] at hf;exact .yld (fun i hi=>ih i hi (AV.flatL_at hf i hi))
 |nilf=>exact .nilf
 |agg vs hl hr h1 ih=>simp only [AV.flat] at hf;exact .agg vs hl (fun i hi=>ih i hi (AV.flatL_at hf i hi)) h1
 |tup vs hl hr ih=>simp only [AV.flat] at hf;exact .tup vs hl (fun i hi=>ih i hi (AV.flatL_at hf i hi))
 |ref b off cell hS hb hc hr h1 ih=>simp [AV.flat] at hf
section
variable {w:World} {S:Nat->Prop} {γ:Gam} {B:Nat}
theorem H0 {d:Option (Option Nat×Value)}(h:B6 w S γ B d (.row ty sz xs))(hS:∀ b,S b->b<w.heap.size->S' b)(hb:∀ s g,d=some (some g,s)->S' g)(γ':Gam):∃ s,d=some (s.ownBlock,s)/\Rep w S' γ' (.sl sz xs) s:=by
 obtain ⟨s,vs,hd,h1,hown,hlen,hr,hone⟩:=h
 refine ⟨s,hd,?_⟩
 have hcell:∀ k j,((fun k j=>if k<xs.length/\j<sz then vs.getD (k*sz+j) undef else Value.bool true) k j).oneCell'=true:=fun k j=>by
  by_cases h:k<xs.length/\j<sz
  ·simp only [if_pos h]
   have hlt:k*sz+j<vs.length:=by
    rw [hown.1]
    have:(k+1)*sz<=xs.length*sz:=aD _ h.1
    rw [aK] at this
    omega
   rw [aC,aP hlt]
   exact hone _ (aQ hlt)
  ·simp only [if_neg h];rfl
 have hrr:∀ k (hk:k<xs.length) j (hj:j<(xs[k]).cells.length),Rep w S' G0 ((xs[k]).cells[j]) ((fun k j=>if k<xs.length/\j<sz then vs.getD (k*sz+j) undef else Value.bool true) k j):=fun k hk j hj=>by
  simp only [if_pos (show k<xs.length/\j<sz from ⟨hk,by rw [<-hlen k hk];exact hj⟩)]
  exact (hr k hk j hj).mono (aF _) (fun b hS' hlt=>⟨rfl,hS b hS' hlt⟩)
 have hgc:∀ g,s.ownBlock=some g->∀ k j,k<xs.length->j<sz->w.cell? ⟨g,k*sz+j,none⟩=some ((fun k j=>if k<xs.length/\j<sz then vs.getD (k*sz+j) undef else Value.bool true) k j):=fun g hg k j hk hj=>by
  simp only [if_pos (show k<xs.length/\j<sz from ⟨hk,hj⟩)]
  refine Ro hown hg _ ?_
  have:(k+1)*sz<=xs.length*sz:=aD _ hk
  rw [aK] at this
  omega
 rcases hown.2 with ⟨rfl,h0⟩|⟨g,cap,cur,rfl,hbg,hh,hn,hm,hs,ht⟩
 ·have hx:xs=[]:=bN.1 h0
  subst hx
  exact .sl none 0 _ (aF _) hlen (fun h=>absurd h (by simp)) hrr hcell
 ·refine .sl _ cap _ hn hlen (fun _=>⟨g,0,rfl,hb _ g (by rw [hd];rfl),(aH.1 hh).1,fun k j hk hj=>?_⟩) hrr hcell
  rw [aV]
  exact hgc g rfl k j hk hj
end
theorem zxh {g:Nat}{ps:List (AV×AV)}(h:D4 w S g ps)(hg:S' g)(hS:∀ b,S b->b<w.heap.size->S' b)(γ:Gam):Rep w S' γ (.mapv ps) (.map (some g)):=by
 obtain ⟨es,clock,h1,h2,hbn,h3⟩:=h
 exact .mapv ps (.inl rfl) g es clock hbn hg (aH.1 h1).1 h1 h2 (fun j q q'=>(h3 j q q').1.mono (aF _) (fun b hb hl=>⟨rfl,hS b hb hl⟩)) (fun j q q'=>(h3 j q q').2.mono (aF _) (fun b hb hl=>⟨rfl,hS b hb hl⟩))
def obA:NE->AV
 |.row _ sz xs=>.sl sz xs
 |_=>.any
def arA (os:List NE):Option Nat->AV
 |none=>.any
 |some j=>obA (os.getD j .hole)
theorem zxi {s:Value}{b:Nat}{vs:Array Value}(h:Az s=some b\/∃ j,Az (vs.getD j undef)=some b):b∈blks (some (none,.agg (#[s]++vs))):=by
 simp only [blks,Option.toList_none,nil_append,Ca,Array.toList_append,filterMap_append,mem_append]
 rcases h with h|⟨j,h⟩
 ·left;exact mem_filterMap.2 ⟨s,by simp,h⟩
 ·right
  by_cases hj:j<vs.size
  ·refine mem_filterMap.2 ⟨vs[j],by simp,?_⟩
   simpa [bH,hj] using h
  ·simp [bH,hj,undef,Az] at h
def El (σ:AS):AV->AV
 |.row id=>match σ.find id with|some (.row _ sz xs)=>.sl sz xs|some (.mp ps)=>.mapv ps|_=>.any
 |.ptr _ _=>.any
 |.elt _ _ _ _=>.any
 |.der _ _=>.any
 |.cont _ id=>match σ.find id with|some (.are _ idx os)=>.sl 1 (idx.map (arA os))|_=>.any
 |.agg _=>.any
 |.tup _=>.any
 |.fn f cap=>match aS cap with|true=>.fn f cap|false=>.any
 |.yld l T cap=>match aS cap with|true=>.yld l T cap|false=>.any
 |x=>x
def Oc (σ:AS):AV->AV
 |.ptr id off=>match σ.find id with|some (.box _ cs)=>.ref ((cs.map (El σ)).drop off)|_=>.any
 |.agg cs=>.agg (cs.map (El σ))
 |.fn f cap=>.fn f (cap.map fun x=>match x with
   |.ptr id off=>match σ.find id with|some (.box _ cs)=>.ref ((cs.map (El σ)).drop off)|_=>.any
   |x=>El σ x)
 |x=>El σ x
def ids1:AV->List Nat
 |.row id=>[id]
 |.cont _ id=>[id]
 |_=>[]
def ids2 (σ:AS):AV->List Nat
 |.ptr id _=>id::(match σ.find id with|some (.box _ cs)=>cs.flatMap ids1|_=>[])
 |.agg cs=>cs.flatMap ids1
 |.fn _ cap=>cap.flatMap fun x=>match x with
   |.ptr id _=>id::(match σ.find id with|some (.box _ cs)=>cs.flatMap ids1|_=>[])
   |x=>ids1 x
 |x=>ids1 x
section
variable {cx:Cx} {σ τ:AS} {γ:Gam} {a:Act} {w:World} {S':Nat->Prop}
theorem Xj (hst:StG cx γ τ a w)(hS':∀ b,Sg cx.S0 cx.w0.heap.size γ b\/own γ b->S' b){av:AV}(h:Rep w (Sg cx.S0 cx.w0.heap.size γ) γ av v)(hids:∀ id∈ids1 av,τ.find id=σ.find id):Rep w S' G0 (El σ av) v:=by
 have cl:av.closed=true->Rep w S' G0 av v:=fun hc=>(h.close hc).mono (aF _) (fun b hb _=>⟨rfl,hS' b (aR hb)⟩)
 cases av with
 |row id =>
  simp only [El]
  have hf:=hids id (by simp [ids1])
  have hme:=hst.me id
  cases hq:σ.find id with
  |none=>exact .any _
  |some e =>
   cases e with
   |row ty sz xs =>
    rw [hf,hq] at hme
    obtain ⟨d,hd,he⟩:=hme
    obtain ⟨s,hs,hr⟩:=H0 (S':=S') he (fun b hb _=>hS' b (aR hb)) (fun s g hg=>hS' g (aL (own.mk (id:=id) (s:=s) (by rw [hd,hg])))) G0
    subst hs
    rw [h.row_inv hd]
    exact hr
   |mp ps =>
    rw [hf,hq] at hme
    obtain ⟨d,hd,g,hde,hm⟩:=hme
    subst hde
    rw [h.row_inv hd]
    exact zxh hm (hS' g (aL (own.mk hd))) (fun b hb _=>hS' b (aR hb)) G0
   |_=>exact .any _
 |fn f cap =>
  simp only [El]
  cases hc:aS cap with
  |true=>exact cl (by simp only [bW];exact hc)
  |false=>exact .any _
 |yld l T cap =>
  simp only [El]
  cases hc:aS cap with
  |true=>exact cl (by simp only [bW];exact hc)
  |false=>exact .any _
 |ptr=>exact .any _
 |elt=>exact .any _
 |der=>exact .any _
 |cont n id =>
  simp only [El]
  have hf:=hids id (by simp [ids1])
  have hme:=hst.me id
  cases hq:σ.find id with
  |none=>exact .any _
  |some e =>
   cases e with
   |are ty idx os =>
    rw [hf,hq] at hme
    obtain ⟨d,hd,s,vs,us,hde,hs1,hsz,hown,hone,hix,hnn,hdb⟩:=hme
    subst hde
    have hvs:v=s:=by
     cases h with
     |cont h0 hv hl =>
      rw [hd] at h0
      injection h0 with h0
      have e:=hv none _ h0.symm
      rw [e]
      simp [Dv.of,aA,aZ]
    subst hvs
    have hob:∀ b,(Az v=some b\/∃ j,Az (vs.getD j undef)=some b)->S' b:=fun b hb=>hS' b (aL ⟨id,_,hd,zxi hb⟩)
    have hbo:∀ {B ty sz n:Nat} {s:Value} {vs:List Value},w.ownsRow B ty sz s n vs->s.ownBlock=Az s:=fun h=>by
     rcases h.2 with ⟨rfl,_⟩|⟨g,cap,cur,rfl,_⟩<;>rfl
    have hc1:∀ i:Option Nat,(arA os i).cells=[arA os i]:=fun i=>by
     cases i with
     |none=>rfl
     |some j=>exact (fun (e:NE)=>(by cases e<;>rfl:(obA e).cells=[obA e])) (os.getD j .hole)
    have hel:∀ k (hk:k<idx.length),Rep w S' G0 (arA os idx[k]) (us.getD k undef):=fun k hk=>by
     obtain ⟨q1,q2⟩:=hix k hk
     cases hc:idx[k] with
     |none=>exact .any _
     |some j =>
      obtain ⟨q3,q4⟩:=q2 j hc
      rw [q4]
      have h2:=(hnn j q3).2
      have e:os.getD j .hole=os[j]:=by rw [aC,aP q3];rfl
      show Rep w S' G0 (obA (os.getD j .hole)) _
      rw [e]
      cases hoj:os[j] with
      |row ety sz xs =>
       rw [hoj] at h2
       obtain ⟨p1,us',p2,p3,p4,p5⟩:=h2
       obtain ⟨s',hs1',hs2'⟩:=H0 (w:=w) (S:=Sg cx.S0 cx.w0.heap.size γ) (γ:=γ) (S':=S') (d:=some ((vs.getD j undef).ownBlock,vs.getD j undef)) ⟨_,us',rfl,p1,p2,p3,p4,p5⟩ (fun b hb _=>hS' b (aR hb)) (fun s g' e=>by
        injection e with e
        injection e with e1 e2
        rw [hbo p2] at e1
        exact hob g' (aL ⟨j,e1⟩)) G0
       injection hs1' with hs1'
       injection hs1' with _ hs1'
       rw [hs1']
       exact hs2'
      |_=>exact .any _
    obtain ⟨s0,hs0,hr0⟩:=H0 (w:=w) (S:=S') (γ:=γ) (S':=S') (B:=cx.w0.heap.size) (ty:=ty) (sz:=1) (xs:=idx.map (arA os)) (d:=some (v.ownBlock,v)) ⟨v,us,rfl,hs1,by rw [length_map];exact hown,fun k hk=>by rw [aO,hc1];rfl,fun k hk j hj=>by
      have hk':k<idx.length:=by simpa using hk
      have hj0:j=0:=by
       have:j<1:=by simpa [hc1] using hj
       omega
      subst hj0
      simp only [aO,hc1,bD,Nat.mul_one,bY]
      exact hel k hk',hone⟩ (fun b hb _=>hb) (fun s g' e=>by
      injection e with e
      injection e with e1 e2
      rw [hbo hown] at e1
      exact hob g' (aR e1)) G0
    injection hs0 with hs0
    injection hs0 with _ hs0
    rw [hs0]
    exact hr0
   |_=>exact .any _
 |agg=>exact .any _
 |tup=>exact .any _
 |_=>exact cl rfl
theorem zkc (hst:StG cx γ τ a w)(hS':∀ b,Sg cx.S0 cx.w0.heap.size γ b\/own γ b->S' b){id off:Nat}(h:Rep w (Sg cx.S0 cx.w0.heap.size γ) γ (.ptr id off) v)(hids:∀ i∈(id::(match σ.find id with|some (.box _ cs)=>cs.flatMap ids1|_=>[])),τ.find i=σ.find i) :
  Rep w S' G0 (match σ.find id with|some (.box _ cs)=>.ref ((cs.map (El σ)).drop off)|_=>.any) v:=by
 have hf:=hids id (by simp)
 have hme:=hst.me id
 cases hq:σ.find id with
 |none=>exact .any _
 |some e =>
  cases e with
  |box ty cs =>
   rw [hf,hq] at hme
   obtain ⟨d,hd,g,vs,hde,hb,hsz,hr,hone⟩:=hme
   subst hde
   rw [h.ptr_inv hd]
   have:=zaa (w:=w) (S:=S') (γ:=G0) (cs:=cs.map (El σ)) (b:=g) (off:=0) (k:=off) (cell:=fun j=>vs.getD j undef) (hS' g (aL (own.mk hd))) hb.lt (fun j hj=>by rw [aV];exact Nu hb j (by simpa [hsz] using hj))
    (fun j hj=>by
      have hj':j<cs.length:=by simpa using hj
      simp only [aO]
      exact Xj hst hS' (hr j hj') (fun i hi=>hids i (by simp only [hq];exact mem_cons_of_mem _ (bC.2 ⟨_,aQ hj',hi⟩))))
    (fun j hj=>hone j (by simpa [hsz] using hj))
   rw [aV] at this
   exact this
  |_=>exact .any _
theorem za2 (hst:StG cx γ τ a w)(hS':∀ b,Sg cx.S0 cx.w0.heap.size γ b\/own γ b->S' b){av:AV}(h:Rep w (Sg cx.S0 cx.w0.heap.size γ) γ av v)(hids:∀ id∈ids2 σ av,τ.find id=σ.find id):Rep w S' G0 (Oc σ av) v:=by
 have c1:(∀ id∈ids1 av,τ.find id=σ.find id)->Rep w S' G0 (El σ av) v:=Xj hst hS' h
 cases av with
 |ptr id off=>exact zkc hst hS' h hids
 |agg cs =>
  obtain ⟨vs,rfl,hl,hr,h1⟩:=h.agg_inv
  simp only [Oc]
  refine .agg vs (by simpa using hl) (fun i hi=>?_) h1
  have hi':i<cs.length:=by simpa using hi
  simp only [aO]
  exact Xj hst hS' (hr i hi') (fun id hid=>hids id (bC.2 ⟨_,aQ hi',hid⟩))
 |fn f cap =>
  obtain ⟨vs,rfl,hl,hr⟩:=h.fn_inv
  simp only [Oc]
  refine .fn vs (by simpa using hl) (fun i hi=>?_)
  have hi':i<cap.length:=by simpa using hi
  simp only [aO]
  have hsub:∀ id,id∈(match cap[i] with|.ptr id _=>id::(match σ.find id with|some (.box _ cs)=>cs.flatMap ids1|_=>[])|x=>ids1 x)->τ.find id=σ.find id:=fun id hid=>hids id (bC.2 ⟨_,aQ hi',hid⟩)
  have hri:=hr i hi'
  generalize cap[i]=x at *
  cases x with
  |ptr id off=>exact zkc hst hS' hri hsub
  |_=>exact Xj hst hS' hri hsub
 |_=>exact c1 hids
end
section
variable {cx:Cx} {o:Oper} {σ:AS}
def Bw (σ:AS)(args:Array Operand)(cap:List AV):List AV:=args.toList.map σ.eval++cap
variable {x:Operand}{args:Array Operand}{cap:List AV}{f:FuncId}
theorem O0 {τ:AS}{a:Act}(hst:StG cx γ τ a w)(hok:args.toList.all A5=true)(hxo:A5 x=true)(h1:∀ y∈args.toList,τ.eval y=σ.eval y)(h1x:τ.eval x=σ.eval x)(hx:σ.eval x=.fn f cap) :
  ∃ caps:Array Value,a.eval x=.func (.func f) #[] caps/\(args.map a.eval++caps).size=(Bw σ args cap).length/\∀ i (hi:i<(Bw σ args cap).length),Rep w (Sg cx.S0 cx.w0.heap.size γ) γ (Bw σ args cap)[i] ((args.map a.eval++caps).getD i undef):=by
 have hev:=hst.ev x hxo
 rw [h1x,hx] at hev
 obtain ⟨caps,hc,hl,hr⟩:=hev.fn_inv
 refine ⟨caps,hc,by simp [Bw,hl],fun i hi=>?_⟩
 unfold Bw at hi ⊢
 rw [aA]
 by_cases h:i<args.size
 ·rw [aJ (by simpa using h),aZ (by simpa using h)]
  simp only [bB] at hok
  have he:=hst.ev args[i] (hok _ (by simp))
  rw [h1 args[i] (by simp)] at he
  simpa [h] using he
 ·have hi':i-args.size<cap.length:=by simp at hi;omega
  rw [aN (by simpa using h),Array.getElem?_append_right (by simpa using h)]
  have:=hr (i-args.size) hi'
  rw [aA] at this
  simpa using this
variable {tys:Array TypeId}
theorem Nx {caps:Array Value}{a:Act}(ho:o.op=.call { callee:=.value x,args:=args,argTypes:=tys })(hx:a.eval x=.func (.func f) #[] caps)(he:∀ args w,(callFunc f args).run P w=.ok (.enter f args) w) :
  (execOp a.eval o).run P w=.ok (.enter f (args.map a.eval++caps)) w:=by
 simp only [execOp,ho,resolve,hx,Deferred.ofValue,invoke,Sem.run_bind,Sem.run_pure,Result.andThen_ok,Array.empty_append,he]
variable {avs:List AV}
theorem zz4 {res:AV}{fr:Bool}(ho:o.op=.call { callee:=.value x,args:=args,argTypes:=tys })(hd:dok cx o=true)(hxo:A5 x=true)(hok:args.toList.all A5=true)(hx:σ.eval x=.fn f cap)
  (ha:Bw σ args cap=avs) (hcl:aS avs=true) (hc:Con cx.E fr f avs res):Ag cx o σ res [] []:=by
 refine ⟨fun id e he=>by simp [lkE] at he,fun τ h1 h2 a w Q K ⟨γ,hst⟩ hK=>Bu (fun c hc=>by rw [ho] at hc;cases hc) ?_⟩
 have hop:o.op.operands=#[x]++args:=by simp [ho,Op.operands,Call.operands]
 obtain ⟨caps,hcx,hl,hr⟩:=O0 hst hok hxo (fun y hy=>h1 y (by rw [hop];simp at hy ⊢;exact aL hy)) (h1 x (by rw [hop];simp)) hx
 subst ha
 unfold Oper.wp
 rw [Nx ho hcx hc.1]
 show Calls _ _ _ _ _
 refine (hc.2 (Sg cx.S0 cx.w0.heap.size γ) w _ ⟨hl,fun i hi=>(hr i hi).close (bE hcl i hi)⟩).mono ?_
 rintro e w' ⟨v,rfl,⟨hb,hdr⟩,hv⟩
 refine hK _ _ ⟨γ,hst.grow (Bm hd) hb hdr ?_⟩
 refine (hv.mono (aF _) (fun b hS _=>⟨rfl,?_⟩)).open_
 rcases hS with ⟨_,hS⟩|hS
 ·exact hS
 ·exact aL ⟨⟨aW hst.below.size hS,fun h0=>by have:=hst.gh _ h0;omega⟩,fun ho'=>by have:=(hst.ge b ho').2;omega⟩
theorem zhx {res:AV}{fr:Bool}(ho:o.op=.call { callee:=.value x,args:=args,argTypes:=tys })(hd:dok cx o=true)(hxo:A5 x=true)(hok:args.toList.all A5=true)(hx:σ.eval x=.fn f cap)
  (ha:(Bw σ args cap).map (Oc σ)=avs) (hc:Con cx.E fr f avs res) (hf:fr=true\/res.flat=true):Ag cx o σ res ((Bw σ args cap).flatMap (ids2 σ)) []:=by
 refine ⟨fun id e he=>by simp [lkE] at he,fun τ h1 h2 a w Q K ⟨γ,hst⟩ hK=>Bu (fun c hc=>by rw [ho] at hc;cases hc) ?_⟩
 have hop:o.op.operands=#[x]++args:=by simp [ho,Op.operands,Call.operands]
 obtain ⟨caps,hcx,hl,hr⟩:=O0 hst hok hxo (fun y hy=>h1 y (by rw [hop];simp at hy ⊢;exact aL hy)) (h1 x (by rw [hop];simp)) hx
 subst ha
 unfold Oper.wp
 rw [Nx ho hcx hc.1]
 show Calls _ _ _ _ _
 refine (hc.2 (fun _=>True) w _ ⟨by simpa using hl,fun i hi=>?_⟩).mono ?_
 ·have hi':i<(Bw σ args cap).length:=by simpa using hi
  simp only [aO]
  exact za2 hst (fun _ _=>trivial) (hr i hi') (fun id hid=>h2 id (bC.2 ⟨_,aQ hi',hid⟩))
 rintro e w' ⟨v,rfl,⟨hb,hdr⟩,hv⟩
 refine hK _ _ ⟨γ,hst.grow (Bm hd) hb hdr ?_⟩
 rcases hf with hf|hf
 ·refine (hv.mono (aF _) (fun b hS _=>⟨rfl,?_⟩)).open_
  rcases hS with ⟨hS,_⟩|hS
  ·rw [hf] at hS;cases hS
  ·exact aL ⟨⟨aW hst.below.size hS,fun h0=>by have:=hst.gh _ h0;omega⟩,fun ho'=>by have:=(hst.ge b ho').2;omega⟩
 ·exact hv.flat hf
theorem zp2 {f d:Nat}(ho:o.op=.call { callee:=.value x,args:=args,argTypes:=tys })(hdst:o.dst=some d)(hd:dok cx o=true)(hxo:A5 x=true)(hok:args.toList.all A5=true)(hx:σ.eval x=.fn f cap)
  (ha:Bw σ args cap=avs) (hcl:aS avs=true) (hn:σ.find d=none) (hc:Fu cx.E f avs ty sz xs) (hdr0:cx.E.dr=false):Ag cx o σ (.row d) [d] [(d,.row ty sz xs)]:=by
 refine ⟨fun id e he=>?_,fun τ h1 h2 a w Q K ⟨γ,hst⟩ hK=>Bu (fun c hc=>by rw [ho] at hc;cases hc) ?_⟩
 ·simp only [lkE] at he
  cases hb:bL d id with
  |true=>simp [aE hb]
  |false=>rw [hb] at he;cases he
 have hop:o.op.operands=#[x]++args:=by simp [ho,Op.operands,Call.operands]
 obtain ⟨caps,hcx,hl,hr⟩:=O0 hst hok hxo (fun y hy=>h1 y (by rw [hop];simp at hy ⊢;exact aL hy)) (h1 x (by rw [hop];simp)) hx
 subst ha
 have hγd:γ d=none:=by have:=hst.me d;rw [h2 d (by simp),hn] at this;exact this
 unfold Oper.wp
 rw [Nx ho hcx hc.1]
 show Calls _ _ _ _ _
 refine (hc.2 (Sg cx.S0 cx.w0.heap.size γ) w _ ⟨hl,fun i hi=>(hr i hi).close (bE hcl i hi)⟩).mono ?_
 rintro e w' ⟨v,us,rfl,hb,hown,hlen,hre,hone⟩
 have hsz:=hst.below.size
 let γ':Gam:=γ.set d (some (v.ownBlock,v))
 have hvb:∀ b,v.ownBlock=some b->w.heap.size<=b/\b<w'.heap.size:=fun b hvb=>by
  rcases hown.2 with ⟨hv,_⟩|⟨g,cap,cur,hv,hbg,hh,_⟩
  ·rw [hv] at hvb;simp [Value.ownBlock] at hvb
  ·rw [hv] at hvb;simp only [Value.ownBlock,aB] at hvb;subst hvb
   exact ⟨hbg,(aH.1 hh).1⟩
 have hown':∀ b,own γ' b->v.ownBlock=some b\/own γ b:=fun b ⟨id,s,hi,hm⟩=>by
  by_cases h:id=d
  ·subst h;rw [show γ' id=_ from aX _ _ _] at hi;injection hi with hi;subst hi;exact aR (Fq (Fp (Db hown)) hm)
  ·rw [show γ' id=_ from aT _ _ _ h] at hi;exact aL ⟨id,s,hi,hm⟩
 have hold:∀ i x,γ i=some x->i≠d:=fun i x hx e=>by subst e;rw [hγd] at hx;cases hx
 have hstab:∀ b,Sg cx.S0 cx.w0.heap.size γ b->b<w.heap.size->Sg cx.S0 cx.w0.heap.size γ' b:=fun b hS hlt=>by
  rcases hS with hS|⟨h1,h2⟩
  ·exact aR hS
  ·refine aL ⟨h1,fun ho'=>?_⟩
   rcases hown' b ho' with h|h
   ·have:=(hvb b h).1;omega
   ·exact h2 h
 refine hK _ _ ⟨γ',?_⟩
 rw [hdst]
 refine hst.step (γ':=γ') (fun x hx=>by injection hx with hx;subst hx;exact Bm hd _ hdst) hb.size (fun b hS hlt=>⟨hb.block b hlt,hstab b hS hlt⟩) (fun i x hx=>aR (by rw [show γ' i=_ from aT _ _ _ (hold i x hx)];exact hx)) (fun i hi=>?_) (fun i e' hi=>?_) (fun i j b s1 s2 h1 h2 m1 m2=>?_) (fun b hbo=>?_) (hst.below.trans (hb.mono hsz)) (.row (aX _ _ _) (fun g s e _=>by injection e with e;injection e with e e2)) (fun b hno hlt=>⟨hb.block b hlt,fun ho'=>by
  rcases hown' b ho' with h|h
  ·have:=(hvb b h).1;omega
  ·exact hno h⟩) (fun h=>absurd (hdr0.symm.trans h) (by simp))
 ·have hid:i≠d:=fun e=>by subst e;simp [lkE] at hi
  exact ⟨aT _ _ _ hid,fun g' s' hg' hm'=>hb.block g' (hst.ge g' ⟨i,s',hg',hm'⟩).2⟩
 ·have hid:i=d:=by
   simp only [lkE] at hi
   cases hbq:bL d i with
   |true=>exact (aE hbq).symm
   |false=>rw [hbq] at hi;cases hi
  subst hid
  simp only [lkE,Nat.beq_refl,aB] at hi
  subst hi
  refine ⟨_,aX _ _ _,v,us,rfl,Db hown,⟨hown.1,hown.2.elim aR (fun ⟨g,cap,cur,hv,hg,r⟩=>aL ⟨g,cap,cur,hv,aW hsz hg,r⟩)⟩,hlen,fun k hk j hj=>?_,hone⟩
  refine (hre k hk j hj).mono (aF _) (fun b hS hlt=>⟨rfl,?_⟩)
  obtain ⟨hS1,hS2⟩:=hS
  rcases hS1 with hS1|hS1
  ·rcases hS1 with hS1|⟨h1,h2⟩
   ·exact aR hS1
   ·refine aL ⟨h1,fun ho'=>?_⟩
    rcases hown' b ho' with h|h
    ·exact hS2 h
    ·exact h2 h
  ·refine aL ⟨⟨aW hsz hS1,fun h0=>by have:=hst.gh _ h0;omega⟩,fun ho'=>?_⟩
   rcases hown' b ho' with h|h
   ·exact hS2 h
   ·have:=(hst.ge b h).2;omega
 ·by_cases h1':i=d
  ·by_cases h2':j=d
   ·rw [h1',h2']
   ·subst h1'
    rw [show γ' i=_ from aX _ _ _] at h1
    rw [show γ' j=_ from aT _ _ _ h2'] at h2
    injection h1 with h1
    subst h1
    have:=(hst.ge b ⟨j,s2,h2,m2⟩).2
    have:=(hvb b (Fq (Fp (Db hown)) m1)).1
    omega
  ·by_cases h2':j=d
   ·subst h2'
    rw [show γ' j=_ from aX _ _ _] at h2
    rw [show γ' i=_ from aT _ _ _ h1'] at h1
    injection h2 with h2
    subst h2
    have:=(hst.ge b ⟨i,s1,h1,m1⟩).2
    have:=(hvb b (Fq (Fp (Db hown)) m2)).1
    omega
   ·rw [show γ' i=_ from aT _ _ _ h1'] at h1
    rw [show γ' j=_ from aT _ _ _ h2'] at h2
    exact hst.inj i j b s1 s2 h1 h2 m1 m2
 ·rcases hown' b hbo with h|h
  ·have:=hvb b h;exact ⟨⟨aW hsz this.1,fun h0=>by have:=hst.gh _ h0;omega⟩,this.2⟩
  ·exact ⟨(hst.ge b h).1,aY (hst.ge b h).2 hb.size⟩
end
end Go.Proofs.YthbogefcfhmpgaaGreat
