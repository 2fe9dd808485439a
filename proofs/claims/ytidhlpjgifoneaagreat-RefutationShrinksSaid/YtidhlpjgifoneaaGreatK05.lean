/- The abstract walk, seventh part. -/
import Derived.Test.YtidhlpjgifoneaaGreatK04
import Derived.Laws.Tables
import Derived.Laws.MakeOwn
set_option linter.unusedVariables false
set_option linter.unusedSimpArgs false
namespace Go.Proofs.YtidhlpjgifoneaaGreat
open Go.RowKit List
def CRel (w:World)(S:Nat->Prop)(γ:Gam)(cells:Array Value)(cs:List AV):Prop :=
 cells.size=cs.length/\(∀ i (hi:i<cs.length),Rep w S γ cs[i] (cells.getD i undef))/\∀ i,i<cells.size->(cells.getD i undef).oneCell'=true
def zqi (place:Nat->Option (Nat×Nat)):List AV->List (Nat×AV)->Option (List AV)
 |cells,[]=>some cells
 |cells,(i,v)::r=>match place i with
  |none=>none
  |some (off,size)=>match Nat.beq v.cells.length size && Nat.ble (off+size) cells.length with
   |true=>zqi place (cells.take off++v.cells++cells.drop (off+size)) r
   |false=>none
theorem zvs (off:Nat):∀ (l:List Value) (n:Nat) (cells:Array Value),((l.zipIdx n).foldl (fun cs p=>cs.setIfInBounds (off+p.2) p.1) cells).size=cells.size /\
  ∀ m,((l.zipIdx n).foldl (fun cs p=>cs.setIfInBounds (off+p.2) p.1) cells).getD m undef=if off+n<=m/\m<off+n+l.length/\m<cells.size then l.getD (m-(off+n)) undef else cells.getD m undef
 |[],n,cells=>⟨rfl,fun m=>by rw [if_neg (by simp;omega)];rfl⟩
 |v::r,n,cells=>by
  simp only [zipIdx_cons,foldl_cons]
  obtain ⟨h1,h2⟩:=zvs off r (n+1) (cells.setIfInBounds (off+n) v)
  refine ⟨by rw [h1];simp,fun m=>?_⟩
  rw [h2 m]
  simp only [Array.size_setIfInBounds,length_cons]
  by_cases hm:m=off+n
  ·subst hm
   rw [if_neg (by omega)]
   by_cases hb:off+n<cells.size
   ·rw [if_pos (by omega)]
    simp [Array.getD_eq_getD_getElem?,hb]
   ·rw [if_neg (by omega)]
    simp [Array.getD_eq_getD_getElem?,hb]
  ·have hset:(cells.setIfInBounds (off+n) v).getD m undef=cells.getD m undef:=by
    simp only [Array.getD_eq_getD_getElem?,Array.getElem?_setIfInBounds_ne (Ne.symm hm)]
   rw [hset]
   by_cases hc:off+(n+1)<=m/\m<off+(n+1)+r.length/\m<cells.size
   ·rw [if_pos hc,if_pos (by omega)]
    rw [show m-(off+n)=(m-(off+(n+1)))+1 by omega]
    simp
   ·rw [if_neg hc,if_neg (by omega)]
variable {w:World}
theorem zu8 {S:Nat->Prop}{γ:Gam}{place:Nat->Option (Nat×Nat)}{f:Operand->Value}{g:Operand->AV}:∀ (ops:List (Nat×Operand)) (cells:Array Value) (cs cs':List AV),(∀ p∈ops,CRel w S γ (f p.2).cells (g p.2).cells)->CRel w S γ cells cs ->
  zqi place cs (ops.map fun p=>(p.1,g p.2))=some cs'->∃ cells',Instr.fill place cells (ops.map fun p=>(p.1,f p.2))=some cells'/\CRel w S γ cells' cs'
 |[],cells,cs,cs',_,hr,h=>by
  simp only [map_nil,zqi,Option.some.injEq] at h
  subst h
  exact ⟨cells,rfl,hr⟩
 |(i,x)::r,cells,cs,cs',hp,hr,h=>by
  simp only [map_cons,zqi] at h
  obtain ⟨q1,q2,q3⟩:=hp (i,x) (by simp)
  simp only at q1 q2 q3
  cases hpl:place i with
  |none=>rw [hpl] at h;simp at h
  |some os =>
   obtain ⟨off,size⟩:=os
   rw [hpl] at h
   simp only at h
   split at h
   ·rename_i hcond
    simp only [Bool.and_eq_true] at hcond
    have hc1:(g x).cells.length=size:=Nat.eq_of_beq_eq_true hcond.1
    have hc2:off+size<=cs.length:=Nat.le_of_ble_eq_true hcond.2
    simp only [map_cons,Instr.fill,hpl]
    have hns:¬(((f x).cells.size≠size || off+(f x).cells.size > cells.size)=true):=by
     have:=hr.1
     simp only [Bool.or_eq_true,decide_eq_true_eq]
     simp only [q1] at *
     omega
    rw [if_neg hns]
    refine zu8 r _ _ cs' (fun p hp'=>hp p (by simp [hp'])) ?_ h
    have hfold:((f x).cells.zipIdx.foldl (fun cs (p:Value×Nat)=>cs.setIfInBounds (off+p.2) p.1) cells)=(((f x).cells.toList.zipIdx 0).foldl (fun cs p=>cs.setIfInBounds (off+p.2) p.1) cells):=by
     rw [<-Array.foldl_toList,Array.toList_zipIdx]
    have hfold':((f x).cells.zipIdx.foldl (fun cs x=>match x with|(c,j)=>cs.setIfInBounds (off+j) c) cells)=(((f x).cells.toList.zipIdx 0).foldl (fun cs p=>cs.setIfInBounds (off+p.2) p.1) cells):=hfold
    obtain ⟨s1,s2⟩:=zvs off (f x).cells.toList 0 cells
    have hcl:(cs.take off++(g x).cells++cs.drop (off+size)).length=cs.length:=by simp;omega
    have hval:∀ m,m<cs.length->(((f x).cells.toList.zipIdx 0).foldl (fun cs p=>cs.setIfInBounds (off+p.2) p.1) cells).getD m undef=if off<=m/\m<off+size then (f x).cells.getD (m-off) undef else cells.getD m undef:=fun m hm=>by
     rw [s2 m]
     have hrs:=hr.1
     have hls:(f x).cells.toList.length=size:=by rw [Array.length_toList];omega
     by_cases hc:off<=m/\m<off+size
     ·rw [if_pos hc,if_pos (by omega)]
      simp [Array.getD_eq_getD_getElem?,getD_eq_getElem?_getD]
     ·rw [if_neg hc,if_neg (by omega)]
    have hres:CRel w S γ (((f x).cells.toList.zipIdx 0).foldl (fun cs p=>cs.setIfInBounds (off+p.2) p.1) cells) (cs.take off++(g x).cells++cs.drop (off+size)):=by
     refine ⟨by rw [s1,hcl];exact hr.1,fun m hm=>?_,fun m hm=>?_⟩
     ·rw [hcl] at hm
      rw [hval m hm]
      by_cases h1:m<off
      ·rw [if_neg (by omega),getElem_append_left (by simp;omega),getElem_append_left (by simp;omega),getElem_take]
       exact hr.2.1 m hm
      ·by_cases h2:m<off+size
       ·rw [if_pos (by omega),getElem_append_left (by simp;omega),getElem_append_right (by simp;omega)]
        have hlen:(cs.take off).length=off:=by simp;omega
        simp only [hlen]
        exact q2 (m-off) (by omega)
       ·rw [if_neg (by omega),getElem_append_right (by simp;omega),getElem_drop]
        have hlen:off+size+(m-(cs.take off++(g x).cells).length)=m:=by simp;omega
        simp only [hlen]
        exact hr.2.1 m hm
     ·rw [s1] at hm
      rw [hval m (by have:=hr.1;omega)]
      by_cases hc:off<=m/\m<off+size
      ·rw [if_pos hc];exact q3 (m-off) (by omega)
      ·rw [if_neg hc];exact hr.2.2 m hm
    rw [hfold']
    exact hres
   ·cases h
theorem y7w (w:World)(S:Nat->Prop)(γ:Gam)(z:Value)(hz:z.cells.all (·.oneCell')=true):CRel w S γ z.cells (z.cells.toList.map AV.ofV):=by
 refine ⟨by simp,fun j hj=>?_,fun j hj=>?_⟩
 ·have hj':j<z.cells.size:=by simpa using hj
  have:z.cells.getD j undef=z.cells[j]:=by simp [Array.getD,hj']
  simp only [getElem_map,Array.getElem_toList,this]
  exact zt2 _ _ _ _
 ·have:z.cells.getD j undef=z.cells[j]:=by simp [Array.getD,hj]
  rw [this]
  simp only [Array.all_eq_true] at hz
  exact hz j hj
section
variable {cx:Cx} {o:Oper} {σ:AS}
def zh0 (σ:AS)(ps:Array (Nat×Operand)):List (Nat×AV):=ps.toList.map fun p=>(p.1,σ.eval p.2)
def zjf (l:List (Nat×AV)):List Nat:=l.flatMap fun p=>p.2.ids
def zje (σ:AS)(ps:Array (Nat×Operand)):Bool:=ps.toList.all fun p=>z0r p.2 && okc σ (σ.eval p.2)
variable {ps:Array (Nat×Operand)}
theorem ztt {γ:Gam}{τ:AS}{a:Act}(hst:StG cx γ τ a w)(hok:zje σ ps=true)(h1:∀ p∈ps.toList,τ.eval p.2=σ.eval p.2)(h2:∀ id∈zjf (zh0 σ ps),τ.find id=σ.find id) :
  ∀ p∈ps.toList,CRel w (Sg cx.S0 cx.w0.heap.size γ) γ (a.eval p.2).cells (σ.eval p.2).cells:=fun p hp=>by
 simp only [zje,all_eq_true,Bool.and_eq_true] at hok
 obtain ⟨k1,k2⟩:=hok p hp
 have hev:=hst.ev p.2 k1
 rw [h1 p hp] at hev
 exact zuk hst hev k2 (fun id hid=>h2 id (mem_flatMap.2 ⟨(p.1,σ.eval p.2),mem_map.2 ⟨p,hp,rfl⟩,hid⟩))
variable {P:Program}{esz:Nat}
theorem ztz {e:Nat}(h:P.cellsOf e=esz)(hz:esz≠0):∃ info,P.info? e=some info/\info.size=esz:=by
 unfold Program.cellsOf at h
 cases hq:P.info? e with
 |none=>rw [hq] at h;simp at h;exact absurd h.symm hz
 |some info=>rw [hq] at h;simp at h;exact ⟨info,rfl,h⟩
theorem ygx (Fs:List Field)(h:∀ f∈Fs,P.cellsOf f.type≠0):Fs.mapM (fun f=>(P.info? f.type).map fun i=>(f.offset,i.size))=some (Fs.map fun f=>(f.offset,P.cellsOf f.type)):=by
 induction Fs with
 |nil=>rfl
 |cons f r ih =>
  obtain ⟨info,hi,hs⟩:=ztz rfl (h f (by simp))
  rw [mapM_cons,ih (fun g hg=>h g (by simp [hg]))]
  simp [hi,hs]
theorem y32 {T:Nat}{i:TyI}{fs:List (Nat×Nat×Option Bool)}{cs:List AV}(ho:o.op=.build T ps)(hd:dok cx o=true)(hT:lkT cx.E.tab T=some i)(hs:i.shape=.strct fs)(hz:i.zero.cells.all (·.oneCell')=true)(hok:zje σ ps=true)
  (hfs:fs.all (fun f=>!(Nat.beq f.2.1 0))=true) (hf:zqi (fun j=>(fs[j]?).map fun f=>(f.1,f.2.1)) (i.zero.cells.toList.map AV.ofV) (zh0 σ ps)=some cs):z11 cx o σ (.agg cs) (zjf (zh0 σ ps)) [] :=
 z14 hd fun τ γ a w h1 h2 hst=>by
  have hrel:=ztt hst hok (fun p hp=>h1 p.2 (by simp only [ho,Op.operands,mem_toArray,mem_map];exact ⟨p,hp,rfl⟩)) h2
  have hokT:=cx.E.ok T i hT
  obtain ⟨Fs,hF,hfsE⟩:=ztn hokT hs
  obtain ⟨cells',hfill,hc1,hc2,hc3⟩:=zu8 (f:=a.eval) (g:=σ.eval) ps.toList i.zero.cells _ cs hrel (y7w w _ γ i.zero hz) hf
  have hpl:(fun j:Nat=>(fs[j]?).map fun (f:Nat×Nat×Option Bool)=>(f.1,f.2.1))=fun j:Nat=>(Fs.toList.map fun f=>(f.offset,cx.P.cellsOf f.type))[j]? := by
   funext j
   rw [hfsE]
   simp [getElem?_map,Option.map_map]
   rfl
  rw [hpl] at hfill
  have hb:cx.P.built T ((ps.map fun p=>(p.1,a.eval p.2)).toList)=some cells':=by
   obtain ⟨it,hit,hz'⟩:∃ it,cx.P.info? T=some it/\it.zero=some i.zero:=by
    have:=hokT.zero
    cases hq:cx.P.info? T with
    |none=>rw [hq] at this;simp at this
    |some it=>rw [hq] at this;exact ⟨it,rfl,by simpa using this⟩
   have hnz:∀ f∈Fs.toList,cx.P.cellsOf f.type≠0:=fun f hf=>by
    simp only [hfsE,all_eq_true] at hfs
    have:=hfs (f.offset,cx.P.cellsOf f.type,aggT cx.P f.type) (mem_map.2 ⟨f,hf,rfl⟩)
    intro e
    simp [e] at this
   unfold Program.built
   rw [hit,hF]
   simp only [hz',ygx Fs.toList hnz,Array.toList_map]
   simpa using hfill
  have hrun:=run_build (P:=cx.P) w T (ps.map fun p=>(p.1,a.eval p.2)) cells' hb
  refine ⟨.agg cells',?_,.agg cells' hc1 hc2 hc3⟩
  have e:(ps.map fun x=>match x with|(i,x)=>(i,a.eval x))=ps.map fun p=>(p.1,a.eval p.2):=rfl
  simp only [execOp,ho,e,Sem.run_bind,Sem.run_pure,Result.andThen_ok,hrun]
variable {ag:Option Bool}
theorem yg5 {T:TypeId}{i:TyI}{n e:Nat}(h:TyOk P T i)(hs:i.shape=.arr n e esz ag):P.underlying T=some (.array n e)/\P.cellsOf e=esz/\aggT P e=ag:=by
 obtain ⟨d,hd,he⟩:=h.und
 rw [hs] at he
 cases d<;>simp only [zhk,zun.arr.injEq,reduceCtorEq] at he
 obtain ⟨rfl,rfl,h2,h3⟩:=he
 exact ⟨hd,h2,h3⟩
theorem ya6 {T n e:Nat}{i:TyI}{cs:List AV}(ho:o.op=.build T ps)(hd:dok cx o=true)(hT:lkT cx.E.tab T=some i)(hs:i.shape=.arr n e esz ag)(hz:i.zero.cells.all (·.oneCell')=true)(hok:zje σ ps=true)(hesz:esz≠0)
  (hf:zqi (fun j=>some (j*esz,esz)) (i.zero.cells.toList.map AV.ofV) (zh0 σ ps)=some cs):z11 cx o σ (.agg cs) (zjf (zh0 σ ps)) [] :=
 z14 hd fun τ γ a w h1 h2 hst=>by
  have hrel:=ztt hst hok (fun p hp=>h1 p.2 (by simp only [ho,Op.operands,mem_toArray,mem_map];exact ⟨p,hp,rfl⟩)) h2
  have hokT:=cx.E.ok T i hT
  obtain ⟨hu,hce,_⟩:=yg5 hokT hs
  obtain ⟨cells',hfill,hc1,hc2,hc3⟩:=zu8 (f:=a.eval) (g:=σ.eval) ps.toList i.zero.cells _ cs hrel (y7w w _ γ i.zero hz) hf
  have hb:cx.P.built T ((ps.map fun p=>(p.1,a.eval p.2)).toList)=some cells':=by
   obtain ⟨it,hit,hz'⟩:∃ it,cx.P.info? T=some it/\it.zero=some i.zero:=by
    have:=hokT.zero
    cases hq:cx.P.info? T with
    |none=>rw [hq] at this;simp at this
    |some it=>rw [hq] at this;exact ⟨it,rfl,by simpa using this⟩
   obtain ⟨ie,hie,hie2⟩:=ztz hce hesz
   unfold Program.built
   rw [hit,hu]
   simp only [hz',hie,hie2,Array.toList_map]
   exact hfill
  have hrun:=run_build (P:=cx.P) w T (ps.map fun p=>(p.1,a.eval p.2)) cells' hb
  refine ⟨.agg cells',?_,.agg cells' hc1 hc2 hc3⟩
  have e:(ps.map fun x=>match x with|(i,x)=>(i,a.eval x))=ps.map fun p=>(p.1,a.eval p.2):=rfl
  simp only [execOp,ho,e,Sem.run_bind,Sem.run_pure,Result.andThen_ok,hrun]
end
theorem zqo {x:AV}(h:x.closed=true)(j:Nat)(hj:j<x.cells.length):(x.cells[j]).closed=true:=by
 have single:x.cells=[x]->(x.cells[j]).closed=true:=fun hc=>by
  have h2:∀ y∈x.cells,y.closed=true:=fun y hy=>by
   rw [hc,mem_singleton] at hy
   rw [hy];exact h
  exact h2 _ (getElem_mem hj)
 cases x with
 |agg cs=>simp only [AV.closed] at h;exact AV.closedL_at h j hj
 |_=>exact single rfl
variable {xs:List AV}{sz:Nat}
theorem yin (h:∀ k (hk:k<xs.length),(xs[k]).cells.length=sz):(xs.flatMap AV.cells).length=xs.length*sz/\∀ k (hk:k<xs.length) j (hj:j<(xs[k]).cells.length),(xs.flatMap AV.cells)[k*sz+j]? = some ((xs[k]).cells[j]):=by
 induction xs with
 |nil=>exact ⟨by simp,fun k hk=>absurd hk (by simp)⟩
 |cons x r ih =>
  have hx:=h 0 (by simp)
  simp only [getElem_cons_zero] at hx
  obtain ⟨i1,i2⟩:=ih (fun k hk=>by have:=h (k+1) (by simpa using hk);simpa using this)
  refine ⟨by rw [flatMap_cons,length_append,hx,i1,length_cons,Nat.succ_mul];omega,fun k hk j hj=>?_⟩
  rw [flatMap_cons]
  cases k with
  |zero =>
   simp only [getElem_cons_zero] at hj ⊢
   rw [Nat.zero_mul,Nat.zero_add,getElem?_append_left hj,getElem?_eq_getElem hj]
  |succ k =>
   simp only [getElem_cons_succ] at hj ⊢
   rw [getElem?_append_right (by rw [hx,Nat.succ_mul];omega),hx,show (k+1)*sz+j-sz=k*sz+j by rw [Nat.succ_mul];omega]
   exact i2 k (by simpa using hk) j hj
section
variable {cx:Cx} {o:Oper} {σ:AS}
theorem ydp {z:Array Value}(hz:z.all (·.oneCell')=true)(h0:0<z.size)(x:Nat):(z[x % z.size]!).oneCell'=true:=by
 have hlt:=Nat.mod_lt x h0
 rw [getElem!_pos z _ hlt]
 simp only [Array.all_eq_true] at hz
 exact hz _ hlt
variable {P:Program}{T:Nat}{i:TyI}{esz eb:Nat}
theorem zlf {ie:TyI}{e n:Nat}{parts:Array (Nat×Value)}{cells':Array Value}(hT:TyOk P T i)(hs:i.shape=.slc e esz eb)(he:TyOk P e ie)(hz:esz≠0)(hn:n*esz<=16777216)
  (hf:Instr.fill (fun j=>some (j*esz,esz)) ((Array.range (n*esz)).map (ie.zero.cells[· % ie.zero.cells.size]!)) parts.toList=some cells') (w:World):(Instr.buildSlice T n parts).run P w=.ok (.slice (some ⟨w.heap.size,0,none⟩) n n) (w.alloc (.cells cells' e)):=by
 obtain ⟨hu,hce,_⟩:=zey hT hs
 have hsz:=z8a hce hz w
 have hzr:=he.zeroV w
 by_cases h0:n*esz=0
 ·have hn0:n=0:=(Nat.mul_eq_zero.1 h0).resolve_right hz
  subst hn0
  have e1:((Array.range (0*esz)).map (ie.zero.cells[· % ie.zero.cells.size]!))=#[]:=by simp
  rw [e1] at hf
  unfold Instr.buildSlice
  simp only [Sem.run_bind,run_underlying hu,Result.andThen_ok,hsz]
  rw [if_neg (by omega)]
  simp only [Nat.zero_mul,if_true,Sem.run_bind,Sem.run_pure,Result.andThen_ok]
  have e2:((Array.range 0).map fun x=>(#[]:Array Value)[x % (#[]:Array Value).size]!)=#[]:=by simp
  rw [e2,hf]
  simp [zrl,pure]
 ·unfold Instr.buildSlice
  simp only [Sem.run_bind,run_underlying hu,Result.andThen_ok,hsz]
  rw [if_neg (by omega),if_neg h0]
  simp only [Sem.run_bind,hzr,Sem.run_pure,Result.andThen_ok]
  rw [hf]
  simp [zrl,pure]
theorem zvx {n:Nat}{ps:Array (Nat×Operand)}{ie:TyI}{e:Nat}(ho:o.op=.buildSlice T n ps)(hd:dok cx o=true)(hT:lkT cx.E.tab T=some i)(hs:i.shape=.slc e esz eb)(he:lkT cx.E.tab e=some ie)(hz:esz≠0)(hn:Nat.ble (n*esz) 16777216=true)
  (hze:ie.zero.cells.all (·.oneCell')=true) (hz0:Nat.blt 0 ie.zero.cells.size=true) (hok:zje σ ps=true) (hcl:AV.closedL xs=true) (hlen:xs.length=n) (hl:xs.all (fun x=>Nat.beq x.cells.length esz)=true)
  (hf:zqi (fun j=>some (j*esz,esz)) (replicate (n*esz) .any) (zh0 σ ps)=some (xs.flatMap AV.cells)):z11 cx o σ (.sl esz xs) (zjf (zh0 σ ps)) [] :=
 ygg hd fun τ γ a w h1 h2 hst=>by
  have hrel:=ztt hst hok (fun p hp=>h1 p.2 (by simp only [ho,Op.operands,mem_toArray,mem_map];exact ⟨p,hp,rfl⟩)) h2
  have hcell:∀ j,(ie.zero.cells[j % ie.zero.cells.size]!).oneCell'=true:=ydp hze (by simpa using hz0)
  have h0rel:CRel w (Sg cx.S0 cx.w0.heap.size γ) γ ((Array.range (n*esz)).map (ie.zero.cells[· % ie.zero.cells.size]!)) (replicate (n*esz) .any):=by
   refine ⟨by simp,fun j hj=>by simp only [getElem_replicate];exact .any _,fun j hj=>?_⟩
   have hj':j<n*esz:=by simpa using hj
   have:((Array.range (n*esz)).map (ie.zero.cells[· % ie.zero.cells.size]!)).getD j undef=ie.zero.cells[j % ie.zero.cells.size]! := by
    rw [Array.getD_eq_getD_getElem?,Array.getElem?_map,Array.getElem?_range,if_pos hj'];rfl
   rw [this]
   exact hcell j
  obtain ⟨cells',hfill,hc1,hc2,hc3⟩:=zu8 (f:=a.eval) (g:=σ.eval) ps.toList _ _ _ hrel h0rel hf
  have hrun:=zlf (parts:=ps.map fun p=>(p.1,a.eval p.2)) (cx.E.ok T i hT) hs (cx.E.ok e ie he) hz (Nat.le_of_ble_eq_true hn) (by rw [Array.toList_map];exact hfill) w
  have hbl:Below w.heap.size w (w.alloc (.cells cells' e)):=(Below.refl _ _).alloc (Nat.le_refl _) _
  have hblk:Blk (w.alloc (.cells cells' e)) w.heap.size e cells':=Blk.new w _ _
  have hlen':∀ k (hk:k<xs.length),(xs[k]).cells.length=esz:=fun k hk=>by
   simp only [all_eq_true] at hl
   exact Nat.eq_of_beq_eq_true (hl _ (getElem_mem hk))
  obtain ⟨g1,g2⟩:=yin hlen'
  have hin:∀ k j,k<xs.length->j<esz->k*esz+j<xs.length*esz:=fun k j hk hj=>by
   have:(k+1)*esz<=xs.length*esz:=Nat.mul_le_mul_right _ hk
   rw [Nat.succ_mul] at this
   omega
  have hsz:=hst.below.size
  refine ⟨.slice (some ⟨w.heap.size,0,none⟩) n n,w.alloc (.cells cells' e),?_,hbl,fun _=>Nat.le_refl _,?_⟩
  ·have e':(ps.map fun x=>match x with|(i,x)=>(i,a.eval x))=ps.map fun p=>(p.1,a.eval p.2):=rfl
   simp only [execOp,ho,e',Sem.run_bind,Sem.run_pure,Result.andThen_ok,hrun]
  ·subst hlen
   refine .sl (some ⟨w.heap.size,0,none⟩) xs.length (fun k j=>if k<xs.length/\j<esz then cells'.getD (k*esz+j) undef else .bool true) (Nat.le_refl _) hlen' (fun _=>⟨w.heap.size,0,rfl,Or.inr ⟨⟨hsz,fun h0=>by have:=hst.gh _ h0;omega⟩,fun hown=>by have:=(hst.ge _ hown).2;omega⟩,by simp,fun k j hk hj=>?_⟩) (fun k hk j hj=>?_) (fun k j=>?_)
   ·rw [if_pos ⟨hk,hj⟩,Nat.zero_add]
    exact zjr hblk _ (by rw [hc1,g1];exact hin k j hk hj)
   ·have hj':j<esz:=by rw [<-hlen' k hk];exact hj
    rw [if_pos ⟨hk,hj'⟩]
    have hlt:k*esz+j<(xs.flatMap AV.cells).length:=by rw [g1];exact hin k j hk hj'
    have:=hc2 (k*esz+j) hlt
    have hq:=g2 k hk j hj
    rw [getElem?_eq_getElem hlt] at hq
    injection hq with hq
    rw [hq] at this
    refine (this.mono hbl.size (fun b hS hlt=>⟨hbl.block b hlt,hS⟩)).close ?_
    exact zqo (AV.closedL_at hcl k hk) j hj
   ·by_cases h:k<xs.length/\j<esz
    ·rw [if_pos h]
     exact hc3 _ (by rw [hc1,g1];exact hin k j h.1 h.2)
    ·rw [if_neg h];rfl
def bndA (σ:AS)(d:Nat):Option Operand->Option Int
 |none=>some d
 |some y=>match σ.eval y with|.int _ n=>some n|_=>none
def opdO:Option Operand->Bool
 |none=>true
 |some y=>z0r y
theorem zqa (k:IntKind)(m y:Nat)(c:BoundsCode)(h:m<=y):(Instr.sliceBound (.int k (m:Int)) y c).run P w=.ok m w:=by
 have:(0:Int)<=m/\(m:Int)<=y:=by omega
 simp [Instr.sliceBound,asIntOf,this.1,this.2,pure,h]
variable {x:Operand}{lo hi:Option Operand}
theorem yet {l h:Nat}{e esz:Nat}(ho:o.op=.slice T x lo hi none)(hd:dok cx o=true)(hxo:z0r x=true)(hlo:opdO lo=true)(hhi:opdO hi=true)(hx:σ.eval x=.sl sz xs)(hT:lkT cx.E.tab T=some i)(hs:i.shape=.slc e sz eb)(hz:sz≠0)
  (h1:bndA σ 0 lo=some (l:Int)) (h2:bndA σ xs.length hi=some (h:Int)) (hlh:l<=h) (hh:h<=xs.length):z11 cx o σ (.sl sz ((xs.take h).drop l)) [] [] :=
 z14 hd fun τ γ a w hh1 hh2 hst=>by
  have hev:=hst.ev x hxo
  rw [hh1 x (by simp [ho,Op.operands]),hx] at hev
  obtain ⟨A,c,ex,hc,hlen,cell,hb,hr,h1c⟩:=hev.sl_inv
  obtain ⟨hu,hce,_⟩:=zey (cx.E.ok T i hT) hs
  have hsz:=z8a hce hz w
  have hbh:∃ hv:Option Value,hi.map a.eval=hv/\(match hv with|some v=>Instr.sliceBound v c .sliceAcap|none=>pure xs.length:Sem Nat).run cx.P w=.ok h w:=by
   refine ⟨_,rfl,?_⟩
   cases hi with
   |none=>simp only [bndA,Option.some.injEq] at h2;have:xs.length=h:=by omega
          simp [this]
   |some y =>
    have he:=hst.ev y hhi
    rw [hh1 y (by simp [ho,Op.operands])] at he
    simp only [bndA] at h2
    cases hy:σ.eval y with
    |int k n =>
     rw [hy] at he h2
     simp only [Option.some.injEq] at h2
     subst h2
     simp only [Option.map_some,he.int_inv]
     exact zqa k h c _ (by omega)
    |_=>rw [hy] at h2;simp at h2
  have hbl:(match lo.map a.eval with|some v=>Instr.sliceBound v h .sliceB|none=>pure 0:Sem Nat).run cx.P w=.ok l w:=by
   cases lo with
   |none=>simp only [bndA,Option.some.injEq] at h1;have:l=0:=by omega
          simp [this]
   |some y =>
    have he:=hst.ev y hlo
    rw [hh1 y (by simp [ho,Op.operands])] at he
    simp only [bndA] at h1
    cases hy:σ.eval y with
    |int k n =>
     rw [hy] at he h1
     simp only [Option.some.injEq] at h1
     subst h1
     simp only [Option.map_some,he.int_inv]
     exact zqa k l h _ hlh
    |_=>rw [hy] at h1;simp at h1
  obtain ⟨hv,hhv,hrun⟩:=hbh
  have hB:(Instr.sliceBounds true xs.length c (lo.map a.eval) (hi.map a.eval) none).run cx.P w=.ok (l,h,c) w:=by
   rw [hhv]
   unfold Instr.sliceBounds
   cases hv with
   |none =>
    simp only [Sem.run_bind,Sem.run_pure,Result.andThen_ok] at hrun ⊢
    have:xs.length=h:=by simpa using hrun
    subst this
    cases hlo':lo.map a.eval with
    |none=>rw [hlo'] at hbl;simp only [Sem.run_pure,Result.ok.injEq,and_true] at hbl ⊢;simp [hbl]
    |some v=>rw [hlo'] at hbl;simp only [Option.isSome_none,Bool.false_eq_true,if_false,Sem.run_bind,Sem.run_pure,hbl,Result.andThen_ok]
   |some v =>
    simp only [if_true,Sem.run_bind,Sem.run_pure,Result.andThen_ok,hrun] at hrun ⊢
    cases hlo':lo.map a.eval with
    |none=>rw [hlo'] at hbl;simp only [Sem.run_pure,Result.ok.injEq,and_true] at hbl ⊢;simp [hbl]
    |some v=>rw [hlo'] at hbl;simp only [Option.isSome_none,Bool.false_eq_true,if_false,Sem.run_bind,Sem.run_pure,hbl,Result.andThen_ok]
  have hlen':((xs.take h).drop l).length=h-l:=by simp;omega
  refine ⟨.slice (if c=l then A else A.map (·.add (l*sz))) (h-l) (c-l),?_,?_⟩
  ·simp only [execOp,ho,ex,Instr.sliceAt,Instr.slice,Sem.run_bind,Sem.run_pure,Result.andThen_ok,run_underlying hu,hB,hsz,Option.map_none]
  ·rw [<-hlen']
   refine .sl _ _ (fun k j=>cell (l+k) j) (by omega) (fun k hk=>?_) (fun h0=>?_) (fun k hk j hj=>?_) (fun k j=>h1c _ _)
   ·have hk':l+k<xs.length:=by omega
    simp only [getElem_drop,getElem_take]
    exact hlen _ hk'
   ·obtain ⟨b,off,rfl,hS,hlt,hcell⟩:=hb (by omega)
    refine ⟨b,off+l*sz,?_,hS,hlt,fun k j hk hj=>?_⟩
    ·rw [if_neg (by omega)]
     simp [Addr.add_lit]
    ·have:=hcell (l+k) j (by omega) hj
     rw [show off+l*sz+(k*sz+j)=off+((l+k)*sz+j) by rw [Nat.add_mul];omega]
     exact this
   ·have hk':l+k<xs.length:=by omega
    simp only [getElem_drop,getElem_take] at hj ⊢
    exact hr (l+k) hk' j hj
theorem y9s {l h:Nat}{s:ByteArray}(ho:o.op=.slice T x lo hi none)(hd:dok cx o=true)(hxo:z0r x=true)(hlo:opdO lo=true)(hhi:opdO hi=true)(hx:σ.eval x=.str s)(hT:lkT cx.E.tab T=some i)(hs:i.shape=.str)
  (h1:bndA σ 0 lo=some (l:Int)) (h2:bndA σ s.size hi=some (h:Int)) (hlh:l<=h) (hh:h<=s.size):z11 cx o σ (.str (s.extract l h)) [] [] :=
 z14 hd fun τ γ a w hh1 hh2 hst=>by
  have hev:=hst.ev x hxo
  rw [hh1 x (by simp [ho,Op.operands]),hx] at hev
  obtain ⟨d,hdu,he⟩:=(cx.E.ok T i hT).und
  rw [hs] at he
  cases d<;>simp only [zhk,reduceCtorEq] at he
  have hrun:∃ hv:Option Value,hi.map a.eval=hv/\(match hv with|some v=>Instr.sliceBound v s.size .sliceAlen|none=>pure s.size:Sem Nat).run cx.P w=.ok h w:=by
   refine ⟨_,rfl,?_⟩
   cases hi with
   |none=>simp only [bndA,Option.some.injEq] at h2;have:s.size=h:=by omega
          simp [this]
   |some y =>
    have he:=hst.ev y hhi
    rw [hh1 y (by simp [ho,Op.operands])] at he
    simp only [bndA] at h2
    cases hy:σ.eval y with
    |int k n =>
     rw [hy] at he h2
     simp only [Option.some.injEq] at h2
     subst h2
     simp only [Option.map_some,he.int_inv]
     exact zqa k h _ _ (by omega)
    |_=>rw [hy] at h2;simp at h2
  have hbl:(match lo.map a.eval with|some v=>Instr.sliceBound v h .sliceB|none=>pure 0:Sem Nat).run cx.P w=.ok l w:=by
   cases lo with
   |none=>simp only [bndA,Option.some.injEq] at h1;have:l=0:=by omega
          simp [this]
   |some y =>
    have he:=hst.ev y hlo
    rw [hh1 y (by simp [ho,Op.operands])] at he
    simp only [bndA] at h1
    cases hy:σ.eval y with
    |int k n =>
     rw [hy] at he h1
     simp only [Option.some.injEq] at h1
     subst h1
     simp only [Option.map_some,he.int_inv]
     exact zqa k l h _ hlh
    |_=>rw [hy] at h1;simp at h1
  obtain ⟨hv,hhv,hrun⟩:=hrun
  have hB:(Instr.sliceBounds false s.size s.size (lo.map a.eval) (hi.map a.eval) none).run cx.P w=.ok (l,h,s.size) w:=by
   rw [hhv]
   unfold Instr.sliceBounds
   cases hv with
   |none =>
    simp only [Sem.run_bind,Sem.run_pure,Result.andThen_ok] at hrun ⊢
    have:s.size=h:=by simpa using hrun
    subst this
    cases hlo':lo.map a.eval with
    |none=>rw [hlo'] at hbl;simp only [Sem.run_pure,Result.ok.injEq,and_true] at hbl ⊢;simp [hbl]
    |some v=>rw [hlo'] at hbl;simp only [Option.isSome_none,Bool.false_eq_true,if_false,Sem.run_bind,Sem.run_pure,hbl,Result.andThen_ok]
   |some v =>
    simp only [Bool.false_eq_true,if_false,Sem.run_bind,Sem.run_pure,Result.andThen_ok,hrun] at hrun ⊢
    cases hlo':lo.map a.eval with
    |none=>rw [hlo'] at hbl;simp only [Sem.run_pure,Result.ok.injEq,and_true] at hbl ⊢;simp [hbl]
    |some v=>rw [hlo'] at hbl;simp only [Option.isSome_none,Bool.false_eq_true,if_false,Sem.run_bind,Sem.run_pure,hbl,Result.andThen_ok]
  refine ⟨.string (s.extract l h),?_,.str _⟩
  simp only [execOp,ho,hev.str_inv,Instr.sliceAt,Instr.slice,Sem.run_bind,Sem.run_pure,Result.andThen_ok,run_underlying hdu,hB,Option.map_none,Option.isSome_none,Bool.false_eq_true,if_false]
theorem yn7 {k:IntKind}(h:TyOk P T i)(hs:i.shape=.int k):P.underlying T=some (.int k):=by
 obtain ⟨d,hd,he⟩:=h.und
 rw [hs] at he
 cases d<;>simp only [zhk,reduceCtorEq,zun.int.injEq] at he
 subst he
 exact hd
theorem ygt {T':Nat}{j:TyI}{k k':IntKind}{n:Int}(ho:o.op=.convert T T' x)(hd:dok cx o=true)(hxo:z0r x=true)(hx:σ.eval x=.int k n)(hT:lkT cx.E.tab T=some i)(hT':lkT cx.E.tab T'=some j)(hs:j.shape=.int k'):z11 cx o σ (.int k' (k'.wrap n)) [] [] :=
 z14 hd fun τ γ a w h1 h2 hst=>by
  have hev:=hst.ev x hxo
  rw [h1 x (by simp [ho,Op.operands]),hx] at hev
  obtain ⟨d,hdd,_⟩:=(cx.E.ok T i hT).und
  have hu:=yn7 (cx.E.ok T' j hT') hs
  refine ⟨.int k' (k'.wrap n),?_,.int _ _⟩
  simp only [execOp,ho,hev.int_inv,convert,Sem.run_bind,Sem.run_pure,Result.andThen_ok,run_underlying hdd,run_underlying hu,Conv.intToInt]
theorem yev {f:FuncId}{ps:Array Operand}{cs:List AV}(ho:o.op=.makeFunc (.func f) #[] ps)(hd:dok cx o=true)(hok:ps.toList.all z0r=true)(hc:ps.toList.map σ.eval=cs):z11 cx o σ (.fn f cs) [] [] :=
 z14 hd fun τ γ a w h1 h2 hst=>by
  subst hc
  refine ⟨.func (.func f) #[] (ps.map a.eval),by simp [execOp,ho,Instr.makeFunc,pure],.fn _ (by simp) (fun i hi=>?_)⟩
  have hi':i<ps.size:=by simpa using hi
  have e:(ps.map a.eval).getD i undef=a.eval ps[i]:=by simp [Array.getD,hi']
  rw [e]
  simp only [all_eq_true] at hok
  have hev:=hst.ev ps[i] (hok _ (by simp))
  rw [h1 ps[i] (by simp [ho,Op.operands])] at hev
  simpa using hev
end
theorem TyOk.both {P:Program}{T:TypeId}{i:TyI}(h:TyOk P T i):∃ x,P.info? T=some x/\x.size=i.sz/\x.bytes=i.bytes/\x.zero=some i.zero:=by
 have h1:=h.info
 have h2:=h.zero
 cases hq:P.info? T with
 |none=>rw [hq] at h1;simp at h1
 |some x=>rw [hq] at h1 h2;simp at h1 h2;exact ⟨x,rfl,h1.1,h1.2,h2⟩
variable {vs:List Value}
theorem zxw {P:Program}{base T e ty n m c:Nat}{ie:TyI}{v:Value}{A:Option Addr}{news:List Value}(hu:P.underlying T=some (.slice e))(he:TyOk P e ie)(hsz:ie.sz=sz)(hz:sz≠0)(hzs:ie.zero.cells.size=sz)
  (hown:w.ownsRow base e sz v n vs) (hA:0<m->∃ b off,A=some ⟨b,off,none⟩/\∀ j u,news[j]? = some u->w.cell? ⟨b,off+j,none⟩=some u) (hl:news.length=m*sz) (h1:∀ u∈news,u.oneCell'=true)
  (h63:n+m<=maxLen) (hby:(n+m)*ie.bytes<=140737488355328) (hbase:base<=w.heap.size) :
  ∃ v' w',(Builtin.append_ #[T,T] ty #[v,.slice A m c]).run P w=.ok v' w'/\w'.ownsRow base e sz v' (n+m) (vs++news)/\w.grownBy w' v.ownBlock/\(v'.ownBlock=v.ownBlock\/v'.ownBlock=some w.heap.size):=by
 obtain ⟨i,hi,hi1,hi2,hi3⟩:=he.both
 rcases Nat.eq_zero_or_pos m with h0|h0
 ·subst h0
  have hn:news=[]:=length_eq_zero_iff.1 (by rw [hl];simp)
  subst hn
  refine ⟨v,w,?_,by simpa using hown,World.grownBy.refl w _,.inl rfl⟩
  have hf:(Builtin.firstCells i.size 0 (.slice A 0 c)).run P w=.ok #[] w:=by
   cases A<;>simp [Builtin.firstCells,loadCells,loadCellsFrom,pure]
  rcases hown.2 with ⟨rfl,h0⟩|⟨g,cap,cur,rfl,_,_,hnc,_⟩
  ·simp [Builtin.append_,run_underlying hu,Go.sizeOf,typeInfo,hi,Builtin.lenOf,hf]
  ·simp [Builtin.append_,run_underlying hu,Go.sizeOf,typeInfo,hi,Builtin.lenOf,hf,hnc,storeCells]
 ·obtain ⟨b,off,rfl,hcell⟩:=hA h0
  obtain ⟨v',w',hrun,q1,q2,_,q3⟩:=run_append_own_at (P:=P) w base T ty e i ie.zero sz ie.bytes hu hi hi3 (hi1.trans hsz) hi2 hzs (by omega) v n vs hown ⟨b,off,none⟩ m c news hl (fun j u hj=>by rw [Addr.add_lit];exact hcell j u hj) h1 h63 hby hbase
  exact ⟨v',w',hrun,q1,q2,q3⟩
theorem zb0 {base e n:Nat}{v:Value}(h:w.ownsRow base e sz v n vs):v.oneCell'=true:=by
 rcases h.2 with ⟨rfl,_⟩|⟨g,cap,cur,rfl,_⟩<;>rfl
def y7u:Option Nat->List (Nat×Ent)
 |none=>[]
 |some id=>[(id,.dead)]
section
variable {cx:Cx} {o:Oper} {σ:AS}
theorem y34 {T d e eb:Nat}{x y:Operand}{i ie:TyI}{ys:List AV}{oid:Option Nat}(ho:o.op=.call { callee:=.builtin .append,args:=#[x,y],argTypes:=#[T,T] })(hdst:o.dst=some d)(hd:dok cx o=true)(hxo:z0r x=true)(hyo:z0r y=true)
  (hT:lkT cx.E.tab T=some i) (hs:i.shape=.slc e sz eb) (he:lkT cx.E.tab e=some ie) (hsz:ie.sz=sz) (hz:sz≠0) (hzs:ie.zero.cells.size=sz)
  (hx:(σ.eval x=.nils/\oid=none/\xs=[])\/∃ id,σ.eval x=.row id/\oid=some id/\id≠d/\σ.find id=some (.row e sz xs)) (hy:σ.eval y=.sl sz ys\/(σ.eval y=.nils/\ys=[])) (hn:σ.find d=none)
  (h63:xs.length+ys.length<=1099511627776) (hby:(xs.length+ys.length)*ie.bytes<=140737488355328)
  (hdr0:cx.E.dr=false):z11 cx o σ (.row d) (d::oid.toList) ((d,.row e sz (xs++ys))::y7u oid):=by
 have hdead:∀ id,lkE (y7u oid) id=if oid=some id then some .dead else none:=fun id=>by
  cases oid with
  |none=>simp [y7u,lkE]
  |some j =>
   simp only [y7u,lkE,Option.some.injEq]
   by_cases h:j=id
   ·subst h;simp
   ·rw [if_neg h]
    cases hb:Nat.beq j id with
    |true=>exact absurd (Nat.eq_of_beq_eq_true hb) h
    |false=>rfl
 have hwr:∀ id,lkE ((d,Ent.row e sz (xs++ys))::y7u oid) id=if d=id then some (.row e sz (xs++ys)) else if oid=some id then some .dead else none:=fun id=>by
  simp only [lkE]
  by_cases h:d=id
  ·subst h;simp
  ·rw [if_neg h,<-hdead]
   cases hb:Nat.beq d id with
   |true=>exact absurd (Nat.eq_of_beq_eq_true hb) h
   |false=>rfl
 refine ⟨fun id e' he'=>?_,fun τ h1 h2 a w Q K ⟨γ,hst⟩ hK=>zhj (fun c hc=>by rw [ho] at hc;cases hc) ?_⟩
 ·rw [hwr] at he'
  by_cases h:d=id
  ·simp [h]
  ·rw [if_neg h] at he'
   by_cases h':oid=some id
   ·simp [h']
   ·rw [if_neg h'] at he';cases he'
 have hevx:=hst.ev x hxo
 rw [h1 x (by simp [ho,Op.operands,Call.operands])] at hevx
 have hevy:=hst.ev y hyo
 rw [h1 y (by simp [ho,Op.operands,Call.operands])] at hevy
 obtain ⟨hu,hce,_⟩:=zey (cx.E.ok T i hT) hs
 have hγd:γ d=none:=by have:=hst.me d;rw [h2 d (by simp),hn] at this;exact this
 have hsize:=hst.below.size
 -- the row that is appended to
 have hX:∃ vs:List Value,w.ownsRow cx.w0.heap.size e sz (a.eval x) xs.length vs/\(∀ k (hk:k<xs.length),(xs[k]).cells.length=sz)/\(∀ k (hk:k<xs.length) j (hj:j<(xs[k]).cells.length),Rep w (Sg cx.S0 cx.w0.heap.size γ) G0 ((xs[k]).cells[j]) (vs.getD (k*sz+j) undef))/\(∀ u∈vs,u.oneCell'=true) /\
   (∀ g,(a.eval x).ownBlock=some g->∃ id s,oid=some id/\γ id=some (some (some g,s))):=by
  rcases hx with ⟨hx,rfl,rfl⟩|⟨id,hx,rfl,hne,hl⟩
  ·rw [hx] at hevx
   rw [hevx.nils_inv]
   exact ⟨[],World.ownsRow_nil w _ _ _,fun k hk=>absurd hk (by simp),fun k hk=>absurd hk (by simp),fun u hu=>absurd hu (by simp),fun g hg=>by simp [Value.ownBlock] at hg⟩
  ·rw [hx] at hevx
   have hme:=hst.me id
   rw [h2 id (by simp),hl] at hme
   obtain ⟨dd,hd',s,vs,hde,_,hown,hlen,hr,hone⟩:=hme
   subst hde
   have ex:=hevx.row_inv hd'
   rw [ex]
   exact ⟨vs,hown,hlen,hr,hone,fun g hg=>⟨id,s,rfl,by rw [hd',hg]⟩⟩
 obtain ⟨vs,hown,hlenx,hrx,honex,hblock⟩:=hX
 -- what is appended
 have hY:∃ (A:Option Addr) (c:Nat) (news:List Value),a.eval y=.slice A ys.length c/\news.length=ys.length*sz/\(0<ys.length->∃ b off,A=some ⟨b,off,none⟩/\∀ j u,news[j]? = some u->w.cell? ⟨b,off+j,none⟩=some u)/\(∀ u∈news,u.oneCell'=true) /\
   (∀ k (hk:k<ys.length),(ys[k]).cells.length=sz)/\(∀ k (hk:k<ys.length) j (hj:j<(ys[k]).cells.length),Rep w (Sg cx.S0 cx.w0.heap.size γ) G0 ((ys[k]).cells[j]) (news.getD (k*sz+j) undef)):=by
  rcases hy with hy|⟨hy,rfl⟩
  ·rw [hy] at hevy
   obtain ⟨A,c,ey,hc,hlen,cell,hb,hr,h1c⟩:=hevy.sl_inv
   refine ⟨A,c,(range (ys.length*sz)).map (fun q=>cell (q / sz) (q % sz)),ey,by simp,fun h0=>?_,fun u hu=>?_,hlen,fun k hk j hj=>?_⟩
   ·obtain ⟨b,off,rfl,hS,hlt,hcell⟩:=hb h0
    refine ⟨b,off,rfl,fun j u hj=>?_⟩
    obtain ⟨hj1,hj2⟩:=List.getElem?_eq_some_iff.1 hj
    simp only [length_map,length_range] at hj1
    simp only [getElem_map,getElem_range] at hj2
    have hq:j / sz<ys.length:=(Nat.div_lt_iff_lt_mul (by omega)).2 hj1
    have hm:j % sz<sz:=Nat.mod_lt _ (by omega)
    have:=hcell (j / sz) (j % sz) hq hm
    rw [show j / sz*sz+j % sz=j by rw [Nat.mul_comm];exact Nat.div_add_mod j sz] at this
    rw [this,hj2]
   ·obtain ⟨q,_,rfl⟩:=mem_map.1 hu
    exact h1c _ _
   ·have hj':j<sz:=by rw [<-hlen k hk];exact hj
    have hlt:k*sz+j<ys.length*sz:=by
     have:(k+1)*sz<=ys.length*sz:=Nat.mul_le_mul_right _ hk
     rw [Nat.succ_mul] at this
     omega
    have hq:(k*sz+j) / sz=k:=by rw [Nat.mul_comm,Nat.mul_add_div (by omega),Nat.div_eq_of_lt hj',Nat.add_zero]
    have hmod:(k*sz+j) % sz=j:=by rw [Nat.mul_comm,Nat.mul_add_mod,Nat.mod_eq_of_lt hj']
    have:((range (ys.length*sz)).map (fun q=>cell (q / sz) (q % sz))).getD (k*sz+j) undef=cell k j:=by
     rw [getD_eq_getElem?_getD,getElem?_map,getElem?_range hlt]
     simp [hq,hmod]
    rw [this]
    exact hr k hk j hj
  ·rw [hy] at hevy
   exact ⟨none,0,[],hevy.nils_inv,by simp,fun h=>absurd h (by simp),fun u hu=>absurd hu (by simp),fun k hk=>absurd hk (by simp),fun k hk=>absurd hk (by simp)⟩
 obtain ⟨A,c,news,ey,hnl,hA,hone2,hleny,hry⟩:=hY
 obtain ⟨v',w',hrun,q1,q2,q3⟩:=zxw (P:=cx.P) (c:=c) (ty:=o.type) hu (cx.E.ok e ie he) hsz hz hzs hown hA hnl hone2 (by simp only [maxLen];omega) hby hsize
 have hex:(execOp a.eval o).run cx.P w=.ok (.value v') w':=by
  simp only [execOp,ho,resolve,invoke,builtin,Sem.run_bind,Sem.run_pure,Result.andThen_ok,map_toArray,map_cons,map_nil,ey,hrun]
 unfold Oper.wp
 rw [hex]
 have hv1:v'.oneCell'=true:=zb0 q1
 let γ':Gam:=fun id=>if d=id then some (some (v'.ownBlock,v')) else if oid=some id then some none else γ id
 have hγ'd:γ' d=some (some (v'.ownBlock,v')):=if_pos rfl
 have hγ'o:∀ id,d≠id->oid≠some id->γ' id=γ id:=fun id h1 h2=>by show (if d=id then _ else if oid=some id then _ else γ id)=γ id;rw [if_neg h1,if_neg h2]
 have hγ'x:∀ id,d≠id->oid=some id->γ' id=some none:=fun id h1 h2=>by show (if d=id then _ else if oid=some id then _ else γ id)=some none;rw [if_neg h1,if_pos h2]
 have hown':∀ b,own γ' b->v'.ownBlock=some b\/own γ b:=fun b ⟨id,dd,hi,hm⟩=>by
  by_cases h:d=id
  ·subst h;rw [hγ'd] at hi;injection hi with hi;subst hi;exact Or.inl (zhn (zhl hv1) hm)
  ·by_cases h':oid=some id
   ·rw [hγ'x id h h'] at hi;injection hi with hi;subst hi;simp [blks] at hm
   ·rw [hγ'o id h h'] at hi;exact Or.inr ⟨id,dd,hi,hm⟩
 have hvb:∀ b,v'.ownBlock=some b->(own γ b/\(a.eval x).ownBlock=some b)\/b=w.heap.size:=fun b hb=>by
  rcases q3 with q3|q3
  ·rw [q3] at hb
   obtain ⟨id,s,_,hi⟩:=hblock b hb
   exact Or.inl ⟨own.mk hi,hb⟩
  ·rw [q3] at hb;injection hb with hb;exact Or.inr hb.symm
 have hk:∀ b,Sg cx.S0 cx.w0.heap.size γ b->b<w.heap.size->w'.heap[b]? = w.heap[b]? /\ Sg cx.S0 cx.w0.heap.size γ' b:=fun b hS hlt=>by
  have hno:¬own γ b:=by
   rcases hS with ⟨_,h⟩|⟨_,h⟩
   ·intro hb;have:=(hst.ge b hb).1.1;omega
   ·exact h
  refine ⟨q2.block b hlt (fun e=>?_),?_⟩
  ·obtain ⟨id,s,_,hi⟩:=hblock b e.symm
   exact hno (own.mk hi)
  ·rcases hS with hS|⟨hB,_⟩
   ·exact Or.inl hS
   ·refine Or.inr ⟨hB,fun ho'=>?_⟩
    rcases hown' b ho' with h|h
    ·rcases hvb b h with ⟨h,_⟩|h
     ·exact hno h
     ·omega
    ·exact hno h
 have hmv:∀ {av v},Rep w (Sg cx.S0 cx.w0.heap.size γ) G0 av v->Rep w' (Sg cx.S0 cx.w0.heap.size γ') G0 av v:=fun h=>h.mono q2.size hk
 refine hK _ _ ⟨γ',?_⟩
 rw [hdst]
 refine hst.step (γ':=γ') (fun x hx=>by injection hx with hx;subst hx;exact z9f hd _ hdst) q2.size hk (fun id x hid=>?_) (fun id hid=>?_) (fun id e' hid=>?_) (fun id id' b d1 d2 hi hi' m1 m2=>?_) (fun b hb=>?_) ?_ (.row hγ'd (fun g s e _=>by injection e with e;injection e with e e2)) (fun b hno hlt=>⟨q2.block b hlt (fun e=>by obtain ⟨id,s,_,hi⟩:=hblock b e.symm;exact hno (own.mk hi)),fun ho'=>by
  rcases hown' b ho' with h|h
  ·rcases hvb b h with ⟨h,_⟩|h
   ·exact hno h
   ·omega
  ·exact hno h⟩) (fun h=>absurd (hdr0.symm.trans h) (by simp))
 ·by_cases h:d=id
  ·subst h;rw [hγd] at hid;cases hid
  ·by_cases h':oid=some id
   ·exact Or.inr (Or.inl (hγ'x id h h'))
   ·exact Or.inl (by rw [hγ'o id h h'];exact hid)
 ·rw [hwr] at hid
  by_cases h:d=id
  ·rw [if_pos h] at hid;cases hid
  ·rw [if_neg h] at hid
   by_cases h':oid=some id
   ·rw [if_pos h'] at hid;cases hid
   ·refine ⟨hγ'o id h h',fun g dd hg hm=>q2.block g (hst.ge g ⟨id,dd,hg,hm⟩).2 (fun e=>?_)⟩
    obtain ⟨id0,s0,h0,hi0⟩:=hblock g e.symm
    have:=hst.inj _ _ _ _ _ hg hi0 hm z4e
    subst this
    exact h' h0
 ·rw [hwr] at hid
  by_cases h:d=id
  ·subst h
   rw [if_pos rfl] at hid
   injection hid with hid
   subst hid
   refine ⟨_,hγ'd,v',vs++news,rfl,hv1,by rw [length_append];exact q1,fun k hk=>?_,fun k hk j hj=>?_,fun u hu=>(mem_append.1 hu).elim (honex u) (hone2 u)⟩
   ·rw [getElem_append]
    split
    ·exact hlenx k _
    ·exact hleny _ _
   ·rw [length_append] at hk
    have hvl:vs.length=xs.length*sz:=hown.1
    by_cases hkx:k<xs.length
    ·simp only [getElem_append_left hkx] at hj ⊢
     have hj':j<sz:=by rw [<-hlenx k hkx];exact hj
     have hlt:k*sz+j<vs.length:=by
      have:(k+1)*sz<=xs.length*sz:=Nat.mul_le_mul_right _ hkx
      rw [Nat.succ_mul] at this
      omega
     rw [getD_eq_getElem?_getD,getElem?_append_left hlt,<-getD_eq_getElem?_getD]
     exact hmv (hrx k hkx j hj)
    ·have hkx':xs.length<=k:=by omega
     simp only [getElem_append_right hkx'] at hj ⊢
     have hlt:vs.length<=k*sz+j:=by
      have:xs.length*sz<=k*sz:=Nat.mul_le_mul_right _ hkx'
      omega
     rw [getD_eq_getElem?_getD,getElem?_append_right hlt,<-getD_eq_getElem?_getD]
     rw [show k*sz+j-vs.length=(k-xs.length)*sz+j by
      rw [hvl,Nat.sub_mul]
      have:xs.length*sz<=k*sz:=Nat.mul_le_mul_right _ hkx'
      omega]
     exact hmv (hry (k-xs.length) (by omega) j hj)
  ·rw [if_neg h] at hid
   by_cases h':oid=some id
   ·rw [if_pos h'] at hid
    injection hid with hid
    subst hid
    exact ⟨none,hγ'x id h h',rfl⟩
   ·rw [if_neg h'] at hid;cases hid
 ·have key:∀ id id' b d1 d2,d=id->d≠id'->γ' id=some d1->γ' id'=some d2->b∈blks d1->b∈blks d2->False:=fun id id' b d1 d2 h h' hi hi' m1 m2=>by
   subst h
   rw [hγ'd] at hi
   injection hi with hi
   subst hi
   have hi:=zhn (zhl hv1) m1
   by_cases ho':oid=some id'
   ·rw [hγ'x id' h' ho'] at hi';injection hi' with hi';subst hi';simp [blks] at m2
   ·rw [hγ'o id' h' ho'] at hi'
    rcases hvb b hi with ⟨_,hb⟩|hb
    ·obtain ⟨id0,s0,h0,hi0⟩:=hblock b hb
     have:=hst.inj _ _ _ _ _ hi' hi0 m2 z4e
     subst this
     exact ho' h0
    ·have:=(hst.ge b ⟨id',d2,hi',m2⟩).2
     omega
  by_cases h:d=id
  ·by_cases h':d=id'
   ·rw [<-h,<-h']
   ·exact (key id id' b d1 d2 h h' hi hi' m1 m2).elim
  ·by_cases h':d=id'
   ·exact (key id' id b d2 d1 h' h hi' hi m2 m1).elim
   ·by_cases ho1:oid=some id
    ·rw [hγ'x id h ho1] at hi;injection hi with hi;subst hi;simp [blks] at m1
    ·by_cases ho2:oid=some id'
     ·rw [hγ'x id' h' ho2] at hi';injection hi' with hi';subst hi';simp [blks] at m2
     ·rw [hγ'o id h ho1] at hi
      rw [hγ'o id' h' ho2] at hi'
      exact hst.inj _ _ _ _ _ hi hi' m1 m2
 ·rcases hown' b hb with h|h
  ·rcases hvb b h with ⟨h,_⟩|h'
   ·exact ⟨(hst.ge b h).1,Nat.lt_of_lt_of_le (hst.ge b h).2 q2.size⟩
   ·refine ⟨⟨by omega,fun h0=>by have:=hst.gh _ h0;omega⟩,?_⟩
    rcases q1.2 with ⟨hv,_⟩|⟨g,cap,cur,hv,_,hh,_⟩
    ·rw [hv] at h;simp [Value.ownBlock] at h
    ·rw [hv] at h;simp only [Value.ownBlock,Option.some.injEq] at h;subst h
     exact (Array.getElem?_eq_some_iff.1 hh).1
  ·exact ⟨(hst.ge b h).1,Nat.lt_of_lt_of_le (hst.ge b h).2 q2.size⟩
 ·refine hst.below.trans ⟨q2.os,q2.tape,q2.output,q2.size,fun k hk=>q2.block k (by omega) (fun e=>?_)⟩
  obtain ⟨id,s,_,hi⟩:=hblock k e.symm
  have:=(hst.ge k (own.mk hi)).1.1
  omega
end
end Go.Proofs.YtidhlpjgifoneaaGreat
