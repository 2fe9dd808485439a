/- The abstract walk, fifth part. -/
import Derived.Test.YtidhlpjgifoneaaGreatK03
set_option linter.unusedVariables false
set_option linter.unusedSimpArgs false
namespace Go.Proofs.YtidhlpjgifoneaaGreat
open Go.RowKit List
theorem zrl (P:Program)(w:World)(e:TypeId)(cs:Array Value):(newRow e cs).run P w=.ok ⟨w.heap.size,0,none⟩ (w.alloc (.cells cs e)):=by
 rfl
section
variable {cx:Cx} {o:Oper} {σ:AS}
def AV.ids:AV->List Nat
 |.ptr id _=>[id]
 |.row id=>[id]
 |.elt id _ _ _=>[id]
 |.der _ id=>[id]
 |_=>[]
def okc (σ:AS):AV->Bool
 |.any=>false
 |.tup _=>false
 |.ptr id _=>match σ.find id with|some (.box _ _)=>true|_=>false
 |.row id=>match σ.find id with|some (.row _ _ _)=>true|some (.mp _)=>true|_=>false
 |.elt _ _ _ _=>false
 |.der _ _=>false
 |_=>true
variable {w:World}{av:AV}
theorem zuk {cx:Cx}{γ:Gam}{τ σ:AS}{a:Act}(h:StG cx γ τ a w){v:Value}(hv:Rep w (Sg cx.S0 cx.w0.heap.size γ) γ av v)(ho:okc σ av=true)(hids:∀ id∈av.ids,τ.find id=σ.find id) :
  v.cells.size=av.cells.length/\(∀ i (hi:i<av.cells.length),Rep w (Sg cx.S0 cx.w0.heap.size γ) γ av.cells[i] (v.cells.getD i undef))/\∀ i,i<v.cells.size->(v.cells.getD i undef).oneCell'=true:=by
 have single:av.cells=[av]->v.oneCell'=true->v.cells.size=av.cells.length/\(∀ i (hi:i<av.cells.length),Rep w (Sg cx.S0 cx.w0.heap.size γ) γ av.cells[i] (v.cells.getD i undef))/\∀ i,i<v.cells.size->(v.cells.getD i undef).oneCell'=true:=by
  intro hc h1
  have hvc:v.cells=#[v]:=by cases v<;>first|rfl|simp [Value.oneCell'] at h1
  refine ⟨by rw [hvc,hc];rfl,fun i hi=>?_,fun i hi=>?_⟩
  ·have hi0:i=0:=by rw [hc] at hi;simpa using hi
   subst hi0
   simp only [hc,hvc]
   exact hv
  ·have hi0:i=0:=by rw [hvc] at hi;simpa using hi
   subst hi0
   simp only [hvc]
   exact h1
 cases av with
 |any=>simp [okc] at ho
 |tup cs=>simp [okc] at ho
 |elt id sz k j=>simp [okc] at ho
 |der φ id=>simp [okc] at ho
 |agg cs =>
  obtain ⟨vs,rfl,hl,hr,h1⟩:=hv.agg_inv
  exact ⟨hl,hr,h1⟩
 |ptr id off =>
  have hf:=hids id (by simp [AV.ids])
  have hme:=h.me id
  simp only [okc] at ho
  split at ho
  ·rename_i ty cs hfs
   rw [hf,hfs] at hme
   obtain ⟨x,hx,g,vs,hxe,_⟩:=hme
   subst hxe
   have:=hv.ptr_inv hx
   exact single rfl (by rw [this];rfl)
  ·cases ho
 |row id =>
  have hf:=hids id (by simp [AV.ids])
  have hme:=h.me id
  simp only [okc] at ho
  split at ho
  ·rename_i ty sz xs hfs
   rw [hf,hfs] at hme
   obtain ⟨x,hx,s,vs,hxe,hone,_⟩:=hme
   subst hxe
   have:=hv.row_inv hx
   exact single rfl (by rw [this];exact hone)
  ·rename_i ps hfs
   rw [hf,hfs] at hme
   obtain ⟨x,hx,g,hxe,_⟩:=hme
   subst hxe
   have:=hv.row_inv hx
   exact single rfl (by rw [this];rfl)
  ·cases ho
 |_=>exact single rfl (hv.one rfl)
variable {T:Nat}{i:TyI}
theorem ynj {d:Nat}(ho:o.op=.alloc T)(hdst:o.dst=some d)(hd:dok cx o=true)(hT:lkT cx.E.tab T=some i)(hn:σ.find d=none)(hz:i.zero.cells.all (·.oneCell')=true) :
  z11 cx o σ (.ptr d 0) [d] [(d,.box T (i.zero.cells.toList.map AV.ofV))]:=by
 refine ⟨fun id e he=>?_,fun τ h1 h2 a w Q K ⟨γ,hst⟩ hK=>zhj (fun c hc=>by rw [ho] at hc;cases hc) ?_⟩
 ·simp only [lkE] at he
  cases hb:Nat.beq d id with
  |true=>simp [Nat.eq_of_beq_eq_true hb]
  |false=>rw [hb] at he;cases he
 have hok:=cx.E.ok T i hT
 have hrun:(execOp a.eval o).run cx.P w=.ok (.value (.pointer (some ⟨w.heap.size,0,none⟩))) (w.alloc (.cells i.zero.cells T)):=by
  simp [execOp,ho,Instr.alloc,hok.zeroV,newVar,zrl,pure]
 unfold Oper.wp
 rw [hrun]
 refine hK _ _ ⟨_,hst.name (id:=d) (g:=w.heap.size) (s:=.slice none 0 0) (e:=.box T (i.zero.cells.toList.map AV.ofV)) (z9f hd) (by rw [h2 d (by simp)];exact hn) ((Below.refl _ _).alloc (Nat.le_refl _) _) (Nat.le_refl _) (by simp) ?_ ?_⟩
 ·refine ⟨w.heap.size,i.zero.cells,rfl,Blk.new w _ _,by simp,fun j hj=>?_,fun j hj=>?_⟩
  ·have hj':j<i.zero.cells.size:=by simpa using hj
   have:i.zero.cells.getD j undef=i.zero.cells[j]:=by simp [Array.getD,hj']
   simp only [getElem_map,Array.getElem_toList,this]
   exact zt2 _ _ _ _
  ·have:i.zero.cells.getD j undef=i.zero.cells[j]:=by simp [Array.getD,hj]
   rw [this]
   simp only [Array.all_eq_true] at hz
   exact hz j hj
 ·exact .ptr (Gam.set_self _ _ _) (fun g s e=>by injection e with e;injection e with e _;injection e with e;rw [e])
variable {x:Operand}
theorem ys5 {d:Nat}(ho:o.op=.box T x)(hdst:o.dst=some d)(hd:dok cx o=true)(hxo:z0r x=true)(hx:σ.eval x=av)(hc:okc σ av=true)(hn:σ.find d=none) :
  z11 cx o σ (.ptr d 0) (d::av.ids) [(d,.box T av.cells)]:=by
 refine ⟨fun id e he=>?_,fun τ h1 h2 a w Q K ⟨γ,hst⟩ hK=>zhj (fun c hc=>by rw [ho] at hc;cases hc) ?_⟩
 ·simp only [lkE] at he
  cases hb:Nat.beq d id with
  |true=>simp [Nat.eq_of_beq_eq_true hb]
  |false=>rw [hb] at he;cases he
 have hev:=hst.ev x hxo
 rw [h1 x (by simp [ho,Op.operands]),hx] at hev
 obtain ⟨c1,c2,c3⟩:=zuk hst hev hc (fun id hid=>h2 id (by simp [hid]))
 have hrun:(execOp a.eval o).run cx.P w=.ok (.value (.pointer (some ⟨w.heap.size,0,none⟩))) (w.alloc (.cells (a.eval x).cells T)):=by
  simp [execOp,ho,Instr.box,newVar,zrl,pure]
 unfold Oper.wp
 rw [hrun]
 have hγd:γ d=none:=by have:=hst.me d;rw [h2 d (by simp),hn] at this;exact this
 have hbl:Below w.heap.size w (w.alloc (.cells (a.eval x).cells T)):=(Below.refl _ _).alloc (Nat.le_refl _) _
 refine hK _ _ ⟨_,hst.name (id:=d) (g:=w.heap.size) (s:=.slice none 0 0) (e:=.box T av.cells) (z9f hd) (by rw [h2 d (by simp)];exact hn) hbl (Nat.le_refl _) (by simp) ?_ ?_⟩
 ·refine ⟨w.heap.size,(a.eval x).cells,rfl,Blk.new w _ _,c1,fun j hj=>?_,c3⟩
  refine ((c2 j hj).mono hbl.size (fun b hS hlt=>⟨hbl.block b hlt,?_⟩)).gam (fun id x hx=>Or.inl ?_)
  ·rcases hS with hS|⟨h1,h2⟩
   ·exact Or.inl hS
   ·refine Or.inr ⟨h1,fun ⟨i,s',hi,hb⟩=>?_⟩
    by_cases hid:i=d
    ·subst hid;rw [Gam.set_self] at hi;injection hi with hi;subst hi;have:=zth rfl hb;omega
    ·rw [Gam.set_ne _ _ _ hid] at hi;exact h2 ⟨i,s',hi,hb⟩
  ·rw [Gam.set_ne]
   ·exact hx
   ·rintro rfl;rw [hγd] at hx;cases hx
 ·exact .ptr (Gam.set_self _ _ _) (fun g s e=>by injection e with e;injection e with e _;injection e with e;rw [e])
variable {P:Program}{fs:List (Nat×Nat×Option Bool)}
theorem ztn {T:TypeId}(h:TyOk P T i)(hs:i.shape=.strct fs):∃ Fs,P.underlying T=some (.struct Fs)/\fs=Fs.toList.map fun f=>(f.offset,P.cellsOf f.type,aggT P f.type):=by
 obtain ⟨d,hd,he⟩:=h.und
 rw [hs] at he
 cases d<;>simp only [zhk,zun.strct.injEq,reduceCtorEq] at he
 exact ⟨_,hd,he.symm⟩
variable {f fo fsz:Nat}{ag:Option Bool}
theorem zt1 {T:TypeId}(h:TyOk P T i)(hs:i.shape=.strct fs)(hf:fs[f]? = some (fo,fsz,ag))(hz:fsz≠0)(b off:Nat)(w:World) :
  (Instr.fieldAt T (.pointer (some ⟨b,off,none⟩)) f).run P w=.ok (.pointer (some ⟨b,off+fo,none⟩)) w:=by
 obtain ⟨Fs,hF,rfl⟩:=ztn h hs
 simp only [getElem?_map,Option.map_eq_some_iff,Prod.mk.injEq] at hf
 obtain ⟨fd,hfd,h1,h2,_⟩:=hf
 have hfd':Fs[f]? = some fd:=by simpa using hfd
 have hsz:∃ info,P.info? fd.type=some info/\info.size=fsz:=by
  unfold Program.cellsOf at h2
  cases hq:P.info? fd.type with
  |none=>rw [hq] at h2;simp at h2;exact absurd h2.symm hz
  |some info=>rw [hq] at h2;simp at h2;exact ⟨info,rfl,h2⟩
 obtain ⟨info,hi,hi2⟩:=hsz
 have hsize:(sizeOf fd.type).run P w=.ok fsz w:=by simp [sizeOf,typeInfo,hi,hi2]
 simp [Instr.fieldAt,run_underlying hF,hfd',Instr.sureAddr,fieldPlace,hsize,hz,pure,Addr.add_lit,h1]
variable {id off:Nat}{ty:TypeId}{cs:List AV}
theorem ya2 (ho:o.op=.fieldAddr T x f)(hd:dok cx o=true)(hxo:z0r x=true)(hx:σ.eval x=.ptr id off)(hT:lkT cx.E.tab T=some i)(hs:i.shape=.strct fs)(hf:fs[f]? = some (fo,fsz,ag))
  (hz:fsz≠0) (hl:σ.find id=some (.box ty cs)):z11 cx o σ (.ptr id (off+fo)) [id] [] :=
 z14 hd fun τ γ a w h1 h2 hst=>by
  have hev:=hst.ev x hxo
  rw [h1 x (by simp [ho,Op.operands]),hx] at hev
  have hme:=hst.me id
  rw [h2 id (by simp),hl] at hme
  obtain ⟨d,hd',g,vs,hde,_⟩:=hme
  subst hde
  have e:=hev.ptr_inv hd'
  refine ⟨.pointer (some ⟨g,off+fo,none⟩),?_,.ptr hd' (fun g' s e=>by injection e with e;injection e with e _;injection e with e;rw [e])⟩
  simp [execOp,ho,e,zt1 (cx.E.ok T i hT) hs hf hz,pure]
theorem zy6 {sz k j:Nat}{xs:List AV}(ho:o.op=.fieldAddr T x f)(hd:dok cx o=true)(hxo:z0r x=true)(hx:σ.eval x=.elt id sz k j)(hT:lkT cx.E.tab T=some i)(hs:i.shape=.strct fs)(hf:fs[f]? = some (fo,fsz,ag))
  (hz:fsz≠0) (hl:σ.find id=some (.row ty sz xs)) (hk:k<xs.length):z11 cx o σ (.elt id sz k (j+fo)) [id] [] :=
 z14 hd fun τ γ a w h1 h2 hst=>by
  have hev:=hst.ev x hxo
  rw [h1 x (by simp [ho,Op.operands]),hx] at hev
  have hme:=hst.me id
  rw [h2 id (by simp),hl] at hme
  obtain ⟨d,hd',s,vs,hde,_,hown,_⟩:=hme
  subst hde
  have hg:∃ g,s.ownBlock=some g:=by
   rcases hown.2 with ⟨rfl,h0⟩|⟨g,cap,cur,rfl,_⟩
   ·omega
   ·exact ⟨g,rfl⟩
  obtain ⟨g,hg⟩:=hg
  rw [hg] at hd'
  have e:=hev.elt_inv hd'
  refine ⟨.pointer (some ⟨g,k*sz+(j+fo),none⟩),?_,.elt hd' (fun g' s e=>by injection e with e;injection e with e _;injection e with e;rw [e])⟩
  simp [execOp,ho,e,zt1 (cx.E.ok T i hT) hs hf hz,pure,Nat.add_assoc]
theorem zvu {S:Nat->Prop}{γ:Gam}{b k:Nat}{cell:Nat->Value}(hS:S b)(hb:b<w.heap.size)(hc:∀ j,j<cs.length->w.cell? ⟨b,off+j,none⟩=some (cell j))(hr:∀ j (hj:j<cs.length),Rep w S G0 cs[j] (cell j))
  (h1:∀ j,j<cs.length->(cell j).oneCell'=true):Rep w S γ (.ref (cs.drop k)) (.pointer (some ⟨b,off+k,none⟩)):=by
 refine .ref b (off+k) (fun j=>cell (k+j)) hS hb (fun j hj=>?_) (fun j hj=>?_) (fun j hj=>?_)
 ·rw [length_drop] at hj
  have:=hc (k+j) (by omega)
  rwa [<-Nat.add_assoc] at this
 ·rw [length_drop] at hj
  rw [getElem_drop]
  exact hr (k+j) (by omega)
 ·rw [length_drop] at hj
  exact h1 (k+j) (by omega)
theorem zy5 (ho:o.op=.fieldAddr T x f)(hd:dok cx o=true)(hxo:z0r x=true)(hx:σ.eval x=.ref cs)(hT:lkT cx.E.tab T=some i)(hs:i.shape=.strct fs)(hf:fs[f]? = some (fo,fsz,ag))
  (hz:fsz≠0):z11 cx o σ (.ref (cs.drop fo)) [] [] :=
 z14 hd fun τ γ a w h1 h2 hst=>by
  have hev:=hst.ev x hxo
  rw [h1 x (by simp [ho,Op.operands]),hx] at hev
  obtain ⟨b,off,e,hS,hb,cell,hc,hr,h1c⟩:=hev.ref_inv
  refine ⟨.pointer (some ⟨b,off+fo,none⟩),?_,zvu hS hb hc hr h1c⟩
  simp [execOp,ho,e,zt1 (cx.E.ok T i hT) hs hf hz,pure]
theorem zg6 {T:TypeId}(h:TyOk P T i)(ha:i.shape.agg=true)(w:World)(ad:Addr)(cs:List Value)(hl:cs.length=i.sz)(hc:∀ j v,cs[j]? = some v->w.cell? (ad.add j)=some v):(loadVar T ad).run P w=.ok (.agg cs.toArray) w:=by
 have:=run_loadCells_list (P:=P) w ad cs hc
 rw [hl] at this
 simp [loadVar,h.agg,ha,h.size,this,pure]
theorem zez {T:TypeId}(h:TyOk P T i)(ha:i.shape.agg=false)(w:World)(ad:Addr)(v:Value)(hc:w.cell? ad=some v):(loadVar T ad).run P w=.ok v w:=by
 simp [loadVar,h.agg,ha,load,Sem.run,hc]
theorem zjr {g:Nat}{vs:Array Value}(h:Blk w g ty vs)(j:Nat)(hj:j<vs.size):w.cell? ⟨g,j,none⟩=some (vs.getD j undef):=by
 rw [h.cell,Array.getElem?_eq_getElem hj]
 simp [Array.getD,hj]
theorem yey (ho:o.op=.load T x)(hd:dok cx o=true)(hxo:z0r x=true)(hx:σ.eval x=.ptr id off)(hT:lkT cx.E.tab T=some i)(ha:i.shape.agg=true)(hl:σ.find id=some (.box ty cs))(hn:off+i.sz<=cs.length) :
  z11 cx o σ (.agg ((cs.drop off).take i.sz)) [id] [] :=
 z14 hd fun τ γ a w h1 h2 hst=>by
  have hev:=hst.ev x hxo
  rw [h1 x (by simp [ho,Op.operands]),hx] at hev
  have hme:=hst.me id
  rw [h2 id (by simp),hl] at hme
  obtain ⟨d,hd',g,vs,hde,hb,hsz,hr,hone⟩:=hme
  subst hde
  have e:=hev.ptr_inv hd'
  have hlen:((range i.sz).map fun j=>vs.getD (off+j) undef).length=i.sz:=by simp
  have hrun:=zg6 (cx.E.ok T i hT) ha w ⟨g,off,none⟩ ((range i.sz).map fun j=>vs.getD (off+j) undef) hlen (fun j v hj=>by
   obtain ⟨hj1,hj2⟩:=List.getElem?_eq_some_iff.1 hj
   rw [hlen] at hj1
   simp only [getElem_map,getElem_range] at hj2
   rw [Addr.add_lit,zjr hb _ (by omega),hj2])
  refine ⟨.agg ((range i.sz).map fun j=>vs.getD (off+j) undef).toArray,by simp only [execOp,ho,e,Instr.loadAt,Instr.sureAddr,Sem.run_bind,Sem.run_pure,Result.andThen_ok,hrun],.agg _ (by simp;omega) (fun j hj=>?_) (fun j hj=>?_)⟩
  ·rw [length_take,length_drop] at hj
   simp only [getElem_take,getElem_drop]
   have:((range i.sz).map fun j=>vs.getD (off+j) undef).toArray.getD j undef=vs.getD (off+j) undef:=by
    have hj':j<i.sz:=by omega
    simp [hj']
   rw [this]
   exact hr (off+j) (by omega)
  ·have hj':j<i.sz:=by simpa using hj
   have:((range i.sz).map fun j=>vs.getD (off+j) undef).toArray.getD j undef=vs.getD (off+j) undef:=by
    simp [hj']
   rw [this]
   exact hone _ (by omega)
theorem yew (ho:o.op=.load T x)(hd:dok cx o=true)(hxo:z0r x=true)(hx:σ.eval x=.ptr id off)(hT:lkT cx.E.tab T=some i)(ha:i.shape.agg=false)(hl:σ.find id=some (.box ty cs))(hc:cs[off]? = some av) :
  z11 cx o σ av [id] [] :=
 z14 hd fun τ γ a w h1 h2 hst=>by
  have hev:=hst.ev x hxo
  rw [h1 x (by simp [ho,Op.operands]),hx] at hev
  have hme:=hst.me id
  rw [h2 id (by simp),hl] at hme
  obtain ⟨d,hd',g,vs,hde,hb,hsz,hr,hone⟩:=hme
  subst hde
  have e:=hev.ptr_inv hd'
  obtain ⟨hlt,hc'⟩:=List.getElem?_eq_some_iff.1 hc
  have hrun:=zez (cx.E.ok T i hT) ha w ⟨g,off,none⟩ (vs.getD off undef) (zjr hb off (by omega))
  refine ⟨vs.getD off undef,by simp only [execOp,ho,e,Instr.loadAt,Instr.sureAddr,Sem.run_bind,Sem.run_pure,Result.andThen_ok,hrun],?_⟩
  have:=hr off hlt
  rwa [hc'] at this
theorem y06 (ho:o.op=.load T x)(hd:dok cx o=true)(hxo:z0r x=true)(hx:σ.eval x=.ref cs)(hT:lkT cx.E.tab T=some i)(ha:i.shape.agg=true)(hn:i.sz<=cs.length) :
  z11 cx o σ (.agg (cs.take i.sz)) [] [] :=
 z14 hd fun τ γ a w h1 h2 hst=>by
  have hev:=hst.ev x hxo
  rw [h1 x (by simp [ho,Op.operands]),hx] at hev
  obtain ⟨b,off,e,hS,hb,cell,hc,hr,h1c⟩:=hev.ref_inv
  have hlen:((range i.sz).map cell).length=i.sz:=by simp
  have hrun:=zg6 (cx.E.ok T i hT) ha w ⟨b,off,none⟩ ((range i.sz).map cell) hlen (fun j v hj=>by
   obtain ⟨hj1,hj2⟩:=List.getElem?_eq_some_iff.1 hj
   rw [hlen] at hj1
   simp only [getElem_map,getElem_range] at hj2
   rw [Addr.add_lit,hc _ (by omega),hj2])
  refine ⟨.agg ((range i.sz).map cell).toArray,by simp only [execOp,ho,e,Instr.loadAt,Instr.sureAddr,Sem.run_bind,Sem.run_pure,Result.andThen_ok,hrun],.agg _ (by simp;omega) (fun j hj=>?_) (fun j hj=>?_)⟩
  ·rw [length_take] at hj
   simp only [getElem_take]
   have:((range i.sz).map cell).toArray.getD j undef=cell j:=by
    have hj':j<i.sz:=by omega
    simp [hj']
   rw [this]
   exact (hr j (by omega)).open_
  ·have hj':j<i.sz:=by simpa using hj
   have:((range i.sz).map cell).toArray.getD j undef=cell j:=by simp [hj']
   rw [this]
   exact h1c _ (by omega)
theorem y05 (ho:o.op=.load T x)(hd:dok cx o=true)(hxo:z0r x=true)(hx:σ.eval x=.ref (av::cs))(hT:lkT cx.E.tab T=some i)(ha:i.shape.agg=false) :
  z11 cx o σ av [] [] :=
 z14 hd fun τ γ a w h1 h2 hst=>by
  have hev:=hst.ev x hxo
  rw [h1 x (by simp [ho,Op.operands]),hx] at hev
  obtain ⟨b,off,e,hS,hb,cell,hc,hr,h1c⟩:=hev.ref_inv
  have hrun:=zez (cx.E.ok T i hT) ha w ⟨b,off,none⟩ (cell 0) (by simpa using hc 0 (by simp))
  exact ⟨cell 0,by simp only [execOp,ho,e,Instr.loadAt,Instr.sureAddr,Sem.run_bind,Sem.run_pure,Result.andThen_ok,hrun],(hr 0 (by simp)).open_⟩
theorem zkr {T:TypeId}(h:TyOk P T i)(w:World)(g off:Nat)(ty:TypeId)(vs:Array Value)(v:Value)(hb:Blk w g ty vs)(hl:v.cells.size=i.sz)(hfit:off+i.sz<=vs.size)(h1:∀ u∈v.cells.toList,u.oneCell'=true) :
  (storeVar T ⟨g,off,none⟩ v).run P w=.ok () (w.setRow g (vs.toList.take off++v.cells.toList++vs.toList.drop (off+i.sz)).toArray):=by
 have:=run_storeCells_at P g off ty v.cells.toList 0 vs w hb (by simp [hl];omega) h1
 simp only [Nat.add_zero,Array.length_toList,hl] at this
 simp [storeVar,h.size,hl,this]
theorem yng {y:Operand}{cs':List AV}(ho:o.op=.store T x y)(hd:dok cx o=true)(hxo:z0r x=true)(hyo:z0r y=true)(hx:σ.eval x=.ptr id off)(hy:σ.eval y=av)(hT:lkT cx.E.tab T=some i)(hl:σ.find id=some (.box ty cs))(hn:off+i.sz<=cs.length)
  (hav:av.cells.length=i.sz) (hc:okc σ av=true) (hcs:cs.take off++av.cells++cs.drop (off+i.sz)=cs'):z11 cx o σ (.tup []) (id::av.ids) [(id,.box ty cs')]:=by
 refine ⟨fun id' e he=>?_,fun τ h1 h2 a w Q K ⟨γ,hst⟩ hK=>zhj (fun c hc=>by rw [ho] at hc;cases hc) ?_⟩
 ·simp only [lkE] at he
  cases hb:Nat.beq id id' with
  |true=>simp [Nat.eq_of_beq_eq_true hb]
  |false=>rw [hb] at he;cases he
 have hev:=hst.ev x hxo
 rw [h1 x (by simp [ho,Op.operands]),hx] at hev
 have hevy:=hst.ev y hyo
 rw [h1 y (by simp [ho,Op.operands]),hy] at hevy
 have hme:=hst.me id
 rw [h2 id (by simp),hl] at hme
 obtain ⟨d,hd',g,vs,hde,hb,hsz,hr,hone⟩:=hme
 subst hde
 have e:=hev.ptr_inv hd'
 obtain ⟨c1,c2,c3⟩:=zuk hst hevy hc (fun id hid=>h2 id (by simp [hid]))
 have hone':∀ u∈(a.eval y).cells.toList,u.oneCell'=true:=fun u hu=>by
  obtain ⟨j,hj,rfl⟩:=mem_iff_getElem.1 hu
  have hj':j<(a.eval y).cells.size:=by simpa using hj
  have:=c3 j hj'
  simpa [Array.getD,hj'] using this
 have hrun:=zkr (cx.E.ok T i hT) w g off ty vs (a.eval y) hb (c1.trans hav) (by omega) hone'
 unfold Oper.wp
 have hex:(execOp a.eval o).run cx.P w=.ok .skip (w.setRow g (vs.toList.take off++(a.eval y).cells.toList++vs.toList.drop (off+i.sz)).toArray):=by
  simp only [execOp,ho,e,Instr.storeAt,Instr.sureAddr,Sem.run_bind,Sem.run_pure,Result.andThen_ok,hrun]
 rw [hex]
 have hblk:=setRow_heap w g vs (vs.toList.take off++(a.eval y).cells.toList++vs.toList.drop (off+i.sz)).toArray ty (0,0) hb
 have hoth:∀ k,k≠g->(w.setRow g (vs.toList.take off++(a.eval y).cells.toList++vs.toList.drop (off+i.sz)).toArray).heap[k]? = w.heap[k]? := fun k hk=>setRow_other w g k _ hk
 have hgo:own γ g:=own.mk hd'
 have hgl:=hst.ge g hgo
 have hns:∀ b,Sg cx.S0 cx.w0.heap.size γ b->b≠g:=fun b hS e=>by
  subst e
  rcases hS with ⟨_,h⟩|⟨_,h⟩
  ·have:=hgl.1.1;omega
  ·exact h hgo
 generalize hw':w.setRow g (vs.toList.take off++(a.eval y).cells.toList++vs.toList.drop (off+i.sz)).toArray=w' at *
 have hz:w.heap.size<=w'.heap.size:=by rw [<-hw'];simp
 have hdr:w.drawn<=w'.drawn:=by rw [<-hw'];exact Nat.le_refl _
 refine hK _ _ ⟨γ,hst.step (z9f hd) hz (fun b hS hlt=>⟨hoth b (hns b hS),hS⟩) (fun id d h=>Or.inl h) (fun id' hid'=>⟨rfl,fun g' s hg' hm'=>hoth g' ?_⟩) (fun id' e' he'=>?_) hst.inj (fun b hbo=>⟨(hst.ge b hbo).1,Nat.lt_of_lt_of_le (hst.ge b hbo).2 hz⟩) ?_ (.tup #[] rfl (fun i hi=>by simp at hi)) (fun b hno _=>⟨hoth b (fun e=>hno (e▸hgo)),hno⟩) (fun _=>hdr)⟩
 ·rintro rfl
  have:=hst.inj _ _ _ _ _ hg' hd' hm' z4e
  subst this
  simp [lkE] at hid'
 ·have hid:id'=id:=by
   simp only [lkE] at he'
   cases hbq:Nat.beq id id' with
   |true=>exact (Nat.eq_of_beq_eq_true hbq).symm
   |false=>rw [hbq] at he';cases he'
  subst hid
  simp only [lkE,Nat.beq_refl,Option.some.injEq] at he'
  subst he'
  have hmv:∀ {av v},Rep w (Sg cx.S0 cx.w0.heap.size γ) γ av v->Rep w' (Sg cx.S0 cx.w0.heap.size γ) γ av v:=fun h=>h.mono hz (fun b hS _=>⟨hoth b (hns b hS),hS⟩)
  have hcl:cs'.length=cs.length:=by rw [<-hcs];simp;omega
  have hvl:(vs.toList.take off++(a.eval y).cells.toList++vs.toList.drop (off+i.sz)).toArray.size=vs.size:=by
   simp;omega
  have hat:∀ j (hj:j<cs.length),(vs.toList.take off++(a.eval y).cells.toList++vs.toList.drop (off+i.sz)).toArray.getD j undef=if j<off then vs.getD j undef else if j<off+i.sz then (a.eval y).cells.getD (j-off) undef else vs.getD j undef:=fun j hj=>by
   simp only [Array.getD_eq_getD_getElem?,getElem?_toArray]
   congr 1
   by_cases h1:j<off
   ·rw [if_pos h1]
    rw [append_assoc,getElem?_append_left (by simp;omega),getElem?_take_of_lt h1]
    simp
   ·rw [if_neg h1]
    by_cases h2:j<off+i.sz
    ·rw [if_pos h2,append_assoc,getElem?_append_right (by simp;omega),getElem?_append_left (by simp;omega)]
     rw [show j-(List.take off vs.toList).length=j-off by simp;omega]
     simp
    ·rw [if_neg h2,getElem?_append_right (by simp;omega),getElem?_drop]
     rw [show off+i.sz+(j-(List.take off vs.toList++(a.eval y).cells.toList).length)=j by simp;omega]
     simp
  refine ⟨_,hd',g,_,rfl,hblk,by omega,fun j hj=>?_,fun j hj=>?_⟩
  ·rw [hat j (by omega)]
   have hcj:cs'[j]=if h1:j<off then cs[j]'(by omega) else if h2:j<off+i.sz then av.cells[j-off]'(by omega) else cs[j]'(by omega):=by
    subst hcs
    by_cases h1:j<off
    ·rw [dif_pos h1,getElem_append_left (by simp;omega),getElem_append_left (by simp;omega),getElem_take]
    ·rw [dif_neg h1]
     by_cases h2:j<off+i.sz
     ·rw [dif_pos h2,getElem_append_left (by simp;omega),getElem_append_right (by simp;omega)]
      congr 1
      simp;omega
     ·rw [dif_neg h2,getElem_append_right (by simp;omega),getElem_drop]
      congr 1
      simp;omega
   rw [hcj]
   by_cases h1:j<off
   ·rw [if_pos h1,dif_pos h1];exact hmv (hr j (by omega))
   ·rw [if_neg h1,dif_neg h1]
    by_cases h2:j<off+i.sz
    ·rw [if_pos h2,dif_pos h2];exact hmv (c2 (j-off) (by omega))
    ·rw [if_neg h2,dif_neg h2];exact hmv (hr j (by omega))
  ·rw [hvl] at hj
   rw [hat j (by omega)]
   by_cases h1:j<off
   ·rw [if_pos h1];exact hone j hj
   ·rw [if_neg h1]
    by_cases h2:j<off+i.sz
    ·rw [if_pos h2];exact c3 (j-off) (by omega)
    ·rw [if_neg h2];exact hone j hj
 ·refine hst.below.trans ⟨by rw [<-hw'];rfl,by rw [<-hw'];rfl,by rw [<-hw'];rfl,hz,fun k hk=>hoth k (by have:=hgl.1.1;omega)⟩
end
variable {i:TyI}{e esz eb:Nat}
theorem zey {P:Program}{T:TypeId}(h:TyOk P T i)(hs:i.shape=.slc e esz eb):P.underlying T=some (.slice e)/\P.cellsOf e=esz/\P.bytesOf e=eb:=by
 obtain ⟨d,hd,he⟩:=h.und
 rw [hs] at he
 cases d<;>simp only [zhk,zun.slc.injEq,reduceCtorEq] at he
 obtain ⟨rfl,h2,h3⟩:=he
 exact ⟨hd,h2,h3⟩
theorem z8a {P:Program}(h:P.cellsOf e=esz)(hz:esz≠0)(w:World):(sizeOf e).run P w=.ok esz w:=by
 unfold Program.cellsOf at h
 cases hq:P.info? e with
 |none=>rw [hq] at h;simp at h;exact absurd h.symm hz
 |some info=>rw [hq] at h;simp at h;simp [sizeOf,typeInfo,hq,h]
section
variable {cx:Cx} {o:Oper} {σ:AS}
variable {T:Nat}{x y:Operand}{sz:Nat}{xs:List AV}{k:IntKind}{el:AV}
theorem y09 {n:Int}{m:Nat}(ho:o.op=.indexAddr T x y)(hd:dok cx o=true)(hxo:z0r x=true)(hyo:z0r y=true)(hx:σ.eval x=.sl sz xs)(hy:σ.eval y=.int k n)
  (hT:lkT cx.E.tab T=some i) (hs:i.shape=.slc e sz eb) (hz:sz≠0) (hn:n=(m:Int)) (he:xs[m]? = some el):z11 cx o σ (.ref el.cells) [] [] :=
 z14 hd fun τ γ a w h1 h2 hst=>by
  have hev:=hst.ev x hxo
  rw [h1 x (by simp [ho,Op.operands]),hx] at hev
  have hevy:=hst.ev y hyo
  rw [h1 y (by simp [ho,Op.operands]),hy] at hevy
  obtain ⟨hm,hel⟩:=List.getElem?_eq_some_iff.1 he
  obtain ⟨A,c,ex,hc,hlen,cell,hb,hr,h1c⟩:=hev.sl_inv
  obtain ⟨b,off,rfl,hS,hlt,hcell⟩:=hb (by omega)
  obtain ⟨hu,hce,_⟩:=zey (cx.E.ok T i hT) hs
  have hl:=hlen m hm
  rw [hel] at hl
  refine ⟨.pointer (some ⟨b,off+m*sz,none⟩),?_,.ref b (off+m*sz) (fun j=>cell m j) hS hlt (fun j hj=>?_) (fun j hj=>?_) (fun j hj=>h1c m j)⟩
  ·subst hn
   simp [execOp,ho,ex,hevy.int_inv,Instr.indexAt,asIntOf,run_underlying hu,z8a hce hz,hm,pure,Addr.add_lit]
  ·have:=hcell m j hm (by omega)
   rwa [<-Nat.add_assoc] at this
  ·have hj':j<(xs[m]).cells.length:=by rw [hel];exact hj
   have:=hr m hm j hj'
   simp only [hel] at this
   exact this
variable {id:Nat}{ty:TypeId}
theorem zy3 {n:Int}{m:Nat}(ho:o.op=.indexAddr T x y)(hd:dok cx o=true)(hxo:z0r x=true)(hyo:z0r y=true)(hx:σ.eval x=.row id)(hy:σ.eval y=.int k n)
  (hl:σ.find id=some (.row ty sz xs)) (hT:lkT cx.E.tab T=some i) (hs:i.shape=.slc e sz eb) (hz:sz≠0) (hn:n=(m:Int)) (hm:m<xs.length):z11 cx o σ (.elt id sz m 0) [id] [] :=
 z14 hd fun τ γ a w h1 h2 hst=>by
  have hev:=hst.ev x hxo
  rw [h1 x (by simp [ho,Op.operands]),hx] at hev
  have hevy:=hst.ev y hyo
  rw [h1 y (by simp [ho,Op.operands]),hy] at hevy
  have hme:=hst.me id
  rw [h2 id (by simp),hl] at hme
  obtain ⟨d,hd',s,vs,hde,_,hown,_⟩:=hme
  subst hde
  obtain ⟨hu,hce,_⟩:=zey (cx.E.ok T i hT) hs
  have ex:=hev.row_inv hd'
  rcases hown.2 with ⟨rfl,h0⟩|⟨g,cap,cur,rfl,_⟩
  ·omega
  refine ⟨.pointer (some ⟨g,m*sz,none⟩),?_,.elt hd' (fun g' s e=>by injection e with e;injection e with e _;simp only [Value.ownBlock,Option.some.injEq] at e;rw [<-e];rfl)⟩
  subst hn
  simp [execOp,ho,ex,hevy.int_inv,Instr.indexAt,asIntOf,run_underlying hu,z8a hce hz,hm,pure,Addr.add_lit]
theorem zjc {w:World}{B ty n:Nat}{s:Value}{vs:List Value}{g:Nat}(h:w.ownsRow B ty sz s n vs)(hg:s.ownBlock=some g)(j:Nat)(hj:j<n*sz):w.cell? ⟨g,j,none⟩=some (vs.getD j undef):=by
 obtain ⟨hl,h⟩:=h
 rcases h with ⟨rfl,h0⟩|⟨g',cap,cur,rfl,hb,hh,hn,hm,hs,ht⟩
 ·simp [Value.ownBlock] at hg
 ·simp only [Value.ownBlock,Option.some.injEq] at hg
  subst hg
  have hsz:n*sz<=cap*sz:=Nat.mul_le_mul_right _ hn
  rw [cell_of_row w g' j cur ty (0,0) hh,<-ht]
  rw [getD_eq_getElem?_getD,getElem?_take_of_lt hj]
  simp only [Array.getElem?_toList]
  rw [Array.getElem?_eq_getElem (by omega)]
  rfl
theorem y08 {k:Nat}(ho:o.op=.load T x)(hd:dok cx o=true)(hxo:z0r x=true)(hx:σ.eval x=.elt id sz k 0)(hT:lkT cx.E.tab T=some i)(ha:i.shape.agg=true)(hl:σ.find id=some (.row ty sz xs))(hsz:i.sz=sz)(he:xs[k]? = some el) :
  z11 cx o σ (.agg el.cells) [id] [] :=
 z14 hd fun τ γ a w h1 h2 hst=>by
  have hev:=hst.ev x hxo
  rw [h1 x (by simp [ho,Op.operands]),hx] at hev
  have hme:=hst.me id
  rw [h2 id (by simp),hl] at hme
  obtain ⟨d,hd',s,vs,hde,_,hown,hlen,hr,hone⟩:=hme
  subst hde
  obtain ⟨hk,hel⟩:=List.getElem?_eq_some_iff.1 he
  have hg:∃ g,s.ownBlock=some g:=by
   rcases hown.2 with ⟨rfl,h0⟩|⟨g,cap,cur,rfl,_⟩
   ·omega
   ·exact ⟨g,rfl⟩
  obtain ⟨g,hg⟩:=hg
  rw [hg] at hd'
  have e:=hev.elt_inv hd'
  have hle:=hlen k hk
  rw [hel] at hle
  have hin:∀ j,j<sz->k*sz+j<xs.length*sz:=fun j hj=>by
   have:(k+1)*sz<=xs.length*sz:=Nat.mul_le_mul_right _ hk
   rw [Nat.succ_mul] at this
   omega
  have hln:((range i.sz).map fun j=>vs.getD (k*sz+j) undef).length=i.sz:=by simp
  have hrun:=zg6 (cx.E.ok T i hT) ha w ⟨g,k*sz+0,none⟩ ((range i.sz).map fun j=>vs.getD (k*sz+j) undef) hln (fun j v hj=>by
   obtain ⟨hj1,hj2⟩:=List.getElem?_eq_some_iff.1 hj
   rw [hln] at hj1
   simp only [getElem_map,getElem_range] at hj2
   rw [Addr.add_lit,Nat.add_zero,zjc hown hg _ (hin j (by omega)),hj2])
  refine ⟨.agg ((range i.sz).map fun j=>vs.getD (k*sz+j) undef).toArray,by simp only [execOp,ho,e,Instr.loadAt,Instr.sureAddr,Sem.run_bind,Sem.run_pure,Result.andThen_ok,hrun],.agg _ (by simp;omega) (fun j hj=>?_) (fun j hj=>?_)⟩
  ·have:((range i.sz).map fun j=>vs.getD (k*sz+j) undef).toArray.getD j undef=vs.getD (k*sz+j) undef:=by
    have hj':j<i.sz:=by omega
    simp [hj']
   rw [this]
   have hj':j<(xs[k]).cells.length:=by rw [hel];exact hj
   have:=hr k hk j hj'
   simp only [hel] at this
   exact this.open_
  ·have hj':j<i.sz:=by simpa using hj
   have:((range i.sz).map fun j=>vs.getD (k*sz+j) undef).toArray.getD j undef=vs.getD (k*sz+j) undef:=by simp [hj']
   rw [this]
   have hb:k*sz+j<vs.length:=by rw [hown.1];exact hin j (by omega)
   rw [getD_eq_getElem?_getD,getElem?_eq_getElem hb]
   exact hone _ (getElem_mem hb)
theorem zy1 {k J:Nat}(ho:o.op=.load T x)(hd:dok cx o=true)(hxo:z0r x=true)(hx:σ.eval x=.elt id sz k J)(hT:lkT cx.E.tab T=some i)(ha:i.shape.agg=true)(hl:σ.find id=some (.row ty sz xs))(hsz:J+i.sz<=sz)(he:xs[k]? = some el) :
  z11 cx o σ (.agg ((el.cells.drop J).take i.sz)) [id] [] :=
 z14 hd fun τ γ a w h1 h2 hst=>by
  have hev:=hst.ev x hxo
  rw [h1 x (by simp [ho,Op.operands]),hx] at hev
  have hme:=hst.me id
  rw [h2 id (by simp),hl] at hme
  obtain ⟨d,hd',s,vs,hde,_,hown,hlen,hr,hone⟩:=hme
  subst hde
  obtain ⟨hk,hel⟩:=List.getElem?_eq_some_iff.1 he
  have hg:∃ g,s.ownBlock=some g:=by
   rcases hown.2 with ⟨rfl,h0⟩|⟨g,cap,cur,rfl,_⟩
   ·omega
   ·exact ⟨g,rfl⟩
  obtain ⟨g,hg⟩:=hg
  rw [hg] at hd'
  have e:=hev.elt_inv hd'
  have hle:=hlen k hk
  rw [hel] at hle
  have hin:∀ j,j<sz->k*sz+j<xs.length*sz:=fun j hj=>by
   have:(k+1)*sz<=xs.length*sz:=Nat.mul_le_mul_right _ hk
   rw [Nat.succ_mul] at this
   omega
  have hln:((range i.sz).map fun j=>vs.getD (k*sz+(J+j)) undef).length=i.sz:=by simp
  have hrun:=zg6 (cx.E.ok T i hT) ha w ⟨g,k*sz+J,none⟩ ((range i.sz).map fun j=>vs.getD (k*sz+(J+j)) undef) hln (fun j v hj=>by
   obtain ⟨hj1,hj2⟩:=List.getElem?_eq_some_iff.1 hj
   rw [hln] at hj1
   simp only [getElem_map,getElem_range] at hj2
   rw [Addr.add_lit,Nat.add_assoc,zjc hown hg _ (hin (J+j) (by omega)),hj2])
  have hgd:∀ j,j<i.sz->((range i.sz).map fun j=>vs.getD (k*sz+(J+j)) undef).toArray.getD j undef=vs.getD (k*sz+(J+j)) undef:=fun j hj=>by simp [hj]
  refine ⟨.agg ((range i.sz).map fun j=>vs.getD (k*sz+(J+j)) undef).toArray,by simp only [execOp,ho,e,Instr.loadAt,Instr.sureAddr,Sem.run_bind,Sem.run_pure,Result.andThen_ok,hrun],.agg _ (by simp;omega) (fun j hj=>?_) (fun j hj=>?_)⟩
  ·have hj1:j<i.sz:=by rw [length_take] at hj;omega
   rw [hgd j hj1]
   have hj':J+j<(xs[k]).cells.length:=by rw [hel];omega
   have:=hr k hk (J+j) hj'
   simp only [hel] at this
   simp only [getElem_take,getElem_drop]
   exact this.open_
  ·have hj':j<i.sz:=by simpa using hj
   rw [hgd j hj']
   have hb:k*sz+(J+j)<vs.length:=by rw [hown.1];exact hin (J+j) (by omega)
   rw [getD_eq_getElem?_getD,getElem?_eq_getElem hb]
   exact hone _ (getElem_mem hb)
variable {av:AV}
theorem y07 {k j:Nat}(ho:o.op=.load T x)(hd:dok cx o=true)(hxo:z0r x=true)(hx:σ.eval x=.elt id sz k j)(hT:lkT cx.E.tab T=some i)(ha:i.shape.agg=false)(hl:σ.find id=some (.row ty sz xs))(he:xs[k]? = some el)(hc:el.cells[j]? = some av) :
  z11 cx o σ av [id] [] :=
 z14 hd fun τ γ a w h1 h2 hst=>by
  have hev:=hst.ev x hxo
  rw [h1 x (by simp [ho,Op.operands]),hx] at hev
  have hme:=hst.me id
  rw [h2 id (by simp),hl] at hme
  obtain ⟨d,hd',s,vs,hde,_,hown,hlen,hr,hone⟩:=hme
  subst hde
  obtain ⟨hk,hel⟩:=List.getElem?_eq_some_iff.1 he
  obtain ⟨hj,hcj⟩:=List.getElem?_eq_some_iff.1 hc
  have hg:∃ g,s.ownBlock=some g:=by
   rcases hown.2 with ⟨rfl,h0⟩|⟨g,cap,cur,rfl,_⟩
   ·omega
   ·exact ⟨g,rfl⟩
  obtain ⟨g,hg⟩:=hg
  rw [hg] at hd'
  have e:=hev.elt_inv hd'
  have hle:=hlen k hk
  rw [hel] at hle
  have hin:k*sz+j<xs.length*sz:=by
   have:(k+1)*sz<=xs.length*sz:=Nat.mul_le_mul_right _ hk
   rw [Nat.succ_mul] at this
   omega
  have hrun:=zez (cx.E.ok T i hT) ha w ⟨g,k*sz+j,none⟩ _ (zjc hown hg _ hin)
  refine ⟨vs.getD (k*sz+j) undef,by simp only [execOp,ho,e,Instr.loadAt,Instr.sureAddr,Sem.run_bind,Sem.run_pure,Result.andThen_ok,hrun],?_⟩
  have hj':j<(xs[k]).cells.length:=by rw [hel];exact hj
  have:=hr k hk j hj'
  simp only [hel,hcj] at this
  exact this.open_
theorem getElem?_of_getD {vs:Array Value}{j:Nat}(h:j<vs.size):vs[j]? = some (vs.getD j undef):=by
 rw [Array.getD_eq_getD_getElem?,Array.getElem?_eq_getElem h];rfl
variable {fs:List (Nat×Nat×Option Bool)}{cs:List AV}
theorem y9z {f fo fsz:Nat}(ho:o.op=.field T x f)(hd:dok cx o=true)(hxo:z0r x=true)(hx:σ.eval x=.agg cs)(hT:lkT cx.E.tab T=some i)(hs:i.shape=.strct fs)(hf:fs[f]? = some (fo,fsz,some false))(hc:cs[fo]? = some av) :
  z11 cx o σ av [] [] :=
 z14 hd fun τ γ a w h1 h2 hst=>by
  have hev:=hst.ev x hxo
  rw [h1 x (by simp [ho,Op.operands]),hx] at hev
  obtain ⟨vs,e,hl,hr,h1c⟩:=hev.agg_inv
  obtain ⟨Fs,hF,rfl⟩:=ztn (cx.E.ok T i hT) hs
  simp only [getElem?_map,Option.map_eq_some_iff,Prod.mk.injEq] at hf
  obtain ⟨fd,hfd,e1,e2,e3⟩:=hf
  have hfd':Fs[f]? = some fd:=by simpa using hfd
  obtain ⟨hlt,hc'⟩:=List.getElem?_eq_some_iff.1 hc
  have hagg:=zrm e3 w
  have hget:=getElem?_of_getD (vs:=vs) (j:=fo) (by omega)
  refine ⟨vs.getD fo undef,?_,?_⟩
  ·simp only [execOp,ho,e,Instr.field,Sem.run_bind,Sem.run_pure,Result.andThen_ok,run_underlying hF,hfd',asAgg,part,hagg,e1,hget]
   rfl
  ·have:=hr fo hlt
   rwa [hc'] at this
theorem ya1 {f fo fsz:Nat}(ho:o.op=.field T x f)(hd:dok cx o=true)(hxo:z0r x=true)(hx:σ.eval x=.agg cs)(hT:lkT cx.E.tab T=some i)(hs:i.shape=.strct fs)(hf:fs[f]? = some (fo,fsz,some true))(hz:fsz≠0)(hc:fo+fsz<=cs.length) :
  z11 cx o σ (.agg ((cs.drop fo).take fsz)) [] [] :=
 z14 hd fun τ γ a w h1 h2 hst=>by
  have hev:=hst.ev x hxo
  rw [h1 x (by simp [ho,Op.operands]),hx] at hev
  obtain ⟨vs,e,hl,hr,h1c⟩:=hev.agg_inv
  obtain ⟨Fs,hF,rfl⟩:=ztn (cx.E.ok T i hT) hs
  simp only [getElem?_map,Option.map_eq_some_iff,Prod.mk.injEq] at hf
  obtain ⟨fd,hfd,e1,e2,e3⟩:=hf
  have hfd':Fs[f]? = some fd:=by simpa using hfd
  have hagg:=zrm e3 w
  have hsz:=z8a e2 hz w
  have hx:∀ j,j<fsz->(vs.extract fo (fo+fsz)).getD j undef=vs.getD (fo+j) undef:=fun j hj=>by
   rw [Array.getD_eq_getD_getElem?,Array.getD_eq_getD_getElem?,Array.getElem?_extract,if_pos (by omega)]
  refine ⟨.agg (vs.extract fo (fo+fsz)),?_,.agg _ (by simp;omega) (fun j hj=>?_) (fun j hj=>?_)⟩
  ·simp only [execOp,ho,e,Instr.field,Sem.run_bind,Sem.run_pure,Result.andThen_ok,run_underlying hF,hfd',asAgg,part,hagg,e1,if_true,hsz]
  ·rw [length_take,length_drop] at hj
   rw [hx j (by omega)]
   simp only [getElem_take,getElem_drop]
   exact hr (fo+j) (by omega)
  ·have hj':j<fsz:=by simp at hj;omega
   rw [hx j hj']
   exact h1c _ (by omega)
theorem y9x {n:Nat}{m:Int}{q:Nat}(ho:o.op=.index T x y)(hd:dok cx o=true)(hxo:z0r x=true)(hyo:z0r y=true)(hx:σ.eval x=.agg cs)(hy:σ.eval y=.int k m)(hT:lkT cx.E.tab T=some i)
  (hs:i.shape=.arr n e esz (some false)) (hz:esz≠0) (hm:m=(q:Int)) (hq:q<n) (hc:cs[q*esz]? = some av):z11 cx o σ av [] [] :=
 z14 hd fun τ γ a w h1 h2 hst=>by
  have hev:=hst.ev x hxo
  rw [h1 x (by simp [ho,Op.operands]),hx] at hev
  have hevy:=hst.ev y hyo
  rw [h1 y (by simp [ho,Op.operands]),hy] at hevy
  obtain ⟨vs,ex,hl,hr,h1c⟩:=hev.agg_inv
  obtain ⟨d,hdu,he⟩:=(cx.E.ok T i hT).und
  rw [hs] at he
  cases d<;>simp only [zhk,zun.arr.injEq,reduceCtorEq] at he
  obtain ⟨hn,rfl,e2,e3⟩:=he
  subst hn
  obtain ⟨hlt,hc'⟩:=List.getElem?_eq_some_iff.1 hc
  have hagg:=zrm e3 w
  have hget:=getElem?_of_getD (vs:=vs) (j:=q*esz) (by omega)
  subst hm
  have hres:=hr (q*esz) hlt
  rw [hc'] at hres
  generalize vs.getD (q*esz) undef=u at *
  exact ⟨u,by simp [execOp,ho,ex,hevy.int_inv,Instr.index,asIntOf,run_underlying hdu,z8a e2 hz,hq,part,hagg,hget,pure],hres⟩
theorem y9y {n:Nat}{m:Int}{q:Nat}(ho:o.op=.index T x y)(hd:dok cx o=true)(hxo:z0r x=true)(hyo:z0r y=true)(hx:σ.eval x=.agg cs)(hy:σ.eval y=.int k m)(hT:lkT cx.E.tab T=some i)
  (hs:i.shape=.arr n e esz (some true)) (hz:esz≠0) (hm:m=(q:Int)) (hq:q<n) (hc:q*esz+esz<=cs.length):z11 cx o σ (.agg ((cs.drop (q*esz)).take esz)) [] [] :=
 z14 hd fun τ γ a w h1 h2 hst=>by
  have hev:=hst.ev x hxo
  rw [h1 x (by simp [ho,Op.operands]),hx] at hev
  have hevy:=hst.ev y hyo
  rw [h1 y (by simp [ho,Op.operands]),hy] at hevy
  obtain ⟨vs,ex,hl,hr,h1c⟩:=hev.agg_inv
  obtain ⟨d,hdu,he⟩:=(cx.E.ok T i hT).und
  rw [hs] at he
  cases d<;>simp only [zhk,zun.arr.injEq,reduceCtorEq] at he
  obtain ⟨rfl,rfl,e2,e3⟩:=he
  have hagg:=zrm e3 w
  have hxx:∀ j,j<esz->(vs.extract (q*esz) (q*esz+esz)).getD j undef=vs.getD (q*esz+j) undef:=fun j hj=>by
   rw [Array.getD_eq_getD_getElem?,Array.getD_eq_getD_getElem?,Array.getElem?_extract,if_pos (by omega)]
  subst hm
  refine ⟨.agg (vs.extract (q*esz) (q*esz+esz)),?_,.agg _ (by simp;omega) (fun j hj=>?_) (fun j hj=>?_)⟩
  ·simp [execOp,ho,ex,hevy.int_inv,Instr.index,asIntOf,run_underlying hdu,z8a e2 hz,hq,part,hagg,pure]
  ·rw [length_take,length_drop] at hj
   rw [hxx j (by omega)]
   simp only [getElem_take,getElem_drop]
   exact hr (q*esz+j) (by omega)
  ·have hj':j<esz:=by simp at hj;omega
   rw [hxx j hj']
   exact h1c _ (by omega)
theorem ygs {ix:Nat}(ho:o.op=.extract x ix)(hd:dok cx o=true)(hxo:z0r x=true)(hx:σ.eval x=.tup cs)(hc:cs[ix]? = some av):z11 cx o σ av [] [] :=
 z14 hd fun τ γ a w h1 h2 hst=>by
  have hev:=hst.ev x hxo
  rw [h1 x (by simp [ho,Op.operands]),hx] at hev
  obtain ⟨vs,e,hl,hr⟩:=hev.tup_inv
  obtain ⟨hlt,hc'⟩:=List.getElem?_eq_some_iff.1 hc
  have hget:=getElem?_of_getD (vs:=vs) (j:=ix) (by omega)
  have hres:=hr ix hlt
  rw [hc'] at hres
  generalize vs.getD ix undef=u at *
  exact ⟨u,by simp [execOp,ho,e,Instr.extract,hget,pure],hres⟩
theorem yki {ty:Nat}(ho:o.op=.call { callee:=.builtin .len,args:=#[x],argTypes:=#[T] })(hd:dok cx o=true)(hxo:z0r x=true)(hx:σ.eval x=.sl sz xs)(hT:lkT cx.E.tab T=some i)(hs:i.shape=.slc e esz eb) :
  z11 cx o σ (.int .i64 (xs.length:Int)) [] [] :=
 z14 hd fun τ γ a w h1 h2 hst=>by
  have hev:=hst.ev x hxo
  rw [h1 x (by simp [ho,Op.operands,Call.operands]),hx] at hev
  obtain ⟨A,c,ex,_⟩:=hev.sl_inv
  obtain ⟨hu,_,_⟩:=zey (cx.E.ok T i hT) hs
  exact ⟨.int .i64 (xs.length:Int),by simp [execOp,ho,resolve,invoke,builtin,Builtin.len_,ex,run_underlying hu,goInt,pure],.int _ _⟩
theorem yez {ty:Nat}(ho:o.op=.call { callee:=.builtin .len,args:=#[x],argTypes:=#[T] })(hd:dok cx o=true)(hxo:z0r x=true)(hx:σ.eval x=.nils)(hT:lkT cx.E.tab T=some i)(hs:i.shape=.slc e esz eb) :
  z11 cx o σ (.int .i64 0) [] [] :=
 z14 hd fun τ γ a w h1 h2 hst=>by
  have hev:=hst.ev x hxo
  rw [h1 x (by simp [ho,Op.operands,Call.operands]),hx] at hev
  obtain ⟨hu,_,_⟩:=zey (cx.E.ok T i hT) hs
  exact ⟨.int .i64 0,by simp [execOp,ho,resolve,invoke,builtin,Builtin.len_,hev.nils_inv,run_underlying hu,goInt,pure],.int _ _⟩
theorem ygq (ho:o.op=.call { callee:=.builtin .len,args:=#[x],argTypes:=#[T] })(hd:dok cx o=true)(hxo:z0r x=true)(hx:σ.eval x=.row id)(hl:σ.find id=some (.row ty sz xs))(hT:lkT cx.E.tab T=some i)(hs:i.shape=.slc e esz eb) :
  z11 cx o σ (.int .i64 (xs.length:Int)) [id] [] :=
 z14 hd fun τ γ a w h1 h2 hst=>by
  have hev:=hst.ev x hxo
  rw [h1 x (by simp [ho,Op.operands,Call.operands]),hx] at hev
  have hme:=hst.me id
  rw [h2 id (by simp),hl] at hme
  obtain ⟨d,hd',s,vs,hde,_,hown,_⟩:=hme
  subst hde
  have e:=hev.row_inv hd'
  obtain ⟨hu,_,_⟩:=zey (cx.E.ok T i hT) hs
  have hsl:∃ A c,s=.slice A xs.length c:=by
   rcases hown.2 with ⟨rfl,h0⟩|⟨g,cap,cur,rfl,_⟩
   ·exact ⟨none,0,by rw [h0]⟩
   ·exact ⟨_,_,rfl⟩
  obtain ⟨A,c,rfl⟩:=hsl
  exact ⟨.int .i64 (xs.length:Int),by simp [execOp,ho,resolve,invoke,builtin,Builtin.len_,e,run_underlying hu,goInt,pure],.int _ _⟩
theorem ygp {s:ByteArray}(ho:o.op=.call { callee:=.builtin .len,args:=#[x],argTypes:=#[T] })(hd:dok cx o=true)(hxo:z0r x=true)(hx:σ.eval x=.str s)(hT:lkT cx.E.tab T=some i)(hs:i.shape=.str) :
  z11 cx o σ (.int .i64 (s.size:Int)) [] [] :=
 z14 hd fun τ γ a w h1 h2 hst=>by
  have hev:=hst.ev x hxo
  rw [h1 x (by simp [ho,Op.operands,Call.operands]),hx] at hev
  obtain ⟨d,hdu,he⟩:=(cx.E.ok T i hT).und
  rw [hs] at he
  cases d<;>simp only [zhk,reduceCtorEq] at he
  exact ⟨.int .i64 (s.size:Int),by simp [execOp,ho,resolve,invoke,builtin,Builtin.len_,hev.str_inv,run_underlying hdu,goInt,pure],.int _ _⟩
theorem ys3 {T:Array TypeId}{k':IntKind}{a b:Int}(ho:o.op=.call { callee:=.builtin .max,args:=#[x,y],argTypes:=T })(hd:dok cx o=true)(hxo:z0r x=true)(hyo:z0r y=true)(hx:σ.eval x=.int k a)(hy:σ.eval y=.int k' b):z11 cx o σ (.int k (max a b)) [] [] :=
 z14 hd fun τ γ ac w h1 h2 hst=>by
  have e1:=hst.ev x hxo
  rw [h1 x (by simp [ho,Op.operands,Call.operands]),hx] at e1
  have e2:=hst.ev y hyo
  rw [h1 y (by simp [ho,Op.operands,Call.operands]),hy] at e2
  have hm:(if b > a then b else a)=max a b:=by split<;>omega
  refine ⟨.int k (max a b),?_,.int _ _⟩
  rw [<-hm]
  simp only [execOp,ho,resolve,invoke,builtin,Sem.run_bind,Sem.run_pure,Result.andThen_ok,map_toArray,map_cons,map_nil,e1.int_inv,e2.int_inv]
  rfl
theorem ys2 {T:Array TypeId}{k':IntKind}{a b:Int}(ho:o.op=.call { callee:=.builtin .min,args:=#[x,y],argTypes:=T })(hd:dok cx o=true)(hxo:z0r x=true)(hyo:z0r y=true)(hx:σ.eval x=.int k a)(hy:σ.eval y=.int k' b):z11 cx o σ (.int k (min a b)) [] [] :=
 z14 hd fun τ γ ac w h1 h2 hst=>by
  have e1:=hst.ev x hxo
  rw [h1 x (by simp [ho,Op.operands,Call.operands]),hx] at e1
  have e2:=hst.ev y hyo
  rw [h1 y (by simp [ho,Op.operands,Call.operands]),hy] at e2
  have hm:(if b<a then b else a)=min a b:=by split<;>omega
  refine ⟨.int k (min a b),?_,.int _ _⟩
  rw [<-hm]
  simp only [execOp,ho,resolve,invoke,builtin,Sem.run_bind,Sem.run_pure,Result.andThen_ok,map_toArray,map_cons,map_nil,e1.int_inv,e2.int_inv]
  rfl
end
end Go.Proofs.YtidhlpjgifoneaaGreat
