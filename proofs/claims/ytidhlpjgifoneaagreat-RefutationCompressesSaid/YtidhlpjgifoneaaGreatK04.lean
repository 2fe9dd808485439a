/- The abstract walk, fifth part. -/
import Derived.Test.YtidhlpjgifoneaaGreatK03
set_option linter.unusedVariables false
set_option linter.unusedSimpArgs false
namespace Go.Proofs.YtidhlpjgifoneaaGreat
open Go.RowKit List
open _root_.Array renaming getD_eq_getD_getElem?->aA,getElem?_eq_getElem->aD,getElem?_extract->aS,getD->aY
open Nat renaming eq_of_beq_eq_true->aB,mul_le_mul_right->aC,le_refl->aM,add_assoc->aQ,succ_mul->bA,beq->bC,add_zero->bD
open Option renaming map_eq_some_iff->aE
open List renaming getElem_drop->aF,getElem_take->aG,range->aH,getD_eq_getElem?_getD->aJ,length_drop->aK,getElem_append_left->aL,getElem_map->aO,length_take->aP,getElem_range->aR,getElem?_append_right->aT,getElem?_append_left->aU,getElem_append_right->aV,getElem?_take_of_lt->aW,getElem?_eq_getElem->aX,getElem?_map->bB
open Option.some renaming injEq->aN
theorem Zg (P:Program)(w:World)(e:TypeId)(cs:Array Value):(newRow e cs).run P w=.ok ⟨w.heap.size,0,none⟩ (w.alloc (.cells cs e)):=by
 rfl
section
variable {cx:Cx} {o:Oper} {σ:AS}
def AV.ids:AV->List Nat |.ptr id _=>[id] |.row id=>[id] |.elt id _ _ _=>[id] |.der _ id=>[id] |_=>[]
def okc (σ:AS):AV->Bool
 |.any=>false
 |.tup _=>false
 |.ptr id _=>match σ.find id with|some (.box _ _)=>true|_=>false
 |.row id=>match σ.find id with|some (.row _ _ _)=>true|some (.mp _)=>true|_=>false
 |.elt _ _ _ _=>false
 |.der _ _=>false
 |_=>true
variable {w:World}{av:AV}
theorem X8 {cx:Cx}{γ:Gam}{τ σ:AS}{a:Act}(h:StG cx γ τ a w){v:Value}(q:Rep w (Sg cx.S0 cx.w0.heap.size γ) γ av v)(l:okc σ av=true)(n:∀ id∈av.ids,τ.find id=σ.find id) :
  v.cells.size=av.cells.length/\(∀ i (hi:i<av.cells.length),Rep w (Sg cx.S0 cx.w0.heap.size γ) γ av.cells[i] (v.cells.getD i undef))/\∀ i,i<v.cells.size->(v.cells.getD i undef).oneCell'=true:=by
 have single:av.cells=[av]->v.oneCell'=true->v.cells.size=av.cells.length/\(∀ i (hi:i<av.cells.length),Rep w (Sg cx.S0 cx.w0.heap.size γ) γ av.cells[i] (v.cells.getD i undef))/\∀ i,i<v.cells.size->(v.cells.getD i undef).oneCell'=true:=by
  intro z h1;have m:v.cells=#[v]:=by cases v<;>first|rfl|simp [Value.oneCell'] at h1
  refine ⟨by rw [m,z];rfl,fun i hi=>?_,fun i hi=>?_⟩
  ·have p:i=0:=by rw [z] at hi;simpa using hi
   subst p;simp only [z,m];exact q
  ·have p:i=0:=by rw [m] at hi;simpa using hi
   subst p;simp only [m];exact h1
 cases av with
 |any=>simp [okc] at l
 |tup cs=>simp [okc] at l
 |elt id sz k j=>simp [okc] at l
 |der C id=>simp [okc] at l
 |agg cs =>
  obtain ⟨vs,rfl,B,A,h1⟩:=q.agg_inv;exact ⟨B,A,h1⟩
 |ptr id off =>
  have u:=n id (by simp [AV.ids]);have b:=h.me id;simp only [okc] at l;split at l
  ·rename_i ty cs d;rw [u,d] at b;obtain ⟨x,r,g,vs,c,_⟩:=b;subst c;have:=q.ptr_inv r;exact single rfl (by rw [this];rfl)
  ·cases l
 |row id =>
  have u:=n id (by simp [AV.ids]);have b:=h.me id;simp only [okc] at l;split at l
  ·rename_i ty sz xs d;rw [u,d] at b;obtain ⟨x,r,s,vs,c,t,_⟩:=b;subst c;have:=q.row_inv r;exact single rfl (by rw [this];exact t)
  ·rename_i D d;rw [u,d] at b;obtain ⟨x,r,g,c,_⟩:=b;subst c;have:=q.row_inv r;exact single rfl (by rw [this];rfl)
  ·cases l
 |_=>exact single rfl (q.one rfl)
variable {T:Nat}{i:TyI}
theorem y3w {d:Nat}(r:o.op=.alloc T)(t:o.dst=some d)(A:dok cx o=true)(B:lkT cx.E.tab T=some i)(z:σ.find d=none)(q:i.zero.cells.all (·.oneCell')=true) :
  Aj cx o σ (.ptr d 0) [d] [(d,.box T (i.zero.cells.toList.map AV.ofV))]:=by
 refine ⟨fun id e p=>?_,fun τ h1 D a w Q K ⟨γ,l⟩ C=>C5 (fun c u=>by rw [r] at u;cases u) ?_⟩
 ·simp only [lkE] at p;cases v:bC d id with
  |true=>simp [aB v]
  |false=>rw [v] at p;cases p
 have m:=cx.E.ok T i B;have b:(execOp a.eval o).run cx.P w=.ok (.value (.pointer (some ⟨w.heap.size,0,none⟩))) (w.alloc (.cells i.zero.cells T)):=by
  simp [execOp,r,Instr.alloc,m.zeroV,newVar,Zg,pure]
 unfold Oper.wp;rw [b];refine C _ _ ⟨_,l.name (id:=d) (g:=w.heap.size) (s:=.slice none 0 0) (e:=.box T (i.zero.cells.toList.map AV.ofV)) (C0 A) (by rw [D d (by simp)];exact z) ((Below.refl _ _).alloc (aM _) _) (aM _) (by simp) ?_ ?_⟩
 ·refine ⟨w.heap.size,i.zero.cells,rfl,Blk.new w _ _,by simp,fun j h=>?_,fun j h=>?_⟩
  ·have n:j<i.zero.cells.size:=by simpa using h
   have:i.zero.cells.getD j undef=i.zero.cells[j]:=by simp [aY,n]
   simp only [aO,Array.getElem_toList,this];exact O9 _ _ _ _
  ·have:i.zero.cells.getD j undef=i.zero.cells[j]:=by simp [aY,h]
   rw [this];simp only [Array.all_eq_true] at q;exact q j h
 ·exact .ptr (Gam.set_self _ _ _) (fun g s e=>by injection e with e;injection e with e _;injection e with e;rw [e])
variable {x:Operand}
theorem y8g {d:Nat}(A:o.op=.box T x)(F:o.dst=some d)(I:dok cx o=true)(z:A7 x=true)(p:σ.eval x=av)(v:okc σ av=true)(E:σ.find d=none) :
  Aj cx o σ (.ptr d 0) (d::av.ids) [(d,.box T av.cells)]:=by
 refine ⟨fun id e C=>?_,fun τ h1 u a w Q K ⟨γ,h⟩ J=>C5 (fun c v=>by rw [A] at v;cases v) ?_⟩
 ·simp only [lkE] at C;cases t:bC d id with
  |true=>simp [aB t]
  |false=>rw [t] at C;cases C
 have r:=h.ev x z;rw [h1 x (by simp [A,Op.operands]),p] at r;obtain ⟨N,M,L⟩:=X8 h r v (fun id l=>u id (by simp [l]));have q:(execOp a.eval o).run cx.P w=.ok (.value (.pointer (some ⟨w.heap.size,0,none⟩))) (w.alloc (.cells (a.eval x).cells T)):=by
  simp [execOp,A,Instr.box,newVar,Zg,pure]
 unfold Oper.wp;rw [q];have n:γ d=none:=by have:=h.me d;rw [u d (by simp),E] at this;exact this
 have m:Below w.heap.size w (w.alloc (.cells (a.eval x).cells T)):=(Below.refl _ _).alloc (aM _) _;refine J _ _ ⟨_,h.name (id:=d) (g:=w.heap.size) (s:=.slice none 0 0) (e:=.box T av.cells) (C0 I) (by rw [u d (by simp)];exact E) m (aM _) (by simp) ?_ ?_⟩
 ·refine ⟨w.heap.size,(a.eval x).cells,rfl,Blk.new w _ _,N,fun j H=>?_,L⟩;refine ((M j H).mono m.size (fun b D B=>⟨m.block b B,?_⟩)).gam (fun id x p=>Or.inl ?_)
  ·rcases D with D|⟨h1,u⟩
   ·exact Or.inl D
   ·refine Or.inr ⟨h1,fun ⟨i,G,hi,t⟩=>?_⟩;by_cases l:i=d
    ·subst l;rw [Gam.set_self] at hi;injection hi with hi;subst hi;have:=Od rfl t;omega
    ·rw [Gam.set_ne _ _ _ l] at hi;exact u ⟨i,G,hi,t⟩
  ·rw [Gam.set_ne]
   ·exact p
   ·rintro rfl;rw [n] at p;cases p
 ·exact .ptr (Gam.set_self _ _ _) (fun g s e=>by injection e with e;injection e with e _;injection e with e;rw [e])
variable {P:Program}{fs:List (Nat×Nat×Option Bool)}
theorem Zq {T:TypeId}(h:TyOk P T i)(b:i.shape=.strct fs):∃ Fs,P.underlying T=some (.struct Fs)/\fs=Fs.toList.map fun f=>(f.offset,P.cellsOf f.type,aggT P f.type):=by
 obtain ⟨d,c,a⟩:=h.und;rw [b] at a;cases d<;>simp only [Dx,E2.strct.injEq,reduceCtorEq] at a;exact ⟨_,c,a.symm⟩
variable {f fo fsz:Nat}{ag:Option Bool}
theorem zag {T:TypeId}(h:TyOk P T i)(q:i.shape=.strct fs)(p:fs[f]? = some (fo,fsz,ag))(m:fsz≠0)(b off:Nat)(w:World) :
  (Instr.fieldAt T (.pointer (some ⟨b,off,none⟩)) f).run P w=.ok (.pointer (some ⟨b,off+fo,none⟩)) w:=by
 obtain ⟨Fs,r,rfl⟩:=Zq h q;simp only [bB,aE,Prod.mk.injEq] at p;obtain ⟨fd,l,h1,c,_⟩:=p;have d:Fs[f]? = some fd:=by simpa using l
 have g:∃ info,P.info? fd.type=some info/\info.size=fsz:=by
  unfold Program.cellsOf at c;cases n:P.info? fd.type with
  |none=>rw [n] at c;simp at c;exact absurd c.symm m
  |some info=>rw [n] at c;simp at c;exact ⟨info,rfl,c⟩
 obtain ⟨info,hi,j⟩:=g;have a:(sizeOf fd.type).run P w=.ok fsz w:=by simp [sizeOf,typeInfo,hi,j]
 simp [Instr.fieldAt,run_underlying r,d,Instr.sureAddr,fieldPlace,a,m,pure,Addr.add_lit,h1]
variable {id off:Nat}{ty:TypeId}{cs:List AV}
theorem zpr (n:o.op=.fieldAddr T x f)(v:dok cx o=true)(l:A7 x=true)(q:σ.eval x=.ptr id off)(z:lkT cx.E.tab T=some i)(r:i.shape=.strct fs)(u:fs[f]? = some (fo,fsz,ag))
  (p:fsz≠0) (t:σ.find id=some (.box ty cs)):Aj cx o σ (.ptr id (off+fo)) [id] [] :=
 B8 v fun τ γ a w h1 A b=>by
  have h:=b.ev x l;rw [h1 x (by simp [n,Op.operands]),q] at h;have c:=b.me id;rw [A id (by simp),t] at c;obtain ⟨d,j,g,vs,m,_⟩:=c;subst m;have e:=h.ptr_inv j;refine ⟨.pointer (some ⟨g,off+fo,none⟩),?_,.ptr j (fun B s e=>by injection e with e;injection e with e _;injection e with e;rw [e])⟩;simp [execOp,n,e,zag (cx.E.ok T i z) r u p,pure]
theorem zds {sz k j:Nat}{xs:List AV}(r:o.op=.fieldAddr T x f)(B:dok cx o=true)(n:A7 x=true)(u:σ.eval x=.elt id sz k j)(C:lkT cx.E.tab T=some i)(v:i.shape=.strct fs)(A:fs[f]? = some (fo,fsz,ag))
  (t:fsz≠0) (z:σ.find id=some (.row ty sz xs)) (G:k<xs.length):Aj cx o σ (.elt id sz k (j+fo)) [id] [] :=
 B8 B fun τ γ a w h1 D c=>by
  have m:=c.ev x n;rw [h1 x (by simp [r,Op.operands]),u] at m;have l:=c.me id;rw [D id (by simp),z] at l;obtain ⟨d,b,s,vs,q,_,h,_⟩:=l;subst q;have p:∃ g,s.ownBlock=some g:=by
   rcases h.2 with ⟨rfl,H⟩|⟨g,F,E,rfl,_⟩
   ·omega
   ·exact ⟨g,rfl⟩
  obtain ⟨g,p⟩:=p;rw [p] at b;have e:=m.elt_inv b;refine ⟨.pointer (some ⟨g,k*sz+(j+fo),none⟩),?_,.elt b (fun I s e=>by injection e with e;injection e with e _;injection e with e;rw [e])⟩;simp [execOp,r,e,zag (cx.E.ok T i C) v A t,pure,aQ]
theorem zc3 {S:Nat->Prop}{γ:Gam}{b k:Nat}{cell:Nat->Value}(h:S b)(g:b<w.heap.size)(d:∀ j,j<cs.length->w.cell? ⟨b,off+j,none⟩=some (cell j))(c:∀ j (a:j<cs.length),Rep w S G0 cs[j] (cell j))
  (h1:∀ j,j<cs.length->(cell j).oneCell'=true):Rep w S γ (.ref (cs.drop k)) (.pointer (some ⟨b,off+k,none⟩)):=by
 refine .ref b (off+k) (fun j=>cell (k+j)) h g (fun j a=>?_) (fun j a=>?_) (fun j a=>?_)
 ·rw [aK] at a;have:=d (k+j) (by omega)
  rwa [<-aQ] at this
 ·rw [aK] at a;rw [aF];exact c (k+j) (by omega)
 ·rw [aK] at a;exact h1 (k+j) (by omega)
theorem zdr (j:o.op=.fieldAddr T x f)(r:dok cx o=true)(d:A7 x=true)(m:σ.eval x=.ref cs)(u:lkT cx.E.tab T=some i)(n:i.shape=.strct fs)(q:fs[f]? = some (fo,fsz,ag))
  (l:fsz≠0):Aj cx o σ (.ref (cs.drop fo)) [] [] :=
 B8 r fun τ γ a w h1 z g=>by
  have c:=g.ev x d;rw [h1 x (by simp [j,Op.operands]),m] at c;obtain ⟨b,off,e,v,t,cell,s,p,h⟩:=c.ref_inv;refine ⟨.pointer (some ⟨b,off+fo,none⟩),?_,zc3 v t s p h⟩;simp [execOp,j,e,zag (cx.E.ok T i u) n q l,pure]
theorem W8 {T:TypeId}(h:TyOk P T i)(c:i.shape.agg=true)(w:World)(ad:Addr)(cs:List Value)(a:cs.length=i.sz)(b:∀ j v,cs[j]? = some v->w.cell? (ad.add j)=some v):(loadVar T ad).run P w=.ok (.agg cs.toArray) w:=by
 have:=run_loadCells_list (P:=P) w ad cs b;rw [a] at this;simp [loadVar,h.agg,c,h.size,this,pure]
theorem N8 {T:TypeId}(h:TyOk P T i)(b:i.shape.agg=false)(w:World)(ad:Addr)(v:Value)(a:w.cell? ad=some v):(loadVar T ad).run P w=.ok v w:=by
 simp [loadVar,h.agg,b,load,Sem.run,a]
theorem O0 {g:Nat}{vs:Array Value}(h:Blk w g ty vs)(j:Nat)(a:j<vs.size):w.cell? ⟨g,j,none⟩=some (vs.getD j undef):=by
 rw [h.cell,aD a];simp [aY,a]
theorem zuk (A:o.op=.load T x)(F:dok cx o=true)(s:A7 x=true)(B:σ.eval x=.ptr id off)(I:lkT cx.E.tab T=some i)(H:i.shape.agg=true)(E:σ.find id=some (.box ty cs))(K:off+i.sz<=cs.length) :
  Aj cx o σ (.agg ((cs.drop off).take i.sz)) [id] [] :=
 B8 F fun τ γ a w h1 J h=>by
  have r:=h.ev x s;rw [h1 x (by simp [A,Op.operands]),B] at r;have n:=h.me id;rw [J id (by simp),E] at n;obtain ⟨d,z,g,vs,u,G,C,D,m⟩:=n;subst u;have e:=r.ptr_inv z;have b:((aH i.sz).map fun j=>vs.getD (off+j) undef).length=i.sz:=by simp
  have l:=W8 (cx.E.ok T i I) H w ⟨g,off,none⟩ ((aH i.sz).map fun j=>vs.getD (off+j) undef) b (fun j v q=>by
   obtain ⟨t,p⟩:=List.getElem?_eq_some_iff.1 q;rw [b] at t;simp only [aO,aR] at p;rw [Addr.add_lit,O0 G _ (by omega),p])
  refine ⟨.agg ((aH i.sz).map fun j=>vs.getD (off+j) undef).toArray,by simp only [execOp,A,e,Instr.loadAt,Instr.sureAddr,Sem.run_bind,Sem.run_pure,Result.andThen_ok,l],.agg _ (by simp;omega) (fun j q=>?_) (fun j q=>?_)⟩
  ·rw [aP,aK] at q;simp only [aG,aF];have:((aH i.sz).map fun j=>vs.getD (off+j) undef).toArray.getD j undef=vs.getD (off+j) undef:=by
    have c:j<i.sz:=by omega
    simp [c]
   rw [this];exact D (off+j) (by omega)
  ·have c:j<i.sz:=by simpa using q
   have:((aH i.sz).map fun j=>vs.getD (off+j) undef).toArray.getD j undef=vs.getD (off+j) undef:=by
    simp [c]
   rw [this];exact m _ (by omega)
theorem zui (s:o.op=.load T x)(A:dok cx o=true)(l:A7 x=true)(t:σ.eval x=.ptr id off)(E:lkT cx.E.tab T=some i)(D:i.shape.agg=false)(z:σ.find id=some (.box ty cs))(B:cs[off]? = some av) :
  Aj cx o σ av [id] [] :=
 B8 A fun τ γ a w h1 F b=>by
  have j:=b.ev x l;rw [h1 x (by simp [s,Op.operands]),t] at j;have h:=b.me id;rw [F id (by simp),z] at h;obtain ⟨d,p,g,vs,n,C,u,v,r⟩:=h;subst n;have e:=j.ptr_inv p;obtain ⟨m,q⟩:=List.getElem?_eq_some_iff.1 B;have c:=N8 (cx.E.ok T i E) D w ⟨g,off,none⟩ (vs.getD off undef) (O0 C off (by omega));refine ⟨vs.getD off undef,by simp only [execOp,s,e,Instr.loadAt,Instr.sureAddr,Sem.run_bind,Sem.run_pure,Result.andThen_ok,c],?_⟩;have:=v off m
  rwa [q] at this
theorem zfp (s:o.op=.load T x)(z:dok cx o=true)(n:A7 x=true)(t:σ.eval x=.ref cs)(C:lkT cx.E.tab T=some i)(B:i.shape.agg=true)(D:i.sz<=cs.length) :
  Aj cx o σ (.agg (cs.take i.sz)) [] [] :=
 B8 z fun τ γ a w h1 G p=>by
  have m:=p.ev x n;rw [h1 x (by simp [s,Op.operands]),t] at m;obtain ⟨b,off,e,F,E,cell,A,u,r⟩:=m.ref_inv;have c:((aH i.sz).map cell).length=i.sz:=by simp
  have g:=W8 (cx.E.ok T i C) B w ⟨b,off,none⟩ ((aH i.sz).map cell) c (fun j v l=>by
   obtain ⟨q,h⟩:=List.getElem?_eq_some_iff.1 l;rw [c] at q;simp only [aO,aR] at h;rw [Addr.add_lit,A _ (by omega),h])
  refine ⟨.agg ((aH i.sz).map cell).toArray,by simp only [execOp,s,e,Instr.loadAt,Instr.sureAddr,Sem.run_bind,Sem.run_pure,Result.andThen_ok,g],.agg _ (by simp;omega) (fun j l=>?_) (fun j l=>?_)⟩
  ·rw [aP] at l;simp only [aG];have:((aH i.sz).map cell).toArray.getD j undef=cell j:=by
    have d:j<i.sz:=by omega
    simp [d]
   rw [this];exact (u j (by omega)).open_
  ·have d:j<i.sz:=by simpa using l
   have:((aH i.sz).map cell).toArray.getD j undef=cell j:=by simp [d]
   rw [this];exact r _ (by omega)
theorem zfo (j:o.op=.load T x)(n:dok cx o=true)(g:A7 x=true)(l:σ.eval x=.ref (av::cs))(r:lkT cx.E.tab T=some i)(q:i.shape.agg=false) :
  Aj cx o σ av [] [] :=
 B8 n fun τ γ a w h1 v h=>by
  have d:=h.ev x g;rw [h1 x (by simp [j,Op.operands]),l] at d;obtain ⟨b,off,e,u,t,cell,p,m,s⟩:=d.ref_inv;have c:=N8 (cx.E.ok T i r) q w ⟨b,off,none⟩ (cell 0) (by simpa using p 0 (by simp));exact ⟨cell 0,by simp only [execOp,j,e,Instr.loadAt,Instr.sureAddr,Sem.run_bind,Sem.run_pure,Result.andThen_ok,c],(m 0 (by simp)).open_⟩
theorem Wh {T:TypeId}(h:TyOk P T i)(w:World)(g off:Nat)(ty:TypeId)(vs:Array Value)(v:Value)(c:Blk w g ty vs)(a:v.cells.size=i.sz)(b:off+i.sz<=vs.size)(h1:∀ u∈v.cells.toList,u.oneCell'=true) :
  (storeVar T ⟨g,off,none⟩ v).run P w=.ok () (w.setRow g (vs.toList.take off++v.cells.toList++vs.toList.drop (off+i.sz)).toArray):=by
 have:=run_storeCells_at P g off ty v.cells.toList 0 vs w c (by simp [a];omega) h1;simp only [bD,Array.length_toList,a] at this;simp [storeVar,h.size,a,this]
theorem y3r {y:Operand}{z:List AV}(ho:o.op=.store T x y)(hd:dok cx o=true)(ab:A7 x=true)(aa:A7 y=true)(hx:σ.eval x=.ptr id off)(hy:σ.eval y=av)(hT:lkT cx.E.tab T=some i)(hl:σ.find id=some (.box ty cs))(hn:off+i.sz<=cs.length)
  (ak:av.cells.length=i.sz) (hc:okc σ av=true) (U:cs.take off++av.cells++cs.drop (off+i.sz)=z):Aj cx o σ (.tup []) (id::av.ids) [(id,.box ty z)]:=by
 refine ⟨fun p e he=>?_,fun τ h1 n a w Q K ⟨γ,l⟩ hK=>C5 (fun c hc=>by rw [ho] at hc;cases hc) ?_⟩
 ·simp only [lkE] at he;cases Y:bC id p with
  |true=>simp [aB Y]
  |false=>rw [Y] at he;cases he
 have S:=l.ev x ab;rw [h1 x (by simp [ho,Op.operands]),hx] at S;have C:=l.ev y aa;rw [h1 y (by simp [ho,Op.operands]),hy] at C;have M:=l.me id;rw [n id (by simp),hl] at M;obtain ⟨d,t,g,vs,ai,Y,al,hr,A⟩:=M;subst ai;have e:=S.ptr_inv t;obtain ⟨c1,c2,c3⟩:=X8 l C hc (fun id F=>n id (by simp [F]));have D:∀ u∈(a.eval y).cells.toList,u.oneCell'=true:=fun u hu=>by
  obtain ⟨j,B,rfl⟩:=mem_iff_getElem.1 hu;have N:j<(a.eval y).cells.size:=by simpa using B
  have:=c3 j N;simpa [aY,N] using this
 have I:=Wh (cx.E.ok T i hT) w g off ty vs (a.eval y) Y (c1.trans ak) (by omega) D;unfold Oper.wp;have af:(execOp a.eval o).run cx.P w=.ok .skip (w.setRow g (vs.toList.take off++(a.eval y).cells.toList++vs.toList.drop (off+i.sz)).toArray):=by
  simp only [execOp,ho,e,Instr.storeAt,Instr.sureAddr,Sem.run_bind,Sem.run_pure,Result.andThen_ok,I]
 rw [af];have X:=setRow_heap w g vs (vs.toList.take off++(a.eval y).cells.toList++vs.toList.drop (off+i.sz)).toArray ty (0,0) Y;have m:∀ k,k≠g->(w.setRow g (vs.toList.take off++(a.eval y).cells.toList++vs.toList.drop (off+i.sz)).toArray).heap[k]? = w.heap[k]? := fun k hk=>setRow_other w g k _ hk
 have G:own γ g:=own.mk t;have R:=l.ge g G;have J:∀ b,Sg cx.S0 cx.w0.heap.size γ b->b≠g:=fun b H e=>by
  subst e;rcases H with ⟨_,h⟩|⟨_,h⟩
  ·have:=R.1.1;omega
  ·exact h G
 generalize q:w.setRow g (vs.toList.take off++(a.eval y).cells.toList++vs.toList.drop (off+i.sz)).toArray=w' at *;have hz:w.heap.size<=w'.heap.size:=by rw [<-q];simp
 have ah:w.drawn<=w'.drawn:=by rw [<-q];exact aM _
 refine hK _ _ ⟨γ,l.step (C0 hd) hz (fun b H am=>⟨m b (J b H),H⟩) (fun id d h=>Or.inl h) (fun p O=>⟨rfl,fun g' s ae ad=>m g' ?_⟩) (fun p e' r=>?_) l.inj (fun b W=>⟨(l.ge b W).1,Nat.lt_of_lt_of_le (l.ge b W).2 hz⟩) ?_ (.tup #[] rfl (fun i hi=>by simp at hi)) (fun b L _=>⟨m b (fun e=>L (e▸G)),L⟩) (fun _=>ah)⟩
 ·rintro rfl;have:=l.inj _ _ _ _ _ ae t ad C1;subst this;simp [lkE] at O
 ·have F:p=id:=by
   simp only [lkE] at r;cases V:bC id p with
   |true=>exact (aB V).symm
   |false=>rw [V] at r;cases r
  subst F;simp only [lkE,Nat.beq_refl,aN] at r;subst r;have E:∀ {av v},Rep w (Sg cx.S0 cx.w0.heap.size γ) γ av v->Rep w' (Sg cx.S0 cx.w0.heap.size γ) γ av v:=fun h=>h.mono hz (fun b H _=>⟨m b (J b H),H⟩)
  have an:z.length=cs.length:=by rw [<-U];simp;omega
  have ac:(vs.toList.take off++(a.eval y).cells.toList++vs.toList.drop (off+i.sz)).toArray.size=vs.size:=by
   simp;omega
  have Z:∀ j (B:j<cs.length),(vs.toList.take off++(a.eval y).cells.toList++vs.toList.drop (off+i.sz)).toArray.getD j undef=if j<off then vs.getD j undef else if j<off+i.sz then (a.eval y).cells.getD (j-off) undef else vs.getD j undef:=fun j B=>by
   simp only [aA,getElem?_toArray];congr 1;by_cases h1:j<off
   ·rw [if_pos h1];rw [append_assoc,aU (by simp;omega),aW h1];simp
   ·rw [if_neg h1];by_cases n:j<off+i.sz
    ·rw [if_pos n,append_assoc,aT (by simp;omega),aU (by simp;omega)];rw [show j-(List.take off vs.toList).length=j-off by simp;omega];simp
    ·rw [if_neg n,aT (by simp;omega),getElem?_drop];rw [show off+i.sz+(j-(List.take off vs.toList++(a.eval y).cells.toList).length)=j by simp;omega];simp
  refine ⟨_,t,g,_,rfl,X,by omega,fun j B=>?_,fun j B=>?_⟩
  ·rw [Z j (by omega)];have aj:z[j]=if h1:j<off then cs[j]'(by omega) else if n:j<off+i.sz then av.cells[j-off]'(by omega) else cs[j]'(by omega):=by
    subst U;by_cases h1:j<off
    ·rw [dif_pos h1,aL (by simp;omega),aL (by simp;omega),aG]
    ·rw [dif_neg h1];by_cases n:j<off+i.sz
     ·rw [dif_pos n,aL (by simp;omega),aV (by simp;omega)];congr 1;simp;omega
     ·rw [dif_neg n,aV (by simp;omega),aF];congr 1;simp;omega
   rw [aj];by_cases h1:j<off
   ·rw [if_pos h1,dif_pos h1];exact E (hr j (by omega))
   ·rw [if_neg h1,dif_neg h1];by_cases n:j<off+i.sz
    ·rw [if_pos n,dif_pos n];exact E (c2 (j-off) (by omega))
    ·rw [if_neg n,dif_neg n];exact E (hr j (by omega))
  ·rw [ac] at B;rw [Z j (by omega)];by_cases h1:j<off
   ·rw [if_pos h1];exact A j B
   ·rw [if_neg h1];by_cases n:j<off+i.sz
    ·rw [if_pos n];exact c3 (j-off) (by omega)
    ·rw [if_neg n];exact A j B
 ·refine l.below.trans ⟨by rw [<-q];rfl,by rw [<-q];rfl,by rw [<-q];rfl,hz,fun k hk=>m k (by have:=R.1.1;omega)⟩
end
variable {i:TyI}{e esz eb:Nat}
theorem Cn {P:Program}{T:TypeId}(h:TyOk P T i)(b:i.shape=.slc e esz eb):P.underlying T=some (.slice e)/\P.cellsOf e=esz/\P.bytesOf e=eb:=by
 obtain ⟨d,c,a⟩:=h.und;rw [b] at a;cases d<;>simp only [Dx,E2.slc.injEq,reduceCtorEq] at a;obtain ⟨rfl,j,g⟩:=a;exact ⟨c,j,g⟩
theorem Du {P:Program}(h:P.cellsOf e=esz)(b:esz≠0)(w:World):(sizeOf e).run P w=.ok esz w:=by
 unfold Program.cellsOf at h;cases a:P.info? e with
 |none=>rw [a] at h;simp at h;exact absurd h.symm b
 |some info=>rw [a] at h;simp at h;simp [sizeOf,typeInfo,a,h]
section
variable {cx:Cx} {o:Oper} {σ:AS}
variable {T:Nat}{x y:Operand}{sz:Nat}{xs:List AV}{k:IntKind}{el:AV}
theorem zfs {n:Int}{m:Nat}(t:o.op=.indexAddr T x y)(M:dok cx o=true)(s:A7 x=true)(r:A7 y=true)(F:σ.eval x=.sl sz xs)(E:σ.eval y=.int k n)
  (O:lkT cx.E.tab T=some i) (H:i.shape=.slc e sz eb) (D:sz≠0) (J:n=(m:Int)) (L:xs[m]? = some el):Aj cx o σ (.ref el.cells) [] [] :=
 B8 M fun τ γ a w h1 U l=>by
  have q:=l.ev x s;rw [h1 x (by simp [t,Op.operands]),F] at q;have d:=l.ev y r;rw [h1 y (by simp [t,Op.operands]),E] at d;obtain ⟨hm,g⟩:=List.getElem?_eq_some_iff.1 L;obtain ⟨A,c,R,S,p,cell,N,I,C⟩:=q.sl_inv;obtain ⟨b,off,rfl,Q,u,h⟩:=N (by omega);obtain ⟨G,B,_⟩:=Cn (cx.E.ok T i O) H;have K:=p m hm;rw [g] at K;refine ⟨.pointer (some ⟨b,off+m*sz,none⟩),?_,.ref b (off+m*sz) (fun j=>cell m j) Q u (fun j z=>?_) (fun j z=>?_) (fun j z=>C m j)⟩
  ·subst J;simp [execOp,t,R,d.int_inv,Instr.indexAt,asIntOf,run_underlying G,Du B D,hm,pure,Addr.add_lit]
  ·have:=h m j hm (by omega)
   rwa [<-aQ] at this
  ·have v:j<(xs[m]).cells.length:=by rw [g];exact z
   have:=I m hm j v;simp only [g] at this;exact this
variable {id:Nat}{ty:TypeId}
theorem zdo {n:Int}{m:Nat}(t:o.op=.indexAddr T x y)(G:dok cx o=true)(r:A7 x=true)(q:A7 y=true)(B:σ.eval x=.row id)(A:σ.eval y=.int k n)
  (F:σ.find id=some (.row ty sz xs)) (H:lkT cx.E.tab T=some i) (D:i.shape=.slc e sz eb) (z:sz≠0) (E:n=(m:Int)) (hm:m<xs.length):Aj cx o σ (.elt id sz m 0) [id] [] :=
 B8 G fun τ γ a w h1 I c=>by
  have l:=c.ev x r;rw [h1 x (by simp [t,Op.operands]),B] at l;have b:=c.ev y q;rw [h1 y (by simp [t,Op.operands]),A] at b;have j:=c.me id;rw [I id (by simp),F] at j;obtain ⟨d,p,s,vs,u,_,h,_⟩:=j;subst u;obtain ⟨C,v,_⟩:=Cn (cx.E.ok T i H) D;have J:=l.row_inv p;rcases h.2 with ⟨rfl,M⟩|⟨g,L,K,rfl,_⟩
  ·omega
  refine ⟨.pointer (some ⟨g,m*sz,none⟩),?_,.elt p (fun N s e=>by injection e with e;injection e with e _;simp only [Value.ownBlock,aN] at e;rw [<-e];rfl)⟩;subst E;simp [execOp,t,J,b.int_inv,Instr.indexAt,asIntOf,run_underlying C,Du v z,hm,pure,Addr.add_lit]
theorem Hp {w:World}{B ty n:Nat}{s:Value}{vs:List Value}{g:Nat}(h:w.ownsRow B ty sz s n vs)(a:s.ownBlock=some g)(j:Nat)(p:j<n*sz):w.cell? ⟨g,j,none⟩=some (vs.getD j undef):=by
 obtain ⟨u,h⟩:=h;rcases h with ⟨rfl,z⟩|⟨r,c,b,rfl,v,q,m,hm,t,d⟩
 ·simp [Value.ownBlock] at a
 ·simp only [Value.ownBlock,aN] at a;subst a;have l:n*sz<=c*sz:=aC _ m;rw [cell_of_row w r j b ty (0,0) q,<-d];rw [aJ,aW p];simp only [Array.getElem?_toList];rw [aD (by omega)];rfl
theorem zfr {k:Nat}(I:o.op=.load T x)(Q:dok cx o=true)(D:A7 x=true)(K:σ.eval x=.elt id sz k 0)(S:lkT cx.E.tab T=some i)(R:i.shape.agg=true)(N:σ.find id=some (.row ty sz xs))(L:i.sz=sz)(O:xs[k]? = some el) :
  Aj cx o σ (.agg el.cells) [id] [] :=
 B8 Q fun τ γ a w h1 U m=>by
  have A:=m.ev x D;rw [h1 x (by simp [I,Op.operands]),K] at A;have q:=m.me id;rw [U id (by simp),N] at q;obtain ⟨d,B,s,vs,H,_,b,t,M,p⟩:=q;subst H;obtain ⟨F,h⟩:=List.getElem?_eq_some_iff.1 O;have C:∃ g,s.ownBlock=some g:=by
   rcases b.2 with ⟨rfl,X⟩|⟨g,W,V,rfl,_⟩
   ·omega
   ·exact ⟨g,rfl⟩
  obtain ⟨g,C⟩:=C;rw [C] at B;have e:=A.elt_inv B;have E:=t k F;rw [h] at E;have z:∀ j,j<sz->k*sz+j<xs.length*sz:=fun j l=>by
   have:(k+1)*sz<=xs.length*sz:=aC _ F;rw [bA] at this;omega
  have r:((aH i.sz).map fun j=>vs.getD (k*sz+j) undef).length=i.sz:=by simp
  have n:=W8 (cx.E.ok T i S) R w ⟨g,k*sz+0,none⟩ ((aH i.sz).map fun j=>vs.getD (k*sz+j) undef) r (fun j v l=>by
   obtain ⟨G,u⟩:=List.getElem?_eq_some_iff.1 l;rw [r] at G;simp only [aO,aR] at u;rw [Addr.add_lit,bD,Hp b C _ (z j (by omega)),u])
  refine ⟨.agg ((aH i.sz).map fun j=>vs.getD (k*sz+j) undef).toArray,by simp only [execOp,I,e,Instr.loadAt,Instr.sureAddr,Sem.run_bind,Sem.run_pure,Result.andThen_ok,n],.agg _ (by simp;omega) (fun j l=>?_) (fun j l=>?_)⟩
  ·have:((aH i.sz).map fun j=>vs.getD (k*sz+j) undef).toArray.getD j undef=vs.getD (k*sz+j) undef:=by
    have c:j<i.sz:=by omega
    simp [c]
   rw [this];have c:j<(xs[k]).cells.length:=by rw [h];exact l
   have:=M k F j c;simp only [h] at this;exact this.open_
  ·have c:j<i.sz:=by simpa using l
   have:((aH i.sz).map fun j=>vs.getD (k*sz+j) undef).toArray.getD j undef=vs.getD (k*sz+j) undef:=by simp [c]
   rw [this];have J:k*sz+j<vs.length:=by rw [b.1];exact z j (by omega)
   rw [aJ,aX J];exact p _ (getElem_mem J)
theorem zdl {k J:Nat}(K:o.op=.load T x)(S:dok cx o=true)(F:A7 x=true)(M:σ.eval x=.elt id sz k J)(V:lkT cx.E.tab T=some i)(U:i.shape.agg=true)(Q:σ.find id=some (.row ty sz xs))(N:J+i.sz<=sz)(R:xs[k]? = some el) :
  Aj cx o σ (.agg ((el.cells.drop J).take i.sz)) [id] [] :=
 B8 S fun τ γ a w h1 W n=>by
  have C:=n.ev x F;rw [h1 x (by simp [K,Op.operands]),M] at C;have r:=n.me id;rw [W id (by simp),Q] at r;obtain ⟨d,D,s,vs,I,_,b,u,O,q⟩:=r;subst I;obtain ⟨H,m⟩:=List.getElem?_eq_some_iff.1 R;have E:∃ g,s.ownBlock=some g:=by
   rcases b.2 with ⟨rfl,Z⟩|⟨g,Y,X,rfl,_⟩
   ·omega
   ·exact ⟨g,rfl⟩
  obtain ⟨g,E⟩:=E;rw [E] at D;have e:=C.elt_inv D;have G:=u k H;rw [m] at G;have A:∀ j,j<sz->k*sz+j<xs.length*sz:=fun j c=>by
   have:(k+1)*sz<=xs.length*sz:=aC _ H;rw [bA] at this;omega
  have t:((aH i.sz).map fun j=>vs.getD (k*sz+(J+j)) undef).length=i.sz:=by simp
  have p:=W8 (cx.E.ok T i V) U w ⟨g,k*sz+J,none⟩ ((aH i.sz).map fun j=>vs.getD (k*sz+(J+j)) undef) t (fun j v c=>by
   obtain ⟨h,z⟩:=List.getElem?_eq_some_iff.1 c;rw [t] at h;simp only [aO,aR] at z;rw [Addr.add_lit,aQ,Hp b E _ (A (J+j) (by omega)),z])
  have B:∀ j,j<i.sz->((aH i.sz).map fun j=>vs.getD (k*sz+(J+j)) undef).toArray.getD j undef=vs.getD (k*sz+(J+j)) undef:=fun j c=>by simp [c]
  refine ⟨.agg ((aH i.sz).map fun j=>vs.getD (k*sz+(J+j)) undef).toArray,by simp only [execOp,K,e,Instr.loadAt,Instr.sureAddr,Sem.run_bind,Sem.run_pure,Result.andThen_ok,p],.agg _ (by simp;omega) (fun j c=>?_) (fun j c=>?_)⟩
  ·have h:j<i.sz:=by rw [aP] at c;omega
   rw [B j h];have l:J+j<(xs[k]).cells.length:=by rw [m];omega
   have:=O k H (J+j) l;simp only [m] at this;simp only [aG,aF];exact this.open_
  ·have l:j<i.sz:=by simpa using c
   rw [B j l];have L:k*sz+(J+j)<vs.length:=by rw [b.1];exact A (J+j) (by omega)
   rw [aJ,aX L];exact q _ (getElem_mem L)
variable {av:AV}
theorem zfq {k j:Nat}(E:o.op=.load T x)(K:dok cx o=true)(t:A7 x=true)(F:σ.eval x=.elt id sz k j)(N:lkT cx.E.tab T=some i)(M:i.shape.agg=false)(H:σ.find id=some (.row ty sz xs))(J:xs[k]? = some el)(L:el.cells[j]? = some av) :
  Aj cx o σ av [id] [] :=
 B8 K fun τ γ a w h1 O h=>by
  have p:=h.ev x t;rw [h1 x (by simp [E,Op.operands]),F] at p;have m:=h.me id;rw [O id (by simp),H] at m;obtain ⟨d,q,s,vs,B,_,b,n,G,D⟩:=m;subst B;obtain ⟨v,c⟩:=List.getElem?_eq_some_iff.1 J;obtain ⟨I,C⟩:=List.getElem?_eq_some_iff.1 L;have r:∃ g,s.ownBlock=some g:=by
   rcases b.2 with ⟨rfl,S⟩|⟨g,R,Q,rfl,_⟩
   ·omega
   ·exact ⟨g,rfl⟩
  obtain ⟨g,r⟩:=r;rw [r] at q;have e:=p.elt_inv q;have u:=n k v;rw [c] at u;have A:k*sz+j<xs.length*sz:=by
   have:(k+1)*sz<=xs.length*sz:=aC _ v;rw [bA] at this;omega
  have l:=N8 (cx.E.ok T i N) M w ⟨g,k*sz+j,none⟩ _ (Hp b r _ A);refine ⟨vs.getD (k*sz+j) undef,by simp only [execOp,E,e,Instr.loadAt,Instr.sureAddr,Sem.run_bind,Sem.run_pure,Result.andThen_ok,l],?_⟩;have z:j<(xs[k]).cells.length:=by rw [c];exact I
  have:=G k v j z;simp only [c,C] at this;exact this.open_
theorem getElem?_of_getD {vs:Array Value}{j:Nat}(h:j<vs.size):vs[j]? = some (vs.getD j undef):=by
 rw [aA,aD h];rfl
variable {fs:List (Nat×Nat×Option Bool)}{cs:List AV}
theorem zpp {f fo fsz:Nat}(q:o.op=.field T x f)(v:dok cx o=true)(h:A7 x=true)(s:σ.eval x=.agg cs)(A:lkT cx.E.tab T=some i)(t:i.shape=.strct fs)(r:fs[f]? = some (fo,fsz,some false))(z:cs[fo]? = some av) :
  Aj cx o σ av [] [] :=
 B8 v fun τ γ a w h1 G l=>by
  have d:=l.ev x h;rw [h1 x (by simp [q,Op.operands]),s] at d;obtain ⟨vs,e,F,u,C⟩:=d.agg_inv;obtain ⟨Fs,B,rfl⟩:=Zq (cx.E.ok T i A) t;simp only [bB,aE,Prod.mk.injEq] at r;obtain ⟨fd,n,E,H,D⟩:=r;have c:Fs[f]? = some fd:=by simpa using n
  obtain ⟨m,p⟩:=List.getElem?_eq_some_iff.1 z;have g:=Zh D w;have b:=getElem?_of_getD (vs:=vs) (j:=fo) (by omega);refine ⟨vs.getD fo undef,?_,?_⟩
  ·simp only [execOp,q,e,Instr.field,Sem.run_bind,Sem.run_pure,Result.andThen_ok,run_underlying B,c,asAgg,part,g,E,b];rfl
  ·have:=u fo m
   rwa [p] at this
theorem zpq {f fo fsz:Nat}(s:o.op=.field T x f)(A:dok cx o=true)(l:A7 x=true)(g:σ.eval x=.agg cs)(B:lkT cx.E.tab T=some i)(v:i.shape=.strct fs)(t:fs[f]? = some (fo,fsz,some true))(u:fsz≠0)(H:fo+fsz<=cs.length) :
  Aj cx o σ (.agg ((cs.drop fo).take fsz)) [] [] :=
 B8 A fun τ γ a w h1 I n=>by
  have c:=n.ev x l;rw [h1 x (by simp [s,Op.operands]),g] at c;obtain ⟨vs,e,G,z,r⟩:=c.agg_inv;obtain ⟨Fs,C,rfl⟩:=Zq (cx.E.ok T i B) v;simp only [bB,aE,Prod.mk.injEq] at t;obtain ⟨fd,q,F,E,D⟩:=t;have b:Fs[f]? = some fd:=by simpa using q
  have d:=Zh D w;have m:=Du E u w;have g:∀ j,j<fsz->(vs.extract fo (fo+fsz)).getD j undef=vs.getD (fo+j) undef:=fun j h=>by
   rw [aA,aA,aS,if_pos (by omega)]
  refine ⟨.agg (vs.extract fo (fo+fsz)),?_,.agg _ (by simp;omega) (fun j h=>?_) (fun j h=>?_)⟩
  ·simp only [execOp,s,e,Instr.field,Sem.run_bind,Sem.run_pure,Result.andThen_ok,run_underlying C,b,asAgg,part,d,F,if_true,m]
  ·rw [aP,aK] at h;rw [g j (by omega)];simp only [aG,aF];exact z (fo+j) (by omega)
  ·have p:j<fsz:=by simp at h;omega
   rw [g j p];exact r _ (by omega)
theorem zpn {n:Nat}{m:Int}{q:Nat}(t:o.op=.index T x y)(J:dok cx o=true)(s:A7 x=true)(r:A7 y=true)(E:σ.eval x=.agg cs)(D:σ.eval y=.int k m)(L:lkT cx.E.tab T=some i)
  (F:i.shape=.arr n e esz (some false)) (C:esz≠0) (hm:m=(q:Int)) (H:q<n) (K:cs[q*esz]? = some av):Aj cx o σ av [] [] :=
 B8 J fun τ γ a w h1 S g=>by
  have l:=g.ev x s;rw [h1 x (by simp [t,Op.operands]),E] at l;have c:=g.ev y r;rw [h1 y (by simp [t,Op.operands]),D] at c;obtain ⟨vs,N,R,G,M⟩:=l.agg_inv;obtain ⟨d,A,z⟩:=(cx.E.ok T i L).und;rw [F] at z;cases d<;>simp only [Dx,E2.arr.injEq,reduceCtorEq] at z;obtain ⟨I,rfl,Q,O⟩:=z;subst I;obtain ⟨v,B⟩:=List.getElem?_eq_some_iff.1 K;have p:=Zh O w;have h:=getElem?_of_getD (vs:=vs) (j:=q*esz) (by omega);subst hm;have b:=G (q*esz) v;rw [B] at b;generalize vs.getD (q*esz) undef=u at *;exact ⟨u,by simp [execOp,t,N,c.int_inv,Instr.index,asIntOf,run_underlying A,Du Q C,H,part,p,h,pure],b⟩
theorem zpo {n:Nat}{m:Int}{q:Nat}(t:o.op=.index T x y)(H:dok cx o=true)(s:A7 x=true)(r:A7 y=true)(D:σ.eval x=.agg cs)(C:σ.eval y=.int k m)(I:lkT cx.E.tab T=some i)
  (E:i.shape=.arr n e esz (some true)) (B:esz≠0) (hm:m=(q:Int)) (G:q<n) (N:q*esz+esz<=cs.length):Aj cx o σ (.agg ((cs.drop (q*esz)).take esz)) [] [] :=
 B8 H fun τ γ a w h1 O g=>by
  have h:=g.ev x s;rw [h1 x (by simp [t,Op.operands]),D] at h;have b:=g.ev y r;rw [h1 y (by simp [t,Op.operands]),C] at b;obtain ⟨vs,J,M,F,A⟩:=h.agg_inv;obtain ⟨d,z,v⟩:=(cx.E.ok T i I).und;rw [E] at v;cases d<;>simp only [Dx,E2.arr.injEq,reduceCtorEq] at v;obtain ⟨rfl,rfl,L,K⟩:=v;have l:=Zh K w;have c:∀ j,j<esz->(vs.extract (q*esz) (q*esz+esz)).getD j undef=vs.getD (q*esz+j) undef:=fun j p=>by
   rw [aA,aA,aS,if_pos (by omega)]
  subst hm;refine ⟨.agg (vs.extract (q*esz) (q*esz+esz)),?_,.agg _ (by simp;omega) (fun j p=>?_) (fun j p=>?_)⟩
  ·simp [execOp,t,J,b.int_inv,Instr.index,asIntOf,run_underlying z,Du L B,G,part,l,pure]
  ·rw [aP,aK] at p;rw [c j (by omega)];simp only [aG,aF];exact F (q*esz+j) (by omega)
  ·have u:j<esz:=by simp at p;omega
   rw [c j u];exact A _ (by omega)
theorem zwo {ix:Nat}(n:o.op=.extract x ix)(r:dok cx o=true)(g:A7 x=true)(p:σ.eval x=.tup cs)(s:cs[ix]? = some av):Aj cx o σ av [] [] :=
 B8 r fun τ γ a w h1 v h=>by
  have d:=h.ev x g;rw [h1 x (by simp [n,Op.operands]),p] at d;obtain ⟨vs,e,t,q⟩:=d.tup_inv;obtain ⟨l,m⟩:=List.getElem?_eq_some_iff.1 s;have c:=getElem?_of_getD (vs:=vs) (j:=ix) (by omega);have b:=q ix l;rw [m] at b;generalize vs.getD ix undef=u at *;exact ⟨u,by simp [execOp,n,e,Instr.extract,c,pure],b⟩
theorem y0k {ty:Nat}(h:o.op=.call { callee:=.builtin .len,args:=#[x],argTypes:=#[T] })(n:dok cx o=true)(d:A7 x=true)(j:σ.eval x=.sl sz xs)(p:lkT cx.E.tab T=some i)(m:i.shape=.slc e esz eb) :
  Aj cx o σ (.int .i64 (xs.length:Int)) [] [] :=
 B8 n fun τ γ a w h1 r g=>by
  have b:=g.ev x d;rw [h1 x (by simp [h,Op.operands,Call.operands]),j] at b;obtain ⟨A,c,q,_⟩:=b.sl_inv;obtain ⟨l,_,_⟩:=Cn (cx.E.ok T i p) m;exact ⟨.int .i64 (xs.length:Int),by simp [execOp,h,resolve,invoke,builtin,Builtin.len_,q,run_underlying l,goInt,pure],.int _ _⟩
theorem zul {ty:Nat}(g:o.op=.call { callee:=.builtin .len,args:=#[x],argTypes:=#[T] })(m:dok cx o=true)(c:A7 x=true)(h:σ.eval x=.nils)(n:lkT cx.E.tab T=some i)(l:i.shape=.slc e esz eb) :
  Aj cx o σ (.int .i64 0) [] [] :=
 B8 m fun τ γ a w h1 p d=>by
  have b:=d.ev x c;rw [h1 x (by simp [g,Op.operands,Call.operands]),h] at b;obtain ⟨j,_,_⟩:=Cn (cx.E.ok T i n) l;exact ⟨.int .i64 0,by simp [execOp,g,resolve,invoke,builtin,Builtin.len_,b.nils_inv,run_underlying j,goInt,pure],.int _ _⟩
theorem zwm (r:o.op=.call { callee:=.builtin .len,args:=#[x],argTypes:=#[T] })(B:dok cx o=true)(m:A7 x=true)(t:σ.eval x=.row id)(z:σ.find id=some (.row ty sz xs))(C:lkT cx.E.tab T=some i)(v:i.shape=.slc e esz eb) :
  Aj cx o σ (.int .i64 (xs.length:Int)) [id] [] :=
 B8 B fun τ γ a w h1 D b=>by
  have l:=b.ev x m;rw [h1 x (by simp [r,Op.operands,Call.operands]),t] at l;have j:=b.me id;rw [D id (by simp),z] at j;obtain ⟨d,q,s,vs,p,_,h,_⟩:=j;subst p;have e:=l.row_inv q;obtain ⟨u,_,_⟩:=Cn (cx.E.ok T i C) v;have n:∃ A c,s=.slice A xs.length c:=by
   rcases h.2 with ⟨rfl,E⟩|⟨g,G,F,rfl,_⟩
   ·exact ⟨none,0,by rw [E]⟩
   ·exact ⟨_,_,rfl⟩
  obtain ⟨A,c,rfl⟩:=n;exact ⟨.int .i64 (xs.length:Int),by simp [execOp,r,resolve,invoke,builtin,Builtin.len_,e,run_underlying u,goInt,pure],.int _ _⟩
theorem zwl {s:ByteArray}(j:o.op=.call { callee:=.builtin .len,args:=#[x],argTypes:=#[T] })(p:dok cx o=true)(c:A7 x=true)(m:σ.eval x=.str s)(q:lkT cx.E.tab T=some i)(n:i.shape=.str) :
  Aj cx o σ (.int .i64 (s.size:Int)) [] [] :=
 B8 p fun τ γ a w h1 r g=>by
  have b:=g.ev x c;rw [h1 x (by simp [j,Op.operands,Call.operands]),m] at b;obtain ⟨d,h,l⟩:=(cx.E.ok T i q).und;rw [n] at l;cases d<;>simp only [Dx,reduceCtorEq] at l;exact ⟨.int .i64 (s.size:Int),by simp [execOp,j,resolve,invoke,builtin,Builtin.len_,b.str_inv,run_underlying h,goInt,pure],.int _ _⟩
theorem y8e {T:Array TypeId}{m:IntKind}{a b:Int}(h:o.op=.call { callee:=.builtin .max,args:=#[x,y],argTypes:=T })(q:dok cx o=true)(g:A7 x=true)(d:A7 y=true)(p:σ.eval x=.int k a)(n:σ.eval y=.int m b):Aj cx o σ (.int k (max a b)) [] [] :=
 B8 q fun τ γ ac w h1 r c=>by
  have l:=c.ev x g;rw [h1 x (by simp [h,Op.operands,Call.operands]),p] at l;have j:=c.ev y d;rw [h1 y (by simp [h,Op.operands,Call.operands]),n] at j;have hm:(if b > a then b else a)=max a b:=by split<;>omega
  refine ⟨.int k (max a b),?_,.int _ _⟩;rw [<-hm];simp only [execOp,h,resolve,invoke,builtin,Sem.run_bind,Sem.run_pure,Result.andThen_ok,map_toArray,map_cons,map_nil,l.int_inv,j.int_inv];rfl
theorem y8c {T:Array TypeId}{m:IntKind}{a b:Int}(h:o.op=.call { callee:=.builtin .min,args:=#[x,y],argTypes:=T })(q:dok cx o=true)(g:A7 x=true)(d:A7 y=true)(p:σ.eval x=.int k a)(n:σ.eval y=.int m b):Aj cx o σ (.int k (min a b)) [] [] :=
 B8 q fun τ γ ac w h1 r c=>by
  have l:=c.ev x g;rw [h1 x (by simp [h,Op.operands,Call.operands]),p] at l;have j:=c.ev y d;rw [h1 y (by simp [h,Op.operands,Call.operands]),n] at j;have hm:(if b<a then b else a)=min a b:=by split<;>omega
  refine ⟨.int k (min a b),?_,.int _ _⟩;rw [<-hm];simp only [execOp,h,resolve,invoke,builtin,Sem.run_bind,Sem.run_pure,Result.andThen_ok,map_toArray,map_cons,map_nil,l.int_inv,j.int_inv];rfl
end
end Go.Proofs.YtidhlpjgifoneaaGreat
