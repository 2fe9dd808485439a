/- The abstract walk. -/
import Derived.Test.YtidhlpjgifoneaaGreatK12
import GoSem.Instr.MapEntry
set_option linter.unusedVariables false
set_option linter.unusedSimpArgs false
namespace Go.Proofs.YtidhlpjgifoneaaGreat
open Go.RowKit List
open List renaming getD_eq_getElem?_getD->aA,getElem_append->aE,getElem_replicate->aG,map_toArray->aJ
open Nat renaming eq_of_beq_eq_true->aB,mul_le_mul_right->aC,beq->aF,le_refl->aH,succ_mul->aM,sub_self->aN
open _root_.Array renaming getD_eq_getD_getElem?->aD,getD->aO
open Option renaming map_none->aK,map_some->aL
section
variable {cx:Cx} {o:Oper} {σ:AS}
variable {id ty sz:Nat}{xs:List AV}
theorem T8 {γ:Gam}{τ:AS}{a:Act}{w:World}(h:StG cx γ τ a w)(p:τ.find id=some (.row ty sz xs)) :
  ∃ s vs,γ id=some (some (s.ownBlock,s))/\s.oneCell'=true/\w.ownsRow cx.w0.heap.size ty sz s xs.length vs/\(∀ k (q:k<xs.length),(xs[k]).cells.length=sz) /\
   (∀ k (q:k<xs.length) j (r:j<(xs[k]).cells.length),Rep w (Sg cx.S0 cx.w0.heap.size γ) G0 ((xs[k]).cells[j]) (vs.getD (k*sz+j) undef))/\∀ u∈vs,u.oneCell'=true:=by
 have f:=h.me id;rw [p] at f;obtain ⟨d,m,s,vs,l,h1,b,g,n,c⟩:=f;subst l;exact ⟨s,vs,m,h1,b,g,n,c⟩
variable {T e esz eb lo:Nat}{x:Operand}{i:TyI}
theorem zpg {y:Operand}{k:IntKind}(D:o.op=.slice T x (some y) none none)(R:dok cx o=true)(v:A7 x=true)(u:A7 y=true)(M:σ.eval x=.row id)(L:σ.eval y=.int k (lo:Int))(V:lkT cx.E.tab T=some i)(N:i.shape=.slc e esz eb)(p:esz≠0)
  (Q:σ.find id=some (.row ty esz xs)) (F:lo<=xs.length):Aj cx o σ (.der (.sub esz lo) id) [id] [] :=
 B8 R fun τ γ a w t G d=>by
  obtain ⟨K,J,Y⟩:=zda D;have f:=d.ev x v;rw [t x K,M] at f;obtain ⟨I,H,_⟩:=Cn (cx.E.ok T i V) N;have q:=Du H p w;obtain ⟨s,us,b,C,r,_⟩:=T8 (id:=id) d (by rw [G id (by simp)];exact Q);have j:∀ c,xs.length<=c->(Instr.sliceBounds true xs.length c (some (a.eval y)) none none).run cx.P w=.ok (lo,xs.length,c) w:=fun c U =>
   Zo (σ:=σ) (l:=lo) (h:=xs.length) (c:=c) (n:=xs.length) (lo:=some y) (hi:=none) d u rfl (fun z p=>t z (J z p)) (fun z p=>by cases p) (by simp [bndA,L]) (by simp [bndA]) F U
  rcases r.2 with ⟨B,W⟩|⟨g,m,X,B,_,_,E,_⟩
  ·have A:xs.length=0:=W;have O:lo=0:=by omega
   have j:=j 0 (by omega);rw [A] at j;subst B;refine ⟨.slice none 0 0,?_,.der b (fun g s e=>by injection e with e;injection e with _ e;subst e;exact ⟨rfl,rfl⟩)⟩;simp only [execOp,D,f.row_inv b,aK,aL,Sem.run_bind,Sem.run_pure,Result.andThen_ok];simp [Instr.sliceAt,Instr.slice,run_underlying I,j,q,pure]
  ·have j:=j m E;subst B;refine ⟨.slice (some (if m=lo then ⟨g,0,none⟩ else ⟨g,0+lo*esz,none⟩)) (xs.length-lo) (m-lo),?_,.der b (fun g s e=>by injection e with e;injection e with _ e;subst e;exact ⟨rfl,rfl⟩)⟩;simp only [execOp,D,f.row_inv b,aK,aL,Sem.run_bind,Sem.run_pure,Result.andThen_ok];simp [Instr.sliceAt,Instr.slice,run_underlying I,j,q,pure,Addr.add_lit];split<;>rfl
theorem zvz {γ:Gam}{τ:AS}{a:Act}{w:World}{v:Value}(p:StG cx γ τ a w)(C:τ.find id=some (.row ty sz xs))(z:Rep w (Sg cx.S0 cx.w0.heap.size γ) γ (.der (.sub sz lo) id) v)(B:lo<xs.length) :
  ∃ g b c us,γ id=some (some (some g,.slice (some ⟨g,0,none⟩) xs.length b))/\v=.slice (some ⟨g,lo*sz,none⟩) (xs.length-lo) (b-lo)/\xs.length<=b/\w.ownsRow cx.w0.heap.size ty sz (.slice (some ⟨g,0,none⟩) xs.length b) xs.length us/\w.heap[g]? = some (.cells c ty (0,0))/\c.size=b*sz/\c.toList.take (xs.length*sz)=us/\(∀ k (D:k<xs.length),(xs[k]).cells.length=sz) /\
   (∀ k (D:k<xs.length) j (F:j<(xs[k]).cells.length),Rep w (Sg cx.S0 cx.w0.heap.size γ) G0 ((xs[k]).cells[j]) (us.getD (k*sz+j) undef))/\∀ u∈us,u.oneCell'=true:=by
 obtain ⟨s,us,m,q,d,l,A,h⟩:=T8 p C;have f:=d;rcases d.2 with ⟨y,G⟩|⟨g,b,c,y,_,E,r,_,t,n⟩
 ·omega
 ·subst y;refine ⟨g,b,c,us,m,?_,r,f,E,t,n,l,A,h⟩;rw [z.der_inv m];have:¬b=lo:=by omega
  simp [Dv.of,this]
theorem zwk {ty:TypeId}(p:o.op=.call { callee:=.builtin .len,args:=#[x],argTypes:=#[T] })(y:dok cx o=true)(j:A7 x=true)(q:σ.eval x=.der (.sub sz lo) id)(v:σ.find id=some (.row ty sz xs))(z:lkT cx.E.tab T=some i)(t:i.shape=.slc e esz eb)(u:lo<=xs.length):Aj cx o σ (.int .i64 ((xs.length-lo:Nat):Int)) [id] [] :=
 B8 y fun τ γ a w h1 B d=>by
  have h:=d.ev x j;rw [h1 x (by simp [p,Op.operands,Call.operands]),q] at h;obtain ⟨r,_,_⟩:=Cn (cx.E.ok T i z) t;obtain ⟨s,us,n,m,f,_⟩:=T8 (id:=id) d (by rw [B id (by simp)];exact v);have b:∃ A c,a.eval x=.slice A (xs.length-lo) c:=by
   rw [h.der_inv n];rcases f.2 with ⟨l,C⟩|⟨g,E,D,l,_⟩
   ·have k:xs.length=0:=C;subst l;exact ⟨none,0,by rw [k,Nat.zero_sub];rfl⟩
   ·subst l;exact ⟨_,_,rfl⟩
  obtain ⟨A,c,b⟩:=b;refine ⟨.int .i64 ((xs.length-lo:Nat):Int),?_,.int _ _⟩;simp only [execOp,p,resolve,invoke,builtin,Builtin.len_,Array.map_push,aJ,map_cons,map_nil,b];simp [run_underlying r,goInt,pure]
theorem zdm {y:Operand}{ty:TypeId}{k:IntKind}{n:Int}{m:Nat}(j:o.op=.indexAddr T x y)(D:dok cx o=true)(h:A7 x=true)(f:A7 y=true)(v:σ.eval x=.der (.sub sz lo) id)(u:σ.eval y=.int k n)
  (C:σ.find id=some (.row ty sz xs)) (E:lkT cx.E.tab T=some i) (A:i.shape=.slc e sz eb) (t:sz≠0) (B:n=(m:Int)) (hm:lo+m<xs.length):Aj cx o σ (.elt id sz (lo+m) 0) [id] [] :=
 B8 D fun τ γ a w h1 F c=>by
  have d:=c.ev x h;rw [h1 x (by simp [j,Op.operands]),v] at d;have b:=c.ev y f;rw [h1 y (by simp [j,Op.operands]),u] at b;obtain ⟨z,q,_⟩:=Cn (cx.E.ok T i E) A;obtain ⟨g,I,H,us,p,G,r,_⟩:=zvz (id:=id) c (by rw [F id (by simp)];exact C) d (by omega);refine ⟨.pointer (some ⟨g,(lo+m)*sz,none⟩),?_,.elt p (fun J s e=>by injection e with e;injection e with e _;simp only [Option.some.injEq] at e;rw [<-e];rfl)⟩;subst B;have l:m<xs.length-lo:=by omega
  simp [execOp,j,G,b.int_inv,Instr.indexAt,asIntOf,run_underlying z,Du q t,l,pure,Addr.add_lit,Nat.add_mul]
theorem zic (z:Array Value)(n q j:Nat)(d:q<n)(c:j<z.size):(Builtin.zeroCells z n).toList.getD (q*z.size+j) undef=z.getD j undef:=by
 have b:q*z.size+j<n*z.size:=by
  have:(q+1)*z.size<=n*z.size:=aC _ d;rw [aM] at this;omega
 have a:(q*z.size+j) % z.size=j:=by rw [Nat.mul_comm,Nat.mul_add_mod,Nat.mod_eq_of_lt c]
 rw [aA];simp [Builtin.zeroCells,b,a,aO,c]
variable {α:Type}
def clrL (l:List α)(lo:Nat)(z:α):List α:=l.take lo++replicate (l.length-lo) z
theorem zr8 (l:List α)(lo:Nat)(z:α)(h:lo<=l.length):(clrL l lo z).length=l.length:=by simp [clrL];omega
theorem y2b {a:Type}(f:α->a)(l:List α)(lo:Nat)(z:α):clrL (l.map f) lo (f z)=(clrL l lo z).map f:=by simp [clrL]
theorem zps {ie:TyI}(ho:o.op=.call { callee:=.builtin .clear,args:=#[x],argTypes:=#[T] })(hd:dok cx o=true)(av:A7 x=true)(hx:σ.eval x=.der (.sub esz lo) id)(hl:σ.find id=some (.row e esz xs))(hT:lkT cx.E.tab T=some i)(hs:i.shape=.slc e esz eb)(he:lkT cx.E.tab e=some ie)(hz:esz≠0)
  (au:Jy ie=true) (C:ie.zero.cells.all (·.oneCell')=true) (bb:lo<=xs.length):Aj cx o σ (.tup []) [id] [(id,.row e esz (clrL xs lo (D8 ie)))]:=by
 refine ⟨fun id e he=>D5 he,fun τ h1 h2 a w Q K ⟨γ,n⟩ hK=>C5 (fun c hc=>by rw [ho] at hc;cases hc) ?_⟩;have ac:=n.ev x av;rw [h1 x (by simp [ho,Op.operands,Call.operands]),hx] at ac;obtain ⟨O,bj,_⟩:=Cn (cx.E.ok T i hT) hs;have ah:=cx.E.ok e ie he;have az:ie.sz=esz:=ah.cells.symm.trans bj;obtain ⟨ae,ar⟩:=zaf au;have B:ie.zero.cells.size=esz:=ar.trans az;have ao:(D8 ie).cells.length=esz:=by rw [ae,length_map,Array.length_toList,B]
 have aq:∀ v∈ie.zero.cells,v.oneCell'=true:=by
  rw [Array.all_eq_true_iff_forall_mem] at C;exact C
 have hf:τ.find id=some (.row e esz xs):=by rw [h2 id (by simp)];exact hl
 have f:=zr8 xs lo (D8 ie) bb;unfold Oper.wp;by_cases an:lo<xs.length
 ·obtain ⟨g,N,z,us,r,ex,U,l,hh,bq,ay,y,hr,D⟩:=zvz (id:=id) n hf ac an;have Y:=l;obtain ⟨bo,_⟩:=l;have p:(Builtin.zeroCells ie.zero.cells (xs.length-lo)).toList.length=(xs.length-lo)*esz:=by simp [Builtin.zeroCells,B]
  have bm:lo*esz+(xs.length-lo)*esz=xs.length*esz:=by rw [<-Nat.add_mul];congr 1;omega
  have bk:xs.length*esz<=N*esz:=aC _ U;have V:∀ v∈(Builtin.zeroCells ie.zero.cells (xs.length-lo)).toList,v.oneCell'=true:=fun v hv=>by
   obtain ⟨q,hq,rfl⟩:=mem_iff_getElem.1 hv;rw [p] at hq;have ag:0<ie.zero.cells.size:=by omega
   have aj:=Nat.mod_lt q ag;simp only [Builtin.zeroCells,Array.toList_map,getElem_map,Array.getElem_toList,Array.getElem_range];rw [getElem!_pos ie.zero.cells _ aj];exact aq _ (Array.getElem_mem _)
  have t:=run_storeCells_at cx.P g (lo*esz) e (Builtin.zeroCells ie.zero.cells (xs.length-lo)).toList 0 z w hh (by rw [p];omega) V;simp only [Nat.add_zero,p] at t;generalize aa:(Builtin.zeroCells ie.zero.cells (xs.length-lo)).toList=news at t p V;generalize H:(z.toList.take (lo*esz)++news++z.toList.drop (lo*esz+(xs.length-lo)*esz)).toArray=d at t;have ai:xs.length-lo≠0:=by omega
  have X:(Builtin.clear_ #[T] 0 #[a.eval x]).run cx.P w=.ok (.tuple #[]) (w.setRow g d):=by
   obtain ⟨m,hm⟩:∃ m,xs.length-lo=m+1:=⟨xs.length-lo-1,by omega⟩;rw [hm] at aa ex;simp only [Builtin.clear_,ex];simp [run_underlying O,ah.zeroV w,aa,t,pure]
  have ax:∀ ty,(Builtin.clear_ #[T] ty #[a.eval x])=(Builtin.clear_ #[T] 0 #[a.eval x]):=fun ty=>rfl
  have ab:(execOp a.eval o).run cx.P w=.ok (.value (.tuple #[])) (w.setRow g d):=by
   simp only [execOp,ho,resolve,invoke,builtin,aJ,map_cons,map_nil,ax,Sem.run_bind,X,Result.andThen_ok,Sem.run_pure]
  rw [ab];have ap:=setRow_heap w g z d e (0,0) hh;have R:∀ q,q≠g->(w.setRow g d).heap[q]? = w.heap[q]? := fun q hq=>setRow_other w g q _ hq
  have ad:w.heap.size<=(w.setRow g d).heap.size:=by simp
  have bh:w.grownBy (w.setRow g d) (some g):=⟨rfl,rfl,rfl,ad,fun k I ai=>R k (fun e=>ai (by rw [e]))⟩;have bi:w.drawn<=(w.setRow g d).drawn:=aH _;have F:own γ g:=own.mk r;have L:∀ b,Sg cx.S0 cx.w0.heap.size γ b->b≠g:=fun b J e=>by
   subst e;rcases J with ⟨_,h⟩|⟨_,h⟩
   ·have:=(n.ge b F).1.1;omega
   ·exact h F
  generalize w.setRow g d=w' at *;have af:d.toList.take (xs.length*esz)=us.take (lo*esz)++news:=by
   rw [<-H];simp only [<-ay];rw [toList_toArray,take_append,take_of_length_le (by simp;omega)];have:(List.take (lo*esz) z.toList++news).length=xs.length*esz:=by simp [p];omega
   rw [this,aN,take_zero,append_nil,take_take,Nat.min_eq_left (by omega)]
  refine hK _ _ (zbl (v:=.slice (some ⟨g,0,none⟩) xs.length N) (us':=us.take (lo*esz)++news) n (fun _=>bi) r (C0 hd) bh ?_ (fun k I=>?_) (fun k I j E=>?_) (fun u O=>?_) (.tup #[] rfl (fun j E=>absurd E (by simp))))
  ·rw [f];rcases Y.2 with ⟨h,_⟩|⟨g',bn,cu,aw,bl,_,_,ba,_,_⟩
   ·cases h
   ·injection aw with M e2 e3
    injection M with M
    injection M with M _ _
    subst M;subst e3;refine ⟨by simp [p];omega,Or.inr ⟨g,N,d,rfl,bl,ap,U,ba,?_,af⟩⟩;rw [<-H];simp [p];omega
  ·rw [f] at I;simp only [clrL,aE];split
   ·rw [getElem_take];exact y k _
   ·rw [aG];exact ao
  ·rw [f] at I;have am:(us.take (lo*esz)).length=lo*esz:=by simp;omega
   by_cases bc:k<lo
   ·have G:(clrL xs lo (D8 ie))[k]'(by rw [f];exact I)=xs[k]:=by
     simp only [clrL,aE];rw [dif_pos (by simp;omega),getElem_take]
    rw [G] at E;have bf:j<esz:=by rw [<-y k I];exact E
    have al:k*esz+j<lo*esz:=by
     have:(k+1)*esz<=lo*esz:=aC _ bc;rw [aM] at this;omega
    have M:(us.take (lo*esz)++news).getD (k*esz+j) undef=us.getD (k*esz+j) undef:=by
     rw [aA,getElem?_append_left (by omega),getElem?_take_of_lt al,<-aA]
    rw [M];simp only [G];exact (hr k I j E).mono ad (fun b J an=>⟨R b (L b J),Or.inl J,fun e=>L b J (by injection e with e;exact e.symm)⟩)
   ·have G:(clrL xs lo (D8 ie))[k]'(by rw [f];exact I)=D8 ie:=by
     simp only [clrL,aE];rw [dif_neg (by simp;omega),aG]
    rw [G] at E;have bf:j<esz:=by rw [<-ao];exact E
    have bp:lo*esz<=k*esz:=aC _ (by omega);have M:(us.take (lo*esz)++news).getD (k*esz+j) undef=ie.zero.cells.getD j undef:=by
     rw [aA,getElem?_append_right (by omega),am,<-aA,<-aa];have:=zic ie.zero.cells (xs.length-lo) (k-lo) j (by omega) (by omega);rw [<-this,B,Nat.sub_mul];congr 1;omega
    rw [M];simp only [G,ae,getElem_map];have bd:j<ie.zero.cells.size:=by omega
    have:ie.zero.cells.getD j undef=ie.zero.cells[j]:=by simp [aO,bd]
    rw [this];simpa using O9 _ _ _ (ie.zero.cells[j])
  ·rcases mem_append.1 O with O|O
   ·exact D u (mem_of_mem_take O)
   ·exact V u O
 ·have ak:lo=xs.length:=by omega
  have ab:(execOp a.eval o).run cx.P w=.ok (.value (.tuple #[])) w:=by
   obtain ⟨s,us,r,Z,l,_⟩:=T8 (id:=id) n hf;have W:∃ A c,a.eval x=.slice A 0 c:=by
    rw [ac.der_inv r];rcases l.2 with ⟨hv,h0⟩|⟨g,N,z,hv,_⟩
    ·subst hv;exact ⟨none,0,rfl⟩
    ·subst hv;exact ⟨_,_,by show Value.slice _ (xs.length-lo) _=_;rw [ak,aN]⟩
   obtain ⟨A,c,W⟩:=W;simp only [execOp,ho,resolve,invoke,builtin,aJ,map_cons,map_nil,Builtin.clear_,W];cases A<;>simp [run_underlying O,pure]
  rw [ab];have bg:clrL xs lo (D8 ie)=xs:=by simp [clrL,ak]
  rw [bg] at hK;obtain ⟨s,us,r,Z,l,y,hr,D⟩:=T8 (id:=id) n hf;have L:∀ b,Sg cx.S0 cx.w0.heap.size γ b->s.ownBlock≠some b:=fun b J e=>by
   have F:own γ b:=own.mk (by rw [r,e]);rcases J with ⟨_,h⟩|⟨_,h⟩
   ·have:=(n.ge b F).1.1;omega
   ·exact h F
  exact hK _ _ (zbl (v:=s) (us':=us) n (fun _=>aH _) r (C0 hd) (World.grownBy.refl _ _) l y (fun k I j E=>(hr k I j E).mono (aH _) (fun b J _=>⟨rfl,Or.inl J,L b J⟩)) D (.tup #[] rfl (fun j E=>absurd E (by simp))))
end
section
variable {P:Program} {w:World} {S:Nat->Prop}
end
theorem con0 (x:Value)(vs:Array Value):(#[x]++vs).getD 0 undef=x:=by
 rw [aD,Array.getElem?_append_left (by simp)];rfl
theorem Ea {w:World}{B ty sz n:Nat}{s:Value}{vs:List Value}(h:w.ownsRow B ty sz s n vs):s.ownBlock=B3 s/\Cs s=[]:=by
 rcases h.2 with ⟨rfl,_⟩|⟨g,b,a,rfl,_⟩<;>exact ⟨rfl,rfl⟩
theorem Em {s:Value}{b:Nat}(h:s.ownBlock=B3 s)(a:Cs s=[]):b∈blks (some (s.ownBlock,s)) ↔ B3 s=some b:=by
 simp [blks,a,h]
section
variable {cx:Cx} {o:Oper} {σ:AS}
theorem zj4 {d f id:Nat}{e h c:Ent}(b:lkE [(d,e),(f,h)] id=some c):id∈[d,f]:=by
 simp only [lkE] at b;cases g:aF d id with
 |true=>simp [aB g]
 |false =>
  rw [g] at b;cases a:aF f id with
  |true=>simp [aB a]
  |false=>rw [a] at b;cases b
theorem Zj {d a:Nat}{e f:Ent}(g:d≠a)(i:Nat):lkE [(d,e),(a,f)] i=if i=d then some e else if i=a then some f else none:=by
 simp only [lkE];by_cases h1:i=d
 ·subst h1;simp
 ·rw [if_neg h1];have:aF d i=false:=by cases b:aF d i with|true=>exact absurd (aB b).symm h1|false=>rfl
  rw [this];by_cases c:i=a
  ·subst c;simp
  ·rw [if_neg c];have:aF a i=false:=by cases b:aF a i with|true=>exact absurd (aB b).symm c|false=>rfl
   rw [this]
theorem znc (vs:Array Value)(x:Value)(p j:Nat)(a:p<vs.size):(vs.setIfInBounds p x).getD j undef=if j=p then x else vs.getD j undef:=by
 simp only [aD,Array.getElem?_setIfInBounds];by_cases h:j=p
 ·subst h;rw [if_pos rfl,if_pos a,if_pos rfl];rfl
 ·rw [if_neg h,if_neg (fun e=>h e.symm)]
theorem y1i {w:World}{S:Nat->Prop}{B ty sz:Nat}{v:Value}{xs:List AV}(h:NRep w S B v (.row ty sz xs)):∃ us,w.ownsRow B ty sz v xs.length us:=by
 obtain ⟨_,us,h,_⟩:=h;exact ⟨us,h⟩
end
end Go.Proofs.YtidhlpjgifoneaaGreat
