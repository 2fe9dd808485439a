/- The abstract walk, eighth part. -/
import Derived.Test.YthbogefcfhmpgaaGreatK01
import Derived.Laws.OwnMore
import Derived.MapKept
set_option linter.unusedVariables false
set_option linter.unusedSimpArgs false
namespace Go.Proofs.YthbogefcfhmpgaaGreat
open Go.RowKit List
open Nat renaming eq_of_beq_eq_true->aA,le_refl->aC,mul_le_mul_right->aF,beq->aJ,succ_mul->aO,lt_of_lt_of_le->aQ,le_trans->aR,zero_add->bF,le_of_ble_eq_true->bK,mul_comm->bX,beq_refl->cI,mod_eq_of_lt->cL,mul_add_mod->cO,mod_lt->cT,add_assoc->cW,zero_mul->cZ,add_zero->dA,ble->dC
open Option.some renaming injEq->aB
open List renaming getD_eq_getElem?_getD->aD,getElem?_eq_getElem->aK,getElem_map->aP,getElem?_append_right->aX,getElem?_append_left->aZ,getElem_append_right->bA,getElem_append_left->bB,getElem_mem->bE,getElem_cons_zero->bI,getElem_replicate->bJ,length_drop->bM,getElem?_take_of_lt->bN,getElem_drop->bO,getElem_take->bP,length_eq_zero_iff->bQ,getElem_cons_succ->bT,all_eq_true->bU,length_append->bV,map_cons->bW,mem_iff_getElem->bZ,length_cons->cA,mem_flatMap->cB,length_take->cC,getElem_set->cD,replicate->cE,mem_append->cH,map_nil->cJ,getElem?_eq_none->cM,mem_map->cR,length_map->cU,length_set->cV,range->cY
open _root_.Array renaming getD_eq_getD_getElem?->aE,getElem?_eq_some_iff->aM,getD->aU,getElem?_setIfInBounds->aW,getElem?_append_left->aY,range->bR,toList_push->bS,replicate->bY,length_toList->cF,toList_modify->cG,toList_map->cK
open Bool renaming and_eq_true->aG,false_eq_true->aH,not_eq_true'->bG,or_eq_true->cP
open Or renaming inr->aL,inl->aN
open Gam renaming set_self->aS,set_ne->bD
open Option renaming isSome_none->aT,map_some->aV,map_eq_some_iff->bH,map_none->cN
open AV renaming closedL->bC,closedL_at->bL,cells->cS,closed->cX,ofV->dB
variable {x:AV}
theorem zco (h:x.closed=true)(j:Nat)(m:j<x.cells.length):(x.cells[j]).closed=true:=by
 have single:x.cells=[x]->(x.cells[j]).closed=true:=λp=>by
  have q:∀y∈x.cells,y.closed=true:=λy c=>by
   rw[p,mem_singleton]at c;rw[c];exact h
  exact q _ (bE m)
 cases x with
 |agg cs=>simp only[cX]at h;exact bL h j m
 |_=>exact single rfl
variable {xs:List AV}{sz:Nat}
theorem y3j (h:∀k (c:k<xs.length),(xs[k]).cells.length=sz):(xs.flatMap cS).length=xs.length*sz/\∀k (c:k<xs.length) j (m:j<(xs[k]).cells.length),(xs.flatMap cS)[k*sz+j]? = some ((xs[k]).cells[j]):=by
 induction xs with
 |nil=>exact⟨Δ,λk c=>absurd c Δ⟩
 |cons x r q =>
  have p:=h 0 Δ;simp only[bI]at p;obtain⟨y,u⟩:=q (λk c=>by have:=h (k+1) (by simpa using c);simpa using this);refine⟨by rw[flatMap_cons,bV,p,y,cA,aO];omega,λk c j m=>?_⟩;rw[flatMap_cons];cases k with
  |zero =>
   simp only[bI]at m ⊢;rw[cZ,bF,aZ m,aK m]
  |succ k =>
   simp only[bT]at m ⊢;rw[aX (by rw[p,aO];omega),p,show(k+1)*sz+j-sz=k*sz+j by rw[aO];omega];exact u k (by simpa using c) j m
section
variable {cx:Cx} {o:Oper} {σ:AS}
theorem zyx {z:Array Value}(h:z.all (·.oneCell')=true)(j:0<z.size)(x:Nat):(z[x % z.size]!).oneCell'=true:=by
 have c:=cT x j;rw[getElem!_pos z _ c];simp only[Array.all_eq_true]at h;exact h _ c
variable {P:Program}{T:Nat}{i:TyI}{esz eb:Nat}
theorem z72 {ie:TyI}{e n:Nat}{parts:Array (Nat×Value)}{cells':Array Value}(C:TyOk P T i)(hs:i.shape=.slc e esz eb)(A:TyOk P e ie)(u:esz≠0)(G:n*esz<=16777216)
  (p:Instr.fill (λj=>some (j*esz,esz)) ((bR (n*esz)).map (ie.zero.cells[· % ie.zero.cells.size]!)) parts.toList=some cells') (w:World):(Instr.buildSlice T n parts).run P w=.ok (.slice (some ⟨w.heap.size,0,none⟩) n n) (w.alloc (.cells cells' e)):=by
 obtain⟨y,q,_⟩:=Cr C hs;have c:=Ej q u w;have h:=A.zeroV w;by_cases z:n*esz=0
 ·have m:n=0:=(Nat.mul_eq_zero.1 z).resolve_right u;subst m;have F:((bR (0*esz)).map (ie.zero.cells[· % ie.zero.cells.size]!))=#[]:=Δ
  rw[F]at p;unfold Instr.buildSlice;simp only[Sem.run_bind,run_underlying y,Result.andThen_ok,c];rw[if_neg Ω];simp only[cZ,if_true,Sem.run_bind,Sem.run_pure,Result.andThen_ok];have D:((bR 0).map λx=>(#[]:Array Value)[x % (#[]:Array Value).size]!)=#[]:=Δ
  rw[D,p];simp[zdl,pure]
 ·unfold Instr.buildSlice;simp only[Sem.run_bind,run_underlying y,Result.andThen_ok,c];rw[if_neg Ω,if_neg z];simp only[Sem.run_bind,h,Sem.run_pure,Result.andThen_ok];rw[p];simp[zdl,pure]
theorem zhb {n:Nat}{ps:Array (Nat×Operand)}{ie:TyI}{e:Nat}(Z:o.op=.buildSlice T n ps)(hd:dok cx o=true)(hT:lkT cx.E.tab T=some i)(hs:i.shape=.slc e esz eb)(he:lkT cx.E.tab e=some ie)(hz:esz≠0)(hn:dC (n*esz) 16777216=true)
  (O:ie.zero.cells.all (·.oneCell')=true) (Q:Nat.blt 0 ie.zero.cells.size=true) (U:Fp σ ps=true) (V:bC xs=true) (K:xs.length=n) (hl:xs.all (λx=>aJ x.cells.length esz)=true)
  (hf:Dh (λj=>some (j*esz,esz)) (cE (n*esz) .any) (Ct σ ps)=some (xs.flatMap cS)):Ao cx o σ (.sl esz xs) (Fq (Ct σ ps)) [] :=
 y1k hd λτ γ a w h1 h2 u=>by
  have I:=zfe u U (λp hp=>h1 p.2 (by simp only[Z,Op.operands,mem_toArray,cR];exact⟨p,hp,rfl⟩)) h2;have D:∀j,(ie.zero.cells[j % ie.zero.cells.size]!).oneCell'=true:=zyx O (by simpa using Q);have G:CRel w (Sg cx.S0 cx.w0.heap.size γ) γ ((bR (n*esz)).map (ie.zero.cells[· % ie.zero.cells.size]!)) (cE (n*esz) .any):=by
   refine⟨Δ,λj q=>by simp only[bJ];exact .any _,λj q=>?_⟩;have z:j<n*esz:=by simpa using q
   have:((bR (n*esz)).map (ie.zero.cells[· % ie.zero.cells.size]!)).getD j undef=ie.zero.cells[j % ie.zero.cells.size]! := by
    rw[aE,Array.getElem?_map,Array.getElem?_range,if_pos z];rfl
   rw[this];exact D j
  obtain⟨cells',C,L,X,W⟩:=Yl (f:=a.eval) (g:=σ.eval) ps.toList _ _ _ I G hf;have H:=z72 (parts:=ps.map λp=>(p.1,a.eval p.2)) (cx.E.ok T i hT) hs (cx.E.ok e ie he) hz (bK hn) (by rw[cK];exact C) w;have F:Below w.heap.size w (w.alloc (.cells cells' e)):=(Below.refl _ _).alloc (aC _) _;have M:Blk (w.alloc (.cells cells' e)) w.heap.size e cells':=Blk.new w _ _;have c:∀k (m:k<xs.length),(xs[k]).cells.length=esz:=λk m=>by
   simp only[bU]at hl;exact aA (hl _ (bE m))
  obtain⟨Y,g2⟩:=y3j c;have A:∀k j,k<xs.length->j<esz->k*esz+j<xs.length*esz:=λk j m q=>by
   have:(k+1)*esz<=xs.length*esz:=aF _ m;rw[aO]at this;omega
  have R:=u.below.size;refine⟨.slice (some ⟨w.heap.size,0,none⟩) n n,w.alloc (.cells cells' e),?_,F,λ_=>aC _,?_⟩
  ·have e':(ps.map λx=>match x with|(i,x)=>(i,a.eval x))=ps.map λp=>(p.1,a.eval p.2):=rfl
   simp only[execOp,Z,e',Sem.run_bind,Sem.run_pure,Result.andThen_ok,H]
  ·subst K;refine .sl (some ⟨w.heap.size,0,none⟩) xs.length (λk j=>if k<xs.length/\j<esz then cells'.getD (k*esz+j) undef else .bool true) (aC _) c (λ_=>⟨w.heap.size,0,rfl,aL ⟨⟨R,λh0=>by have:=u.gh _ h0;omega⟩,λJ=>by have:=(u.ge _ J).2;omega⟩,Δ,λk j m q=>?_⟩) (λk m j q=>?_) (λk j=>?_)
   ·rw[if_pos ⟨m,q⟩,bF];exact Oe M _ (by rw[L,Y];exact A k j m q)
   ·have z:j<esz:=by rw[<-c k m];exact q
    rw[if_pos ⟨m,z⟩];have y:k*esz+j<(xs.flatMap cS).length:=by rw[Y];exact A k j m z
    have:=X (k*esz+j) y;have N:=g2 k m j q;rw[aK y]at N;injection N with N
    rw[N]at this;refine(this.mono F.size (λb hS y=>⟨F.block b y,hS⟩)).close ?_;exact zco (bL V k m) j q
   ·by_cases h:k<xs.length/\j<esz
    ·rw[if_pos h];exact W _ (by rw[L,Y];exact A k j h.1 h.2)
    ·rw[if_neg h];rfl
def bndA (σ:AS)(d:Nat):Option Operand->Option Int
 |none=>some d
 |some y=>match σ.eval y with|.int _ n=>some n|_=>none
def opdO:Option Operand->Bool |none=>true |some y=>A6 y
theorem Ya {w:World}(k:IntKind)(m y:Nat)(c:BoundsCode)(h:m<=y):(Instr.sliceBound (.int k (m:Int)) y c).run P w=.ok m w:=by
 have:(0:Int)<=m/\(m:Int)<=y:=Ω
 simp[Instr.sliceBound,asIntOf,this.1,this.2,pure,h]
variable {lo hi:Option Operand}
theorem zzy {l h:Nat}{x:Operand}{e esz:Nat}(M:o.op=.slice T x lo hi none)(hd:dok cx o=true)(O:A6 x=true)(U:opdO lo=true)(X:opdO hi=true)(hx:σ.eval x=.sl sz xs)(hT:lkT cx.E.tab T=some i)(hs:i.shape=.slc e sz eb)(hz:sz≠0)
  (h1:bndA σ 0 lo=some (l:Int)) (H:bndA σ xs.length hi=some (h:Int)) (V:l<=h) (hh:h<=xs.length):Ao cx o σ (.sl sz ((xs.take h).drop l)) [] [] :=
 Bc hd λτ γ a w D ab u=>by
  have K:=u.ev x O;rw[D x (by simp[M,Op.operands]),hx]at K;obtain⟨A,c,ex,hc,J,cell,hb,hr,aa⟩:=K.sl_inv;obtain⟨hu,Y,_⟩:=Cr (cx.E.ok T i hT) hs;have Q:=Ej Y hz w;have Z:∃L:Option Value,hi.map a.eval=L/\(match L with|some v=>Instr.sliceBound v c .sliceAcap|none=>pure xs.length:Sem Nat).run cx.P w=.ok h w:=by
   refine⟨_,rfl,?_⟩;cases hi with
   |none=>simp only[bndA,aB]at H;have:xs.length=h:=Ω
          simp[this]
   |some y =>
    have F:=u.ev y X;rw[D y (by simp[M,Op.operands])]at F;simp only[bndA]at H;cases I:σ.eval y with
    |int k n =>
     rw[I]at F H;simp only[aB]at H;subst H;simp only[aV,F.int_inv];exact Ya k h c _ Ω
    |_=>rw[I]at H;simp at H
  have m:(match lo.map a.eval with|some v=>Instr.sliceBound v h .sliceB|none=>pure 0:Sem Nat).run cx.P w=.ok l w:=by
   cases lo with
   |none=>simp only[bndA,aB]at h1;have:l=0:=Ω
          simp[this]
   |some y =>
    have F:=u.ev y U;rw[D y (by simp[M,Op.operands])]at F;simp only[bndA]at h1;cases I:σ.eval y with
    |int k n =>
     rw[I]at F h1;simp only[aB]at h1;subst h1;simp only[aV,F.int_inv];exact Ya k l h _ V
    |_=>rw[I]at h1;simp at h1
  obtain⟨L,W,q⟩:=Z;have hB:(Instr.sliceBounds true xs.length c (lo.map a.eval) (hi.map a.eval) none).run cx.P w=.ok (l,h,c) w:=by
   rw[W];unfold Instr.sliceBounds;cases L with
   |none =>
    simp only[Sem.run_bind,Sem.run_pure,Result.andThen_ok]at q ⊢;have:xs.length=h:=by simpa using q
    subst this;cases p:lo.map a.eval with
    |none=>rw[p]at m;simp only[Sem.run_pure,Result.ok.injEq,and_true]at m ⊢;simp[m]
    |some v=>rw[p]at m;simp only[aT,aH,if_false,Sem.run_bind,Sem.run_pure,m,Result.andThen_ok]
   |some v =>
    simp only[if_true,Sem.run_bind,Sem.run_pure,Result.andThen_ok,q]at q ⊢;cases p:lo.map a.eval with
    |none=>rw[p]at m;simp only[Sem.run_pure,Result.ok.injEq,and_true]at m ⊢;simp[m]
    |some v=>rw[p]at m;simp only[aT,aH,if_false,Sem.run_bind,Sem.run_pure,m,Result.andThen_ok]
  have z:((xs.take h).drop l).length=h-l:=Ψ
  refine⟨.slice (if c=l then A else A.map (·.add (l*sz))) (h-l) (c-l),?_,?_⟩
  ·simp only[execOp,M,ex,Instr.sliceAt,Instr.slice,Sem.run_bind,Sem.run_pure,Result.andThen_ok,run_underlying hu,hB,Q,cN]
  ·rw[<-z];refine .sl _ _ (λk j=>cell (l+k) j) Ω (λk hk=>?_) (λh0=>?_) (λk hk j N=>?_) (λk j=>aa _ _)
   ·have C:l+k<xs.length:=Ω
    simp only[bO,bP];exact J _ C
   ·obtain⟨b,off,rfl,hS,R,G⟩:=hb Ω;refine⟨b,off+l*sz,?_,hS,R,λk j hk N=>?_⟩
    ·rw[if_neg Ω];simp[Addr.add_lit]
    ·have:=G (l+k) j Ω N;rw[show off+l*sz+(k*sz+j)=off+((l+k)*sz+j) by rw[Nat.add_mul];omega];exact this
   ·have C:l+k<xs.length:=Ω
    simp only[bO,bP]at N ⊢;exact hr (l+k) C j N
theorem zvh {l h:Nat}{x:Operand}{s:ByteArray}(F:o.op=.slice T x lo hi none)(O:dok cx o=true)(G:A6 x=true)(H:opdO lo=true)(K:opdO hi=true)(M:σ.eval x=.str s)(Q:lkT cx.E.tab T=some i)(hs:i.shape=.str)
  (h1:bndA σ 0 lo=some (l:Int)) (z:bndA σ s.size hi=some (h:Int)) (I:l<=h) (U:h<=s.size):Ao cx o σ (.str (s.extract l h)) [] [] :=
 Bc O λτ γ a w u N q=>by
  have C:=q.ev x G;rw[u x (by simp[F,Op.operands]),M]at C;obtain⟨d,L,p⟩:=(cx.E.ok T i Q).und;rw[hs]at p;cases d<;>simp only[Du,reduceCtorEq]at p;have j:∃D:Option Value,hi.map a.eval=D/\(match D with|some v=>Instr.sliceBound v s.size .sliceAlen|none=>pure s.size:Sem Nat).run cx.P w=.ok h w:=by
   refine⟨_,rfl,?_⟩;cases hi with
   |none=>simp only[bndA,aB]at z;have:s.size=h:=Ω
          simp[this]
   |some y =>
    have p:=q.ev y K;rw[u y (by simp[F,Op.operands])]at p;simp only[bndA]at z;cases A:σ.eval y with
    |int k n =>
     rw[A]at p z;simp only[aB]at z;subst z;simp only[aV,p.int_inv];exact Ya k h _ _ Ω
    |_=>rw[A]at z;simp at z
  have c:(match lo.map a.eval with|some v=>Instr.sliceBound v h .sliceB|none=>pure 0:Sem Nat).run cx.P w=.ok l w:=by
   cases lo with
   |none=>simp only[bndA,aB]at h1;have:l=0:=Ω
          simp[this]
   |some y =>
    have p:=q.ev y H;rw[u y (by simp[F,Op.operands])]at p;simp only[bndA]at h1;cases A:σ.eval y with
    |int k n =>
     rw[A]at p h1;simp only[aB]at h1;subst h1;simp only[aV,p.int_inv];exact Ya k l h _ I
    |_=>rw[A]at h1;simp at h1
  obtain⟨D,J,j⟩:=j;have R:(Instr.sliceBounds false s.size s.size (lo.map a.eval) (hi.map a.eval) none).run cx.P w=.ok (l,h,s.size) w:=by
   rw[J];unfold Instr.sliceBounds;cases D with
   |none =>
    simp only[Sem.run_bind,Sem.run_pure,Result.andThen_ok]at j ⊢;have:s.size=h:=by simpa using j
    subst this;cases m:lo.map a.eval with
    |none=>rw[m]at c;simp only[Sem.run_pure,Result.ok.injEq,and_true]at c ⊢;simp[c]
    |some v=>rw[m]at c;simp only[aT,aH,if_false,Sem.run_bind,Sem.run_pure,c,Result.andThen_ok]
   |some v =>
    simp only[aH,if_false,Sem.run_bind,Sem.run_pure,Result.andThen_ok,j]at j ⊢;cases m:lo.map a.eval with
    |none=>rw[m]at c;simp only[Sem.run_pure,Result.ok.injEq,and_true]at c ⊢;simp[c]
    |some v=>rw[m]at c;simp only[aT,aH,if_false,Sem.run_bind,Sem.run_pure,c,Result.andThen_ok]
  refine⟨.string (s.extract l h),?_,.str _⟩;simp only[execOp,F,C.str_inv,Instr.sliceAt,Instr.slice,Sem.run_bind,Sem.run_pure,Result.andThen_ok,run_underlying L,R,cN,aT,aH,if_false]
theorem y8c {k:IntKind}(h:TyOk P T i)(hs:i.shape=.int k):P.underlying T=some (.int k):=by
 obtain⟨d,j,c⟩:=h.und;rw[hs]at c;cases d<;>simp only[Du,reduceCtorEq,Ec.int.injEq]at c;subst c;exact j
theorem y1t {T':Nat}{x:Operand}{j:TyI}{k c:IntKind}{n:Int}(y:o.op=.convert T T' x)(C:dok cx o=true)(m:A6 x=true)(z:σ.eval x=.int k n)(D:lkT cx.E.tab T=some i)(u:lkT cx.E.tab T'=some j)(hs:j.shape=.int c):Ao cx o σ (.int c (c.wrap n)) [] [] :=
 Bc C λτ γ a w h1 F p=>by
  have h:=p.ev x m;rw[h1 x (by simp[y,Op.operands]),z]at h;obtain⟨d,q,_⟩:=(cx.E.ok T i D).und;have A:=y8c (cx.E.ok T' j u) hs;refine⟨.int c (c.wrap n),?_,.int _ _⟩;simp only[execOp,y,h.int_inv,convert,Sem.run_bind,Sem.run_pure,Result.andThen_ok,run_underlying q,run_underlying A,Conv.intToInt]
theorem y00 {f:FuncId}{ps:Array Operand}{cs:List AV}(p:o.op=.makeFunc (.func f) #[] ps)(q:dok cx o=true)(c:ps.toList.all A6=true)(u:ps.toList.map σ.eval=cs):Ao cx o σ (.fn f cs) [] [] :=
 Bc q λτ γ a w h1 y j=>by
  subst u;refine⟨.func (.func f) #[] (ps.map a.eval),by simp[execOp,p,Instr.makeFunc,pure],.fn _ Δ (λi hi=>?_)⟩;have m:i<ps.size:=by simpa using hi
  have e:(ps.map a.eval).getD i undef=a.eval ps[i]:=by simp[aU,m]
  rw[e];simp only[bU]at c;have h:=j.ev ps[i] (c _ Δ);rw[h1 ps[i] (by simp[p,Op.operands])]at h;simpa using h
end
variable {P:Program}{T:TypeId}{i:TyI}
theorem TyOk.both (h:TyOk P T i):∃x,P.info? T=some x/\x.size=i.sz/\x.bytes=i.bytes/\x.zero=some i.zero:=by
 have h1:=h.info;have c:=h.zero;cases j:P.info? T with
 |none=>rw[j]at h1;simp at h1
 |some x=>rw[j]at h1 c;simp at h1 c;exact⟨x,rfl,h1.1,h1.2,c⟩
variable {w:World}{base e ty n:Nat}{ie:TyI}{v:Value}{vs:List Value}
theorem zj0 {T m c:Nat}{A:Option Addr}{news:List Value}(D:P.underlying T=some (.slice e))(W:TyOk P e ie)(F:ie.sz=sz)(Z:sz≠0)(C:ie.zero.cells.size=sz)
  (h:w.ownsRow base e sz v n vs) (X:0<m->∃b off,A=some ⟨b,off,none⟩/\∀j u,news[j]? = some u->w.cell? ⟨b,off+j,none⟩=some u) (M:news.length=m*sz) (h1:∀u∈news,u.oneCell'=true)
  (L:n+m<=maxLen) (K:(n+m)*ie.bytes<=140737488355328) (q:base<=w.heap.size) :
  ∃v' w',(Builtin.append_ #[T,T] ty #[v,.slice A m c]).run P w=.ok v' w'/\w'.ownsRow base e sz v' (n+m) (vs++news)/\w.grownBy w' v.ownBlock/\(v'.ownBlock=v.ownBlock\/v'.ownBlock=some w.heap.size):=by
 obtain⟨i,hi,J,I,H⟩:=W.both;rcases Nat.eq_zero_or_pos m with z|z
 ·subst z;have U:news=[]:=bQ.1 (by rw[M];simp);subst U;refine⟨v,w,?_,by simpa using h,World.grownBy.refl w _,.inl rfl⟩;have N:(Builtin.firstCells i.size 0 (.slice A 0 c)).run P w=.ok #[] w:=by
   cases A<;>simp[Builtin.firstCells,loadCells,loadCellsFrom,pure]
  rcases h.2 with⟨rfl,z⟩|⟨g,cap,Y,rfl,_,_,G,_⟩
  ·simp[Builtin.append_,run_underlying D,Go.sizeOf,typeInfo,hi,Builtin.lenOf,N]
  ·simp[Builtin.append_,run_underlying D,Go.sizeOf,typeInfo,hi,Builtin.lenOf,N,G,storeCells]
 ·obtain⟨b,off,rfl,p⟩:=X z;obtain⟨v',w',y,R,Q,_,O⟩:=run_append_own_at (P:=P) w base T ty e i ie.zero sz ie.bytes D hi H (J.trans F) I C Ω v n vs h ⟨b,off,none⟩ m c news M (λj u V=>by rw[Addr.add_lit];exact p j u V) h1 L K q;exact⟨v',w',y,R,Q,O⟩
theorem D5 (h:w.ownsRow base e sz v n vs):v.oneCell'=true:=by
 rcases h.2 with⟨rfl,_⟩|⟨g,cap,c,rfl,_⟩<;>rfl
def Yu:Option Nat->List (Nat×Ent) |none=>[] |some id=>[(id,.dead)]
section
variable {cx:Cx} {o:Oper} {σ:AS}
theorem zoa {T d eb:Nat}{x y:Operand}{ys:List AV}{oid:Option Nat}(ho:o.op=.call { callee:=.builtin .append,args:=#[x,y],argTypes:=#[T,T] })(ag:o.dst=some d)(hd:dok cx o=true)(bj:A6 x=true)(bi:A6 y=true)
  (hT:lkT cx.E.tab T=some i) (hs:i.shape=.slc e sz eb) (he:lkT cx.E.tab e=some ie) (bl:ie.sz=sz) (hz:sz≠0) (bh:ie.zero.cells.size=sz)
  (hx:(σ.eval x=.nils/\oid=none/\xs=[])\/∃id,σ.eval x=.row id/\oid=some id/\id≠d/\σ.find id=some (.row e sz xs)) (hy:σ.eval y=.sl sz ys\/(σ.eval y=.nils/\ys=[])) (hn:σ.find d=none)
  (bv:xs.length+ys.length<=1099511627776) (br:(xs.length+ys.length)*ie.bytes<=140737488355328)
  (bd:cx.E.dr=false):Ao cx o σ (.row d) (d::oid.toList) ((d,.row e sz (xs++ys))::Yu oid):=by
 have ao:∀id,lkE (Yu oid) id=if oid=some id then some .dead else none:=λid=>by
  cases oid with
  |none=>simp[Yu,lkE]
  |some j =>
   simp only[Yu,lkE,aB];by_cases h:j=id
   ·subst h;simp
   ·rw[if_neg h];cases L:aJ j id with
    |true=>exact absurd (aA L) h
    |false=>rfl
 have ah:∀id,lkE ((d,Ent.row e sz (xs++ys))::Yu oid) id=if d=id then some (.row e sz (xs++ys))else if oid=some id then some .dead else none:=λid=>by
  simp only[lkE];by_cases h:d=id
  ·subst h;simp
  ·rw[if_neg h,<-ao];cases L:aJ d id with
   |true=>exact absurd (aA L) h
   |false=>rfl
 refine⟨λid e' af=>?_,λτ h1 h2 a w Q K ⟨γ,p⟩ hK=>C9 (λc hc=>by rw[ho]at hc;cases hc) ?_⟩
 ·rw[ah]at af;by_cases h:d=id
  ·simp[h]
  ·rw[if_neg h]at af;by_cases H:oid=some id
   ·simp[H]
   ·rw[if_neg H]at af;cases af
 have O:=p.ev x bj;rw[h1 x (by simp[ho,Op.operands,Call.operands])]at O;have N:=p.ev y bi;rw[h1 y (by simp[ho,Op.operands,Call.operands])]at N;obtain⟨hu,bu,_⟩:=Cr (cx.E.ok T i hT) hs;have aq:γ d=none:=by have:=p.me d;rw[h2 d Δ,hn]at this;exact this
 have aj:=p.below.size
 -- the row that is appended to
 have hX:∃vs:List Value,w.ownsRow cx.w0.heap.size e sz (a.eval x) xs.length vs/\(∀k (I:k<xs.length),(xs[k]).cells.length=sz)/\(∀k (I:k<xs.length) j (Z:j<(xs[k]).cells.length),Rep w (Sg cx.S0 cx.w0.heap.size γ) G0 ((xs[k]).cells[j]) (vs.getD (k*sz+j) undef))/\(∀u∈vs,u.oneCell'=true) /\
   (∀g,(a.eval x).ownBlock=some g->∃id s,oid=some id/\γ id=some (some (some g,s))):=by
  rcases hx with⟨hx,rfl,rfl⟩|⟨id,hx,rfl,bt,hl⟩
  ·rw[hx]at O;rw[O.nils_inv];exact⟨[],World.ownsRow_nil w _ _ _,λk I=>absurd I Δ,λk I=>absurd I Δ,λu hu=>absurd hu Δ,λg hg=>by simp[Value.ownBlock]at hg⟩
  ·rw[hx]at O;have ba:=p.me id;rw[h2 id Δ,hl]at ba;obtain⟨dd,bf,s,vs,bq,_,W,X,hr,au⟩:=ba;subst bq;have ex:=O.row_inv bf;rw[ex];exact⟨vs,W,X,hr,au,λg hg=>⟨id,s,rfl,by rw[bf,hg]⟩⟩
 obtain⟨vs,W,ab,bn,ak,z⟩:=hX
 -- what is appended
 have hY:∃(A:Option Addr) (c:Nat) (news:List Value),a.eval y=.slice A ys.length c/\news.length=ys.length*sz/\(0<ys.length->∃b off,A=some ⟨b,off,none⟩/\∀j u,news[j]? = some u->w.cell? ⟨b,off+j,none⟩=some u)/\(∀u∈news,u.oneCell'=true) /\
   (∀k (I:k<ys.length),(ys[k]).cells.length=sz)/\(∀k (I:k<ys.length) j (Z:j<(ys[k]).cells.length),Rep w (Sg cx.S0 cx.w0.heap.size γ) G0 ((ys[k]).cells[j]) (news.getD (k*sz+j) undef)):=by
  rcases hy with hy|⟨hy,rfl⟩
  ·rw[hy]at N;obtain⟨A,c,ey,hc,X,cell,L,hr,bs⟩:=N.sl_inv;refine⟨A,c,(cY (ys.length*sz)).map (λq=>cell (q / sz) (q % sz)),ey,Δ,λh0=>?_,λu hu=>?_,X,λk I j Z=>?_⟩
   ·obtain⟨b,off,rfl,hS,J,ap⟩:=L h0;refine⟨b,off,rfl,λj u Z=>?_⟩;obtain⟨bc,bb⟩:=List.getElem?_eq_some_iff.1 Z;simp only[cU,length_range]at bc;simp only[aP,getElem_range]at bb;have hq:j / sz<ys.length:=(Nat.div_lt_iff_lt_mul Ω).2 bc;have hm:j % sz<sz:=cT _ Ω;have:=ap (j / sz) (j % sz) hq hm;rw[show j / sz*sz+j % sz=j by rw[bX];exact Nat.div_add_mod j sz]at this;rw[this,bb]
   ·obtain⟨q,_,rfl⟩:=cR.1 hu;exact bs _ _
   ·have am:j<sz:=by rw[<-X k I];exact Z
    have J:k*sz+j<ys.length*sz:=by
     have:(k+1)*sz<=ys.length*sz:=aF _ I;rw[aO]at this;omega
    have hq:(k*sz+j) / sz=k:=by rw[bX,Nat.mul_add_div Ω,Nat.div_eq_of_lt am,dA]
    have az:(k*sz+j) % sz=j:=by rw[bX,cO,cL am]
    have:((cY (ys.length*sz)).map (λq=>cell (q / sz) (q % sz))).getD (k*sz+j) undef=cell k j:=by
     rw[aD,getElem?_map,getElem?_range J];simp[hq,az]
    rw[this];exact hr k I j Z
  ·rw[hy]at N;exact⟨none,0,[],N.nils_inv,Δ,λh=>absurd h Δ,λu hu=>absurd hu Δ,λk I=>absurd I Δ,λk I=>absurd I Δ⟩
 obtain⟨A,c,news,ey,bo,hA,aa,al,bm⟩:=hY;obtain⟨v',w',ar,q1,Y,q3⟩:=zj0 (P:=cx.P) (c:=c) (ty:=o.type) hu (cx.E.ok e ie he) bl hz bh W hA bo aa (by simp only[maxLen];omega) br aj;have bp:(execOp a.eval o).run cx.P w=.ok (.value v') w':=by
  simp only[execOp,ho,resolve,invoke,builtin,Sem.run_bind,Sem.run_pure,Result.andThen_ok,map_toArray,bW,cJ,ey,ar]
 unfold Oper.wp;rw[bp];have ai:v'.oneCell'=true:=D5 q1;let γ':Gam:=λid=>if d=id then some (some (v'.ownBlock,v'))else if oid=some id then some none else γ id
 have M:γ' d=some (some (v'.ownBlock,v')):=if_pos rfl;have G:∀id,d≠id->oid≠some id->γ' id=γ id:=λid h1 h2=>by show(if d=id then _ else if oid=some id then _ else γ id)=γ id;rw[if_neg h1,if_neg h2]
 have F:∀id,d≠id->oid=some id->γ' id=some none:=λid h1 h2=>by show(if d=id then _ else if oid=some id then _ else γ id)=some none;rw[if_neg h1,if_pos h2]
 have R:∀b,own γ' b->v'.ownBlock=some b\/own γ b:=λb ⟨id,dd,hi,hm⟩=>by
  by_cases h:d=id
  ·subst h;rw[M]at hi;injection hi with hi;subst hi;exact aN (Fn (Fl ai) hm)
  ·by_cases H:oid=some id
   ·rw[F id h H]at hi;injection hi with hi;subst hi;simp[blks]at hm
   ·rw[G id h H]at hi;exact aL ⟨id,dd,hi,hm⟩
 have ad:∀b,v'.ownBlock=some b->(own γ b/\(a.eval x).ownBlock=some b)\/b=w.heap.size:=λb L=>by
  rcases q3 with q3|q3
  ·rw[q3]at L;obtain⟨id,s,_,hi⟩:=z b L;exact aN ⟨own.mk hi,L⟩
  ·rw[q3]at L;injection L with L;exact aL L.symm
 have I:∀b,Sg cx.S0 cx.w0.heap.size γ b->b<w.heap.size->w'.heap[b]? = w.heap[b]? /\ Sg cx.S0 cx.w0.heap.size γ' b:=λb hS J=>by
  have V:¬own γ b:=by
   rcases hS with⟨_,h⟩|⟨_,h⟩
   ·intro L;have:=(p.ge b L).1.1;omega
   ·exact h
  refine⟨Y.block b J (λe=>?_),?_⟩
  ·obtain⟨id,s,_,hi⟩:=z b e.symm;exact V (own.mk hi)
  ·rcases hS with hS|⟨hB,_⟩
   ·exact aN hS
   ·refine aL ⟨hB,λU=>?_⟩;rcases R b U with h|h
    ·rcases ad b h with⟨h,_⟩|h
     ·exact V h
     ·omega
    ·exact V h
 have ay:∀{av v},Rep w (Sg cx.S0 cx.w0.heap.size γ) G0 av v->Rep w' (Sg cx.S0 cx.w0.heap.size γ') G0 av v:=λh=>h.mono Y.size I
 refine hK _ _ ⟨γ',?_⟩;rw[ag];refine p.step (γ':=γ') (λx hx=>by injection hx with hx;subst hx;exact C5 hd _ ag) Y.size I (λid x m=>?_) (λid m=>?_) (λid e' m=>?_) (λid D b d1 d2 hi C m1 m2=>?_) (λb L=>?_) ?_ (.row M (λg s e _=>by injection e with e;injection e with e e2)) (λb V J=>⟨Y.block b J (λe=>by obtain⟨id,s,_,hi⟩:=z b e.symm;exact V (own.mk hi)),λU=>by
  rcases R b U with h|h
  ·rcases ad b h with⟨h,_⟩|h
   ·exact V h
   ·omega
  ·exact V h⟩) (λh=>absurd (bd.symm.trans h) Δ)
 ·by_cases h:d=id
  ·subst h;rw[aq]at m;cases m
  ·by_cases H:oid=some id
   ·exact aL (aN (F id h H))
   ·exact aN (by rw[G id h H];exact m)
 ·rw[ah]at m;by_cases h:d=id
  ·rw[if_pos h]at m;cases m
  ·rw[if_neg h]at m;by_cases H:oid=some id
   ·rw[if_pos H]at m;cases m
   ·refine⟨G id h H,λg dd hg hm=>Y.block g (p.ge g ⟨id,dd,hg,hm⟩).2 (λe=>?_)⟩;obtain⟨bg,s0,h0,an⟩:=z g e.symm;have:=p.inj _ _ _ _ _ hg an hm C3;subst this;exact H h0
 ·rw[ah]at m;by_cases h:d=id
  ·subst h;rw[if_pos rfl]at m;injection m with m
   subst m;refine⟨_,M,v',vs++news,rfl,ai,by rw[bV];exact q1,λk I=>?_,λk I j Z=>?_,λu hu=>(cH.1 hu).elim (ak u) (aa u)⟩
   ·rw[getElem_append];split
    ·exact ab k _
    ·exact al _ _
   ·rw[bV]at I;have bk:vs.length=xs.length*sz:=W.1;by_cases ae:k<xs.length
    ·simp only[bB ae]at Z ⊢;have am:j<sz:=by rw[<-ab k ae];exact Z
     have J:k*sz+j<vs.length:=by
      have:(k+1)*sz<=xs.length*sz:=aF _ ae;rw[aO]at this;omega
     rw[aD,aZ J,<-aD];exact ay (bn k ae j Z)
    ·have ac:xs.length<=k:=Ω
     simp only[bA ac]at Z ⊢;have J:vs.length<=k*sz+j:=by
      have:xs.length*sz<=k*sz:=aF _ ac;omega
     rw[aD,aX J,<-aD];rw[show k*sz+j-vs.length=(k-xs.length)*sz+j by
      rw[bk,Nat.sub_mul];have:xs.length*sz<=k*sz:=aF _ ac;omega]
     exact ay (bm (k-xs.length) Ω j Z)
  ·rw[if_neg h]at m;by_cases H:oid=some id
   ·rw[if_pos H]at m;injection m with m
    subst m;exact⟨none,F id h H,rfl⟩
   ·rw[if_neg H]at m;cases m
 ·have key:∀id D b d1 d2,d=id->d≠D->γ' id=some d1->γ' D=some d2->b∈blks d1->b∈blks d2->False:=λid D b d1 d2 h H hi C m1 m2=>by
   subst h;rw[M]at hi;injection hi with hi
   subst hi;have hi:=Fn (Fl ai) m1;by_cases U:oid=some D
   ·rw[F D H U]at C;injection C with C;subst C;simp[blks]at m2
   ·rw[G D H U]at C;rcases ad b hi with⟨_,L⟩|L
    ·obtain⟨bg,s0,h0,an⟩:=z b L;have:=p.inj _ _ _ _ _ C an m2 C3;subst this;exact U h0
    ·have:=(p.ge b ⟨D,d2,C,m2⟩).2;omega
  by_cases h:d=id
  ·by_cases H:d=D
   ·rw[<-h,<-H]
   ·exact(key id D b d1 d2 h H hi C m1 m2).elim
  ·by_cases H:d=D
   ·exact(key D id b d2 d1 H h C hi m2 m1).elim
   ·by_cases ax:oid=some id
    ·rw[F id h ax]at hi;injection hi with hi;subst hi;simp[blks]at m1
    ·by_cases aw:oid=some D
     ·rw[F D H aw]at C;injection C with C;subst C;simp[blks]at m2
     ·rw[G id h ax]at hi;rw[G D H aw]at C;exact p.inj _ _ _ _ _ hi C m1 m2
 ·rcases R b L with h|h
  ·rcases ad b h with⟨h,_⟩|H
   ·exact⟨(p.ge b h).1,aQ (p.ge b h).2 Y.size⟩
   ·refine⟨⟨Ω,λh0=>by have:=p.gh _ h0;omega⟩,?_⟩;rcases q1.2 with⟨hv,_⟩|⟨g,cap,bw,hv,_,hh,_⟩
    ·rw[hv]at h;simp[Value.ownBlock]at h
    ·rw[hv]at h;simp only[Value.ownBlock,aB]at h;subst h;exact(aM.1 hh).1
  ·exact⟨(p.ge b h).1,aQ (p.ge b h).2 Y.size⟩
 ·refine p.below.trans ⟨Y.os,Y.tape,Y.output,Y.size,λk I=>Y.block k Ω (λe=>?_)⟩;obtain⟨id,s,_,hi⟩:=z k e.symm;have:=(p.ge k (own.mk hi)).1.1;omega
end
def Cd (E:Env)(f:FuncId):Prop:=∀args w,(callFunc f args).run E.P w=.ok (.enter f args) w
def Args (w:World)(S:Nat->Prop)(args:List AV)(vs:Array Value):Prop:=vs.size=args.length/\∀i (hi:i<args.length),Rep w S G0 args[i] (vs.getD i undef)
def BelE (E:Env)(w w':World):Prop:=Below w.heap.size w w'/\(E.dr=true->w.drawn<=w'.drawn)
def Con (E:Env)(c:Bool)(f:FuncId)(args:List AV)(res:AV):Prop:=Cd E f/\∀(S:Nat->Prop) (w:World) (vs:Array Value),Args w S args vs->Calls E.P f vs w λe w'=>∃v,e=.returned v/\BelE E w w'/\Rep w' (λb=>(c=false/\S b)\/w.heap.size<=b) G0 res v
def Fw (E:Env)(f:FuncId)(args:List AV)(ty sz:Nat)(xs:List AV):Prop:=Cd E f/\∀(S:Nat->Prop) (w:World) (vs:Array Value),Args w S args vs->Calls E.P f vs w λe w'=>∃v us,e=.returned v/\Below w.heap.size w w'/\w'.ownsRow w.heap.size ty sz v xs.length us /\ (∀k (c:k<xs.length),(xs[k]).cells.length=sz)/\(∀k (c:k<xs.length) j (h:j<(xs[k]).cells.length),Rep w' (λb=>(S b\/w.heap.size<=b)/\v.ownBlock≠some b) G0 ((xs[k]).cells[j]) (us.getD (k*sz+j) undef))/\∀u∈us,u.oneCell'=true
mutual
def AV.flat:AV->Bool |.ptr _ _=>false |.row _=>false |.elt _ _ _ _=>false |.sl _ _=>false |.ref _=>false |.der _ _=>false |.cont _ _=>false |.mapv _=>false |.fn _ cap=>AV.flatL cap |.yld _ _ cap=>AV.flatL cap |.agg cs=>AV.flatL cs |.tup cs=>AV.flatL cs |_=>true
def AV.flatL:List AV->Bool |[]=>true |x::r=>x.flat && AV.flatL r
end
theorem AV.flatL_at {l:List AV}(h:AV.flatL l=true)(i:Nat)(hi:i<l.length):l[i].flat=true:=by
 induction l generalizing i with
 |nil=>simp at hi
 |cons x r ih =>
  simp only[AV.flatL,aG]at h;cases i with
  |zero=>exact h.1
  |succ i=>exact ih h.2 i (by simpa using hi)
variable {w':World}{S S':Nat->Prop}{γ γ':Gam}{av:AV}
theorem Rep.flat (h:Rep w S γ av v)(j:av.flat=true):Rep w' S' γ' av v:=by
 induction h with
 |any=>exact .any _
 |int=>exact .int _ _
 |bool=>exact .bool _
 |str=>exact .str _
 |nilp=>exact .nilp
 |ptr h q=>simp[AV.flat]at j
 |elt h q=>simp[AV.flat]at j
 |der h q=>simp[AV.flat]at j
 |cont h q p=>simp[AV.flat]at j
 |mapv C I g es clock z H L K p J q F D=>simp[AV.flat]at j
 |mapn=>simp[AV.flat]at j
 |slen A n c=>exact .slen A n c
 |nils=>exact .nils
 |sl A c cell G y z u h1 m=>simp[AV.flat]at j
 |row h q=>simp[AV.flat]at j
 |fn vs p u m=>simp only[AV.flat]at j;exact .fn vs p (λi hi=>m i hi (AV.flatL_at j i hi))
 |yld u m=>simp only[AV.flat]at j;exact .yld (λi hi=>m i hi (AV.flatL_at j i hi))
 |nilf=>exact .nilf
 |agg vs p u h1 m=>simp only[AV.flat]at j;exact .agg vs p (λi hi=>m i hi (AV.flatL_at j i hi)) h1
 |tup vs p u m=>simp only[AV.flat]at j;exact .tup vs p (λi hi=>m i hi (AV.flatL_at j i hi))
 |ref b off cell H z G u h1 m=>simp[AV.flat]at j
section
variable {w:World} {S:Nat->Prop} {γ:Gam} {B:Nat}
theorem Fv {d:Option (Option Nat×Value)}(h:Bm w S γ B d (.row ty sz xs))(N:∀b,S b->b<w.heap.size->S' b)(M:∀s g,d=some (some g,s)->S' g)(γ':Gam):∃s,d=some (s.ownBlock,s)/\Rep w S' γ' (.sl sz xs) s:=by
 obtain⟨s,vs,F,h1,c,m,H,A⟩:=h;refine⟨s,F,?_⟩;have p:∀k j,((λk j=>if k<xs.length/\j<sz then vs.getD (k*sz+j) undef else Value.bool true) k j).oneCell'=true:=λk j=>by
  by_cases h:k<xs.length/\j<sz
  ·simp only[if_pos h];have q:k*sz+j<vs.length:=by
    rw[c.1];have:(k+1)*sz<=xs.length*sz:=aF _ h.1;rw[aO]at this;omega
   rw[aD,aK q];exact A _ (bE q)
  ·simp only[if_neg h];rfl
 have z:∀k (u:k<xs.length) j (y:j<(xs[k]).cells.length),Rep w S' G0 ((xs[k]).cells[j]) ((λk j=>if k<xs.length/\j<sz then vs.getD (k*sz+j) undef else Value.bool true) k j):=λk u j y=>by
  simp only[if_pos (show k<xs.length/\j<sz from⟨u,by rw[<-m k u];exact y⟩)];exact(H k u j y).mono (aC _) (λb D q=>⟨rfl,N b D q⟩)
 have C:∀g,s.ownBlock=some g->∀k j,k<xs.length->j<sz->w.cell? ⟨g,k*sz+j,none⟩=some ((λk j=>if k<xs.length/\j<sz then vs.getD (k*sz+j) undef else Value.bool true) k j):=λg K k j u y=>by
  simp only[if_pos (show k<xs.length/\j<sz from⟨u,y⟩)];refine Oc c K _ ?_;have:(k+1)*sz<=xs.length*sz:=aF _ u;rw[aO]at this;omega
 rcases c.2 with⟨rfl,O⟩|⟨g,cap,Q,rfl,L,J,I,hm,hs,R⟩
 ·have G:xs=[]:=bQ.1 O;subst G;exact .sl none 0 _ (aC _) m (λh=>absurd h Δ) z p
 ·refine .sl _ cap _ I m (λ_=>⟨g,0,rfl,M _ g (by rw[F];rfl),(aM.1 J).1,λk j u y=>?_⟩) z p;rw[bF];exact C g rfl k j u y
end
variable {g:Nat}{ps:List (AV×AV)}
theorem y9k (h:Dj w S g ps)(A:S' g)(y:∀b,S b->b<w.heap.size->S' b)(γ:Gam):Rep w S' γ (.mapv ps) (.map (some g)):=by
 obtain⟨es,clock,h1,C,p,z⟩:=h;exact .mapv ps (.inl rfl) g es clock p A (aM.1 h1).1 h1 C (λj q c=>(z j q c).1.mono (aC _) (λb u m=>⟨rfl,y b u m⟩)) (λj q c=>(z j q c).2.mono (aC _) (λb u m=>⟨rfl,y b u m⟩))
def obA:NE->AV |.row _ sz xs=>.sl sz xs |_=>.any
def arA (c:List NE):Option Nat->AV |none=>.any |some j=>obA (c.getD j .hole)
theorem y9l {s:Value}{b:Nat}{vs:Array Value}(h:B8 s=some b\/∃j,B8 (vs.getD j undef)=some b):b∈blks (some (none,.agg (#[s]++vs))):=by
 simp only[blks,Option.toList_none,nil_append,Cq,Array.toList_append,filterMap_append,cH];rcases h with h|⟨j,h⟩
 ·left;exact mem_filterMap.2 ⟨s,Δ,h⟩
 ·right;by_cases c:j<vs.size
  ·refine mem_filterMap.2 ⟨vs[j],Δ,?_⟩;simpa[aU,c]using h
  ·simp[aU,c,undef,B8]at h
def Ek (σ:AS):AV->AV
 |.row id=>match σ.find id with|some (.row _ sz xs)=>.sl sz xs|some (.mp ps)=>.mapv ps|_=>.any
 |.ptr _ _=>.any
 |.elt _ _ _ _=>.any
 |.der _ _=>.any
 |.cont _ id=>match σ.find id with|some (.are _ idx os)=>.sl 1 (idx.map (arA os))|_=>.any
 |.agg _=>.any
 |.tup _=>.any
 |.fn f cap=>match bC cap with|true=>.fn f cap|false=>.any
 |.yld l T cap=>match bC cap with|true=>.yld l T cap|false=>.any
 |x=>x
def P1 (σ:AS):AV->AV
 |.ptr id off=>match σ.find id with|some (.box _ cs)=>.ref ((cs.map (Ek σ)).drop off)|_=>.any
 |.agg cs=>.agg (cs.map (Ek σ))
 |.fn f cap=>.fn f (cap.map λx=>match x with
   |.ptr id off=>match σ.find id with|some (.box _ cs)=>.ref ((cs.map (Ek σ)).drop off)|_=>.any
   |x=>Ek σ x)
 |x=>Ek σ x
def ids1:AV->List Nat |.row id=>[id] |.cont _ id=>[id] |_=>[]
def ids2 (σ:AS):AV->List Nat
 |.ptr id _=>id::(match σ.find id with|some (.box _ cs)=>cs.flatMap ids1|_=>[])
 |.agg cs=>cs.flatMap ids1
 |.fn _ cap=>cap.flatMap λx=>match x with
   |.ptr id _=>id::(match σ.find id with|some (.box _ cs)=>cs.flatMap ids1|_=>[])
   |x=>ids1 x
 |x=>ids1 x
section
variable {cx:Cx} {σ τ:AS} {γ:Gam} {a:Act} {w:World} {S':Nat->Prop}
theorem zdp (H:StG cx γ τ a w)(p:∀b,Sg cx.S0 cx.w0.heap.size γ b\/own γ b->S' b)(h:Rep w (Sg cx.S0 cx.w0.heap.size γ) γ av v)(A:∀id∈ids1 av,τ.find id=σ.find id):Rep w S' G0 (Ek σ av) v:=by
 have cl:av.closed=true->Rep w S' G0 av v:=λG=>(h.close G).mono (aC _) (λb u _=>⟨rfl,p b (aN u)⟩)
 cases av with
 |row id =>
  simp only[Ek];have Q:=A id (by simp[ids1]);have m:=H.me id;cases O:σ.find id with
  |none=>exact .any _
  |some e =>
   cases e with
   |row ty sz xs =>
    rw[Q,O]at m;obtain⟨d,C,he⟩:=m;obtain⟨s,hs,hr⟩:=Fv (S':=S') he (λb u _=>p b (aN u)) (λs g hg=>p g (aL (own.mk (id:=id) (s:=s) (by rw[C,hg])))) G0;subst hs;rw[h.row_inv C];exact hr
   |mp ps =>
    rw[Q,O]at m;obtain⟨d,C,g,D,hm⟩:=m;subst D;rw[h.row_inv C];exact y9k hm (p g (aL (own.mk C))) (λb u _=>p b (aN u)) G0
   |_=>exact .any _
 |fn f cap =>
  simp only[Ek];cases G:bC cap with
  |true=>exact cl (by simp only[cX];exact G)
  |false=>exact .any _
 |yld l T cap =>
  simp only[Ek];cases G:bC cap with
  |true=>exact cl (by simp only[cX];exact G)
  |false=>exact .any _
 |ptr=>exact .any _
 |elt=>exact .any _
 |der=>exact .any _
 |cont n id =>
  simp only[Ek];have Q:=A id (by simp[ids1]);have m:=H.me id;cases O:σ.find id with
  |none=>exact .any _
  |some e =>
   cases e with
   |are ty idx y =>
    rw[Q,O]at m;obtain⟨d,C,s,vs,us,D,V,ad,z,J,ab,Y,ae⟩:=m;subst D;have U:v=s:=by
     cases h with
     |cont R hv hl =>
      rw[C]at R;injection R with R
      have e:=hv none _ R.symm;rw[e];simp[Dv.of,aE,aY]
    subst U;have K:∀b,(B8 v=some b\/∃j,B8 (vs.getD j undef)=some b)->S' b:=λb u=>p b (aL ⟨id,_,C,y9l u⟩)
    have M:∀{B ty sz n:Nat} {s:Value} {vs:List Value},w.ownsRow B ty sz s n vs->s.ownBlock=B8 s:=λh=>by
     rcases h.2 with⟨rfl,_⟩|⟨g,cap,af,rfl,_⟩<;>rfl
    have F:∀i:Option Nat,(arA y i).cells=[arA y i]:=λi=>by
     cases i with
     |none=>rfl
     |some j=>exact(λ(e:NE)=>(by cases e<;>rfl:(obA e).cells=[obA e])) (y.getD j .hole)
    have ac:∀k (L:k<idx.length),Rep w S' G0 (arA y idx[k]) (us.getD k undef):=λk L=>by
     obtain⟨q1,q2⟩:=ab k L;cases G:idx[k]with
     |none=>exact .any _
     |some j =>
      obtain⟨q3,q4⟩:=q2 j G;rw[q4];have h2:=(Y j q3).2;have e:y.getD j .hole=y[j]:=by rw[aD,aK q3];rfl
      show Rep w S' G0 (obA (y.getD j .hole)) _;rw[e];cases X:y[j]with
      |row ety sz xs =>
       rw[X]at h2;obtain⟨p1,us',p2,p3,p4,p5⟩:=h2;obtain⟨s',c,I⟩:=Fv (w:=w) (S:=Sg cx.S0 cx.w0.heap.size γ) (γ:=γ) (S':=S') (d:=some ((vs.getD j undef).ownBlock,vs.getD j undef)) ⟨_,us',rfl,p1,p2,p3,p4,p5⟩ (λb u _=>p b (aN u)) (λs g' e=>by
        injection e with e
        injection e with N e2
        rw[M p2]at N;exact K g' (aL ⟨j,N⟩)) G0
       injection c with c
       injection c with _ c
       rw[c];exact I
      |_=>exact .any _
    obtain⟨s0,q,W⟩:=Fv (w:=w) (S:=S') (γ:=γ) (S':=S') (B:=cx.w0.heap.size) (ty:=ty) (sz:=1) (xs:=idx.map (arA y)) (d:=some (v.ownBlock,v)) ⟨v,us,rfl,V,by rw[cU];exact z,λk L=>by rw[aP,F];rfl,λk L j hj=>by
      have Z:k<idx.length:=by simpa using L
      have aa:j=0:=by
       have:j<1:=by simpa[F]using hj
       omega
      subst aa;simp only[aP,F,bI,Nat.mul_one,dA];exact ac k Z,J⟩ (λb u _=>u) (λs g' e=>by
      injection e with e
      injection e with N e2
      rw[M z]at N;exact K g' (aN N)) G0
    injection q with q
    injection q with _ q
    rw[q];exact W
   |_=>exact .any _
 |agg=>exact .any _
 |tup=>exact .any _
 |_=>exact cl rfl
theorem zua (p:StG cx γ τ a w)(A:∀b,Sg cx.S0 cx.w0.heap.size γ b\/own γ b->S' b){id off:Nat}(h:Rep w (Sg cx.S0 cx.w0.heap.size γ) γ (.ptr id off) v)(c:∀i∈(id::(match σ.find id with|some (.box _ cs)=>cs.flatMap ids1|_=>[])),τ.find i=σ.find i) :
  Rep w S' G0 (match σ.find id with|some (.box _ cs)=>.ref ((cs.map (Ek σ)).drop off)|_=>.any) v:=by
 have I:=c id Δ;have u:=p.me id;cases D:σ.find id with
 |none=>exact .any _
 |some e =>
  cases e with
  |box ty cs =>
   rw[I,D]at u;obtain⟨d,F,g,vs,C,G,m,H,q⟩:=u;subst C;rw[h.ptr_inv F];have:=zh9 (w:=w) (S:=S') (γ:=G0) (cs:=cs.map (Ek σ)) (b:=g) (off:=0) (k:=off) (cell:=λj=>vs.getD j undef) (A g (aL (own.mk F))) G.lt (λj z=>by rw[bF];exact Oe G j (by simpa[m]using z))
    (λj z=>by
      have y:j<cs.length:=by simpa using z
      simp only[aP];exact zdp p A (H j y) (λi hi=>c i (by simp only[D];exact mem_cons_of_mem _ (cB.2 ⟨_,bE y,hi⟩))))
    (λj z=>q j (by simpa[m]using z))
   rw[bF]at this;exact this
  |_=>exact .any _
theorem zgw (j:StG cx γ τ a w)(p:∀b,Sg cx.S0 cx.w0.heap.size γ b\/own γ b->S' b)(h:Rep w (Sg cx.S0 cx.w0.heap.size γ) γ av v)(c:∀id∈ids2 σ av,τ.find id=σ.find id):Rep w S' G0 (P1 σ av) v:=by
 have C:(∀id∈ids1 av,τ.find id=σ.find id)->Rep w S' G0 (Ek σ av) v:=zdp j p h;cases av with
 |ptr id off=>exact zua j p h c
 |agg cs =>
  obtain⟨vs,rfl,A,z,h1⟩:=h.agg_inv;simp only[P1];refine .agg vs (by simpa using A) (λi hi=>?_) h1;have m:i<cs.length:=by simpa using hi
  simp only[aP];exact zdp j p (z i m) (λid u=>c id (cB.2 ⟨_,bE m,u⟩))
 |fn f cap =>
  obtain⟨vs,rfl,A,z⟩:=h.fn_inv;simp only[P1];refine .fn vs (by simpa using A) (λi hi=>?_);have m:i<cap.length:=by simpa using hi
  simp only[aP];have q:∀id,id∈(match cap[i]with|.ptr id _=>id::(match σ.find id with|some (.box _ cs)=>cs.flatMap ids1|_=>[])|x=>ids1 x)->τ.find id=σ.find id:=λid u=>c id (cB.2 ⟨_,bE m,u⟩)
  have y:=z i m;generalize cap[i]=x at *;cases x with
  |ptr id off=>exact zua j p y q
  |_=>exact zdp j p y q
 |_=>exact C c
end
section
variable {cx:Cx} {o:Oper} {σ:AS}
def Ca (σ:AS)(args:Array Operand)(cap:List AV):List AV:=args.toList.map σ.eval++cap
variable {args:Array Operand}{cap:List AV}{f:FuncId}
theorem Oo {τ:AS}{a:Act}{x:Operand}(c:StG cx γ τ a w)(j:args.toList.all A6=true)(p:A6 x=true)(h1:∀y∈args.toList,τ.eval y=σ.eval y)(u:τ.eval x=σ.eval x)(A:σ.eval x=.fn f cap) :
  ∃caps:Array Value,a.eval x=.func (.func f) #[] caps/\(args.map a.eval++caps).size=(Ca σ args cap).length/\∀i (hi:i<(Ca σ args cap).length),Rep w (Sg cx.S0 cx.w0.heap.size γ) γ (Ca σ args cap)[i] ((args.map a.eval++caps).getD i undef):=by
 have m:=c.ev x p;rw[u,A]at m;obtain⟨caps,F,D,C⟩:=m.fn_inv;refine⟨caps,F,by simp[Ca,D],λi hi=>?_⟩;unfold Ca at hi ⊢;rw[aE];by_cases h:i<args.size
 ·rw[bB (by simpa using h),aY (by simpa using h)];simp only[bU]at j;have z:=c.ev args[i] (j _ Δ);rw[h1 args[i] Δ]at z;simpa[h]using z
 ·have q:i-args.size<cap.length:=by simp at hi;omega
  rw[bA (by simpa using h),Array.getElem?_append_right (by simpa using h)];have:=C (i-args.size) q;rw[aE]at this;simpa using this
variable {tys:Array TypeId}
theorem Oi {x:Operand}{caps:Array Value}{a:Act}(h:o.op=.call { callee:=.value x,args:=args,argTypes:=tys })(c:a.eval x=.func (.func f) #[] caps)(j:∀args w,(callFunc f args).run P w=.ok (.enter f args) w) :
  (execOp a.eval o).run P w=.ok (.enter f (args.map a.eval++caps)) w:=by
 simp only[execOp,h,resolve,c,Deferred.ofValue,invoke,Sem.run_bind,Sem.run_pure,Result.andThen_ok,Array.empty_append,j]
variable {avs:List AV}
theorem yax {x:Operand}{res:AV}{W:Bool}(A:o.op=.call { callee:=.value x,args:=args,argTypes:=tys })(N:dok cx o=true)(q:A6 x=true)(u:args.toList.all A6=true)(H:σ.eval x=.fn f cap)
  (R:Ca σ args cap=avs) (F:bC avs=true) (m:Con cx.E W f avs res):Ao cx o σ res [] []:=by
 refine⟨λid e M=>by simp[lkE]at M,λτ h1 X a w Q K ⟨γ,h⟩ U=>C9 (λc m=>by rw[A]at m;cases m) ?_⟩;have j:o.op.operands=#[x]++args:=by simp[A,Op.operands,Call.operands]
 obtain⟨caps,D,L,J⟩:=Oo h u q (λy G=>h1 y (by rw[j];simp at G ⊢;exact aL G)) (h1 x (by rw[j];simp)) H;subst R;unfold Oper.wp;rw[Oi A D m.1];show Calls _ _ _ _ _;refine(m.2 (Sg cx.S0 cx.w0.heap.size γ) w _ ⟨L,λi hi=>(J i hi).close (bL F i hi)⟩).mono ?_;rintro e w' ⟨v,rfl,⟨O,C⟩,I⟩;refine U _ _ ⟨γ,h.grow (C5 N) O C ?_⟩;refine(I.mono (aC _) (λb p _=>⟨rfl,?_⟩)).open_;rcases p with⟨_,p⟩|p
 ·exact p
 ·exact aL ⟨⟨aR h.below.size p,λV=>by have:=h.gh _ V;omega⟩,λz=>by have:=(h.ge b z).2;omega⟩
theorem zrh {x:Operand}{res:AV}{L:Bool}(D:o.op=.call { callee:=.value x,args:=args,argTypes:=tys })(U:dok cx o=true)(z:A6 x=true)(A:args.toList.all A6=true)(M:σ.eval x=.fn f cap)
  (W:(Ca σ args cap).map (P1 σ)=avs) (u:Con cx.E L f avs res) (q:L=true\/res.flat=true):Ao cx o σ res ((Ca σ args cap).flatMap (ids2 σ)) []:=by
 refine⟨λid e R=>by simp[lkE]at R,λτ h1 Y a w Q K ⟨γ,h⟩ X=>C9 (λc u=>by rw[D]at u;cases u) ?_⟩;have m:o.op.operands=#[x]++args:=by simp[D,Op.operands,Call.operands]
 obtain⟨caps,H,O,N⟩:=Oo h A z (λy I=>h1 y (by rw[m];simp at I ⊢;exact aL I)) (h1 x (by rw[m];simp)) M;subst W;unfold Oper.wp;rw[Oi D H u.1];show Calls _ _ _ _ _;refine(u.2 (λ_=>True) w _ ⟨by simpa using O,λi hi=>?_⟩).mono ?_
 ·have p:i<(Ca σ args cap).length:=by simpa using hi
  simp only[aP];exact zgw h (λ_ _=>trivial) (N i p) (λid F=>Y id (cB.2 ⟨_,bE p,F⟩))
 rintro e w' ⟨v,rfl,⟨V,G⟩,J⟩;refine X _ _ ⟨γ,h.grow (C5 U) V G ?_⟩;rcases q with q|q
 ·refine(J.mono (aC _) (λb j _=>⟨rfl,?_⟩)).open_;rcases j with⟨j,_⟩|j
  ·rw[q]at j;cases j
  ·exact aL ⟨⟨aR h.below.size j,λZ=>by have:=h.gh _ Z;omega⟩,λC=>by have:=(h.ge b C).2;omega⟩
 ·exact J.flat q
theorem y08 {x:Operand}{f d:Nat}(ho:o.op=.call { callee:=.value x,args:=args,argTypes:=tys })(L:o.dst=some d)(hd:dok cx o=true)(ad:A6 x=true)(af:args.toList.all A6=true)(F:σ.eval x=.fn f cap)
  (ha:Ca σ args cap=avs) (ak:bC avs=true) (hn:σ.find d=none) (hc:Fw cx.E f avs ty sz xs) (Z:cx.E.dr=false):Ao cx o σ (.row d) [d] [(d,.row ty sz xs)]:=by
 refine⟨λid e he=>?_,λτ h1 C a w Q K ⟨γ,m⟩ hK=>C9 (λc hc=>by rw[ho]at hc;cases hc) ?_⟩
 ·simp only[lkE]at he;cases I:aJ d id with
  |true=>simp[aA I]
  |false=>rw[I]at he;cases he
 have V:o.op.operands=#[x]++args:=by simp[ho,Op.operands,Call.operands]
 obtain⟨caps,aj,hl,hr⟩:=Oo m af ad (λy hy=>h1 y (by rw[V];simp at hy ⊢;exact aL hy)) (h1 x (by rw[V];simp)) F;subst ha;have R:γ d=none:=by have:=m.me d;rw[C d Δ,hn]at this;exact this
 unfold Oper.wp;rw[Oi ho aj hc.1];show Calls _ _ _ _ _;refine(hc.2 (Sg cx.S0 cx.w0.heap.size γ) w _ ⟨hl,λi hi=>(hr i hi).close (bL ak i hi)⟩).mono ?_;rintro e w' ⟨v,us,rfl,I,u,Y,ae,W⟩;have H:=m.below.size;let γ':Gam:=γ.set d (some (v.ownBlock,v));have p:∀b,v.ownBlock=some b->w.heap.size<=b/\b<w'.heap.size:=λb p=>by
  rcases u.2 with⟨U,_⟩|⟨g,cap,ac,U,am,hh,_⟩
  ·rw[U]at p;simp[Value.ownBlock]at p
  ·rw[U]at p;simp only[Value.ownBlock,aB]at p;subst p;exact⟨am,(aM.1 hh).1⟩
 have q:∀b,own γ' b->v.ownBlock=some b\/own γ b:=λb ⟨id,s,hi,hm⟩=>by
  by_cases h:id=d
  ·subst h;rw[show γ' id=_ from aS _ _ _]at hi;injection hi with hi;subst hi;exact aN (Fn (Fl (D5 u)) hm)
  ·rw[show γ' id=_ from bD _ _ _ h]at hi;exact aL ⟨id,s,hi,hm⟩
 have X:∀i x,γ i=some x->i≠d:=λi x F e=>by subst e;rw[R]at F;cases F
 have M:∀b,Sg cx.S0 cx.w0.heap.size γ b->b<w.heap.size->Sg cx.S0 cx.w0.heap.size γ' b:=λb O D=>by
  rcases O with O|⟨h1,C⟩
  ·exact aN O
  ·refine aL ⟨h1,λz=>?_⟩;rcases q b z with h|h
   ·have:=(p b h).1;omega
   ·exact C h
 refine hK _ _ ⟨γ',?_⟩;rw[L];refine m.step (γ':=γ') (λx F=>by injection F with F;subst F;exact C5 hd _ L) I.size (λb O D=>⟨I.block b D,M b O D⟩) (λi x F=>aN (by rw[show γ' i=_ from bD _ _ _ (X i x F)];exact F)) (λi hi=>?_) (λi e' hi=>?_) (λi j b s1 s2 h1 C m1 m2=>?_) (λb al=>?_) (m.below.trans (I.mono H)) (.row (aS _ _ _) (λg s e _=>by injection e with e;injection e with e e2)) (λb ag D=>⟨I.block b D,λz=>by
  rcases q b z with h|h
  ·have:=(p b h).1;omega
  ·exact ag h⟩) (λh=>absurd (Z.symm.trans h) Δ)
 ·have N:i≠d:=λe=>by subst e;simp[lkE]at hi
  exact⟨bD _ _ _ N,λg' s' ai ah=>I.block g' (m.ge g' ⟨i,s',ai,ah⟩).2⟩
 ·have N:i=d:=by
   simp only[lkE]at hi;cases aa:aJ d i with
   |true=>exact(aA aa).symm
   |false=>rw[aa]at hi;cases hi
  subst N;simp only[lkE,cI,aB]at hi;subst hi;refine⟨_,aS _ _ _,v,us,rfl,D5 u,⟨u.1,u.2.elim aN (λ⟨g,cap,ac,U,hg,r⟩=>aL ⟨g,cap,ac,U,aR H hg,r⟩)⟩,Y,λk hk j hj=>?_,W⟩;refine(ae k hk j hj).mono (aC _) (λb O D=>⟨rfl,?_⟩);obtain⟨A,ab⟩:=O;rcases A with A|A
  ·rcases A with A|⟨h1,C⟩
   ·exact aN A
   ·refine aL ⟨h1,λz=>?_⟩;rcases q b z with h|h
    ·exact ab h
    ·exact C h
  ·refine aL ⟨⟨aR H A,λh0=>by have:=m.gh _ h0;omega⟩,λz=>?_⟩;rcases q b z with h|h
   ·exact ab h
   ·have:=(m.ge b h).2;omega
 ·by_cases J:i=d
  ·by_cases G:j=d
   ·rw[J,G]
   ·subst J;rw[show γ' i=_ from aS _ _ _]at h1;rw[show γ' j=_ from bD _ _ _ G]at C;injection h1 with h1
    subst h1;have:=(m.ge b ⟨j,s2,C,m2⟩).2;have:=(p b (Fn (Fl (D5 u)) m1)).1;omega
  ·by_cases G:j=d
   ·subst G;rw[show γ' j=_ from aS _ _ _]at C;rw[show γ' i=_ from bD _ _ _ J]at h1;injection C with C
    subst C;have:=(m.ge b ⟨i,s1,h1,m1⟩).2;have:=(p b (Fn (Fl (D5 u)) m2)).1;omega
   ·rw[show γ' i=_ from bD _ _ _ J]at h1;rw[show γ' j=_ from bD _ _ _ G]at C;exact m.inj i j b s1 s2 h1 C m1 m2
 ·rcases q b al with h|h
  ·have:=p b h;exact⟨⟨aR H this.1,λh0=>by have:=m.gh _ h0;omega⟩,this.2⟩
  ·exact⟨(m.ge b h).1,aQ (m.ge b h).2 I.size⟩
end
open Go.RowKit
mutual
def AV.ren (ρ:Nat->Nat):AV->AV |.ptr id off=>.ptr (ρ id) off |.row id=>.row (ρ id) |.elt id sz k j=>.elt (ρ id) sz k j |.der c id=>.der c (ρ id) |.cont n id=>.cont n (ρ id) |.fn f cap=>.fn f (AV.renL ρ cap) |.yld l T cap=>.yld l T (AV.renL ρ cap) |.agg cs=>.agg (AV.renL ρ cs) |.tup cs=>.tup (AV.renL ρ cs) |x=>x
def AV.renL (ρ:Nat->Nat):List AV->List AV |[]=>[] |x::r=>x.ren ρ::AV.renL ρ r
end
mutual
def AV.inM (ids:List Nat):AV->Bool |.ptr id _=>memB id ids |.row id=>memB id ids |.elt id _ _ _=>memB id ids |.der _ id=>memB id ids |.cont _ id=>memB id ids |.fn _ cap=>AV.inML ids cap |.yld _ _ cap=>AV.inML ids cap |.agg cs=>AV.inML ids cs |.tup cs=>AV.inML ids cs |_=>true
def AV.inML (ids:List Nat):List AV->Bool |[]=>true |x::r=>x.inM ids && AV.inML ids r
end
theorem AV.renL_length (ρ:Nat->Nat)(l:List AV):(AV.renL ρ l).length=l.length:=by
 induction l with
 |nil=>rfl
 |cons x r ih=>simp[AV.renL,ih]
theorem AV.renL_at (ρ:Nat->Nat)(l:List AV)(i:Nat)(hi:i<l.length):(AV.renL ρ l)[i]'(by rw[AV.renL_length];exact hi)=l[i].ren ρ:=by
 induction l generalizing i with
 |nil=>simp at hi
 |cons x r ih =>
  cases i with
  |zero=>rfl
  |succ i=>exact ih i (by simpa using hi)
variable {ids:List Nat}
theorem AV.inML_at {l:List AV}(h:AV.inML ids l=true)(i:Nat)(hi:i<l.length):l[i].inM ids=true:=by
 induction l generalizing i with
 |nil=>simp at hi
 |cons x r ih =>
  simp only[AV.inML,aG]at h;cases i with
  |zero=>exact h.1
  |succ i=>exact ih h.2 i (by simpa using hi)
variable {ρ:Nat->Nat}
theorem Rep.ren (p:∀id,id∈ids->γ' id=γ (ρ id)){F:AV}(h:Rep w S γ F v):∀av:AV,F=av.ren ρ->av.inM ids=true->Rep w S γ' av v:=by
 induction h with
 |any=>intro av j hi;cases av<;>simp[AV.ren]at j;exact .any _
 |int=>intro av j hi;cases av<;>simp[AV.ren]at j;obtain⟨rfl,rfl⟩:=j;exact .int _ _
 |bool=>intro av j hi;cases av<;>simp[AV.ren]at j;subst j;exact .bool _
 |str=>intro av j hi;cases av<;>simp[AV.ren]at j;subst j;exact .str _
 |nilp=>intro av j hi;cases av<;>simp[AV.ren]at j;exact .nilp
 |nils=>intro av j hi;cases av<;>simp[AV.ren]at j;exact .nils
 |nilf=>intro av j hi;cases av<;>simp[AV.ren]at j;exact .nilf
 |ptr h q =>
  intro av j hi;cases av<;>simp[AV.ren]at j;obtain⟨rfl,rfl⟩:=j;exact .ptr ((p _ ((Dn _ _).1 hi)).trans h) q
 |elt h q =>
  intro av j hi;cases av<;>simp[AV.ren]at j;obtain⟨rfl,rfl,rfl,rfl⟩:=j;exact .elt ((p _ ((Dn _ _).1 hi)).trans h) q
 |row h q =>
  intro av j hi;cases av<;>simp[AV.ren]at j;subst j;exact .row ((p _ ((Dn _ _).1 hi)).trans h) q
 |der h q =>
  intro av j hi;cases av<;>simp[AV.ren]at j;obtain⟨rfl,rfl⟩:=j;exact .der ((p _ ((Dn _ _).1 hi)).trans h) q
 |cont h q y =>
  intro av j hi;cases av<;>simp[AV.ren]at j;obtain⟨rfl,rfl⟩:=j;exact .cont ((p _ ((Dn _ _).1 hi)).trans h) q y
 |mapv G L g es clock D I O N y M q K J=>intro av j hi;cases av<;>simp[AV.ren]at j;subst j;exact .mapv G L g es clock D I O N y M q
 |mapn=>intro av j hi;cases av<;>simp[AV.ren]at j;subst j;exact .mapn
 |slen A n c=>intro av j hi;cases av<;>simp[AV.ren]at j;subst j;exact .slen A _ c
 |sl A c cell H C D z h1 u=>intro av j hi;cases av<;>simp[AV.ren]at j;obtain⟨rfl,rfl⟩:=j;exact .sl A c cell H C D z h1
 |ref b off cell I D H z h1 u=>intro av j hi;cases av<;>simp[AV.ren]at j;subst j;exact .ref b off cell I D H z h1
 |fn vs y z u =>
  intro av j hi;cases av<;>simp[AV.ren]at j;obtain⟨rfl,rfl⟩:=j;simp only[AV.inM]at hi;exact .fn vs (by rw[y,AV.renL_length]) (λi m=>u i (by rw[AV.renL_length];exact m) p _ (AV.renL_at _ _ _ _) (AV.inML_at hi i m))
 |yld z u =>
  intro av j hi;cases av<;>simp[AV.ren]at j;obtain⟨rfl,rfl,rfl⟩:=j;simp only[AV.inM]at hi;exact .yld (λi m=>u i (by rw[AV.renL_length];exact m) p _ (AV.renL_at _ _ _ _) (AV.inML_at hi i m))
 |agg vs y z h1 u =>
  intro av j hi;cases av<;>simp[AV.ren]at j;subst j;simp only[AV.inM]at hi;exact .agg vs (by rw[y,AV.renL_length]) (λi m=>u i (by rw[AV.renL_length];exact m) p _ (AV.renL_at _ _ _ _) (AV.inML_at hi i m)) h1
 |tup vs y z u =>
  intro av j hi;cases av<;>simp[AV.ren]at j;subst j;simp only[AV.inM]at hi;exact .tup vs (by rw[y,AV.renL_length]) (λi m=>u i (by rw[AV.renL_length];exact m) p _ (AV.renL_at _ _ _ _) (AV.inML_at hi i m))
def rho:List (Nat×Nat)->Nat->Nat
 |[],i=>i
 |(a,b)::r,i=>match aJ a i with|true=>b|false=>rho r i
def Ent.renI (ρ:Nat->Nat):Ent->Ent |.box ty cs=>.box ty (AV.renL ρ cs) |e=>e
def Ent.inM (ids:List Nat):Ent->Bool |.box _ cs=>AV.inML ids cs |_=>true
def LeV (σ:AS)(ρ:Nat->Nat)(ids:List Nat):List (Nat×AV)->Prop |[]=>True |(t,av)::r=>(σ.get t=av.ren ρ/\av.inM ids=true)/\LeV σ ρ ids r
def LeE (σ:AS)(ρ:Nat->Nat)(ids:List Nat):List (Nat×Ent)->Prop |[]=>True |(i,e)::r=>(σ.find (ρ i)=some (e.renI ρ)/\e.inM ids=true)/\LeE σ ρ ids r
def injB (ρ:Nat->Nat)(ids:List Nat):Bool:=ids.all λi=>ids.all λj=>!(aJ (ρ i) (ρ j)) || aJ i j
variable {σ:AS}
theorem LeV.get {l:List (Nat×AV)}(h:LeV σ ρ ids l)(t:Nat):lkV l t=.any\/(σ.get t=(lkV l t).ren ρ/\(lkV l t).inM ids=true):=by
 induction l with
 |nil=>exact aN rfl
 |cons x r ih =>
  obtain⟨u,av⟩:=x;simp only[LeV]at h;simp only[lkV];cases c:aJ u t with
  |true=>have:=aA c;subst this;exact aL h.1
  |false=>exact ih h.2
variable {l:List (Nat×Ent)}
theorem LeE.get (h:LeE σ ρ ids l)(i:Nat):lkE l i=none\/∃e,lkE l i=some e/\σ.find (ρ i)=some (e.renI ρ)/\e.inM ids=true:=by
 induction l with
 |nil=>exact aN rfl
 |cons x r ih =>
  obtain⟨u,e⟩:=x;simp only[LeE]at h;simp only[lkE];cases c:aJ u i with
  |true=>have:=aA c;subst this;exact aL ⟨e,rfl,h.1⟩
  |false=>exact ih h.2
theorem Oj {i:Nat}:lkE l i≠none ↔ i∈l.map (·.1):=by
 constructor
 ·exact zoq
 ·intro h
  induction l with
  |nil=>simp at h
  |cons x r ih =>
   obtain⟨u,e⟩:=x;simp only[lkE];cases c:aJ u i with
   |true=>simp
   |false =>
    simp only[bW,mem_cons]at h;rcases h with h|h
    ·subst h;simp at c
    ·exact ih h
variable {d:Option (Option Nat×Value)}
theorem Bm.nest_mono {B:Nat}{ty:TypeId}{es:List NE}(h:Bm w S γ B d (.nest ty es))(z:∀b,S b->S' b):Bm w S' γ' B d (.nest ty es):=by
 obtain⟨s,vs,u,h1,c,m,p,j⟩:=h;exact⟨s,vs,u,h1,c,m,λk q=>(p k q).moved (aC _) (λb y _=>⟨rfl,z b y⟩) (λ_ _=>rfl),j⟩
theorem Bm.mpn_mono {B:Nat}{ps:List (AV×NE)}(h:Bm w S γ B d (.mpn ps))(z:∀b,S b->S' b):Bm w S' γ' B d (.mpn ps):=by
 obtain⟨g,es,vs,G,F,C,m,u,q,c,A,p⟩:=h;exact⟨g,es,vs,G,F,C,m,u,λj h H=>(q j h H).mono (aC _) (λb y _=>⟨rfl,z b y⟩),c,λk D=>(A k D).moved (aC _) (λb y _=>⟨rfl,z b y⟩) (λ_ _=>rfl),p⟩
variable {cx:Cx}{τ:AS}
theorem Le.of (ps:List (Nat×Nat))(C:injB (rho ps) (τ.me.map (·.1))=true)(h1:LeV σ (rho ps) (τ.me.map (·.1)) τ.tm)(G:LeE σ (rho ps) (τ.me.map (·.1)) τ.me):Le cx σ τ:=λa w ⟨γ,h⟩=>by
 generalize J:τ.me.map (·.1)=ids at *;generalize rho ps=ρ at *;have A:∀i,lkE τ.me i≠none ↔ i∈ids:=λi=>by rw[Oj,J]
 let γ':Gam:=λi=>if i∈ids then γ (ρ i)else none
 have c:∀i,i∈ids->γ' i=γ (ρ i):=λi hi=>if_pos hi
 have m:∀b,own γ' b->own γ b:=λb ⟨i,s,hi,q⟩=>by
  by_cases hm:i∈ids
  ·rw[c i hm]at hi;exact⟨_,s,hi,q⟩
  ·rw[show γ' i=none from if_neg hm]at hi;cases hi
 have D:∀b,Sg cx.S0 cx.w0.heap.size γ b->Sg cx.S0 cx.w0.heap.size γ' b:=λb q=>q.elim aN (λ⟨h1,G⟩=>aL ⟨h1,λQ=>G (m b Q)⟩)
 have F:∀{g:Gam} {av v},Rep w (Sg cx.S0 cx.w0.heap.size γ) g av v->Rep w (Sg cx.S0 cx.w0.heap.size γ') g av v:=λh=>h.mono (aC _) (λb q _=>⟨rfl,D b q⟩)
 refine⟨γ',λt=>?_,λi=>?_,λi j b s Y hi H mi mj=>?_,λb q=>h.ge b (m b q),h.below,h.size,h.defers.gam m,h.gh,λb q=>by obtain⟨X,W,V⟩:=h.fr b q;exact⟨λQ=>X (m b Q),W,V⟩,h.dr⟩
 ·rcases h1.get t with z|⟨z,hm⟩
  ·unfold AS.get;rw[z];exact .any _
  ·have:=h.tm t;rw[z]at this;exact F (this.ren c _ rfl hm)
 ·rcases G.get i with z|⟨e,z,U,hm⟩
  ·unfold AS.find;rw[z];have:i ∉ ids:=λhi=>(A i).2 hi z
   exact if_neg this
  ·unfold AS.find;rw[z];have hi:i∈ids:=(A i).1 (by rw[z];simp);rw[c i hi];have:=h.me (ρ i);rw[U]at this;obtain⟨x,R,y⟩:=this;refine⟨x,R,?_⟩;cases e with
   |box ty cs =>
    obtain⟨g,vs,K,q,N,O,u⟩:=y;simp only[Ent.inM]at hm;refine⟨g,vs,K,q,by rw[N,AV.renL_length],λk L=>F ((O k (by rw[AV.renL_length];exact L)).ren c _ (AV.renL_at _ _ _ _) (AV.inML_at hm k L)),u⟩
   |row ty sz xs =>
    obtain⟨s,vs,K,h1,m,I,O,u⟩:=y;exact⟨s,vs,K,h1,m,I,λk L j H=>F (O k L j H),u⟩
   |mp ps =>
    obtain⟨g,K,hm⟩:=y;exact⟨g,K,hm.move (aC _) (λb q _=>⟨rfl,D b q⟩) rfl⟩
   |nest ty es=>exact Bm.nest_mono y D
   |mpn ps=>exact Bm.mpn_mono y D
   |are ty idx os=>exact y.gmono (λ_ _ h=>by cases h) D
   |it ps=>exact y.gmono (λ_ _ h=>by cases h) D
   |itp ps=>exact y.gmono (λ_ _ h=>by cases h) D
   |itc p ps=>exact y.gmono (λ_ _ h=>by cases h) D
   |dead=>exact y
 ·by_cases h1:i∈ids
  ·by_cases G:j∈ids
   ·rw[c i h1]at hi;rw[c j G]at H;have e:=h.inj _ _ _ _ _ hi H mi mj;simp only[injB,bU,cP,bG]at C;rcases C i h1 j G with M|M
    ·rw[e]at M;simp at M
    ·exact aA M
   ·rw[show γ' j=none from if_neg G]at H;cases H
  ·rw[show γ' i=none from if_neg h1]at hi;cases hi
def Ui (σ:AS):AV->AV |.tup cs=>.tup (cs.map (P1 σ)) |x=>P1 σ x
def retA (tab:List (Nat×TyI))(σ:AS):List ResultVar->Option (List AV)
 |[]=>some []
 |.tmp t::r=>(retA tab σ r).map (σ.get t::·)
 |.cell t T::r=>match σ.get t,lkT tab T with
  |.ptr id off,some i=>match σ.find id with
   |some (.box _ cs)=>match i.shape.agg with
    |true=>match dC (off+i.sz) cs.length with
     |true=>(retA tab σ r).map (.agg ((cs.drop off).take i.sz)::·)
     |false=>none
    |false=>match cs[off]? with
     |some av=>(retA tab σ r).map (av::·)
     |none=>none
   |_=>none
  |_,_=>none
def Kl:List AV->AV |[x]=>x |xs=>.tup xs
section
variable {cx:Cx} {γ:Gam} {σ:AS} {a:Act} {w:World}
theorem zsy {id off T:Nat}{ty:TypeId}{cs:List AV}(A:StG cx γ σ a w)(G:Rep w (Sg cx.S0 cx.w0.heap.size γ) γ (.ptr id off) v)(M:lkT cx.E.tab T=some i)(L:i.shape.agg=true)(J:σ.find id=some (.box ty cs))(N:off+i.sz<=cs.length) :
  ∃u,((do loadVar T (<-asAddr v)):Sem Value).run cx.P w=.ok u w/\Rep w (Sg cx.S0 cx.w0.heap.size γ) γ (.agg ((cs.drop off).take i.sz)) u:=by
 have q:=A.me id;rw[J]at q;obtain⟨d,F,g,vs,D,K,H,I,p⟩:=q;subst D;have e:=G.ptr_inv F;subst e;have c:((cY i.sz).map λj=>vs.getD (off+j) undef).length=i.sz:=Δ
 have m:=Xh (cx.E.ok T i M) L w ⟨g,off,none⟩ ((cY i.sz).map λj=>vs.getD (off+j) undef) c (λj v z=>by
  obtain⟨C,y⟩:=List.getElem?_eq_some_iff.1 z;rw[c]at C;simp only[aP,getElem_range]at y;rw[Addr.add_lit,Oe K _ Ω,y])
 refine⟨.agg ((cY i.sz).map λj=>vs.getD (off+j) undef).toArray,by simp only[asAddr,Sem.run_bind,Sem.run_pure,Result.andThen_ok,m],.agg _ Ψ (λj z=>?_) (λj z=>?_)⟩
 ·rw[cC,bM]at z;simp only[bP,bO];have:((cY i.sz).map λj=>vs.getD (off+j) undef).toArray.getD j undef=vs.getD (off+j) undef:=by
   have h:j<i.sz:=Ω
   simp[h]
  rw[this];exact I (off+j) Ω
 ·have h:j<i.sz:=by simpa using z
  have:((cY i.sz).map λj=>vs.getD (off+j) undef).toArray.getD j undef=vs.getD (off+j) undef:=by simp[h]
  rw[this];exact p _ Ω
theorem zsx {id off T:Nat}{ty:TypeId}{cs:List AV}(j:StG cx γ σ a w)(A:Rep w (Sg cx.S0 cx.w0.heap.size γ) γ (.ptr id off) v)(J:lkT cx.E.tab T=some i)(I:i.shape.agg=false)(F:σ.find id=some (.box ty cs))(G:cs[off]? = some av) :
  ∃u,((do loadVar T (<-asAddr v)):Sem Value).run cx.P w=.ok u w/\Rep w (Sg cx.S0 cx.w0.heap.size γ) γ av u:=by
 have h:=j.me id;rw[F]at h;obtain⟨d,q,g,vs,p,H,C,D,z⟩:=h;subst p;have e:=A.ptr_inv q;subst e;obtain⟨m,y⟩:=List.getElem?_eq_some_iff.1 G;have c:=Tb (cx.E.ok T i J) I w ⟨g,off,none⟩ (vs.getD off undef) (Oe H off Ω);refine⟨vs.getD off undef,by simp only[asAddr,Sem.run_bind,Sem.run_pure,Result.andThen_ok,c],?_⟩;have:=D off m
 rwa [y]at this
def Kh (tmps:Array Value):ResultVar->Sem Value
 |.tmp t=>pure (tmps.getD t undef)
 |.cell a t=>do loadVar t (<-asAddr (tmps.getD a undef))
theorem zj1 (m:StG cx γ σ a w):∀(l:List ResultVar) (avs:List AV),retA cx.E.tab σ l=some avs ->
  ∃vs:List Value,(l.mapM (Kh a.tmps)).run cx.P w=.ok vs w/\vs.length=avs.length/\∀i (hi:i<avs.length),Rep w (Sg cx.S0 cx.w0.heap.size γ) γ avs[i] (vs.getD i undef)
 |[],avs,h=>by
  simp only[retA,aB]at h;subst h;exact⟨[],by simp[pure],rfl,λi hi=>by simp at hi⟩
 |x::r,avs,h=>by
  have key:∀(av:AV) (c:List AV),retA cx.E.tab σ r=some c->avs=av::c->(∃u,(Kh a.tmps x).run cx.P w=.ok u w/\Rep w (Sg cx.S0 cx.w0.heap.size γ) γ av u) ->
    ∃vs:List Value,((x::r).mapM (Kh a.tmps)).run cx.P w=.ok vs w/\vs.length=avs.length/\∀i (hi:i<avs.length),Rep w (Sg cx.S0 cx.w0.heap.size γ) γ avs[i] (vs.getD i undef):=by
   rintro av c j rfl ⟨u,H,A⟩;obtain⟨vs,h1,J,I⟩:=zj1 m r c j;refine⟨u::vs,?_,by simp[J],λi hi=>?_⟩
   ·rw[mapM_cons];simp only[Sem.run_bind,H,Result.andThen_ok,h1,Sem.run_pure]
   ·cases i with
    |zero=>exact A
    |succ i=>have:=I i (by simpa using hi);simpa using this
  cases x with
  |tmp t =>
   simp only[retA,bH]at h;obtain⟨c,j,z⟩:=h;exact key _ c j z.symm ⟨_,by simp[Kh,pure],m.tm t⟩
  |cell t T =>
   simp only[retA]at h;split at h
   ·rename_i id off i q G;split at h
    ·rename_i ty cs F;split at h
     ·rename_i p;split at h
      ·rename_i C;simp only[bH]at h;obtain⟨c,j,z⟩:=h;have y:=m.tm t;rw[q]at y;exact key _ c j z.symm (zsy m y G p F (bK C))
      ·cases h
     ·rename_i p;split at h
      ·rename_i av D;simp only[bH]at h;obtain⟨c,j,z⟩:=h;have y:=m.tm t;rw[q]at y;exact key _ c j z.symm (zsx m y G p F D)
      ·cases h
    ·cases h
   ·cases h
theorem zzx (fn:Func)(tmps:Array Value):results fn tmps=(fn.results.mapM (Kh tmps) >>= λvs=>pure (if h:vs.size=1 then vs[0]else .tuple vs)):=by
 unfold results;have e:(λx:ResultVar=>match x with
  |.tmp t=>(pure (tmps.getD t undef):Sem Value)
  |.cell a t=>(do loadVar t (<-asAddr (tmps.getD a undef)):Sem Value))=Kh tmps:=by funext x;cases x<;>rfl
 rw[<-e];rfl
theorem Tq (m:StG cx γ σ a w){fn:Func}{avs:List AV}(h:retA cx.E.tab σ fn.results.toList=some avs):∃v,(results fn a.tmps).run cx.P w=.ok v w/\Rep w (Sg cx.S0 cx.w0.heap.size γ) γ (Kl avs) v:=by
 obtain⟨vs,h1,j,q⟩:=zj1 m fn.results.toList avs h;have hm:(fn.results.mapM (Kh a.tmps)).run cx.P w=.ok vs.toArray w:=by
  rw[Array.mapM_eq_mapM_toList];show Sem.run cx.P (mapM (Kh a.tmps) fn.results.toList >>= λl=>pure l.toArray) w=_;simp only[Sem.run_bind,h1,Result.andThen_ok,Sem.run_pure]
 have c:(results fn a.tmps).run cx.P w=.ok (if h:vs.toArray.size=1 then vs.toArray[0]else .tuple vs.toArray) w:=by
  rw[zzx];simp only[Sem.run_bind,hm,Result.andThen_ok,Sem.run_pure]
 refine⟨_,c,?_⟩;cases avs with
 |nil =>
  have:vs=[]:=bQ.1 j;subst this;exact .tup #[] rfl (λi hi=>by simp at hi)
 |cons x r =>
  cases r with
  |nil =>
   obtain⟨u,rfl⟩:∃u,vs=[u]:=by
    cases vs with
    |nil=>simp at j
    |cons u t=>cases t with
     |nil=>exact⟨u,rfl⟩
     |cons _ _=>simp at j
   exact q 0 Δ
  |cons y r =>
   have p:¬vs.toArray.size=1:=by simp[j]
   rw[dif_neg p];refine .tup vs.toArray (by simpa using j) (λi hi=>?_);have:=q i hi;simpa using this
end
mutual
def fAV {α:Type}:AV->(AV->α)->α |.any,k=>k .any |.int kd n,k=>k (.int kd n) |.bool b,k=>k (.bool b) |.str s,k=>k (.str s) |.nilp,k=>k .nilp |.ptr id off,k=>k (.ptr id off) |.nils,k=>k .nils |.sl sz xs,k=>k (.sl sz xs) |.row id,k=>k (.row id) |.elt id sz m j,k=>k (.elt id sz m j) |.fn f cap,k=>fL cap λl=>k (.fn f l) |.yld r T cap,k=>fL cap λl=>k (.yld r T l) |.nilf,k=>k .nilf |.agg cs,k=>fL cs λl=>k (.agg l) |.tup cs,k=>fL cs λl=>k (.tup l) |.ref cs,k=>k (.ref cs) |.der c id,k=>k (.der c id) |.cont n id,k=>k (.cont n id) |.mapv ps,k=>k (.mapv ps) |.slen n,k=>k (.slen n)
def fL {α:Type}:List AV->(List AV->α)->α |[],k=>k [] |x::r,k=>fAV x λc=>fL r λh=>k (c::h)
end
mutual
theorem P0 {α:Type}:∀(v:AV) (k:AV->α),fAV v k=k v
 |.any,k=>rfl
 |.int kd n,k=>rfl
 |.bool b,k=>rfl
 |.str s,k=>rfl
 |.nilp,k=>rfl
 |.ptr id off,k=>rfl
 |.nils,k=>rfl
 |.sl sz xs,k=>rfl
 |.row id,k=>rfl
 |.elt id sz m j,k=>rfl
 |.fn f cap,k=>by rw[fAV,P5]
 |.yld r T cap,k=>by rw[fAV,P5]
 |.nilf,k=>rfl
 |.agg cs,k=>by rw[fAV,P5]
 |.tup cs,k=>by rw[fAV,P5]
 |.ref cs,k=>rfl
 |.der c id,k=>rfl
 |.cont n id,k=>rfl
 |.mapv ps,k=>rfl
 |.slen n,k=>rfl
theorem P5 {α:Type}:∀(l:List AV) (k:List AV->α),fL l k=k l
 |[],k=>rfl
 |x::r,k=>by rw[fL,P0,P5]
end
mutual
inductive Sub:AV->AV->Prop
 |refl (v:AV):Sub v v
 |nil (sz:Nat):Sub .nils (.sl sz [])
 |any (v:AV):Sub v .any
 |agg {cs ds:List AV} (h:SubL cs ds):Sub (.agg cs) (.agg ds)
 |tup {cs ds:List AV} (h:SubL cs ds):Sub (.tup cs) (.tup ds)
 |fn {f:FuncId} {cs ds:List AV} (h:SubL cs ds):Sub (.fn f cs) (.fn f ds)
 |yld {l:Nat} {T:Array Value} {cs ds:List AV} (h:SubL cs ds):Sub (.yld l T cs) (.yld l T ds)
 |sl (sz:Nat) {xs ys:List AV} (h:SubE xs ys):Sub (.sl sz xs) (.sl sz ys)
inductive SubL:List AV->List AV->Prop
 |nil:SubL [] []
 |cons {x y:AV} {r s:List AV} (h:Sub x y) (hr:SubL r s):SubL (x::r) (y::s)
inductive SubE:List AV->List AV->Prop
 |nil:SubE [] []
 |cons {x y:AV} {r s:List AV} (h:SubL x.cells y.cells) (hr:SubE r s):SubE (x::r) (y::s)
end
variable {cs ds:List AV}
theorem SubE.len (h:SubE cs ds):cs.length=ds.length:=by
 induction cs generalizing ds with
 |nil=>cases h;rfl
 |cons x r ih=>cases h with
  |cons j c=>simp[ih c]
theorem SubE.at (h:SubE cs ds)(i:Nat)(hi:i<cs.length)(c:i<ds.length):SubL cs[i].cells ds[i].cells:=by
 induction cs generalizing ds i with
 |nil=>simp at hi
 |cons x r ih=>cases h with
  |cons j m=>cases i with
   |zero=>exact j
   |succ i=>exact ih m i (by simpa using hi) (by simpa using c)
theorem SubL.len (h:SubL cs ds):cs.length=ds.length:=by
 induction cs generalizing ds with
 |nil=>cases h;rfl
 |cons x r ih=>cases h with
  |cons j c=>simp[ih c]
theorem SubL.at (h:SubL cs ds)(i:Nat)(hi:i<cs.length)(c:i<ds.length):Sub cs[i] ds[i]:=by
 induction cs generalizing ds i with
 |nil=>simp at hi
 |cons x r ih=>cases h with
  |cons j m=>cases i with
   |zero=>exact j
   |succ i=>exact ih m i (by simpa using hi) (by simpa using c)
theorem Rep.sub (h:Rep w S γ av v):∀{bv:AV},Sub av bv->Rep w S γ bv v:=by
 induction h with
 |any v=>intro bv hs;cases hs<;>exact .any _
 |int k n=>intro bv hs;cases hs<;>first|exact .int _ _|exact .any _
 |bool b=>intro bv hs;cases hs<;>first|exact .bool _|exact .any _
 |str s=>intro bv hs;cases hs<;>first|exact .str _|exact .any _
 |nilp=>intro bv hs;cases hs<;>first|exact .nilp|exact .any _
 |nilf=>intro bv hs;cases hs<;>first|exact .nilf|exact .any _
 |ptr h p=>intro bv hs;cases hs<;>first|exact .ptr h p|exact .any _
 |elt h p=>intro bv hs;cases hs<;>first|exact .elt h p|exact .any _
 |row h p=>intro bv hs;cases hs<;>first|exact .row h p|exact .any _
 |der h p=>intro bv hs;cases hs<;>first|exact .der h p|exact .any _
 |cont h p m=>intro bv hs;cases hs<;>first|exact .cont h p m|exact .any _
 |mapv I R g es clock F J V U m u p Q O=>intro bv hs;cases hs<;>first|exact .mapv I R g es clock F J V U m u p|exact .any _
 |mapn=>intro bv hs;cases hs<;>first|exact .mapn|exact .any _
 |slen A n c=>intro bv hs;cases hs<;>first|exact .slen A _ c|exact .any _
 |nils =>
  intro bv hs;cases hs with
  |refl=>exact .nils
  |any=>exact .any _
  |nil sz=>exact .sl (xs:=[]) none 0 (λ_ _=>.bool true) (aC _) (λk u=>absurd u Δ) (λh=>absurd h Δ) (λk u=>absurd u Δ) (λ_ _=>rfl)
 |sl A c cell G z F q h1 y =>
  intro bv hs;cases hs with
  |refl=>exact .sl A c cell G z F q h1
  |any=>exact .any _
  |sl sz h =>
   have m:=h.len;rw[m]at G ⊢;refine .sl A c cell G (λk u=>?_) (λW=>?_) (λk u j H=>?_) h1
   ·rw[<-(h.at k Ω u).len];exact z k Ω
   ·obtain⟨b,off,N,M,L,K⟩:=F Ω;exact⟨b,off,N,M,L,λk j u H=>K k j Ω H⟩
   ·have C:=u;rw[<-m]at C;have hs:=h.at k C u;have D:=H;rw[<-hs.len]at D;exact y k C j D (hs.at j D H)
 |ref b off cell J F G q h1 y=>intro bv hs;cases hs<;>first|exact .ref b off cell J F G q h1|exact .any _
 |fn vs m q y =>
  intro bv hs;cases hs with
  |refl=>exact .fn vs m q
  |any=>exact .any _
  |fn h=>exact .fn vs (by rw[m,h.len]) (λi hi=>y i (by rw[h.len];exact hi) (h.at i _ hi))
 |yld q y =>
  intro bv hs;cases hs with
  |refl=>exact .yld q
  |any=>exact .any _
  |yld h=>exact .yld (λi hi=>y i (by rw[h.len];exact hi) (h.at i _ hi))
 |agg vs m q h1 y =>
  intro bv hs;cases hs with
  |refl=>exact .agg vs m q h1
  |any=>exact .any _
  |agg h=>exact .agg vs (by rw[m,h.len]) (λi hi=>y i (by rw[h.len];exact hi) (h.at i _ hi)) h1
 |tup vs m q y =>
  intro bv hs;cases hs with
  |refl=>exact .tup vs m q
  |any=>exact .any _
  |tup h=>exact .tup vs (by rw[m,h.len]) (λi hi=>y i (by rw[h.len];exact hi) (h.at i _ hi))
variable {E:Env}{f:FuncId}{avs:List AV}{res:AV}
theorem Con.sub {j:Bool}{bvs:List AV}(h:SubL avs bvs)(c:Con E j f bvs res):Con E j f avs res :=
 ⟨c.1,λS w vs ⟨p,m⟩=>c.2 S w vs ⟨by rw[p,h.len],λi hi=>(m i (by rw[h.len];exact hi)).sub (h.at i _ hi)⟩⟩
theorem Fw.sub {bvs:List AV}(h:SubL avs bvs)(c:Fw E f bvs ty sz xs):Fw E f avs ty sz xs :=
 ⟨c.1,λS w vs ⟨m,j⟩=>c.2 S w vs ⟨by rw[m,h.len],λi hi=>(j i (by rw[h.len];exact hi)).sub (h.at i _ hi)⟩⟩
inductive RetX (v res:AV):Prop
 |sub (h:Sub v res)
theorem RetX.mk {v:AV}(h:v=res):RetX v res:=.sub (h▸.refl v)
inductive RowX (ty sz:Nat) (xs:List AV) (ty' sz':Nat) (xs':List AV):Prop
 |mk (h1:ty=ty') (h2:sz=sz') (h3:xs=xs')
def endA (E:Env)(fn:Func)(res:AV)(σ:AS):Prop:=match retA E.tab σ fn.results.toList with
 |some avs=>fAV (Ui σ (Kl avs)) λv=>RetX v res
 |none=>False
def EndA (E:Env)(fn:Func)(res:AV):Exit->AS->Prop |.normal,σ=>endA E fn res σ |.ret,σ=>endA E fn res σ |_,_=>False
variable {fn:Func}
theorem zg3 (h:endA E fn res σ):∃avs,retA E.tab σ fn.results.toList=some avs/\Sub (Ui σ (Kl avs)) res:=by
 unfold endA at h;split at h
 ·rename_i avs c;rw[P0]at h;cases h with
  |sub h=>exact⟨avs,c,h⟩
 ·exact h.elim
def E9 (args:List AV):AS:=⟨args.zipIdx.map λp=>(p.2,p.1),[]⟩
theorem zoo:∀(l:List AV) (n t:Nat),lkV ((l.zipIdx n).map λp=>(p.2,p.1)) t=if h:n<=t/\t<n+l.length then l[t-n]' Ω else .any
 |[],n,t=>by simp[lkV];intro h;omega
 |x::r,n,t=>by
  simp only[zipIdx_cons,bW,lkV];cases c:aJ n t with
  |true=>have:=aA c;subst this;simp
  |false =>
   have j:n≠t:=λe=>by subst e;simp at c
   simp only;rw[zoo r (n+1) t];by_cases h:n+1<=t/\t<n+1+r.length
   ·rw[dif_pos h,dif_pos Ψ];have:t-n=(t-(n+1))+1:=Ω
    simp only[this,bT]
   ·rw[dif_neg h,dif_neg Ψ]
variable {args:List AV}
theorem Yf {vs:Array Value}{nt:Nat}(m:E.yl=none)(u:E.np=0)(h:Args w S args vs)(D:args.length<=nt):St (Cx.call E S w nt) (E9 args) { tmps:=vs++bY (nt-vs.size) undef,defers:=[] } w:=by
 obtain⟨z,q⟩:=h;refine⟨G0,λt=>?_,λi=>rfl,λi j b s C h=>(by cases h),λb ⟨i,s,h,_⟩=>(by cases h),Below.refl _ _,by simp[Cx.call];omega,⟨λ_=>rfl,⟨[],rfl,.nil,λr q=>by cases q⟩,λt p=>by rw[show(Cx.call E S w nt).E.np=0 from u]at p;omega,λl R z=>absurd (m.symm.trans z) Δ,aC _⟩,λb y=>y.2,λb y=>y.elim,λ_=>aC _⟩;unfold AS.get E9;rw[zoo];by_cases h:0<=t/\t<0+args.length
 ·rw[dif_pos h];have p:t<vs.size:=Ω
  have e:(vs++bY (nt-vs.size) undef).getD t undef=vs.getD t undef:=by
   rw[aE,aE,aY p]
  show Rep w _ G0 _ ((vs++bY (nt-vs.size) undef).getD t undef);rw[e];refine(q t Ω).mono (aC _) (λb A c=>⟨rfl,aN ⟨⟨A,c⟩,c⟩⟩)
 ·rw[dif_neg h];exact .any _
variable {a:Act}
theorem znz (c:StG cx γ σ a w)(j:∀b,Sg cx.S0 cx.w0.heap.size γ b\/own γ b->S' b)(h:Rep w (Sg cx.S0 cx.w0.heap.size γ) γ av v):Rep w S' G0 (Ui σ av) v:=by
 cases av with
 |tup cs =>
  obtain⟨vs,rfl,q,p⟩:=h.tup_inv;simp only[Ui];refine .tup vs (by simpa using q) (λi hi=>?_);have m:i<cs.length:=by simpa using hi
  simp only[aP];exact zgw c j (p i m) (λ_ _=>rfl)
 |_=>exact zgw c j h (λ_ _=>rfl)
theorem Con.of {C:Bool}{c:Code}(J:E.P.funcs[f]? = some fn)(m:fn.body=some c)(K:Cd E f)(I:args.length<=fn.ntmps)(p:C=false\/res.flat=true)
  (h:∀S w,WP (Cx.call E S w fn.ntmps) c (EndA E fn res) (E9 args)) (y:E.rg=false) (u:E.yl=none) (A:E.np=0):Con E C f args res:=by
 refine⟨K,λS w vs L=>callsIn_wide.1 (callsIn_of_wp (F:=Fence.wide) (n:=0) J m trivial ?_)⟩;refine wpIn_mono (h S w _ _ (Yf u A L I)) (λe a w' ⟨σ,z,γ,j⟩=>?_);have key:(∃avs,retA E.tab σ fn.results.toList=some avs/\Sub (Ui σ (Kl avs)) res)->bodyPost E.P fn (λe w'=>∃v,e=.returned v/\BelE E w w'/\Rep w' (λb=>(C=false/\S b)\/w.heap.size<=b) G0 res v) .ret a w':=by
  rintro ⟨avs,h1,q⟩;obtain⟨v,G,H⟩:=Tq j h1;refine⟨j.defers.d0 y,v,G,v,rfl,⟨j.below,j.dr⟩,?_⟩;have D:=(znz (S':=λb=>S b\/w.heap.size<=b) j (λb m=>?_) H).sub q
  ·rcases p with p|p
   ·exact D.mono (aC _) (λb m _=>⟨rfl,m.elim (λh=>aN ⟨p,h⟩) aL⟩)
   ·exact D.flat p
  ·rcases m with m|m
   ·rcases m with⟨m,_⟩|⟨m,_⟩
    ·exact aN m.1
    ·exact aL m.1
   ·exact aL (j.ge b m).1.1
 cases e with
 |normal=>exact key (zg3 z)
 |ret=>exact key (zg3 z)
 |_=>exact z.elim
def endR (fn:Func)(ty sz:Nat)(xs:List AV)(σ:AS):Prop:=match fn.results.toList with
 |[.tmp t]=>match σ.get t with
  |.row id=>match σ.find id with
   |some (.row ty' sz' xs')=>RowX ty' sz' xs' ty sz xs
   |_=>False
  |_=>False
 |_=>False
def EndR (fn:Func)(ty sz:Nat)(xs:List AV):Exit->AS->Prop |.normal,σ=>endR fn ty sz xs σ |.ret,σ=>endR fn ty sz xs σ |_,_=>False
theorem zt8 (h:endR fn ty sz xs σ):∃t id,fn.results.toList=[.tmp t]/\σ.get t=.row id/\σ.find id=some (.row ty sz xs):=by
 unfold endR at h;split at h
 ·rename_i t j;split at h
  ·rename_i id c;split at h
   ·rename_i ty' sz' xs' m;cases h with
    |mk h1 q p=>subst h1;subst q;subst p;exact⟨t,id,j,c,m⟩
   ·exact h.elim
  ·exact h.elim
 ·exact h.elim
theorem Fw.of {c:Code}(W:E.P.funcs[f]? = some fn)(Y:fn.body=some c)(X:Cd E f)(V:args.length<=fn.ntmps)
  (h:∀S w,WP (Cx.call E S w fn.ntmps) c (EndR fn ty sz xs) (E9 args)) (H:E.rg=false) (C:E.yl=none) (J:E.np=0):Fw E f args ty sz xs:=by
 refine⟨X,λS w vs Z=>callsIn_wide.1 (callsIn_of_wp (F:=Fence.wide) (n:=0) W Y trivial ?_)⟩;refine wpIn_mono (h S w _ _ (Yf C J Z V)) (λe a w' ⟨σ,I,γ,m⟩=>?_);have key:(∃t id,fn.results.toList=[.tmp t]/\σ.get t=.row id/\σ.find id=some (.row ty sz xs))->bodyPost E.P fn (λe w'=>∃v us,e=.returned v/\Below w.heap.size w w'/\w'.ownsRow w.heap.size ty sz v xs.length us /\
  (∀k (K:k<xs.length),(xs[k]).cells.length=sz)/\(∀k (K:k<xs.length) j (O:j<(xs[k]).cells.length),Rep w' (λb=>(S b\/w.heap.size<=b)/\v.ownBlock≠some b) G0 ((xs[k]).cells[j]) (us.getD (k*sz+j) undef))/\∀u∈us,u.oneCell'=true) .ret a w':=by
  rintro ⟨t,id,h1,h2,h3⟩;obtain⟨v,R,U⟩:=Tq (avs:=[.row id]) m (by rw[h1];simp[retA,h2]);have z:=m.me id;rw[h3]at z;obtain⟨d,Q,s,us,L,M,y,A,G,q⟩:=z;subst L;have D:v=s:=U.row_inv Q;subst D;refine⟨m.defers.d0 H,v,R,v,us,rfl,m.below,y,A,λk K j O=>?_,q⟩;refine(G k K j O).mono (aC _) (λb p _=>⟨rfl,?_,λe=>?_⟩)
  ·rcases p with⟨p,_⟩|⟨p,_⟩
   ·exact aN p.1
   ·exact aL p.1
  ·have N:own γ b:=⟨id,_,Q,by rw[e];exact C3⟩;rcases p with⟨_,p⟩|⟨_,p⟩
   ·have:=(m.ge b N).1.1;exact absurd p (by show¬b<w.heap.size;exact Nat.not_lt.2 this)
   ·exact p N
 cases e with
 |normal=>exact key (zt8 I)
 |ret=>exact key (zt8 I)
 |_=>exact I.elim
open Go.RowKit
section
variable {α:Type}
theorem zo5 (l m:List α)(o q:Nat)(h:o+m.length<=l.length):(l.take o++m++l.drop (o+m.length))[q]? = if q<o then l[q]? else if q<o+m.length then m[q-o]? else l[q]? := by
 by_cases h1:q<o
 ·rw[if_pos h1,append_assoc,aZ Ψ,bN h1]
 ·rw[if_neg h1];by_cases c:q<o+m.length
  ·rw[if_pos c,append_assoc,aX Ψ,aZ Ψ];rw[show q-(List.take o l).length=q-o by simp;omega]
  ·rw[if_neg c,aX Ψ,getElem?_drop];rw[show o+m.length+(q-(List.take o l++m).length)=q by simp;omega]
theorem zo4 (l m:List α)(o n:Nat)(h:o+m.length<=n)(j:n<=l.length):(l.take o++m++l.drop (o+m.length)).take n=(l.take n).take o++m++(l.take n).drop (o+m.length):=by
 apply ext_getElem?;intro q;rw[zo5 (l.take n) m o q Ψ];by_cases c:q<n
 ·rw[bN c,zo5 l m o q Ω,bN c]
 ·rw[cM Ψ,if_neg Ω,if_neg Ω,cM Ψ]
theorem zdk (l m:List α)(o:Nat)(h:o+m.length<=l.length):(l.take o++m++l.drop (o+m.length)).length=l.length:=Ψ
end
section
variable {cx:Cx} {σ:AS} {o:Oper}
theorem zj2 {T id k j:Nat}{x y:Operand}{ty:TypeId}{el el':AV}(ho:o.op=.store T x y)(hd:dok cx o=true)(bd:A6 x=true)(bc:A6 y=true)(hx:σ.eval x=.elt id sz k j)(hy:σ.eval y=av)(hT:lkT cx.E.tab T=some i)(hl:σ.find id=some (.row ty sz xs))
  (he:xs[k]? = some el) (bb:av.cells.length=i.sz) (br:j+i.sz<=sz) (hc:okc σ av=true) (bq:av.closed=true) (X:el'.cells=el.cells.take j++av.cells++el.cells.drop (j+i.sz)) :
  Ao cx o σ (.tup []) (id::av.ids) [(id,.row ty sz (xs.set k el'))]:=by
 refine⟨λF e he=>?_,λτ h1 h2 a w Q K ⟨γ,p⟩ hK=>C9 (λc hc=>by rw[ho]at hc;cases hc) ?_⟩
 ·simp only[lkE]at he;cases hb:aJ id F with
  |true=>simp[aA hb]
  |false=>rw[hb]at he;cases he
 have ax:=p.ev x bd;rw[h1 x (by simp[ho,Op.operands]),hx]at ax;have ac:=p.ev y bc;rw[h1 y (by simp[ho,Op.operands]),hy]at ac;have ao:=p.me id;rw[h2 id Δ,hl]at ao;obtain⟨d,D,s,vs,bo,bg,al,M,hr,aa⟩:=ao;subst bo;obtain⟨hk,Y⟩:=List.getElem?_eq_some_iff.1 he;obtain⟨bf,ah⟩:=al;rcases ah with⟨_,h0⟩|⟨g,cap,U,rfl,ai,N,L,hm,bp,ad⟩
 ·omega
 have D:γ id=some (some (some g,.slice (some ⟨g,0,none⟩) xs.length cap)):=D;have e:=ax.elt_inv D;obtain⟨c1,c2,c3⟩:=zg7 p ac hc (λid af=>h2 id (by simp[af]));have J:∀u∈(a.eval y).cells.toList,u.oneCell'=true:=λu V=>by
  obtain⟨q,I,rfl⟩:=bZ.1 V;have ak:q<(a.eval y).cells.size:=by simpa using I
  have:=c3 q ak;simpa[aU,ak]using this
 have W:(a.eval y).cells.toList.length=i.sz:=Ψ
 have aq:=M k hk;have bu:k*sz+sz<=xs.length*sz:=by
  have:(k+1)*sz<=xs.length*sz:=aF _ hk;rw[aO]at this;exact this
 have bv:xs.length*sz<=cap*sz:=aF _ L;have Z:=z65 (cx.E.ok T i hT) w g (k*sz+j) ty U (a.eval y) N (c1.trans bb) Ω J;unfold Oper.wp;generalize R:(U.toList.take (k*sz+j)++(a.eval y).cells.toList++U.toList.drop (k*sz+j+i.sz)).toArray=z at Z;have bm:(execOp a.eval o).run cx.P w=.ok .skip (w.setRow g z):=by
  simp only[execOp,ho,e,Instr.storeAt,Instr.sureAddr,Sem.run_bind,Sem.run_pure,Result.andThen_ok,Z]
 rw[bm];have ba:=setRow_heap w g U z ty (0,0) N;have A:∀q,q≠g->(w.setRow g z).heap[q]? = w.heap[q]? := λq I=>setRow_other w g q _ I
 have ag:own γ g:=own.mk D;have au:=p.ge g ag;have am:∀b,Sg cx.S0 cx.w0.heap.size γ b->b≠g:=λb hS e=>by
  subst e;rcases hS with⟨_,h⟩|⟨_,h⟩
  ·have:=au.1.1;omega
  ·exact h ag
 generalize G:w.setRow g z=w' at *;have hz:w.heap.size<=w'.heap.size:=by rw[<-G];simp
 have bn:w.drawn<=w'.drawn:=by rw[<-G];exact aC _
 have ae:∀{γ':Gam} {av v},Rep w (Sg cx.S0 cx.w0.heap.size γ) γ' av v->Rep w' (Sg cx.S0 cx.w0.heap.size γ) γ' av v:=λh=>h.mono hz (λb hS _=>⟨A b (am b hS),hS⟩)
 refine hK _ _ ⟨γ,p.step (C5 hd) hz (λb hS ap=>⟨A b (am b hS),hS⟩) (λid d h=>aN h) (λF ar=>⟨rfl,λg' s bl bk=>A g' ?_⟩) (λF e' O=>?_) p.inj (λb az=>⟨(p.ge b az).1,aQ (p.ge b az).2 hz⟩) ?_ (.tup #[] rfl (λi hi=>by simp at hi)) (λb an _=>⟨A b (λe=>an (e▸ag)),an⟩) (λ_=>bn)⟩
 ·rintro rfl;have:=p.inj _ _ _ _ _ bl D bk C3;subst this;simp[lkE]at ar
 ·have af:F=id:=by
   simp only[lkE]at O;cases ay:aJ id F with
   |true=>exact(aA ay).symm
   |false=>rw[ay]at O;cases O
  subst af;simp only[lkE,cI,aB]at O;subst O;have aj:z.toList.take (xs.length*sz)=vs.take (k*sz+j)++(a.eval y).cells.toList++vs.drop (k*sz+j+i.sz):=by
   rw[<-R,<-ad,<-W];exact zo4 _ _ _ _ Ω Ψ
  have aw:∀q,(vs.take (k*sz+j)++(a.eval y).cells.toList++vs.drop (k*sz+j+i.sz))[q]? = if q<k*sz+j then vs[q]? else if q<k*sz+j+i.sz then(a.eval y).cells.toList[q-(k*sz+j)]? else vs[q]? := λq=>by
   rw[<-W];exact zo5 _ _ _ _ Ω
  refine⟨_,D,.slice (some ⟨g,0,none⟩) xs.length cap,vs.take (k*sz+j)++(a.eval y).cells.toList++vs.drop (k*sz+j+i.sz),rfl,bg,⟨?_,aL ⟨g,cap,z,Δ,ai,ba,by simpa using L,hm,?_,by simpa using aj⟩⟩,?_,?_,?_⟩
  ·rw[<-W,zdk _ _ _ Ω];simpa using bf
  ·rw[<-R];have:=zdk U.toList (a.eval y).cells.toList (k*sz+j) Ψ;rw[W]at this;simpa[bp]using this
  ·intro q I;rw[cV]at I;rw[cD];by_cases C:k=q
   ·rw[if_pos C,X];rw[Y]at aq;simp;omega
   ·rw[if_neg C];exact M q I
  ·intro q I r H;rw[cV]at I;have bt:=M q I;rw[aD,aw];rw[cD]at H;by_cases C:k=q
   ·subst C;rw[Y]at aq;simp only[getElem_set_self];rw[if_pos rfl,X]at H;simp only[bV,cC,bM]at H;have ab:∀r,(h:r<el.cells.length)->Rep w' (Sg cx.S0 cx.w0.heap.size γ) G0 el.cells[r] (vs[k*sz+r]?.getD undef):=λr h=>by
     have:=hr k hk r (by rw[Y];exact h);simp only[Y]at this;rw[aD]at this;exact ae this
    have m:(el'.cells)[r]? = if r<j then el.cells[r]? else if r<j+i.sz then av.cells[r-j]? else el.cells[r]? := by
     rw[X,<-bb];exact zo5 _ _ _ _ Ω
    have bh:r<el'.cells.length:=by rw[X];simp;omega
    rw[aK bh]at m;by_cases h1:r<j
    ·rw[if_pos Ω];rw[if_pos h1,aK Ω]at m;injection m with m
     rw[m];exact ab r Ω
    ·rw[if_neg Ω];rw[if_neg h1]at m;by_cases h2:r<j+i.sz
     ·rw[if_pos Ω];rw[if_pos h2,aK Ω]at m;injection m with m
      rw[m];have bi:=c2 (r-j) Ω;have:=(ae bi).close (γ':=G0) (zco bq (r-j) Ω);rw[show k*sz+r-(k*sz+j)=r-j by omega];simpa[aE]using this
     ·rw[if_neg Ω];rw[if_neg h2,aK Ω]at m;injection m with m
      rw[m];exact ab r Ω
   ·have bj:(xs.set k el')[q]'(by simpa using I)=xs[q]:=by rw[cD,if_neg C]
    rw[if_neg C]at H;simp only[bj];have:=ae (hr q I r H);rw[aD]at this;have bs:¬(k*sz+j<=q*sz+r/\q*sz+r<k*sz+j+i.sz):=λ⟨h1,h2⟩=>by
     rcases Nat.lt_or_gt_of_ne C with ap|m
     ·have:(k+1)*sz<=q*sz:=aF _ ap;rw[aO]at this;omega
     ·have:(q+1)*sz<=k*sz:=aF _ m;rw[aO]at this;omega
    by_cases h1:q*sz+r<k*sz+j
    ·rw[if_pos h1];exact this
    ·rw[if_neg h1,if_neg Ω];exact this
  ·intro u V;simp only[cH]at V;rcases V with(V|V)|V
   ·exact aa u (mem_of_mem_take V)
   ·exact J u V
   ·exact aa u (mem_of_mem_drop V)
 ·refine p.below.trans ⟨by rw[<-G];rfl,by rw[<-G];rfl,by rw[<-G];rfl,hz,λk hk=>A k (by have:=au.1.1;omega)⟩
theorem Yp {dst:Option Nat}{d:Nat}{u:Value}{us:List Value}(p:StG cx γ τ a w)(ad:cx.E.dr=true->w.drawn<=w'.drawn)(hn:τ.find d=none)(hd:∀x,dst=some x->cx.E.np<=x/\x<cx.nt)(D:Below w.heap.size w w')(q:w'.ownsRow w.heap.size ty sz v xs.length us)
  (Q:∀k (hk:k<xs.length),(xs[k]).cells.length=sz) (Y:∀k (hk:k<xs.length) j (H:j<(xs[k]).cells.length),Rep w' (λb=>(Sg cx.S0 cx.w0.heap.size γ b\/w.heap.size<=b)/\v.ownBlock≠some b) G0 ((xs[k]).cells[j]) (us.getD (k*sz+j) undef)) (N:∀u∈us,u.oneCell'=true)
  (hu:(∀b,(Sg cx.S0 cx.w0.heap.size γ b\/w.heap.size<=b)/\v.ownBlock≠some b->Sg cx.S0 cx.w0.heap.size (γ.set d (some (v.ownBlock,v))) b)->Rep w' (Sg cx.S0 cx.w0.heap.size (γ.set d (some (v.ownBlock,v)))) (γ.set d (some (v.ownBlock,v))) av u) :
  St cx (τ.upd dst av [(d,.row ty sz xs)]) (a.put dst u) w':=by
 have K:γ d=none:=by have:=p.me d;rw[hn]at this;exact this
 have F:=p.below.size;generalize G:γ.set d (some (v.ownBlock,v))=γ' at *;have y:γ' d=some (some (v.ownBlock,v)):=by rw[<-G];exact aS _ _ _
 have c:∀i,i≠d->γ' i=γ i:=λi hi=>by rw[<-G];exact bD _ _ _ hi
 have m:∀b,v.ownBlock=some b->w.heap.size<=b/\b<w'.heap.size:=λb m=>by
  rcases q.2 with⟨M,_⟩|⟨g,cap,V,M,af,hh,_⟩
  ·rw[M]at m;simp[Value.ownBlock]at m
  ·rw[M]at m;simp only[Value.ownBlock,aB]at m;subst m;exact⟨af,(aM.1 hh).1⟩
 have z:∀b,own γ' b->v.ownBlock=some b\/own γ b:=λb ⟨id,s,hi,hm⟩=>by
  by_cases h:id=d
  ·subst h;rw[y]at hi;injection hi with hi;subst hi;exact aN (Fn (Fl (D5 q)) hm)
  ·rw[c id h]at hi;exact aL ⟨id,s,hi,hm⟩
 have O:∀i x,γ i=some x->i≠d:=λi x L e=>by subst e;rw[K]at L;cases L
 have U:∀b,(Sg cx.S0 cx.w0.heap.size γ b\/w.heap.size<=b)/\v.ownBlock≠some b->Sg cx.S0 cx.w0.heap.size γ' b:=λb ⟨h1,C⟩=>by
  rcases h1 with(h1|⟨h1,h3⟩)|h1
  ·exact aN h1
  ·refine aL ⟨h1,λho=>?_⟩;rcases z b ho with h|h
   ·exact C h
   ·exact h3 h
  ·refine aL ⟨⟨aR F h1,λh0=>by have:=p.gh _ h0;omega⟩,λho=>?_⟩;rcases z b ho with h|h
   ·exact C h
   ·have:=(p.ge b h).2;omega
 have I:∀b,Sg cx.S0 cx.w0.heap.size γ b->b<w.heap.size->Sg cx.S0 cx.w0.heap.size γ' b:=λb D A=>U b ⟨aN D,λe=>by have:=(m b e).1;omega⟩
 refine⟨γ',p.step (γ':=γ') hd D.size (λb U A=>⟨D.block b A,I b U A⟩) (λi x L=>aN (by rw[c i (O i x L)];exact L)) (λi hi=>?_) (λi e' hi=>?_) (λi j b s1 s2 h1 C X W=>?_) (λb ae=>?_) (p.below.trans (D.mono F)) (hu U) (λb aa A=>⟨D.block b A,λZ=>by
  rcases z b Z with h|h
  ·have:=(m b h).1;omega
  ·exact aa h⟩) ad⟩
 ·have J:i≠d:=λe=>by subst e;simp[lkE]at hi
  exact⟨c i J,λg' s' ac ab=>D.block g' (p.ge g' ⟨i,s',ac,ab⟩).2⟩
 ·have J:i=d:=by
   simp only[lkE]at hi;cases R:aJ d i with
   |true=>exact(aA R).symm
   |false=>rw[R]at hi;cases hi
  subst J;simp only[lkE,cI,aB]at hi;subst hi;exact⟨_,y,v,us,rfl,D5 q,⟨q.1,q.2.elim aN (λ⟨g,cap,V,M,hg,r⟩=>aL ⟨g,cap,V,M,aR F hg,r⟩)⟩,Q,λk hk j H=>(Y k hk j H).mono (aC _) (λb D _=>⟨rfl,U b D⟩),N⟩
 ·by_cases hi:i=d
  ·by_cases H:j=d
   ·rw[hi,H]
   ·subst hi;rw[y]at h1;rw[c j H]at C;injection h1 with h1
    subst h1;have q1:=(m b (Fn (Fl (D5 q)) X)).1;have q2:=(p.ge b ⟨j,_,C,W⟩).2;omega
  ·rw[c i hi]at h1;by_cases H:j=d
   ·subst H;rw[y]at C;injection C with C
    subst C;have q1:=(m b (Fn (Fl (D5 q)) W)).1;have q2:=(p.ge b ⟨i,_,h1,X⟩).2;omega
   ·rw[c j H]at C;exact p.inj _ _ _ _ _ h1 C X W
 ·rcases z b ae with h|h
  ·exact⟨⟨aR F (m b h).1,λh0=>by have:=p.gh _ h0;have:=(m b h).1;omega⟩,(m b h).2⟩
  ·exact⟨(p.ge b h).1,aQ (p.ge b h).2 D.size⟩
theorem zj8 {T id off:Nat}{x y:Operand}{len esz:Nat}{ag:Option Bool}{ty:TypeId}{k:IntKind}{n:Int}{m:Nat}(A:o.op=.indexAddr T x y)(L:dok cx o=true)(z:A6 x=true)(u:A6 y=true)(H:σ.eval x=.ptr id off)(G:σ.eval y=.int k n)
  (K:σ.find id=some (.box ty cs)) (M:lkT cx.E.tab T=some i) (hs:i.shape=.arr len e esz ag) (F:esz≠0) (J:n=(m:Int)) (hm:m<len):Ao cx o σ (.ptr id (off+m*esz)) [id] [] :=
 Bc L λτ γ a w h1 N h=>by
  have p:=h.ev x z;rw[h1 x (by simp[A,Op.operands]),H]at p;have c:=h.ev y u;rw[h1 y (by simp[A,Op.operands]),G]at c;have j:=h.me id;rw[N id Δ,K]at j;obtain⟨d,q,g,vs,C,_⟩:=j;subst C;obtain⟨I,D,_⟩:=y1e (cx.E.ok T i M) hs;have O:=p.ptr_inv q;refine⟨.pointer (some ⟨g,off+m*esz,none⟩),?_,.ptr q (λQ s e=>by injection e with e;injection e with e _;injection e with e;rw[e])⟩;subst J;simp[execOp,A,O,c.int_inv,Instr.indexAt,Instr.sureAddr,asIntOf,run_underlying I,Ej D F,hm,pure,Addr.add_lit]
theorem zo9 {T d:Nat}{ps:Array (Nat×Operand)}{esz eb:Nat}(C:o.op=.buildSlice T 0 ps)(h:o.dst=some d)(J:dok cx o=true)(L:lkT cx.E.tab T=some i)(hs:i.shape=.slc e esz eb)(m:lkT cx.E.tab e=some ie)(G:esz≠0)(y:ps=#[])(I:σ.find d=none) :
  Ao cx o σ (.row d) [d] [(d,.row e esz [])]:=by
 refine⟨λid e m=>?_,λτ h1 N a w Q K ⟨γ,q⟩ M=>C9 (λc D=>by rw[C]at D;cases D) ?_⟩
 ·simp only[lkE]at m;cases F:aJ d id with
  |true=>simp[aA F]
  |false=>rw[F]at m;cases m
 subst y;have j:=z72 (n:=0) (parts:=#[]) (cells':=#[]) (cx.E.ok T i L) hs (cx.E.ok e ie m) G Ω (by simp[Instr.fill]) w;unfold Oper.wp;have A:(execOp a.eval o).run cx.P w=.ok (.value (.slice (some ⟨w.heap.size,0,none⟩) 0 0)) (w.alloc (.cells #[] e)):=by
  have O:(Array.map (λx:Nat×Operand=>(x.1,a.eval x.2)) #[])=(#[]:Array (Nat×Value)):=Δ
  simp only[execOp,C,Sem.run_bind,Sem.run_pure,Result.andThen_ok];rw[O,j];rfl
 rw[A];refine M _ _ ?_;rw[h];exact Yp (v:=.slice (some ⟨w.heap.size,0,none⟩) 0 0) (us:=[]) q (λ_=>aC _) (by rw[N d Δ,I]) (λx p=>by injection p with p;subst p;exact C5 J _ h) ((Below.refl _ _).alloc (aC _) _)
  ⟨Δ,aL ⟨w.heap.size,0,#[],Δ,aC _,Blk.new w _ _,Δ,Δ,Δ,Δ⟩⟩ (λk z=>by simp at z) (λk z=>by simp at z) (λu H=>by simp at H)
  (λR=>.row (aS _ _ _) (λg s e _=>by injection e with e;injection e with _ e))
end
open Go.RowKit
theorem SubL.refl:∀l:List AV,SubL l l
 |[]=>.nil
 |x::l=>.cons (.refl x) (SubL.refl l)
inductive SubR:List AV->List AV->Prop
 |nil:SubR [] []
 |cons {x y:AV} {r s:List AV} (h:SubL x.cells y.cells) (hr:SubR r s):SubR (x::r) (y::s)
theorem SubR.refl:∀l:List AV,SubR l l
 |[]=>.nil
 |x::l=>.cons (.refl _) (SubR.refl l)
variable {b:List AV}
theorem SubR.append {a c d:List AV}(h:SubR a b)(k:SubR c d):SubR (a++c) (b++d):=by
 induction h with
 |nil=>exact k
 |cons h _ ih=>exact .cons h ih
theorem SubR.len {a:List AV}(h:SubR a b):a.length=b.length:=by
 induction h with
 |nil=>rfl
 |cons h _ ih=>simp[ih]
theorem SubR.at {a:List AV}(h:SubR a b)(i:Nat)(hi:i<a.length)(c:i<b.length):SubL a[i].cells b[i].cells:=by
 induction h generalizing i with
 |nil=>simp at hi
 |cons h _ ih =>
  cases i with
  |zero=>exact h
  |succ i=>exact ih i (by simpa using hi) (by simpa using c)
theorem SubR.replicate {y:AV}(h:SubL x.cells y.cells)(n:Nat):SubR (cE n x) (cE n y):=by
 induction n with
 |zero=>exact .nil
 |succ n ih=>exact .cons h ih
theorem SubR.set {y:AV}(h:SubL x.cells y.cells):∀(l:List AV) (n:Nat),SubR (l.set n x) (l.set n y)
 |[],_=>.nil
 |z::l,0=>.cons h (.refl l)
 |z::l,n+1=>.cons (.refl _) (SubR.set h l n)
inductive SubM:List (AV×AV)->List (AV×AV)->Prop
 |nil:SubM [] []
 |cons (k:AV) {x y:AV} {r s:List (AV×AV)} (h:Sub x y) (hr:SubM r s):SubM ((k,x)::r) ((k,y)::s)
theorem SubM.refl:∀l:List (AV×AV),SubM l l
 |[]=>.nil
 |(k,x)::l=>.cons k (.refl x) (SubM.refl l)
theorem SubM.append {a b c d:List (AV×AV)}(h:SubM a b)(k:SubM c d):SubM (a++c) (b++d):=by
 induction h with
 |nil=>exact k
 |cons k h _ ih=>exact .cons k h ih
variable {k:AV}
theorem SubM.set {y:AV}(h:Sub x y):∀(l:List (AV×AV)) (n:Nat),SubM (l.set n (k,x)) (l.set n (k,y))
 |[],_=>.nil
 |_::l,0=>.cons k h (.refl l)
 |(c,z)::l,n+1=>.cons c (.refl _) (SubM.set h l n)
theorem SubM.at {a b:List (AV×AV)}(h:SubM a b):a.length=b.length/\∀(i:Nat) (hi:i<a.length) (c:i<b.length),a[i].1=b[i].1/\Sub a[i].2 b[i].2:=by
 induction h with
 |nil=>exact⟨rfl,λi hi=>absurd hi Δ⟩
 |cons k h _ ih =>
  refine⟨by simp[ih.1],λi hi c=>?_⟩;cases i with
  |zero=>exact⟨rfl,h⟩
  |succ i=>exact ih.2 i (by simpa using hi) (by simpa using c)
theorem Dj.sub {m:List (AV×AV)}(h:Dj w S g ps)(hs:SubM ps m):Dj w S g m:=by
 obtain⟨es,clock,h1,F,c,D⟩:=h;obtain⟨y,u⟩:=hs.at;refine⟨es,clock,h1,F.trans y,c,λj q C=>?_⟩;have p:j<ps.length:=Ω
 obtain⟨H,G⟩:=u j p C;obtain⟨A,z⟩:=D j q p;exact⟨H▸A,z.sub G⟩
inductive Kk:Ent->Ent->Prop
 |refl (e:Ent):Kk e e
 |box (ty:Nat) {cs ds:List AV} (h:SubL cs ds):Kk (.box ty cs) (.box ty ds)
 |row (ty sz:Nat) {xs ys:List AV} (h:SubR xs ys):Kk (.row ty sz xs) (.row ty sz ys)
 |mp {ps qs:List (AV×AV)} (h:SubM ps qs):Kk (.mp ps) (.mp qs)
theorem Kk.rep {B:Nat}{e D:Ent}(h:Bm w S γ B d e)(hs:Kk e D):Bm w S γ B d D:=by
 cases hs with
 |refl=>exact h
 |mp hs =>
  obtain⟨g,h1,q⟩:=h;exact⟨g,h1,q.sub hs⟩
 |box ty hs =>
  obtain⟨g,vs,h1,q,z,y,u⟩:=h;exact⟨g,vs,h1,q,by rw[z,hs.len],λi hi=>(y i (by rw[hs.len];exact hi)).sub (hs.at i _ hi),u⟩
 |row ty sz hs =>
  obtain⟨s,vs,h1,q,z,y,u,F⟩:=h;refine⟨s,vs,h1,q,by rw[<-hs.len];exact z,λk p=>?_,λk p j A=>?_,F⟩
  ·have c:=p;rw[<-hs.len]at c;rw[<-(hs.at k c p).len];exact y k c
  ·have c:=p;rw[<-hs.len]at c;have C:=hs.at k c p;have m:=A;rw[<-C.len]at m;exact(u k c j m).sub (C.at j m A)
inductive P7:List (Nat×Ent)->List (Nat×Ent)->Prop
 |nil:P7 [] []
 |cons (i:Nat) {e e':Ent} {r s:List (Nat×Ent)} (h:Kk e e') (hr:P7 r s):P7 ((i,e)::r) ((i,e')::s)
variable {r s:List (Nat×Ent)}
theorem P7.lk (h:P7 r s)(i:Nat):(lkE r i=none/\lkE s i=none)\/∃e c,lkE r i=some e/\lkE s i=some c/\Kk e c:=by
 induction h with
 |nil=>exact aN ⟨rfl,rfl⟩
 |cons j h _ ih =>
  simp only[lkE];cases aJ j i with
  |true=>exact aL ⟨_,_,rfl,rfl,h⟩
  |false=>exact ih
variable {dst:Option Nat}
theorem St.subW (h:P7 r s)(k:St cx (τ.upd dst av r) a w):St cx (τ.upd dst av s) a w:=by
 obtain⟨γ,k⟩:=k;refine⟨γ,λt=>?_,λi=>?_,k.inj,k.ge,k.below,k.size,k.defers,k.gh,k.fr,k.dr⟩
 ·have:=k.tm t;rw[AS.get_upd]at this ⊢;exact this
 ·have:=k.me i;rw[AS.find_upd]at this ⊢;rcases h.lk i with⟨h1,c⟩|⟨e,q,h1,c,p⟩
  ·rw[h1]at this;rw[c];exact this
  ·rw[h1]at this;rw[c];obtain⟨d,m,j⟩:=this;exact⟨d,m,p.rep j⟩
theorem Ao.weak {o:Oper}(h:P7 r s)(k:Ao cx o σ av ids r):Ao cx o σ av ids s:=by
 refine⟨λid e p=>?_,λτ h1 m a w Q K j q=>k.2 τ h1 m a w Q K j (λu w' c=>q u w' (c.subW h))⟩;rcases h.lk id with⟨_,m⟩|⟨e,y,h1,_,_⟩
 ·rw[m]at p;cases p
 ·exact k.1 id e h1
def scA:AV->Bool |.agg _=>false |_=>true
def Dg (ie:TyI):AV:=match ie.shape.agg with
 |true=>.agg (ie.zero.cells.toList.map dB)
 |false=>(ie.zero.cells.toList.map dB).headD .any
def Kg (ie:TyI):Bool:=aJ ie.zero.cells.size ie.sz && (ie.shape.agg || (aJ ie.sz 1 && scA (Dg ie)))
theorem zek (h:Kg ie=true):(Dg ie).cells=ie.zero.cells.toList.map dB/\ie.zero.cells.size=ie.sz:=by
 unfold Kg at h;simp only[aG,cP]at h;obtain⟨h1,c⟩:=h;have h1:=aA h1;refine⟨?_,h1⟩;unfold Dg at *;cases u:ie.shape.agg with
 |true=>rfl
 |false =>
  rw[u]at c;simp only[aH,false_or]at c;have y:=aA c.1;have j:=c.2;generalize m:ie.zero.cells.toList=z at *;have q:z.length=1:=by rw[<-m];simp;omega
  match z,q with
  |[x],_ =>
   simp only[bW,cJ,headD_cons]at j ⊢;cases p:dB x<;>first|rfl|(rw[p]at j;simp[scA]at j)
section
variable {cx:Cx} {σ:AS} {o:Oper}
theorem zvk {T d esz eb:Nat}{x y:Operand}{k k':IntKind}{n:Int}{m:Nat}(Y:o.op=.makeSlice T x y)(A:o.dst=some d)(hd:dok cx o=true)(ab:A6 x=true)(aa:A6 y=true)(J:σ.eval x=.int k n)(hy:σ.eval y=.int k' n)
  (hT:lkT cx.E.tab T=some i) (hs:i.shape=.slc e esz eb) (V:lkT cx.E.tab e=some ie) (hz:esz≠0) (Z:Kg ie=true) (z:ie.zero.cells.all (·.oneCell')=true) (hn:σ.find d=none) (hm:n=(m:Int)) (h1:m<=1099511627776) (h2:ie.bytes*m<=281474976710656)
  (W:cx.E.dr=false):Ao cx o σ (.row d) [d] [(d,.row e esz (cE m (Dg ie)))]:=by
 refine⟨λid e V=>?_,λτ q1 q2 a w Q K ⟨γ,D⟩ hK=>C9 (λc hc=>by rw[Y]at hc;cases hc) ?_⟩
 ·simp only[lkE]at V;cases hb:aJ d id with
  |true=>simp[aA hb]
  |false=>rw[hb]at V;cases V
 have ex:=D.ev x ab;rw[q1 x (by simp[Y,Op.operands]),J]at ex;have ey:=D.ev y aa;rw[q1 y (by simp[Y,Op.operands]),hy]at ey;obtain⟨hu,ak,_⟩:=Cr (cx.E.ok T i hT) hs;have R:=cx.E.ok e ie V;obtain⟨info,hi,ag,af,ae⟩:=R.both;have C:ie.sz=esz:=R.cells.symm.trans ak;obtain⟨I,H⟩:=zek Z;subst hm;obtain⟨w',L,O,ah⟩:=run_make_full (P:=cx.P) w w.heap.size T e info ie.zero esz hu hi ae (ag.trans C) k k' m (by rw[af];exact h2) (by unfold maxLen;omega) (aC _);unfold Oper.wp;have ai:(execOp a.eval o).run cx.P w=.ok (.value (.slice (some ⟨w.heap.size,0,none⟩) m m)) w':=by
  simp only[execOp,Y,ex.int_inv,ey.int_inv,Sem.run_bind,L,Result.andThen_ok,Sem.run_pure]
 rw[ai];refine hK _ _ ?_;rw[A];have aj:(Dg ie).cells.length=esz:=by rw[I,cU,cF,H,C]
 have U:∀q j,q<m->j<esz->(madeCells ie.zero.cells (m*esz)).toList.getD (q*esz+j) undef=ie.zero.cells.getD j undef:=λq j G hj=>by
  have ac:q*esz+j<m*esz:=by
   have:(q+1)*esz<=m*esz:=aF _ G;rw[aO]at this;omega
  have p:(q*esz+j) % ie.zero.cells.size=j:=by
   rw[H,C,bX,cO,cL hj]
  rw[aD];have F:j<ie.zero.cells.size:=Ω
  simp[madeCells,ac,p,aU,F]
 have X:∀v∈ie.zero.cells,v.oneCell'=true:=by
  rw[Array.all_eq_true_iff_forall_mem]at z;exact z
 refine Yp (v:=.slice (some ⟨w.heap.size,0,none⟩) m m) (us:=(madeCells ie.zero.cells (m*esz)).toList) D (λh=>absurd (W.symm.trans h) Δ) (by rw[q2 d Δ,hn]) (λx J=>by injection J with J;subst J;exact C5 hd _ A) ((Below.refl _ _).grown ah (aC _) (λk h=>by cases h))
  (by rw[length_replicate];exact O) (λq G=>by rw[bJ];exact aj) (λq G j hj=>?_) (λu hu=>?_)
  (λhS=>.row (aS _ _ _) (λg s e _=>by injection e with e;injection e with _ e))
 ·have M:q<m:=by simpa using G
  rw[bJ]at hj;have F:j<esz:=Ω
  rw[U q j M F];simp only[bJ,I,aP];have ad:j<ie.zero.cells.size:=Ω
  have:ie.zero.cells.getD j undef=ie.zero.cells[j]:=by simp[aU,ad]
  rw[this];simpa using Oq _ _ _ (ie.zero.cells[j])
 ·obtain⟨q,G,rfl⟩:=bZ.1 hu;have M:q<m*esz:=by simpa[size_madeCells]using G
  have N:0<ie.zero.cells.size:=Ω
  have p:=cT q N;simp only[madeCells,cK,aP,Array.getElem_toList,Array.getElem_range];rw[getElem!_pos ie.zero.cells _ p];exact X _ (Array.getElem_mem _)
end
inductive FK
 |int
 |bool
 |str
 |no
def fkA:AV->FK |.int _ _=>.int |.bool _=>.bool |.str _=>.str |_=>.no
def fkT:FK->Option TypeDesc->Bool |.int,some (.int _)=>true |.bool,some .bool=>true |.str,some .string=>true |_,_=>false
def eq1:AV->AV->Option Bool
 |.int k a,.int c b=>match decide (k=c)with
  |true=>some (decide (a=b))
  |false=>none
 |.bool a,.bool b=>some (a == b)
 |.str a,.str b=>some (a.toList == b.toList)
 |_,_=>none
def eqL:List AV->List AV->Option Bool
 |[],[]=>some true
 |a::r,b::s=>match eq1 a b,eqL r s with
  |some c,some h=>some (c && h)
  |_,_=>none
 |_,_=>none
def Df (P:Program):Nat->List AV->List Field->Bool |_,[],[]=>true | n, a :: cs, f :: r=>decide (f.name ≠ "_") && (aJ f.offset n && (fkT (fkA a) (P.underlying f.type) && Df P (n + 1) cs r)) |_,_,_=>false
def Um (P:Program)(t:TypeId)(cs:List AV):Option Nat:=match P.underlying t,P.info? t with
 |some (.struct gs),some i=>if(aJ i.size gs.size && (!P.stoodInHeld t && (dC gs.size cs.length && Df P 0 (cs.take gs.size) gs.toList)))=true then some gs.size else none
 |_,_=>none
def hdB (P:Program)(t:TypeId)(k:List AV->Bool):List AV->Bool |a::cs=>fkT (fkA a) (P.underlying t) && k cs |[]=>false
def Oz (P:Program):Nat->List AV->List Field->Bool
 |_,[],[]=>true
 |_,_::_,[]=>false
 | n, cs, f :: r => decide (f.name ≠ "_") && (aJ f.offset n && (match Um P f.type cs with
    |some k=>Oz P (n+k) (cs.drop k) r
    |none=>hdB P f.type (fun cs=>Oz P (n+1) cs r) cs))
def zzc (P:Program)(t:TypeId)(cs:List AV):Bool:=!P.stoodInHeld t && (!P.eqGuardType P.depth t && (match P.underlying t with|some (.struct fs)=>Oz P 0 cs fs.toList|_=>false))
section
variable {P:Program} {w0:World} {S:Nat->Prop} {γ:Gam}
variable {t:TypeId}
theorem U6 {a:AV}(h:fkT (fkA a) (P.underlying t)=true):∃d,P.underlying t=some d/\((∃k n j,a=.int k n/\d=.int j)\/(∃b,a=.bool b/\d=.bool)\/∃s,a=.str s/\d=.string):=by
 cases c:P.underlying t with
 |none=>rw[c]at h;cases m:fkA a<;>rw[m]at h<;>cases h
 |some d =>
  rw[c]at h;refine⟨d,rfl,?_⟩;cases a<;>simp only[fkA]at h<;>cases d<;>simp[fkT]at h<;>simp
theorem z3y {a:AV}{xs:Array Value}{off:Nat}(m:fkT (fkA a) (P.underlying t)=true)(h:off<xs.size):(part t xs off).run P w=.ok (xs.getD off undef) w:=by
 have c:xs[off]? = some (xs.getD off undef):=by simp[aU,h]
 generalize xs.getD off undef=v at *;obtain⟨d,j,p⟩:=U6 m;rcases p with⟨_,_,_,_,rfl⟩|⟨_,_,rfl⟩|⟨_,_,rfl⟩<;>simp[part,isAgg,run_underlying j,c]
theorem Yq (d:Nat){a b:AV}{va vb:Value}{c:Bool}(y:fkT (fkA a) (P.underlying t)=true)(h:eq1 a b=some c)(q:Rep w0 S γ a va)(p:Rep w0 S γ b vb):(Op.equalIn (d+1) t va vb).run P w=.ok c w:=by
 obtain⟨dd,j,z⟩:=U6 y;rcases z with⟨k,n,u,rfl,rfl⟩|⟨x,rfl,rfl⟩|⟨x,rfl,rfl⟩
 ·cases b<;>simp only[eq1,reduceCtorEq]at h;split at h
  ·rename_i m;injection h with h
   have m:=of_decide_eq_true m;subst m;rw[q.int_inv,p.int_inv,run_equalIn_int w d t _ u _ _ j,<-h];rfl
  ·cases h
 ·cases b<;>simp only[eq1,reduceCtorEq]at h;injection h with h
  rw[q.bool_inv,p.bool_inv,run_equalIn_bool' w d t _ _ j,<-h]
 ·cases b<;>simp only[eq1,reduceCtorEq]at h;injection h with h
  rw[q.str_inv,p.str_inv,run_equalIn_string w d t _ _ j,<-h]
theorem zck {w:World}(d:Nat)(xs ys:Array Value):∀ (fs:List Field) (cs ds:List AV) (n:Nat) (c:Bool),Df P n cs fs=true->eqL cs ds=some c->n+cs.length<=xs.size->n+ds.length<=ys.size ->
  (∀ i (hi:i<cs.length),Rep w0 S γ cs[i] (xs.getD (n+i) undef))->(∀ i (hi:i<ds.length),Rep w0 S γ ds[i] (ys.getD (n+i) undef))->(Op.eqFields (d+1) xs ys fs).run P w=.ok c w
 |[],[],ds,n,c,_,h,_,_,_,_=>by
  cases ds with
  |nil=>simp only [eqL,aB] at h;subst h;simp [Op.eqFields]
  |cons=>simp [eqL] at h
 |f::fs,[],ds,n,c,j,_,_,_,_,_=>by simp [Df] at j
 |[],a::cs,ds,n,c,j,_,_,_,_,_=>by simp [Df] at j
 |f::fs,a::cs,[],n,c,j,h,_,_,_,_=>by simp [eqL] at h
 |f::fs,a::cs,b::ds,n,c,j,h,K,J,y,u=>by
  simp only [Df,aG,decide_eq_true_eq] at j;obtain ⟨M,q,p,L⟩:=j;have q:=aA q;simp only [cA] at K J;have I:Rep w0 S γ a (xs.getD n undef):=y 0 (by simp);have H:Rep w0 S γ b (ys.getD n undef):=u 0 (by simp);unfold eqL at h;split at h
  ·rename_i r N C G;injection h with h
   have z:=zck (w:=w) d xs ys fs cs ds (n+1) N L G (by omega) (by omega)
    (fun i hi=>by have:=y (i+1) (by simpa using hi);rw [show n+1+i=n+(i+1) by omega];simpa using this)
    (fun i hi=>by have:=u (i+1) (by simpa using hi);rw [show n+1+i=n+(i+1) by omega];simpa using this)
   have D : f.name ≠ "_" := by simpa using M
   have fb:(part f.type ys n).run P w=.ok (ys.getD n undef) w:=by
    obtain ⟨dd,A,F⟩:=U6 p;have m:ys[n]? = some (ys.getD n undef):=by simp [aU,show n<ys.size by omega]
    generalize ys.getD n undef=v at *;rcases F with ⟨_,_,_,_,rfl⟩|⟨_,_,rfl⟩|⟨_,_,rfl⟩<;>simp [part,isAgg,run_underlying A,m]
   unfold Op.eqFields;rw [if_pos D,q];rw [Sem.run_bind,z3y p (show n<xs.size by omega),Result.andThen_ok,Sem.run_bind,fb,Result.andThen_ok,Sem.run_bind,Yq d p C I H,Result.andThen_ok];subst h;cases r
   ·rfl
   ·simpa using z
  ·cases h
theorem zt7:∀(k:Nat) {cs ds:List AV} {c:Bool},eqL cs ds=some c->k<=cs.length->∃p m,eqL (cs.take k) (ds.take k)=some p/\eqL (cs.drop k) (ds.drop k)=some m/\c=(p && m)/\k<=ds.length
 |0,cs,ds,c,h,_=>⟨true,c,by simp[eqL],by simpa using h,Δ,Nat.zero_le _⟩
 |k+1,[],ds,c,h,j=>by simp at j
 |k+1,a::cs,[],c,h,j=>by simp[eqL]at h
 |k+1,a::cs,b::ds,c,h,j=>by
  unfold eqL at h;split at h
  ·rename_i r D q u;injection h with h
   obtain⟨p,m,C,A,z,y⟩:=zt7 k u (by simpa using j);refine⟨r && p,m,?_,by simpa using A,by rw[<-h,z,Bool.and_assoc],by simpa using y⟩;simp only[take_succ_cons];unfold eqL;rw[q,C]
  ·cases h
theorem y9j (d:Nat){xs ys:Array Value}{k:Nat}{c:Bool}(j:Um P t cs=some k)(H:eqL (cs.take k) (ds.take k)=some c)(J:n+k<=xs.size)(I:n+k<=ys.size)(G:k<=cs.length)(F:k<=ds.length)
  (D:∀i (hi:i<cs.length),Rep w0 S γ cs[i] (xs.getD (n+i) undef)) (C:∀i (hi:i<ds.length),Rep w0 S γ ds[i] (ys.getD (n+i) undef)) :
  (part t xs n).run P w=.ok (.agg (xs.extract n (n+k))) w/\(part t ys n).run P w=.ok (.agg (ys.extract n (n+k))) w/\(Op.equalIn (d+2) t (.agg (xs.extract n (n+k))) (.agg (ys.extract n (n+k)))).run P w=.ok c w:=by
 unfold Um at j;split at j;rotate_left
 ·cases j
 rename_i gs i p hi;split at j;rotate_left
 ·cases j
 rename_i A;injection j with j
 subst j;simp only[aG,bG]at A;obtain⟨y,L,N,K⟩:=A;have y:=aA y;have q:(sizeOf t).run P w=.ok gs.size w:=by simp[sizeOf,typeInfo,hi,y]
 have u:(isAgg t).run P w=.ok true w:=by simp[isAgg,run_underlying p]
 have z:∀h:Array Value,(part t h n).run P w=.ok (.agg (h.extract n (n+gs.size))) w:=λh=>by
  unfold part;rw[Sem.run_bind,u,Result.andThen_ok,if_pos rfl,Sem.run_bind,q,Result.andThen_ok];rfl
 have m:P.fieldsOf t=gs:=by simp[Program.fieldsOf,p]
 refine⟨z xs,z ys,?_⟩;rw[show d+2=(d+1)+1 from rfl,run_equalIn_agg w (d+1) t _ _ (by rw[m];exact p) L,m];have gd:∀(h:Array Value),n+gs.size<=h.size->∀i,i<gs.size->(h.extract n (n+gs.size)).getD (0+i) undef=h.getD (n+i) undef:=λh M i hi=>by
  rw[aE,aE,Array.getElem?_extract,bF];rw[if_pos Ω]
 refine zck (w0:=w0) (S:=S) (γ:=γ) d _ _ gs.toList (cs.take gs.size) (ds.take gs.size) 0 c K H Ψ Ψ (λi hi=>?_) (λi hi=>?_)
 ·rw[cC]at hi;rw[gd xs J i Ω,bP];exact D i Ω
 ·rw[cC]at hi;rw[gd ys I i Ω,bP];exact C i Ω
theorem za9 {w:World}(d:Nat)(xs ys:Array Value):∀ (fs:List Field) (cs ds:List AV) (n:Nat) (c:Bool),Oz P n cs fs=true->eqL cs ds=some c->n+cs.length<=xs.size->n+ds.length<=ys.size ->
  (∀ i (hi:i<cs.length),Rep w0 S γ cs[i] (xs.getD (n+i) undef))->(∀ i (hi:i<ds.length),Rep w0 S γ ds[i] (ys.getD (n+i) undef))->(Op.eqFields (d+2) xs ys fs).run P w=.ok c w
 |[],cs,ds,n,c,m,h,_,_,_,_=>by
  cases cs with
  |cons a cs=>simp [Oz] at m
  |nil =>
   cases ds with
   |nil=>simp only [eqL,aB] at h;subst h;simp [Op.eqFields]
   |cons=>simp [eqL] at h
 |f::fs,cs,ds,n,c,m,h,N,M,u,q=>by
  have m : (decide (f.name ≠ "_") && (aJ f.offset n && (match Um P f.type cs with
   |some k=>Oz P (n+k) (cs.drop k) fs
   |none=>hdB P f.type (fun cs=>Oz P (n+1) cs fs) cs)))=true:=by
   cases cs<;>exact m
  simp only [aG,decide_eq_true_eq] at m;obtain ⟨Q,A,j⟩:=m;have A:=aA A;have F : f.name ≠ "_" := by simpa using Q
  cases y:Um P f.type cs with
  |some k =>
   rw [y] at j;simp only at j;have p:k<=cs.length:=by
    have:=y;unfold Um at this;split at this
    ·split at this
     ·rename_i z;injection this with this
      subst this;simp only [aG] at z;exact bK z.2.2.1
     ·cases this
    ·cases this
   obtain ⟨X,W,V,U,R,D⟩:=zt7 k h p;obtain ⟨I,H,G⟩:=y9j (w0:=w0) (w:=w) d (n:=n) y V (by omega) (by omega) p D u q;have C:=za9 (w:=w) d xs ys fs (cs.drop k) (ds.drop k) (n+k) W j U (by rw [bM];omega) (by rw [bM];omega)
    (fun i hi=>by rw [bM] at hi;rw [bO,cW];exact u (k+i) (by omega))
    (fun i hi=>by rw [bM] at hi;rw [bO,cW];exact q (k+i) (by omega))
   unfold Op.eqFields;rw [if_pos F,A];rw [Sem.run_bind,I,Result.andThen_ok,Sem.run_bind,H,Result.andThen_ok,Sem.run_bind,G,Result.andThen_ok];subst R;cases X
   ·rfl
   ·simpa using C
  |none =>
   rw [y] at j;cases cs with
   |nil=>cases j
   |cons a cs =>
    simp only [hdB,aG] at j;obtain ⟨j,O⟩:=j;cases ds with
    |nil=>simp [eqL] at h
    |cons b ds =>
     simp only [cA] at N M;have L:Rep w0 S γ a (xs.getD n undef):=u 0 (by simp);have z:Rep w0 S γ b (ys.getD n undef):=q 0 (by simp);unfold eqL at h;split at h
     ·rename_i r Y J K;injection h with h
      have C:=za9 (w:=w) d xs ys fs cs ds (n+1) Y O K (by omega) (by omega)
       (fun i hi=>by have:=u (i+1) (by simpa using hi);rw [show n+1+i=n+(i+1) by omega];simpa using this)
       (fun i hi=>by have:=q (i+1) (by simpa using hi);rw [show n+1+i=n+(i+1) by omega];simpa using this)
      unfold Op.eqFields;rw [if_pos F,A];rw [Sem.run_bind,z3y j (show n<xs.size by omega),Result.andThen_ok,Sem.run_bind,z3y j (show n<ys.size by omega),Result.andThen_ok,Sem.run_bind,Yq (d+1) j J L z,Result.andThen_ok];subst h;cases r
      ·rfl
      ·simpa using C
     ·cases h
end
section
variable {cx:Cx} {σ:AS} {o:Oper}
theorem yaw {op:BinOp}{x y:Operand}{t J:TypeId}{c:Bool}(D:op=.eql\/op=.neq)(u:o.op=.binOp op t x y J)(O:dok cx o=true)(A:A6 x=true)(z:A6 y=true)(L:σ.eval x=.agg cs)(K:σ.eval y=.agg ds)
  (F:zzc cx.P t cs=true) (Q:eqL cs ds=some c):Ao cx o σ (.bool (match op with|.eql=>c|_=>!c)) [] [] :=
 Bc O λτ γ ac w h1 _ j=>by
  have I:=j.ev x A;rw[h1 x (by simp[u,Op.operands]),L]at I;have H:=j.ev y z;rw[h1 y (by simp[u,Op.operands]),K]at H;obtain⟨vs,ev,U,M,_⟩:=I.agg_inv;obtain⟨us,eu,N,C,_⟩:=H.agg_inv;unfold zzc at F;simp only[aG,bG]at F;obtain⟨R,G,p⟩:=F;cases q:cx.P.underlying t with
  |none=>rw[q]at p;cases p
  |some dd =>
   rw[q]at p;cases dd<;>simp only[aH]at p;rename_i fs;have m:cx.P.fieldsOf t=fs:=by simp[Program.fieldsOf,q]
   have h:(Op.equalIn 10000 t (.agg vs) (.agg us)).run cx.P w=.ok c w:=by
    rw[show(10000:Nat)=9999+1 from rfl,run_equalIn_agg w 9999 t vs us (by rw[m];exact q) R,m];exact za9 (w0:=w) 9997 vs us fs.toList cs ds 0 c p Q Ω Ω (λi hi=>by simpa using M i hi) (λi hi=>by simpa using C i hi)
   rcases D with rfl|rfl
   ·refine⟨.bool c,?_,.bool _⟩;simp only[execOp,u,ev,eu,Sem.run_bind,run_eqGuard_agg (hm:=G),Result.andThen_ok,run_eql_struct,h,Sem.run_pure]
   ·refine⟨.bool (!c),?_,.bool _⟩;simp only[execOp,u,ev,eu,Sem.run_bind,run_eqGuard_agg (hm:=G),Result.andThen_ok,run_neq_struct,h,Sem.run_pure]
def binS:BinOp->ByteArray->ByteArray->Option Bool |.eql,a,b=>some (a.toList == b.toList) |.neq,a,b=>some (!(a.toList == b.toList)) |.lss,a,b=>some (Op.bytesLess a.toList b.toList) |.leq,a,b=>some (Op.bytesLess a.toList b.toList || a.toList == b.toList) |.gtr,a,b=>some (!(Op.bytesLess a.toList b.toList || a.toList == b.toList)) |.geq,a,b=>some (!Op.bytesLess a.toList b.toList) |_,_,_=>none
theorem yaz {op:BinOp}{x y:Operand}{t A:TypeId}{a b:ByteArray}{c:Bool}(p:o.op=.binOp op t x y A)(F:dok cx o=true)(m:A6 x=true)(j:A6 y=true)(D:σ.eval x=.str a)(C:σ.eval y=.str b)(q:binS op a b=some c):Ao cx o σ (.bool c) [] [] :=
 Bc F λτ γ ac w h1 _ h=>by
  have z:=h.ev x m;rw[h1 x (by simp[p,Op.operands]),D]at z;have u:=h.ev y j;rw[h1 y (by simp[p,Op.operands]),C]at u;refine⟨.bool c,?_,.bool _⟩;cases op<;>simp only[binS,aB,reduceCtorEq]at q<;>subst q<;>simp[execOp,p,z.str_inv,u.str_inv,eqGuard,binOp,Op.stringOp,pure]
end
section
variable {cx:Cx} {σ:AS} {o:Oper}
def shI:BinOp->IntKind->Int->Int->Option AV |.shl,k,a,b=>some (.int k (k.wrap (a*2 ^ min b.toNat k.bits))) |.shr,k,a,b=>some (.int k (a.fdiv (2 ^ min b.toNat k.bits))) |_,_,_,_=>none
def bitI:BinOp->IntKind->Int->Int->Option AV |.and,k,a,b=>some (.int k (k.wrap ((BitVec.ofInt k.bits a &&& BitVec.ofInt k.bits b).toNat:Int))) |.or,k,a,b=>some (.int k (k.wrap ((BitVec.ofInt k.bits a ||| BitVec.ofInt k.bits b).toNat:Int))) |.xor,k,a,b=>some (.int k (k.wrap ((BitVec.ofInt k.bits a ^^^ BitVec.ofInt k.bits b).toNat:Int))) |.andNot,k,a,b=>some (.int k (k.wrap ((BitVec.ofInt k.bits a &&& ~~~(BitVec.ofInt k.bits b)).toNat:Int))) |_,_,_,_=>none
theorem ycr {op:BinOp}{x y:Operand}{t A:TypeId}{k C:IntKind}{a b:Int}(m:o.op=.binOp op t x y A)(G:dok cx o=true)(j:A6 x=true)(h:A6 y=true)(F:σ.eval x=.int k a)(D:σ.eval y=.int C b)(H:0<=b)(q:shI op k a b=some av):Ao cx o σ av [] [] :=
 Bc G λτ γ ac w h1 _ c=>by
  have z:=c.ev x j;rw[h1 x (by simp[m,Op.operands]),F]at z;have u:=c.ev y h;rw[h1 y (by simp[m,Op.operands]),D]at u;have p:¬b<0:=Ω
  cases op<;>simp only[shI,aB,reduceCtorEq]at q<;>subst q;all_goals
   refine⟨_,?_,.int _ _⟩;simp[execOp,m,z.int_inv,u.int_inv,eqGuard,binOp,Op.shift,p,pure]
theorem yay {op:BinOp}{x y:Operand}{t z:TypeId}{k:IntKind}{a b:Int}(m:o.op=.binOp op t x y z)(D:dok cx o=true)(j:A6 x=true)(h:A6 y=true)(C:σ.eval x=.int k a)(A:σ.eval y=.int k b)(p:bitI op k a b=some av):Ao cx o σ av [] [] :=
 Bc D λτ γ ac w h1 _ c=>by
  have u:=c.ev x j;rw[h1 x (by simp[m,Op.operands]),C]at u;have q:=c.ev y h;rw[h1 y (by simp[m,Op.operands]),A]at q;cases op<;>simp only[bitI,aB,reduceCtorEq]at p<;>subst p;all_goals
   refine⟨_,?_,.int _ _⟩;simp only[execOp,m,u.int_inv,q.int_inv,eqGuard,binOp,Op.intBits,Sem.run_bind,Sem.run_pure,Result.andThen_ok,pure,ne_eq,not_true_eq_false,if_false];rfl
end
theorem Rep.renF (m:∀id,id∈ids->γ' (ρ id)=γ id)(h:Rep w S γ av v)(hi:av.inM ids=true):Rep w S γ' (av.ren ρ) v:=by
 induction h with
 |any=>exact .any _
 |int=>exact .int _ _
 |bool=>exact .bool _
 |str=>exact .str _
 |nilp=>exact .nilp
 |nils=>exact .nils
 |nilf=>exact .nilf
 |ptr h q=>exact .ptr ((m _ ((Dn _ _).1 hi)).trans h) q
 |elt h q=>exact .elt ((m _ ((Dn _ _).1 hi)).trans h) q
 |der h q=>exact .der ((m _ ((Dn _ _).1 hi)).trans h) q
 |cont h q u=>exact .cont ((m _ ((Dn _ _).1 hi)).trans h) q u
 |mapv D J g es clock C G M L u K q I H=>exact .mapv D J g es clock C G M L u K q
 |mapn=>exact .mapn
 |slen A n c=>exact .slen A n c
 |row h q=>exact .row ((m _ ((Dn _ _).1 hi)).trans h) q
 |sl A c cell F z C y h1 ih=>exact .sl A c cell F z C y h1
 |ref b off cell G C F y h1 ih=>exact .ref b off cell G C F y h1
 |fn vs u y ih =>
  simp only[AV.inM]at hi;exact .fn vs (by rw[u,AV.renL_length]) (λi p=>by
   have j:=p;rw[AV.renL_length]at j;rw[AV.renL_at ρ _ i j];exact ih i j m (AV.inML_at hi i j))
 |yld y ih =>
  simp only[AV.inM]at hi;exact .yld (λi p=>by
   have j:=p;rw[AV.renL_length]at j;rw[AV.renL_at ρ _ i j];exact ih i j m (AV.inML_at hi i j))
 |agg vs u y h1 ih =>
  simp only[AV.inM]at hi;exact .agg vs (by rw[u,AV.renL_length]) (λi p=>by
   have j:=p;rw[AV.renL_length]at j;rw[AV.renL_at ρ _ i j];exact ih i j m (AV.inML_at hi i j)) h1
 |tup vs u y ih =>
  simp only[AV.inM]at hi;exact .tup vs (by rw[u,AV.renL_length]) (λi p=>by
   have j:=p;rw[AV.renL_length]at j;rw[AV.renL_at ρ _ i j];exact ih i j m (AV.inML_at hi i j))
def ConT (E:Env)(f:FuncId)(args:List AV)(ty sz:Nat)(xs:List AV)(res:AV):Prop:=Cd E f/\res.inM [0]=true/\∀(S:Nat->Prop) (w:World) (vs:Array Value),Args w S args vs->Calls E.P f vs w λe w'=>∃u v us,e=.returned u/\Below w.heap.size w w'/\w'.ownsRow w.heap.size ty sz v xs.length us /\ (∀k (c:k<xs.length),(xs[k]).cells.length=sz)/\(∀k (c:k<xs.length) j (h:j<(xs[k]).cells.length),Rep w' (λb=>(S b\/w.heap.size<=b)/\v.ownBlock≠some b) G0 ((xs[k]).cells[j]) (us.getD (k*sz+j) undef))/\(∀u∈us,u.oneCell'=true) /\ ∀γ':Gam,γ' 0=some (some (v.ownBlock,v))->Rep w' (λb=>(S b\/w.heap.size<=b)/\v.ownBlock≠some b) γ' res u
theorem ConT.ofRow (h:Fw E f args ty sz xs):ConT E f args ty sz xs (.row 0) :=
 ⟨h.1,rfl,λS w vs j=>(h.2 S w vs j).mono λe w' ⟨v,us,h1,y,u,q,p,m⟩=>⟨v,v,us,h1,y,u,q,p,m,λγ' c=>.row c (λg s e _=>by injection e with e;injection e with _ e)⟩⟩
section
variable {cx:Cx} {σ:AS} {o:Oper}
theorem zvt {x:Operand}{args:Array Operand}{tys:Array TypeId}{f d:Nat}{cap:List AV}(L:o.op=.call { callee:=.value x,args:=args,argTypes:=tys })(j:o.dst=some d)(Y:dok cx o=true)(H:A6 x=true)(J:args.toList.all A6=true)(q:σ.eval x=.fn f cap)
  (Z:Ca σ args cap=avs) (O:bC avs=true) (W:σ.find d=none) (m:ConT cx.E f avs ty sz xs res) (G:cx.E.dr=false):Ao cx o σ (res.ren λ_=>d) [d] [(d,.row ty sz xs)]:=by
 refine⟨λid e M=>?_,λτ h1 h2 a w Q K ⟨γ,z⟩ hK=>C9 (λc m=>by rw[L]at m;cases m) ?_⟩
 ·simp only[lkE]at M;cases p:aJ d id with
  |true=>simp[aA p]
  |false=>rw[p]at M;cases M
 have C:o.op.operands=#[x]++args:=by simp[L,Op.operands,Call.operands]
 obtain⟨caps,N,X,V⟩:=Oo z J H (λy R=>h1 y (by rw[C];simp at R ⊢;exact aL R)) (h1 x (by rw[C];simp)) q;subst Z;unfold Oper.wp;rw[Oi L N m.1];show Calls _ _ _ _ _;refine(m.2.2 (Sg cx.S0 cx.w0.heap.size γ) w _ ⟨X,λi hi=>(V i hi).close (bL O i hi)⟩).mono ?_;rintro e w' ⟨u,v,us,rfl,p,A,F,I,D,U⟩;refine hK _ _ ?_;rw[j];refine Yp (v:=v) (us:=us) z (λh=>absurd (G.symm.trans h) Δ) (by rw[h2 d Δ,W]) (λx q=>by injection q with q;subst q;exact C5 Y _ j) p A F I D (λhS=>?_);have h0:=U (λ_=>some (some (v.ownBlock,v))) rfl;refine(h0.renF (γ':=γ.set d (some (v.ownBlock,v))) (ids:=[0]) (λid _=>aS _ _ _) m.2.1).mono (aC _) (λb p _=>⟨rfl,hS b p⟩)
end
def ConC (inp:Bool)(E:Env)(f:FuncId)(args:List AV)(ty sz:Nat)(xs:List AV)(ty' sz':Nat)(xs':List AV)(res:AV):Prop:=Cd E f/\res.inM [0]=true/\∀(S:Nat->Prop) (w0 w:World) (vs:Array Value) (v:Value) (us:List Value),Below w0.heap.size w0 w->w.ownsRow w0.heap.size ty sz v xs.length us->(∀k (c:k<xs.length),(xs[k]).cells.length=sz) -> (∀k (c:k<xs.length) j (h:j<(xs[k]).cells.length),Rep w S G0 ((xs[k]).cells[j]) (us.getD (k*sz+j) undef))->(∀u∈us,u.oneCell'=true)->(∀b,v.ownBlock=some b->¬S b)->vs.size=args.length -> (∀γ:Gam,γ 0=some (some (v.ownBlock,v))->∀i (hi:i<args.length),Rep w S γ args[i] (vs.getD i undef)) -> Calls E.P f vs w λe w'=>∃u v' us',e=.returned u/\w.grownBy w' v.ownBlock/\w'.ownsRow w0.heap.size ty' sz' v' xs'.length us'/\(inp=true->v'=v)/\(∀b,v'.ownBlock=some b->v.ownBlock=some b\/w.heap.size<=b)/\(∀k (c:k<xs'.length),(xs'[k]).cells.length=sz') /\ (∀k (c:k<xs'.length) j (h:j<(xs'[k]).cells.length),Rep w' (λb=>(S b\/w.heap.size<=b)/\v'.ownBlock≠some b) G0 ((xs'[k]).cells[j]) (us'.getD (k*sz' + j) undef))/\(∀u∈us',u.oneCell'=true) /\ ∀γ':Gam,γ' 0=some (some (v'.ownBlock,v'))->Rep w' (λb=>(S b\/w.heap.size<=b)/\v'.ownBlock≠some b) γ' res u
section
variable {cx:Cx} {σ:AS} {o:Oper}
theorem zof (h:w.ownsRow base e sz v n vs)(b:Nat)(c:v.ownBlock=some b):base<=b/\b<w.heap.size:=by
 rcases h.2 with⟨j,_⟩|⟨g,cap,q,j,m,p,_⟩
 ·rw[j]at c;simp[Value.ownBlock]at c
 ·rw[j]at c;simp only[Value.ownBlock,aB]at c;subst c;exact⟨m,(aM.1 p).1⟩
variable {id ty' sz':Nat}{xs':List AV}{us':List Value}
theorem y1l {d:Nat}{v' u:Value}(c:StG cx γ τ a w)(ah:cx.E.dr=true->w.drawn<=w'.drawn)(L:γ id=some (some (v.ownBlock,v)))(X:γ d=none)(ag:id≠d)(hd:∀x,dst=some x->cx.E.np<=x/\x<cx.nt)(M:w.grownBy w' v.ownBlock)
  (A:w'.ownsRow cx.w0.heap.size ty' sz' v' xs'.length us') (K:∀b,v'.ownBlock=some b->v.ownBlock=some b\/w.heap.size<=b) (ab:∀k (hk:k<xs'.length),(xs'[k]).cells.length=sz')
  (af:∀k (hk:k<xs'.length) j (y:j<(xs'[k]).cells.length),Rep w' (λb=>(Sg cx.S0 cx.w0.heap.size γ b\/w.heap.size<=b)/\v'.ownBlock≠some b) G0 ((xs'[k]).cells[j]) (us'.getD (k*sz' + j) undef)) (Z:∀u∈us',u.oneCell'=true)
  (hu:∀γ':Gam,γ' d=some (some (v'.ownBlock,v'))->Rep w' (λb=>(Sg cx.S0 cx.w0.heap.size γ b\/w.heap.size<=b)/\v'.ownBlock≠some b) γ' av u):St cx (τ.upd dst av [(d,.row ty' sz' xs'),(id,.dead)]) (a.put dst u) w':=by
 have ae:=c.below.size;let γ':Gam:=λi=>if d=i then some (some (v'.ownBlock,v'))else if id=i then some none else γ i
 have q:γ' d=some (some (v'.ownBlock,v')):=if_pos rfl;have p:∀i,d≠i->id≠i->γ' i=γ i:=λi h1 I=>by show(if d=i then _ else if id=i then _ else γ i)=γ i;rw[if_neg h1,if_neg I]
 have m:γ' id=some none:=by show(if d=id then _ else if id=id then _ else γ id)=some none;rw[if_neg (Ne.symm ag),if_pos rfl]
 have C:∀b,own γ' b->v'.ownBlock=some b\/own γ b:=λb ⟨i,s,hi,hm⟩=>by
  by_cases h:d=i
  ·subst h;rw[q]at hi;injection hi with hi;subst hi;exact aN (Fn (Fl (D5 A)) hm)
  ·by_cases D:id=i
   ·subst D;rw[m]at hi;injection hi with hi;subst hi;simp[blks]at hm
   ·rw[p i h D]at hi;exact aL ⟨i,s,hi,hm⟩
 have J:∀b,v.ownBlock=some b->own γ b:=λb H=>own.mk (id:=id) (s:=v) (by rw[L,H])
 have O:∀b,¬own γ b->b<w.heap.size->¬own γ' b:=λb z F N=>by
  rcases C b N with h|h
  ·rcases K b h with h|h
   ·exact z (J b h)
   ·omega
  ·exact z h
 have Q:∀b,¬own γ b->b<w.heap.size->w'.heap[b]? = w.heap[b]? := λb z F=>M.block b F (λe=>z (J b e.symm))
 have G:∀b,Sg cx.S0 cx.w0.heap.size γ b->¬own γ b:=λb V N=>by
  rcases V with⟨_,h⟩|⟨_,h⟩
  ·have:=(c.ge b N).1.1;omega
  ·exact h N
 have ad:∀b,(Sg cx.S0 cx.w0.heap.size γ b\/w.heap.size<=b)/\v'.ownBlock≠some b->Sg cx.S0 cx.w0.heap.size γ' b:=λb ⟨h1,I⟩=>by
  rcases h1 with h1|h1
  ·have z:=G b h1;rcases h1 with h1|⟨h1,R⟩
   ·exact aN h1
   ·refine aL ⟨h1,λN=>?_⟩;rcases C b N with h|h
    ·exact I h
    ·exact R h
  ·refine aL ⟨⟨aR ae h1,λh0=>by have:=c.gh _ h0;omega⟩,λN=>?_⟩;rcases C b N with h|h
   ·exact I h
   ·have:=(c.ge b h).2;omega
 have Y:∀i,lkE [(d,Ent.row ty' sz' xs'),(id,.dead)] i=if d=i then some (.row ty' sz' xs')else if id=i then some .dead else none:=λi=>by
  simp only[lkE];by_cases h:d=i
  ·subst h;simp
  ·rw[if_neg h];have:aJ d i=false:=by cases H:aJ d i with|true=>exact absurd (aA H) h|false=>rfl
   rw[this];by_cases D:id=i
   ·subst D;simp
   ·rw[if_neg D];have:aJ id i=false:=by cases H:aJ id i with|true=>exact absurd (aA H) D|false=>rfl
    rw[this]
 refine⟨γ',c.step (γ':=γ') hd M.size (λb V F=>⟨Q b (G b V) F,?_⟩) (λi x hx=>?_) (λi hi=>?_) (λi e hi=>?_) (λi j b s s' hi y mi mj=>?_) (λb H=>?_) ?_ ((hu γ' q).mono (aC _) (λb H _=>⟨rfl,ad b H⟩)) (λb z F=>⟨Q b z F,O b z F⟩) ah⟩
 ·have z:=O b (G b V) F;rcases V with V|⟨h1,_⟩
  ·exact aN V
  ·exact aL ⟨h1,z⟩
 ·by_cases h:d=i
  ·subst h;rw[X]at hx;cases hx
  ·by_cases D:id=i
   ·subst D;exact aL (aN m)
   ·exact aN (by rw[p i h D];exact hx)
 ·rw[Y]at hi;by_cases h:d=i
  ·rw[if_pos h]at hi;cases hi
  ·rw[if_neg h]at hi;by_cases D:id=i
   ·rw[if_pos D]at hi;cases hi
   ·refine⟨p i h D,λg s ac aa=>M.block g (c.ge g ⟨i,s,ac,aa⟩).2 (λe=>D ?_)⟩;exact c.inj _ _ _ _ _ L ac (by rw[<-e];exact C3) aa
 ·rw[Y]at hi;by_cases h:d=i
  ·subst h;rw[if_pos rfl]at hi;injection hi with hi
   subst hi;exact⟨_,q,v',us',rfl,D5 A,A,ab,λk hk j y=>(af k hk j y).mono (aC _) (λb H _=>⟨rfl,ad b H⟩),Z⟩
  ·rw[if_neg h]at hi;by_cases D:id=i
   ·subst D;rw[if_pos rfl]at hi;injection hi with hi
    subst hi;exact⟨none,m,rfl⟩
   ·rw[if_neg D]at hi;cases hi
 ·by_cases h1:d=i
  ·by_cases I:d=j
   ·rw[<-h1,<-I]
   ·subst h1;rw[q]at hi;injection hi with hi
    subst hi;have hi:=Fn (Fl (D5 A)) mi;by_cases R:id=j
    ·subst R;rw[m]at y;injection y with y;subst y;simp[blks]at mj
    ·rw[p j I R]at y;rcases K b hi with h|h
     ·exact absurd (c.inj _ _ _ _ _ L y (by rw[h];exact C3) mj) R
     ·have:=(c.ge b ⟨j,s',y,mj⟩).2;omega
  ·by_cases W:id=i
   ·subst W;rw[m]at hi;injection hi with hi;subst hi;simp[blks]at mi
   ·rw[p i h1 W]at hi;by_cases I:d=j
    ·subst I;rw[q]at y;injection y with y
     subst y;have y:=Fn (Fl (D5 A)) mj;rcases K b y with h|h
     ·exact absurd (c.inj _ _ _ _ _ L hi (by rw[h];exact C3) mi) W
     ·have:=(c.ge b ⟨i,s,hi,mi⟩).2;omega
    ·by_cases R:id=j
     ·subst R;rw[m]at y;injection y with y;subst y;simp[blks]at mj
     ·rw[p j I R]at y;exact c.inj _ _ _ _ _ hi y mi mj
 ·rcases C b H with h|h
  ·have U:=zof A b h;rcases K b h with D|D
   ·exact⟨(c.ge b (J b D)).1,U.2⟩
   ·exact⟨⟨U.1,λh0=>by have:=c.gh _ h0;omega⟩,U.2⟩
  ·exact⟨(c.ge b h).1,aQ (c.ge b h).2 M.size⟩
 ·refine c.below.trans ⟨M.os,M.tape,M.output,M.size,λk hk=>M.block k Ω (λe=>?_)⟩;have:=(c.ge k (J k e.symm)).1.1;omega
theorem zgj {u:Value}(c:StG cx γ τ a w)(V:cx.E.dr=true->w.drawn<=w'.drawn)(D:γ id=some (some (v.ownBlock,v)))(Z:∀x,dst=some x->cx.E.np<=x/\x<cx.nt)(y:w.grownBy w' v.ownBlock)
  (A:w'.ownsRow cx.w0.heap.size ty sz v xs'.length us') (K:∀k (O:k<xs'.length),(xs'[k]).cells.length=sz)
  (U:∀k (O:k<xs'.length) j (W:j<(xs'[k]).cells.length),Rep w' (λb=>(Sg cx.S0 cx.w0.heap.size γ b\/w.heap.size<=b)/\v.ownBlock≠some b) G0 ((xs'[k]).cells[j]) (us'.getD (k*sz+j) undef)) (H:∀u∈us',u.oneCell'=true)
  (Y:Rep w' (λb=>(Sg cx.S0 cx.w0.heap.size γ b\/w.heap.size<=b)/\v.ownBlock≠some b) γ av u):St cx (τ.upd dst av [(id,.row ty sz xs')]) (a.put dst u) w':=by
 have R:=c.below.size;have G:∀b,v.ownBlock=some b->own γ b:=λb p=>own.mk (id:=id) (s:=v) (by rw[D,p])
 have C:∀b,¬own γ b->b<w.heap.size->w'.heap[b]? = w.heap[b]? := λb q m=>y.block b m (λe=>q (G b e.symm))
 have I:∀b,Sg cx.S0 cx.w0.heap.size γ b->¬own γ b:=λb Q N=>by
  rcases Q with⟨_,h⟩|⟨_,h⟩
  ·have:=(c.ge b N).1.1;omega
  ·exact h N
 have M:∀b,(Sg cx.S0 cx.w0.heap.size γ b\/w.heap.size<=b)/\v.ownBlock≠some b->Sg cx.S0 cx.w0.heap.size γ b:=λb ⟨h1,h2⟩=>by
  rcases h1 with h1|h1
  ·exact h1
  ·exact aL ⟨⟨aR R h1,λh0=>by have:=c.gh _ h0;omega⟩,λN=>by have:=(c.ge b N).2;omega⟩
 have F:∀i,lkE [(id,Ent.row ty sz xs')] i=if id=i then some (.row ty sz xs')else none:=λi=>by
  simp only[lkE];by_cases z:id=i
  ·subst z;simp
  ·rw[if_neg z];have:aJ id i=false:=by cases p:aJ id i with|true=>exact absurd (aA p) z|false=>rfl
   rw[this]
 refine⟨γ,c.step (γ':=γ) Z y.size (λb Q m=>⟨C b (I b Q) m,Q⟩) (λi x X=>aN X) (λi hi=>?_) (λi e hi=>?_) c.inj (λb p=>⟨(c.ge b p).1,aQ (c.ge b p).2 y.size⟩) ?_ (Y.mono (aC _) (λb p _=>⟨rfl,M b p⟩)) (λb q m=>⟨C b q m,q⟩) V⟩
 ·rw[F]at hi;by_cases z:id=i
  ·rw[if_pos z]at hi;cases hi
  ·refine⟨rfl,λg s L J=>y.block g (c.ge g ⟨i,s,L,J⟩).2 (λe=>z ?_)⟩;exact c.inj _ _ _ _ _ D L (by rw[<-e];exact C3) J
 ·rw[F]at hi;by_cases z:id=i
  ·subst z;rw[if_pos rfl]at hi;injection hi with hi
   subst hi;exact⟨_,D,v,us',rfl,D5 A,A,K,λk O j W=>(U k O j W).mono (aC _) (λb p _=>⟨rfl,M b p⟩),H⟩
  ·rw[if_neg z]at hi;cases hi
 ·refine c.below.trans ⟨y.os,y.tape,y.output,y.size,λk O=>y.block k Ω (λe=>?_)⟩;have:=(c.ge k (G k e.symm)).1.1;omega
variable {tys:Array TypeId}{cap cargs:List AV}
theorem zul {x:Operand}{args:Array Operand}{f:Nat}{inp:Bool}(X:o.op=.call { callee:=.value x,args:=args,argTypes:=tys })(H:A6 x=true)(J:args.toList.all A6=true)(hx:σ.eval x=.fn f cap)
  (W:AV.renL (λ_=>id) cargs=Ca σ args cap) (N:AV.inML [0] cargs=true) (hl:σ.find id=some (.row ty sz xs)) (Z:ConC inp cx.E f cargs ty sz xs ty' sz' xs' res)
      (h1:∀x∈o.op.operands,τ.eval x=σ.eval x) (h2:τ.find id=σ.find id) (c:StG cx γ τ a w) {Q:Exit->Act->World->Prop} {K:Act->World->Prop}
  (k:∀u v v' us' w',γ id=some (some (v.ownBlock,v))->w.grownBy w' v.ownBlock->w'.ownsRow cx.w0.heap.size ty' sz' v' xs'.length us'->(inp=true->v'=v)->(∀b,v'.ownBlock=some b->v.ownBlock=some b\/w.heap.size<=b)->(∀k (hk:k<xs'.length),(xs'[k]).cells.length=sz') ->
    (∀k (hk:k<xs'.length) j (Y:j<(xs'[k]).cells.length),Rep w' (λb=>(Sg cx.S0 cx.w0.heap.size γ b\/w.heap.size<=b)/\v'.ownBlock≠some b) G0 ((xs'[k]).cells[j]) (us'.getD (k*sz' + j) undef))->(∀u∈us',u.oneCell'=true) ->
    (∀γ':Gam,γ' 0=some (some (v'.ownBlock,v'))->Rep w' (λb=>(Sg cx.S0 cx.w0.heap.size γ b\/w.heap.size<=b)/\v'.ownBlock≠some b) γ' res u)->K (a.put o.dst u) w'):o.wp cx.P a w K Q:=by
 have A:o.op.operands=#[x]++args:=by simp[X,Op.operands,Call.operands]
 obtain⟨caps,U,M,q⟩:=Oo c J H (λy V=>h1 y (by rw[A];simp at V ⊢;exact aL V)) (h1 x (by rw[A];simp)) hx;have F:=c.me id;rw[h2,hl]at F;obtain⟨dd,m,s,us,R,_,z,G,I,C⟩:=F;subst R;unfold Oper.wp;rw[Oi X U Z.1];show Calls _ _ _ _ _;have L:cargs.length=(Ca σ args cap).length:=by rw[<-W,AV.renL_length]
 refine(Z.2.2 (Sg cx.S0 cx.w0.heap.size γ) cx.w0 w _ s us c.below z G I C (λb hb hS=>?_) (by rw[M,L]) (λγc p i hi=>?_)).mono ?_
 ·have D:own γ b:=own.mk (id:=id) (s:=s) (by rw[m,hb]);rcases hS with⟨_,h⟩|⟨_,h⟩
  ·have:=(c.ge b D).1.1;omega
  ·exact h D
 ·have O:i<(Ca σ args cap).length:=Ω
  have h:=q i O;have e:(Ca σ args cap)[i]=cargs[i].ren (λ_=>id):=by
   have:(AV.renL (λ_=>id) cargs)[i]'(by rw[AV.renL_length];exact hi)=(Ca σ args cap)[i]:=by simp only[W]
   rw[<-this,AV.renL_at]
  rw[e]at h;exact h.ren (ids:=[0]) (ρ:=λ_=>id) (λj Y=>by
   have:j=0:=by simpa using Y
   subst this;rw[p,m]) cargs[i] rfl (AV.inML_at N i hi)
 ·rintro e w' ⟨u,v',us',rfl,q1,q2,q3,q4,q5,q6,q7,q8⟩;exact k u s v' us' w' m q1 q2 q3 q4 q5 q6 q7 q8
theorem y5b {x:Operand}{args:Array Operand}{f d:Nat}(H:o.op=.call { callee:=.value x,args:=args,argTypes:=tys })(I:o.dst=some d)(hd:dok cx o=true)(C:A6 x=true)(D:args.toList.all A6=true)(Y:σ.eval x=.fn f cap)
  (Z:AV.renL (λ_=>id) cargs=Ca σ args cap) (G:AV.inML [0] cargs=true) (hl:σ.find id=some (.row ty sz xs)) (F:id≠d) (hn:σ.find d=none) (y:ConC false cx.E f cargs ty sz xs ty' sz' xs' res) (q:cx.E.dr=false):Ao cx o σ (res.ren λ_=>d) [d,id] [(d,.row ty' sz' xs'),(id,.dead)]:=by
 refine⟨λi e A=>?_,λτ h1 L a w Q K ⟨γ,j⟩ hK=>C9 (λc y=>by rw[H]at y;cases y) ?_⟩
 ·simp only[lkE]at A;cases J:aJ d i with
  |true=>simp[aA J]
  |false =>
   rw[J]at A;cases z:aJ id i with
   |true=>simp[aA z]
   |false=>rw[z]at A;cases A
 refine zul H C D Y Z G hl y h1 (L id Δ) j (λu v v' us' w' X W V q3 U R O N M=>hK _ _ ?_);have m:γ d=none:=by have:=j.me d;rw[L d Δ,hn]at this;exact this
 refine y1l j (λh=>absurd (q.symm.trans h) Δ) X m F (C5 hd) W V U R O N (λγ' p=>?_);exact(M (λ_=>some (some (v'.ownBlock,v'))) rfl).renF (ids:=[0]) (λi _=>p) y.2.1
theorem y5a {x:Operand}{args:Array Operand}{f:Nat}(D:o.op=.call { callee:=.value x,args:=args,argTypes:=tys })(W:dok cx o=true)(q:A6 x=true)(y:args.toList.all A6=true)(O:σ.eval x=.fn f cap)
  (U:AV.renL (λ_=>id) cargs=Ca σ args cap) (z:AV.inML [0] cargs=true) (V:σ.find id=some (.row ty sz xs)) (p:ConC true cx.E f cargs ty sz xs ty sz xs' res) (m:cx.E.dr=false):Ao cx o σ (res.ren λ_=>id) [id] [(id,.row ty sz xs')]:=by
 refine⟨λi e A=>?_,λτ h1 Y a w Q K ⟨γ,j⟩ X=>C9 (λc p=>by rw[D]at p;cases p) ?_⟩
 ·simp only[lkE]at A;cases F:aJ id i with
  |true=>simp[aA F]
  |false=>rw[F]at A;cases A
 refine zul D q y O U z V p h1 (Y id Δ) j (λu v v' us' w' C N M L Z J I H G=>X _ _ ?_);have R:=L rfl;subst R;exact zgj j (λh=>absurd (m.symm.trans h) Δ) C (C5 W) N M J I H ((G (λ_=>some (some (v'.ownBlock,v'))) rfl).renF (ids:=[0]) (λi _=>C) p.2.1)
end
open Go.RowKit
def eqK:AV->AV->Option Bool |.agg cs,.agg ds=>eqL cs ds |a,b=>eq1 a b
def Bt (k:AV):List AV->Nat->Option (Option Nat)
 |[],_=>some none
 |a::r,i=>match eqK k a with
  |some true=>some (some i)
  |some false=>Bt k r (i+1)
  |none=>none
def Br (P:Program)(t:TypeId)(a:AV):Bool:=match a with
 |.agg cs=>!P.stoodInHeld t && (match P.underlying t with|some (.struct fs)=>Df P 0 cs fs.toList|_=>false)
 |a=>fkT (fkA a) (P.underlying t)
section
variable {P:Program} {w:World} {S:Nat->Prop}
theorem ya9 {t:TypeId}{a b:AV}{va vb:Value}{c:Bool}(h:Br P t a=true)(m:eqK a b=some c)(y:Rep w S G0 a va)(u:Rep w S G0 b vb):(Op.equal t va vb).run P w=.ok c w:=by
 unfold Op.equal;rw[show Op.maxDepth=9999+1 from rfl];cases a with
 |agg cs =>
  cases b with
  |agg ds =>
   obtain⟨vs,ev,F,A,_⟩:=y.agg_inv;obtain⟨us,eu,C,z,_⟩:=u.agg_inv;simp only[Br,aG,bG]at h;obtain⟨D,p⟩:=h;cases q:P.underlying t with
   |none=>rw[q]at p;cases p
   |some dd =>
    rw[q]at p;cases dd<;>simp only[aH]at p;rename_i fs;have j:P.fieldsOf t=fs:=by simp[Program.fieldsOf,q]
    rw[ev,eu,run_equalIn_agg w 9999 t vs us (by rw[j];exact q) D,j];exact zck (w0:=w) 9998 vs us fs.toList cs ds 0 c p m Ω Ω (λi hi=>by simpa using A i hi) (λi hi=>by simpa using z i hi)
  |_=>simp[eqK,eq1]at m
 |int k n=>exact Yq 9999 (by simpa[Br]using h) (by cases b<;>simpa[eqK]using m) y u
 |bool x=>exact Yq 9999 (by simpa[Br]using h) (by cases b<;>simpa[eqK]using m) y u
 |str x=>exact Yq 9999 (by simpa[Br]using h) (by cases b<;>simpa[eqK]using m) y u
 |_=>simp[Br,fkA,fkT]at h
theorem zeh {t:TypeId}{vk:Value}(y:Br P t k=true)(C:Rep w S G0 k vk):∀(es:List MapEntry) (ps:List (AV×AV)) (i:Nat) (r:Option Nat),es.length=ps.length->(∀j (h:j<es.length) (D:j<ps.length),Km w S es[j] ps[j]) ->
  Bt k (ps.map (·.1)) i=some r->(Instr.findAsking t vk es i).run P w=.ok (r.map λj=>(j,(es.getD (j-i) default).val)) w/\∀j,r=some j->i<=j/\j-i<es.length
 |[],[],i,r,A,m,h=>by
  simp only[cJ,Bt,aB]at h;subst h;exact⟨by simp[Instr.findAsking],λj h=>by cases h⟩
 |e::es,p::ps,i,r,A,m,h=>by
  have H:Km w S e p:=m 0 Δ Δ;simp only[bW,Bt]at h;cases q:eqK k p.1 with
  |none=>rw[q]at h;cases h
  |some c =>
   have z:=ya9 y q C H.1;rw[q]at h;cases c with
   |true =>
    simp only[aB]at h;subst h;refine⟨?_,λj h=>by cases h;exact⟨aC _,Δ⟩⟩;unfold Instr.findAsking;rw[Sem.run_bind,z,Result.andThen_ok];simp
   |false =>
    obtain⟨F,u⟩:=zeh y C es ps (i+1) r (by simpa using A) (λj h D=>m (j+1) (by simpa using h) (by simpa using D)) h;refine⟨?_,λj G=>by obtain⟨a,b⟩:=u j G;exact⟨Ω,Ψ⟩⟩;unfold Instr.findAsking;rw[Sem.run_bind,z,Result.andThen_ok];simp only[aH,if_false];rw[F];cases r with
    |none=>rfl
    |some j =>
     obtain⟨a,b⟩:=u j rfl;simp only[aV];rw[show j-i=(j-(i+1))+1 by omega,getD_cons_succ]
end
open Go.RowKit
section
variable {P:Program} {w:World} {S:Nat->Prop}
variable {t:TypeId}
theorem zzl {a:AV}(n:Nat)(em:Bool)(j:fkT (fkA a) (P.underlying t)=true)(h:Rep w S G0 a v):(Instr.checkKey em (n+1) t v).run P w=.ok () w:=by
 obtain⟨d,c,m⟩:=U6 j;rcases m with⟨_,_,_,rfl,rfl⟩|⟨_,rfl,rfl⟩|⟨_,rfl,rfl⟩
 ·rw[h.int_inv];simp[Instr.checkKey,run_underlying c]
 ·rw[h.bool_inv];simp[Instr.checkKey,run_underlying c]
 ·rw[h.str_inv];simp[Instr.checkKey,run_underlying c]
theorem zhn (n:Nat)(em:Bool)(xs:Array Value):∀ (fs:List Field) (cs:List AV) (k:Nat),Df P k cs fs=true->k+cs.length<=xs.size->(∀ i (hi:i<cs.length),Rep w S G0 cs[i] (xs.getD (k+i) undef)) ->
  (forIn fs PUnit.unit (fun f _ => if f.name ≠ "_" then do
    let l <-part f.type xs f.offset
    Instr.checkKey em (n+1) f.type l
    pure (ForInStep.yield PUnit.unit) else pure (ForInStep.yield PUnit.unit):Field->PUnit->Sem (ForInStep PUnit))).run P w=.ok PUnit.unit w
 |[],cs,k,c,_,_=>by simp
 |f::fs,[],k,c,_,_=>by simp [Df] at c
 |f::fs,a::cs,k,c,y,j=>by
  simp only [Df,aG,decide_eq_true_eq] at c;obtain ⟨A,h,m,z⟩:=c;have h:=aA h;simp only [cA] at y;have u:Rep w S G0 a (xs.getD k undef):=j 0 (by simp);have p:=zhn n em xs fs cs (k+1) z (by omega) (fun i hi=>by have:=j (i+1) (by simpa using hi);rw [show k+1+i=k+(i+1) by omega];simpa using this);have q : f.name ≠ "_" := by simpa using A
  rw [forIn_cons];simp only [if_pos q,h,Sem.run_bind,z3y m (show k<xs.size by omega),Result.andThen_ok,zzl n em m u,Sem.run_pure];exact p
theorem y53 {a:AV}(n:Nat)(h:fkA a≠.no)(c:Rep w S G0 a v):Instr.sameBits n v v=true:=by
 cases a<;>simp[fkA]at h
 ·rw[c.int_inv];cases n<;>simp[Instr.sameBits]
 ·rw[c.bool_inv];cases n<;>simp[Instr.sameBits]
 ·rename_i s;have hs:(s == s)=true:=by
   cases s;first|exact beq_self_eq_true _|(show(_ == _)=true;exact beq_self_eq_true (α:=Array UInt8) _)|simp[BEq.beq,instBEqByteArray]|decide
  rw[c.str_inv];cases n<;>simp[Instr.sameBits,hs]
theorem zfp (j:Br P t (.agg cs)=true):∃fs:Array Field,P.underlying t=some (.struct fs)/\Df P 0 cs fs.toList=true:=by
 simp only[Br,aG]at j;obtain⟨_,c⟩:=j;cases h:P.underlying t with
 |none=>rw[h]at c;cases c
 |some dd =>
  rw[h]at c;cases dd<;>simp only[aH]at c;exact⟨_,rfl,c⟩
theorem P2 {a:AV}(em:Bool)(c:Br P t a=true)(h:Rep w S G0 a v):(Instr.checkKey em 10000 t v).run P w=.ok () w:=by
 cases a with
 |agg cs =>
  obtain⟨fs,j,p⟩:=zfp c;obtain⟨vs,ev,q,m,_⟩:=h.agg_inv;have:=zhn (w:=w) (S:=S) 9998 em vs fs.toList cs 0 p Ω (λi hi=>by simpa using m i hi);rw[ev,show(10000:Nat)=9999+1 from rfl];unfold Instr.checkKey;rw[Sem.run_bind,run_underlying j,Result.andThen_ok];simp only[<-Array.forIn_toList,Sem.run_bind];rw[this,Result.andThen_ok];simp
 |int k n=>exact zzl 9999 em (by simpa[Br]using c) h
 |bool x=>exact zzl 9999 em (by simpa[Br]using c) h
 |str x=>exact zzl 9999 em (by simpa[Br]using c) h
 |_=>simp[Br,fkA,fkT]at c
theorem y9z {fs:List Field}:∀{cs:List AV} {k:Nat},Df P k cs fs=true->∀i (hi:i<cs.length),fkA cs[i]≠.no:=by
 induction fs with
 |nil=>intro cs k h i hi;cases cs with
  |nil=>simp at hi
  |cons=>simp[Df]at h
 |cons f fs ih =>
  intro cs k h i hi;cases cs with
  |nil=>simp at hi
  |cons a cs =>
   simp only[Df,aG]at h;cases i with
   |zero=>intro c;have j:=h.2.2.1;simp only[bI]at c;rw[c]at j;simp[fkT]at j
   |succ i=>exact ih h.2.2.2 i (by simpa using hi)
theorem ycq {a:AV}(h:Br P t a=true)(c:Rep w S G0 a v):(Instr.keyThatStays v v).run P w=.ok v w:=by
 have:Instr.sameBits 10000 v v=true:=by
  cases a with
  |agg cs =>
   obtain⟨fs,u,q⟩:=zfp h;obtain⟨vs,ev,y,j,_⟩:=c.agg_inv;rw[ev,show(10000:Nat)=9999+1 from rfl];simp only[Instr.sameBits,beq_self_eq_true,Bool.true_and,bU];intro p m;obtain⟨i,hi,rfl⟩:=bZ.1 m;simp only[length_zip,cF,Nat.min_self]at hi;have h1:=y53 9999 (y9z q i Ω) (j i Ω);simp only[getElem_zip];simpa[aU,hi]using h1
  |int k n=>exact y53 _ (by simp[fkA]) c
  |bool x=>exact y53 _ (by simp[fkA]) c
  |str x=>exact y53 _ (by simp[fkA]) c
  |_=>simp[Br,fkA,fkT]at h
 simp[Instr.keyThatStays,this]
end
open Go.RowKit
section
variable {P:Program} {w:World} {S:Nat->Prop}
theorem zkv (a b:ByteArray):(a == b)=(a.toList == b.toList):=by
 simp[beq_toListBytes]
variable {t:TypeId}{vk:Value}
theorem y56 {d:TypeDesc}{a:AV}{va:Value}{c:Bool}(y:P.underlying t=some d)(z:fkT (fkA k) (P.underlying t)=true)(p:Rep w S G0 k vk)(u:Rep w S G0 a va)(j:eqK k a=some c):Instr.sameNow d vk va=some c:=by
 obtain⟨D,h,A⟩:=U6 z;rw[y]at h;injection h with h
 subst h;rcases A with⟨q,n,C,rfl,rfl⟩|⟨x,rfl,rfl⟩|⟨x,rfl,rfl⟩
 ·cases a<;>simp only[eqK,eq1,reduceCtorEq]at j;split at j
  ·rename_i m;have m:=of_decide_eq_true m;subst m;rw[p.int_inv,u.int_inv,<-j];simp[Instr.sameNow];rfl
  ·cases j
 ·cases a<;>simp only[eqK,eq1,reduceCtorEq]at j;rw[p.bool_inv,u.bool_inv,<-j];simp[Instr.sameNow]
 ·cases a<;>simp only[eqK,eq1,reduceCtorEq]at j;rw[p.str_inv,u.str_inv,<-j];simp[Instr.sameNow,zkv]
theorem zz6 {d:TypeDesc}(y:P.underlying t=some d)(z:fkT (fkA k) (P.underlying t)=true)(C:Rep w S G0 k vk):∀(es:List MapEntry) (ps:List (AV×AV)) (i:Nat) (r:Option Nat),es.length=ps.length->(∀j (h:j<es.length) (D:j<ps.length),Km w S es[j] ps[j]) ->
  Bt k (ps.map (·.1)) i=some r->Instr.findNow d vk es i=some (r.map λj=>(j,(es.getD (j-i) default).val))/\∀j,r=some j->i<=j/\j-i<es.length
 |[],[],i,r,A,m,h=>by
  simp only[cJ,Bt,aB]at h;subst h;exact⟨rfl,λj h=>by cases h⟩
 |e::es,p::ps,i,r,A,m,h=>by
  have I:Km w S e p:=m 0 Δ Δ;simp only[bW,Bt]at h;cases q:eqK k p.1 with
  |none=>rw[q]at h;cases h
  |some c =>
   have G:=y56 y z C I.1 q;rw[q]at h;unfold Instr.findNow;rw[G];cases c with
   |true =>
    simp only[aB]at h;subst h;exact⟨Δ,λj h=>by cases h;exact⟨aC _,Δ⟩⟩
   |false =>
    obtain⟨F,u⟩:=zz6 y z C es ps (i+1) r (by simpa using A) (λj h D=>m (j+1) (by simpa using h) (by simpa using D)) h;refine⟨?_,λj H=>by obtain⟨a,b⟩:=u j H;exact⟨Ω,Ψ⟩⟩;simp only;rw[F];cases r with
    |none=>rfl
    |some j =>
     obtain⟨a,b⟩:=u j rfl;simp only[aV];rw[show j-i=(j-(i+1))+1 by omega,getD_cons_succ]
theorem zln {fs:Array Field}:∀es:List MapEntry,∀i,Instr.findNow (.struct fs) vk es i=if es=[]then some none else none
 |[],i=>rfl
 |e::es,i=>by
  unfold Instr.findNow;have:Instr.sameNow (.struct fs) vk e.key=none:=by unfold Instr.sameNow;rfl
  rw[this];simp
theorem za8 (c:Br P t k=true)(A:Rep w S G0 k vk)(es:List MapEntry)(ps:List (AV×AV))(r:Option Nat)(p:es.length=ps.length)(C:∀j (h:j<es.length) (G:j<ps.length),Km w S es[j] ps[j])
  (h:Bt k (ps.map (·.1)) 0=some r):(Instr.findKey t vk es).run P w=.ok (r.map λj=>(j,(es.getD j default).val)) w/\∀j,r=some j->j<es.length:=by
 have one:fkT (fkA k) (P.underlying t)=true->(Instr.findKey t vk es).run P w=.ok (r.map λj=>(j,(es.getD j default).val)) w/\∀j,r=some j->j<es.length:=λh1=>by
  obtain⟨d,m,_⟩:=U6 h1;obtain⟨z,y⟩:=zz6 m h1 A es ps 0 r p C h;exact⟨MapKept.run_findKey m (by simpa using z),λj u=>by simpa using (y j u).2⟩
 cases k with
 |agg cs =>
  obtain⟨fs,m,F⟩:=zfp c;obtain⟨z,y⟩:=zeh c A es ps 0 r p C h;refine⟨?_,λj u=>by simpa using (y j u).2⟩;by_cases D:es=[]
  ·subst D;cases ps with
   |nil =>
    simp only[cJ,Bt,aB]at h;subst h;exact MapKept.run_findKey m rfl
   |cons=>simp at p
  ·unfold Instr.findKey;rw[Sem.run_bind,run_underlying m,Result.andThen_ok,zln,if_neg D];simpa using z
 |int q n=>exact one (by simpa[Br]using c)
 |bool x=>exact one (by simpa[Br]using c)
 |str x=>exact one (by simpa[Br]using c)
 |_=>simp[Br,fkA,fkT]at c
end
open Go.RowKit
section
variable {P:Program} {w:World} {S:Nat->Prop}
theorem zgp {kt et:TypeId}{zA:AV}{vk z:Value}{r:Option Nat}(ok:Bool)(A:P.underlying T=some (.map kt et))(m:Br P kt k=true)(p:Rep w S G0 k vk)(hm:Dj w S g ps)
  (D:(zeroValue et).run P w=.ok z w) (h:Rep w S G0 zA z) (G:Bt k (ps.map (·.1)) 0=some r) :
  ∃v,Rep w S G0 (match r with|some j=>(ps.getD j default).2|none=>zA) v/\(Instr.lookup T (.map (some g)) vk ok).run P w=.ok (if ok then .tuple #[v,.bool r.isSome]else v) w:=by
 obtain⟨es,clock,y,F,_,u⟩:=hm;obtain⟨C,H⟩:=za8 m p es.toList ps r (by simpa using F) u G;cases r with
 |none =>
  refine⟨z,h,?_⟩;cases ok<;>simp[Instr.lookup,run_underlying A,MapKept.run_getObj_map y,P2 _ m p,C,D,Result.andThen]
 |some j =>
  have q:=H j rfl;have c:j<ps.length:=by simp at q;omega
  have:=(u j q c).2;refine⟨(es.toList.getD j default).val,?_,?_⟩
  ·simp only[aD,aK c,aK q,Option.getD_some];exact this
  ·cases ok<;>simp[Instr.lookup,run_underlying A,MapKept.run_getObj_map y,P2 _ m p,C,Result.andThen]
end
open Go.RowKit
section
variable {P:Program} {w:World} {S:Nat->Prop}
theorem y3p {a b:AV}{va vb:Value}(h:eq1 a b=some true)(m:Rep w S G0 a va)(j:Rep w S G0 b vb):va=vb:=by
 cases a<;>cases b<;>simp only[eq1,reduceCtorEq]at h
 ·split at h
  ·rename_i c;have c:=of_decide_eq_true c;injection h with h
   have h:=of_decide_eq_true h;subst c;subst h;rw[m.int_inv,j.int_inv]
  ·cases h
 ·injection h with h
  have h:=eq_of_beq h;subst h;rw[m.bool_inv,j.bool_inv]
 ·injection h with h
  rename_i s p;have e:s=p:=(MapKept.bytes_beq s p).1 (by rw[zkv];exact h);rw[m.str_inv,j.str_inv,e]
theorem y7y:∀{cs ds:List AV},eqL cs ds=some true->cs.length=ds.length/\∀i (h:i<cs.length) (u:i<ds.length),eq1 cs[i] ds[i]=some true
 |[],[],_=>⟨rfl,λi h=>absurd h Δ⟩
 |[],_::_,h=>by simp[eqL]at h
 |_::_,[],h=>by simp[eqL]at h
 |a::cs,b::ds,h=>by
  unfold eqL at h;split at h
  ·rename_i c y h1 q;injection h with h
   simp only[aG]at h;obtain⟨rfl,rfl⟩:=h;obtain⟨p,m⟩:=y7y q;refine⟨by simp[p],λi hi j=>?_⟩;cases i with
   |zero=>exact h1
   |succ i=>exact m i (by simpa using hi) (by simpa using j)
  ·cases h
theorem ya8 {a b:AV}{va vb:Value}(h:eqK a b=some true)(p:Rep w S G0 a va)(m:Rep w S G0 b vb):va=vb:=by
 by_cases c:∃cs ds,a=.agg cs/\b=.agg ds
 ·obtain⟨cs,ds,rfl,rfl⟩:=c;obtain⟨vs,ev,A,q,_⟩:=p.agg_inv;obtain⟨us,eu,u,j,_⟩:=m.agg_inv;obtain⟨C,z⟩:=y7y h;rw[ev,eu];congr 1;apply Array.ext Ω;intro i h1 y;have:=y3p (z i Ω Ω) (q i Ω) (j i Ω);simpa[aU,h1,y]using this
 ·have:eqK a b=eq1 a b:=by
   cases a<;>cases b<;>first|rfl|exact absurd ⟨_,_,rfl,rfl⟩ c
  exact y3p (this▸h) p m
theorem zz8:∀{l:List AV} {i j:Nat},Bt k l i=some (some j)->i<=j/\∃h:j-i<l.length,eqK k l[j-i]=some true
 |[],i,j,h=>by simp[Bt]at h
 |a::r,i,j,h=>by
  simp only[Bt]at h;cases m:eqK k a with
  |none=>rw[m]at h;cases h
  |some c =>
   rw[m]at h;cases c with
   |true =>
    simp only[aB]at h;subst h;exact⟨aC _,Δ,by simpa using m⟩
   |false =>
    obtain⟨h1,q,p⟩:=zz8 h;have e:j-i=(j-(i+1))+1:=Ω
    refine⟨Ω,Ψ,?_⟩;simp only[e,bT];exact p
variable {es:Array MapEntry}
theorem Born.push {clock:Nat}(h:Born es clock)(k v:Value):Born (es.push ⟨k,v,clock⟩) (clock+1):=by
 obtain⟨h1,j⟩:=h;refine⟨?_,λe c=>?_⟩
 ·simp only[bS,map_append,bW,cJ];rw[nodup_append];refine⟨h1,Δ,λa p b m=>?_⟩;obtain⟨e,c,rfl⟩:=cR.1 p;have:=j e c;simp at m;omega
 ·simp only[bS,cH,mem_singleton]at c;rcases c with c|c
  ·have:=j e c;omega
  ·subst c;simp
theorem Born.mod {clock:Nat}(h:Born es clock)(j:Nat)(f:MapEntry->MapEntry)(q:∀e,(f e).born=e.born):Born (es.modify j f) clock:=by
 obtain⟨h1,u⟩:=h;have e:(es.modify j f).toList.map (·.born)=es.toList.map (·.born):=by
  apply ext_getElem
  ·simp
  ·intro i A z;simp only[aP,cG,getElem_modify];split<;>simp[q]
 refine⟨by rw[e];exact h1,λx p=>?_⟩;have:x.born∈es.toList.map (·.born):=by rw[<-e];exact cR.2 ⟨x,p,rfl⟩
 obtain⟨y,m,c⟩:=cR.1 this;rw[<-c];exact u y m
def putK (r:Option Nat)(k x:AV)(ps:List (AV×AV)):List (AV×AV):=match r with|some j=>ps.set j (k,x)|none=>ps++[(k,x)]
theorem zmo {kt et:TypeId}{vk vx:Value}{r:Option Nat}(J:P.underlying T=some (.map kt et))(D:Br P kt k=true)(q:Rep w S G0 k vk)(H:Rep w S G0 x vx)(hm:Dj w S g ps)
  (I:Bt k (ps.map (·.1)) 0=some r) (Q:¬S g):∃o,(Instr.mapUpdate T (.map (some g)) vk vx).run P w=.ok () { w with heap:=w.heap.setIfInBounds g o }/\Dj { w with heap:=w.heap.setIfInBounds g o } S g (putK r k x ps):=by
 obtain⟨es,clock,u,F,A,y⟩:=hm;have z:g<w.heap.size:=by
  rcases Nat.lt_or_ge g w.heap.size with h|h
  ·exact h
  ·rw[Array.getElem?_eq_none h]at u;cases u
 obtain⟨M,R⟩:=za8 D q es.toList ps r (by simpa using F) y I;have mv:∀(o:Obj) {a:AV} {v:Value},Rep w S G0 a v->Rep { w with heap:=w.heap.setIfInBounds g o } S G0 a v:=λo a v h =>
  h.mono Δ (λb K u=>⟨by
   have:b≠g:=λe=>Q (e▸K)
   simp[aW,Ne.symm this],K⟩)
 cases r with
 |none =>
  refine⟨.map (es.push ⟨vk,vx,clock⟩) (clock+1),?_,?_⟩
  ·simp[Instr.mapUpdate,run_underlying J,MapKept.run_getObj_map u,P2 _ D q,M,MapKept.run_setObj_map _ u,Result.andThen]
  ·refine⟨es.push ⟨vk,vx,clock⟩,clock+1,by simp[aW,z],by simp[putK,F],A.push _ _,λj h C=>?_⟩;simp only[bS,putK]at h C ⊢;by_cases m:j<es.toList.length
   ·have c:j<ps.length:=by simp at m;omega
    rw[bB m,bB c];exact⟨mv _ (y j m c).1,mv _ (y j m c).2⟩
   ·have N:j=es.toList.length:=by simp at h m ⊢;omega
    have V:j=ps.length:=by simp at N;omega
    rw[bA Ω,bA Ω];simp only[N,Nat.sub_self,getElem_singleton];exact⟨mv _ q,mv _ H⟩
 |some j =>
  have m:=R j rfl;have c:j<ps.length:=by simp at m;omega
  obtain⟨_,U,L⟩:=zz8 I;simp only[Nat.sub_zero,aP]at L;have G:j<es.size:=by simpa using m
  have O:es[j].key=vk:=by
   have:=(y j m c).1;exact(ya8 L q (by simpa using this)).symm
  refine⟨.map (es.modify j λe=>{ e with key:=vk,val:=vx }) clock,?_,?_⟩
  ·simp[Instr.mapUpdate,run_underlying J,MapKept.run_getObj_map u,P2 _ D q,M,MapKept.run_setObj_map _ u,Result.andThen,G,O,ycq D q]
  ·refine⟨es.modify j λe=>{ e with key:=vk,val:=vx },clock,by simp[aW,z],by simp[putK,F],A.mod _ _ (λ_=>rfl),λi h C=>?_⟩;simp only[putK,cV]at C;have hi:i<es.toList.length:=Ψ
   simp only[cG,putK,cD,getElem_modify];by_cases p:j=i
   ·rw[if_pos p,if_pos p];exact⟨mv _ q,mv _ H⟩
   ·rw[if_neg p,if_neg p];exact⟨mv _ (y i hi C).1,mv _ (y i hi C).2⟩
end
end Go.Proofs.YthbogefcfhmpgaaGreat
