/- Maps. -/
import Derived.Test.YthbogefcfhmpgaaGreatK02
import Derived.Carry
import Derived.RangeFuncNested
set_option linter.unusedVariables false
set_option linter.unusedSimpArgs false
namespace Go.Proofs.YthbogefcfhmpgaaGreat
open Go.RowKit List
open Nat renaming eq_of_beq_eq_true->aA,beq->aC,le_refl->aD,le_of_ble_eq_true->aG,ne_of_beq_eq_false->aN,mul_le_mul_right->aP,ble->aX,succ_mul->bC,lt_of_lt_of_le->bD,not_lt_zero->bJ,beq_refl->bS,zero_mul->cH,le_trans->cI,mul_comm->cJ
open Bool renaming and_eq_true->aB,not_eq_true'->aK,or_eq_true->bA,false_eq_true->bP
open Gam renaming set_self->aE,set_ne->aF
open Or renaming inr->aH,inl->aJ
open AV renaming renL_length->aL,renL->aV,inML->aW,cells->bL,closedL->bQ,renL_at->cB,inML_at->cC
open Option.some renaming injEq->aM
open _root_.Array renaming getD_eq_getD_getElem?->aO,length_toList->aS,all_eq_true_iff_forall_mem->aT,getD->bE,getElem_toList->bK,append_empty->bR
open List renaming all_eq_true->aQ,mem_map->aR,mem_map_of_mem->aY,getD_eq_getElem?_getD->aZ,mem_append_left->bB,getElem_replicate->bG,getElem_map->bH,mem_append_right->bI,length_take->bM,mem_filterMap->bN,map_cons->bT,length_replicate->bU,any_eq_true->bV,length_drop->bW,nil_append->cF,replicate->cG
open AS renaming find->aU,get_upd->cD,get->cK
open Option renaming toList_none->bF,isSome_none->bO,map_none->bX
open WP renaming mono->bZ,region_draw->cE
variable {P:Program}
theorem zwl {fs:List Field}:∀{cs:List AV} {k:Nat},Df P k cs fs=true->AV.flatL cs=true:=by
 induction fs with
 |nil=>intro cs k h;cases cs with
  |nil=>rfl
  |cons=>simp[Df]at h
 |cons f fs b =>
  intro cs k h;cases cs with
  |nil=>rfl
  |cons a cs =>
   simp only[Df,aB]at h;have h1:=h.2.2.1;simp only[AV.flatL,aB];refine⟨?_,b h.2.2.2⟩;cases a<;>first|rfl|simp[fkA,fkT]at h1
theorem Oa {t:TypeId}{k:AV}(h:Br P t k=true):k.flat=true:=by
 cases k with
 |agg cs =>
  obtain⟨fs,_,b⟩:=zfp h;exact zwl b
 |int=>rfl
 |bool=>rfl
 |str=>rfl
 |_=>simp[Br,fkA,fkT]at h
variable {i:TyI}{e:Nat}
theorem Fo {T:TypeId}{k:Nat}(h:TyOk P T i)(hs:i.shape=.map k e):P.underlying T=some (.map k e):=by
 obtain⟨d,c,b⟩:=h.und;rw[hs]at b;cases d<;>simp only[Du,reduceCtorEq,Ec.map.injEq]at b;obtain⟨rfl,rfl⟩:=b;exact c
section
variable {cx:Cx} {o:Oper} {σ:AS}
variable {id:Nat}
theorem Dd {d:Nat}{e f:Ent}(b:lkE [(d,e)] id=some f):id∈[d]:=by
 simp only[lkE]at b;cases c:aC d id with
 |true=>simp[aA c]
 |false=>rw[c]at b;cases b
variable {T:Nat}
theorem y1n {d:Nat}(k:o.op=.makeMap T none)(m:o.dst=some d)(u:dok cx o=true)(q:σ.find d=none):Ao cx o σ (.row d) [d] [(d,.mp [])]:=by
 refine⟨λid e t=>Dd t,λτ h1 A a w Q K ⟨γ,f⟩ z=>C9 (λc p=>by rw[k]at p;cases p) ?_⟩;have b:(execOp a.eval o).run cx.P w=.ok (.value (.map (some w.heap.size))) (w.alloc (.map #[] 0)):=by
  simp only[execOp,k,bX,Sem.run_bind,run_makeMap,Result.andThen_ok,Sem.run_pure]
 unfold Oper.wp;rw[b];refine z _ _ ⟨_,f.name (id:=d) (g:=w.heap.size) (s:=.map (some w.heap.size)) (e:=.mp []) (C5 u) (by rw[A d Δ];exact q) ((Below.refl _ _).alloc (aD _) _) (aD _) Δ ?_ ?_⟩
 ·exact⟨w.heap.size,rfl,#[],0,(MapKept.heap_alloc w _).1,rfl,⟨Δ,λe h=>by simp at h⟩,λj h=>absurd h Δ⟩
 ·exact .row (aE _ _ _) (λg s e _=>by injection e with e;injection e with _ e)
variable {ps:List (AV×AV)}
theorem Ud {γ:Gam}{τ:AS}{a:Act}{w:World}{v:Value}(f:StG cx γ τ a w)(m:τ.find id=some (.mp ps))(k:Rep w (Sg cx.S0 cx.w0.heap.size γ) γ (.row id) v) :
  ∃g,γ id=some (some (some g,.map (some g)))/\v=.map (some g)/\Dj w (Sg cx.S0 cx.w0.heap.size γ) g ps:=by
 have b:=f.me id;rw[m]at b;obtain⟨d,c,g,h,hm⟩:=b;subst h;exact⟨g,c,k.row_inv c,hm⟩
def Ea (z:AV)(ps:List (AV×AV)):Option Nat->AV |some j=>(ps.getD j default).2 |none=>z
def Gv (av:AV)(b:Bool):Bool->AV |true=>.tup [av,.bool b] |false=>av
variable {kt et:Nat}{x:Operand}
theorem zxt {y:Operand}{ok:Bool}{ie:TyI}{k av:AV}{r:Option Nat}(q:o.op=.lookup T x y ok)(I:dok cx o=true)(m:A6 x=true)(h:A6 y=true)(C:σ.eval x=.row id)(B:σ.eval y=k)(F:σ.find id=some (.mp ps))
  (J:lkT cx.E.tab T=some i) (hs:i.shape=.map kt et) (H:lkT cx.E.tab et=some ie) (f:P6 ie.zero=true) (t:Br cx.P kt k=true) (G:Bt k (ps.map (·.1)) 0=some r)
  (s:Sub (Ea (D7 ie.zero) ps r) av):Ao cx o σ (Gv av r.isSome ok) [id] [] :=
 Bc I λτ γ a w h1 M c=>by
  have A:=c.ev x m;rw[h1 x (by simp[q,Op.operands]),C]at A;have z:=c.ev y h;rw[h1 y (by simp[q,Op.operands]),B]at z;obtain⟨g,N,D,hm⟩:=Ud c (by rw[M id Δ];exact F) A;obtain⟨v,b,p⟩:=zgp (S:=Sg cx.S0 cx.w0.heap.size γ) (zA:=D7 ie.zero) ok (Fo (cx.E.ok T i J) hs) t (z.flat (Oa t)) hm ((cx.E.ok et ie H).zeroV w) (Yb _ _ _ _ f) G;have b:Rep w (Sg cx.S0 cx.w0.heap.size γ) G0 (Ea (D7 ie.zero) ps r) v:=by cases r<;>exact b
  have b:=(b.open_ (γ':=γ)).sub s;refine⟨(if ok then .tuple #[v,.bool r.isSome]else v),by simp only[execOp,q,D,Sem.run_bind,p,Result.andThen_ok,Sem.run_pure],?_⟩;cases ok with
  |false=>exact b
  |true =>
   simp only[Gv,if_true];refine .tup #[v,.bool r.isSome] rfl (λj u=>?_);have u:j<2:=u;rcases j with _|_|j
   ·exact b
   ·exact .bool _
   ·omega
theorem zvj {y z:Operand}{k xv:AV}{ps':List (AV×AV)}{r:Option Nat}(p:o.op=.mapUpdate T x y z\/o.op=.insert T x y z)(hd:dok cx o=true)(W:A6 x=true)(V:A6 y=true)(U:A6 z=true)(hx:σ.eval x=.row id)(hy:σ.eval y=k)(hz:σ.eval z=xv)(hl:σ.find id=some (.mp ps))
  (hT:lkT cx.E.tab T=some i) (hs:i.shape=.map kt et) (I:Br cx.P kt k=true) (af:xv.closed=true) (hf:Bt k (ps.map (·.1)) 0=some r) (X:SubM (putK r k xv ps) ps'):Ao cx o σ (.tup []) [id] [(id,.mp ps')]:=by
 refine⟨λid e he=>Dd he,λτ h1 h2 a w Q K ⟨γ,f⟩ hK=>C9 (λc hc=>by rcases p with p|p<;>(rw[p]at hc;cases hc)) ?_⟩;have q:x∈o.op.operands/\y∈o.op.operands/\z∈o.op.operands:=by rcases p with p|p<;>simp[p,Op.operands]
 have ex:=f.ev x W;rw[h1 x q.1,hx]at ex;have ey:=f.ev y V;rw[h1 y q.2.1,hy]at ey;have ez:=f.ev z U;rw[h1 z q.2.2,hz]at ez;obtain⟨g,hg,hv,hm⟩:=Ud f (by rw[h2 id Δ];exact hl) ex;have u:own γ g:=own.mk hg;have M:=f.ge g u;have G:∀b,Sg cx.S0 cx.w0.heap.size γ b->b≠g:=λb C e=>by
  subst e;rcases C with⟨_,h⟩|⟨_,h⟩
  ·have:=M.1.1;omega
  ·exact h u
 obtain⟨B,F,Z⟩:=zmo (Fo (cx.E.ok T i hT) hs) I (ey.flat (Oa I)) (ez.close af) hm hf (λC=>G g C rfl);have ad:(execOp a.eval o).run cx.P w=.ok .skip { w with heap:=w.heap.setIfInBounds g B }:=by
  rcases p with p|p<;>simp only[execOp,p,hv,Sem.run_bind,F,Result.andThen_ok,Sem.run_pure]
 unfold Oper.wp;rw[ad];have m:∀k,k≠g->({ w with heap:=w.heap.setIfInBounds g B }:World).heap[k]? = w.heap[k]? := λk I=>by simp[Array.getElem?_setIfInBounds,Ne.symm I]
 have t:w.heap.size<=({ w with heap:=w.heap.setIfInBounds g B }:World).heap.size:=Δ
 have ae:w.drawn<=({ w with heap:=w.heap.setIfInBounds g B }:World).drawn:=aD _;have O:Below cx.w0.heap.size w ({ w with heap:=w.heap.setIfInBounds g B }:World):=⟨rfl,rfl,rfl,t,λk I=>m k (by have:=M.1.1;omega)⟩;generalize ({ w with heap:=w.heap.setIfInBounds g B }:World)=w' at *;refine hK _ _ ⟨γ,f.step (C5 hd) t (λb C aa=>⟨m b (G b C),C⟩) (λid d h=>aJ h) (λD J=>⟨rfl,λg' s ac Y=>m g' ?_⟩) (λD e' A=>?_) f.inj (λb N=>⟨(f.ge b N).1,bD (f.ge b N).2 t⟩) (f.below.trans O) (.tup #[] rfl (λj hj=>absurd hj Δ)) (λb H aa=>⟨m b (λe=>H (e▸u)),H⟩) (λ_=>ae)⟩
 ·rintro rfl;have:=f.inj _ _ _ _ _ ac hg Y C3;subst this;simp[lkE]at J
 ·have ab:D=id:=by have:=Dd A;simpa using this
  subst ab;simp only[lkE,bS,aM]at A;subst A;exact⟨_,hg,g,rfl,Z.sub X⟩
theorem y1r (h:o.op=.call { callee:=.builtin .len,args:=#[x],argTypes:=#[T] })(s:dok cx o=true)(c:A6 x=true)(m:σ.eval x=.row id)(q:σ.find id=some (.mp ps))(u:lkT cx.E.tab T=some i)(hs:i.shape=.map kt et):Ao cx o σ (.int .i64 (ps.length:Int)) [id] [] :=
 Bc s λτ γ a w h1 z b=>by
  have k:=b.ev x c;rw[h1 x (by simp[h,Op.operands,Call.operands]),m]at k;obtain⟨g,A,p,es,clock,t,f,_⟩:=Ud b (by rw[z id Δ];exact q) k;refine⟨.int .i64 (ps.length:Int),?_,.int _ _⟩;rw[<-f];simp[execOp,h,resolve,invoke,builtin,Builtin.len_,p,run_underlying (Fo (cx.E.ok T i u) hs),MapKept.run_getObj_map t,goInt,pure,Result.andThen]
end
variable {w:World}{sz n:Nat}
theorem zw9 {base h:Nat}{g c:Nat}{vs:List Value}(f:w.ownsRow base e sz (.slice (some ⟨g,0,none⟩) n c) n vs)(t:h<=n):w.ownsRow base e sz (.slice (some ⟨g,0,none⟩) h c) h (vs.take (h*sz)):=by
 obtain⟨h1,A⟩:=f;have m:h*sz<=n*sz:=aP _ t;refine⟨by rw[bM];omega,?_⟩;rcases A with⟨b,_⟩|⟨C,q,p,b,z,u,B,hm,hs,s⟩
 ·cases b
 ·injection b with b _ k
  injection b with b
  injection b with b
  subst b;subst k;refine aH ⟨g,c,p,rfl,z,u,Ω,hm,hs,?_⟩;rw[<-s,take_take,Nat.min_eq_left m]
section
variable {cx:Cx} {o:Oper} {σ:AS}
variable {hi:Option Operand}
theorem zun {σ τ:AS}{γ:Gam}{a:Act}{m:Nat}(f:StG cx γ τ a w)(g:opdO hi=true)(h1:∀y,hi=some y->τ.eval y=σ.eval y)(b:bndA σ n hi=some (m:Int))(c:Nat)(code:BoundsCode)(s:m<=c) :
  (match hi.map a.eval with|some v=>Instr.sliceBound v c code|none=>pure n:Sem Nat).run cx.P w=.ok m w:=by
 cases hi with
 |none=>simp only[bndA,aM]at b;have:n=m:=Ω
        simp[this]
 |some y =>
  have h:=f.ev y g;rw[h1 y rfl]at h;simp only[bndA]at b;cases p:σ.eval y with
  |int k q =>
   rw[p]at h b;simp only[aM]at b;subst b;simp only[Option.map_some,h.int_inv];exact Ya k m c _ s
  |_=>rw[p]at b;simp at b
variable {lo:Option Operand}
theorem zdr {σ τ:AS}{γ:Gam}{a:Act}{l h c:Nat}(k:StG cx γ τ a w)(m:opdO lo=true)(q:opdO hi=true)(A:∀y,lo=some y->τ.eval y=σ.eval y)(z:∀y,hi=some y->τ.eval y=σ.eval y)
  (h1:bndA σ 0 lo=some (l:Int)) (u:bndA σ n hi=some (h:Int)) (p:l<=h) (t:h<=c):(Instr.sliceBounds true n c (lo.map a.eval) (hi.map a.eval) none).run cx.P w=.ok (l,h,c) w:=by
 have g:=zun k q z u c .sliceAcap t;have f:=zun k m A h1 h .sliceB p;unfold Instr.sliceBounds;cases s:hi.map a.eval with
 |none =>
  rw[s]at g;simp only[Sem.run_pure,Result.ok.injEq,and_true]at g;subst g;cases b:lo.map a.eval with
  |none=>rw[b]at f;simp only[Sem.run_pure,Result.ok.injEq,and_true]at f ⊢;simp[f]
  |some v=>rw[b]at f;simp only[bO,bP,if_false,Sem.run_bind,Sem.run_pure,f,Result.andThen_ok]
 |some v =>
  rw[s]at g;simp only[if_true,Sem.run_bind,Sem.run_pure,Result.andThen_ok,g]at g ⊢;cases b:lo.map a.eval with
  |none=>rw[b]at f;simp only[Sem.run_pure,Result.ok.injEq,and_true]at f ⊢;simp[f]
  |some v=>rw[b]at f;simp only[bO,bP,if_false,Sem.run_bind,Sem.run_pure,f,Result.andThen_ok]
variable {T:Nat}{x:Operand}
theorem ziu (c:o.op=.slice T x lo hi none):x∈o.op.operands/\(∀y,lo=some y->y∈o.op.operands)/\∀y,hi=some y->y∈o.op.operands:=by
 refine⟨by simp[c,Op.operands],λy b=>?_,λy b=>?_⟩<;>subst b<;>simp[c,Op.operands]
variable {esz eb:Nat}
theorem zrf (u:o.op=.slice T x lo hi none)(H:dok cx o=true)(m:A6 x=true)(q:opdO lo=true)(s:opdO hi=true)(D:σ.eval x=.nils)(I:lkT cx.E.tab T=some i)(hs:i.shape=.slc e esz eb)(C:esz≠0)
  (h1:bndA σ 0 lo=some 0) (M:bndA σ 0 hi=some 0):Ao cx o σ .nils [] [] :=
 Bc H λτ γ a w b G f=>by
  obtain⟨B,A,z⟩:=ziu u;have g:=f.ev x m;rw[b x B,D]at g;obtain⟨F,t,_⟩:=Cr (cx.E.ok T i I) hs;have p:=Ej t C w;have J:=zdr (σ:=σ) (l:=0) (h:=0) (c:=0) (n:=0) f q s (λy k=>b y (A y k)) (λy k=>b y (z y k)) h1 M (aD _) (aD _);refine⟨.slice none 0 0,?_,.nils⟩;simp[execOp,u,g.nils_inv,Instr.sliceAt,Instr.slice,run_underlying F,J,p,pure]
theorem y07 (g:o.op=.call { callee:=.builtin .cap,args:=#[x],argTypes:=#[T] })(m:dok cx o=true)(c:A6 x=true)(h:σ.eval x=.nils)(p:lkT cx.E.tab T=some i)(hs:i.shape=.slc e esz eb):Ao cx o σ (.int .i64 0) [] [] :=
 Bc m λτ γ a w h1 q f=>by
  have b:=f.ev x c;rw[h1 x (by simp[g,Op.operands,Call.operands]),h]at b;obtain⟨k,_,_⟩:=Cr (cx.E.ok T i p) hs;exact⟨.int .i64 0,by simp[execOp,g,resolve,invoke,builtin,Builtin.cap_,b.nils_inv,run_underlying k,goInt,pure],.int _ _⟩
theorem zvi {ty id d h:Nat}{xs:List AV}(ho:o.op=.slice T x lo hi none)(aq:o.dst=some d)(hd:dok cx o=true)(ad:A6 x=true)(W:opdO lo=true)(Y:opdO hi=true)(hx:σ.eval x=.row id)(hT:lkT cx.E.tab T=some i)(hs:i.shape=.slc e esz eb)(hz:esz≠0)
  (hl:σ.find id=some (.row ty esz xs)) (hn:σ.find d=none) (ai:id≠d) (h1:bndA σ 0 lo=some 0) (h2:bndA σ xs.length hi=some (h:Int)) (hh:h<=xs.length):Ao cx o σ (.row d) [d,id] [(d,.row ty esz (xs.take h)),(id,.dead)]:=by
 refine⟨λi e he=>?_,λτ q Z a w Q K ⟨γ,m⟩ hK=>C9 (λc hc=>by rw[ho]at hc;cases hc) ?_⟩
 ·simp only[lkE]at he;cases p:aC d i with
  |true=>simp[aA p]
  |false =>
   rw[p]at he;cases ab:aC id i with
   |true=>simp[aA ab]
   |false=>rw[ab]at he;cases he
 obtain⟨m1,m2,m3⟩:=ziu ho;have aa:=m.ev x ad;rw[q x m1,hx]at aa;obtain⟨I,ap,_⟩:=Cr (cx.E.ok T i hT) hs;have J:=Ej ap hz w;have U:=m.me id;rw[Z id Δ,hl]at U;obtain⟨dd,B,s,us,ao,ah,t,z,af,N⟩:=U;subst ao;have D:γ d=none:=by have:=m.me d;rw[Z d Δ,hn]at this;exact this
 have aj:∀b,Sg cx.S0 cx.w0.heap.size γ b->s.ownBlock≠some b:=λb p e=>by
  have O:own γ b:=⟨id,_,B,by rw[e];exact C3⟩;rcases p with⟨_,p⟩|⟨_,p⟩
  ·have:=(m.ge b O).1.1;omega
  ·exact p O
 have ak:(xs.take h).length=h:=by rw[bM];omega
 -- the slice's form
 have key:∃v' us',(Instr.sliceAt T s (lo.map a.eval) (hi.map a.eval) none).run cx.P w=.ok v' w/\w.ownsRow cx.w0.heap.size ty esz v' h us'/\v'.ownBlock=s.ownBlock/\us'=us.take (h*esz):=by
  rcases t.2 with⟨C,h0⟩|⟨g,ac,aw,C,_,_,ar,_⟩
  ·have ae:xs.length=0:=h0;have am:h=0:=Ω
   subst am;have hB:=zdr (σ:=σ) (l:=0) (h:=0) (c:=0) (n:=0) m W Y (λy A=>q y (m2 y A)) (λy A=>q y (m3 y A)) h1 (by rw[ae]at h2;exact h2) (aD _) (aD _);refine⟨.slice none 0 0,us.take (0*esz),?_,by rw[cH,take_zero];exact World.ownsRow_nil w _ _ _,by rw[C],rfl⟩;rw[C];simp[Instr.sliceAt,Instr.slice,run_underlying I,hB,J,pure]
  ·have hB:=zdr (σ:=σ) (l:=0) (h:=h) (c:=ac) (n:=xs.length) m W Y (λy A=>q y (m2 y A)) (λy A=>q y (m3 y A)) h1 h2 (Nat.zero_le _) Ω;have f:=t;rw[C]at f;refine⟨.slice (some ⟨g,0,none⟩) h ac,_,?_,zw9 f hh,by rw[C];rfl,rfl⟩;rw[C];simp[Instr.sliceAt,Instr.slice,run_underlying I,hB,J,pure,Addr.add_lit]
 obtain⟨v',us',M,f,G,H⟩:=key;have an:(execOp a.eval o).run cx.P w=.ok (.value v') w:=by
  simp only[execOp,ho,aa.row_inv B,bX,Sem.run_bind,M,Result.andThen_ok,Sem.run_pure]
 unfold Oper.wp;rw[an];refine hK _ _ (y1l (v':=v') (us':=us') m (λ_=>aD _) B D ai (C5 hd) (World.grownBy.refl _ _) (by rw[ak];exact f) (λb p=>aJ (G▸p)) (λk hk=>?_) (λk hk j hj=>?_) (λu I=>?_) (λγ' F=>?_))
 ·rw[getElem_take];exact z k _
 ·have al:k<h:=Ω
  have X:k<xs.length:=Ω
  simp only[getElem_take]at hj ⊢;have au:j<esz:=by rw[<-z k X];exact hj
  have V:k*esz+j<h*esz:=by
   have:(k+1)*esz<=h*esz:=aP _ al;rw[bC]at this;omega
  rw[H,aZ,getElem?_take_of_lt V,<-aZ];exact(af k X j hj).mono (aD _) (λb p _=>⟨rfl,aJ p,by rw[G];exact aj b p⟩)
 ·rw[H]at I;exact N u (mem_of_mem_take I)
 ·exact .row F (λg s e _=>by injection e with e;injection e with _ e)
end
mutual
def AV.frz (r sz:Nat)(xs:List AV):AV->AV
 |.row id=>match aC id r with|true=>.sl sz xs|false=>.row id
 |.fn f cap=>.fn f (AV.frzL r sz xs cap)
 |.yld l T cap=>.yld l T (AV.frzL r sz xs cap)
 |.agg cs=>.agg (AV.frzL r sz xs cs)
 |.tup cs=>.tup (AV.frzL r sz xs cs)
 |x=>x
def AV.frzL (r sz:Nat)(xs:List AV):List AV->List AV |[]=>[] |x::l=>x.frz r sz xs::AV.frzL r sz xs l
end
theorem AV.frzL_length (r sz:Nat)(xs l:List AV):(AV.frzL r sz xs l).length=l.length:=by
 induction l with
 |nil=>rfl
 |cons x l ih=>simp[AV.frzL,ih]
theorem AV.frzL_at (r sz:Nat)(xs l:List AV)(i:Nat)(hi:i<l.length):(AV.frzL r sz xs l)[i]'(by rw[AV.frzL_length];exact hi)=l[i].frz r sz xs:=by
 induction l generalizing i with
 |nil=>simp at hi
 |cons x l ih =>
  cases i with
  |zero=>rfl
  |succ i=>exact ih i (by simpa using hi)
variable {S:Nat->Prop}{γ:Gam}{xs:List AV}{d:Option (Option Nat×Value)}{av:AV}{v:Value}
theorem Rep.frz {γ':Gam}{r:Nat}(m:∀i x,i≠r->γ i=some x->γ' i=some x)(D:γ r=some d)(u:γ' r=some none)
  (I:∀v,(∀g s,d=some (g,s)->P4 s=false->v=s)->Rep w S γ' (.sl sz xs) v)   (h:Rep w S γ av v):Rep w S γ' (av.frz r sz xs) v:=by
 induction h with
 |any=>exact .any _
 |int=>exact .int _ _
 |bool=>exact .bool _
 |str=>exact .str _
 |nilp=>exact .nilp
 |nils=>exact .nils
 |nilf=>exact .nilf
 |@ptr γ id off v G h q =>
  by_cases hi:id=r
  ·subst hi;exact .ptr u (λg s e=>by cases e)
  ·exact .ptr (m _ _ hi h) q
 |@elt γ id sz k j v G h q =>
  by_cases hi:id=r
  ·subst hi;exact .elt u (λg s e=>by cases e)
  ·exact .elt (m _ _ hi h) q
 |@der γ X id v G h q =>
  by_cases hi:id=r
  ·subst hi;exact .der u (λg s e=>by cases e)
  ·exact .der (m _ _ hi h) q
 |mapv H Q g es clock z M W V t U q O N=>exact .mapv H Q g es clock z M W V t U q
 |mapn=>exact .mapn
 |slen A n c=>exact .slen A n c
 |@cont γ n id v G h q t =>
  by_cases hi:id=r
  ·subst hi;exact .cont u (λg s e=>by cases e) t
  ·exact .cont (m _ _ hi h) q t
 |@row γ id v G h q =>
  simp only[AV.frz];cases z:aC id r with
  |true =>
   have:=aA z;subst this;rw[D]at h;injection h with h
   subst h;exact I _ q
  |false=>exact .row (m _ _ (aN z) h) q
 |sl A c cell J F z C h1 ih=>exact .sl A c cell J F z C h1
 |ref b off cell M z J C h1 ih=>exact .ref b off cell M z J C h1
 |fn vs t B ih =>
  exact .fn vs (by rw[t,AV.frzL_length]) (λi p=>by
   have f:=p;rw[AV.frzL_length]at f;rw[AV.frzL_at r sz xs _ i f];exact ih i f m D)
 |yld B ih =>
  exact .yld (λi p=>by
   have f:=p;rw[AV.frzL_length]at f;rw[AV.frzL_at r sz xs _ i f];exact ih i f m D)
 |agg vs t B h1 ih =>
  exact .agg vs (by rw[t,AV.frzL_length]) (λi p=>by
   have f:=p;rw[AV.frzL_length]at f;rw[AV.frzL_at r sz xs _ i f];exact ih i f m D) h1
 |tup vs t B ih =>
  exact .tup vs (by rw[t,AV.frzL_length]) (λi p=>by
   have f:=p;rw[AV.frzL_length]at f;rw[AV.frzL_at r sz xs _ i f];exact ih i f m D)
section
variable {cx:Cx} {o:Oper} {σ:AS}
theorem y09 {x:Operand}{args:Array Operand}{tys:Array TypeId}{f id ty:Nat}{q avs:List AV}{res:AV}{fr:Bool}(u:o.op=.call { callee:=.value x,args:=args,argTypes:=tys })(hd:dok cx o=true)(V:A6 x=true)(X:args.toList.all A6=true)(D:σ.eval x=.fn f q)
  (hl:σ.find id=some (.row ty sz xs)) (ha:AV.frzL id sz xs (Ca σ args q)=avs) (ah:bQ avs=true) (N:Con cx.E fr f avs res):Ao cx o σ res [id] [(id,.dead)]:=by
 refine⟨λi e he=>Dd he,λτ h1 h2 a w Q K ⟨γ,h⟩ hK=>C9 (λc N=>by rw[u]at N;cases N) ?_⟩;have H:o.op.operands=#[x]++args:=by simp[u,Op.operands,Call.operands]
 obtain⟨caps,af,ab,hr⟩:=Oo h X V (λy hy=>h1 y (by rw[H];simp at hy ⊢;exact aH hy)) (h1 x (by rw[H];simp)) D;have I:=h.me id;rw[h2 id Δ,hl]at I;obtain⟨d,B,he⟩:=I;have k:∀b,own (γ.set id none) b->own γ b/\∀s,γ id≠some (some (some b,s)):=λb ⟨i,s,hi,hm⟩=>by
  by_cases m:i=id
  ·subst m;rw[aE]at hi;injection hi with hi;subst hi;simp[blks]at hm
  ·rw[aF _ _ _ m]at hi;exact⟨⟨i,s,hi,hm⟩,λs' W=>m (h.inj _ _ _ _ _ hi W hm C3)⟩
 have hS:∀b,Sg cx.S0 cx.w0.heap.size γ b->Sg cx.S0 cx.w0.heap.size (γ.set id none) b:=λb t=>t.elim aJ (λ⟨h1,h2⟩=>aH ⟨h1,λu=>h2 (k b u).1⟩)
 have U:∀i x,γ i=some x->γ.set id none i=some x\/γ.set id none i=some none\/Turn (γ.set id none) i x:=λi x D=>by
  by_cases m:i=id
  ·subst m;exact aH (aJ (aE _ _ _))
  ·exact aJ (by rw[aF _ _ _ m];exact D)
 obtain⟨s,hs,G⟩:=Fv (S':=Sg cx.S0 cx.w0.heap.size (γ.set id none)) he (λb t _=>hS b t) (λs g U=>aH ⟨(h.ge g (own.mk (id:=id) (s:=s) (by rw[B,U]))).1,λu=>(k g u).2 s (by rw[B,U])⟩) (γ.set id none);have mv:∀{av v},Rep w (Sg cx.S0 cx.w0.heap.size γ) γ av v->Rep w (Sg cx.S0 cx.w0.heap.size (γ.set id none)) (γ.set id none) (av.frz id sz xs) v:=λF =>
  (F.mono (aD _) (λb t _=>⟨rfl,hS b t⟩)).frz (λi x hi D=>by rw[aF _ _ _ hi];exact D) B (aE _ _ _) (λv F=>by rw[F _ _ hs G.sl_tup];exact G)
 unfold Oper.wp;rw[Oi u af N.1];show Calls _ _ _ _ _;have J:avs.length=(Ca σ args q).length:=by rw[<-ha,AV.frzL_length]
 refine(N.2 (Sg cx.S0 cx.w0.heap.size (γ.set id none)) w _ ⟨by rw[J];exact ab,λi hi=>?_⟩).mono ?_
 ·have M:i<(Ca σ args q).length:=Ω
  have e:avs[i]=(Ca σ args q)[i].frz id sz xs:=by
   have:(AV.frzL id sz xs (Ca σ args q))[i]'(by rw[AV.frzL_length];exact M)=avs[i]:=by simp only[ha]
   rw[<-this,AV.frzL_at]
  have:=mv (hr i M);rw[<-e]at this;exact this.close (AV.closedL_at ah i hi)
 rintro e w' ⟨v,rfl,⟨t,ae⟩,F⟩;refine hK _ _ ⟨γ.set id none,h.step (γ':=γ.set id none) (C5 hd) t.size (λb p z=>⟨t.block b z,hS b p⟩) U (λi hi=>?_) (λi e hi=>?_) (λi j b s s' hi C mi mj=>?_) (λb O=>⟨(h.ge b (k b O).1).1,bD (h.ge b (k b O).1).2 t.size⟩) (h.below.trans (t.mono h.below.size)) ?_ (λb Z z=>⟨t.block b z,λu=>Z (k b u).1⟩) ae⟩
 ·have A:i≠id:=λe=>by subst e;simp[lkE]at hi
  exact⟨aF _ _ _ A,λg s ad aa=>t.block g (h.ge g ⟨i,s,ad,aa⟩).2⟩
 ·have A:i=id:=by have:=Dd hi;simpa using this
  subst A;simp only[lkE,bS,aM]at hi;subst hi;exact⟨none,aE _ _ _,rfl⟩
 ·have m:i≠id:=λe=>by subst e;rw[aE]at hi;injection hi with hi;subst hi;simp[blks]at mi
  have ac:j≠id:=λe=>by subst e;rw[aE]at C;injection C with C;subst C;simp[blks]at mj
  rw[aF _ _ _ m]at hi;rw[aF _ _ _ ac]at C;exact h.inj _ _ _ _ _ hi C mi mj
 ·refine(F.mono (aD _) (λb p _=>⟨rfl,?_⟩)).open_;rcases p with⟨_,p⟩|p
  ·exact p
  ·exact aH ⟨⟨cI h.below.size p,λh0=>by have:=h.gh _ h0;omega⟩,λY=>by have:=(h.ge b (k b Y).1).2;omega⟩
theorem zlk {T Ti d esz eb:Nat}{x y:Operand}{ie it:TyI}{k kn:IntKind}{n:Int}{m:Nat}(ho:o.op=.call { callee:=.builtin .append,args:=#[x,y],argTypes:=#[T,Ti] })(A:o.dst=some d)(hd:dok cx o=true)(ad:A6 x=true)(ac:A6 y=true)(U:σ.eval x=.nils)(hy:σ.eval y=.int k n)
  (hT:lkT cx.E.tab T=some i) (hs:i.shape=.slc e esz eb) (aw:lkT cx.E.tab Ti=some it) (ah:it.shape=.int kn) (he:lkT cx.E.tab e=some ie) (hz:esz≠0) (ab:Kg ie=true) (z:ie.zero.cells.all (·.oneCell')=true) (hn:σ.find d=none) (hm:n=(m:Int)) (h0:0<n) (h1:m<=1099511627776) (h2:ie.bytes*m<=281474976710656) :
  Ao cx o σ (.row d) [d] [(d,.row e esz (cG m (Dg ie)))]:=by
 refine⟨λid e he=>Dd he,λτ q1 q2 a w Q K ⟨γ,F⟩ hK=>C9 (λc hc=>by rw[ho]at hc;cases hc) ?_⟩;have ex:=F.ev x ad;rw[q1 x (by simp[ho,Op.operands,Call.operands]),U]at ex;have ey:=F.ev y ac;rw[q1 y (by simp[ho,Op.operands,Call.operands]),hy]at ey;obtain⟨hu,au,_⟩:=Cr (cx.E.ok T i hT) hs;have af:cx.P.underlying Ti=some (.int kn):=by
  obtain⟨dd,ap,H⟩:=(cx.E.ok Ti it aw).und;rw[ah]at H;cases dd<;>simp only[Du,reduceCtorEq,Ec.int.injEq]at H;subst H;exact ap
 have Y:=cx.E.ok e ie he;obtain⟨info,hi,an,am,al⟩:=Y.both;have D:ie.sz=esz:=Y.cells.symm.trans au;obtain⟨O,N⟩:=zek ab;subst hm;have ai:0<m:=Ω
 have h:=Lib.run_append_nil_zeros (P:=cx.P) w T Ti o.type e info ie.zero k kn hu af hi al m ai (by rw[an,D];omega) Ω (by rw[am,cJ];exact h2);generalize C:grownCap w m 0 e=f at h;have J:m<=f:=by rw[<-C];exact grownCap_ge _ _ _ _
 have I:f<=maxLen:=by rw[<-C];exact grownCap_le_maxLen _ _ _ _ (by unfold maxLen;omega)
 generalize B:Builtin.zeroCells ie.zero.cells m++Builtin.zeroCells ie.zero.cells (f-m)=t at h;have b:ie.zero.cells.size=esz:=N.trans D;have aq:t.size=f*esz:=by
  rw[<-B,Array.size_append,size_zeroCells,size_zeroCells,b,<-Nat.add_mul];congr 1;omega
 have ao:(execOp a.eval o).run cx.P w=.ok (.value (.slice (some ⟨w.heap.size,0,none⟩) m f)) (w.drew.alloc (.cells t e)):=by
  simp only[execOp,ho,resolve,invoke,builtin,Sem.run_bind,Sem.run_pure,Result.andThen_ok,map_toArray,bT,map_nil,ex.nils_inv,ey.int_inv,h]
 unfold Oper.wp;rw[ao];refine hK _ _ ?_;rw[A];have ar:(Dg ie).cells.length=esz:=by rw[O,length_map,aS,N,D]
 have ae:t.toList.take (m*esz)=(madeCells ie.zero.cells (m*esz)).toList:=by
  rw[<-B,Array.toList_append,take_append_of_le_length (by rw[aS,size_zeroCells,b];exact aD _),take_of_length_le (by rw[aS,size_zeroCells,b];exact aD _)];unfold Builtin.zeroCells madeCells;rw[b]
 have X:(w.drew.alloc (.cells t e)).ownsRow w.heap.size e esz (.slice (some ⟨w.heap.size,0,none⟩) m f) m (madeCells ie.zero.cells (m*esz)).toList :=
  ⟨by simp[size_madeCells],aH ⟨w.heap.size,f,t,rfl,aD _,(MapKept.heap_alloc w.drew _).1,J,I,aq,ae⟩⟩
 have Z:∀q j,q<m->j<esz->(madeCells ie.zero.cells (m*esz)).toList.getD (q*esz+j) undef=ie.zero.cells.getD j undef:=λq j M hj=>by
  have aj:q*esz+j<m*esz:=by
   have:(q+1)*esz<=m*esz:=aP _ M;rw[bC]at this;omega
  have p:(q*esz+j) % ie.zero.cells.size=j:=by
   rw[b,cJ,Nat.mul_add_mod,Nat.mod_eq_of_lt hj]
  rw[aZ];have G:j<ie.zero.cells.size:=Ω
  simp[madeCells,aj,p,bE,G]
 have aa:∀v∈ie.zero.cells,v.oneCell'=true:=by
  rw[aT]at z;exact z
 refine Yp (v:=.slice (some ⟨w.heap.size,0,none⟩) m f) (us:=(madeCells ie.zero.cells (m*esz)).toList) F (λ_=>Nat.le_succ _) (by rw[q2 d Δ,hn]) (λx U=>by injection U with U;subst U;exact C5 hd _ A) (((Below.refl _ _).drew).alloc (aD _) _)
  (by rw[bU];exact X) (λq M=>by rw[bG];exact ar) (λq M j hj=>?_) (λu hu=>?_)
  (λhS=>.row (aE _ _ _) (λg s e _=>by injection e with e;injection e with _ e))
 ·have V:q<m:=by simpa using M
  rw[bG]at hj;have G:j<esz:=Ω
  rw[Z q j V G];simp only[bG,O,bH];have ak:j<ie.zero.cells.size:=Ω
  have:ie.zero.cells.getD j undef=ie.zero.cells[j]:=by simp[bE,ak]
  rw[this];simpa using Oq _ _ _ (ie.zero.cells[j])
 ·obtain⟨q,M,rfl⟩:=mem_iff_getElem.1 hu;have V:q<m*esz:=by simpa[size_madeCells]using M
  have W:0<ie.zero.cells.size:=Ω
  have p:=Nat.mod_lt q W;simp only[madeCells,Array.toList_map,bH,bK,Array.getElem_range];rw[getElem!_pos ie.zero.cells _ p];exact aa _ (Array.getElem_mem _)
end
open Go.RowKit
abbrev MeSt (cx:Cx)(γ:Gam)(me:List (Nat×Ent))(w:World):Prop:=StG cx γ ⟨[],me⟩ ⟨#[],[]⟩ w
def Cx.sub (cx:Cx)(γ γc:Gam)(w:World):Cx:=⟨{ cx.E with np:=0 },λb=>cx.S0 b\/(own γ b/\¬own γc b),cx.w0,0,λ_=>False,w,none,#[],λ_=>rfl⟩
def memL (ρ:Nat->Nat)(ids:List Nat)(j:Nat):Option Nat:=ids.find? λi=>aC (ρ i) j
variable {ρ:Nat->Nat}{ids:List Nat}{j:Nat}
theorem Od {i:Nat}(h:memL ρ ids j=some i):i∈ids/\ρ i=j:=by
 have h1:=mem_of_find?_eq_some h;have b:=find?_some h;exact⟨h1,aA b⟩
theorem y30 (h:memL ρ ids j=none):∀i∈ids,ρ i≠j:=λi hi e=>by
 have:=find?_eq_none.1 h i hi;simp[e]at this
theorem y31 {i:Nat}(b:injB ρ ids=true)(hi:i∈ids):memL ρ ids (ρ i)=some i:=by
 cases h:memL ρ ids (ρ i)with
 |none=>exact absurd rfl (y30 h i hi)
 |some k =>
  obtain⟨h1,f⟩:=Od h;simp only[injB,aQ,bA,aK]at b;rcases b k h1 i hi with c|c
  ·rw[f]at c;simp at c
  ·rw[aA c]
section
variable {cx:Cx} {γ:Gam} {τ:AS} {a:Act} {w:World}
theorem StG.own_ge (h:StG cx γ τ a w){b:Nat}(c:own γ b):cx.w0.heap.size<=b/\¬cx.S0 b/\b<w.heap.size:=⟨(h.ge b c).1.1,(h.ge b c).1.2,(h.ge b c).2⟩
variable {me:List (Nat×Ent)}
theorem StG.part (h:StG cx γ τ a w)(F:injB ρ (me.map (·.1))=true)(Q:LeE τ ρ (me.map (·.1)) me) :
  ∃γc:Gam,(∀i∈me.map (·.1),γc i=γ (ρ i))/\(∀i,i ∉ me.map (·.1)->γc i=none)/\(∀b,own γc b->own γ b) /\
   (∀b,Sg (Cx.sub cx γ γc w).S0 cx.w0.heap.size γc b ↔ Sg cx.S0 cx.w0.heap.size γ b)/\MeSt (Cx.sub cx γ γc w) γc me w:=by
 generalize M:me.map (·.1)=ids at *;have D:∀i,lkE me i≠none ↔ i∈ids:=λi=>by rw[Oj,M]
 let γc:Gam:=λi=>if i∈ids then γ (ρ i)else none
 have q:∀i,i∈ids->γc i=γ (ρ i):=λi hi=>if_pos hi
 have m:∀i,i ∉ ids->γc i=none:=λi hi=>if_neg hi
 have f:∀b,own γc b->own γ b:=λb ⟨i,s,hi,c⟩=>by
  by_cases hm:i∈ids
  ·rw[q i hm]at hi;exact⟨_,s,hi,c⟩
  ·rw[m i hm]at hi;cases hi
 have B:∀b,Sg (Cx.sub cx γ γc w).S0 cx.w0.heap.size γc b ↔ Sg cx.S0 cx.w0.heap.size γ b:=λb=>by
  constructor
  ·rintro (⟨h1|⟨h1,_⟩,u⟩|⟨⟨h1,u⟩,V⟩)
   ·exact aJ ⟨h1,u⟩
   ·have:=(h.own_ge h1).1;omega
   ·exact aH ⟨⟨h1,λC=>u (aJ C)⟩,λC=>u (aH ⟨C,V⟩)⟩
  ·rintro (⟨h1,u⟩|⟨⟨h1,u⟩,V⟩)
   ·exact aJ ⟨aJ h1,u⟩
   ·exact aH ⟨⟨h1,λC=>C.elim u (λh6=>V h6.1)⟩,λC=>V (f b C)⟩
 have I:∀{g:Gam} {av v},Rep w (Sg cx.S0 cx.w0.heap.size γ) g av v->Rep w (Sg (Cx.sub cx γ γc w).S0 cx.w0.heap.size γc) g av v:=λh=>h.mono (aD _) (λb c _=>⟨rfl,(B b).2 c⟩)
 refine⟨γc,q,m,f,B,λt=>.any _,λi=>?_,λi j b s s' hi G mi mj=>?_,λb c=>?_,h.below,rfl,⟨λ_=>rfl,⟨[],rfl,.nil,λr H=>by cases H⟩,λt ht=>absurd ht (bJ _),λl R hl=>?_,aD _⟩,λb c=>?_,λb c=>c.elim,h.dr⟩
 ·rcases Q.get i with O|⟨e,O,hf,hm⟩
  ·unfold aU;rw[O];have:i ∉ ids:=λhi=>(D i).2 hi O
   exact if_neg this
  ·unfold aU;rw[O];have hi:i∈ids:=(D i).1 (by rw[O];simp);rw[q i hi];have:=h.me (ρ i);rw[hf]at this;obtain⟨x,hx,A⟩:=this;refine⟨x,hx,?_⟩;cases e with
   |box ty cs =>
    obtain⟨g,vs,N,c,Z,H,z⟩:=A;simp only[Ent.inM]at hm;refine⟨g,vs,N,c,by rw[Z,aL],λk U=>I ((H k (by rw[aL];exact U)).ren q _ (cB _ _ _ _) (cC hm k U)),z⟩
   |row ty sz xs =>
    obtain⟨s,vs,N,h1,f,J,H,z⟩:=A;exact⟨s,vs,N,h1,f,J,λk U j G=>I (H k U j G),z⟩
   |mp ps =>
    obtain⟨g,N,hm⟩:=A;exact⟨g,N,hm.move (aD _) (λb c _=>⟨rfl,(B b).2 c⟩) rfl⟩
   |nest ty es=>exact Bm.nest_mono A (λb c=>(B b).2 c)
   |mpn ps=>exact Bm.mpn_mono A (λb c=>(B b).2 c)
   |are ty idx os=>exact A.gmono (λ_ _ h=>by cases h) (λb c=>(B b).2 c)
   |it ps=>exact A.gmono (λ_ _ h=>by cases h) (λb c=>(B b).2 c)
   |itp ps=>exact A.gmono (λ_ _ h=>by cases h) (λb c=>(B b).2 c)
   |itc p ps=>exact A.gmono (λ_ _ h=>by cases h) (λb c=>(B b).2 c)
   |dead=>exact A
 ·by_cases h1:i∈ids
  ·by_cases Q:j∈ids
   ·rw[q i h1]at hi;rw[q j Q]at G;have e:=h.inj _ _ _ _ _ hi G mi mj;simp only[injB,aQ,bA,aK]at F;rcases F i h1 j Q with u|u
    ·rw[e]at u;simp at u
    ·exact aA u
   ·rw[m j Q]at G;cases G
  ·rw[m i h1]at hi;cases hi
 ·obtain⟨Y,X,W⟩:=h.own_ge (f b c);exact⟨⟨Y,λC=>C.elim X (λh6=>h6.2 c)⟩,W⟩
 ·obtain⟨q0,Y,X,W⟩:=h.defers.yl l R hl;exact⟨q0,Y,λho=>X (f l ho),W⟩
 ·rcases c with c|⟨c,_⟩
  ·exact h.gh b c
  ·exact(h.own_ge c).2.2
def wrG (ρ':Nat->Nat)(me':List (Nat×Ent))(dead:List Nat):List (Nat×Ent):=me'.map (λx=>(ρ' x.1,x.2.renI ρ'))++dead.map λi=>(i,.dead)
def Uc:List Nat->Bool |[]=>true |x::r=>!memB x r && Uc r
variable {l:List (Nat×Ent)}
theorem y37 (h:Uc (l.map (·.1))=true):∀x∈l,lkE l x.1=some x.2:=by
 induction l with
 |nil=>intro x b;cases b
 |cons y r ih =>
  obtain⟨u,e⟩:=y;simp only[bT,Uc,aB,aK]at h;intro x b;rcases mem_cons.1 b with rfl|b
  ·simp[lkE]
  ·have c:¬u=x.1:=λe=>by
    have:memB u (r.map (·.1))=true:=(Dn _ _).2 (by rw[e];exact aR.2 ⟨x,b,rfl⟩);rw[h.1]at this;cases this
   have g:aC u x.1=false:=by
    cases f:aC u x.1 with
    |true=>exact absurd (aA f) c
    |false=>rfl
   simp only[lkE,g];exact ih h.2 x b
theorem Ue {i:Nat}{e:Ent}(h:lkE l i=some e):(i,e)∈l:=by
 induction l with
 |nil=>simp[lkE]at h
 |cons x r ih =>
  obtain⟨u,c⟩:=x;simp only[lkE]at h;cases b:aC u i with
  |true =>
   rw[b]at h;injection h with h
   rw[<-aA b,h];exact mem_cons_self ..
  |false=>rw[b]at h;exact mem_cons_of_mem _ (ih h)
variable {ρ':Nat->Nat}{me':List (Nat×Ent)}{dead:List Nat}
theorem wrG_get (k:Uc (me'.map (·.1))=true){e:Ent}(h:lkE (wrG ρ' me' dead) j=some e) :
  (∃i m,lkE me' i=some m/\i∈me'.map (·.1)/\ρ' i=j/\e=m.renI ρ')\/((∀i∈me'.map (·.1),ρ' i≠j)/\j∈dead/\e=.dead):=by
 unfold wrG at h;rw[zn8]at h;cases h1:lkE (me'.map λx=>(ρ' x.1,x.2.renI ρ')) j with
 |some q =>
  rw[h1]at h;simp only[Option.some_or,aM]at h;subst h;obtain⟨x,c,b⟩:=aR.1 (Ue h1);injection b with g f
  exact aJ ⟨x.1,x.2,y37 k x c,aR.2 ⟨x,c,rfl⟩,g,f.symm⟩
 |none =>
  rw[h1]at h;simp only[Option.none_or]at h;obtain⟨x,c,b⟩:=aR.1 (Ue h);injection b with g f
  refine aH ⟨λi hi e=>?_,g▸c,f.symm⟩;obtain⟨y,p,rfl⟩:=aR.1 hi;have:lkE (me'.map λx=>(ρ' x.1,x.2.renI ρ')) j≠none:=by
   rw[Oj];exact aR.2 ⟨(ρ' y.1,y.2.renI ρ'),aR.2 ⟨y,p,rfl⟩,e⟩
  exact this h1
theorem y4y (h:lkE (wrG ρ' me' dead) j=none):(∀i∈me'.map (·.1),ρ' i≠j)/\j ∉ dead:=by
 constructor
 ·intro i hi e;obtain⟨y,b,rfl⟩:=aR.1 hi;have:lkE (wrG ρ' me' dead) j≠none:=by
   rw[Oj];unfold wrG;rw[map_append];exact bB _ (aR.2 ⟨(ρ' y.1,y.2.renI ρ'),aR.2 ⟨y,b,rfl⟩,e⟩)
  exact this h
 ·intro c;have:lkE (wrG ρ' me' dead) j≠none:=by
   rw[Oj];unfold wrG;rw[map_append];exact bI _ (aR.2 ⟨(j,.dead),aR.2 ⟨j,c,rfl⟩,rfl⟩)
  exact this h
def Ie (me me':List (Nat×Ent))(i:Nat):Bool:=match lkE me i,lkE me' i with
 |some (.box _ _),_=>true
 |some (.row _ _ _),some _=>true
 |_,_=>false
def y6c (τf:Nat->Option Ent)(ρ ρ':Nat->Nat)(me:List (Nat×Ent))(i:Nat):Bool:=match lkE me i,τf (ρ' i)with
 |some (.box _ _),_=>aC (ρ' i) (ρ i)
 |some (.row _ _ _),_=>aC (ρ' i) (ρ i)
 |_,none=>true
 |_,_=>false
theorem StG.join (h:StG cx γ τ a w){γc γc':Gam}{w':World}{dst:Option Nat}{u:Value}{res:AV}(aj:injB ρ (me.map (·.1))=true)(af:∀i∈me.map (·.1),γc i=γ (ρ i))(ap:∀i,i ∉ me.map (·.1)->γc i=none)
  (F:MeSt (Cx.sub cx γ γc w) γc' me' w') (hz:w.heap.size<=w'.heap.size) (aq:∀i,Ie me me' i=true->γc' i=γc i) (an:∀b,¬own γc b->b<w.heap.size->w'.heap[b]? = w.heap[b]? /\ ¬own γc' b) (bb:cx.E.dr=true->w.drawn<=w'.drawn)
  (hd:∀x,dst=some x->cx.E.np<=x/\x<cx.nt) (aw:Uc (me'.map (·.1))=true) (ae:injB ρ' (me'.map (·.1))=true) (ak:me'.all (λx=>x.2.inM (me'.map (·.1)))=true) (J:(me'.map (·.1)).all (y6c τ.find ρ ρ' me)=true)
  (Z:(me.map (·.1)).all (λi=>memB (ρ i) dead || (me'.map (·.1)).any λk=>aC (ρ' k) (ρ i))=true) (M:dead.all (λj=>(me.map (·.1)).any λi=>aC (ρ i) j)=true)
  (hu:Rep w' (Sg (Cx.sub cx γ γc w).S0 cx.w0.heap.size γc') γc' res u) (ah:res.inM (me'.map (·.1))=true) :
  ∃γ',StG cx γ' (τ.upd dst (res.ren ρ') (wrG ρ' me' dead)) (a.put dst u) w':=by
 generalize al:me.map (·.1)=ids at *;generalize t:me'.map (·.1)=c at *;have ad:∀i,lkE me' i≠none ↔ i∈c:=λi=>by rw[Oj,t]
 let γ':Gam:=λj=>match memL ρ' c j with|some i=>γc' i|none=>(match memL ρ ids j with|some _=>some none|none=>γ j)
 have F1:∀i∈c,γ' (ρ' i)=γc' i:=λi hi=>by
  show(match memL ρ' c (ρ' i)with|some i=>γc' i|none=>_)=_;rw[y31 ae hi]
 have F2:∀j,(∀i∈c,ρ' i≠j)->(∃i∈ids,ρ i=j)->γ' j=some none:=λj h1 ⟨i,hi,e⟩=>by
  show(match memL ρ' c j with|some i=>γc' i|none=>_)=_;have e1:memL ρ' c j=none:=by
   cases Q:memL ρ' c j with
   |none=>rfl
   |some k=>exact absurd (Od Q).2 (h1 k (Od Q).1)
  rw[e1];subst e;show(match memL ρ ids (ρ i)with|some _=>some none|none=>γ (ρ i))=_;rw[y31 aj hi]
 have F3:∀j,(∀i∈c,ρ' i≠j)->(∀i∈ids,ρ i≠j)->γ' j=γ j:=λj h1 A=>by
  show(match memL ρ' c j with|some i=>γc' i|none=>_)=_;have e1:memL ρ' c j=none:=by
   cases Q:memL ρ' c j with
   |none=>rfl
   |some k=>exact absurd (Od Q).2 (h1 k (Od Q).1)
  have e2:memL ρ ids j=none:=by
   cases Q:memL ρ ids j with
   |none=>rfl
   |some k=>exact absurd (Od Q).2 (A k (Od Q).1)
  rw[e1];show(match memL ρ ids j with|some _=>some none|none=>γ j)=_;rw[e2]
 have aa:∀b,own γc b->own γ b:=λb ⟨i,s,hi,m⟩=>by
  by_cases hm:i∈ids
  ·rw[af i hm]at hi;exact⟨_,s,hi,m⟩
  ·rw[ap i hm]at hi;cases hi
 -- what another name owns is not given
 have q:∀j b s,(∀i∈ids,ρ i≠j)->γ j=some s->b∈blks s->¬own γc b:=λj b s f m bc ⟨i,s',hi,ay⟩=>by
  by_cases hm:i∈ids
  ·rw[af i hm]at hi;exact f i hm (h.inj _ _ _ _ _ hi m ay bc)
  ·rw[ap i hm]at hi;cases hi
 have z:∀j,(∃i∈c,ρ' i=j)\/((∀i∈c,ρ' i≠j)/\((∃i∈ids,ρ i=j)\/∀i∈ids,ρ i≠j)):=λj=>by
  by_cases h1:∃i∈c,ρ' i=j
  ·exact aJ h1
  ·refine aH ⟨λi hi e=>h1 ⟨i,hi,e⟩,?_⟩;by_cases A:∃i∈ids,ρ i=j
   ·exact aJ A
   ·exact aH (λi hi e=>A ⟨i,hi,e⟩)
 have B:∀b,own γ' b->own γc' b\/(own γ b/\¬own γc b):=λb ⟨j,s,f,hm⟩=>by
  rcases z j with⟨i,hi,rfl⟩|⟨h1,A|A⟩
  ·rw[F1 i hi]at f;exact aJ ⟨i,s,f,hm⟩
  ·rw[F2 j h1 A]at f;injection f with f;subst f;simp[blks]at hm
  ·rw[F3 j h1 A]at f;exact aH ⟨⟨j,s,f,hm⟩,q j b s A f hm⟩
 have ab:∀b,¬own γ b->b<w.heap.size->w'.heap[b]? = w.heap[b]? /\ ¬own γ' b:=λb m W=>by
  obtain⟨q1,q2⟩:=an b (λG=>m (aa b G)) W;exact⟨q1,λG=>(B b G).elim q2 (λh=>m h.1)⟩
 have V:∀b,Sg (Cx.sub cx γ γc w).S0 cx.w0.heap.size γc' b->Sg cx.S0 cx.w0.heap.size γ' b:=by
  rintro b (⟨h1|⟨h1,_⟩,h3⟩|⟨⟨h1,h3⟩,h4⟩)
  ·exact aJ ⟨h1,h3⟩
  ·have:=(h.own_ge h1).1;omega
  ·exact aH ⟨⟨h1,λh5=>h3 (aJ h5)⟩,λG=>(B b G).elim h4 (λh6=>h3 (aH h6))⟩
 have Y:∀b,Sg cx.S0 cx.w0.heap.size γ b->¬own γ b:=λb V G=>by
  rcases V with⟨_,h1⟩|⟨_,h1⟩
  ·have:=(h.own_ge G).1;omega
  ·exact h1 G
 have ac:∀{g:Gam} {av v},Rep w' (Sg (Cx.sub cx γ γc w).S0 cx.w0.heap.size γc') g av v->Rep w' (Sg cx.S0 cx.w0.heap.size γ') g av v:=λh=>h.mono (aD _) (λb m _=>⟨rfl,V b m⟩)
 simp only[aQ]at ak J Z M;have X:∀i∈c,(Ie me me' i=true/\i∈ids/\ρ' i=ρ i)\/τ.find (ρ' i)=none:=λi hi=>by
  have H:=J i hi;have au:=(ad i).2 hi;have am:lkE me i≠none->i∈ids:=λm=>by rw[<-al];exact Oj.1 m
  unfold y6c at H;split at H
  ·rename_i ty es m;exact aJ ⟨by unfold Ie;rw[m],am (by rw[m];simp),aA H⟩
  ·rename_i ty sz xs m;refine aJ ⟨?_,am (by rw[m];simp),aA H⟩;unfold Ie;cases Q:lkE me' i with
   |none=>exact absurd Q au
   |some e=>rw[m]
  ·first|(rename_i hf _ _;exact aH hf)|(rename_i hf _;exact aH hf)|(rename_i _ _ hf;exact aH hf)|(rename_i hf;exact aH hf)
  ·cases H
 refine⟨γ',h.step (γ':=γ') hd hz (λb m W=>⟨(ab b (Y b m) W).1,?_⟩) (λj x f=>?_) (λj f=>?_) (λj e f=>?_) (λi j b s s' hi f mi mj=>?_) (λb m=>?_) F.below ?_ ab bb⟩
 ·have hn:=(ab b (Y b m) W).2;rcases m with m|⟨h1,_⟩
  ·exact aJ m
  ·exact aH ⟨h1,hn⟩
 ·rcases z j with⟨i,hi,rfl⟩|⟨h1,A|A⟩
  ·rcases X i hi with⟨m,az,e⟩|hn
   ·left;rw[F1 i hi,aq i m,af i az,<-e];exact f
   ·have:=h.me (ρ' i);rw[hn]at this;rw[show γ (ρ' i)=none from this]at f;cases f
  ·exact aH (aJ (F2 j h1 A))
  ·exact aJ (by rw[F3 j h1 A];exact f)
 ·obtain⟨h1,A⟩:=y4y f;rw[t]at h1;have h3:∀i∈ids,ρ i≠j:=λi hi e=>by
   have hc:=Z i hi;rw[bA]at hc;rcases hc with hc|hc
   ·exact A (by rw[<-e];exact(Dn _ _).1 hc)
   ·obtain⟨k,H,ax⟩:=bV.1 hc;exact h1 k H ((aA ax).trans e)
  refine⟨F3 j h1 h3,λg s hg hm=>(an g (q j g s h3 hg hm) (h.ge g ⟨j,s,hg,hm⟩).2).1⟩
 ·rcases wrG_get (by rw[t];exact aw) f with⟨i,e0,ao,hi,rfl,rfl⟩|⟨h1,A,rfl⟩
  ·rw[t]at hi;have:=F.me i;unfold aU at this;rw[ao]at this;obtain⟨x,hx,U⟩:=this;refine⟨x,by rw[F1 i hi];exact hx,?_⟩;have hm:=ak (i,e0) (Ue ao);cases e0 with
   |box ty cs =>
    obtain⟨g,vs,N,m,ar,hr,I⟩:=U;simp only[Ent.inM]at hm;refine⟨g,vs,N,m,by rw[ar,aL],λk H=>?_,I⟩;have C:=H;rw[aL]at C;rw[cB ρ' _ k C];exact ac ((hr k C).renF F1 (cC hm k C))
   |row ty sz xs =>
    obtain⟨s,vs,N,h1,B,ai,hr,I⟩:=U;exact⟨s,vs,N,h1,B,ai,λk H j f=>ac (hr k H j f),I⟩
   |mp ps =>
    obtain⟨g,N,hm⟩:=U;exact⟨g,N,hm.move (aD _) (λb m _=>⟨rfl,V b m⟩) rfl⟩
   |nest ty es=>exact Bm.nest_mono U V
   |mpn ps=>exact Bm.mpn_mono U V
   |are ty idx os=>exact U.gmono (λ_ _ h=>by cases h) V
   |it ps=>exact U.gmono (λ_ _ h=>by cases h) V
   |itp ps=>exact U.gmono (λ_ _ h=>by cases h) V
   |itc p ps=>exact U.gmono (λ_ _ h=>by cases h) V
   |dead=>exact U
  ·rw[t]at h1;obtain⟨i,hi,ba⟩:=bV.1 (M j A);exact⟨none,F2 j h1 ⟨i,hi,aA ba⟩,rfl⟩
 ·rcases z i with⟨k,H,rfl⟩|⟨h1,A|A⟩
  ·rw[F1 k H]at hi;rcases z j with⟨k',C,rfl⟩|⟨O,D|D⟩
   ·rw[F1 k' C]at f;rw[F.inj _ _ _ _ _ hi f mi mj]
   ·rw[F2 j O D]at f;injection f with f;subst f;simp[blks]at mj
   ·rw[F3 j O D]at f;exact absurd (aH ⟨⟨j,s',f,mj⟩,q j b s' D f mj⟩) (F.ge b ⟨k,s,hi,mi⟩).1.2
  ·rw[F2 i h1 A]at hi;injection hi with hi;subst hi;simp[blks]at mi
  ·rw[F3 i h1 A]at hi;rcases z j with⟨k',C,rfl⟩|⟨O,D|D⟩
   ·rw[F1 k' C]at f;exact absurd (aH ⟨⟨i,s,hi,mi⟩,q i b s A hi mi⟩) (F.ge b ⟨k',s',f,mj⟩).1.2
   ·rw[F2 j O D]at f;injection f with f;subst f;simp[blks]at mj
   ·rw[F3 j O D]at f;exact h.inj _ _ _ _ _ hi f mi mj
 ·rcases B b m with G|⟨G,_⟩
  ·have:=F.ge b G;exact⟨⟨this.1.1,λh5=>this.1.2 (aJ h5)⟩,this.2⟩
  ·exact⟨(h.ge b G).1,bD (h.ge b G).2 hz⟩
 ·exact ac (hu.renF F1 ah)
end
open Go.RowKit
abbrev CalT:=Array Value->Array Value->World->(Ending->World->Prop)->Prop
def CalF (P:Program)(f k:Nat):CalT:=λvs cs w R=>cs.size=k->Calls P f (vs++cs) w R
def CalY (P:Program)(l:Nat):CalT:=λvs cs w R=>YieldAt Fence.wide 0 P l vs w R
def ConG (P:Program)(yl:Option (Nat×Obj))(C:CalT)(args caps:List AV)(me:List (Nat×Ent))(res:AV)(me':List (Nat×Ent)):Prop:=∀(cx:Cx) (γ:Gam) (w:World) (vs cs:Array Value),cx.E.P=P->cx.E.dr=false->(∀x,yl=some x->cx.E.yl=some x)->cx.nt=0->cx.E.np=0->MeSt cx γ me w->vs.size=args.length -> (∀i (hi:i<args.length),Rep w (Sg cx.S0 cx.w0.heap.size γ) γ args[i] (vs.getD i undef))->(∀i (hi:i<caps.length),Rep w (Sg cx.S0 cx.w0.heap.size γ) γ caps[i] (cs.getD i undef)) -> C vs cs w λe w'=>∃u γ',e=.returned u/\MeSt cx γ' me' w'/\Rep w' (Sg cx.S0 cx.w0.heap.size γ') γ' res u/\w.heap.size<=w'.heap.size/\(∀i,Ie me me' i=true->γ' i=γ i) /\ (∀b,¬own γ b->b<w.heap.size->w'.heap[b]? = w.heap[b]? /\ ¬own γ' b)
variable {σ τ:AS}{l:List (Nat×Ent)}
theorem LeE.congr (h:LeE σ ρ ids l)(c:∀i∈l.map (·.1),τ.find (ρ i)=σ.find (ρ i)):LeE τ ρ ids l:=by
 induction l with
 |nil=>trivial
 |cons x r ih =>
  obtain⟨i,e⟩:=x;simp only[LeE]at h ⊢;exact⟨⟨(c i Δ).trans h.1.1,h.1.2⟩,ih h.2 (λj b=>c j (by simp at b ⊢;exact aH b))⟩
def LeF (find:Nat->Option Ent)(ρ:Nat->Nat)(ids:List Nat):List (Nat×Ent)->Prop |[]=>True |(i,e)::r=>(find (ρ i)=some (e.renI ρ)/\e.inM ids=true)/\LeF find ρ ids r
theorem LeF.le (h:LeF σ.find ρ ids l):LeE σ ρ ids l:=by
 induction l with
 |nil=>trivial
 |cons x r ih=>exact⟨h.1,ih h.2⟩
structure D9 (find:Nat->Option Ent) (ρ ρ':Nat->Nat) (me me':List (Nat×Ent)) (res:AV) (dead:List Nat):Prop where
 inj:injB ρ (me.map (·.1))=true
 nd:Uc (me'.map (·.1))=true
 inj':injB ρ' (me'.map (·.1))=true
 hin:me'.all (λx=>x.2.inM (me'.map (·.1)))=true
 keep:(me'.map (·.1)).all (y6c find ρ ρ' me)=true
 cov:(me.map (·.1)).all (λi=>memB (ρ i) dead || (me'.map (·.1)).any λk=>aC (ρ' k) (ρ i))=true
 dd:dead.all (λj=>(me.map (·.1)).any λi=>aC (ρ i) j)=true
 res:res.inM (me'.map (·.1))=true
def idsG (ρ ρ':Nat->Nat)(me me':List (Nat×Ent)):List Nat:=(me.map (·.1)).map ρ++(me'.map (·.1)).map ρ'
variable {ρ':Nat->Nat}{me me':List (Nat×Ent)}{res:AV}{dead:List Nat}
theorem y1c {find:Nat->Option Ent}(h:D9 find ρ ρ' me me' res dead)(id:Nat)(e:Ent)(c:lkE (wrG ρ' me' dead) id=some e):id∈idsG ρ ρ' me me':=by
 rcases wrG_get h.nd c with⟨i,_,_,hi,rfl,_⟩|⟨_,f,_⟩
 ·exact bI _ (aY hi)
 ·have:=aQ.1 h.dd id f;obtain⟨i,hi,b⟩:=bV.1 this;rw[<-aA b];exact bB _ (aY hi)
theorem D9.congr {f g:Nat->Option Ent}(h:D9 f ρ ρ' me me' res dead)(c:∀id∈idsG ρ ρ' me me',g id=f id):D9 g ρ ρ' me me' res dead:=by
 refine⟨h.inj,h.nd,h.inj',h.hin,?_,h.cov,h.dd,h.res⟩;have b:=h.keep;rw[aQ]at b ⊢;intro i hi;have:=b i hi;unfold y6c at this ⊢;rw[c (ρ' i) (bI _ (aY hi))];exact this
section
variable {cx:Cx} {σ:AS} {o:Oper}
theorem zwh {γc:Gam}{a:Act}{w':World}{dst:Option Nat}{u:Value}{γ':Gam}(g:StG cx γ τ a w)(c:D9 τ.find ρ ρ' me me' res dead)(f:cx.E.dr=false)
  (p:∀x,dst=some x->cx.E.np<=x/\x<cx.nt) (m:∀i∈me.map (·.1),γc i=γ (ρ i)) (k:∀i,i ∉ me.map (·.1)->γc i=none)
  (h1:MeSt (Cx.sub cx γ γc w) γ' me' w') (z:Rep w' (Sg (Cx.sub cx γ γc w).S0 cx.w0.heap.size γ') γ' res u) (t:w.heap.size<=w'.heap.size) (s:∀i,Ie me me' i=true->γ' i=γc i)
  (q:∀b,¬own γc b->b<w.heap.size->w'.heap[b]? = w.heap[b]? /\ ¬own γ' b):St cx (τ.upd dst (res.ren ρ') (wrG ρ' me' dead)) (a.put dst u) w' :=
 g.join c.inj m k h1 t s q (λh=>absurd (f.symm.trans h) Δ) p c.nd c.inj' c.hin c.keep c.cov c.dd z c.res
theorem zi8 {γc:Gam}{S':Nat->Prop}{l m:List AV}{vs:Nat->Value}(f:∀i∈ids,γc i=γ (ρ i))(p:∀b,S b->S' b)(g:aV ρ l=m)(c:aW ids l=true)
  (h:∀i (hi:i<m.length),Rep w S γ m[i] (vs i)):∀i (hi:i<l.length),Rep w S' γc l[i] (vs i):=λi hi=>by
 subst g;have:=h i (by rw[aL];exact hi);exact((this.ren f _ (cB _ _ _ _) (cC c i hi))).mono (aD _) (λb k _=>⟨rfl,p b k⟩)
variable {x:Operand}{args:Array Operand}{tys:Array TypeId}{cargs:List AV}{yl:Option (Nat×Obj)}
theorem zxu {f:Nat}{s:List AV}(C:o.op=.call { callee:=.value x,args:=args,argTypes:=tys })(hd:dok cx o=true)(A:A6 x=true)(B:args.toList.all A6=true)(hx:σ.eval x=.fn f s)
  (he:Cd cx.E f) (g:cx.E.dr=false) (k:aV ρ cargs=Ca σ args s) (M:aW (me.map (·.1)) cargs=true) (I:LeE σ ρ (me.map (·.1)) me) (F:D9 σ.find ρ ρ' me me' res dead)
   (z:∀x,yl=some x->cx.E.yl=some x) (t:ConG cx.P yl (CalF cx.P f 0) cargs [] me res me'):Ao cx o σ (res.ren ρ') (idsG ρ ρ' me me') (wrG ρ' me' dead):=by
 refine⟨y1c F,λτ h1 X a w Q K ⟨γ,h⟩ hK=>C9 (λc t=>by rw[C]at t;cases t) ?_⟩;have m:o.op.operands=#[x]++args:=by simp[C,Op.operands,Call.operands]
 obtain⟨caps,N,hl,hr⟩:=Oo h B A (λy V=>h1 y (by rw[m];simp at V ⊢;exact aH V)) (h1 x (by rw[m];simp)) hx;have p:LeE τ ρ (me.map (·.1)) me:=I.congr (λi hi=>X _ (bB _ (aY hi)));have D:D9 τ.find ρ ρ' me me' res dead:=F.congr (λid J=>X id J);obtain⟨γc,q,O,W,hS,G⟩:=h.part F.inj p;unfold Oper.wp;rw[Oi C N he];show Calls _ _ _ _ _;have U:(args.map a.eval++caps).size=cargs.length:=by rw[hl,<-k,aL]
 have H:=t (Cx.sub cx γ γc w) γc w (args.map a.eval++caps) #[] rfl g z rfl rfl G U
  (zi8 (γ:=γ) (S:=Sg cx.S0 cx.w0.heap.size γ) (vs:=λi=>(args.map a.eval++caps).getD i undef) q (λb hb=>(hS b).2 hb) k M hr) (λi hi=>absurd hi Δ) rfl
 rw[bR]at H;refine H.mono ?_;rintro e w' ⟨u,γ',rfl,q1,q2,q3,Z,Y⟩;exact hK _ _ (zwh h D g (C5 hd) q O q1 q2 q3 Z Y)
theorem zla {l:Nat}{a:Act}(c:o.op=.call { callee:=.value x,args:=args,argTypes:=tys })(b:a.eval x=.func (.yield l) #[] #[]) :
  (execOp a.eval o).run P w=(Instr.yield l (args.map a.eval)).run P w:=by
 simp only[execOp,c,resolve,b,Deferred.ofValue,invoke,Sem.run_bind,Sem.run_pure,Result.andThen_ok,Array.empty_append]
theorem y1m {l:Nat}{T:Array Value}{z ccaps:List AV}(J:o.op=.call { callee:=.value x,args:=args,argTypes:=tys })(hd:dok cx o=true)(D:A6 x=true)(I:args.toList.all A6=true)(hx:σ.eval x=.yld l T z)
  (k:cx.E.dr=false) (p:aV ρ cargs=args.toList.map σ.eval) (G:aV ρ ccaps=z) (X:aW (me.map (·.1)) cargs=true) (W:aW (me.map (·.1)) ccaps=true) (U:LeE σ ρ (me.map (·.1)) me) (N:D9 σ.find ρ ρ' me me' res dead)
   (C:∀x,yl=some x->cx.E.yl=some x) (B:ConG cx.P yl (λvs cs w R=>cs=T->CalY cx.P l vs cs w R) cargs ccaps me res me'):Ao cx o σ (res.ren ρ') (idsG ρ ρ' me me') (wrG ρ' me' dead):=by
 refine⟨y1c N,λτ h1 h2 a w Q K ⟨γ,f⟩ hK=>?_⟩;have q:o.op.operands=#[x]++args:=by simp[J,Op.operands,Call.operands]
 have ac:∀y∈args.toList,τ.eval y=σ.eval y:=λy A=>h1 y (by rw[q];simp at A ⊢;exact aH A)
 have t:=f.ev x D;rw[h1 x (by rw[q];simp),hx]at t;obtain⟨Z,hr⟩:=t.yld_inv;have s:LeE τ ρ (me.map (·.1)) me:=U.congr (λi hi=>h2 _ (bB _ (aY hi)));have M:D9 τ.find ρ ρ' me me' res dead:=N.congr (λid V=>h2 id V);obtain⟨γc,m,aa,ad,hS,O⟩:=f.part N.inj s;have ab:(args.map a.eval).size=cargs.length:=by rw[Array.size_map];have:=congrArg length p;rw[aL,length_map,aS]at this;exact this.symm
 have H:=B (Cx.sub cx γ γc w) γc w (args.map a.eval) T rfl k C rfl rfl O ab
  (zi8 (γ:=γ) (S:=Sg cx.S0 cx.w0.heap.size γ) (vs:=λi=>(args.map a.eval).getD i undef) m (λb hb=>(hS b).2 hb) p X (λi hi=>by
    have Y:i<args.size:=by simpa using hi
    simp only[bH,bK];have e:(args.map a.eval).getD i undef=a.eval args[i]:=by simp[bE,Y]
    rw[e,<-ac args[i] Δ];exact f.ev _ (aQ.mp I _ Δ)))
  (zi8 (γ:=γ) (S:=Sg cx.S0 cx.w0.heap.size γ) (vs:=λi=>T.getD i undef) m (λb hb=>(hS b).2 hb) G W hr) rfl
 obtain⟨fn,tmps,assign,body,A,g⟩:=H;refine⟨λ_ _=>trivial,?_⟩;rw[Oper.semAt_eq _ _ _ (λc B=>by rw[J]at B;cases B),zla J Z,A];refine⟨λh=>by simp[Fence.wide]at h,RoundIn.mono (F:=cx.F) (n:=0) (g:_) ?_⟩;rintro e w' ⟨u,γ',rfl,q1,q2,q3,q4,q5⟩;exact hK _ _ (zwh f M k (C5 hd) m aa q1 q2 q3 q4 q5)
end
open Go.RowKit
abbrev recR (fn:FuncId)(T:Array Value)(ps:Array Tmp)(assign body:Code)(D:Nat):Loop:={ state:=.ready,pending:=none,fn:=fn,tmps:=T,params:=ps,assign:=assign,body:=body,defers:=D }
section
variable {w:World} {r:Nat} {o:Obj}
theorem Cj {b:Nat}(h:b≠r):(w.putObj r o).heap[b]? = w.heap[b]? := World.putObj_heap_other h
theorem Cz:(w.putObj r o).heap.size=w.heap.size:=by simp[World.putObj]
theorem Rep.putObj (V:∀off,w.cell? ⟨r,off,none⟩=none)(H:∀es c,w.heap[r]? ≠ some (.map es c))(h:Rep w S γ av v):Rep (w.putObj r o) S γ av v:=by
 have key:∀b off u,w.cell? ⟨b,off,none⟩=some u->(w.putObj r o).cell? ⟨b,off,none⟩=some u:=λb off u G=>by
  have I:b≠r:=λe=>by subst e;rw[V off]at G;cases G
  exact(World.cell?_of_block (w:=w) (a:=⟨b,off,none⟩) (Cj I)).trans G
 induction h with
 |any=>exact .any _
 |int=>exact .int _ _
 |bool=>exact .bool _
 |str=>exact .str _
 |nilp=>exact .nilp
 |ptr h m=>exact .ptr h m
 |elt h m=>exact .elt h m
 |nils=>exact .nils
 |sl A c cell N t z s h1 f =>
  refine .sl A c cell N t (λZ=>?_) (λk O j M=>f k O j M) h1;obtain⟨b,off,X,B,J,q⟩:=z Z;exact⟨b,off,X,B,by rw[Cz];exact J,λk j h1 Y=>key _ _ _ (q k j h1 Y)⟩
 |row h m=>exact .row h m
 |fn vs p s f=>exact .fn vs p f
 |yld s f=>exact .yld f
 |nilf=>exact .nilf
 |agg vs p s h1 f=>exact .agg vs p f h1
 |tup vs p s f=>exact .tup vs p f
 |ref b off cell B z N s h1 f=>exact .ref b off cell B (by rw[Cz];exact z) (λj M=>key _ _ _ (N j M)) f h1
 |der h m=>exact .der h m
 |cont h m p=>exact .cont h m p
 |mapv C U g es clock z B W Q p O m F D=>exact .mapv C U g es clock z B (by rw[Cz];exact W) ((Cj (λe=>by subst e;exact H _ _ Q)).trans Q) p F D
 |mapn=>exact .mapn
 |slen A n c=>exact .slen A n c
variable {L:List MapEntry}{ps:List (AV×AV)}
theorem RepL.putObj (g:∀off,w.cell? ⟨r,off,none⟩=none)(b:∀es c,w.heap[r]? ≠ some (.map es c))(h:RepL w S L ps):RepL (w.putObj r o) S L ps:=⟨h.1,λj q f=>⟨(h.2 j q f).1.putObj g b,(h.2 j q f).2.putObj g b⟩⟩
theorem RepM.putObj (g:∀off,w.cell? ⟨r,off,none⟩=none)(f:∀es c,w.heap[r]? ≠ some (.map es c))(h:RepM w S L ps):RepM (w.putObj r o) S L ps:=by
 obtain⟨b,h1,k⟩:=h;exact⟨b,h1,RepL.putObj g f k⟩
theorem ItIs.putObj {g:Nat}{P P':Array MapEntry->Array Nat->Nat->Nat->Prop}(G:∀off,w.cell? ⟨r,off,none⟩=none)(m:∀es c,w.heap[r]? ≠ some (.map es c))(k:g≠r)(h:ItIs w S g P)(q:∀es s c d,P es s c d->P' es s c d):ItIs (w.putObj r o) S g P':=by
 rcases h with⟨bm,since,f,F,es,clock,h1,p,D,t,C,B,A,z,u⟩|⟨a,b,s,h1,p⟩
 ·exact aJ ⟨bm,since,f,F,es,clock,(Cj k).trans h1,p,by rw[Cz];exact D,(Cj (λe=>by subst e;exact m _ _ t)).trans t,C,B,A,z,q _ _ _ _ u⟩
 ·exact aH ⟨a,b,s,(Cj k).trans h1,q _ _ _ _ p⟩
theorem Bm.putObj {B:Nat}{e:Ent}(u:∀off,w.cell? ⟨r,off,none⟩=none)(m:∀es c,w.heap[r]? ≠ some (.map es c))(M:∀b,b∈blks d->b≠r)(h:Bm w S γ B d e):Bm (w.putObj r o) S γ B d e:=by
 cases e with
 |box ty cells =>
  obtain⟨g,vs,f,hb,hs,hr,h1⟩:=h;exact⟨g,vs,f,(Cj (M g (by rw[f];exact C3))).trans hb,hs,λi hi=>(hr i hi).putObj u m,h1⟩
 |row ty sz xs =>
  obtain⟨s,vs,f,h1,A,hc,hr,ho⟩:=h;refine⟨s,vs,f,h1,⟨A.1,A.2.elim aJ (λ⟨g,ai,ah,O,z,hh,q⟩=>aH ⟨g,ai,ah,O,z,?_,q⟩)⟩,hc,λk t j V=>(hr k t j V).putObj u m,ho⟩;subst O;exact(Cj (M g (by rw[f];exact C3))).trans hh
 |mp ps =>
  obtain⟨g,f,es,clock,H,G,qb,C⟩:=h;exact⟨g,f,es,clock,(Cj (M g (by rw[f];exact C3))).trans H,G,qb,λj h J=>⟨(C j h J).1.putObj u m,(C j h J).2.putObj u m⟩⟩
 |nest ty es =>
  obtain⟨s,vs,f,h1,Q,⟨us,A,hu,ac⟩,I,U⟩:=h;have W:∀g,B8 s=some g->(w.putObj r o).heap[g]? = w.heap[g]? := λg z=>Cj (M g (by rw[f];simp[blks,Cq,z]))
  refine⟨s,vs,f,h1,Q,⟨us,A.moved λg z=>W g z,hu,ac⟩,λk F=>?_,U⟩;have D:∀g,B8 (vs.getD k undef)=some g->g≠r:=λg z=>M g (by
   rw[f];simp only[blks,bF,cF,Cq,bN];refine⟨vs.getD k undef,?_,z⟩;have:k<vs.size:=Ω
   simp[bE,this])
  have t:=I k F;generalize es[k]=e at t;cases e with
  |row ty sz xs =>
   obtain⟨H,us',G,C,Y,X⟩:=t;exact⟨H,us',G.moved (λg z=>Cj (D g z)),C,λk F j V=>(Y k F j V).putObj u m,X⟩
  |mp ps =>
   obtain⟨g,N,O,⟨es,clock,H,G,qb,C⟩,Z⟩:=t;exact⟨g,N,O,⟨es,clock,(Cj (D g (by rw[O];rfl))).trans H,G,qb,λj h J=>⟨(C j h J).1.putObj u m,(C j h J).2.putObj u m⟩⟩,Z⟩
  |hole=>exact t
 |mpn ps =>
  obtain⟨g,es,vs,f,hh,hl,Q,af,ad,ab,I,U⟩:=h;have ae:(w.putObj r o).heap[g]? = w.heap[g]? := Cj (M g (by rw[f];simp[blks,Cq,B8]));refine⟨g,es,vs,f,ae.trans hh,hl,Q,af,λj h J=>(ad j h J).putObj u m,ab,λk F=>?_,U⟩;have D:∀g,B8 (vs.getD k undef)=some g->g≠r:=λg z=>M g (by
   rw[f];simp only[blks,bF,cF,Cq,bN];refine⟨vs.getD k undef,?_,z⟩;have:k<vs.size:=Ω
   simp[bE,this])
  have t:=I k F;generalize (ps[k]).2=e at t;cases e with
  |row ty sz xs =>
   obtain⟨H,us',G,C,Y,X⟩:=t;exact⟨H,us',G.moved (λg z=>Cj (D g z)),C,λk F j V=>(Y k F j V).putObj u m,X⟩
  |mp ps =>
   obtain⟨g,N,O,⟨es,clock,H,G,qb,C⟩,Z⟩:=t;exact⟨g,N,O,⟨es,clock,(Cj (D g (by rw[O];rfl))).trans H,G,qb,λj h J=>⟨(C j h J).1.putObj u m,(C j h J).2.putObj u m⟩⟩,Z⟩
  |hole=>exact t
 |are ty idx os =>
  obtain⟨s,vs,us,f,h1,Q,A,hu,aa,I,U⟩:=h;have W:∀g,B8 s=some g->(w.putObj r o).heap[g]? = w.heap[g]? := λg z=>Cj (M g (by rw[f];simp[blks,Cq,z]))
  refine⟨s,vs,us,f,h1,Q,A.moved λg z=>W g z,hu,λk F=>⟨λh=>((aa k F).1 h).putObj u m,(aa k F).2⟩,λk F=>⟨(I k F).1,?_⟩,U⟩;have D:∀g,B8 (vs.getD k undef)=some g->g≠r:=λg z=>M g (by
   rw[f];simp only[blks,bF,cF,Cq,bN];refine⟨vs.getD k undef,?_,z⟩;have:k<vs.size:=Ω
   simp[bE,this])
  have t:=(I k F).2;generalize os[k]=e at t;cases e with
  |row ty sz xs =>
   obtain⟨H,us',G,C,Y,X⟩:=t;exact⟨H,us',G.moved (λg z=>Cj (D g z)),C,λk F j V=>(Y k F j V).putObj u m,X⟩
  |mp ps =>
   obtain⟨g,N,O,⟨es,clock,H,G,qb,C⟩,Z⟩:=t;exact⟨g,N,O,⟨es,clock,(Cj (D g (by rw[O];rfl))).trans H,G,qb,λj h J=>⟨(C j h J).1.putObj u m,(C j h J).2.putObj u m⟩⟩,Z⟩
  |hole=>exact t
 |it ps =>
  obtain⟨g,f,hi⟩:=h;exact⟨g,f,hi.putObj u m (M g (by rw[f];exact C3)) (λes s c d h=>RepM.putObj u m h)⟩
 |itp ps =>
  obtain⟨g,f,hi⟩:=h;exact⟨g,f,hi.putObj u m (M g (by rw[f];exact C3)) (λes s c d ⟨h0,s0,e,h1,h2,h3⟩=>⟨h0,s0,e,h1,h2,RepM.putObj u m h3⟩)⟩
 |itc p ps =>
  obtain⟨g,f,hi⟩:=h;exact⟨g,f,hi.putObj u m (M g (by rw[f];exact C3)) (λes s c d ⟨h0,s0,e,h1,h2,h3,h4⟩=>⟨h0,s0,e,h1,h2,⟨h3.1.putObj u m,h3.2.putObj u m⟩,RepM.putObj u m h4⟩)⟩
 |dead=>exact h
theorem y2x {k:Nat}(h:w.heap[r]? = some o)(b:o.isCells=false)(off:Nat):w.cell? ⟨r,off,none⟩=none:=by
 cases c:w.cell? ⟨r,off,none⟩with
 |none=>rfl
 |some u =>
  obtain⟨o',h1,f⟩:=cells_of_cell c;rw[h]at h1;injection h1 with h1
  rw[h1,f]at b;cases b
end
section
variable {cx:Cx} {γ:Gam} {σ:AS} {a:Act} {w:World}
theorem StG.putObj (h:StG cx γ σ a w){r:Nat}{o o':Obj}{ds:List Deferred}(A:w.heap[r]? = some o)(H:o.isCells=false)(J:cx.w0.heap.size<=r)(p:¬own γ r)(u:Book cx γ { a with defers:=ds } (w.putObj r o'))(s:∀b,cx.Fr b->b≠r)(g:∀es c,o≠.map es c:=by intro es c h;cases h)(g:∀es c,o≠.map es c:=by intro es c h;cases h):StG cx γ σ { a with defers:=ds } (w.putObj r o'):=by
 have B:=y2x (k:=0) A H;have m:∀es c,w.heap[r]? ≠ some (.map es c):=λes c h=>by rw[A]at h;injection h with h;exact g es c h
 have q:∀b,own γ b->b≠r:=λb f e=>p (e▸f)
 refine⟨λt=>(h.tm t).putObj B m,λid=>?_,h.inj,λb f=>by rw[Cz];exact h.ge b f,h.below.trans ⟨rfl,rfl,rfl,by rw[Cz];exact aD _,λb f=>Cj Ω⟩,h.size,u,λb f=>by rw[Cz];exact h.gh b f,λb f=>?_,h.dr⟩
 ·have:=h.me id;cases C:σ.find id with
  |none=>rw[C]at this;exact this
  |some e =>
   rw[C]at this;obtain⟨x,z,I⟩:=this;exact⟨x,z,I.putObj B m (λb f=>q b ⟨id,x,z,f⟩)⟩
 ·obtain⟨G,F,D⟩:=h.fr b f;exact⟨G,by rw[Cz];exact F,(Cj (s b f)).trans D⟩
end
def LeY (σ:AS)(ρ:Nat->Nat)(ids:List Nat):Nat->List AV->Prop |_,[]=>True |t,.any::r=>LeY σ ρ ids (t+1) r |t,x::r=>(σ.get t=x.ren ρ/\x.inM ids=true)/\LeY σ ρ ids (t+1) r
theorem LeY.at:∀{l:List AV} {n:Nat},LeY σ ρ ids n l->∀t (b:t<l.length),l[t]=.any\/(σ.get (n+t)=l[t].ren ρ/\l[t].inM ids=true)
 |[],n,h,t,b=>by simp at b
 |x::r,n,h,t,b=>by
  cases t with
  |zero =>
   cases x<;>first|exact aJ rfl|exact aH h.1
  |succ t =>
   have c:LeY σ ρ ids (n+1) r:=by cases x<;>first|exact h|exact h.2
   have:=c.at t (by simpa using b);rw[show n+1+t=n+(t+1) by omega]at this;exact this
variable {cx:Cx}
theorem WP.rangeFunc {g:Operand}{ps:Array Tmp}{assign body:Code}{Q:Exit->AS->Prop}{gf:Nat}{ap ycaps ccaps:List AV}
  (ae:cx.E.rg=true) (C:cx.E.dr=false) (U:cx.E.yl=none) (ak:A6 g=true) (V:σ.eval g=.fn gf ap) (he:Cd cx.E gf)
  (af:aV ρ ccaps=ap) (ax:aW (me.map (·.1)) ccaps=true) (hy:LeY σ ρ (me.map (·.1)) 0 ycaps) (au:LeE σ ρ (me.map (·.1)) me) (hn:D9 σ.find ρ ρ' me me' (.tup []) dead)
  (Z:∀(l D:Nat) (fn:FuncId) (T:Array Value),T.size=cx.nt->ConG cx.P (some (l,.loop (recR fn T ps assign body D))) (CalF cx.P gf 0) (.yld l T ycaps::ccaps) [] me (.tup []) me')
  (k:Q .normal (σ.upd none (.tup []) (wrG ρ' me' dead))):WP cx (.rangeFunc g ps assign body) Q σ:=by
 have hrd:cx.rd=none:=cx.hrd ae;intro a w ⟨γ,p⟩;have al:=p.ev g ak;rw[V]at al;obtain⟨caps,am,hl,_⟩:=al.fn_inv;refine wpIn_rangeFunc (λfn bf=>?_);obtain⟨W1,G⟩:∃W1,(w.alloc (.deferred (some []))).alloc (.loop (recR fn a.tmps ps assign body w.heap.size))=W1:=⟨_,rfl⟩;have an:W1.heap[w.heap.size+1]? = some (.loop (recR fn a.tmps ps assign body w.heap.size)):=by
  rw[<-G];have:=World.alloc_heap_new (w.alloc (.deferred (some []))) (.loop (recR fn a.tmps ps assign body w.heap.size));rwa [World.size_alloc]at this
 have ba:W1.heap[w.heap.size]? = some (.deferred (some [])):=by
  rw[<-G];exact(Below.heap_alloc _ _ _ Δ).trans (World.alloc_heap_new w _)
 have bd:W1.heap.size=w.heap.size+2:=by rw[<-G];simp
 have az:Below w.heap.size w W1:=by rw[<-G];exact((Below.refl _ w).alloc (aD _) _).alloc Δ _
 have c:StG cx γ (σ.upd none .any []) (a.put none undef) W1:=p.grow (dst:=none) (av:=.any) (v:=undef) (λx V=>by cases V) az (λh=>absurd (C.symm.trans h) Δ) (.any _);have bc:Ext σ (σ.upd none .any []):=⟨λ_=>rfl,λ_=>rfl⟩;have c:StG cx γ σ a W1:=⟨λt=>c.tm t,λi=>c.me i,c.inj,c.ge,c.below,c.size,c.defers,c.gh,c.fr,c.dr⟩;have A:∀b,own γ b->b<w.heap.size:=λb f=>(p.ge b f).2
 have bb:cx.w0.heap.size<=w.heap.size:=p.below.size
 -- the iterator's part
 obtain⟨γc,ab,ay,z,hS,q⟩:=c.part hn.inj au;let cxs:Cx:={ Cx.sub cx γ γc W1 with E:={ cx.E with np:=0,yl:=some (w.heap.size+1,.loop (recR fn a.tmps ps assign body w.heap.size)) },hrd:=λ_=>rfl };have ah:MeSt cxs γc me W1:=⟨q.tm,q.me,q.inj,q.ge,q.below,rfl,⟨λ_=>rfl,⟨[],rfl,.nil,λr I=>by cases I⟩,λt ht=>absurd ht (bJ _),λl R B=>by
  have e:some (w.heap.size+1,Obj.loop (recR fn a.tmps ps assign body w.heap.size))=some (l,R):=B;injection e with e
  injection e with e1 e2
  subst e1 e2;exact⟨by show cx.w0.heap.size<=_;omega,Ω,λJ=>by have:=A _ (z _ J);omega,an⟩,aD _⟩,q.gh,λb f=>f.elim,q.dr⟩
 have X:=c.ev g ak;rw[V]at X;obtain⟨caps',s,_,Y⟩:=X.fn_inv;rw[am]at s;injection s with _ _ s
 subst s;have aa:=zi8 (γ:=γ) (γc:=γc) (w:=W1) (S:=Sg cx.S0 cx.w0.heap.size γ) (S':=Sg (Cx.sub cx γ γc W1).S0 cx.w0.heap.size γc) (vs:=λi=>caps.getD i undef) ab (λb f=>(hS b).2 f) af ax Y;have ac:Rep W1 (Sg (Cx.sub cx γ γc W1).S0 cx.w0.heap.size γc) γc (.yld (w.heap.size+1) a.tmps ycaps) (.func (.yield (w.heap.size+1)) #[] #[]):=.yld (λt ht=>by
  rcases hy.at t ht with ha|⟨ha,hm⟩
  ·rw[ha];exact .any _
  ·rw[Nat.zero_add]at ha;have r1:=c.tm t;rw[ha]at r1;exact(r1.ren ab _ rfl hm).mono (aD _) (λb f _=>⟨rfl,(hS b).2 f⟩))
 have H:=Z (w.heap.size+1) w.heap.size fn a.tmps p.size cxs γc W1 (#[.func (.yield (w.heap.size+1)) #[] #[]]++caps) #[] rfl C (λx V=>V) rfl rfl ah (by
   have:=congrArg length af;rw[aL]at this;simp[hl,this];omega)
  (λi hi=>by
    match i with
    |0 =>
     have e:(#[Value.func (.yield (w.heap.size+1)) #[] #[]]++caps).getD 0 undef=.func (.yield (w.heap.size+1)) #[] #[]:=by
      rw[aO,Array.getElem?_append_left Δ];rfl
     rw[e];exact ac
    |i+1 =>
     have:=aa i (by simpa using hi);have e:(#[Value.func (.yield (w.heap.size+1)) #[] #[]]++caps).getD (i+1) undef=caps.getD i undef:=by
      rw[aO,Array.getElem?_append_right Δ,aO];simp
     rw[e];exact this)
  (λi hi=>absurd hi Δ) rfl
 rw[bR]at H;refine⟨w.heap.size+1,[{ target:=.collected w.heap.size,args:=#[] }],W1,{ target:=.fn (.func gf) caps,args:=#[.func (.yield (w.heap.size+1)) #[] #[]] },W1,gf,
  #[.func (.yield (w.heap.size+1)) #[] #[]]++caps,W1,?_,?_,?_,?_,λh=>by simp[Fence.wide]at h,?_⟩
 ·show(Instr.enterLoop fn a.tmps ps assign body cx.rd).run cx.P w=_;rw[hrd,<-G];exact run_enterLoop_outer _ _ _ _ _
 ·simp only[resolve,am];simp[go_sem]
 ·intro f' bg;trivial
 ·simp[invoke,go_sem,he _ _]
 ·refine CallsIn.mono (F:=cx.F) ((callsIn_wide (n:=0)).2 H:_) ?_;rintro e W2 ⟨u,γ',rfl,O,q2,q3,q4,q5⟩;have ai:W2.heap[w.heap.size+1]? = some (.loop (recR fn a.tmps ps assign body w.heap.size)):=(q5 _ (λJ=>by have:=A _ (z _ J);omega) Ω).1.trans an;have aw:W2.heap[w.heap.size]? = some (.deferred (some [])):=(q5 _ (λJ=>by have:=A _ (z _ J);omega) Ω).1.trans ba;refine⟨none,_,run_endLoop (P:=cx.P) ai Δ,?_⟩;have ar:MeSt (Cx.sub cx γ γc W1) γ' me' W2:=⟨O.tm,O.me,O.inj,O.ge,O.below,rfl,⟨λ_=>rfl,⟨[],rfl,.nil,λr I=>by cases I⟩,λt ht=>absurd ht (bJ _),λl R B=>absurd (U.symm.trans B) Δ,O.defers.sz⟩,O.gh,λb f=>f.elim,O.dr⟩
  -- the marked blocks are no one's
  let ao:Cx:={ cx with Fr:=λb=>cx.Fr b\/b=w.heap.size\/b=w.heap.size+1,w1:=W1 };have ad:StG ao γ σ a W1:=⟨c.tm,c.me,c.inj,c.ge,c.below,c.size,⟨c.defers.d0,c.defers.marks,c.defers.pin,c.defers.yl,aD _⟩,c.gh,λb f=>by
   rcases f with f|f|f
   ·obtain⟨p1,p2,_⟩:=c.fr b f;exact⟨p1,p2,rfl⟩
   ·exact⟨λJ=>by have:=A _ J;omega,Ω,rfl⟩
   ·exact⟨λJ=>by have:=A _ J;omega,Ω,rfl⟩,c.dr⟩
  obtain⟨N,m⟩:=zwh (cx:=ao) (dst:=none) (τ:=σ) ad hn C (λx V=>by cases V) ab ay ar q2 q3 q4 q5;obtain⟨d1,d2,d3⟩:=m.fr w.heap.size (aH (aJ rfl));obtain⟨l1,l2,l3⟩:=m.fr (w.heap.size+1) (aH (aH rfl));have M:StG cx N (σ.upd none (AV.ren ρ' (.tup [])) (wrG ρ' me' dead)) a W2:=⟨m.tm,m.me,m.inj,m.ge,m.below,m.size,⟨m.defers.d0,m.defers.marks,m.defers.pin,m.defers.yl,cI c.defers.sz m.defers.sz⟩,m.gh,λb f=>by
   obtain⟨p1,p2,p3⟩:=m.fr b (aJ f);obtain⟨p4,p5,p6⟩:=c.fr b f;exact⟨p1,p2,p3.trans p6⟩,m.dr⟩
  obtain⟨rs,m1,m2,m3⟩:=M.defers.marks;have W:∀r∈rs,r<w.heap.size:=λr I=>by
   obtain⟨aq,n1,n2,n3⟩:=p.defers.marks;have:aq=rs:=by
    have e:=n1.symm.trans m1;have aj:∀(x y:Nat),({ target:=.collected x,args:=#[] }:Deferred)={ target:=.collected y,args:=#[] }->x=y:=λx y h=>by injection h with h _;injection h
    exact(List.map_inj_right aj).1 e
   subst this;exact(n3 r I).2.1
  refine⟨σ.upd none (AV.ren ρ' (.tup [])) (wrG ρ' me' dead),k,N,?_⟩;refine M.putObj (o':=.loop { recR fn a.tmps ps assign body w.heap.size with state:=.exhausted }) (ds:=[{ target:=.collected w.heap.size,args:=#[] }]++a.defers) ai rfl Ω l1
   ⟨λh0=>absurd (h0.symm.trans ae) Δ,⟨w.heap.size::rs,by rw[m1];rfl,nodup_cons.2 ⟨λh=>by have:=W _ h;omega,m2⟩,λr I=>?_⟩,M.defers.pin,λl R B=>absurd (U.symm.trans B) Δ,by rw[Cz];exact M.defers.sz⟩
   (λb f e=>by obtain⟨_,p2,_⟩:=p.fr b f;omega)
  rcases mem_cons.1 I with rfl|I
  ·exact⟨bb,by rw[Cz];omega,d1,(Cj Ω).trans aw⟩
  ·obtain⟨p1,p2,p3,p4⟩:=m3 r I;have:=W r I;exact⟨p1,by rw[Cz];exact p2,p3,(Cj Ω).trans p4⟩
open Go.RowKit
inductive A3 (b:Bool) (p q:Prop):Prop
 |mk (h1:b=true->p) (h2:b=false->q)
theorem A3.t {p q:Prop}(k:p):A3 true p q:=⟨λ_=>k,λh=>absurd h Δ⟩
theorem A3.f {p q:Prop}(k:q):A3 false p q:=⟨λh=>absurd h Δ,λ_=>k⟩
inductive IdxX (xs:List AV) (n:Int) (K:AV->Prop):Prop
 |mk (m:Nat) (el:AV) (hn:n=(m:Int)) (he:xs[m]? = some el) (k:K el)
inductive NatX (n:Int) (len:Nat) (K:Nat->Prop):Prop
 |mk (m:Nat) (hn:n=(m:Int)) (hm:m<len) (k:K m)
inductive LtX (m len:Nat) (K:Prop):Prop
 |mk (hm:m<len) (k:K)
inductive EltX (xs:List AV) (m:Nat) (K:AV->Prop):Prop
 |mk (el:AV) (he:xs[m]? = some el) (k:K el)
inductive SlcX (len:Nat) (lo hi:Int) (K:Nat->Nat->Prop):Prop
 |mk (l h:Nat) (h1:lo=(l:Int)) (h2:hi=(h:Int)) (h3:l<=h) (h4:h<=len) (k:K l h)
inductive SlsX (xs:List AV) (lo hi:Int) (K:List AV->Prop):Prop
 |mk (l h:Nat) (h1:lo=(l:Int)) (h2:hi=(h:Int)) (h3:l<=h) (h4:h<=xs.length) (zs:List AV) (hz:(xs.take h).drop l=zs) (k:K zs)
inductive SetX (xs:List AV) (m j n:Nat) (av:AV) (ok:AV->Bool) (put:AV->AV) (K:List AV->Prop):Prop
 |mk (el:AV) (he:xs[m]? = some el) (hok:ok el=true) (zs:List AV) (hz:SubR (xs.set m (put el)) zs) (k:K zs)
inductive MakX (n:Int) (bytes:Nat) (z:AV) (K:List AV->Prop):Prop
 |mk (m:Nat) (hn:n=(m:Int)) (h1:m<=1099511627776) (h2:bytes*m<=281474976710656) (zs:List AV) (hz:SubR (cG m z) zs) (k:K zs)
inductive AppX (n bytes:Nat) (zs:List AV) (K:List AV->Prop):Prop
 |mk (h1:n<=1099511627776) (h2:n*bytes<=140737488355328) (k:K zs)
 |sub (zs':List AV) (hz:SubR zs zs') (h1:n<=1099511627776) (h2:n*bytes<=140737488355328) (k:K zs')
theorem AppX.elim {bytes:Nat}{c:List AV}{K:List AV->Prop}(h:AppX n bytes c K):n<=1099511627776/\n*bytes<=140737488355328/\∃b,SubR c b/\K b:=by
 cases h with
 |mk h1 f k=>exact⟨h1,f,c,.refl _,k⟩
 |sub b g h1 f k=>exact⟨h1,f,b,g,k⟩
inductive NzX (b:Int) (K:Prop):Prop
 |mk (h:b≠0) (k:K)
inductive Ab (E:Env) (f:FuncId) (avs:List AV) (K:AV->Prop) (R:Nat->Nat->List AV->AV->Prop) (find:Nat->Option Ent) (KR:AV->List Nat->List (Nat×Ent)->Prop):Prop
 |memo (ps ps':List (Nat×Nat)) (cargs:List AV) (me me':List (Nat×Ent)) (res:AV) (dead:List Nat) (he:Cd E f) (hdr0:E.dr=false) (h:ConG E.P E.yl (CalF E.P f 0) cargs [] me res me') (hra:aV (rho ps) cargs=avs) (hia:aW (me.map (·.1)) cargs=true) (hle:LeF find (rho ps) (me.map (·.1)) me) (hn:D9 find (rho ps) (rho ps') me me' res dead) (k:KR (res.ren (rho ps')) (idsG (rho ps) (rho ps') me me') (wrG (rho ps') me' dead))
 |mk (fr:Bool) (res:AV) (h:Con E fr f avs res) (k:K res)
 |row (ty sz:Nat) (xs:List AV) (hdr0:E.dr=false) (h:Fw E f avs ty sz xs) (k:R ty sz xs (.row 0))
 |rowT (ty sz:Nat) (xs:List AV) (res:AV) (hdr0:E.dr=false) (h:ConT E f avs ty sz xs res) (k:R ty sz xs res)
inductive YldX (E:Env) (l:Nat) (T:Array Value) (raw cap:List AV) (find:Nat->Option Ent) (KR:AV->List Nat->List (Nat×Ent)->Prop):Prop
 |mk (ps ps':List (Nat×Nat)) (cargs ccaps:List AV) (me me':List (Nat×Ent)) (res:AV) (dead:List Nat) (hdr0:E.dr=false) (h:ConG E.P E.yl (λvs cs w R=>cs=T->CalY E.P l vs cs w R) cargs ccaps me res me') (hra:aV (rho ps) cargs=raw) (hrc:aV (rho ps) ccaps=cap) (hia:aW (me.map (·.1)) cargs=true) (hic:aW (me.map (·.1)) ccaps=true) (hle:LeF find (rho ps) (me.map (·.1)) me) (hn:D9 find (rho ps) (rho ps') me me' res dead) (k:KR (res.ren (rho ps')) (idsG (rho ps) (rho ps') me me') (wrG (rho ps') me' dead))
inductive RngX (E:Env) (nt:Nat) (gv:AV) (ps:Array Tmp) (a b:Code) (σ:AS) (K:AS->Prop):Prop
 |mk (gf:Nat) (cap:List AV) (hgv:gv=.fn gf cap) (he:Cd E gf) (hrg:E.rg=true) (hdr0:E.dr=false) (hyl0:E.yl=none) (pp pp':List (Nat×Nat)) (ycaps ccaps:List AV) (me me':List (Nat×Ent)) (dead:List Nat) (hrc:aV (rho pp) ccaps=cap) (hic:aW (me.map (·.1)) ccaps=true) (hy:LeY σ (rho pp) (me.map (·.1)) 0 ycaps) (hle:LeF σ.find (rho pp) (me.map (·.1)) me) (hn:D9 σ.find (rho pp) (rho pp') me me' (.tup []) dead)
  (hiter:∀(l D:Nat) (fn:FuncId) (T:Array Value),T.size=nt->ConG E.P (some (l,.loop (recR fn T ps a b D))) (CalF E.P gf 0) (.yld l T ycaps::ccaps) [] me (.tup []) me') (k:K (σ.upd none (.tup []) (wrG (rho pp') me' dead)))
inductive LkX (P:Program) (kt:Nat) (k:AV) (ps:List (AV×AV)) (z:AV) (K:AV->Bool->Prop):Prop
 |mk (r:Option Nat) (av:AV) (b:Bool) (hk:Br P kt k=true) (hf:Bt k (ps.map (·.1)) 0=some r) (hb:r.isSome=b) (hs:Sub (Ea z ps r) av) (c:K av b)
inductive UpX (P:Program) (kt:Nat) (k x:AV) (ps:List (AV×AV)) (K:List (AV×AV)->Prop):Prop
 |mk (r:Option Nat) (qs:List (AV×AV)) (hk:Br P kt k=true) (hf:Bt k (ps.map (·.1)) 0=some r) (hs:SubM (putK r k x ps) qs) (c:K qs)
inductive PosX (n:Int) (K:Prop):Prop
 |mk (h:0<n) (k:K)
inductive ShX (b:Int) (K:Prop):Prop
 |mk (h:0<=b) (k:K)
inductive EqX (p:Prop) (K:Prop):Prop
 |mk (h:p) (k:K)
inductive B5 (E:Env) (f:FuncId) (avs:List AV) (K:AV->Prop) (raw:List AV) (find:Nat->Option Ent) (dst:Option Nat) (KR:AV->List Nat->List (Nat×Ent)->Prop):Prop
 |mk (fr:Bool) (res:AV) (h:Con E fr f avs res) (hf:fr=true\/res.flat=true) (k:K res)
 |take (id d ty sz:Nat) (xs:List AV) (ty' sz':Nat) (xs':List AV) (res:AV) (cargs:List AV) (hdr0:E.dr=false) (h:ConC false E f cargs ty sz xs ty' sz' xs' res) (hr:aV (λ_=>id) cargs=raw) (hin:aW [0] cargs=true) (hl:find id=some (.row ty sz xs)) (hd:dst=some d) (hn:find d=none) (hne:id≠d) (k:KR (res.ren λ_=>d) [d,id] [(d,.row ty' sz' xs'),(id,.dead)])
 |eat (id ty sz:Nat) (xs avs':List AV) (fr:Bool) (res:AV) (hl:find id=some (.row ty sz xs)) (ha:AV.frzL id sz xs raw=avs') (hcl:bQ avs'=true) (h:Con E fr f avs' res) (k:KR res [id] [(id,.dead)])
 |memo (ps ps':List (Nat×Nat)) (cargs:List AV) (me me':List (Nat×Ent)) (res:AV) (dead:List Nat) (he:Cd E f) (hdr0:E.dr=false) (h:ConG E.P E.yl (CalF E.P f 0) cargs [] me res me') (hra:aV (rho ps) cargs=raw) (hia:aW (me.map (·.1)) cargs=true) (hle:LeF find (rho ps) (me.map (·.1)) me) (hn:D9 find (rho ps) (rho ps') me me' res dead) (k:KR (res.ren (rho ps')) (idsG (rho ps) (rho ps') me me') (wrG (rho ps') me' dead))
 |turn (id ty sz:Nat) (xs xs':List AV) (res:AV) (cargs:List AV) (hdr0:E.dr=false) (h:ConC true E f cargs ty sz xs ty sz xs' res) (hr:aV (λ_=>id) cargs=raw) (hin:aW [0] cargs=true) (hl:find id=some (.row ty sz xs)) (k:KR (res.ren λ_=>id) [id] [(id,.row ty sz xs')])
def yco (E:Env)(nt:Nat)(o:Oper)(σ:AS)(av:AV)(ids:List Nat)(wr:List (Nat×Ent)):Prop:=∀cx:Cx,cx.E=E->cx.nt=nt->Ao cx o σ av ids wr
inductive OpX (E:Env) (nt:Nat) (o:Oper) (σ:AS) (K:AV->List Nat->List (Nat×Ent)->Prop):Prop
 |mk (av:AV) (ids:List Nat) (wr:List (Nat×Ent)) (h:yco E nt o σ av ids wr) (k:K av ids wr)
def LeX (E:Env)(nt:Nat)(σ τ:AS):Prop:=∀cx:Cx,cx.E=E->cx.nt=nt->Le cx σ τ
inductive Au (E:Env) (nt:Nat) (F:(AS->Prop)->AS->Prop) (σ:AS):Prop
 |mk (I:Nat->AS->Prop) (n:Nat) (τ:AS) (hl:LeX E nt σ τ) (h0:I n τ) (round:∀n σ,I n σ->F (λσ'=>∃m τ,LeX E nt σ' τ/\m<n/\I m τ) σ)
def dokN (E:Env)(nt:Nat)(d:Option Nat):Bool:=match d with|some d=>aX E.np d && Nat.blt d nt|none=>true
def F4 (agg:Bool)(sz n:Nat)(l:List AV):List AV :=
 (range n).map λk=>match agg with|true=>.agg ((l.drop (k*sz)).take sz)|false=>(l[k]?).getD .any
def zyr:AV->Bool |.agg _=>false |_=>true
abbrev OpK:=AV->List Nat->List (Nat×Ent)->Prop
inductive Di
 |no
 |val (av:AV) (ids:List Nat) (wr:List (Nat×Ent))
 |ask (p:OpK->Prop)
@[reducible] def Di.run (r:Di)(K:OpK):Prop:=match r with
 |.no=>False
 |.val av ids wr=>K av ids wr
 |.ask p=>p K
def yaf (E:Env)(nt:Nat)(o:Oper)(σ:AS)(i:TyI):AV->Di
 |.ptr id off=>match σ.find id with
  |some (.box _ cs)=>match i.shape.agg with
   |true=>match aX (off+i.sz) cs.length with
    |true=>.val (.agg ((cs.drop off).take i.sz)) [id] []
    |false=>.no
   |false=>match cs[off]? with
    |some av=>.val av [id] []
    |none=>.no
  |_=>.no
 |.elt id sz k j=>match σ.find id with
  |some (.row _ b xs)=>match aC b sz with
   |true=>.ask (λK=>EltX xs k λel=>match i.shape.agg with
    |true=>match aC i.sz sz && aC j 0 with
     |true=>K (.agg el.cells) [id] []
     |false=>match aX (j+i.sz) sz with
      |true=>K (.agg ((el.cells.drop j).take i.sz)) [id] []
      |false=>False
    |false=>match el.cells[j]? with
     |some av=>K av [id] []
     |none=>False)
   |false=>.no
  |_=>.no
 |.ref cs=>match i.shape.agg with
  |true=>match aX i.sz cs.length with
   |true=>.val (.agg (cs.take i.sz)) [] []
   |false=>.no
  |false=>match cs with
   |av::_=>.val av [] []
   |[]=>.no
 |_=>.ask (λK=>OpX E nt o σ K)
def y8p:AV->Nat->Nat->AV->AV |.agg cs,j,n,av=>.agg (cs.take j++av.cells++cs.drop (j+n)) |_,_,_,av=>av
def elOk:AV->Nat->Nat->Bool |.agg _,_,_=>true |_,j,n=>aC j 0 && aC n 1
theorem zvw {el:AV}(h:elOk el j n=true):(y8p el j n av).cells=el.cells.take j++av.cells++el.cells.drop (j+n):=by
 cases el with
 |agg cs=>rfl
 |_ =>
  simp only[elOk,aB]at h;have h1:=aA h.1;have b:=aA h.2;subst h1;subst b;simp[y8p,bL]
def y4g (E:Env)(nt:Nat)(o:Oper)(σ:AS)(i:TyI)(av:AV):AV->Di
 |.ptr id off=>match σ.find id with
  |some (.box ty cs)=>match aX (off+i.sz) cs.length && (aC av.cells.length i.sz && okc σ av)with
   |true=>.val (.tup []) (id::av.ids) [(id,.box ty (cs.take off++av.cells++cs.drop (off+i.sz)))]
   |false=>.no
  |_=>.no
 |.elt id sz k j=>match σ.find id with
  |some (.row ty b xs)=>match aC b sz && (aC av.cells.length i.sz && (aX (j+i.sz) sz && (okc σ av && av.closed)))with
   |true=>.ask (λK=>SetX xs k j i.sz av (λel=>elOk el j i.sz) (λel=>y8p el j i.sz av) λc=>K (.tup []) (id::av.ids) [(id,.row ty sz c)])
   |false=>.ask (λK=>OpX E nt o σ K)
  |_=>.no
 |_=>.ask (λK=>OpX E nt o σ K)
def y4h (E:Env)(nt:Nat)(o:Oper)(σ:AS)(fo:Nat):AV->Di
 |.ptr id off=>match σ.find id with
  |some (.box _ _)=>.val (.ptr id (off+fo)) [id] []
  |_=>.no
 |.elt id sz k j=>match σ.find id with
  |some (.row _ b xs)=>match aC b sz with
   |true=>.ask (λK=>LtX k xs.length (K (.elt id sz k (j+fo)) [id] []))
   |false=>.no
  |_=>.no
 |.ref cs=>.val (.ref (cs.drop fo)) [] []
 |_=>.ask (λK=>OpX E nt o σ K)
def zgy (E:Env)(nt:Nat)(o:Oper)(σ:AS)(sz:Nat)(x y:AV):Di :=
 match x,y with
 |.sl b xs,.int _ n=>match aC b sz with
  |true=>.ask (λK=>IdxX xs n λel=>K (.ref el.cells) [] [])
  |false=>.no
 |.row id,.int _ n=>match σ.find id with
  |some (.row _ b xs)=>match aC b sz with
   |true=>.ask (λK=>NatX n xs.length λm=>K (.elt id sz m 0) [id] [])
   |false=>.no
  |_=>.no
 |_,_=>.ask (λK=>OpX E nt o σ K)
def zky (E:Env)(nt:Nat)(o:Oper)(σ:AS)(len esz:Nat)(x y:AV):Di :=
 match x,y with
 |.ptr id off,.int _ n=>match σ.find id with
  |some (.box _ _)=>.ask (λK=>NatX n len λm=>K (.ptr id (off+m*esz)) [id] [])
  |_=>.no
 |_,_=>.ask (λK=>OpX E nt o σ K)
def aBin (E:Env)(nt:Nat)(o:Oper)(σ:AS)(op:BinOp)(t:Nat)(x y:AV):Di :=
 match x,y with
 |.int k a,.int f b=>match shI op k a b with
  |some av=>.ask (λK=>ShX b (K av [] []))
  |none=>match decide (k=f)with
   |true=>match op with
    |.quo=>.ask (λK=>NzX b (K (.int k (k.wrap (a.tdiv b))) [] []))
    |.rem=>.ask (λK=>NzX b (K (.int k (a.tmod b)) [] []))
    |op=>match binI op k a b with
     |some av=>.val av [] []
     |none=>match bitI op k a b with
      |some av=>.val av [] []
      |none=>.ask (λK=>OpX E nt o σ K)
   |false=>.no
 |.bool a,.bool b=>match lkT E.tab t with
  |some i=>match i.shape,op with
   |.bool,.eql=>.val (.bool (a == b)) [] []
   |.bool,.neq=>.val (.bool (!(a == b))) [] []
   |_,_=>.ask (λK=>OpX E nt o σ K)
  |none=>.ask (λK=>OpX E nt o σ K)
 |.str a,.str b=>match binS op a b with
  |some c=>.val (.bool c) [] []
  |none=>.ask (λK=>OpX E nt o σ K)
 |.agg cs,.agg ds=>match op,eqL cs ds with
  |.eql,some c=>.ask (λK=>EqX (zzc E.P t cs=true) (K (.bool c) [] []))
  |.neq,some c=>.ask (λK=>EqX (zzc E.P t cs=true) (K (.bool (!c)) [] []))
  |_,_=>.ask (λK=>OpX E nt o σ K)
 |_,_=>.ask (λK=>OpX E nt o σ K)
def yag (E:Env)(nt:Nat)(o:Oper)(σ:AS)(args:Array Operand):AV->Di
 |.fn f b=>match bQ (Ca σ args b)with
  |true=>.ask (λK=>Ab E f (Ca σ args b) (λres=>K res [] []) (λty sz xs res=>match o.dst with
   |some d=>match σ.find d with
    |none=>K (res.ren λ_=>d) [d] [(d,.row ty sz xs)]
    |some _=>False
   |none=>False) σ.find K)
  |false=>.ask (λK=>B5 E f ((Ca σ args b).map (P1 σ)) (λres=>K res ((Ca σ args b).flatMap (ids2 σ)) []) (Ca σ args b) σ.find o.dst K)
 |.yld l T b=>.ask (λK=>YldX E l T (args.toList.map σ.eval) b σ.find K)
 |_=>.ask (λK=>OpX E nt o σ K)
def aLen (E:Env)(nt:Nat)(o:Oper)(σ:AS)(i:TyI):AV->Di
 |.sl _ xs=>match i.shape with|.slc _ _ _=>.val (.int .i64 (xs.length:Int)) [] []|_=>.no
 |.nils=>match i.shape with|.slc _ _ _=>.val (.int .i64 0) [] []|_=>.no
 |.row id=>match i.shape,σ.find id with|.slc _ _ _,some (.row _ _ xs)=>.val (.int .i64 (xs.length:Int)) [id] []|.map _ _,some (.mp ps)=>.val (.int .i64 (ps.length:Int)) [id] []|_,_=>.no
 |.str s=>match i.shape with|.str=>.val (.int .i64 (s.size:Int)) [] []|_=>.no
 |_=>.ask (λK=>OpX E nt o σ K)
def zxg (E:Env)(nt:Nat)(o:Oper)(σ:AS)(e sz:Nat)(ie:TyI)(d:Nat)(x y:AV):Di :=
 match x,y with
 |.nils,.sl b ys=>match aC b sz with|true=>.ask (λK=>forced ie.bytes λby_=>AppX ys.length by_ ys λc=>K (.row d) [d] [(d,.row e sz c)])|false=>.no
 |.nils,.nils=>.val (.row d) [d] [(d,.row e sz [])]
 |.row id,.sl b ys=>match σ.find id with
  |some (.row g f xs)=>match aC b sz && (aC g e && (aC f sz && !Nat.beq id d))with
   |true=>.ask (λK=>forced ie.bytes λby_=>AppX (xs.length+ys.length) by_ (xs++ys) λc=>K (.row d) [d,id] [(d,.row e sz c),(id,.dead)])
   |false=>.no
  |_=>.no
 |_,_=>.ask (λK=>OpX E nt o σ K)
def D8:List Value->Bool |[]=>true |v::r=>v.oneCell' && D8 r
theorem Fk {cs:Array Value}(h:D8 cs.toList=true):cs.all (·.oneCell')=true:=by
 have key:∀l:List Value,D8 l=true->∀v∈l,v.oneCell'=true:=λl=>by
  induction l with
  |nil=>intro _ v b;simp at b
  |cons x r ih =>
   intro h v b;simp only[D8,aB]at h;rcases mem_cons.1 b with rfl|b
   ·exact h.1
   ·exact ih h.2 v b
 rw[aT];intro v b;exact key _ h v (by simpa using b)
def isU8:Ec->Bool |.int .u8=>true |_=>false
def y4f (E:Env)(nt:Nat)(o:Oper)(σ:AS)(Ti:Nat)(x y:Operand)(i:TyI)(d:Nat):Di :=
 match A6 x && A6 y,i.shape,σ.eval x,σ.eval y with
 |true,.slc e esz _,.nils,.int _ n=>match lkT E.tab Ti,lkT E.tab e,σ.find d with
  |some it,some ie,none=>match it.shape,!Nat.beq esz 0 && (Kg ie && D8 ie.zero.cells.toList)with
   |.int _,true=>.ask (λK=>PosX n (fAV (Dg ie) λz=>forced ie.bytes λby_=>MakX n by_ z λb=>K (.row d) [d] [(d,.row e esz b)]))
   |_,_=>.no
  |_,_,_=>.no
 |_,_,_,_=>.ask (λK=>OpX E nt o σ K)
def zqg (E:Env)(nt:Nat)(o:Oper)(σ:AS)(b:Builtin)(args:Array Operand)(tys:Array TypeId):Di :=
 match b,args.toList,tys.toList with
 |.len,[x],[T]=>match A6 x,lkT E.tab T with
  |true,some i=>aLen E nt o σ i (σ.eval x)
  |_,_=>.no
 |.cap,[x],[T]=>match A6 x,lkT E.tab T,σ.eval x with
  |true,some i,.nils=>match i.shape with|.slc _ _ _=>.val (.int .i64 0) [] []|_=>.no
  |_,_,_=>.ask (λK=>OpX E nt o σ K)
 |.max,[x,y],_=>match A6 x && A6 y,σ.eval x,σ.eval y with
  |true,.int k a,.int _ b=>.val (.int k (max a b)) [] []
  |_,_,_=>.ask (λK=>OpX E nt o σ K)
 |.min,[x,y],_=>match A6 x && A6 y,σ.eval x,σ.eval y with
  |true,.int k a,.int _ b=>.val (.int k (min a b)) [] []
  |_,_,_=>.ask (λK=>OpX E nt o σ K)
 |.append,[x,y],[T,T']=>match A6 x && (A6 y && aC T T'),lkT E.tab T,o.dst with
  |true,some i,some d=>match i.shape,σ.find d with
   |.slc e sz _,none=>match lkT E.tab e with
    |some ie=>match aC ie.sz sz && (!Nat.beq sz 0 && aC ie.zero.cells.size sz)with
     |true=>match E.dr with|false=>zxg E nt o σ e sz ie d (σ.eval x) (σ.eval y)|true=>.no
     |false=>.no
    |none=>.no
   |_,_=>.no
  |false,some i,some d=>y4f E nt o σ T' x y i d
  |_,_,_=>.no
 |_,_,_=>.ask (λK=>OpX E nt o σ K)
abbrev Kn:=List (Nat×Bool)
def lkB:Kn->Nat->Option Bool
 |[],_=>none
 |(u,b)::r,t=>match aC u t with|true=>some b|false=>lkB r t
def Up (d:Nat):Kn->Kn
 |[]=>[]
 |(u,b)::r=>match aC u d with|true=>Up d r|false=>(u,b)::Up d r
def Uo:Option Nat->Kn->Kn |some d,kn=>Up d kn |none,kn=>kn
def KnOk (σ:AS)(kn:Kn):Prop:=∀t b,lkB kn t=some b->σ.get t=.bool b
def knOf (kn:Kn):Operand->Option Bool |.tmp t=>lkB kn t |.const (.bool true)=>some true |.const (.bool false)=>some false |_=>none
variable {kn:Kn}
theorem KnOk.of (h:KnOk σ kn){c:Operand}{b:Bool}(f:knOf kn c=some b):σ.eval c=.bool b:=by
 unfold knOf at f;split at f
 ·exact h _ _ f
 ·injection f with f;subst f;rfl
 ·injection f with f;subst f;rfl
 ·cases f
theorem y6a (kn:Kn)(d t:Nat):lkB (Up d kn) t=if d=t then none else lkB kn t:=by
 induction kn with
 |nil=>simp[Up,lkB]
 |cons x r ih =>
  obtain⟨u,b⟩:=x;simp only[Up];cases g:aC u d with
  |true =>
   have:=aA g;subst this;rw[ih];by_cases h:u=t
   ·rw[if_pos h,if_pos h]
   ·rw[if_neg h,if_neg h];simp only[lkB];cases f:aC u t with
    |true=>exact absurd (aA f) h
    |false=>rfl
  |false =>
   simp only[lkB];rw[ih];have c:=aN g;cases f:aC u t with
   |true =>
    have:=aA f;subst this;simp only;rw[if_neg (λe=>c e.symm)]
   |false=>simp only
theorem KnOk.upd (h:KnOk σ kn)(d:Option Nat)(v:AV)(wr:List (Nat×Ent)):KnOk (σ.upd d v wr) (Uo d kn):=λt b c=>by
 rw[cD];cases d with
 |none=>rw[if_neg Δ];exact h t b c
 |some d =>
  simp only[Uo]at c;rw[y6a]at c;by_cases f:d=t
  ·rw[if_pos f]at c;cases c
  ·rw[if_neg f]at c;rw[if_neg (λe=>f (by injection e))];exact h t b c
theorem KnOk.know (h:KnOk σ kn)(t:Nat)(b:Bool):KnOk (σ.upd (some t) (.bool b) []) ((t,b)::kn):=λu c f=>by
 rw[cD];simp only[lkB]at f;by_cases g:t=u
 ·subst g;simp only[bS]at f;injection f with f
  rw[if_pos rfl,f]
 ·rw[if_neg (λe=>g (by injection e))];cases k:aC t u with
  |true=>exact absurd (aA k) g
  |false=>rw[k]at f;exact h u c f
def zxd (E:Env)(nt:Nat)(o:Oper)(σ:AS)(T:Nat)(x y:Operand)(ok:Bool):Di :=
 match A6 x && A6 y,lkT E.tab T,σ.eval x with
 |true,some i,.row id=>match i.shape,σ.find id with
  |.map kt et,some (.mp ps)=>match lkT E.tab et with
   |some ie=>match D8 ie.zero.cells.toList with
    |true=>fAV (D7 ie.zero) λz=>.ask (λK=>LkX E.P kt (σ.eval y) ps z λav b=>match ok with|true=>K (.tup [av,.bool b]) [id] []|false=>K av [id] [])
    |false=>.no
   |none=>.no
  |_,_=>.ask (λK=>OpX E nt o σ K)
 |_,_,_=>.ask (λK=>OpX E nt o σ K)
def zqe (E:Env)(nt:Nat)(o:Oper)(σ:AS)(T:Nat)(x y z:Operand):Di :=
 match A6 x && (A6 y && A6 z),lkT E.tab T,σ.eval x with
 |true,some i,.row id=>match i.shape,σ.find id with
  |.map kt _,some (.mp ps)=>match (σ.eval z).closed with
   |true=>.ask (λK=>UpX E.P kt (σ.eval y) (σ.eval z) ps λb=>K (.tup []) [id] [(id,.mp b)])
   |false=>.no
  |_,_=>.ask (λK=>OpX E nt o σ K)
 |_,_,_=>.ask (λK=>OpX E nt o σ K)
def subB (lo hi:Option Operand):Bool:=match lo,hi with
 |some _,none=>true
 |_,_=>false
def yaq (E:Env)(T:Nat):Bool:=match lkT E.tab T with
 |some i=>match i.shape with
  |.map _ et=>match lkT E.tab et with
   |some ie=>match ie.shape with
    |.slc _ _ _=>true
    |_=>false
   |none=>false
  |_=>false
 |none=>false
def aop (E:Env)(nt:Nat)(kn:Kn)(o:Oper)(σ:AS):Di :=
 match dokN E nt o.dst with
 |false=>.no
 |true=>match o.op with
  |.move x=>match A6 x with|true=>.val (σ.eval x) [] []|false=>.no
  |.assign x=>match A6 x with|true=>.val (σ.eval x) [] []|false=>.no
  |.pick c x y=>match A6 c && (A6 x && A6 y),knOf kn c with
   |true,some true=>.val (σ.eval x) [] []
   |true,some false=>.val (σ.eval y) [] []
   |true,none=>match σ.eval c with
    |.bool b=>.ask (λK=>A3 b (K (σ.eval x) [] []) (K (σ.eval y) [] []))
    |_=>.no
   |_,_=>.no
  |.binOp op t x y _=>match A6 x && A6 y with
   |true=>aBin E nt o σ op t (σ.eval x) (σ.eval y)
   |false=>.no
  |.unOp .not _ x=>match A6 x,σ.eval x with
   |true,.bool b=>.val (.bool (!b)) [] []
   |_,_=>.no
  |.unOp .neg _ x=>match A6 x,σ.eval x with
   |true,.int k a=>.val (.int k (k.wrap (0-a))) [] []
   |_,_=>.no
  |.alloc T=>match o.dst,lkT E.tab T with
   |some d,some i=>match σ.find d,D8 i.zero.cells.toList with
    |none,true=>.val (.ptr d 0) [d] [(d,.box T (i.zero.cells.toList.map AV.ofV))]
    |_,_=>.no
   |_,_=>.no
  |.box T x=>match o.dst with
   |some d=>match σ.find d,A6 x && okc σ (σ.eval x)with
    |none,true=>.val (.ptr d 0) (d::(σ.eval x).ids) [(d,.box T (σ.eval x).cells)]
    |_,_=>.no
   |none=>.no
  |.fieldAddr T x f=>match A6 x,lkT E.tab T with
   |true,some i=>match i.shape with
    |.strct fs=>match fs[f]? with
     |some (fo,fsz,_)=>match aC fsz 0 with
      |false=>y4h E nt o σ fo (σ.eval x)
      |true=>.no
     |none=>.no
    |_=>.no
   |_,_=>.no
  |.load T x=>match A6 x,lkT E.tab T with
   |true,some i=>yaf E nt o σ i (σ.eval x)
   |_,_=>.no
  |.store T x y=>match A6 x && A6 y,lkT E.tab T with
   |true,some i=>y4g E nt o σ i (σ.eval y) (σ.eval x)
   |_,_=>.no
  |.indexAddr T x y=>match A6 x && A6 y,lkT E.tab T with
   |true,some i=>match i.shape with
    |.slc _ sz _=>match aC sz 0 with
     |false=>zgy E nt o σ sz (σ.eval x) (σ.eval y)
     |true=>.no
    |.arr len _ esz _=>match aC esz 0 with
     |false=>zky E nt o σ len esz (σ.eval x) (σ.eval y)
     |true=>.no
    |_=>.ask (λK=>OpX E nt o σ K)
   |_,_=>.no
  |.field T x f=>match A6 x,lkT E.tab T,σ.eval x with
   |true,some i,.agg cs=>match i.shape with
    |.strct fs=>match fs[f]? with
     |some (fo,fsz,some true)=>match aC fsz 0,aX (fo+fsz) cs.length with
      |false,true=>.val (.agg ((cs.drop fo).take fsz)) [] []
      |_,_=>.no
     |some (fo,fsz,some false)=>match cs[fo]? with
      |some av=>.val av [] []
      |none=>.no
     |_=>.no
    |_=>.no
   |_,_,_=>.ask (λK=>OpX E nt o σ K)
  |.index T x y=>match A6 x && A6 y,lkT E.tab T,σ.eval x,σ.eval y with
   |true,some i,.agg cs,.int _ n=>match i.shape with
    |.arr len _ esz (some ag)=>match aC esz 0 with
     |false=>.ask (λK=>NatX n len λm=>match ag with
      |true=>match aX (m*esz+esz) cs.length with
       |true=>K (.agg ((cs.drop (m*esz)).take esz)) [] []
       |false=>False
      |false=>match cs[m*esz]? with
       |some av=>K av [] []
       |none=>False)
     |true=>.no
    |_=>.no
   |_,_,_,_=>.ask (λK=>OpX E nt o σ K)
  |.extract x ix=>match A6 x,σ.eval x with
   |true,.tup cs=>match cs[ix]? with
    |some av=>.val av [] []
    |none=>.no
   |_,_=>.no
  |.build T ps=>match lkT E.tab T,Fp σ ps with
   |some i,true=>match i.shape,D8 i.zero.cells.toList with
    |.strct fs,true=>match fs.all (λf=>!(aC f.2.1 0)),Dh (λj=>(fs[j]?).map λf=>(f.1,f.2.1)) (i.zero.cells.toList.map AV.ofV) (Ct σ ps)with
     |true,some cs=>.val (.agg cs) (Fq (Ct σ ps)) []
     |_,_=>.no
    |.arr _ _ esz _,true=>match aC esz 0,Dh (λj=>some (j*esz,esz)) (i.zero.cells.toList.map AV.ofV) (Ct σ ps)with
     |false,some cs=>.val (.agg cs) (Fq (Ct σ ps)) []
     |_,_=>.no
    |_,_=>.no
   |_,_=>.no
  |.buildSlice T n ps=>match lkT E.tab T,Fp σ ps with
   |some i,true=>match i.shape with
    |.slc e esz _=>match lkT E.tab e with
     |some ie=>match n,ps.toList,o.dst with
      |0,[],some d=>match σ.find d,aC esz 0 with
       |none,false=>.val (.row d) [d] [(d,.row e esz [])]
       |_,_=>.no
      |n,_,_=>match isU8 ie.shape || E.bl with
       |true=>.ask (λK=>OpX E nt o σ K)
       |false=>match Dh (λj=>some (j*esz,esz)) (cG (n*esz) .any) (Ct σ ps)with
        |some fl=>match !Nat.beq esz 0 && (aX (n*esz) 16777216 && (D8 ie.zero.cells.toList && (Nat.blt 0 ie.zero.cells.size && (bQ (F4 ie.shape.agg esz n fl) && (ie.shape.agg || (aC esz 1 && fl.all zyr))))))with
         |true=>fL (F4 ie.shape.agg esz n fl) λxs=>.val (.sl esz xs) (Fq (Ct σ ps)) []
         |false=>.ask (λK=>OpX E nt o σ K)
        |none=>.no
     |none=>.no
    |_=>.no
   |_,_=>.no
  |.makeSlice T x y=>match o.dst,lkT E.tab T with
   |some d,some i=>match i.shape,σ.find d with
    |.slc e esz _,none=>match lkT E.tab e,A6 x && A6 y,σ.eval x,σ.eval y with
     |some ie,true,.int _ n,.int _ q=>match !Nat.beq esz 0 && (Kg ie && D8 ie.zero.cells.toList)with
      |true=>.ask (λK=>EqX (E.dr=false) <| EqX (q=n) (fAV (Dg ie) λz=>forced ie.bytes λby_=>MakX n by_ z λp=>K (.row d) [d] [(d,.row e esz p)]))
      |false=>.no
     |_,_,_,_=>.no
    |_,_=>.no
   |_,_=>.no
  |.makeMap T none=>match yaq E T with
   |true=>.ask (λK=>OpX E nt o σ K)
   |false=>match o.dst with
    |some d=>match σ.find d with
     |none=>.val (.row d) [d] [(d,.mp [])]
     |some _=>.no
    |none=>.no
  |.lookup T x y ok=>zxd E nt o σ T x y ok
  |.mapUpdate T x y z=>zqe E nt o σ T x y z
  |.insert T x y z=>zqe E nt o σ T x y z
  |.slice T x lo hi none=>match A6 x && (opdO lo && opdO hi),lkT E.tab T,σ.eval x with
   |true,some i,.sl sz xs=>match i.shape with
    |.slc _ g _=>match aC g sz && !Nat.beq sz 0,bndA σ 0 lo,bndA σ xs.length hi with
     |true,some l,some h=>.ask (λK=>SlsX xs l h λp=>K (.sl sz p) [] [])
     |_,_,_=>.no
    |_=>.no
   |true,some i,.nils=>match i.shape with
    |.slc _ sz _=>match aC sz 0,bndA σ 0 lo,bndA σ 0 hi with
     |false,some l,some h=>.ask (λK=>EqX (l=0) (EqX (h=0) (K .nils [] [])))
     |_,_,_=>.no
    |_=>.no
   |true,some i,.row id=>match subB lo hi with
    |true=>.ask (λK=>OpX E nt o σ K)
    |false=>match i.shape,σ.find id,o.dst with
     |.slc _ g _,some (.row e sz xs),some d=>match aC g sz && (!Nat.beq sz 0 && !Nat.beq id d),σ.find d,bndA σ 0 lo,bndA σ xs.length hi with
      |true,none,some l,some h=>.ask (λK=>EqX (l=0) (SlsX xs l h λp=>K (.row d) [d,id] [(d,.row e sz p),(id,.dead)]))
      |_,_,_,_=>.no
     |_,_,_=>.no
   |true,some i,.str s=>match i.shape with
    |.str=>match bndA σ 0 lo,bndA σ s.size hi with
     |some l,some h=>.ask (λK=>SlcX s.size l h λl h=>K (.str (s.extract l h)) [] [])
     |_,_=>.no
    |_=>.no
   |_,_,_=>.ask (λK=>OpX E nt o σ K)
  |.convert T T' x=>match A6 x,σ.eval x,lkT E.tab T,lkT E.tab T' with
   |true,.int _ n,some _,some j=>match j.shape with
    |.int k=>.val (.int k (k.wrap n)) [] []
    |_=>.ask (λK=>OpX E nt o σ K)
   |_,_,_,_=>.ask (λK=>OpX E nt o σ K)
  |.makeFunc (.func f) first ps=>match first.toList,ps.toList.all A6 with
   |[],true=>.val (.fn f (ps.toList.map σ.eval)) [] []
   |_,_=>.ask (λK=>OpX E nt o σ K)
  |.call c=>match c.callee with
   |.builtin b=>zqg E nt o σ b c.args c.argTypes
   |.value x=>match A6 x && c.args.toList.all A6 with
    |true=>yag E nt o σ c.args (σ.eval x)
    |false=>.no
   |_=>.ask (λK=>OpX E nt o σ K)
  |_=>.ask (λK=>OpX E nt o σ K)
def Dr (E:Env)(nt:Nat)(o:Oper)(σ:AS)(K:OpK):Prop:=∃av ids wr,yco E nt o σ av ids wr/\K av ids wr
section
variable {E:Env} {nt:Nat} {o:Oper} {σ:AS} {K:OpK}
theorem OpX.sound (h:OpX E nt o σ K):Dr E nt o σ K:=by
 cases h with
 |mk av ids wr h k=>exact⟨av,ids,wr,h,k⟩
theorem Aq (h:dokN E nt o.dst=true)(c:cx.E=E)(b:cx.nt=nt):dok cx o=true:=by
 unfold dokN at h;unfold dok;rw[b,c];exact h
theorem nbeq {a b:Nat}(h:aC a b=true):a=b:=aA h
theorem nbne {a b:Nat}(h:aC a b=false):a≠b:=aN h
variable {T:Nat}{x:Operand}
theorem zxe (s:o.op=.load T x)(u:dokN E nt o.dst=true)(p:A6 x=true)(A:lkT E.tab T=some i)(h:(yaf E nt o σ i (σ.eval x)).run K):Dr E nt o σ K:=by
 unfold yaf at h;split at h
 ·rename_i id off g;split at h
  ·rename_i ty cs B;split at h
   ·rename_i f;split at h
    ·rename_i m;exact⟨_,_,_,λcx b c=>y03 s (Aq u b c) p g (by rw[b];exact A) f B (aG m),h⟩
    ·exact False.elim h
   ·rename_i f;split at h
    ·rename_i av z;exact⟨_,_,_,λcx b c=>y01 s (Aq u b c) p g (by rw[b];exact A) f B z,h⟩
    ·exact False.elim h
  ·exact False.elim h
 ·rename_i id sz k j g;split at h
  ·rename_i ty C xs B;split at h
   ·rename_i q;have q:=nbeq q;subst q;cases h with
    |mk el t h =>
     split at h
     ·rename_i f;split at h
      ·rename_i m;simp only[aB]at m;have D:=nbeq m.2;subst D;exact⟨_,_,_,λcx b c=>zli s (Aq u b c) p g (by rw[b];exact A) f B (nbeq m.1) t,h⟩
      ·split at h
       ·rename_i m;exact⟨_,_,_,λcx b c=>zj5 s (Aq u b c) p g (by rw[b];exact A) f B (aG m) t,h⟩
       ·exact False.elim h
     ·rename_i f;split at h
      ·rename_i av z;exact⟨_,_,_,λcx b c=>zlh s (Aq u b c) p g (by rw[b];exact A) f B t z,h⟩
      ·exact False.elim h
   ·exact False.elim h
  ·exact False.elim h
 ·rename_i cs g;split at h
  ·rename_i f;split at h
   ·rename_i m;exact⟨_,_,_,λcx b c=>zlg s (Aq u b c) p g (by rw[b];exact A) f (aG m),h⟩
   ·exact False.elim h
  ·rename_i f;split at h
   ·exact⟨_,_,_,λcx b c=>zlf s (Aq u b c) p g (by rw[b];exact A) f,h⟩
   ·exact False.elim h
 ·exact OpX.sound h
variable {y:Operand}
theorem zup (z:o.op=.store T x y)(A:dokN E nt o.dst=true)(u:A6 x=true)(t:A6 y=true)(B:lkT E.tab T=some i)(h:(y4g E nt o σ i (σ.eval y) (σ.eval x)).run K):Dr E nt o σ K:=by
 unfold y4g at h;split at h
 ·rename_i id off q;split at h
  ·rename_i ty cs m;split at h
   ·rename_i b;simp only[aB]at b;exact⟨_,_,_,λcx c g=>y8k z (Aq A c g) u t q rfl (by rw[c];exact B) m (aG b.1) (nbeq b.2.1) b.2.2 rfl,h⟩
   ·exact False.elim h
  ·exact False.elim h
 ·rename_i id sz k j q;split at h
  ·rename_i ty C xs m;split at h
   ·rename_i b;simp only[aB]at b;obtain⟨s,I,H,G,F⟩:=b;have s:=nbeq s;subst s;cases h with
    |mk el p f zs D h =>
     exact⟨_,_,_,λcx c g=>Ao.weak (.cons _ (.row _ _ D) .nil) (zj2 z (Aq A c g) u t q rfl (by rw[c];exact B) m p (nbeq I) (aG H) G F (zvw f)),h⟩
   ·exact OpX.sound h
  ·exact False.elim h
 ·exact OpX.sound h
variable {ag:Option Bool}
theorem zuq {f fo fsz:Nat}{fs:List (Nat×Nat×Option Bool)}(t:o.op=.fieldAddr T x f)(z:dokN E nt o.dst=true)(s:A6 x=true)(A:lkT E.tab T=some i)(hs:i.shape=.strct fs)(u:fs[f]? = some (fo,fsz,ag))(q:fsz≠0)(h:(y4h E nt o σ fo (σ.eval x)).run K):Dr E nt o σ K:=by
 unfold y4h at h;split at h
 ·rename_i id off p;split at h
  ·rename_i ty cs g;exact⟨_,_,_,λcx b m=>zvr t (Aq z b m) s p (by rw[b];exact A) hs u q g,h⟩
  ·exact False.elim h
 ·rename_i id sz k j p;split at h
  ·rename_i ty B xs g;split at h
   ·rename_i c;have c:=nbeq c;subst c;cases h with
    |mk C h=>exact⟨_,_,_,λcx b m=>zja t (Aq z b m) s p (by rw[b];exact A) hs u q g C,h⟩
   ·exact False.elim h
  ·exact False.elim h
 ·rename_i cs p;exact⟨_,_,_,λcx b m=>zj9 t (Aq z b m) s p (by rw[b];exact A) hs u q,h⟩
 ·exact OpX.sound h
theorem zi2 {eb:Nat}(B:o.op=.indexAddr T x y)(C:dokN E nt o.dst=true)(A:A6 x=true)(z:A6 y=true)(D:lkT E.tab T=some i)(hs:i.shape=.slc e sz eb)(u:sz≠0)(h:(zgy E nt o σ sz (σ.eval x) (σ.eval y)).run K):Dr E nt o σ K:=by
 unfold zgy at h;split at h
 ·rename_i p xs k n t f;split at h
  ·rename_i b;have b:=nbeq b;subst b;cases h with
   |mk m el c s h=>exact⟨_,_,_,λcx g q=>zlj B (Aq C g q) A z t f (by rw[g];exact D) hs u c s,h⟩
  ·exact False.elim h
 ·rename_i id k n t f;split at h
  ·rename_i ty p xs F;split at h
   ·rename_i b;have b:=nbeq b;subst b;cases h with
    |mk m c hm h=>exact⟨_,_,_,λcx g q=>zj7 B (Aq C g q) A z t f F (by rw[g];exact D) hs u c hm,h⟩
   ·exact False.elim h
  ·exact False.elim h
 ·exact OpX.sound h
theorem zkx {len esz:Nat}(s:o.op=.indexAddr T x y)(A:dokN E nt o.dst=true)(q:A6 x=true)(p:A6 y=true)(B:lkT E.tab T=some i)(hs:i.shape=.arr len e esz ag)(g:esz≠0)(h:(zky E nt o σ len esz (σ.eval x) (σ.eval y)).run K):Dr E nt o σ K:=by
 unfold zky at h;split at h
 ·rename_i id off k n z c;split at h
  ·rename_i ty cs u;cases h with
   |mk m b hm h=>exact⟨_,_,_,λcx f t=>zj8 s (Aq A f t) q p z c u (by rw[f];exact B) hs g b hm,h⟩
  ·exact False.elim h
 ·exact OpX.sound h
theorem zmp (h:TyOk P T i)(hs:i.shape=.bool):P.underlying T=some .bool:=by
 obtain⟨d,c,b⟩:=h.und;rw[hs]at b;cases d<;>simp only[Du,reduceCtorEq]at b;exact c
theorem y0y {op:BinOp}{t H:Nat}(z:o.op=.binOp op t x y H)(A:dokN E nt o.dst=true)(u:A6 x=true)(s:A6 y=true)(h:(aBin E nt o σ op t (σ.eval x) (σ.eval y)).run K):Dr E nt o σ K:=by
 unfold aBin at h;split at h
 ·rename_i k a I b p f;split at h
  ·rename_i av q;cases h with
   |mk C h=>exact⟨_,_,_,λcx g m=>ycr z (Aq A g m) u s p f C q,h⟩
  split at h
  ·rename_i D;have D:k=I:=by simpa using D
   subst D;split at h
   ·cases h with
    |mk C h=>exact⟨_,_,_,λcx g m=>yct z (Aq A g m) u s p f C rfl,h⟩
   ·cases h with
    |mk C h=>exact⟨_,_,_,λcx g m=>ycs z (Aq A g m) u s p f C rfl,h⟩
   ·split at h
    ·rename_i av q;exact⟨_,_,_,λcx g m=>yb0 z (Aq A g m) u s p f q,h⟩
    ·split at h
     ·rename_i av q;exact⟨_,_,_,λcx g m=>yay z (Aq A g m) u s p f q,h⟩
     ·exact OpX.sound h
  ·exact False.elim h
 ·rename_i a b p f;split at h
  ·rename_i i G;split at h
   ·rename_i hs;exact⟨_,_,_,λcx g m=>ycz z (Aq A g m) u s p f (zmp (cx.E.ok t i (by rw[g];exact G)) hs),h⟩
   ·rename_i hs;exact⟨_,_,_,λcx g m=>ycw z (Aq A g m) u s p f (zmp (cx.E.ok t i (by rw[g];exact G)) hs),h⟩
   ·exact OpX.sound h
  ·exact OpX.sound h
 ·rename_i a b p f;split at h
  ·rename_i c B;exact⟨_,_,_,λcx g m=>yaz z (Aq A g m) u s p f B,h⟩
  ·exact OpX.sound h
 ·rename_i cs ds p f;split at h
  ·rename_i c B;cases h with
   |mk F h=>exact⟨_,_,_,λcx g m=>yaw (aJ rfl) z (Aq A g m) u s p f (by rw[Cx.P,g];exact F) B,h⟩
  ·rename_i c B;cases h with
   |mk F h=>exact⟨_,_,_,λcx g m=>yaw (aH rfl) z (Aq A g m) u s p f (by rw[Cx.P,g];exact F) B,h⟩
  ·exact OpX.sound h
 ·exact OpX.sound h
variable {args:Array Operand}{tys:Array TypeId}
theorem zxf (B:o.op=.call { callee:=.value x,args:=args,argTypes:=tys })(C:dokN E nt o.dst=true)(p:A6 x=true)(D:args.toList.all A6=true)(h:(yag E nt o σ args (σ.eval x)).run K):Dr E nt o σ K:=by
 unfold yag at h;split at h
 ·rename_i f V z;split at h
  ·rename_i A;cases h with
   |memo ps ps' cargs me me' res dead G b k s u t q h=>exact⟨_,_,_,λcx c g=>zxu B (Aq C c g) p D z (by rw[c];exact G) (by rw[c];exact b) s u t.le q (yl:=E.yl) (λx p=>by rw[c];exact p) (by subst c;exact k),h⟩
   |mk fr res k h=>exact⟨_,_,_,λcx c g=>yax B (Aq C c g) p D z rfl A (by rw[c];exact k),h⟩
   |row ty sz xs b k h =>
    split at h
    ·rename_i d m;split at h
     ·rename_i I;exact⟨_,_,_,λcx c g=>y08 B m (Aq C c g) p D z rfl A I (by rw[c];exact k) (by rw[c];exact b),h⟩
     ·exact False.elim h
    ·exact False.elim h
   |rowT ty sz xs res b k h =>
    split at h
    ·rename_i d m;split at h
     ·rename_i I;exact⟨_,_,_,λcx c g=>zvt B m (Aq C c g) p D z rfl A I (by rw[c];exact k) (by rw[c];exact b),h⟩
     ·exact False.elim h
    ·exact False.elim h
  ·cases h with
   |mk fr res k I h=>exact⟨_,_,_,λcx c g=>zrh B (Aq C c g) p D z rfl (by rw[c];exact k) I,h⟩
   |take id d ty sz xs X Y J res cargs b k N F H m q O h=>exact⟨_,_,_,λcx c g=>y5b B m (Aq C c g) p D z N F H O q (by rw[c];exact k) (by rw[c];exact b),h⟩
   |eat id ty sz xs W fr res H U A k h=>exact⟨_,_,_,λcx c g=>y09 B (Aq C c g) p D z H U A (by rw[c];exact k),h⟩
   |memo ps ps' cargs me me' res dead G b k s u t q h=>exact⟨_,_,_,λcx c g=>zxu B (Aq C c g) p D z (by rw[c];exact G) (by rw[c];exact b) s u t.le q (yl:=E.yl) (λx p=>by rw[c];exact p) (by subst c;exact k),h⟩
   |turn id ty sz xs J res cargs b k N F H h=>exact⟨_,_,_,λcx c g=>y5a B (Aq C c g) p D z N F H (by rw[c];exact k) (by rw[c];exact b),h⟩
 ·rename_i l T V z;cases h with
  |mk ps ps' cargs ccaps me me' res dead b k s M u Q t q h=>exact⟨_,_,_,λcx c g=>y1m B (Aq C c g) p D z (by rw[c];exact b) s M u Q t.le q (yl:=E.yl) (λx p=>by rw[c];exact p) (by subst c;exact k),h⟩
 ·exact OpX.sound h
theorem y0x (k:o.op=.call { callee:=.builtin .len,args:=#[x],argTypes:=#[T] })(m:dokN E nt o.dst=true)(g:A6 x=true)(p:lkT E.tab T=some i)(h:(aLen E nt o σ i (σ.eval x)).run K):Dr E nt o σ K:=by
 unfold aLen at h;split at h
 ·rename_i sz xs f;split at h
  ·rename_i hs;exact⟨_,_,_,λcx b c=>y58 (ty:=0) k (Aq m b c) g f (by rw[b];exact p) hs,h⟩
  ·exact False.elim h
 ·rename_i f;split at h
  ·rename_i hs;exact⟨_,_,_,λcx b c=>y04 (ty:=0) k (Aq m b c) g f (by rw[b];exact p) hs,h⟩
  ·exact False.elim h
 ·rename_i id f;split at h
  ·rename_i hs q;exact⟨_,_,_,λcx b c=>y1q k (Aq m b c) g f q (by rw[b];exact p) hs,h⟩
  ·rename_i hs q;exact⟨_,_,_,λcx b c=>y1r k (Aq m b c) g f q (by rw[b];exact p) hs,h⟩
  ·exact False.elim h
 ·rename_i s f;split at h
  ·rename_i hs;exact⟨_,_,_,λcx b c=>y1p k (Aq m b c) g f (by rw[b];exact p) hs,h⟩
  ·exact False.elim h
 ·exact OpX.sound h
theorem zqh {d eb:Nat}{ie:TyI}(C:o.op=.call { callee:=.builtin .append,args:=#[x,y],argTypes:=#[T,T] })(f:o.dst=some d)(G:dokN E nt o.dst=true)(A:A6 x=true)(z:A6 y=true)(H:lkT E.tab T=some i)(hs:i.shape=.slc e sz eb)(F:lkT E.tab e=some ie)
  (p:ie.sz=sz) (u:sz≠0) (m:ie.zero.cells.size=sz) (D:σ.find d=none) (g:E.dr=false) (h:(zxg E nt o σ e sz ie d (σ.eval x) (σ.eval y)).run K):Dr E nt o σ K:=by
 unfold zxg at h;split at h
 ·rename_i t ys s q;split at h
  ·rename_i B;have B:=nbeq B;subst B;have h:forced _ _:=h;rw[Yd]at h;obtain⟨h1,I,Q,k,h⟩:=h.elim;exact⟨_,_,_,λcx b c=>Ao.weak (.cons _ (.row _ _ k) .nil) (zoa (oid:=none) (xs:=[]) C f (Aq G b c) A z (by rw[b];exact H) hs (by rw[b];exact F) p u m (aJ ⟨s,rfl,rfl⟩) (aJ q) D (by simpa using h1) (by simpa using I) (by rw[b];exact g)),h⟩
  ·exact False.elim h
 ·rename_i s q;exact⟨_,_,_,λcx b c=>zoa (oid:=none) (xs:=[]) (ys:=[]) C f (Aq G b c) A z (by rw[b];exact H) hs (by rw[b];exact F) p u m (aJ ⟨s,rfl,rfl⟩) (aH ⟨q,rfl⟩) D Δ Δ (by rw[b];exact g),h⟩
 ·rename_i id t ys s q;split at h
  ·rename_i X U xs V;split at h
   ·rename_i O;simp only[aB,aK]at O;obtain⟨N,M,J,W⟩:=O;have N:=nbeq N;have M:=nbeq M;have J:=nbeq J;subst N;subst M;subst J;have h:forced _ _:=h;rw[Yd]at h;obtain⟨h1,I,Q,k,h⟩:=h.elim;exact⟨_,_,_,λcx b c=>Ao.weak (.cons _ (.row _ _ k) (.cons _ (.refl _) .nil)) (zoa (oid:=some id) C f (Aq G b c) A z (by rw[b];exact H) hs (by rw[b];exact F) p u m (aH ⟨id,s,rfl,nbne W,V⟩) (aJ q) D h1 I (by rw[b];exact g)),h⟩
   ·exact False.elim h
  ·exact False.elim h
 ·exact OpX.sound h
theorem zic {α:Type}{l:Array α}{x:α}(h:l.toList=[x]):l=#[x]:=by
 cases l;simp at h;subst h;rfl
theorem zi3 {α:Type}{l:Array α}{x y:α}(h:l.toList=[x,y]):l=#[x,y]:=by
 cases l;simp at h;subst h;rfl
theorem zuo {Ti d:Nat}(A:o.op=.call { callee:=.builtin .append,args:=#[x,y],argTypes:=#[T,Ti] })(c:o.dst=some d)(F:dokN E nt o.dst=true)(G:lkT E.tab T=some i)(h:(y4f E nt o σ Ti x y i d).run K):Dr E nt o σ K:=by
 unfold y4f at h;split at h
 ·rename_i e esz eb k n b hs D t;simp only[aB]at b;split at h
  ·rename_i it ie u s C;split at h
   ·rename_i kn q f;simp only[aB,aK]at f;cases h with
    |mk H h =>
     rw[P0]at h;have p:forced _ _:=h;rw[Yd]at p;clear h;cases p with
     |mk m hm h1 p zs z h =>
      exact⟨_,_,_,λcx g B=>Ao.weak (.cons _ (.row _ _ z) .nil) (zlk A c (Aq F g B) b.1 b.2 D t (by rw[g];exact G) hs (by rw[g];exact u) q (by rw[g];exact s) (nbne f.1) f.2.1 (Fk f.2.2) C hm H h1 p),h⟩
   ·exact False.elim h
  ·exact False.elim h
 ·exact OpX.sound h
theorem zmn {b:Builtin}(u:o.op=.call { callee:=.builtin b,args:=args,argTypes:=tys })(z:dokN E nt o.dst=true)(h:(zqg E nt o σ b args tys).run K):Dr E nt o σ K:=by
 unfold zqg at h;split at h
 ·rename_i x T g f;have g:=zic g;have f:=zic f;subst g;subst f;split at h
  ·rename_i i B t;exact y0x u z B t h
  ·exact False.elim h
 ·rename_i x T g f;have g:=zic g;have f:=zic f;subst g;subst f;split at h
  ·rename_i i B t s;split at h
   ·rename_i hs;exact⟨_,_,_,λcx A C=>y07 u (Aq z A C) B s (by rw[A];exact t) hs,h⟩
   ·exact False.elim h
  ·exact OpX.sound h
 ·rename_i x y g;have g:=zi3 g;subst g;split at h
  ·rename_i k a G b c s q;simp only[aB]at c;exact⟨_,_,_,λcx A C=>ycy u (Aq z A C) c.1 c.2 s q,h⟩
  ·exact OpX.sound h
 ·rename_i x y g;have g:=zi3 g;subst g;split at h
  ·rename_i k a G b c s q;simp only[aB]at c;exact⟨_,_,_,λcx A C=>ycx u (Aq z A C) c.1 c.2 s q,h⟩
  ·exact OpX.sound h
 ·rename_i x y T T' g f;have g:=zi3 g;have f:=zi3 f;subst g;subst f;split at h
  ·rename_i i d c t m;simp only[aB]at c;obtain⟨B,H,p⟩:=c;have p:=nbeq p;subst p;split at h
   ·rename_i e sz eb hs I;split at h
    ·rename_i ie s;split at h
     ·rename_i F;simp only[aB,aK]at F;split at h
      ·rename_i D;exact zqh u m z B H t hs s (nbeq F.1) (nbne F.2.1) (nbeq F.2.2) I D h
      ·exact False.elim h
     ·exact False.elim h
    ·exact False.elim h
   ·exact False.elim h
  ·rename_i i d c t m;exact zuo u m z t h
  ·exact False.elim h
 ·exact OpX.sound h
theorem zkt (agg:Bool)(sz n:Nat)(l:List AV)(g:l.length=n*sz)(t:agg=true\/(sz=1/\l.all zyr=true)):(F4 agg sz n l).flatMap bL=l/\(F4 agg sz n l).length=n/\∀x∈F4 agg sz n l,x.cells.length=sz:=by
 have key:∀(l:List AV) (n:Nat),l.length=n*sz->((range n).map λk=>AV.agg ((l.drop (k*sz)).take sz)).flatMap bL=l:=λl n g=>by
  induction n generalizing l with
  |zero=>simp at g;subst g;rfl
  |succ n h =>
   rw[range_succ_eq_map,bT,flatMap_cons,map_map];have h1:(l.drop sz).length=n*sz:=by rw[bW,g,bC];omega
   have p:=h (l.drop sz) h1;have u:(range n).map ((λk=>AV.agg ((l.drop (k*sz)).take sz)) ∘ Nat.succ)=(range n).map λk=>AV.agg (((l.drop sz).drop (k*sz)).take sz):=by
    refine map_congr_left λk _=>?_
    simp only[Function.comp,drop_drop,bC];rw[Nat.add_comm sz (k*sz)]
   rw[u,p];simp only[bL,cH,drop_zero,take_append_drop]
 rcases t with rfl|⟨rfl,f⟩
 ·refine⟨key l n g,by simp[F4],λx c=>?_⟩;simp only[F4,aR,mem_range]at c;obtain⟨k,q,rfl⟩:=c;have:(k+1)*sz<=n*sz:=aP _ q;rw[bC]at this;simp only[bL,bM,bW];omega
 ·cases agg with
  |true =>
   refine⟨key l n g,by simp[F4],λx c=>?_⟩;simp only[F4,aR,mem_range]at c;obtain⟨k,q,rfl⟩:=c;simp only[bL,bM,bW];omega
  |false =>
   have m:l.length=n:=Ω
   have e:F4 false 1 n l=l:=by
    unfold F4;apply ext_getElem
    ·simp[m]
    ·intro k h1 p;simp[getElem?_eq_getElem p]
   rw[e];have b:∀x∈l,x.cells=[x]:=λx c=>by
    simp only[aQ]at f;have:=f x c;cases x<;>first|rfl|simp[zyr]at this
   refine⟨?_,m,λx c=>by rw[b x c];rfl⟩;clear e m g f
   induction l with
   |nil=>rfl
   |cons x r h=>rw[flatMap_cons,b x Δ,h (λy s=>b y (by simp[s]))];rfl
theorem zcj (place:Nat->Option (Nat×Nat)):∀(ps:List (Nat×AV)) (cells cs:List AV),Dh place cells ps=some cs->cs.length=cells.length
 |[],cells,cs,h=>by simp only[Dh,aM]at h;rw[h]
 |(i,v)::r,cells,cs,h=>by
  simp only[Dh]at h;split at h
  ·cases h
  ·rename_i off size c;split at h
   ·rename_i b;simp only[aB]at b;have h1:=nbeq b.1;have f:=aG b.2;rw[zcj place r _ cs h];simp;omega
   ·cases h
theorem Y8 (h:D8 v.cells.toList=true):P6 v=true:=by
 cases v<;>first|rfl|exact Fk h
theorem zqf {ok:Bool}(s:o.op=.lookup T x y ok)(A:dokN E nt o.dst=true)(h:(zxd E nt o σ T x y ok).run K):Dr E nt o σ K:=by
 unfold zxd at h;split at h
 ·rename_i i id c B z;simp only[aB]at c;split at h
  ·rename_i kt et ps hs u;split at h
   ·rename_i ie k;split at h
    ·rename_i q;rw[P0]at h;cases h with
     |mk r av b t m C g h =>
      subst C;cases ok with
      |true=>exact⟨_,_,_,λcx f p=>zxt (ok:=true) s (Aq A f p) c.1 c.2 z rfl u (by rw[f];exact B) hs (by rw[f];exact k) (Y8 q) (by rw[Cx.P,f];exact t) m g,h⟩
      |false=>exact⟨_,_,_,λcx f p=>zxt (ok:=false) s (Aq A f p) c.1 c.2 z rfl u (by rw[f];exact B) hs (by rw[f];exact k) (Y8 q) (by rw[Cx.P,f];exact t) m g,h⟩
    ·exact False.elim h
   ·exact False.elim h
  ·exact OpX.sound h
 ·exact OpX.sound h
theorem zg8 {z:Operand}(m:o.op=.mapUpdate T x y z\/o.op=.insert T x y z)(u:dokN E nt o.dst=true)(h:(zqe E nt o σ T x y z).run K):Dr E nt o σ K:=by
 unfold zqe at h;split at h
 ·rename_i i id b A t;simp only[aB]at b;split at h
  ·rename_i kt et ps hs s;split at h
   ·rename_i g;cases h with
    |mk r qs q f c h =>
     exact⟨_,_,_,λcx k p=>zvj m (Aq u k p) b.1 b.2.1 b.2.2 t rfl rfl s (by rw[k];exact A) hs (by rw[Cx.P,k];exact q) g f c,h⟩
   ·exact False.elim h
  ·exact OpX.sound h
 ·exact OpX.sound h
theorem y4e (Z:KnOk σ kn)(h:(aop E nt kn o σ).run K):Dr E nt o σ K:=by
 unfold aop at h;split at h
 ·exact False.elim h
 rename_i A;split at h
 ·rename_i x q;split at h
  ·rename_i J;exact⟨_,_,_,λcx p u=>yav q (Aq A p u) J rfl,h⟩
  ·exact False.elim h
 ·rename_i x q;split at h
  ·rename_i J;exact⟨_,_,_,λcx p u=>y5c q (Aq A p u) J rfl,h⟩
  ·exact False.elim h
 ·rename_i c x y q;split at h
  ·rename_i g V;simp only[aB]at g;exact⟨_,_,_,λcx p u=>zj3 q (Aq A p u) g.1 g.2.1 (Z.of V) rfl rfl,h⟩
  ·rename_i g V;simp only[aB]at g;exact⟨_,_,_,λcx p u=>zha q (Aq A p u) g.1 g.2.2 (Z.of V) rfl rfl,h⟩
  ·rename_i g V;simp only[aB]at g;split at h
   ·rename_i b V;cases h with
    |mk h1 M =>
     cases F:b with
     |true=>exact⟨_,_,_,λcx p u=>zj3 q (Aq A p u) g.1 g.2.1 V F rfl,h1 F⟩
     |false=>exact⟨_,_,_,λcx p u=>zha q (Aq A p u) g.1 g.2.2 V F rfl,M F⟩
   ·exact False.elim h
  ·exact False.elim h
 ·rename_i op t x y t2 q;split at h
  ·rename_i g;simp only[aB]at g;exact y0y q A g.1 g.2 h
  ·exact False.elim h
 ·rename_i t x q;split at h
  ·rename_i b J H;exact⟨_,_,_,λcx p u=>ycu q (Aq A p u) J H,h⟩
  ·exact False.elim h
 ·rename_i t x q;split at h
  ·rename_i k a J H;exact⟨_,_,_,λcx p u=>ycv q (Aq A p u) J H rfl,h⟩
  ·exact False.elim h
 ·rename_i T q;split at h
  ·rename_i d i B C;split at h
   ·rename_i I G;exact⟨_,_,_,λcx p u=>y8n q B (Aq A p u) (by rw[p];exact C) I (Fk G),h⟩
   ·exact False.elim h
  ·exact False.elim h
 ·rename_i T x q;split at h
  ·rename_i d B;split at h
   ·rename_i I g;simp only[aB]at g;exact⟨_,_,_,λcx p u=>yd0 q B (Aq A p u) g.1 rfl g.2 I,h⟩
   ·exact False.elim h
  ·exact False.elim h
 ·rename_i T x f q;split at h
  ·rename_i i J C;split at h
   ·rename_i fs hs;split at h
    ·rename_i fo fsz ag I;split at h
     ·rename_i G;exact zuq q A J C hs I (nbne G) h
     ·exact False.elim h
    ·exact False.elim h
   ·exact False.elim h
  ·exact False.elim h
 ·rename_i T x q;split at h
  ·rename_i i J C;exact zxe q A J C h
  ·exact False.elim h
 ·rename_i T x y q;split at h
  ·rename_i i D C;simp only[aB]at D;exact zup q A D.1 D.2 C h
  ·exact False.elim h
 ·rename_i T x y q;split at h
  ·rename_i i D C;simp only[aB]at D;split at h
   ·rename_i e sz eb hs;split at h
    ·rename_i G;exact zi2 q A D.1 D.2 C hs (nbne G) h
    ·exact False.elim h
   ·rename_i len e esz ag hs;split at h
    ·rename_i G;exact zkx q A D.1 D.2 C hs (nbne G) h
    ·exact False.elim h
   ·exact OpX.sound h
  ·exact False.elim h
 ·rename_i T x f q;split at h
  ·rename_i i cs J C H;split at h
   ·rename_i fs hs;split at h
    ·rename_i fo fsz I;split at h
     ·rename_i G F;exact⟨_,_,_,λcx p u=>zvq q (Aq A p u) J H (by rw[p];exact C) hs I (nbne G) (aG F),h⟩
     ·exact False.elim h
    ·rename_i fo fsz I;split at h
     ·rename_i av N;exact⟨_,_,_,λcx p u=>zvp q (Aq A p u) J H (by rw[p];exact C) hs I N,h⟩
     ·exact False.elim h
    ·exact False.elim h
   ·exact False.elim h
  ·exact OpX.sound h
 ·rename_i T x y q;split at h
  ·rename_i i cs k n D C H Q;simp only[aB]at D;split at h
   ·rename_i len e esz ag hs;split at h
    ·rename_i G;cases h with
     |mk m Y X h =>
      split at h
      ·split at h
       ·rename_i F;exact⟨_,_,_,λcx p u=>zvo q (Aq A p u) D.1 D.2 H Q (by rw[p];exact C) hs (nbne G) Y X (aG F),h⟩
       ·exact False.elim h
      ·split at h
       ·rename_i av N;exact⟨_,_,_,λcx p u=>zvn q (Aq A p u) D.1 D.2 H Q (by rw[p];exact C) hs (nbne G) Y X N,h⟩
       ·exact False.elim h
    ·exact False.elim h
   ·exact False.elim h
  ·exact OpX.sound h
 ·rename_i x ix q;split at h
  ·rename_i cs J H;split at h
   ·rename_i av N;exact⟨_,_,_,λcx p u=>y1s q (Aq A p u) J H N,h⟩
   ·exact False.elim h
  ·exact False.elim h
 ·rename_i T ps q;split at h
  ·rename_i i C g;split at h
   ·rename_i fs hs G;split at h
    ·rename_i cs ai I;exact⟨_,_,_,λcx p u=>zo8 q (Aq A p u) (by rw[p];exact C) hs (Fk G) g ai I,h⟩
    ·exact False.elim h
   ·rename_i n e esz ag hs G;split at h
    ·rename_i cs ad I;exact⟨_,_,_,λcx p u=>zvu q (Aq A p u) (by rw[p];exact C) hs (Fk G) g (nbne ad) I,h⟩
    ·exact False.elim h
   ·exact False.elim h
  ·exact False.elim h
 ·rename_i T n ps q;split at h
  ·rename_i i C g;split at h
   ·rename_i e esz eb hs;split at h
    ·rename_i ie H;split at h
     ·rename_i d O B;split at h
      ·rename_i I G;have O:ps=#[]:=by cases ps;simp at O;subst O;rfl
       exact⟨_,_,_,λcx p u=>zo9 q B (Aq A p u) (by rw[p];exact C) hs (by rw[p];exact H) (nbne G) O I,h⟩
      ·exact False.elim h
     ·split at h
      ·exact OpX.sound h
      ·split at h
       ·rename_i fl I;split at h
        ·rename_i F;simp only[aB,aK,bA]at F;obtain⟨b1,b2,b3,b4,b5,b6⟩:=F;rw[P5]at h;have U:=zcj _ _ _ _ I;rw[bU]at U;obtain⟨c1,c2,c3⟩:=zkt ie.shape.agg esz _ fl U (b6.imp id (λ⟨h1,M⟩=>⟨nbeq h1,M⟩));exact⟨_,_,_,λcx p u=>zhb q (Aq A p u) (by rw[p];exact C) hs (by rw[p];exact H) (nbne b1) b2 (Fk b3) b4 g b5 c2 (by simp only[aQ];intro x J;rw[c3 x J];simp) (by rw[c1];exact I),h⟩
        ·exact OpX.sound h
       ·exact False.elim h
    ·exact False.elim h
   ·exact False.elim h
  ·exact False.elim h
 ·rename_i T x y q;split at h
  ·rename_i d i B C;split at h
   ·rename_i e esz eb hs I;split at h
    ·rename_i ie k n k' n' ah g H Q;simp only[aB]at g;split at h
     ·rename_i F;simp only[aB,aK]at F;cases h with
      |mk ab h =>
      cases h with
      |mk ae h =>
       rw[P0]at h;have M:forced _ _:=h;rw[Yd]at M;clear h;cases M with
       |mk m hm h1 M zs G h =>
        subst ae;exact⟨_,_,_,λcx p u=>Ao.weak (.cons _ (.row _ _ G) .nil) (zvk q B (Aq A p u) g.1 g.2 H Q (by rw[p];exact C) hs (by rw[p];exact ah) (nbne F.1) F.2.1 (Fk F.2.2) I hm h1 M (by rw[p];exact ab)),h⟩
     ·exact False.elim h
    ·exact False.elim h
   ·exact False.elim h
  ·exact False.elim h
 ·rename_i T q;split at h
  ·exact OpX.sound h
  ·split at h
   ·rename_i d B;split at h
    ·rename_i I;exact⟨_,_,_,λcx p u=>y1n q B (Aq A p u) I,h⟩
    ·exact False.elim h
   ·exact False.elim h
 ·rename_i T x y ok q;exact zqf q A h
 ·rename_i T x y z q;exact zg8 (aJ q) A h
 ·rename_i T x y z q;exact zg8 (aH q) A h
 ·rename_i T x lo hi q;split at h
  ·rename_i i sz xs g C H;simp only[aB]at g;split at h
   ·rename_i e ac eb hs;split at h
    ·rename_i l hh F h1 M;simp only[aB,aK]at F;have hq:=nbeq F.1;subst hq;cases h with
     |mk l' h' W e2 h3 h4 zs G h =>
      subst W;subst e2;subst G;exact⟨_,_,_,λcx p u=>zzy (esz:=0) q (Aq A p u) g.1 g.2.1 g.2.2 H (by rw[p];exact C) hs (nbne F.2) h1 M h3 h4,h⟩
    ·exact False.elim h
   ·exact False.elim h
  ·rename_i i g C H;simp only[aB]at g;split at h
   ·rename_i e sz eb hs;split at h
    ·rename_i l hh G h1 M;cases h with
     |mk W h =>
      cases h with
      |mk e2 h =>
       subst W;subst e2;exact⟨_,_,_,λcx p u=>zrf q (Aq A p u) g.1 g.2.1 g.2.2 H (by rw[p];exact C) hs (nbne G) h1 M,h⟩
    ·exact False.elim h
   ·exact False.elim h
  ·rename_i i id g C H;simp only[aB]at g;split at h
   ·exact OpX.sound h
   ·split at h
    ·rename_i e' ac eb e sz xs d hs I B;split at h
     ·rename_i l hh F af h1 M;simp only[aB,aK]at F;have hq:=nbeq F.1;subst hq;cases h with
      |mk W h =>
       subst W;cases h with
       |mk l' h' q1 q2 h3 h4 zs G h =>
        have q1:l'=0:=Ω
        subst q1;subst q2;rw[drop_zero]at G;subst G;exact⟨_,_,_,λcx p u=>zvi q B (Aq A p u) g.1 g.2.1 g.2.2 H (by rw[p];exact C) hs (nbne F.2.1) I af (nbne F.2.2) h1 M h4,h⟩
     ·exact False.elim h
    ·exact False.elim h
  ·rename_i i s g C H;simp only[aB]at g;split at h
   ·rename_i hs;split at h
    ·rename_i l hh h1 M;cases h with
     |mk l' h' W e2 h3 h4 h =>
      subst W;subst e2;exact⟨_,_,_,λcx p u=>zvh q (Aq A p u) g.1 g.2.1 g.2.2 H (by rw[p];exact C) hs h1 M h3 h4,h⟩
    ·exact False.elim h
   ·exact False.elim h
  ·exact OpX.sound h
 ·rename_i T T' x q;split at h
  ·rename_i k n i j J H C aj;split at h
   ·rename_i k' hs;exact⟨_,_,_,λcx p u=>y1t q (Aq A p u) J H (by rw[p];exact C) (by rw[p];exact aj) hs,h⟩
   ·exact OpX.sound h
  ·exact OpX.sound h
 ·rename_i f first ps q;split at h
  ·rename_i aa g;have:first=#[]:=by cases first;simp at aa;subst aa;rfl
   subst this;exact⟨_,_,_,λcx p u=>y00 q (Aq A p u) g rfl,h⟩
  ·exact OpX.sound h
 ·rename_i c q;obtain⟨callee,args,tys⟩:=c;simp only at h;split at h
  ·exact zmn q A h
  ·rename_i x;split at h
   ·rename_i F;simp only[aB]at F;exact zxf q A F.1 F.2 h
   ·exact False.elim h
  ·exact OpX.sound h
 ·exact OpX.sound h
end
variable {α:Type}
def fEnt:Ent->(Ent->α)->α |.box ty cs,k=>fL cs λl=>k (.box ty l) |.row ty sz xs,k=>k (.row ty sz xs) |.mp ps,k=>k (.mp ps) |.nest ty es,k=>k (.nest ty es) |.mpn ps,k=>k (.mpn ps) |.are ty idx os,k=>k (.are ty idx os) |.it ps,k=>k (.it ps) |.itp ps,k=>k (.itp ps) |.itc p ps,k=>k (.itc p ps) |.dead,k=>k .dead
theorem ya5 (e:Ent)(k:Ent->α):fEnt e k=k e:=by cases e<;>simp only[fEnt,P5]
def eApp:List (Nat×Ent)->List (Nat×Ent)->(List (Nat×Ent)->α)->α |[],me,k=>k me |(i,e)::r,me,k=>fEnt e λb=>eApp r me λl=>k ((i,b)::l)
theorem zwm:∀(wr me:List (Nat×Ent)) (k:List (Nat×Ent)->α),eApp wr me k=k (wr++me)
 |[],me,k=>rfl
 |(i,e)::r,me,k=>by rw[eApp,ya5,zwm];rfl
def upK (σ:AS)(d:Option Nat)(av:AV)(wr:List (Nat×Ent))(k:AS->α):α :=
 fAV av λb=>match σ,d with
  |⟨tm,me⟩,some d=>eApp wr me λme'=>k ⟨(d,b)::tm,me'⟩
  |⟨tm,me⟩,none=>eApp wr me λme'=>k ⟨tm,me'⟩
theorem y7e (σ:AS)(d:Option Nat)(av:AV)(wr:List (Nat×Ent))(k:AS->α):upK σ d av wr k=k (σ.upd d av wr):=by
 unfold upK;rw[P0];obtain⟨tm,me⟩:=σ;cases d<;>simp only[zwm]<;>rfl
def fAS (σ:AS)(k:AS->α):α:=match σ with
 |⟨(d,av)::tm,me⟩=>fAV av λb=>eApp me [] λme'=>k ⟨(d,b)::tm,me'⟩
 |⟨[],me⟩=>k ⟨[],me⟩
theorem y7w (σ:AS)(k:AS->α):fAS σ k=k σ:=by
 obtain⟨tm,me⟩:=σ;cases tm with
 |nil=>rfl
 |cons x tm=>obtain⟨d,av⟩:=x;simp only[fAS,P0,zwm,append_nil]
theorem znb {t:Nat}{b:Bool}(h:σ.get t=.bool b):Ext (σ.upd (some t) (.bool b) []) σ :=
 ⟨λu=>by
  rw[cD];by_cases c:t=u
  ·subst c;rw[if_pos rfl,h]
  ·rw[if_neg (λe=>c (by injection e))],λi=>by rw[AS.find_upd];rfl⟩
inductive Bu
 |code (c:Code)
 |blk (id:Nat)
 |ops (d:Bool) (os:Array Oper) (l:List Oper) (kn:Kn) (trs:List Tr)
inductive Stop
 |fin (e:Exit) (σ:AS)
 |no
 |more (K:List Bu) (e:Exit) (σ:AS)
 |ask (p:OpK->Prop) (dst:Option Nat) (d:Bool) (os:Array Oper) (l:List Oper) (kn:Kn) (trs:List Tr) (K:List Bu) (σ:AS)
 |guard (c:Bool) (t:Nat) (d:Bool) (os:Array Oper) (l:List Oper) (kn:Kn) (trs:List Tr) (K:List Bu) (σ:AS)
 |cond (b:Bool) (x y:Code) (K:List Bu) (σ:AS)
 |loop (c:Code) (K:List Bu) (σ:AS)
 |rng (gv:AV) (ps:Array Tmp) (a b:Code) (K:List Bu) (σ:AS)
 |draw (os:Array Oper) (trs:List Tr) (K:List Bu) (σ:AS)
abbrev Goer:=List Bu->Exit->AS->Stop
def opGo (rec:Goer)(d:Bool)(os:Array Oper)(o:Oper)(l:List Oper)(kn:Kn)(trs:List Tr)(K:List Bu)(σ:AS):Di->Stop |.no=>.no |.val av ids wr=>upK σ o.dst av wr λb=>rec (.ops d os l (Uo o.dst kn) (⟨av,ids,wr⟩::trs)::K) .normal b |.ask p=>.ask p o.dst d os l (Uo o.dst kn) trs K σ
def skGo (rec:Goer)(d:Bool)(os:Array Oper)(o:Oper)(l:List Oper)(kn:Kn)(trs:List Tr)(K:List Bu)(σ:AS):Stop:=upK σ o.dst (.tup []) [] λb=>rec (.ops d os l (Uo o.dst kn) (⟨.tup [],[],[]⟩::trs)::K) .normal b
def y9h (E:Env)(nt:Nat)(rec:Goer)(d:Bool)(os:Array Oper)(kn:Kn)(trs:List Tr)(K:List Bu)(σ:AS):List Oper->Stop
 |[]=>match d with|true=>.draw os trs.reverse K σ|false=>rec K .normal σ
 |o::l=>match o.guard with
  |none=>opGo rec d os o l kn trs K σ (aop E nt kn o σ)
  |some (g,want)=>match dokN E nt o.dst,C0 os g with
   |true,some t=>match lkB kn t,want with
    |some true,true=>opGo rec d os o l kn trs K σ (aop E nt kn o σ)
    |some false,false=>opGo rec d os o l kn trs K σ (aop E nt kn o σ)
    |some true,false=>skGo rec d os o l kn trs K σ
    |some false,true=>skGo rec d os o l kn trs K σ
    |none,_=>match σ.get t with
     |.bool c=>.guard c t d os (o::l) kn trs K σ
     |.tup []=>skGo rec d os o l kn trs K σ
     |_=>.no
   |_,_=>.no
def Uh (ids:List Nat)(rec:Goer)(K:List Bu)(σ:AS):Code->Stop
 |.skip=>rec K .normal σ
 |.ret=>rec K .ret σ
 |.exit id=>rec K (.exit id) σ
 |.seq x y=>rec (.code x::.code y::K) .normal σ
 |.block id c=>rec (.code c::.blk id::K) .normal σ
 |.cond c x y=>match A6 c,σ.eval c with
  |true,.bool b=>.cond b x y K σ
  |_,_=>.no
 |.region id os d=>match memB id ids with
  |true=>.more (.code (.region id os d)::K) .normal σ
  |false=>rec (.ops d os os.toList [] []::K) .normal σ
 |.loop c=>.loop c K σ
 |.rangeFunc g ps a b=>match A6 g with
  |true=>.rng (σ.eval g) ps a b K σ
  |false=>.no
 |_=>.no
def y3n (rec:Goer)(σ:AS)(e:Exit):List Bu->Stop
 |[]=>.fin e σ
 |.blk id::K=>match e with
  |.exit b=>match aC b id with|true=>rec K .normal σ|false=>rec K (.exit b) σ
  |e=>rec K e σ
 |.code _::K=>rec K e σ
 |.ops _ _ _ _ _::_=>.no
def ybw (E:Env)(nt:Nat)(ids:List Nat)(rec:Goer)(σ:AS):List Bu->Stop |[]=>.fin .normal σ |.blk _::K=>rec K .normal σ |.code c::K=>Uh ids rec K σ c |.ops d os l kn trs::K=>y9h E nt rec d os kn trs K σ l
def go (E:Env)(nt:Nat)(ids:List Nat):Nat->Goer
 |0,K,e,σ=>.more K e σ
 |n+1,K,e,σ=>match e with
  |.normal=>ybw E nt ids (go E nt ids n) σ K
  |e=>y3n (go E nt ids n) σ e K
def KW (cx:Cx)(R:Exit->AS->Prop):List Bu->Exit->AS->Prop |[],e,σ=>R e σ |.blk id::K,e,σ=>Ol id (KW cx R K) e σ |.code c::K,.normal,σ=>WP cx c (KW cx R K) σ |.code _::K,e,σ=>KW cx R K e σ |.ops d os l kn trs::K,.normal,σ=>KnOk σ kn->∀i,os.toList.drop i=l->Exec cx os i σ trs λb f=>(d=true->U8 os=true/\Uq os b=true)/\KW cx R K .normal f |.ops _ _ _ _ _::_,_,_=>False
structure AW (E:Env) (nt:Nat) (R:Exit->AS->Prop) (K:List Bu) (e:Exit) (σ:AS):Prop where
 out:∀cx:Cx,cx.E=E->cx.nt=nt->KW cx R K e σ
def Ee (E:Env)(nt:Nat)(R:Exit->AS->Prop):Stop->Prop |.fin e σ=>R e σ |.no=>False |.more K e σ=>AW E nt R K e σ |.ask p dst d os l kn trs K σ=>p λav ids wr=>AW E nt R (.ops d os l kn (⟨av,ids,wr⟩::trs)::K) .normal (σ.upd dst av wr) |.guard c t d os l kn trs K σ=>A3 c (AW E nt R (.ops d os l ((t,true)::kn) trs::K) .normal (σ.upd (some t) (.bool true) [])) (AW E nt R (.ops d os l ((t,false)::kn) trs::K) .normal (σ.upd (some t) (.bool false) [])) |.cond b x y K σ=>A3 b (AW E nt R (.code x::K) .normal σ) (AW E nt R (.code y::K) .normal σ) |.loop c K σ=>Au E nt (λnext f=>AW E nt (Cv next (AW E nt R K)) [.code c] .normal f) σ |.rng gv ps a b K σ=>RngX E nt gv ps a b σ (λf=>AW E nt R K .normal f) |.draw os trs K σ=>(U8 os=true/\Uq os trs=true)/\AW E nt R K .normal σ
section
variable {E:Env} {nt:Nat} {R:Exit->AS->Prop}
variable {K:List Bu}
theorem yad {c:Code}{e:Exit}(h:KW cx R (.code c::K) e σ):Cv (WP cx c (KW cx R K)) (KW cx R K) e σ:=by cases e<;>exact h
variable {rec:Goer}{os:Array Oper}
theorem zn6 (b:∀K e σ,Ee E nt R (rec K e σ)->AW E nt R K e σ){d:Bool}{o:Oper}{l:List Oper}{trs:List Tr}(c:KnOk σ kn)
  (h:Ee E nt R (opGo rec d os o l kn trs K σ (aop E nt kn o σ))):Dr E nt o σ λav ids wr=>AW E nt R (.ops d os l (Uo o.dst kn) (⟨av,ids,wr⟩::trs)::K) .normal (σ.upd o.dst av wr):=by
 refine y4e c ?_;generalize aop E nt kn o σ=r at h;cases r with
 |no=>exact h
 |val av ids wr=>simp only[opGo,y7e]at h;exact b _ _ _ h
 |ask p=>exact h
theorem zwa (p:∀K e σ,Ee E nt R (rec K e σ)->AW E nt R K e σ){d:Bool}{l:List Oper}{trs:List Tr}
  (h:Ee E nt R (y9h E nt rec d os kn trs K σ l)):AW E nt R (.ops d os l kn trs::K) .normal σ:=by
 refine⟨λcx u s f i F=>?_⟩;cases l with
 |nil =>
  refine Exec.done (by have:=congrArg length F;simp at this;omega) ?_;cases d with
  |true=>exact⟨λ_=>h.1,h.2.out cx u s⟩
  |false=>exact⟨λQ=>by simp at Q,(p _ _ _ h).out cx u s⟩
 |cons o l =>
  have hi:i<os.size:=by
   have:=congrArg length F;simp at this;omega
  have G:os[i]? = some o:=by
   have O:(os.toList.drop i)[0]? = some o:=by rw[F];rfl
   rw[getElem?_drop,Nat.add_zero]at O;simpa using O
  have m:os.toList.drop (i+1)=l:=by
   rw[<-drop_drop,F];rfl
  have N:C0 os i=o.dst:=by simp[C0,G]
  rw[y9h]at h;split at h
  ·rename_i H;obtain⟨av,ids,wr,J,k⟩:=zn6 p f h;exact Exec.op G H (J cx u s) (k.out cx u s (f.upd _ _ _) (i+1) m)
  ·rename_i g want H;split at h
   ·rename_i t B M;have B:dok cx o=true:=Aq B u s;have run:σ.get t=.bool want->Ee E nt R (opGo rec d os o l kn trs K σ (aop E nt kn o σ))->Exec cx os i σ trs (λq A=>(d=true->U8 os=true/\Uq os q=true)/\KW cx R K .normal A):=λC k=>by
     obtain⟨av,ids,wr,J,k⟩:=zn6 p f k;exact Exec.cons hi (Ao.step_guard G H M C rfl (J cx u s)) (by rw[N];exact k.out cx u s (f.upd _ _ _) (i+1) m)
    have skip:((∃b,σ.get t=.bool b/\b≠want)\/σ.get t=.tup [])->Ee E nt R (skGo rec d os o l kn trs K σ)->Exec cx os i σ trs (λq A=>(d=true->U8 os=true/\Uq os q=true)/\KW cx R K .normal A):=λC k=>by
     unfold skGo at k;rw[y7e]at k;exact Exec.cons hi (zh7 G B H M C) (by rw[N];exact(p _ _ _ k).out cx u s (f.upd _ _ _) (i+1) m)
    split at h
    ·rename_i k;exact run (f _ _ k) h
    ·rename_i k;exact run (f _ _ k) h
    ·rename_i k;exact skip (aJ ⟨_,f _ _ k,Δ⟩) h
    ·rename_i k;exact skip (aJ ⟨_,f _ _ k,Δ⟩) h
    ·split at h
     ·rename_i c I;cases h with
      |mk h1 U =>
       cases z:c with
       |true =>
        have D:σ.get t=.bool true:=by rw[I,z]
        exact Exec.ext (znb D) ((h1 z).out cx u s (f.know t true) i F)
       |false =>
        have D:σ.get t=.bool false:=by rw[I,z]
        exact Exec.ext (znb D) ((U z).out cx u s (f.know t false) i F)
     ·rename_i I;exact skip (aH I) h
     ·exact False.elim h
   ·exact False.elim h
theorem zt6 (b:∀K e σ,Ee E nt R (rec K e σ)->AW E nt R K e σ){e:Exit}(p:e≠.normal)(h:Ee E nt R (y3n rec σ e K)):AW E nt R K e σ:=by
 refine⟨λcx k g=>?_⟩
 match K with
 |[]=>exact h
 |.code c::K =>
  have h:=(b _ _ _ h).out cx k g;cases e<;>first|exact absurd rfl p|exact h
 |.ops _ _ _ _ _::K=>exact False.elim h
 |.blk id::K =>
  cases e with
  |normal=>exact absurd rfl p
  |exit f =>
   rw[y3n]at h;split at h
   ·rename_i m;have:=nbeq m;subst this;show Ol f (KW cx R K) (.exit f) σ;simp only[Ol,if_true];exact(b _ _ _ h).out cx k g
   ·rename_i m;show Ol id (KW cx R K) (.exit f) σ;simp only[Ol];rw[if_neg (nbne m)];exact(b _ _ _ h).out cx k g
  |_=>exact(b _ _ _ h).out cx k g
theorem zu9 (f:∀K e σ,Ee E nt R (rec K e σ)->AW E nt R K e σ){c:Code}(h:Ee E nt R (Uh ids rec K σ c)):AW E nt R (.code c::K) .normal σ:=by
 refine⟨λcx q p=>?_⟩;show WP cx c (KW cx R K) σ
 match c with
 |.skip=>exact WP.skip ((f _ _ _ h).out cx q p)
 |.ret=>exact WP.ret ((f _ _ _ h).out cx q p)
 |.exit id=>exact WP.exit ((f _ _ _ h).out cx q p)
 |.seq x y =>
  have h:=(f _ _ _ h).out cx q p;exact WP.seq (bZ h λe s hk=>yad hk)
 |.block id c=>exact WP.block ((f _ _ _ h).out cx q p)
 |.cond c x y =>
  rw[Uh]at h;split at h
  ·rename_i b J hc;cases h with
   |mk h1 z=>exact WP.cond J hc (λW=>(h1 W).out cx q p) (λW=>(z W).out cx q p)
  ·exact False.elim h
 |.region id os false =>
  rw[Uh]at h;split at h
  ·exact h.out cx q p
  obtain⟨trs,s,H,z,C⟩:=(f _ _ _ h).out cx q p (λt b h=>by simp[lkB]at h) 0 rfl;exact WP.region ⟨trs,s,H,C⟩
 |.region id os true =>
  rw[Uh]at h;split at h
  ·exact h.out cx q p
  obtain⟨trs,s,H,z,C⟩:=(f _ _ _ h).out cx q p (λt b h=>by simp[lkB]at h) 0 rfl;exact cE (z rfl).1 ⟨trs,s,H,(z rfl).2,C⟩
 |.loop c =>
  cases h with
  |mk I n τ O h0 round =>
   refine WP.loop (λn σ=>∃τ,LeX E nt σ τ/\I n τ) n ⟨τ,O,h0⟩ (λn σ ⟨τ,O,hI⟩=>WP.weaken (O cx q p) ?_);refine bZ ((round n τ hI).out cx q p) (λe s X=>?_);cases e with
   |normal=>obtain⟨m,D,h1,z,C⟩:=X;exact⟨m,z,D,h1,C⟩
   |_=>exact X.out cx q p
 |.rangeFunc g ps a b =>
  rw[Uh]at h;split at h
  ·rename_i V;cases h with
   |mk gf cap U he F B A pp Y ycaps ccaps me me' dead G Q Z N M u k =>
    subst q;subst p;exact WP.rangeFunc F B A V U he G Q Z N.le M u (k.out _ rfl rfl)
  ·exact False.elim h
 |.scope c=>exact False.elim h
 |.label l=>exact False.elim h
 |.goto l=>exact False.elim h
 |.refuse w=>exact False.elim h
theorem Tz:∀(n:Nat) (K:List Bu) (e:Exit) (σ:AS),Ee E nt R (go E nt ids n K e σ)->AW E nt R K e σ
 |0,K,e,σ,h=>h
 |n+1,K,e,σ,h=>by
  unfold go at h;split at h
  ·match K with
   |[]=>exact⟨λcx _ _=>h⟩
   |.blk id::K=>exact⟨λcx g f=>(Tz n _ _ _ h).out cx g f⟩
   |.code c::K=>exact zu9 (Tz n) h
   |.ops d os l kn trs::K=>exact zwa (Tz n) h
  ·rename_i b;exact zt6 (Tz n) b h
theorem AW.step {e:Exit}(h:Ee E nt R (fAS σ λb=>go E nt [] 1000000 K e b)):AW E nt R K e σ:=by
 rw[y7w]at h;exact Tz _ _ _ _ h
theorem AW.stepU (ids:List Nat){e:Exit}(h:Ee E nt R (fAS σ λb=>go E nt ids 1000000 K e b)):AW E nt R K e σ:=by
 rw[y7w]at h;exact Tz _ _ _ _ h
theorem AW.into {id:Nat}{d:Bool}(h:AW E nt R (.ops d os os.toList [] []::K) .normal σ):AW E nt R (.code (.region id os d)::K) .normal σ:=⟨λcx p m=>by
 obtain⟨trs,c,f,k,g⟩:=h.out cx p m (λt b h=>by simp[lkB]at h) 0 rfl;cases d with
 |false=>exact WP.region ⟨trs,c,f,g⟩
 |true=>exact cE (k rfl).1 ⟨trs,c,f,(k rfl).2,g⟩⟩
end
variable {E:Env}{fn:Func}{args:List AV}
theorem Con.walk {p:Bool}{f:FuncId}(c:Code)(t:E.P.funcs[f]? = some fn)(z:fn.body=some c)(u:Cd E f)(q:aX args.length fn.ntmps=true)(m:p=false\/res.flat=true)
  (h:AW E fn.ntmps (EndA E fn res) [.code c] .normal (E9 args)) (g:E.rg=false:=by rfl) (b:E.yl=none:=by rfl) (k:E.np=0:=by rfl)(g:E.rg=false:=by rfl) (b:E.yl=none:=by rfl) (k:E.np=0:=by rfl):Con E p f args res :=
 Con.of t z u (aG q) m (λS w=>bZ (h.out (Cx.call E S w fn.ntmps) rfl rfl) λe σ s=>by cases e<;>exact s) g b k
variable {ty:Nat}
theorem Fw.walk {f:FuncId}(c:Code)(q:E.P.funcs[f]? = some fn)(t:fn.body=some c)(s:Cd E f)(m:aX args.length fn.ntmps=true)
  (h:AW E fn.ntmps (EndR fn ty sz xs) [.code c] .normal (E9 args)) (g:E.rg=false:=by rfl) (b:E.yl=none:=by rfl) (k:E.np=0:=by rfl)(g:E.rg=false:=by rfl) (b:E.yl=none:=by rfl) (k:E.np=0:=by rfl):Fw E f args ty sz xs :=
 Fw.of q t s (aG m) (λS w=>bZ (h.out (Cx.call E S w fn.ntmps) rfl rfl) λe σ p=>by cases e<;>exact p) g b k
variable {nt:Nat}
theorem LeX.of (ps:List (Nat×Nat))(b:injB (rho ps) (τ.me.map (·.1))=true)(h1:LeV σ (rho ps) (τ.me.map (·.1)) τ.tm)(c:LeE σ (rho ps) (τ.me.map (·.1)) τ.me):LeX E nt σ τ:=λ_ _ _=>Le.of ps b h1 c
open Go.RowKit
theorem LeX.refl (E:Env)(nt:Nat)(σ:AS):LeX E nt σ σ:=λ_ _ _=>Le.refl _ _
theorem LeX.trans {a b c:AS}(h:LeX E nt a b)(k:LeX E nt b c):LeX E nt a c:=λcx g f=>(h cx g f).trans (k cx g f)
theorem Le.adopt_aux {a:Act}(h:StG cx γ σ a w){r ty sz:Nat}(t:σ.find r=none) :
  (∀av v,Rep w (Sg cx.S0 cx.w0.heap.size γ) γ av v->Rep w (Sg cx.S0 cx.w0.heap.size (γ.set r (some (none,.slice none 0 0)))) (γ.set r (some (none,.slice none 0 0))) av v) /\
  (∀i x,γ i=some x->i≠r)/\(∀b,own (γ.set r (some (none,.slice none 0 0))) b->own γ b):=by
 have m:γ r=none:=by have:=h.me r;rw[t]at this;exact this
 have g:∀i x,γ i=some x->i≠r:=λi x f e=>by subst e;rw[m]at f;cases f
 have c:∀b,own (γ.set r (some (none,.slice none 0 0))) b->own γ b:=λb ⟨i,s,hi,hm⟩=>by
  by_cases k:i=r
  ·subst k;rw[aE]at hi;injection hi with hi;subst hi;exact(Tv (s:=.slice none 0 0) rfl hm).elim
  ·rw[aF _ _ _ k]at hi;exact⟨i,s,hi,hm⟩
 refine⟨λav v q=>(q.mono (aD _) (λb p _=>⟨rfl,?_⟩)).gam (λi x f=>aJ ?_),g,c⟩
 ·rcases p with p|⟨h1,z⟩
  ·exact aJ p
  ·exact aH ⟨h1,λu=>z (c b u)⟩
 ·rw[aF _ _ _ (g i x f)];exact f
theorem y2y {B:Nat}:Bm w S γ B (some (none,.slice none 0 0)) (.row ty sz []) :=
 ⟨.slice none 0 0,[],rfl,rfl,World.ownsRow_nil w _ _ _,λk b=>absurd b Δ,λk b=>absurd b Δ,λu c=>absurd c Δ⟩
def AS.adopt (σ:AS)(t r ty sz:Nat):AS:=⟨(t,.row r)::σ.tm,(r,.row ty sz [])::σ.me⟩
theorem LeX.adopt (t r ty sz:Nat)(G:σ.get t=.nils)(H:σ.find r=none):LeX E nt σ (σ.adopt t r ty sz):=λcx U Q a w ⟨γ,h⟩=>by
 obtain⟨F,D,k⟩:=Le.adopt_aux (ty:=ty) (sz:=sz) h H;refine⟨γ.set r (some (none,.slice none 0 0)),λu=>?_,λi=>?_,λi j b s C hi f mi mj=>?_,λb c=>h.ge b (k b c),h.below,h.size,h.defers.gam (λb c=>k b c),h.gh,λb c=>by obtain⟨O,N,M⟩:=h.fr b c;exact⟨λp=>O (k b p),N,M⟩,h.dr⟩
 ·by_cases A:t=u
  ·subst A;have e:(σ.adopt t r ty sz).get t=.row r:=by simp[AS.adopt,cK,lkV]
   rw[e];have:=h.tm t;rw[G]at this;rw[this.nils_inv];exact .row (aE _ _ _) (λg s e _=>by injection e with e;injection e with _ e)
  ·have e:(σ.adopt t r ty sz).get u=σ.get u:=by
    unfold AS.adopt cK;simp only[lkV];cases c:aC t u with
    |true=>exact absurd (aA c) A
    |false=>rfl
   rw[e];exact F _ _ (h.tm u)
 ·by_cases hi:r=i
  ·subst hi;have e:(σ.adopt t r ty sz).find r=some (.row ty sz []):=by simp[AS.adopt,aU,lkE]
   rw[e];exact⟨_,aE _ _ _,y2y⟩
  ·have e:(σ.adopt t r ty sz).find i=σ.find i:=by
    unfold AS.adopt aU;simp only[lkE];cases c:aC r i with
    |true=>exact absurd (aA c) hi
    |false=>rfl
   rw[e,aF _ _ _ (Ne.symm hi)];have:=h.me i;cases B:σ.find i with
   |none=>rw[B]at this;exact this
   |some en =>
    rw[B]at this;obtain⟨x,m,I⟩:=this;refine⟨x,m,I.move (aD _) (λb c _=>⟨rfl,?_⟩) (λi x m=>aJ (by rw[aF _ _ _ (D i x m)];exact m)) (λ_ _=>rfl)⟩;rcases c with c|⟨h1,J⟩
    ·exact aJ c
    ·exact aH ⟨h1,λp=>J (k b p)⟩
 ·have z:i≠r:=λe=>by subst e;rw[aE]at hi;injection hi with hi;subst hi;exact Tv (s:=.slice none 0 0) rfl mi
  have q:j≠r:=λe=>by subst e;rw[aE]at f;injection f with f;subst f;exact Tv (s:=.slice none 0 0) rfl mj
  rw[aF _ _ _ z]at hi;rw[aF _ _ _ q]at f;exact h.inj i j b s C hi f mi mj
def AS.adoptC (σ:AS)(id j r ty sz bt:Nat)(cs:List AV):AS:=⟨σ.tm,(id,.box bt (cs.set j (.row r)))::(r,.row ty sz [])::σ.me⟩
theorem LeX.adoptC (id j r ty sz bt:Nat)(cs:List AV)(k:σ.find id=some (.box bt cs))(f:cs[j]? = some .nils)(N:σ.find r=none):LeX E nt σ (σ.adoptC id j r ty sz bt cs):=λcx hE hn a w ⟨γ,h⟩=>by
 obtain⟨M,U,C⟩:=Le.adopt_aux (ty:=ty) (sz:=sz) h N;have G:id≠r:=λe=>by subst e;rw[N]at k;cases k
 have X:∀b,Sg cx.S0 cx.w0.heap.size γ b->Sg cx.S0 cx.w0.heap.size (γ.set r (some (none,.slice none 0 0))) b:=λb c=>c.elim aJ (λ⟨h1,Y⟩=>aH ⟨h1,λF=>Y (C b F)⟩)
 refine⟨γ.set r (some (none,.slice none 0 0)),λu=>M _ _ (h.tm u),λi=>?_,λi j b s Q hi f mi mj=>?_,λb c=>h.ge b (C b c),h.below,h.size,h.defers.gam (λb c=>C b c),h.gh,λb c=>by obtain⟨f2,f3,Z⟩:=h.fr b c;exact⟨λF=>f2 (C b F),f3,Z⟩,h.dr⟩
 ·by_cases hi:id=i
  ·subst hi;have e:(σ.adoptC id j r ty sz bt cs).find id=some (.box bt (cs.set j (.row r))):=by simp[AS.adoptC,aU,lkE]
   rw[e];have hm:=h.me id;rw[k]at hm;obtain⟨x,q,g,vs,W,c,D,t,z⟩:=hm;refine⟨x,by rw[aF _ _ _ G];exact q,g,vs,W,c,by simpa using D,λm hm=>?_,z⟩;have A:m<cs.length:=by simpa using hm
   rw[getElem_set];by_cases B:j=m
   ·subst B;rw[if_pos rfl];have:=t j A;rw[(List.getElem?_eq_some_iff.1 f).2]at this;rw[this.nils_inv];exact .row (aE _ _ _) (λg s e _=>by injection e with e;injection e with _ e)
   ·rw[if_neg B];exact M _ _ (t m A)
  ·by_cases p:r=i
   ·subst p;have e:(σ.adoptC id j r ty sz bt cs).find r=some (.row ty sz []):=by
     unfold AS.adoptC aU;simp only[lkE];cases c:aC id r with
     |true=>exact absurd (aA c) hi
     |false=>simp
    rw[e];exact⟨_,aE _ _ _,y2y⟩
   ·have e:(σ.adoptC id j r ty sz bt cs).find i=σ.find i:=by
     unfold AS.adoptC aU;simp only[lkE];cases c:aC id i with
     |true=>exact absurd (aA c) hi
     |false =>
      cases J:aC r i with
      |true=>exact absurd (aA J) p
      |false=>rfl
    rw[e,aF _ _ _ (Ne.symm p)];have:=h.me i;cases O:σ.find i with
    |none=>rw[O]at this;exact this
    |some en =>
     rw[O]at this;obtain⟨x,q,V⟩:=this;exact⟨x,q,V.move (aD _) (λb c _=>⟨rfl,X b c⟩) (λi x q=>aJ (by rw[aF _ _ _ (U i x q)];exact q)) (λ_ _=>rfl)⟩
 ·have I:i≠r:=λe=>by subst e;rw[aE]at hi;injection hi with hi;subst hi;exact Tv (s:=.slice none 0 0) rfl mi
  have H:j≠r:=λe=>by subst e;rw[aE]at f;injection f with f;subst f;exact Tv (s:=.slice none 0 0) rfl mj
  rw[aF _ _ _ I]at hi;rw[aF _ _ _ H]at f;exact h.inj i j b s Q hi f mi mj
open Go.RowKit
def AS.freeze (σ:AS)(t r sz:Nat)(xs:List AV):AS:=⟨(t,.sl sz xs)::σ.tm,(r,.dead)::σ.me⟩
theorem LeX.freeze (t r ty sz:Nat)(xs:List AV)(O:σ.get t=.row r)(Q:σ.find r=some (.row ty sz xs)):LeX E nt σ (σ.freeze t r sz xs):=λcx Z Y a w ⟨γ,h⟩=>by
 have q:=h.me r;rw[Q]at q;obtain⟨d,H,G⟩:=q;have c:∀b,own (γ.set r none) b->own γ b/\∀s,γ r≠some (some (some b,s)):=λb ⟨i,s,hi,hm⟩=>by
  by_cases f:i=r
  ·subst f;rw[aE]at hi;injection hi with hi;subst hi;simp[blks]at hm
  ·rw[aF _ _ _ f]at hi;exact⟨⟨i,s,hi,hm⟩,λN C=>f (h.inj _ _ _ _ _ hi C hm C3)⟩
 have I:∀b,Sg cx.S0 cx.w0.heap.size γ b->Sg cx.S0 cx.w0.heap.size (γ.set r none) b:=λb k=>k.elim aJ (λ⟨h1,U⟩=>aH ⟨h1,λp=>U (c b p).1⟩)
 have z:∀i x,γ i=some x->γ.set r none i=some x\/γ.set r none i=some none\/Turn (γ.set r none) i x:=λi x B=>by
  by_cases f:i=r
  ·subst f;exact aH (aJ (aE _ _ _))
  ·exact aJ (by rw[aF _ _ _ f];exact B)
 have mv:∀{av v},Rep w (Sg cx.S0 cx.w0.heap.size γ) γ av v->Rep w (Sg cx.S0 cx.w0.heap.size (γ.set r none)) (γ.set r none) av v:=λA=>(A.mono (aD _) (λb k _=>⟨rfl,I b k⟩)).gam z
 refine⟨γ.set r none,λu=>?_,λi=>?_,λi j b s N hi m mi mj=>?_,λb k=>h.ge b (c b k).1,h.below,h.size,h.defers.gam (λb k=>(c b k).1),h.gh,λb k=>by obtain⟨X,W,V⟩:=h.fr b k;exact⟨λp=>X (c b p).1,W,V⟩,h.dr⟩
 ·by_cases J:t=u
  ·subst J;have e:(σ.freeze t r sz xs).get t=.sl sz xs:=by simp[AS.freeze,cK,lkV]
   rw[e];have A:=h.tm t;rw[O]at A;obtain⟨s,hs,D⟩:=Fv (S':=Sg cx.S0 cx.w0.heap.size (γ.set r none)) G (λb k _=>I b k) (λs g z=>aH ⟨(h.ge g (own.mk (id:=r) (s:=s) (by rw[H,z]))).1,λp=>(c g p).2 s (by rw[H,z])⟩) (γ.set r none);subst hs;rw[A.row_inv H];exact D
  ·have e:(σ.freeze t r sz xs).get u=σ.get u:=by
    unfold AS.freeze cK;simp only[lkV];cases k:aC t u with
    |true=>exact absurd (aA k) J
    |false=>rfl
   rw[e];exact mv (h.tm u)
 ·by_cases hi:r=i
  ·subst hi;have e:(σ.freeze t r sz xs).find r=some .dead:=by simp[AS.freeze,aU,lkE]
   rw[e];exact⟨none,aE _ _ _,rfl⟩
  ·have e:(σ.freeze t r sz xs).find i=σ.find i:=by
    unfold AS.freeze aU;simp only[lkE];cases k:aC r i with
    |true=>exact absurd (aA k) hi
    |false=>rfl
   rw[e,aF _ _ _ (Ne.symm hi)];have:=h.me i;cases M:σ.find i with
   |none=>rw[M]at this;exact this
   |some en =>
    rw[M]at this;obtain⟨x,B,G⟩:=this;exact⟨x,B,G.move (aD _) (λb k _=>⟨rfl,I b k⟩) z (λ_ _=>rfl)⟩
 ·have f:i≠r:=λe=>by subst e;rw[aE]at hi;injection hi with hi;subst hi;simp[blks]at mi
  have F:j≠r:=λe=>by subst e;rw[aE]at m;injection m with m;subst m;simp[blks]at mj
  rw[aF _ _ _ f]at hi;rw[aF _ _ _ F]at m;exact h.inj _ _ _ _ _ hi m mi mj
section
variable {E:Env} {nt:Nat} {R:Exit->AS->Prop}
theorem AW.weaken {c:Code}{K:List Bu}(g:LeX E nt σ τ)(h:AW E nt R (.code c::K) .normal τ):AW E nt R (.code c::K) .normal σ:=⟨λcx f b=>WP.weaken (g cx f b) (h.out cx f b)⟩
end
open Go.RowKit
def Ent.frz (r sz:Nat)(xs:List AV):Ent->Ent |.box ty cs=>.box ty (AV.frzL r sz xs cs) |e=>e
def AS.frzAll (σ:AS)(r sz:Nat)(xs:List AV):AS:=⟨σ.tm.map λp=>(p.1,p.2.frz r sz xs),(r,.dead)::σ.me.map λp=>(p.1,p.2.frz r sz xs)⟩
theorem y36 (g:AV->AV)(h:g .any=.any)(l:List (Nat×AV))(t:Nat):lkV (l.map λp=>(p.1,g p.2)) t=g (lkV l t):=by
 induction l with
 |nil=>simp[lkV,h]
 |cons p l b =>
  obtain⟨u,x⟩:=p;simp only[bT,lkV];cases aC u t<;>simp[b]
theorem y38 (g:Ent->Ent)(l:List (Nat×Ent))(t:Nat):lkE (l.map λp=>(p.1,g p.2)) t=(lkE l t).map g:=by
 induction l with
 |nil=>simp[lkE]
 |cons p l b =>
  obtain⟨u,x⟩:=p;simp only[bT,lkE];cases aC u t<;>simp[b]
theorem LeX.frzAll (r ty sz:Nat)(xs:List AV)(O:σ.find r=some (.row ty sz xs)):LeX E nt σ (σ.frzAll r sz xs):=λcx hE Z a w ⟨γ,h⟩=>by
 have A:=h.me r;rw[O]at A;obtain⟨d,H,C⟩:=A;have c:∀b,own (γ.set r none) b->own γ b/\∀s,γ r≠some (some (some b,s)):=λb ⟨i,s,hi,hm⟩=>by
  by_cases f:i=r
  ·subst f;rw[aE]at hi;injection hi with hi;subst hi;simp[blks]at hm
  ·rw[aF _ _ _ f]at hi;exact⟨⟨i,s,hi,hm⟩,λN F=>f (h.inj _ _ _ _ _ hi F hm C3)⟩
 have I:∀b,Sg cx.S0 cx.w0.heap.size γ b->Sg cx.S0 cx.w0.heap.size (γ.set r none) b:=λb k=>k.elim aJ (λ⟨h1,J⟩=>aH ⟨h1,λz=>J (c b z).1⟩)
 have B:∀i x,γ i=some x->γ.set r none i=some x\/γ.set r none i=some none\/Turn (γ.set r none) i x:=λi x p=>by
  by_cases f:i=r
  ·subst f;exact aH (aJ (aE _ _ _))
  ·exact aJ (by rw[aF _ _ _ f];exact p)
 obtain⟨s,hs,t⟩:=Fv (S':=Sg cx.S0 cx.w0.heap.size (γ.set r none)) C (λb k _=>I b k) (λs g B=>aH ⟨(h.ge g (own.mk (id:=r) (s:=s) (by rw[H,B]))).1,λz=>(c g z).2 s (by rw[H,B])⟩) (γ.set r none);have mv:∀{av v},Rep w (Sg cx.S0 cx.w0.heap.size γ) γ av v->Rep w (Sg cx.S0 cx.w0.heap.size (γ.set r none)) (γ.set r none) (av.frz r sz xs) v:=λD =>
  (D.mono (aD _) (λb k _=>⟨rfl,I b k⟩)).frz (λi x hi p=>by rw[aF _ _ _ hi];exact p) H (aE _ _ _) (λv D=>by rw[D _ _ hs t.sl_tup];exact t)
 refine⟨γ.set r none,λu=>?_,λi=>?_,λi j b s N hi q mi mj=>?_,λb k=>h.ge b (c b k).1,h.below,h.size,h.defers.gam (λb k=>(c b k).1),h.gh,λb k=>by obtain⟨Y,X,W⟩:=h.fr b k;exact⟨λz=>Y (c b z).1,X,W⟩,h.dr⟩
 ·have e:(σ.frzAll r sz xs).get u=(σ.get u).frz r sz xs:=y36 _ rfl _ _;rw[e];exact mv (h.tm u)
 ·by_cases hi:r=i
  ·subst hi;have e:(σ.frzAll r sz xs).find r=some .dead:=by simp[AS.frzAll,aU,lkE]
   rw[e];exact⟨none,aE _ _ _,rfl⟩
  ·have e:(σ.frzAll r sz xs).find i=(σ.find i).map (Ent.frz r sz xs):=by
    unfold AS.frzAll aU;simp only[lkE];cases k:aC r i with
    |true=>exact absurd (aA k) hi
    |false=>exact y38 _ _ _
   rw[e,aF _ _ _ (Ne.symm hi)];have:=h.me i;cases M:σ.find i with
   |none=>rw[M]at this;exact this
   |some en =>
    rw[M]at this;obtain⟨x,p,C⟩:=this;cases en with
    |box ty cs =>
     obtain⟨g,vs,h1,J,V,U,Q⟩:=C;exact⟨x,p,g,vs,h1,J,by rw[V,AV.frzL_length],λi hi=>by
      have m:=hi;rw[AV.frzL_length]at m;rw[AV.frzL_at r sz xs _ i m];exact mv (U i m),Q⟩
    |_=>exact⟨x,p,C.move (aD _) (λb k _=>⟨rfl,I b k⟩) B (λ_ _=>rfl)⟩
 ·have f:i≠r:=λe=>by subst e;rw[aE]at hi;injection hi with hi;subst hi;simp[blks]at mi
  have G:j≠r:=λe=>by subst e;rw[aE]at q;injection q with q;subst q;simp[blks]at mj
  rw[aF _ _ _ f]at hi;rw[aF _ _ _ G]at q;exact h.inj _ _ _ _ _ hi q mi mj
def zq8 (σ:AS)(i:Nat):AV->AV
 |.row j=>match aC j i with
  |true=>.row j
  |false=>match σ.find j with|some (.row _ sz xs)=>.sl sz xs|_=>.any
 |x=>match x.closed with|true=>x|false=>.any
def zq7 (σ:AS)(i:Nat):AV->AV |.agg cs=>.agg (cs.map (zq8 σ i)) |x=>zq8 σ i x
def y45 (σ:AS)(i:Nat):AV->AV |.tup cs=>.tup (cs.map (zq7 σ i)) |x=>zq7 σ i x
section
variable {cx:Cx} {σ:AS} {γ γ':Gam} {a:Act} {w:World} {S':Nat->Prop} {i:Nat} {x:Option (Option Nat×Value)}
theorem zks (k:StG cx γ σ a w)(hi:γ i=some x)(q:γ' i=some x)(u:∀b,Sg cx.S0 cx.w0.heap.size γ b->S' b)(A:∀j b s,j≠i->γ j=some (some (some b,s))->S' b)(h:Rep w (Sg cx.S0 cx.w0.heap.size γ) γ av v):Rep w S' γ' (zq8 σ i av) v:=by
 have cl:∀av v,Rep w (Sg cx.S0 cx.w0.heap.size γ) γ av v->Rep w S' γ' (match av.closed with|true=>av|false=>.any) v:=λav v h=>by
  cases F:av.closed with
  |true=>exact(h.close F).mono (aD _) (λb c _=>⟨rfl,u b c⟩)
  |false=>exact .any _
 cases av with
 |row j =>
  simp only[zq8];cases c:aC j i with
  |true =>
   have:=aA c;subst this;cases h with
   |row h z=>rw[hi]at h;injection h with h;subst h;exact .row q z
  |false =>
   have p:=aN c;simp only;have f:=k.me j;cases C:σ.find j with
   |none=>exact .any _
   |some e =>
    cases e with
    |row ty sz xs =>
     rw[C]at f;obtain⟨d,t,D⟩:=f;obtain⟨s,hs,m⟩:=Fv (S':=S') D (λb c _=>u b c) (λs g B=>A j g s p (by rw[t,B])) γ';subst hs;rw[h.row_inv t];exact m
    |_=>exact .any _
 |_=>exact cl _ _ h
theorem zkr (c:StG cx γ σ a w)(hi:γ i=some x)(f:γ' i=some x)(p:∀b,Sg cx.S0 cx.w0.heap.size γ b->S' b)(m:∀j b s,j≠i->γ j=some (some (some b,s))->S' b)(h:Rep w (Sg cx.S0 cx.w0.heap.size γ) γ av v):Rep w S' γ' (zq7 σ i av) v:=by
 cases av with
 |agg cs =>
  obtain⟨vs,rfl,t,q,h1⟩:=h.agg_inv;simp only[zq7];refine .agg vs (by simpa using t) (λk u=>?_) h1;have g:k<cs.length:=by simpa using u
  simp only[bH];exact zks c hi f p m (q k g)
 |_=>exact zks c hi f p m h
theorem y0w (c:StG cx γ σ a w)(hi:γ i=some x)(f:γ' i=some x)(p:∀b,Sg cx.S0 cx.w0.heap.size γ b->S' b)(m:∀j b s,j≠i->γ j=some (some (some b,s))->S' b)(h:Rep w (Sg cx.S0 cx.w0.heap.size γ) γ av v):Rep w S' γ' (y45 σ i av) v:=by
 cases av with
 |tup cs =>
  obtain⟨vs,rfl,t,q⟩:=h.tup_inv;simp only[y45];refine .tup vs (by simpa using t) (λk u=>?_);have g:k<cs.length:=by simpa using u
  simp only[bH];exact zkr c hi f p m (q k g)
 |_=>exact zkr c hi f p m h
end
inductive TX (E:Env) (nt:Nat) (fn:Func) (σ:AS) (ty sz:Nat) (xs:List AV) (res:AV):Prop
 |mk (τ:AS) (i:Nat) (hl:LeX E nt σ τ) (avs:List AV) (h1:retA E.tab τ fn.results.toList=some avs) (h2:τ.find i=some (.row ty sz xs)) (h3:Sub (y45 τ i (Kl avs)) (res.ren λ_=>i))
def EndT (E:Env)(nt:Nat)(fn:Func)(ty sz:Nat)(xs:List AV)(res:AV):Exit->AS->Prop |.normal,σ=>TX E nt fn σ ty sz xs res |.ret,σ=>TX E nt fn σ ty sz xs res |_,_=>False
theorem ConT.walk {f:FuncId}(c:Code)(hf:E.P.funcs[f]? = some fn)(m:fn.body=some c)(he:Cd E f)(hn:aX args.length fn.ntmps=true)(p:res.inM [0]=true)
  (h:AW E fn.ntmps (EndT E fn.ntmps fn ty sz xs res) [.code c] .normal (E9 args)) (M:E.rg=false:=by rfl) (I:E.yl=none:=by rfl) (O:E.np=0:=by rfl):ConT E f args ty sz xs res:=by
 refine⟨he,p,λS w vs ha=>callsIn_wide.1 (callsIn_of_wp (F:=Fence.wide) (n:=0) hf m trivial ?_)⟩;have h0:WP (Cx.call E S w fn.ntmps) c (EndT E fn.ntmps fn ty sz xs res) (E9 args):=bZ (h.out (Cx.call E S w fn.ntmps) rfl rfl) λe σ D=>by cases e<;>exact D
 refine wpIn_mono (h0 _ _ (Yf I O ha (aG hn))) (λe a w' ⟨σ,N,z⟩=>?_);have key:TX E fn.ntmps fn σ ty sz xs res->bodyPost E.P fn (λe w'=>∃u v us,e=.returned u/\Below w.heap.size w w'/\w'.ownsRow w.heap.size ty sz v xs.length us /\
  (∀k (D:k<xs.length),(xs[k]).cells.length=sz)/\(∀k (D:k<xs.length) j (H:j<(xs[k]).cells.length),Rep w' (λb=>(S b\/w.heap.size<=b)/\v.ownBlock≠some b) G0 ((xs[k]).cells[j]) (us.getD (k*sz+j) undef))/\(∀u∈us,u.oneCell'=true) /\
  ∀γ':Gam,γ' 0=some (some (v.ownBlock,v))->Rep w' (λb=>(S b\/w.heap.size<=b)/\v.ownBlock≠some b) γ' res u) .ret a w':=by
  rintro ⟨τ,i,hl,avs,h1,h2,h3⟩;obtain⟨γ,g⟩:=hl (Cx.call E S w fn.ntmps) rfl rfl a w' z;obtain⟨u,Y,Z⟩:=Tq g h1;have B:=g.me i;rw[h2]at B;obtain⟨d,G,s,us,U,V,A,C,J,q⟩:=B;subst U;have X:∀b,Sg (λb=>S b/\b<w.heap.size) w.heap.size γ b->(S b\/w.heap.size<=b)/\s.ownBlock≠some b:=λb m=>by
   refine⟨?_,λe=>?_⟩
   ·rcases m with⟨m,_⟩|⟨m,_⟩
    ·exact aJ m.1
    ·exact aH m.1
   ·have W:own γ b:=own.mk (id:=i) (s:=s) (by rw[G,e]);rcases m with⟨_,m⟩|⟨_,m⟩
    ·have:=(g.ge b W).1.1;exact absurd m (by show¬b<w.heap.size;exact Nat.not_lt.2 this)
    ·exact m W
  refine⟨g.defers.d0 M,u,Y,u,s,us,rfl,g.below,A,C,λk D j H=>(J k D j H).mono (aD _) (λb m _=>⟨rfl,X b m⟩),q,λγ' t=>?_⟩;have hc:=y0w (S':=λb=>(S b\/w.heap.size<=b)/\s.ownBlock≠some b) (γ':=λj=>if j=i then γ i else none) g G (by simp[G]) X (λj b s' H m=>⟨aH (g.ge b (own.mk m)).1.1,λe=>H (g.inj _ _ _ _ _ m G C3 (by rw[e];exact C3))⟩) Z;exact(hc.sub h3).ren (ids:=[0]) (ρ:=λ_=>i) (λid Q=>by
   have:id=0:=by simpa using Q
   subst this;rw[t];simp[G]) res rfl p
 cases e with
 |normal=>exact key N
 |ret=>exact key N
 |_=>exact N.elim
end Go.Proofs.YthbogefcfhmpgaaGreat
