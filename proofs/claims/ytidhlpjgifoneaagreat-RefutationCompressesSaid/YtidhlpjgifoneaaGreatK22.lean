/- The abstract walk. -/
import Derived.Test.YtidhlpjgifoneaaGreatK17
set_option linter.unusedVariables false
set_option linter.unusedSimpArgs false
namespace Go.Proofs.YtidhlpjgifoneaaGreat
open Go.RowKit List
open List renaming getD_eq_getElem?_getD->aA,getElem_cons_zero->aD,getElem_map->aE,length_map->aH,length_append->aL,length_set->aN,getElem?_map->aO,getElem_append_right->aR,getElem_append_left->aS,getElem_replicate->aU,replicate->aV,getElem_set->aW,map_cons->bA
open _root_.Array renaming getD_eq_getD_getElem?->aB,range->bC
open Or renaming inr->aC,inl->aF
open Nat renaming add_zero->aG,mul_one->aJ,zero_add->aM,eq_of_beq_eq_true->aP,le_refl->aQ,lt_of_lt_of_le->aT,beq->aX,le_of_lt->bB
open Option.some renaming injEq->aK
section
variable {cx:Cx} {o:Oper} {σ:AS}
variable {d:Nat}
theorem zed {e:Ent}(qs:List Nat)(i:Nat):lkE ((d,e)::qs.map fun q=>(q,Ent.dead)) i=if i=d then some e else if i∈qs then some .dead else none:=by
 simp only [lkE];by_cases h:i=d
 ·subst h;simp
 ·have a:aX d i=false:=by
   cases a:aX d i with
   |true=>exact absurd (aP a).symm h
   |false=>rfl
  rw [if_neg h,a]
  induction qs with
  |nil=>simp [lkE]
  |cons q r ih =>
   simp only [bA,lkE,mem_cons];by_cases h1:i=q
   ·subst h1;simp
   ·have a:aX q i=false:=by
     cases a:aX q i with
     |true=>exact absurd (aP a).symm h1
     |false=>rfl
    rw [a];simp only [h1,false_or];exact ih
variable {w:World}{v:Value}
theorem zna {γ:Gam}{τ:AS}{a:Act}{w':World}{qs:List Nat}{x0:Option (Option Nat×Value)}{e:Ent}{av:AV}(k:StG cx γ τ a w)(hd:∀ x,some d=some x->cx.E.np<=x/\x<cx.nt)(G:γ d=none)(Y:∀ q∈qs,∃ x,γ q=some x)
  (L:∀ b,b∈blks x0->(b=w.heap.size/\b<w'.heap.size)\/∃ q∈qs,∃ x,γ q=some x/\b∈blks x) (S:w.heap.size<=w'.heap.size) (u:∀ b,b<w.heap.size->(∀ q∈qs,∀ x,γ q=some x->b ∉ blks x)->w'.heap[b]? = w.heap[b]?) (J:Below cx.w0.heap.size w w') (P:cx.E.dr=true->w.drawn<=w'.drawn)
  (h:∀ γ':Gam,γ' d=some x0->(∀ b,Sg cx.S0 cx.w0.heap.size γ b->b<w.heap.size->w'.heap[b]? = w.heap[b]? /\ Sg cx.S0 cx.w0.heap.size γ' b)->Bq w' (Sg cx.S0 cx.w0.heap.size γ') γ' cx.w0.heap.size x0 e/\Rep w' (Sg cx.S0 cx.w0.heap.size γ') γ' av v) :
  St cx (τ.upd (some d) av ((d,e)::qs.map fun q=>(q,.dead))) (a.put (some d) v) w':=by
 let γ':Gam:=fun i=>if i=d then some x0 else if i∈qs then some none else γ i
 have M:γ' d=some x0:=if_pos rfl;have F:∀ i,i≠d->i∈qs->γ' i=some none:=fun i h1 g=>by show (if i=d then _ else if i∈qs then _ else _)=_;rw [if_neg h1,if_pos g]
 have D:∀ i,i≠d->i ∉ qs->γ' i=γ i:=fun i h1 g=>by show (if i=d then _ else if i∈qs then _ else _)=_;rw [if_neg h1,if_neg g]
 have p:∀ b,own γ' b->(b=w.heap.size/\b<w'.heap.size)\/own γ b:=fun b ⟨i,y,hi,hm⟩=>by
  by_cases h1:i=d
  ·subst h1;rw [M] at hi;injection hi with hi;subst hi
   rcases L b hm with h|⟨q,_,x,n,hm⟩
   ·exact aF h
   ·exact aC ⟨q,x,n,hm⟩
  ·by_cases g:i∈qs
   ·rw [F i h1 g] at hi;injection hi with hi;subst hi;cases hm
   ·rw [D i h1 g] at hi;exact aC ⟨i,y,hi,hm⟩
 have H:∀ b,Sg cx.S0 cx.w0.heap.size γ b->¬own γ b:=fun b B=>by
  rcases B with ⟨_,h⟩|⟨_,h⟩
  ·intro L;have:=(k.ge b L).1.1;omega
  ·exact h
 have V:∀ b,Sg cx.S0 cx.w0.heap.size γ b->b<w.heap.size->w'.heap[b]? = w.heap[b]? /\ Sg cx.S0 cx.w0.heap.size γ' b:=fun b B z=>by
  refine ⟨u b z (fun q _ x n hm=>H b B ⟨q,x,n,hm⟩),?_⟩;rcases B with B|⟨hB,Z⟩
  ·exact aF B
  ·exact aC ⟨hB,fun A=>(p b A).elim (fun h=>by omega) Z⟩
 obtain ⟨he,X⟩:=h γ' M V;refine ⟨γ',k.step hd S V (fun i x n=>?_) (fun i hi=>?_) (fun i e0 hi=>?_) (fun i l b y t hi f m s=>?_) (fun b Q=>?_) (k.below.trans J) X (fun b I z=>⟨u b z (fun q _ x n hm=>I ⟨q,x,n,hm⟩),fun A=>(p b A).elim (fun h=>by omega) I⟩) P⟩
 ·by_cases h1:i=d
  ·subst h1;rw [G] at n;cases n
  ·by_cases g:i∈qs
   ·exact aC (aF (F i h1 g))
   ·exact aF ((D i h1 g).trans n)
 ·rw [zed] at hi;by_cases h1:i=d
  ·rw [if_pos h1] at hi;cases hi
  ·rw [if_neg h1] at hi;by_cases g:i∈qs
   ·rw [if_pos g] at hi;cases hi
   ·refine ⟨D i h1 g,fun b y U hm=>u b (k.ge b ⟨i,y,U,hm⟩).2 (fun q N x n O=>g ?_)⟩;rw [k.inj _ _ _ _ _ U n hm O];exact N
 ·rw [zed] at hi;by_cases h1:i=d
  ·subst h1;rw [if_pos rfl] at hi;injection hi with hi;subst hi;exact ⟨x0,M,he⟩
  ·rw [if_neg h1] at hi;by_cases g:i∈qs
   ·rw [if_pos g] at hi;injection hi with hi;subst hi;exact ⟨none,F i h1 g,rfl⟩
   ·rw [if_neg g] at hi;cases hi
 ·have key:∀ i l y t,i=d->l≠d->γ' i=some y->γ' l=some t->b∈blks y->b∈blks t->False:=fun i l y t h1 g hi f m s=>by
   subst h1;rw [M] at hi;injection hi with hi;subst hi
   by_cases C:l∈qs
   ·rw [F l g C] at f;injection f with f;subst f;cases s
   ·rw [D l g C] at f;rcases L b m with h|⟨q,N,x,n,hm⟩
    ·have:=(k.ge b ⟨l,t,f,s⟩).2;omega
    ·exact C (by rw [k.inj _ _ _ _ _ f n s hm];exact N)
  by_cases h1:i=d
  ·by_cases g:l=d
   ·rw [h1,g]
   ·exact (key i l y t h1 g hi f m s).elim
  ·by_cases g:l=d
   ·exact (key l i t y g h1 f hi s m).elim
   ·by_cases C:i∈qs
    ·rw [F i h1 C] at hi;injection hi with hi;subst hi;cases m
    ·by_cases W:l∈qs
     ·rw [F l g W] at f;injection f with f;subst f;cases s
     ·rw [D i h1 C] at hi;rw [D l g W] at f;exact k.inj _ _ _ _ _ hi f m s
 ·rcases p b Q with ⟨h1,g⟩|A
  ·have:=k.below.size;exact ⟨⟨by omega,fun h0=>by have:=k.gh _ h0;omega⟩,g⟩
  ·exact ⟨(k.ge b A).1,aT (k.ge b A).2 S⟩
variable {ty:Nat}
theorem LeX.arr {E:Env}{nt:Nat}{σ:AS}(r ety:Nat){m:Nat}(Y:σ.find r=some (.row ty 1 (aV m .nils))):LeX E nt σ (σ.rpAll r Ew (.cont m r) (.are ty ((range m).map some) (aV m (.row ety 1 [])))):=by
 refine LeX.rpAll r Ew (.cont m r) _ _ Y (fun ty cs h=>by cases h) (fun cx γ a w d X hd Z=>?_);obtain ⟨s,us,P,C,f,U,M,D⟩:=Z;subst P;obtain ⟨H,G⟩:=Ea f;rw [length_replicate] at f;have L:us.length=m:=by have:=f.1;omega
 have n:∀ k,k<m->us.getD k undef=.slice none 0 0:=fun k l=>by
  have:=M k (by simpa using l) 0 (by simp [AV.cells]);simp only [aU,AV.cells,aD,aJ,aG] at this;exact this.nils_inv
 have t:∀ k,us.toArray.getD k undef=us.getD k undef:=fun k=>by simp [aB,aA]
 have q:∀ k b,B3 (us.toArray.getD k undef)≠some b:=fun k b z=>by
  rw [t] at z;by_cases l:k<m
  ·rw [n k l] at z;simp [B3] at z
  ·rw [aA,getElem?_eq_none (by omega)] at z;simp [undef,B3] at z
 refine ⟨arnV s us.toArray,fun b z=>?_,fun S' hS aa=>⟨⟨s,us.toArray,us,rfl,C,by simp [L],by rw [aH,length_range];exact f,D,fun k l=>?_,fun j F=>?_,fun i j b hi=>absurd hi (q i b),fun i b _=>q i b⟩,fun γ' x v A B S V=>?_⟩⟩
 ·rcases mem_arnV.1 z with h|⟨j,h⟩
  ·exact (Em H G).2 h
  ·exact absurd h (q j b)
 ·have N:k<m:=by simpa using l
  simp only [aE,getElem_range];refine ⟨(fun h=>by cases h),fun j F=>?_⟩;injection F with F
  subst F;exact ⟨by simpa using N,(t k).symm⟩
 ·have O:j<m:=by simpa using F
  rw [aU,t,n j O];exact ⟨(by intro h;cases h),rfl,[],World.ownsRow_nil _ _ _ _,fun k l=>absurd l (by simp),fun k l=>absurd l (by simp),fun u W=>by cases W⟩
 ·have I:x=.row r:=by
   cases x with
   |row i=>simp only [AV.leafId,aK] at S;rw [S]
   |_=>simp [Ew] at B
  subst I;have J:v=s:=V.row_inv hd (Fc C);subst J;refine .cont A (fun g s' e=>?_) ?_
  ·injection e with e
   injection e with _ e
   subst e;simp only [Dv.of,con0]
  ·rcases f.2 with ⟨p,h0⟩|⟨g,Q,ab,p,_⟩
   ·exact ⟨none,0,by rw [p,h0],fun h=>by omega⟩
   ·exact ⟨_,Q,p,fun _=>⟨g,0,rfl⟩⟩
variable {id:Nat}{vs:Array Value}
theorem zjf {S:Nat->Prop}{γ:Gam}{n:Nat}{s:Value}(h:Rep w S γ (.cont n id) v)(g:γ id=some (arnV s vs)):v=s/\∃ A c,s=.slice A n c:=by
 cases h with
 |cont h a f =>
  rw [g] at h;injection h with h
  have e:=a none (.agg (#[s]++vs)) h.symm;simp only [Dv.of,con0] at e;obtain ⟨A,c,b,_⟩:=f;exact ⟨e,A,c,by rw [<-e];exact b⟩
variable {j ety:Nat}{os:List NE}{xs:List AV}
theorem y4o {γ:Gam}{s:Value}(k:γ id=some (arnV s vs))(b:∀ j (h:j<os.length),os[j]≠.hole/\NRep w (Sg cx.S0 cx.w0.heap.size γ) cx.w0.heap.size (vs.getD j undef) os[j])(f:Rep w (Sg cx.S0 cx.w0.heap.size γ) γ (.der (.obj j) id) v)(g:os[j]? = some (.row ety 1 xs)) :
  v=vs.getD j undef/\j<os.length/\NRep w (Sg cx.S0 cx.w0.heap.size γ) cx.w0.heap.size (vs.getD j undef) (.row ety 1 xs):=by
 obtain ⟨a,e⟩:=List.getElem?_eq_some_iff.1 g;have h:=(b j a).2;rw [e] at h;exact ⟨by rw [(ztp f k).2];simp only [Dv.of,con1],a,h⟩
variable {T eb:Nat}{x y:Operand}{i:TyI}{idx:List (Option Nat)}
theorem zdp {e m:Nat}{k:IntKind}(p:o.op=.indexAddr T x y)(X:dok cx o=true)(l:A7 x=true)(h:A7 y=true)(G:σ.eval x=.der (.obj j) id)(F:σ.eval y=.int k (m:Int))(Y:lkT cx.E.tab T=some i)(L:i.shape=.slc e 1 eb)
  (Q:σ.find id=some (.are ty idx os)) (U:os[j]? = some (.row ety 1 xs)) (hm:m<xs.length):Aj cx o σ (.der (.oelt j m) id) [id] [] :=
 B8 X fun τ γ a w h1 Z b=>by
  have D:=b.ev x l;rw [h1 x (by simp [p,Op.operands]),G] at D;have C:=b.ev y h;rw [h1 y (by simp [p,Op.operands]),F] at C;obtain ⟨s,vs,us,B,J,I,z,A,V,q,W⟩:=Hr b (by rw [Z id (by simp)];exact Q);obtain ⟨u,S,P,ws,n,O,N,M⟩:=y4o B q D U;obtain ⟨H,t,_⟩:=Cn (cx.E.ok T i Y) L;rcases n.2 with ⟨_,h0⟩|⟨g,ab,aa,f,_⟩
  ·omega
  refine ⟨.pointer (some ⟨g,0+m,none⟩),?_,.der B (fun g' s' e=>?_)⟩
  ·rw [f] at u;simp [execOp,p,u,C.int_inv,Instr.indexAt,asIntOf,run_underlying H,Du t (by omega:(1:Nat)≠0),hm,pure,Addr.add_lit]
  ·injection e with e
   injection e with _ e
   subst e;exact ⟨by simp [Dv.ok];omega,by simp only [Dv.of,con1,f]⟩
theorem zpl {k:Nat}{el av:AV}(F:o.op=.load T x)(hd:dok cx o=true)(p:A7 x=true)(L:σ.eval x=.der (.oelt j k) id)(hT:lkT cx.E.tab T=some i)(ha:i.shape.agg=false)(U:σ.find id=some (.are ty idx os))(W:os[j]? = some (.row ety 1 xs))(Z:xs[k]? = some el)(hc:el.cells[0]? = some av) :
  Aj cx o σ av [id] [] :=
 B8 hd fun τ γ a w h1 h2 f=>by
  have I:=f.ev x p;rw [h1 x (by simp [F,Op.operands]),L] at I;obtain ⟨s,vs,us,Y,N,M,C,D,X,u,aa⟩:=Hr f (by rw [h2 id (by simp)];exact U);obtain ⟨O,q⟩:=ztp I Y;obtain ⟨z,A⟩:=List.getElem?_eq_some_iff.1 W;have G:=(u j z).2;rw [A] at G;obtain ⟨S,J,l,Q,t,P⟩:=G;obtain ⟨V,n⟩:=List.getElem?_eq_some_iff.1 Z;obtain ⟨H,B⟩:=List.getElem?_eq_some_iff.1 hc;have b:=l;rcases l.2 with ⟨_,H⟩|⟨g,ac,ab,e,_⟩
  ·omega
  have q:a.eval x=.pointer (some ⟨g,k,none⟩):=by rw [q];simp only [Dv.of,con1,e,aM]
  have h:=N8 (cx.E.ok T i hT) ha w ⟨g,k,none⟩ _ (Hp b (g:=g) (by rw [e];rfl) k (by omega));refine ⟨J.getD k undef,by simp only [execOp,F,q,Instr.loadAt,Instr.sureAddr,Sem.run_bind,Sem.run_pure,Result.andThen_ok,h],?_⟩;have:=t k V 0 (by rw [n];exact H);simp only [n,B,aJ,aG] at this;exact this.open_
theorem zlo {k:Nat}{av:AV}(ho:o.op=.store T x y)(hd:dok cx o=true)(ar:A7 x=true)(aq:A7 y=true)(hx:σ.eval x=.der (.oelt j k) id)(hy:σ.eval y=av)(hT:lkT cx.E.tab T=some i)(X:i.sz=1)(hl:σ.find id=some (.are ty idx os))(hj:os[j]? = some (.row ety 1 xs))(hk:k<xs.length)(B:av.cells=[av])(hc:okc σ av=true)(bo:av.closed=true) :
  Aj cx o σ (.tup []) (id::av.ids) [(id,.are ty idx (os.set j (.row ety 1 (xs.set k av))))]:=by
 refine ⟨fun O e he=>mem_cons.2 (aF (by simpa using D5 he)),fun τ h1 h2 a w Q K ⟨γ,n⟩ hK=>C5 (fun c hc=>by rw [ho] at hc;cases hc) ?_⟩;have ex:=n.ev x ar;rw [h1 x (by simp [ho,Op.operands]),hx] at ex;have ey:=n.ev y aq;rw [h1 y (by simp [ho,Op.operands]),hy] at ey;obtain ⟨s,vs,us,M,az,ay,ae,af,ai,S,aa⟩:=Hr n (by rw [h2 id (by simp)];exact hl);obtain ⟨bq,D⟩:=ztp ex M;obtain ⟨bh,bi⟩:=List.getElem?_eq_some_iff.1 hj;have hn:=(S j bh).2;rw [bi] at hn;obtain ⟨bd,ws,ag,P,bc,bb⟩:=hn;have au:ws.length=xs.length*1:=ag.1;rcases ag.2 with ⟨_,h0⟩|⟨g,bp,C,F,ab,hh,U,bf,bn,ax⟩
 ·omega
 have D:a.eval x=.pointer (some ⟨g,k,none⟩):=by rw [D];simp only [Dv.of,con1,F,aM]
 obtain ⟨c1,c2,c3⟩:=X8 n ey hc (fun id W=>h2 id (by simp [W]));rw [B] at c1;obtain ⟨u,hu⟩:∃ u,(a.eval y).cells=#[u]:=Array.size_eq_one_iff.1 (by simpa using c1);have ad:u.oneCell'=true:=by
  have:=c3 0 (by simp [hu]);rw [hu] at this;simpa using this
 have aw:Rep w (Sg cx.S0 cx.w0.heap.size γ) G0 av u:=by
  have h0:0<av.cells.length:=by simp [B]
  have:=c2 0 h0;rw [hu] at this;simp only [B,aD] at this;exact Rep.close (by simpa using this) bo
 have G:=Wh (cx.E.ok T i hT) w g k ety C (a.eval y) hh (by rw [hu,X];rfl) (by rw [X];omega) (fun v D=>by
  rw [hu] at D;have:v=u:=by simpa using D
  rw [this];exact ad)
 rw [hu,X] at G;generalize J:(C.toList.take k++(#[u]:Array Value).toList++C.toList.drop (k+1)).toArray=l at G;have bl:(execOp a.eval o).run cx.P w=.ok .skip (w.setRow g l):=by
  simp only [execOp,ho,D,Instr.storeAt,Instr.sureAddr,Sem.run_bind,Sem.run_pure,Result.andThen_ok,G]
 unfold Oper.wp;rw [bl];have al:g∈blks (arnV s vs):=mem_arnV.2 (aC ⟨j,by rw [F];rfl⟩);have Y:own γ g:=⟨id,_,M,al⟩;have ak:=n.ge g Y;have H:∀ b,Sg cx.S0 cx.w0.heap.size γ b->b≠g:=fun b z e=>by
  subst e;rcases z with ⟨_,h⟩|⟨_,h⟩
  ·have:=ak.1.1;omega
  ·exact h Y
 have an:=setRow_heap w g C l ety (0,0) hh;have f:∀ q,q≠g->(w.setRow g l).heap[q]? = w.heap[q]? := fun q L=>setRow_other w g q _ L
 have A:w.heap.size<=(w.setRow g l).heap.size:=by simp
 have bm:w.drawn<=(w.setRow g l).drawn:=aQ _;have ao:Below cx.w0.heap.size w (w.setRow g l):=⟨rfl,rfl,rfl,A,fun k hk=>f k (by have:=ak.1.1;omega)⟩;generalize w.setRow g l=w' at *;refine hK _ _ ⟨γ,n.step (C0 hd) A (fun b z I=>⟨f b (H b z),z⟩) (fun id d h=>aF h) (fun O aj=>⟨rfl,fun g' s bk bg=>f g' ?_⟩) (fun O e' Z=>?_) n.inj (fun b am=>⟨(n.ge b am).1,aT (n.ge b am).2 A⟩) (n.below.trans ao) (.tup #[] rfl (fun j hj=>absurd hj (by simp))) (fun b ah I=>⟨f b (fun e=>ah (e▸Y)),ah⟩) (fun _=>bm)⟩
 ·rintro rfl;have:=n.inj _ _ _ _ _ bk M bg al;subst this;simp [lkE] at aj
 ·have W:O=id:=by have:=D5 Z;simpa using this
  subst W;simp only [lkE,Nat.beq_refl,aK] at Z;subst Z;refine ⟨_,M,s,vs,us,rfl,az,by rw [aN];exact ay,ae.moved (fun b hb=>f b (fun e=>aa.2 j b hb (by rw [F,e];rfl))),af,fun k hk=>⟨fun h=>((ai k hk).1 h).mono A (fun b z I=>⟨f b (H b z),z⟩),fun N bj=>by rw [aN];exact (ai k hk).2 N bj⟩,fun N h'=>?_,aa⟩;have ap:N < os.length:=by simpa using h'
  simp only [aW];by_cases V:j=N
  ·subst V;rw [if_pos rfl];have ac:l.toList.take (xs.length*1)=ws.set k u:=by
    rw [<-J,<-ax,set_eq_take_append_cons_drop,if_pos (by simp;omega)];have:=Zz C.toList [u] k (xs.length*1) (by simp;omega) (by simp;omega);simpa using this
   refine ⟨(by intro h;cases h),bd,ws.set k u,⟨by simp [au],aC ⟨g,bp,l,by rw [aN];exact F,ab,an,by simpa using U,bf,?_,by simpa using ac⟩⟩,fun q L=>?_,fun q L p hp=>?_,fun v D=>?_⟩
   ·rw [<-J];have:=Wv C.toList [u] k (by simp;omega);simpa [bn] using this
   ·rw [aN] at L;rw [aW];by_cases t:k=q
    ·rw [if_pos t,B];rfl
    ·rw [if_neg t];exact P q L
   ·rw [aN] at L;have e0:(xs.set k av)[q]=if k=q then av else xs[q]:=aW ..
    have ba:p=0:=by
     have br:((xs.set k av)[q]'(by simpa using L)).cells.length=1:=by
      rw [e0];by_cases t:k=q
      ·rw [if_pos t,B];rfl
      ·rw [if_neg t];exact P q L
     omega
    subst ba;simp only [aJ,aG];by_cases t:k=q
    ·subst t;have e1:(ws.set k u).getD k undef=u:=by rw [aA,getElem?_set_self (by omega)];rfl
     rw [e1];simp only [getElem_set_self,B,aD];exact aw.mono A (fun b z I=>⟨f b (H b z),z⟩)
    ·have e1:(ws.set k u).getD q undef=ws.getD q undef:=by rw [aA,getElem?_set_ne t,<-aA]
     rw [e1];have h3:=bc q L 0 (by rw [P q L];exact Nat.zero_lt_one);simp only [aJ,aG] at h3;simp only [List.getElem_set_ne t];exact h3.mono A (fun b z I=>⟨f b (H b z),z⟩)
   ·rcases mem_or_eq_of_mem_set D with D|D
    ·exact bb v D
    ·rw [D];exact ad
  ·rw [if_neg V];exact ⟨(S N ap).1,(S N ap).2.moved A (fun b z I=>⟨f b (H b z),z⟩) (fun b hb=>f b (fun e=>V (aa.1 j N b (by rw [F,e];rfl) hb)))⟩
theorem zpv {q e:Nat}{ie:TyI}(Z:o.op=.buildSlice T 1 #[(0,x)])(z:o.dst=some d)(hd:dok cx o=true)(hT:lkT cx.E.tab T=some i)(hs:i.shape=.slc e 1 eb)(he:lkT cx.E.tab e=some ie)(U:A7 x=true)(L:σ.eval x=.row q)(hq:σ.find q=some (.row ety 1 xs))(hn:σ.find d=none) :
  Aj cx o σ (.cont 1 d) [d,q] [(d,.are e [some 0] [.row ety 1 xs]),(q,.dead)]:=by
 refine ⟨fun id e he=>zj4 he,fun τ h1 S a w Q K ⟨γ,f⟩ hK=>C5 (fun c hc=>by rw [Z] at hc;cases hc) ?_⟩;have ex:=f.ev x U;rw [h1 x (by simp [Z,Op.operands]),L] at ex;have I:γ d=none:=by have:=f.me d;rw [S d (by simp),hn] at this;exact this
 have N:=f.me q;rw [S q (by simp),hq] at N;obtain ⟨dd,l,s,ws,ag,C,B,Y,X,W⟩:=N;subst ag;obtain ⟨H,G⟩:=Ea B;have hv:a.eval x=s:=ex.row_inv l (Fc C);have ah:s.cells=#[s]:=by rcases B.2 with ⟨h,_⟩|⟨_,_,_,h,_⟩<;>rw [h]<;>rfl
 have A:∀ b,B3 s=some b->b<w.heap.size:=fun b P=>(f.ge b ⟨q,_,l,(Em H G).2 P⟩).2
 have D:Instr.fill (fun j=>some (j*1,1)) ((bC (1*1)).map (ie.zero.cells[· % ie.zero.cells.size]!)) [(0,s)]=some #[s]:=by
  have e1:∀ g:Nat->Value,((bC (1*1)).map g).setIfInBounds (0*1+0) s=#[s]:=fun g=>Array.ext (by simp) (fun i h1 S=>by
   have:i=0:=by simpa using S
   subst this;simp)
  simp only [Instr.fill,ah];rw [if_neg (by simp)];refine congrArg some ?_;exact e1 _
 have M:=Z5 (n:=1) (parts:=#[(0,s)]) (cx.E.ok T i hT) hs (cx.E.ok e ie he) (by omega) (by omega) D w;have ae:(execOp a.eval o).run cx.P w=.ok (.value (.slice (some ⟨w.heap.size,0,none⟩) 1 1)) (w.alloc (.cells #[s] e)):=by
  have e':((#[(0,x)]:Array (Nat×Operand)).map fun x=>match x with|(i,x)=>(i,a.eval x))=#[(0,s)]:=by simp [hv]
  simp only [execOp,Z,e',Sem.run_bind,Sem.run_pure,Result.andThen_ok,M]
 unfold Oper.wp;rw [ae];have F:Below w.heap.size w (w.alloc (.cells #[s] e)):=(Below.refl _ _).alloc (aQ _) _;have ai:=Blk.new w e #[s];have t:w.heap.size<(w.alloc (.cells #[s] e)).heap.size:=by simp
 have af:w.drawn<=(w.alloc (.cells #[s] e)).drawn:=aQ _;generalize w.alloc (.cells #[s] e)=w' at *;have p:∀ j b,B3 ((#[s]:Array Value).getD j undef)=some b->j=0/\B3 s=some b:=fun j b h=>by
  rcases j with _|j
  ·exact ⟨rfl,h⟩
  ·simp [undef,B3] at h
 refine hK _ _ ?_;rw [z];refine zna (qs:=[q]) (x0:=arnV (.slice (some ⟨w.heap.size,0,none⟩) 1 1) #[s]) f (fun x L=>by injection L with L;subst L;exact C0 hd _ z) I (fun q' V=>⟨some (s.ownBlock,s),by rw [mem_singleton.1 V];exact l⟩) (fun b P=>?_) (bB t) (fun b ab _=>F.block b ab) (F.mono f.below.size) (fun _=>af) (fun γ' J hk=>⟨⟨_,#[s],[s],rfl,rfl,rfl,⟨rfl,aC ⟨w.heap.size,1,#[s],rfl,f.below.size,ai,aQ _,by unfold maxLen;omega,rfl,rfl⟩⟩,fun u hu=>?_,fun k hk=>?_,fun j O=>?_,fun i j b hi O=>?_,fun i b P hi=>?_⟩,.cont J (fun g s' e=>?_) ⟨_,1,rfl,fun _=>⟨_,0,rfl⟩⟩⟩)
 ·rcases mem_arnV.1 P with h|⟨j,h⟩
  ·left;have:w.heap.size=b:=by simpa [B3] using h
   omega
  ·exact aC ⟨q,by simp,_,l,(Em H G).2 (p j b h).2⟩
 ·have:u=s:=by simpa using hu
  rw [this];exact C
 ·have ac:k=0:=by simpa using hk
  subst ac;refine ⟨(fun h=>by cases h),fun j O=>?_⟩;have:j=0:=by simpa using O.symm
  subst this;exact ⟨by simp,rfl⟩
 ·have ad:j=0:=by simpa using O
  subst ad;refine ⟨(by intro h;cases h),?_⟩;have aa:NRep w (Sg cx.S0 cx.w0.heap.size γ) cx.w0.heap.size s (.row ety 1 xs):=⟨C,ws,B,Y,X,W⟩;exact aa.moved (bB t) hk (fun g hg=>F.block g (A g hg))
 ·rw [(p i b hi).1,(p j b O).1]
 ·have h1:=A b (p i b hi).2;have:w.heap.size=b:=by simpa [B3] using P
  omega
 ·injection e with e
  injection e with _ e
  subst e;simp only [Dv.of,con0]
theorem zlx {e t n n2:Nat}{ie:TyI}{f:List (Option Nat)}{V:List NE}(ho:o.op=.call { callee:=.builtin .append,args:=#[x,y],argTypes:=#[T,T] })(ad:o.dst=some d)(hd:dok cx o=true)(az:A7 x=true)(ay:A7 y=true)(hT:lkT cx.E.tab T=some i)(hs:i.shape=.slc e 1 eb)(he:lkT cx.E.tab e=some ie)(bb:ie.sz=1)(ax:ie.zero.cells.size=1)
  (hx:σ.eval x=.cont n id) (hy:σ.eval y=.cont n2 t) (hl:σ.find id=some (.are e idx os)) (bd:σ.find t=some (.are e f V)) (ah:id≠t) (hn:σ.find d=none) (bt:idx.length+f.length<=1099511627776) (bi:(idx.length+f.length)*ie.bytes<=140737488355328) (au:cx.E.dr=false) :
  Aj cx o σ (.cont (n+n2) d) [d,id,t] [(d,.are e (idx++f.map (·.map (· + os.length))) (os++V)),(id,.dead),(t,.dead)]:=by
 refine ⟨fun i e' he=>?_,fun τ h1 J a w Q K ⟨γ,z⟩ hK=>C5 (fun c hc=>by rw [ho] at hc;cases hc) ?_⟩
 ·have he:lkE ((d,Ent.are e (idx++f.map (·.map (· + os.length))) (os++V))::[id,t].map fun q=>(q,Ent.dead)) i=some e':=he;rw [zed] at he;by_cases h1:i=d
  ·simp [h1]
  ·rw [if_neg h1] at he;by_cases J:i∈[id,t]
   ·exact mem_cons_of_mem _ J
   ·rw [if_neg J] at he;cases he
 have ex:=z.ev x az;rw [h1 x (by simp [ho,Op.operands,Call.operands]),hx] at ex;have ey:=z.ev y ay;rw [h1 y (by simp [ho,Op.operands,Call.operands]),hy] at ey;obtain ⟨hu,bs,_⟩:=Cn (cx.E.ok T i hT) hs;have am:γ d=none:=by have:=z.me d;rw [J d (by simp),hn] at this;exact this
 have ag:=z.below.size;obtain ⟨s,vs,us,hg,bp,ae,G,ap,ar,aq,aj⟩:=Hr z (by rw [J id (by simp)];exact hl);obtain ⟨s2,H,us2,N,bl,ao,B,M,aa,Y,av⟩:=Hr z (by rw [J t (by simp)];exact bd);obtain ⟨e1,A1,c1,W⟩:=zjf ex hg;obtain ⟨e2,A2,c2,F⟩:=zjf ey N;have bc:n=idx.length:=by
  rcases G.2 with ⟨h,h0⟩|⟨_,_,_,h,_⟩
  ·rw [h] at W;injection W with _ e _;omega
  ·rw [h] at W;injection W with _ e _;exact e.symm
 have Z:n2=f.length:=by
  rcases B.2 with ⟨h,h0⟩|⟨_,_,_,h,_⟩
  ·rw [h] at F;injection F with _ e _;omega
  ·rw [h] at F;injection F with _ e _;exact e.symm
 have ba:us.length=idx.length:=by have:=G.1;omega
 have bk:us2.length=f.length:=by have:=B.1;omega
 obtain ⟨v',w',X,q1,U,q3⟩:=z8l (P:=cx.P) (c:=c2) (ty:=o.type) (A:=A2) (m:=f.length) (news:=us2) hu (cx.E.ok e ie he) bb (by omega:(1:Nat)≠0) ax G (fun h0=>by
  rcases B.2 with ⟨_,h⟩|⟨g,aw,bj,h,_⟩
  ·omega
  ·rw [h] at F;injection F with e _ _
   refine ⟨g,0,e.symm,fun j u l=>?_⟩;obtain ⟨br,bq⟩:=List.getElem?_eq_some_iff.1 l;have:=Hp B (g:=g) (by rw [h];rfl) j (by omega);rw [aA,l] at this;rw [aM];exact this) (by omega) M (by simp only [maxLen];omega) bi ag
 have bh:(execOp a.eval o).run cx.P w=.ok (.value v') w':=by
  rw [<-Z,<-F,<-e1,<-e2] at X;simp only [execOp,ho,resolve,invoke,builtin,Sem.run_bind,Sem.run_pure,Result.andThen_ok,map_toArray,bA,map_nil,X]
 unfold Oper.wp;rw [bh];obtain ⟨al,bn⟩:=Ea G;obtain ⟨ak,bm⟩:=Ea q1;have I:∀ j,(vs++H).getD j undef=if j<vs.size then vs.getD j undef else H.getD (j-vs.size) undef:=fun j=>by
  rw [aB,aB,aB,Array.getElem?_append];by_cases h:j<vs.size
  ·rw [if_pos h,if_pos h]
  ·rw [if_neg h,if_neg h]
 have bg:∀ j,(us++us2).getD j undef=if j<us.length then us.getD j undef else us2.getD (j-us.length) undef:=fun j=>by
  rw [aA,aA,aA,List.getElem?_append];by_cases h:j<us.length
  ·rw [if_pos h,if_pos h]
  ·rw [if_neg h,if_neg h]
 have ac:∀ b,b∈blks (arnV s vs)->b<w.heap.size:=fun b h=>(z.ge b ⟨id,_,hg,h⟩).2
 have ab:∀ b,b∈blks (arnV s2 H)->b<w.heap.size:=fun b h=>(z.ge b ⟨t,_,N,h⟩).2
 have p:∀ b,b∈blks (arnV s vs)->b∈blks (arnV s2 H)->False:=fun b h D=>ah (z.inj _ _ _ _ _ hg N h D)
 have bo:∀ {vs:Array Value} j b,B3 (vs.getD j undef)=some b->j<vs.size:=fun j b h=>by
  rcases Nat.lt_or_ge j _ with D|D
  ·exact D
  ·simp [Array.getD,Nat.not_lt.2 D,undef,B3] at h
 have L:∀ b,B3 v'=some b->B3 s=some b\/b=w.heap.size:=fun b S=>by
  rw [<-ak] at S;rcases q3 with q3|q3
  ·left;rw [<-al,<-q3];exact S
  ·right;rw [q3] at S;injection S with S;exact S.symm
 have C:∀ b,b<w.heap.size->B3 s≠some b->w'.heap[b]? = w.heap[b]? := fun b ai ah=>U.block b ai (fun e=>ah (by rw [<-al,<-e]))
 refine hK _ _ ?_;rw [ad];refine zna (qs:=[id,t]) (x0:=arnV v' (vs++H)) z (fun x hx=>by injection hx with hx;subst hx;exact C0 hd _ ad) am (fun q hq=>?_) (fun b S=>?_) U.size (fun b ai hq=>C b ai (fun e=>hq id (by simp) _ hg (mem_arnV.2 (aF e)))) ⟨U.os,U.tape,U.output,U.size,fun k hk=>C k (by omega) (fun e=>by
  have:=(z.ge k ⟨id,_,hg,mem_arnV.2 (aF e)⟩).1.1;omega)⟩ (fun h=>absurd (au.symm.trans h) (by simp)) (fun γ' an hk=>⟨⟨v',vs++H,us++us2,rfl,Cw q1,by simp [ae,ao],by rw [aL,aH];exact q1,fun u hu=>(mem_append.1 hu).elim (ap u) (M u),fun k bf=>?_,fun j l=>?_,fun i j b hi l=>?_,fun i b S hi=>?_⟩,.cont an (fun g s' e=>?_) ?_⟩)
 ·rcases mem_cons.1 hq with h|h
  ·exact ⟨_,by rw [h];exact hg⟩
  ·exact ⟨_,by rw [mem_singleton.1 h];exact N⟩
 ·rcases mem_arnV.1 S with h|⟨j,h⟩
  ·rcases L b h with D|D
   ·exact aC ⟨id,by simp,_,hg,mem_arnV.2 (aF D)⟩
   ·exact aF ⟨D,(q1.lt b (by rw [ak];exact h)).2⟩
  ·rw [I] at h;by_cases l:j<vs.size
   ·rw [if_pos l] at h;exact aC ⟨id,by simp,_,hg,mem_arnV.2 (aC ⟨j,h⟩)⟩
   ·rw [if_neg l] at h;exact aC ⟨t,by simp,_,N,mem_arnV.2 (aC ⟨_,h⟩)⟩
 ·simp only [aL,aH] at bf;rw [bg,ba,aL];by_cases h:k<idx.length
  ·rw [if_pos h,aS h];refine ⟨fun hh=>((ar k h).1 hh).mono U.size hk,fun j l=>?_⟩;obtain ⟨r1,r2⟩:=(ar k h).2 j l;exact ⟨by omega,by rw [r2,I,if_pos (by omega)]⟩
  ·have D:k-idx.length<f.length:=by omega
   rw [if_neg h,aR (by omega)];simp only [aE];cases hc:f[k-idx.length] with
   |none=>exact ⟨fun _=>((aa _ D).1 hc).mono U.size hk,fun j l=>by cases l⟩
   |some j0 =>
    obtain ⟨r1,r2⟩:=(aa _ D).2 j0 hc;refine ⟨(fun hh=>by cases hh),fun j l=>?_⟩;have l:j0+os.length=j:=by simpa using l
    subst l;exact ⟨by omega,by rw [r2,I,if_neg (by omega),ae,Nat.add_sub_cancel]⟩
 ·rw [I,ae];by_cases h:j<os.length
  ·rw [if_pos h,aS h];exact ⟨(aq j h).1,(aq j h).2.moved U.size hk (fun g O=>C g (ac g (mem_arnV.2 (aC ⟨j,O⟩))) (fun e=>aj.2 j g e O))⟩
  ·have D:j-os.length<V.length:=by simp only [aL] at l;omega
   rw [if_neg h,aR (by omega)];exact ⟨(Y _ D).1,(Y _ D).2.moved U.size hk (fun g O=>C g (ab g (mem_arnV.2 (aC ⟨_,O⟩))) (fun e=>p g (mem_arnV.2 (aF e)) (mem_arnV.2 (aC ⟨_,O⟩))))⟩
 ·rw [I] at hi l;by_cases h1:i<vs.size
  ·rw [if_pos h1] at hi;by_cases J:j<vs.size
   ·rw [if_pos J] at l;exact aj.1 i j b hi l
   ·rw [if_neg J] at l;exact (p b (mem_arnV.2 (aC ⟨_,hi⟩)) (mem_arnV.2 (aC ⟨_,l⟩))).elim
  ·rw [if_neg h1] at hi;by_cases J:j<vs.size
   ·rw [if_pos J] at l;exact (p b (mem_arnV.2 (aC ⟨_,l⟩)) (mem_arnV.2 (aC ⟨_,hi⟩))).elim
   ·rw [if_neg J] at l;have:=av.1 _ _ b hi l;omega
 ·rw [I] at hi;by_cases h1:i<vs.size
  ·rw [if_pos h1] at hi;rcases L b S with h|h
   ·exact aj.2 i b h hi
   ·have:=ac b (mem_arnV.2 (aC ⟨_,hi⟩));omega
  ·rw [if_neg h1] at hi;rcases L b S with h|h
   ·exact p b (mem_arnV.2 (aF h)) (mem_arnV.2 (aC ⟨_,hi⟩))
   ·have:=ab b (mem_arnV.2 (aC ⟨_,hi⟩));omega
 ·injection e with e
  injection e with _ e
  subst e;simp only [Dv.of,con0]
 ·rw [bc,Z];rcases q1.2 with ⟨af,h0⟩|⟨g,aw,bj,af,_⟩
  ·exact ⟨none,0,by rw [af,h0],fun h=>by omega⟩
  ·exact ⟨_,aw,af,fun _=>⟨g,0,rfl⟩⟩
end
variable {α β:Type}
def enQ (ev:α->AV)(ety:Nat)(l:List α):NE:=.row ety 1 (l.map ev)
def arz (r:Nat)(x:Option β):Option β:=x
def frq (r:Nat)(m:Ars α)(x:Option β):Option β:=if m.1.all (·.isSome) then x else none
def aap (m:Ars α)(v:α)(bytes:Nat)(c:Ars α->Option β):Option β:=if m.1.length+1<=1099511627776/\(m.1.length+1)*bytes<=140737488355328 then c (m.1++[some m.2.length],m.2++[v]) else none
def aix (m:Ars (List α))(j:Nat)(n:Int)(c:Nat->Option β):Option β:=match m.2[j]? with|some l=>(if 0<=n/\n.toNat<l.length then c n.toNat else none)|none=>none
def ald (m:Ars (List α))(j k:Nat)(c:α->Option β):Option β:=match m.2[j]? with|some l=>(match l[k]? with|some v=>c v|none=>none)|none=>none
def asr (m:Ars (List α))(j k:Nat)(v:α)(c:Ars (List α)->Option β):Option β:=match m.2[j]? with|some l=>(if k<l.length then c (m.1,m.2.set j (l.set k v)) else none)|none=>none
section
variable {E:Env} {nt:Nat} {o:Oper} {σ:AS} {K:AV->List Nat->List (Nat×Ent)->Prop}
variable {T ety eb:Nat}{x:Operand}{i:TyI}
theorem OpX.bla {l:List α}(ev:α->AV){d q e:Nat}{ie:TyI}(p:o.op=.buildSlice T 1 #[(0,x)])(a:o.dst=some d)(z:dokN E nt o.dst=true)(A:lkT E.tab T=some i)(k:i.shape=.slc e 1 eb)(u:lkT E.tab e=some ie)(b:A7 x=true)(h:σ.eval x=.row q)(n:σ.find q=some (.row ety 1 (l.map ev)))(s:σ.find d=none)
  (t:K (.cont 1 d) [d,q] [(d,.are e [some 0] [enQ ev ety l]),(q,.dead)]):OpX E nt o σ K :=
 .mk _ _ _ (fun cx g f=>zpv p a (Am z g f) (by rw [g];exact A) k (by rw [g];exact u) b h n s) t
variable {m:Ars (List α)}{c:Ars (List α)->Option β}{r:β}{id:Nat}{y:Operand}
theorem OpX.aap {v:List α}{bytes:Nat}(ev:α->AV){d e a n:Nat}{ie:TyI}(f:Proofs.YtidhlpjgifoneaaGreat.aap m v bytes c=some r)(H:o.op=.call { callee:=.builtin .append,args:=#[x,y],argTypes:=#[T,T] })(b:o.dst=some d)(N:dokN E nt o.dst=true)(q:A7 x=true)(p:A7 y=true)(O:lkT E.tab T=some i)(G:i.shape=.slc e 1 eb)(M:lkT E.tab e=some ie)
  (s:ie.sz=1) (l:ie.zero.cells.size=1) (B:ie.bytes=bytes) (F:σ.eval x=.cont n id) (D:σ.eval y=.cont 1 a) (J:σ.find id=some (.are e m.1 (m.2.map (enQ ev ety)))) (z:σ.find a=some (.are e [some 0] [enQ ev ety v])) (u:aX id a=false) (I:σ.find d=none) (A:E.dr=false)
  (L:∀ k,c k=some r->K (.cont (n+1) d) [d,id,a] [(d,.are e k.1 (k.2.map (enQ ev ety))),(id,.dead),(a,.dead)]):OpX E nt o σ K:=by
 unfold Proofs.YtidhlpjgifoneaaGreat.aap at f;split at f
 ·rename_i C;have h:=L _ f;refine .mk _ _ _ (fun cx g t=>zlx H b (Am N g t) q p (by rw [g];exact O) G (by rw [g];exact M) s l F D J z (nbne u) I (by simpa using C.1) (by rw [B];simpa using C.2) (by rw [g];exact A)) ?_;simp only [aH,bA,map_nil,Option.map_some,aM];simp only [map_append,bA,map_nil] at h;exact h
 ·cases f
variable {ty:Nat}
theorem OpX.aix {j:Nat}{n:Int}{c:Nat->Option β}(ev:α->AV){e:Nat}{kd:IntKind}(a:Proofs.YtidhlpjgifoneaaGreat.aix m j n c=some r)(z:o.op=.indexAddr T x y)(D:dokN E nt o.dst=true)(g:A7 x=true)(b:A7 y=true)(t:σ.eval x=.der (.obj j) id)(s:σ.eval y=.int kd n)(F:lkT E.tab T=some i)(u:i.shape=.slc e 1 eb)
  (A:σ.find id=some (.are ty m.1 (m.2.map (enQ ev ety)))) (B:∀ k,c k=some r->K (.der (.oelt j k) id) [id] []):OpX E nt o σ K:=by
 unfold Proofs.YtidhlpjgifoneaaGreat.aix at a;split at a
 ·rename_i l C;split at a
  ·rename_i p;have f:σ.eval y=.int kd ((n.toNat:Nat):Int):=by rw [s,Int.toNat_of_nonneg p.1]
   exact .mk _ _ _ (fun cx q h=>zdp z (Am D q h) g b t f (by rw [q];exact F) u A (by rw [aO,C];rfl) (by simpa using p.2)) (B _ a)
  ·cases a
 ·cases a
theorem OpX.ald {j k:Nat}{c:α->Option β}(ev:α->AV)(a:Proofs.YtidhlpjgifoneaaGreat.ald m j k c=some r)(p:o.op=.load T x)(u:dokN E nt o.dst=true)(b:A7 x=true)(h:σ.eval x=.der (.oelt j k) id)(A:lkT E.tab T=some i)(z:i.shape.agg=false)(q:σ.find id=some (.are ty m.1 (m.2.map (enQ ev ety))))(f:∀ v,(ev v).cells[0]? = some (ev v))
  (s:∀ v,c v=some r->K (ev v) [id] []):OpX E nt o σ K:=by
 unfold Proofs.YtidhlpjgifoneaaGreat.ald at a;split at a
 ·rename_i l t;split at a
  ·rename_i v n;exact .mk _ _ _ (fun cx g e=>zpl p (Am u g e) b h (by rw [g];exact A) z q (by rw [aO,t];rfl) (by rw [aO,n];rfl) (f v)) (s _ a)
  ·cases a
 ·cases a
theorem OpX.asr {j k:Nat}{v:α}(ev:α->AV)(a:Proofs.YtidhlpjgifoneaaGreat.asr m j k v c=some r)(B:o.op=.store T x y)(G:dokN E nt o.dst=true)(g:A7 x=true)(f:A7 y=true)(A:σ.eval x=.der (.oelt j k) id)(z:σ.eval y=ev v)(I:lkT E.tab T=some i)(q:i.sz=1)
  (C:σ.find id=some (.are ty m.1 (m.2.map (enQ ev ety)))) (t:(ev v).cells=[ev v]) (b:(ev v).ids=[]) (H:okc σ (ev v)=true) (s:(ev v).closed=true) (D:∀ e,c e=some r->K (.tup []) [id] [(id,.are ty e.1 (e.2.map (enQ ev ety)))]):OpX E nt o σ K:=by
 unfold Proofs.YtidhlpjgifoneaaGreat.asr at a;split at a
 ·rename_i l F;split at a
  ·rename_i p;have h:=D _ a;refine .mk _ _ _ (fun cx u n=>zlo (xs:=l.map ev) (av:=ev v) B (Am G u n) g f A z (by rw [u];exact I) q C (by rw [aO,F];rfl) (by simpa using p) t H s) ?_;rw [b];simp only [map_set,enQ] at h;exact h
  ·cases a
 ·cases a
theorem LeX.frq (G:m.1.all (·.isSome)=true)(r:Nat)(ev:α->AV)(hr:σ.find r=some (.are ty m.1 (m.2.map (enQ ev ety)))):LeX E nt σ (σ.rpAll r Eo (.sl 1 ((aval m).map fun q=>.sl 1 (q.map ev))) .dead):=by
 refine LeX.rpAll r Eo _ _ _ hr (fun ty cs h=>by cases h) (fun cx γ a w d ac hd he=>?_);obtain ⟨s,vs,us,z,P,O,u,D,W,U,ad⟩:=he;have z:d=arnV s vs:=z;subst z;rw [aH] at O;refine ⟨none,(fun b t=>by cases t),fun S' hS H=>⟨rfl,fun γ' x v aa A hx hv=>?_⟩⟩;have M:∃ n,x=.cont n r:=by
  cases x with
  |cont n i=>simp only [AV.leafId,aK] at hx;exact ⟨n,by rw [hx]⟩
  |_=>simp [Eo] at A
 obtain ⟨n,rfl⟩:=M;have N:v=s:=(zjf hv hd).1;subst N;have X:∀ k (F:k<(aval m).length),Rep w S' G0 (.sl 1 ((aval m)[k].map ev)) (us.getD k undef):=fun k F=>by
  have p:k<m.1.length:=by simpa [aval] using F
  obtain ⟨q1,q2⟩:=W k p;have g:=all_eq_true.1 G _ (getElem_mem p);simp only [aval,aE];cases hc:m.1[k] with
  |none=>rw [hc] at g;cases g
  |some j =>
   obtain ⟨Z,q4⟩:=q2 j hc;have J:j<m.2.length:=by simpa using Z
   rw [q4];simp only [getElem?_eq_getElem J,Option.getD_some];have h2:=(U j Z).2;simp only [aE,enQ] at h2;obtain ⟨p1,us',p2,p3,p4,p5⟩:=h2;obtain ⟨L,ab⟩:=Ea p2;obtain ⟨s',f,C⟩:=Fh (w:=w) (S:=Sg cx.S0 cx.w0.heap.size γ) (γ:=γ) (S':=S') (d:=some ((vs.getD j undef).ownBlock,vs.getD j undef)) ⟨_,us',rfl,p1,p2,p3,p4,p5⟩ (fun b t _=>hS b t) (fun s Y e=>by
    injection e with e
    injection e with I e2
    rw [L] at I;exact H Y (mem_arnV.2 (aC ⟨j,I⟩)) (fun t=>by cases t)) G0
   injection f with f
   injection f with _ f
   rw [f];exact C
 obtain ⟨s0,l,Q⟩:=Fh (w:=w) (S:=S') (γ:=γ) (S':=S') (B:=cx.w0.heap.size) (ty:=ty) (sz:=1) (xs:=(aval m).map fun q=>.sl 1 (q.map ev)) (d:=some (v.ownBlock,v)) ⟨v,us,rfl,P,by rw [aH];simpa [aval] using u,fun k F=>by rw [aE];rfl,fun k F j hj=>by
   have p:k<(aval m).length:=by simpa using F
   have V:j=0:=by
    have:j<1:=by simpa [AV.cells] using hj
    omega
   subst V;simp only [aE,AV.cells,aD,aJ,aG];exact X k p,D⟩ (fun b t _=>t) (fun s Y e=>by
   injection e with e
   injection e with I e2
   rw [(Ea u).1] at I;exact H Y (mem_arnV.2 (aF I)) (fun t=>by cases t)) γ'
 injection l with l
 injection l with _ l
 rw [l];exact Q
end
section
variable {E:Env} {nt:Nat} {R:Exit->AS->Prop} {K:List Bt}
theorem AW.frqO {id ty ety:Nat}{m:Ars (List α)}{c:Code}{σ:AS}{x:Option β}{y:β}(ev:α->AV)(h:Proofs.YtidhlpjgifoneaaGreat.frq id m x=some y)(r:Nat)(a:σ.find r=some (.are ty m.1 (m.2.map (enQ ev ety))))(k:x=some y->AW E nt R (.code c::K) .normal (σ.rpAll r Eo (.sl 1 ((aval m).map fun q=>.sl 1 (q.map ev))) .dead)):AW E nt R (.code c::K) .normal σ:=by
 unfold Proofs.YtidhlpjgifoneaaGreat.frq at h;split at h
 ·rename_i b;exact AW.weaken (LeX.frq b r ev a) (k h)
 ·cases h
theorem AW.arzO {id ty:Nat}{c:Code}{σ:AS}{x:Option β}{y:β}(ev:α->AV)(h:Proofs.YtidhlpjgifoneaaGreat.arz id x=some y)(t r ety:Nat)(b:σ.get t=.nils)(e:σ.find r=none)(a:(σ.adopt t r ty 1).find r=some (.row ty 1 (aV 0 .nils)))(k:x=some y->AW E nt R (.code c::K) .normal ((σ.adopt t r ty 1).rpAll r Ew (.cont 0 r) (.are ty ((range 0).map some) (aV 0 (.row ety 1 []))))):AW E nt R (.code c::K) .normal σ :=
 AW.weaken (LeX.trans (LeX.adopt t r ty 1 b e) (LeX.arr r ety a)) (k h)
end
attribute [irreducible] arz frq aap aix ald asr
end Go.Proofs.YtidhlpjgifoneaaGreat
