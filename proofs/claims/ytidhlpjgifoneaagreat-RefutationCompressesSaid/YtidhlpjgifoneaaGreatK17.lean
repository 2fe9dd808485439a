/- The abstract walk. -/
import Derived.Test.YtidhlpjgifoneaaGreatK16
import Derived.Laws.IdiomRangeMap
set_option linter.unusedVariables false
set_option linter.unusedSimpArgs false
namespace Go.Proofs.YtidhlpjgifoneaaGreat
open Go.RowKit List
open Nat renaming le_refl->aA,beq_refl->aQ,mul_le_mul->aX
open Bool renaming false_eq_true->aB,not_false->aW,not_true->aZ
open Or renaming inl->aC,inr->aJ
open Option.some renaming injEq->aD,inj->aU
open List renaming perm_append_singleton->aE,pairwise_cons->aF,map_cons->aG,filter_cons->aL,length_eraseIdx_of_lt->aM,filter_eq_self->aN,getElem_map->aO,length_eq_zero_iff->aP,getElem_cons_zero->aR,getElem_eraseIdx->aS,replicate->aT,mem_map->aV,length_map->aY
open _root_.Array renaming getElem?_setIfInBounds->aH,filter->bA
open Int renaming toNat_natCast->aK
section
variable {P:Program} {w:World} {S:Nat->Prop}
theorem zj6 (es:Array MapEntry)(seen:Array Nat):(leftOf es seen).toList=Ck es seen:=by simp [leftOf,Ck]
theorem run_next_at (w:World)(ty:TypeId)(g bm since A:Nat)(seen:Array Nat)(es:Array MapEntry)(clock:Nat)(C:w.heap[g]? = some (.mapIter (some bm) since seen A))(I:w.heap[bm]? = some (.map es clock))(h:∀ x∈es.toList,x.born<since)(t:since<=A) :
  (Ck es seen=[]/\(Instr.next (.pointer (some ⟨g,0,none⟩)) false ty).run P w=.ok (.tuple #[.bool false]) w) \/
  ∃ e∈Ck es seen,∃ n,(Instr.next (.pointer (some ⟨g,0,none⟩)) false ty).run P w=.ok (.tuple #[.bool true,e.key,e.val]) { w with drawn:=w.drawn+n,heap:=w.heap.setIfInBounds g (.mapIter (some bm) since (seen.push e.born) clock) }:=by
 simp only [Instr.next,getObj,Sem.run_bind,Sem.run,C,I,Result.andThen,next_test_false seen es since A h t,aB,if_false];rw [<-zj6];unfold leftOf;have d:∀ x∈(bA (fun e=>!seen.contains e.born) es).toList,x.born<since:=fun x p=>h x (by simp at p ⊢;exact p.1)
 generalize bA (fun e=>!seen.contains e.born) es=L at d ⊢;have M:L.filter (fun x=>decide (x.born<since))=L:=Array.filter_eq_self.2 (fun x p=>by simpa using d x (by simpa using p));have J:L.filter (fun x=>decide (x.born ≥ since))=#[]:=by
  rw [Array.filter_eq_empty_iff];intro x p;have:=d x (by simpa using p);simp;omega
 simp only [M,J,Array.append_empty];by_cases G:L.size=0
 ·left;have:L=#[]:=Array.eq_empty_of_size_eq_zero G;subst this;refine ⟨rfl,?_⟩;simp [choose,Sem.run,Question.forced]
 ·right;have u:L.isEmpty=false:=by simp [Array.isEmpty,G]
  simp only [u,aB,if_false,Array.empty_append,Array.size_map];have z:∃ (j n:Nat),j<L.size/\(choose (Question.mapNext L.size)).run P w=.ok j { w with drawn:=w.drawn+n }:=by
   by_cases D:L.size<=1
   ·exact ⟨0,0,by omega,by simp [choose,Sem.run,Question.forced,D]⟩
   ·exact ⟨_,1,Nat.mod_lt _ (by omega),by
     simp only [choose,Sem.run,Question.forced,decide_eq_true_eq,D,if_false,Question.cut];rfl⟩
  obtain ⟨j,n,H,s⟩:=z;refine ⟨L[j],by simp,n,?_⟩;have q:∀ o':Obj,(setObj g o').run P { w with drawn:=w.drawn+n }=.ok () { w with drawn:=w.drawn+n,heap:=w.heap.setIfInBounds g o' }:=fun o'=>by
   simp only [setObj,Sem.run,C]
  simp only [s,Array.getElem?_map,Array.getElem?_eq_getElem H,Option.map_some,Sem.run_bind,q,Result.andThen];rfl
theorem zlj (w:World)(ty:TypeId)(g a b:Nat)(s:Array Nat)(d:w.heap[g]? = some (.mapIter none a s b)):(Instr.next (.pointer (some ⟨g,0,none⟩)) false ty).run P w=.ok (.tuple #[.bool false]) w:=by
 simp only [Instr.next,getObj,Sem.run_bind,Sem.run,d,Result.andThen];rfl
theorem zlk (w:World)(g bm since:Nat)(seen:Array Nat)(es:Array MapEntry)(clock:Nat)(e:MapEntry)(h:w.heap[g]? = some (.mapIter (some bm) since (seen.push e.born) clock))(p:w.heap[bm]? = some (.map es clock))(n:e∈es.toList)(d:(es.toList.map (·.born)).Nodup) :
  (Instr.entry (.pointer (some ⟨g,0,none⟩))).run P w=.ok (.tuple #[e.key,e.val]) w:=by
 have j:es.find? (·.born == e.born)=some e:=by rw [<-Array.find?_toList];exact find_born e es.toList d n
 simp only [Instr.entry,getObj,Sem.run_bind,Sem.run,h,p,Result.andThen,Array.back?_push,bne_self_eq_false,aB,if_false,j];rfl
variable {ps:List (AV×AV)}
theorem RepL.len0 {L:List MapEntry}(h:RepM w S L ps):L=[] ↔ ps=[]:=by
 obtain ⟨d,h1,e,_⟩:=h;have:=h1.length_eq;rw [<-aP,<-aP];omega
variable {es:Array MapEntry}{seen:Array Nat}
theorem zv4 (n:(es.toList.map (·.born)).Nodup){i:Nat}(hi:i<(Ck es seen).length):Ck es (seen.push (Ck es seen)[i].born)=(Ck es seen).eraseIdx i:=by
 have j:Ck es (seen.push (Ck es seen)[i].born)=(Ck es seen).filter fun e=>!(e.born == (Ck es seen)[i].born):=by
  generalize (Ck es seen)[i].born=b;unfold Ck;rw [filter_filter];congr 1;funext e;rw [contains_push];cases seen.contains e.born<;>simp
 rw [j];have d:((Ck es seen).map (·.born)).Nodup:=by
  unfold Ck;exact (filter_sublist.map _).nodup n
 generalize Ck es seen=L at *;clear j
 induction L generalizing i with
 |nil=>simp at hi
 |cons x r ih =>
  simp only [aG,nodup_cons] at d;cases i with
  |zero =>
   simp only [aR,eraseIdx_cons_zero,aL,beq_self_eq_true,aZ,aB,if_false];rw [aN];intro e p;have:e.born≠x.born:=fun h=>d.1 (h▸aV.2 ⟨e,p,rfl⟩)
   simpa using this
  |succ i =>
   have g:i<r.length:=by simpa using hi
   simp only [getElem_cons_succ,eraseIdx_cons_succ,aL];have:x.born≠r[i].born:=fun h=>d.1 (h▸aV.2 ⟨r[i],getElem_mem _,rfl⟩)
   have q:(x.born == r[i].born)=false:=by simpa using this
   rw [q];simp only [aW,if_true];rw [ih g d.2]
theorem Zl {α:Type}:∀ {l:List α} {i:Nat} (h:i<l.length),(l[i]::l.eraseIdx i).Perm l
 |x::r,0,_=>.refl _
 |x::r,i+1,h=>(Perm.swap x _ _).trans ((Zl (l:=r) (i:=i) (by simpa using h)).cons x)
theorem ItP.split {A clock:Nat}(D:(es.toList.map (·.born)).Nodup)(h:ItP w S ps es seen A clock):∃ j,∃ h:j<ps.length,ItC w S ps[j] (ps.eraseIdx j) es seen A clock:=by
 obtain ⟨H,seen0,e,s,z,d,t,G,p⟩:=h;obtain ⟨i,hi,rfl⟩:=mem_iff_getElem.1 z;have g:i<d.length:=by omega
 have hm:d[i]∈ps:=t.mem_iff.1 (getElem_mem _);obtain ⟨j,u,n⟩:=mem_iff_getElem.1 hm;refine ⟨j,u,H,seen0,_,s,(mem_filter.1 z).1,by rw [n];exact p i hi g,d.eraseIdx i,?_,?_⟩
 ·have C:d.Perm (d[i]::d.eraseIdx i):=(Zl g).symm;have q:ps.Perm (ps[j]::ps.eraseIdx j):=(Zl u).symm;rw [n] at q;exact Perm.cons_inv ((C.symm.trans t).trans q)
 ·rw [s,zv4 D hi];refine ⟨by rw [aM hi,aM g,G],fun k h I=>?_⟩;rw [aS,aS];split
  ·exact p _ _ _
  ·exact p _ _ _
end
section
variable {cx:Cx} {o:Oper} {σ:AS}
variable {x:Operand}{ps:List (AV×AV)}
theorem y3s {T kt et d:Nat}{i:TyI}(M:o.op=.range T x)(Z:o.dst=some d)(hd:dok cx o=true)(I:A7 x=true)(hx:σ.eval x=.mapv ps)(hT:lkT cx.E.tab T=some i)(hs:i.shape=.map kt et)(hn:σ.find d=none):Aj cx o σ (.ptr d 0) [d] [(d,.it ps)]:=by
 refine ⟨fun id e he=>D5 he,fun τ h1 h2 a w Q K ⟨γ,t⟩ hK=>C5 (fun c hc=>by rw [M] at hc;cases hc) ?_⟩;have ex:=t.ev x I;rw [h1 x (by simp [M,Op.operands]),hx] at ex;have X:=Js (cx.E.ok T i hT) hs;have key:∀ q:Obj,(Instr.range T (a.eval x)).run cx.P w=.ok (.pointer (some ⟨w.heap.size,0,none⟩)) (w.alloc q)->ItIs (w.alloc q) (Sg cx.S0 cx.w0.heap.size (γ.set d (some (some w.heap.size,.slice none 0 0)))) w.heap.size (ItL (w.alloc q) (Sg cx.S0 cx.w0.heap.size (γ.set d (some (some w.heap.size,.slice none 0 0)))) ps)->o.wp cx.P a w K Q:=fun q u N=>by
  have O:(execOp a.eval o).run cx.P w=.ok (.value (.pointer (some ⟨w.heap.size,0,none⟩))) (w.alloc q):=by
   simp only [execOp,M,Sem.run_bind,u,Result.andThen_ok,Sem.run_pure]
  unfold Oper.wp;rw [O];refine hK _ _ ⟨_,t.name (id:=d) (g:=w.heap.size) (s:=.slice none 0 0) (e:=.it ps) (C0 hd) (by rw [h2 d (by simp)];exact hn) ((Below.refl _ _).alloc (aA _) _) (aA _) (by simp) ?_ ?_⟩
  ·exact ⟨w.heap.size,rfl,N⟩
  ·exact .ptr (Gam.set_self _ _ _) (fun g s e=>by injection e with e;injection e with e _;injection e with e;rw [e])
 have D:∀ b,Sg cx.S0 cx.w0.heap.size γ b->b<w.heap.size->Sg cx.S0 cx.w0.heap.size (γ.set d (some (some w.heap.size,.slice none 0 0))) b:=fun b G p=>G.elim aC (fun ⟨q1,q2⟩=>aJ ⟨q1,fun ⟨i,s,hi,hm⟩=>by
  by_cases z:i=d
  ·subst z;rw [Gam.set_self] at hi;injection hi with hi;subst hi;have:=Od rfl hm;omega
  ·rw [Gam.set_ne _ _ _ z] at hi;exact q2 ⟨i,s,hi,hm⟩⟩)
 rcases mapv_val ex with ⟨g,H,J,W,A,⟨es,clock,G,hl,C,Y⟩,L⟩|⟨J,U⟩
 ·refine key (.mapIter (some g) clock #[] clock) (by rw [J];exact run_range_map w T kt et g es clock X G) (aC ⟨g,clock,#[],clock,es,clock,heap_alloc_new _ _,D g W A,by simp;omega,by rw [heap_alloc_old _ _ A];exact G,C.1,C.2,aA _,aA _,H,?_,?_⟩)
  ·rcases L with rfl|⟨L,_⟩
   ·exact .refl _
   ·exact L
  ·have n:Ck es #[]=es.toList:=by simp [Ck]
   have hm:∀ {av v},Rep w (Sg cx.S0 cx.w0.heap.size γ) G0 av v->Rep (w.alloc (.mapIter (some g) clock #[] clock)) (Sg cx.S0 cx.w0.heap.size (γ.set d (some (some w.heap.size,.slice none 0 0)))) G0 av v:=fun h=>h.mono (by simp) (fun b hS p=>⟨heap_alloc_old _ _ p,D b hS p⟩)
   exact ⟨by rw [n];simpa using hl,fun j h h'=>⟨by simp only [n];exact hm (Y j (by rw [<-n];exact h) h').1,by simp only [n];exact hm (Y j (by rw [<-n];exact h) h').2⟩⟩
 ·subst U;refine key (.mapIter none 0 #[] 0) (by rw [J];exact run_range_nilMap w T kt et X) (aJ ⟨0,0,#[],heap_alloc_new _ _,[],.refl _,by simp [RepL,Ck]⟩)
variable {id:Nat}
theorem zyf {γ:Gam}{τ:AS}{a:Act}{w:World}{e:Ent}{v:Value}(n:StG cx γ τ a w)(s:τ.find id=some e)(q:Rep w (Sg cx.S0 cx.w0.heap.size γ) γ (.ptr id 0) v)(t:∀ d,Bq w (Sg cx.S0 cx.w0.heap.size γ) γ cx.w0.heap.size d e->∃ g,d=some (some g,.slice none 0 0)) :
  ∃ g,γ id=some (some (some g,.slice none 0 0))/\v=.pointer (some ⟨g,0,none⟩)/\Bq w (Sg cx.S0 cx.w0.heap.size γ) γ cx.w0.heap.size (some (some g,.slice none 0 0)) e:=by
 have h:=n.me id;rw [s] at h;obtain ⟨d,j,p⟩:=h;obtain ⟨g,rfl⟩:=t d p;exact ⟨g,j,q.ptr_inv j,p⟩
theorem y4z {γ:Gam}{τ:AS}{a:Act}{w w':World}{g:Nat}{e:Ent}{av:AV}{v:Value}{dst:Option Nat}(j:StG cx γ τ a w)(X:∀ x,dst=some x->cx.E.np<=x/\x<cx.nt)(L:γ id=some (some (some g,.slice none 0 0)))(N:w.heap.size<=w'.heap.size)(C:∀ k,k≠g->w'.heap[k]? = w.heap[k]?)(Y:Below cx.w0.heap.size w w')(M:w.drawn<=w'.drawn)
  (W:(∀ b,Sg cx.S0 cx.w0.heap.size γ b->b<w.heap.size->w'.heap[b]? = w.heap[b]? /\ Sg cx.S0 cx.w0.heap.size γ b)->Bq w' (Sg cx.S0 cx.w0.heap.size γ) γ cx.w0.heap.size (some (some g,.slice none 0 0)) e) (Q:Rep w' (Sg cx.S0 cx.w0.heap.size γ) γ av v):St cx (τ.upd dst av [(id,e)]) (a.put dst v) w':=by
 have n:own γ g:=own.mk L;have I:=j.ge g n;have D:∀ b,Sg cx.S0 cx.w0.heap.size γ b->b≠g:=fun b A e=>by
  subst e;rcases A with ⟨_,h⟩|⟨_,h⟩
  ·have:=I.1.1;omega
  ·exact h n
 have O:∀ b,Sg cx.S0 cx.w0.heap.size γ b->b<w.heap.size->w'.heap[b]? = w.heap[b]? /\ Sg cx.S0 cx.w0.heap.size γ b:=fun b A _=>⟨C b (D b A),A⟩
 refine ⟨γ,j.step X N O (fun id d h=>aC h) (fun q u=>⟨rfl,fun Z s J G=>C Z ?_⟩) (fun q e' p=>?_) j.inj (fun b z=>⟨(j.ge b z).1,Nat.lt_of_lt_of_le (j.ge b z).2 N⟩) (j.below.trans Y) Q (fun b t U=>⟨C b (fun e=>t (e▸n)),t⟩) (fun _=>M)⟩
 ·rintro rfl;have:=j.inj _ _ _ _ _ J L G C1;subst this;simp [lkE] at u
 ·have H:q=id:=by have:=D5 p;simpa using this
  subst H;simp only [lkE,aQ,aD] at p;subst p;exact ⟨_,L,W O⟩
theorem zug (z:o.op=.next x false)(U:dok cx o=true)(u:A7 x=true)(M:σ.eval x=.ptr id 0)(Q:σ.find id=some (.it [])):Aj cx o σ (.tup [.bool false]) [id] [] :=
 B8 U fun τ γ a w h1 W p=>by
  have D:=p.ev x u;rw [h1 x (by simp [z,Op.operands]),M] at D;obtain ⟨g,hg,N,g',n,hi⟩:=zyf p (by rw [W id (by simp)];exact Q) D (fun d h=>by obtain ⟨g,h,_⟩:=h;exact ⟨g,h⟩);injection n with n
  injection n with n _
  injection n with n
  subst n;refine ⟨.tuple #[.bool false],?_,.tup #[.bool false] rfl (fun j A=>by have A:j<1:=A;have X:j=0:=(by omega);subst X;exact .bool _)⟩;have q:(Instr.next (a.eval x) false o.type).run cx.P w=.ok (.tuple #[.bool false]) w:=by
   rw [N];rcases hi with ⟨bm,since,seen,Y,es,clock,t,L,q3,J,q5,I,H,Z,G⟩|⟨b,c,s,t,L⟩
   ·rcases run_next_at (P:=cx.P) w o.type g bm since Y seen es clock t J I H with ⟨_,O⟩|⟨e,C,_⟩
    ·exact O
    ·have:=(RepL.len0 G).2 rfl;rw [this] at C;cases C
   ·exact zlj w o.type g b c s t
  simp only [execOp,z,Sem.run_bind,q,Result.andThen_ok,Sem.run_pure]
theorem y67 (G:o.op=.next x false)(hd:dok cx o=true)(D:A7 x=true)(hx:σ.eval x=.ptr id 0)(hl:σ.find id=some (.it ps))(u:ps≠[]):Aj cx o σ (.tup [.bool true,.any,.any]) [id] [(id,.itp ps)]:=by
 refine ⟨fun id e J=>D5 J,fun τ h1 h2 a w Q K ⟨γ,q⟩ hK=>C5 (fun c hc=>by rw [G] at hc;cases hc) ?_⟩;have ex:=q.ev x D;rw [h1 x (by simp [G,Op.operands]),hx] at ex;obtain ⟨g,Z,hv,g',p,hi⟩:=zyf q (by rw [h2 id (by simp)];exact hl) ex (fun d h=>by obtain ⟨g,h,_⟩:=h;exact ⟨g,h⟩);injection p with p
 injection p with p _
 injection p with p
 subst p;rcases hi with ⟨bm,since,seen,c0,es,clock,W,C,U,O,q5,N,q7,M,L⟩|⟨b,c,s,W,C⟩
 ·rcases run_next_at (P:=cx.P) w o.type g bm since c0 seen es clock W O N q7 with ⟨h0,_⟩|⟨e,J,n,hr⟩
  ·exact absurd ((RepL.len0 L).1 h0) u
  ·have I:(execOp a.eval o).run cx.P w=.ok (.value (.tuple #[.bool true,e.key,e.val])) { w with drawn:=w.drawn+n,heap:=w.heap.setIfInBounds g (.mapIter (some bm) since (seen.push e.born) clock) }:=by
    simp only [execOp,G,hv,Sem.run_bind,hr,Result.andThen_ok,Sem.run_pure]
   unfold Oper.wp;rw [I];have A:=q.ge g (own.mk Z);have t:∀ k,k≠g->(w.heap.setIfInBounds g (.mapIter (some bm) since (seen.push e.born) clock))[k]? = w.heap[k]? := fun k X=>by simp [aH,Ne.symm X]
   refine hK _ _ (y4z q (C0 hd) Z (by simp) t ⟨rfl,rfl,rfl,by simp,fun k X=>t k (by have:=A.1.1;omega)⟩ (Nat.le_add_right _ _) (fun z=>?_) (.tup #[.bool true,e.key,e.val] rfl (fun j Y=>?_)))
   ·refine ⟨g,rfl,aC ⟨bm,since,seen.push e.born,clock,es,clock,by simp [aH,A.2],C,by simpa using U,?_,q5,N,M,M,rfl,seen,e,rfl,J,?_⟩⟩
    ·exact (z bm C U).1.trans O
    ·exact RepM.move L (by simp) (fun b hS H=>z b hS H)
   ·have Y:j<3:=Y;rcases j with _|_|_|j
    ·exact .bool _
    ·exact .any _
    ·exact .any _
    ·omega
 ·exact absurd ((RepL.len0 C).1 rfl) u
theorem y3v {p:AV×AV}(C:o.op=.entry x)(Q:dok cx o=true)(u:A7 x=true)(L:σ.eval x=.ptr id 0)(N:σ.find id=some (.itc p ps)):Aj cx o σ (.tup [p.1,p.2]) [id] [] :=
 B8 Q fun τ γ a w h1 U q=>by
  have H:=q.ev x u;rw [h1 x (by simp [C,Op.operands]),L] at H;obtain ⟨g,hg,M,g',n,hi⟩:=zyf q (by rw [U id (by simp)];exact N) H (fun d h=>by obtain ⟨g,h,_⟩:=h;exact ⟨g,h⟩);injection n with n
  injection n with n _
  injection n with n
  subst n;rcases hi with ⟨bm,since,seen,W,es,clock,A,q2,q3,J,I,Z,Y,X,G,seen0,e,z,O,t,_⟩|⟨b,c,s,A,G,seen0,e,z,_⟩
  ·subst G;subst z;refine ⟨.tuple #[e.key,e.val],by simp only [execOp,C,M,Sem.run_bind,zlk w g bm since seen0 es W e A J O I,Result.andThen_ok,Sem.run_pure],.tup #[e.key,e.val] rfl (fun j D=>?_)⟩;have D:j<2:=D;rcases j with _|_|j
   ·exact t.1.open_
   ·exact t.2.open_
   ·omega
  ·simp at z
end
section
variable {E:Env} {nt:Nat} {σ:AS} {R:Exit->AS->Prop} {K:List Bt}
variable {ps:List (AV×AV)}
theorem AW.itp {c:Code}(r:Nat)(Z:σ.find r=some (.itp ps))(k:∀ j (h:j<ps.length),AW E nt R (.code c::K) .normal (σ.upd none .any [(r,.itc ps[j] (ps.eraseIdx j))])):AW E nt R (.code c::K) .normal σ:=⟨fun cx hE hn a w q=>by
 obtain ⟨γ,h⟩:=q;have p:=h.me r;rw [Z] at p;obtain ⟨d,D,g,C,hi⟩:=p;subst C;have n:∃ j,∃ h:j<ps.length,ItIs w (Sg cx.S0 cx.w0.heap.size γ) g (ItC w (Sg cx.S0 cx.w0.heap.size γ) ps[j] (ps.eraseIdx j)):=by
  rcases hi with ⟨bm,since,seen,c0,es,clock,I,W,U,Q,H,O,N,M,L⟩|⟨b,c,s,I,J,seen0,e,Y,_⟩
  ·obtain ⟨j,t,J⟩:=L.split H;exact ⟨j,t,aC ⟨bm,since,seen,c0,es,clock,I,W,U,Q,H,O,N,M,J⟩⟩
  ·simp at Y
 obtain ⟨j,t,z⟩:=n;refine (k j t).out cx hE hn a w ⟨γ,h.step (dst:=none) (v:=undef) (fun x X=>by cases X) (aA _) (fun b G _=>⟨rfl,G⟩) (fun id d D=>aC D) (fun id _=>⟨rfl,fun _ _ _ _=>rfl⟩) (fun id e A=>?_) h.inj h.ge h.below (.any _) (fun b G _=>⟨rfl,G⟩) (fun _=>aA _)⟩;have u:id=r:=by have:=D5 A;simpa using this
 subst u;simp only [lkE,aQ,aD] at A;subst A;exact ⟨_,D,g,rfl,z⟩⟩
theorem LeX.itc {p:AV×AV}(r:Nat)(O:σ.find r=some (.itc p ps)):LeX E nt σ (σ.upd none .any [(r,.it ps)]):=fun cx Z Y a w ⟨γ,h⟩=>by
 have j:=h.me r;rw [O] at j;obtain ⟨d,u,g,t,hi⟩:=j;subst t;refine ⟨γ,h.step (dst:=none) (v:=undef) (fun x N=>by cases N) (aA _) (fun b z _=>⟨rfl,z⟩) (fun id d u=>aC u) (fun id _=>⟨rfl,fun _ _ _ _=>rfl⟩) (fun id e n=>?_) h.inj h.ge h.below (.any _) (fun b z _=>⟨rfl,z⟩) (fun _=>aA _)⟩;have q:id=r:=by have:=D5 n;simpa using this
 subst q;simp only [lkE,aQ,aD] at n;subst n;refine ⟨_,u,g,rfl,?_⟩;rcases hi with ⟨bm,since,seen,X,es,clock,A,M,L,J,I,H,G,D,W,seen0,e,C,n,U,Q⟩|⟨b,c,s,A,W,seen0,e,C,_⟩
 ·exact aC ⟨bm,since,seen,X,es,clock,A,M,L,J,I,H,G,D,Q⟩
 ·simp at C
end
def aI (n:Int):AV:=.int .i64 n
theorem Cq (n:Int)(h:-9223372036854775808<=n/\n<=9223372036854775807):IntKind.i64.wrap n=n:=IntWalk.i64_in _ h
variable {vs:Array Value}
theorem y8u (h:vs.size=2):vs=#[vs.getD 0 undef,vs.getD 1 undef]:=by
 obtain ⟨l⟩:=vs
 match l,h with
 |[a,b],_=>rfl
theorem y8v (h:vs.size=1):vs=#[vs.getD 0 undef]:=by
 obtain ⟨l⟩:=vs
 match l,h with
 |[a],_=>rfl
section
variable {fr:Bool} {f:FuncId} {a b c res:AV}
theorem y92 {w w':World}(h:Below w.heap.size w w'):BelE E0 w w':=⟨h,fun h=>Bool.noConfusion (show false=true from h)⟩
end
abbrev Ars (α:Type):=List (Option Nat)×List α
def mkA (α:Type)(n:Nat):Ars α:=(aT n none,[])
section
variable {α β κ ν:Type}
def enO (ek:κ->AV)(ev:ν->AV)(l:List (κ×ν)):NE:=.mp (l.map (encM ek ev))
def mkm (n:Int)(bytes:Nat)(k:Nat->Option β):Option β:=if 0<=n/\n.toNat<=1099511627776/\bytes*n.toNat<=281474976710656 then k n.toNat else none
theorem MakX.om {n:Int}{bytes:Nat}{K:List AV->Prop}{k:Nat->Option β}{r:β}(h:mkm n bytes k=some r)(e:∀ m,k m=some r->K (aT m (.mapv []))):MakX n bytes (.mapv []) K:=by
 unfold mkm at h;split at h
 ·rename_i d;exact .mk n.toNat (by omega) d.2.1 d.2.2 _ (.refl _) (e _ h)
 ·cases h
def are (r:Nat)(x:Option β):Option β:=x
def frm (r:Nat)(x:Option β):Option β:=x
def aob (m:Ars α)(k:Nat)(c:Nat->Option β):Option β:=match m.1[k]? with|some (some j)=>c j|_=>none
def ast (m:Ars α)(k:Nat)(v:α)(c:Ars α->Option β):Option β:=if k<m.1.length then c (m.1.set k (some m.2.length),m.2++[v]) else none
def sput (l:List (Int×ν))(k:Int)(v:ν):List (Int×ν):=match l with
 |[]=>[(k,v)]
 |(a,b)::r=>if k<a then (k,v)::(a,b)::r else if k=a then (k,v)::r else (a,b)::sput r k v
def aup (m:Ars (List (Int×ν)))(j:Nat)(k:Int)(v:ν)(c:Ars (List (Int×ν))->Option β):Option β:=match m.2[j]? with|some l=>(if (l.map (·.1)).Pairwise (· < ·) then c (m.1,m.2.set j (sput l k v)) else none)|none=>none
def alk [DecidableEq κ](m:Ars (List (κ×ν)))(j:Nat)(k:κ)(z:ν)(c:ν->Bool->Option β):Option β:=match m.2[j]? with|some l=>c ((mlk l k).getD z) (mlk l k).isSome|none=>none
def aval (m:Ars (List α)):List (List α):=m.1.map fun o=>match o with|some j=>(m.2[j]?).getD []|none=>[]
def nxt (l:List α)(a b:Option β):Option β:=match l with|[]=>a|_::_=>b
open Classical in
noncomputable def pck2 (l:List α)(c:α->List α->Option β):Option β:=if h:∃ r,∀ j (h:j<l.length),c l[j] (l.eraseIdx j)=some r then some h.choose else none
noncomputable def pck (l:List α)(c:α->List α->Option β):Option β:=match l with|[]=>none|[x]=>c x []|x::y::r=>pck2 (x::y::r) c
variable {c:α->List α->Option β}
theorem y6g {l:List α}{r:β}(h:pck l c=some r):∀ j (h:j<l.length),c l[j] (l.eraseIdx j)=some r:=by
 match l,h with
 |[],h=>cases h
 |[x],h=>intro j d;have n:j=0:=(by simpa using d);subst n;exact h
 |x::y::t,h =>
  simp only [pck,pck2] at h;split at h
  ·rename_i g;have e:=aU h;subst e;exact g.choose_spec
  ·cases h
theorem y0t {l:List α}{r:β}(e:l≠[])(h:∀ j (h:j<l.length),c l[j] (l.eraseIdx j)=some r):pck l c=some r:=by
 match l,h with
 |[],_=>exact absurd rfl e
 |[x],h=>exact h 0 (by simp)
 |x::y::t,h =>
  simp only [pck,pck2];have d:∃ r,∀ j (h:j<(x::y::t).length),c (x::y::t)[j] ((x::y::t).eraseIdx j)=some r:=⟨r,h⟩;rw [dif_pos d];have:=d.choose_spec 0 (by simp);rw [h 0 (by simp)] at this;exact this.symm
variable {l:List (Int×ν)}{k:Int}{v:ν}
theorem zrp:∀ a,a∈(sput l k v).map (·.1) ↔ a=k\/a∈l.map (·.1):=by
 induction l with
 |nil=>intro a;simp [sput]
 |cons p r ih =>
  obtain ⟨a,b⟩:=p;intro x;simp only [sput];split
  ·simp
  ·split
   ·rename_i h1 d;subst d;simp
   ·simp only [aG,mem_cons,ih];constructor
    ·rintro (h|h|h)
     ·exact aJ (aC h)
     ·exact aC h
     ·exact aJ (aJ h)
    ·rintro (h|h|h)
     ·exact aJ (aC h)
     ·exact aC h
     ·exact aJ (aJ h)
def Srt (l:List (Int×ν)):Prop:=(l.map (·.1)).Pairwise (· < ·)
theorem Srt.nodup (h:Srt l):(l.map (·.1)).Nodup:=Pairwise.imp (fun h=>by omega) h
theorem zro (h:Srt l):Srt (sput l k v):=by
 induction l with
 |nil=>simp [sput,Srt]
 |cons p r g =>
  obtain ⟨a,b⟩:=p;simp only [Srt,aG,aF] at h;simp only [sput];split
  ·rename_i h1;simp only [Srt,aG,aF];refine ⟨fun x d=>?_,h⟩;rcases mem_cons.1 d with rfl|d
   ·exact h1
   ·have:=h.1 x d;omega
  ·split
   ·rename_i h1 e;subst e;simp only [Srt,aG,aF];exact h
   ·rename_i h1 e;simp only [Srt,aG,aF];refine ⟨fun x d=>?_,g h.2⟩;rcases (zrp x).1 d with rfl|d
    ·omega
    ·exact h.1 x d
theorem zw1 (h:Srt l):(sput l k v).Perm ((l.filter fun p=>decide (p.1≠k))++[(k,v)]):=by
 induction l with
 |nil=>exact .refl _
 |cons p r g =>
  obtain ⟨a,b⟩:=p;simp only [Srt,aG,aF] at h;have all:∀ (t:List (Int×ν)),(∀ x∈t.map (·.1),x≠k)->(t.filter fun p=>decide (p.1≠k))=t:=fun t j=>by
   rw [aN];intro p n;have:=j p.1 (aV.2 ⟨p,n,rfl⟩);simpa using this
  simp only [sput];split
  ·rename_i h1;rw [all ((a,b)::r) (fun x d=>by
    rcases mem_cons.1 d with rfl|d
    ·omega
    ·have:=h.1 x d;omega)]
   exact (aE (k,v) ((a,b)::r)).symm
  ·split
   ·rename_i h1 e;subst e;rw [aL,if_neg (by simp),all r (fun x d=>by have:=h.1 x d;omega)];exact (aE (k,v) r).symm
   ·rename_i h1 e;rw [aL,if_pos (by simp;omega)];exact (g h.2).cons (a,b)
theorem zlz {n:Int}{K X:AV}:∀ {ps:List (AV×AV)},(ps.map fun p=>intN p.1).Nodup->(putK (ps.findIdx? (qK n)) K X ps).Perm ((ps.filter fun p=>!qK n p)++[(K,X)])
 |[],_=>.refl _
 |p::r,h=>by
  simp only [aG,nodup_cons] at h;rw [findIdx?_cons,aL];cases s:qK n p with
  |true =>
   have t:(r.filter fun p=>!qK n p)=r:=by
    rw [aN];intro x q;have:¬n=intN x.1:=fun e=>h.1 (by
     have:intN p.1=intN x.1:=by rw [<-e];have g:=s;simp only [qK,decide_eq_true_eq] at g;exact g.symm
     rw [this];exact aV.2 ⟨x,q,rfl⟩)
    simp [qK,this]
   simp only [if_true,putK,set_cons_zero,aZ,aB,if_false];rw [t];exact (aE (K,X) r).symm
  |false =>
   have d:=zlz (n:=n) (K:=K) (X:=X) h.2;simp only [aB,if_false,aW,if_true];cases hi:findIdx? (qK n) r with
   |none=>rw [hi] at d;simpa [putK] using d.cons p
   |some j=>rw [hi] at d;simpa [putK] using d.cons p
theorem zws {ev:ν->AV}(h:Srt l):PutQ (aI k) (ev v) (l.map (encM aI ev)) ((sput l k v).map (encM aI ev)):=fun g j=>by
 have A:∀ l:List (Int×ν),∀ p∈l.map (encM aI ev),isI .i64 p.1=true:=fun l p hm=>by
  obtain ⟨q,_,rfl⟩:=aV.1 hm;simp [encM,aI,isI]
 have z:∀ l:List (Int×ν),(l.map (encM aI ev)).map (fun p=>intN p.1)=l.map (·.1):=fun l=>by
  rw [map_map];exact map_congr_left (fun p _=>by simp [encM,aI,intN])
 have d:g.Perm (l.map (encM aI ev)):=by
  rcases j with rfl|⟨j,_⟩
  ·exact .refl _
  ·exact j
 have t:∀ p∈g,isI .i64 p.1=true:=fun p hm=>A l p (d.mem_iff.1 hm)
 have s:(g.map fun p=>intN p.1).Nodup:=by
  have:=d.map (fun p=>intN p.1);rw [z] at this;exact this.nodup_iff.2 h.nodup
 refine ⟨g.findIdx? (qK k),?_,aJ ⟨?_,.i64,A _,by rw [z];exact (zro h).nodup⟩⟩
 ·have:=Zu (n:=k) g 0 t;rw [show aI k=.int .i64 k from rfl,this];cases findIdx? (qK k) g<;>rfl
 ·refine (zlz s).trans ?_;have u:=(zw1 (v:=v) h (k:=k)).map (encM aI ev);rw [map_append] at u;refine Perm.trans ?_ u.symm;refine Perm.append ?_ (.refl _);have C:=d.filter (fun p=>!qK k p);refine C.trans ?_;have:(l.map (encM aI ev)).filter (fun p=>!qK k p)=(l.filter fun p=>decide (p.1≠k)).map (encM aI ev):=by
   rw [filter_map];congr 1;apply filter_congr;intro p _;simp only [Function.comp,encM,aI,qK,intN];by_cases e:p.1=k
   ·simp [e]
   ·have:¬k=p.1:=fun h=>e h.symm
    simp [e,this]
  rw [this]
end
section
variable {α β κ ν:Type} {E:Env} {nt:Nat} {o:Oper} {σ:AS} {K:OpK}
variable {r:β}{T id ty:Nat}{x:Operand}{i:TyI}
theorem OpX.aob {m:Ars α}{eo:α->NE}{k:Nat}{c:Nat->Option β}(d:Proofs.YtidhlpjgifoneaaGreat.aob m k c=some r)(p:o.op=.load T x)(u:dokN E nt o.dst=true)(e:A7 x=true)(n:σ.eval x=.der (.nelt k) id)(A:lkT E.tab T=some i)(z:i.shape.agg=false)(q:σ.find id=some (.are ty m.1 (m.2.map eo)))
  (s:∀ j,c j=some r->K (.der (.obj j) id) [id] []):OpX E nt o σ K:=by
 unfold Proofs.YtidhlpjgifoneaaGreat.aob at d;split at d
 ·rename_i j t;exact .mk _ _ _ (fun cx h g=>zuj p (Am u h g) e n (by rw [h];exact A) z q t) (s _ d)
 ·cases d
variable {m:Ars (List (κ×ν))}{y:Operand}
theorem OpX.ast {v:List (κ×ν)}{k:Nat}{c:Ars (List (κ×ν))->Option β}{q:Nat}(ek:κ->AV)(ev:ν->AV)(d:Proofs.YtidhlpjgifoneaaGreat.ast m k v c=some r)(D:o.op=.store T x y)(I:dokN E nt o.dst=true)(j:A7 x=true)(g:A7 y=true)(A:σ.eval x=.der (.nelt k) id)(z:σ.eval y=.row q)(J:lkT E.tab T=some i)(t:i.sz=1)
  (G:σ.find id=some (.are ty m.1 (m.2.map (enO ek ev)))) (C:σ.find q=some (.mp (v.map (encM ek ev)))) (p:Nat.beq id q=false) (H:∀ e,c e=some r->K (.tup []) [id,q] [(id,.are ty e.1 (e.2.map (enO ek ev))),(q,.dead)]):OpX E nt o σ K:=by
 unfold Proofs.YtidhlpjgifoneaaGreat.ast at d;split at d
 ·rename_i s;have h:=H _ d;refine .mk _ _ _ (fun cx u n=>zpf D (Am I u n) j g A z (by rw [u];exact J) t G C s (nbne p)) ?_;simp only [aY];simp only [map_append,aG,map_nil] at h;exact h
 ·cases d
variable {kt et:Nat}
theorem OpX.aup {m:Ars (List (Int×ν))}{j:Nat}{key:Int}{v:ν}{c:Ars (List (Int×ν))->Option β}{z:Operand}(ev:ν->AV)(d:Proofs.YtidhlpjgifoneaaGreat.aup m j key v c=some r)(I:o.op=.mapUpdate T x y z\/o.op=.insert T x y z)(N:dokN E nt o.dst=true)(p:A7 x=true)(n:A7 y=true)(g:A7 z=true)(G:σ.eval x=.der (.obj j) id)(D:σ.eval y=aI key)(C:σ.eval z=ev v)
  (O:lkT E.tab T=some i) (H:i.shape=.map kt et) (t:Bv E.P kt (aI key)=true) (u:(ev v).closed=true) (J:σ.find id=some (.are ty m.1 (m.2.map (enO aI ev)))) (L:∀ e,c e=some r->K (.tup []) [id] [(id,.are ty e.1 (e.2.map (enO aI ev)))]):OpX E nt o σ K:=by
 unfold Proofs.YtidhlpjgifoneaaGreat.aup at d;split at d
 ·rename_i l M;split at d
  ·rename_i q;have h:=L _ d;refine .mk _ _ _ (fun cx A s=>zdk (ps':=(sput l key v).map (encM aI ev)) I (Am N A s) p n g G D C J (by rw [getElem?_map,M];rfl) (by rw [A];exact O) H (by rw [show cx.P=E.P by rw [<-A]];exact t) u (zws q)) ?_;simp only [map_set] at h;exact h
  ·cases d
 ·cases d
theorem OpX.alk [DecidableEq κ](ek:κ->AV)(er:ν->AV){j:Nat}{k:κ}{z:ν}{ok:Bool}{c:ν->Bool->Option β}{ie:TyI}(d:Proofs.YtidhlpjgifoneaaGreat.alk m j k z c=some r)(heq:∀ a b,eqK (ek a) (ek b)=some (decide (a=b)))(J:o.op=.lookup T x y ok)(U:dokN E nt o.dst=true)(p:A7 x=true)(n:A7 y=true)(H:σ.eval x=.der (.obj j) id)(G:σ.eval y=ek k)
  (L:σ.find id=some (.are ty m.1 (m.2.map (enO ek er)))) (X:lkT E.tab T=some i) (I:i.shape=.map kt et) (Q:lkT E.tab et=some ie) (g:D0 ie.zero.cells.toList=true) (u:Bv E.P kt (ek k)=true) (D:Sub (Cz ie.zero) (er z)) (M:∀ v b,c v b=some r->K (Ge (er v) b ok) [id] []):OpX E nt o σ K:=by
 unfold Proofs.YtidhlpjgifoneaaGreat.alk at d;split at d
 ·rename_i l N;have h:=LkX.o (P:=E.P) (kt:=kt) (zA:=Cz ie.zero) (K:=fun av b=>K (Ge av b ok) [id] []) ek er (show mgt l k z c=some r by unfold mgt;exact d) u heq D (fun v b C=>M v b C);cases h with
  |mk q av b A O W s C =>
   subst W;exact .mk _ _ _ (fun cx e t=>zlr (ok:=ok) J (Am U e t) p n H G L (by rw [getElem?_map,N];rfl) (by rw [e];exact X) I (by rw [e];exact Q) (Wz g) (by rw [show cx.P=E.P by rw [<-e]];exact A) O s) C
 ·cases d
variable {ps:List (AV×AV)}
theorem OpX.rng {d:Nat}(q:o.op=.range T x)(e:o.dst=some d)(u:dokN E nt o.dst=true)(g:A7 x=true)(n:σ.eval x=.mapv ps)(z:lkT E.tab T=some i)(p:i.shape=.map kt et)(s:σ.find d=none)(t:K (.ptr d 0) [d] [(d,.it ps)]):OpX E nt o σ K :=
 .mk _ _ _ (fun cx j h=>y3s q e (Am u j h) g n (by rw [j];exact z) p s) t
theorem OpX.nxt {l:List α}{a b:Option β}(en:α->AV×AV)(g:Proofs.YtidhlpjgifoneaaGreat.nxt l a b=some r)(n:o.op=.next x false)(q:dokN E nt o.dst=true)(e:A7 x=true)(j:σ.eval x=.ptr id 0)(p:σ.find id=some (.it (l.map en)))(t:a=some r->K (.tup [.bool false]) [id] [])(s:b=some r->K (.tup [.bool true,.any,.any]) [id] [(id,.itp (l.map en))]):OpX E nt o σ K:=by
 unfold Proofs.YtidhlpjgifoneaaGreat.nxt at g;split at g
 ·exact .mk _ _ _ (fun cx h d=>zug n (Am q h d) e j p) (t g)
 ·exact .mk _ _ _ (fun cx h d=>y67 n (Am q h d) e j p (by simp)) (s g)
theorem OpX.ent {p:AV×AV}(h:o.op=.entry x)(q:dokN E nt o.dst=true)(d:A7 x=true)(g:σ.eval x=.ptr id 0)(j:σ.find id=some (.itc p ps))(n:K (.tup [p.1,p.2]) [id] []):OpX E nt o σ K :=
 .mk _ _ _ (fun cx s e=>y3v h (Am q s e) d g j) n
end
section
variable {α β κ ν:Type} {E:Env} {nt:Nat} {R:Exit->AS->Prop} {K:List Bt}
variable {ty:Nat}{c:Code}{σ:AS}
theorem AW.areO {id m:Nat}{x:Option β}{y:β}(ek:κ->AV)(ev:ν->AV)(h:Proofs.YtidhlpjgifoneaaGreat.are id x=some y)(r:Nat)(d:σ.find r=some (.row ty 1 (aT m (.mapv []))))(k:x=some y->AW E nt R (.code c::K) .normal (σ.rpAll r Ew (.cont m r) (.are ty (mkA (List (κ×ν)) m).1 ((mkA (List (κ×ν)) m).2.map (enO ek ev))))):AW E nt R (.code c::K) .normal σ:=AW.weaken (LeX.are r d) (k h)
theorem zn5 {α β:Type}(f:α->β):∀ (l:List α) (j:Nat),(l.map f).eraseIdx j=(l.eraseIdx j).map f
 |[],j=>by simp
 |x::r,0=>by simp
 |x::r,j+1=>by simp [zn5 f r j]
theorem AW.pckO {l:List α}{f:α->List α->Option β}{y:β}(en:α->AV×AV)(h:pck l f=some y)(r:Nat)(e:σ.find r=some (.itp (l.map en)))(k:∀ x s,f x s=some y->AW E nt R (.code c::K) .normal (σ.upd none .any [(r,.itc (en x) (s.map en))])):AW E nt R (.code c::K) .normal σ :=
 AW.itp r e (fun j g=>by
  have d:j<l.length:=by simpa using g
  have:=k _ _ (y6g h j d);rw [<-zn5] at this;simpa using this)
variable {m:Ars (List (κ×ν))}
theorem LeX.frc (r:Nat)(ek:κ->AV)(ev:ν->AV)(hr:σ.find r=some (.are ty m.1 (m.2.map (enO ek ev)))):LeX E nt σ (σ.rpAll r Eo (.sl 1 ((aval m).map fun q=>.mapv (q.map (encM ek ev)))) .dead):=by
 refine LeX.rpAll r Eo _ _ _ hr (fun ty cs h=>by cases h) (fun cx γ a w d ad hd he=>?_);obtain ⟨s,vs,us,A,W,U,u,D,aa,Y,ae⟩:=he;have A:d=arnV s vs:=A;subst A;rw [aY] at U;refine ⟨none,(fun b p=>by cases p),fun S' hS H=>⟨rfl,fun γ' x v ac C hx Q=>?_⟩⟩;have N:∃ n,x=.cont n r:=by
  cases x with
  |cont n i=>simp only [AV.leafId,aD] at hx;exact ⟨n,by rw [hx]⟩
  |_=>simp [Eo] at C
 obtain ⟨n,rfl⟩:=N;have O:v=s:=by
  cases Q with
  |cont h Q hl =>
   rw [hd] at h;injection h with h
   have:=Q none (.agg (#[s]++vs)) h.symm;rw [this];simp only [Dv.of,con0]
 subst O;have ab:∀ k (G:k<(aval m).length),Rep w S' G0 (.mapv ((aval m)[k].map (encM ek ev))) (us.getD k undef):=fun k G=>by
  have z:k<m.1.length:=by simpa [aval] using G
  obtain ⟨q1,q2⟩:=aa k z;simp only [aval,aO];cases hc:m.1[k] with
  |none=>exact (q1 hc).mono (aA _) (fun b p _=>⟨rfl,hS b p⟩)
  |some j =>
   obtain ⟨q3,q4⟩:=q2 j hc;have J:j<m.2.length:=by simpa using q3
   rw [q4];simp only [getElem?_eq_getElem J,Option.getD_some];have h2:=(Y j q3).2;simp only [aO,enO] at h2;obtain ⟨g,M,I,⟨es,clock,e2,e3,e4,e5⟩,e6⟩:=h2;rw [I];have hg:S' g:=H g (mem_arnV.2 (aJ ⟨j,by rw [I];rfl⟩)) (fun p=>by cases p);exact .mapv M e6 g es clock e4 hg (Array.getElem?_eq_some_iff.1 e2).1 e2 e3 (fun j q L=>(e5 j q L).1.mono (aA _) (fun b p hl=>⟨rfl,hS b p⟩)) (fun j q L=>(e5 j q L).2.mono (aA _) (fun b p hl=>⟨rfl,hS b p⟩))
 obtain ⟨s0,t,X⟩:=Fh (w:=w) (S:=S') (γ:=γ) (S':=S') (B:=cx.w0.heap.size) (ty:=ty) (sz:=1) (xs:=(aval m).map fun q=>.mapv (q.map (encM ek ev))) (d:=some (v.ownBlock,v)) ⟨v,us,rfl,W,by rw [aY];simpa [aval] using u,fun k G=>by rw [aO];rfl,fun k G j hj=>by
   have z:k<(aval m).length:=by simpa using G
   have Z:j=0:=by
    have:j<1:=by simpa [AV.cells] using hj
    omega
   subst Z;simp only [aO,AV.cells,aR,Nat.mul_one,Nat.add_zero];exact ab k z,D⟩ (fun b p _=>p) (fun s g' e=>by
   injection e with e
   injection e with I e2
   rw [(Ea u).1] at I;exact H g' (mem_arnV.2 (aC I)) (fun p=>by cases p)) γ'
 injection t with t
 injection t with _ t
 rw [t];exact X
theorem AW.frcO {id:Nat}{x:Option β}{y:β}(ek:κ->AV)(ev:ν->AV)(h:frm id x=some y)(r:Nat)(d:σ.find r=some (.are ty m.1 (m.2.map (enO ek ev))))(k:x=some y->AW E nt R (.code c::K) .normal (σ.rpAll r Eo (.sl 1 ((aval m).map fun q=>.mapv (q.map (encM ek ev)))) .dead)):AW E nt R (.code c::K) .normal σ:=AW.weaken (LeX.frc r ek ev d) (k h)
end
section
variable {β ν:Type} {E:Env} {nt:Nat} {R:Exit->AS->Prop} {K:List Bt}
end
section
variable {α β:Type}
def eltD (d:AV->Option α)(l:List AV)(m:Nat)(k:α->Option β):Option β:=match l[m]? with|some a=>(match d a with|some y=>k y|none=>none)|none=>none
theorem EltX.oD {enc:α->AV}{d:AV->Option α}{l:List AV}{m:Nat}{K:AV->Prop}{k:α->Option β}{r:β}(h:eltD d l m k=some r)(j:∀ a y,d a=some y->a=enc y)(g:∀ y,k y=some r->K (enc y)):EltX (l.map idA) m K:=by
 unfold eltD at h;split at h
 ·rename_i a n;split at h
  ·rename_i y e;refine .mk (enc y) ?_ (g y h);rw [T9,n,j a y e]
  ·cases h
 ·cases h
end
attribute [irreducible] mkm are frm aob ast aup alk nxt pck  eltD
abbrev B16:=Bool×Bool×Bool×Bool×Bool×Bool×Bool×Bool×Bool×Bool×Bool×Bool×Bool×Bool×Bool×Bool
section
variable {α β V:Type}
inductive Us (l:List Nat):Prop|mk
variable {E:Env}{nt:Nat}{R:Exit->AS->Prop}{K:List Bt}{σ:AS}
theorem AW.stepW {ids:List Nat}(u:Us ids){e:Exit}(h:E3 E nt R (fAS σ fun d=>go E nt ids 1000000 K e d)):AW E nt R K e σ:=AW.stepU ids h
class JI (two:Bool) (F:V->Option β) (S:outParam (V->AS)) (B:outParam (V->Option β)):Type where
 eq:∀ v,F v=B v
variable {F B:V->Option β}{os:Array Oper}{r:β}
theorem AW.jI {S:V->AS}{i:Nat}{d:Bool}{C:Code}{x:Option β}(h:jon F x=some r)[j:JI false F S B]
  (n:∀ v,B v=some r->AW E nt R (.code C::K) .normal (S v)) (h1:x=some r->AW E nt (Cu (fun e=>∃ v,F v=some r/\LeX E nt e (S v)) (AW E nt R (.code C::K))) [.code (.region i os d)] .normal σ):AW E nt R (.code (.region i os d)::.code C::K) .normal σ:=AW.joinO1 h h1 fun v g=>n v ((j.eq v).symm.trans g)
theorem AW.jI2 {S:V->AS}{i:Nat}{d:Bool}{D C:Code}{x:Option β}(h:jon F x=some r)[j:JI true F S B]
  (n:∀ v,B v=some r->AW E nt R (.code C::K) .normal (S v)) (h1:x=some r->AW E nt (Cu (fun e=>∃ v,F v=some r/\LeX E nt e (S v)) (AW E nt R (.code C::K))) [.code (.region i os d),.code D] .normal σ):AW E nt R (.code (.region i os d)::.code D::.code C::K) .normal σ:=AW.joinO2 h h1 fun v g=>n v ((j.eq v).symm.trans g)
abbrev jf (F:V->Option β)(S:V->AS){B:V->Option β}(h:∀ v,F v=B v):JI false F S B:=⟨h⟩
abbrev jt (F:V->Option β)(S:V->AS){B:V->Option β}(h:∀ v,F v=B v):JI true F S B:=⟨h⟩
class LI (L:Nat->V->Option β) (S:outParam (V->AS)) (B:outParam (Nat->V->Option β)):Type where
 z:∀ v,L 0 v=none
 s:∀ m v,L (m+1) v=B m v
abbrev li (L:Nat->V->Option β)(S:V->AS){B:Nat->V->Option β}(s:∀ m v,L (m+1) v=B m v)(z:∀ v,L 0 v=none:=by exact fun _=>rfl)(z:∀ v,L 0 v=none:=by exact fun _=>rfl):LI L S B:=⟨z,s⟩
variable {c:Code}
theorem Ax.I {L:Nat->V->Option β}{S:V->AS}{B:Nat->V->Option β}{n:Nat}{e:V}(h:L n e=some r)[j:LI L S B](p:LeX E nt σ (S e))
  (round:∀ m v,B m v=some r->AW E nt (Cu (fun d=>∃ v',L m v'=some r/\LeX E nt d (S v')) (AW E nt R K)) [.code c] .normal (S v)):Ax E nt (fun next d=>AW E nt (Cu next (AW E nt R K)) [.code c] .normal d) σ :=
 LoopA.o h j.z p fun m v g=>round m v ((j.s m v).symm.trans g)
class CI (E:Env) (o:Option α) (fr:outParam Bool) (f:outParam FuncId) (avs:outParam (List AV)) (res:outParam (α->AV)):Prop where
 h:∀ {a},o=some a->Con E fr f avs (res a)
variable {f f':FuncId}{avs avs':List AV}{o:Option α}{k:α->Option β}{fr:Bool}{enc:α->AV}{find:Nat->Option Ent}{KR:AV->List Nat->List (Nat×Ent)->Prop}
theorem Af.I {K:AV->Prop}{R:Nat->Nat->List AV->AV->Prop}(h:bnd o k=some r)[i:CI E o fr f' avs' enc](g:∀ a,k a=some r->K (enc a))(e:f'=f:=by rfl)(d:avs'=avs:=by rfl)(e:f'=f:=by rfl)(d:avs'=avs:=by rfl)(e:f'=f:=by rfl)(d:avs'=avs:=by rfl):Af E f avs K R find KR:=by
 subst e d;exact Af.o h enc (fun _=>i.h) g
theorem B9.I {K:AV->Prop}{raw:List AV}{dst:Option Nat}(h:bnd o k=some r)[i:CI E o fr f' avs' enc](d:∀ a,k a=some r->K (enc a))(j:f'=f:=by rfl)(g:avs'=avs:=by rfl)(e:∀ a,fr=true\/(enc a).flat=true:=by exact fun _=>Or.inl rfl):B9 E f avs K raw find dst KR:=by
 subst j g;exact B9.o h enc (fun _=>i.h) e d
theorem Af.S {K:AV->Prop}{R:Nat->Nat->List AV->AV->Prop}(h:bnd o k=some r)[i:CI E o fr f' avs' enc](d:∀ a,k a=some r->K (enc a))(j:f'=f:=by rfl)(g:SubL avs avs':=by repeat' first|exact Sub.nil _|exact Sub.refl _|refine Sub.agg ?_|refine Sub.tup ?_|refine Sub.fn ?_|exact SubL.nil|refine SubL.cons ?_ ?_|refine Sub.sl _ ?_|exact SubE.nil|refine SubE.cons ?_ ?_):Af E f avs K R find KR:=by
 subst j;exact Af.o h enc (fun _ e=>Con.sub g (i.h e)) d
theorem LeX.pa {τ:AS}{v:AV}(t:Nat)(e:LeX E nt (σ.putS t v) τ)(d:Sub (σ.get t) v:=by repeat' first|exact Sub.nil _|exact Sub.refl _|refine Sub.agg ?_|refine Sub.tup ?_|refine Sub.fn ?_|exact SubL.nil|refine SubL.cons ?_ ?_|refine Sub.sl _ ?_|exact SubE.nil|refine SubE.cons ?_ ?_):LeX E nt σ τ:=LeX.trans (LeX.put t v d) e
theorem AndA {p q k:Prop}(g:k)(e:p:=by kernel_rfl)(d:q:=by kernel_rfl):(p/\q)/\k:=⟨⟨e,d⟩,g⟩
theorem AppX.oA {l m:List α}{ys:List AV}{bytes:Nat}{K:List AV->Prop}{k:List α->Option β}(h:app l m bytes k=some r)(g:∀ d,k d=some r->K (d.map enc))(e:SubR ys (m.map enc):=by first|exact SubR.refl _|(repeat' first|exact SubR.nil|refine SubR.cons ?_ ?_|exact SubL.nil|refine SubL.cons ?_ ?_|exact Sub.refl _|exact Sub.nil _)):AppX ((l.map enc).length+ys.length) bytes (l.map enc++ys) K:=AppX.o enc h e g
theorem AppX.oA0 {m:List α}{ys:List AV}{bytes:Nat}{K:List AV->Prop}{k:List α->Option β}(h:app [] m bytes k=some r)(g:∀ d,k d=some r->K (d.map enc))(e:SubR ys (m.map enc):=by first|exact SubR.refl _|(repeat' first|exact SubR.nil|refine SubR.cons ?_ ?_|exact SubL.nil|refine SubL.cons ?_ ?_|exact Sub.refl _|exact Sub.nil _)):AppX ys.length bytes ys K:=AppX.o0 enc h e g
theorem EqX.A {p K:Prop}(k:K)(h:p:=by first|rfl|kernel_rfl):EqX p K:=.mk h k
theorem IdxX.A {l:List α}{n:Int}{K:AV->Prop}(h:idx l n k=some r)(d:∀ x,k x=some r->K (enc x)):IdxX (l.map enc) n K:=IdxX.o enc h d
variable {fn:Func}{args:List AV}
theorem cw {res : AV}(g : E0.P.funcs[f]? = some fn)(h : AW E0 fn.ntmps (EndA E0 fn res) [.code c] .normal (Es args))(j : fn.body = some c := by rfl)(e : Nat.ble args.length fn.ntmps = true := by rfl)(h1 : (fn.name == "runtime.NumGoroutine") = false := by rfl)(n : fn.body.isNone = false := by rfl)(d : fr = false ∨ res.flat = true := by first | exact Or.inr rfl | exact Or.inl rfl)(j : fn.body = some c := by rfl)(e : Nat.ble args.length fn.ntmps = true := by rfl)(h1 : (fn.name == "runtime.NumGoroutine") = false := by rfl)(n : fn.body.isNone = false := by rfl)(d : fr = false ∨ res.flat = true := by first | exact Or.inr rfl | exact Or.inl rfl) : Con E0 fr f args res :=
 Con.walk c g j (B0 g h1 n) e d h
theorem GX.A {x r:α}{me:List (Nat×Ent)}{res:α->AV}{meF:α->List (Nat×Ent)}(h:some x=some r)(τ:α->AS)(h1:LeX E nt σ (τ x):=by exact LeX.a [])(n:(τ x).me=meF x:=by rfl)(j:retA E.tab (τ x) fn.results.toList=some avs:=by rfl)
  (g:Sub (K4 avs) (res x):=by repeat' first|exact Sub.nil _|exact Sub.refl _|refine Sub.agg ?_|refine Sub.tup ?_|refine Sub.fn ?_|exact SubL.nil|refine SubL.cons ?_ ?_|refine Sub.sl _ ?_|exact SubE.nil|refine SubE.cons ?_ ?_) (e:YK E.np args (τ x) (meF x) []:=by trivial) (d:boxB E.np args (τ x) me (meF x) []=true:=by rfl):GX E nt fn args me σ (res r) (meF r):=GX.o h (GX.mk (τ x) h1 n avs j g [] e d)
theorem RetX.oB {v w:AV}{a:β}(h:some a=some r)(d:a=r->Sub v w:=by
  intro e;subst e
  (repeat' first|exact Sub.nil _|exact Sub.refl _|refine Sub.agg ?_|refine Sub.tup ?_|refine Sub.fn ?_|exact SubL.nil|refine SubL.cons ?_ ?_|refine Sub.sl _ ?_|exact SubE.nil|refine SubE.cons ?_ ?_)<;>fail):RetX v w:=.sub (d (aU h))
theorem CI.w {res : α → AV}(ids : List Nat)(g : E0.P.funcs[f]? = some fn)(n : fn.body = some c := by rfl)(j : Nat.ble args.length fn.ntmps = true := by rfl)(h1 : (fn.name == "runtime.NumGoroutine") = false := by rfl)(q : fn.body.isNone = false := by rfl)
  (e:∀ r,fr=false\/(res r).flat=true:=by first|exact fun _=>Or.inr rfl|exact fun _=>Or.inl rfl)
  (h:∀ (_:Us ids) r,o=some r->AW E0 fn.ntmps (EndA E0 fn (res r)) [.code c] .normal (Es args):=by
    intro u r d;repeat' first
     |refine AW.jI d (fun v d=>?_) fun d=>?_
     |refine AW.jI2 d (fun v d=>?_) fun d=>?_
     |refine AW.regO d fun d=>?_
     |refine AW.stepW u ?_;conv=>whnf
     |refine Aa.o d (fun d=>?_) fun d=>?_
     |refine Aa.t ?_
     |refine Aa.f ?_
     |exact ⟨_,d,LeX.a []⟩
     |refine Ax.I d (LeX.a []) fun m v d=>?_
     |refine IdxX.A d fun x d=>?_
     |refine Af.I d fun a d=>?_
     |exact RetX.oB d
     |refine And.intro ⟨by kernel_rfl,by kernel_rfl⟩ ?_
     |refine EqX.A ?_
     |refine AppX.oA d fun l d=>?_
     |refine AppX.oA0 d fun l d=>?_):CI E0 o fr f args res :=
 ⟨fun p=>Con.walk c g n (B0 g h1 q) j (e _) (h .mk _ p)⟩
instance CI_E0p {np:Nat}{o:Option α}{fr:Bool}{f:FuncId}{avs:List AV}{res:α->AV}[i:CI E0 o fr f avs res]:CI (E0p np) o fr f avs res:=⟨fun h=>Con.env rfl rfl (i.h h)⟩
instance CI_E0b {o:Option α}{fr:Bool}{f:FuncId}{avs:List AV}{res:α->AV}[i:CI E0 o fr f avs res]:CI E0b o fr f avs res:=⟨fun h=>Con.env rfl rfl (i.h h)⟩
instance CI_E0y {l np:Nat}{R:Obj}{o:Option α}{fr:Bool}{f:FuncId}{avs:List AV}{res:α->AV}[i:CI E0 o fr f avs res]:CI (E0y l R np) o fr f avs res:=⟨fun h=>Con.env rfl rfl (i.h h)⟩
end
section
variable {α β:Type}
theorem Ao (x y:Option β):cnd true x y=x:=by unfold cnd;rfl
theorem Ap (x y:Option β):cnd false x y=y:=by unfold cnd;rfl
theorem A5 (p:Prop)[Decidable p](x y:Option β):cnd (decide p) x y=if p then x else y:=by
 by_cases h:p<;>simp [h,Ao,Ap]
theorem Ah (b:Bool)(x y:Option β):cnd (!b) x y=cnd b y x:=by cases b<;>simp [Ao,Ap]
theorem Aw (b:Bool)(x y:Option β):cnd b x y=if b=true then x else y:=by cases b<;>simp [Ao,Ap]
theorem A3 (a:α)(k:α->Option β):bnd (some a) k=k a:=by unfold bnd;rfl
theorem Jo (a:α)(k:α->Option β):bndR (some a) k=k a:=by unfold bndR;rfl
theorem zf7 (a:α)(k:α->Option β):bndC (some a) k=k a:=by unfold bndC;rfl
theorem Al (x:Option β):reg x=x:=by unfold reg;rfl
theorem y34 (i:Nat)(x:Option β):frz i x=x:=by unfold frz;rfl
variable {l:List α}
theorem A9 {i:Nat}(h:i<l.length)(k:α->Option β):idx l (i:Int) k=k l[i]:=by
 unfold idx;simp [h]
theorem y51 {n:Int}(d:0<=n)(h:n.toNat<l.length)(k:α->Option β):idx l n k=k l[n.toNat]:=by
 unfold idx;simp [h,d]
theorem Xc {x:α}(k:α->Option β):idx (x::l) 0 k=k x:=by unfold idx;simp
variable {len:Nat}
theorem Ct {i:Nat}(h:i<len)(k:Nat->Option β):nat (i:Int) len k=k i:=by
 unfold nat;simp [h]
theorem zqe {n:Int}(d:0<=n)(h:n.toNat<len)(k:Nat->Option β):nat n len k=k n.toNat:=by
 unfold nat;simp [h,d]
theorem Xm {m:Nat}(h:m<len)(x:Option β):ltx m len x=x:=by unfold ltx;simp [h]
theorem D7 {m:Nat}(h:m<l.length)(k:α->Option β):elt l m k=k l[m]:=by unfold elt;simp [h]
theorem Jz {m:Nat}(h:m<l.length)(f:α->α)(k:List α->Option β):stx l m f k=k (l.set m (f l[m])):=by unfold stx;simp [h]
theorem Bu {m:List α}{bytes:Nat}(h:l.length+m.length<=1000000000)(d:bytes<=100000)(k:List α->Option β):app l m bytes k=k (l++m):=by
 unfold app;have e:=aX h d;rw [if_pos ⟨by omega,by omega⟩]
theorem y2z {n:Nat}{bytes:Nat}(h:n<=1000000000)(d:bytes<=100000)(z:α)(k:List α->Option β):mak (n:Int) bytes z k=k (aT n z):=by
 unfold mak;have e:=aX d h;rw [if_pos ⟨by omega,by simp only [aK];omega,by simp only [aK];omega⟩];simp only [aK]
theorem Eb {a b:Nat}(h1:a<=b)(d:b<=l.length)(k:List α->Option β):sls l (a:Int) (b:Int) k=k ((l.take b).drop a):=by
 unfold sls;rw [if_pos (by omega)];simp
theorem y63 {b:Int}(h:0<=b)(x:Option β):shx b x=x:=by unfold shx;simp [h]
theorem Ad (k:Nat)(h:k<=1000000000000):IntKind.wrap .i64 ((k:Int)+1)=((k+1:Nat):Int):=by rw [Cq _ (by omega)];omega
end
end Go.Proofs.YtidhlpjgifoneaaGreat
