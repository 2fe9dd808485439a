/- The abstract walk. -/
import Derived.Test.YtidhlpjgifoneaaGreatK16
import Derived.Laws.IdiomRangeMap
set_option linter.unusedVariables false
set_option linter.unusedSimpArgs false
namespace Go.Proofs.YtidhlpjgifoneaaGreat
open Go.RowKit List
section
variable {P:Program} {w:World} {S:Nat->Prop}
theorem y3k (es:Array MapEntry)(seen:Array Nat):(leftOf es seen).toList=zix es seen:=by simp [leftOf,zix]
theorem run_next_at (w:World)(ty:TypeId)(g bm since c0:Nat)(seen:Array Nat)(es:Array MapEntry)(clock:Nat)(hg:w.heap[g]? = some (.mapIter (some bm) since seen c0))(hb:w.heap[bm]? = some (.map es clock))(hold:∀ x∈es.toList,x.born<since)(hsc:since<=c0) :
  (zix es seen=[]/\(Instr.next (.pointer (some ⟨g,0,none⟩)) false ty).run P w=.ok (.tuple #[.bool false]) w) \/
  ∃ e∈zix es seen,∃ n,(Instr.next (.pointer (some ⟨g,0,none⟩)) false ty).run P w=.ok (.tuple #[.bool true,e.key,e.val]) { w with drawn:=w.drawn+n,heap:=w.heap.setIfInBounds g (.mapIter (some bm) since (seen.push e.born) clock) }:=by
 simp only [Instr.next,getObj,Sem.run_bind,Sem.run,hg,hb,Result.andThen,next_test_false seen es since c0 hold hsc,Bool.false_eq_true,if_false]
 rw [<-y3k]
 unfold leftOf
 have hmem:∀ x∈(Array.filter (fun e=>!seen.contains e.born) es).toList,x.born<since:=fun x hx=>hold x (by simp at hx ⊢;exact hx.1)
 generalize Array.filter (fun e=>!seen.contains e.born) es=L at hmem ⊢
 have e1:L.filter (fun x=>decide (x.born<since))=L:=Array.filter_eq_self.2 (fun x hx=>by simpa using hmem x (by simpa using hx))
 have e2:L.filter (fun x=>decide (x.born ≥ since))=#[]:=by
  rw [Array.filter_eq_empty_iff]
  intro x hx
  have:=hmem x (by simpa using hx)
  simp
  omega
 simp only [e1,e2,Array.append_empty]
 by_cases h0:L.size=0
 ·left
  have:L=#[]:=Array.eq_empty_of_size_eq_zero h0
  subst this
  refine ⟨rfl,?_⟩
  simp [choose,Sem.run,Question.forced]
 ·right
  have hne:L.isEmpty=false:=by simp [Array.isEmpty,h0]
  simp only [hne,Bool.false_eq_true,if_false,Array.empty_append,Array.size_map]
  have hch:∃ (j n:Nat),j<L.size/\(choose (Question.mapNext L.size)).run P w=.ok j { w with drawn:=w.drawn+n }:=by
   by_cases hf:L.size<=1
   ·exact ⟨0,0,by omega,by simp [choose,Sem.run,Question.forced,hf]⟩
   ·exact ⟨_,1,Nat.mod_lt _ (by omega),by
     simp only [choose,Sem.run,Question.forced,decide_eq_true_eq,hf,if_false,Question.cut]
     rfl⟩
  obtain ⟨j,n,hj,hrun⟩:=hch
  refine ⟨L[j],by simp,n,?_⟩
  have hset:∀ o':Obj,(setObj g o').run P { w with drawn:=w.drawn+n }=.ok () { w with drawn:=w.drawn+n,heap:=w.heap.setIfInBounds g o' }:=fun o'=>by
   simp only [setObj,Sem.run,hg]
  simp only [hrun,Array.getElem?_map,Array.getElem?_eq_getElem hj,Option.map_some,Sem.run_bind,hset,Result.andThen]
  rfl
theorem y61 (w:World)(ty:TypeId)(g a b:Nat)(s:Array Nat)(hg:w.heap[g]? = some (.mapIter none a s b)):(Instr.next (.pointer (some ⟨g,0,none⟩)) false ty).run P w=.ok (.tuple #[.bool false]) w:=by
 simp only [Instr.next,getObj,Sem.run_bind,Sem.run,hg,Result.andThen]
 rfl
theorem y62 (w:World)(g bm since:Nat)(seen:Array Nat)(es:Array MapEntry)(clock:Nat)(e:MapEntry)(hg:w.heap[g]? = some (.mapIter (some bm) since (seen.push e.born) clock))(hb:w.heap[bm]? = some (.map es clock))(he:e∈es.toList)(hn:(es.toList.map (·.born)).Nodup) :
  (Instr.entry (.pointer (some ⟨g,0,none⟩))).run P w=.ok (.tuple #[e.key,e.val]) w:=by
 have hf:es.find? (·.born == e.born)=some e:=by rw [<-Array.find?_toList];exact find_born e es.toList hn he
 simp only [Instr.entry,getObj,Sem.run_bind,Sem.run,hg,hb,Result.andThen,Array.back?_push,bne_self_eq_false,Bool.false_eq_true,if_false,hf]
 rfl
variable {ps:List (AV×AV)}
theorem RepL.len0 {L:List MapEntry}(h:RepM w S L ps):L=[] ↔ ps=[]:=by
 obtain ⟨ps0,h1,h2,_⟩:=h
 have:=h1.length_eq
 rw [<-length_eq_zero_iff,<-length_eq_zero_iff]
 omega
variable {es:Array MapEntry}{seen:Array Nat}
theorem yff (hn:(es.toList.map (·.born)).Nodup){i:Nat}(hi:i<(zix es seen).length):zix es (seen.push (zix es seen)[i].born)=(zix es seen).eraseIdx i:=by
 have e1:zix es (seen.push (zix es seen)[i].born)=(zix es seen).filter fun e=>!(e.born == (zix es seen)[i].born):=by
  generalize (zix es seen)[i].born=b
  unfold zix
  rw [filter_filter]
  congr 1
  funext e
  rw [contains_push]
  cases seen.contains e.born<;>simp
 rw [e1]
 have hn':((zix es seen).map (·.born)).Nodup:=by
  unfold zix
  exact (filter_sublist.map _).nodup hn
 generalize zix es seen=L at *
 clear e1
 induction L generalizing i with
 |nil=>simp at hi
 |cons x r ih =>
  simp only [map_cons,nodup_cons] at hn'
  cases i with
  |zero =>
   simp only [getElem_cons_zero,eraseIdx_cons_zero,filter_cons,beq_self_eq_true,Bool.not_true,Bool.false_eq_true,if_false]
   rw [filter_eq_self]
   intro e he
   have:e.born≠x.born:=fun h=>hn'.1 (h▸mem_map.2 ⟨e,he,rfl⟩)
   simpa using this
  |succ i =>
   have hi':i<r.length:=by simpa using hi
   simp only [getElem_cons_succ,eraseIdx_cons_succ,filter_cons]
   have:x.born≠r[i].born:=fun h=>hn'.1 (h▸mem_map.2 ⟨r[i],getElem_mem _,rfl⟩)
   have hb:(x.born == r[i].born)=false:=by simpa using this
   rw [hb]
   simp only [Bool.not_false,if_true]
   rw [ih hi' hn'.2]
theorem zrw {α:Type}:∀ {l:List α} {i:Nat} (h:i<l.length),(l[i]::l.eraseIdx i).Perm l
 |x::r,0,_=>.refl _
 |x::r,i+1,h=>(Perm.swap x _ _).trans ((zrw (l:=r) (i:=i) (by simpa using h)).cons x)
theorem ItP.split {c0 clock:Nat}(hn:(es.toList.map (·.born)).Nodup)(h:ItP w S ps es seen c0 clock):∃ j,∃ h:j<ps.length,ItC w S ps[j] (ps.eraseIdx j) es seen c0 clock:=by
 obtain ⟨hc,seen0,e,hs,he,ps0,hp,hl,hr⟩:=h
 obtain ⟨i,hi,rfl⟩:=mem_iff_getElem.1 he
 have hi0:i<ps0.length:=by omega
 have hm:ps0[i]∈ps:=hp.mem_iff.1 (getElem_mem _)
 obtain ⟨j,hj,hje⟩:=mem_iff_getElem.1 hm
 refine ⟨j,hj,hc,seen0,_,hs,(mem_filter.1 he).1,by rw [hje];exact hr i hi hi0,ps0.eraseIdx i,?_,?_⟩
 ·have p1:ps0.Perm (ps0[i]::ps0.eraseIdx i):=(zrw hi0).symm
  have p2:ps.Perm (ps[j]::ps.eraseIdx j):=(zrw hj).symm
  rw [hje] at p2
  exact Perm.cons_inv ((p1.symm.trans hp).trans p2)
 ·rw [hs,yff hn hi]
  refine ⟨by rw [length_eraseIdx_of_lt hi,length_eraseIdx_of_lt hi0,hl],fun k h h'=>?_⟩
  rw [getElem_eraseIdx,getElem_eraseIdx]
  split
  ·exact hr _ _ _
  ·exact hr _ _ _
end
section
variable {cx:Cx} {o:Oper} {σ:AS}
variable {x:Operand}{ps:List (AV×AV)}
theorem ynh {T kt et d:Nat}{i:TyI}(ho:o.op=.range T x)(hdst:o.dst=some d)(hd:dok cx o=true)(hxo:z0r x=true)(hx:σ.eval x=.mapv ps)(hT:lkT cx.E.tab T=some i)(hs:i.shape=.map kt et)(hn:σ.find d=none):z11 cx o σ (.ptr d 0) [d] [(d,.it ps)]:=by
 refine ⟨fun id e he=>zhd he,fun τ h1 h2 a w Q K ⟨γ,hst⟩ hK=>zhj (fun c hc=>by rw [ho] at hc;cases hc) ?_⟩
 have ex:=hst.ev x hxo
 rw [h1 x (by simp [ho,Op.operands]),hx] at ex
 have hu:=zq5 (cx.E.ok T i hT) hs
 have key:∀ ob:Obj,(Instr.range T (a.eval x)).run cx.P w=.ok (.pointer (some ⟨w.heap.size,0,none⟩)) (w.alloc ob)->ItIs (w.alloc ob) (Sg cx.S0 cx.w0.heap.size (γ.set d (some (some w.heap.size,.slice none 0 0)))) w.heap.size (ItL (w.alloc ob) (Sg cx.S0 cx.w0.heap.size (γ.set d (some (some w.heap.size,.slice none 0 0)))) ps)->o.wp cx.P a w K Q:=fun ob hrun hit=>by
  have hex:(execOp a.eval o).run cx.P w=.ok (.value (.pointer (some ⟨w.heap.size,0,none⟩))) (w.alloc ob):=by
   simp only [execOp,ho,Sem.run_bind,hrun,Result.andThen_ok,Sem.run_pure]
  unfold Oper.wp
  rw [hex]
  refine hK _ _ ⟨_,hst.name (id:=d) (g:=w.heap.size) (s:=.slice none 0 0) (e:=.it ps) (z9f hd) (by rw [h2 d (by simp)];exact hn) ((Below.refl _ _).alloc (Nat.le_refl _) _) (Nat.le_refl _) (by simp) ?_ ?_⟩
  ·exact ⟨w.heap.size,rfl,hit⟩
  ·exact .ptr (Gam.set_self _ _ _) (fun g s e=>by injection e with e;injection e with e _;injection e with e;rw [e])
 have hSS:∀ b,Sg cx.S0 cx.w0.heap.size γ b->b<w.heap.size->Sg cx.S0 cx.w0.heap.size (γ.set d (some (some w.heap.size,.slice none 0 0))) b:=fun b hb hlt=>hb.elim Or.inl (fun ⟨q1,q2⟩=>Or.inr ⟨q1,fun ⟨i,s,hi,hm⟩=>by
  by_cases hid:i=d
  ·subst hid;rw [Gam.set_self] at hi;injection hi with hi;subst hi;have:=zth rfl hm;omega
  ·rw [Gam.set_ne _ _ _ hid] at hi;exact q2 ⟨i,s,hi,hm⟩⟩)
 rcases mapv_val ex with ⟨g,ps0,hv,hSg,hgl,⟨es,clock,hb,hl,hbn,hr⟩,hp⟩|⟨hv,he0⟩
 ·refine key (.mapIter (some g) clock #[] clock) (by rw [hv];exact run_range_map w T kt et g es clock hu hb) (Or.inl ⟨g,clock,#[],clock,es,clock,heap_alloc_new _ _,hSS g hSg hgl,by simp;omega,by rw [heap_alloc_old _ _ hgl];exact hb,hbn.1,hbn.2,Nat.le_refl _,Nat.le_refl _,ps0,?_,?_⟩)
  ·rcases hp with rfl|⟨hp,_⟩
   ·exact .refl _
   ·exact hp
  ·have hle:zix es #[]=es.toList:=by simp [zix]
   have hm:∀ {av v},Rep w (Sg cx.S0 cx.w0.heap.size γ) G0 av v->Rep (w.alloc (.mapIter (some g) clock #[] clock)) (Sg cx.S0 cx.w0.heap.size (γ.set d (some (some w.heap.size,.slice none 0 0)))) G0 av v:=fun h=>h.mono (by simp) (fun b hS hlt=>⟨heap_alloc_old _ _ hlt,hSS b hS hlt⟩)
   exact ⟨by rw [hle];simpa using hl,fun j h h'=>⟨by simp only [hle];exact hm (hr j (by rw [<-hle];exact h) h').1,by simp only [hle];exact hm (hr j (by rw [<-hle];exact h) h').2⟩⟩
 ·subst he0
  refine key (.mapIter none 0 #[] 0) (by rw [hv];exact run_range_nilMap w T kt et hu) (Or.inr ⟨0,0,#[],heap_alloc_new _ _,[],.refl _,by simp [RepL,zix]⟩)
variable {id:Nat}
theorem yii {γ:Gam}{τ:AS}{a:Act}{w:World}{e:Ent}{v:Value}(hst:StG cx γ τ a w)(hl:τ.find id=some e)(hv:Rep w (Sg cx.S0 cx.w0.heap.size γ) γ (.ptr id 0) v)(he:∀ d,z8s w (Sg cx.S0 cx.w0.heap.size γ) γ cx.w0.heap.size d e->∃ g,d=some (some g,.slice none 0 0)) :
  ∃ g,γ id=some (some (some g,.slice none 0 0))/\v=.pointer (some ⟨g,0,none⟩)/\z8s w (Sg cx.S0 cx.w0.heap.size γ) γ cx.w0.heap.size (some (some g,.slice none 0 0)) e:=by
 have hme:=hst.me id
 rw [hl] at hme
 obtain ⟨d,hd',hr⟩:=hme
 obtain ⟨g,rfl⟩:=he d hr
 exact ⟨g,hd',hv.ptr_inv hd',hr⟩
theorem yos {γ:Gam}{τ:AS}{a:Act}{w w':World}{g:Nat}{e:Ent}{av:AV}{v:Value}{dst:Option Nat}(hst:StG cx γ τ a w)(hd:∀ x,dst=some x->cx.E.np<=x/\x<cx.nt)(hg:γ id=some (some (some g,.slice none 0 0)))(hz:w.heap.size<=w'.heap.size)(ho:∀ k,k≠g->w'.heap[k]? = w.heap[k]?)(hb:Below cx.w0.heap.size w w')(hdr:w.drawn<=w'.drawn)
  (he:(∀ b,Sg cx.S0 cx.w0.heap.size γ b->b<w.heap.size->w'.heap[b]? = w.heap[b]? /\ Sg cx.S0 cx.w0.heap.size γ b)->z8s w' (Sg cx.S0 cx.w0.heap.size γ) γ cx.w0.heap.size (some (some g,.slice none 0 0)) e) (hv:Rep w' (Sg cx.S0 cx.w0.heap.size γ) γ av v):St cx (τ.upd dst av [(id,e)]) (a.put dst v) w':=by
 have hgo:own γ g:=own.mk hg
 have hgl:=hst.ge g hgo
 have hns:∀ b,Sg cx.S0 cx.w0.heap.size γ b->b≠g:=fun b hS e=>by
  subst e
  rcases hS with ⟨_,h⟩|⟨_,h⟩
  ·have:=hgl.1.1;omega
  ·exact h hgo
 have hk:∀ b,Sg cx.S0 cx.w0.heap.size γ b->b<w.heap.size->w'.heap[b]? = w.heap[b]? /\ Sg cx.S0 cx.w0.heap.size γ b:=fun b hS _=>⟨ho b (hns b hS),hS⟩
 refine ⟨γ,hst.step hd hz hk (fun id d h=>Or.inl h) (fun id' hid'=>⟨rfl,fun g' s hg' hmb=>ho g' ?_⟩) (fun id' e' he'=>?_) hst.inj (fun b hbo=>⟨(hst.ge b hbo).1,Nat.lt_of_lt_of_le (hst.ge b hbo).2 hz⟩) (hst.below.trans hb) hv (fun b hno hlt=>⟨ho b (fun e=>hno (e▸hgo)),hno⟩) (fun _=>hdr)⟩
 ·rintro rfl
  have:=hst.inj _ _ _ _ _ hg' hg hmb z4e
  subst this
  simp [lkE] at hid'
 ·have hid:id'=id:=by have:=zhd he';simpa using this
  subst hid
  simp only [lkE,Nat.beq_refl,Option.some.injEq] at he'
  subst he'
  exact ⟨_,hg,he hk⟩
theorem yeu (ho:o.op=.next x false)(hd:dok cx o=true)(hxo:z0r x=true)(hx:σ.eval x=.ptr id 0)(hl:σ.find id=some (.it [])):z11 cx o σ (.tup [.bool false]) [id] [] :=
 z14 hd fun τ γ a w h1 h2 hst=>by
  have ex:=hst.ev x hxo
  rw [h1 x (by simp [ho,Op.operands]),hx] at ex
  obtain ⟨g,hg,hv,g',hgg,hi⟩:=yii hst (by rw [h2 id (by simp)];exact hl) ex (fun d h=>by obtain ⟨g,h,_⟩:=h;exact ⟨g,h⟩)
  injection hgg with hgg
  injection hgg with hgg _
  injection hgg with hgg
  subst hgg
  refine ⟨.tuple #[.bool false],?_,.tup #[.bool false] rfl (fun j hj=>by have hj:j<1:=hj;have h0:j=0:=(by omega);subst h0;exact .bool _)⟩
  have hrun:(Instr.next (a.eval x) false o.type).run cx.P w=.ok (.tuple #[.bool false]) w:=by
   rw [hv]
   rcases hi with ⟨bm,since,seen,c0,es,clock,q1,q2,q3,q4,q5,q6,q7,q8,q9⟩|⟨b,c,s,q1,q2⟩
   ·rcases run_next_at (P:=cx.P) w o.type g bm since c0 seen es clock q1 q4 q6 q7 with ⟨_,hr⟩|⟨e,he,_⟩
    ·exact hr
    ·have:=(RepL.len0 q9).2 rfl
     rw [this] at he
     cases he
   ·exact y61 w o.type g b c s q1
  simp only [execOp,ho,Sem.run_bind,hrun,Result.andThen_ok,Sem.run_pure]
theorem yq0 (ho:o.op=.next x false)(hd:dok cx o=true)(hxo:z0r x=true)(hx:σ.eval x=.ptr id 0)(hl:σ.find id=some (.it ps))(hne:ps≠[]):z11 cx o σ (.tup [.bool true,.any,.any]) [id] [(id,.itp ps)]:=by
 refine ⟨fun id e he=>zhd he,fun τ h1 h2 a w Q K ⟨γ,hst⟩ hK=>zhj (fun c hc=>by rw [ho] at hc;cases hc) ?_⟩
 have ex:=hst.ev x hxo
 rw [h1 x (by simp [ho,Op.operands]),hx] at ex
 obtain ⟨g,hg,hv,g',hgg,hi⟩:=yii hst (by rw [h2 id (by simp)];exact hl) ex (fun d h=>by obtain ⟨g,h,_⟩:=h;exact ⟨g,h⟩)
 injection hgg with hgg
 injection hgg with hgg _
 injection hgg with hgg
 subst hgg
 rcases hi with ⟨bm,since,seen,c0,es,clock,q1,q2,q3,q4,q5,q6,q7,q8,q9⟩|⟨b,c,s,q1,q2⟩
 ·rcases run_next_at (P:=cx.P) w o.type g bm since c0 seen es clock q1 q4 q6 q7 with ⟨h0,_⟩|⟨e,he,n,hr⟩
  ·exact absurd ((RepL.len0 q9).1 h0) hne
  ·have hex:(execOp a.eval o).run cx.P w=.ok (.value (.tuple #[.bool true,e.key,e.val])) { w with drawn:=w.drawn+n,heap:=w.heap.setIfInBounds g (.mapIter (some bm) since (seen.push e.born) clock) }:=by
    simp only [execOp,ho,hv,Sem.run_bind,hr,Result.andThen_ok,Sem.run_pure]
   unfold Oper.wp
   rw [hex]
   have hgl:=hst.ge g (own.mk hg)
   have hoth:∀ k,k≠g->(w.heap.setIfInBounds g (.mapIter (some bm) since (seen.push e.born) clock))[k]? = w.heap[k]? := fun k hk=>by simp [Array.getElem?_setIfInBounds,Ne.symm hk]
   refine hK _ _ (yos hst (z9f hd) hg (by simp) hoth ⟨rfl,rfl,rfl,by simp,fun k hk=>hoth k (by have:=hgl.1.1;omega)⟩ (Nat.le_add_right _ _) (fun hk'=>?_) (.tup #[.bool true,e.key,e.val] rfl (fun j hj=>?_)))
   ·refine ⟨g,rfl,Or.inl ⟨bm,since,seen.push e.born,clock,es,clock,by simp [Array.getElem?_setIfInBounds,hgl.2],q2,by simpa using q3,?_,q5,q6,q8,q8,rfl,seen,e,rfl,he,?_⟩⟩
    ·exact (hk' bm q2 q3).1.trans q4
    ·exact RepM.move q9 (by simp) (fun b hS hlt=>hk' b hS hlt)
   ·have hj:j<3:=hj
    rcases j with _|_|_|j
    ·exact .bool _
    ·exact .any _
    ·exact .any _
    ·omega
 ·exact absurd ((RepL.len0 q2).1 rfl) hne
theorem yni {p:AV×AV}(ho:o.op=.entry x)(hd:dok cx o=true)(hxo:z0r x=true)(hx:σ.eval x=.ptr id 0)(hl:σ.find id=some (.itc p ps)):z11 cx o σ (.tup [p.1,p.2]) [id] [] :=
 z14 hd fun τ γ a w h1 h2 hst=>by
  have ex:=hst.ev x hxo
  rw [h1 x (by simp [ho,Op.operands]),hx] at ex
  obtain ⟨g,hg,hv,g',hgg,hi⟩:=yii hst (by rw [h2 id (by simp)];exact hl) ex (fun d h=>by obtain ⟨g,h,_⟩:=h;exact ⟨g,h⟩)
  injection hgg with hgg
  injection hgg with hgg _
  injection hgg with hgg
  subst hgg
  rcases hi with ⟨bm,since,seen,c0,es,clock,q1,q2,q3,q4,q5,q6,q7,q8,hc,seen0,e,hs,he,hep,_⟩|⟨b,c,s,q1,hc,seen0,e,hs,_⟩
  ·subst hc
   subst hs
   refine ⟨.tuple #[e.key,e.val],by simp only [execOp,ho,hv,Sem.run_bind,y62 w g bm since seen0 es c0 e q1 q4 he q5,Result.andThen_ok,Sem.run_pure],.tup #[e.key,e.val] rfl (fun j hj=>?_)⟩
   have hj:j<2:=hj
   rcases j with _|_|j
   ·exact hep.1.open_
   ·exact hep.2.open_
   ·omega
  ·simp at hs
end
section
variable {E:Env} {nt:Nat} {σ:AS} {R:Exit->AS->Prop} {K:List zfk}
variable {ps:List (AV×AV)}
theorem AW.itp {c:Code}(r:Nat)(hr:σ.find r=some (.itp ps))(k:∀ j (h:j<ps.length),AW E nt R (.code c::K) .normal (σ.upd none .any [(r,.itc ps[j] (ps.eraseIdx j))])):AW E nt R (.code c::K) .normal σ:=⟨fun cx hE hn a w hst=>by
 obtain ⟨γ,h⟩:=hst
 have hme:=h.me r
 rw [hr] at hme
 obtain ⟨d,hd,g,hde,hi⟩:=hme
 subst hde
 have hsplit:∃ j,∃ h:j<ps.length,ItIs w (Sg cx.S0 cx.w0.heap.size γ) g (ItC w (Sg cx.S0 cx.w0.heap.size γ) ps[j] (ps.eraseIdx j)):=by
  rcases hi with ⟨bm,since,seen,c0,es,clock,q1,q2,q3,q4,q5,q6,q7,q8,q9⟩|⟨b,c,s,q1,hc,seen0,e,hs,_⟩
  ·obtain ⟨j,hj,hc⟩:=q9.split q5
   exact ⟨j,hj,Or.inl ⟨bm,since,seen,c0,es,clock,q1,q2,q3,q4,q5,q6,q7,q8,hc⟩⟩
  ·simp at hs
 obtain ⟨j,hj,hi'⟩:=hsplit
 refine (k j hj).out cx hE hn a w ⟨γ,h.step (dst:=none) (v:=undef) (fun x hx=>by cases hx) (Nat.le_refl _) (fun b hb _=>⟨rfl,hb⟩) (fun id d hd=>Or.inl hd) (fun id _=>⟨rfl,fun _ _ _ _=>rfl⟩) (fun id e he=>?_) h.inj h.ge h.below (.any _) (fun b hb _=>⟨rfl,hb⟩) (fun _=>Nat.le_refl _)⟩
 have hid:id=r:=by have:=zhd he;simpa using this
 subst hid
 simp only [lkE,Nat.beq_refl,Option.some.injEq] at he
 subst he
 exact ⟨_,hd,g,rfl,hi'⟩⟩
theorem LeX.itc {p:AV×AV}(r:Nat)(hr:σ.find r=some (.itc p ps)):LeX E nt σ (σ.upd none .any [(r,.it ps)]):=fun cx hE hn a w ⟨γ,h⟩=>by
 have hme:=h.me r
 rw [hr] at hme
 obtain ⟨d,hd,g,hde,hi⟩:=hme
 subst hde
 refine ⟨γ,h.step (dst:=none) (v:=undef) (fun x hx=>by cases hx) (Nat.le_refl _) (fun b hb _=>⟨rfl,hb⟩) (fun id d hd=>Or.inl hd) (fun id _=>⟨rfl,fun _ _ _ _=>rfl⟩) (fun id e he=>?_) h.inj h.ge h.below (.any _) (fun b hb _=>⟨rfl,hb⟩) (fun _=>Nat.le_refl _)⟩
 have hid:id=r:=by have:=zhd he;simpa using this
 subst hid
 simp only [lkE,Nat.beq_refl,Option.some.injEq] at he
 subst he
 refine ⟨_,hd,g,rfl,?_⟩
 rcases hi with ⟨bm,since,seen,c0,es,clock,q1,q2,q3,q4,q5,q6,q7,q8,hc,seen0,e,hs,he,hep,hl⟩|⟨b,c,s,q1,hc,seen0,e,hs,_⟩
 ·exact Or.inl ⟨bm,since,seen,c0,es,clock,q1,q2,q3,q4,q5,q6,q7,q8,hl⟩
 ·simp at hs
end
def aI (n:Int):AV:=.int .i64 n
theorem zex (n:Int)(h:-9223372036854775808<=n/\n<=9223372036854775807):IntKind.i64.wrap n=n:=IntWalk.i64_in _ h
variable {vs:Array Value}
theorem ysi (h:vs.size=2):vs=#[vs.getD 0 undef,vs.getD 1 undef]:=by
 obtain ⟨l⟩:=vs
 match l,h with
 |[a,b],_=>rfl
theorem ysj (h:vs.size=1):vs=#[vs.getD 0 undef]:=by
 obtain ⟨l⟩:=vs
 match l,h with
 |[a],_=>rfl
section
variable {fr:Bool} {f:FuncId} {a b c res:AV}
theorem ysr {w w':World}(h:Below w.heap.size w w'):BelE E0 w w':=⟨h,fun h=>Bool.noConfusion (show false=true from h)⟩
end
abbrev Ars (α:Type):=List (Option Nat)×List α
def mkA (α:Type)(n:Nat):Ars α:=(replicate n none,[])
section
variable {α β κ ν:Type}
def enO (ek:κ->AV)(ev:ν->AV)(l:List (κ×ν)):NE:=.mp (l.map (encM ek ev))
def mkm (n:Int)(bytes:Nat)(k:Nat->Option β):Option β:=if 0<=n/\n.toNat<=1099511627776/\bytes*n.toNat<=281474976710656 then k n.toNat else none
theorem MakX.om {n:Int}{bytes:Nat}{K:List AV->Prop}{k:Nat->Option β}{r:β}(h:mkm n bytes k=some r)(hk:∀ m,k m=some r->K (replicate m (.mapv []))):MakX n bytes (.mapv []) K:=by
 unfold mkm at h
 split at h
 ·rename_i hn;exact .mk n.toNat (by omega) hn.2.1 hn.2.2 _ (.refl _) (hk _ h)
 ·cases h
def are (r:Nat)(x:Option β):Option β:=x
def frm (r:Nat)(x:Option β):Option β:=x
def aob (m:Ars α)(k:Nat)(c:Nat->Option β):Option β:=match m.1[k]? with|some (some j)=>c j|_=>none
def ast (m:Ars α)(k:Nat)(v:α)(c:Ars α->Option β):Option β:=if k<m.1.length then c (m.1.set k (some m.2.length),m.2++[v]) else none
def sput (l:List (Int×ν))(k:Int)(v:ν):List (Int×ν):=match l with
 |[]=>[(k,v)]
 |(a,b)::r=>if k<a then (k,v)::(a,b)::r else if k=a then (k,v)::r else (a,b)::sput r k v
def aup (m:Ars (List (Int×ν)))(j:Nat)(k:Int)(v:ν)(c:Ars (List (Int×ν))->Option β):Option β:=match m.2[j]? with|some l=>(if (l.map (·.1)).Pairwise (· < ·) then c (m.1,m.2.set j (sput l k v)) else none)|none=>none
def alk [DecidableEq κ](m:Ars (List (κ×ν)))(j:Nat)(k:κ)(z:ν)(c:ν->Bool->Option β):Option β:=match m.2[j]? with|some l=>c ((mlk l k).getD z) (mlk l k).isSome|none=>none
def aval (m:Ars (List α)):List (List α):=m.1.map fun o=>match o with|some j=>(m.2[j]?).getD []|none=>[]
def nxt (l:List α)(a b:Option β):Option β:=match l with|[]=>a|_::_=>b
open Classical in
noncomputable def pck2 (l:List α)(c:α->List α->Option β):Option β:=if h:∃ r,∀ j (h:j<l.length),c l[j] (l.eraseIdx j)=some r then some h.choose else none
noncomputable def pck (l:List α)(c:α->List α->Option β):Option β:=match l with|[]=>none|[x]=>c x []|x::y::r=>pck2 (x::y::r) c
variable {c:α->List α->Option β}
theorem yq7 {l:List α}{r:β}(h:pck l c=some r):∀ j (h:j<l.length),c l[j] (l.eraseIdx j)=some r:=by
 match l,h with
 |[],h=>cases h
 |[x],h=>intro j hj;have h0:j=0:=(by simpa using hj);subst h0;exact h
 |x::y::t,h =>
  simp only [pck,pck2] at h
  split at h
  ·rename_i he
   have e:=Option.some.inj h
   subst e
   exact he.choose_spec
  ·cases h
theorem yko {l:List α}{r:β}(hl:l≠[])(h:∀ j (h:j<l.length),c l[j] (l.eraseIdx j)=some r):pck l c=some r:=by
 match l,h with
 |[],_=>exact absurd rfl hl
 |[x],h=>exact h 0 (by simp)
 |x::y::t,h =>
  simp only [pck,pck2]
  have he:∃ r,∀ j (h:j<(x::y::t).length),c (x::y::t)[j] ((x::y::t).eraseIdx j)=some r:=⟨r,h⟩
  rw [dif_pos he]
  have:=he.choose_spec 0 (by simp)
  rw [h 0 (by simp)] at this
  exact this.symm
variable {l:List (Int×ν)}{k:Int}{v:ν}
theorem yc5:∀ a,a∈(sput l k v).map (·.1) ↔ a=k\/a∈l.map (·.1):=by
 induction l with
 |nil=>intro a;simp [sput]
 |cons p r ih =>
  obtain ⟨a,b⟩:=p
  intro x
  simp only [sput]
  split
  ·simp
  ·split
   ·rename_i h1 h2;subst h2;simp
   ·simp only [map_cons,mem_cons,ih]
    constructor
    ·rintro (h|h|h)
     ·exact Or.inr (Or.inl h)
     ·exact Or.inl h
     ·exact Or.inr (Or.inr h)
    ·rintro (h|h|h)
     ·exact Or.inr (Or.inl h)
     ·exact Or.inl h
     ·exact Or.inr (Or.inr h)
def Srt (l:List (Int×ν)):Prop:=(l.map (·.1)).Pairwise (· < ·)
theorem Srt.nodup (h:Srt l):(l.map (·.1)).Nodup:=Pairwise.imp (fun h=>by omega) h
theorem yc4 (h:Srt l):Srt (sput l k v):=by
 induction l with
 |nil=>simp [sput,Srt]
 |cons p r ih =>
  obtain ⟨a,b⟩:=p
  simp only [Srt,map_cons,pairwise_cons] at h
  simp only [sput]
  split
  ·rename_i h1
   simp only [Srt,map_cons,pairwise_cons]
   refine ⟨fun x hx=>?_,h⟩
   rcases mem_cons.1 hx with rfl|hx
   ·exact h1
   ·have:=h.1 x hx;omega
  ·split
   ·rename_i h1 h2
    subst h2
    simp only [Srt,map_cons,pairwise_cons]
    exact h
   ·rename_i h1 h2
    simp only [Srt,map_cons,pairwise_cons]
    refine ⟨fun x hx=>?_,ih h.2⟩
    rcases (yc5 x).1 hx with rfl|hx
    ·omega
    ·exact h.1 x hx
theorem yga (h:Srt l):(sput l k v).Perm ((l.filter fun p=>decide (p.1≠k))++[(k,v)]):=by
 induction l with
 |nil=>exact .refl _
 |cons p r ih =>
  obtain ⟨a,b⟩:=p
  simp only [Srt,map_cons,pairwise_cons] at h
  have all:∀ (t:List (Int×ν)),(∀ x∈t.map (·.1),x≠k)->(t.filter fun p=>decide (p.1≠k))=t:=fun t ht=>by
   rw [filter_eq_self]
   intro p hp
   have:=ht p.1 (mem_map.2 ⟨p,hp,rfl⟩)
   simpa using this
  simp only [sput]
  split
  ·rename_i h1
   rw [all ((a,b)::r) (fun x hx=>by
    rcases mem_cons.1 hx with rfl|hx
    ·omega
    ·have:=h.1 x hx;omega)]
   exact (perm_append_singleton (k,v) ((a,b)::r)).symm
  ·split
   ·rename_i h1 h2
    subst h2
    rw [filter_cons,if_neg (by simp),all r (fun x hx=>by have:=h.1 x hx;omega)]
    exact (perm_append_singleton (k,v) r).symm
   ·rename_i h1 h2
    rw [filter_cons,if_pos (by simp;omega)]
    exact (ih h.2).cons (a,b)
theorem y6a {n:Int}{K X:AV}:∀ {ps:List (AV×AV)},(ps.map fun p=>intN p.1).Nodup->(putK (ps.findIdx? (qK n)) K X ps).Perm ((ps.filter fun p=>!qK n p)++[(K,X)])
 |[],_=>.refl _
 |p::r,h=>by
  simp only [map_cons,nodup_cons] at h
  rw [findIdx?_cons,filter_cons]
  cases hq:qK n p with
  |true =>
   have hf:(r.filter fun p=>!qK n p)=r:=by
    rw [filter_eq_self]
    intro x hx
    have:¬n=intN x.1:=fun e=>h.1 (by
     have:intN p.1=intN x.1:=by rw [<-e];have h3:=hq;simp only [qK,decide_eq_true_eq] at h3;exact h3.symm
     rw [this];exact mem_map.2 ⟨x,hx,rfl⟩)
    simp [qK,this]
   simp only [if_true,putK,set_cons_zero,Bool.not_true,Bool.false_eq_true,if_false]
   rw [hf]
   exact (perm_append_singleton (K,X) r).symm
  |false =>
   have ih:=y6a (n:=n) (K:=K) (X:=X) h.2
   simp only [Bool.false_eq_true,if_false,Bool.not_false,if_true]
   cases hi:findIdx? (qK n) r with
   |none=>rw [hi] at ih;simpa [putK] using ih.cons p
   |some j=>rw [hi] at ih;simpa [putK] using ih.cons p
theorem ygv {ev:ν->AV}(h:Srt l):PutQ (aI k) (ev v) (l.map (encM aI ev)) ((sput l k v).map (encM aI ev)):=fun ps0 hp=>by
 have hk:∀ l:List (Int×ν),∀ p∈l.map (encM aI ev),isI .i64 p.1=true:=fun l p hm=>by
  obtain ⟨q,_,rfl⟩:=mem_map.1 hm
  simp [encM,aI,isI]
 have hn:∀ l:List (Int×ν),(l.map (encM aI ev)).map (fun p=>intN p.1)=l.map (·.1):=fun l=>by
  rw [map_map]
  exact map_congr_left (fun p _=>by simp [encM,aI,intN])
 have hperm:ps0.Perm (l.map (encM aI ev)):=by
  rcases hp with rfl|⟨hp,_⟩
  ·exact .refl _
  ·exact hp
 have hk0:∀ p∈ps0,isI .i64 p.1=true:=fun p hm=>hk l p (hperm.mem_iff.1 hm)
 have hn0:(ps0.map fun p=>intN p.1).Nodup:=by
  have:=hperm.map (fun p=>intN p.1)
  rw [hn] at this
  exact this.nodup_iff.2 h.nodup
 refine ⟨ps0.findIdx? (qK k),?_,Or.inr ⟨?_,.i64,hk _,by rw [hn];exact (yc4 h).nodup⟩⟩
 ·have:=zu7 (n:=k) ps0 0 hk0
  rw [show aI k=.int .i64 k from rfl,this]
  cases findIdx? (qK k) ps0<;>rfl
 ·refine (y6a hn0).trans ?_
  have p2:=(yga (v:=v) h (k:=k)).map (encM aI ev)
  rw [map_append] at p2
  refine Perm.trans ?_ p2.symm
  refine Perm.append ?_ (.refl _)
  have p3:=hperm.filter (fun p=>!qK k p)
  refine p3.trans ?_
  have:(l.map (encM aI ev)).filter (fun p=>!qK k p)=(l.filter fun p=>decide (p.1≠k)).map (encM aI ev):=by
   rw [filter_map]
   congr 1
   apply filter_congr
   intro p _
   simp only [Function.comp,encM,aI,qK,intN]
   by_cases e:p.1=k
   ·simp [e]
   ·have:¬k=p.1:=fun h=>e h.symm
    simp [e,this]
  rw [this]
end
section
variable {α β κ ν:Type} {E:Env} {nt:Nat} {o:Oper} {σ:AS} {K:OpK}
variable {r:β}{T id ty:Nat}{x:Operand}{i:TyI}
theorem OpX.aob {m:Ars α}{eo:α->NE}{k:Nat}{c:Nat->Option β}(hF:Proofs.YtidhlpjgifoneaaGreat.aob m k c=some r)(ho:o.op=.load T x)(hd:dokN E nt o.dst=true)(hxo:z0r x=true)(hx:σ.eval x=.der (.nelt k) id)(hT:lkT E.tab T=some i)(ha:i.shape.agg=false)(hl:σ.find id=some (.are ty m.1 (m.2.map eo)))
  (hk:∀ j,c j=some r->K (.der (.obj j) id) [id] []):OpX E nt o σ K:=by
 unfold Proofs.YtidhlpjgifoneaaGreat.aob at hF
 split at hF
 ·rename_i j hj
  exact .mk _ _ _ (fun cx hE hnt=>yex ho (z15 hd hE hnt) hxo hx (by rw [hE];exact hT) ha hl hj) (hk _ hF)
 ·cases hF
variable {m:Ars (List (κ×ν))}{y:Operand}
theorem OpX.ast {v:List (κ×ν)}{k:Nat}{c:Ars (List (κ×ν))->Option β}{q:Nat}(ek:κ->AV)(ev:ν->AV)(hF:Proofs.YtidhlpjgifoneaaGreat.ast m k v c=some r)(ho:o.op=.store T x y)(hd:dokN E nt o.dst=true)(hxo:z0r x=true)(hyo:z0r y=true)(hx:σ.eval x=.der (.nelt k) id)(hy:σ.eval y=.row q)(hT:lkT E.tab T=some i)(hi1:i.sz=1)
  (hl:σ.find id=some (.are ty m.1 (m.2.map (enO ek ev)))) (hq:σ.find q=some (.mp (v.map (encM ek ev)))) (hne:Nat.beq id q=false) (hk:∀ m',c m'=some r->K (.tup []) [id,q] [(id,.are ty m'.1 (m'.2.map (enO ek ev))),(q,.dead)]):OpX E nt o σ K:=by
 unfold Proofs.YtidhlpjgifoneaaGreat.ast at hF
 split at hF
 ·rename_i hlt
  have h:=hk _ hF
  refine .mk _ _ _ (fun cx hE hnt=>y9q ho (z15 hd hE hnt) hxo hyo hx hy (by rw [hE];exact hT) hi1 hl hq hlt (nbne hne)) ?_
  simp only [length_map]
  simp only [map_append,map_cons,map_nil] at h
  exact h
 ·cases hF
variable {kt et:Nat}
theorem OpX.aup {m:Ars (List (Int×ν))}{j:Nat}{key:Int}{v:ν}{c:Ars (List (Int×ν))->Option β}{z:Operand}(ev:ν->AV)(hF:Proofs.YtidhlpjgifoneaaGreat.aup m j key v c=some r)(ho:o.op=.mapUpdate T x y z\/o.op=.insert T x y z)(hd:dokN E nt o.dst=true)(hxo:z0r x=true)(hyo:z0r y=true)(hzo:z0r z=true)(hx:σ.eval x=.der (.obj j) id)(hy:σ.eval y=aI key)(hz:σ.eval z=ev v)
  (hT:lkT E.tab T=some i) (hs:i.shape=.map kt et) (hkf:zfh E.P kt (aI key)=true) (hcl:(ev v).closed=true) (hl:σ.find id=some (.are ty m.1 (m.2.map (enO aI ev)))) (hk:∀ m',c m'=some r->K (.tup []) [id] [(id,.are ty m'.1 (m'.2.map (enO aI ev)))]):OpX E nt o σ K:=by
 unfold Proofs.YtidhlpjgifoneaaGreat.aup at hF
 split at hF
 ·rename_i l hj
  split at hF
  ·rename_i hsr
   have h:=hk _ hF
   refine .mk _ _ _ (fun cx hE hnt=>zy0 (ps':=(sput l key v).map (encM aI ev)) ho (z15 hd hE hnt) hxo hyo hzo hx hy hz hl (by rw [getElem?_map,hj];rfl) (by rw [hE];exact hT) hs (by rw [show cx.P=E.P by rw [<-hE]];exact hkf) hcl (ygv hsr)) ?_
   simp only [map_set] at h
   exact h
  ·cases hF
 ·cases hF
theorem OpX.alk [DecidableEq κ](ek:κ->AV)(er:ν->AV){j:Nat}{k:κ}{z:ν}{ok:Bool}{c:ν->Bool->Option β}{ie:TyI}(hF:Proofs.YtidhlpjgifoneaaGreat.alk m j k z c=some r)(heq:∀ a b,eqK (ek a) (ek b)=some (decide (a=b)))(ho:o.op=.lookup T x y ok)(hd:dokN E nt o.dst=true)(hxo:z0r x=true)(hyo:z0r y=true)(hx:σ.eval x=.der (.obj j) id)(hy:σ.eval y=ek k)
  (hl:σ.find id=some (.are ty m.1 (m.2.map (enO ek er)))) (hT:lkT E.tab T=some i) (hs:i.shape=.map kt et) (he:lkT E.tab et=some ie) (hzo:zhu ie.zero.cells.toList=true) (hkf:zfh E.P kt (ek k)=true) (hz:Sub (zht ie.zero) (er z)) (hk:∀ v b,c v b=some r->K (y0c (er v) b ok) [id] []):OpX E nt o σ K:=by
 unfold Proofs.YtidhlpjgifoneaaGreat.alk at hF
 split at hF
 ·rename_i l hj
  have h:=LkX.o (P:=E.P) (kt:=kt) (zA:=zht ie.zero) (K:=fun av b=>K (y0c av b ok) [id] []) ek er (show mgt l k z c=some r by unfold mgt;exact hF) hkf heq hz (fun v b hc=>hk v b hc)
  cases h with
  |mk q av b hk' hf hb hsu hc =>
   subst hb
   exact .mk _ _ _ (fun cx hE hnt=>y68 (ok:=ok) ho (z15 hd hE hnt) hxo hyo hx hy hl (by rw [getElem?_map,hj];rfl) (by rw [hE];exact hT) hs (by rw [hE];exact he) (zn6 hzo) (by rw [show cx.P=E.P by rw [<-hE]];exact hk') hf hsu) hc
 ·cases hF
variable {ps:List (AV×AV)}
theorem OpX.rng {d:Nat}(ho:o.op=.range T x)(hdst:o.dst=some d)(hd:dokN E nt o.dst=true)(hxo:z0r x=true)(hx:σ.eval x=.mapv ps)(hT:lkT E.tab T=some i)(hs:i.shape=.map kt et)(hn:σ.find d=none)(hk:K (.ptr d 0) [d] [(d,.it ps)]):OpX E nt o σ K :=
 .mk _ _ _ (fun cx hE hnt=>ynh ho hdst (z15 hd hE hnt) hxo hx (by rw [hE];exact hT) hs hn) hk
theorem OpX.nxt {l:List α}{a b:Option β}(en:α->AV×AV)(hF:Proofs.YtidhlpjgifoneaaGreat.nxt l a b=some r)(ho:o.op=.next x false)(hd:dokN E nt o.dst=true)(hxo:z0r x=true)(hx:σ.eval x=.ptr id 0)(hl:σ.find id=some (.it (l.map en)))(ha:a=some r->K (.tup [.bool false]) [id] [])(hb:b=some r->K (.tup [.bool true,.any,.any]) [id] [(id,.itp (l.map en))]):OpX E nt o σ K:=by
 unfold Proofs.YtidhlpjgifoneaaGreat.nxt at hF
 split at hF
 ·exact .mk _ _ _ (fun cx hE hnt=>yeu ho (z15 hd hE hnt) hxo hx hl) (ha hF)
 ·exact .mk _ _ _ (fun cx hE hnt=>yq0 ho (z15 hd hE hnt) hxo hx hl (by simp)) (hb hF)
theorem OpX.ent {p:AV×AV}(ho:o.op=.entry x)(hd:dokN E nt o.dst=true)(hxo:z0r x=true)(hx:σ.eval x=.ptr id 0)(hl:σ.find id=some (.itc p ps))(hk:K (.tup [p.1,p.2]) [id] []):OpX E nt o σ K :=
 .mk _ _ _ (fun cx hE hnt=>yni ho (z15 hd hE hnt) hxo hx hl) hk
end
section
variable {α β κ ν:Type} {E:Env} {nt:Nat} {R:Exit->AS->Prop} {K:List zfk}
variable {ty:Nat}{c:Code}{σ:AS}
theorem AW.areO {id m:Nat}{x:Option β}{y:β}(ek:κ->AV)(ev:ν->AV)(h:Proofs.YtidhlpjgifoneaaGreat.are id x=some y)(r:Nat)(hr:σ.find r=some (.row ty 1 (replicate m (.mapv []))))(k:x=some y->AW E nt R (.code c::K) .normal (σ.rpAll r y7l (.cont m r) (.are ty (mkA (List (κ×ν)) m).1 ((mkA (List (κ×ν)) m).2.map (enO ek ev))))):AW E nt R (.code c::K) .normal σ:=AW.weaken (LeX.are r hr) (k h)
theorem y7f {α β:Type}(f:α->β):∀ (l:List α) (j:Nat),(l.map f).eraseIdx j=(l.eraseIdx j).map f
 |[],j=>by simp
 |x::r,0=>by simp
 |x::r,j+1=>by simp [y7f f r j]
theorem AW.pckO {l:List α}{f:α->List α->Option β}{y:β}(en:α->AV×AV)(h:pck l f=some y)(r:Nat)(hr:σ.find r=some (.itp (l.map en)))(k:∀ x s,f x s=some y->AW E nt R (.code c::K) .normal (σ.upd none .any [(r,.itc (en x) (s.map en))])):AW E nt R (.code c::K) .normal σ :=
 AW.itp r hr (fun j hj=>by
  have hj':j<l.length:=by simpa using hj
  have:=k _ _ (yq7 h j hj')
  rw [<-y7f] at this
  simpa using this)
variable {m:Ars (List (κ×ν))}
theorem LeX.frc (r:Nat)(ek:κ->AV)(ev:ν->AV)(hr:σ.find r=some (.are ty m.1 (m.2.map (enO ek ev)))):LeX E nt σ (σ.rpAll r zw3 (.sl 1 ((aval m).map fun q=>.mapv (q.map (encM ek ev)))) .dead):=by
 refine LeX.rpAll r zw3 _ _ _ hr (fun ty cs h=>by cases h) (fun cx γ a w d hst hd he=>?_)
 obtain ⟨s,vs,us,hde,hs1,hsz,hown,hone,hix,hnn,hdb⟩:=he
 have hde:d=arnV s vs:=hde
 subst hde
 rw [length_map] at hsz
 refine ⟨none,(fun b hb=>by cases hb),fun S' hS hS2=>⟨rfl,fun γ' x v hγ' hsrc hx hv=>?_⟩⟩
 have hx':∃ n,x=.cont n r:=by
  cases x with
  |cont n i=>simp only [AV.leafId,Option.some.injEq] at hx;exact ⟨n,by rw [hx]⟩
  |_=>simp [zw3] at hsrc
 obtain ⟨n,rfl⟩:=hx'
 have hvs:v=s:=by
  cases hv with
  |cont h hv hl =>
   rw [hd] at h
   injection h with h
   have:=hv none (.agg (#[s]++vs)) h.symm
   rw [this]
   simp only [Dv.of,con0]
 subst hvs
 have hel:∀ k (hk:k<(aval m).length),Rep w S' G0 (.mapv ((aval m)[k].map (encM ek ev))) (us.getD k undef):=fun k hk=>by
  have hk':k<m.1.length:=by simpa [aval] using hk
  obtain ⟨q1,q2⟩:=hix k hk'
  simp only [aval,getElem_map]
  cases hc:m.1[k] with
  |none=>exact (q1 hc).mono (Nat.le_refl _) (fun b hb _=>⟨rfl,hS b hb⟩)
  |some j =>
   obtain ⟨q3,q4⟩:=q2 j hc
   have q3':j<m.2.length:=by simpa using q3
   rw [q4]
   simp only [getElem?_eq_getElem q3',Option.getD_some]
   have h2:=(hnn j q3).2
   simp only [getElem_map,enO] at h2
   obtain ⟨g,ps0,e1,⟨es,clock,e2,e3,e4,e5⟩,e6⟩:=h2
   rw [e1]
   have hg:S' g:=hS2 g (mem_arnV.2 (Or.inr ⟨j,by rw [e1];rfl⟩)) (fun hb=>by cases hb)
   exact .mapv ps0 e6 g es clock e4 hg (Array.getElem?_eq_some_iff.1 e2).1 e2 e3 (fun j q q'=>(e5 j q q').1.mono (Nat.le_refl _) (fun b hb hl=>⟨rfl,hS b hb⟩)) (fun j q q'=>(e5 j q q').2.mono (Nat.le_refl _) (fun b hb hl=>⟨rfl,hS b hb⟩))
 obtain ⟨s0,hs0,hr0⟩:=zts (w:=w) (S:=S') (γ:=γ) (S':=S') (B:=cx.w0.heap.size) (ty:=ty) (sz:=1) (xs:=(aval m).map fun q=>.mapv (q.map (encM ek ev))) (d:=some (v.ownBlock,v)) ⟨v,us,rfl,hs1,by rw [length_map];simpa [aval] using hown,fun k hk=>by rw [getElem_map];rfl,fun k hk j hj=>by
   have hk':k<(aval m).length:=by simpa using hk
   have hj0:j=0:=by
    have:j<1:=by simpa [AV.cells] using hj
    omega
   subst hj0
   simp only [getElem_map,AV.cells,getElem_cons_zero,Nat.mul_one,Nat.add_zero]
   exact hel k hk',hone⟩ (fun b hb _=>hb) (fun s g' e=>by
   injection e with e
   injection e with e1 e2
   rw [(zt5 hown).1] at e1
   exact hS2 g' (mem_arnV.2 (Or.inl e1)) (fun hb=>by cases hb)) γ'
 injection hs0 with hs0
 injection hs0 with _ hs0
 rw [hs0]
 exact hr0
theorem AW.frcO {id:Nat}{x:Option β}{y:β}(ek:κ->AV)(ev:ν->AV)(h:frm id x=some y)(r:Nat)(hr:σ.find r=some (.are ty m.1 (m.2.map (enO ek ev))))(k:x=some y->AW E nt R (.code c::K) .normal (σ.rpAll r zw3 (.sl 1 ((aval m).map fun q=>.mapv (q.map (encM ek ev)))) .dead)):AW E nt R (.code c::K) .normal σ:=AW.weaken (LeX.frc r ek ev hr) (k h)
end
section
variable {β ν:Type} {E:Env} {nt:Nat} {R:Exit->AS->Prop} {K:List zfk}
end
section
variable {α β:Type}
def eltD (d:AV->Option α)(l:List AV)(m:Nat)(k:α->Option β):Option β:=match l[m]? with|some a=>(match d a with|some y=>k y|none=>none)|none=>none
theorem EltX.oD {enc:α->AV}{d:AV->Option α}{l:List AV}{m:Nat}{K:AV->Prop}{k:α->Option β}{r:β}(h:eltD d l m k=some r)(hd:∀ a y,d a=some y->a=enc y)(hk:∀ y,k y=some r->K (enc y)):EltX (l.map idA) m K:=by
 unfold eltD at h
 split at h
 ·rename_i a ha
  split at h
  ·rename_i y hy
   refine .mk (enc y) ?_ (hk y h)
   rw [zv6,ha,hd a y hy]
  ·cases h
 ·cases h
end
attribute [irreducible] mkm are frm aob ast aup alk nxt pck  eltD
abbrev B16:=Bool×Bool×Bool×Bool×Bool×Bool×Bool×Bool×Bool×Bool×Bool×Bool×Bool×Bool×Bool×Bool
section
variable {α β V:Type}
inductive Us (l:List Nat):Prop|mk
variable {E:Env}{nt:Nat}{R:Exit->AS->Prop}{K:List zfk}{σ:AS}
theorem AW.stepW {ids:List Nat}(u:Us ids){e:Exit}(h:zur E nt R (fAS σ fun σ'=>go E nt ids 1000000 K e σ')):AW E nt R K e σ:=AW.stepU ids h
class JI (two:Bool) (F:V->Option β) (S:outParam (V->AS)) (B:outParam (V->Option β)):Type where
 eq:∀ v,F v=B v
variable {F B:V->Option β}{os:Array Oper}{r:β}
theorem AW.jI {S:V->AS}{i:Nat}{d:Bool}{C:Code}{x:Option β}(h:jon F x=some r)[j:JI false F S B]
  (h2:∀ v,B v=some r->AW E nt R (.code C::K) .normal (S v)) (h1:x=some r->AW E nt (zmp (fun σ'=>∃ v,F v=some r/\LeX E nt σ' (S v)) (AW E nt R (.code C::K))) [.code (.region i os d)] .normal σ):AW E nt R (.code (.region i os d)::.code C::K) .normal σ:=AW.joinO1 h h1 fun v hv=>h2 v ((j.eq v).symm.trans hv)
theorem AW.jI2 {S:V->AS}{i:Nat}{d:Bool}{D C:Code}{x:Option β}(h:jon F x=some r)[j:JI true F S B]
  (h2:∀ v,B v=some r->AW E nt R (.code C::K) .normal (S v)) (h1:x=some r->AW E nt (zmp (fun σ'=>∃ v,F v=some r/\LeX E nt σ' (S v)) (AW E nt R (.code C::K))) [.code (.region i os d),.code D] .normal σ):AW E nt R (.code (.region i os d)::.code D::.code C::K) .normal σ:=AW.joinO2 h h1 fun v hv=>h2 v ((j.eq v).symm.trans hv)
abbrev jf (F:V->Option β)(S:V->AS){B:V->Option β}(h:∀ v,F v=B v):JI false F S B:=⟨h⟩
abbrev jt (F:V->Option β)(S:V->AS){B:V->Option β}(h:∀ v,F v=B v):JI true F S B:=⟨h⟩
class LI (L:Nat->V->Option β) (S:outParam (V->AS)) (B:outParam (Nat->V->Option β)):Type where
 z:∀ v,L 0 v=none
 s:∀ m v,L (m+1) v=B m v
abbrev li (L:Nat->V->Option β)(S:V->AS){B:Nat->V->Option β}(s:∀ m v,L (m+1) v=B m v)(z:∀ v,L 0 v=none:=by exact fun _=>rfl):LI L S B:=⟨z,s⟩
variable {c:Code}
theorem z7z.I {L:Nat->V->Option β}{S:V->AS}{B:Nat->V->Option β}{n:Nat}{v0:V}(h:L n v0=some r)[j:LI L S B](hl:LeX E nt σ (S v0))
  (round:∀ m v,B m v=some r->AW E nt (zmp (fun σ'=>∃ v',L m v'=some r/\LeX E nt σ' (S v')) (AW E nt R K)) [.code c] .normal (S v)):z7z E nt (fun next σ'=>AW E nt (zmp next (AW E nt R K)) [.code c] .normal σ') σ :=
 LoopA.o h j.z hl fun m v hv=>round m v ((j.s m v).symm.trans hv)
class CI (E:Env) (o:Option α) (fr:outParam Bool) (f:outParam FuncId) (avs:outParam (List AV)) (res:outParam (α->AV)):Prop where
 h:∀ {a},o=some a->Con E fr f avs (res a)
variable {f f':FuncId}{avs avs':List AV}{o:Option α}{k:α->Option β}{fr:Bool}{enc:α->AV}{find:Nat->Option Ent}{KR:AV->List Nat->List (Nat×Ent)->Prop}
theorem z1l.I {K:AV->Prop}{R:Nat->Nat->List AV->AV->Prop}(h:bnd o k=some r)[i:CI E o fr f' avs' enc](hk:∀ a,k a=some r->K (enc a))(e1:f'=f:=by rfl)(e2:avs'=avs:=by rfl):z1l E f avs K R find KR:=by
 subst e1 e2
 exact z1l.o h enc (fun _=>i.h) hk
theorem zak.I {K:AV->Prop}{raw:List AV}{dst:Option Nat}(h:bnd o k=some r)[i:CI E o fr f' avs' enc](hk:∀ a,k a=some r->K (enc a))(e1:f'=f:=by rfl)(e2:avs'=avs:=by rfl)(e3:∀ a,fr=true\/(enc a).flat=true:=by exact fun _=>Or.inl rfl):zak E f avs K raw find dst KR:=by
 subst e1 e2
 exact zak.o h enc (fun _=>i.h) e3 hk
theorem z1l.S {K:AV->Prop}{R:Nat->Nat->List AV->AV->Prop}(h:bnd o k=some r)[i:CI E o fr f' avs' enc](hk:∀ a,k a=some r->K (enc a))(e1:f'=f:=by rfl)(e2:SubL avs avs':=by repeat' first|exact Sub.nil _|exact Sub.refl _|refine Sub.agg ?_|refine Sub.tup ?_|refine Sub.fn ?_|exact SubL.nil|refine SubL.cons ?_ ?_|refine Sub.sl _ ?_|exact SubE.nil|refine SubE.cons ?_ ?_):z1l E f avs K R find KR:=by
 subst e1
 exact z1l.o h enc (fun _ ha=>Con.sub e2 (i.h ha)) hk
theorem LeX.pa {τ:AS}{v:AV}(t:Nat)(h2:LeX E nt (σ.putS t v) τ)(hs:Sub (σ.get t) v:=by repeat' first|exact Sub.nil _|exact Sub.refl _|refine Sub.agg ?_|refine Sub.tup ?_|refine Sub.fn ?_|exact SubL.nil|refine SubL.cons ?_ ?_|refine Sub.sl _ ?_|exact SubE.nil|refine SubE.cons ?_ ?_):LeX E nt σ τ:=LeX.trans (LeX.put t v hs) h2
theorem AndA {p q k:Prop}(hk:k)(hp:p:=by kernel_rfl)(hq:q:=by kernel_rfl):(p/\q)/\k:=⟨⟨hp,hq⟩,hk⟩
theorem AppX.oA {l m:List α}{ys:List AV}{bytes:Nat}{K:List AV->Prop}{k:List α->Option β}(h:app l m bytes k=some r)(hk:∀ l',k l'=some r->K (l'.map enc))(hs:SubR ys (m.map enc):=by first|exact SubR.refl _|(repeat' first|exact SubR.nil|refine SubR.cons ?_ ?_|exact SubL.nil|refine SubL.cons ?_ ?_|exact Sub.refl _|exact Sub.nil _)):AppX ((l.map enc).length+ys.length) bytes (l.map enc++ys) K:=AppX.o enc h hs hk
theorem AppX.oA0 {m:List α}{ys:List AV}{bytes:Nat}{K:List AV->Prop}{k:List α->Option β}(h:app [] m bytes k=some r)(hk:∀ l',k l'=some r->K (l'.map enc))(hs:SubR ys (m.map enc):=by first|exact SubR.refl _|(repeat' first|exact SubR.nil|refine SubR.cons ?_ ?_|exact SubL.nil|refine SubL.cons ?_ ?_|exact Sub.refl _|exact Sub.nil _)):AppX ys.length bytes ys K:=AppX.o0 enc h hs hk
theorem EqX.A {p K:Prop}(k:K)(h:p:=by first|rfl|kernel_rfl):EqX p K:=.mk h k
theorem IdxX.A {l:List α}{n:Int}{K:AV->Prop}(h:idx l n k=some r)(hk:∀ x,k x=some r->K (enc x)):IdxX (l.map enc) n K:=IdxX.o enc h hk
variable {fn:Func}{args:List AV}
theorem cw {res : AV}(hf : E0.P.funcs[f]? = some fn)(h : AW E0 fn.ntmps (EndA E0 fn res) [.code c] .normal (zwg args))(hb : fn.body = some c := by rfl)(hn : Nat.ble args.length fn.ntmps = true := by rfl)(h1 : (fn.name == "runtime.NumGoroutine") = false := by rfl)(h2 : fn.body.isNone = false := by rfl)(hfr : fr = false ∨ res.flat = true := by first | exact Or.inr rfl | exact Or.inl rfl) : Con E0 fr f args res :=
 Con.walk c hf hb (z0x hf h1 h2) hn hfr h
theorem GX.A {x r:α}{me:List (Nat×Ent)}{res:α->AV}{meF:α->List (Nat×Ent)}(h:some x=some r)(τ:α->AS)(h1:LeX E nt σ (τ x):=by exact LeX.a [])(h2:(τ x).me=meF x:=by rfl)(h3:retA E.tab (τ x) fn.results.toList=some avs:=by rfl)
  (h4:Sub (y6c avs) (res x):=by repeat' first|exact Sub.nil _|exact Sub.refl _|refine Sub.agg ?_|refine Sub.tup ?_|refine Sub.fn ?_|exact SubL.nil|refine SubL.cons ?_ ?_|refine Sub.sl _ ?_|exact SubE.nil|refine SubE.cons ?_ ?_) (h5:YK E.np args (τ x) (meF x) []:=by trivial) (h6:boxB E.np args (τ x) me (meF x) []=true:=by rfl):GX E nt fn args me σ (res r) (meF r):=GX.o h (GX.mk (τ x) h1 h2 avs h3 h4 [] h5 h6)
theorem RetX.oB {v w:AV}{a:β}(h:some a=some r)(hs:a=r->Sub v w:=by
  intro hr
  subst hr
  (repeat' first|exact Sub.nil _|exact Sub.refl _|refine Sub.agg ?_|refine Sub.tup ?_|refine Sub.fn ?_|exact SubL.nil|refine SubL.cons ?_ ?_|refine Sub.sl _ ?_|exact SubE.nil|refine SubE.cons ?_ ?_)<;>fail):RetX v w:=.sub (hs (Option.some.inj h))
theorem CI.w {res : α → AV}(ids : List Nat)(hf : E0.P.funcs[f]? = some fn)(hb : fn.body = some c := by rfl)(hn : Nat.ble args.length fn.ntmps = true := by rfl)(h1 : (fn.name == "runtime.NumGoroutine") = false := by rfl)(h2 : fn.body.isNone = false := by rfl)
  (hfr:∀ r,fr=false\/(res r).flat=true:=by first|exact fun _=>Or.inr rfl|exact fun _=>Or.inl rfl)
  (h:∀ (_:Us ids) r,o=some r->AW E0 fn.ntmps (EndA E0 fn (res r)) [.code c] .normal (zwg args):=by
    intro u r hF
    repeat' first
     |refine AW.jI hF (fun v hF=>?_) fun hF=>?_
     |refine AW.jI2 hF (fun v hF=>?_) fun hF=>?_
     |refine AW.regO hF fun hF=>?_
     |refine AW.stepW u ?_;conv=>whnf
     |refine z12.o hF (fun hF=>?_) fun hF=>?_
     |refine z12.t ?_
     |refine z12.f ?_
     |exact ⟨_,hF,LeX.a []⟩
     |refine z7z.I hF (LeX.a []) fun m v hF=>?_
     |refine IdxX.A hF fun x hF=>?_
     |refine z1l.I hF fun a hF=>?_
     |exact RetX.oB hF
     |refine And.intro ⟨by kernel_rfl,by kernel_rfl⟩ ?_
     |refine EqX.A ?_
     |refine AppX.oA hF fun l hF=>?_
     |refine AppX.oA0 hF fun l hF=>?_):CI E0 o fr f args res :=
 ⟨fun ha=>Con.walk c hf hb (z0x hf h1 h2) hn (hfr _) (h .mk _ ha)⟩
instance CI_E0p {np:Nat}{o:Option α}{fr:Bool}{f:FuncId}{avs:List AV}{res:α->AV}[i:CI E0 o fr f avs res]:CI (E0p np) o fr f avs res:=⟨fun h=>Con.env rfl rfl (i.h h)⟩
instance CI_E0b {o:Option α}{fr:Bool}{f:FuncId}{avs:List AV}{res:α->AV}[i:CI E0 o fr f avs res]:CI E0b o fr f avs res:=⟨fun h=>Con.env rfl rfl (i.h h)⟩
instance CI_E0y {l np:Nat}{R:Obj}{o:Option α}{fr:Bool}{f:FuncId}{avs:List AV}{res:α->AV}[i:CI E0 o fr f avs res]:CI (E0y l R np) o fr f avs res:=⟨fun h=>Con.env rfl rfl (i.h h)⟩
end
section
variable {α β:Type}
theorem z6c (x y:Option β):cnd true x y=x:=by unfold cnd;rfl
theorem z6e (x y:Option β):cnd false x y=y:=by unfold cnd;rfl
theorem z0c (p:Prop)[Decidable p](x y:Option β):cnd (decide p) x y=if p then x else y:=by
 by_cases h:p<;>simp [h,z6c,z6e]
theorem z0y (b:Bool)(x y:Option β):cnd (!b) x y=cnd b y x:=by cases b<;>simp [z6c,z6e]
theorem z5a (b:Bool)(x y:Option β):cnd b x y=if b=true then x else y:=by cases b<;>simp [z6c,z6e]
theorem z04 (a:α)(k:α->Option β):bnd (some a) k=k a:=by unfold bnd;rfl
theorem zjq (a:α)(k:α->Option β):bndR (some a) k=k a:=by unfold bndR;rfl
theorem zzp (a:α)(k:α->Option β):bndC (some a) k=k a:=by unfold bndC;rfl
theorem z1d (x:Option β):reg x=x:=by unfold reg;rfl
theorem yms (i:Nat)(x:Option β):frz i x=x:=by unfold frz;rfl
variable {l:List α}
theorem z0j {i:Nat}(h:i<l.length)(k:α->Option β):idx l (i:Int) k=k l[i]:=by
 unfold idx
 simp [h]
theorem you {n:Int}(h0:0<=n)(h:n.toNat<l.length)(k:α->Option β):idx l n k=k l[n.toNat]:=by
 unfold idx
 simp [h,h0]
theorem zu1 {x:α}(k:α->Option β):idx (x::l) 0 k=k x:=by unfold idx;simp
variable {len:Nat}
theorem zf1 {i:Nat}(h:i<len)(k:Nat->Option β):nat (i:Int) len k=k i:=by
 unfold nat
 simp [h]
theorem yoi {n:Int}(h0:0<=n)(h:n.toNat<len)(k:Nat->Option β):nat n len k=k n.toNat:=by
 unfold nat
 simp [h,h0]
theorem y7i {m:Nat}(h:m<len)(x:Option β):ltx m len x=x:=by unfold ltx;simp [h]
theorem zid {m:Nat}(h:m<l.length)(k:α->Option β):elt l m k=k l[m]:=by unfold elt;simp [h]
theorem y1a {m:Nat}(h:m<l.length)(f:α->α)(k:List α->Option β):stx l m f k=k (l.set m (f l[m])):=by unfold stx;simp [h]
theorem zbi {m:List α}{bytes:Nat}(h:l.length+m.length<=1000000000)(hb:bytes<=100000)(k:List α->Option β):app l m bytes k=k (l++m):=by
 unfold app
 have h2:=Nat.mul_le_mul h hb
 rw [if_pos ⟨by omega,by omega⟩]
theorem zmq {a b:Nat}(h1:a<=b)(h2:b<=l.length)(k:List α->Option β):sls l (a:Int) (b:Int) k=k ((l.take b).drop a):=by
 unfold sls
 rw [if_pos (by omega)]
 simp
theorem ypy {b:Int}(h:0<=b)(x:Option β):shx b x=x:=by unfold shx;simp [h]
theorem z1o (k:Nat)(h:k<=1000000000000):IntKind.wrap .i64 ((k:Int)+1)=((k+1:Nat):Int):=by rw [zex _ (by omega)];omega
end
end Go.Proofs.YtidhlpjgifoneaaGreat
