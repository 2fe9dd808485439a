/- The abstract walk. -/
import Derived.Test.YthbogefcfhmpgaaGreatK11
set_option linter.unusedVariables false
set_option linter.unusedSimpArgs false
namespace Go.Proofs.YthbogefcfhmpgaaGreat
open Go.RowKit List
open _root_.Array renaming getElem?_setIfInBounds->aA,length_toList->aF
open Option.some renaming injEq->aB
open List renaming getElem_map->aC,getD_eq_getElem?_getD->aD,getElem_replicate->aG,getElem_cons_zero->aH,getElem_eraseIdx->aJ,length_map->aL
open Nat renaming le_refl->aE,add_zero->aM
section
variable {cx:Cx} {o:Oper} {σ:AS}
theorem LeX.arr {E:Env}{nt:Nat}{σ:AS}(r ety:Nat){ty m:Nat}(X:σ.find r=some (.row ty 1 (replicate m .nils))):LeX E nt σ (σ.rpAll r Dr (.cont m r) (.are ty ((range m).map some) (replicate m (.row ety 1 [])))):=by
 refine LeX.rpAll r Dr (.cont m r) _ _ X (fun ty cs h=>by cases h) (fun cx γ a w d W Z Y=>?_);obtain ⟨s,us,N,A,c,S,J,B⟩:=Y;subst N;obtain ⟨F,D⟩:=Jd c;rw [length_replicate] at c;have I:us.length=m:=by have:=c.1;omega
 have l:∀ k,k<m->us.getD k undef=.slice none 0 0:=fun k f=>by
  have:=J k (by simpa using f) 0 (by simp [AV.cells]);simp only [aG,AV.cells,aH,Nat.mul_one,aM] at this;exact this.nils_inv
 have q:∀ k,us.toArray.getD k undef=us.getD k undef:=fun k=>by simp [Array.getD_eq_getD_getElem?,aD]
 have p:∀ k b,B5 (us.toArray.getD k undef)≠some b:=fun k b t=>by
  rw [q] at t;by_cases f:k<m
  ·rw [l k f] at t;simp [B5] at t
  ·rw [aD,getElem?_eq_none (by omega)] at t;simp [undef,B5] at t
 refine ⟨arnV s us.toArray,fun b t=>?_,fun S' hS aa=>⟨⟨s,us.toArray,us,rfl,A,by simp [I],by rw [aL,length_range];exact c,B,fun k f=>?_,fun j C=>?_,fun i j b hi=>absurd hi (p i b),fun i b _=>p i b⟩,fun γ' x v y z Q U=>?_⟩⟩
 ·rcases mem_arnV.1 t with h|⟨j,h⟩
  ·exact (Eo F D).2 h
  ·exact absurd h (p j b)
 ·have L:k<m:=by simpa using f
  simp only [aC,getElem_range];refine ⟨(fun h=>by cases h),fun j C=>?_⟩;injection C with C
  subst C;exact ⟨by simpa using L,(q k).symm⟩
 ·have M:j<m:=by simpa using C
  rw [aG,q,l j M];exact ⟨(by intro h;cases h),rfl,[],World.ownsRow_nil _ _ _ _,fun k f=>absurd f (by simp),fun k f=>absurd f (by simp),fun u V=>by cases V⟩
 ·have G:x=.row r:=by
   cases x with
   |row i=>simp only [AV.leafId,aB] at Q;rw [Q]
   |_=>simp [Dr] at z
  subst G;have H:v=s:=U.row_inv Z (Gg A);subst H;refine .cont y (fun g s' e=>?_) ?_
  ·injection e with e
   injection e with _ e
   subst e;simp only [Dv.of,con0]
  ·rcases c.2 with ⟨n,h0⟩|⟨g,O,ab,n,_⟩
   ·exact ⟨none,0,by rw [n,h0],fun h=>by omega⟩
   ·exact ⟨_,O,n,fun _=>⟨g,0,rfl⟩⟩
theorem y0b {w:World}{S:Nat->Prop}{γ:Gam}{n id:Nat}{v s:Value}{vs:Array Value}(h:Rep w S γ (.cont n id) v)(f:γ id=some (arnV s vs)):v=s/\∃ A c,s=.slice A n c:=by
 cases h with
 |cont h a d =>
  rw [f] at h;injection h with h
  have e:=a none (.agg (#[s]++vs)) h.symm;simp only [Dv.of,con0] at e;obtain ⟨A,c,b,_⟩:=d;exact ⟨e,A,c,by rw [<-e];exact b⟩
end
variable {α β:Type}
section
variable {E:Env} {nt:Nat} {o:Oper} {σ:AS} {K:AV->List Nat->List (Nat×Ent)->Prop}
end
section
variable {E:Env} {nt:Nat} {R:Exit->AS->Prop} {K:List Bq}
end
section
variable {α β κ ν:Type} {E:Env} {nt:Nat}
variable {m:Ars (List (κ×ν))}
theorem LeX.fro {σ:AS}(r:Nat)(ek:κ->AV)(ev:ν->AV){ty:Nat}(hr:σ.find r=some (.are ty m.1 (m.2.map (enO ek ev)))):LeX E nt σ (σ.rpAll r Jj (.row r) (.row ty 1 ((aval m).map fun q=>.mapv (q.map (encM ek ev))))):=by
 refine LeX.rpAll r Jj _ _ _ hr (fun ty cs h=>by cases h) (fun cx γ a w d aa hd he=>?_);obtain ⟨s,vs,us,p,I,H,f,A,M,J,N⟩:=he;have p:d=arnV s vs:=p;subst p;rw [aL] at H;obtain ⟨u,t⟩:=Jd f;refine ⟨some (s.ownBlock,s),(fun b c=>mem_arnV.2 (Or.inl ((Eo u t).1 c))),fun S' Q O=>⟨⟨s,us,rfl,I,by rw [aL];simpa [aval] using f,fun k W=>by rw [aC];rfl,fun k W j hj=>?_,A⟩,fun γ' x v y z V hv=>?_⟩⟩
 ·have l:k<(aval m).length:=by simpa using W
  have L:j=0:=by
   have:j<1:=by simpa [AV.cells] using hj
   omega
  subst L;simp only [aC,AV.cells,aH,Nat.mul_one,aM];have l:k<m.1.length:=by simpa [aval] using l
  obtain ⟨q1,q2⟩:=M k l;simp only [aval,aC];cases X:m.1[k] with
  |none=>exact (q1 X).mono (aE _) (fun b c _=>⟨rfl,Q b c⟩)
  |some j =>
   obtain ⟨U,q4⟩:=q2 j X;have B:j<m.2.length:=by simpa using U
   rw [q4];simp only [getElem?_eq_getElem B,Option.getD_some];have Y:=(J j U).2;simp only [aC,enO] at Y;obtain ⟨g,D,S,⟨es,clock,e2,e3,e4,Z⟩,e6⟩:=Y;rw [S];have hg:S' g:=O g (mem_arnV.2 (Or.inr ⟨j,by rw [S];rfl⟩)) (fun c=>N.2 j g ((Eo u t).1 c) (by rw [S];rfl));exact .mapv D e6 g es clock e4 hg (Array.getElem?_eq_some_iff.1 e2).1 e2 e3 (fun j q C=>(Z j q C).1.mono (aE _) (fun b c hl=>⟨rfl,Q b c⟩)) (fun j q C=>(Z j q C).2.mono (aE _) (fun b c hl=>⟨rfl,Q b c⟩))
 ·have F:∃ n,x=.cont n r:=by
   cases x with
   |cont n i=>simp only [AV.leafId,aB] at V;exact ⟨n,by rw [V]⟩
   |_=>simp [Jj] at z
  obtain ⟨n,rfl⟩:=F;have G:v=s:=(y0b hv hd).1;subst G;exact .row y (fun g s' e _=>by injection e with e;injection e with _ e)
def fro (r:Nat)(x:Option β):Option β:=x
theorem AW.froO {R:Exit->AS->Prop}{K:List Bq}{id ty:Nat}{c:Code}{σ:AS}{x:Option β}{y:β}(ek:κ->AV)(ev:ν->AV)(h:fro id x=some y)(r:Nat)(a:σ.find r=some (.are ty m.1 (m.2.map (enO ek ev))))(k:x=some y->AW E nt R (.code c::K) .normal (σ.rpAll r Jj (.row r) (.row ty 1 ((aval m).map fun q=>.mapv (q.map (encM ek ev)))))):AW E nt R (.code c::K) .normal σ:=AW.weaken (LeX.fro r ek ev a) (k h)
end
def nlA (sz:Nat):List AV->AV |[]=>.nils |x::r=>.sl sz (x::r)
variable {P:Program}{w:World}{T:TypeId}
theorem y08 {e:TypeId}(a:P.underlying T=some (.slice e))(d:Nat)(A:Option Addr)(n c:Nat):(Op.equalIn (d+1) T (.slice A n c) (.slice none 0 0)).run P w=.ok A.isNone w:=by
 unfold Op.equalIn;cases A<;>simp [run_underlying a,Result.andThen,pure]
theorem y1d {e:TypeId}(a:P.underlying T=some (.slice e))(A:Option Addr)(n c:Nat):(Op.equal T (.slice A n c) (.slice none 0 0)).run P w=.ok A.isNone w:=y08 a 9999 A n c
section
variable {cx:Cx} {o:Oper} {σ:AS}
theorem y46 {op:BinOp}{T u sz e eb z:Nat}{x y:Operand}{i:TyI}{l:List AV}(k:op=.eql\/op=.neq)(g:o.op=.binOp op T x y u)(C:dok cx o=true)(q:A4 x=true)(p:A4 y=true)(B:σ.eval x=nlA sz l)(v:σ.eval y=.nils)(F:lkT cx.E.tab T=some i)(hs:i.shape=.slc e z eb) :
  Ah cx o σ (.bool (match op with|.eql=>l.isEmpty|_=>!l.isEmpty)) [] [] :=
 Ba C fun τ γ ac w h1 _ j=>by
  have h:=j.ev x q;rw [h1 x (by simp [g,Op.operands]),B] at h;have f:=j.ev y p;rw [h1 y (by simp [g,Op.operands]),v] at f;have f:=f.nils_inv;obtain ⟨t,_⟩:=Cu (cx.E.ok T i F) hs;cases l with
  |nil =>
   have h:=Rep.nils_inv (show Rep w (Sg cx.S0 cx.w0.heap.size γ) γ .nils _ from h);have d:=y1d (w:=w) t none 0 0;rcases k with rfl|rfl
   ·exact ⟨.bool true,by simp [execOp,g,h,f,Sem.run_bind,eqGuard,binOp,d,Result.andThen,pure],.bool _⟩
   ·exact ⟨.bool false,by simp [execOp,g,h,f,Sem.run_bind,eqGuard,binOp,d,Result.andThen,pure],.bool _⟩
  |cons a r =>
   obtain ⟨A,c,s,_,_,cell,D,_⟩:=Rep.sl_inv (show Rep w (Sg cx.S0 cx.w0.heap.size γ) γ (.sl sz (a::r)) _ from h);obtain ⟨b,off,G,_⟩:=D (by simp);subst G;generalize (a::r).length=n at s;have d:=y1d (w:=w) t (some ⟨b,off,none⟩) n c;rcases k with rfl|rfl
   ·exact ⟨.bool false,by simp [execOp,g,s,f,Sem.run_bind,eqGuard,binOp,d,Result.andThen,pure],.bool _⟩
   ·exact ⟨.bool true,by simp [execOp,g,s,f,Sem.run_bind,eqGuard,binOp,d,Result.andThen,pure],.bool _⟩
def delK (r:Option Nat)(ps:List (AV×AV)):List (AV×AV):=match r with|some j=>ps.eraseIdx j|none=>ps
variable {ts:Array TypeId}{ps:List (AV×AV)}
theorem zug {S:Nat->Prop}{kt et u:TypeId}{k:AV}{vk:Value}{g:Nat}{r:Option Nat}(p:ts[0]? = some T)(z:P.underlying T=some (.map kt et))(t:Bs P kt k=true)(y:Rep w S G0 k vk)(hm:De w S g ps)
  (G:Bt k (ps.map (·.1)) 0=some r) (F:¬S g):∃ n,(Builtin.delete_ ts u #[.map (some g),vk]).run P w=.ok (.tuple #[]) { w with heap:=w.heap.setIfInBounds g n }/\De { w with heap:=w.heap.setIfInBounds g n } S g (delK r ps):=by
 obtain ⟨es,clock,l,x,f,d⟩:=hm;have q:g<w.heap.size:=by
  rcases Nat.lt_or_ge g w.heap.size with h|h
  ·exact h
  ·rw [Array.getElem?_eq_none h] at l;cases l
 obtain ⟨B,H⟩:=Zl t y es.toList ps r (by simpa using x) d G;have mv:∀ (n:Obj) {a:AV} {v:Value},Rep w S G0 a v->Rep { w with heap:=w.heap.setIfInBounds g n } S G0 a v:=fun n a v h =>
  h.mono (by simp) (fun b A l=>⟨by
   have:b≠g:=fun e=>F (e▸A)
   simp [aA,Ne.symm this],A⟩)
 cases r with
 |none =>
  refine ⟨.map es clock,?_,es,clock,by simp [aA,q],by simpa [delK] using x,f,fun j h s=>⟨mv _ (d j h s).1,mv _ (d j h s).2⟩⟩;simp [Builtin.delete_,p,run_underlying z,MapKept.run_getObj_map l,Ni _ t y,B,MapKept.run_setObj_map _ l,Result.andThen,pure]
 |some j =>
  have D:=H j rfl;have C:j<es.size:=by simpa using D
  have c:(es.eraseIdxIfInBounds j).toList=es.toList.eraseIdx j:=by simp
  refine ⟨.map (es.eraseIdxIfInBounds j) clock,?_,es.eraseIdxIfInBounds j,clock,by simp [aA,q],?_,⟨?_,fun e h=>f.2 e ?_⟩,fun i h s=>?_⟩
  ·simp [Builtin.delete_,p,run_underlying z,MapKept.run_getObj_map l,Ni _ t y,B,MapKept.run_setObj_map _ l,Result.andThen,pure]
  ·have h1:(es.eraseIdxIfInBounds j).size=(es.eraseIdxIfInBounds j).toList.length:=(aF).symm;rw [h1,c];simp only [delK,List.length_eraseIdx,aF];rw [x]
  ·rw [c];exact List.Nodup.sublist ((List.eraseIdx_sublist _ _).map _) f.1
  ·rw [c] at h;exact mem_of_mem_eraseIdx h
  ·simp only [c,delK] at h s ⊢;rw [aJ,aJ];split
   ·exact ⟨mv _ (d i _ _).1,mv _ (d i _ _).2⟩
   ·exact ⟨mv _ (d (i+1) _ _).1,mv _ (d (i+1) _ _).2⟩
theorem zyy {T kt et id:Nat}{x y:Operand}{i:TyI}{k:AV}{ps':List (AV×AV)}{r:Option Nat}(L:o.op=.call { callee:=.builtin .delete,args:=#[x,y],argTypes:=ts })(O:ts[0]? = some T)(hd:dok cx o=true)(N:A4 x=true)(M:A4 y=true)(hx:σ.eval x=.row id)(hy:σ.eval y=k)(hl:σ.find id=some (.mp ps))
  (hT:lkT cx.E.tab T=some i) (hs:i.shape=.map kt et) (F:Bs cx.P kt k=true) (hf:Bt k (ps.map (·.1)) 0=some r) (S:delK r ps=ps'):Ah cx o σ (.tup []) [id] [(id,.mp ps')]:=by
 refine ⟨fun id e he=>D6 he,fun τ h1 h2 a w Q K ⟨γ,f⟩ hK=>C6 (fun c hc=>by rw [L] at hc;cases hc) ?_⟩;have ex:=f.ev x N;rw [h1 x (by simp [L,Op.operands,Call.operands]),hx] at ex;have ey:=f.ev y M;rw [h1 y (by simp [L,Op.operands,Call.operands]),hy] at ey;obtain ⟨g,Y,hv,hm⟩:=Sm f (by rw [h2 id (by simp)];exact hl) ex;have p:own γ g:=own.mk Y;have H:=f.ge g p;have B:∀ b,Sg cx.S0 cx.w0.heap.size γ b->b≠g:=fun b v e=>by
  subst e;rcases v with ⟨_,h⟩|⟨_,h⟩
  ·have:=H.1.1;omega
  ·exact h p
 obtain ⟨t,A,D⟩:=zug (u:=o.type) O (Gh (cx.E.ok T i hT) hs) F (ey.flat (Rx F)) hm hf (fun v=>B g v rfl);have Z:(execOp a.eval o).run cx.P w=.ok (.value (.tuple #[])) { w with heap:=w.heap.setIfInBounds g t }:=by
  simp [execOp,L,resolve,invoke,builtin,hv,A,Result.andThen,pure]
 unfold Oper.wp;rw [Z];have l:∀ k,k≠g->({ w with heap:=w.heap.setIfInBounds g t }:World).heap[k]? = w.heap[k]? := fun k F=>by simp [aA,Ne.symm F]
 have n:w.heap.size<=({ w with heap:=w.heap.setIfInBounds g t }:World).heap.size:=by simp
 have aa:w.drawn<=({ w with heap:=w.heap.setIfInBounds g t }:World).drawn:=aE _;have J:Below cx.w0.heap.size w ({ w with heap:=w.heap.setIfInBounds g t }:World):=⟨rfl,rfl,rfl,n,fun k F=>l k (by have:=H.1.1;omega)⟩;generalize ({ w with heap:=w.heap.setIfInBounds g t }:World)=w' at *;refine hK _ _ ⟨γ,f.step (C2 hd) n (fun b v V=>⟨l b (B b v),v⟩) (fun id d h=>Or.inl h) (fun z G=>⟨rfl,fun g' s X U=>l g' ?_⟩) (fun z e' q=>?_) f.inj (fun b I=>⟨(f.ge b I).1,Nat.lt_of_lt_of_le (f.ge b I).2 n⟩) (f.below.trans J) (.tup #[] rfl (fun j hj=>absurd hj (by simp))) (fun b C V=>⟨l b (fun e=>C (e▸p)),C⟩) (fun _=>aa)⟩
 ·rintro rfl;have:=f.inj _ _ _ _ _ X Y U Bz;subst this;simp [lkE] at G
 ·have W:z=id:=by have:=D6 q;simpa using this
  subst W;simp only [lkE,Nat.beq_refl,aB] at q;subst q;rw [S] at D;exact ⟨_,Y,g,rfl,D⟩
end
variable {κ ν:Type}
def mdl [DecidableEq κ]:List (κ×ν)->κ->List (κ×ν)
 |[],_=>[]
 |(a,v)::r,k=>if k=a then r else (a,v)::mdl r k
def mde {β:Type}[DecidableEq κ](l:List (κ×ν))(k:κ)(c:List (κ×ν)->Option β):Option β:=c (mdl l k)
theorem znn [DecidableEq κ](ek:κ->AV)(ev:ν->AV)(f:∀ a b,eqK (ek a) (ek b)=some (decide (a=b)))(k:κ):∀ (l:List (κ×ν)) (i:Nat),
  ∃ r,Bt (ek k) ((l.map (encM ek ev)).map (·.1)) i=some r/\(∀ j,r=some j->i<=j)/\delK (r.map (· - i)) (l.map (encM ek ev))=(mdl l k).map (encM ek ev)
 |[],i=>⟨none,rfl,(fun j h=>by cases h),rfl⟩
 |(a,v)::r,i=>by
  simp only [map_cons,encM,Bt,f,mdl];by_cases d:k=a
  ·subst d;simp only [decide_true];exact ⟨some i,rfl,fun j c=>by injection c with c;omega,by simp [delK]⟩
  ·rw [decide_eq_false d];obtain ⟨q,h1,g,e⟩:=znn ek ev f k r (i+1);refine ⟨q,h1,fun j c=>by have:=g j c;omega,?_⟩;rw [if_neg d];cases q with
   |none=>simpa [delK,encM] using e
   |some j =>
    have n:=g j rfl;simp only [Option.map_some,delK] at e ⊢;rw [show j-i=(j-(i+1))+1 by omega,eraseIdx_cons_succ,e];rfl
section
variable {α β κ ν:Type} {E:Env} {nt:Nat} {o:Oper} {σ:AS} {K:OpK}
theorem OpX.mde [DecidableEq κ]{l:List (κ×ν)}{k:κ}{c:List (κ×ν)->Option β}{r:β}{T kt et id:Nat}{ts:Array TypeId}{x y:Operand}{i:TyI}(ek:κ->AV)(ev:ν->AV)(A:Proofs.YthbogefcfhmpgaaGreat.mde l k c=some r)(heq:∀ a b,eqK (ek a) (ek b)=some (decide (a=b)))(s:o.op=.call { callee:=.builtin .delete,args:=#[x,y],argTypes:=ts })(f:ts[0]? = some T)(v:dokN E nt o.dst=true)(e:A4 x=true)(d:A4 y=true)(p:σ.eval x=.row id)(n:σ.eval y=ek k)
  (z:lkT E.tab T=some i) (hs:i.shape=.map kt et) (h:Bs E.P kt (ek k)=true) (t:σ.find id=some (.mp (l.map (encM ek ev)))) (u:∀ l',c l'=some r->K (.tup []) [id] [(id,.mp (l'.map (encM ek ev)))]):OpX E nt o σ K:=by
 obtain ⟨q,h1,_,B⟩:=znn ek ev heq k l 0;refine .mk _ _ _ (fun cx j g=>zyy s f (Al v j g) e d p n t (by rw [j];exact z) hs (by rw [show cx.P=E.P by rw [<-j]];exact h) h1 ?_) (u _ A);rw [<-B];cases q<;>rfl
theorem OpX.nlq {op:BinOp}{T g sz e eb z:Nat}{x y:Operand}{i:TyI}{l:List AV}(c:op=.eql\/op=.neq)(k:o.op=.binOp op T x y g)(p:dokN E nt o.dst=true)(b:A4 x=true)(a:A4 y=true)(j:σ.eval x=nlA sz l)(h:σ.eval y=.nils)(q:lkT E.tab T=some i)(hs:i.shape=.slc e z eb)
  (n:K (.bool (match op with|.eql=>l.isEmpty|_=>!l.isEmpty)) [] []):OpX E nt o σ K :=
 .mk _ _ _ (fun cx f d=>y46 c k (Al p f d) b a j h (by rw [f];exact q) hs) n
end
theorem zjg (ids:List Nat)(sz:Nat)(l:List AV):(nlA sz l).inM ids=true:=by cases l<;>rfl
def nlw {β:Type}(t:Nat)(x:Option β):Option β:=x
theorem X1 {β:Type}(t:Nat)(x:Option β):nlw t x=x:=rfl
def nlz {α β:Type}(l:List α)(x:Option β):Option β:=match l with|[]=>none|_::_=>x
inductive FX (E:Env) (nt:Nat) (fn:Func) (σ:AS) (ps:List (AV×AV)):Prop
 |mk (τ:AS) (i:Nat) {ps0:List (AV×AV)} (hl:LeX E nt σ τ) (h1:retA E.tab τ fn.results.toList=some [.row i]) (h2:τ.find i=some (.mp ps0)) (hf:∀ p∈ps0,p.1.flat=true/\p.2.flat=true) (hp:Ex ps0 ps)
def EndF (E:Env)(nt:Nat)(fn:Func)(ps:List (AV×AV)):Exit->AS->Prop |.normal,σ=>FX E nt fn σ ps |.ret,σ=>FX E nt fn σ ps |_,_=>False
theorem FX.o {β:Type}{E:Env}{nt:Nat}{fn:Func}{σ:AS}{a r:β}{en:β->List (AV×AV)}(h:some a=some r)(b:FX E nt fn σ (en a)):FX E nt fn σ (en r):=by injection h with h;subst h;exact b
theorem zxh {ek:κ->AV}{ev:ν->AV}(d:∀ a,(ek a).flat=true)(b:∀ a,(ev a).flat=true){l:List (κ×ν)}:∀ p∈l.map (encM ek ev),p.1.flat=true/\p.2.flat=true:=fun p c=>by
 obtain ⟨q,_,rfl⟩:=mem_map.1 c;exact ⟨d _,b _⟩
variable {ps:List (AV×AV)}
theorem ConF.walk {E:Env}{f:FuncId}{fn:Func}{args:List AV}(c:Code)(J:E.P.funcs[f]? = some fn)(M:fn.body=some c)(L:Cc E f)(D:Nat.ble args.length fn.ntmps=true)
  (h:AW E fn.ntmps (EndF E fn.ntmps fn ps) [.code c] .normal (E2 args)) (r:E.rg=false:=by rfl) (l:E.yl=none:=by rfl) (s:E.np=0:=by rfl)(r:E.rg=false:=by rfl) (l:E.yl=none:=by rfl) (s:E.np=0:=by rfl):Con E true f args (.mapv ps):=by
 refine ⟨L,fun S w vs N=>callsIn_wide.1 (callsIn_of_wp (F:=Fence.wide) (n:=0) J M trivial ?_)⟩;have Q:WP (Cx.call E S w fn.ntmps) c (EndF E fn.ntmps fn ps) (E2 args):=WP.mono (h.out (Cx.call E S w fn.ntmps) rfl rfl) fun e σ H=>by cases e<;>exact H
 refine wpIn_mono (Q _ _ (Wp l s N (Nat.le_of_ble_eq_true D))) (fun e a w' ⟨σ,y,p⟩=>?_);have key:FX E fn.ntmps fn σ ps->bodyPost E.P fn (fun e w'=>∃ v,e=.returned v/\BelE E w w'/\Rep w' (fun b=>(true=false/\S b)\/w.heap.size<=b) G0 (.mapv ps) v) .ret a w':=by
  rintro ⟨τ,i,G,h1,O,u,C⟩;obtain ⟨γ,d⟩:=G (Cx.call E S w fn.ntmps) rfl rfl a w' p;obtain ⟨v,A,B⟩:=Rt d h1;obtain ⟨g,I,x,es,clock,W,V,U,z⟩:=Sm d O B;subst x;refine ⟨d.defers.d0 r,_,A,_,rfl,⟨d.below,d.dr⟩,?_⟩;have t:=d.ge g (own.mk I);exact .mapv _ C g es clock U (Or.inr t.1.1) t.2 W V (fun j q k=>(z j q k).1.flat (u _ (getElem_mem k)).1) (fun j q k=>(z j q k).2.flat (u _ (getElem_mem k)).2)
 cases e with
 |normal=>exact key y
 |ret=>exact key y
 |_=>exact y.elim
section
variable {cx:Cx} {o:Oper} {σ:AS}
theorem zu3 {T kt et:Nat}{x:Operand}{i:TyI}(j:o.op=.call { callee:=.builtin .len,args:=#[x],argTypes:=#[T] })(r:dok cx o=true)(e:A4 x=true)(q:σ.eval x=.mapv ps)(n:lkT cx.E.tab T=some i)(hs:i.shape=.map kt et):Ah cx o σ (.int .i64 (ps.length:Int)) [] [] :=
 Ba r fun τ γ a w h1 t h=>by
  have p:=h.ev x e;rw [h1 x (by simp [j,Op.operands,Call.operands]),q] at p;refine ⟨.int .i64 (ps.length:Int),?_,.int _ _⟩;rcases mapv_val p with ⟨g,d,f,_,_,⟨es,clock,s,k,_⟩,b⟩|⟨f,l⟩
  ·have c:d.length=ps.length:=by
    rcases b with b|b
    ·rw [b]
    ·exact b.1.length_eq
   rw [<-c,<-k];simp [execOp,j,resolve,invoke,builtin,Builtin.len_,f,run_underlying (Gh (cx.E.ok T i n) hs),MapKept.run_getObj_map s,goInt,pure,Result.andThen]
  ·subst l;simp [execOp,j,resolve,invoke,builtin,Builtin.len_,f,run_underlying (Gh (cx.E.ok T i n) hs),goInt,pure,Result.andThen]
end
theorem OpX.lnv {E:Env}{nt:Nat}{o:Oper}{σ:AS}{K:OpK}{T kt et:Nat}{x:Operand}{i:TyI}(e:o.op=.call { callee:=.builtin .len,args:=#[x],argTypes:=#[T] })(g:dokN E nt o.dst=true)(a:A4 x=true)(d:σ.eval x=.mapv ps)(h:lkT E.tab T=some i)(hs:i.shape=.map kt et)(f:K (.int .i64 (ps.length:Int)) [] []):OpX E nt o σ K :=
 .mk _ _ _ (fun cx c b=>zu3 e (Al g c b) a d (by rw [c];exact h) hs) f
theorem y6e {α β:Type}{l:List α}{x:Option β}{r:β}{P:Prop}(h:nlz l x=some r)(k:∀ a t,l=a::t->x=some r->P):P:=by
 unfold nlz at h;split at h
 ·cases h
 ·exact k _ _ rfl h
attribute [irreducible] fro mde nlw nlz
end Go.Proofs.YthbogefcfhmpgaaGreat
