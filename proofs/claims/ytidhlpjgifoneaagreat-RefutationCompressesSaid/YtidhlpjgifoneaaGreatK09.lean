/- Maps. -/
import Derived.Test.YtidhlpjgifoneaaGreatK08
import Derived.MapKept
import Derived.Carry
set_option linter.unusedVariables false
set_option linter.unusedSimpArgs false
namespace Go.Proofs.YtidhlpjgifoneaaGreat
open Go.RowKit List
open Nat renaming le_refl->aA,eq_of_beq_eq_true->aD,mul_le_mul_right->aJ,lt_of_lt_of_le->aU,beq->aZ,beq_refl->bB,succ_mul->bC,mul_comm->bD
open Option.some renaming injEq->aB
open _root_.Array renaming getElem?_setIfInBounds->aC,length_toList->aH,toList_push->aM,toList_modify->aQ,getD->aT
open Bool renaming and_eq_true->aE,false_eq_true->aK
open Gam renaming set_self->aF,set_ne->aL
open List renaming getD_eq_getElem?_getD->aG,getElem_replicate->aN,getElem_map->aO,getElem_append_right->aP,getElem?_eq_getElem->aR,getElem_append_left->aS,map_nil->bE
open Option renaming isSome_none->aV,map_some->aX,map_none->aY
open Or renaming inr->aW,inl->bA
section
variable {P:Program} {w:World} {S:Nat->Prop}
variable {t:TypeId}{a:AV}{v:Value}
theorem zu1 (n:Nat)(em:Bool)(f:fkT (fkA a) (P.underlying t)=true)(c:Rep w S G0 a v):(Instr.checkKey em (n+1) t v).run P w=.ok () w:=by
 obtain ⟨d,b,g⟩:=Tb f;rcases g with ⟨_,_,_,rfl,rfl⟩|⟨_,rfl,rfl⟩|⟨_,rfl,rfl⟩
 ·rw [c.int_inv];simp [Instr.checkKey,run_underlying b]
 ·rw [c.bool_inv];simp [Instr.checkKey,run_underlying b]
 ·rw [c.str_inv];simp [Instr.checkKey,run_underlying b]
theorem zcg (n:Nat)(em:Bool)(xs:Array Value):∀ (fs:List Field) (cs:List AV) (k:Nat),D6 P k cs fs=true->k+cs.length<=xs.size->(∀ i (hi:i<cs.length),Rep w S G0 cs[i] (xs.getD (k+i) undef)) ->
  (forIn fs PUnit.unit (fun f _ => if f.name ≠ "_" then do
    let l <-part f.type xs f.offset
    Instr.checkKey em (n+1) f.type l
    pure (ForInStep.yield PUnit.unit) else pure (ForInStep.yield PUnit.unit):Field->PUnit->Sem (ForInStep PUnit))).run P w=.ok PUnit.unit w
 |[],cs,k,b,_,_=>by simp
 |f::fs,[],k,b,_,_=>by simp [D6] at b
 |f::fs,a::cs,k,b,p,d=>by
  simp only [D6,aE,decide_eq_true_eq] at b;obtain ⟨r,c,g,q⟩:=b;have c:=aD c;simp only [length_cons] at p;have m:Rep w S G0 a (xs.getD k undef):=d 0 (by simp);have h:=zcg n em xs fs cs (k+1) q (by omega) (fun i hi=>by have:=d (i+1) (by simpa using hi);rw [show k+1+i=k+(i+1) by omega];simpa using this);have j : f.name ≠ "_" := by simpa using r
  rw [forIn_cons];simp only [if_pos j,c,Sem.run_bind,Z7 g (show k<xs.size by omega),Result.andThen_ok,zu1 n em g m,Sem.run_pure];exact h
theorem y0d (n:Nat)(d:fkA a≠.no)(b:Rep w S G0 a v):Instr.sameBits n v v=true:=by
 cases a<;>simp [fkA] at d
 ·rw [b.int_inv];cases n<;>simp [Instr.sameBits]
 ·rw [b.bool_inv];cases n<;>simp [Instr.sameBits]
 ·rename_i s;have c:(s == s)=true:=by
   cases s;first|exact beq_self_eq_true _|(show (_ == _)=true;exact beq_self_eq_true (α:=Array UInt8) _)|simp [BEq.beq,instBEqByteArray]|decide
  rw [b.str_inv];cases n<;>simp [Instr.sameBits,c]
theorem Zs {cs:List AV}(d:Bv P t (.agg cs)=true):∃ fs:Array Field,P.underlying t=some (.struct fs)/\D6 P 0 cs fs.toList=true:=by
 simp only [Bv,aE] at d;obtain ⟨_,b⟩:=d;cases c:P.underlying t with
 |none=>rw [c] at b;cases b
 |some dd =>
  rw [c] at b;cases dd<;>simp only [aK] at b;exact ⟨_,rfl,b⟩
theorem Xo (em:Bool)(b:Bv P t a=true)(c:Rep w S G0 a v):(Instr.checkKey em 10000 t v).run P w=.ok () w:=by
 cases a with
 |agg cs =>
  obtain ⟨fs,d,g⟩:=Zs b;obtain ⟨vs,ev,h,f,_⟩:=c.agg_inv;have:=zcg (w:=w) (S:=S) 9998 em vs fs.toList cs 0 g (by omega) (fun i hi=>by simpa using f i hi);rw [ev,show (10000:Nat)=9999+1 from rfl];unfold Instr.checkKey;rw [Sem.run_bind,run_underlying d,Result.andThen_ok];simp only [<-Array.forIn_toList,Sem.run_bind];rw [this,Result.andThen_ok];simp
 |int k n=>exact zu1 9999 em (by simpa [Bv] using b) c
 |bool x=>exact zu1 9999 em (by simpa [Bv] using b) c
 |str x=>exact zu1 9999 em (by simpa [Bv] using b) c
 |_=>simp [Bv,fkA,fkT] at b
theorem y56 {fs:List Field}:∀ {cs:List AV} {k:Nat},D6 P k cs fs=true->∀ i (hi:i<cs.length),fkA cs[i]≠.no:=by
 induction fs with
 |nil=>intro cs k h i hi;cases cs with
  |nil=>simp at hi
  |cons=>simp [D6] at h
 |cons f fs ih =>
  intro cs k h i hi;cases cs with
  |nil=>simp at hi
  |cons a cs =>
   simp only [D6,aE] at h;cases i with
   |zero=>intro b;have c:=h.2.2.1;simp only [getElem_cons_zero] at b;rw [b] at c;simp [fkT] at c
   |succ i=>exact ih h.2.2.2 i (by simpa using hi)
theorem y84 (c:Bv P t a=true)(b:Rep w S G0 a v):(Instr.keyThatStays v v).run P w=.ok v w:=by
 have:Instr.sameBits 10000 v v=true:=by
  cases a with
  |agg cs =>
   obtain ⟨fs,h,g⟩:=Zs c;obtain ⟨vs,ev,j,d,_⟩:=b.agg_inv;rw [ev,show (10000:Nat)=9999+1 from rfl];simp only [Instr.sameBits,beq_self_eq_true,Bool.true_and,all_eq_true];intro p f;obtain ⟨i,hi,rfl⟩:=mem_iff_getElem.1 f;simp only [length_zip,aH,Nat.min_self] at hi;have h1:=y0d 9999 (y56 g i (by omega)) (d i (by omega));simp only [getElem_zip];simpa [aT,hi] using h1
  |int k n=>exact y0d _ (by simp [fkA]) b
  |bool x=>exact y0d _ (by simp [fkA]) b
  |str x=>exact y0d _ (by simp [fkA]) b
  |_=>simp [Bv,fkA,fkT] at c
 simp [Instr.keyThatStays,this]
end
section
variable {P:Program} {w:World} {S:Nat->Prop}
theorem zf6 (a b:ByteArray):(a == b)=(a.toList == b.toList):=by
 simp [beq_toListBytes]
variable {t:TypeId}{vk:Value}
theorem y0h {d:TypeDesc}{k a:AV}{va:Value}{c:Bool}(l:P.underlying t=some d)(m:fkT (fkA k) (P.underlying t)=true)(h:Rep w S G0 k vk)(j:Rep w S G0 a va)(f:eqK k a=some c):Instr.sameNow d vk va=some c:=by
 obtain ⟨s,b,p⟩:=Tb m;rw [l] at b;injection b with b
 subst b;rcases p with ⟨q,n,r,rfl,rfl⟩|⟨x,rfl,rfl⟩|⟨x,rfl,rfl⟩
 ·cases a<;>simp only [eqK,eq1,reduceCtorEq] at f;split at f
  ·rename_i g;have g:=of_decide_eq_true g;subst g;rw [h.int_inv,j.int_inv,<-f];simp [Instr.sameNow];rfl
  ·cases f
 ·cases a<;>simp only [eqK,eq1,reduceCtorEq] at f;rw [h.bool_inv,j.bool_inv,<-f];simp [Instr.sameNow]
 ·cases a<;>simp only [eqK,eq1,reduceCtorEq] at f;rw [h.str_inv,j.str_inv,<-f];simp [Instr.sameNow,zf6]
theorem ztj {d:TypeDesc}{k:AV}(m:P.underlying t=some d)(n:fkT (fkA k) (P.underlying t)=true)(s:Rep w S G0 k vk):∀ (es:List MapEntry) (ps:List (AV×AV)) (i:Nat) (r:Option Nat),es.length=ps.length->(∀ j (h:j<es.length) (u:j<ps.length),K5 w S es[j] ps[j]) ->
  Bz k (ps.map (·.1)) i=some r->Instr.findNow d vk es i=some (r.map fun j=>(j,(es.getD (j-i) default).val))/\∀ j,r=some j->i<=j/\j-i<es.length
 |[],[],i,r,q,f,h=>by
  simp only [bE,Bz,aB] at h;subst h;exact ⟨rfl,fun j h=>by cases h⟩
 |e::es,p::ps,i,r,q,f,h=>by
  have B:K5 w S e p:=f 0 (by simp) (by simp);simp only [map_cons,Bz] at h;cases g:eqK k p.1 with
  |none=>rw [g] at h;cases h
  |some c =>
   have z:=y0h m n s B.1 g;rw [g] at h;unfold Instr.findNow;rw [z];cases c with
   |true =>
    simp only [aB] at h;subst h;exact ⟨by simp,fun j h=>by cases h;exact ⟨aA _,by simp⟩⟩
   |false =>
    obtain ⟨y,l⟩:=ztj m n s es ps (i+1) r (by simpa using q) (fun j h u=>f (j+1) (by simpa using h) (by simpa using u)) h;refine ⟨?_,fun j A=>by obtain ⟨a,b⟩:=l j A;exact ⟨by omega,by simp;omega⟩⟩;simp only;rw [y];cases r with
    |none=>rfl
    |some j =>
     obtain ⟨a,b⟩:=l j rfl;simp only [aX];rw [show j-i=(j-(i+1))+1 by omega,getD_cons_succ]
theorem zfu {fs:Array Field}:∀ es:List MapEntry,∀ i,Instr.findNow (.struct fs) vk es i=if es=[] then some none else none
 |[],i=>rfl
 |e::es,i=>by
  unfold Instr.findNow;have:Instr.sameNow (.struct fs) vk e.key=none:=by unfold Instr.sameNow;rfl
  rw [this];simp
theorem zam {k:AV}(b:Bv P t k=true)(p:Rep w S G0 k vk)(es:List MapEntry)(ps:List (AV×AV))(r:Option Nat)(f:es.length=ps.length)(s:∀ j (h:j<es.length) (z:j<ps.length),K5 w S es[j] ps[j])
  (h:Bz k (ps.map (·.1)) 0=some r):(Instr.findKey t vk es).run P w=.ok (r.map fun j=>(j,(es.getD j default).val)) w/\∀ j,r=some j->j<es.length:=by
 have one:fkT (fkA k) (P.underlying t)=true->(Instr.findKey t vk es).run P w=.ok (r.map fun j=>(j,(es.getD j default).val)) w/\∀ j,r=some j->j<es.length:=fun h1=>by
  obtain ⟨d,c,_⟩:=Tb h1;obtain ⟨m,l⟩:=ztj c h1 p es ps 0 r f s h;exact ⟨MapKept.run_findKey c (by simpa using m),fun j g=>by simpa using (l j g).2⟩
 cases k with
 |agg cs =>
  obtain ⟨fs,c,y⟩:=Zs b;obtain ⟨m,l⟩:=zac b p es ps 0 r f s h;refine ⟨?_,fun j g=>by simpa using (l j g).2⟩;by_cases u:es=[]
  ·subst u;cases ps with
   |nil =>
    simp only [bE,Bz,aB] at h;subst h;exact MapKept.run_findKey c rfl
   |cons=>simp at f
  ·unfold Instr.findKey;rw [Sem.run_bind,run_underlying c,Result.andThen_ok,zfu,if_neg u];simpa using m
 |int q n=>exact one (by simpa [Bv] using b)
 |bool x=>exact one (by simpa [Bv] using b)
 |str x=>exact one (by simpa [Bv] using b)
 |_=>simp [Bv,fkA,fkT] at b
end
section
variable {P:Program} {w:World} {S:Nat->Prop}
theorem zbo {T kt et:TypeId}{k zA:AV}{vk z:Value}{g:Nat}{ps:List (AV×AV)}{r:Option Nat}(ok:Bool)(n:P.underlying T=some (.map kt et))(d:Bv P kt k=true)(f:Rep w S G0 k vk)(hm:Dq w S g ps)
  (q:(zeroValue et).run P w=.ok z w) (c:Rep w S G0 zA z) (u:Bz k (ps.map (·.1)) 0=some r) :
  ∃ v,Rep w S G0 (match r with|some j=>(ps.getD j default).2|none=>zA) v/\(Instr.lookup T (.map (some g)) vk ok).run P w=.ok (if ok then .tuple #[v,.bool r.isSome] else v) w:=by
 obtain ⟨es,clock,m,s,_,l⟩:=hm;obtain ⟨p,y⟩:=zam d f es.toList ps r (by simpa using s) l u;cases r with
 |none =>
  refine ⟨z,c,?_⟩;cases ok<;>simp [Instr.lookup,run_underlying n,MapKept.run_getObj_map m,Xo _ d f,p,q,Result.andThen]
 |some j =>
  have h:=y j rfl;have b:j<ps.length:=by simp at h;omega
  have:=(l j h b).2;refine ⟨(es.toList.getD j default).val,?_,?_⟩
  ·simp only [aG,aR b,aR h,Option.getD_some];exact this
  ·cases ok<;>simp [Instr.lookup,run_underlying n,MapKept.run_getObj_map m,Xo _ d f,p,Result.andThen]
end
section
variable {P:Program} {w:World} {S:Nat->Prop}
theorem zys {a b:AV}{va vb:Value}(h:eq1 a b=some true)(f:Rep w S G0 a va)(d:Rep w S G0 b vb):va=vb:=by
 cases a<;>cases b<;>simp only [eq1,reduceCtorEq] at h
 ·split at h
  ·rename_i c;have c:=of_decide_eq_true c;injection h with h
   have h:=of_decide_eq_true h;subst c;subst h;rw [f.int_inv,d.int_inv]
  ·cases h
 ·injection h with h
  have h:=eq_of_beq h;subst h;rw [f.bool_inv,d.bool_inv]
 ·injection h with h
  rename_i s g;have e:s=g:=(MapKept.bytes_beq s g).1 (by rw [zf6];exact h);rw [f.str_inv,d.str_inv,e]
theorem y37:∀ {cs ds:List AV},eqL cs ds=some true->cs.length=ds.length/\∀ i (h:i<cs.length) (k:i<ds.length),eq1 cs[i] ds[i]=some true
 |[],[],_=>⟨rfl,fun i h=>absurd h (by simp)⟩
 |[],_::_,h=>by simp [eqL] at h
 |_::_,[],h=>by simp [eqL] at h
 |a::cs,b::ds,h=>by
  unfold eqL at h;split at h
  ·rename_i c l h1 j;injection h with h
   simp only [aE] at h;obtain ⟨rfl,rfl⟩:=h;obtain ⟨g,f⟩:=y37 j;refine ⟨by simp [g],fun i hi d=>?_⟩;cases i with
   |zero=>exact h1
   |succ i=>exact f i (by simpa using hi) (by simpa using d)
  ·cases h
theorem y5e {a b:AV}{va vb:Value}(h:eqK a b=some true)(g:Rep w S G0 a va)(f:Rep w S G0 b vb):va=vb:=by
 by_cases c:∃ cs ds,a=.agg cs/\b=.agg ds
 ·obtain ⟨cs,ds,rfl,rfl⟩:=c;obtain ⟨vs,ev,n,j,_⟩:=g.agg_inv;obtain ⟨us,eu,k,d,_⟩:=f.agg_inv;obtain ⟨p,m⟩:=y37 h;rw [ev,eu];congr 1;apply Array.ext (by omega);intro i h1 l;have:=zys (m i (by omega) (by omega)) (j i (by omega)) (d i (by omega));simpa [aT,h1,l] using this
 ·have:eqK a b=eq1 a b:=by
   cases a<;>cases b<;>first|rfl|exact absurd ⟨_,_,rfl,rfl⟩ c
  exact zys (this▸h) g f
theorem ztl {k:AV}:∀ {l:List AV} {i j:Nat},Bz k l i=some (some j)->i<=j/\∃ h:j-i<l.length,eqK k l[j-i]=some true
 |[],i,j,h=>by simp [Bz] at h
 |a::r,i,j,h=>by
  simp only [Bz] at h;cases b:eqK k a with
  |none=>rw [b] at h;cases h
  |some c =>
   rw [b] at h;cases c with
   |true =>
    simp only [aB] at h;subst h;exact ⟨aA _,by simp,by simpa using b⟩
   |false =>
    obtain ⟨h1,f,d⟩:=ztl h;have e:j-i=(j-(i+1))+1:=by omega
    refine ⟨by omega,by simp;omega,?_⟩;simp only [e,getElem_cons_succ];exact d
variable {es:Array MapEntry}
theorem Born.push {clock:Nat}(h:Born es clock)(k v:Value):Born (es.push ⟨k,v,clock⟩) (clock+1):=by
 obtain ⟨h1,d⟩:=h;refine ⟨?_,fun e c=>?_⟩
 ·simp only [aM,map_append,map_cons,bE];rw [nodup_append];refine ⟨h1,by simp,fun a g b f=>?_⟩;obtain ⟨e,c,rfl⟩:=mem_map.1 g;have:=d e c;simp at f;omega
 ·simp only [aM,mem_append,mem_singleton] at c;rcases c with c|c
  ·have:=d e c;omega
  ·subst c;simp
theorem Born.mod {clock:Nat}(h:Born es clock)(j:Nat)(f:MapEntry->MapEntry)(g:∀ e,(f e).born=e.born):Born (es.modify j f) clock:=by
 obtain ⟨h1,k⟩:=h;have e:(es.modify j f).toList.map (·.born)=es.toList.map (·.born):=by
  apply ext_getElem
  ·simp
  ·intro i m l;simp only [aO,aQ,getElem_modify];split<;>simp [g]
 refine ⟨by rw [e];exact h1,fun x d=>?_⟩;have:x.born∈es.toList.map (·.born):=by rw [<-e];exact mem_map.2 ⟨x,d,rfl⟩
 obtain ⟨y,c,b⟩:=mem_map.1 this;rw [<-b];exact k y c
def putK (r:Option Nat)(k x:AV)(ps:List (AV×AV)):List (AV×AV):=match r with|some j=>ps.set j (k,x)|none=>ps++[(k,x)]
theorem zgo {T kt et:TypeId}{k x:AV}{vk vx:Value}{g:Nat}{ps:List (AV×AV)}{r:Option Nat}(C:P.underlying T=some (.map kt et))(u:Bv P kt k=true)(l:Rep w S G0 k vk)(A:Rep w S G0 x vx)(hm:Dq w S g ps)
  (B:Bz k (ps.map (·.1)) 0=some r) (I:¬S g):∃ o,(Instr.mapUpdate T (.map (some g)) vk vx).run P w=.ok () { w with heap:=w.heap.setIfInBounds g o }/\Dq { w with heap:=w.heap.setIfInBounds g o } S g (putK r k x ps):=by
 obtain ⟨es,clock,m,y,q,n⟩:=hm;have p:g<w.heap.size:=by
  rcases Nat.lt_or_ge g w.heap.size with h|h
  ·exact h
  ·rw [Array.getElem?_eq_none h] at m;cases m
 obtain ⟨F,J⟩:=zam u l es.toList ps r (by simpa using y) n B;have mv:∀ (o:Obj) {a:AV} {v:Value},Rep w S G0 a v->Rep { w with heap:=w.heap.setIfInBounds g o } S G0 a v:=fun o a v h =>
  h.mono (by simp) (fun b D m=>⟨by
   have:b≠g:=fun e=>I (e▸D)
   simp [aC,Ne.symm this],D⟩)
 cases r with
 |none =>
  refine ⟨.map (es.push ⟨vk,vx,clock⟩) (clock+1),?_,?_⟩
  ·simp [Instr.mapUpdate,run_underlying C,MapKept.run_getObj_map m,Xo _ u l,F,MapKept.run_setObj_map _ m,Result.andThen]
  ·refine ⟨es.push ⟨vk,vx,clock⟩,clock+1,by simp [aC,p],by simp [putK,y],q.push _ _,fun j h s=>?_⟩;simp only [aM,putK] at h s ⊢;by_cases d:j<es.toList.length
   ·have c:j<ps.length:=by simp at d;omega
    rw [aS d,aS c];exact ⟨mv _ (n j d c).1,mv _ (n j d c).2⟩
   ·have G:j=es.toList.length:=by simp at h d ⊢;omega
    have L:j=ps.length:=by simp at G;omega
    rw [aP (by omega),aP (by omega)];simp only [G,Nat.sub_self,getElem_singleton];exact ⟨mv _ l,mv _ A⟩
 |some j =>
  have d:=J j rfl;have c:j<ps.length:=by simp at d;omega
  obtain ⟨_,K,E⟩:=ztl B;simp only [Nat.sub_zero,aO] at E;have z:j<es.size:=by simpa using d
  have H:es[j].key=vk:=by
   have:=(n j d c).1;exact (y5e E l (by simpa using this)).symm
  refine ⟨.map (es.modify j fun e=>{ e with key:=vk,val:=vx }) clock,?_,?_⟩
  ·simp [Instr.mapUpdate,run_underlying C,MapKept.run_getObj_map m,Xo _ u l,F,MapKept.run_setObj_map _ m,Result.andThen,z,H,y84 u l]
  ·refine ⟨es.modify j fun e=>{ e with key:=vk,val:=vx },clock,by simp [aC,p],by simp [putK,y],q.mod _ _ (fun _=>rfl),fun i h s=>?_⟩;simp only [putK,length_set] at s;have hi:i<es.toList.length:=by simp;omega
   simp only [aQ,putK,getElem_set,getElem_modify];by_cases f:j=i
   ·rw [if_pos f,if_pos f];exact ⟨mv _ l,mv _ A⟩
   ·rw [if_neg f,if_neg f];exact ⟨mv _ (n i hi s).1,mv _ (n i hi s).2⟩
end
variable {P:Program}
theorem zql {fs:List Field}:∀ {cs:List AV} {k:Nat},D6 P k cs fs=true->AV.flatL cs=true:=by
 induction fs with
 |nil=>intro cs k h;cases cs with
  |nil=>rfl
  |cons=>simp [D6] at h
 |cons f fs b =>
  intro cs k h;cases cs with
  |nil=>rfl
  |cons a cs =>
   simp only [D6,aE] at h;have h1:=h.2.2.1;simp only [AV.flatL,aE];refine ⟨?_,b h.2.2.2⟩;cases a<;>first|rfl|simp [fkA,fkT] at h1
theorem T2 {t:TypeId}{k:AV}(h:Bv P t k=true):k.flat=true:=by
 cases k with
 |agg cs =>
  obtain ⟨fs,_,b⟩:=Zs h;exact zql b
 |int=>rfl
 |bool=>rfl
 |str=>rfl
 |_=>simp [Bv,fkA,fkT] at h
variable {i:TyI}{e:Nat}
theorem Js {T:TypeId}{k:Nat}(h:TyOk P T i)(c:i.shape=.map k e):P.underlying T=some (.map k e):=by
 obtain ⟨d,f,b⟩:=h.und;rw [c] at b;cases d<;>simp only [Dx,reduceCtorEq,E2.map.injEq] at b;obtain ⟨rfl,rfl⟩:=b;exact f
section
variable {cx:Cx} {o:Oper} {σ:AS}
variable {id:Nat}
theorem D5 {d:Nat}{e f:Ent}(b:lkE [(d,e)] id=some f):id∈[d]:=by
 simp only [lkE] at b;cases c:aZ d id with
 |true=>simp [aD c]
 |false=>rw [c] at b;cases b
variable {T:Nat}
theorem zwj {d:Nat}(k:o.op=.makeMap T none)(l:o.dst=some d)(q:dok cx o=true)(n:σ.find d=none):Aj cx o σ (.row d) [d] [(d,.mp [])]:=by
 refine ⟨fun id e p=>D5 p,fun τ h1 u a w Q K ⟨γ,f⟩ r=>C5 (fun c m=>by rw [k] at m;cases m) ?_⟩;have b:(execOp a.eval o).run cx.P w=.ok (.value (.map (some w.heap.size))) (w.alloc (.map #[] 0)):=by
  simp only [execOp,k,aY,Sem.run_bind,run_makeMap,Result.andThen_ok,Sem.run_pure]
 unfold Oper.wp;rw [b];refine r _ _ ⟨_,f.name (id:=d) (g:=w.heap.size) (s:=.map (some w.heap.size)) (e:=.mp []) (C0 q) (by rw [u d (by simp)];exact n) ((Below.refl _ _).alloc (aA _) _) (aA _) (by simp) ?_ ?_⟩
 ·exact ⟨w.heap.size,rfl,#[],0,(MapKept.heap_alloc w _).1,rfl,⟨by simp,fun e h=>by simp at h⟩,fun j h=>absurd h (by simp)⟩
 ·exact .row (aF _ _ _) (fun g s e _=>by injection e with e;injection e with _ e)
variable {ps:List (AV×AV)}
theorem zt8 {γ:Gam}{τ:AS}{a:Act}{w:World}{v:Value}(f:StG cx γ τ a w)(k:τ.find id=some (.mp ps))(j:Rep w (Sg cx.S0 cx.w0.heap.size γ) γ (.row id) v) :
  ∃ g,γ id=some (some (some g,.map (some g)))/\v=.map (some g)/\Dq w (Sg cx.S0 cx.w0.heap.size γ) g ps:=by
 have b:=f.me id;rw [k] at b;obtain ⟨d,c,g,h,hm⟩:=b;subst h;exact ⟨g,c,j.row_inv c,hm⟩
def Dz (z:AV)(ps:List (AV×AV)):Option Nat->AV |some j=>(ps.getD j default).2 |none=>z
def Ge (av:AV)(b:Bool):Bool->AV |true=>.tup [av,.bool b] |false=>av
variable {kt et:Nat}{x:Operand}
theorem zrz {y:Operand}{ok:Bool}{ie:TyI}{k av:AV}{r:Option Nat}(m:o.op=.lookup T x y ok)(G:dok cx o=true)(h:A7 x=true)(f:A7 y=true)(A:σ.eval x=.row id)(z:σ.eval y=k)(D:σ.find id=some (.mp ps))
  (H:lkT cx.E.tab T=some i) (C:i.shape=.map kt et) (F:lkT cx.E.tab et=some ie) (d:Om ie.zero=true) (p:Bv cx.P kt k=true) (E:Bz k (ps.map (·.1)) 0=some r)
  (n:Sub (Dz (Cz ie.zero) ps r) av):Aj cx o σ (Ge av r.isSome ok) [id] [] :=
 B8 G fun τ γ a w h1 I c=>by
  have u:=c.ev x h;rw [h1 x (by simp [m,Op.operands]),A] at u;have s:=c.ev y f;rw [h1 y (by simp [m,Op.operands]),z] at s;obtain ⟨g,J,B,hm⟩:=zt8 c (by rw [I id (by simp)];exact D) u;obtain ⟨v,b,l⟩:=zbo (S:=Sg cx.S0 cx.w0.heap.size γ) (zA:=Cz ie.zero) ok (Js (cx.E.ok T i H) C) p (s.flat (T2 p)) hm ((cx.E.ok et ie F).zeroV w) (X4 _ _ _ _ d) E;have b:Rep w (Sg cx.S0 cx.w0.heap.size γ) G0 (Dz (Cz ie.zero) ps r) v:=by cases r<;>exact b
  have b:=(b.open_ (γ':=γ)).sub n;refine ⟨(if ok then .tuple #[v,.bool r.isSome] else v),by simp only [execOp,m,B,Sem.run_bind,l,Result.andThen_ok,Sem.run_pure],?_⟩;cases ok with
  |false=>exact b
  |true =>
   simp only [Ge,if_true];refine .tup #[v,.bool r.isSome] rfl (fun j q=>?_);have q:j<2:=q;rcases j with _|_|j
   ·exact b
   ·exact .bool _
   ·omega
theorem zpj {y z:Operand}{k xv:AV}{ps':List (AV×AV)}{r:Option Nat}(m:o.op=.mapUpdate T x y z\/o.op=.insert T x y z)(hd:dok cx o=true)(O:A7 x=true)(N:A7 y=true)(M:A7 z=true)(hx:σ.eval x=.row id)(hy:σ.eval y=k)(hz:σ.eval z=xv)(hl:σ.find id=some (.mp ps))
  (hT:lkT cx.E.tab T=some i) (hs:i.shape=.map kt et) (G:Bv cx.P kt k=true) (ac:xv.closed=true) (hf:Bz k (ps.map (·.1)) 0=some r) (R:SubM (putK r k xv ps) ps'):Aj cx o σ (.tup []) [id] [(id,.mp ps')]:=by
 refine ⟨fun id e he=>D5 he,fun τ h1 h2 a w Q K ⟨γ,f⟩ hK=>C5 (fun c hc=>by rcases m with m|m<;>(rw [m] at hc;cases hc)) ?_⟩;have n:x∈o.op.operands/\y∈o.op.operands/\z∈o.op.operands:=by rcases m with m|m<;>simp [m,Op.operands]
 have ex:=f.ev x O;rw [h1 x n.1,hx] at ex;have ey:=f.ev y N;rw [h1 y n.2.1,hy] at ey;have ez:=f.ev z M;rw [h1 z n.2.2,hz] at ez;obtain ⟨g,Z,hv,hm⟩:=zt8 f (by rw [h2 id (by simp)];exact hl) ex;have q:own γ g:=own.mk Z;have I:=f.ge g q;have E:∀ b,Sg cx.S0 cx.w0.heap.size γ b->b≠g:=fun b B e=>by
  subst e;rcases B with ⟨_,h⟩|⟨_,h⟩
  ·have:=I.1.1;omega
  ·exact h q
 obtain ⟨A,D,V⟩:=zgo (Js (cx.E.ok T i hT) hs) G (ey.flat (T2 G)) (ez.close ac) hm hf (fun B=>E g B rfl);have aa:(execOp a.eval o).run cx.P w=.ok .skip { w with heap:=w.heap.setIfInBounds g A }:=by
  rcases m with m|m<;>simp only [execOp,m,hv,Sem.run_bind,D,Result.andThen_ok,Sem.run_pure]
 unfold Oper.wp;rw [aa];have l:∀ k,k≠g->({ w with heap:=w.heap.setIfInBounds g A }:World).heap[k]? = w.heap[k]? := fun k G=>by simp [aC,Ne.symm G]
 have p:w.heap.size<=({ w with heap:=w.heap.setIfInBounds g A }:World).heap.size:=by simp
 have ab:w.drawn<=({ w with heap:=w.heap.setIfInBounds g A }:World).drawn:=aA _;have L:Below cx.w0.heap.size w ({ w with heap:=w.heap.setIfInBounds g A }:World):=⟨rfl,rfl,rfl,p,fun k G=>l k (by have:=I.1.1;omega)⟩;generalize ({ w with heap:=w.heap.setIfInBounds g A }:World)=w' at *;refine hK _ _ ⟨γ,f.step (C0 hd) p (fun b B W=>⟨l b (E b B),B⟩) (fun id d h=>bA h) (fun C H=>⟨rfl,fun g' s Y U=>l g' ?_⟩) (fun C e' u=>?_) f.inj (fun b J=>⟨(f.ge b J).1,aU (f.ge b J).2 p⟩) (f.below.trans L) (.tup #[] rfl (fun j hj=>absurd hj (by simp))) (fun b F W=>⟨l b (fun e=>F (e▸q)),F⟩) (fun _=>ab)⟩
 ·rintro rfl;have:=f.inj _ _ _ _ _ Y Z U C1;subst this;simp [lkE] at H
 ·have X:C=id:=by have:=D5 u;simpa using this
  subst X;simp only [lkE,bB,aB] at u;subst u;exact ⟨_,Z,g,rfl,V.sub R⟩
theorem zwn (f:o.op=.call { callee:=.builtin .len,args:=#[x],argTypes:=#[T] })(n:dok cx o=true)(c:A7 x=true)(j:σ.eval x=.row id)(m:σ.find id=some (.mp ps))(q:lkT cx.E.tab T=some i)(l:i.shape=.map kt et):Aj cx o σ (.int .i64 (ps.length:Int)) [id] [] :=
 B8 n fun τ γ a w h1 r b=>by
  have h:=b.ev x c;rw [h1 x (by simp [f,Op.operands,Call.operands]),j] at h;obtain ⟨g,s,k,es,clock,p,d,_⟩:=zt8 b (by rw [r id (by simp)];exact m) h;refine ⟨.int .i64 (ps.length:Int),?_,.int _ _⟩;rw [<-d];simp [execOp,f,resolve,invoke,builtin,Builtin.len_,k,run_underlying (Js (cx.E.ok T i q) l),MapKept.run_getObj_map p,goInt,pure,Result.andThen]
end
variable {w:World}{sz:Nat}
theorem zqa {base n h:Nat}{g c:Nat}{vs:List Value}(d:w.ownsRow base e sz (.slice (some ⟨g,0,none⟩) n c) n vs)(q:h<=n):w.ownsRow base e sz (.slice (some ⟨g,0,none⟩) h c) h (vs.take (h*sz)):=by
 obtain ⟨h1,u⟩:=d;have j:h*sz<=n*sz:=aJ _ q;refine ⟨by rw [length_take];omega,?_⟩;rcases u with ⟨b,_⟩|⟨z,l,k,b,s,r,y,hm,p,m⟩
 ·cases b
 ·injection b with b _ f
  injection b with b
  injection b with b
  subst b;subst f;refine aW ⟨g,c,k,rfl,s,r,by omega,hm,p,?_⟩;rw [<-m,take_take,Nat.min_eq_left j]
section
variable {cx:Cx} {o:Oper} {σ:AS}
variable {hi:Option Operand}
theorem zon {σ τ:AS}{γ:Gam}{a:Act}{n m:Nat}(d:StG cx γ τ a w)(f:opdO hi=true)(h1:∀ y,hi=some y->τ.eval y=σ.eval y)(b:bndA σ n hi=some (m:Int))(c:Nat)(code:BoundsCode)(j:m<=c) :
  (match hi.map a.eval with|some v=>Instr.sliceBound v c code|none=>pure n:Sem Nat).run cx.P w=.ok m w:=by
 cases hi with
 |none=>simp only [bndA,aB] at b;have:n=m:=by omega
        simp [this]
 |some y =>
  have g:=d.ev y f;rw [h1 y rfl] at g;simp only [bndA] at b;cases h:σ.eval y with
  |int k q =>
   rw [h] at g b;simp only [aB] at b;subst b;simp only [aX,g.int_inv];exact X3 k m c _ j
  |_=>rw [h] at b;simp at b
variable {lo:Option Operand}
theorem Zo {σ τ:AS}{γ:Gam}{a:Act}{n l h c:Nat}(g:StG cx γ τ a w)(j:opdO lo=true)(m:opdO hi=true)(u:∀ y,lo=some y->τ.eval y=σ.eval y)(s:∀ y,hi=some y->τ.eval y=σ.eval y)
  (h1:bndA σ 0 lo=some (l:Int)) (r:bndA σ n hi=some (h:Int)) (k:l<=h) (q:h<=c):(Instr.sliceBounds true n c (lo.map a.eval) (hi.map a.eval) none).run cx.P w=.ok (l,h,c) w:=by
 have f:=zon g m s r c .sliceAcap q;have d:=zon g j u h1 h .sliceB k;unfold Instr.sliceBounds;cases p:hi.map a.eval with
 |none =>
  rw [p] at f;simp only [Sem.run_pure,Result.ok.injEq,and_true] at f;subst f;cases b:lo.map a.eval with
  |none=>rw [b] at d;simp only [Sem.run_pure,Result.ok.injEq,and_true] at d ⊢;simp [d]
  |some v=>rw [b] at d;simp only [aV,aK,if_false,Sem.run_bind,Sem.run_pure,d,Result.andThen_ok]
 |some v =>
  rw [p] at f;simp only [if_true,Sem.run_bind,Sem.run_pure,Result.andThen_ok,f] at f ⊢;cases b:lo.map a.eval with
  |none=>rw [b] at d;simp only [Sem.run_pure,Result.ok.injEq,and_true] at d ⊢;simp [d]
  |some v=>rw [b] at d;simp only [aV,aK,if_false,Sem.run_bind,Sem.run_pure,d,Result.andThen_ok]
variable {T:Nat}{x:Operand}
theorem zda (c:o.op=.slice T x lo hi none):x∈o.op.operands/\(∀ y,lo=some y->y∈o.op.operands)/\∀ y,hi=some y->y∈o.op.operands:=by
 refine ⟨by simp [c,Op.operands],fun y b=>?_,fun y b=>?_⟩<;>subst b<;>simp [c,Op.operands]
variable {esz eb:Nat}
theorem zlq (r:o.op=.slice T x lo hi none)(F:dok cx o=true)(j:A7 x=true)(m:opdO lo=true)(p:opdO hi=true)(B:σ.eval x=.nils)(G:lkT cx.E.tab T=some i)(D:i.shape=.slc e esz eb)(A:esz≠0)
  (h1:bndA σ 0 lo=some 0) (I:bndA σ 0 hi=some 0):Aj cx o σ .nils [] [] :=
 B8 F fun τ γ a w b E d=>by
  obtain ⟨z,u,s⟩:=zda r;have f:=d.ev x j;rw [b x z,B] at f;obtain ⟨C,q,_⟩:=Cn (cx.E.ok T i G) D;have k:=Du q A w;have H:=Zo (σ:=σ) (l:=0) (h:=0) (c:=0) (n:=0) d m p (fun y g=>b y (u y g)) (fun y g=>b y (s y g)) h1 I (aA _) (aA _);refine ⟨.slice none 0 0,?_,.nils⟩;simp [execOp,r,f.nils_inv,Instr.sliceAt,Instr.slice,run_underlying C,H,k,pure]
theorem zuo (f:o.op=.call { callee:=.builtin .cap,args:=#[x],argTypes:=#[T] })(k:dok cx o=true)(c:A7 x=true)(g:σ.eval x=.nils)(l:lkT cx.E.tab T=some i)(j:i.shape=.slc e esz eb):Aj cx o σ (.int .i64 0) [] [] :=
 B8 k fun τ γ a w h1 m d=>by
  have b:=d.ev x c;rw [h1 x (by simp [f,Op.operands,Call.operands]),g] at b;obtain ⟨h,_,_⟩:=Cn (cx.E.ok T i l) j;exact ⟨.int .i64 0,by simp [execOp,f,resolve,invoke,builtin,Builtin.cap_,b.nils_inv,run_underlying h,goInt,pure],.int _ _⟩
theorem zpi {ty id d h:Nat}{xs:List AV}(ho:o.op=.slice T x lo hi none)(am:o.dst=some d)(hd:dok cx o=true)(aa:A7 x=true)(R:opdO lo=true)(V:opdO hi=true)(hx:σ.eval x=.row id)(hT:lkT cx.E.tab T=some i)(hs:i.shape=.slc e esz eb)(hz:esz≠0)
  (hl:σ.find id=some (.row ty esz xs)) (hn:σ.find d=none) (ae:id≠d) (h1:bndA σ 0 lo=some 0) (h2:bndA σ xs.length hi=some (h:Int)) (hh:h<=xs.length):Aj cx o σ (.row d) [d,id] [(d,.row ty esz (xs.take h)),(id,.dead)]:=by
 refine ⟨fun i e he=>?_,fun τ q W a w Q K ⟨γ,m⟩ hK=>C5 (fun c hc=>by rw [ho] at hc;cases hc) ?_⟩
 ·simp only [lkE] at he;cases p:aZ d i with
  |true=>simp [aD p]
  |false =>
   rw [p] at he;cases Y:aZ id i with
   |true=>simp [aD Y]
   |false=>rw [Y] at he;cases he
 obtain ⟨m1,m2,m3⟩:=zda ho;have X:=m.ev x aa;rw [q x m1,hx] at X;obtain ⟨H,al,_⟩:=Cn (cx.E.ok T i hT) hs;have I:=Du al hz w;have N:=m.me id;rw [W id (by simp),hl] at N;obtain ⟨dd,B,s,us,ak,ad,r,z,ac,L⟩:=N;subst ak;have D:γ d=none:=by have:=m.me d;rw [W d (by simp),hn] at this;exact this
 have af:∀ b,Sg cx.S0 cx.w0.heap.size γ b->s.ownBlock≠some b:=fun b p e=>by
  have M:own γ b:=⟨id,_,B,by rw [e];exact C1⟩;rcases p with ⟨_,p⟩|⟨_,p⟩
  ·have:=(m.ge b M).1.1;omega
  ·exact p M
 have ag:(xs.take h).length=h:=by rw [length_take];omega
 -- the slice's form
 have key:∃ v' us',(Instr.sliceAt T s (lo.map a.eval) (hi.map a.eval) none).run cx.P w=.ok v' w/\w.ownsRow cx.w0.heap.size ty esz v' h us'/\v'.ownBlock=s.ownBlock/\us'=us.take (h*esz):=by
  rcases r.2 with ⟨C,h0⟩|⟨g,Z,ap,C,_,_,an,_⟩
  ·have ab:xs.length=0:=h0;have ai:h=0:=by omega
   subst ai;have hB:=Zo (σ:=σ) (l:=0) (h:=0) (c:=0) (n:=0) m R V (fun y A=>q y (m2 y A)) (fun y A=>q y (m3 y A)) h1 (by rw [ab] at h2;exact h2) (aA _) (aA _);refine ⟨.slice none 0 0,us.take (0*esz),?_,by rw [Nat.zero_mul,take_zero];exact World.ownsRow_nil w _ _ _,by rw [C],rfl⟩;rw [C];simp [Instr.sliceAt,Instr.slice,run_underlying H,hB,I,pure]
  ·have hB:=Zo (σ:=σ) (l:=0) (h:=h) (c:=Z) (n:=xs.length) m R V (fun y A=>q y (m2 y A)) (fun y A=>q y (m3 y A)) h1 h2 (Nat.zero_le _) (by omega);have f:=r;rw [C] at f;refine ⟨.slice (some ⟨g,0,none⟩) h Z,_,?_,zqa f hh,by rw [C];rfl,rfl⟩;rw [C];simp [Instr.sliceAt,Instr.slice,run_underlying H,hB,I,pure,Addr.add_lit]
 obtain ⟨v',us',J,f,F,G⟩:=key;have aj:(execOp a.eval o).run cx.P w=.ok (.value v') w:=by
  simp only [execOp,ho,X.row_inv B,aY,Sem.run_bind,J,Result.andThen_ok,Sem.run_pure]
 unfold Oper.wp;rw [aj];refine hK _ _ (zwa (v':=v') (us':=us') m (fun _=>aA _) B D ae (C0 hd) (World.grownBy.refl _ _) (by rw [ag];exact f) (fun b p=>bA (F▸p)) (fun k hk=>?_) (fun k hk j hj=>?_) (fun u H=>?_) (fun γ' E=>?_))
 ·rw [getElem_take];exact z k _
 ·have ah:k<h:=by omega
  have U:k<xs.length:=by omega
  simp only [getElem_take] at hj ⊢;have ao:j<esz:=by rw [<-z k U];exact hj
  have O:k*esz+j<h*esz:=by
   have:(k+1)*esz<=h*esz:=aJ _ ah;rw [bC] at this;omega
  rw [G,aG,getElem?_take_of_lt O,<-aG];exact (ac k U j hj).mono (aA _) (fun b p _=>⟨rfl,bA p,by rw [F];exact af b p⟩)
 ·rw [G] at H;exact L u (mem_of_mem_take H)
 ·exact .row E (fun g s e _=>by injection e with e;injection e with _ e)
end
mutual
def AV.frz (r sz:Nat)(xs:List AV):AV->AV
 |.row id=>match aZ id r with|true=>.sl sz xs|false=>.row id
 |.fn f cap=>.fn f (AV.frzL r sz xs cap)
 |.yld l T cap=>.yld l T (AV.frzL r sz xs cap)
 |.agg cs=>.agg (AV.frzL r sz xs cs)
 |.tup cs=>.tup (AV.frzL r sz xs cs)
 |x=>x
def AV.frzL (r sz:Nat)(xs:List AV):List AV->List AV |[]=>[] |x::l=>x.frz r sz xs::AV.frzL r sz xs l
end
theorem AV.frzL_length (r sz:Nat)(xs l:List AV):(AV.frzL r sz xs l).length=l.length:=by
 induction l with
 |nil=>rfl
 |cons x l ih=>simp [AV.frzL,ih]
theorem AV.frzL_at (r sz:Nat)(xs l:List AV)(i:Nat)(hi:i<l.length):(AV.frzL r sz xs l)[i]'(by rw [AV.frzL_length];exact hi)=l[i].frz r sz xs:=by
 induction l generalizing i with
 |nil=>simp at hi
 |cons x l ih =>
  cases i with
  |zero=>rfl
  |succ i=>exact ih i (by simpa using hi)
theorem Rep.frz {S:Nat->Prop}{γ γ':Gam}{r:Nat}{xs:List AV}{d:Option (Option Nat×Value)}(l:∀ i x,i≠r->γ i=some x->γ' i=some x)(C:γ r=some d)(u:γ' r=some none)
  (G:∀ v,(∀ g s,d=some (g,s)->Oj s=false->v=s)->Rep w S γ' (.sl sz xs) v) {av:AV} {v:Value} (h:Rep w S γ av v):Rep w S γ' (av.frz r sz xs) v:=by
 induction h with
 |any=>exact .any _
 |int=>exact .int _ _
 |bool=>exact .bool _
 |str=>exact .str _
 |nilp=>exact .nilp
 |nils=>exact .nils
 |nilf=>exact .nilf
 |@ptr γ id off v E h p =>
  by_cases hi:id=r
  ·subst hi;exact .ptr u (fun g s e=>by cases e)
  ·exact .ptr (l _ _ hi h) p
 |@elt γ id sz k j v E h p =>
  by_cases hi:id=r
  ·subst hi;exact .elt u (fun g s e=>by cases e)
  ·exact .elt (l _ _ hi h) p
 |@der γ Q id v E h p =>
  by_cases hi:id=r
  ·subst hi;exact .der u (fun g s e=>by cases e)
  ·exact .der (l _ _ hi h) p
 |mapv F L g es clock y I O N q M p K J=>exact .mapv F L g es clock y I O N q M p
 |mapn=>exact .mapn
 |slen A n c=>exact .slen A n c
 |@cont γ n id v E h p q =>
  by_cases hi:id=r
  ·subst hi;exact .cont u (fun g s e=>by cases e) q
  ·exact .cont (l _ _ hi h) p q
 |@row γ id v E h p =>
  simp only [AV.frz];cases y:aZ id r with
  |true =>
   have:=aD y;subst this;rw [C] at h;injection h with h
   subst h;exact G _ p
  |false=>exact .row (l _ _ (Nat.ne_of_beq_eq_false y) h) p
 |sl A c cell H D y B h1 ih=>exact .sl A c cell H D y B h1
 |ref b off cell I y H B h1 ih=>exact .ref b off cell I y H B h1
 |fn vs q z ih =>
  exact .fn vs (by rw [q,AV.frzL_length]) (fun i m=>by
   have f:=m;rw [AV.frzL_length] at f;rw [AV.frzL_at r sz xs _ i f];exact ih i f l C)
 |yld z ih =>
  exact .yld (fun i m=>by
   have f:=m;rw [AV.frzL_length] at f;rw [AV.frzL_at r sz xs _ i f];exact ih i f l C)
 |agg vs q z h1 ih =>
  exact .agg vs (by rw [q,AV.frzL_length]) (fun i m=>by
   have f:=m;rw [AV.frzL_length] at f;rw [AV.frzL_at r sz xs _ i f];exact ih i f l C) h1
 |tup vs q z ih =>
  exact .tup vs (by rw [q,AV.frzL_length]) (fun i m=>by
   have f:=m;rw [AV.frzL_length] at f;rw [AV.frzL_at r sz xs _ i f];exact ih i f l C)
section
variable {cx:Cx} {o:Oper} {σ:AS}
theorem zur {x:Operand}{args:Array Operand}{tys:Array TypeId}{f id ty:Nat}{n avs xs:List AV}{res:AV}{fr:Bool}(q:o.op=.call { callee:=.value x,args:=args,argTypes:=tys })(hd:dok cx o=true)(M:A7 x=true)(O:args.toList.all A7=true)(B:σ.eval x=.fn f n)
  (hl:σ.find id=some (.row ty sz xs)) (ha:AV.frzL id sz xs (C9 σ args n)=avs) (ac:AV.closedL avs=true) (I:Con cx.E fr f avs res):Aj cx o σ res [id] [(id,.dead)]:=by
 refine ⟨fun i e Z=>D5 Z,fun τ h1 h2 a w Q K ⟨γ,h⟩ hK=>C5 (fun c I=>by rw [q] at I;cases I) ?_⟩;have E:o.op.operands=#[x]++args:=by simp [q,Op.operands,Call.operands]
 obtain ⟨caps,ab,W,hr⟩:=O8 h O M (fun y hy=>h1 y (by rw [E];simp at hy ⊢;exact aW hy)) (h1 x (by rw [E];simp)) B;have F:=h.me id;rw [h2 id (by simp),hl] at F;obtain ⟨d,z,Z⟩:=F;have k:∀ b,own (γ.set id none) b->own γ b/\∀ s,γ id≠some (some (some b,s)):=fun b ⟨i,s,hi,hm⟩=>by
  by_cases l:i=id
  ·subst l;rw [aF] at hi;injection hi with hi;subst hi;simp [blks] at hm
  ·rw [aL _ _ _ l] at hi;exact ⟨⟨i,s,hi,hm⟩,fun s' N=>l (h.inj _ _ _ _ _ hi N hm C1)⟩
 have hS:∀ b,Sg cx.S0 cx.w0.heap.size γ b->Sg cx.S0 cx.w0.heap.size (γ.set id none) b:=fun b p=>p.elim bA (fun ⟨h1,h2⟩=>aW ⟨h1,fun q=>h2 (k b q).1⟩)
 have L:∀ i x,γ i=some x->γ.set id none i=some x\/γ.set id none i=some none\/Turn (γ.set id none) i x:=fun i x B=>by
  by_cases l:i=id
  ·subst l;exact aW (bA (aF _ _ _))
  ·exact bA (by rw [aL _ _ _ l];exact B)
 obtain ⟨s,hs,D⟩:=Fh (S':=Sg cx.S0 cx.w0.heap.size (γ.set id none)) Z (fun b p _=>hS b p) (fun s g L=>aW ⟨(h.ge g (own.mk (id:=id) (s:=s) (by rw [z,L]))).1,fun q=>(k g q).2 s (by rw [z,L])⟩) (γ.set id none);have mv:∀ {av v},Rep w (Sg cx.S0 cx.w0.heap.size γ) γ av v->Rep w (Sg cx.S0 cx.w0.heap.size (γ.set id none)) (γ.set id none) (av.frz id sz xs) v:=fun C =>
  (C.mono (aA _) (fun b p _=>⟨rfl,hS b p⟩)).frz (fun i x hi B=>by rw [aL _ _ _ hi];exact B) z (aF _ _ _) (fun v C=>by rw [C _ _ hs D.sl_tup];exact D)
 unfold Oper.wp;rw [O1 q ab I.1];show Calls _ _ _ _ _;have G:avs.length=(C9 σ args n).length:=by rw [<-ha,AV.frzL_length]
 refine (I.2 (Sg cx.S0 cx.w0.heap.size (γ.set id none)) w _ ⟨by rw [G];exact W,fun i hi=>?_⟩).mono ?_
 ·have H:i<(C9 σ args n).length:=by omega
  have e:avs[i]=(C9 σ args n)[i].frz id sz xs:=by
   have:(AV.frzL id sz xs (C9 σ args n))[i]'(by rw [AV.frzL_length];exact H)=avs[i]:=by simp only [ha]
   rw [<-this,AV.frzL_at]
  have:=mv (hr i H);rw [<-e] at this;exact this.close (AV.closedL_at ac i hi)
 rintro e w' ⟨v,rfl,⟨p,aa⟩,C⟩;refine hK _ _ ⟨γ.set id none,h.step (γ':=γ.set id none) (C0 hd) p.size (fun b m r=>⟨p.block b r,hS b m⟩) L (fun i hi=>?_) (fun i e hi=>?_) (fun i j b s s' hi A mi mj=>?_) (fun b J=>⟨(h.ge b (k b J).1).1,aU (h.ge b (k b J).1).2 p.size⟩) (h.below.trans (p.mono h.below.size)) ?_ (fun b U r=>⟨p.block b r,fun q=>U (k b q).1⟩) aa⟩
 ·have u:i≠id:=fun e=>by subst e;simp [lkE] at hi
  exact ⟨aL _ _ _ u,fun g s Y V=>p.block g (h.ge g ⟨i,s,Y,V⟩).2⟩
 ·have u:i=id:=by have:=D5 hi;simpa using this
  subst u;simp only [lkE,bB,aB] at hi;subst hi;exact ⟨none,aF _ _ _,rfl⟩
 ·have l:i≠id:=fun e=>by subst e;rw [aF] at hi;injection hi with hi;subst hi;simp [blks] at mi
  have X:j≠id:=fun e=>by subst e;rw [aF] at A;injection A with A;subst A;simp [blks] at mj
  rw [aL _ _ _ l] at hi;rw [aL _ _ _ X] at A;exact h.inj _ _ _ _ _ hi A mi mj
 ·refine (C.mono (aA _) (fun b m _=>⟨rfl,?_⟩)).open_;rcases m with ⟨_,m⟩|m
  ·exact m
  ·exact aW ⟨⟨Nat.le_trans h.below.size m,fun h0=>by have:=h.gh _ h0;omega⟩,fun R=>by have:=(h.ge b (k b R).1).2;omega⟩
theorem zft {T Ti d esz eb:Nat}{x y:Operand}{ie it:TyI}{k kn:IntKind}{n:Int}{m:Nat}(X:o.op=.call { callee:=.builtin .append,args:=#[x,y],argTypes:=#[T,Ti] })(z:o.dst=some d)(hd:dok cx o=true)(aa:A7 x=true)(Z:A7 y=true)(M:σ.eval x=.nils)(hy:σ.eval y=.int k n)
  (hT:lkT cx.E.tab T=some i) (hs:i.shape=.slc e esz eb) (ap:lkT cx.E.tab Ti=some it) (ad:it.shape=.int kn) (he:lkT cx.E.tab e=some ie) (hz:esz≠0) (Y:Jy ie=true) (r:ie.zero.cells.all (·.oneCell')=true) (hn:σ.find d=none) (hm:n=(m:Int)) (h0:0<n) (h1:m<=1099511627776) (h2:ie.bytes*m<=281474976710656) :
  Aj cx o σ (.row d) [d] [(d,.row e esz (replicate m (D8 ie)))]:=by
 refine ⟨fun id e he=>D5 he,fun τ q1 q2 a w Q K ⟨γ,D⟩ hK=>C5 (fun c hc=>by rw [X] at hc;cases hc) ?_⟩;have ex:=D.ev x aa;rw [q1 x (by simp [X,Op.operands,Call.operands]),M] at ex;have ey:=D.ev y Z;rw [q1 y (by simp [X,Op.operands,Call.operands]),hy] at ey;obtain ⟨hu,ao,_⟩:=Cn (cx.E.ok T i hT) hs;have ac:cx.P.underlying Ti=some (.int kn):=by
  obtain ⟨dd,al,F⟩:=(cx.E.ok Ti it ap).und;rw [ad] at F;cases dd<;>simp only [Dx,reduceCtorEq,E2.int.injEq] at F;subst F;exact al
 have U:=cx.E.ok e ie he;obtain ⟨info,hi,aj,ai,ah⟩:=U.both;have C:ie.sz=esz:=U.cells.symm.trans ao;obtain ⟨L,J⟩:=zaf Y;subst hm;have ae:0<m:=by omega
 have h:=Lib.run_append_nil_zeros (P:=cx.P) w T Ti o.type e info ie.zero k kn hu ac hi ah m ae (by rw [aj,C];omega) (by omega) (by rw [ai,bD];exact h2);generalize B:grownCap w m 0 e=f at h;have H:m<=f:=by rw [<-B];exact grownCap_ge _ _ _ _
 have G:f<=maxLen:=by rw [<-B];exact grownCap_le_maxLen _ _ _ _ (by unfold maxLen;omega)
 generalize A:Builtin.zeroCells ie.zero.cells m++Builtin.zeroCells ie.zero.cells (f-m)=p at h;have b:ie.zero.cells.size=esz:=J.trans C;have am:p.size=f*esz:=by
  rw [<-A,Array.size_append,size_zeroCells,size_zeroCells,b,<-Nat.add_mul];congr 1;omega
 have ak:(execOp a.eval o).run cx.P w=.ok (.value (.slice (some ⟨w.heap.size,0,none⟩) m f)) (w.drew.alloc (.cells p e)):=by
  simp only [execOp,X,resolve,invoke,builtin,Sem.run_bind,Sem.run_pure,Result.andThen_ok,map_toArray,map_cons,bE,ex.nils_inv,ey.int_inv,h]
 unfold Oper.wp;rw [ak];refine hK _ _ ?_;rw [z];have an:(D8 ie).cells.length=esz:=by rw [L,length_map,aH,J,C]
 have ab:p.toList.take (m*esz)=(madeCells ie.zero.cells (m*esz)).toList:=by
  rw [<-A,Array.toList_append,take_append_of_le_length (by rw [aH,size_zeroCells,b];exact aA _),take_of_length_le (by rw [aH,size_zeroCells,b];exact aA _)];unfold Builtin.zeroCells madeCells;rw [b]
 have R:(w.drew.alloc (.cells p e)).ownsRow w.heap.size e esz (.slice (some ⟨w.heap.size,0,none⟩) m f) m (madeCells ie.zero.cells (m*esz)).toList :=
  ⟨by simp [size_madeCells],aW ⟨w.heap.size,f,p,rfl,aA _,(MapKept.heap_alloc w.drew _).1,H,G,am,ab⟩⟩
 have V:∀ q j,q<m->j<esz->(madeCells ie.zero.cells (m*esz)).toList.getD (q*esz+j) undef=ie.zero.cells.getD j undef:=fun q j I hj=>by
  have af:q*esz+j<m*esz:=by
   have:(q+1)*esz<=m*esz:=aJ _ I;rw [bC] at this;omega
  have l:(q*esz+j) % ie.zero.cells.size=j:=by
   rw [b,bD,Nat.mul_add_mod,Nat.mod_eq_of_lt hj]
  rw [aG];have E:j<ie.zero.cells.size:=by omega
  simp [madeCells,af,l,aT,E]
 have W:∀ v∈ie.zero.cells,v.oneCell'=true:=by
  rw [Array.all_eq_true_iff_forall_mem] at r;exact r
 refine Xi (v:=.slice (some ⟨w.heap.size,0,none⟩) m f) (us:=(madeCells ie.zero.cells (m*esz)).toList) D (fun _=>Nat.le_succ _) (by rw [q2 d (by simp),hn]) (fun x M=>by injection M with M;subst M;exact C0 hd _ z) (((Below.refl _ _).drew).alloc (aA _) _)
  (by rw [length_replicate];exact R) (fun q I=>by rw [aN];exact an) (fun q I j hj=>?_) (fun u hu=>?_)
  (fun hS=>.row (aF _ _ _) (fun g s e _=>by injection e with e;injection e with _ e))
 ·have N:q<m:=by simpa using I
  rw [aN] at hj;have E:j<esz:=by omega
  rw [V q j N E];simp only [aN,L,aO];have ag:j<ie.zero.cells.size:=by omega
  have:ie.zero.cells.getD j undef=ie.zero.cells[j]:=by simp [aT,ag]
  rw [this];simpa using O9 _ _ _ (ie.zero.cells[j])
 ·obtain ⟨q,I,rfl⟩:=mem_iff_getElem.1 hu;have N:q<m*esz:=by simpa [size_madeCells] using I
  have O:0<ie.zero.cells.size:=by omega
  have l:=Nat.mod_lt q O;simp only [madeCells,Array.toList_map,aO,Array.getElem_toList,Array.getElem_range];rw [getElem!_pos ie.zero.cells _ l];exact W _ (Array.getElem_mem _)
end
end Go.Proofs.YtidhlpjgifoneaaGreat
