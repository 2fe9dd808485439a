/- Maps. -/
import Derived.Test.YtidhlpjgifoneaaGreatK08
import Derived.MapKept
import Derived.Carry
set_option linter.unusedVariables false
set_option linter.unusedSimpArgs false
namespace Go.Proofs.YtidhlpjgifoneaaGreat
open Go.RowKit List
section
variable {P:Program} {w:World} {S:Nat->Prop}
variable {t:TypeId}{a:AV}{v:Value}
theorem yee (n:Nat)(em:Bool)(ht:fkT (fkA a) (P.underlying t)=true)(ha:Rep w S G0 a v):(Instr.checkKey em (n+1) t v).run P w=.ok () w:=by
 obtain ⟨d,hu,hd⟩:=zva ht
 rcases hd with ⟨_,_,_,rfl,rfl⟩|⟨_,rfl,rfl⟩|⟨_,rfl,rfl⟩
 ·rw [ha.int_inv];simp [Instr.checkKey,run_underlying hu]
 ·rw [ha.bool_inv];simp [Instr.checkKey,run_underlying hu]
 ·rw [ha.str_inv];simp [Instr.checkKey,run_underlying hu]
theorem zwc (n:Nat)(em:Bool)(xs:Array Value):∀ (fs:List Field) (cs:List AV) (k:Nat),zib P k cs fs=true->k+cs.length<=xs.size->(∀ i (hi:i<cs.length),Rep w S G0 cs[i] (xs.getD (k+i) undef)) ->
  (forIn fs PUnit.unit (fun f _ => if f.name ≠ "_" then do
    let l <-part f.type xs f.offset
    Instr.checkKey em (n+1) f.type l
    pure (ForInStep.yield PUnit.unit) else pure (ForInStep.yield PUnit.unit):Field->PUnit->Sem (ForInStep PUnit))).run P w=.ok PUnit.unit w
 |[],cs,k,hf,_,_=>by simp
 |f::fs,[],k,hf,_,_=>by simp [zib] at hf
 |f::fs,a::cs,k,hf,h3,hx=>by
  simp only [zib,Bool.and_eq_true,decide_eq_true_eq] at hf
  obtain ⟨f1,f2,f3,f4⟩:=hf
  have f2:=Nat.eq_of_beq_eq_true f2
  simp only [length_cons] at h3
  have ha:Rep w S G0 a (xs.getD k undef):=hx 0 (by simp)
  have ih:=zwc n em xs fs cs (k+1) f4 (by omega) (fun i hi=>by have:=hx (i+1) (by simpa using hi);rw [show k+1+i=k+(i+1) by omega];simpa using this)
  have hp : f.name ≠ "_" := by simpa using f1
  rw [forIn_cons]
  simp only [if_pos hp,f2,Sem.run_bind,ziv f3 (show k<xs.size by omega),Result.andThen_ok,yee n em f3 ha,Sem.run_pure]
  exact ih
theorem ykc (n:Nat)(hk:fkA a≠.no)(ha:Rep w S G0 a v):Instr.sameBits n v v=true:=by
 cases a<;>simp [fkA] at hk
 ·rw [ha.int_inv];cases n<;>simp [Instr.sameBits]
 ·rw [ha.bool_inv];cases n<;>simp [Instr.sameBits]
 ·rename_i s
  have hs:(s == s)=true:=by
   cases s
   first|exact beq_self_eq_true _|(show (_ == _)=true;exact beq_self_eq_true (α:=Array UInt8) _)|simp [BEq.beq,instBEqByteArray]|decide
  rw [ha.str_inv];cases n<;>simp [Instr.sameBits,hs]
theorem ztx {cs:List AV}(ht:zfh P t (.agg cs)=true):∃ fs:Array Field,P.underlying t=some (.struct fs)/\zib P 0 cs fs.toList=true:=by
 simp only [zfh,Bool.and_eq_true] at ht
 obtain ⟨_,g3⟩:=ht
 cases hu:P.underlying t with
 |none=>rw [hu] at g3;cases g3
 |some dd =>
  rw [hu] at g3
  cases dd<;>simp only [Bool.false_eq_true] at g3
  exact ⟨_,rfl,g3⟩
theorem y8v (em:Bool)(ht:zfh P t a=true)(ha:Rep w S G0 a v):(Instr.checkKey em 10000 t v).run P w=.ok () w:=by
 cases a with
 |agg cs =>
  obtain ⟨fs,hu,hf⟩:=ztx ht
  obtain ⟨vs,ev,hl,hr,_⟩:=ha.agg_inv
  have:=zwc (w:=w) (S:=S) 9998 em vs fs.toList cs 0 hf (by omega) (fun i hi=>by simpa using hr i hi)
  rw [ev,show (10000:Nat)=9999+1 from rfl]
  unfold Instr.checkKey
  rw [Sem.run_bind,run_underlying hu,Result.andThen_ok]
  simp only [<-Array.forIn_toList,Sem.run_bind]
  rw [this,Result.andThen_ok]
  simp
 |int k n=>exact yee 9999 em (by simpa [zfh] using ht) ha
 |bool x=>exact yee 9999 em (by simpa [zfh] using ht) ha
 |str x=>exact yee 9999 em (by simpa [zfh] using ht) ha
 |_=>simp [zfh,fkA,fkT] at ht
theorem yoz {fs:List Field}:∀ {cs:List AV} {k:Nat},zib P k cs fs=true->∀ i (hi:i<cs.length),fkA cs[i]≠.no:=by
 induction fs with
 |nil=>intro cs k h i hi;cases cs with
  |nil=>simp at hi
  |cons=>simp [zib] at h
 |cons f fs ih =>
  intro cs k h i hi
  cases cs with
  |nil=>simp at hi
  |cons a cs =>
   simp only [zib,Bool.and_eq_true] at h
   cases i with
   |zero=>intro hk;have h3:=h.2.2.1;simp only [getElem_cons_zero] at hk;rw [hk] at h3;simp [fkT] at h3
   |succ i=>exact ih h.2.2.2 i (by simpa using hi)
theorem yrv (ht:zfh P t a=true)(ha:Rep w S G0 a v):(Instr.keyThatStays v v).run P w=.ok v w:=by
 have:Instr.sameBits 10000 v v=true:=by
  cases a with
  |agg cs =>
   obtain ⟨fs,hu,hf⟩:=ztx ht
   obtain ⟨vs,ev,hl,hr,_⟩:=ha.agg_inv
   rw [ev,show (10000:Nat)=9999+1 from rfl]
   simp only [Instr.sameBits,beq_self_eq_true,Bool.true_and,all_eq_true]
   intro p hp
   obtain ⟨i,hi,rfl⟩:=mem_iff_getElem.1 hp
   simp only [length_zip,Array.length_toList,Nat.min_self] at hi
   have h1:=ykc 9999 (yoz hf i (by omega)) (hr i (by omega))
   simp only [getElem_zip]
   simpa [Array.getD,hi] using h1
  |int k n=>exact ykc _ (by simp [fkA]) ha
  |bool x=>exact ykc _ (by simp [fkA]) ha
  |str x=>exact ykc _ (by simp [fkA]) ha
  |_=>simp [zfh,fkA,fkT] at ht
 simp [Instr.keyThatStays,this]
end
section
variable {P:Program} {w:World} {S:Nat->Prop}
theorem zzo (a b:ByteArray):(a == b)=(a.toList == b.toList):=by
 simp [beq_toListBytes]
variable {t:TypeId}{vk:Value}
theorem ykg {d:TypeDesc}{k a:AV}{va:Value}{c:Bool}(hu:P.underlying t=some d)(ht:fkT (fkA k) (P.underlying t)=true)(hk:Rep w S G0 k vk)(ha:Rep w S G0 a va)(he:eqK k a=some c):Instr.sameNow d vk va=some c:=by
 obtain ⟨d',hu',hd⟩:=zva ht
 rw [hu] at hu'
 injection hu' with hu'
 subst hu'
 rcases hd with ⟨q,n,q',rfl,rfl⟩|⟨x,rfl,rfl⟩|⟨x,rfl,rfl⟩
 ·cases a<;>simp only [eqK,eq1,reduceCtorEq] at he
  split at he
  ·rename_i hq
   have hq:=of_decide_eq_true hq
   subst hq
   rw [hk.int_inv,ha.int_inv,<-he]
   simp [Instr.sameNow]
   rfl
  ·cases he
 ·cases a<;>simp only [eqK,eq1,reduceCtorEq] at he
  rw [hk.bool_inv,ha.bool_inv,<-he]
  simp [Instr.sameNow]
 ·cases a<;>simp only [eqK,eq1,reduceCtorEq] at he
  rw [hk.str_inv,ha.str_inv,<-he]
  simp [Instr.sameNow,zzo]
theorem ydz {d:TypeDesc}{k:AV}(hu:P.underlying t=some d)(ht:fkT (fkA k) (P.underlying t)=true)(hk:Rep w S G0 k vk):∀ (es:List MapEntry) (ps:List (AV×AV)) (i:Nat) (r:Option Nat),es.length=ps.length->(∀ j (h:j<es.length) (h':j<ps.length),y98 w S es[j] ps[j]) ->
  zfz k (ps.map (·.1)) i=some r->Instr.findNow d vk es i=some (r.map fun j=>(j,(es.getD (j-i) default).val))/\∀ j,r=some j->i<=j/\j-i<es.length
 |[],[],i,r,hl,he,h=>by
  simp only [map_nil,zfz,Option.some.injEq] at h
  subst h
  exact ⟨rfl,fun j h=>by cases h⟩
 |e::es,p::ps,i,r,hl,he,h=>by
  have h0:y98 w S e p:=he 0 (by simp) (by simp)
  simp only [map_cons,zfz] at h
  cases hc:eqK k p.1 with
  |none=>rw [hc] at h;cases h
  |some c =>
   have hr:=ykg hu ht hk h0.1 hc
   rw [hc] at h
   unfold Instr.findNow
   rw [hr]
   cases c with
   |true =>
    simp only [Option.some.injEq] at h
    subst h
    exact ⟨by simp,fun j h=>by cases h;exact ⟨Nat.le_refl _,by simp⟩⟩
   |false =>
    obtain ⟨i1,i2⟩:=ydz hu ht hk es ps (i+1) r (by simpa using hl) (fun j h h'=>he (j+1) (by simpa using h) (by simpa using h')) h
    refine ⟨?_,fun j hj=>by obtain ⟨a,b⟩:=i2 j hj;exact ⟨by omega,by simp;omega⟩⟩
    simp only
    rw [i1]
    cases r with
    |none=>rfl
    |some j =>
     obtain ⟨a,b⟩:=i2 j rfl
     simp only [Option.map_some]
     rw [show j-i=(j-(i+1))+1 by omega,getD_cons_succ]
theorem y0f {fs:Array Field}:∀ es:List MapEntry,∀ i,Instr.findNow (.struct fs) vk es i=if es=[] then some none else none
 |[],i=>rfl
 |e::es,i=>by
  unfold Instr.findNow
  have:Instr.sameNow (.struct fs) vk e.key=none:=by unfold Instr.sameNow;rfl
  rw [this];simp
theorem ztb {k:AV}(ht:zfh P t k=true)(hk:Rep w S G0 k vk)(es:List MapEntry)(ps:List (AV×AV))(r:Option Nat)(hl:es.length=ps.length)(he:∀ j (h:j<es.length) (h':j<ps.length),y98 w S es[j] ps[j])
  (h:zfz k (ps.map (·.1)) 0=some r):(Instr.findKey t vk es).run P w=.ok (r.map fun j=>(j,(es.getD j default).val)) w/\∀ j,r=some j->j<es.length:=by
 have one:fkT (fkA k) (P.underlying t)=true->(Instr.findKey t vk es).run P w=.ok (r.map fun j=>(j,(es.getD j default).val)) w/\∀ j,r=some j->j<es.length:=fun h1=>by
  obtain ⟨d,hu,_⟩:=zva h1
  obtain ⟨f1,f2⟩:=ydz hu h1 hk es ps 0 r hl he h
  exact ⟨MapKept.run_findKey hu (by simpa using f1),fun j hj=>by simpa using (f2 j hj).2⟩
 cases k with
 |agg cs =>
  obtain ⟨fs,hu,hf⟩:=ztx ht
  obtain ⟨f1,f2⟩:=zsu ht hk es ps 0 r hl he h
  refine ⟨?_,fun j hj=>by simpa using (f2 j hj).2⟩
  by_cases h0:es=[]
  ·subst h0
   cases ps with
   |nil =>
    simp only [map_nil,zfz,Option.some.injEq] at h
    subst h
    exact MapKept.run_findKey hu rfl
   |cons=>simp at hl
  ·unfold Instr.findKey
   rw [Sem.run_bind,run_underlying hu,Result.andThen_ok,y0f,if_neg h0]
   simpa using f1
 |int q n=>exact one (by simpa [zfh] using ht)
 |bool x=>exact one (by simpa [zfh] using ht)
 |str x=>exact one (by simpa [zfh] using ht)
 |_=>simp [zfh,fkA,fkT] at ht
end
section
variable {P:Program} {w:World} {S:Nat->Prop}
theorem zv7 {T kt et:TypeId}{k zA:AV}{vk z:Value}{g:Nat}{ps:List (AV×AV)}{r:Option Nat}(ok:Bool)(hT:P.underlying T=some (.map kt et))(ht:zfh P kt k=true)(hk:Rep w S G0 k vk)(hm:ztl w S g ps)
  (hz:(zeroValue et).run P w=.ok z w) (hzR:Rep w S G0 zA z) (hf:zfz k (ps.map (·.1)) 0=some r) :
  ∃ v,Rep w S G0 (match r with|some j=>(ps.getD j default).2|none=>zA) v/\(Instr.lookup T (.map (some g)) vk ok).run P w=.ok (if ok then .tuple #[v,.bool r.isSome] else v) w:=by
 obtain ⟨es,clock,hb,hl,_,he⟩:=hm
 obtain ⟨f1,f2⟩:=ztb ht hk es.toList ps r (by simpa using hl) he hf
 cases r with
 |none =>
  refine ⟨z,hzR,?_⟩
  cases ok<;>simp [Instr.lookup,run_underlying hT,MapKept.run_getObj_map hb,y8v _ ht hk,f1,hz,Result.andThen]
 |some j =>
  have hj:=f2 j rfl
  have hj':j<ps.length:=by simp at hj;omega
  have:=(he j hj hj').2
  refine ⟨(es.toList.getD j default).val,?_,?_⟩
  ·simp only [getD_eq_getElem?_getD,getElem?_eq_getElem hj',getElem?_eq_getElem hj,Option.getD_some]
   exact this
  ·cases ok<;>simp [Instr.lookup,run_underlying hT,MapKept.run_getObj_map hb,y8v _ ht hk,f1,Result.andThen]
end
section
variable {P:Program} {w:World} {S:Nat->Prop}
theorem yit {a b:AV}{va vb:Value}(h:eq1 a b=some true)(ha:Rep w S G0 a va)(hb:Rep w S G0 b vb):va=vb:=by
 cases a<;>cases b<;>simp only [eq1,reduceCtorEq] at h
 ·split at h
  ·rename_i hk
   have hk:=of_decide_eq_true hk
   injection h with h
   have h:=of_decide_eq_true h
   subst hk;subst h
   rw [ha.int_inv,hb.int_inv]
  ·cases h
 ·injection h with h
  have h:=eq_of_beq h
  subst h
  rw [ha.bool_inv,hb.bool_inv]
 ·injection h with h
  rename_i s s'
  have e:s=s':=(MapKept.bytes_beq s s').1 (by rw [zzo];exact h)
  rw [ha.str_inv,hb.str_inv,e]
theorem ymv:∀ {cs ds:List AV},eqL cs ds=some true->cs.length=ds.length/\∀ i (h:i<cs.length) (h':i<ds.length),eq1 cs[i] ds[i]=some true
 |[],[],_=>⟨rfl,fun i h=>absurd h (by simp)⟩
 |[],_::_,h=>by simp [eqL] at h
 |_::_,[],h=>by simp [eqL] at h
 |a::cs,b::ds,h=>by
  unfold eqL at h
  split at h
  ·rename_i c c' h1 h2
   injection h with h
   simp only [Bool.and_eq_true] at h
   obtain ⟨rfl,rfl⟩:=h
   obtain ⟨i1,i2⟩:=ymv h2
   refine ⟨by simp [i1],fun i hi hi'=>?_⟩
   cases i with
   |zero=>exact h1
   |succ i=>exact i2 i (by simpa using hi) (by simpa using hi')
  ·cases h
theorem yp7 {a b:AV}{va vb:Value}(h:eqK a b=some true)(ha:Rep w S G0 a va)(hb:Rep w S G0 b vb):va=vb:=by
 by_cases hag:∃ cs ds,a=.agg cs/\b=.agg ds
 ·obtain ⟨cs,ds,rfl,rfl⟩:=hag
  obtain ⟨vs,ev,hl,hr,_⟩:=ha.agg_inv
  obtain ⟨us,eu,hl',hr',_⟩:=hb.agg_inv
  obtain ⟨e1,e2⟩:=ymv h
  rw [ev,eu]
  congr 1
  apply Array.ext (by omega)
  intro i h1 h2
  have:=yit (e2 i (by omega) (by omega)) (hr i (by omega)) (hr' i (by omega))
  simpa [Array.getD,h1,h2] using this
 ·have:eqK a b=eq1 a b:=by
   cases a<;>cases b<;>first|rfl|exact absurd ⟨_,_,rfl,rfl⟩ hag
  exact yit (this▸h) ha hb
theorem ye1 {k:AV}:∀ {l:List AV} {i j:Nat},zfz k l i=some (some j)->i<=j/\∃ h:j-i<l.length,eqK k l[j-i]=some true
 |[],i,j,h=>by simp [zfz] at h
 |a::r,i,j,h=>by
  simp only [zfz] at h
  cases hc:eqK k a with
  |none=>rw [hc] at h;cases h
  |some c =>
   rw [hc] at h
   cases c with
   |true =>
    simp only [Option.some.injEq] at h
    subst h
    exact ⟨Nat.le_refl _,by simp,by simpa using hc⟩
   |false =>
    obtain ⟨h1,h2,h3⟩:=ye1 h
    have e:j-i=(j-(i+1))+1:=by omega
    refine ⟨by omega,by simp;omega,?_⟩
    simp only [e,getElem_cons_succ]
    exact h3
variable {es:Array MapEntry}
theorem Born.push {clock:Nat}(h:Born es clock)(k v:Value):Born (es.push ⟨k,v,clock⟩) (clock+1):=by
 obtain ⟨h1,h2⟩:=h
 refine ⟨?_,fun e he=>?_⟩
 ·simp only [Array.toList_push,map_append,map_cons,map_nil]
  rw [nodup_append]
  refine ⟨h1,by simp,fun a ha b hb=>?_⟩
  obtain ⟨e,he,rfl⟩:=mem_map.1 ha
  have:=h2 e he
  simp at hb
  omega
 ·simp only [Array.toList_push,mem_append,mem_singleton] at he
  rcases he with he|he
  ·have:=h2 e he;omega
  ·subst he;simp
theorem Born.mod {clock:Nat}(h:Born es clock)(j:Nat)(f:MapEntry->MapEntry)(hf:∀ e,(f e).born=e.born):Born (es.modify j f) clock:=by
 obtain ⟨h1,h2⟩:=h
 have e:(es.modify j f).toList.map (·.born)=es.toList.map (·.born):=by
  apply ext_getElem
  ·simp
  ·intro i h3 h4
   simp only [getElem_map,Array.toList_modify,getElem_modify]
   split<;>simp [hf]
 refine ⟨by rw [e];exact h1,fun x hx=>?_⟩
 have:x.born∈es.toList.map (·.born):=by rw [<-e];exact mem_map.2 ⟨x,hx,rfl⟩
 obtain ⟨y,hy,hyb⟩:=mem_map.1 this
 rw [<-hyb]
 exact h2 y hy
def putK (r:Option Nat)(k x:AV)(ps:List (AV×AV)):List (AV×AV):=match r with|some j=>ps.set j (k,x)|none=>ps++[(k,x)]
theorem y19 {T kt et:TypeId}{k x:AV}{vk vx:Value}{g:Nat}{ps:List (AV×AV)}{r:Option Nat}(hT:P.underlying T=some (.map kt et))(ht:zfh P kt k=true)(hk:Rep w S G0 k vk)(hx:Rep w S G0 x vx)(hm:ztl w S g ps)
  (hf:zfz k (ps.map (·.1)) 0=some r) (hg:¬S g):∃ o,(Instr.mapUpdate T (.map (some g)) vk vx).run P w=.ok () { w with heap:=w.heap.setIfInBounds g o }/\ztl { w with heap:=w.heap.setIfInBounds g o } S g (putK r k x ps):=by
 obtain ⟨es,clock,hb,hl,hbn,he⟩:=hm
 have hlt:g<w.heap.size:=by
  rcases Nat.lt_or_ge g w.heap.size with h|h
  ·exact h
  ·rw [Array.getElem?_eq_none h] at hb;cases hb
 obtain ⟨f1,f2⟩:=ztb ht hk es.toList ps r (by simpa using hl) he hf
 have mv:∀ (o:Obj) {a:AV} {v:Value},Rep w S G0 a v->Rep { w with heap:=w.heap.setIfInBounds g o } S G0 a v:=fun o a v h =>
  h.mono (by simp) (fun b hS hb=>⟨by
   have:b≠g:=fun e=>hg (e▸hS)
   simp [Array.getElem?_setIfInBounds,Ne.symm this],hS⟩)
 cases r with
 |none =>
  refine ⟨.map (es.push ⟨vk,vx,clock⟩) (clock+1),?_,?_⟩
  ·simp [Instr.mapUpdate,run_underlying hT,MapKept.run_getObj_map hb,y8v _ ht hk,f1,MapKept.run_setObj_map _ hb,Result.andThen]
  ·refine ⟨es.push ⟨vk,vx,clock⟩,clock+1,by simp [Array.getElem?_setIfInBounds,hlt],by simp [putK,hl],hbn.push _ _,fun j h h'=>?_⟩
   simp only [Array.toList_push,putK] at h h' ⊢
   by_cases hj:j<es.toList.length
   ·have hj':j<ps.length:=by simp at hj;omega
    rw [getElem_append_left hj,getElem_append_left hj']
    exact ⟨mv _ (he j hj hj').1,mv _ (he j hj hj').2⟩
   ·have e1:j=es.toList.length:=by simp at h hj ⊢;omega
    have e2:j=ps.length:=by simp at e1;omega
    rw [getElem_append_right (by omega),getElem_append_right (by omega)]
    simp only [e1,Nat.sub_self,getElem_singleton]
    exact ⟨mv _ hk,mv _ hx⟩
 |some j =>
  have hj:=f2 j rfl
  have hj':j<ps.length:=by simp at hj;omega
  obtain ⟨_,h2,h3⟩:=ye1 hf
  simp only [Nat.sub_zero,getElem_map] at h3
  have hje:j<es.size:=by simpa using hj
  have hv:es[j].key=vk:=by
   have:=(he j hj hj').1
   exact (yp7 h3 hk (by simpa using this)).symm
  refine ⟨.map (es.modify j fun e=>{ e with key:=vk,val:=vx }) clock,?_,?_⟩
  ·simp [Instr.mapUpdate,run_underlying hT,MapKept.run_getObj_map hb,y8v _ ht hk,f1,MapKept.run_setObj_map _ hb,Result.andThen,hje,hv,yrv ht hk]
  ·refine ⟨es.modify j fun e=>{ e with key:=vk,val:=vx },clock,by simp [Array.getElem?_setIfInBounds,hlt],by simp [putK,hl],hbn.mod _ _ (fun _=>rfl),fun i h h'=>?_⟩
   simp only [putK,length_set] at h'
   have hi:i<es.toList.length:=by simp;omega
   simp only [Array.toList_modify,putK,getElem_set,getElem_modify]
   by_cases hij:j=i
   ·rw [if_pos hij,if_pos hij]
    exact ⟨mv _ hk,mv _ hx⟩
   ·rw [if_neg hij,if_neg hij]
    exact ⟨mv _ (he i hi h').1,mv _ (he i hi h').2⟩
end
variable {P:Program}
theorem yay {fs:List Field}:∀ {cs:List AV} {k:Nat},zib P k cs fs=true->AV.flatL cs=true:=by
 induction fs with
 |nil=>intro cs k h;cases cs with
  |nil=>rfl
  |cons=>simp [zib] at h
 |cons f fs ih =>
  intro cs k h
  cases cs with
  |nil=>rfl
  |cons a cs =>
   simp only [zib,Bool.and_eq_true] at h
   have h1:=h.2.2.1
   simp only [AV.flatL,Bool.and_eq_true]
   refine ⟨?_,ih h.2.2.2⟩
   cases a<;>first|rfl|simp [fkA,fkT] at h1
theorem zj5 {t:TypeId}{k:AV}(h:zfh P t k=true):k.flat=true:=by
 cases k with
 |agg cs =>
  obtain ⟨fs,_,hf⟩:=ztx h
  exact yay hf
 |int=>rfl
 |bool=>rfl
 |str=>rfl
 |_=>simp [zfh,fkA,fkT] at h
variable {i:TyI}{e:Nat}
theorem zq5 {T:TypeId}{k:Nat}(h:TyOk P T i)(hs:i.shape=.map k e):P.underlying T=some (.map k e):=by
 obtain ⟨d,hd,he⟩:=h.und
 rw [hs] at he
 cases d<;>simp only [zhk,reduceCtorEq,zun.map.injEq] at he
 obtain ⟨rfl,rfl⟩:=he
 exact hd
section
variable {cx:Cx} {o:Oper} {σ:AS}
variable {id:Nat}
theorem zhd {d:Nat}{e e':Ent}(he:lkE [(d,e)] id=some e'):id∈[d]:=by
 simp only [lkE] at he
 cases hb:Nat.beq d id with
 |true=>simp [Nat.eq_of_beq_eq_true hb]
 |false=>rw [hb] at he;cases he
variable {T:Nat}
theorem ygn {d:Nat}(ho:o.op=.makeMap T none)(hdst:o.dst=some d)(hd:dok cx o=true)(hn:σ.find d=none):z11 cx o σ (.row d) [d] [(d,.mp [])]:=by
 refine ⟨fun id e he=>zhd he,fun τ h1 h2 a w Q K ⟨γ,hst⟩ hK=>zhj (fun c hc=>by rw [ho] at hc;cases hc) ?_⟩
 have hrun:(execOp a.eval o).run cx.P w=.ok (.value (.map (some w.heap.size))) (w.alloc (.map #[] 0)):=by
  simp only [execOp,ho,Option.map_none,Sem.run_bind,run_makeMap,Result.andThen_ok,Sem.run_pure]
 unfold Oper.wp
 rw [hrun]
 refine hK _ _ ⟨_,hst.name (id:=d) (g:=w.heap.size) (s:=.map (some w.heap.size)) (e:=.mp []) (z9f hd) (by rw [h2 d (by simp)];exact hn) ((Below.refl _ _).alloc (Nat.le_refl _) _) (Nat.le_refl _) (by simp) ?_ ?_⟩
 ·exact ⟨w.heap.size,rfl,#[],0,(MapKept.heap_alloc w _).1,rfl,⟨by simp,fun e h=>by simp at h⟩,fun j h=>absurd h (by simp)⟩
 ·exact .row (Gam.set_self _ _ _) (fun g s e _=>by injection e with e;injection e with _ e)
variable {ps:List (AV×AV)}
theorem ydo {γ:Gam}{τ:AS}{a:Act}{w:World}{v:Value}(hst:StG cx γ τ a w)(hl:τ.find id=some (.mp ps))(hv:Rep w (Sg cx.S0 cx.w0.heap.size γ) γ (.row id) v) :
  ∃ g,γ id=some (some (some g,.map (some g)))/\v=.map (some g)/\ztl w (Sg cx.S0 cx.w0.heap.size γ) g ps:=by
 have hme:=hst.me id
 rw [hl] at hme
 obtain ⟨d,hd',g,hde,hm⟩:=hme
 subst hde
 exact ⟨g,hd',hv.row_inv hd',hm⟩
def ztw (z:AV)(ps:List (AV×AV)):Option Nat->AV
 |some j=>(ps.getD j default).2
 |none=>z
def y0c (av:AV)(b:Bool):Bool->AV
 |true=>.tup [av,.bool b]
 |false=>av
variable {kt et:Nat}{x:Operand}
theorem ycf {y:Operand}{ok:Bool}{ie:TyI}{k av:AV}{r:Option Nat}(ho:o.op=.lookup T x y ok)(hd:dok cx o=true)(hxo:z0r x=true)(hyo:z0r y=true)(hx:σ.eval x=.row id)(hy:σ.eval y=k)(hl:σ.find id=some (.mp ps))
  (hT:lkT cx.E.tab T=some i) (hs:i.shape=.map kt et) (he:lkT cx.E.tab et=some ie) (hzo:ybu ie.zero=true) (hk:zfh cx.P kt k=true) (hf:zfz k (ps.map (·.1)) 0=some r)
  (hav:Sub (ztw (zht ie.zero) ps r) av):z11 cx o σ (y0c av r.isSome ok) [id] [] :=
 z14 hd fun τ γ a w h1 h2 hst=>by
  have ex:=hst.ev x hxo
  rw [h1 x (by simp [ho,Op.operands]),hx] at ex
  have ey:=hst.ev y hyo
  rw [h1 y (by simp [ho,Op.operands]),hy] at ey
  obtain ⟨g,hg,hv,hm⟩:=ydo hst (by rw [h2 id (by simp)];exact hl) ex
  obtain ⟨v,hv1,hv2⟩:=zv7 (S:=Sg cx.S0 cx.w0.heap.size γ) (zA:=zht ie.zero) ok (zq5 (cx.E.ok T i hT) hs) hk (ey.flat (zj5 hk)) hm ((cx.E.ok et ie he).zeroV w) (zqb _ _ _ _ hzo) hf
  have hv1:Rep w (Sg cx.S0 cx.w0.heap.size γ) G0 (ztw (zht ie.zero) ps r) v:=by cases r<;>exact hv1
  have hv1:=(hv1.open_ (γ':=γ)).sub hav
  refine ⟨(if ok then .tuple #[v,.bool r.isSome] else v),by simp only [execOp,ho,hv,Sem.run_bind,hv2,Result.andThen_ok,Sem.run_pure],?_⟩
  cases ok with
  |false=>exact hv1
  |true =>
   simp only [y0c,if_true]
   refine .tup #[v,.bool r.isSome] rfl (fun j hj=>?_)
   have hj:j<2:=hj
   rcases j with _|_|j
   ·exact hv1
   ·exact .bool _
   ·omega
theorem y9u {y z:Operand}{k xv:AV}{ps':List (AV×AV)}{r:Option Nat}(ho:o.op=.mapUpdate T x y z\/o.op=.insert T x y z)(hd:dok cx o=true)(hxo:z0r x=true)(hyo:z0r y=true)(hzo:z0r z=true)(hx:σ.eval x=.row id)(hy:σ.eval y=k)(hz:σ.eval z=xv)(hl:σ.find id=some (.mp ps))
  (hT:lkT cx.E.tab T=some i) (hs:i.shape=.map kt et) (hk:zfh cx.P kt k=true) (hcl:xv.closed=true) (hf:zfz k (ps.map (·.1)) 0=some r) (hps:SubM (putK r k xv ps) ps'):z11 cx o σ (.tup []) [id] [(id,.mp ps')]:=by
 refine ⟨fun id e he=>zhd he,fun τ h1 h2 a w Q K ⟨γ,hst⟩ hK=>zhj (fun c hc=>by rcases ho with ho|ho<;>(rw [ho] at hc;cases hc)) ?_⟩
 have hmem:x∈o.op.operands/\y∈o.op.operands/\z∈o.op.operands:=by rcases ho with ho|ho<;>simp [ho,Op.operands]
 have ex:=hst.ev x hxo
 rw [h1 x hmem.1,hx] at ex
 have ey:=hst.ev y hyo
 rw [h1 y hmem.2.1,hy] at ey
 have ez:=hst.ev z hzo
 rw [h1 z hmem.2.2,hz] at ez
 obtain ⟨g,hg,hv,hm⟩:=ydo hst (by rw [h2 id (by simp)];exact hl) ex
 have hgo:own γ g:=own.mk hg
 have hgl:=hst.ge g hgo
 have hns:∀ b,Sg cx.S0 cx.w0.heap.size γ b->b≠g:=fun b hS e=>by
  subst e
  rcases hS with ⟨_,h⟩|⟨_,h⟩
  ·have:=hgl.1.1;omega
  ·exact h hgo
 obtain ⟨ob,hrun,hm'⟩:=y19 (zq5 (cx.E.ok T i hT) hs) hk (ey.flat (zj5 hk)) (ez.close hcl) hm hf (fun hS=>hns g hS rfl)
 have hex:(execOp a.eval o).run cx.P w=.ok .skip { w with heap:=w.heap.setIfInBounds g ob }:=by
  rcases ho with ho|ho<;>simp only [execOp,ho,hv,Sem.run_bind,hrun,Result.andThen_ok,Sem.run_pure]
 unfold Oper.wp
 rw [hex]
 have hoth:∀ k,k≠g->({ w with heap:=w.heap.setIfInBounds g ob }:World).heap[k]? = w.heap[k]? := fun k hk=>by simp [Array.getElem?_setIfInBounds,Ne.symm hk]
 have hz':w.heap.size<=({ w with heap:=w.heap.setIfInBounds g ob }:World).heap.size:=by simp
 have hdr:w.drawn<=({ w with heap:=w.heap.setIfInBounds g ob }:World).drawn:=Nat.le_refl _
 have hbel:Below cx.w0.heap.size w ({ w with heap:=w.heap.setIfInBounds g ob }:World):=⟨rfl,rfl,rfl,hz',fun k hk=>hoth k (by have:=hgl.1.1;omega)⟩
 generalize ({ w with heap:=w.heap.setIfInBounds g ob }:World)=w' at *
 refine hK _ _ ⟨γ,hst.step (z9f hd) hz' (fun b hS hlt=>⟨hoth b (hns b hS),hS⟩) (fun id d h=>Or.inl h) (fun id' hid'=>⟨rfl,fun g' s hg' hmb=>hoth g' ?_⟩) (fun id' e' he'=>?_) hst.inj (fun b hbo=>⟨(hst.ge b hbo).1,Nat.lt_of_lt_of_le (hst.ge b hbo).2 hz'⟩) (hst.below.trans hbel) (.tup #[] rfl (fun j hj=>absurd hj (by simp))) (fun b hno hlt=>⟨hoth b (fun e=>hno (e▸hgo)),hno⟩) (fun _=>hdr)⟩
 ·rintro rfl
  have:=hst.inj _ _ _ _ _ hg' hg hmb z4e
  subst this
  simp [lkE] at hid'
 ·have hid:id'=id:=by have:=zhd he';simpa using this
  subst hid
  simp only [lkE,Nat.beq_refl,Option.some.injEq] at he'
  subst he'
  exact ⟨_,hg,g,rfl,hm'.sub hps⟩
theorem ygr (ho:o.op=.call { callee:=.builtin .len,args:=#[x],argTypes:=#[T] })(hd:dok cx o=true)(hxo:z0r x=true)(hx:σ.eval x=.row id)(hl:σ.find id=some (.mp ps))(hT:lkT cx.E.tab T=some i)(hs:i.shape=.map kt et):z11 cx o σ (.int .i64 (ps.length:Int)) [id] [] :=
 z14 hd fun τ γ a w h1 h2 hst=>by
  have ex:=hst.ev x hxo
  rw [h1 x (by simp [ho,Op.operands,Call.operands]),hx] at ex
  obtain ⟨g,hg,hv,es,clock,hb,hl',_⟩:=ydo hst (by rw [h2 id (by simp)];exact hl) ex
  refine ⟨.int .i64 (ps.length:Int),?_,.int _ _⟩
  rw [<-hl']
  simp [execOp,ho,resolve,invoke,builtin,Builtin.len_,hv,run_underlying (zq5 (cx.E.ok T i hT) hs),MapKept.run_getObj_map hb,goInt,pure,Result.andThen]
end
variable {w:World}{sz:Nat}
theorem yak {base n h:Nat}{g cap:Nat}{vs:List Value}(hown:w.ownsRow base e sz (.slice (some ⟨g,0,none⟩) n cap) n vs)(hh:h<=n):w.ownsRow base e sz (.slice (some ⟨g,0,none⟩) h cap) h (vs.take (h*sz)):=by
 obtain ⟨h1,h2⟩:=hown
 have hle:h*sz<=n*sz:=Nat.mul_le_mul_right _ hh
 refine ⟨by rw [length_take];omega,?_⟩
 rcases h2 with ⟨hv,_⟩|⟨g',cap',cur,hv,hb,hc,hn,hm,hs,ht⟩
 ·cases hv
 ·injection hv with hv _ hcap
  injection hv with hv
  injection hv with hv
  subst hv
  subst hcap
  refine Or.inr ⟨g,cap,cur,rfl,hb,hc,by omega,hm,hs,?_⟩
  rw [<-ht,take_take,Nat.min_eq_left hle]
section
variable {cx:Cx} {o:Oper} {σ:AS}
variable {hi:Option Operand}
theorem y8x {σ τ:AS}{γ:Gam}{a:Act}{n m:Nat}(hst:StG cx γ τ a w)(hhi:opdO hi=true)(h1:∀ y,hi=some y->τ.eval y=σ.eval y)(h2:bndA σ n hi=some (m:Int))(c:Nat)(code:BoundsCode)(hc:m<=c) :
  (match hi.map a.eval with|some v=>Instr.sliceBound v c code|none=>pure n:Sem Nat).run cx.P w=.ok m w:=by
 cases hi with
 |none=>simp only [bndA,Option.some.injEq] at h2;have:n=m:=by omega
        simp [this]
 |some y =>
  have he:=hst.ev y hhi
  rw [h1 y rfl] at he
  simp only [bndA] at h2
  cases hy:σ.eval y with
  |int k q =>
   rw [hy] at he h2
   simp only [Option.some.injEq] at h2
   subst h2
   simp only [Option.map_some,he.int_inv]
   exact zqa k m c _ hc
  |_=>rw [hy] at h2;simp at h2
variable {lo:Option Operand}
theorem zrz {σ τ:AS}{γ:Gam}{a:Act}{n l h c:Nat}(hst:StG cx γ τ a w)(hlo:opdO lo=true)(hhi:opdO hi=true)(e1:∀ y,lo=some y->τ.eval y=σ.eval y)(e2:∀ y,hi=some y->τ.eval y=σ.eval y)
  (h1:bndA σ 0 lo=some (l:Int)) (h2:bndA σ n hi=some (h:Int)) (hlh:l<=h) (hh:h<=c):(Instr.sliceBounds true n c (lo.map a.eval) (hi.map a.eval) none).run cx.P w=.ok (l,h,c) w:=by
 have b1:=y8x hst hhi e2 h2 c .sliceAcap hh
 have b2:=y8x hst hlo e1 h1 h .sliceB hlh
 unfold Instr.sliceBounds
 cases hq:hi.map a.eval with
 |none =>
  rw [hq] at b1
  simp only [Sem.run_pure,Result.ok.injEq,and_true] at b1
  subst b1
  cases hlo':lo.map a.eval with
  |none=>rw [hlo'] at b2;simp only [Sem.run_pure,Result.ok.injEq,and_true] at b2 ⊢;simp [b2]
  |some v=>rw [hlo'] at b2;simp only [Option.isSome_none,Bool.false_eq_true,if_false,Sem.run_bind,Sem.run_pure,b2,Result.andThen_ok]
 |some v =>
  rw [hq] at b1
  simp only [if_true,Sem.run_bind,Sem.run_pure,Result.andThen_ok,b1] at b1 ⊢
  cases hlo':lo.map a.eval with
  |none=>rw [hlo'] at b2;simp only [Sem.run_pure,Result.ok.injEq,and_true] at b2 ⊢;simp [b2]
  |some v=>rw [hlo'] at b2;simp only [Option.isSome_none,Bool.false_eq_true,if_false,Sem.run_bind,Sem.run_pure,b2,Result.andThen_ok]
variable {T:Nat}{x:Operand}
theorem zxp (ho:o.op=.slice T x lo hi none):x∈o.op.operands/\(∀ y,lo=some y->y∈o.op.operands)/\∀ y,hi=some y->y∈o.op.operands:=by
 refine ⟨by simp [ho,Op.operands],fun y hy=>?_,fun y hy=>?_⟩<;>subst hy<;>simp [ho,Op.operands]
variable {esz eb:Nat}
theorem y67 (ho:o.op=.slice T x lo hi none)(hd:dok cx o=true)(hxo:z0r x=true)(hlo:opdO lo=true)(hhi:opdO hi=true)(hx:σ.eval x=.nils)(hT:lkT cx.E.tab T=some i)(hs:i.shape=.slc e esz eb)(hz:esz≠0)
  (h1:bndA σ 0 lo=some 0) (h2:bndA σ 0 hi=some 0):z11 cx o σ .nils [] [] :=
 z14 hd fun τ γ a w hh1 hh2 hst=>by
  obtain ⟨m1,m2,m3⟩:=zxp ho
  have hev:=hst.ev x hxo
  rw [hh1 x m1,hx] at hev
  obtain ⟨hu,hce,_⟩:=zey (cx.E.ok T i hT) hs
  have hsz:=z8a hce hz w
  have hB:=zrz (σ:=σ) (l:=0) (h:=0) (c:=0) (n:=0) hst hlo hhi (fun y hy=>hh1 y (m2 y hy)) (fun y hy=>hh1 y (m3 y hy)) h1 h2 (Nat.le_refl _) (Nat.le_refl _)
  refine ⟨.slice none 0 0,?_,.nils⟩
  simp [execOp,ho,hev.nils_inv,Instr.sliceAt,Instr.slice,run_underlying hu,hB,hsz,pure]
theorem yf2 (ho:o.op=.call { callee:=.builtin .cap,args:=#[x],argTypes:=#[T] })(hd:dok cx o=true)(hxo:z0r x=true)(hx:σ.eval x=.nils)(hT:lkT cx.E.tab T=some i)(hs:i.shape=.slc e esz eb):z11 cx o σ (.int .i64 0) [] [] :=
 z14 hd fun τ γ a w h1 h2 hst=>by
  have hev:=hst.ev x hxo
  rw [h1 x (by simp [ho,Op.operands,Call.operands]),hx] at hev
  obtain ⟨hu,_,_⟩:=zey (cx.E.ok T i hT) hs
  exact ⟨.int .i64 0,by simp [execOp,ho,resolve,invoke,builtin,Builtin.cap_,hev.nils_inv,run_underlying hu,goInt,pure],.int _ _⟩
theorem y9t {ty id d h:Nat}{xs:List AV}(ho:o.op=.slice T x lo hi none)(hdst:o.dst=some d)(hd:dok cx o=true)(hxo:z0r x=true)(hlo:opdO lo=true)(hhi:opdO hi=true)(hx:σ.eval x=.row id)(hT:lkT cx.E.tab T=some i)(hs:i.shape=.slc e esz eb)(hz:esz≠0)
  (hl:σ.find id=some (.row ty esz xs)) (hn:σ.find d=none) (hne:id≠d) (h1:bndA σ 0 lo=some 0) (h2:bndA σ xs.length hi=some (h:Int)) (hh:h<=xs.length):z11 cx o σ (.row d) [d,id] [(d,.row ty esz (xs.take h)),(id,.dead)]:=by
 refine ⟨fun i e he=>?_,fun τ hh1 hh2 a w Q K ⟨γ,hst⟩ hK=>zhj (fun c hc=>by rw [ho] at hc;cases hc) ?_⟩
 ·simp only [lkE] at he
  cases hb:Nat.beq d i with
  |true=>simp [Nat.eq_of_beq_eq_true hb]
  |false =>
   rw [hb] at he
   cases hb2:Nat.beq id i with
   |true=>simp [Nat.eq_of_beq_eq_true hb2]
   |false=>rw [hb2] at he;cases he
 obtain ⟨m1,m2,m3⟩:=zxp ho
 have hev:=hst.ev x hxo
 rw [hh1 x m1,hx] at hev
 obtain ⟨hu,hce,_⟩:=zey (cx.E.ok T i hT) hs
 have hsz:=z8a hce hz w
 have hme:=hst.me id
 rw [hh2 id (by simp),hl] at hme
 obtain ⟨dd,hd',s,us,hde,hone1,hown,hlen,hre,hone⟩:=hme
 subst hde
 have hγd:γ d=none:=by have:=hst.me d;rw [hh2 d (by simp),hn] at this;exact this
 have hnS:∀ b,Sg cx.S0 cx.w0.heap.size γ b->s.ownBlock≠some b:=fun b hb e=>by
  have ho':own γ b:=⟨id,_,hd',by rw [e];exact z4e⟩
  rcases hb with ⟨_,hb⟩|⟨_,hb⟩
  ·have:=(hst.ge b ho').1.1;omega
  ·exact hb ho'
 have hlt:(xs.take h).length=h:=by rw [length_take];omega
 -- the slice's form
 have key:∃ v' us',(Instr.sliceAt T s (lo.map a.eval) (hi.map a.eval) none).run cx.P w=.ok v' w/\w.ownsRow cx.w0.heap.size ty esz v' h us'/\v'.ownBlock=s.ownBlock/\us'=us.take (h*esz):=by
  rcases hown.2 with ⟨hv,h0⟩|⟨g,cap,cur,hv,_,_,hn2,_⟩
  ·have hx0:xs.length=0:=h0
   have hh0:h=0:=by omega
   subst hh0
   have hB:=zrz (σ:=σ) (l:=0) (h:=0) (c:=0) (n:=0) hst hlo hhi (fun y hy=>hh1 y (m2 y hy)) (fun y hy=>hh1 y (m3 y hy)) h1 (by rw [hx0] at h2;exact h2) (Nat.le_refl _) (Nat.le_refl _)
   refine ⟨.slice none 0 0,us.take (0*esz),?_,by rw [Nat.zero_mul,take_zero];exact World.ownsRow_nil w _ _ _,by rw [hv],rfl⟩
   rw [hv]
   simp [Instr.sliceAt,Instr.slice,run_underlying hu,hB,hsz,pure]
  ·have hB:=zrz (σ:=σ) (l:=0) (h:=h) (c:=cap) (n:=xs.length) hst hlo hhi (fun y hy=>hh1 y (m2 y hy)) (fun y hy=>hh1 y (m3 y hy)) h1 h2 (Nat.zero_le _) (by omega)
   have hown':=hown
   rw [hv] at hown'
   refine ⟨.slice (some ⟨g,0,none⟩) h cap,_,?_,yak hown' hh,by rw [hv];rfl,rfl⟩
   rw [hv]
   simp [Instr.sliceAt,Instr.slice,run_underlying hu,hB,hsz,pure,Addr.add_lit]
 obtain ⟨v',us',hrun,hown',hvb,hus⟩:=key
 have hex:(execOp a.eval o).run cx.P w=.ok (.value v') w:=by
  simp only [execOp,ho,hev.row_inv hd',Option.map_none,Sem.run_bind,hrun,Result.andThen_ok,Sem.run_pure]
 unfold Oper.wp
 rw [hex]
 refine hK _ _ (ygi (v':=v') (us':=us') hst (fun _=>Nat.le_refl _) hd' hγd hne (z9f hd) (World.grownBy.refl _ _) (by rw [hlt];exact hown') (fun b hb=>Or.inl (hvb▸hb)) (fun k hk=>?_) (fun k hk j hj=>?_) (fun u hu=>?_) (fun γ' hγ'=>?_))
 ·rw [getElem_take];exact hlen k _
 ·have hk':k<h:=by omega
  have hk2:k<xs.length:=by omega
  simp only [getElem_take] at hj ⊢
  have hj':j<esz:=by rw [<-hlen k hk2];exact hj
  have hlt2:k*esz+j<h*esz:=by
   have:(k+1)*esz<=h*esz:=Nat.mul_le_mul_right _ hk'
   rw [Nat.succ_mul] at this
   omega
  rw [hus,getD_eq_getElem?_getD,getElem?_take_of_lt hlt2,<-getD_eq_getElem?_getD]
  exact (hre k hk2 j hj).mono (Nat.le_refl _) (fun b hb _=>⟨rfl,Or.inl hb,by rw [hvb];exact hnS b hb⟩)
 ·rw [hus] at hu;exact hone u (mem_of_mem_take hu)
 ·exact .row hγ' (fun g s e _=>by injection e with e;injection e with _ e)
end
mutual
def AV.frz (r sz:Nat)(xs:List AV):AV->AV
 |.row id=>match Nat.beq id r with|true=>.sl sz xs|false=>.row id
 |.fn f cap=>.fn f (AV.frzL r sz xs cap)
 |.yld l T cap=>.yld l T (AV.frzL r sz xs cap)
 |.agg cs=>.agg (AV.frzL r sz xs cs)
 |.tup cs=>.tup (AV.frzL r sz xs cs)
 |x=>x
def AV.frzL (r sz:Nat)(xs:List AV):List AV->List AV
 |[]=>[]
 |x::l=>x.frz r sz xs::AV.frzL r sz xs l
end
theorem AV.frzL_length (r sz:Nat)(xs l:List AV):(AV.frzL r sz xs l).length=l.length:=by
 induction l with
 |nil=>rfl
 |cons x l ih=>simp [AV.frzL,ih]
theorem AV.frzL_at (r sz:Nat)(xs l:List AV)(i:Nat)(hi:i<l.length):(AV.frzL r sz xs l)[i]'(by rw [AV.frzL_length];exact hi)=l[i].frz r sz xs:=by
 induction l generalizing i with
 |nil=>simp at hi
 |cons x l ih =>
  cases i with
  |zero=>rfl
  |succ i=>exact ih i (by simpa using hi)
theorem Rep.frz {S:Nat->Prop}{γ γ':Gam}{r:Nat}{xs:List AV}{d:Option (Option Nat×Value)}(hγ:∀ i x,i≠r->γ i=some x->γ' i=some x)(hr:γ r=some d)(hr':γ' r=some none)
  (hsl:∀ v,(∀ g s,d=some (g,s)->yau s=false->v=s)->Rep w S γ' (.sl sz xs) v) {av:AV} {v:Value} (h:Rep w S γ av v):Rep w S γ' (av.frz r sz xs) v:=by
 induction h with
 |any=>exact .any _
 |int=>exact .int _ _
 |bool=>exact .bool _
 |str=>exact .str _
 |nilp=>exact .nilp
 |nils=>exact .nils
 |nilf=>exact .nilf
 |@ptr γ id off v d' h hv =>
  by_cases hi:id=r
  ·subst hi;exact .ptr hr' (fun g s e=>by cases e)
  ·exact .ptr (hγ _ _ hi h) hv
 |@elt γ id sz k j v d' h hv =>
  by_cases hi:id=r
  ·subst hi;exact .elt hr' (fun g s e=>by cases e)
  ·exact .elt (hγ _ _ hi h) hv
 |@der γ φ id v d' h hv =>
  by_cases hi:id=r
  ·subst hi;exact .der hr' (fun g s e=>by cases e)
  ·exact .der (hγ _ _ hi h) hv
 |mapv ps0 hp g es clock hb hS hg hh hl hk hv ih1 ih2=>exact .mapv ps0 hp g es clock hb hS hg hh hl hk hv
 |mapn=>exact .mapn
 |slen A n c=>exact .slen A n c
 |@cont γ n id v d' h hv hl =>
  by_cases hi:id=r
  ·subst hi;exact .cont hr' (fun g s e=>by cases e) hl
  ·exact .cont (hγ _ _ hi h) hv hl
 |@row γ id v d' h hv =>
  simp only [AV.frz]
  cases hb:Nat.beq id r with
  |true =>
   have:=Nat.eq_of_beq_eq_true hb
   subst this
   rw [hr] at h
   injection h with h
   subst h
   exact hsl _ hv
  |false=>exact .row (hγ _ _ (Nat.ne_of_beq_eq_false hb) h) hv
 |sl A c cell hc hlen hb hr2 h1 ih=>exact .sl A c cell hc hlen hb hr2 h1
 |ref b off cell hS hb hc hr2 h1 ih=>exact .ref b off cell hS hb hc hr2 h1
 |fn vs hl hrr ih =>
  exact .fn vs (by rw [hl,AV.frzL_length]) (fun i hi'=>by
   have hi2:=hi'
   rw [AV.frzL_length] at hi2
   rw [AV.frzL_at r sz xs _ i hi2]
   exact ih i hi2 hγ hr)
 |yld hrr ih =>
  exact .yld (fun i hi'=>by
   have hi2:=hi'
   rw [AV.frzL_length] at hi2
   rw [AV.frzL_at r sz xs _ i hi2]
   exact ih i hi2 hγ hr)
 |agg vs hl hrr h1 ih =>
  exact .agg vs (by rw [hl,AV.frzL_length]) (fun i hi'=>by
   have hi2:=hi'
   rw [AV.frzL_length] at hi2
   rw [AV.frzL_at r sz xs _ i hi2]
   exact ih i hi2 hγ hr) h1
 |tup vs hl hrr ih =>
  exact .tup vs (by rw [hl,AV.frzL_length]) (fun i hi'=>by
   have hi2:=hi'
   rw [AV.frzL_length] at hi2
   rw [AV.frzL_at r sz xs _ i hi2]
   exact ih i hi2 hγ hr)
section
variable {cx:Cx} {o:Oper} {σ:AS}
theorem yf5 {x:Operand}{args:Array Operand}{tys:Array TypeId}{f id ty:Nat}{cap avs xs:List AV}{res:AV}{fr:Bool}(ho:o.op=.call { callee:=.value x,args:=args,argTypes:=tys })(hd:dok cx o=true)(hxo:z0r x=true)(hok:args.toList.all z0r=true)(hx:σ.eval x=.fn f cap)
  (hl:σ.find id=some (.row ty sz xs)) (ha:AV.frzL id sz xs (zho σ args cap)=avs) (hcl:AV.closedL avs=true) (hc:Con cx.E fr f avs res):z11 cx o σ res [id] [(id,.dead)]:=by
 refine ⟨fun i e he=>zhd he,fun τ h1 h2 a w Q K ⟨γ,hst⟩ hK=>zhj (fun c hc=>by rw [ho] at hc;cases hc) ?_⟩
 have hop:o.op.operands=#[x]++args:=by simp [ho,Op.operands,Call.operands]
 obtain ⟨caps,hcx,hl',hr⟩:=zor hst hok hxo (fun y hy=>h1 y (by rw [hop];simp at hy ⊢;exact Or.inr hy)) (h1 x (by rw [hop];simp)) hx
 have hme:=hst.me id
 rw [h2 id (by simp),hl] at hme
 obtain ⟨d,hd',he⟩:=hme
 have hown:∀ b,own (γ.set id none) b->own γ b/\∀ s,γ id≠some (some (some b,s)):=fun b ⟨i,s,hi,hm⟩=>by
  by_cases hir:i=id
  ·subst hir;rw [Gam.set_self] at hi;injection hi with hi;subst hi;simp [blks] at hm
  ·rw [Gam.set_ne _ _ _ hir] at hi
   exact ⟨⟨i,s,hi,hm⟩,fun s' hs'=>hir (hst.inj _ _ _ _ _ hi hs' hm z4e)⟩
 have hS:∀ b,Sg cx.S0 cx.w0.heap.size γ b->Sg cx.S0 cx.w0.heap.size (γ.set id none) b:=fun b hb=>hb.elim Or.inl (fun ⟨h1,h2⟩=>Or.inr ⟨h1,fun ho=>h2 (hown b ho).1⟩)
 have hg:∀ i x,γ i=some x->γ.set id none i=some x\/γ.set id none i=some none\/Turn (γ.set id none) i x:=fun i x hx=>by
  by_cases hir:i=id
  ·subst hir;exact Or.inr (Or.inl (Gam.set_self _ _ _))
  ·exact Or.inl (by rw [Gam.set_ne _ _ _ hir];exact hx)
 obtain ⟨s,hs,hrr⟩:=zts (S':=Sg cx.S0 cx.w0.heap.size (γ.set id none)) he (fun b hb _=>hS b hb) (fun s g hg=>Or.inr ⟨(hst.ge g (own.mk (id:=id) (s:=s) (by rw [hd',hg]))).1,fun ho=>(hown g ho).2 s (by rw [hd',hg])⟩) (γ.set id none)
 have mv:∀ {av v},Rep w (Sg cx.S0 cx.w0.heap.size γ) γ av v->Rep w (Sg cx.S0 cx.w0.heap.size (γ.set id none)) (γ.set id none) (av.frz id sz xs) v:=fun hv =>
  (hv.mono (Nat.le_refl _) (fun b hb _=>⟨rfl,hS b hb⟩)).frz (fun i x hi hx=>by rw [Gam.set_ne _ _ _ hi];exact hx) hd' (Gam.set_self _ _ _) (fun v hv=>by rw [hv _ _ hs hrr.sl_tup];exact hrr)
 unfold Oper.wp
 rw [zo8 ho hcx hc.1]
 show Calls _ _ _ _ _
 have hlen:avs.length=(zho σ args cap).length:=by rw [<-ha,AV.frzL_length]
 refine (hc.2 (Sg cx.S0 cx.w0.heap.size (γ.set id none)) w _ ⟨by rw [hlen];exact hl',fun i hi=>?_⟩).mono ?_
 ·have hi':i<(zho σ args cap).length:=by omega
  have e:avs[i]=(zho σ args cap)[i].frz id sz xs:=by
   have:(AV.frzL id sz xs (zho σ args cap))[i]'(by rw [AV.frzL_length];exact hi')=avs[i]:=by simp only [ha]
   rw [<-this,AV.frzL_at]
  have:=mv (hr i hi')
  rw [<-e] at this
  exact this.close (AV.closedL_at hcl i hi)
 rintro e w' ⟨v,rfl,⟨hb,hdr⟩,hv⟩
 refine hK _ _ ⟨γ.set id none,hst.step (γ':=γ.set id none) (z9f hd) hb.size (fun b hS' hlt=>⟨hb.block b hlt,hS b hS'⟩) hg (fun i hi=>?_) (fun i e hi=>?_) (fun i j b s s' hi hj mi mj=>?_) (fun b hb'=>⟨(hst.ge b (hown b hb').1).1,Nat.lt_of_lt_of_le (hst.ge b (hown b hb').1).2 hb.size⟩) (hst.below.trans (hb.mono hst.below.size)) ?_ (fun b hno hlt=>⟨hb.block b hlt,fun ho=>hno (hown b ho).1⟩) hdr⟩
 ·have hid:i≠id:=fun e=>by subst e;simp [lkE] at hi
  exact ⟨Gam.set_ne _ _ _ hid,fun g s hgi hmi=>hb.block g (hst.ge g ⟨i,s,hgi,hmi⟩).2⟩
 ·have hid:i=id:=by have:=zhd hi;simpa using this
  subst hid
  simp only [lkE,Nat.beq_refl,Option.some.injEq] at hi
  subst hi
  exact ⟨none,Gam.set_self _ _ _,rfl⟩
 ·have hir:i≠id:=fun e=>by subst e;rw [Gam.set_self] at hi;injection hi with hi;subst hi;simp [blks] at mi
  have hjr:j≠id:=fun e=>by subst e;rw [Gam.set_self] at hj;injection hj with hj;subst hj;simp [blks] at mj
  rw [Gam.set_ne _ _ _ hir] at hi
  rw [Gam.set_ne _ _ _ hjr] at hj
  exact hst.inj _ _ _ _ _ hi hj mi mj
 ·refine (hv.mono (Nat.le_refl _) (fun b hS' _=>⟨rfl,?_⟩)).open_
  rcases hS' with ⟨_,hS'⟩|hS'
  ·exact hS'
  ·exact Or.inr ⟨⟨Nat.le_trans hst.below.size hS',fun h0=>by have:=hst.gh _ h0;omega⟩,fun ho'=>by have:=(hst.ge b (hown b ho').1).2;omega⟩
theorem y0a {T Ti d esz eb:Nat}{x y:Operand}{ie it:TyI}{k kn:IntKind}{n:Int}{m:Nat}(ho:o.op=.call { callee:=.builtin .append,args:=#[x,y],argTypes:=#[T,Ti] })(hdst:o.dst=some d)(hd:dok cx o=true)(hxo:z0r x=true)(hyo:z0r y=true)(hx:σ.eval x=.nils)(hy:σ.eval y=.int k n)
  (hT:lkT cx.E.tab T=some i) (hs:i.shape=.slc e esz eb) (hTi:lkT cx.E.tab Ti=some it) (hsi:it.shape=.int kn) (he:lkT cx.E.tab e=some ie) (hz:esz≠0) (hzo:zvq ie=true) (hone:ie.zero.cells.all (·.oneCell')=true) (hn:σ.find d=none) (hm:n=(m:Int)) (h0:0<n) (h1:m<=1099511627776) (h2:ie.bytes*m<=281474976710656) :
  z11 cx o σ (.row d) [d] [(d,.row e esz (replicate m (zq2 ie)))]:=by
 refine ⟨fun id e he=>zhd he,fun τ q1 q2 a w Q K ⟨γ,hst⟩ hK=>zhj (fun c hc=>by rw [ho] at hc;cases hc) ?_⟩
 have ex:=hst.ev x hxo
 rw [q1 x (by simp [ho,Op.operands,Call.operands]),hx] at ex
 have ey:=hst.ev y hyo
 rw [q1 y (by simp [ho,Op.operands,Call.operands]),hy] at ey
 obtain ⟨hu,hce,_⟩:=zey (cx.E.ok T i hT) hs
 have hui:cx.P.underlying Ti=some (.int kn):=by
  obtain ⟨dd,hdd,he'⟩:=(cx.E.ok Ti it hTi).und
  rw [hsi] at he'
  cases dd<;>simp only [zhk,reduceCtorEq,zun.int.injEq] at he'
  subst he'
  exact hdd
 have hok:=cx.E.ok e ie he
 obtain ⟨info,hi,hi1,hi2,hi3⟩:=hok.both
 have hsz:ie.sz=esz:=hok.cells.symm.trans hce
 obtain ⟨hzc,hzs⟩:=zsx hzo
 subst hm
 have hm0:0<m:=by omega
 have hrun:=Lib.run_append_nil_zeros (P:=cx.P) w T Ti o.type e info ie.zero k kn hu hui hi hi3 m hm0 (by rw [hi1,hsz];omega) (by omega) (by rw [hi2,Nat.mul_comm];exact h2)
 generalize hcap:grownCap w m 0 e=cap at hrun
 have hcap1:m<=cap:=by rw [<-hcap];exact grownCap_ge _ _ _ _
 have hcap2:cap<=maxLen:=by rw [<-hcap];exact grownCap_le_maxLen _ _ _ _ (by unfold maxLen;omega)
 generalize hcur:Builtin.zeroCells ie.zero.cells m++Builtin.zeroCells ie.zero.cells (cap-m)=cur at hrun
 have hzs2:ie.zero.cells.size=esz:=hzs.trans hsz
 have hcs:cur.size=cap*esz:=by
  rw [<-hcur,Array.size_append,size_zeroCells,size_zeroCells,hzs2,<-Nat.add_mul]
  congr 1;omega
 have hex:(execOp a.eval o).run cx.P w=.ok (.value (.slice (some ⟨w.heap.size,0,none⟩) m cap)) (w.drew.alloc (.cells cur e)):=by
  simp only [execOp,ho,resolve,invoke,builtin,Sem.run_bind,Sem.run_pure,Result.andThen_ok,map_toArray,map_cons,map_nil,ex.nils_inv,ey.int_inv,hrun]
 unfold Oper.wp
 rw [hex]
 refine hK _ _ ?_
 rw [hdst]
 have hcl:(zq2 ie).cells.length=esz:=by rw [hzc,length_map,Array.length_toList,hzs,hsz]
 have hus:cur.toList.take (m*esz)=(madeCells ie.zero.cells (m*esz)).toList:=by
  rw [<-hcur,Array.toList_append,take_append_of_le_length (by rw [Array.length_toList,size_zeroCells,hzs2];exact Nat.le_refl _),take_of_length_le (by rw [Array.length_toList,size_zeroCells,hzs2];exact Nat.le_refl _)]
  unfold Builtin.zeroCells madeCells
  rw [hzs2]
 have hown:(w.drew.alloc (.cells cur e)).ownsRow w.heap.size e esz (.slice (some ⟨w.heap.size,0,none⟩) m cap) m (madeCells ie.zero.cells (m*esz)).toList :=
  ⟨by simp [size_madeCells],Or.inr ⟨w.heap.size,cap,cur,rfl,Nat.le_refl _,(MapKept.heap_alloc w.drew _).1,hcap1,hcap2,hcs,hus⟩⟩
 have hget:∀ q j,q<m->j<esz->(madeCells ie.zero.cells (m*esz)).toList.getD (q*esz+j) undef=ie.zero.cells.getD j undef:=fun q j hq hj=>by
  have hlt:q*esz+j<m*esz:=by
   have:(q+1)*esz<=m*esz:=Nat.mul_le_mul_right _ hq
   rw [Nat.succ_mul] at this
   omega
  have hmod:(q*esz+j) % ie.zero.cells.size=j:=by
   rw [hzs2,Nat.mul_comm,Nat.mul_add_mod,Nat.mod_eq_of_lt hj]
  rw [getD_eq_getElem?_getD]
  have hj':j<ie.zero.cells.size:=by omega
  simp [madeCells,hlt,hmod,Array.getD,hj']
 have hall:∀ v∈ie.zero.cells,v.oneCell'=true:=by
  rw [Array.all_eq_true_iff_forall_mem] at hone
  exact hone
 refine zyo (v:=.slice (some ⟨w.heap.size,0,none⟩) m cap) (us:=(madeCells ie.zero.cells (m*esz)).toList) hst (fun _=>Nat.le_succ _) (by rw [q2 d (by simp),hn]) (fun x hx=>by injection hx with hx;subst hx;exact z9f hd _ hdst) (((Below.refl _ _).drew).alloc (Nat.le_refl _) _)
  (by rw [length_replicate];exact hown) (fun q hq=>by rw [getElem_replicate];exact hcl) (fun q hq j hj=>?_) (fun u hu=>?_)
  (fun hS=>.row (Gam.set_self _ _ _) (fun g s e _=>by injection e with e;injection e with _ e))
 ·have hq':q<m:=by simpa using hq
  rw [getElem_replicate] at hj
  have hj':j<esz:=by omega
  rw [hget q j hq' hj']
  simp only [getElem_replicate,hzc,getElem_map]
  have hj2:j<ie.zero.cells.size:=by omega
  have:ie.zero.cells.getD j undef=ie.zero.cells[j]:=by simp [Array.getD,hj2]
  rw [this]
  simpa using zt2 _ _ _ (ie.zero.cells[j])
 ·obtain ⟨q,hq,rfl⟩:=mem_iff_getElem.1 hu
  have hq':q<m*esz:=by simpa [size_madeCells] using hq
  have hpos:0<ie.zero.cells.size:=by omega
  have hmod:=Nat.mod_lt q hpos
  simp only [madeCells,Array.toList_map,getElem_map,Array.getElem_toList,Array.getElem_range]
  rw [getElem!_pos ie.zero.cells _ hmod]
  exact hall _ (Array.getElem_mem _)
end
end Go.Proofs.YtidhlpjgifoneaaGreat
