/- The abstract walk. -/
import Derived.Test.YthbogefcfhmpgaaGreatK11
set_option linter.unusedVariables false
set_option linter.unusedSimpArgs false
namespace Go.Proofs.YthbogefcfhmpgaaGreat
open Go.RowKit List
open _root_.Array renaming getElem?_setIfInBounds->aA,length_toList->aF
open Option.some renaming injEq->aB
open List renaming getElem_map->aC,getD_eq_getElem?_getD->aD,getElem_replicate->aG,getElem_cons_zero->aH,getElem_eraseIdx->aJ,length_map->aL
open Nat renaming le_refl->aE,add_zero->aM
section
variable {cx:Cx} {o:Oper} {σ:AS}
theorem LeX.arr {E:Env}{nt:Nat}{σ:AS}(r ety:Nat){ty m:Nat}(hr:σ.find r=some (.row ty 1 (replicate m .nils))):LeX E nt σ (σ.rpAll r Ec (.cont m r) (.are ty ((range m).map some) (replicate m (.row ety 1 [])))):=by
 refine LeX.rpAll r Ec (.cont m r) _ _ hr (fun ty cs h=>by cases h) (fun cx γ a w d hst hd he=>?_)
 obtain ⟨s,us,hde,hs1,hown,hlen,hre,hone⟩:=he
 subst hde
 obtain ⟨ob1,ob2⟩:=Wh hown
 rw [length_replicate] at hown
 have hul:us.length=m:=by have:=hown.1;omega
 have hnil:∀ k,k<m->us.getD k undef=.slice none 0 0:=fun k hk=>by
  have:=hre k (by simpa using hk) 0 (by simp [AV.cells])
  simp only [aG,AV.cells,aH,Nat.mul_one,aM] at this
  exact this.nils_inv
 have hgd:∀ k,us.toArray.getD k undef=us.getD k undef:=fun k=>by simp [Array.getD_eq_getD_getElem?,aD]
 have hnb:∀ k b,B2 (us.toArray.getD k undef)≠some b:=fun k b hb=>by
  rw [hgd] at hb
  by_cases hk:k<m
  ·rw [hnil k hk] at hb;simp [B2] at hb
  ·rw [aD,getElem?_eq_none (by omega)] at hb
   simp [undef,B2] at hb
 refine ⟨arnV s us.toArray,fun b hb=>?_,fun S' hS hS2=>⟨⟨s,us.toArray,us,rfl,hs1,by simp [hul],by rw [aL,length_range];exact hown,hone,fun k hk=>?_,fun j hj=>?_,fun i j b hi=>absurd hi (hnb i b),fun i b _=>hnb i b⟩,fun γ' x v hγ' hsrc hx hv=>?_⟩⟩
 ·rcases mem_arnV.1 hb with h|⟨j,h⟩
  ·exact (Tf ob1 ob2).2 h
  ·exact absurd h (hnb j b)
 ·have hk':k<m:=by simpa using hk
  simp only [aC,getElem_range]
  refine ⟨(fun h=>by cases h),fun j hj=>?_⟩
  injection hj with hj
  subst hj
  exact ⟨by simpa using hk',(hgd k).symm⟩
 ·have hj':j<m:=by simpa using hj
  rw [aG,hgd,hnil j hj']
  exact ⟨(by intro h;cases h),rfl,[],World.ownsRow_nil _ _ _ _,fun k hk=>absurd hk (by simp),fun k hk=>absurd hk (by simp),fun u hu=>by cases hu⟩
 ·have hx':x=.row r:=by
   cases x with
   |row i=>simp only [AV.leafId,aB] at hx;rw [hx]
   |_=>simp [Ec] at hsrc
  subst hx'
  have hvs:v=s:=hv.row_inv hd (Mj hs1)
  subst hvs
  refine .cont hγ' (fun g s' e=>?_) ?_
  ·injection e with e
   injection e with _ e
   subst e
   simp only [Dv.of,con0]
  ·rcases hown.2 with ⟨hv0,h0⟩|⟨g,cap,cur,hv0,_⟩
   ·exact ⟨none,0,by rw [hv0,h0],fun h=>by omega⟩
   ·exact ⟨_,cap,hv0,fun _=>⟨g,0,rfl⟩⟩
theorem zhj {w:World}{S:Nat->Prop}{γ:Gam}{n id:Nat}{v s:Value}{vs:Array Value}(h:Rep w S γ (.cont n id) v)(hg:γ id=some (arnV s vs)):v=s/\∃ A c,s=.slice A n c:=by
 cases h with
 |cont h hv hl =>
  rw [hg] at h
  injection h with h
  have e:=hv none (.agg (#[s]++vs)) h.symm
  simp only [Dv.of,con0] at e
  obtain ⟨A,c,hq,_⟩:=hl
  exact ⟨e,A,c,by rw [<-e];exact hq⟩
end
variable {α β:Type}
section
variable {E:Env} {nt:Nat} {o:Oper} {σ:AS} {K:AV->List Nat->List (Nat×Ent)->Prop}
end
section
variable {E:Env} {nt:Nat} {R:Exit->AS->Prop} {K:List B8}
end
section
variable {α β κ ν:Type} {E:Env} {nt:Nat}
variable {m:Ars (List (κ×ν))}
theorem LeX.fro {σ:AS}(r:Nat)(ek:κ->AV)(ev:ν->AV){ty:Nat}(hr:σ.find r=some (.are ty m.1 (m.2.map (enO ek ev)))):LeX E nt σ (σ.rpAll r Ty (.row r) (.row ty 1 ((aval m).map fun q=>.mapv (q.map (encM ek ev))))):=by
 refine LeX.rpAll r Ty _ _ _ hr (fun ty cs h=>by cases h) (fun cx γ a w d hst hd he=>?_)
 obtain ⟨s,vs,us,hde,hs1,hsz,hown,hone,hix,hnn,hdb⟩:=he
 have hde:d=arnV s vs:=hde
 subst hde
 rw [aL] at hsz
 obtain ⟨ob1,ob2⟩:=Wh hown
 refine ⟨some (s.ownBlock,s),(fun b hb=>mem_arnV.2 (Or.inl ((Tf ob1 ob2).1 hb))),fun S' hS hS2=>⟨⟨s,us,rfl,hs1,by rw [aL];simpa [aval] using hown,fun k hk=>by rw [aC];rfl,fun k hk j hj=>?_,hone⟩,fun γ' x v hγ' hsrc hx hv=>?_⟩⟩
 ·have hk':k<(aval m).length:=by simpa using hk
  have hj0:j=0:=by
   have:j<1:=by simpa [AV.cells] using hj
   omega
  subst hj0
  simp only [aC,AV.cells,aH,Nat.mul_one,aM]
  have hk':k<m.1.length:=by simpa [aval] using hk'
  obtain ⟨q1,q2⟩:=hix k hk'
  simp only [aval,aC]
  cases hc:m.1[k] with
  |none=>exact (q1 hc).mono (aE _) (fun b hb _=>⟨rfl,hS b hb⟩)
  |some j =>
   obtain ⟨q3,q4⟩:=q2 j hc
   have q3':j<m.2.length:=by simpa using q3
   rw [q4]
   simp only [getElem?_eq_getElem q3',Option.getD_some]
   have h2:=(hnn j q3).2
   simp only [aC,enO] at h2
   obtain ⟨g,ps0,e1,⟨es,clock,e2,e3,e4,e5⟩,e6⟩:=h2
   rw [e1]
   have hg:S' g:=hS2 g (mem_arnV.2 (Or.inr ⟨j,by rw [e1];rfl⟩)) (fun hb=>hdb.2 j g ((Tf ob1 ob2).1 hb) (by rw [e1];rfl))
   exact .mapv ps0 e6 g es clock e4 hg (Array.getElem?_eq_some_iff.1 e2).1 e2 e3 (fun j q q'=>(e5 j q q').1.mono (aE _) (fun b hb hl=>⟨rfl,hS b hb⟩)) (fun j q q'=>(e5 j q q').2.mono (aE _) (fun b hb hl=>⟨rfl,hS b hb⟩))
 ·have hx':∃ n,x=.cont n r:=by
   cases x with
   |cont n i=>simp only [AV.leafId,aB] at hx;exact ⟨n,by rw [hx]⟩
   |_=>simp [Ty] at hsrc
  obtain ⟨n,rfl⟩:=hx'
  have hvs:v=s:=(zhj hv hd).1
  subst hvs
  exact .row hγ' (fun g s' e _=>by injection e with e;injection e with _ e)
def fro (r:Nat)(x:Option β):Option β:=x
theorem AW.froO {R:Exit->AS->Prop}{K:List B8}{id ty:Nat}{c:Code}{σ:AS}{x:Option β}{y:β}(ek:κ->AV)(ev:ν->AV)(h:fro id x=some y)(r:Nat)(hr:σ.find r=some (.are ty m.1 (m.2.map (enO ek ev))))(k:x=some y->AW E nt R (.code c::K) .normal (σ.rpAll r Ty (.row r) (.row ty 1 ((aval m).map fun q=>.mapv (q.map (encM ek ev)))))):AW E nt R (.code c::K) .normal σ:=AW.weaken (LeX.fro r ek ev hr) (k h)
end
def nlA (sz:Nat):List AV->AV
 |[]=>.nils
 |x::r=>.sl sz (x::r)
variable {P:Program}{w:World}{T:TypeId}
theorem zhh {e:TypeId}(hu:P.underlying T=some (.slice e))(d:Nat)(A:Option Addr)(n c:Nat):(Op.equalIn (d+1) T (.slice A n c) (.slice none 0 0)).run P w=.ok A.isNone w:=by
 unfold Op.equalIn
 cases A<;>simp [run_underlying hu,Result.andThen,pure]
theorem zid {e:TypeId}(hu:P.underlying T=some (.slice e))(A:Option Addr)(n c:Nat):(Op.equal T (.slice A n c) (.slice none 0 0)).run P w=.ok A.isNone w:=zhh hu 9999 A n c
section
variable {cx:Cx} {o:Oper} {σ:AS}
theorem zkf {op:BinOp}{T t2 sz e eb z:Nat}{x y:Operand}{i:TyI}{l:List AV}(hop:op=.eql\/op=.neq)(ho:o.op=.binOp op T x y t2)(hd:dok cx o=true)(hxo:A1 x=true)(hyo:A1 y=true)(hx:σ.eval x=nlA sz l)(hy:σ.eval y=.nils)(hT:lkT cx.E.tab T=some i)(hs:i.shape=.slc e z eb) :
  A7 cx o σ (.bool (match op with|.eql=>l.isEmpty|_=>!l.isEmpty)) [] [] :=
 Ar hd fun τ γ ac w h1 _ hst=>by
  have e1:=hst.ev x hxo
  rw [h1 x (by simp [ho,Op.operands]),hx] at e1
  have e2:=hst.ev y hyo
  rw [h1 y (by simp [ho,Op.operands]),hy] at e2
  have e2:=e2.nils_inv
  obtain ⟨hu,_⟩:=C7 (cx.E.ok T i hT) hs
  cases l with
  |nil =>
   have e1:=Rep.nils_inv (show Rep w (Sg cx.S0 cx.w0.heap.size γ) γ .nils _ from e1)
   have hrun:=zid (w:=w) hu none 0 0
   rcases hop with rfl|rfl
   ·exact ⟨.bool true,by simp [execOp,ho,e1,e2,Sem.run_bind,eqGuard,binOp,hrun,Result.andThen,pure],.bool _⟩
   ·exact ⟨.bool false,by simp [execOp,ho,e1,e2,Sem.run_bind,eqGuard,binOp,hrun,Result.andThen,pure],.bool _⟩
  |cons a r =>
   obtain ⟨A,c,hv,_,_,cell,hb,_⟩:=Rep.sl_inv (show Rep w (Sg cx.S0 cx.w0.heap.size γ) γ (.sl sz (a::r)) _ from e1)
   obtain ⟨b,off,hA,_⟩:=hb (by simp)
   subst hA
   generalize (a::r).length=n at hv
   have hrun:=zid (w:=w) hu (some ⟨b,off,none⟩) n c
   rcases hop with rfl|rfl
   ·exact ⟨.bool false,by simp [execOp,ho,hv,e2,Sem.run_bind,eqGuard,binOp,hrun,Result.andThen,pure],.bool _⟩
   ·exact ⟨.bool true,by simp [execOp,ho,hv,e2,Sem.run_bind,eqGuard,binOp,hrun,Result.andThen,pure],.bool _⟩
def delK (r:Option Nat)(ps:List (AV×AV)):List (AV×AV):=match r with|some j=>ps.eraseIdx j|none=>ps
variable {ts:Array TypeId}{ps:List (AV×AV)}
theorem zdd {S:Nat->Prop}{kt et u:TypeId}{k:AV}{vk:Value}{g:Nat}{r:Option Nat}(hts:ts[0]? = some T)(hT:P.underlying T=some (.map kt et))(ht:B6 P kt k=true)(hk:Rep w S G0 k vk)(hm:Ch w S g ps)
  (hf:B7 k (ps.map (·.1)) 0=some r) (hg:¬S g):∃ ob,(Builtin.delete_ ts u #[.map (some g),vk]).run P w=.ok (.tuple #[]) { w with heap:=w.heap.setIfInBounds g ob }/\Ch { w with heap:=w.heap.setIfInBounds g ob } S g (delK r ps):=by
 obtain ⟨es,clock,hb,hl,hbn,he⟩:=hm
 have hlt:g<w.heap.size:=by
  rcases Nat.lt_or_ge g w.heap.size with h|h
  ·exact h
  ·rw [Array.getElem?_eq_none h] at hb;cases hb
 obtain ⟨f1,f2⟩:=Sq ht hk es.toList ps r (by simpa using hl) he hf
 have mv:∀ (ob:Obj) {a:AV} {v:Value},Rep w S G0 a v->Rep { w with heap:=w.heap.setIfInBounds g ob } S G0 a v:=fun ob a v h =>
  h.mono (by simp) (fun b hS hb=>⟨by
   have:b≠g:=fun e=>hg (e▸hS)
   simp [aA,Ne.symm this],hS⟩)
 cases r with
 |none =>
  refine ⟨.map es clock,?_,es,clock,by simp [aA,hlt],by simpa [delK] using hl,hbn,fun j h h'=>⟨mv _ (he j h h').1,mv _ (he j h h').2⟩⟩
  simp [Builtin.delete_,hts,run_underlying hT,MapKept.run_getObj_map hb,K6 _ ht hk,f1,MapKept.run_setObj_map _ hb,Result.andThen,pure]
 |some j =>
  have hj:=f2 j rfl
  have hje:j<es.size:=by simpa using hj
  have htl:(es.eraseIdxIfInBounds j).toList=es.toList.eraseIdx j:=by simp
  refine ⟨.map (es.eraseIdxIfInBounds j) clock,?_,es.eraseIdxIfInBounds j,clock,by simp [aA,hlt],?_,⟨?_,fun e h=>hbn.2 e ?_⟩,fun i h h'=>?_⟩
  ·simp [Builtin.delete_,hts,run_underlying hT,MapKept.run_getObj_map hb,K6 _ ht hk,f1,MapKept.run_setObj_map _ hb,Result.andThen,pure]
  ·have h1:(es.eraseIdxIfInBounds j).size=(es.eraseIdxIfInBounds j).toList.length:=(aF).symm
   rw [h1,htl]
   simp only [delK,List.length_eraseIdx,aF]
   rw [hl]
  ·rw [htl]
   exact List.Nodup.sublist ((List.eraseIdx_sublist _ _).map _) hbn.1
  ·rw [htl] at h
   exact mem_of_mem_eraseIdx h
  ·simp only [htl,delK] at h h' ⊢
   rw [aJ,aJ]
   split
   ·exact ⟨mv _ (he i _ _).1,mv _ (he i _ _).2⟩
   ·exact ⟨mv _ (he (i+1) _ _).1,mv _ (he (i+1) _ _).2⟩
theorem zgh {T kt et id:Nat}{x y:Operand}{i:TyI}{k:AV}{ps':List (AV×AV)}{r:Option Nat}(ho:o.op=.call { callee:=.builtin .delete,args:=#[x,y],argTypes:=ts })(hts:ts[0]? = some T)(hd:dok cx o=true)(hxo:A1 x=true)(hyo:A1 y=true)(hx:σ.eval x=.row id)(hy:σ.eval y=k)(hl:σ.find id=some (.mp ps))
  (hT:lkT cx.E.tab T=some i) (hs:i.shape=.map kt et) (hk:B6 cx.P kt k=true) (hf:B7 k (ps.map (·.1)) 0=some r) (hps:delK r ps=ps'):A7 cx o σ (.tup []) [id] [(id,.mp ps')]:=by
 refine ⟨fun id e he=>Cb he,fun τ h1 h2 a w Q K ⟨γ,hst⟩ hK=>Bn (fun c hc=>by rw [ho] at hc;cases hc) ?_⟩
 have ex:=hst.ev x hxo
 rw [h1 x (by simp [ho,Op.operands,Call.operands]),hx] at ex
 have ey:=hst.ev y hyo
 rw [h1 y (by simp [ho,Op.operands,Call.operands]),hy] at ey
 obtain ⟨g,hg,hv,hm⟩:=My hst (by rw [h2 id (by simp)];exact hl) ex
 have hgo:own γ g:=own.mk hg
 have hgl:=hst.ge g hgo
 have hns:∀ b,Sg cx.S0 cx.w0.heap.size γ b->b≠g:=fun b hS e=>by
  subst e
  rcases hS with ⟨_,h⟩|⟨_,h⟩
  ·have:=hgl.1.1;omega
  ·exact h hgo
 obtain ⟨ob,hrun,hm'⟩:=zdd (u:=o.type) hts (Eu (cx.E.ok T i hT) hs) hk (ey.flat (Mg hk)) hm hf (fun hS=>hns g hS rfl)
 have hex:(execOp a.eval o).run cx.P w=.ok (.value (.tuple #[])) { w with heap:=w.heap.setIfInBounds g ob }:=by
  simp [execOp,ho,resolve,invoke,builtin,hv,hrun,Result.andThen,pure]
 unfold Oper.wp
 rw [hex]
 have hoth:∀ k,k≠g->({ w with heap:=w.heap.setIfInBounds g ob }:World).heap[k]? = w.heap[k]? := fun k hk=>by simp [aA,Ne.symm hk]
 have hz':w.heap.size<=({ w with heap:=w.heap.setIfInBounds g ob }:World).heap.size:=by simp
 have hdr:w.drawn<=({ w with heap:=w.heap.setIfInBounds g ob }:World).drawn:=aE _
 have hbel:Below cx.w0.heap.size w ({ w with heap:=w.heap.setIfInBounds g ob }:World):=⟨rfl,rfl,rfl,hz',fun k hk=>hoth k (by have:=hgl.1.1;omega)⟩
 generalize ({ w with heap:=w.heap.setIfInBounds g ob }:World)=w' at *
 refine hK _ _ ⟨γ,hst.step (Bh hd) hz' (fun b hS hlt=>⟨hoth b (hns b hS),hS⟩) (fun id d h=>Or.inl h) (fun id' hid'=>⟨rfl,fun g' s hg' hmb=>hoth g' ?_⟩) (fun id' e' he'=>?_) hst.inj (fun b hbo=>⟨(hst.ge b hbo).1,Nat.lt_of_lt_of_le (hst.ge b hbo).2 hz'⟩) (hst.below.trans hbel) (.tup #[] rfl (fun j hj=>absurd hj (by simp))) (fun b hno hlt=>⟨hoth b (fun e=>hno (e▸hgo)),hno⟩) (fun _=>hdr)⟩
 ·rintro rfl
  have:=hst.inj _ _ _ _ _ hg' hg hmb Bc
  subst this
  simp [lkE] at hid'
 ·have hid:id'=id:=by have:=Cb he';simpa using this
  subst hid
  simp only [lkE,Nat.beq_refl,aB] at he'
  subst he'
  rw [hps] at hm'
  exact ⟨_,hg,g,rfl,hm'⟩
end
variable {κ ν:Type}
def mdl [DecidableEq κ]:List (κ×ν)->κ->List (κ×ν)
 |[],_=>[]
 |(a,v)::r,k=>if k=a then r else (a,v)::mdl r k
def mde {β:Type}[DecidableEq κ](l:List (κ×ν))(k:κ)(c:List (κ×ν)->Option β):Option β:=c (mdl l k)
theorem z8j [DecidableEq κ](ek:κ->AV)(ev:ν->AV)(he:∀ a b,eqK (ek a) (ek b)=some (decide (a=b)))(k:κ):∀ (l:List (κ×ν)) (i:Nat),
  ∃ r,B7 (ek k) ((l.map (encM ek ev)).map (·.1)) i=some r/\(∀ j,r=some j->i<=j)/\delK (r.map (· - i)) (l.map (encM ek ev))=(mdl l k).map (encM ek ev)
 |[],i=>⟨none,rfl,(fun j h=>by cases h),rfl⟩
 |(a,v)::r,i=>by
  simp only [map_cons,encM,B7,he,mdl]
  by_cases hk:k=a
  ·subst hk
   simp only [decide_true]
   exact ⟨some i,rfl,fun j hj=>by injection hj with hj;omega,by simp [delK]⟩
  ·rw [decide_eq_false hk]
   obtain ⟨q,h1,h2,h3⟩:=z8j ek ev he k r (i+1)
   refine ⟨q,h1,fun j hj=>by have:=h2 j hj;omega,?_⟩
   rw [if_neg hk]
   cases q with
   |none=>simpa [delK,encM] using h3
   |some j =>
    have g1:=h2 j rfl
    simp only [Option.map_some,delK] at h3 ⊢
    rw [show j-i=(j-(i+1))+1 by omega,eraseIdx_cons_succ,h3]
    rfl
section
variable {α β κ ν:Type} {E:Env} {nt:Nat} {o:Oper} {σ:AS} {K:OpK}
theorem OpX.mde [DecidableEq κ]{l:List (κ×ν)}{k:κ}{c:List (κ×ν)->Option β}{r:β}{T kt et id:Nat}{ts:Array TypeId}{x y:Operand}{i:TyI}(ek:κ->AV)(ev:ν->AV)(hF:Proofs.YthbogefcfhmpgaaGreat.mde l k c=some r)(heq:∀ a b,eqK (ek a) (ek b)=some (decide (a=b)))(ho:o.op=.call { callee:=.builtin .delete,args:=#[x,y],argTypes:=ts })(hts:ts[0]? = some T)(hd:dokN E nt o.dst=true)(hxo:A1 x=true)(hyo:A1 y=true)(hx:σ.eval x=.row id)(hy:σ.eval y=ek k)
  (hT:lkT E.tab T=some i) (hs:i.shape=.map kt et) (hkf:B6 E.P kt (ek k)=true) (hl:σ.find id=some (.mp (l.map (encM ek ev)))) (hk:∀ l',c l'=some r->K (.tup []) [id] [(id,.mp (l'.map (encM ek ev)))]):OpX E nt o σ K:=by
 obtain ⟨q,h1,_,h3⟩:=z8j ek ev heq k l 0
 refine .mk _ _ _ (fun cx hE hnt=>zgh ho hts (A9 hd hE hnt) hxo hyo hx hy hl (by rw [hE];exact hT) hs (by rw [show cx.P=E.P by rw [<-hE]];exact hkf) h1 ?_) (hk _ hF)
 rw [<-h3]
 cases q<;>rfl
theorem OpX.nlq {op:BinOp}{T t2 sz e eb z:Nat}{x y:Operand}{i:TyI}{l:List AV}(hop:op=.eql\/op=.neq)(ho:o.op=.binOp op T x y t2)(hd:dokN E nt o.dst=true)(hxo:A1 x=true)(hyo:A1 y=true)(hx:σ.eval x=nlA sz l)(hy:σ.eval y=.nils)(hT:lkT E.tab T=some i)(hs:i.shape=.slc e z eb)
  (hk:K (.bool (match op with|.eql=>l.isEmpty|_=>!l.isEmpty)) [] []):OpX E nt o σ K :=
 .mk _ _ _ (fun cx hE hnt=>zkf hop ho (A9 hd hE hnt) hxo hyo hx hy (by rw [hE];exact hT) hs) hk
end
theorem Tl (ids:List Nat)(sz:Nat)(l:List AV):(nlA sz l).inM ids=true:=by cases l<;>rfl
def nlw {β:Type}(t:Nat)(x:Option β):Option β:=x
theorem K1 {β:Type}(t:Nat)(x:Option β):nlw t x=x:=rfl
def nlz {α β:Type}(l:List α)(x:Option β):Option β:=match l with|[]=>none|_::_=>x
inductive FX (E:Env) (nt:Nat) (fn:Func) (σ:AS) (ps:List (AV×AV)):Prop
 |mk (τ:AS) (i:Nat) {ps0:List (AV×AV)} (hl:LeX E nt σ τ) (h1:retA E.tab τ fn.results.toList=some [.row i]) (h2:τ.find i=some (.mp ps0)) (hf:∀ p∈ps0,p.1.flat=true/\p.2.flat=true) (hp:Dw ps0 ps)
def EndF (E:Env)(nt:Nat)(fn:Func)(ps:List (AV×AV)):Exit->AS->Prop
 |.normal,σ=>FX E nt fn σ ps
 |.ret,σ=>FX E nt fn σ ps
 |_,_=>False
theorem FX.o {β:Type}{E:Env}{nt:Nat}{fn:Func}{σ:AS}{a r:β}{en:β->List (AV×AV)}(h:some a=some r)(hk:FX E nt fn σ (en a)):FX E nt fn σ (en r):=by injection h with h;subst h;exact hk
theorem zfj {ek:κ->AV}{ev:ν->AV}(hk:∀ a,(ek a).flat=true)(hv:∀ a,(ev a).flat=true){l:List (κ×ν)}:∀ p∈l.map (encM ek ev),p.1.flat=true/\p.2.flat=true:=fun p hp=>by
 obtain ⟨q,_,rfl⟩:=mem_map.1 hp
 exact ⟨hk _,hv _⟩
variable {ps:List (AV×AV)}
theorem ConF.walk {E:Env}{f:FuncId}{fn:Func}{args:List AV}(c:Code)(hf:E.P.funcs[f]? = some fn)(hb:fn.body=some c)(he:Bx E f)(hn:Nat.ble args.length fn.ntmps=true)
  (h:AW E fn.ntmps (EndF E fn.ntmps fn ps) [.code c] .normal (Dq args)) (hrg:E.rg=false:=by rfl) (hyl:E.yl=none:=by rfl) (hnp:E.np=0:=by rfl)(hrg:E.rg=false:=by rfl) (hyl:E.yl=none:=by rfl) (hnp:E.np=0:=by rfl):Con E true f args (.mapv ps):=by
 refine ⟨he,fun S w vs ha=>callsIn_wide.1 (callsIn_of_wp (F:=Fence.wide) (n:=0) hf hb trivial ?_)⟩
 have h0:WP (Cx.call E S w fn.ntmps) c (EndF E fn.ntmps fn ps) (Dq args):=WP.mono (h.out (Cx.call E S w fn.ntmps) rfl rfl) fun e σ hk=>by cases e<;>exact hk
 refine wpIn_mono (h0 _ _ (Tb hyl hnp ha (Nat.le_of_ble_eq_true hn))) (fun e a w' ⟨σ,hq,hst0⟩=>?_)
 have key:FX E fn.ntmps fn σ ps->bodyPost E.P fn (fun e w'=>∃ v,e=.returned v/\BelE E w w'/\Rep w' (fun b=>(true=false/\S b)\/w.heap.size<=b) G0 (.mapv ps) v) .ret a w':=by
  rintro ⟨τ,i,hl,h1,h2,hfl,hp⟩
  obtain ⟨γ,hst⟩:=hl (Cx.call E S w fn.ntmps) rfl rfl a w' hst0
  obtain ⟨v,hv,hr⟩:=Po hst h1
  obtain ⟨g,hg,hvg,es,clock,e2,e3,e4,e5⟩:=My hst h2 hr
  subst hvg
  refine ⟨hst.defers.d0 hrg,_,hv,_,rfl,⟨hst.below,hst.dr⟩,?_⟩
  have hgl:=hst.ge g (own.mk hg)
  exact .mapv _ hp g es clock e4 (Or.inr hgl.1.1) hgl.2 e2 e3 (fun j q q'=>(e5 j q q').1.flat (hfl _ (getElem_mem q')).1) (fun j q q'=>(e5 j q q').2.flat (hfl _ (getElem_mem q')).2)
 cases e with
 |normal=>exact key hq
 |ret=>exact key hq
 |_=>exact hq.elim
section
variable {cx:Cx} {o:Oper} {σ:AS}
theorem zd1 {T kt et:Nat}{x:Operand}{i:TyI}(ho:o.op=.call { callee:=.builtin .len,args:=#[x],argTypes:=#[T] })(hd:dok cx o=true)(hxo:A1 x=true)(hx:σ.eval x=.mapv ps)(hT:lkT cx.E.tab T=some i)(hs:i.shape=.map kt et):A7 cx o σ (.int .i64 (ps.length:Int)) [] [] :=
 Ar hd fun τ γ a w h1 h2 hst=>by
  have ex:=hst.ev x hxo
  rw [h1 x (by simp [ho,Op.operands,Call.operands]),hx] at ex
  refine ⟨.int .i64 (ps.length:Int),?_,.int _ _⟩
  rcases mapv_val ex with ⟨g,ps0,hv,_,_,⟨es,clock,hb,hl',_⟩,hp⟩|⟨hv,he0⟩
  ·have hlen:ps0.length=ps.length:=by
    rcases hp with hp|hp
    ·rw [hp]
    ·exact hp.1.length_eq
   rw [<-hlen,<-hl']
   simp [execOp,ho,resolve,invoke,builtin,Builtin.len_,hv,run_underlying (Eu (cx.E.ok T i hT) hs),MapKept.run_getObj_map hb,goInt,pure,Result.andThen]
  ·subst he0
   simp [execOp,ho,resolve,invoke,builtin,Builtin.len_,hv,run_underlying (Eu (cx.E.ok T i hT) hs),goInt,pure,Result.andThen]
end
theorem OpX.lnv {E:Env}{nt:Nat}{o:Oper}{σ:AS}{K:OpK}{T kt et:Nat}{x:Operand}{i:TyI}(ho:o.op=.call { callee:=.builtin .len,args:=#[x],argTypes:=#[T] })(hd:dokN E nt o.dst=true)(hxo:A1 x=true)(hx:σ.eval x=.mapv ps)(hT:lkT E.tab T=some i)(hs:i.shape=.map kt et)(hk:K (.int .i64 (ps.length:Int)) [] []):OpX E nt o σ K :=
 .mk _ _ _ (fun cx hE hnt=>zd1 ho (A9 hd hE hnt) hxo hx (by rw [hE];exact hT) hs) hk
theorem zmd {α β:Type}{l:List α}{x:Option β}{r:β}{P:Prop}(h:nlz l x=some r)(k:∀ a t,l=a::t->x=some r->P):P:=by
 unfold nlz at h
 split at h
 ·cases h
 ·exact k _ _ rfl h
attribute [irreducible] fro mde nlw nlz
end Go.Proofs.YthbogefcfhmpgaaGreat
