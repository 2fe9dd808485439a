/- The abstract walk, eleventh part. -/
import Derived.Test.YthbogefcfhmpgaaGreatK03
set_option linter.unusedVariables false
set_option linter.unusedSimpArgs false
namespace Go.Proofs.YthbogefcfhmpgaaGreat
open Go.RowKit List
open Nat renaming eq_of_beq_eq_true->aA,le_refl->aB,mul_le_mul_right->aD,beq->aJ,lt_of_lt_of_le->aQ,succ_mul->aR,le_trans->aS,beq_refl->aW
open _root_.Array renaming getD_eq_getD_getElem?->aC,replicate->aN
open List renaming getElem?_eq_getElem->aE,getD_eq_getElem?_getD->aH,getElem?_take_of_lt->aM,getElem?_append_right->aO,getElem?_append_left->aP,getElem?_eq_none->aT,getElem_set->aU
open Option.some renaming injEq->aF
open Option renaming map_eq_some_iff->aG
open Or renaming inl->aK,inr->aL
mutual
def AV.ren (ρ:Nat->Nat):AV->AV
 |.ptr id off=>.ptr (ρ id) off
 |.row id=>.row (ρ id)
 |.elt id sz k j=>.elt (ρ id) sz k j
 |.der φ id=>.der φ (ρ id)
 |.cont n id=>.cont n (ρ id)
 |.fn f cap=>.fn f (AV.renL ρ cap)
 |.yld l T cap=>.yld l T (AV.renL ρ cap)
 |.agg cs=>.agg (AV.renL ρ cs)
 |.tup cs=>.tup (AV.renL ρ cs)
 |x=>x
def AV.renL (ρ:Nat->Nat):List AV->List AV
 |[]=>[]
 |x::r=>x.ren ρ::AV.renL ρ r
end
mutual
def AV.inM (ids:List Nat):AV->Bool
 |.ptr id _=>memB id ids
 |.row id=>memB id ids
 |.elt id _ _ _=>memB id ids
 |.der _ id=>memB id ids
 |.cont _ id=>memB id ids
 |.fn _ cap=>AV.inML ids cap
 |.yld _ _ cap=>AV.inML ids cap
 |.agg cs=>AV.inML ids cs
 |.tup cs=>AV.inML ids cs
 |_=>true
def AV.inML (ids:List Nat):List AV->Bool
 |[]=>true
 |x::r=>x.inM ids && AV.inML ids r
end
theorem AV.renL_length (ρ:Nat->Nat)(l:List AV):(AV.renL ρ l).length=l.length:=by
 induction l with
 |nil=>rfl
 |cons x r ih=>simp [AV.renL,ih]
theorem AV.renL_at (ρ:Nat->Nat)(l:List AV)(i:Nat)(hi:i<l.length):(AV.renL ρ l)[i]'(by rw [AV.renL_length];exact hi)=l[i].ren ρ:=by
 induction l generalizing i with
 |nil=>simp at hi
 |cons x r ih =>
  cases i with
  |zero=>rfl
  |succ i=>exact ih i (by simpa using hi)
variable {ids:List Nat}
theorem AV.inML_at {l:List AV}(h:AV.inML ids l=true)(i:Nat)(hi:i<l.length):l[i].inM ids=true:=by
 induction l generalizing i with
 |nil=>simp at hi
 |cons x r ih =>
  simp only [AV.inML,Bool.and_eq_true] at h
  cases i with
  |zero=>exact h.1
  |succ i=>exact ih h.2 i (by simpa using hi)
variable {w:World}{S:Nat->Prop}{γ γ':Gam}{ρ:Nat->Nat}{v:Value}
theorem Rep.ren (hγ:∀ id,id∈ids->γ' id=γ (ρ id)){av':AV}(h:Rep w S γ av' v):∀ av:AV,av'=av.ren ρ->av.inM ids=true->Rep w S γ' av v:=by
 induction h with
 |any=>intro av he hi;cases av<;>simp [AV.ren] at he;exact .any _
 |int=>intro av he hi;cases av<;>simp [AV.ren] at he;obtain ⟨rfl,rfl⟩:=he;exact .int _ _
 |bool=>intro av he hi;cases av<;>simp [AV.ren] at he;subst he;exact .bool _
 |str=>intro av he hi;cases av<;>simp [AV.ren] at he;subst he;exact .str _
 |nilp=>intro av he hi;cases av<;>simp [AV.ren] at he;exact .nilp
 |nils=>intro av he hi;cases av<;>simp [AV.ren] at he;exact .nils
 |nilf=>intro av he hi;cases av<;>simp [AV.ren] at he;exact .nilf
 |ptr h hv =>
  intro av he hi
  cases av<;>simp [AV.ren] at he
  obtain ⟨rfl,rfl⟩:=he
  exact .ptr ((hγ _ ((Dc _ _).1 hi)).trans h) hv
 |elt h hv =>
  intro av he hi
  cases av<;>simp [AV.ren] at he
  obtain ⟨rfl,rfl,rfl,rfl⟩:=he
  exact .elt ((hγ _ ((Dc _ _).1 hi)).trans h) hv
 |row h hv =>
  intro av he hi
  cases av<;>simp [AV.ren] at he
  subst he
  exact .row ((hγ _ ((Dc _ _).1 hi)).trans h) hv
 |der h hv =>
  intro av he hi
  cases av<;>simp [AV.ren] at he
  obtain ⟨rfl,rfl⟩:=he
  exact .der ((hγ _ ((Dc _ _).1 hi)).trans h) hv
 |cont h hv hl =>
  intro av he hi
  cases av<;>simp [AV.ren] at he
  obtain ⟨rfl,rfl⟩:=he
  exact .cont ((hγ _ ((Dc _ _).1 hi)).trans h) hv hl
 |mapv ps0 hp g es clock hb hS hg hh hl hk hv ih1 ih2=>intro av he hi;cases av<;>simp [AV.ren] at he;subst he;exact .mapv ps0 hp g es clock hb hS hg hh hl hk hv
 |mapn=>intro av he hi;cases av<;>simp [AV.ren] at he;subst he;exact .mapn
 |slen A n c=>intro av he hi;cases av<;>simp [AV.ren] at he;subst he;exact .slen A _ c
 |sl A c cell hc hlen hb hr h1 ih=>intro av he hi;cases av<;>simp [AV.ren] at he;obtain ⟨rfl,rfl⟩:=he;exact .sl A c cell hc hlen hb hr h1
 |ref b off cell hS hb hc hr h1 ih=>intro av he hi;cases av<;>simp [AV.ren] at he;subst he;exact .ref b off cell hS hb hc hr h1
 |fn vs hl hr ih =>
  intro av he hi
  cases av<;>simp [AV.ren] at he
  obtain ⟨rfl,rfl⟩:=he
  simp only [AV.inM] at hi
  exact .fn vs (by rw [hl,AV.renL_length]) (fun i hi'=>ih i (by rw [AV.renL_length];exact hi') hγ _ (AV.renL_at _ _ _ _) (AV.inML_at hi i hi'))
 |yld hr ih =>
  intro av he hi
  cases av<;>simp [AV.ren] at he
  obtain ⟨rfl,rfl,rfl⟩:=he
  simp only [AV.inM] at hi
  exact .yld (fun i hi'=>ih i (by rw [AV.renL_length];exact hi') hγ _ (AV.renL_at _ _ _ _) (AV.inML_at hi i hi'))
 |agg vs hl hr h1 ih =>
  intro av he hi
  cases av<;>simp [AV.ren] at he
  subst he
  simp only [AV.inM] at hi
  exact .agg vs (by rw [hl,AV.renL_length]) (fun i hi'=>ih i (by rw [AV.renL_length];exact hi') hγ _ (AV.renL_at _ _ _ _) (AV.inML_at hi i hi')) h1
 |tup vs hl hr ih =>
  intro av he hi
  cases av<;>simp [AV.ren] at he
  subst he
  simp only [AV.inM] at hi
  exact .tup vs (by rw [hl,AV.renL_length]) (fun i hi'=>ih i (by rw [AV.renL_length];exact hi') hγ _ (AV.renL_at _ _ _ _) (AV.inML_at hi i hi'))
def rho:List (Nat×Nat)->Nat->Nat
 |[],i=>i
 |(a,b)::r,i=>match aJ a i with|true=>b|false=>rho r i
def Ent.renI (ρ:Nat->Nat):Ent->Ent
 |.box ty cs=>.box ty (AV.renL ρ cs)
 |e=>e
def Ent.inM (ids:List Nat):Ent->Bool
 |.box _ cs=>AV.inML ids cs
 |_=>true
def LeV (σ:AS)(ρ:Nat->Nat)(ids:List Nat):List (Nat×AV)->Prop
 |[]=>True
 |(t,av)::r=>(σ.get t=av.ren ρ/\av.inM ids=true)/\LeV σ ρ ids r
def LeE (σ:AS)(ρ:Nat->Nat)(ids:List Nat):List (Nat×Ent)->Prop
 |[]=>True
 |(i,e)::r=>(σ.find (ρ i)=some (e.renI ρ)/\e.inM ids=true)/\LeE σ ρ ids r
def injB (ρ:Nat->Nat)(ids:List Nat):Bool:=ids.all fun i=>ids.all fun j=>!(aJ (ρ i) (ρ j)) || aJ i j
variable {σ:AS}
theorem LeV.get {l:List (Nat×AV)}(h:LeV σ ρ ids l)(t:Nat):lkV l t=.any\/(σ.get t=(lkV l t).ren ρ/\(lkV l t).inM ids=true):=by
 induction l with
 |nil=>exact aK rfl
 |cons x r ih =>
  obtain ⟨u,av⟩:=x
  simp only [LeV] at h
  simp only [lkV]
  cases hb:aJ u t with
  |true=>have:=aA hb;subst this;exact aL h.1
  |false=>exact ih h.2
variable {l:List (Nat×Ent)}
theorem LeE.get (h:LeE σ ρ ids l)(i:Nat):lkE l i=none\/∃ e,lkE l i=some e/\σ.find (ρ i)=some (e.renI ρ)/\e.inM ids=true:=by
 induction l with
 |nil=>exact aK rfl
 |cons x r ih =>
  obtain ⟨u,e⟩:=x
  simp only [LeE] at h
  simp only [lkE]
  cases hb:aJ u i with
  |true=>have:=aA hb;subst this;exact aL ⟨e,rfl,h.1⟩
  |false=>exact ih h.2
theorem Ny {i:Nat}:lkE l i≠none ↔ i∈l.map (·.1):=by
 constructor
 ·exact Yk
 ·intro h
  induction l with
  |nil=>simp at h
  |cons x r ih =>
   obtain ⟨u,e⟩:=x
   simp only [lkE]
   cases hb:aJ u i with
   |true=>simp
   |false =>
    simp only [map_cons,mem_cons] at h
    rcases h with h|h
    ·subst h;simp at hb
    ·exact ih h
variable {S':Nat->Prop}{d:Option (Option Nat×Value)}{ty:TypeId}
theorem B6.nest_mono {B:Nat}{es:List NE}(h:B6 w S γ B d (.nest ty es))(hS:∀ b,S b->S' b):B6 w S' γ' B d (.nest ty es):=by
 obtain ⟨s,vs,hd,h1,hsz,hu,hn,hnd⟩:=h
 exact ⟨s,vs,hd,h1,hsz,hu,fun k hk=>(hn k hk).moved (aB _) (fun b hb _=>⟨rfl,hS b hb⟩) (fun _ _=>rfl),hnd⟩
theorem B6.mpn_mono {B:Nat}{ps:List (AV×NE)}(h:B6 w S γ B d (.mpn ps))(hS:∀ b,S b->S' b):B6 w S' γ' B d (.mpn ps):=by
 obtain ⟨g,es,vs,hd,hh,hl,hsz,hbn,hkk,hvv,hn,hnd⟩:=h
 exact ⟨g,es,vs,hd,hh,hl,hsz,hbn,fun j h h'=>(hkk j h h').mono (aB _) (fun b hb _=>⟨rfl,hS b hb⟩),hvv,fun k hk=>(hn k hk).moved (aB _) (fun b hb _=>⟨rfl,hS b hb⟩) (fun _ _=>rfl),hnd⟩
theorem Le.of {cx:Cx}{τ:AS}(ps:List (Nat×Nat))(hinj:injB (rho ps) (τ.me.map (·.1))=true)(h1:LeV σ (rho ps) (τ.me.map (·.1)) τ.tm)(h2:LeE σ (rho ps) (τ.me.map (·.1)) τ.me):Le cx σ τ:=fun a w ⟨γ,h⟩=>by
 generalize hids:τ.me.map (·.1)=ids at *
 generalize rho ps=ρ at *
 have hmem:∀ i,lkE τ.me i≠none ↔ i∈ids:=fun i=>by rw [Ny,hids]
 let γ':Gam:=fun i=>if i∈ids then γ (ρ i) else none
 have hγ':∀ i,i∈ids->γ' i=γ (ρ i):=fun i hi=>if_pos hi
 have hown:∀ b,own γ' b->own γ b:=fun b ⟨i,s,hi,hb⟩=>by
  by_cases hm:i∈ids
  ·rw [hγ' i hm] at hi;exact ⟨_,s,hi,hb⟩
  ·rw [show γ' i=none from if_neg hm] at hi;cases hi
 have hS:∀ b,Sg cx.S0 cx.w0.heap.size γ b->Sg cx.S0 cx.w0.heap.size γ' b:=fun b hb=>hb.elim aK (fun ⟨h1,h2⟩=>aL ⟨h1,fun ho=>h2 (hown b ho)⟩)
 have hmv:∀ {g:Gam} {av v},Rep w (Sg cx.S0 cx.w0.heap.size γ) g av v->Rep w (Sg cx.S0 cx.w0.heap.size γ') g av v:=fun h=>h.mono (aB _) (fun b hb _=>⟨rfl,hS b hb⟩)
 refine ⟨γ',fun t=>?_,fun i=>?_,fun i j b s s' hi hj mi mj=>?_,fun b hb=>h.ge b (hown b hb),h.below,h.size,h.defers.gam hown,h.gh,fun b hb=>by obtain ⟨f2,f3,f4⟩:=h.fr b hb;exact ⟨fun ho=>f2 (hown b ho),f3,f4⟩,h.dr⟩
 ·rcases h1.get t with ha|⟨ha,hm⟩
  ·unfold AS.get;rw [ha];exact .any _
  ·have:=h.tm t
   rw [ha] at this
   exact hmv (this.ren hγ' _ rfl hm)
 ·rcases h2.get i with ha|⟨e,ha,hf,hm⟩
  ·unfold AS.find
   rw [ha]
   have:i ∉ ids:=fun hi=>(hmem i).2 hi ha
   exact if_neg this
  ·unfold AS.find
   rw [ha]
   have hi:i∈ids:=(hmem i).1 (by rw [ha];simp)
   rw [hγ' i hi]
   have:=h.me (ρ i)
   rw [hf] at this
   obtain ⟨x,hx,he⟩:=this
   refine ⟨x,hx,?_⟩
   cases e with
   |box ty cs =>
    obtain ⟨g,vs,hd,hb,hsz,hr,hone⟩:=he
    simp only [Ent.inM] at hm
    refine ⟨g,vs,hd,hb,by rw [hsz,AV.renL_length],fun k hk=>hmv ((hr k (by rw [AV.renL_length];exact hk)).ren hγ' _ (AV.renL_at _ _ _ _) (AV.inML_at hm k hk)),hone⟩
   |row ty sz xs =>
    obtain ⟨s,vs,hd,h1,hown,hlen,hr,hone⟩:=he
    exact ⟨s,vs,hd,h1,hown,hlen,fun k hk j hj=>hmv (hr k hk j hj),hone⟩
   |mp ps =>
    obtain ⟨g,hd,hm⟩:=he
    exact ⟨g,hd,hm.move (aB _) (fun b hb _=>⟨rfl,hS b hb⟩) rfl⟩
   |nest ty es=>exact B6.nest_mono he hS
   |mpn ps=>exact B6.mpn_mono he hS
   |are ty idx os=>exact he.gmono (fun _ _ h=>by cases h) hS
   |it ps=>exact he.gmono (fun _ _ h=>by cases h) hS
   |itp ps=>exact he.gmono (fun _ _ h=>by cases h) hS
   |itc p ps=>exact he.gmono (fun _ _ h=>by cases h) hS
   |dead=>exact he
 ·by_cases h1:i∈ids
  ·by_cases h2:j∈ids
   ·rw [hγ' i h1] at hi
    rw [hγ' j h2] at hj
    have e:=h.inj _ _ _ _ _ hi hj mi mj
    simp only [injB,all_eq_true,Bool.or_eq_true,Bool.not_eq_true'] at hinj
    rcases hinj i h1 j h2 with h3|h3
    ·rw [e] at h3;simp at h3
    ·exact aA h3
   ·rw [show γ' j=none from if_neg h2] at hj;cases hj
  ·rw [show γ' i=none from if_neg h1] at hi;cases hi
def Vc (σ:AS):AV->AV
 |.tup cs=>.tup (cs.map (Oc σ))
 |x=>Oc σ x
def retA (tab:List (Nat×TyI))(σ:AS):List ResultVar->Option (List AV)
 |[]=>some []
 |.tmp t::r=>(retA tab σ r).map (σ.get t::·)
 |.cell t T::r=>match σ.get t,lkT tab T with
  |.ptr id off,some i=>match σ.find id with
   |some (.box _ cs)=>match i.shape.agg with
    |true=>match Nat.ble (off+i.sz) cs.length with
     |true=>(retA tab σ r).map (.agg ((cs.drop off).take i.sz)::·)
     |false=>none
    |false=>match cs[off]? with
     |some av=>(retA tab σ r).map (av::·)
     |none=>none
   |_=>none
  |_,_=>none
def Oe:List AV->AV
 |[x]=>x
 |xs=>.tup xs
section
variable {cx:Cx} {γ:Gam} {σ:AS} {a:Act} {w:World}
theorem ziz {id off T:Nat}{i:TyI}{cs:List AV}(hst:StG cx γ σ a w)(hv:Rep w (Sg cx.S0 cx.w0.heap.size γ) γ (.ptr id off) v)(hT:lkT cx.E.tab T=some i)(ha:i.shape.agg=true)(hl:σ.find id=some (.box ty cs))(hn:off+i.sz<=cs.length) :
  ∃ u,((do loadVar T (<-asAddr v)):Sem Value).run cx.P w=.ok u w/\Rep w (Sg cx.S0 cx.w0.heap.size γ) γ (.agg ((cs.drop off).take i.sz)) u:=by
 have hme:=hst.me id
 rw [hl] at hme
 obtain ⟨d,hd',g,vs,hde,hb,hsz,hr,hone⟩:=hme
 subst hde
 have e:=hv.ptr_inv hd'
 subst e
 have hlen:((range i.sz).map fun j=>vs.getD (off+j) undef).length=i.sz:=by simp
 have hrun:=Ua (cx.E.ok T i hT) ha w ⟨g,off,none⟩ ((range i.sz).map fun j=>vs.getD (off+j) undef) hlen (fun j v hj=>by
  obtain ⟨hj1,hj2⟩:=List.getElem?_eq_some_iff.1 hj
  rw [hlen] at hj1
  simp only [getElem_map,getElem_range] at hj2
  rw [Addr.add_lit,Nu hb _ (by omega),hj2])
 refine ⟨.agg ((range i.sz).map fun j=>vs.getD (off+j) undef).toArray,by simp only [asAddr,Sem.run_bind,Sem.run_pure,Result.andThen_ok,hrun],.agg _ (by simp;omega) (fun j hj=>?_) (fun j hj=>?_)⟩
 ·rw [length_take,length_drop] at hj
  simp only [getElem_take,getElem_drop]
  have:((range i.sz).map fun j=>vs.getD (off+j) undef).toArray.getD j undef=vs.getD (off+j) undef:=by
   have hj':j<i.sz:=by omega
   simp [hj']
  rw [this]
  exact hr (off+j) (by omega)
 ·have hj':j<i.sz:=by simpa using hj
  have:((range i.sz).map fun j=>vs.getD (off+j) undef).toArray.getD j undef=vs.getD (off+j) undef:=by simp [hj']
  rw [this]
  exact hone _ (by omega)
theorem ziy {id off T:Nat}{i:TyI}{cs:List AV}{av:AV}(hst:StG cx γ σ a w)(hv:Rep w (Sg cx.S0 cx.w0.heap.size γ) γ (.ptr id off) v)(hT:lkT cx.E.tab T=some i)(ha:i.shape.agg=false)(hl:σ.find id=some (.box ty cs))(hc:cs[off]? = some av) :
  ∃ u,((do loadVar T (<-asAddr v)):Sem Value).run cx.P w=.ok u w/\Rep w (Sg cx.S0 cx.w0.heap.size γ) γ av u:=by
 have hme:=hst.me id
 rw [hl] at hme
 obtain ⟨d,hd',g,vs,hde,hb,hsz,hr,hone⟩:=hme
 subst hde
 have e:=hv.ptr_inv hd'
 subst e
 obtain ⟨hlt,hc'⟩:=List.getElem?_eq_some_iff.1 hc
 have hrun:=Ra (cx.E.ok T i hT) ha w ⟨g,off,none⟩ (vs.getD off undef) (Nu hb off (by omega))
 refine ⟨vs.getD off undef,by simp only [asAddr,Sem.run_bind,Sem.run_pure,Result.andThen_ok,hrun],?_⟩
 have:=hr off hlt
 rwa [hc'] at this
def Ks (tmps:Array Value):ResultVar->Sem Value
 |.tmp t=>pure (tmps.getD t undef)
 |.cell a t=>do loadVar t (<-asAddr (tmps.getD a undef))
theorem zb7 (hst:StG cx γ σ a w):∀ (l:List ResultVar) (avs:List AV),retA cx.E.tab σ l=some avs ->
  ∃ vs:List Value,(l.mapM (Ks a.tmps)).run cx.P w=.ok vs w/\vs.length=avs.length/\∀ i (hi:i<avs.length),Rep w (Sg cx.S0 cx.w0.heap.size γ) γ avs[i] (vs.getD i undef)
 |[],avs,h=>by
  simp only [retA,aF] at h
  subst h
  exact ⟨[],by simp [pure],rfl,fun i hi=>by simp at hi⟩
 |x::r,avs,h=>by
  have key:∀ (av:AV) (rest:List AV),retA cx.E.tab σ r=some rest->avs=av::rest->(∃ u,(Ks a.tmps x).run cx.P w=.ok u w/\Rep w (Sg cx.S0 cx.w0.heap.size γ) γ av u) ->
    ∃ vs:List Value,((x::r).mapM (Ks a.tmps)).run cx.P w=.ok vs w/\vs.length=avs.length/\∀ i (hi:i<avs.length),Rep w (Sg cx.S0 cx.w0.heap.size γ) γ avs[i] (vs.getD i undef):=by
   rintro av rest hrest rfl ⟨u,hu,hru⟩
   obtain ⟨vs,h1,h2,h3⟩:=zb7 hst r rest hrest
   refine ⟨u::vs,?_,by simp [h2],fun i hi=>?_⟩
   ·rw [mapM_cons]
    simp only [Sem.run_bind,hu,Result.andThen_ok,h1,Sem.run_pure]
   ·cases i with
    |zero=>exact hru
    |succ i=>have:=h3 i (by simpa using hi);simpa using this
  cases x with
  |tmp t =>
   simp only [retA,aG] at h
   obtain ⟨rest,hrest,he⟩:=h
   exact key _ rest hrest he.symm ⟨_,by simp [Ks,pure],hst.tm t⟩
  |cell t T =>
   simp only [retA] at h
   split at h
   ·rename_i id off i hget hT
    split at h
    ·rename_i ty cs hf
     split at h
     ·rename_i hagg
      split at h
      ·rename_i hle
       simp only [aG] at h
       obtain ⟨rest,hrest,he⟩:=h
       have hv:=hst.tm t
       rw [hget] at hv
       exact key _ rest hrest he.symm (ziz hst hv hT hagg hf (Nat.le_of_ble_eq_true hle))
      ·cases h
     ·rename_i hagg
      split at h
      ·rename_i av hav
       simp only [aG] at h
       obtain ⟨rest,hrest,he⟩:=h
       have hv:=hst.tm t
       rw [hget] at hv
       exact key _ rest hrest he.symm (ziy hst hv hT hagg hf hav)
      ·cases h
    ·cases h
   ·cases h
theorem zor (fn:Func)(tmps:Array Value):results fn tmps=(fn.results.mapM (Ks tmps) >>= fun vs=>pure (if h:vs.size=1 then vs[0] else .tuple vs)):=by
 unfold results
 have e:(fun x:ResultVar=>match x with
  |.tmp t=>(pure (tmps.getD t undef):Sem Value)
  |.cell a t=>(do loadVar t (<-asAddr (tmps.getD a undef)):Sem Value))=Ks tmps:=by funext x;cases x<;>rfl
 rw [<-e]
 rfl
theorem Uk (hst:StG cx γ σ a w){fn:Func}{avs:List AV}(h:retA cx.E.tab σ fn.results.toList=some avs):∃ v,(results fn a.tmps).run cx.P w=.ok v w/\Rep w (Sg cx.S0 cx.w0.heap.size γ) γ (Oe avs) v:=by
 obtain ⟨vs,h1,h2,h3⟩:=zb7 hst fn.results.toList avs h
 have hm:(fn.results.mapM (Ks a.tmps)).run cx.P w=.ok vs.toArray w:=by
  rw [Array.mapM_eq_mapM_toList]
  show Sem.run cx.P (mapM (Ks a.tmps) fn.results.toList >>= fun l=>pure l.toArray) w=_
  simp only [Sem.run_bind,h1,Result.andThen_ok,Sem.run_pure]
 have hrun:(results fn a.tmps).run cx.P w=.ok (if h:vs.toArray.size=1 then vs.toArray[0] else .tuple vs.toArray) w:=by
  rw [zor]
  simp only [Sem.run_bind,hm,Result.andThen_ok,Sem.run_pure]
 refine ⟨_,hrun,?_⟩
 cases avs with
 |nil =>
  have:vs=[]:=length_eq_zero_iff.1 h2
  subst this
  exact .tup #[] rfl (fun i hi=>by simp at hi)
 |cons x r =>
  cases r with
  |nil =>
   obtain ⟨u,rfl⟩:∃ u,vs=[u]:=by
    cases vs with
    |nil=>simp at h2
    |cons u t=>cases t with
     |nil=>exact ⟨u,rfl⟩
     |cons _ _=>simp at h2
   exact h3 0 (by simp)
  |cons y r =>
   have hne:¬vs.toArray.size=1:=by simp [h2]
   rw [dif_neg hne]
   refine .tup vs.toArray (by simpa using h2) (fun i hi=>?_)
   have:=h3 i hi
   simpa using this
end
mutual
def fAV {α:Type}:AV->(AV->α)->α
 |.any,k=>k .any
 |.int kd n,k=>k (.int kd n)
 |.bool b,k=>k (.bool b)
 |.str s,k=>k (.str s)
 |.nilp,k=>k .nilp
 |.ptr id off,k=>k (.ptr id off)
 |.nils,k=>k .nils
 |.sl sz xs,k=>k (.sl sz xs)
 |.row id,k=>k (.row id)
 |.elt id sz m j,k=>k (.elt id sz m j)
 |.fn f cap,k=>fL cap fun l=>k (.fn f l)
 |.yld r T cap,k=>fL cap fun l=>k (.yld r T l)
 |.nilf,k=>k .nilf
 |.agg cs,k=>fL cs fun l=>k (.agg l)
 |.tup cs,k=>fL cs fun l=>k (.tup l)
 |.ref cs,k=>k (.ref cs)
 |.der φ id,k=>k (.der φ id)
 |.cont n id,k=>k (.cont n id)
 |.mapv ps,k=>k (.mapv ps)
 |.slen n,k=>k (.slen n)
def fL {α:Type}:List AV->(List AV->α)->α
 |[],k=>k []
 |x::r,k=>fAV x fun x'=>fL r fun r'=>k (x'::r')
end
mutual
theorem Ob {α:Type}:∀ (v:AV) (k:AV->α),fAV v k=k v
 |.any,k=>rfl
 |.int kd n,k=>rfl
 |.bool b,k=>rfl
 |.str s,k=>rfl
 |.nilp,k=>rfl
 |.ptr id off,k=>rfl
 |.nils,k=>rfl
 |.sl sz xs,k=>rfl
 |.row id,k=>rfl
 |.elt id sz m j,k=>rfl
 |.fn f cap,k=>by rw [fAV,Oi]
 |.yld r T cap,k=>by rw [fAV,Oi]
 |.nilf,k=>rfl
 |.agg cs,k=>by rw [fAV,Oi]
 |.tup cs,k=>by rw [fAV,Oi]
 |.ref cs,k=>rfl
 |.der φ id,k=>rfl
 |.cont n id,k=>rfl
 |.mapv ps,k=>rfl
 |.slen n,k=>rfl
theorem Oi {α:Type}:∀ (l:List AV) (k:List AV->α),fL l k=k l
 |[],k=>rfl
 |x::r,k=>by rw [fL,Ob,Oi]
end
mutual
inductive Sub:AV->AV->Prop
 |refl (v:AV):Sub v v
 |nil (sz:Nat):Sub .nils (.sl sz [])
 |any (v:AV):Sub v .any
 |agg {cs ds:List AV} (h:SubL cs ds):Sub (.agg cs) (.agg ds)
 |tup {cs ds:List AV} (h:SubL cs ds):Sub (.tup cs) (.tup ds)
 |fn {f:FuncId} {cs ds:List AV} (h:SubL cs ds):Sub (.fn f cs) (.fn f ds)
 |yld {l:Nat} {T:Array Value} {cs ds:List AV} (h:SubL cs ds):Sub (.yld l T cs) (.yld l T ds)
 |sl (sz:Nat) {xs ys:List AV} (h:SubE xs ys):Sub (.sl sz xs) (.sl sz ys)
inductive SubL:List AV->List AV->Prop
 |nil:SubL [] []
 |cons {x y:AV} {r s:List AV} (h:Sub x y) (hr:SubL r s):SubL (x::r) (y::s)
inductive SubE:List AV->List AV->Prop
 |nil:SubE [] []
 |cons {x y:AV} {r s:List AV} (h:SubL x.cells y.cells) (hr:SubE r s):SubE (x::r) (y::s)
end
variable {cs ds:List AV}
theorem SubE.len (h:SubE cs ds):cs.length=ds.length:=by
 induction cs generalizing ds with
 |nil=>cases h;rfl
 |cons x r ih=>cases h with
  |cons hx hr=>simp [ih hr]
theorem SubE.at (h:SubE cs ds)(i:Nat)(hi:i<cs.length)(hi':i<ds.length):SubL cs[i].cells ds[i].cells:=by
 induction cs generalizing ds i with
 |nil=>simp at hi
 |cons x r ih=>cases h with
  |cons hx hr=>cases i with
   |zero=>exact hx
   |succ i=>exact ih hr i (by simpa using hi) (by simpa using hi')
theorem SubL.len (h:SubL cs ds):cs.length=ds.length:=by
 induction cs generalizing ds with
 |nil=>cases h;rfl
 |cons x r ih=>cases h with
  |cons hx hr=>simp [ih hr]
theorem SubL.at (h:SubL cs ds)(i:Nat)(hi:i<cs.length)(hi':i<ds.length):Sub cs[i] ds[i]:=by
 induction cs generalizing ds i with
 |nil=>simp at hi
 |cons x r ih=>cases h with
  |cons hx hr=>cases i with
   |zero=>exact hx
   |succ i=>exact ih hr i (by simpa using hi) (by simpa using hi')
variable {av:AV}
theorem Rep.sub (h:Rep w S γ av v):∀ {bv:AV},Sub av bv->Rep w S γ bv v:=by
 induction h with
 |any v=>intro bv hs;cases hs<;>exact .any _
 |int k n=>intro bv hs;cases hs<;>first|exact .int _ _|exact .any _
 |bool b=>intro bv hs;cases hs<;>first|exact .bool _|exact .any _
 |str s=>intro bv hs;cases hs<;>first|exact .str _|exact .any _
 |nilp=>intro bv hs;cases hs<;>first|exact .nilp|exact .any _
 |nilf=>intro bv hs;cases hs<;>first|exact .nilf|exact .any _
 |ptr h hv=>intro bv hs;cases hs<;>first|exact .ptr h hv|exact .any _
 |elt h hv=>intro bv hs;cases hs<;>first|exact .elt h hv|exact .any _
 |row h hv=>intro bv hs;cases hs<;>first|exact .row h hv|exact .any _
 |der h hv=>intro bv hs;cases hs<;>first|exact .der h hv|exact .any _
 |cont h hv hl=>intro bv hs;cases hs<;>first|exact .cont h hv hl|exact .any _
 |mapv ps0 hp g es clock hb hS hg hh hl hk hv ih1 ih2=>intro bv hs;cases hs<;>first|exact .mapv ps0 hp g es clock hb hS hg hh hl hk hv|exact .any _
 |mapn=>intro bv hs;cases hs<;>first|exact .mapn|exact .any _
 |slen A n c=>intro bv hs;cases hs<;>first|exact .slen A _ c|exact .any _
 |nils =>
  intro bv hs
  cases hs with
  |refl=>exact .nils
  |any=>exact .any _
  |nil sz=>exact .sl (xs:=[]) none 0 (fun _ _=>.bool true) (aB _) (fun k hk=>absurd hk (by simp)) (fun h=>absurd h (by simp)) (fun k hk=>absurd hk (by simp)) (fun _ _=>rfl)
 |sl A c cell hc hlen hb hr h1 ih =>
  intro bv hs
  cases hs with
  |refl=>exact .sl A c cell hc hlen hb hr h1
  |any=>exact .any _
  |sl sz h =>
   have hl:=h.len
   rw [hl] at hc ⊢
   refine .sl A c cell hc (fun k hk=>?_) (fun h0=>?_) (fun k hk j hj=>?_) h1
   ·rw [<-(h.at k (by omega) hk).len];exact hlen k (by omega)
   ·obtain ⟨b,off,q1,q2,q3,q4⟩:=hb (by omega)
    exact ⟨b,off,q1,q2,q3,fun k j hk hj=>q4 k j (by omega) hj⟩
   ·have hk':=hk
    rw [<-hl] at hk'
    have hs:=h.at k hk' hk
    have hj':=hj
    rw [<-hs.len] at hj'
    exact ih k hk' j hj' (hs.at j hj' hj)
 |ref b off cell hS hb hc hr h1 ih=>intro bv hs;cases hs<;>first|exact .ref b off cell hS hb hc hr h1|exact .any _
 |fn vs hl hr ih =>
  intro bv hs
  cases hs with
  |refl=>exact .fn vs hl hr
  |any=>exact .any _
  |fn h=>exact .fn vs (by rw [hl,h.len]) (fun i hi=>ih i (by rw [h.len];exact hi) (h.at i _ hi))
 |yld hr ih =>
  intro bv hs
  cases hs with
  |refl=>exact .yld hr
  |any=>exact .any _
  |yld h=>exact .yld (fun i hi=>ih i (by rw [h.len];exact hi) (h.at i _ hi))
 |agg vs hl hr h1 ih =>
  intro bv hs
  cases hs with
  |refl=>exact .agg vs hl hr h1
  |any=>exact .any _
  |agg h=>exact .agg vs (by rw [hl,h.len]) (fun i hi=>ih i (by rw [h.len];exact hi) (h.at i _ hi)) h1
 |tup vs hl hr ih =>
  intro bv hs
  cases hs with
  |refl=>exact .tup vs hl hr
  |any=>exact .any _
  |tup h=>exact .tup vs (by rw [hl,h.len]) (fun i hi=>ih i (by rw [h.len];exact hi) (h.at i _ hi))
variable {E:Env}{f:FuncId}{res:AV}
theorem Con.sub {fr:Bool}{avs bvs:List AV}(h:SubL avs bvs)(hc:Con E fr f bvs res):Con E fr f avs res :=
 ⟨hc.1,fun S w vs ⟨hl,hr⟩=>hc.2 S w vs ⟨by rw [hl,h.len],fun i hi=>(hr i (by rw [h.len];exact hi)).sub (h.at i _ hi)⟩⟩
variable {sz:Nat}{xs:List AV}
theorem Fu.sub {avs bvs:List AV}{ty:Nat}(h:SubL avs bvs)(hc:Fu E f bvs ty sz xs):Fu E f avs ty sz xs :=
 ⟨hc.1,fun S w vs ⟨hl,hr⟩=>hc.2 S w vs ⟨by rw [hl,h.len],fun i hi=>(hr i (by rw [h.len];exact hi)).sub (h.at i _ hi)⟩⟩
inductive RetX (v res:AV):Prop
 |sub (h:Sub v res)
theorem RetX.mk {v:AV}(h:v=res):RetX v res:=.sub (h▸.refl v)
inductive RowX (ty sz:Nat) (xs:List AV) (ty' sz':Nat) (xs':List AV):Prop
 |mk (h1:ty=ty') (h2:sz=sz') (h3:xs=xs')
def endA (E:Env)(fn:Func)(res:AV)(σ:AS):Prop:=match retA E.tab σ fn.results.toList with
 |some avs=>fAV (Vc σ (Oe avs)) fun v=>RetX v res
 |none=>False
def EndA (E:Env)(fn:Func)(res:AV):Exit->AS->Prop
 |.normal,σ=>endA E fn res σ
 |.ret,σ=>endA E fn res σ
 |_,_=>False
variable {fn:Func}
theorem zjj (h:endA E fn res σ):∃ avs,retA E.tab σ fn.results.toList=some avs/\Sub (Vc σ (Oe avs)) res:=by
 unfold endA at h
 split at h
 ·rename_i avs he
  rw [Ob] at h
  cases h with
  |sub h=>exact ⟨avs,he,h⟩
 ·exact h.elim
def F6 (args:List AV):AS:=⟨args.zipIdx.map fun p=>(p.2,p.1),[]⟩
theorem Yj:∀ (l:List AV) (n t:Nat),lkV ((l.zipIdx n).map fun p=>(p.2,p.1)) t=if h:n<=t/\t<n+l.length then l[t-n]'(by omega) else .any
 |[],n,t=>by simp [lkV];intro h;omega
 |x::r,n,t=>by
  simp only [zipIdx_cons,map_cons,lkV]
  cases hb:aJ n t with
  |true=>have:=aA hb;subst this;simp
  |false =>
   have hne:n≠t:=fun e=>by subst e;simp at hb
   simp only
   rw [Yj r (n+1) t]
   by_cases h:n+1<=t/\t<n+1+r.length
   ·rw [dif_pos h,dif_pos (by simp;omega)]
    have:t-n=(t-(n+1))+1:=by omega
    simp only [this,getElem_cons_succ]
   ·rw [dif_neg h,dif_neg (by simp;omega)]
variable {args:List AV}
theorem Y2 {vs:Array Value}{nt:Nat}(hyl:E.yl=none)(hnp:E.np=0)(h:Args w S args vs)(hn:args.length<=nt):St (Cx.call E S w nt) (F6 args) { tmps:=vs++aN (nt-vs.size) undef,defers:=[] } w:=by
 obtain ⟨hl,hr⟩:=h
 refine ⟨G0,fun t=>?_,fun i=>rfl,fun i j b s s' h=>(by cases h),fun b ⟨i,s,h,_⟩=>(by cases h),Below.refl _ _,by simp [Cx.call];omega,⟨fun _=>rfl,⟨[],rfl,.nil,fun r hr=>by cases hr⟩,fun t ht=>by rw [show (Cx.call E S w nt).E.np=0 from hnp] at ht;omega,fun l R hl=>absurd (hyl.symm.trans hl) (by simp),aB _⟩,fun b hb=>hb.2,fun b hb=>hb.elim,fun _=>aB _⟩
 unfold AS.get F6
 rw [Yj]
 by_cases h:0<=t/\t<0+args.length
 ·rw [dif_pos h]
  have ht:t<vs.size:=by omega
  have e:(vs++aN (nt-vs.size) undef).getD t undef=vs.getD t undef:=by
   rw [aC,aC,Array.getElem?_append_left ht]
  show Rep w _ G0 _ ((vs++aN (nt-vs.size) undef).getD t undef)
  rw [e]
  refine (hr t (by omega)).mono (aB _) (fun b hS hlt=>⟨rfl,aK ⟨⟨hS,hlt⟩,hlt⟩⟩)
 ·rw [dif_neg h];exact .any _
theorem zpn {cx:Cx}{a:Act}(hst:StG cx γ σ a w)(hS':∀ b,Sg cx.S0 cx.w0.heap.size γ b\/own γ b->S' b)(h:Rep w (Sg cx.S0 cx.w0.heap.size γ) γ av v):Rep w S' G0 (Vc σ av) v:=by
 cases av with
 |tup cs =>
  obtain ⟨vs,rfl,hl,hr⟩:=h.tup_inv
  simp only [Vc]
  refine .tup vs (by simpa using hl) (fun i hi=>?_)
  have hi':i<cs.length:=by simpa using hi
  simp only [getElem_map]
  exact za2 hst hS' (hr i hi') (fun _ _=>rfl)
 |_=>exact za2 hst hS' h (fun _ _=>rfl)
theorem Con.of {fr:Bool}{c:Code}(hf:E.P.funcs[f]? = some fn)(hb:fn.body=some c)(he:C6 E f)(hn:args.length<=fn.ntmps)(hfr:fr=false\/res.flat=true)
  (h:∀ S w,WP (Cx.call E S w fn.ntmps) c (EndA E fn res) (F6 args)) (hrg:E.rg=false) (hyl:E.yl=none) (hnp:E.np=0):Con E fr f args res:=by
 refine ⟨he,fun S w vs ha=>callsIn_wide.1 (callsIn_of_wp (F:=Fence.wide) (n:=0) hf hb trivial ?_)⟩
 refine wpIn_mono (h S w _ _ (Y2 hyl hnp ha hn)) (fun e a w' ⟨σ,hq,γ,hst⟩=>?_)
 have key:(∃ avs,retA E.tab σ fn.results.toList=some avs/\Sub (Vc σ (Oe avs)) res)->bodyPost E.P fn (fun e w'=>∃ v,e=.returned v/\BelE E w w'/\Rep w' (fun b=>(fr=false/\S b)\/w.heap.size<=b) G0 res v) .ret a w':=by
  rintro ⟨avs,h1,hsub⟩
  obtain ⟨v,hv,hr⟩:=Uk hst h1
  refine ⟨hst.defers.d0 hrg,v,hv,v,rfl,⟨hst.below,hst.dr⟩,?_⟩
  have h2:=(zpn (S':=fun b=>S b\/w.heap.size<=b) hst (fun b hb=>?_) hr).sub hsub
  ·rcases hfr with hfr|hfr
   ·exact h2.mono (aB _) (fun b hb _=>⟨rfl,hb.elim (fun h=>aK ⟨hfr,h⟩) aL⟩)
   ·exact h2.flat hfr
  ·rcases hb with hb|hb
   ·rcases hb with ⟨hb,_⟩|⟨hb,_⟩
    ·exact aK hb.1
    ·exact aL hb.1
   ·exact aL (hst.ge b hb).1.1
 cases e with
 |normal=>exact key (zjj hq)
 |ret=>exact key (zjj hq)
 |_=>exact hq.elim
def endR (fn:Func)(ty sz:Nat)(xs:List AV)(σ:AS):Prop:=match fn.results.toList with
 |[.tmp t]=>match σ.get t with
  |.row id=>match σ.find id with
   |some (.row ty' sz' xs')=>RowX ty' sz' xs' ty sz xs
   |_=>False
  |_=>False
 |_=>False
def EndR (fn:Func)(ty sz:Nat)(xs:List AV):Exit->AS->Prop
 |.normal,σ=>endR fn ty sz xs σ
 |.ret,σ=>endR fn ty sz xs σ
 |_,_=>False
theorem zjh {ty:Nat}(h:endR fn ty sz xs σ):∃ t id,fn.results.toList=[.tmp t]/\σ.get t=.row id/\σ.find id=some (.row ty sz xs):=by
 unfold endR at h
 split at h
 ·rename_i t ht
  split at h
  ·rename_i id hid
   split at h
   ·rename_i ty' sz' xs' hf
    cases h with
    |mk h1 h2 h3=>subst h1;subst h2;subst h3;exact ⟨t,id,ht,hid,hf⟩
   ·exact h.elim
  ·exact h.elim
 ·exact h.elim
theorem Fu.of {c:Code}{ty:Nat}(hf:E.P.funcs[f]? = some fn)(hb:fn.body=some c)(he:C6 E f)(hn:args.length<=fn.ntmps)
  (h:∀ S w,WP (Cx.call E S w fn.ntmps) c (EndR fn ty sz xs) (F6 args)) (hrg:E.rg=false) (hyl:E.yl=none) (hnp:E.np=0):Fu E f args ty sz xs:=by
 refine ⟨he,fun S w vs ha=>callsIn_wide.1 (callsIn_of_wp (F:=Fence.wide) (n:=0) hf hb trivial ?_)⟩
 refine wpIn_mono (h S w _ _ (Y2 hyl hnp ha hn)) (fun e a w' ⟨σ,hq,γ,hst⟩=>?_)
 have key:(∃ t id,fn.results.toList=[.tmp t]/\σ.get t=.row id/\σ.find id=some (.row ty sz xs))->bodyPost E.P fn (fun e w'=>∃ v us,e=.returned v/\Below w.heap.size w w'/\w'.ownsRow w.heap.size ty sz v xs.length us /\
  (∀ k (hk:k<xs.length),(xs[k]).cells.length=sz)/\(∀ k (hk:k<xs.length) j (hj:j<(xs[k]).cells.length),Rep w' (fun b=>(S b\/w.heap.size<=b)/\v.ownBlock≠some b) G0 ((xs[k]).cells[j]) (us.getD (k*sz+j) undef))/\∀ u∈us,u.oneCell'=true) .ret a w':=by
  rintro ⟨t,id,h1,h2,h3⟩
  obtain ⟨v,hv,hr⟩:=Uk (avs:=[.row id]) hst (by rw [h1];simp [retA,h2])
  have hme:=hst.me id
  rw [h3] at hme
  obtain ⟨d,hd,s,us,hde,hone,hown,hlen,hrr,hone2⟩:=hme
  subst hde
  have hvs:v=s:=hr.row_inv hd
  subst hvs
  refine ⟨hst.defers.d0 hrg,v,hv,v,us,rfl,hst.below,hown,hlen,fun k hk j hj=>?_,hone2⟩
  refine (hrr k hk j hj).mono (aB _) (fun b hS _=>⟨rfl,?_,fun e=>?_⟩)
  ·rcases hS with ⟨hS,_⟩|⟨hS,_⟩
   ·exact aK hS.1
   ·exact aL hS.1
  ·have ho:own γ b:=⟨id,_,hd,by rw [e];exact Bh⟩
   rcases hS with ⟨_,hS⟩|⟨_,hS⟩
   ·have:=(hst.ge b ho).1.1;exact absurd hS (by show ¬b<w.heap.size;exact Nat.not_lt.2 this)
   ·exact hS ho
 cases e with
 |normal=>exact key (zjh hq)
 |ret=>exact key (zjh hq)
 |_=>exact hq.elim
open Go.RowKit
section
variable {α:Type}
theorem Yd (l m:List α)(o q:Nat)(h:o+m.length<=l.length):(l.take o++m++l.drop (o+m.length))[q]? = if q<o then l[q]? else if q<o+m.length then m[q-o]? else l[q]? := by
 by_cases h1:q<o
 ·rw [if_pos h1,append_assoc,aP (by simp;omega),aM h1]
 ·rw [if_neg h1]
  by_cases h2:q<o+m.length
  ·rw [if_pos h2,append_assoc,aO (by simp;omega),aP (by simp;omega)]
   rw [show q-(List.take o l).length=q-o by simp;omega]
  ·rw [if_neg h2,aO (by simp;omega),getElem?_drop]
   rw [show o+m.length+(q-(List.take o l++m).length)=q by simp;omega]
theorem Y3 (l m:List α)(o n:Nat)(h:o+m.length<=n)(hn:n<=l.length):(l.take o++m++l.drop (o+m.length)).take n=(l.take n).take o++m++(l.take n).drop (o+m.length):=by
 apply ext_getElem?
 intro q
 rw [Yd (l.take n) m o q (by simp;omega)]
 by_cases hq:q<n
 ·rw [aM hq,Yd l m o q (by omega),aM hq]
 ·rw [aT (by simp;omega),if_neg (by omega),if_neg (by omega),aT (by simp;omega)]
theorem Uq (l m:List α)(o:Nat)(h:o+m.length<=l.length):(l.take o++m++l.drop (o+m.length)).length=l.length:=by simp;omega
end
section
variable {cx:Cx} {σ:AS} {o:Oper}
theorem zb8 {T id k j:Nat}{x y:Operand}{i:TyI}{el el':AV}(ho:o.op=.store T x y)(hd:dok cx o=true)(hxo:A5 x=true)(hyo:A5 y=true)(hx:σ.eval x=.elt id sz k j)(hy:σ.eval y=av)(hT:lkT cx.E.tab T=some i)(hl:σ.find id=some (.row ty sz xs))
  (he:xs[k]? = some el) (hav:av.cells.length=i.sz) (hfit:j+i.sz<=sz) (hc:okc σ av=true) (hcl:av.closed=true) (hel:el'.cells=el.cells.take j++av.cells++el.cells.drop (j+i.sz)) :
  Ag cx o σ (.tup []) (id::av.ids) [(id,.row ty sz (xs.set k el'))]:=by
 refine ⟨fun id' e he=>?_,fun τ h1 h2 a w Q K ⟨γ,hst⟩ hK=>Bu (fun c hc=>by rw [ho] at hc;cases hc) ?_⟩
 ·simp only [lkE] at he
  cases hb:aJ id id' with
  |true=>simp [aA hb]
  |false=>rw [hb] at he;cases he
 have hev:=hst.ev x hxo
 rw [h1 x (by simp [ho,Op.operands]),hx] at hev
 have hevy:=hst.ev y hyo
 rw [h1 y (by simp [ho,Op.operands]),hy] at hevy
 have hme:=hst.me id
 rw [h2 id (by simp),hl] at hme
 obtain ⟨d,hd',s,vs,hde,hs1,hown,hlen,hr,hone⟩:=hme
 subst hde
 obtain ⟨hk,hek⟩:=List.getElem?_eq_some_iff.1 he
 obtain ⟨hvl,hform⟩:=hown
 rcases hform with ⟨_,h0⟩|⟨g,cap,cur,rfl,hbase,hheap,hncap,hm,hcs,htake⟩
 ·omega
 have hd':γ id=some (some (some g,.slice (some ⟨g,0,none⟩) xs.length cap)):=hd'
 have e:=hev.elt_inv hd'
 obtain ⟨c1,c2,c3⟩:=Uy hst hevy hc (fun id hid=>h2 id (by simp [hid]))
 have hone':∀ u∈(a.eval y).cells.toList,u.oneCell'=true:=fun u hu=>by
  obtain ⟨q,hq,rfl⟩:=mem_iff_getElem.1 hu
  have hq':q<(a.eval y).cells.size:=by simpa using hq
  have:=c3 q hq'
  simpa [Array.getD,hq'] using this
 have hml:(a.eval y).cells.toList.length=i.sz:=by simp;omega
 have hle:=hlen k hk
 have hks:k*sz+sz<=xs.length*sz:=by
  have:(k+1)*sz<=xs.length*sz:=aD _ hk
  rw [aR] at this
  exact this
 have hcc:xs.length*sz<=cap*sz:=aD _ hncap
 have hrun:=Ue (cx.E.ok T i hT) w g (k*sz+j) ty cur (a.eval y) hheap (c1.trans hav) (by omega) hone'
 unfold Oper.wp
 generalize hcur':(cur.toList.take (k*sz+j)++(a.eval y).cells.toList++cur.toList.drop (k*sz+j+i.sz)).toArray=cur' at hrun
 have hex:(execOp a.eval o).run cx.P w=.ok .skip (w.setRow g cur'):=by
  simp only [execOp,ho,e,Instr.storeAt,Instr.sureAddr,Sem.run_bind,Sem.run_pure,Result.andThen_ok,hrun]
 rw [hex]
 have hblk:=setRow_heap w g cur cur' ty (0,0) hheap
 have hoth:∀ q,q≠g->(w.setRow g cur').heap[q]? = w.heap[q]? := fun q hq=>setRow_other w g q _ hq
 have hgo:own γ g:=own.mk hd'
 have hgl:=hst.ge g hgo
 have hns:∀ b,Sg cx.S0 cx.w0.heap.size γ b->b≠g:=fun b hS e=>by
  subst e
  rcases hS with ⟨_,h⟩|⟨_,h⟩
  ·have:=hgl.1.1;omega
  ·exact h hgo
 generalize hw':w.setRow g cur'=w' at *
 have hz:w.heap.size<=w'.heap.size:=by rw [<-hw'];simp
 have hdr:w.drawn<=w'.drawn:=by rw [<-hw'];exact aB _
 have hmv:∀ {γ':Gam} {av v},Rep w (Sg cx.S0 cx.w0.heap.size γ) γ' av v->Rep w' (Sg cx.S0 cx.w0.heap.size γ) γ' av v:=fun h=>h.mono hz (fun b hS _=>⟨hoth b (hns b hS),hS⟩)
 refine hK _ _ ⟨γ,hst.step (Bm hd) hz (fun b hS hlt=>⟨hoth b (hns b hS),hS⟩) (fun id d h=>aK h) (fun id' hid'=>⟨rfl,fun g' s hg' hm'=>hoth g' ?_⟩) (fun id' e' he'=>?_) hst.inj (fun b hbo=>⟨(hst.ge b hbo).1,aQ (hst.ge b hbo).2 hz⟩) ?_ (.tup #[] rfl (fun i hi=>by simp at hi)) (fun b hno _=>⟨hoth b (fun e=>hno (e▸hgo)),hno⟩) (fun _=>hdr)⟩
 ·rintro rfl
  have:=hst.inj _ _ _ _ _ hg' hd' hm' Bh
  subst this
  simp [lkE] at hid'
 ·have hid:id'=id:=by
   simp only [lkE] at he'
   cases hbq:aJ id id' with
   |true=>exact (aA hbq).symm
   |false=>rw [hbq] at he';cases he'
  subst hid
  simp only [lkE,aW,aF] at he'
  subst he'
  have hvs':cur'.toList.take (xs.length*sz)=vs.take (k*sz+j)++(a.eval y).cells.toList++vs.drop (k*sz+j+i.sz):=by
   rw [<-hcur',<-htake,<-hml]
   exact Y3 _ _ _ _ (by omega) (by simp;omega)
  have hget:∀ q,(vs.take (k*sz+j)++(a.eval y).cells.toList++vs.drop (k*sz+j+i.sz))[q]? = if q<k*sz+j then vs[q]? else if q<k*sz+j+i.sz then (a.eval y).cells.toList[q-(k*sz+j)]? else vs[q]? := fun q=>by
   rw [<-hml];exact Yd _ _ _ _ (by omega)
  refine ⟨_,hd',.slice (some ⟨g,0,none⟩) xs.length cap,vs.take (k*sz+j)++(a.eval y).cells.toList++vs.drop (k*sz+j+i.sz),rfl,hs1,⟨?_,aL ⟨g,cap,cur',by simp,hbase,hblk,by simpa using hncap,hm,?_,by simpa using hvs'⟩⟩,?_,?_,?_⟩
  ·rw [<-hml,Uq _ _ _ (by omega)];simpa using hvl
  ·rw [<-hcur']
   have:=Uq cur.toList (a.eval y).cells.toList (k*sz+j) (by simp;omega)
   rw [hml] at this
   simpa [hcs] using this
  ·intro q hq
   rw [length_set] at hq
   rw [aU]
   by_cases hkq:k=q
   ·rw [if_pos hkq,hel]
    rw [hek] at hle
    simp;omega
   ·rw [if_neg hkq];exact hlen q hq
  ·intro q hq r hrq
   rw [length_set] at hq
   have hlq:=hlen q hq
   rw [aH,hget]
   rw [aU] at hrq
   by_cases hkq:k=q
   ·subst hkq
    rw [hek] at hle
    simp only [getElem_set_self]
    rw [if_pos rfl,hel] at hrq
    simp only [length_append,length_take,length_drop] at hrq
    have hold:∀ r,(h:r<el.cells.length)->Rep w' (Sg cx.S0 cx.w0.heap.size γ) G0 el.cells[r] (vs[k*sz+r]?.getD undef):=fun r h=>by
     have:=hr k hk r (by rw [hek];exact h)
     simp only [hek] at this
     rw [aH] at this
     exact hmv this
    have hgt:(el'.cells)[r]? = if r<j then el.cells[r]? else if r<j+i.sz then av.cells[r-j]? else el.cells[r]? := by
     rw [hel,<-hav];exact Yd _ _ _ _ (by omega)
    have hrl:r<el'.cells.length:=by rw [hel];simp;omega
    rw [aE hrl] at hgt
    by_cases h1:r<j
    ·rw [if_pos (by omega)]
     rw [if_pos h1,aE (by omega)] at hgt
     injection hgt with hgt
     rw [hgt]
     exact hold r (by omega)
    ·rw [if_neg (by omega)]
     rw [if_neg h1] at hgt
     by_cases h2:r<j+i.sz
     ·rw [if_pos (by omega)]
      rw [if_pos h2,aE (by omega)] at hgt
      injection hgt with hgt
      rw [hgt]
      have hq2:=c2 (r-j) (by omega)
      have:=(hmv hq2).close (γ':=G0) (z6x hcl (r-j) (by omega))
      rw [show k*sz+r-(k*sz+j)=r-j by omega]
      simpa [aC] using this
     ·rw [if_neg (by omega)]
      rw [if_neg h2,aE (by omega)] at hgt
      injection hgt with hgt
      rw [hgt]
      exact hold r (by omega)
   ·have hne:(xs.set k el')[q]'(by simpa using hq)=xs[q]:=by rw [aU,if_neg hkq]
    rw [if_neg hkq] at hrq
    simp only [hne]
    have:=hmv (hr q hq r hrq)
    rw [aH] at this
    have hdis:¬(k*sz+j<=q*sz+r/\q*sz+r<k*sz+j+i.sz):=fun ⟨h1,h2⟩=>by
     rcases Nat.lt_or_gt_of_ne hkq with hlt|hgt
     ·have:(k+1)*sz<=q*sz:=aD _ hlt
      rw [aR] at this
      omega
     ·have:(q+1)*sz<=k*sz:=aD _ hgt
      rw [aR] at this
      omega
    by_cases h1:q*sz+r<k*sz+j
    ·rw [if_pos h1];exact this
    ·rw [if_neg h1,if_neg (by omega)];exact this
  ·intro u hu
   simp only [mem_append] at hu
   rcases hu with (hu|hu)|hu
   ·exact hone u (mem_of_mem_take hu)
   ·exact hone' u hu
   ·exact hone u (mem_of_mem_drop hu)
 ·refine hst.below.trans ⟨by rw [<-hw'];rfl,by rw [<-hw'];rfl,by rw [<-hw'];rfl,hz,fun k hk=>hoth k (by have:=hgl.1.1;omega)⟩
theorem V6 {τ:AS}{a:Act}{w':World}{dst:Option Nat}{d ty:Nat}{u:Value}{us:List Value}(hst:StG cx γ τ a w)(hdr:cx.E.dr=true->w.drawn<=w'.drawn)(hn:τ.find d=none)(hd:∀ x,dst=some x->cx.E.np<=x/\x<cx.nt)(hb:Below w.heap.size w w')(hown:w'.ownsRow w.heap.size ty sz v xs.length us)
  (hlen:∀ k (hk:k<xs.length),(xs[k]).cells.length=sz) (hre:∀ k (hk:k<xs.length) j (hj:j<(xs[k]).cells.length),Rep w' (fun b=>(Sg cx.S0 cx.w0.heap.size γ b\/w.heap.size<=b)/\v.ownBlock≠some b) G0 ((xs[k]).cells[j]) (us.getD (k*sz+j) undef)) (hone:∀ u∈us,u.oneCell'=true)
  (hu:(∀ b,(Sg cx.S0 cx.w0.heap.size γ b\/w.heap.size<=b)/\v.ownBlock≠some b->Sg cx.S0 cx.w0.heap.size (γ.set d (some (v.ownBlock,v))) b)->Rep w' (Sg cx.S0 cx.w0.heap.size (γ.set d (some (v.ownBlock,v)))) (γ.set d (some (v.ownBlock,v))) av u) :
  St cx (τ.upd dst av [(d,.row ty sz xs)]) (a.put dst u) w':=by
 have hγd:γ d=none:=by have:=hst.me d;rw [hn] at this;exact this
 have hsz:=hst.below.size
 generalize hγ':γ.set d (some (v.ownBlock,v))=γ' at *
 have hself:γ' d=some (some (v.ownBlock,v)):=by rw [<-hγ'];exact Gam.set_self _ _ _
 have hother:∀ i,i≠d->γ' i=γ i:=fun i hi=>by rw [<-hγ'];exact Gam.set_ne _ _ _ hi
 have hvb:∀ b,v.ownBlock=some b->w.heap.size<=b/\b<w'.heap.size:=fun b hvb=>by
  rcases hown.2 with ⟨hv,_⟩|⟨g,cap,cur,hv,hbg,hh,_⟩
  ·rw [hv] at hvb;simp [Value.ownBlock] at hvb
  ·rw [hv] at hvb;simp only [Value.ownBlock,aF] at hvb;subst hvb
   exact ⟨hbg,(Array.getElem?_eq_some_iff.1 hh).1⟩
 have hown':∀ b,own γ' b->v.ownBlock=some b\/own γ b:=fun b ⟨id,s,hi,hm⟩=>by
  by_cases h:id=d
  ·subst h;rw [hself] at hi;injection hi with hi;subst hi;exact aK (Fq (Fp (Db hown)) hm)
  ·rw [hother id h] at hi;exact aL ⟨id,s,hi,hm⟩
 have hold:∀ i x,γ i=some x->i≠d:=fun i x hx e=>by subst e;rw [hγd] at hx;cases hx
 have hS:∀ b,(Sg cx.S0 cx.w0.heap.size γ b\/w.heap.size<=b)/\v.ownBlock≠some b->Sg cx.S0 cx.w0.heap.size γ' b:=fun b ⟨h1,h2⟩=>by
  rcases h1 with (h1|⟨h1,h3⟩)|h1
  ·exact aK h1
  ·refine aL ⟨h1,fun ho=>?_⟩
   rcases hown' b ho with h|h
   ·exact h2 h
   ·exact h3 h
  ·refine aL ⟨⟨aS hsz h1,fun h0=>by have:=hst.gh _ h0;omega⟩,fun ho=>?_⟩
   rcases hown' b ho with h|h
   ·exact h2 h
   ·have:=(hst.ge b h).2;omega
 have hstab:∀ b,Sg cx.S0 cx.w0.heap.size γ b->b<w.heap.size->Sg cx.S0 cx.w0.heap.size γ' b:=fun b hb hlt=>hS b ⟨aK hb,fun e=>by have:=(hvb b e).1;omega⟩
 refine ⟨γ',hst.step (γ':=γ') hd hb.size (fun b hS hlt=>⟨hb.block b hlt,hstab b hS hlt⟩) (fun i x hx=>aK (by rw [hother i (hold i x hx)];exact hx)) (fun i hi=>?_) (fun i e' hi=>?_) (fun i j b s1 s2 h1 h2 m1 m2=>?_) (fun b hbo=>?_) (hst.below.trans (hb.mono hsz)) (hu hS) (fun b hno hlt=>⟨hb.block b hlt,fun ho'=>by
  rcases hown' b ho' with h|h
  ·have:=(hvb b h).1;omega
  ·exact hno h⟩) hdr⟩
 ·have hid:i≠d:=fun e=>by subst e;simp [lkE] at hi
  exact ⟨hother i hid,fun g' s' hg' hm'=>hb.block g' (hst.ge g' ⟨i,s',hg',hm'⟩).2⟩
 ·have hid:i=d:=by
   simp only [lkE] at hi
   cases hbq:aJ d i with
   |true=>exact (aA hbq).symm
   |false=>rw [hbq] at hi;cases hi
  subst hid
  simp only [lkE,aW,aF] at hi
  subst hi
  exact ⟨_,hself,v,us,rfl,Db hown,⟨hown.1,hown.2.elim aK (fun ⟨g,cap,cur,hv,hg,r⟩=>aL ⟨g,cap,cur,hv,aS hsz hg,r⟩)⟩,hlen,fun k hk j hj=>(hre k hk j hj).mono (aB _) (fun b hb _=>⟨rfl,hS b hb⟩),hone⟩
 ·by_cases hi:i=d
  ·by_cases hj:j=d
   ·rw [hi,hj]
   ·subst hi
    rw [hself] at h1
    rw [hother j hj] at h2
    injection h1 with h1
    subst h1
    have q1:=(hvb b (Fq (Fp (Db hown)) m1)).1
    have q2:=(hst.ge b ⟨j,_,h2,m2⟩).2
    omega
  ·rw [hother i hi] at h1
   by_cases hj:j=d
   ·subst hj
    rw [hself] at h2
    injection h2 with h2
    subst h2
    have q1:=(hvb b (Fq (Fp (Db hown)) m2)).1
    have q2:=(hst.ge b ⟨i,_,h1,m1⟩).2
    omega
   ·rw [hother j hj] at h2
    exact hst.inj _ _ _ _ _ h1 h2 m1 m2
 ·rcases hown' b hbo with h|h
  ·exact ⟨⟨aS hsz (hvb b h).1,fun h0=>by have:=hst.gh _ h0;have:=(hvb b h).1;omega⟩,(hvb b h).2⟩
  ·exact ⟨(hst.ge b h).1,aQ (hst.ge b h).2 hb.size⟩
theorem zbe {T id off:Nat}{x y:Operand}{i:TyI}{len e esz:Nat}{ag:Option Bool}{k:IntKind}{n:Int}{m:Nat}(ho:o.op=.indexAddr T x y)(hd:dok cx o=true)(hxo:A5 x=true)(hyo:A5 y=true)(hx:σ.eval x=.ptr id off)(hy:σ.eval y=.int k n)
  (hl:σ.find id=some (.box ty cs)) (hT:lkT cx.E.tab T=some i) (hs:i.shape=.arr len e esz ag) (hz:esz≠0) (hn:n=(m:Int)) (hm:m<len):Ag cx o σ (.ptr id (off+m*esz)) [id] [] :=
 Ay hd fun τ γ a w h1 h2 hst=>by
  have hev:=hst.ev x hxo
  rw [h1 x (by simp [ho,Op.operands]),hx] at hev
  have hevy:=hst.ev y hyo
  rw [h1 y (by simp [ho,Op.operands]),hy] at hevy
  have hme:=hst.me id
  rw [h2 id (by simp),hl] at hme
  obtain ⟨d,hd',g,vs,hde,_⟩:=hme
  subst hde
  obtain ⟨hu,hce,_⟩:=zq5 (cx.E.ok T i hT) hs
  have ex:=hev.ptr_inv hd'
  refine ⟨.pointer (some ⟨g,off+m*esz,none⟩),?_,.ptr hd' (fun g' s e=>by injection e with e;injection e with e _;injection e with e;rw [e])⟩
  subst hn
  simp [execOp,ho,ex,hevy.int_inv,Instr.indexAt,Instr.sureAddr,asIntOf,run_underlying hu,Ei hce hz,hm,pure,Addr.add_lit]
theorem zfa {T d:Nat}{ps:Array (Nat×Operand)}{i ie:TyI}{e esz eb:Nat}(ho:o.op=.buildSlice T 0 ps)(hdst:o.dst=some d)(hd:dok cx o=true)(hT:lkT cx.E.tab T=some i)(hs:i.shape=.slc e esz eb)(he:lkT cx.E.tab e=some ie)(hz:esz≠0)(hps:ps=#[])(hn:σ.find d=none) :
  Ag cx o σ (.row d) [d] [(d,.row e esz [])]:=by
 refine ⟨fun id e he=>?_,fun τ h1 h2 a w Q K ⟨γ,hst⟩ hK=>Bu (fun c hc=>by rw [ho] at hc;cases hc) ?_⟩
 ·simp only [lkE] at he
  cases hb:aJ d id with
  |true=>simp [aA hb]
  |false=>rw [hb] at he;cases he
 subst hps
 have hrun:=Zr (n:=0) (parts:=#[]) (cells':=#[]) (cx.E.ok T i hT) hs (cx.E.ok e ie he) hz (by omega) (by simp [Instr.fill]) w
 unfold Oper.wp
 have hex:(execOp a.eval o).run cx.P w=.ok (.value (.slice (some ⟨w.heap.size,0,none⟩) 0 0)) (w.alloc (.cells #[] e)):=by
  have e':(Array.map (fun x:Nat×Operand=>(x.1,a.eval x.2)) #[])=(#[]:Array (Nat×Value)):=by simp
  simp only [execOp,ho,Sem.run_bind,Sem.run_pure,Result.andThen_ok]
  rw [e',hrun]
  rfl
 rw [hex]
 refine hK _ _ ?_
 rw [hdst]
 exact V6 (v:=.slice (some ⟨w.heap.size,0,none⟩) 0 0) (us:=[]) hst (fun _=>aB _) (by rw [h2 d (by simp),hn]) (fun x hx=>by injection hx with hx;subst hx;exact Bm hd _ hdst) ((Below.refl _ _).alloc (aB _) _)
  ⟨by simp,aL ⟨w.heap.size,0,#[],by simp,aB _,Blk.new w _ _,by simp,by simp,by simp,by simp⟩⟩ (fun k hk=>by simp at hk) (fun k hk=>by simp at hk) (fun u hu=>by simp at hu)
  (fun hS=>.row (Gam.set_self _ _ _) (fun g s e _=>by injection e with e;injection e with _ e))
end
end Go.Proofs.YthbogefcfhmpgaaGreat
