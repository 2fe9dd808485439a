/- The abstract walk, eleventh part. -/
import Derived.Test.YtkoamfnbbhfaiaaGreatDoorK03
set_option linter.unusedVariables false
set_option linter.unusedSimpArgs false
namespace Go.Proofs.YtkoamfnbbhfaiaaGreatDoor
open Go.RowKit List
open Nat renaming le_refl->aA,eq_of_beq_eq_true->aB,mul_le_mul_right->aD,beq->aJ,lt_of_lt_of_le->aQ,succ_mul->aS,le_trans->aT,beq_refl->aW
open _root_.Array renaming getD_eq_getD_getElem?->aC,replicate->aN
open List renaming getElem?_eq_getElem->aE,getD_eq_getElem?_getD->aH,getElem?_take_of_lt->aM,getElem?_append_right->aO,getElem?_append_left->aP,getElem?_eq_none->aU,getElem_set->aV
open Option.some renaming injEq->aF
open Option renaming map_eq_some_iff->aG
open Or renaming inl->aK,inr->aL
open Cx renaming call->aR
mutual
def AV.ren (ρ:Nat->Nat):AV->AV |.ptr id off=>.ptr (ρ id) off |.row id=>.row (ρ id) |.elt id sz k j=>.elt (ρ id) sz k j |.der b id=>.der b (ρ id) |.cont n id=>.cont n (ρ id) |.fn f cap=>.fn f (AV.renL ρ cap) |.yld l T cap=>.yld l T (AV.renL ρ cap) |.agg cs=>.agg (AV.renL ρ cs) |.tup cs=>.tup (AV.renL ρ cs) |x=>x
def AV.renL (ρ:Nat->Nat):List AV->List AV |[]=>[] |x::r=>x.ren ρ::AV.renL ρ r
end
mutual
def AV.inM (ids:List Nat):AV->Bool |.ptr id _=>memB id ids |.row id=>memB id ids |.elt id _ _ _=>memB id ids |.der _ id=>memB id ids |.cont _ id=>memB id ids |.fn _ cap=>AV.inML ids cap |.yld _ _ cap=>AV.inML ids cap |.agg cs=>AV.inML ids cs |.tup cs=>AV.inML ids cs |_=>true
def AV.inML (ids:List Nat):List AV->Bool |[]=>true |x::r=>x.inM ids && AV.inML ids r
end
theorem AV.renL_length (ρ:Nat->Nat)(l:List AV):(AV.renL ρ l).length=l.length:=by
 induction l with
 |nil=>rfl
 |cons x r ih=>simp [AV.renL,ih]
theorem AV.renL_at (ρ:Nat->Nat)(l:List AV)(i:Nat)(hi:i<l.length):(AV.renL ρ l)[i]'(by rw [AV.renL_length];exact hi)=l[i].ren ρ:=by
 induction l generalizing i with
 |nil=>simp at hi
 |cons x r ih =>
  cases i with
  |zero=>rfl
  |succ i=>exact ih i (by simpa using hi)
variable {ids:List Nat}
theorem AV.inML_at {l:List AV}(h:AV.inML ids l=true)(i:Nat)(hi:i<l.length):l[i].inM ids=true:=by
 induction l generalizing i with
 |nil=>simp at hi
 |cons x r ih =>
  simp only [AV.inML,Bool.and_eq_true] at h;cases i with
  |zero=>exact h.1
  |succ i=>exact ih h.2 i (by simpa using hi)
variable {w:World}{S:Nat->Prop}{γ γ':Gam}{ρ:Nat->Nat}{v:Value}
theorem Rep.ren (k:∀ id,id∈ids->γ' id=γ (ρ id)){u:AV}(h:Rep w S γ u v):∀ av:AV,u=av.ren ρ->av.inM ids=true->Rep w S γ' av v:=by
 induction h with
 |any=>intro av e hi;cases av<;>simp [AV.ren] at e;exact .any _
 |int=>intro av e hi;cases av<;>simp [AV.ren] at e;obtain ⟨rfl,rfl⟩:=e;exact .int _ _
 |bool=>intro av e hi;cases av<;>simp [AV.ren] at e;subst e;exact .bool _
 |str=>intro av e hi;cases av<;>simp [AV.ren] at e;subst e;exact .str _
 |nilp=>intro av e hi;cases av<;>simp [AV.ren] at e;exact .nilp
 |nils=>intro av e hi;cases av<;>simp [AV.ren] at e;exact .nils
 |nilf=>intro av e hi;cases av<;>simp [AV.ren] at e;exact .nilf
 |ptr h m =>
  intro av e hi;cases av<;>simp [AV.ren] at e;obtain ⟨rfl,rfl⟩:=e;exact .ptr ((k _ ((Ct _ _).1 hi)).trans h) m
 |elt h m =>
  intro av e hi;cases av<;>simp [AV.ren] at e;obtain ⟨rfl,rfl,rfl,rfl⟩:=e;exact .elt ((k _ ((Ct _ _).1 hi)).trans h) m
 |row h m =>
  intro av e hi;cases av<;>simp [AV.ren] at e;subst e;exact .row ((k _ ((Ct _ _).1 hi)).trans h) m
 |der h m =>
  intro av e hi;cases av<;>simp [AV.ren] at e;obtain ⟨rfl,rfl⟩:=e;exact .der ((k _ ((Ct _ _).1 hi)).trans h) m
 |cont h m q =>
  intro av e hi;cases av<;>simp [AV.ren] at e;obtain ⟨rfl,rfl⟩:=e;exact .cont ((k _ ((Ct _ _).1 hi)).trans h) m q
 |mapv x F g es clock t z I H q G m D C=>intro av e hi;cases av<;>simp [AV.ren] at e;subst e;exact .mapv x F g es clock t z I H q G m
 |mapn=>intro av e hi;cases av<;>simp [AV.ren] at e;subst e;exact .mapn
 |slen A n c=>intro av e hi;cases av<;>simp [AV.ren] at e;subst e;exact .slen A _ c
 |sl A c cell y s t r h1 p=>intro av e hi;cases av<;>simp [AV.ren] at e;obtain ⟨rfl,rfl⟩:=e;exact .sl A c cell y s t r h1
 |ref b off cell z t y r h1 p=>intro av e hi;cases av<;>simp [AV.ren] at e;subst e;exact .ref b off cell z t y r h1
 |fn vs q r p =>
  intro av e hi;cases av<;>simp [AV.ren] at e;obtain ⟨rfl,rfl⟩:=e;simp only [AV.inM] at hi;exact .fn vs (by rw [q,AV.renL_length]) (fun i j=>p i (by rw [AV.renL_length];exact j) k _ (AV.renL_at _ _ _ _) (AV.inML_at hi i j))
 |yld r p =>
  intro av e hi;cases av<;>simp [AV.ren] at e;obtain ⟨rfl,rfl,rfl⟩:=e;simp only [AV.inM] at hi;exact .yld (fun i j=>p i (by rw [AV.renL_length];exact j) k _ (AV.renL_at _ _ _ _) (AV.inML_at hi i j))
 |agg vs q r h1 p =>
  intro av e hi;cases av<;>simp [AV.ren] at e;subst e;simp only [AV.inM] at hi;exact .agg vs (by rw [q,AV.renL_length]) (fun i j=>p i (by rw [AV.renL_length];exact j) k _ (AV.renL_at _ _ _ _) (AV.inML_at hi i j)) h1
 |tup vs q r p =>
  intro av e hi;cases av<;>simp [AV.ren] at e;subst e;simp only [AV.inM] at hi;exact .tup vs (by rw [q,AV.renL_length]) (fun i j=>p i (by rw [AV.renL_length];exact j) k _ (AV.renL_at _ _ _ _) (AV.inML_at hi i j))
theorem AV.ren_cells (ρ:Nat->Nat)(x:AV):(x.ren ρ).cells=AV.renL ρ x.cells:=by cases x<;>rfl
theorem AV.inM_cells {x:AV}(h:x.inM ids=true):AV.inML ids x.cells=true:=by
 cases x<;>first|exact h|(simp only [AV.cells,AV.inML,Bool.and_true];exact h)
variable {S':Nat->Prop}{B:Nat}{d:Option (Option Nat×Value)}{ty:TypeId}{sz:Nat}{xs:List AV}
theorem B8.gen_ren (q:B8 w S γ B d (.gen ty sz (AV.renL ρ xs)))
  (i:∀ id,id∈ids->γ' id=γ (ρ id)) (hm:AV.inML ids xs=true) (u:∀ b,S b->S' b):B8 w S' γ' B d (.gen ty sz xs):=by
 obtain ⟨s,vs,r,h1,c,e,n,h⟩:=q;simp only [AV.renL_length] at c e n;refine ⟨s,vs,r,h1,c,fun k g=>?_,fun k g j p=>?_,h⟩
 ·have:=e k g;rw [AV.renL_at ρ _ k g,AV.ren_cells,AV.renL_length] at this;exact this
 ·have m:=n k g j;rw [AV.renL_at ρ _ k g] at m;simp only [AV.ren_cells] at m;exact ((m (by rw [AV.renL_length];exact p)).ren i _ (AV.renL_at _ _ _ _) (AV.inML_at (AV.inM_cells (AV.inML_at hm k g)) j p)).mono (aA _) (fun b t _=>⟨rfl,u b t⟩)
theorem B8.lp_ren {fn:FuncId}{ps:Array Tmp}{a b:Code}{e:Nat}{busy:Bool}{caps:List AV}(j:B8 w S γ B d (.lp fn ps a b e busy (AV.renL ρ caps)))
  (c:∀ id,id∈ids->γ' id=γ (ρ id)) (hm:AV.inML ids caps=true) (p:∀ b,S b->S' b):B8 w S' γ' B d (.lp fn ps a b e busy caps):=by
 obtain ⟨l,T,D,fn0,k,i,n,h⟩:=j;exact ⟨l,T,D,fn0,k,i,n,fun t g=>((h t (by rw [AV.renL_length];exact g)).ren c _ (AV.renL_at _ _ _ _) (AV.inML_at hm t g)).mono (aA _) (fun b m _=>⟨rfl,p b m⟩)⟩
def rho:List (Nat×Nat)->Nat->Nat
 |[],i=>i
 |(a,b)::r,i=>match aJ a i with|true=>b|false=>rho r i
def Ent.renI (ρ:Nat->Nat):Ent->Ent |.box ty cs=>.box ty (AV.renL ρ cs) |.gen ty sz xs=>.gen ty sz (AV.renL ρ xs) |.lp fn ps a b nt busy caps=>.lp fn ps a b nt busy (AV.renL ρ caps) |e=>e
def Ent.inM (ids:List Nat):Ent->Bool |.box _ cs=>AV.inML ids cs |.gen _ _ xs=>AV.inML ids xs |.lp _ _ _ _ _ _ caps=>AV.inML ids caps |_=>true
def LeV (σ:AS)(ρ:Nat->Nat)(ids:List Nat):List (Nat×AV)->Prop |[]=>True |(t,av)::r=>(σ.get t=av.ren ρ/\av.inM ids=true)/\LeV σ ρ ids r
def LeE (σ:AS)(ρ:Nat->Nat)(ids:List Nat):List (Nat×Ent)->Prop |[]=>True |(i,e)::r=>(σ.find (ρ i)=some (e.renI ρ)/\e.inM ids=true)/\LeE σ ρ ids r
def injB (ρ:Nat->Nat)(ids:List Nat):Bool:=ids.all fun i=>ids.all fun j=>!(aJ (ρ i) (ρ j)) || aJ i j
variable {σ:AS}
theorem LeV.get {l:List (Nat×AV)}(h:LeV σ ρ ids l)(t:Nat):lkV l t=.any\/(σ.get t=(lkV l t).ren ρ/\(lkV l t).inM ids=true):=by
 induction l with
 |nil=>exact aK rfl
 |cons x r ih =>
  obtain ⟨u,av⟩:=x;simp only [LeV] at h;simp only [lkV];cases b:aJ u t with
  |true=>have:=aB b;subst this;exact aL h.1
  |false=>exact ih h.2
variable {l:List (Nat×Ent)}
theorem LeE.get (h:LeE σ ρ ids l)(i:Nat):lkE l i=none\/∃ e,lkE l i=some e/\σ.find (ρ i)=some (e.renI ρ)/\e.inM ids=true:=by
 induction l with
 |nil=>exact aK rfl
 |cons x r ih =>
  obtain ⟨u,e⟩:=x;simp only [LeE] at h;simp only [lkE];cases b:aJ u i with
  |true=>have:=aB b;subst this;exact aL ⟨e,rfl,h.1⟩
  |false=>exact ih h.2
theorem Hk {i:Nat}:lkE l i≠none ↔ i∈l.map (·.1):=by
 constructor
 ·exact Xu
 ·intro h
  induction l with
  |nil=>simp at h
  |cons x r ih =>
   obtain ⟨u,e⟩:=x;simp only [lkE];cases b:aJ u i with
   |true=>simp
   |false =>
    simp only [map_cons,mem_cons] at h;rcases h with h|h
    ·subst h;simp at b
    ·exact ih h
theorem B8.nest_mono {es:List NE}(h:B8 w S γ B d (.nest ty es))(p:∀ b,S b->S' b):B8 w S' γ' B d (.nest ty es):=by
 obtain ⟨s,vs,m,h1,c,g,i,e⟩:=h;exact ⟨s,vs,m,h1,c,g,fun k j=>(i k j).moved (aA _) (fun b n _=>⟨rfl,p b n⟩) (fun _ _=>rfl),e⟩
theorem B8.mpn_mono {ps:List (AV×NE)}(h:B8 w S γ B d (.mpn ps))(q:∀ b,S b->S' b):B8 w S' γ' B d (.mpn ps):=by
 obtain ⟨g,es,vs,x,u,s,e,n,m,c,r,i⟩:=h;exact ⟨g,es,vs,x,u,s,e,n,fun j h y=>(m j h y).mono (aA _) (fun b p _=>⟨rfl,q b p⟩),c,fun k t=>(r k t).moved (aA _) (fun b p _=>⟨rfl,q b p⟩) (fun _ _=>rfl),i⟩
theorem Le.of {cx:Cx}{τ:AS}(ps:List (Nat×Nat))(A:injB (rho ps) (τ.me.map (·.1))=true)(h1:LeV σ (rho ps) (τ.me.map (·.1)) τ.tm)(D:LeE σ (rho ps) (τ.me.map (·.1)) τ.me)(O:cx.ev=false):Le cx σ τ:=fun a w ⟨γ,h⟩=>by
 generalize H:τ.me.map (·.1)=ids at *;generalize rho ps=ρ at *;have z:∀ i,lkE τ.me i≠none ↔ i∈ids:=fun i=>by rw [Hk,H]
 let γ':Gam:=fun i=>if i∈ids then γ (ρ i) else none
 have c:∀ i,i∈ids->γ' i=γ (ρ i):=fun i hi=>if_pos hi
 have m:∀ b,own γ' b->own γ b:=fun b ⟨i,s,hi,n⟩=>by
  by_cases hm:i∈ids
  ·rw [c i hm] at hi;exact ⟨_,s,hi,n⟩
  ·rw [show γ' i=none from if_neg hm] at hi;cases hi
 have u:∀ b,Sg cx.S0 cx.w0.heap.size γ b->Sg cx.S0 cx.w0.heap.size γ' b:=fun b n=>n.elim aK (fun ⟨h1,D⟩=>aL ⟨h1,fun N=>D (m b N)⟩)
 have C:∀ {g:Gam} {av v},Rep w (Sg cx.S0 cx.w0.heap.size γ) g av v->Rep w (Sg cx.S0 cx.w0.heap.size γ') g av v:=fun h=>h.mono (aA _) (fun b n _=>⟨rfl,u b n⟩)
 refine ⟨γ',fun t=>?_,fun i=>?_,fun i j b s V hi F mi mj=>?_,fun b n=>h.ge b (m b n),h.below,h.size,h.defers.gam m O,h.gh,fun b n=>by obtain ⟨U,T,R⟩:=h.fr b n;exact ⟨fun N=>U (m b N),T,R⟩,h.dr⟩
 ·rcases h1.get t with y|⟨y,hm⟩
  ·unfold AS.get;rw [y];exact .any _
  ·have:=h.tm t;rw [y] at this;exact C (this.ren c _ rfl hm)
 ·rcases D.get i with y|⟨e,y,Q,hm⟩
  ·unfold AS.find;rw [y];have:i ∉ ids:=fun hi=>(z i).2 hi y
   exact if_neg this
  ·unfold AS.find;rw [y];have hi:i∈ids:=(z i).1 (by rw [y];simp);rw [c i hi];have:=h.me (ρ i);rw [Q] at this;obtain ⟨x,P,q⟩:=this;refine ⟨x,P,?_⟩;cases e with
   |box ty cs =>
    obtain ⟨g,vs,I,n,L,M,r⟩:=q;simp only [Ent.inM] at hm;refine ⟨g,vs,I,n,by rw [L,AV.renL_length],fun k J=>C ((M k (by rw [AV.renL_length];exact J)).ren c _ (AV.renL_at _ _ _ _) (AV.inML_at hm k J)),r⟩
   |row ty sz xs =>
    obtain ⟨s,vs,I,h1,m,G,M,r⟩:=q;exact ⟨s,vs,I,h1,m,G,fun k J j F=>C (M k J j F),r⟩
   |mp ps =>
    obtain ⟨g,I,hm⟩:=q;exact ⟨g,I,hm.move (aA _) (fun b n _=>⟨rfl,u b n⟩) rfl⟩
   |nest ty es=>exact B8.nest_mono q u
   |mpn ps=>exact B8.mpn_mono q u
   |are ty idx os=>exact q.gmono (fun _ _ h=>by cases h) u
   |it ps=>exact q.gmono (fun _ _ h=>by cases h) u
   |itp ps=>exact q.gmono (fun _ _ h=>by cases h) u
   |itc p ps=>exact q.gmono (fun _ _ h=>by cases h) u
   |dead=>exact q
   |gen ty sz xs=>exact q.gen_ren c hm u
   |lp fn ps a b nt busy caps=>exact q.lp_ren c hm u
 ·by_cases h1:i∈ids
  ·by_cases D:j∈ids
   ·rw [c i h1] at hi;rw [c j D] at F;have e:=h.inj _ _ _ _ _ hi F mi mj;simp only [injB,all_eq_true,Bool.or_eq_true,Bool.not_eq_true'] at A;rcases A i h1 j D with K|K
    ·rw [e] at K;simp at K
    ·exact aB K
   ·rw [show γ' j=none from if_neg D] at F;cases F
  ·rw [show γ' i=none from if_neg h1] at hi;cases hi
def Mp (σ:AS):AV->AV |.tup cs=>.tup (cs.map (Mq σ)) |x=>Mq σ x
def retA (tab:List (Nat×TyI))(σ:AS):List ResultVar->Option (List AV)
 |[]=>some []
 |.tmp t::r=>(retA tab σ r).map (σ.get t::·)
 |.cell t T::r=>match σ.get t,lkT tab T with
  |.ptr id off,some i=>match σ.find id with
   |some (.box _ cs)=>match i.shape.agg with
    |true=>match Nat.ble (off+i.sz) cs.length with
     |true=>(retA tab σ r).map (.agg ((cs.drop off).take i.sz)::·)
     |false=>none
    |false=>match cs[off]? with
     |some av=>(retA tab σ r).map (av::·)
     |none=>none
   |_=>none
  |_,_=>none
def Fd:List AV->AV |[x]=>x |xs=>.tup xs
section
variable {cx:Cx} {γ:Gam} {σ:AS} {a:Act} {w:World}
theorem zgz {id off T:Nat}{i:TyI}{cs:List AV}(q:StG cx γ σ a w)(x:Rep w (Sg cx.S0 cx.w0.heap.size γ) γ (.ptr id off) v)(F:lkT cx.E.tab T=some i)(D:i.shape.agg=true)(A:σ.find id=some (.box ty cs))(G:off+i.sz<=cs.length) :
  ∃ u,((do loadVar T (<-asAddr v)):Sem Value).run cx.P w=.ok u w/\Rep w (Sg cx.S0 cx.w0.heap.size γ) γ (.agg ((cs.drop off).take i.sz)) u:=by
 have m:=q.me id;rw [A] at m;obtain ⟨d,t,g,vs,s,C,y,z,k⟩:=m;subst s;have e:=x.ptr_inv t;subst e;have b:((range i.sz).map fun j=>vs.getD (off+j) undef).length=i.sz:=by simp
 have h:=Q1 (cx.E.ok T i F) D w ⟨g,off,none⟩ ((range i.sz).map fun j=>vs.getD (off+j) undef) b (fun j v p=>by
  obtain ⟨r,n⟩:=List.getElem?_eq_some_iff.1 p;rw [b] at r;simp only [getElem_map,getElem_range] at n;rw [Addr.add_lit,Mh C _ (by omega),n])
 refine ⟨.agg ((range i.sz).map fun j=>vs.getD (off+j) undef).toArray,by simp only [asAddr,Sem.run_bind,Sem.run_pure,Result.andThen_ok,h],.agg _ (by simp;omega) (fun j p=>?_) (fun j p=>?_)⟩
 ·rw [length_take,length_drop] at p;simp only [getElem_take,getElem_drop];have:((range i.sz).map fun j=>vs.getD (off+j) undef).toArray.getD j undef=vs.getD (off+j) undef:=by
   have c:j<i.sz:=by omega
   simp [c]
  rw [this];exact z (off+j) (by omega)
 ·have c:j<i.sz:=by simpa using p
  have:((range i.sz).map fun j=>vs.getD (off+j) undef).toArray.getD j undef=vs.getD (off+j) undef:=by simp [c]
  rw [this];exact k _ (by omega)
theorem zgy {id off T:Nat}{i:TyI}{cs:List AV}{av:AV}(h:StG cx γ σ a w)(q:Rep w (Sg cx.S0 cx.w0.heap.size γ) γ (.ptr id off) v)(A:lkT cx.E.tab T=some i)(z:i.shape.agg=false)(t:σ.find id=some (.box ty cs))(x:cs[off]? = some av) :
  ∃ u,((do loadVar T (<-asAddr v)):Sem Value).run cx.P w=.ok u w/\Rep w (Sg cx.S0 cx.w0.heap.size γ) γ av u:=by
 have c:=h.me id;rw [t] at c;obtain ⟨d,m,g,vs,k,y,r,s,p⟩:=c;subst k;have e:=q.ptr_inv m;subst e;obtain ⟨j,n⟩:=List.getElem?_eq_some_iff.1 x;have b:=Q0 (cx.E.ok T i A) z w ⟨g,off,none⟩ (vs.getD off undef) (Mh y off (by omega));refine ⟨vs.getD off undef,by simp only [asAddr,Sem.run_bind,Sem.run_pure,Result.andThen_ok,b],?_⟩;have:=s off j
 rwa [n] at this
def Jn (tmps:Array Value):ResultVar->Sem Value
 |.tmp t=>pure (tmps.getD t undef)
 |.cell a t=>do loadVar t (<-asAddr (tmps.getD a undef))
theorem z8z (e:StG cx γ σ a w):∀ (l:List ResultVar) (avs:List AV),retA cx.E.tab σ l=some avs ->
  ∃ vs:List Value,(l.mapM (Jn a.tmps)).run cx.P w=.ok vs w/\vs.length=avs.length/\∀ i (hi:i<avs.length),Rep w (Sg cx.S0 cx.w0.heap.size γ) γ avs[i] (vs.getD i undef)
 |[],avs,h=>by
  simp only [retA,aF] at h;subst h;exact ⟨[],by simp [pure],rfl,fun i hi=>by simp at hi⟩
 |x::r,avs,h=>by
  have key:∀ (av:AV) (b:List AV),retA cx.E.tab σ r=some b->avs=av::b->(∃ u,(Jn a.tmps x).run cx.P w=.ok u w/\Rep w (Sg cx.S0 cx.w0.heap.size γ) γ av u) ->
    ∃ vs:List Value,((x::r).mapM (Jn a.tmps)).run cx.P w=.ok vs w/\vs.length=avs.length/\∀ i (hi:i<avs.length),Rep w (Sg cx.S0 cx.w0.heap.size γ) γ avs[i] (vs.getD i undef):=by
   rintro av b c rfl ⟨u,z,n⟩;obtain ⟨vs,h1,C,A⟩:=z8z e r b c;refine ⟨u::vs,?_,by simp [C],fun i hi=>?_⟩
   ·rw [mapM_cons];simp only [Sem.run_bind,z,Result.andThen_ok,h1,Sem.run_pure]
   ·cases i with
    |zero=>exact n
    |succ i=>have:=A i (by simpa using hi);simpa using this
  cases x with
  |tmp t =>
   simp only [retA,aG] at h;obtain ⟨b,c,m⟩:=h;exact key _ b c m.symm ⟨_,by simp [Jn,pure],e.tm t⟩
  |cell t T =>
   simp only [retA] at h;split at h
   ·rename_i id off i j y;split at h
    ·rename_i ty cs s;split at h
     ·rename_i g;split at h
      ·rename_i p;simp only [aG] at h;obtain ⟨b,c,m⟩:=h;have k:=e.tm t;rw [j] at k;exact key _ b c m.symm (zgz e k y g s (Nat.le_of_ble_eq_true p))
      ·cases h
     ·rename_i g;split at h
      ·rename_i av q;simp only [aG] at h;obtain ⟨b,c,m⟩:=h;have k:=e.tm t;rw [j] at k;exact key _ b c m.symm (zgy e k y g s q)
      ·cases h
    ·cases h
   ·cases h
theorem zne (fn:Func)(tmps:Array Value):results fn tmps=(fn.results.mapM (Jn tmps) >>= fun vs=>pure (if h:vs.size=1 then vs[0] else .tuple vs)):=by
 unfold results;have e:(fun x:ResultVar=>match x with
  |.tmp t=>(pure (tmps.getD t undef):Sem Value)
  |.cell a t=>(do loadVar t (<-asAddr (tmps.getD a undef)):Sem Value))=Jn tmps:=by funext x;cases x<;>rfl
 rw [<-e];rfl
theorem J4 (e:StG cx γ σ a w){fn:Func}{avs:List AV}(h:retA cx.E.tab σ fn.results.toList=some avs):∃ v,(results fn a.tmps).run cx.P w=.ok v w/\Rep w (Sg cx.S0 cx.w0.heap.size γ) γ (Fd avs) v:=by
 obtain ⟨vs,h1,c,j⟩:=z8z e fn.results.toList avs h;have hm:(fn.results.mapM (Jn a.tmps)).run cx.P w=.ok vs.toArray w:=by
  rw [Array.mapM_eq_mapM_toList];show Sem.run cx.P (mapM (Jn a.tmps) fn.results.toList >>= fun l=>pure l.toArray) w=_;simp only [Sem.run_bind,h1,Result.andThen_ok,Sem.run_pure]
 have b:(results fn a.tmps).run cx.P w=.ok (if h:vs.toArray.size=1 then vs.toArray[0] else .tuple vs.toArray) w:=by
  rw [zne];simp only [Sem.run_bind,hm,Result.andThen_ok,Sem.run_pure]
 refine ⟨_,b,?_⟩;cases avs with
 |nil =>
  have:vs=[]:=length_eq_zero_iff.1 c;subst this;exact .tup #[] rfl (fun i hi=>by simp at hi)
 |cons x r =>
  cases r with
  |nil =>
   obtain ⟨u,rfl⟩:∃ u,vs=[u]:=by
    cases vs with
    |nil=>simp at c
    |cons u t=>cases t with
     |nil=>exact ⟨u,rfl⟩
     |cons _ _=>simp at c
   exact j 0 (by simp)
  |cons y r =>
   have g:¬vs.toArray.size=1:=by simp [c]
   rw [dif_neg g];refine .tup vs.toArray (by simpa using c) (fun i hi=>?_);have:=j i hi;simpa using this
end
mutual
def fAV {α:Type}:AV->(AV->α)->α |.any,k=>k .any |.int kd n,k=>k (.int kd n) |.bool b,k=>k (.bool b) |.str s,k=>k (.str s) |.nilp,k=>k .nilp |.ptr id off,k=>k (.ptr id off) |.nils,k=>k .nils |.sl sz xs,k=>k (.sl sz xs) |.row id,k=>k (.row id) |.elt id sz m j,k=>k (.elt id sz m j) |.fn f cap,k=>fL cap fun l=>k (.fn f l) |.yld r T cap,k=>fL cap fun l=>k (.yld r T l) |.nilf,k=>k .nilf |.agg cs,k=>fL cs fun l=>k (.agg l) |.tup cs,k=>fL cs fun l=>k (.tup l) |.ref cs,k=>k (.ref cs) |.der c id,k=>k (.der c id) |.cont n id,k=>k (.cont n id) |.mapv ps,k=>k (.mapv ps) |.slen n,k=>k (.slen n)
def fL {α:Type}:List AV->(List AV->α)->α |[],k=>k [] |x::r,k=>fAV x fun b=>fL r fun c=>k (b::c)
end
mutual
theorem Mn {α:Type}:∀ (v:AV) (k:AV->α),fAV v k=k v
 |.any,k=>rfl
 |.int kd n,k=>rfl
 |.bool b,k=>rfl
 |.str s,k=>rfl
 |.nilp,k=>rfl
 |.ptr id off,k=>rfl
 |.nils,k=>rfl
 |.sl sz xs,k=>rfl
 |.row id,k=>rfl
 |.elt id sz m j,k=>rfl
 |.fn f cap,k=>by rw [fAV,Mw]
 |.yld r T cap,k=>by rw [fAV,Mw]
 |.nilf,k=>rfl
 |.agg cs,k=>by rw [fAV,Mw]
 |.tup cs,k=>by rw [fAV,Mw]
 |.ref cs,k=>rfl
 |.der c id,k=>rfl
 |.cont n id,k=>rfl
 |.mapv ps,k=>rfl
 |.slen n,k=>rfl
theorem Mw {α:Type}:∀ (l:List AV) (k:List AV->α),fL l k=k l
 |[],k=>rfl
 |x::r,k=>by rw [fL,Mn,Mw]
end
mutual
inductive Sub:AV->AV->Prop
 |refl (v:AV):Sub v v
 |nil (sz:Nat):Sub .nils (.sl sz [])
 |any (v:AV):Sub v .any
 |agg {cs ds:List AV} (h:SubL cs ds):Sub (.agg cs) (.agg ds)
 |tup {cs ds:List AV} (h:SubL cs ds):Sub (.tup cs) (.tup ds)
 |fn {f:FuncId} {cs ds:List AV} (h:SubL cs ds):Sub (.fn f cs) (.fn f ds)
 |yld {l:Nat} {T:Array Value} {cs ds:List AV} (h:SubL cs ds):Sub (.yld l T cs) (.yld l T ds)
 |sl (sz:Nat) {xs ys:List AV} (h:SubE xs ys):Sub (.sl sz xs) (.sl sz ys)
inductive SubL:List AV->List AV->Prop
 |nil:SubL [] []
 |cons {x y:AV} {r s:List AV} (h:Sub x y) (hr:SubL r s):SubL (x::r) (y::s)
inductive SubE:List AV->List AV->Prop
 |nil:SubE [] []
 |cons {x y:AV} {r s:List AV} (h:SubL x.cells y.cells) (hr:SubE r s):SubE (x::r) (y::s)
end
variable {cs ds:List AV}
theorem SubE.len (h:SubE cs ds):cs.length=ds.length:=by
 induction cs generalizing ds with
 |nil=>cases h;rfl
 |cons x r ih=>cases h with
  |cons c b=>simp [ih b]
theorem SubE.at (h:SubE cs ds)(i:Nat)(hi:i<cs.length)(b:i<ds.length):SubL cs[i].cells ds[i].cells:=by
 induction cs generalizing ds i with
 |nil=>simp at hi
 |cons x r ih=>cases h with
  |cons c e=>cases i with
   |zero=>exact c
   |succ i=>exact ih e i (by simpa using hi) (by simpa using b)
theorem SubL.len (h:SubL cs ds):cs.length=ds.length:=by
 induction cs generalizing ds with
 |nil=>cases h;rfl
 |cons x r ih=>cases h with
  |cons c b=>simp [ih b]
theorem SubL.at (h:SubL cs ds)(i:Nat)(hi:i<cs.length)(b:i<ds.length):Sub cs[i] ds[i]:=by
 induction cs generalizing ds i with
 |nil=>simp at hi
 |cons x r ih=>cases h with
  |cons c e=>cases i with
   |zero=>exact c
   |succ i=>exact ih e i (by simpa using hi) (by simpa using b)
variable {av:AV}
theorem Rep.sub (h:Rep w S γ av v):∀ {bv:AV},Sub av bv->Rep w S γ bv v:=by
 induction h with
 |any v=>intro bv e;cases e<;>exact .any _
 |int k n=>intro bv e;cases e<;>first|exact .int _ _|exact .any _
 |bool b=>intro bv e;cases e<;>first|exact .bool _|exact .any _
 |str s=>intro bv e;cases e<;>first|exact .str _|exact .any _
 |nilp=>intro bv e;cases e<;>first|exact .nilp|exact .any _
 |nilf=>intro bv e;cases e<;>first|exact .nilf|exact .any _
 |ptr h p=>intro bv e;cases e<;>first|exact .ptr h p|exact .any _
 |elt h p=>intro bv e;cases e<;>first|exact .elt h p|exact .any _
 |row h p=>intro bv e;cases e<;>first|exact .row h p|exact .any _
 |der h p=>intro bv e;cases e<;>first|exact .der h p|exact .any _
 |cont h p m=>intro bv e;cases e<;>first|exact .cont h p m|exact .any _
 |mapv F N g es clock z G P O m r p M L=>intro bv e;cases e<;>first|exact .mapv F N g es clock z G P O m r p|exact .any _
 |mapn=>intro bv e;cases e<;>first|exact .mapn|exact .any _
 |slen A n c=>intro bv e;cases e<;>first|exact .slen A _ c|exact .any _
 |nils =>
  intro bv e;cases e with
  |refl=>exact .nils
  |any=>exact .any _
  |nil sz=>exact .sl (xs:=[]) none 0 (fun _ _=>.bool true) (aA _) (fun k r=>absurd r (by simp)) (fun h=>absurd h (by simp)) (fun k r=>absurd r (by simp)) (fun _ _=>rfl)
 |sl A c cell C u z q h1 t =>
  intro bv e;cases e with
  |refl=>exact .sl A c cell C u z q h1
  |any=>exact .any _
  |sl sz h =>
   have m:=h.len;rw [m] at C ⊢;refine .sl A c cell C (fun k r=>?_) (fun Q=>?_) (fun k r j D=>?_) h1
   ·rw [<-(h.at k (by omega) r).len];exact u k (by omega)
   ·obtain ⟨b,off,K,J,I,H⟩:=z (by omega);exact ⟨b,off,K,J,I,fun k j r D=>H k j (by omega) D⟩
   ·have x:=r;rw [<-m] at x;have e:=h.at k x r;have y:=D;rw [<-e.len] at y;exact t k x j y (e.at j y D)
 |ref b off cell G z C q h1 t=>intro bv e;cases e<;>first|exact .ref b off cell G z C q h1|exact .any _
 |fn vs m q t =>
  intro bv e;cases e with
  |refl=>exact .fn vs m q
  |any=>exact .any _
  |fn h=>exact .fn vs (by rw [m,h.len]) (fun i hi=>t i (by rw [h.len];exact hi) (h.at i _ hi))
 |yld q t =>
  intro bv e;cases e with
  |refl=>exact .yld q
  |any=>exact .any _
  |yld h=>exact .yld (fun i hi=>t i (by rw [h.len];exact hi) (h.at i _ hi))
 |agg vs m q h1 t =>
  intro bv e;cases e with
  |refl=>exact .agg vs m q h1
  |any=>exact .any _
  |agg h=>exact .agg vs (by rw [m,h.len]) (fun i hi=>t i (by rw [h.len];exact hi) (h.at i _ hi)) h1
 |tup vs m q t =>
  intro bv e;cases e with
  |refl=>exact .tup vs m q
  |any=>exact .any _
  |tup h=>exact .tup vs (by rw [m,h.len]) (fun i hi=>t i (by rw [h.len];exact hi) (h.at i _ hi))
variable {E:Env}{f:FuncId}{res:AV}
theorem Con.sub {fr:Bool}{avs bvs:List AV}(h:SubL avs bvs)(b:Con E fr f bvs res):Con E fr f avs res :=
 ⟨b.1,fun S w vs ⟨e,c⟩=>b.2 S w vs ⟨by rw [e,h.len],fun i hi=>(c i (by rw [h.len];exact hi)).sub (h.at i _ hi)⟩⟩
theorem E4.sub {avs bvs:List AV}{ty:Nat}(h:SubL avs bvs)(b:E4 E f bvs ty sz xs):E4 E f avs ty sz xs :=
 ⟨b.1,fun S w vs ⟨e,c⟩=>b.2 S w vs ⟨by rw [e,h.len],fun i hi=>(c i (by rw [h.len];exact hi)).sub (h.at i _ hi)⟩⟩
inductive RetX (v res:AV):Prop
 |sub (h:Sub v res)
theorem RetX.mk {v:AV}(h:v=res):RetX v res:=.sub (h▸.refl v)
inductive RowX (ty sz:Nat) (xs:List AV) (ty' sz':Nat) (xs':List AV):Prop
 |mk (h1:ty=ty') (h2:sz=sz') (h3:xs=xs')
def endA (E:Env)(fn:Func)(res:AV)(σ:AS):Prop:=match retA E.tab σ fn.results.toList with
 |some avs=>fAV (Mp σ (Fd avs)) fun v=>RetX v res
 |none=>False
def EndA (E:Env)(fn:Func)(res:AV):Exit->AS->Prop |.normal,σ=>endA E fn res σ |.ret,σ=>endA E fn res σ |_,_=>False
variable {fn:Func}
theorem Qd (h:endA E fn res σ):∃ avs,retA E.tab σ fn.results.toList=some avs/\Sub (Mp σ (Fd avs)) res:=by
 unfold endA at h;split at h
 ·rename_i avs b;rw [Mn] at h;cases h with
  |sub h=>exact ⟨avs,b,h⟩
 ·exact h.elim
def Di (args:List AV):AS:=⟨args.zipIdx.map fun p=>(p.2,p.1),[]⟩
theorem Qx:∀ (l:List AV) (n t:Nat),lkV ((l.zipIdx n).map fun p=>(p.2,p.1)) t=if h:n<=t/\t<n+l.length then l[t-n]'(by omega) else .any
 |[],n,t=>by simp [lkV];intro h;omega
 |x::r,n,t=>by
  simp only [zipIdx_cons,map_cons,lkV];cases b:aJ n t with
  |true=>have:=aB b;subst this;simp
  |false =>
   have c:n≠t:=fun e=>by subst e;simp at b
   simp only;rw [Qx r (n+1) t];by_cases h:n+1<=t/\t<n+1+r.length
   ·rw [dif_pos h,dif_pos (by simp;omega)];have:t-n=(t-(n+1))+1:=by omega
    simp only [this,getElem_cons_succ]
   ·rw [dif_neg h,dif_neg (by simp;omega)]
variable {args:List AV}
theorem Qj {vs:Array Value}{c:Nat}(k:E.yl=none)(p:E.np=0)(q:E.ld=false)(h:Args w S args vs)(C:args.length<=c):St (aR E S w c) (Di args) { tmps:=vs++aN (c-vs.size) undef,defers:=[] } w:=by
 obtain ⟨x,n⟩:=h;refine ⟨G0,fun t=>?_,fun i=>rfl,fun i j b s A h=>(by cases h),fun b ⟨i,s,h,_⟩=>(by cases h),Below.refl _ _,by simp [aR];omega,⟨fun _=>rfl,⟨[],rfl,.nil,fun r n=>by cases n⟩,fun t m=>by rw [show (aR E S w c).E.np=0 from p] at m;omega,fun l R x=>absurd (k.symm.trans x) (by simp),aA _,fun h=>absurd h (by simp [aR]),fun h=>absurd (q.symm.trans h) (by simp),(fun d y=>by cases y),Nat.zero_le _⟩,fun b u=>u.2,fun b u=>u.elim,fun _=>aA _⟩;unfold AS.get Di;rw [Qx];by_cases h:0<=t/\t<0+args.length
 ·rw [dif_pos h];have m:t<vs.size:=by omega
  have e:(vs++aN (c-vs.size) undef).getD t undef=vs.getD t undef:=by
   rw [aC,aC,Array.getElem?_append_left m]
  show Rep w _ G0 _ ((vs++aN (c-vs.size) undef).getD t undef);rw [e];refine (n t (by omega)).mono (aA _) (fun b z g=>⟨rfl,aK ⟨⟨z,g⟩,g⟩⟩)
 ·rw [dif_neg h];exact .any _
theorem Zl {cx:Cx}{a:Act}(c:StG cx γ σ a w)(e:∀ b,Sg cx.S0 cx.w0.heap.size γ b\/own γ b->S' b)(h:Rep w (Sg cx.S0 cx.w0.heap.size γ) γ av v):Rep w S' G0 (Mp σ av) v:=by
 cases av with
 |tup cs =>
  obtain ⟨vs,rfl,k,j⟩:=h.tup_inv;simp only [Mp];refine .tup vs (by simpa using k) (fun i hi=>?_);have g:i<cs.length:=by simpa using hi
  simp only [getElem_map];exact Zm c e (j i g) (fun _ _=>rfl)
 |_=>exact Zm c e h (fun _ _=>rfl)
theorem Con.of {fr:Bool}{c:Code}(z:E.P.funcs[f]? = some fn)(i:fn.body=some c)(A:Bh E f)(y:args.length<=fn.ntmps)(j:fr=false\/res.flat=true)
  (h:∀ S w,WP (aR E S w fn.ntmps) c (EndA E fn res) (Di args)) (p:E.rg=false) (m:E.yl=none) (r:E.np=0) (s:E.ld=false):Con E fr f args res:=by
 refine ⟨A,fun S w vs C=>callsIn_wide.1 (callsIn_of_wp (F:=Fence.wide) (n:=0) z i trivial ?_)⟩;refine wpIn_mono (h S w _ _ (Qj m r s C y)) (fun e a w' ⟨σ,q,γ,g⟩=>?_);have key:(∃ avs,retA E.tab σ fn.results.toList=some avs/\Sub (Mp σ (Fd avs)) res)->bodyPost E.P fn (fun e w'=>∃ v,e=.returned v/\BelE E w w'/\Rep w' (fun b=>(fr=false/\S b)\/w.heap.size<=b) G0 res v) .ret a w':=by
  rintro ⟨avs,h1,k⟩;obtain ⟨v,u,x⟩:=J4 g h1;refine ⟨g.defers.d0 p,v,u,v,rfl,⟨g.below,g.dr⟩,?_⟩;have t:=(Zl (S':=fun b=>S b\/w.heap.size<=b) g (fun b i=>?_) x).sub k
  ·rcases j with j|j
   ·exact t.mono (aA _) (fun b i _=>⟨rfl,i.elim (fun h=>aK ⟨j,h⟩) aL⟩)
   ·exact t.flat j
  ·rcases i with i|i
   ·rcases i with ⟨i,_⟩|⟨i,_⟩
    ·exact aK i.1
    ·exact aL i.1
   ·exact aL (g.ge b i).1.1
 cases e with
 |normal=>exact key (Qd q)
 |ret=>exact key (Qd q)
 |_=>exact q.elim
def endR (fn:Func)(ty sz:Nat)(xs:List AV)(σ:AS):Prop:=match fn.results.toList with
 |[.tmp t]=>match σ.get t with
  |.row id=>match σ.find id with
   |some (.row c e b)=>RowX c e b ty sz xs
   |_=>False
  |_=>False
 |_=>False
def EndR (fn:Func)(ty sz:Nat)(xs:List AV):Exit->AS->Prop |.normal,σ=>endR fn ty sz xs σ |.ret,σ=>endR fn ty sz xs σ |_,_=>False
theorem zhb {ty:Nat}(h:endR fn ty sz xs σ):∃ t id,fn.results.toList=[.tmp t]/\σ.get t=.row id/\σ.find id=some (.row ty sz xs):=by
 unfold endR at h;split at h
 ·rename_i t i;split at h
  ·rename_i id b;split at h
   ·rename_i e g c j;cases h with
    |mk h1 m k=>subst h1;subst m;subst k;exact ⟨t,id,i,b,j⟩
   ·exact h.elim
  ·exact h.elim
 ·exact h.elim
theorem E4.of {c:Code}{ty:Nat}(Q:E.P.funcs[f]? = some fn)(T:fn.body=some c)(R:Bh E f)(P:args.length<=fn.ntmps)
  (h:∀ S w,WP (aR E S w fn.ntmps) c (EndR fn ty sz xs) (Di args)) (A:E.rg=false) (x:E.yl=none) (D:E.np=0) (G:E.ld=false):E4 E f args ty sz xs:=by
 refine ⟨R,fun S w vs U=>callsIn_wide.1 (callsIn_of_wp (F:=Fence.wide) (n:=0) Q T trivial ?_)⟩;refine wpIn_mono (h S w _ _ (Qj x D G U P)) (fun e a w' ⟨σ,C,γ,g⟩=>?_);have key:(∃ t id,fn.results.toList=[.tmp t]/\σ.get t=.row id/\σ.find id=some (.row ty sz xs))->bodyPost E.P fn (fun e w'=>∃ v us,e=.returned v/\Below w.heap.size w w'/\w'.ownsRow w.heap.size ty sz v xs.length us /\
  (∀ k (H:k<xs.length),(xs[k]).cells.length=sz)/\(∀ k (H:k<xs.length) j (L:j<(xs[k]).cells.length),Rep w' (fun b=>(S b\/w.heap.size<=b)/\v.ownBlock≠some b) G0 ((xs[k]).cells[j]) (us.getD (k*sz+j) undef))/\∀ u∈us,u.oneCell'=true) .ret a w':=by
  rintro ⟨t,id,h1,W,V⟩;obtain ⟨v,N,O⟩:=J4 (avs:=[.row id]) g (by rw [h1];simp [retA,W]);have q:=g.me id;rw [V] at q;obtain ⟨d,M,s,us,I,J,p,r,z,m⟩:=q;subst I;have y:v=s:=O.row_inv M;subst y;refine ⟨g.defers.d0 A,v,N,v,us,rfl,g.below,p,r,fun k H j L=>?_,m⟩;refine (z k H j L).mono (aA _) (fun b i _=>⟨rfl,?_,fun e=>?_⟩)
  ·rcases i with ⟨i,_⟩|⟨i,_⟩
   ·exact aK i.1
   ·exact aL i.1
  ·have K:own γ b:=⟨id,_,M,by rw [e];exact Bc⟩;rcases i with ⟨_,i⟩|⟨_,i⟩
   ·have:=(g.ge b K).1.1;exact absurd i (by show ¬b<w.heap.size;exact Nat.not_lt.2 this)
   ·exact i K
 cases e with
 |normal=>exact key (zhb C)
 |ret=>exact key (zhb C)
 |_=>exact C.elim
open Go.RowKit
section
variable {α:Type}
theorem Jf (l m:List α)(o q:Nat)(h:o+m.length<=l.length):(l.take o++m++l.drop (o+m.length))[q]? = if q<o then l[q]? else if q<o+m.length then m[q-o]? else l[q]? := by
 by_cases h1:q<o
 ·rw [if_pos h1,append_assoc,aP (by simp;omega),aM h1]
 ·rw [if_neg h1];by_cases b:q<o+m.length
  ·rw [if_pos b,append_assoc,aO (by simp;omega),aP (by simp;omega)];rw [show q-(List.take o l).length=q-o by simp;omega]
  ·rw [if_neg b,aO (by simp;omega),getElem?_drop];rw [show o+m.length+(q-(List.take o l++m).length)=q by simp;omega]
theorem X7 (l m:List α)(o n:Nat)(h:o+m.length<=n)(c:n<=l.length):(l.take o++m++l.drop (o+m.length)).take n=(l.take n).take o++m++(l.take n).drop (o+m.length):=by
 apply ext_getElem?;intro q;rw [Jf (l.take n) m o q (by simp;omega)];by_cases b:q<n
 ·rw [aM b,Jf l m o q (by omega),aM b]
 ·rw [aU (by simp;omega),if_neg (by omega),if_neg (by omega),aU (by simp;omega)]
theorem U9 (l m:List α)(o:Nat)(h:o+m.length<=l.length):(l.take o++m++l.drop (o+m.length)).length=l.length:=by simp;omega
end
section
variable {cx:Cx} {σ:AS} {o:Oper}
theorem z90 {T id k j:Nat}{x y:Operand}{i:TyI}{el el':AV}(ho:o.op=.store T x y)(hd:dok cx o=true)(ba:A0 x=true)(az:A0 y=true)(hx:σ.eval x=.elt id sz k j)(hy:σ.eval y=av)(hT:lkT cx.E.tab T=some i)(hl:σ.find id=some (.row ty sz xs))
  (he:xs[k]? = some el) (ay:av.cells.length=i.sz) (bo:j+i.sz<=sz) (hc:okc σ av=true) (bn:av.closed=true) (U:el'.cells=el.cells.take j++av.cells++el.cells.drop (j+i.sz)) :
  A9 cx o σ (.tup []) (id::av.ids) [(id,.row ty sz (xs.set k el'))]:=by
 refine ⟨fun C e he=>?_,fun τ h1 h2 a w Q K ⟨γ,n⟩ hK=>Br (fun c hc=>by rw [ho] at hc;cases hc) ?_⟩
 ·simp only [lkE] at he;cases hb:aJ id C with
  |true=>simp [aB hb]
  |false=>rw [hb] at he;cases he
 have ar:=n.ev x ba;rw [h1 x (by simp [ho,Op.operands]),hx] at ar;have Z:=n.ev y az;rw [h1 y (by simp [ho,Op.operands]),hy] at Z;have al:=n.me id;rw [h2 id (by simp),hl] at al;obtain ⟨d,A,s,vs,bl,bc,ai,J,hr,X⟩:=al;subst bl;obtain ⟨hk,V⟩:=List.getElem?_eq_some_iff.1 he;obtain ⟨bb,ae⟩:=ai;rcases ae with ⟨_,h0⟩|⟨g,cap,O,rfl,af,L,I,hm,bm,aa⟩
 ·omega
 have A:γ id=some (some (some g,.slice (some ⟨g,0,none⟩) xs.length cap)):=A;have e:=ar.elt_inv A;obtain ⟨c1,c2,c3⟩:=Qf n Z hc (fun id ac=>h2 id (by simp [ac]));have H:∀ u∈(a.eval y).cells.toList,u.oneCell'=true:=fun u P=>by
  obtain ⟨q,G,rfl⟩:=mem_iff_getElem.1 P;have ah:q<(a.eval y).cells.size:=by simpa using G
  have:=c3 q ah;simpa [Array.getD,ah] using this
 have R:(a.eval y).cells.toList.length=i.sz:=by simp;omega
 have an:=J k hk;have br:k*sz+sz<=xs.length*sz:=by
  have:(k+1)*sz<=xs.length*sz:=aD _ hk;rw [aS] at this;exact this
 have bs:xs.length*sz<=cap*sz:=aD _ I;have W:=Wh (cx.E.ok T i hT) w g (k*sz+j) ty O (a.eval y) L (c1.trans ay) (by omega) H;unfold Oper.wp;generalize N:(O.toList.take (k*sz+j)++(a.eval y).cells.toList++O.toList.drop (k*sz+j+i.sz)).toArray=p at W;have bj:(execOp a.eval o).run cx.P w=.ok .skip (w.setRow g p):=by
  simp only [execOp,ho,e,Instr.storeAt,Instr.sureAddr,Sem.run_bind,Sem.run_pure,Result.andThen_ok,W]
 rw [bj];have ax:=setRow_heap w g O p ty (0,0) L;have t:∀ q,q≠g->(w.setRow g p).heap[q]? = w.heap[q]? := fun q G=>setRow_other w g q _ G
 have ad:own γ g:=own.mk A;have ap:=n.ge g ad;have aj:∀ b,Sg cx.S0 cx.w0.heap.size γ b->b≠g:=fun b hS e=>by
  subst e;rcases hS with ⟨_,h⟩|⟨_,h⟩
  ·have:=ap.1.1;omega
  ·exact h ad
 generalize D:w.setRow g p=w' at *;have hz:w.heap.size<=w'.heap.size:=by rw [<-D];simp
 have bk:w.drawn<=w'.drawn:=by rw [<-D];exact aA _
 have ab:∀ {γ':Gam} {av v},Rep w (Sg cx.S0 cx.w0.heap.size γ) γ' av v->Rep w' (Sg cx.S0 cx.w0.heap.size γ) γ' av v:=fun h=>h.mono hz (fun b hS _=>⟨t b (aj b hS),hS⟩)
 refine hK _ _ ⟨γ,n.step (Bj hd) hz (fun b hS am=>⟨t b (aj b hS),hS⟩) (fun id d h=>aK h) (fun C ao=>⟨rfl,fun g' s bi bh=>t g' ?_⟩) (fun C e' M=>?_) n.inj (fun b aw=>⟨(n.ge b aw).1,aQ (n.ge b aw).2 hz⟩) ?_ (.tup #[] rfl (fun i hi=>by simp at hi)) (fun b ak _=>⟨t b (fun e=>ak (e▸ad)),ak⟩) (fun _=>bk)⟩
 ·rintro rfl;have:=n.inj _ _ _ _ _ bi A bh Bc;subst this;simp [lkE] at ao
 ·have ac:C=id:=by
   simp only [lkE] at M;cases au:aJ id C with
   |true=>exact (aB au).symm
   |false=>rw [au] at M;cases M
  subst ac;simp only [lkE,aW,aF] at M;subst M;have ag:p.toList.take (xs.length*sz)=vs.take (k*sz+j)++(a.eval y).cells.toList++vs.drop (k*sz+j+i.sz):=by
   rw [<-N,<-aa,<-R];exact X7 _ _ _ _ (by omega) (by simp;omega)
  have aq:∀ q,(vs.take (k*sz+j)++(a.eval y).cells.toList++vs.drop (k*sz+j+i.sz))[q]? = if q<k*sz+j then vs[q]? else if q<k*sz+j+i.sz then (a.eval y).cells.toList[q-(k*sz+j)]? else vs[q]? := fun q=>by
   rw [<-R];exact Jf _ _ _ _ (by omega)
  refine ⟨_,A,.slice (some ⟨g,0,none⟩) xs.length cap,vs.take (k*sz+j)++(a.eval y).cells.toList++vs.drop (k*sz+j+i.sz),rfl,bc,⟨?_,aL ⟨g,cap,p,by simp,af,ax,by simpa using I,hm,?_,by simpa using ag⟩⟩,?_,?_,?_⟩
  ·rw [<-R,U9 _ _ _ (by omega)];simpa using bb
  ·rw [<-N];have:=U9 O.toList (a.eval y).cells.toList (k*sz+j) (by simp;omega);rw [R] at this;simpa [bm] using this
  ·intro q G;rw [length_set] at G;rw [aV];by_cases z:k=q
   ·rw [if_pos z,U];rw [V] at an;simp;omega
   ·rw [if_neg z];exact J q G
  ·intro q G r F;rw [length_set] at G;have bq:=J q G;rw [aH,aq];rw [aV] at F;by_cases z:k=q
   ·subst z;rw [V] at an;simp only [getElem_set_self];rw [if_pos rfl,U] at F;simp only [length_append,length_take,length_drop] at F;have Y:∀ r,(h:r<el.cells.length)->Rep w' (Sg cx.S0 cx.w0.heap.size γ) G0 el.cells[r] (vs[k*sz+r]?.getD undef):=fun r h=>by
     have:=hr k hk r (by rw [V];exact h);simp only [V] at this;rw [aH] at this;exact ab this
    have m:(el'.cells)[r]? = if r<j then el.cells[r]? else if r<j+i.sz then av.cells[r-j]? else el.cells[r]? := by
     rw [U,<-ay];exact Jf _ _ _ _ (by omega)
    have bd:r<el'.cells.length:=by rw [U];simp;omega
    rw [aE bd] at m;by_cases h1:r<j
    ·rw [if_pos (by omega)];rw [if_pos h1,aE (by omega)] at m;injection m with m
     rw [m];exact Y r (by omega)
    ·rw [if_neg (by omega)];rw [if_neg h1] at m;by_cases h2:r<j+i.sz
     ·rw [if_pos (by omega)];rw [if_pos h2,aE (by omega)] at m;injection m with m
      rw [m];have bf:=c2 (r-j) (by omega);have:=(ab bf).close (γ':=G0) (Z4 bn (r-j) (by omega));rw [show k*sz+r-(k*sz+j)=r-j by omega];simpa [aC] using this
     ·rw [if_neg (by omega)];rw [if_neg h2,aE (by omega)] at m;injection m with m
      rw [m];exact Y r (by omega)
   ·have bg:(xs.set k el')[q]'(by simpa using G)=xs[q]:=by rw [aV,if_neg z]
    rw [if_neg z] at F;simp only [bg];have:=ab (hr q G r F);rw [aH] at this;have bp:¬(k*sz+j<=q*sz+r/\q*sz+r<k*sz+j+i.sz):=fun ⟨h1,h2⟩=>by
     rcases Nat.lt_or_gt_of_ne z with am|m
     ·have:(k+1)*sz<=q*sz:=aD _ am;rw [aS] at this;omega
     ·have:(q+1)*sz<=k*sz:=aD _ m;rw [aS] at this;omega
    by_cases h1:q*sz+r<k*sz+j
    ·rw [if_pos h1];exact this
    ·rw [if_neg h1,if_neg (by omega)];exact this
  ·intro u P;simp only [mem_append] at P;rcases P with (P|P)|P
   ·exact X u (mem_of_mem_take P)
   ·exact H u P
   ·exact X u (mem_of_mem_drop P)
 ·refine n.below.trans ⟨by rw [<-D];rfl,by rw [<-D];rfl,by rw [<-D];rfl,hz,fun k hk=>t k (by have:=ap.1.1;omega)⟩
theorem Uu {τ:AS}{a:Act}{w':World}{dst:Option Nat}{d ty:Nat}{u:Value}{us:List Value}(n:StG cx γ τ a w)(ab:cx.E.dr=true->w.drawn<=w'.drawn)(hn:τ.find d=none)(hd:∀ x,dst=some x->cx.E.np<=x/\x<cx.nt)(A:Below w.heap.size w w')(p:w'.ownsRow w.heap.size ty sz v xs.length us)
  (N:∀ k (Z:k<xs.length),(xs[k]).cells.length=sz) (U:∀ k (Z:k<xs.length) j (F:j<(xs[k]).cells.length),Rep w' (fun b=>(Sg cx.S0 cx.w0.heap.size γ b\/w.heap.size<=b)/\v.ownBlock≠some b) G0 ((xs[k]).cells[j]) (us.getD (k*sz+j) undef)) (L:∀ u∈us,u.oneCell'=true)
  (hu:(∀ b,(Sg cx.S0 cx.w0.heap.size γ b\/w.heap.size<=b)/\v.ownBlock≠some b->Sg cx.S0 cx.w0.heap.size (γ.set d (some (v.ownBlock,v))) b)->Rep w' (Sg cx.S0 cx.w0.heap.size (γ.set d (some (v.ownBlock,v)))) (γ.set d (some (v.ownBlock,v))) av u) :
  St cx (τ.upd dst av [(d,.row ty sz xs)]) (a.put dst u) w':=by
 have I:γ d=none:=by have:=n.me d;rw [hn] at this;exact this
 have C:=n.below.size;generalize D:γ.set d (some (v.ownBlock,v))=γ' at *;have q:γ' d=some (some (v.ownBlock,v)):=by rw [<-D];exact Gam.set_self _ _ _
 have c:∀ i,i≠d->γ' i=γ i:=fun i hi=>by rw [<-D];exact Gam.set_ne _ _ _ hi
 have m:∀ b,v.ownBlock=some b->w.heap.size<=b/\b<w'.heap.size:=fun b m=>by
  rcases p.2 with ⟨K,_⟩|⟨g,cap,Q,K,ad,hh,_⟩
  ·rw [K] at m;simp [Value.ownBlock] at m
  ·rw [K] at m;simp only [Value.ownBlock,aF] at m;subst m;exact ⟨ad,(Array.getElem?_eq_some_iff.1 hh).1⟩
 have t:∀ b,own γ' b->v.ownBlock=some b\/own γ b:=fun b ⟨id,s,hi,hm⟩=>by
  by_cases h:id=d
  ·subst h;rw [q] at hi;injection hi with hi;subst hi;exact aK (D9 (D8 (Cg p)) hm)
  ·rw [c id h] at hi;exact aL ⟨id,s,hi,hm⟩
 have M:∀ i x,γ i=some x->i≠d:=fun i x J e=>by subst e;rw [I] at J;cases J
 have P:∀ b,(Sg cx.S0 cx.w0.heap.size γ b\/w.heap.size<=b)/\v.ownBlock≠some b->Sg cx.S0 cx.w0.heap.size γ' b:=fun b ⟨h1,z⟩=>by
  rcases h1 with (h1|⟨h1,h3⟩)|h1
  ·exact aK h1
  ·refine aL ⟨h1,fun W=>?_⟩;rcases t b W with h|h
   ·exact z h
   ·exact h3 h
  ·refine aL ⟨⟨aT C h1,fun h0=>by have:=n.gh _ h0;omega⟩,fun W=>?_⟩;rcases t b W with h|h
   ·exact z h
   ·have:=(n.ge b h).2;omega
 have G:∀ b,Sg cx.S0 cx.w0.heap.size γ b->b<w.heap.size->Sg cx.S0 cx.w0.heap.size γ' b:=fun b A y=>P b ⟨aK A,fun e=>by have:=(m b e).1;omega⟩
 refine ⟨γ',n.step (γ':=γ') hd A.size (fun b P y=>⟨A.block b y,G b P y⟩) (fun i x J=>aK (by rw [c i (M i x J)];exact J)) (fun i hi=>?_) (fun i e' hi=>?_) (fun i j b s1 s2 h1 z T R=>?_) (fun b ac=>?_) (n.below.trans (A.mono C)) (hu P) (fun b X y=>⟨A.block b y,fun V=>by
  rcases t b V with h|h
  ·have:=(m b h).1;omega
  ·exact X h⟩) ab⟩
 ·have H:i≠d:=fun e=>by subst e;simp [lkE] at hi
  exact ⟨c i H,fun g' s' aa Y=>A.block g' (n.ge g' ⟨i,s',aa,Y⟩).2⟩
 ·have H:i=d:=by
   simp only [lkE] at hi;cases O:aJ d i with
   |true=>exact (aB O).symm
   |false=>rw [O] at hi;cases hi
  subst H;simp only [lkE,aW,aF] at hi;subst hi;exact ⟨_,q,v,us,rfl,Cg p,⟨p.1,p.2.elim aK (fun ⟨g,cap,Q,K,hg,r⟩=>aL ⟨g,cap,Q,K,aT C hg,r⟩)⟩,N,fun k Z j F=>(U k Z j F).mono (aA _) (fun b A _=>⟨rfl,P b A⟩),L⟩
 ·by_cases hi:i=d
  ·by_cases F:j=d
   ·rw [hi,F]
   ·subst hi;rw [q] at h1;rw [c j F] at z;injection h1 with h1
    subst h1;have q1:=(m b (D9 (D8 (Cg p)) T)).1;have q2:=(n.ge b ⟨j,_,z,R⟩).2;omega
  ·rw [c i hi] at h1;by_cases F:j=d
   ·subst F;rw [q] at z;injection z with z
    subst z;have q1:=(m b (D9 (D8 (Cg p)) R)).1;have q2:=(n.ge b ⟨i,_,h1,T⟩).2;omega
   ·rw [c j F] at z;exact n.inj _ _ _ _ _ h1 z T R
 ·rcases t b ac with h|h
  ·exact ⟨⟨aT C (m b h).1,fun h0=>by have:=n.gh _ h0;have:=(m b h).1;omega⟩,(m b h).2⟩
  ·exact ⟨(n.ge b h).1,aQ (n.ge b h).2 A.size⟩
theorem z5o {T id off:Nat}{x y:Operand}{i:TyI}{len e esz:Nat}{ag:Option Bool}{k:IntKind}{n:Int}{m:Nat}(t:o.op=.indexAddr T x y)(J:dok cx o=true)(r:A0 x=true)(q:A0 y=true)(D:σ.eval x=.ptr id off)(C:σ.eval y=.int k n)
  (I:σ.find id=some (.box ty cs)) (K:lkT cx.E.tab T=some i) (G:i.shape=.arr len e esz ag) (A:esz≠0) (H:n=(m:Int)) (hm:m<len):A9 cx o σ (.ptr id (off+m*esz)) [id] [] :=
 Ay J fun τ γ a w h1 L c=>by
  have j:=c.ev x r;rw [h1 x (by simp [t,Op.operands]),D] at j;have b:=c.ev y q;rw [h1 y (by simp [t,Op.operands]),C] at b;have h:=c.me id;rw [L id (by simp),I] at h;obtain ⟨d,p,g,vs,u,_⟩:=h;subst u;obtain ⟨F,z,_⟩:=zja (cx.E.ok T i K) G;have M:=j.ptr_inv p;refine ⟨.pointer (some ⟨g,off+m*esz,none⟩),?_,.ptr p (fun N s e=>by injection e with e;injection e with e _;injection e with e;rw [e])⟩;subst H;simp [execOp,t,M,b.int_inv,Instr.indexAt,Instr.sureAddr,asIntOf,run_underlying F,Dp z A,hm,pure,Addr.add_lit]
theorem zd8 {T d:Nat}{ps:Array (Nat×Operand)}{i ie:TyI}{e esz eb:Nat}(y:o.op=.buildSlice T 0 ps)(b:o.dst=some d)(H:dok cx o=true)(I:lkT cx.E.tab T=some i)(F:i.shape=.slc e esz eb)(j:lkT cx.E.tab e=some ie)(C:esz≠0)(q:ps=#[])(G:σ.find d=none) :
  A9 cx o σ (.row d) [d] [(d,.row e esz [])]:=by
 refine ⟨fun id e j=>?_,fun τ h1 L a w Q K ⟨γ,p⟩ J=>Br (fun c z=>by rw [y] at z;cases z) ?_⟩
 ·simp only [lkE] at j;cases A:aJ d id with
  |true=>simp [aB A]
  |false=>rw [A] at j;cases j
 subst q;have h:=Wc (n:=0) (parts:=#[]) (cells':=#[]) (cx.E.ok T i I) F (cx.E.ok e ie j) C (by omega) (by simp [Instr.fill]) w;unfold Oper.wp;have t:(execOp a.eval o).run cx.P w=.ok (.value (.slice (some ⟨w.heap.size,0,none⟩) 0 0)) (w.alloc (.cells #[] e)):=by
  have M:(Array.map (fun x:Nat×Operand=>(x.1,a.eval x.2)) #[])=(#[]:Array (Nat×Value)):=by simp
  simp only [execOp,y,Sem.run_bind,Sem.run_pure,Result.andThen_ok];rw [M,h];rfl
 rw [t];refine J _ _ ?_;rw [b];exact Uu (v:=.slice (some ⟨w.heap.size,0,none⟩) 0 0) (us:=[]) p (fun _=>aA _) (by rw [L d (by simp),G]) (fun x m=>by injection m with m;subst m;exact Bj H _ b) ((Below.refl _ _).alloc (aA _) _)
  ⟨by simp,aL ⟨w.heap.size,0,#[],by simp,aA _,Blk.new w _ _,by simp,by simp,by simp,by simp⟩⟩ (fun k r=>by simp at r) (fun k r=>by simp at r) (fun u D=>by simp at D)
  (fun N=>.row (Gam.set_self _ _ _) (fun g s e _=>by injection e with e;injection e with _ e))
end
end Go.Proofs.YtkoamfnbbhfaiaaGreatDoor
