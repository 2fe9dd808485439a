/- The abstract walk. -/
import Derived.Test.YthbogefcfhmpgaaGreatK08
set_option linter.unusedVariables false
set_option linter.unusedSimpArgs false
namespace Go.Proofs.YthbogefcfhmpgaaGreat
open Go.RowKit List
open _root_.Array renaming getD_eq_getD_getElem?->aA,getElem?_setIfInBounds_ne->aE,replicate->aJ,getElem?_append_left->aL,size_setIfInBounds->aM,getD->aZ
open Nat renaming eq_of_beq_eq_true->aB,le_of_ble_eq_true->aF,le_refl->aH,beq->aK,ne_of_beq_eq_false->aP,ble->bB,le_trans->bC
open AS renaming find->aC
open Gam renaming set_self->aD,set_ne->aG
open List renaming mem_filterMap->aN,mem_iff_getElem->aQ,mem_of_find?_eq_some->aR,any_eq_true->aS,all_eq_true->aT,findIdx?_cons->aU,mem_range->aX,foldl_cons->bA
open Bool renaming and_eq_true->aO,false_eq_true->aV,or_eq_true->aY
open WP renaming mono->aW
def AV.leafId:AV->Option Nat
 |.row i=>some i
 |.ptr i _=>some i
 |.elt i _ _ _=>some i
 |.der _ i=>some i
 |.cont _ i=>some i
 |_=>none
def AV.rp0 (r:Nat)(src:AV->Bool)(tgt x:AV):AV:=match x.leafId with
 |some i=>match aK i r with
  |true=>match src x with
   |true=>tgt
   |false=>.any
  |false=>x
 |none=>x
mutual
def AV.rp (r:Nat)(src:AV->Bool)(tgt:AV):AV->AV
 |.fn f cap=>.fn f (AV.rpL r src tgt cap)
 |.yld l T cap=>.yld l T (AV.rpL r src tgt cap)
 |.agg cs=>.agg (AV.rpL r src tgt cs)
 |.tup cs=>.tup (AV.rpL r src tgt cs)
 |x=>AV.rp0 r src tgt x
def AV.rpL (r:Nat)(src:AV->Bool)(tgt:AV):List AV->List AV
 |[]=>[]
 |x::l=>AV.rp r src tgt x::AV.rpL r src tgt l
end
section
variable {r:Nat} {src:AV->Bool} {tgt:AV}
theorem AV.rpL_length (l:List AV):(AV.rpL r src tgt l).length=l.length:=by
 induction l with
 |nil=>rfl
 |cons x l ih=>simp [AV.rpL,ih]
theorem AV.rpL_at (l:List AV)(i:Nat)(hi:i<l.length):(AV.rpL r src tgt l)[i]'(by rw [AV.rpL_length];exact hi)=AV.rp r src tgt l[i]:=by
 induction l generalizing i with
 |nil=>simp at hi
 |cons x l ih =>
  cases i with
  |zero=>rfl
  |succ i=>exact ih i (by simpa using hi)
theorem Rep.rp {w:World}{S:Nat->Prop}{γ γ':Gam}(hγ:∀ i x,i≠r->γ i=some x->γ' i=some x)(ht:∀ x v,src x=true->x.leafId=some r->Rep w S γ x v->Rep w S γ' tgt v){av:AV}{v:Value}(h:Rep w S γ av v):Rep w S γ' (AV.rp r src tgt av) v:=by
 have leaf:∀ {x:AV} {v:Value} {i:Nat},x.leafId=some i->Rep w S γ x v->(∀ h:i≠r,Rep w S γ' x v)->Rep w S γ' (AV.rp0 r src tgt x) v:=fun {x v i} hx h ho=>by
  simp only [AV.rp0,hx]
  cases hb:aK i r with
  |true =>
   have:=aB hb
   subst this
   simp only
   cases hs:src x with
   |true=>exact ht x v hs hx h
   |false=>exact .any _
  |false=>exact ho (aP hb)
 induction h with
 |any=>exact .any _
 |int=>exact .int _ _
 |bool=>exact .bool _
 |str=>exact .str _
 |nilp=>exact .nilp
 |nils=>exact .nils
 |nilf=>exact .nilf
 |@ptr γ id off v d' h hv=>exact leaf rfl (.ptr h hv) (fun hi=>.ptr (hγ _ _ hi h) hv)
 |@elt γ id sz k j v d' h hv=>exact leaf rfl (.elt h hv) (fun hi=>.elt (hγ _ _ hi h) hv)
 |@der γ φ id v d' h hv=>exact leaf rfl (.der h hv) (fun hi=>.der (hγ _ _ hi h) hv)
 |@row γ id v d' h hv=>exact leaf rfl (.row h hv) (fun hi=>.row (hγ _ _ hi h) hv)
 |mapv ps0 hp g es clock hb hS hg hh hl hk hv ih1 ih2=>exact .mapv ps0 hp g es clock hb hS hg hh hl hk hv
 |mapn=>exact .mapn
 |slen A n c=>exact .slen A n c
 |@cont γ n id v d' h hv hl=>exact leaf rfl (.cont h hv hl) (fun hi=>.cont (hγ _ _ hi h) hv hl)
 |sl A c cell hc hlen hb hr2 h1 ih=>exact .sl A c cell hc hlen hb hr2 h1
 |ref b off cell hS hb hc hr2 h1 ih=>exact .ref b off cell hS hb hc hr2 h1
 |fn vs hl hrr ih =>
  exact .fn vs (by rw [hl,AV.rpL_length]) (fun i hi'=>by
   have hi2:=hi'
   rw [AV.rpL_length] at hi2
   rw [AV.rpL_at _ i hi2]
   exact ih i hi2 hγ ht leaf)
 |yld hrr ih =>
  exact .yld (fun i hi'=>by
   have hi2:=hi'
   rw [AV.rpL_length] at hi2
   rw [AV.rpL_at _ i hi2]
   exact ih i hi2 hγ ht leaf)
 |agg vs hl hrr h1 ih =>
  exact .agg vs (by rw [hl,AV.rpL_length]) (fun i hi'=>by
   have hi2:=hi'
   rw [AV.rpL_length] at hi2
   rw [AV.rpL_at _ i hi2]
   exact ih i hi2 hγ ht leaf) h1
 |tup vs hl hrr ih =>
  exact .tup vs (by rw [hl,AV.rpL_length]) (fun i hi'=>by
   have hi2:=hi'
   rw [AV.rpL_length] at hi2
   rw [AV.rpL_at _ i hi2]
   exact ih i hi2 hγ ht leaf)
end
def Ent.rp (r:Nat)(src:AV->Bool)(tgt:AV):Ent->Ent
 |.box ty cs=>.box ty (AV.rpL r src tgt cs)
 |e=>e
def AS.rpAll (σ:AS)(r:Nat)(src:AV->Bool)(tgt:AV)(e:Ent):AS:=⟨σ.tm.map fun p=>(p.1,AV.rp r src tgt p.2),(r,e)::σ.me.map fun p=>(p.1,p.2.rp r src tgt)⟩
variable {σ:AS}
theorem LeX.rpAll {E:Env}{nt:Nat}(r:Nat)(src:AV->Bool)(tgt:AV)(e e':Ent)(hr:σ.find r=some e)(he':∀ ty cs,e'≠.box ty cs)
  (H:∀ (cx:Cx) (γ:Gam) (a:Act) (w:World) (d:Option (Option Nat×Value)),StG cx γ σ a w->γ r=some d->B6 w (Sg cx.S0 cx.w0.heap.size γ) γ cx.w0.heap.size d e->∃ d',(∀ b,b∈blks d'->b∈blks d)/\∀ S':Nat->Prop,(∀ b,Sg cx.S0 cx.w0.heap.size γ b->S' b)->(∀ b,b∈blks d->b ∉ blks d'->S' b) ->
    B6 w S' G0 cx.w0.heap.size d' e'/\∀ γ' x v,γ' r=some d'->src x=true->x.leafId=some r->Rep w S' γ x v->Rep w S' γ' tgt v):LeX E nt σ (σ.rpAll r src tgt e'):=fun cx hE hn a w ⟨γ,h⟩=>by
 have hme:=h.me r
 rw [hr] at hme
 obtain ⟨d,hd,he⟩:=hme
 obtain ⟨d',hsub,H⟩:=H cx γ a w d h hd he
 have hown:∀ b,own (γ.set r d') b->own γ b:=fun b ⟨i,s,hi,hm⟩=>by
  by_cases hir:i=r
  ·subst hir;rw [aD] at hi;injection hi with hi;subst hi;exact ⟨_,_,hd,hsub b hm⟩
  ·rw [aG _ _ _ hir] at hi;exact ⟨i,s,hi,hm⟩
 have hS:∀ b,Sg cx.S0 cx.w0.heap.size γ b->Sg cx.S0 cx.w0.heap.size (γ.set r d') b:=fun b hb=>hb.elim Or.inl (fun ⟨h1,h2⟩=>Or.inr ⟨h1,fun ho=>h2 (hown b ho)⟩)
 obtain ⟨H1,H2⟩:=H (Sg cx.S0 cx.w0.heap.size (γ.set r d')) hS (fun b hb hb'=>Or.inr ⟨(h.ge b ⟨_,_,hd,hb⟩).1,fun ⟨i,s,hi,hm⟩=>by
  by_cases hir:i=r
  ·subst hir;rw [aD] at hi;injection hi with hi;subst hi;exact hb' hm
  ·rw [aG _ _ _ hir] at hi;exact hir (h.inj _ _ _ _ _ hi hd hm hb)⟩)
 have mv:∀ {av v},Rep w (Sg cx.S0 cx.w0.heap.size γ) γ av v->Rep w (Sg cx.S0 cx.w0.heap.size (γ.set r d')) (γ.set r d') (AV.rp r src tgt av) v:=fun hv =>
  (hv.mono (aH _) (fun b hb _=>⟨rfl,hS b hb⟩)).rp (src:=src) (fun i x hi hx=>by rw [aG _ _ _ hi];exact hx) (fun x v hs hl hx=>H2 _ x v (aD _ _ _) hs hl hx)
 refine ⟨γ.set r d',fun u=>?_,fun i=>?_,fun i j b s s' hi hj mi mj=>?_,fun b hb=>h.ge b (hown b hb),h.below,h.size,h.defers.gam hown,h.gh,fun b hb=>by obtain ⟨f2,f3,f4⟩:=h.fr b hb;exact ⟨fun ho=>f2 (hown b ho),f3,f4⟩,h.dr⟩
 ·have e:(σ.rpAll r src tgt e').get u=AV.rp r src tgt (σ.get u):=zrt _ rfl _ _
  rw [e]
  exact mv (h.tm u)
 ·by_cases hi:r=i
  ·subst hi
   have e:(σ.rpAll r src tgt e').find r=some e':=by simp [AS.rpAll,aC,lkE]
   rw [e]
   exact ⟨d',aD _ _ _,H1.free he'⟩
  ·have e:(σ.rpAll r src tgt e').find i=(σ.find i).map (Ent.rp r src tgt):=by
    unfold AS.rpAll aC
    simp only [lkE]
    cases hb:aK r i with
    |true=>exact absurd (aB hb) hi
    |false=>exact zry _ _ _
   rw [e,aG _ _ _ (Ne.symm hi)]
   have:=h.me i
   cases hf:σ.find i with
   |none=>rw [hf] at this;exact this
   |some en =>
    rw [hf] at this
    obtain ⟨x,hx,he⟩:=this
    have heq:∀ en:Ent,(∀ ty cs,en≠.box ty cs)->B6 w (Sg cx.S0 cx.w0.heap.size γ) γ cx.w0.heap.size x en->B6 w (Sg cx.S0 cx.w0.heap.size (γ.set r d')) (γ.set r d') cx.w0.heap.size x en:=fun en hb he =>
     (he.move (γ':=γ) (aH _) (fun b hb _=>⟨rfl,hS b hb⟩) (fun id d h=>Or.inl h) (fun _ _=>rfl)).free hb
    cases en with
    |box ty cs =>
     obtain ⟨g,vs,h1,h2,h3,h4,h5⟩:=he
     exact ⟨x,hx,g,vs,h1,h2,by rw [h3,AV.rpL_length],fun i hi=>by
      have hi2:=hi
      rw [AV.rpL_length] at hi2
      rw [AV.rpL_at _ i hi2]
      exact mv (h4 i hi2),h5⟩
    |_=>exact ⟨x,hx,heq _ (fun ty cs h=>by cases h) he⟩
 ·by_cases hir:i=r
  ·by_cases hjr:j=r
   ·rw [hir,hjr]
   ·subst hir
    rw [aD] at hi
    injection hi with hi
    subst hi
    rw [aG _ _ _ hjr] at hj
    exact h.inj _ _ _ _ _ hd hj (hsub b mi) mj
  ·rw [aG _ _ _ hir] at hi
   by_cases hjr:j=r
   ·subst hjr
    rw [aD] at hj
    injection hj with hj
    subst hj
    exact h.inj _ _ _ _ _ hi hd mi (hsub b mj)
   ·rw [aG _ _ _ hjr] at hj
    exact h.inj _ _ _ _ _ hi hj mi mj
open Go.RowKit
section
variable {α β κ ν:Type}
def nle (n:Int)(len:Nat)(k:Nat->Option β):Option β:=if 0<=n/\n.toNat<=len then k n.toNat else none
def gle (a b:Nat)(x:Option β):Option β:=if a<=b then x else none
def clr (l:List α)(lo:Nat)(z:α)(k:List α->Option β):Option β:=if lo<=l.length then k (clrL l lo z) else none
end
section
variable {α β κ ν:Type} {E:Env} {nt:Nat} {o:Oper} {σ:AS} {K:OpK}
theorem OpX.sub {n:Int}{k:Nat->Option β}{r:β}{T id e esz eb ty:Nat}{x y:Operand}{i:TyI}{kd:IntKind}{xs:List AV}(hF:nle n xs.length k=some r)(ho:o.op=.slice T x (some y) none none)(hd:dokN E nt o.dst=true)(hxo:A5 x=true)(hyo:A5 y=true)(hx:σ.eval x=.row id)(hy:σ.eval y=.int kd n)
  (hT:lkT E.tab T=some i) (hs:i.shape=.slc e esz eb) (hz:aK esz 0=false) (hl:σ.find id=some (.row ty esz xs)) (hk:∀ m,k m=some r->K (.der (.sub esz m) id) [id] []):OpX E nt o σ K:=by
 unfold nle at hF
 split at hF
 ·rename_i hn
  exact .mk _ _ _ (fun cx hE hnt=>zlb (lo:=n.toNat) ho (Ak hd hE hnt) hxo hyo hx (by rw [hy];congr 1;omega) (by rw [hE];exact hT) hs (nbne hz) hl hn.2) (hk _ hF)
 ·cases hF
theorem OpX.clr (enc:α->AV){l:List α}{lo:Nat}{z:α}{k:List α->Option β}{r:β}{T id e esz eb:Nat}{x:Operand}{i ie:TyI}(hF:Proofs.YthbogefcfhmpgaaGreat.clr l lo z k=some r)(ho:o.op=.call { callee:=.builtin .clear,args:=#[x],argTypes:=#[T] })(hd:dokN E nt o.dst=true)(hxo:A5 x=true)(hx:σ.eval x=.der (.sub esz lo) id)(hl:σ.find id=some (.row e esz (l.map enc)))
  (hT:lkT E.tab T=some i) (hs:i.shape=.slc e esz eb) (he:lkT E.tab e=some ie) (hz:aK esz 0=false) (hzo:Kr ie=true) (hone:Dd ie.zero.cells.toList=true) (hsub:SubL (D1 ie).cells (enc z).cells) (hk:∀ l',k l'=some r->K (.tup []) [id] [(id,.row e esz (l'.map enc))]):OpX E nt o σ K:=by
 unfold Proofs.YthbogefcfhmpgaaGreat.clr at hF
 split at hF
 ·rename_i hlo
  refine .mk _ _ _ (fun cx hE hnt=>?_) (hk _ hF)
  have h1:=zlo (cx:=cx) ho (Ak hd hE hnt) hxo hx hl (by rw [hE];exact hT) hs (by rw [hE];exact he) (nbne hz) hzo (Gt hone) (by rw [length_map];exact hlo)
  refine h1.weak (.cons _ (.row _ _ ?_) .nil)
  rw [<-zvc]
  unfold clrL
  exact (SubR.refl _).append (.replicate hsub _)
 ·cases hF
variable [DecidableEq κ]
omit [DecidableEq κ] in
end
variable {n:Nat}
theorem Born.idx {es:Array MapEntry}(h:∀ j (h:j<es.toList.length),(es.toList[j]).born=j)(hn:es.size=n):Born es n:=by
 have e:es.toList.map (·.born)=range n:=by
  apply ext_getElem
  ·simp [hn]
  ·intro i h3 h4
   simp only [getElem_map,getElem_range]
   exact h i (by simpa using h3)
 refine ⟨by rw [e];exact nodup_range,fun x hx=>?_⟩
 have:x.born∈es.toList.map (·.born):=mem_map.2 ⟨x,hx,rfl⟩
 rw [e] at this
 exact aX.1 this
section
variable {α β κ ν:Type} {E:Env} {nt:Nat}
variable {R:Exit->AS->Prop} {K:List Ba}
end
attribute [irreducible] nle gle clr    
open Go.RowKit
def idA (a:AV):AV:=a
theorem Ru (l:List AV):List.map idA l=l:=by induction l with
 |nil=>rfl
 |cons x l ih=>rw [map_cons,ih];rfl
section
variable {α β:Type}
def idxD (d:AV->Option α)(l:List AV)(n:Int)(k:α->Option β):Option β:=if 0<=n then (match l[n.toNat]? with|some a=>(match d a with|some y=>k y|none=>none)|none=>none) else none
theorem IdxX.oD {enc:α->AV}{d:AV->Option α}{l:List AV}{n:Int}{K:AV->Prop}{k:α->Option β}{r:β}(h:idxD d l n k=some r)(hd:∀ a y,d a=some y->a=enc y)(hk:∀ y,k y=some r->K (enc y)):IdxX (l.map idA) n K:=by
 unfold idxD at h
 split at h
 ·rename_i hn
  split at h
  ·rename_i a ha
   split at h
   ·rename_i y hy
    refine .mk n.toNat (enc y) (by omega) ?_ (hk y h)
    rw [Ru,ha,hd a y hy]
   ·cases h
  ·cases h
 ·cases h
end
section
variable {α β V:Type} {E:Env} {nt:Nat} {R:Exit->AS->Prop} {K:List Ba}
def jon (F:V->Option β)(x:Option β):Option β:=x
variable {A:Code}
theorem AW.meet1 {J:AS->Prop}(h1:AW E nt (Cu J (AW E nt R K)) [.code A] .normal σ)(h2:∀ τ,J τ->AW E nt R K .normal τ):AW E nt R (.code A::K) .normal σ :=
 ⟨fun cx hE hn=>aW (h1.out cx hE hn) (fun e σ' hq=>by cases e<;>first|exact (h2 _ hq).out cx hE hn|exact AW.out hq cx hE hn)⟩
theorem AW.meet2 {J:AS->Prop}{B:Code}(h1:AW E nt (Cu J (AW E nt R K)) [.code A,.code B] .normal σ)(h2:∀ τ,J τ->AW E nt R K .normal τ):AW E nt R (.code A::.code B::K) .normal σ :=
 ⟨fun cx hE hn=>aW (h1.out cx hE hn) (fun e σ' hq=>by
  cases e with
  |normal=>exact aW hq (fun e σ'' hq=>by cases e<;>first|exact (h2 _ hq).out cx hE hn|exact AW.out hq cx hE hn)
  |_=>exact AW.out hq cx hE hn)⟩
variable {F:V->Option β}
theorem AW.joinO1 {S:V->AS}{x:Option β}{r:β}{C:Code}(h:jon F x=some r)(h1:x=some r->AW E nt (Cu (fun σ'=>∃ v,F v=some r/\LeX E nt σ' (S v)) (AW E nt R (.code C::K))) [.code A] .normal σ)(h2:∀ v,F v=some r->AW E nt R (.code C::K) .normal (S v)):AW E nt R (.code A::.code C::K) .normal σ :=
 AW.meet1 (h1 h) (fun τ ⟨v,hv,hl⟩=>AW.weaken hl (h2 v hv))
theorem AW.joinO2 {S:V->AS}{x:Option β}{r:β}{B C:Code}(h:jon F x=some r)(h1:x=some r->AW E nt (Cu (fun σ'=>∃ v,F v=some r/\LeX E nt σ' (S v)) (AW E nt R (.code C::K))) [.code A,.code B] .normal σ)(h2:∀ v,F v=some r->AW E nt R (.code C::K) .normal (S v)):AW E nt R (.code A::.code B::.code C::K) .normal σ :=
 AW.meet2 (h1 h) (fun τ ⟨v,hv,hl⟩=>AW.weaken hl (h2 v hv))
theorem Am (F:V->Option β)(x:Option β):jon F x=x:=rfl
end
section
variable {β:Type}
def natc (n:Int)(k:Nat)(x y:Option β):Option β:=if n=(k:Int) then x else y
theorem NatX.oS {n:Int}{len:Nat}{K:Nat->Prop}{k:Nat}{x y:Option β}{r:β}(h:natc n k x y=some r)(hlt:Nat.blt k len=true)(h0:x=some r->K k)(h1:y=some r->NatX n len K):NatX n len K:=by
 unfold natc at h
 split at h
 ·rename_i e;exact .mk k e (aF hlt) (h0 h)
 ·exact h1 h
theorem O4 (n:Int)(k:Nat)(x y:Option β):natc n k x y=if n=(k:Int) then x else y:=rfl
end
attribute [irreducible] idxD jon natc
open Go.RowKit
def Fa:AV->Bool
 |.row _=>true
 |_=>false
def nstV (s:Value)(vs:Array Value):Option (Option Nat×Value):=some (none,.tuple (#[s]++vs))
theorem zuj {s:Value}{b:Nat}{vs:Array Value}:b∈blks (nstV s vs) ↔ Az s=some b\/∃ j,Az (vs.getD j undef)=some b:=by
 simp only [nstV,blks,Option.toList_none,nil_append,Ca,Array.toList_append,filterMap_append,mem_append]
 constructor
 ·rintro (h|h)
  ·left
   obtain ⟨v,hv,hb⟩:=aN.1 h
   have:v=s:=by simpa using hv
   rw [<-this];exact hb
  ·right
   obtain ⟨v,hv,hb⟩:=aN.1 h
   obtain ⟨j,hj,rfl⟩:=aQ.1 hv
   have hj':j<vs.size:=by simpa using hj
   exact ⟨j,by simpa [aZ,hj'] using hb⟩
 ·rintro (h|⟨j,h⟩)
  ·left;exact aN.2 ⟨s,by simp,h⟩
  ·right
   by_cases hj:j<vs.size
   ·exact aN.2 ⟨vs[j],by simp,by simpa [aZ,hj] using h⟩
   ·simp [aZ,hj,undef,Az] at h
section
variable {E:Env} {nt:Nat}
end
section
variable {cx:Cx} {o:Oper} {σ:AS}
theorem zp0 {T id e esz eb:Nat}{x:Operand}{i:TyI}(ho:o.op=.call { callee:=.builtin .len,args:=#[x],argTypes:=#[T] })(hd:dok cx o=true)(hxo:A5 x=true)(hx:σ.eval x=.cont n id)(hT:lkT cx.E.tab T=some i)(hs:i.shape=.slc e esz eb):Ag cx o σ (.int .i64 (n:Int)) [] [] :=
 Ay hd fun τ γ a w h1 h2 hst=>by
  have hev:=hst.ev x hxo
  rw [h1 x (by simp [ho,Op.operands,Call.operands]),hx] at hev
  obtain ⟨hu,_,_⟩:=Ce (cx.E.ok T i hT) hs
  cases hev with
  |cont h hv hl =>
   obtain ⟨A,c,hq,_⟩:=hl
   exact ⟨.int .i64 (n:Int),by simp [execOp,ho,resolve,invoke,builtin,Builtin.len_,hq,run_underlying hu,goInt,pure],.int _ _⟩
theorem zas {T id e eb m:Nat}{x y:Operand}{i:TyI}{k:IntKind}(ho:o.op=.indexAddr T x y)(hd:dok cx o=true)(hxo:A5 x=true)(hyo:A5 y=true)(hx:σ.eval x=.cont n id)(hy:σ.eval y=.int k (m:Int))(hT:lkT cx.E.tab T=some i)(hs:i.shape=.slc e 1 eb)(hm:m<n):Ag cx o σ (.der (.nelt m) id) [] [] :=
 Ay hd fun τ γ a w h1 h2 hst=>by
  have hev:=hst.ev x hxo
  rw [h1 x (by simp [ho,Op.operands]),hx] at hev
  have hevy:=hst.ev y hyo
  rw [h1 y (by simp [ho,Op.operands]),hy] at hevy
  obtain ⟨hu,hce,_⟩:=Ce (cx.E.ok T i hT) hs
  cases hev with
  |cont h hv hl =>
   obtain ⟨A,c,hq,hA⟩:=hl
   obtain ⟨b,off,rfl⟩:=hA (by omega)
   refine ⟨.pointer (some ⟨b,off+m,none⟩),?_,.der h (fun g s e=>⟨by cases s<;>rfl,?_⟩)⟩
   ·simp [execOp,ho,hq,hevy.int_inv,Instr.indexAt,asIntOf,run_underlying hu,Ei hce (by omega:(1:Nat)≠0),hm,pure,Addr.add_lit]
   ·have:=hv g s e
    rw [hq] at this
    cases s with
    |tuple vs =>
     simp only [Dv.of] at this ⊢
     rw [<-this]
    |agg vs =>
     simp only [Dv.of] at this ⊢
     rw [<-this]
    |_=>simp [Dv.of,undef] at this
end
open Go.RowKit
section
variable {α β:Type}
def mkn (n:Int)(bytes:Nat)(k:Nat->Option β):Option β:=if 0<=n/\n.toNat<=1099511627776/\bytes*n.toNat<=281474976710656 then k n.toNat else none
theorem MakX.on {n:Int}{bytes:Nat}{K:List AV->Prop}{k:Nat->Option β}{r:β}(h:mkn n bytes k=some r)(hk:∀ m,k m=some r->K (replicate m .nils)):MakX n bytes .nils K:=by
 unfold mkn at h
 split at h
 ·rename_i hn;exact .mk n.toNat (by omega) hn.2.1 hn.2.2 _ (.refl _) (hk _ h)
 ·cases h
def ncx (n:Int)(len:Nat)(c:Option β):Option β:=if 0<=n/\n.toNat<len then c else none
end
section
variable {α β:Type} {E:Env} {nt:Nat} {o:Oper} {σ:AS} {K:OpK}
theorem OpX.lnc {T id e esz eb:Nat}{x:Operand}{i:TyI}(ho:o.op=.call { callee:=.builtin .len,args:=#[x],argTypes:=#[T] })(hd:dokN E nt o.dst=true)(hxo:A5 x=true)(hx:σ.eval x=.cont n id)(hT:lkT E.tab T=some i)(hs:i.shape=.slc e esz eb)(hk:K (.int .i64 (n:Int)) [] []):OpX E nt o σ K :=
 .mk _ _ _ (fun cx hE hnt=>zp0 ho (Ak hd hE hnt) hxo hx (by rw [hE];exact hT) hs) hk
theorem OpX.ixc {n:Int}{len:Nat}{c:Option β}{r:β}{T id e eb:Nat}{x y:Operand}{i:TyI}{kd:IntKind}(hF:ncx n len c=some r)(ho:o.op=.indexAddr T x y)(hd:dokN E nt o.dst=true)(hxo:A5 x=true)(hyo:A5 y=true)(hx:σ.eval x=.cont len id)(hy:σ.eval y=.int kd n)(hT:lkT E.tab T=some i)(hs:i.shape=.slc e 1 eb)
  (hk:c=some r->K (.der (.nelt n.toNat) id) [] []):OpX E nt o σ K:=by
 unfold ncx at hF
 split at hF
 ·rename_i hn
  exact .mk _ _ _ (fun cx hE hnt=>zas ho (Ak hd hE hnt) hxo hyo hx (by rw [hy];congr 1;omega) (by rw [hE];exact hT) hs hn.2) (hk hF)
 ·cases hF
end
section
variable {α β:Type} {E:Env} {nt:Nat}
def Kt:AV->Bool
 |.cont _ _=>true
 |_=>false
variable {R:Exit->AS->Prop} {K:List Ba}
end
attribute [irreducible] mkn     ncx
open Go.RowKit
theorem zsc {kd:IntKind}{a:AV}(h:isI kd a=true):a=.int kd (intN a):=by
 cases a<;>simp [isI] at h
 subst h;rfl
def qK (n:Int)(p:AV×AV):Bool:=decide (n=intN p.1)
theorem Xz {kd:IntKind}{n:Int}:∀ (ps:List (AV×AV)) (i:Nat),(∀ p∈ps,isI kd p.1=true)->Be (.int kd n) (ps.map (·.1)) i=some ((ps.findIdx? (qK n)).map (· + i))
 |[],i,_=>rfl
 |(a,v)::r,i,h=>by
  have ha:=zsc (h (a,v) (by simp))
  have ih:=Xz (n:=n) r (i+1) (fun p hp=>h p (by simp [hp]))
  have e:eqK (.int kd n) a=some (decide (n=intN a)):=by
   simp only at ha
   rw [ha]
   simp [eqK,eq1,show ∀ m,intN (.int kd m)=m from fun _=>rfl]
  simp only [map_cons,Be,e]
  by_cases hn:n=intN a
  ·rw [decide_eq_true hn]
   simp [aU,qK,hn]
  ·rw [decide_eq_false hn]
   simp only [ih,aU,qK,decide_eq_false hn]
   simp only [aV,if_false,Option.map_map]
   congr 1
   have e2:(fun p:AV×AV=>decide (n=intN p.1))=qK n:=rfl
   try rw [e2]
   cases findIdx? (qK n) r with
   |none=>rfl
   |some j=>simp;omega
theorem zeg (z:AV)(q:AV×AV->Bool)(ps:List (AV×AV)):F9 z ps (ps.findIdx? q)=((ps.find? q).map (·.2)).getD z:=by
 induction ps with
 |nil=>rfl
 |cons p r ih =>
  rw [aU,find?_cons]
  cases hq:q p with
  |true=>rfl
  |false =>
   simp only [aV,if_false]
   rw [<-ih]
   cases findIdx? q r<;>rfl
variable {ps0 ps:List (AV×AV)}
theorem zjd {n:Int}(hp:ps0.Perm ps)(hd:(ps.map fun p=>intN p.1).Nodup):ps0.find? (qK n)=ps.find? (qK n):=by
 have uniq:∀ p∈ps,∀ p'∈ps,qK n p=true->qK n p'=true->p=p':=fun p h p' h' q q'=>by
  obtain ⟨i,hi,rfl⟩:=aQ.1 h
  obtain ⟨j,hj,rfl⟩:=aQ.1 h'
  have e:intN ps[i].1=intN ps[j].1:=by
   simp only [qK,decide_eq_true_eq] at q q'
   rw [<-q,<-q']
  have:i=j:=(getElem_inj (h₀:=by simpa using hi) (h₁:=by simpa using hj) hd).1 (by simpa using e)
  subst this
  rfl
 cases h:ps.find? (qK n) with
 |none =>
  rw [find?_eq_none] at h ⊢
  exact fun p hm=>h p (hp.mem_iff.1 hm)
 |some p =>
  have h1:=aR h
  have h2:=find?_some h
  cases h0:ps0.find? (qK n) with
  |none=>rw [find?_eq_none] at h0;exact absurd h2 (h0 p (hp.mem_iff.2 h1))
  |some p'=>rw [uniq p' (hp.mem_iff.1 (aR h0)) p h1 (find?_some h0) h2]
theorem Fc.mem (h:Fc ps0 ps){p:AV×AV}:p∈ps0 ↔ p∈ps:=by
 rcases h with rfl|⟨h,_⟩
 ·exact Iff.rfl
 ·exact h.mem_iff
theorem zy5 {k:AV}{kd:IntKind}{r:Option Nat}(hk:isI kd k=true)(h:∀ p∈ps,isI kd p.1=true)(hd:(ps.map fun p=>intN p.1).Nodup)(hp:ps0.Perm ps)(hf:Be k (ps.map (·.1)) 0=some r) :
  ∃ r0,Be k (ps0.map (·.1)) 0=some r0/\r0.isSome=r.isSome/\∀ z,F9 z ps0 r0=F9 z ps r:=by
 have e:=zsc hk
 rw [e,Xz ps 0 h] at hf
 injection hf with hf
 have e1:∀ o:Option Nat,o.map (· + 0)=o:=fun o=>by cases o<;>rfl
 rw [e1] at hf
 refine ⟨ps0.findIdx? (qK (intN k)),?_,?_,fun z=>?_⟩
 ·rw [e,Xz ps0 0 (fun p hm=>h p (hp.mem_iff.1 hm)),e1];simp [intN]
 ·rw [<-hf]
  have i1:∀ l:List (AV×AV),(l.findIdx? (qK (intN k))).isSome=(l.find? (qK (intN k))).isSome:=fun l=>by
   rw [findIdx?_isSome,Bool.eq_iff_iff,find?_isSome,aS]
  rw [i1,i1,zjd hp hd]
 ·rw [zeg,<-hf,zeg,zjd hp hd]
theorem zmd {k:AV}{r:Option Nat}(hp:Fc ps0 ps)(hf:Be k (ps.map (·.1)) 0=some r):∃ r0,Be k (ps0.map (·.1)) 0=some r0/\r0.isSome=r.isSome/\∀ z,F9 z ps0 r0=F9 z ps r:=by
 rcases hp with rfl|⟨hp,kd,h1,h2⟩
 ·exact ⟨r,hf,rfl,fun _=>rfl⟩
 ·cases ps with
  |nil=>rw [perm_nil.1 hp];exact ⟨r,hf,rfl,fun _=>rfl⟩
  |cons p t =>
   refine zy5 (kd:=kd) ?_ h1 h2 hp hf
   have hi:=zsc (h1 p (by simp))
   simp only [map_cons,Be] at hf
   rw [hi] at hf
   cases k with
   |int kd' n =>
    simp only [eqK,eq1] at hf
    by_cases hk:kd'=kd
    ·simp [isI,hk]
    ·rw [decide_eq_false hk] at hf;cases hf
   |_=>simp [eqK,eq1] at hf
open Go.RowKit
def Yq (args:List AV)(me:List (Nat×Ent)):AS:=⟨args.zipIdx.map fun p=>(p.2,p.1),me⟩
def boxB (np:Nat)(args:List AV)(τ:AS)(me me':List (Nat×Ent))(yk:List Nat):Bool:=me.all fun x=>match x.2 with
 |.box _ _=>memB x.1 yk || (range np).any fun t=>(match args[t]? with|some (.ptr k 0)=>aK k x.1|_=>false) && (match τ.get t,lkE me' x.1 with|.ptr k 0,some (.box _ _)=>aK k x.1|_,_=>false)
 |.row _ _ _=>match lkE me' x.1 with
  |none=>true
  |some (.row _ _ _)=>(range np).any fun t=>(match args[t]? with|some (.row k)=>aK k x.1|_=>false) && (match τ.get t with|.row k=>aK k x.1|_=>false)
  |some _=>false
 |_=>true
variable {args:List AV}{me me':List (Nat×Ent)}
theorem zol {np:Nat}{τ:AS}{yk:List Nat}(h:boxB np args τ me me' yk=true){i ty sz:Nat}{xs:List AV}(hi:lkE me i=some (.row ty sz xs)){e:Ent}(he:lkE me' i=some e) :
  ∃ t ty' sz' xs',t<np/\args[t]? = some (.row i)/\τ.get t=.row i/\e=.row ty' sz' xs':=by
 have hb:=aT.1 h (i,.row ty sz xs) (S1 hi)
 simp only [he] at hb
 split at hb
 ·rename_i h0;cases h0
 ·rename_i ty' sz' xs' h0
  injection h0 with h0
  obtain ⟨t,ht,htb⟩:=aS.1 hb
  rw [aX] at ht
  rw [aO] at htb
  obtain ⟨b1,b2⟩:=htb
  split at b1
  ·rename_i k hk
   have e1:k=i:=aB b1
   subst e1
   split at b2
   ·rename_i k2 hk2
    have e2:k2=k:=aB b2
    subst e2
    exact ⟨t,ty',sz',xs',ht,hk,hk2,h0⟩
   ·cases b2
  ·cases b1
 ·cases hb
variable {w:World}
theorem zn7 {w':World}{S S':Nat->Prop}{γ γ':Gam}{B B' i ty sz ty' sz':Nat}{xs xs':List AV}{d d':Option (Option Nat×Value)}{v:Value}(h1:Rep w S γ (.row i) v)(h2:Rep w' S' γ' (.row i) v)(hd:γ i=some d)(hd':γ' i=some d')
  (he:B6 w S γ B d (.row ty sz xs)) (he':B6 w' S' γ' B' d' (.row ty' sz' xs')):γ' i=γ i:=by
 obtain ⟨s,vs,e1,o1,_⟩:=he
 obtain ⟨s',vs',e2,o2,_⟩:=he'
 subst e1 e2
 have p1:=h1.row_inv hd (Nt o1)
 have p2:=h2.row_inv hd' (Nt o2)
 rw [hd,hd',<-p1,<-p2]
def YK (np:Nat)(args:List AV)(τ:AS)(me':List (Nat×Ent)):List Nat->Prop
 |[]=>True
 |k::r=>((∃ (t t' i l:Nat) (T:Array Value) (caps caps':List AV) (ty:TypeId) (es:List AV),args[t]? = some (.yld l T caps)/\τ.get t'=.yld l T caps'/\caps[i]? = some (.ptr k 0)/\caps'[i]? = some (.ptr k 0)/\lkE me' k=some (.box ty es)) \/
   ∃ (t i f:Nat) (caps caps':List AV) (ty:TypeId) (es:List AV),t<np/\args[t]? = some (.fn f caps)/\τ.get t=.fn f caps'/\caps[i]? = some (.ptr k 0)/\caps'[i]? = some (.ptr k 0)/\lkE me' k=some (.box ty es))/\YK np args τ me' r
theorem YK.at {np:Nat}{τ:AS}:∀ {l:List Nat},YK np args τ me' l->∀ k∈l,(∃ (t t' i l:Nat) (T:Array Value) (caps caps':List AV) (ty:TypeId) (es:List AV),args[t]? = some (.yld l T caps)/\τ.get t'=.yld l T caps'/\caps[i]? = some (.ptr k 0)/\caps'[i]? = some (.ptr k 0)/\lkE me' k=some (.box ty es)) \/
   ∃ (t i f:Nat) (caps caps':List AV) (ty:TypeId) (es:List AV),t<np/\args[t]? = some (.fn f caps)/\τ.get t=.fn f caps'/\caps[i]? = some (.ptr k 0)/\caps'[i]? = some (.ptr k 0)/\lkE me' k=some (.box ty es)
 |[],_,k,hk=>by cases hk
 |x::r,h,k,hk=>by
  rcases mem_cons.1 hk with rfl|hk
  ·exact h.1
  ·exact h.2.at k hk
inductive GX (E:Env) (nt:Nat) (fn:Func) (args:List AV) (me:List (Nat×Ent)) (σ:AS) (res:AV) (me':List (Nat×Ent)):Prop
 |mk (τ:AS) (hl:LeX E nt σ τ) (hme:τ.me=me') (avs:List AV) (h1:retA E.tab τ fn.results.toList=some avs) (h2:Sub (Oe avs) res) (yk:List Nat) (hyk:YK E.np args τ me' yk) (hb:boxB E.np args τ me me' yk=true)
def EndG (E:Env)(nt:Nat)(fn:Func)(args:List AV)(me:List (Nat×Ent))(res:AV)(me':List (Nat×Ent)):Exit->AS->Prop
 |.normal,σ=>GX E nt fn args me σ res me'
 |.ret,σ=>GX E nt fn args me σ res me'
 |_,_=>False
theorem ConG.walk {E:Env}{f:FuncId}{fn:Func}{caps:List AV}{res:AV}(c:Code)(hf:E.P.funcs[f]? = some fn)(hb:fn.body=some c)(hn:bB (args++caps).length fn.ntmps=true)(hnp:bB E.np (args++caps).length=true)(hrg:E.rg=false)(hdr:E.dr=false)
  (h:AW E fn.ntmps (EndG E fn.ntmps fn (args++caps) me res me') [.code c] .normal (Yq (args++caps) me)):ConG E.P E.yl (CalF E.P f caps.length) args caps me res me':=by
 intro cx γ w vs cs hP hdr0 hyl hnt0 hnp0 hme hvs hva hca hcs
 have hlen:(vs++cs).size=(args++caps).length:=by simp [hvs,hcs]
 have hn':=aF hn
 have hnp':=aF hnp
 refine callsIn_wide.1 (callsIn_of_wp (F:=Fence.wide) (n:=0) hf hb trivial ?_)
 let cx':Cx:=⟨E,cx.S0,cx.w0,fn.ntmps,fun b=>b<w.heap.size/\¬own γ b,w,none,vs++cs,fun _=>rfl⟩
 have h0:WP cx' c (EndG E fn.ntmps fn (args++caps) me res me') (Yq (args++caps) me):=aW (h.out cx' rfl rfl) fun e σ hk=>by cases e<;>exact hk
 have hrep:∀ t (ht:t<(args++caps).length),Rep w (Sg cx.S0 cx.w0.heap.size γ) γ (args++caps)[t] ((vs++cs).getD t undef):=fun t ht=>by
  by_cases h1:t<args.length
  ·rw [getElem_append_left h1,aA,aL (by omega),<-aA]
   exact hva t h1
  ·rw [getElem_append_right (by omega),aA,Array.getElem?_append_right (by omega),<-aA,hvs]
   exact hca _ (by rw [length_append] at ht;omega)
 have hget:∀ t,t<(args++caps).length->(vs++cs++aJ (fn.ntmps-(vs++cs).size) undef).getD t undef=(vs++cs).getD t undef:=fun t ht=>by
  rw [aA,aA,aL (by omega)]
 have hst:StG cx' γ (Yq (args++caps) me) { tmps:=vs++cs++aJ (fn.ntmps-(vs++cs).size) undef,defers:=[] } w:=by
  refine ⟨fun t=>?_,hme.me,hme.inj,hme.ge,hme.below,?_,⟨fun _=>rfl,⟨[],rfl,.nil,fun r hr=>by cases hr⟩,fun t ht=>?_,fun l R hl=>hme.defers.yl l R (hyl _ hl),aH _⟩,hme.gh,fun b hb=>⟨hb.2,hb.1,rfl⟩,fun hd=>?_⟩
  ·unfold AS.get Yq
   rw [Yj]
   by_cases ht:0<=t/\t<0+(args++caps).length
   ·rw [dif_pos ht]
    have ht':t<(args++caps).length:=by omega
    show Rep w _ γ _ ((vs++cs++aJ (fn.ntmps-(vs++cs).size) undef).getD t undef)
    rw [hget t ht']
    exact hrep t ht'
   ·rw [dif_neg ht];exact .any _
  ·show (vs++cs++aJ (fn.ntmps-(vs++cs).size) undef).size=fn.ntmps
   rw [Array.size_append,Array.size_replicate];omega
  ·have ht':t<E.np:=ht
   exact hget t (by omega)
  ·exact absurd (hdr.symm.trans hd) (by simp)
 refine wpIn_mono (h0 _ _ ⟨γ,hst⟩) (fun e a w' ⟨σ,hq,hst0⟩=>?_)
 have key:GX E fn.ntmps fn (args++caps) me σ res me'->bodyPost E.P fn (fun e w'=>∃ u γ',e=.returned u/\MeSt cx γ' me' w'/\Rep w' (Sg cx.S0 cx.w0.heap.size γ') γ' res u/\w.heap.size<=w'.heap.size/\(∀ i,Ik me me' i=true->γ' i=γ i) /\
   (∀ b,¬own γ b->b<w.heap.size->w'.heap[b]? = w.heap[b]? /\ ¬own γ' b)) .ret a w':=by
  rintro ⟨τ,hl,hme',avs,h1,h2,yk,hyk,hbx⟩
  obtain ⟨γ',hs⟩:=hl cx' rfl rfl a w' hst0
  obtain ⟨u,hu,hr⟩:=Uk hs h1
  have hfr:∀ b,¬own γ b->b<w.heap.size->w'.heap[b]? = w.heap[b]? /\ ¬own γ' b:=fun b hb hlt=>by
   obtain ⟨q1,q2,q3⟩:=hs.fr b ⟨hlt,hb⟩
   exact ⟨q3,q1⟩
  have hsz:w.heap.size<=w'.heap.size:=hs.defers.sz
  refine ⟨hs.defers.d0 hrg,u,hu,u,γ',rfl,?_,hr.sub h2,hsz,fun i hst'=>?_,hfr⟩
  ·refine ⟨fun t=>.any _,fun i=>by have:=hs.me i;unfold aC at this ⊢;rw [<-hme'];exact this,hs.inj,hs.ge,hs.below,hnt0.symm,⟨fun _=>rfl,⟨[],rfl,.nil,fun r hr=>by cases hr⟩,fun t ht=>by rw [hnp0] at ht;omega,fun l R hl=>?_,bC hme.defers.sz hsz⟩,hs.gh,fun b hb=>?_,fun hd=>absurd (hdr0.symm.trans hd) (by simp)⟩
   ·obtain ⟨q0,q1,q2,q3⟩:=hme.defers.yl l R hl
    obtain ⟨k1,k2⟩:=hfr l q2 q1
    exact ⟨q0,by omega,k2,k1.trans q3⟩
   ·obtain ⟨q1,q2,q3⟩:=hme.fr b hb
    obtain ⟨k1,k2⟩:=hfr b q1 q2
    exact ⟨k2,by omega,k1.trans q3⟩
  ·unfold Ik at hst'
   split at hst'
   rotate_left
   ·rename_i ty sz xs e hi he
    obtain ⟨t,ty',sz',xs',ht,e1,e2,rfl⟩:=zol hbx hi he
    obtain ⟨hlt,hat⟩:=List.getElem?_eq_some_iff.1 e1
    have r1:=hrep t hlt
    rw [hat] at r1
    have r2:=hs.tm t
    rw [e2,hs.defers.pin t ht] at r2
    have m1:=hme.me i
    unfold aC at m1
    rw [hi] at m1
    obtain ⟨x,hx,m1⟩:=m1
    have m2:=hs.me i
    unfold aC at m2
    rw [hme',he] at m2
    obtain ⟨x2,hx2,m2⟩:=m2
    exact zn7 r1 r2 hx hx2 m1 m2
   ·cases hst'
   rename_i ty es hi
   have hb':=aT.1 hbx (i,.box ty es) (S1 hi)
   have hb':=(aY _ _).mp hb'
   rcases hb' with hb'|hb'
   ·rcases hyk.at i ((Dc _ _).1 hb') with ⟨t,t',j,l,T,yc,yc',ty',es',e1,e2,e3,e4,e5⟩|⟨t,j,f',yc,yc',ty',es',ht0,e1,e2,e3,e4,e5⟩
    ·obtain ⟨hlt,hat⟩:=List.getElem?_eq_some_iff.1 e1
     have r1:=hrep t hlt
     rw [hat] at r1
     have r2:=hs.tm t'
     rw [e2] at r2
     obtain ⟨hj,hja⟩:=List.getElem?_eq_some_iff.1 e3
     obtain ⟨hj',hja'⟩:=List.getElem?_eq_some_iff.1 e4
     have s1:=r1.yld_inv.2 j hj
     have s2:=r2.yld_inv.2 j hj'
     rw [hja] at s1
     rw [hja'] at s2
     have m1:=hme.me i
     unfold aC at m1
     rw [hi] at m1
     obtain ⟨x,hx,g,vs1,hd1,_⟩:=m1
     have m2:=hs.me i
     unfold aC at m2
     rw [hme',e5] at m2
     obtain ⟨x2,hx2,g2,vs2,hd2,_⟩:=m2
     subst hd1 hd2
     have p1:=s1.ptr_inv hx
     rw [s2.ptr_inv hx2] at p1
     injection p1 with p1
     injection p1 with p1
     injection p1 with p1
     rw [hx,hx2,p1]
    ·obtain ⟨hlt,hat⟩:=List.getElem?_eq_some_iff.1 e1
     have r1:=hrep t hlt
     rw [hat] at r1
     have r2:=hs.tm t
     rw [e2,hs.defers.pin t ht0] at r2
     obtain ⟨hj,hja⟩:=List.getElem?_eq_some_iff.1 e3
     obtain ⟨hj',hja'⟩:=List.getElem?_eq_some_iff.1 e4
     obtain ⟨us,ev1,_,s1⟩:=r1.fn_inv
     obtain ⟨us',ev2,_,s2⟩:=r2.fn_inv
     have p3:(vs++cs).getD t undef=cx'.pv.getD t undef:=rfl
     rw [p3,ev2] at ev1
     injection ev1 with _ _ ev1
     subst ev1
     have s1:=s1 j hj
     have s2:=s2 j hj'
     rw [hja] at s1
     rw [hja'] at s2
     have m1:=hme.me i
     unfold aC at m1
     rw [hi] at m1
     obtain ⟨x,hx,g,vs1,hd1,_⟩:=m1
     have m2:=hs.me i
     unfold aC at m2
     rw [hme',e5] at m2
     obtain ⟨x2,hx2,g2,vs2,hd2,_⟩:=m2
     subst hd1 hd2
     have p1:=s1.ptr_inv hx
     rw [s2.ptr_inv hx2] at p1
     injection p1 with p1
     injection p1 with p1
     injection p1 with p1
     rw [hx,hx2,p1]
   obtain ⟨t,ht,htb⟩:=aS.1 hb'
   rw [aX] at ht
   rw [aO] at htb
   obtain ⟨b1,b2⟩:=htb
   split at b1
   ·rename_i k hk
    have e1:k=i:=aB b1
    subst e1
    split at b2
    ·rename_i k2 ty2 es2 hk2 hk3
     have e2:k2=k:=aB b2
     subst e2
     obtain ⟨hlt,hat⟩:=List.getElem?_eq_some_iff.1 hk
     have r1:=hrep t hlt
     rw [hat] at r1
     have r2:=hs.tm t
     rw [hk2,hs.defers.pin t ht] at r2
     have m1:=hme.me k2
     unfold aC at m1
     rw [hi] at m1
     obtain ⟨x,hx,g,vs1,hd1,_⟩:=m1
     have m2:=hs.me k2
     unfold aC at m2
     rw [hme',hk3] at m2
     obtain ⟨x2,hx2,g2,vs2,hd2,_⟩:=m2
     subst hd1 hd2
     have p1:=r1.ptr_inv hx
     have p2:=r2.ptr_inv hx2
     have p3:(vs++cs).getD t undef=cx'.pv.getD t undef:=rfl
     rw [p3,p2] at p1
     injection p1 with p1
     injection p1 with p1
     injection p1 with p1
     rw [hx,hx2,p1]
    ·cases b2
   ·cases b1
 cases e with
 |normal=>exact key hq
 |ret=>exact key hq
 |_=>exact hq.elim
open Go.RowKit
open Go.RowKit
theorem zq8 {S:Nat->Prop}{γ:Gam}:∀ (ps:List Nat) (avs:List AV) (vs:List Value) (T:Array Value) (base:List (Nat×AV)),(∀ t,Rep w S γ (lkV base t) (T.getD t undef))->(∀ p∈ps,p<T.size)->avs.length=ps.length->vs.length=ps.length ->
  (∀ i (hi:i<avs.length),Rep w S γ avs[i] (vs.getD i undef))->∀ t,Rep w S γ (lkV ((ps.zip avs).foldl (fun tm x=>x::tm) base) t) (((ps.zip vs).foldl (fun t x=>t.setIfInBounds x.1 x.2) T).getD t undef)
 |[],_,_,T,base,h0,_,_,_,_=>fun t=>h0 t
 |p::ps,[],_,T,base,_,_,h1,_,_=>by simp at h1
 |p::ps,av::avs,[],T,base,_,_,_,h2,_=>by simp at h2
 |p::ps,av::avs,v::vs,T,base,h0,hp,h1,h2,h3=>by
  simp only [zip_cons_cons,bA]
  refine zq8 ps avs vs _ _ (fun t=>?_) (fun q hq=>by rw [aM];exact hp q (mem_cons_of_mem _ hq)) (by simpa using h1) (by simpa using h2) (fun i hi=>by have:=h3 (i+1) (by simpa using hi);simpa using this)
  have hpT:=hp p (mem_cons_self ..)
  simp only [lkV]
  cases hb:aK p t with
  |true =>
   have:=aB hb
   subst this
   have h:=h3 0 (by simp)
   simp only [getElem_cons_zero,getD_cons_zero] at h
   simpa [hpT] using h
  |false =>
   have hne:p≠t:=aP hb
   have e:(T.setIfInBounds p v).getD t undef=T.getD t undef:=by
    rw [aA,aE hne,<-aA]
   rw [e];exact h0 t
theorem zn5:∀ (l:List (Nat×Value)) (T:Array Value),(l.foldl (fun t x=>t.setIfInBounds x.1 x.2) T).size=T.size
 |[],T=>rfl
 |x::l,T=>by rw [bA,zn5 l,aM]
theorem zhr {t:Nat}:∀ (l:List (Nat×Value)) (T:Array Value),(∀ x∈l,x.1≠t)->(l.foldl (fun t x=>t.setIfInBounds x.1 x.2) T).getD t undef=T.getD t undef
 |[],T,_=>rfl
 |x::l,T,h=>by
  rw [bA,zhr l _ (fun y hy=>h y (mem_cons_of_mem _ hy)),aA,aE (h x (mem_cons_self ..)),<-aA]
def zq6 (ps:List Nat)(args ycaps:List AV)(me:List (Nat×Ent)):AS:=⟨(ps.zip args).foldl (fun tm x=>x::tm) (ycaps.zipIdx.map fun p=>(p.2,p.1)),me⟩
inductive BX (E:Env) (nt:Nat) (ycaps:List AV) (me:List (Nat×Ent)) (σ:AS) (me':List (Nat×Ent)):Prop
 |mk (τ:AS) (hl:LeX E nt σ τ) (hme:τ.me=me') (hb:boxB E.np ycaps τ me me' []=true)
def EndB (E:Env)(nt:Nat)(ycaps:List AV)(me me':List (Nat×Ent)):Exit->AS->Prop
 |.normal,σ=>BX E nt ycaps me σ me'
 |_,_=>False
theorem StG.putObjW {cx:Cx}{γ:Gam}{a:Act}(h:StG cx γ σ a w){r:Nat}{o o':Obj}(hr:w.heap[r]? = some o)(ho:o.isCells=false)(hB:cx.w0.heap.size<=r)(hno:¬own γ r)(hd:a.defers=[])(hyl:cx.E.yl=none)(hom:∀ es c,o≠.map es c:=by intro es c h;cases h):StG { cx with w1:=w.putObj r o' } γ σ a (w.putObj r o'):=by
 have hn:=zre (k:=0) hr ho
 have hnm:∀ es c,w.heap[r]? ≠ some (.map es c):=fun es c h=>by rw [hr] at h;injection h with h;exact hom es c h
 have hne:∀ b,own γ b->b≠r:=fun b hb e=>hno (e▸hb)
 refine ⟨fun t=>(h.tm t).putObj hn hnm,fun id=>?_,h.inj,fun b hb=>by rw [Cz];exact h.ge b hb,h.below.trans ⟨rfl,rfl,rfl,by rw [Cz];exact aH _,fun b hb=>C4 (by omega)⟩,h.size,
  ⟨fun _=>hd,⟨[],hd,.nil,fun r hr=>by cases hr⟩,h.defers.pin,fun l R hl=>absurd (hyl.symm.trans hl) (by simp),aH _⟩,fun b hb=>by rw [Cz];exact h.gh b hb,fun b hb=>?_,h.dr⟩
 ·have:=h.me id
  cases hf:σ.find id with
  |none=>rw [hf] at this;exact this
  |some e =>
   rw [hf] at this
   obtain ⟨x,hx,he⟩:=this
   exact ⟨x,hx,he.putObj hn hnm (fun b hb=>hne b ⟨id,x,hx,hb⟩)⟩
 ·obtain ⟨q1,q2,q3⟩:=h.fr b hb
  exact ⟨q1,by rw [Cz];exact q2,rfl⟩
theorem ConG.round {E:Env}{nt:Nat}{ps:Array Tmp}{assign body:Code}{ycaps:List AV}(hrg:E.rg=false)(hylE:E.yl=none)(hdr:E.dr=false)(hps:ps.toList.all (fun p=>bB E.np p && Nat.blt p nt)=true)(hlen:args.length=ps.size)(hcl:bB ycaps.length nt=true)
  (h:AW E nt (Cu (fun σ=>AW E nt (EndB E nt ycaps me me') [.code body] .normal σ) (fun _ _=>False)) [.code assign] .normal (zq6 ps.toList args ycaps me))
  (l D:Nat) (fn:FuncId) (T:Array Value) (hT:T.size=nt):ConG E.P (some (l,.loop (recR fn T ps assign body D))) (fun vs cs w R=>cs=T->CalY E.P l vs cs w R) args ycaps me (.bool true) me':=by
 intro cx γ w vs cs hP hdr0 hyl hnt0 hnp0 hme hvs hva hca hcs
 subst hcs
 have hyl':=hyl _ rfl
 obtain ⟨q0,q1,q2,q3⟩:=hme.defers.yl l _ hyl'
 refine ⟨fn,_,assign,body,run_yield (P:=E.P) (args:=vs) q3 (by rw [hvs,hlen]),roundIn_of_wpIn trivial ?_⟩
 have ef:(ps.zip vs).foldl (fun (t:Array Value) (x:Tmp×Value)=>t.setIfInBounds x.1 x.2) cs=(ps.toList.zip vs.toList).foldl (fun t x=>t.setIfInBounds x.1 x.2) cs:=by
  rw [<-Array.foldl_toList,Array.toList_zip]
 obtain ⟨tm,htm⟩:∃ tm,tm=(ps.toList.zip vs.toList).foldl (fun t x=>t.setIfInBounds x.1 x.2) cs:=⟨_,rfl⟩
 have etm:(ps.zip vs).foldl (fun (t:Array Value) (x:Tmp×Value)=>t.setIfInBounds x.1 x.2) cs=tm:=by rw [ef,htm]
 show assign.wpIn (Fence.wide.inRound l) 0 E.P _ { tmps:=(ps.zip vs).foldl (fun (t:Array Value) (x:Tmp×Value)=>t.setIfInBounds x.1 x.2) cs,defers:=[] } w
 rw [etm]
 have hps':∀ p∈ps.toList,E.np<=p/\p<nt:=fun p hp=>by
  have:=aT.1 hps p hp
  simpa using this
 let cxa:Cx:=⟨E,cx.S0,cx.w0,nt,fun b=>b<w.heap.size/\¬own γ b,w,some l,cs,fun h=>absurd (hrg.symm.trans h) (by simp)⟩
 have hst:StG cxa γ (zq6 ps.toList args ycaps me) { tmps:=tm,defers:=[] } w:=by
  refine ⟨fun t=>?_,hme.me,hme.inj,hme.ge,hme.below,by rw [htm];exact (zn5 _ _).trans hT,⟨fun _=>rfl,⟨[],rfl,.nil,fun r hr=>by cases hr⟩,fun t ht=>?_,fun l R hl=>absurd (hylE.symm.trans hl) (by simp),aH _⟩,hme.gh,fun b hb=>⟨hb.2,hb.1,rfl⟩,fun hd=>absurd (hdr.symm.trans hd) (by simp)⟩
  ·rw [htm]
   refine zq8 ps.toList args vs.toList cs _ (fun t=>?_) (fun p hp=>by rw [hT];exact (hps' p hp).2) (by simpa using hlen) (by simp [hvs,hlen]) (fun i hi=>?_) t
   ·rw [Yj]
    by_cases ht:0<=t/\t<0+ycaps.length
    ·rw [dif_pos ht];exact hca t (by omega)
    ·rw [dif_neg ht];exact .any _
   ·have:=hva i hi
    rwa [aA,<-Array.getElem?_toList,<-getD_eq_getElem?_getD] at this
  ·show tm.getD t undef=cs.getD t undef
   rw [htm]
   exact zhr _ _ (fun x hx e=>by have:=(hps' x.1 (of_mem_zip hx).1).1;have ht':t<E.np:=ht;omega)
 have hA:WP cxa assign (Cu (fun σ=>AW E nt (EndB E nt ycaps me me') [.code body] .normal σ) (fun _ _=>False)) (zq6 ps.toList args ycaps me):=aW (h.out cxa rfl rfl) fun e σ hk=>by cases e<;>exact hk
 refine wpIn_mono (F:=Fence.wide.inRound l) (hA _ _ ⟨γ,hst⟩) (fun e a1 w1 ⟨σ1,hq1,hst1⟩=>?_)
 cases e with
 |normal =>
  obtain ⟨γ1,hs1⟩:=hst1
  obtain ⟨k1,k2,k3⟩:=hs1.fr l ⟨q1,q2⟩
  have k4:w1.heap[l]? = some (.loop (recR fn cs ps assign body D)):=k3.trans q3
  refine ⟨_,run_beginRound (P:=E.P) k4 rfl,?_⟩
  have hs2:=hs1.putObjW (o':=.loop { recR fn cs ps assign body D with state:=.busy }) k4 rfl q0 k1 (hs1.defers.d0 hrg) hylE
  generalize hw2:w1.putObj l (.loop { recR fn cs ps assign body D with state:=.busy })=w2 at hs2 ⊢
  have hB:WP { cxa with w1:=w2 } body (EndB E nt ycaps me me') σ1:=aW ((show AW E nt (EndB E nt ycaps me me') [.code body] .normal σ1 from hq1).out { cxa with w1:=w2 } rfl rfl) fun e σ hk=>by cases e<;>exact hk
  refine wpIn_mono (F:=Fence.wide.inRound l) (hB _ _ ⟨γ1,hs2⟩) (fun e2 a2 w3 ⟨σ2,hq2,hst2⟩=>?_)
  cases e2 with
  |normal =>
   obtain ⟨τ,hl,hme',hbx⟩:=hq2
   obtain ⟨γ3,hs3⟩:=hl { cxa with w1:=w2 } rfl rfl a2 w3 hst2
   have hb2:w2.heap[l]? = some (.loop { recR fn cs ps assign body D with state:=.busy }):=by rw [<-hw2];exact World.putObj_heap_same k2
   obtain ⟨j1,j2,j3⟩:=hs3.fr l ⟨q1,q2⟩
   have j4:w3.heap[l]? = some (.loop { recR fn cs ps assign body D with state:=.busy }):=j3.trans hb2
   refine ⟨_,_,run_endRound (P:=E.P) none j4,?_⟩
   have hs4:=hs3.putObjW (o':=.loop (recR fn cs ps assign body D)) j4 rfl q0 j1 (hs3.defers.d0 hrg) hylE
   show ∃ u γ',_/\_
   have hw4:w3.putObj l (.loop { { recR fn cs ps assign body D with state:=.busy } with state:=if (none:Option Code).isNone=true then LoopState.ready else LoopState.done,pending:=none })=w3.putObj l (.loop (recR fn cs ps assign body D)):=rfl
   rw [hw4]
   have hr4:(w3.putObj l (.loop (recR fn cs ps assign body D))).heap[l]? = some (.loop (recR fn cs ps assign body D)):=World.putObj_heap_same j2
   generalize hwe:w3.putObj l (.loop (recR fn cs ps assign body D))=w4 at hs4 hr4 ⊢
   have z1:w.heap.size<=w1.heap.size:=hs1.defers.sz
   have z2:w1.heap.size=w2.heap.size:=by rw [<-hw2,Cz]
   have z3:w2.heap.size<=w3.heap.size:=hs3.defers.sz
   have z4:w3.heap.size=w4.heap.size:=by rw [<-hwe,Cz]
   have hfr:∀ b,¬own γ b->b<w.heap.size->w4.heap[b]? = w.heap[b]? /\ ¬own γ3 b:=fun b hb hlt=>by
    obtain ⟨p1,p2,p3⟩:=hs1.fr b ⟨hlt,hb⟩
    obtain ⟨r1,r2,r3⟩:=hs3.fr b ⟨hlt,hb⟩
    refine ⟨?_,r1⟩
    by_cases hbl:b=l
    ·subst hbl;exact hr4.trans q3.symm
    ·have e1:w4.heap[b]? = w3.heap[b]? := by rw [<-hwe];exact C4 hbl
     have e2:w2.heap[b]? = w1.heap[b]? := by rw [<-hw2];exact C4 hbl
     exact e1.trans (r3.trans (e2.trans p3))
   refine ⟨.bool true,γ3,rfl,⟨fun t=>.any _,fun i=>by have:=hs4.me i;unfold aC at this ⊢;rw [<-hme'];exact this,hs4.inj,hs4.ge,hs4.below,hnt0.symm,⟨fun _=>rfl,⟨[],rfl,.nil,fun r hr=>by cases hr⟩,fun t ht=>by rw [hnp0] at ht;omega,fun l' R' hl'=>?_,bC hme.defers.sz (by omega)⟩,hs4.gh,fun b hb=>?_,fun hd=>absurd (hdr0.symm.trans hd) (by simp)⟩,.bool _,by omega,fun i hst'=>?_,hfr⟩
   ·rw [hyl'] at hl'
    injection hl' with hl'
    injection hl' with e1 e2
    subst e1 e2
    exact ⟨q0,by omega,j1,hr4⟩
   ·obtain ⟨p1,p2,p3⟩:=hme.fr b hb
    obtain ⟨r1,r2⟩:=hfr b p1 p2
    exact ⟨r2,by omega,r1.trans p3⟩
   ·unfold Ik at hst'
    split at hst'
    rotate_left
    ·rename_i ty sz xs e hi he
     obtain ⟨t,ty',sz',xs',ht,e1,e2,rfl⟩:=zol hbx hi he
     obtain ⟨hlt,hat⟩:=List.getElem?_eq_some_iff.1 e1
     have r1:=hca t hlt
     rw [hat] at r1
     have r2:=hs3.tm t
     rw [e2,hs3.defers.pin t ht] at r2
     have m1:=hme.me i
     unfold aC at m1
     rw [hi] at m1
     obtain ⟨x,hx,m1⟩:=m1
     have m2:=hs3.me i
     unfold aC at m2
     rw [hme',he] at m2
     obtain ⟨x2,hx2,m2⟩:=m2
     exact zn7 r1 r2 hx hx2 m1 m2
    ·cases hst'
    rename_i ty es hi
    have hb':=aT.1 hbx (i,.box ty es) (S1 hi)
    have hb':=(aY _ _).mp hb'
    rcases hb' with hb'|hb'
    ·cases hb'
    obtain ⟨t,ht,htb⟩:=aS.1 hb'
    rw [aX] at ht
    rw [aO] at htb
    obtain ⟨b1,b2⟩:=htb
    split at b1
    ·rename_i k hk
     have e1:k=i:=aB b1
     subst e1
     split at b2
     ·rename_i k2 ty2 es2 hk2 hk3
      have e2:k2=k:=aB b2
      subst e2
      obtain ⟨hlt,hat⟩:=List.getElem?_eq_some_iff.1 hk
      have r1:=hca t hlt
      rw [hat] at r1
      have r2:=hs3.tm t
      rw [hk2,hs3.defers.pin t ht] at r2
      have m1:=hme.me k2
      unfold aC at m1
      rw [hi] at m1
      obtain ⟨x,hx,g,vs1,hd1,_⟩:=m1
      have m2:=hs3.me k2
      unfold aC at m2
      rw [hme',hk3] at m2
      obtain ⟨x2,hx2,g2,vs2,hd2,_⟩:=m2
      subst hd1 hd2
      have p1:=r1.ptr_inv hx
      have p2:cs.getD t undef=_:=r2.ptr_inv hx2
      rw [p2] at p1
      injection p1 with p1
      injection p1 with p1
      injection p1 with p1
      rw [hx,hx2,p1]
     ·cases b2
    ·cases b1
  |_=>exact hq2.elim
 |_=>exact hq1.elim
end Go.Proofs.YthbogefcfhmpgaaGreat
