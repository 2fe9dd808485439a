/- The abstract walk. -/
import Derived.Test.YtidhlpjgifoneaaGreatK13
set_option linter.unusedVariables false
set_option linter.unusedSimpArgs false
namespace Go.Proofs.YtidhlpjgifoneaaGreat
open Go.RowKit List
def AV.leafId:AV->Option Nat
 |.row i=>some i
 |.ptr i _=>some i
 |.elt i _ _ _=>some i
 |.der _ i=>some i
 |.cont _ i=>some i
 |_=>none
def AV.rp0 (r:Nat)(src:AV->Bool)(tgt x:AV):AV:=match x.leafId with
 |some i=>match Nat.beq i r with
  |true=>match src x with
   |true=>tgt
   |false=>.any
  |false=>x
 |none=>x
mutual
def AV.rp (r:Nat)(src:AV->Bool)(tgt:AV):AV->AV
 |.fn f cap=>.fn f (AV.rpL r src tgt cap)
 |.yld l T cap=>.yld l T (AV.rpL r src tgt cap)
 |.agg cs=>.agg (AV.rpL r src tgt cs)
 |.tup cs=>.tup (AV.rpL r src tgt cs)
 |x=>AV.rp0 r src tgt x
def AV.rpL (r:Nat)(src:AV->Bool)(tgt:AV):List AV->List AV
 |[]=>[]
 |x::l=>AV.rp r src tgt x::AV.rpL r src tgt l
end
section
variable {r:Nat} {src:AV->Bool} {tgt:AV}
theorem AV.rpL_length (l:List AV):(AV.rpL r src tgt l).length=l.length:=by
 induction l with
 |nil=>rfl
 |cons x l ih=>simp [AV.rpL,ih]
theorem AV.rpL_at (l:List AV)(i:Nat)(hi:i<l.length):(AV.rpL r src tgt l)[i]'(by rw [AV.rpL_length];exact hi)=AV.rp r src tgt l[i]:=by
 induction l generalizing i with
 |nil=>simp at hi
 |cons x l ih =>
  cases i with
  |zero=>rfl
  |succ i=>exact ih i (by simpa using hi)
theorem Rep.rp {w:World}{S:Nat->Prop}{γ γ':Gam}(hγ:∀ i x,i≠r->γ i=some x->γ' i=some x)(ht:∀ x v,src x=true->x.leafId=some r->Rep w S γ x v->Rep w S γ' tgt v){av:AV}{v:Value}(h:Rep w S γ av v):Rep w S γ' (AV.rp r src tgt av) v:=by
 have leaf:∀ {x:AV} {v:Value} {i:Nat},x.leafId=some i->Rep w S γ x v->(∀ h:i≠r,Rep w S γ' x v)->Rep w S γ' (AV.rp0 r src tgt x) v:=fun {x v i} hx h ho=>by
  simp only [AV.rp0,hx]
  cases hb:Nat.beq i r with
  |true =>
   have:=Nat.eq_of_beq_eq_true hb
   subst this
   simp only
   cases hs:src x with
   |true=>exact ht x v hs hx h
   |false=>exact .any _
  |false=>exact ho (Nat.ne_of_beq_eq_false hb)
 induction h with
 |any=>exact .any _
 |int=>exact .int _ _
 |bool=>exact .bool _
 |str=>exact .str _
 |nilp=>exact .nilp
 |nils=>exact .nils
 |nilf=>exact .nilf
 |@ptr γ id off v d' h hv=>exact leaf rfl (.ptr h hv) (fun hi=>.ptr (hγ _ _ hi h) hv)
 |@elt γ id sz k j v d' h hv=>exact leaf rfl (.elt h hv) (fun hi=>.elt (hγ _ _ hi h) hv)
 |@der γ φ id v d' h hv=>exact leaf rfl (.der h hv) (fun hi=>.der (hγ _ _ hi h) hv)
 |@row γ id v d' h hv=>exact leaf rfl (.row h hv) (fun hi=>.row (hγ _ _ hi h) hv)
 |mapv ps0 hp g es clock hb hS hg hh hl hk hv ih1 ih2=>exact .mapv ps0 hp g es clock hb hS hg hh hl hk hv
 |mapn=>exact .mapn
 |slen A n c=>exact .slen A n c
 |@cont γ n id v d' h hv hl=>exact leaf rfl (.cont h hv hl) (fun hi=>.cont (hγ _ _ hi h) hv hl)
 |sl A c cell hc hlen hb hr2 h1 ih=>exact .sl A c cell hc hlen hb hr2 h1
 |ref b off cell hS hb hc hr2 h1 ih=>exact .ref b off cell hS hb hc hr2 h1
 |fn vs hl hrr ih =>
  exact .fn vs (by rw [hl,AV.rpL_length]) (fun i hi'=>by
   have hi2:=hi'
   rw [AV.rpL_length] at hi2
   rw [AV.rpL_at _ i hi2]
   exact ih i hi2 hγ ht leaf)
 |yld hrr ih =>
  exact .yld (fun i hi'=>by
   have hi2:=hi'
   rw [AV.rpL_length] at hi2
   rw [AV.rpL_at _ i hi2]
   exact ih i hi2 hγ ht leaf)
 |agg vs hl hrr h1 ih =>
  exact .agg vs (by rw [hl,AV.rpL_length]) (fun i hi'=>by
   have hi2:=hi'
   rw [AV.rpL_length] at hi2
   rw [AV.rpL_at _ i hi2]
   exact ih i hi2 hγ ht leaf) h1
 |tup vs hl hrr ih =>
  exact .tup vs (by rw [hl,AV.rpL_length]) (fun i hi'=>by
   have hi2:=hi'
   rw [AV.rpL_length] at hi2
   rw [AV.rpL_at _ i hi2]
   exact ih i hi2 hγ ht leaf)
end
def Ent.rp (r:Nat)(src:AV->Bool)(tgt:AV):Ent->Ent
 |.box ty cs=>.box ty (AV.rpL r src tgt cs)
 |e=>e
def AS.rpAll (σ:AS)(r:Nat)(src:AV->Bool)(tgt:AV)(e:Ent):AS:=⟨σ.tm.map fun p=>(p.1,AV.rp r src tgt p.2),(r,e)::σ.me.map fun p=>(p.1,p.2.rp r src tgt)⟩
variable {σ:AS}
theorem LeX.rpAll {E:Env}{nt:Nat}(r:Nat)(src:AV->Bool)(tgt:AV)(e e':Ent)(hr:σ.find r=some e)(he':∀ ty cs,e'≠.box ty cs)
  (H:∀ (cx:Cx) (γ:Gam) (a:Act) (w:World) (d:Option (Option Nat×Value)),StG cx γ σ a w->γ r=some d->z8s w (Sg cx.S0 cx.w0.heap.size γ) γ cx.w0.heap.size d e->∃ d',(∀ b,b∈blks d'->b∈blks d)/\∀ S':Nat->Prop,(∀ b,Sg cx.S0 cx.w0.heap.size γ b->S' b)->(∀ b,b∈blks d->b ∉ blks d'->S' b) ->
    z8s w S' G0 cx.w0.heap.size d' e'/\∀ γ' x v,γ' r=some d'->src x=true->x.leafId=some r->Rep w S' γ x v->Rep w S' γ' tgt v):LeX E nt σ (σ.rpAll r src tgt e'):=fun cx hE hn a w ⟨γ,h⟩=>by
 have hme:=h.me r
 rw [hr] at hme
 obtain ⟨d,hd,he⟩:=hme
 obtain ⟨d',hsub,H⟩:=H cx γ a w d h hd he
 have hown:∀ b,own (γ.set r d') b->own γ b:=fun b ⟨i,s,hi,hm⟩=>by
  by_cases hir:i=r
  ·subst hir;rw [Gam.set_self] at hi;injection hi with hi;subst hi;exact ⟨_,_,hd,hsub b hm⟩
  ·rw [Gam.set_ne _ _ _ hir] at hi;exact ⟨i,s,hi,hm⟩
 have hS:∀ b,Sg cx.S0 cx.w0.heap.size γ b->Sg cx.S0 cx.w0.heap.size (γ.set r d') b:=fun b hb=>hb.elim Or.inl (fun ⟨h1,h2⟩=>Or.inr ⟨h1,fun ho=>h2 (hown b ho)⟩)
 obtain ⟨H1,H2⟩:=H (Sg cx.S0 cx.w0.heap.size (γ.set r d')) hS (fun b hb hb'=>Or.inr ⟨(h.ge b ⟨_,_,hd,hb⟩).1,fun ⟨i,s,hi,hm⟩=>by
  by_cases hir:i=r
  ·subst hir;rw [Gam.set_self] at hi;injection hi with hi;subst hi;exact hb' hm
  ·rw [Gam.set_ne _ _ _ hir] at hi;exact hir (h.inj _ _ _ _ _ hi hd hm hb)⟩)
 have mv:∀ {av v},Rep w (Sg cx.S0 cx.w0.heap.size γ) γ av v->Rep w (Sg cx.S0 cx.w0.heap.size (γ.set r d')) (γ.set r d') (AV.rp r src tgt av) v:=fun hv =>
  (hv.mono (Nat.le_refl _) (fun b hb _=>⟨rfl,hS b hb⟩)).rp (src:=src) (fun i x hi hx=>by rw [Gam.set_ne _ _ _ hi];exact hx) (fun x v hs hl hx=>H2 _ x v (Gam.set_self _ _ _) hs hl hx)
 refine ⟨γ.set r d',fun u=>?_,fun i=>?_,fun i j b s s' hi hj mi mj=>?_,fun b hb=>h.ge b (hown b hb),h.below,h.size,h.defers.gam hown,h.gh,fun b hb=>by obtain ⟨f2,f3,f4⟩:=h.fr b hb;exact ⟨fun ho=>f2 (hown b ho),f3,f4⟩,h.dr⟩
 ·have e:(σ.rpAll r src tgt e').get u=AV.rp r src tgt (σ.get u):=yie _ rfl _ _
  rw [e]
  exact mv (h.tm u)
 ·by_cases hi:r=i
  ·subst hi
   have e:(σ.rpAll r src tgt e').find r=some e':=by simp [AS.rpAll,AS.find,lkE]
   rw [e]
   exact ⟨d',Gam.set_self _ _ _,H1.free he'⟩
  ·have e:(σ.rpAll r src tgt e').find i=(σ.find i).map (Ent.rp r src tgt):=by
    unfold AS.rpAll AS.find
    simp only [lkE]
    cases hb:Nat.beq r i with
    |true=>exact absurd (Nat.eq_of_beq_eq_true hb) hi
    |false=>exact yih _ _ _
   rw [e,Gam.set_ne _ _ _ (Ne.symm hi)]
   have:=h.me i
   cases hf:σ.find i with
   |none=>rw [hf] at this;exact this
   |some en =>
    rw [hf] at this
    obtain ⟨x,hx,he⟩:=this
    have heq:∀ en:Ent,(∀ ty cs,en≠.box ty cs)->z8s w (Sg cx.S0 cx.w0.heap.size γ) γ cx.w0.heap.size x en->z8s w (Sg cx.S0 cx.w0.heap.size (γ.set r d')) (γ.set r d') cx.w0.heap.size x en:=fun en hb he =>
     (he.move (γ':=γ) (Nat.le_refl _) (fun b hb _=>⟨rfl,hS b hb⟩) (fun id d h=>Or.inl h) (fun _ _=>rfl)).free hb
    cases en with
    |box ty cs =>
     obtain ⟨g,vs,h1,h2,h3,h4,h5⟩:=he
     exact ⟨x,hx,g,vs,h1,h2,by rw [h3,AV.rpL_length],fun i hi=>by
      have hi2:=hi
      rw [AV.rpL_length] at hi2
      rw [AV.rpL_at _ i hi2]
      exact mv (h4 i hi2),h5⟩
    |_=>exact ⟨x,hx,heq _ (fun ty cs h=>by cases h) he⟩
 ·by_cases hir:i=r
  ·by_cases hjr:j=r
   ·rw [hir,hjr]
   ·subst hir
    rw [Gam.set_self] at hi
    injection hi with hi
    subst hi
    rw [Gam.set_ne _ _ _ hjr] at hj
    exact h.inj _ _ _ _ _ hd hj (hsub b mi) mj
  ·rw [Gam.set_ne _ _ _ hir] at hi
   by_cases hjr:j=r
   ·subst hjr
    rw [Gam.set_self] at hj
    injection hj with hj
    subst hj
    exact h.inj _ _ _ _ _ hi hd mi (hsub b mj)
   ·rw [Gam.set_ne _ _ _ hjr] at hj
    exact h.inj _ _ _ _ _ hi hj mi mj
open Go.RowKit
section
variable {α β κ ν:Type}
def nle (n:Int)(len:Nat)(k:Nat->Option β):Option β:=if 0<=n/\n.toNat<=len then k n.toNat else none
def gle (a b:Nat)(x:Option β):Option β:=if a<=b then x else none
def clr (l:List α)(lo:Nat)(z:α)(k:List α->Option β):Option β:=if lo<=l.length then k (clrL l lo z) else none
def encN (ek:κ->AV)(er:ν->AV)(ty sz:Nat)(p:κ×List ν):AV×NE:=(ek p.1,.row ty sz (p.2.map er))
end
section
variable {α β κ ν:Type} {E:Env} {nt:Nat} {o:Oper} {σ:AS} {K:OpK}
variable {k:Nat->Option β}{r:β}{T id e esz eb ty:Nat}{x:Operand}{i:TyI}{xs:List AV}
theorem OpX.sub {n:Int}{y:Operand}{kd:IntKind}(hF:nle n xs.length k=some r)(ho:o.op=.slice T x (some y) none none)(hd:dokN E nt o.dst=true)(hxo:z0r x=true)(hyo:z0r y=true)(hx:σ.eval x=.row id)(hy:σ.eval y=.int kd n)
  (hT:lkT E.tab T=some i) (hs:i.shape=.slc e esz eb) (hz:Nat.beq esz 0=false) (hl:σ.find id=some (.row ty esz xs)) (hk:∀ m,k m=some r->K (.der (.sub esz m) id) [id] []):OpX E nt o σ K:=by
 unfold nle at hF
 split at hF
 ·rename_i hn
  exact .mk _ _ _ (fun cx hE hnt=>y9r (lo:=n.toNat) ho (z15 hd hE hnt) hxo hyo hx (by rw [hy];congr 1;omega) (by rw [hE];exact hT) hs (nbne hz) hl hn.2) (hk _ hF)
 ·cases hF
variable {lo:Nat}
theorem OpX.lns {c:Option β}{sz:Nat}(hF:gle lo xs.length c=some r)(ho:o.op=.call { callee:=.builtin .len,args:=#[x],argTypes:=#[T] })(hd:dokN E nt o.dst=true)(hxo:z0r x=true)(hx:σ.eval x=.der (.sub sz lo) id)(hl:σ.find id=some (.row ty sz xs))(hT:lkT E.tab T=some i)(hs:i.shape=.slc e esz eb)
  (hk:c=some r->K (.int .i64 ((xs.length-lo:Nat):Int)) [id] []):OpX E nt o σ K:=by
 unfold gle at hF
 split at hF
 ·rename_i hlo
  exact .mk _ _ _ (fun cx hE hnt=>ygo ho (z15 hd hE hnt) hxo hx hl (by rw [hE];exact hT) hs hlo) (hk hF)
 ·cases hF
theorem OpX.ixs {n:Int}{sz:Nat}{y:Operand}{kd:IntKind}(hF:nat n (xs.length-lo) k=some r)(ho:o.op=.indexAddr T x y)(hd:dokN E nt o.dst=true)(hxo:z0r x=true)(hyo:z0r y=true)(hx:σ.eval x=.der (.sub sz lo) id)(hy:σ.eval y=.int kd n)
  (hl:σ.find id=some (.row ty sz xs)) (hT:lkT E.tab T=some i) (hs:i.shape=.slc e sz eb) (hz:Nat.beq sz 0=false) (hk:∀ m,k m=some r->K (.elt id sz (lo+m) 0) [id] []):OpX E nt o σ K:=by
 have:=NatX.o (K:=fun m=>lo+m<xs.length->K (.elt id sz (lo+m) 0) [id] []) hF (fun m hm _=>hk m hm)
 cases this with
 |mk m hn hm k=>exact .mk _ _ _ (fun cx hE hnt=>zy2 ho (z15 hd hE hnt) hxo hyo hx hy hl (by rw [hE];exact hT) hs (nbne hz) hn (by omega)) (k (by omega))
theorem OpX.clr (enc:α->AV){l:List α}{z:α}{k:List α->Option β}{ie:TyI}(hF:Proofs.YtidhlpjgifoneaaGreat.clr l lo z k=some r)(ho:o.op=.call { callee:=.builtin .clear,args:=#[x],argTypes:=#[T] })(hd:dokN E nt o.dst=true)(hxo:z0r x=true)(hx:σ.eval x=.der (.sub esz lo) id)(hl:σ.find id=some (.row e esz (l.map enc)))
  (hT:lkT E.tab T=some i) (hs:i.shape=.slc e esz eb) (he:lkT E.tab e=some ie) (hz:Nat.beq esz 0=false) (hzo:zvq ie=true) (hone:zhu ie.zero.cells.toList=true) (hsub:SubL (zq2 ie).cells (enc z).cells) (hk:∀ l',k l'=some r->K (.tup []) [id] [(id,.row e esz (l'.map enc))]):OpX E nt o σ K:=by
 unfold Proofs.YtidhlpjgifoneaaGreat.clr at hF
 split at hF
 ·rename_i hlo
  refine .mk _ _ _ (fun cx hE hnt=>?_) (hk _ hF)
  have h1:=ya3 (cx:=cx) ho (z15 hd hE hnt) hxo hx hl (by rw [hE];exact hT) hs (by rw [hE];exact he) (nbne hz) hzo (zf3 hone) (by rw [length_map];exact hlo)
  refine h1.weak (.cons _ (.row _ _ ?_) .nil)
  rw [<-ym0]
  unfold clrL
  exact (SubR.refl _).append (.replicate hsub _)
 ·cases hF
variable [DecidableEq κ]
omit [DecidableEq κ] in
end
variable {n:Nat}
theorem Born.idx {es:Array MapEntry}(h:∀ j (h:j<es.toList.length),(es.toList[j]).born=j)(hn:es.size=n):Born es n:=by
 have e:es.toList.map (·.born)=range n:=by
  apply ext_getElem
  ·simp [hn]
  ·intro i h3 h4
   simp only [getElem_map,getElem_range]
   exact h i (by simpa using h3)
 refine ⟨by rw [e];exact nodup_range,fun x hx=>?_⟩
 have:x.born∈es.toList.map (·.born):=mem_map.2 ⟨x,hx,rfl⟩
 rw [e] at this
 exact mem_range.1 this
section
variable {α β κ ν:Type} {E:Env} {nt:Nat}
variable {R:Exit->AS->Prop} {K:List zfk}
end
attribute [irreducible] nle gle clr    
open Go.RowKit
def idA (a:AV):AV:=a
theorem zv6 (l:List AV):List.map idA l=l:=by induction l with
 |nil=>rfl
 |cons x l ih=>rw [map_cons,ih];rfl
section
variable {α β:Type}
def idxD (d:AV->Option α)(l:List AV)(n:Int)(k:α->Option β):Option β:=if 0<=n then (match l[n.toNat]? with|some a=>(match d a with|some y=>k y|none=>none)|none=>none) else none
theorem IdxX.oD {enc:α->AV}{d:AV->Option α}{l:List AV}{n:Int}{K:AV->Prop}{k:α->Option β}{r:β}(h:idxD d l n k=some r)(hd:∀ a y,d a=some y->a=enc y)(hk:∀ y,k y=some r->K (enc y)):IdxX (l.map idA) n K:=by
 unfold idxD at h
 split at h
 ·rename_i hn
  split at h
  ·rename_i a ha
   split at h
   ·rename_i y hy
    refine .mk n.toNat (enc y) (by omega) ?_ (hk y h)
    rw [zv6,ha,hd a y hy]
   ·cases h
  ·cases h
 ·cases h
end
section
variable {α β V:Type} {E:Env} {nt:Nat} {R:Exit->AS->Prop} {K:List zfk}
def jon (F:V->Option β)(x:Option β):Option β:=x
variable {A:Code}
theorem AW.meet1 {J:AS->Prop}(h1:AW E nt (zmp J (AW E nt R K)) [.code A] .normal σ)(h2:∀ τ,J τ->AW E nt R K .normal τ):AW E nt R (.code A::K) .normal σ :=
 ⟨fun cx hE hn=>WP.mono (h1.out cx hE hn) (fun e σ' hq=>by cases e<;>first|exact (h2 _ hq).out cx hE hn|exact AW.out hq cx hE hn)⟩
theorem AW.meet2 {J:AS->Prop}{B:Code}(h1:AW E nt (zmp J (AW E nt R K)) [.code A,.code B] .normal σ)(h2:∀ τ,J τ->AW E nt R K .normal τ):AW E nt R (.code A::.code B::K) .normal σ :=
 ⟨fun cx hE hn=>WP.mono (h1.out cx hE hn) (fun e σ' hq=>by
  cases e with
  |normal=>exact WP.mono hq (fun e σ'' hq=>by cases e<;>first|exact (h2 _ hq).out cx hE hn|exact AW.out hq cx hE hn)
  |_=>exact AW.out hq cx hE hn)⟩
variable {F:V->Option β}
theorem AW.joinO1 {S:V->AS}{x:Option β}{r:β}{C:Code}(h:jon F x=some r)(h1:x=some r->AW E nt (zmp (fun σ'=>∃ v,F v=some r/\LeX E nt σ' (S v)) (AW E nt R (.code C::K))) [.code A] .normal σ)(h2:∀ v,F v=some r->AW E nt R (.code C::K) .normal (S v)):AW E nt R (.code A::.code C::K) .normal σ :=
 AW.meet1 (h1 h) (fun τ ⟨v,hv,hl⟩=>AW.weaken hl (h2 v hv))
theorem AW.joinO2 {S:V->AS}{x:Option β}{r:β}{B C:Code}(h:jon F x=some r)(h1:x=some r->AW E nt (zmp (fun σ'=>∃ v,F v=some r/\LeX E nt σ' (S v)) (AW E nt R (.code C::K))) [.code A,.code B] .normal σ)(h2:∀ v,F v=some r->AW E nt R (.code C::K) .normal (S v)):AW E nt R (.code A::.code B::.code C::K) .normal σ :=
 AW.meet2 (h1 h) (fun τ ⟨v,hv,hl⟩=>AW.weaken hl (h2 v hv))
theorem z2k (F:V->Option β)(x:Option β):jon F x=x:=rfl
end
section
variable {β:Type}
def natc (n:Int)(k:Nat)(x y:Option β):Option β:=if n=(k:Int) then x else y
theorem NatX.oS {n:Int}{len:Nat}{K:Nat->Prop}{k:Nat}{x y:Option β}{r:β}(h:natc n k x y=some r)(hlt:Nat.blt k len=true)(h0:x=some r->K k)(h1:y=some r->NatX n len K):NatX n len K:=by
 unfold natc at h
 split at h
 ·rename_i e;exact .mk k e (Nat.le_of_ble_eq_true hlt) (h0 h)
 ·exact h1 h
theorem zt6 (n:Int)(k:Nat)(x y:Option β):natc n k x y=if n=(k:Int) then x else y:=rfl
end
attribute [irreducible] idxD jon natc
open Go.RowKit
def y7l:AV->Bool
 |.row _=>true
 |_=>false
def nstV (s:Value)(vs:Array Value):Option (Option Nat×Value):=some (none,.tuple (#[s]++vs))
variable {s:Value}{vs:Array Value}
theorem mem_nstV {b:Nat}:b∈blks (nstV s vs) ↔ zaw s=some b\/∃ j,zaw (vs.getD j undef)=some b:=by
 simp only [nstV,blks,Option.toList_none,nil_append,zh1,Array.toList_append,filterMap_append,mem_append]
 constructor
 ·rintro (h|h)
  ·left
   obtain ⟨v,hv,hb⟩:=mem_filterMap.1 h
   have:v=s:=by simpa using hv
   rw [<-this];exact hb
  ·right
   obtain ⟨v,hv,hb⟩:=mem_filterMap.1 h
   obtain ⟨j,hj,rfl⟩:=mem_iff_getElem.1 hv
   have hj':j<vs.size:=by simpa using hj
   exact ⟨j,by simpa [Array.getD,hj'] using hb⟩
 ·rintro (h|⟨j,h⟩)
  ·left;exact mem_filterMap.2 ⟨s,by simp,h⟩
  ·right
   by_cases hj:j<vs.size
   ·exact mem_filterMap.2 ⟨vs[j],by simp,by simpa [Array.getD,hj] using h⟩
   ·simp [Array.getD,hj,undef,zaw] at h
variable {id:Nat}{vs':Array Value}
theorem yhy {γ:Gam}(h:γ id=some (nstV s vs')):Turn γ id (nstV s vs) :=
 ⟨_,_,rfl,h,rfl,rfl,fun φ hφ=>by cases φ<;>first|(cases hφ;done)|exact ⟨rfl,by simp only [Dv.of,con0]⟩⟩
section
variable {E:Env} {nt:Nat}
theorem LeX.nst (r ety sz:Nat){ty m:Nat}(hr:σ.find r=some (.row ty 1 (replicate m .nils))):LeX E nt σ (σ.rpAll r y7l (.cont m r) (.nest ty (replicate m (.row ety sz [])))):=by
 refine LeX.rpAll r y7l (.cont m r) _ _ hr (fun ty cs h=>by cases h) (fun cx γ a w d hst hd he=>?_)
 obtain ⟨s,us,hde,hs1,hown,hlen,hre,hone⟩:=he
 subst hde
 obtain ⟨ob1,ob2⟩:=zt5 hown
 rw [length_replicate] at hown
 have hul:us.length=m:=by have:=hown.1;omega
 have hnil:∀ k,k<m->us.getD k undef=.slice none 0 0:=fun k hk=>by
  have:=hre k (by simpa using hk) 0 (by simp [AV.cells])
  simp only [getElem_replicate,AV.cells,getElem_cons_zero,Nat.mul_one,Nat.add_zero] at this
  exact this.nils_inv
 have hgd:∀ k,us.toArray.getD k undef=us.getD k undef:=fun k=>by simp [Array.getD_eq_getD_getElem?,getD_eq_getElem?_getD]
 have hnb:∀ k b,zaw (us.toArray.getD k undef)≠some b:=fun k b hb=>by
  rw [hgd] at hb
  by_cases hk:k<m
  ·rw [hnil k hk] at hb;simp [zaw] at hb
  ·rw [getD_eq_getElem?_getD,getElem?_eq_none (by omega)] at hb
   simp [undef,zaw] at hb
 refine ⟨nstV s us.toArray,fun b hb=>?_,fun S' hS hS2=>⟨⟨s,us.toArray,rfl,hs1,by simp [hul],⟨us,by rw [length_replicate];exact hown,hone,fun k hk _=>(hgd k).symm⟩,fun k hk=>?_,fun i j b hi=>absurd hi (hnb i b),fun i b _=>hnb i b⟩,fun γ' x v hγ' hsrc hx hv=>?_⟩⟩
 ·rcases mem_nstV.1 hb with h|⟨j,h⟩
  ·exact (ziz ob1 ob2).2 h
  ·exact absurd h (hnb j b)
 ·have hk':k<m:=by simpa using hk
  rw [getElem_replicate,hgd,hnil k hk']
  exact ⟨rfl,[],World.ownsRow_nil _ _ _ _,fun k hk=>absurd hk (by simp),fun k hk=>absurd hk (by simp),fun u hu=>by cases hu⟩
 ·have hx':x=.row r:=by
   cases x with
   |row i=>simp only [AV.leafId,Option.some.injEq] at hx;rw [hx]
   |_=>simp [y7l] at hsrc
  subst hx'
  have hvs:v=s:=hv.row_inv hd (zhm hs1)
  subst hvs
  refine .cont hγ' (fun g s' e=>?_) ?_
  ·injection e with e
   injection e with _ e
   subst e
   simp only [Dv.of,con0]
  ·rcases hown.2 with ⟨hv0,h0⟩|⟨g,cap,cur,hv0,_⟩
   ·exact ⟨none,0,by rw [hv0,h0],fun h=>by omega⟩
   ·exact ⟨_,cap,hv0,fun _=>⟨g,0,rfl⟩⟩
end
section
variable {cx:Cx} {o:Oper} {σ:AS}
variable {T:Nat}{x:Operand}{i:TyI}
theorem yf1 {e esz eb:Nat}(ho:o.op=.call { callee:=.builtin .len,args:=#[x],argTypes:=#[T] })(hd:dok cx o=true)(hxo:z0r x=true)(hx:σ.eval x=.cont n id)(hT:lkT cx.E.tab T=some i)(hs:i.shape=.slc e esz eb):z11 cx o σ (.int .i64 (n:Int)) [] [] :=
 z14 hd fun τ γ a w h1 h2 hst=>by
  have hev:=hst.ev x hxo
  rw [h1 x (by simp [ho,Op.operands,Call.operands]),hx] at hev
  obtain ⟨hu,_,_⟩:=zey (cx.E.ok T i hT) hs
  cases hev with
  |cont h hv hl =>
   obtain ⟨A,c,hq,_⟩:=hl
   exact ⟨.int .i64 (n:Int),by simp [execOp,ho,resolve,invoke,builtin,Builtin.len_,hq,run_underlying hu,goInt,pure],.int _ _⟩
theorem zwm {e eb m:Nat}{y:Operand}{k:IntKind}(ho:o.op=.indexAddr T x y)(hd:dok cx o=true)(hxo:z0r x=true)(hyo:z0r y=true)(hx:σ.eval x=.cont n id)(hy:σ.eval y=.int k (m:Int))(hT:lkT cx.E.tab T=some i)(hs:i.shape=.slc e 1 eb)(hm:m<n):z11 cx o σ (.der (.nelt m) id) [] [] :=
 z14 hd fun τ γ a w h1 h2 hst=>by
  have hev:=hst.ev x hxo
  rw [h1 x (by simp [ho,Op.operands]),hx] at hev
  have hevy:=hst.ev y hyo
  rw [h1 y (by simp [ho,Op.operands]),hy] at hevy
  obtain ⟨hu,hce,_⟩:=zey (cx.E.ok T i hT) hs
  cases hev with
  |cont h hv hl =>
   obtain ⟨A,c,hq,hA⟩:=hl
   obtain ⟨b,off,rfl⟩:=hA (by omega)
   refine ⟨.pointer (some ⟨b,off+m,none⟩),?_,.der h (fun g s e=>⟨by cases s<;>rfl,?_⟩)⟩
   ·simp [execOp,ho,hq,hevy.int_inv,Instr.indexAt,asIntOf,run_underlying hu,z8a hce (by omega:(1:Nat)≠0),hm,pure,Addr.add_lit]
   ·have:=hv g s e
    rw [hq] at this
    cases s with
    |tuple vs =>
     simp only [Dv.of] at this ⊢
     rw [<-this]
    |agg vs =>
     simp only [Dv.of] at this ⊢
     rw [<-this]
    |_=>simp [Dv.of,undef] at this
variable {ty:Nat}
theorem ydj {γ γ':Gam}{τ:AS}{a:Act}{w w':World}{dst:Option Nat}{q:Nat}{qs:List NE}{e:Ent}{av:AV}{v:Value}(hst:StG cx γ τ a w)(hd:∀ x,dst=some x->cx.E.np<=x/\x<cx.nt)(hne:id≠q)(hid:γ id=some (nstV s vs))(hid':γ' id=some (nstV s vs'))(hoth:∀ i,i≠id->i≠q->γ' i=γ i)
  (hq:∀ x,γ q=some x->γ' q=some none) (hown:∀ b,own γ' b ↔ own γ b) (hinj:∀ b d,γ' q=some d->b∈blks d->b ∉ blks (nstV s vs')/\(∀ i d',i≠id->i≠q->γ i=some d'->b ∉ blks d')) (hsub:∀ i d' b,i≠id->i≠q->γ i=some d'->b∈blks d'->b ∉ blks (nstV s vs'))
  (hz':w.heap.size<=w'.heap.size) (hwo:∀ k,zaw s≠some k->w'.heap[k]? = w.heap[k]?) (hbel:Below cx.w0.heap.size w w') (hdr:w.drawn<=w'.drawn)
  (hn:(∀ b,Sg cx.S0 cx.w0.heap.size γ b->b<w.heap.size->w'.heap[b]? = w.heap[b]? /\ Sg cx.S0 cx.w0.heap.size γ' b)->z8s w' (Sg cx.S0 cx.w0.heap.size γ') γ' cx.w0.heap.size (nstV s vs') (.nest ty qs))
  (he:(∀ b,Sg cx.S0 cx.w0.heap.size γ b->b<w.heap.size->w'.heap[b]? = w.heap[b]? /\ Sg cx.S0 cx.w0.heap.size γ' b)->∃ x,γ' q=some x/\z8s w' (Sg cx.S0 cx.w0.heap.size γ') γ' cx.w0.heap.size x e)
  (hv:Rep w' (Sg cx.S0 cx.w0.heap.size γ') γ' av v):St cx (τ.upd dst av [(id,.nest ty qs),(q,e)]) (a.put dst v) w':=by
 have hsown:∀ b,zaw s=some b->own γ b:=fun b hb=>⟨id,_,hid,mem_nstV.2 (Or.inl hb)⟩
 have hns:∀ b,Sg cx.S0 cx.w0.heap.size γ b->zaw s≠some b:=fun b hS e=>by
  have ho:=hsown b e
  rcases hS with ⟨_,h⟩|⟨_,h⟩
  ·have:=(hst.ge b ho).1.1;omega
  ·exact h ho
 have hSS:∀ b,Sg cx.S0 cx.w0.heap.size γ b->Sg cx.S0 cx.w0.heap.size γ' b:=fun b hb=>hb.elim Or.inl (fun ⟨h1,h2⟩=>Or.inr ⟨h1,fun ho=>h2 ((hown b).1 ho)⟩)
 have hk:∀ b,Sg cx.S0 cx.w0.heap.size γ b->b<w.heap.size->w'.heap[b]? = w.heap[b]? /\ Sg cx.S0 cx.w0.heap.size γ' b:=fun b hS _=>⟨hwo b (hns b hS),hSS b hS⟩
 refine ⟨γ',hst.step hd hz' hk (fun i x hx=>?_) (fun i hi=>?_) (fun i e0 hi=>?_) (fun i i' b d d' hi hi' m m'=>?_) (fun b hb=>?_) (hst.below.trans hbel) hv (fun b hno _=>⟨hwo b (fun e=>hno (hsown b e)),fun ho=>hno ((hown b).1 ho)⟩) (fun _=>hdr)⟩
 ·by_cases h1:i=id
  ·subst h1;rw [hid] at hx;injection hx with hx;subst hx;exact Or.inr (Or.inr (yhy hid'))
  ·by_cases h2:i=q
   ·subst h2;exact Or.inr (Or.inl (hq x hx))
   ·exact Or.inl ((hoth i h1 h2).trans hx)
 ·rw [zrs hne] at hi
  by_cases h1:i=id
  ·rw [if_pos h1] at hi;cases hi
  ·rw [if_neg h1] at hi
   by_cases h2:i=q
   ·rw [if_pos h2] at hi;cases hi
   ·exact ⟨hoth i h1 h2,fun b d hi hm=>hwo b (fun e=>h1 (hst.inj _ _ _ _ _ hi hid hm (mem_nstV.2 (Or.inl e))))⟩
 ·rw [zrs hne] at hi
  by_cases h1:i=id
  ·subst h1
   rw [if_pos rfl] at hi
   injection hi with hi
   subst hi
   exact ⟨_,hid',hn hk⟩
  ·rw [if_neg h1] at hi
   by_cases h2:i=q
   ·subst h2
    rw [if_pos rfl] at hi
    injection hi with hi
    subst hi
    exact he hk
   ·rw [if_neg h2] at hi;cases hi
 ·have sym:∀ i i' d d',γ' i=some d->γ' i'=some d'->b∈blks d->b∈blks d'->i=id->i=i':=fun i i' d d' hi hi' m m' h1=>by
   subst h1
   rw [hid'] at hi
   injection hi with hi
   subst hi
   by_cases h2:i'=i
   ·exact h2.symm
   ·by_cases h3:i'=q
    ·subst h3;exact absurd m (hinj b d' hi' m').1
    ·rw [hoth i' h2 h3] at hi'
     exact absurd m (hsub i' d' b h2 h3 hi' m')
  by_cases h1:i=id
  ·exact sym i i' d d' hi hi' m m' h1
  ·by_cases h2:i'=id
   ·exact (sym i' i d' d hi' hi m' m h2).symm
   ·by_cases h3:i=q
    ·by_cases h4:i'=q
     ·rw [h3,h4]
     ·subst h3
      rw [hoth i' h2 h4] at hi'
      exact absurd m' ((hinj b d hi m).2 i' d' h2 h4 hi')
    ·by_cases h4:i'=q
     ·subst h4
      rw [hoth i h1 h3] at hi
      exact absurd m ((hinj b d' hi' m').2 i d h1 h3 hi)
     ·rw [hoth i h1 h3] at hi
      rw [hoth i' h2 h4] at hi'
      exact hst.inj _ _ _ _ _ hi hi' m m'
 ·have:=hst.ge b ((hown b).1 hb)
  exact ⟨this.1,Nat.lt_of_lt_of_le this.2 hz'⟩
variable {es:List NE}
theorem ydl {γ:Gam}{τ:AS}{a:Act}{w:World}(hst:StG cx γ τ a w)(hl:τ.find id=some (.nest ty es)) :
  ∃ s vs us,γ id=some (nstV s vs)/\s.oneCell'=true/\vs.size=es.length/\w.ownsRow cx.w0.heap.size ty 1 s es.length us/\(∀ u∈us,u.oneCell'=true)/\(∀ k (hk:k<es.length),es[k]≠.hole->us.getD k undef=vs.getD k undef)/\(∀ k (hk:k<es.length),NRep w (Sg cx.S0 cx.w0.heap.size γ) cx.w0.heap.size (vs.getD k undef) es[k])/\DisB (zaw s) vs:=by
 have hme:=hst.me id
 rw [hl] at hme
 obtain ⟨d,hd',s,vs,hde,h1,h2,⟨us,h3,h4,h5⟩,h6,h7⟩:=hme
 subst hde
 exact ⟨s,vs,us,hd',h1,h2,h3,h4,h5,h6,h7⟩
theorem y9w {d k ety sz:Nat}{xs:List AV}(ho:o.op=.load T x)(hdst:o.dst=some d)(hd:dok cx o=true)(hxo:z0r x=true)(hx:σ.eval x=.der (.nelt k) id)(hT:lkT cx.E.tab T=some i)(ha:i.shape.agg=false)(hl:σ.find id=some (.nest ty es))(he:es[k]? = some (.row ety sz xs))(hn:σ.find d=none)(hne:id≠d) :
  z11 cx o σ (.row d) [id,d] [(id,.nest ty (es.set k .hole)),(d,.row ety sz xs)]:=by
 refine ⟨fun i e he=>yar he,fun τ h1 h2 a w Q K ⟨γ,hst⟩ hK=>zhj (fun c hc=>by rw [ho] at hc;cases hc) ?_⟩
 have ex:=hst.ev x hxo
 rw [h1 x (by simp [ho,Op.operands]),hx] at ex
 obtain ⟨s,vs,us,hg,hs1,hsz,hown,hone,hus,hnn,hdb⟩:=ydl hst (by rw [h2 id (by simp)];exact hl)
 obtain ⟨hk,hke⟩:=List.getElem?_eq_some_iff.1 he
 have hγd:γ d=none:=by have:=hst.me d;rw [h2 d (by simp),hn] at this;exact this
 have hnk:=hnn k hk
 rw [hke] at hnk
 obtain ⟨us1,hou⟩:=yl8 hnk
 obtain ⟨ob1,ob2⟩:=zt5 hou
 have hex:(execOp a.eval o).run cx.P w=.ok (.value (vs.getD k undef)) w:=by
  have hown0:=hown
  rcases hown.2 with ⟨_,h0⟩|⟨g,cap,cur,hsv,_,hh,_⟩
  ·omega
  ·subst hsv
   have hv:a.eval x=.pointer (some ⟨g,0+k,none⟩):=by rw [ex.der_inv hg];simp only [Dv.of,con0]
   have hc:=zjc hown0 rfl k (by omega)
   have hrun:=zez (cx.E.ok T i hT) ha w ⟨g,0+k,none⟩ (us.getD k undef) (by rw [Nat.zero_add];exact hc)
   rw [hus k hk (by rw [hke];simp)] at hrun
   simp only [execOp,ho,hv,Instr.loadAt,Instr.sureAddr,Sem.run_bind,Sem.run_pure,Result.andThen_ok,hrun]
 unfold Oper.wp
 rw [hex]
 have hkv:k<vs.size:=by omega
 have hgt:∀ i,(vs.setIfInBounds k .nilFunc).getD i undef=if i=k then .nilFunc else vs.getD i undef:=fun i=>y7n _ _ _ _ hkv
 have hb1:∀ i b,zaw ((vs.setIfInBounds k .nilFunc).getD i undef)=some b->i≠k/\zaw (vs.getD i undef)=some b:=fun i b h=>by
  rw [hgt] at h
  by_cases h':i=k
  ·rw [if_pos h'] at h;simp [zaw] at h
  ·rw [if_neg h'] at h;exact ⟨h',h⟩
 let γ':Gam:=fun i=>if i=id then some (nstV s (vs.setIfInBounds k .nilFunc)) else if i=d then some (some ((vs.getD k undef).ownBlock,vs.getD k undef)) else γ i
 have g1:γ' id=some (nstV s (vs.setIfInBounds k .nilFunc)):=if_pos rfl
 have g2:γ' d=some (some ((vs.getD k undef).ownBlock,vs.getD k undef)):=by show (if d=id then _ else if d=d then _ else _)=_;rw [if_neg (Ne.symm hne),if_pos rfl]
 have g3:∀ i,i≠id->i≠d->γ' i=γ i:=fun i h1 h2=>by show (if i=id then _ else if i=d then _ else _)=_;rw [if_neg h1,if_neg h2]
 have bl:∀ i d' b,i≠id->γ i=some d'->b∈blks d'->zaw s≠some b/\∀ j,zaw (vs.getD j undef)≠some b:=fun i d' b hi hγi hb =>
  ⟨fun e=>hi (hst.inj _ _ _ _ _ hγi hg hb (mem_nstV.2 (Or.inl e))),fun j hj=>hi (hst.inj _ _ _ _ _ hγi hg hb (mem_nstV.2 (Or.inr ⟨j,hj⟩)))⟩
 refine hK _ _ (ydj (γ':=γ') (q:=d) (w':=w) hst (z9f hd) hne hg g1 g3 (fun x hx=>by rw [hγd] at hx;cases hx) (fun b=>⟨fun ⟨i,x,hi,hb⟩=>?_,fun ⟨i,x,hi,hb⟩=>?_⟩) (fun b x hx hb=>?_) (fun i d' b h1 h2 hi hb hc=>?_) (Nat.le_refl _) (fun _ _=>rfl) (Below.refl _ _) (Nat.le_refl _) (fun hk'=>?_) (fun hk'=>?_) (.row g2 (fun g s e _=>by injection e with e;injection e with _ e)))
 ·by_cases h1:i=id
  ·subst h1
   rw [g1] at hi;injection hi with hi;subst hi
   rcases mem_nstV.1 hb with hb|⟨j,hb⟩
   ·exact ⟨_,_,hg,mem_nstV.2 (Or.inl hb)⟩
   ·exact ⟨_,_,hg,mem_nstV.2 (Or.inr ⟨j,(hb1 j b hb).2⟩)⟩
  ·by_cases h2:i=d
   ·subst h2
    rw [g2] at hi;injection hi with hi;subst hi
    exact ⟨_,_,hg,mem_nstV.2 (Or.inr ⟨k,(ziz ob1 ob2).1 hb⟩)⟩
   ·rw [g3 i h1 h2] at hi;exact ⟨i,x,hi,hb⟩
 ·by_cases h1:i=id
  ·subst h1
   rw [hg] at hi;injection hi with hi;subst hi
   rcases mem_nstV.1 hb with hb|⟨j,hb⟩
   ·exact ⟨_,_,g1,mem_nstV.2 (Or.inl hb)⟩
   ·by_cases hjk:j=k
    ·subst hjk;exact ⟨_,_,g2,(ziz ob1 ob2).2 hb⟩
    ·exact ⟨_,_,g1,mem_nstV.2 (Or.inr ⟨j,by rw [hgt,if_neg hjk];exact hb⟩)⟩
  ·by_cases h2:i=d
   ·subst h2;rw [hγd] at hi;cases hi
   ·exact ⟨i,x,(g3 i h1 h2).trans hi,hb⟩
 ·rw [g2] at hx;injection hx with hx;subst hx
  have hbs:=(ziz ob1 ob2).1 hb
  refine ⟨fun h=>?_,fun i d' h1 h2 hi hm=>(bl i d' b h1 hi hm).2 k hbs⟩
  rcases mem_nstV.1 h with h|⟨i,h⟩
  ·exact hdb.2 k b h hbs
  ·exact (hb1 i b h).1 (hdb.1 _ _ _ (hb1 i b h).2 hbs)
 ·obtain ⟨q1,q2⟩:=bl i d' b h1 hi hb
  rcases mem_nstV.1 hc with h|⟨j,h⟩
  ·exact q1 h
  ·exact q2 j (hb1 j b h).2
 ·refine ⟨s,vs.setIfInBounds k .nilFunc,rfl,hs1,by simp [hsz],⟨us,by rw [length_set];exact hown,hone,fun j hj hh=>?_⟩,fun j hj=>?_,fun i j b hi hj=>hdb.1 i j b (hb1 i b hi).2 (hb1 j b hj).2,fun i b hb hi=>hdb.2 i b hb (hb1 i b hi).2⟩
  ·have hj':j<es.length:=by simpa using hj
   simp only [getElem_set] at hh
   rw [hgt]
   by_cases hjk:k=j
   ·rw [if_pos hjk] at hh;exact absurd rfl hh
   ·rw [if_neg hjk] at hh
    rw [if_neg (fun e=>hjk e.symm)]
    exact hus j hj' hh
  ·have hj':j<es.length:=by simpa using hj
   simp only [getElem_set]
   rw [hgt]
   by_cases hjk:k=j
   ·rw [if_pos hjk,if_pos hjk.symm];rfl
   ·rw [if_neg hjk,if_neg (fun e=>hjk e.symm)]
    exact (hnn j hj').moved (Nat.le_refl _) hk' (fun _ _=>rfl)
 ·obtain ⟨q1,us',q2,q3,q4,q5⟩:=hnk
  exact ⟨_,g2,vs.getD k undef,us',rfl,q1,q2,q3,fun k hk j hj=>(q4 k hk j hj).mono (Nat.le_refl _) hk',q5⟩
theorem y66 {q k ety sz:Nat}{y:Operand}{xs:List AV}(ho:o.op=.store T x y)(hd:dok cx o=true)(hxo:z0r x=true)(hyo:z0r y=true)(hx:σ.eval x=.der (.nelt k) id)(hy:σ.eval y=.row q)(hT:lkT cx.E.tab T=some i)(hi1:i.sz=1)(hl:σ.find id=some (.nest ty es))(hq:σ.find q=some (.row ety sz xs))(he:es[k]? = some .hole)(hne:id≠q) :
  z11 cx o σ (.tup []) [id,q] [(id,.nest ty (es.set k (.row ety sz xs))),(q,.dead)]:=by
 refine ⟨fun i e he=>yar he,fun τ h1 h2 a w Q K ⟨γ,hst⟩ hK=>zhj (fun c hc=>by rw [ho] at hc;cases hc) ?_⟩
 have ex:=hst.ev x hxo
 rw [h1 x (by simp [ho,Op.operands]),hx] at ex
 have ey:=hst.ev y hyo
 rw [h1 y (by simp [ho,Op.operands]),hy] at ey
 obtain ⟨s,vs,us,hg,hs1,hsz,hown,hone,hus,hnn,hdb⟩:=ydl hst (by rw [h2 id (by simp)];exact hl)
 obtain ⟨s1,us1,hγq,hone1,hown1,hlen1,hr1,hon1⟩:=zuz (id:=q) hst (by rw [h2 q (by simp)];exact hq)
 obtain ⟨ob1,ob2⟩:=zt5 hown1
 obtain ⟨hk,hke⟩:=List.getElem?_eq_some_iff.1 he
 have hkv:k<vs.size:=by omega
 have hc1:s1.cells=#[s1]:=by rcases hown1.2 with ⟨e,_⟩|⟨_,_,_,e,_⟩<;>(rw [e];rfl)
 have hul:us.length=es.length*1:=hown.1
 obtain ⟨g,cap,cur,hsv,hbase,hh,hncap,hmx,hcs,htk⟩:∃ g cap cur,s=.slice (some ⟨g,0,none⟩) es.length cap/\cx.w0.heap.size<=g/\w.heap[g]? = some (.cells cur ty (0,0))/\es.length<=cap/\cap<=maxLen/\cur.size=cap*1/\cur.toList.take (es.length*1)=us:=by
  rcases hown.2 with ⟨_,h0⟩|h
  ·omega
  ·exact h
 have hbs:zaw s=some g:=by rw [hsv];rfl
 have hv:a.eval x=.pointer (some ⟨g,0+k,none⟩):=by rw [ex.der_inv hg,hsv];simp only [Dv.of,con0]
 have hev:a.eval y=s1:=ey.row_inv hγq (zhm hone1)
 have hrun:=zkr (cx.E.ok T i hT) w g (0+k) ty cur s1 hh (by rw [hc1,hi1];rfl) (by omega) (fun u hu=>by rw [hc1] at hu;simp at hu;rw [hu];exact hone1)
 rw [hc1,hi1,Nat.zero_add] at hrun
 generalize hcur':(cur.toList.take k++(#[s1]:Array Value).toList++cur.toList.drop (k+1)).toArray=cur' at hrun
 have hex:(execOp a.eval o).run cx.P w=.ok .skip (w.setRow g cur'):=by
  rw [Nat.zero_add] at hv
  simp only [execOp,ho,hv,hev,Instr.storeAt,Instr.sureAddr,Sem.run_bind,Sem.run_pure,Result.andThen_ok,hrun]
 unfold Oper.wp
 rw [hex]
 have hblk:=setRow_heap w g cur cur' ty (0,0) hh
 have hothw:∀ q,q≠g->(w.setRow g cur').heap[q]? = w.heap[q]? := fun q hq=>setRow_other w g q _ hq
 have hzz:w.heap.size<=(w.setRow g cur').heap.size:=by simp
 have hdr:w.drawn<=(w.setRow g cur').drawn:=Nat.le_refl _
 have hgo:own γ g:=⟨id,_,hg,mem_nstV.2 (Or.inl hbs)⟩
 have hbel:Below cx.w0.heap.size w (w.setRow g cur'):=⟨rfl,rfl,rfl,hzz,fun k hk=>hothw k (by have:=(hst.ge g hgo).1.1;omega)⟩
 generalize w.setRow g cur'=w' at *
 have hgt:∀ i,(vs.setIfInBounds k s1).getD i undef=if i=k then s1 else vs.getD i undef:=fun i=>y7n _ _ _ _ hkv
 have bl:∀ i d' b,i≠id->γ i=some d'->b∈blks d'->zaw s≠some b/\∀ j,zaw (vs.getD j undef)≠some b:=fun i d' b hi hγi hb =>
  ⟨fun e=>hi (hst.inj _ _ _ _ _ hγi hg hb (mem_nstV.2 (Or.inl e))),fun j hj=>hi (hst.inj _ _ _ _ _ hγi hg hb (mem_nstV.2 (Or.inr ⟨j,hj⟩)))⟩
 have hsb:∀ b,zaw s1=some b->zaw s≠some b/\∀ j,zaw (vs.getD j undef)≠some b:=fun b hb=>bl q _ b (Ne.symm hne) hγq ((ziz ob1 ob2).2 hb)
 have hpo:∀ b,zaw (vs.getD k undef)≠some b:=fun b hb=>by
  have:=hnn k hk
  rw [hke] at this
  have this:vs.getD k undef=.nilFunc:=this
  rw [this] at hb
  simp [zaw] at hb
 let γ':Gam:=fun i=>if i=id then some (nstV s (vs.setIfInBounds k s1)) else if i=q then some none else γ i
 have g1:γ' id=some (nstV s (vs.setIfInBounds k s1)):=if_pos rfl
 have g2:γ' q=some none:=by show (if q=id then _ else if q=q then _ else _)=_;rw [if_neg (Ne.symm hne),if_pos rfl]
 have g3:∀ i,i≠id->i≠q->γ' i=γ i:=fun i h1 h2=>by show (if i=id then _ else if i=q then _ else _)=_;rw [if_neg h1,if_neg h2]
 refine hK _ _ (ydj (γ':=γ') (q:=q) (w':=w') hst (z9f hd) hne hg g1 g3 (fun x hx=>g2) (fun b=>⟨fun ⟨i,x,hi,hb⟩=>?_,fun ⟨i,x,hi,hb⟩=>?_⟩) (fun b x hx hb=>?_) (fun i d' b h1 h2 hi hb hc=>?_) hzz (fun b hb=>hothw b (fun e=>hb (by rw [e];exact hbs))) hbel hdr (fun hk'=>?_) (fun hk'=>⟨_,g2,rfl⟩) (.tup #[] rfl (fun j hj=>absurd hj (by simp))))
 ·by_cases h1:i=id
  ·subst h1
   rw [g1] at hi;injection hi with hi;subst hi
   rcases mem_nstV.1 hb with hb|⟨j,hb⟩
   ·exact ⟨_,_,hg,mem_nstV.2 (Or.inl hb)⟩
   ·rw [hgt] at hb
    by_cases hjk:j=k
    ·rw [if_pos hjk] at hb;exact ⟨_,_,hγq,(ziz ob1 ob2).2 hb⟩
    ·rw [if_neg hjk] at hb;exact ⟨_,_,hg,mem_nstV.2 (Or.inr ⟨j,hb⟩)⟩
  ·by_cases h2:i=q
   ·subst h2;rw [g2] at hi;injection hi with hi;subst hi;cases hb
   ·rw [g3 i h1 h2] at hi;exact ⟨i,x,hi,hb⟩
 ·by_cases h1:i=id
  ·subst h1
   rw [hg] at hi;injection hi with hi;subst hi
   rcases mem_nstV.1 hb with hb|⟨j,hb⟩
   ·exact ⟨_,_,g1,mem_nstV.2 (Or.inl hb)⟩
   ·exact ⟨_,_,g1,mem_nstV.2 (Or.inr ⟨j,by rw [hgt,if_neg (fun e=>by subst e;exact hpo b hb)];exact hb⟩)⟩
  ·by_cases h2:i=q
   ·subst h2
    rw [hγq] at hi;injection hi with hi;subst hi
    exact ⟨_,_,g1,mem_nstV.2 (Or.inr ⟨k,by rw [hgt,if_pos rfl];exact (ziz ob1 ob2).1 hb⟩)⟩
   ·exact ⟨i,x,(g3 i h1 h2).trans hi,hb⟩
 ·rw [g2] at hx;injection hx with hx;subst hx;cases hb
 ·obtain ⟨q1,q2⟩:=bl i d' b h1 hi hb
  rcases mem_nstV.1 hc with h|⟨j,h⟩
  ·exact q1 h
  ·rw [hgt] at h
   by_cases hjk:j=k
   ·rw [if_pos hjk] at h
    exact h2 (hst.inj _ _ _ _ _ hi hγq hb ((ziz ob1 ob2).2 h))
   ·rw [if_neg hjk] at h;exact q2 j h
 ·have hus':cur'.toList.take (es.length*1)=us.set k s1:=by
   rw [<-hcur',<-htk,set_eq_take_append_cons_drop,if_pos (by simp;omega)]
   have:=y2x cur.toList [s1] k (es.length*1) (by simp;omega) (by simp;omega)
   simpa using this
  refine ⟨s,vs.setIfInBounds k s1,rfl,hs1,by simp [hsz],⟨us.set k s1,⟨by simp [hul],Or.inr ⟨g,cap,cur',by rw [length_set];exact hsv,hbase,hblk,by simpa using hncap,hmx,?_,by simpa using hus'⟩⟩,fun u hu=>?_,fun j hj hh=>?_⟩,fun j hj=>?_,fun i j b hi hj=>?_,fun i b hb hi=>?_⟩
  ·rw [<-hcur']
   have:=zrk cur.toList [s1] k (by simp;omega)
   simpa [hcs] using this
  ·rcases mem_or_eq_of_mem_set hu with hu|hu
   ·exact hone u hu
   ·rw [hu];exact hone1
  ·have hj':j<es.length:=by simpa using hj
   rw [hgt]
   by_cases hjk:j=k
   ·subst hjk
    rw [if_pos rfl,getD_eq_getElem?_getD,getElem?_set_self (by omega)]
    rfl
   ·rw [if_neg hjk,getD_eq_getElem?_getD,getElem?_set_ne (fun e=>hjk e.symm),<-getD_eq_getElem?_getD]
    simp only [getElem_set] at hh
    rw [if_neg (fun e=>hjk e.symm)] at hh
    exact hus j hj' hh
  ·have hj':j<es.length:=by simpa using hj
   simp only [getElem_set]
   rw [hgt]
   by_cases hjk:j=k
   ·rw [if_pos hjk.symm,if_pos hjk]
    exact ⟨hone1,us1,hown1.moved (fun b hb=>hothw b (fun e=>(hsb b hb).1 (by rw [hbs,e]))),hlen1,fun k hk j hj=>(hr1 k hk j hj).mono hzz hk',hon1⟩
   ·rw [if_neg hjk,if_neg (fun e=>hjk e.symm)]
    exact (hnn j hj').moved hzz hk' (fun b hb=>hothw b (fun e=>hdb.2 j b (by rw [hbs,e]) hb))
  ·rw [hgt] at hi hj
   by_cases h1:i=k
   ·by_cases h2:j=k
    ·rw [h1,h2]
    ·rw [if_pos h1] at hi;rw [if_neg h2] at hj;exact absurd hj ((hsb b hi).2 j)
   ·by_cases h2:j=k
    ·rw [if_neg h1] at hi;rw [if_pos h2] at hj;exact absurd hi ((hsb b hj).2 i)
    ·rw [if_neg h1] at hi;rw [if_neg h2] at hj;exact hdb.1 i j b hi hj
  ·rw [hgt] at hi
   by_cases h1:i=k
   ·rw [if_pos h1] at hi;exact (hsb b hi).1 hb
   ·rw [if_neg h1] at hi;exact hdb.2 i b hb hi
end
open Go.RowKit
section
variable {α β:Type}
def mkn (n:Int)(bytes:Nat)(k:Nat->Option β):Option β:=if 0<=n/\n.toNat<=1099511627776/\bytes*n.toNat<=281474976710656 then k n.toNat else none
theorem MakX.on {n:Int}{bytes:Nat}{K:List AV->Prop}{k:Nat->Option β}{r:β}(h:mkn n bytes k=some r)(hk:∀ m,k m=some r->K (replicate m .nils)):MakX n bytes .nils K:=by
 unfold mkn at h
 split at h
 ·rename_i hn;exact .mk n.toNat (by omega) hn.2.1 hn.2.2 _ (.refl _) (hk _ h)
 ·cases h
def nst (r:Nat)(x:Option β):Option β:=x
def frr (r:Nat)(x:Option β):Option β:=x
def enR (er:α->AV)(ety sz:Nat)(q:List α):NE:=.row ety sz (q.map er)
def ncx (n:Int)(len:Nat)(c:Option β):Option β:=if 0<=n/\n.toNat<len then c else none
def ntk (l:List (List α))(k:Nat)(c:List α->Option β):Option β:=match l[k]? with|some q=>c q|none=>none
def npt (l:List (List α))(k:Nat)(v:List α)(c:List (List α)->Option β):Option β:=if k<l.length then c (l.set k v) else none
end
section
variable {α β:Type} {E:Env} {nt:Nat} {o:Oper} {σ:AS} {K:OpK}
variable {T:Nat}{x:Operand}{i:TyI}
theorem OpX.lnc {e esz eb:Nat}(ho:o.op=.call { callee:=.builtin .len,args:=#[x],argTypes:=#[T] })(hd:dokN E nt o.dst=true)(hxo:z0r x=true)(hx:σ.eval x=.cont n id)(hT:lkT E.tab T=some i)(hs:i.shape=.slc e esz eb)(hk:K (.int .i64 (n:Int)) [] []):OpX E nt o σ K :=
 .mk _ _ _ (fun cx hE hnt=>yf1 ho (z15 hd hE hnt) hxo hx (by rw [hE];exact hT) hs) hk
theorem OpX.ixc {n:Int}{len:Nat}{c:Option β}{r:β}{e eb:Nat}{y:Operand}{kd:IntKind}(hF:ncx n len c=some r)(ho:o.op=.indexAddr T x y)(hd:dokN E nt o.dst=true)(hxo:z0r x=true)(hyo:z0r y=true)(hx:σ.eval x=.cont len id)(hy:σ.eval y=.int kd n)(hT:lkT E.tab T=some i)(hs:i.shape=.slc e 1 eb)
  (hk:c=some r->K (.der (.nelt n.toNat) id) [] []):OpX E nt o σ K:=by
 unfold ncx at hF
 split at hF
 ·rename_i hn
  exact .mk _ _ _ (fun cx hE hnt=>zwm ho (z15 hd hE hnt) hxo hyo hx (by rw [hy];congr 1;omega) (by rw [hE];exact hT) hs hn.2) (hk hF)
 ·cases hF
variable {l:List (List α)}
theorem OpX.ntk (er:α->AV){k:Nat}{c:List α->Option β}{r:β}{d ty ety sz:Nat}(hF:Proofs.YtidhlpjgifoneaaGreat.ntk l k c=some r)(ho:o.op=.load T x)(hdst:o.dst=some d)(hd:dokN E nt o.dst=true)(hxo:z0r x=true)(hx:σ.eval x=.der (.nelt k) id)(hT:lkT E.tab T=some i)(ha:i.shape.agg=false)
  (hl:σ.find id=some (.nest ty (l.map (enR er ety sz)))) (hn:σ.find d=none) (hne:Nat.beq id d=false) (hk:∀ q,c q=some r->K (.row d) [id,d] [(id,.nest ty ((l.map (enR er ety sz)).set k .hole)),(d,.row ety sz (q.map er))]):OpX E nt o σ K:=by
 unfold Proofs.YtidhlpjgifoneaaGreat.ntk at hF
 split at hF
 ·rename_i q hq
  exact .mk _ _ _ (fun cx hE hnt=>y9w ho hdst (z15 hd hE hnt) hxo hx (by rw [hE];exact hT) ha hl (by rw [getElem?_map,hq];rfl) hn (nbne hne)) (hk _ hF)
 ·cases hF
theorem OpX.npt (er:α->AV){k:Nat}{v:List α}{c:List (List α)->Option β}{r:β}{q ty ety sz:Nat}{y:Operand}(hF:Proofs.YtidhlpjgifoneaaGreat.npt l k v c=some r)(ho:o.op=.store T x y)(hd:dokN E nt o.dst=true)(hxo:z0r x=true)(hyo:z0r y=true)(hx:σ.eval x=.der (.nelt k) id)(hy:σ.eval y=.row q)(hT:lkT E.tab T=some i)(hi1:i.sz=1)
  (hl:σ.find id=some (.nest ty ((l.map (enR er ety sz)).set k .hole))) (hq:σ.find q=some (.row ety sz (v.map er))) (hne:Nat.beq id q=false) (hk:∀ l',c l'=some r->K (.tup []) [id,q] [(id,.nest ty (l'.map (enR er ety sz))),(q,.dead)]):OpX E nt o σ K:=by
 unfold Proofs.YtidhlpjgifoneaaGreat.npt at hF
 split at hF
 ·rename_i hlt
  have h:=hk _ hF
  have e:((l.map (enR er ety sz)).set k .hole).set k (.row ety sz (v.map er))=(l.set k v).map (enR er ety sz):=by rw [set_set,map_set];rfl
  rw [<-e] at h
  exact .mk _ _ _ (fun cx hE hnt=>y66 ho (z15 hd hE hnt) hxo hyo hx hy (by rw [hE];exact hT) hi1 hl hq (by rw [getElem?_set_self (by simpa using hlt)]) (nbne hne)) h
 ·cases hF
end
section
variable {α β:Type} {E:Env} {nt:Nat}
def zw3:AV->Bool
 |.cont _ _=>true
 |_=>false
variable {l:List (List α)}
theorem LeX.frr (r:Nat)(er:α->AV)(ty ety sz:Nat)(hr:σ.find r=some (.nest ty (l.map (enR er ety sz)))):LeX E nt σ (σ.rpAll r zw3 (.sl 1 (l.map fun q=>.sl sz (q.map er))) .dead):=by
 refine LeX.rpAll r zw3 _ _ _ hr (fun ty cs h=>by cases h) (fun cx γ a w d hst hd he=>?_)
 obtain ⟨s,vs,hde,hs1,hsz,⟨us,hown,hone,hus⟩,hnn,hdb⟩:=he
 have hde:d=nstV s vs:=hde
 subst hde
 rw [length_map] at hsz hown
 refine ⟨none,(fun b hb=>by cases hb),fun S' hS hS2=>⟨rfl,fun γ' x v hγ' hsrc hx hv=>?_⟩⟩
 have hx':∃ n,x=.cont n r:=by
  cases x with
  |cont n i=>simp only [AV.leafId,Option.some.injEq] at hx;exact ⟨n,by rw [hx]⟩
  |_=>simp [zw3] at hsrc
 obtain ⟨n,rfl⟩:=hx'
 have hvs:v=s:=by
  cases hv with
  |cont h hv hl =>
   rw [hd] at h
   injection h with h
   have:=hv none (.tuple (#[s]++vs)) h.symm
   rw [this]
   simp only [Dv.of,con0]
 subst hvs
 have hel:∀ k,k<l.length->Rep w S' G0 (.sl sz ((l[k]?.getD []).map er)) (us.getD k undef):=fun k hk=>by
  have h3:=hnn k (by simpa using hk)
  have h2:=hus k (by simpa using hk) (by simp [enR])
  simp only [getElem_map,enR] at h3
  obtain ⟨q1,us',q2,q3,q4,q5⟩:=h3
  obtain ⟨ob1,ob2⟩:=zt5 q2
  obtain ⟨s',hs1',hs2'⟩:=zts (w:=w) (S:=Sg cx.S0 cx.w0.heap.size γ) (γ:=γ) (S':=S') (d:=some ((vs.getD k undef).ownBlock,vs.getD k undef)) ⟨_,us',rfl,q1,q2,q3,q4,q5⟩ (fun b hb _=>hS b hb) (fun s g' e=>by
   injection e with e
   injection e with e1 e2
   rw [ob1] at e1
   exact hS2 g' (mem_nstV.2 (Or.inr ⟨k,e1⟩)) (fun hb=>by cases hb)) G0
  injection hs1' with hs1'
  injection hs1' with _ hs1'
  rw [h2,hs1',getElem?_eq_getElem hk]
  exact hs2'
 obtain ⟨s0,hs0,hr0⟩:=zts (w:=w) (S:=S') (γ:=γ) (S':=S') (B:=cx.w0.heap.size) (ty:=ty) (sz:=1) (xs:=l.map fun q=>.sl sz (q.map er)) (d:=some (v.ownBlock,v)) ⟨v,us,rfl,hs1,by rw [length_map];exact hown,fun k hk=>by rw [getElem_map];rfl,fun k hk j hj=>by
   have hk':k<l.length:=by simpa using hk
   have hj0:j=0:=by
    have:j<1:=by simpa [AV.cells] using hj
    omega
   subst hj0
   simp only [getElem_map,AV.cells,getElem_cons_zero,Nat.mul_one,Nat.add_zero]
   have:=hel k hk'
   rw [getElem?_eq_getElem hk'] at this
   exact this,hone⟩ (fun b hb _=>hb) (fun s g' e=>by
   injection e with e
   injection e with e1 e2
   rw [(zt5 hown).1] at e1
   exact hS2 g' (mem_nstV.2 (Or.inl e1)) (fun hb=>by cases hb)) γ'
 injection hs0 with hs0
 injection hs0 with _ hs0
 rw [hs0]
 exact hr0
variable {R:Exit->AS->Prop} {K:List zfk}
theorem AW.frrO {ty ety sz:Nat}{c:Code}{x:Option β}{y:β}(er:α->AV)(h:Proofs.YtidhlpjgifoneaaGreat.frr id x=some y)(r:Nat)(hr:σ.find r=some (.nest ty (l.map (enR er ety sz))))(k:x=some y->AW E nt R (.code c::K) .normal (σ.rpAll r zw3 (.sl 1 (l.map fun q=>.sl sz (q.map er))) .dead)):AW E nt R (.code c::K) .normal σ:=AW.weaken (LeX.frr r er ty ety sz hr) (k h)
theorem AW.nstO {ty m:Nat}{c:Code}{x:Option β}{y:β}{er:α->AV}(ety sz:Nat)(h:Proofs.YtidhlpjgifoneaaGreat.nst id x=some y)(r:Nat)(hr:σ.find r=some (.row ty 1 (replicate m .nils)))(k:x=some y->AW E nt R (.code c::K) .normal (σ.rpAll r y7l (.cont m r) (.nest ty ((replicate m ([]:List α)).map (enR er ety sz))))):AW E nt R (.code c::K) .normal σ:=by
 have e:(replicate m ([]:List α)).map (enR er ety sz)=replicate m (.row ety sz []):=by rw [map_replicate];rfl
 rw [e] at k
 exact AW.weaken (LeX.nst r ety sz hr) (k h)
end
attribute [irreducible] mkn nst frr ntk npt ncx
end Go.Proofs.YtidhlpjgifoneaaGreat
