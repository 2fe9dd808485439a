/- The abstract walk. -/
import Derived.Test.YthbogefcfhmpgaaGreatK08
set_option linter.unusedVariables false
set_option linter.unusedSimpArgs false
namespace Go.Proofs.YthbogefcfhmpgaaGreat
open Go.RowKit List
open _root_.Array renaming getD_eq_getD_getElem?->aA,getElem?_setIfInBounds_ne->aL,replicate->aN,getElem?_append_left->aP,size_setIfInBounds->aR,getD->bQ
open Nat renaming eq_of_beq_eq_true->aB,le_refl->aD,le_of_ble_eq_true->aG,beq->aJ,ne_of_beq_eq_false->aU,zero_add->bI,ble->bP,add_zero->bW,le_trans->bX
open List renaming getD_eq_getElem?_getD->aC,replicate->aO,getElem_cons_zero->aQ,mem_filterMap->aS,mem_iff_getElem->aV,mem_cons_of_mem->aW,getElem_map->aX,getElem_set->aY,mem_of_find?_eq_some->aZ,any_eq_true->bA,all_eq_true->bB,getElem?_eq_getElem->bD,findIdx?_cons->bE,mem_cons_self->bF,getElem_replicate->bJ,getElem?_set_self->bK,mem_range->bM,length_replicate->bN,length_map->bU,foldl_cons->bV
open AS renaming find->aE
open Or renaming inr->aF,inl->aH
open Gam renaming set_self->aK,set_ne->aM
open Bool renaming and_eq_true->aT,false_eq_true->bG,or_eq_true->bO
open WP renaming mono->bC
def AV.leafId:AV->Option Nat |.row i=>some i |.ptr i _=>some i |.elt i _ _ _=>some i |.der _ i=>some i |.cont _ i=>some i |_=>none
def AV.rp0 (r:Nat)(src:AV->Bool)(tgt x:AV):AV:=match x.leafId with
 |some i=>match aJ i r with
  |true=>match src x with
   |true=>tgt
   |false=>.any
  |false=>x
 |none=>x
mutual
def AV.rp (r:Nat)(src:AV->Bool)(tgt:AV):AV->AV |.fn f cap=>.fn f (AV.rpL r src tgt cap) |.yld l T cap=>.yld l T (AV.rpL r src tgt cap) |.agg cs=>.agg (AV.rpL r src tgt cs) |.tup cs=>.tup (AV.rpL r src tgt cs) |x=>AV.rp0 r src tgt x
def AV.rpL (r:Nat)(src:AV->Bool)(tgt:AV):List AV->List AV |[]=>[] |x::l=>AV.rp r src tgt x::AV.rpL r src tgt l
end
section
variable {r:Nat} {src:AV->Bool} {tgt:AV}
theorem AV.rpL_length (l:List AV):(AV.rpL r src tgt l).length=l.length:=by
 induction l with
 |nil=>rfl
 |cons x l ih=>simp [AV.rpL,ih]
theorem AV.rpL_at (l:List AV)(i:Nat)(hi:i<l.length):(AV.rpL r src tgt l)[i]'(by rw [AV.rpL_length];exact hi)=AV.rp r src tgt l[i]:=by
 induction l generalizing i with
 |nil=>simp at hi
 |cons x l ih =>
  cases i with
  |zero=>rfl
  |succ i=>exact ih i (by simpa using hi)
theorem Rep.rp {w:World}{S:Nat->Prop}{γ γ':Gam}(d:∀ i x,i≠r->γ i=some x->γ' i=some x)(y:∀ x v,src x=true->x.leafId=some r->Rep w S γ x v->Rep w S γ' tgt v){av:AV}{v:Value}(h:Rep w S γ av v):Rep w S γ' (AV.rp r src tgt av) v:=by
 have leaf:∀ {x:AV} {v:Value} {i:Nat},x.leafId=some i->Rep w S γ x v->(∀ h:i≠r,Rep w S γ' x v)->Rep w S γ' (AV.rp0 r src tgt x) v:=fun {x v i} G h M=>by
  simp only [AV.rp0,G];cases q:aJ i r with
  |true =>
   have:=aB q;subst this;simp only;cases J:src x with
   |true=>exact y x v J G h
   |false=>exact .any _
  |false=>exact M (aU q)
 induction h with
 |any=>exact .any _
 |int=>exact .int _ _
 |bool=>exact .bool _
 |str=>exact .str _
 |nilp=>exact .nilp
 |nils=>exact .nils
 |nilf=>exact .nilf
 |@ptr γ id off v B h f=>exact leaf rfl (.ptr h f) (fun hi=>.ptr (d _ _ hi h) f)
 |@elt γ id sz k j v B h f=>exact leaf rfl (.elt h f) (fun hi=>.elt (d _ _ hi h) f)
 |@der γ Q id v B h f=>exact leaf rfl (.der h f) (fun hi=>.der (d _ _ hi h) f)
 |@row γ id v B h f=>exact leaf rfl (.row h f) (fun hi=>.row (d _ _ hi h) f)
 |mapv ps0 L g es clock q D P O p N f I H=>exact .mapv ps0 L g es clock q D P O p N f
 |mapn=>exact .mapn
 |slen A n c=>exact .slen A n c
 |@cont γ n id v B h f p=>exact leaf rfl (.cont h f p) (fun hi=>.cont (d _ _ hi h) f p)
 |sl A c cell C z q u h1 ih=>exact .sl A c cell C z q u h1
 |ref b off cell D q C u h1 ih=>exact .ref b off cell D q C u h1
 |fn vs p t ih =>
  exact .fn vs (by rw [p,AV.rpL_length]) (fun i m=>by
   have a:=m;rw [AV.rpL_length] at a;rw [AV.rpL_at _ i a];exact ih i a d y leaf)
 |yld t ih =>
  exact .yld (fun i m=>by
   have a:=m;rw [AV.rpL_length] at a;rw [AV.rpL_at _ i a];exact ih i a d y leaf)
 |agg vs p t h1 ih =>
  exact .agg vs (by rw [p,AV.rpL_length]) (fun i m=>by
   have a:=m;rw [AV.rpL_length] at a;rw [AV.rpL_at _ i a];exact ih i a d y leaf) h1
 |tup vs p t ih =>
  exact .tup vs (by rw [p,AV.rpL_length]) (fun i m=>by
   have a:=m;rw [AV.rpL_length] at a;rw [AV.rpL_at _ i a];exact ih i a d y leaf)
end
def Ent.rp (r:Nat)(src:AV->Bool)(tgt:AV):Ent->Ent |.box ty cs=>.box ty (AV.rpL r src tgt cs) |e=>e
def AS.rpAll (σ:AS)(r:Nat)(src:AV->Bool)(tgt:AV)(e:Ent):AS:=⟨σ.tm.map fun p=>(p.1,AV.rp r src tgt p.2),(r,e)::σ.me.map fun p=>(p.1,p.2.rp r src tgt)⟩
variable {E:Env}{σ:AS}
theorem LeX.rpAll {nt:Nat}(r:Nat)(src:AV->Bool)(tgt:AV)(e B:Ent)(U:σ.find r=some e)(L:∀ ty cs,B≠.box ty cs)
  (H:∀ (cx:Cx) (γ:Gam) (a:Act) (w:World) (d:Option (Option Nat×Value)),StG cx γ σ a w->γ r=some d->Bo w (Sg cx.S0 cx.w0.heap.size γ) γ cx.w0.heap.size d e->∃ p,(∀ b,b∈blks p->b∈blks d)/\∀ S':Nat->Prop,(∀ b,Sg cx.S0 cx.w0.heap.size γ b->S' b)->(∀ b,b∈blks d->b ∉ blks p->S' b) ->
    Bo w S' G0 cx.w0.heap.size p B/\∀ γ' x v,γ' r=some p->src x=true->x.leafId=some r->Rep w S' γ x v->Rep w S' γ' tgt v):LeX E nt σ (σ.rpAll r src tgt B):=fun cx hE hn a w ⟨γ,h⟩=>by
 have I:=h.me r;rw [U] at I;obtain ⟨d,G,D⟩:=I;obtain ⟨p,q,H⟩:=H cx γ a w d h G D;have m:∀ b,own (γ.set r p) b->own γ b:=fun b ⟨i,s,hi,hm⟩=>by
  by_cases c:i=r
  ·subst c;rw [aK] at hi;injection hi with hi;subst hi;exact ⟨_,_,G,q b hm⟩
  ·rw [aM _ _ _ c] at hi;exact ⟨i,s,hi,hm⟩
 have N:∀ b,Sg cx.S0 cx.w0.heap.size γ b->Sg cx.S0 cx.w0.heap.size (γ.set r p) b:=fun b f=>f.elim aH (fun ⟨h1,O⟩=>aF ⟨h1,fun J=>O (m b J)⟩)
 obtain ⟨H1,H2⟩:=H (Sg cx.S0 cx.w0.heap.size (γ.set r p)) N (fun b f M=>aF ⟨(h.ge b ⟨_,_,G,f⟩).1,fun ⟨i,s,hi,hm⟩=>by
  by_cases c:i=r
  ·subst c;rw [aK] at hi;injection hi with hi;subst hi;exact M hm
  ·rw [aM _ _ _ c] at hi;exact c (h.inj _ _ _ _ _ hi G hm f)⟩)
 have mv:∀ {av v},Rep w (Sg cx.S0 cx.w0.heap.size γ) γ av v->Rep w (Sg cx.S0 cx.w0.heap.size (γ.set r p)) (γ.set r p) (AV.rp r src tgt av) v:=fun Q =>
  (Q.mono (aD _) (fun b f _=>⟨rfl,N b f⟩)).rp (src:=src) (fun i x hi C=>by rw [aM _ _ _ hi];exact C) (fun x v S W C=>H2 _ x v (aK _ _ _) S W C)
 refine ⟨γ.set r p,fun u=>?_,fun i=>?_,fun i j b s s' hi y mi mj=>?_,fun b f=>h.ge b (m b f),h.below,h.size,h.defers.gam m,h.gh,fun b f=>by obtain ⟨f2,f3,f4⟩:=h.fr b f;exact ⟨fun J=>f2 (m b J),f3,f4⟩,h.dr⟩
 ·have e:(σ.rpAll r src tgt B).get u=AV.rp r src tgt (σ.get u):=y1k _ rfl _ _;rw [e];exact mv (h.tm u)
 ·by_cases hi:r=i
  ·subst hi;have e:(σ.rpAll r src tgt B).find r=some B:=by simp [AS.rpAll,aE,lkE]
   rw [e];exact ⟨p,aK _ _ _,H1.free L⟩
  ·have e:(σ.rpAll r src tgt B).find i=(σ.find i).map (Ent.rp r src tgt):=by
    unfold AS.rpAll aE;simp only [lkE];cases f:aJ r i with
    |true=>exact absurd (aB f) hi
    |false=>exact y1n _ _ _
   rw [e,aM _ _ _ (Ne.symm hi)];have:=h.me i;cases P:σ.find i with
   |none=>rw [P] at this;exact this
   |some en =>
    rw [P] at this;obtain ⟨x,C,D⟩:=this;have heq:∀ en:Ent,(∀ ty cs,en≠.box ty cs)->Bo w (Sg cx.S0 cx.w0.heap.size γ) γ cx.w0.heap.size x en->Bo w (Sg cx.S0 cx.w0.heap.size (γ.set r p)) (γ.set r p) cx.w0.heap.size x en:=fun en f D =>
     (D.move (γ':=γ) (aD _) (fun b f _=>⟨rfl,N b f⟩) (fun id d h=>aH h) (fun _ _=>rfl)).free f
    cases en with
    |box ty cs =>
     obtain ⟨g,vs,h1,O,Z,Y,X⟩:=D;exact ⟨x,C,g,vs,h1,O,by rw [Z,AV.rpL_length],fun i hi=>by
      have z:=hi;rw [AV.rpL_length] at z;rw [AV.rpL_at _ i z];exact mv (Y i z),X⟩
    |_=>exact ⟨x,C,heq _ (fun ty cs h=>by cases h) D⟩
 ·by_cases c:i=r
  ·by_cases t:j=r
   ·rw [c,t]
   ·subst c;rw [aK] at hi;injection hi with hi
    subst hi;rw [aM _ _ _ t] at y;exact h.inj _ _ _ _ _ G y (q b mi) mj
  ·rw [aM _ _ _ c] at hi;by_cases t:j=r
   ·subst t;rw [aK] at y;injection y with y
    subst y;exact h.inj _ _ _ _ _ hi G mi (q b mj)
   ·rw [aM _ _ _ t] at y;exact h.inj _ _ _ _ _ hi y mi mj
open Go.RowKit
section
variable {α β κ ν:Type}
def nle (n:Int)(len:Nat)(k:Nat->Option β):Option β:=if 0<=n/\n.toNat<=len then k n.toNat else none
def gle (a b:Nat)(x:Option β):Option β:=if a<=b then x else none
def clr (l:List α)(lo:Nat)(z:α)(k:List α->Option β):Option β:=if lo<=l.length then k (clrL l lo z) else none
def encN (ek:κ->AV)(er:ν->AV)(ty sz:Nat)(p:κ×List ν):AV×NE:=(ek p.1,.row ty sz (p.2.map er))
end
section
variable {α β κ ν:Type} {E:Env} {nt:Nat} {o:Oper} {σ:AS} {K:OpK}
variable {k:Nat->Option β}{r:β}{T id e esz eb ty:Nat}{x:Operand}{i:TyI}{xs:List AV}
theorem OpX.sub {n:Int}{y:Operand}{kd:IntKind}(a:nle n xs.length k=some r)(q:o.op=.slice T x (some y) none none)(z:dokN E nt o.dst=true)(c:A6 x=true)(b:A6 y=true)(j:σ.eval x=.row id)(h:σ.eval y=.int kd n)
  (B:lkT E.tab T=some i) (p:i.shape=.slc e esz eb) (g:aJ esz 0=false) (u:σ.find id=some (.row ty esz xs)) (v:∀ m,k m=some r->K (.der (.sub esz m) id) [id] []):OpX E nt o σ K:=by
 unfold nle at a;split at a
 ·rename_i t;exact .mk _ _ _ (fun cx f d=>zsz (lo:=n.toNat) q (Al z f d) c b j (by rw [h];congr 1;omega) (by rw [f];exact B) p (nbne g) u t.2) (v _ a)
 ·cases a
variable {lo:Nat}
theorem OpX.lns {c:Option β}{sz:Nat}(a:gle lo xs.length c=some r)(m:o.op=.call { callee:=.builtin .len,args:=#[x],argTypes:=#[T] })(t:dokN E nt o.dst=true)(b:A6 x=true)(h:σ.eval x=.der (.sub sz lo) id)(p:σ.find id=some (.row ty sz xs))(u:lkT E.tab T=some i)(j:i.shape=.slc e esz eb)
  (q:c=some r->K (.int .i64 ((xs.length-lo:Nat):Int)) [id] []):OpX E nt o σ K:=by
 unfold gle at a;split at a
 ·rename_i f;exact .mk _ _ _ (fun cx g d=>zzv m (Al t g d) b h p (by rw [g];exact u) j f) (q a)
 ·cases a
theorem OpX.ixs {n:Int}{sz:Nat}{y:Operand}{kd:IntKind}(B:nat n (xs.length-lo) k=some r)(p:o.op=.indexAddr T x y)(v:dokN E nt o.dst=true)(b:A6 x=true)(a:A6 y=true)(h:σ.eval x=.der (.sub sz lo) id)(g:σ.eval y=.int kd n)
  (t:σ.find id=some (.row ty sz xs)) (z:lkT E.tab T=some i) (j:i.shape=.slc e sz eb) (f:aJ sz 0=false) (u:∀ m,k m=some r->K (.elt id sz (lo+m) 0) [id] []):OpX E nt o σ K:=by
 have:=NatX.o (K:=fun m=>lo+m<xs.length->K (.elt id sz (lo+m) 0) [id] []) B (fun m hm _=>u m hm);cases this with
 |mk m q hm k=>exact .mk _ _ _ (fun cx d c=>zh3 p (Al v d c) b a h g t (by rw [d];exact z) j (nbne f) q (by omega)) (k (by omega))
theorem OpX.clr (enc:α->AV){l:List α}{z:α}{k:List α->Option β}{ie:TyI}(c:Proofs.YthbogefcfhmpgaaGreat.clr l lo z k=some r)(u:o.op=.call { callee:=.builtin .clear,args:=#[x],argTypes:=#[T] })(C:dokN E nt o.dst=true)(f:A6 x=true)(q:σ.eval x=.der (.sub esz lo) id)(v:σ.find id=some (.row e esz (l.map enc)))
  (D:lkT E.tab T=some i) (t:i.shape=.slc e esz eb) (B:lkT E.tab e=some ie) (p:aJ esz 0=false) (d:Jq ie=true) (b:D5 ie.zero.cells.toList=true) (a:SubL (Dd ie).cells (enc z).cells) (y:∀ m,k m=some r->K (.tup []) [id] [(id,.row e esz (m.map enc))]):OpX E nt o σ K:=by
 unfold Proofs.YthbogefcfhmpgaaGreat.clr at c;split at c
 ·rename_i h;refine .mk _ _ _ (fun cx j g=>?_) (y _ c);have h1:=ztb (cx:=cx) u (Al C j g) f q v (by rw [j];exact D) t (by rw [j];exact B) (nbne p) d (Fd b) (by rw [bU];exact h);refine h1.weak (.cons _ (.row _ _ ?_) .nil);rw [<-y5m];unfold clrL;exact (SubR.refl _).append (.replicate a _)
 ·cases c
variable [DecidableEq κ]
omit [DecidableEq κ] in
end
variable {n:Nat}
theorem Born.idx {es:Array MapEntry}(h:∀ j (h:j<es.toList.length),(es.toList[j]).born=j)(b:es.size=n):Born es n:=by
 have e:es.toList.map (·.born)=range n:=by
  apply ext_getElem
  ·simp [b]
  ·intro i c d;simp only [aX,getElem_range];exact h i (by simpa using c)
 refine ⟨by rw [e];exact nodup_range,fun x a=>?_⟩;have:x.born∈es.toList.map (·.born):=mem_map.2 ⟨x,a,rfl⟩;rw [e] at this;exact bM.1 this
section
variable {α β κ ν:Type} {E:Env} {nt:Nat}
variable {R:Exit->AS->Prop} {K:List Bu}
end
attribute [irreducible] nle gle clr    
open Go.RowKit
def idA (a:AV):AV:=a
theorem Sw (l:List AV):List.map idA l=l:=by induction l with
 |nil=>rfl
 |cons x l ih=>rw [map_cons,ih];rfl
section
variable {α β:Type}
def idxD (d:AV->Option α)(l:List AV)(n:Int)(k:α->Option β):Option β:=if 0<=n then (match l[n.toNat]? with|some a=>(match d a with|some y=>k y|none=>none)|none=>none) else none
theorem IdxX.oD {enc:α->AV}{d:AV->Option α}{l:List AV}{n:Int}{K:AV->Prop}{k:α->Option β}{r:β}(h:idxD d l n k=some r)(f:∀ a y,d a=some y->a=enc y)(c:∀ y,k y=some r->K (enc y)):IdxX (l.map idA) n K:=by
 unfold idxD at h;split at h
 ·rename_i j;split at h
  ·rename_i a g;split at h
   ·rename_i y b;refine .mk n.toNat (enc y) (by omega) ?_ (c y h);rw [Sw,g,f a y b]
   ·cases h
  ·cases h
 ·cases h
end
section
variable {α β V:Type} {E:Env} {nt:Nat} {R:Exit->AS->Prop} {K:List Bu}
def jon (F:V->Option β)(x:Option β):Option β:=x
variable {A:Code}
theorem AW.meet1 {J:AS->Prop}(h1:AW E nt (Cw J (AW E nt R K)) [.code A] .normal σ)(f:∀ τ,J τ->AW E nt R K .normal τ):AW E nt R (.code A::K) .normal σ :=
 ⟨fun cx b a=>bC (h1.out cx b a) (fun e d c=>by cases e<;>first|exact (f _ c).out cx b a|exact AW.out c cx b a)⟩
theorem AW.meet2 {J:AS->Prop}{B:Code}(h1:AW E nt (Cw J (AW E nt R K)) [.code A,.code B] .normal σ)(g:∀ τ,J τ->AW E nt R K .normal τ):AW E nt R (.code A::.code B::K) .normal σ :=
 ⟨fun cx c b=>bC (h1.out cx c b) (fun e f a=>by
  cases e with
  |normal=>exact bC a (fun e d a=>by cases e<;>first|exact (g _ a).out cx c b|exact AW.out a cx c b)
  |_=>exact AW.out a cx c b)⟩
variable {F:V->Option β}
theorem AW.joinO1 {S:V->AS}{x:Option β}{r:β}{C:Code}(h:jon F x=some r)(h1:x=some r->AW E nt (Cw (fun a=>∃ v,F v=some r/\LeX E nt a (S v)) (AW E nt R (.code C::K))) [.code A] .normal σ)(d:∀ v,F v=some r->AW E nt R (.code C::K) .normal (S v)):AW E nt R (.code A::.code C::K) .normal σ :=
 AW.meet1 (h1 h) (fun τ ⟨v,b,c⟩=>AW.weaken c (d v b))
theorem AW.joinO2 {S:V->AS}{x:Option β}{r:β}{B C:Code}(h:jon F x=some r)(h1:x=some r->AW E nt (Cw (fun a=>∃ v,F v=some r/\LeX E nt a (S v)) (AW E nt R (.code C::K))) [.code A,.code B] .normal σ)(d:∀ v,F v=some r->AW E nt R (.code C::K) .normal (S v)):AW E nt R (.code A::.code B::.code C::K) .normal σ :=
 AW.meet2 (h1 h) (fun τ ⟨v,b,c⟩=>AW.weaken c (d v b))
theorem B5 (F:V->Option β)(x:Option β):jon F x=x:=rfl
end
section
variable {β:Type}
def natc (n:Int)(k:Nat)(x y:Option β):Option β:=if n=(k:Int) then x else y
theorem NatX.oS {n:Int}{len:Nat}{K:Nat->Prop}{k:Nat}{x y:Option β}{r:β}(h:natc n k x y=some r)(a:Nat.blt k len=true)(b:x=some r->K k)(h1:y=some r->NatX n len K):NatX n len K:=by
 unfold natc at h;split at h
 ·rename_i e;exact .mk k e (aG a) (b h)
 ·exact h1 h
theorem Ns (n:Int)(k:Nat)(x y:Option β):natc n k x y=if n=(k:Int) then x else y:=rfl
end
attribute [irreducible] idxD jon natc
open Go.RowKit
def Ds:AV->Bool |.row _=>true |_=>false
def nstV (s:Value)(vs:Array Value):Option (Option Nat×Value):=some (none,.tuple (#[s]++vs))
variable {s:Value}{vs:Array Value}
theorem mem_nstV {b:Nat}:b∈blks (nstV s vs) ↔ Bb s=some b\/∃ j,Bb (vs.getD j undef)=some b:=by
 simp only [nstV,blks,Option.toList_none,nil_append,Cu,Array.toList_append,filterMap_append,mem_append];constructor
 ·rintro (h|h)
  ·left;obtain ⟨v,c,f⟩:=aS.1 h;have:v=s:=by simpa using c
   rw [<-this];exact f
  ·right;obtain ⟨v,c,f⟩:=aS.1 h;obtain ⟨j,a,rfl⟩:=aV.1 c;have d:j<vs.size:=by simpa using a
   exact ⟨j,by simpa [bQ,d] using f⟩
 ·rintro (h|⟨j,h⟩)
  ·left;exact aS.2 ⟨s,by simp,h⟩
  ·right;by_cases a:j<vs.size
   ·exact aS.2 ⟨vs[j],by simp,by simpa [bQ,a] using h⟩
   ·simp [bQ,a,undef,Bb] at h
variable {γ:Gam}{id:Nat}{vs':Array Value}
theorem y18 (h:γ id=some (nstV s vs')):Turn γ id (nstV s vs) :=
 ⟨_,_,rfl,h,rfl,rfl,fun b a=>by cases b<;>first|(cases a;done)|exact ⟨rfl,by simp only [Dv.of,con0]⟩⟩
section
variable {E:Env} {nt:Nat}
theorem LeX.nst (r ety sz:Nat){ty m:Nat}(Z:σ.find r=some (.row ty 1 (aO m .nils))):LeX E nt σ (σ.rpAll r Ds (.cont m r) (.nest ty (aO m (.row ety sz [])))):=by
 refine LeX.rpAll r Ds (.cont m r) _ _ Z (fun ty cs h=>by cases h) (fun cx γ a w d Y hd he=>?_);obtain ⟨s,us,P,D,c,U,N,G⟩:=he;subst P;obtain ⟨I,H⟩:=Hj c;rw [bN] at c;have M:us.length=m:=by have:=c.1;omega
 have p:∀ k,k<m->us.getD k undef=.slice none 0 0:=fun k f=>by
  have:=N k (by simpa using f) 0 (by simp [AV.cells]);simp only [bJ,AV.cells,aQ,Nat.mul_one,bW] at this;exact this.nils_inv
 have y:∀ k,us.toArray.getD k undef=us.getD k undef:=fun k=>by simp [aA,aC]
 have t:∀ k b,Bb (us.toArray.getD k undef)≠some b:=fun k b z=>by
  rw [y] at z;by_cases f:k<m
  ·rw [p k f] at z;simp [Bb] at z
  ·rw [aC,getElem?_eq_none (by omega)] at z;simp [undef,Bb] at z
 refine ⟨nstV s us.toArray,fun b z=>?_,fun S' hS aa=>⟨⟨s,us.toArray,rfl,D,by simp [M],⟨us,by rw [bN];exact c,G,fun k f _=>(y k).symm⟩,fun k f=>?_,fun i j b hi=>absurd hi (t i b),fun i b _=>t i b⟩,fun γ' x v B C S W=>?_⟩⟩
 ·rcases mem_nstV.1 z with h|⟨j,h⟩
  ·exact (En I H).2 h
  ·exact absurd h (t j b)
 ·have O:k<m:=by simpa using f
  rw [bJ,y,p k O];exact ⟨rfl,[],World.ownsRow_nil _ _ _ _,fun k f=>absurd f (by simp),fun k f=>absurd f (by simp),fun u X=>by cases X⟩
 ·have J:x=.row r:=by
   cases x with
   |row i=>simp only [AV.leafId,Option.some.injEq] at S;rw [S]
   |_=>simp [Ds] at C
  subst J;have L:v=s:=W.row_inv hd (Gf D);subst L;refine .cont B (fun g s' e=>?_) ?_
  ·injection e with e
   injection e with _ e
   subst e;simp only [Dv.of,con0]
  ·rcases c.2 with ⟨q,h0⟩|⟨g,Q,ab,q,_⟩
   ·exact ⟨none,0,by rw [q,h0],fun h=>by omega⟩
   ·exact ⟨_,Q,q,fun _=>⟨g,0,rfl⟩⟩
end
section
variable {cx:Cx} {o:Oper} {σ:AS}
variable {T:Nat}{x:Operand}{i:TyI}
theorem zxw {e esz eb:Nat}(g:o.op=.call { callee:=.builtin .len,args:=#[x],argTypes:=#[T] })(u:dok cx o=true)(d:A6 x=true)(j:σ.eval x=.cont n id)(v:lkT cx.E.tab T=some i)(p:i.shape=.slc e esz eb):Aj cx o σ (.int .i64 (n:Int)) [] [] :=
 B8 u fun τ γ a w h1 z f=>by
  have b:=f.ev x d;rw [h1 x (by simp [g,Op.operands,Call.operands]),j] at b;obtain ⟨m,_,_⟩:=Cs (cx.E.ok T i v) p;cases b with
  |cont h y t =>
   obtain ⟨A,c,q,_⟩:=t;exact ⟨.int .i64 (n:Int),by simp [execOp,g,resolve,invoke,builtin,Builtin.len_,q,run_underlying m,goInt,pure],.int _ _⟩
theorem zfw {e eb m:Nat}{y:Operand}{k:IntKind}(t:o.op=.indexAddr T x y)(I:dok cx o=true)(q:A6 x=true)(p:A6 y=true)(B:σ.eval x=.cont n id)(z:σ.eval y=.int k (m:Int))(J:lkT cx.E.tab T=some i)(G:i.shape=.slc e 1 eb)(hm:m<n):Aj cx o σ (.der (.nelt m) id) [] [] :=
 B8 I fun τ γ a w h1 M f=>by
  have j:=f.ev x q;rw [h1 x (by simp [t,Op.operands]),B] at j;have d:=f.ev y p;rw [h1 y (by simp [t,Op.operands]),z] at d;obtain ⟨D,u,_⟩:=Cs (cx.E.ok T i J) G;cases j with
  |cont h C H =>
   obtain ⟨A,c,v,L⟩:=H;obtain ⟨b,off,rfl⟩:=L (by omega);refine ⟨.pointer (some ⟨b,off+m,none⟩),?_,.der h (fun g s e=>⟨by cases s<;>rfl,?_⟩)⟩
   ·simp [execOp,t,v,d.int_inv,Instr.indexAt,asIntOf,run_underlying D,Eb u (by omega:(1:Nat)≠0),hm,pure,Addr.add_lit]
   ·have:=C g s e;rw [v] at this;cases s with
    |tuple vs =>
     simp only [Dv.of] at this ⊢;rw [<-this]
    |agg vs =>
     simp only [Dv.of] at this ⊢;rw [<-this]
    |_=>simp [Dv.of,undef] at this
variable {ty:Nat}
theorem zwe {γ':Gam}{τ:AS}{a:Act}{w w':World}{dst:Option Nat}{q:Nat}{qs:List NE}{e:Ent}{av:AV}{v:Value}(t:StG cx γ τ a w)(hd:∀ x,dst=some x->cx.E.np<=x/\x<cx.nt)(P:id≠q)(H:γ id=some (nstV s vs))(B:γ' id=some (nstV s vs'))(c:∀ i,i≠id->i≠q->γ' i=γ i)
  (hq:∀ x,γ q=some x->γ' q=some none) (y:∀ b,own γ' b ↔ own γ b) (z:∀ b d,γ' q=some d->b∈blks d->b ∉ blks (nstV s vs')/\(∀ i p,i≠id->i≠q->γ i=some p->b ∉ blks p)) (N:∀ i p b,i≠id->i≠q->γ i=some p->b∈blks p->b ∉ blks (nstV s vs'))
  (M:w.heap.size<=w'.heap.size) (G:∀ k,Bb s≠some k->w'.heap[k]? = w.heap[k]?) (Q:Below cx.w0.heap.size w w') (Y:w.drawn<=w'.drawn)
  (hn:(∀ b,Sg cx.S0 cx.w0.heap.size γ b->b<w.heap.size->w'.heap[b]? = w.heap[b]? /\ Sg cx.S0 cx.w0.heap.size γ' b)->Bo w' (Sg cx.S0 cx.w0.heap.size γ') γ' cx.w0.heap.size (nstV s vs') (.nest ty qs))
  (he:(∀ b,Sg cx.S0 cx.w0.heap.size γ b->b<w.heap.size->w'.heap[b]? = w.heap[b]? /\ Sg cx.S0 cx.w0.heap.size γ' b)->∃ x,γ' q=some x/\Bo w' (Sg cx.S0 cx.w0.heap.size γ') γ' cx.w0.heap.size x e)
  (hv:Rep w' (Sg cx.S0 cx.w0.heap.size γ') γ' av v):St cx (τ.upd dst av [(id,.nest ty qs),(q,e)]) (a.put dst v) w':=by
 have u:∀ b,Bb s=some b->own γ b:=fun b S=>⟨id,_,H,mem_nstV.2 (aH S)⟩
 have W:∀ b,Sg cx.S0 cx.w0.heap.size γ b->Bb s≠some b:=fun b U e=>by
  have J:=u b e;rcases U with ⟨_,h⟩|⟨_,h⟩
  ·have:=(t.ge b J).1.1;omega
  ·exact h J
 have Z:∀ b,Sg cx.S0 cx.w0.heap.size γ b->Sg cx.S0 cx.w0.heap.size γ' b:=fun b S=>S.elim aH (fun ⟨h1,g⟩=>aF ⟨h1,fun J=>g ((y b).1 J)⟩)
 have X:∀ b,Sg cx.S0 cx.w0.heap.size γ b->b<w.heap.size->w'.heap[b]? = w.heap[b]? /\ Sg cx.S0 cx.w0.heap.size γ' b:=fun b U _=>⟨G b (W b U),Z b U⟩
 refine ⟨γ',t.step hd M X (fun i x I=>?_) (fun i hi=>?_) (fun i e0 hi=>?_) (fun i j b d p hi f m D=>?_) (fun b S=>?_) (t.below.trans Q) hv (fun b O _=>⟨G b (fun e=>O (u b e)),fun J=>O ((y b).1 J)⟩) (fun _=>Y)⟩
 ·by_cases h1:i=id
  ·subst h1;rw [H] at I;injection I with I;subst I;exact aF (aF (y18 B))
  ·by_cases g:i=q
   ·subst g;exact aF (aH (hq x I))
   ·exact aH ((c i h1 g).trans I)
 ·rw [zc3 P] at hi;by_cases h1:i=id
  ·rw [if_pos h1] at hi;cases hi
  ·rw [if_neg h1] at hi;by_cases g:i=q
   ·rw [if_pos g] at hi;cases hi
   ·exact ⟨c i h1 g,fun b d hi hm=>G b (fun e=>h1 (t.inj _ _ _ _ _ hi H hm (mem_nstV.2 (aH e))))⟩
 ·rw [zc3 P] at hi;by_cases h1:i=id
  ·subst h1;rw [if_pos rfl] at hi;injection hi with hi
   subst hi;exact ⟨_,B,hn X⟩
  ·rw [if_neg h1] at hi;by_cases g:i=q
   ·subst g;rw [if_pos rfl] at hi;injection hi with hi
    subst hi;exact he X
   ·rw [if_neg g] at hi;cases hi
 ·have sym:∀ i j d p,γ' i=some d->γ' j=some p->b∈blks d->b∈blks p->i=id->i=j:=fun i j d p hi f m D h1=>by
   subst h1;rw [B] at hi;injection hi with hi
   subst hi;by_cases g:j=i
   ·exact g.symm
   ·by_cases C:j=q
    ·subst C;exact absurd m (z b p f D).1
    ·rw [c j g C] at f;exact absurd m (N j p b g C f D)
  by_cases h1:i=id
  ·exact sym i j d p hi f m D h1
  ·by_cases g:j=id
   ·exact (sym j i p d f hi D m g).symm
   ·by_cases C:i=q
    ·by_cases L:j=q
     ·rw [C,L]
     ·subst C;rw [c j g L] at f;exact absurd D ((z b d hi m).2 j p g L f)
    ·by_cases L:j=q
     ·subst L;rw [c i h1 C] at hi;exact absurd m ((z b p f D).2 i d h1 C hi)
     ·rw [c i h1 C] at hi;rw [c j g L] at f;exact t.inj _ _ _ _ _ hi f m D
 ·have:=t.ge b ((y b).1 S);exact ⟨this.1,Nat.lt_of_lt_of_le this.2 M⟩
variable {es:List NE}
theorem zwh {τ:AS}{a:Act}{w:World}(c:StG cx γ τ a w)(h:τ.find id=some (.nest ty es)) :
  ∃ s vs us,γ id=some (nstV s vs)/\s.oneCell'=true/\vs.size=es.length/\w.ownsRow cx.w0.heap.size ty 1 s es.length us/\(∀ u∈us,u.oneCell'=true)/\(∀ k (j:k<es.length),es[k]≠.hole->us.getD k undef=vs.getD k undef)/\(∀ k (j:k<es.length),NRep w (Sg cx.S0 cx.w0.heap.size γ) cx.w0.heap.size (vs.getD k undef) es[k])/\DisB (Bb s) vs:=by
 have b:=c.me id;rw [h] at b;obtain ⟨d,g,s,vs,f,h1,y,⟨us,v,t,q⟩,p,m⟩:=b;subst f;exact ⟨s,vs,us,g,h1,y,v,t,q,p,m⟩
theorem zt4 {d k ety sz:Nat}{xs:List AV}(ho:o.op=.load T x)(ak:o.dst=some d)(hd:dok cx o=true)(ad:A6 x=true)(y:σ.eval x=.der (.nelt k) id)(hT:lkT cx.E.tab T=some i)(ha:i.shape.agg=false)(hl:σ.find id=some (.nest ty es))(he:es[k]? = some (.row ety sz xs))(hn:σ.find d=none)(ab:id≠d) :
  Aj cx o σ (.row d) [id,d] [(id,.nest ty (es.set k .hole)),(d,.row ety sz xs)]:=by
 refine ⟨fun i e he=>zty he,fun τ h1 u a w Q K ⟨γ,t⟩ hK=>C9 (fun c X=>by rw [ho] at X;cases X) ?_⟩;have ex:=t.ev x ad;rw [h1 x (by simp [ho,Op.operands]),y] at ex;obtain ⟨s,vs,us,I,ag,ae,v,Z,Y,aa,C⟩:=zwh t (by rw [u id (by simp)];exact hl);obtain ⟨hk,ac⟩:=List.getElem?_eq_some_iff.1 he;have G:γ d=none:=by have:=t.me d;rw [u d (by simp),hn] at this;exact this
 have N:=aa k hk;rw [ac] at N;obtain ⟨us1,ah⟩:=y4q N;obtain ⟨L,J⟩:=Hj ah;have aj:(execOp a.eval o).run cx.P w=.ok (.value (vs.getD k undef)) w:=by
  have M:=v;rcases v.2 with ⟨_,h0⟩|⟨g,am,al,af,_,W,_⟩
  ·omega
  ·subst af;have hv:a.eval x=.pointer (some ⟨g,0+k,none⟩):=by rw [ex.der_inv I];simp only [Dv.of,con0]
   have X:=Nb M rfl k (by omega);have H:=S5 (cx.E.ok T i hT) ha w ⟨g,0+k,none⟩ (us.getD k undef) (by rw [bI];exact X);rw [Y k hk (by rw [ac];simp)] at H;simp only [execOp,ho,hv,Instr.loadAt,Instr.sureAddr,Sem.run_bind,Sem.run_pure,Result.andThen_ok,H]
 unfold Oper.wp;rw [aj];have ai:k<vs.size:=by omega
 have B:∀ i,(vs.setIfInBounds k .nilFunc).getD i undef=if i=k then .nilFunc else vs.getD i undef:=fun i=>zql _ _ _ _ ai
 have p:∀ i b,Bb ((vs.setIfInBounds k .nilFunc).getD i undef)=some b->i≠k/\Bb (vs.getD i undef)=some b:=fun i b h=>by
  rw [B] at h;by_cases h':i=k
  ·rw [if_pos h'] at h;simp [Bb] at h
  ·rw [if_neg h'] at h;exact ⟨h',h⟩
 let γ':Gam:=fun i=>if i=id then some (nstV s (vs.setIfInBounds k .nilFunc)) else if i=d then some (some ((vs.getD k undef).ownBlock,vs.getD k undef)) else γ i
 have g1:γ' id=some (nstV s (vs.setIfInBounds k .nilFunc)):=if_pos rfl;have g2:γ' d=some (some ((vs.getD k undef).ownBlock,vs.getD k undef)):=by show (if d=id then _ else if d=d then _ else _)=_;rw [if_neg (Ne.symm ab),if_pos rfl]
 have g3:∀ i,i≠id->i≠d->γ' i=γ i:=fun i h1 u=>by show (if i=id then _ else if i=d then _ else _)=_;rw [if_neg h1,if_neg u]
 have bl:∀ i U b,i≠id->γ i=some U->b∈blks U->Bb s≠some b/\∀ j,Bb (vs.getD j undef)≠some b:=fun i U b hi D f =>
  ⟨fun e=>hi (t.inj _ _ _ _ _ D I f (mem_nstV.2 (aH e))),fun j z=>hi (t.inj _ _ _ _ _ D I f (mem_nstV.2 (aF ⟨j,z⟩)))⟩
 refine hK _ _ (zwe (γ':=γ') (q:=d) (w':=w) t (C6 hd) ab I g1 g3 (fun x y=>by rw [G] at y;cases y) (fun b=>⟨fun ⟨i,x,hi,f⟩=>?_,fun ⟨i,x,hi,f⟩=>?_⟩) (fun b x y f=>?_) (fun i U b h1 u hi f X=>?_) (aD _) (fun _ _=>rfl) (Below.refl _ _) (aD _) (fun O=>?_) (fun O=>?_) (.row g2 (fun g s e _=>by injection e with e;injection e with _ e)))
 ·by_cases h1:i=id
  ·subst h1;rw [g1] at hi;injection hi with hi;subst hi
   rcases mem_nstV.1 f with f|⟨j,f⟩
   ·exact ⟨_,_,I,mem_nstV.2 (aH f)⟩
   ·exact ⟨_,_,I,mem_nstV.2 (aF ⟨j,(p j b f).2⟩)⟩
  ·by_cases u:i=d
   ·subst u;rw [g2] at hi;injection hi with hi;subst hi
    exact ⟨_,_,I,mem_nstV.2 (aF ⟨k,(En L J).1 f⟩)⟩
   ·rw [g3 i h1 u] at hi;exact ⟨i,x,hi,f⟩
 ·by_cases h1:i=id
  ·subst h1;rw [I] at hi;injection hi with hi;subst hi
   rcases mem_nstV.1 f with f|⟨j,f⟩
   ·exact ⟨_,_,g1,mem_nstV.2 (aH f)⟩
   ·by_cases m:j=k
    ·subst m;exact ⟨_,_,g2,(En L J).2 f⟩
    ·exact ⟨_,_,g1,mem_nstV.2 (aF ⟨j,by rw [B,if_neg m];exact f⟩)⟩
  ·by_cases u:i=d
   ·subst u;rw [G] at hi;cases hi
   ·exact ⟨i,x,(g3 i h1 u).trans hi,f⟩
 ·rw [g2] at y;injection y with y;subst y
  have S:=(En L J).1 f;refine ⟨fun h=>?_,fun i U h1 u hi hm=>(bl i U b h1 hi hm).2 k S⟩;rcases mem_nstV.1 h with h|⟨i,h⟩
  ·exact C.2 k b h S
  ·exact (p i b h).1 (C.1 _ _ _ (p i b h).2 S)
 ·obtain ⟨q1,q2⟩:=bl i U b h1 hi f;rcases mem_nstV.1 X with h|⟨j,h⟩
  ·exact q1 h
  ·exact q2 j (p j b h).2
 ·refine ⟨s,vs.setIfInBounds k .nilFunc,rfl,ag,by simp [ae],⟨us,by rw [length_set];exact v,Z,fun j z W=>?_⟩,fun j z=>?_,fun i j b hi z=>C.1 i j b (p i b hi).2 (p j b z).2,fun i b f hi=>C.2 i b f (p i b hi).2⟩
  ·have P:j<es.length:=by simpa using z
   simp only [aY] at W;rw [B];by_cases m:k=j
   ·rw [if_pos m] at W;exact absurd rfl W
   ·rw [if_neg m] at W;rw [if_neg (fun e=>m e.symm)];exact Y j P W
  ·have P:j<es.length:=by simpa using z
   simp only [aY];rw [B];by_cases m:k=j
   ·rw [if_pos m,if_pos m.symm];rfl
   ·rw [if_neg m,if_neg (fun e=>m e.symm)];exact (aa j P).moved (aD _) O (fun _ _=>rfl)
 ·obtain ⟨q1,us',q2,q3,q4,q5⟩:=N;exact ⟨_,g2,vs.getD k undef,us',rfl,q1,q2,q3,fun k hk j z=>(q4 k hk j z).mono (aD _) O,q5⟩
theorem zp4 {q k ety sz:Nat}{y:Operand}{xs:List AV}(ho:o.op=.store T x y)(hd:dok cx o=true)(ar:A6 x=true)(aq:A6 y=true)(hx:σ.eval x=.der (.nelt k) id)(hy:σ.eval y=.row q)(hT:lkT cx.E.tab T=some i)(an:i.sz=1)(hl:σ.find id=some (.nest ty es))(hq:σ.find q=some (.row ety sz xs))(he:es[k]? = some .hole)(ab:id≠q) :
  Aj cx o σ (.tup []) [id,q] [(id,.nest ty (es.set k (.row ety sz xs))),(q,.dead)]:=by
 refine ⟨fun i e he=>zty he,fun τ h1 B a w Q K ⟨γ,t⟩ hK=>C9 (fun c hc=>by rw [ho] at hc;cases hc) ?_⟩;have ex:=t.ev x ar;rw [h1 x (by simp [ho,Op.operands]),hx] at ex;have ey:=t.ev y aq;rw [h1 y (by simp [ho,Op.operands]),hy] at ey;obtain ⟨s,vs,us,Z,ay,ax,Y,ak,au,am,ag⟩:=zwh t (by rw [B id (by simp)];exact hl);obtain ⟨H,us1,C,z,I,ad,az,al⟩:=Sv (id:=q) t (by rw [B q (by simp)];exact hq);obtain ⟨O,N⟩:=Hj I;obtain ⟨hk,bd⟩:=List.getElem?_eq_some_iff.1 he;have bc:k<vs.size:=by omega
 have ah:H.cells=#[H]:=by rcases I.2 with ⟨e,_⟩|⟨_,_,_,e,_⟩<;>(rw [e];rfl)
 have av:us.length=es.length*1:=Y.1;obtain ⟨g,J,p,aa,ai,hh,ac,bb,bj,aw⟩:∃ g J p,s=.slice (some ⟨g,0,none⟩) es.length J/\cx.w0.heap.size<=g/\w.heap[g]? = some (.cells p ty (0,0))/\es.length<=J/\J<=maxLen/\p.size=J*1/\p.toList.take (es.length*1)=us:=by
  rcases Y.2 with ⟨_,h0⟩|h
  ·omega
  ·exact h
 have W:Bb s=some g:=by rw [aa];rfl
 have hv:a.eval x=.pointer (some ⟨g,0+k,none⟩):=by rw [ex.der_inv Z,aa];simp only [Dv.of,con0]
 have bh:a.eval y=H:=ey.row_inv C (Gf z);have L:=z51 (cx.E.ok T i hT) w g (0+k) ty p H hh (by rw [ah,an];rfl) (by omega) (fun u S=>by rw [ah] at S;simp at S;rw [S];exact z);rw [ah,an,bI] at L;generalize M:(p.toList.take k++(#[H]:Array Value).toList++p.toList.drop (k+1)).toArray=m at L;have bg:(execOp a.eval o).run cx.P w=.ok .skip (w.setRow g m):=by
  rw [bI] at hv;simp only [execOp,ho,hv,bh,Instr.storeAt,Instr.sureAddr,Sem.run_bind,Sem.run_pure,Result.andThen_ok,L]
 unfold Oper.wp;rw [bg];have ao:=setRow_heap w g p m ty (0,0) hh;have v:∀ q,q≠g->(w.setRow g m).heap[q]? = w.heap[q]? := fun q hq=>setRow_other w g q _ hq
 have P:w.heap.size<=(w.setRow g m).heap.size:=by simp
 have bi:w.drawn<=(w.setRow g m).drawn:=aD _;have bf:own γ g:=⟨id,_,Z,mem_nstV.2 (aH W)⟩;have ap:Below cx.w0.heap.size w (w.setRow g m):=⟨rfl,rfl,rfl,P,fun k hk=>v k (by have:=(t.ge g bf).1.1;omega)⟩;generalize w.setRow g m=w' at *;have G:∀ i,(vs.setIfInBounds k H).getD i undef=if i=k then H else vs.getD i undef:=fun i=>zql _ _ _ _ bc
 have bl:∀ i d' b,i≠id->γ i=some d'->b∈blks d'->Bb s≠some b/\∀ j,Bb (vs.getD j undef)≠some b:=fun i d' b hi X d =>
  ⟨fun e=>hi (t.inj _ _ _ _ _ X Z d (mem_nstV.2 (aH e))),fun j D=>hi (t.inj _ _ _ _ _ X Z d (mem_nstV.2 (aF ⟨j,D⟩)))⟩
 have U:∀ b,Bb H=some b->Bb s≠some b/\∀ j,Bb (vs.getD j undef)≠some b:=fun b d=>bl q _ b (Ne.symm ab) C ((En O N).2 d)
 have ba:∀ b,Bb (vs.getD k undef)≠some b:=fun b d=>by
  have:=am k hk;rw [bd] at this;have this:vs.getD k undef=.nilFunc:=this;rw [this] at d;simp [Bb] at d
 let γ':Gam:=fun i=>if i=id then some (nstV s (vs.setIfInBounds k H)) else if i=q then some none else γ i
 have g1:γ' id=some (nstV s (vs.setIfInBounds k H)):=if_pos rfl;have g2:γ' q=some none:=by show (if q=id then _ else if q=q then _ else _)=_;rw [if_neg (Ne.symm ab),if_pos rfl]
 have g3:∀ i,i≠id->i≠q->γ' i=γ i:=fun i h1 B=>by show (if i=id then _ else if i=q then _ else _)=_;rw [if_neg h1,if_neg B]
 refine hK _ _ (zwe (γ':=γ') (q:=q) (w':=w') t (C6 hd) ab Z g1 g3 (fun x hx=>g2) (fun b=>⟨fun ⟨i,x,hi,d⟩=>?_,fun ⟨i,x,hi,d⟩=>?_⟩) (fun b x hx d=>?_) (fun i d' b h1 B hi d hc=>?_) P (fun b d=>v b (fun e=>d (by rw [e];exact W))) ap bi (fun ae=>?_) (fun ae=>⟨_,g2,rfl⟩) (.tup #[] rfl (fun j D=>absurd D (by simp))))
 ·by_cases h1:i=id
  ·subst h1;rw [g1] at hi;injection hi with hi;subst hi
   rcases mem_nstV.1 d with d|⟨j,d⟩
   ·exact ⟨_,_,Z,mem_nstV.2 (aH d)⟩
   ·rw [G] at d;by_cases f:j=k
    ·rw [if_pos f] at d;exact ⟨_,_,C,(En O N).2 d⟩
    ·rw [if_neg f] at d;exact ⟨_,_,Z,mem_nstV.2 (aF ⟨j,d⟩)⟩
  ·by_cases B:i=q
   ·subst B;rw [g2] at hi;injection hi with hi;subst hi;cases d
   ·rw [g3 i h1 B] at hi;exact ⟨i,x,hi,d⟩
 ·by_cases h1:i=id
  ·subst h1;rw [Z] at hi;injection hi with hi;subst hi
   rcases mem_nstV.1 d with d|⟨j,d⟩
   ·exact ⟨_,_,g1,mem_nstV.2 (aH d)⟩
   ·exact ⟨_,_,g1,mem_nstV.2 (aF ⟨j,by rw [G,if_neg (fun e=>by subst e;exact ba b d)];exact d⟩)⟩
  ·by_cases B:i=q
   ·subst B;rw [C] at hi;injection hi with hi;subst hi
    exact ⟨_,_,g1,mem_nstV.2 (aF ⟨k,by rw [G,if_pos rfl];exact (En O N).1 d⟩)⟩
   ·exact ⟨i,x,(g3 i h1 B).trans hi,d⟩
 ·rw [g2] at hx;injection hx with hx;subst hx;cases d
 ·obtain ⟨q1,q2⟩:=bl i d' b h1 hi d;rcases mem_nstV.1 hc with h|⟨j,h⟩
  ·exact q1 h
  ·rw [G] at h;by_cases f:j=k
   ·rw [if_pos f] at h;exact B (t.inj _ _ _ _ _ hi C d ((En O N).2 h))
   ·rw [if_neg f] at h;exact q2 j h
 ·have aj:m.toList.take (es.length*1)=us.set k H:=by
   rw [<-M,<-aw,set_eq_take_append_cons_drop,if_pos (by simp;omega)];have:=zlu p.toList [H] k (es.length*1) (by simp;omega) (by simp;omega);simpa using this
  refine ⟨s,vs.setIfInBounds k H,rfl,ay,by simp [ax],⟨us.set k H,⟨by simp [av],aF ⟨g,J,m,by rw [length_set];exact aa,ai,ao,by simpa using ac,bb,?_,by simpa using aj⟩⟩,fun u S=>?_,fun j D hh=>?_⟩,fun j D=>?_,fun i j b hi D=>?_,fun i b d hi=>?_⟩
  ·rw [<-M];have:=zbz p.toList [H] k (by simp;omega);simpa [bj] using this
  ·rcases mem_or_eq_of_mem_set S with S|S
   ·exact ak u S
   ·rw [S];exact z
  ·have af:j<es.length:=by simpa using D
   rw [G];by_cases f:j=k
   ·subst f;rw [if_pos rfl,aC,bK (by omega)];rfl
   ·rw [if_neg f,aC,getElem?_set_ne (fun e=>f e.symm),<-aC];simp only [aY] at hh;rw [if_neg (fun e=>f e.symm)] at hh;exact au j af hh
  ·have af:j<es.length:=by simpa using D
   simp only [aY];rw [G];by_cases f:j=k
   ·rw [if_pos f.symm,if_pos f];exact ⟨z,us1,I.moved (fun b d=>v b (fun e=>(U b d).1 (by rw [W,e]))),ad,fun k hk j D=>(az k hk j D).mono P ae,al⟩
   ·rw [if_neg f,if_neg (fun e=>f e.symm)];exact (am j af).moved P ae (fun b d=>v b (fun e=>ag.2 j b (by rw [W,e]) d))
  ·rw [G] at hi D;by_cases h1:i=k
   ·by_cases B:j=k
    ·rw [h1,B]
    ·rw [if_pos h1] at hi;rw [if_neg B] at D;exact absurd D ((U b hi).2 j)
   ·by_cases B:j=k
    ·rw [if_neg h1] at hi;rw [if_pos B] at D;exact absurd hi ((U b D).2 i)
    ·rw [if_neg h1] at hi;rw [if_neg B] at D;exact ag.1 i j b hi D
  ·rw [G] at hi;by_cases h1:i=k
   ·rw [if_pos h1] at hi;exact (U b hi).1 d
   ·rw [if_neg h1] at hi;exact ag.2 i b d hi
end
open Go.RowKit
section
variable {α β:Type}
def mkn (n:Int)(bytes:Nat)(k:Nat->Option β):Option β:=if 0<=n/\n.toNat<=1099511627776/\bytes*n.toNat<=281474976710656 then k n.toNat else none
theorem MakX.on {n:Int}{bytes:Nat}{K:List AV->Prop}{k:Nat->Option β}{r:β}(h:mkn n bytes k=some r)(b:∀ m,k m=some r->K (aO m .nils)):MakX n bytes .nils K:=by
 unfold mkn at h;split at h
 ·rename_i a;exact .mk n.toNat (by omega) a.2.1 a.2.2 _ (.refl _) (b _ h)
 ·cases h
def nst (r:Nat)(x:Option β):Option β:=x
def frr (r:Nat)(x:Option β):Option β:=x
def enR (er:α->AV)(ety sz:Nat)(q:List α):NE:=.row ety sz (q.map er)
def ncx (n:Int)(len:Nat)(c:Option β):Option β:=if 0<=n/\n.toNat<len then c else none
def ntk (l:List (List α))(k:Nat)(c:List α->Option β):Option β:=match l[k]? with|some q=>c q|none=>none
def npt (l:List (List α))(k:Nat)(v:List α)(c:List (List α)->Option β):Option β:=if k<l.length then c (l.set k v) else none
end
section
variable {α β:Type} {E:Env} {nt:Nat} {o:Oper} {σ:AS} {K:OpK}
variable {T:Nat}{x:Operand}{i:TyI}
theorem OpX.lnc {e esz eb:Nat}(g:o.op=.call { callee:=.builtin .len,args:=#[x],argTypes:=#[T] })(j:dokN E nt o.dst=true)(a:A6 x=true)(d:σ.eval x=.cont n id)(m:lkT E.tab T=some i)(f:i.shape=.slc e esz eb)(h:K (.int .i64 (n:Int)) [] []):OpX E nt o σ K :=
 .mk _ _ _ (fun cx c b=>zxw g (Al j c b) a d (by rw [c];exact m) f) h
theorem OpX.ixc {n:Int}{len:Nat}{c:Option β}{r:β}{e eb:Nat}{y:Operand}{kd:IntKind}(a:ncx n len c=some r)(p:o.op=.indexAddr T x y)(u:dokN E nt o.dst=true)(d:A6 x=true)(b:A6 y=true)(j:σ.eval x=.cont len id)(h:σ.eval y=.int kd n)(v:lkT E.tab T=some i)(m:i.shape=.slc e 1 eb)
  (t:c=some r->K (.der (.nelt n.toNat) id) [] []):OpX E nt o σ K:=by
 unfold ncx at a;split at a
 ·rename_i q;exact .mk _ _ _ (fun cx g f=>zfw p (Al u g f) d b j (by rw [h];congr 1;omega) (by rw [g];exact v) m q.2) (t a)
 ·cases a
variable {l:List (List α)}
theorem OpX.ntk (er:α->AV){k:Nat}{c:List α->Option β}{r:β}{d ty ety sz:Nat}(b:Proofs.YthbogefcfhmpgaaGreat.ntk l k c=some r)(t:o.op=.load T x)(a:o.dst=some d)(z:dokN E nt o.dst=true)(f:A6 x=true)(m:σ.eval x=.der (.nelt k) id)(C:lkT E.tab T=some i)(B:i.shape.agg=false)
  (v:σ.find id=some (.nest ty (l.map (enR er ety sz)))) (u:σ.find d=none) (h:aJ id d=false) (y:∀ q,c q=some r->K (.row d) [id,d] [(id,.nest ty ((l.map (enR er ety sz)).set k .hole)),(d,.row ety sz (q.map er))]):OpX E nt o σ K:=by
 unfold Proofs.YthbogefcfhmpgaaGreat.ntk at b;split at b
 ·rename_i q p;exact .mk _ _ _ (fun cx j g=>zt4 t a (Al z j g) f m (by rw [j];exact C) B v (by rw [getElem?_map,p];rfl) u (nbne h)) (y _ b)
 ·cases b
theorem OpX.npt (er:α->AV){k:Nat}{v:List α}{c:List (List α)->Option β}{r:β}{q ty ety sz:Nat}{y:Operand}(a:Proofs.YthbogefcfhmpgaaGreat.npt l k v c=some r)(C:o.op=.store T x y)(H:dokN E nt o.dst=true)(d:A6 x=true)(b:A6 y=true)(z:σ.eval x=.der (.nelt k) id)(u:σ.eval y=.row q)(I:lkT E.tab T=some i)(m:i.sz=1)
  (D:σ.find id=some (.nest ty ((l.map (enR er ety sz)).set k .hole))) (B:σ.find q=some (.row ety sz (v.map er))) (g:aJ id q=false) (G:∀ p,c p=some r->K (.tup []) [id,q] [(id,.nest ty (p.map (enR er ety sz))),(q,.dead)]):OpX E nt o σ K:=by
 unfold Proofs.YthbogefcfhmpgaaGreat.npt at a;split at a
 ·rename_i j;have h:=G _ a;have e:((l.map (enR er ety sz)).set k .hole).set k (.row ety sz (v.map er))=(l.set k v).map (enR er ety sz):=by rw [set_set,map_set];rfl
  rw [<-e] at h;exact .mk _ _ _ (fun cx t f=>zp4 C (Al H t f) d b z u (by rw [t];exact I) m D B (by rw [bK (by simpa using j)]) (nbne g)) h
 ·cases a
end
section
variable {α β:Type} {E:Env} {nt:Nat}
def Er:AV->Bool |.cont _ _=>true |_=>false
variable {l:List (List α)}
theorem LeX.frr (r:Nat)(er:α->AV)(ty ety sz:Nat)(hr:σ.find r=some (.nest ty (l.map (enR er ety sz)))):LeX E nt σ (σ.rpAll r Er (.sl 1 (l.map fun q=>.sl sz (q.map er))) .dead):=by
 refine LeX.rpAll r Er _ _ _ hr (fun ty cs h=>by cases h) (fun cx γ a w d ab hd he=>?_);obtain ⟨s,vs,p,O,N,⟨us,g,z,M⟩,Q,ac⟩:=he;have p:d=nstV s vs:=p;subst p;rw [bU] at N g;refine ⟨none,(fun b m=>by cases m),fun S' hS D=>⟨rfl,fun γ' x v Z u hx L=>?_⟩⟩;have I:∃ n,x=.cont n r:=by
  cases x with
  |cont n i=>simp only [AV.leafId,Option.some.injEq] at hx;exact ⟨n,by rw [hx]⟩
  |_=>simp [Er] at u
 obtain ⟨n,rfl⟩:=I;have J:v=s:=by
  cases L with
  |cont h L hl =>
   rw [hd] at h;injection h with h
   have:=L none (.tuple (#[s]++vs)) h.symm;rw [this];simp only [Dv.of,con0]
 subst J;have W:∀ k,k<l.length->Rep w S' G0 (.sl sz ((l[k]?.getD []).map er)) (us.getD k undef):=fun k t=>by
  have h3:=Q k (by simpa using t);have h2:=M k (by simpa using t) (by simp [enR]);simp only [aX,enR] at h3;obtain ⟨q1,us',Y,q3,q4,q5⟩:=h3;obtain ⟨H,aa⟩:=Hj Y;obtain ⟨s',c,y⟩:=Hm (w:=w) (S:=Sg cx.S0 cx.w0.heap.size γ) (γ:=γ) (S':=S') (d:=some ((vs.getD k undef).ownBlock,vs.getD k undef)) ⟨_,us',rfl,q1,Y,q3,q4,q5⟩ (fun b m _=>hS b m) (fun s X e=>by
   injection e with e
   injection e with G e2
   rw [H] at G;exact D X (mem_nstV.2 (aF ⟨k,G⟩)) (fun m=>by cases m)) G0
  injection c with c
  injection c with _ c
  rw [h2,c,bD t];exact y
 obtain ⟨s0,f,P⟩:=Hm (w:=w) (S:=S') (γ:=γ) (S':=S') (B:=cx.w0.heap.size) (ty:=ty) (sz:=1) (xs:=l.map fun q=>.sl sz (q.map er)) (d:=some (v.ownBlock,v)) ⟨v,us,rfl,O,by rw [bU];exact g,fun k t=>by rw [aX];rfl,fun k t j hj=>by
   have C:k<l.length:=by simpa using t
   have U:j=0:=by
    have:j<1:=by simpa [AV.cells] using hj
    omega
   subst U;simp only [aX,AV.cells,aQ,Nat.mul_one,bW];have:=W k C;rw [bD C] at this;exact this,z⟩ (fun b m _=>m) (fun s X e=>by
   injection e with e
   injection e with G e2
   rw [(Hj g).1] at G;exact D X (mem_nstV.2 (aH G)) (fun m=>by cases m)) γ'
 injection f with f
 injection f with _ f
 rw [f];exact P
variable {R:Exit->AS->Prop} {K:List Bu}
theorem AW.frrO {ty ety sz:Nat}{c:Code}{x:Option β}{y:β}(er:α->AV)(h:Proofs.YthbogefcfhmpgaaGreat.frr id x=some y)(r:Nat)(a:σ.find r=some (.nest ty (l.map (enR er ety sz))))(k:x=some y->AW E nt R (.code c::K) .normal (σ.rpAll r Er (.sl 1 (l.map fun q=>.sl sz (q.map er))) .dead)):AW E nt R (.code c::K) .normal σ:=AW.weaken (LeX.frr r er ty ety sz a) (k h)
theorem AW.nstO {ty m:Nat}{c:Code}{x:Option β}{y:β}{er:α->AV}(ety sz:Nat)(h:Proofs.YthbogefcfhmpgaaGreat.nst id x=some y)(r:Nat)(a:σ.find r=some (.row ty 1 (aO m .nils)))(k:x=some y->AW E nt R (.code c::K) .normal (σ.rpAll r Ds (.cont m r) (.nest ty ((aO m ([]:List α)).map (enR er ety sz))))):AW E nt R (.code c::K) .normal σ:=by
 have e:(aO m ([]:List α)).map (enR er ety sz)=aO m (.row ety sz []):=by rw [map_replicate];rfl
 rw [e] at k;exact AW.weaken (LeX.nst r ety sz a) (k h)
end
attribute [irreducible] mkn nst frr ntk npt ncx
open Go.RowKit
theorem y1p {kd:IntKind}{a:AV}(h:isI kd a=true):a=.int kd (intN a):=by
 cases a<;>simp [isI] at h;subst h;rfl
def qK (n:Int)(p:AV×AV):Bool:=decide (n=intN p.1)
theorem ze4 {kd:IntKind}{n:Int}:∀ (ps:List (AV×AV)) (i:Nat),(∀ p∈ps,isI kd p.1=true)->Bt (.int kd n) (ps.map (·.1)) i=some ((ps.findIdx? (qK n)).map (· + i))
 |[],i,_=>rfl
 |(a,v)::r,i,h=>by
  have c:=y1p (h (a,v) (by simp));have d:=ze4 (n:=n) r (i+1) (fun p f=>h p (by simp [f]));have e:eqK (.int kd n) a=some (decide (n=intN a)):=by
   simp only at c;rw [c];simp [eqK,eq1,show ∀ m,intN (.int kd m)=m from fun _=>rfl]
  simp only [map_cons,Bt,e];by_cases b:n=intN a
  ·rw [decide_eq_true b];simp [bE,qK,b]
  ·rw [decide_eq_false b];simp only [d,bE,qK,decide_eq_false b];simp only [bG,if_false,Option.map_map];congr 1;have g:(fun p:AV×AV=>decide (n=intN p.1))=qK n:=rfl
   try rw [g]
   cases findIdx? (qK n) r with
   |none=>rfl
   |some j=>simp;omega
theorem zkz (z:AV)(q:AV×AV->Bool)(ps:List (AV×AV)):E3 z ps (ps.findIdx? q)=((ps.find? q).map (·.2)).getD z:=by
 induction ps with
 |nil=>rfl
 |cons p r ih =>
  rw [bE,find?_cons];cases a:q p with
  |true=>rfl
  |false =>
   simp only [bG,if_false];rw [<-ih];cases findIdx? q r<;>rfl
variable {ps0 ps:List (AV×AV)}
theorem zqo {n:Int}(c:ps0.Perm ps)(m:(ps.map fun p=>intN p.1).Nodup):ps0.find? (qK n)=ps.find? (qK n):=by
 have uniq:∀ p∈ps,∀ a∈ps,qK n p=true->qK n a=true->p=a:=fun p h a t q d=>by
  obtain ⟨i,hi,rfl⟩:=aV.1 h;obtain ⟨j,g,rfl⟩:=aV.1 t;have e:intN ps[i].1=intN ps[j].1:=by
   simp only [qK,decide_eq_true_eq] at q d;rw [<-q,<-d]
  have:i=j:=(getElem_inj (h₀:=by simpa using hi) (h₁:=by simpa using g) m).1 (by simpa using e);subst this;rfl
 cases h:ps.find? (qK n) with
 |none =>
  rw [find?_eq_none] at h ⊢;exact fun p hm=>h p (c.mem_iff.1 hm)
 |some p =>
  have h1:=aZ h;have f:=find?_some h;cases b:ps0.find? (qK n) with
  |none=>rw [find?_eq_none] at b;exact absurd f (b p (c.mem_iff.2 h1))
  |some a=>rw [uniq a (c.mem_iff.1 (aZ b)) p h1 (find?_some b) f]
theorem Ez.mem (h:Ez ps0 ps){p:AV×AV}:p∈ps0 ↔ p∈ps:=by
 rcases h with rfl|⟨h,_⟩
 ·exact Iff.rfl
 ·exact h.mem_iff
theorem y8b {k:AV}{kd:IntKind}{r:Option Nat}(j:isI kd k=true)(h:∀ p∈ps,isI kd p.1=true)(f:(ps.map fun p=>intN p.1).Nodup)(c:ps0.Perm ps)(a:Bt k (ps.map (·.1)) 0=some r) :
  ∃ b,Bt k (ps0.map (·.1)) 0=some b/\b.isSome=r.isSome/\∀ z,E3 z ps0 b=E3 z ps r:=by
 have e:=y1p j;rw [e,ze4 ps 0 h] at a;injection a with a
 have g:∀ o:Option Nat,o.map (· + 0)=o:=fun o=>by cases o<;>rfl
 rw [g] at a;refine ⟨ps0.findIdx? (qK (intN k)),?_,?_,fun z=>?_⟩
 ·rw [e,ze4 ps0 0 (fun p hm=>h p (c.mem_iff.1 hm)),g];simp [intN]
 ·rw [<-a];have d:∀ l:List (AV×AV),(l.findIdx? (qK (intN k))).isSome=(l.find? (qK (intN k))).isSome:=fun l=>by
   rw [findIdx?_isSome,Bool.eq_iff_iff,find?_isSome,bA]
  rw [d,d,zqo c f]
 ·rw [zkz,<-a,zkz,zqo c f]
theorem zhv {k:AV}{r:Option Nat}(b:Ez ps0 ps)(a:Bt k (ps.map (·.1)) 0=some r):∃ c,Bt k (ps0.map (·.1)) 0=some c/\c.isSome=r.isSome/\∀ z,E3 z ps0 c=E3 z ps r:=by
 rcases b with rfl|⟨b,kd,h1,g⟩
 ·exact ⟨r,a,rfl,fun _=>rfl⟩
 ·cases ps with
  |nil=>rw [perm_nil.1 b];exact ⟨r,a,rfl,fun _=>rfl⟩
  |cons p t =>
   refine y8b (kd:=kd) ?_ h1 g b a;have hi:=y1p (h1 p (by simp));simp only [map_cons,Bt] at a;rw [hi] at a;cases k with
   |int d n =>
    simp only [eqK,eq1] at a;by_cases f:d=kd
    ·simp [isI,f]
    ·rw [decide_eq_false f] at a;cases a
   |_=>simp [eqK,eq1] at a
open Go.RowKit
def zv4 (args:List AV)(me:List (Nat×Ent)):AS:=⟨args.zipIdx.map fun p=>(p.2,p.1),me⟩
def boxB (np:Nat)(args:List AV)(τ:AS)(me me':List (Nat×Ent))(yk:List Nat):Bool:=me.all fun x=>match x.2 with
 |.box _ _=>memB x.1 yk || (range np).any fun t=>(match args[t]? with|some (.ptr k 0)=>aJ k x.1|_=>false) && (match τ.get t,lkE me' x.1 with|.ptr k 0,some (.box _ _)=>aJ k x.1|_,_=>false)
 |.row _ _ _=>match lkE me' x.1 with
  |none=>true
  |some (.row _ _ _)=>(range np).any fun t=>(match args[t]? with|some (.row k)=>aJ k x.1|_=>false) && (match τ.get t with|.row k=>aJ k x.1|_=>false)
  |some _=>false
 |_=>true
variable {args:List AV}{me me':List (Nat×Ent)}
theorem zxd {np:Nat}{τ:AS}{yk:List Nat}(h:boxB np args τ me me' yk=true){i ty sz:Nat}{xs:List AV}(hi:lkE me i=some (.row ty sz xs)){e:Ent}(y:lkE me' i=some e) :
  ∃ t b c a,t<np/\args[t]? = some (.row i)/\τ.get t=.row i/\e=.row b c a:=by
 have g:=bB.1 h (i,.row ty sz xs) (T6 hi);simp only [y] at g;split at g
 ·rename_i f;cases f
 ·rename_i b c a f;injection f with f
  obtain ⟨t,q,d⟩:=bA.1 g;rw [bM] at q;rw [aT] at d;obtain ⟨p,m⟩:=d;split at p
  ·rename_i k v;have B:k=i:=aB p;subst B;split at m
   ·rename_i u j;have z:u=k:=aB m;subst z;exact ⟨t,b,c,a,q,v,j,f⟩
   ·cases m
  ·cases p
 ·cases g
variable {w:World}
theorem zva {w':World}{S S':Nat->Prop}{γ':Gam}{B B' i ty sz c f:Nat}{xs b:List AV}{d j:Option (Option Nat×Value)}{v:Value}(h1:Rep w S γ (.row i) v)(u:Rep w' S' γ' (.row i) v)(h:γ i=some d)(a:γ' i=some j)
  (t:Bo w S γ B d (.row ty sz xs)) (g:Bo w' S' γ' B' j (.row c f b)):γ' i=γ i:=by
 obtain ⟨s,vs,z,q,_⟩:=t;obtain ⟨C,vs',y,o2,_⟩:=g;subst z y;have p:=h1.row_inv h (Gf q);have m:=u.row_inv a (Gf o2);rw [h,a,<-p,<-m]
def YK (np:Nat)(args:List AV)(τ:AS)(me':List (Nat×Ent)):List Nat->Prop |[]=>True |k::r=>((∃ (t a i l:Nat) (T:Array Value) (caps caps':List AV) (ty:TypeId) (es:List AV),args[t]? = some (.yld l T caps)/\τ.get a=.yld l T caps'/\caps[i]? = some (.ptr k 0)/\caps'[i]? = some (.ptr k 0)/\lkE me' k=some (.box ty es)) \/ ∃ (t i f:Nat) (caps caps':List AV) (ty:TypeId) (es:List AV),t<np/\args[t]? = some (.fn f caps)/\τ.get t=.fn f caps'/\caps[i]? = some (.ptr k 0)/\caps'[i]? = some (.ptr k 0)/\lkE me' k=some (.box ty es))/\YK np args τ me' r
theorem YK.at {np:Nat}{τ:AS}:∀ {l:List Nat},YK np args τ me' l->∀ k∈l,(∃ (t b i l:Nat) (T:Array Value) (caps caps':List AV) (ty:TypeId) (es:List AV),args[t]? = some (.yld l T caps)/\τ.get b=.yld l T caps'/\caps[i]? = some (.ptr k 0)/\caps'[i]? = some (.ptr k 0)/\lkE me' k=some (.box ty es)) \/
   ∃ (t i f:Nat) (caps caps':List AV) (ty:TypeId) (es:List AV),t<np/\args[t]? = some (.fn f caps)/\τ.get t=.fn f caps'/\caps[i]? = some (.ptr k 0)/\caps'[i]? = some (.ptr k 0)/\lkE me' k=some (.box ty es)
 |[],_,k,a=>by cases a
 |x::r,h,k,a=>by
  rcases mem_cons.1 a with rfl|a
  ·exact h.1
  ·exact h.2.at k a
inductive GX (E:Env) (nt:Nat) (fn:Func) (args:List AV) (me:List (Nat×Ent)) (σ:AS) (res:AV) (me':List (Nat×Ent)):Prop
 |mk (τ:AS) (hl:LeX E nt σ τ) (hme:τ.me=me') (avs:List AV) (h1:retA E.tab τ fn.results.toList=some avs) (h2:Sub (Jv avs) res) (yk:List Nat) (hyk:YK E.np args τ me' yk) (hb:boxB E.np args τ me me' yk=true)
def EndG (E:Env)(nt:Nat)(fn:Func)(args:List AV)(me:List (Nat×Ent))(res:AV)(me':List (Nat×Ent)):Exit->AS->Prop |.normal,σ=>GX E nt fn args me σ res me' |.ret,σ=>GX E nt fn args me σ res me' |_,_=>False
variable {fn:Func}
theorem ConG.walk {f:FuncId}{caps:List AV}{res:AV}(c:Code)(hf:E.P.funcs[f]? = some fn)(U:fn.body=some c)(hn:bP (args++caps).length fn.ntmps=true)(ax:bP E.np (args++caps).length=true)(aw:E.rg=false)(ba:E.dr=false)
  (h:AW E fn.ntmps (EndG E fn.ntmps fn (args++caps) me res me') [.code c] .normal (zv4 (args++caps) me)):ConG E.P E.yl (CalF E.P f caps.length) args caps me res me':=by
 intro cx γ w vs cs hP am ap ak al d ag ar bc bb;have bh:(vs++cs).size=(args++caps).length:=by simp [ag,bb]
 have bl:=aG hn;have bg:=aG ax;refine callsIn_wide.1 (callsIn_of_wp (F:=Fence.wide) (n:=0) hf U trivial ?_);let I:Cx:=⟨E,cx.S0,cx.w0,fn.ntmps,fun b=>b<w.heap.size/\¬own γ b,w,none,vs++cs,fun _=>rfl⟩;have h0:WP I c (EndG E fn.ntmps fn (args++caps) me res me') (zv4 (args++caps) me):=bC (h.out I rfl rfl) fun e σ hk=>by cases e<;>exact hk
 have B:∀ t (D:t<(args++caps).length),Rep w (Sg cx.S0 cx.w0.heap.size γ) γ (args++caps)[t] ((vs++cs).getD t undef):=fun t D=>by
  by_cases h1:t<args.length
  ·rw [getElem_append_left h1,aA,aP (by omega),<-aA];exact ar t h1
  ·rw [getElem_append_right (by omega),aA,Array.getElem?_append_right (by omega),<-aA,ag];exact bc _ (by rw [length_append] at D;omega)
 have S:∀ t,t<(args++caps).length->(vs++cs++aN (fn.ntmps-(vs++cs).size) undef).getD t undef=(vs++cs).getD t undef:=fun t D=>by
  rw [aA,aA,aP (by omega)]
 have av:StG I γ (zv4 (args++caps) me) { tmps:=vs++cs++aN (fn.ntmps-(vs++cs).size) undef,defers:=[] } w:=by
  refine ⟨fun t=>?_,d.me,d.inj,d.ge,d.below,?_,⟨fun _=>rfl,⟨[],rfl,.nil,fun r hr=>by cases hr⟩,fun t D=>?_,fun l R hl=>d.defers.yl l R (ap _ hl),aD _⟩,d.gh,fun b U=>⟨U.2,U.1,rfl⟩,fun hd=>?_⟩
  ·unfold AS.get zv4;rw [zmf];by_cases D:0<=t/\t<0+(args++caps).length
   ·rw [dif_pos D];have Z:t<(args++caps).length:=by omega
    show Rep w _ γ _ ((vs++cs++aN (fn.ntmps-(vs++cs).size) undef).getD t undef);rw [S t Z];exact B t Z
   ·rw [dif_neg D];exact .any _
  ·show (vs++cs++aN (fn.ntmps-(vs++cs).size) undef).size=fn.ntmps;rw [Array.size_append,Array.size_replicate];omega
  ·have Z:t<E.np:=D;exact S t (by omega)
  ·exact absurd (ba.symm.trans hd) (by simp)
 refine wpIn_mono (h0 _ _ ⟨γ,av⟩) (fun e a w' ⟨σ,hq,aj⟩=>?_);have key:GX E fn.ntmps fn (args++caps) me σ res me'->bodyPost E.P fn (fun e w'=>∃ u γ',e=.returned u/\MeSt cx γ' me' w'/\Rep w' (Sg cx.S0 cx.w0.heap.size γ') γ' res u/\w.heap.size<=w'.heap.size/\(∀ i,Ho me me' i=true->γ' i=γ i) /\
   (∀ b,¬own γ b->b<w.heap.size->w'.heap[b]? = w.heap[b]? /\ ¬own γ' b)) .ret a w':=by
  rintro ⟨τ,hl,C,avs,h1,h2,yk,aq,an⟩;obtain ⟨γ',q⟩:=hl I rfl rfl a w' aj;obtain ⟨u,hu,hr⟩:=Sj q h1;have ac:∀ b,¬own γ b->b<w.heap.size->w'.heap[b]? = w.heap[b]? /\ ¬own γ' b:=fun b U v=>by
   obtain ⟨q1,q2,q3⟩:=q.fr b ⟨v,U⟩;exact ⟨q3,q1⟩
  have ai:w.heap.size<=w'.heap.size:=q.defers.sz;refine ⟨q.defers.d0 aw,u,hu,u,γ',rfl,?_,hr.sub h2,ai,fun i M=>?_,ac⟩
  ·refine ⟨fun t=>.any _,fun i=>by have:=q.me i;unfold aE at this ⊢;rw [<-C];exact this,q.inj,q.ge,q.below,ak.symm,⟨fun _=>rfl,⟨[],rfl,.nil,fun r hr=>by cases hr⟩,fun t D=>by rw [al] at D;omega,fun l R hl=>?_,bX d.defers.sz ai⟩,q.gh,fun b U=>?_,fun hd=>absurd (am.symm.trans hd) (by simp)⟩
   ·obtain ⟨q0,q1,q2,q3⟩:=d.defers.yl l R hl;obtain ⟨k1,Y⟩:=ac l q2 q1;exact ⟨q0,by omega,Y,k1.trans q3⟩
   ·obtain ⟨q1,q2,q3⟩:=d.fr b U;obtain ⟨k1,Y⟩:=ac b q1 q2;exact ⟨Y,by omega,k1.trans q3⟩
  ·unfold Ho at M;split at M;rotate_left
   ·rename_i ty sz xs e hi he;obtain ⟨t,af,bk,bi,D,e1,e2,rfl⟩:=zxd an hi he;obtain ⟨v,H⟩:=List.getElem?_eq_some_iff.1 e1;have L:=B t v;rw [H] at L;have J:=q.tm t;rw [e2,q.defers.pin t D] at J;have z:=d.me i;unfold aE at z;rw [hi] at z;obtain ⟨x,Q,z⟩:=z;have y:=q.me i;unfold aE at y;rw [C,he] at y;obtain ⟨x2,p,y⟩:=y;exact zva L J Q p z y
   ·cases M
   rename_i ty es hi;have G:=bB.1 an (i,.box ty es) (T6 hi);have G:=(bO _ _).mp G;rcases G with G|G
   ·rcases aq.at i ((Dj _ _).1 G) with ⟨t,t',j,l,T,yc,ao,af,bf,e1,e2,e3,e4,e5⟩|⟨t,j,f',yc,ao,af,bf,au,e1,e2,e3,e4,e5⟩
    ·obtain ⟨v,H⟩:=List.getElem?_eq_some_iff.1 e1;have L:=B t v;rw [H] at L;have J:=q.tm t';rw [e2] at J;obtain ⟨hj,aa⟩:=List.getElem?_eq_some_iff.1 e3;obtain ⟨ab,N⟩:=List.getElem?_eq_some_iff.1 e4;have X:=L.yld_inv.2 j hj;have W:=J.yld_inv.2 j ab;rw [aa] at X;rw [N] at W;have z:=d.me i;unfold aE at z;rw [hi] at z;obtain ⟨x,Q,g,ae,P,_⟩:=z;have y:=q.me i;unfold aE at y;rw [C,e5] at y;obtain ⟨x2,p,g2,ad,O,_⟩:=y;subst P O;have m:=X.ptr_inv Q;rw [W.ptr_inv p] at m;injection m with m
     injection m with m
     injection m with m
     rw [Q,p,m]
    ·obtain ⟨v,H⟩:=List.getElem?_eq_some_iff.1 e1;have L:=B t v;rw [H] at L;have J:=q.tm t;rw [e2,q.defers.pin t au] at J;obtain ⟨hj,aa⟩:=List.getElem?_eq_some_iff.1 e3;obtain ⟨ab,N⟩:=List.getElem?_eq_some_iff.1 e4;obtain ⟨us,ev1,_,X⟩:=L.fn_inv;obtain ⟨us',bd,_,W⟩:=J.fn_inv;have p3:(vs++cs).getD t undef=I.pv.getD t undef:=rfl;rw [p3,bd] at ev1;injection ev1 with _ _ ev1
     subst ev1;have X:=X j hj;have W:=W j ab;rw [aa] at X;rw [N] at W;have z:=d.me i;unfold aE at z;rw [hi] at z;obtain ⟨x,Q,g,ae,P,_⟩:=z;have y:=q.me i;unfold aE at y;rw [C,e5] at y;obtain ⟨x2,p,g2,ad,O,_⟩:=y;subst P O;have m:=X.ptr_inv Q;rw [W.ptr_inv p] at m;injection m with m
     injection m with m
     injection m with m
     rw [Q,p,m]
   obtain ⟨t,D,ah⟩:=bA.1 G;rw [bM] at D;rw [aT] at ah;obtain ⟨b1,b2⟩:=ah;split at b1
   ·rename_i k hk;have e1:k=i:=aB b1;subst e1;split at b2
    ·rename_i Y bj bm az ay;have e2:Y=k:=aB b2;subst e2;obtain ⟨v,H⟩:=List.getElem?_eq_some_iff.1 hk;have L:=B t v;rw [H] at L;have J:=q.tm t;rw [az,q.defers.pin t D] at J;have z:=d.me Y;unfold aE at z;rw [hi] at z;obtain ⟨x,Q,g,ae,P,_⟩:=z;have y:=q.me Y;unfold aE at y;rw [C,ay] at y;obtain ⟨x2,p,g2,ad,O,_⟩:=y;subst P O;have m:=L.ptr_inv Q;have p2:=J.ptr_inv p;have p3:(vs++cs).getD t undef=I.pv.getD t undef:=rfl;rw [p3,p2] at m;injection m with m
     injection m with m
     injection m with m
     rw [Q,p,m]
    ·cases b2
   ·cases b1
 cases e with
 |normal=>exact key hq
 |ret=>exact key hq
 |_=>exact hq.elim
open Go.RowKit
theorem zfo {cx:Cx}{fn:Func}{R:Ending->World->Prop}:∀ (d:List Nat) (a:Act) (w:World),StG cx γ σ a w->cx.E.rg=true->(∀ b,cx.Fr b->False)->cx.E.yl=none->a.defers=d.map (fun r=>{ target:=.collected r,args:=#[] })->d.Nodup ->
  (∀ r∈d,cx.w0.heap.size<=r/\r<w.heap.size/\¬own γ r/\w.heap[r]? = some (.deferred (some []))) ->
  (∀ w' t,StG cx γ σ t w'->t.tmps=a.tmps->∃ v,(results fn a.tmps).run cx.P w'=.ok v w'/\R (.returned v) w')->LeavesInM Fence.wide 0 cx.P fn a.tmps R a.defers .returning w
 |[],a,w,h,m,C,j,B,_,_,k=>by
  rw [B];obtain ⟨v,h1,D⟩:=k w a h rfl;exact ⟨v,h1,D⟩
 |r::d,a,w,h,m,C,j,B,z,p,k=>by
  obtain ⟨I,Q,H,G⟩:=p r (bF ..);rw [B];refine ⟨by simp,aH ⟨r,w.putObj r (.deferred none),rfl,run_takeDeferred G,?_⟩⟩;have c:=(nodup_cons.1 z);have f:∀ g∈d,cx.w0.heap.size<=g/\g < (w.putObj r (.deferred none)).heap.size/\¬own γ g/\(w.putObj r (.deferred none)).heap[g]? = some (.deferred (some [])):=fun g q=>by
   obtain ⟨N,M,L,J⟩:=p g (aW _ q);exact ⟨N,by rw [Cy];exact M,L,(Cj (b:=g) (r:=r) (by intro e;subst e;exact c.1 q)).trans J⟩
  have u:=h.putObj (o':=.deferred none) (ds:=d.map (fun r=>{ target:=.collected r,args:=#[] })) G rfl I H
   ⟨fun y=>absurd (y.symm.trans m) (by simp),⟨d,rfl,c.2,f⟩,h.defers.pin,fun l R O=>absurd (j.symm.trans O) (by simp),by rw [Cy];exact h.defers.sz⟩ (fun b P=>(C b P).elim)
  exact zfo d _ _ u m C j rfl c.2 f (fun w' t h1 D=>k w' t h1 (D.trans rfl))
theorem Con.walkM {z:Bool}{f:FuncId}{res:AV}(c:Code)(N:E.P.funcs[f]? = some fn)(g:fn.body=some c)(O:Cg E f)(L:bP args.length fn.ntmps=true)(j:z=false\/res.flat=true)
  (h:AW E fn.ntmps (EndA E fn res) [.code c] .normal (E1 args)) (t:E.rg=true) (m:E.yl=none) (y:E.np=0):Con { E with rg:=false } z f args res:=by
 refine ⟨O,fun S w vs P=>callsIn_wide.1 (callsIn_of_wp_marks (F:=Fence.wide) (n:=0) N g trivial ?_)⟩;have Q:WP (Cx.call E S w fn.ntmps) c (EndA E fn res) (E1 args):=bC (h.out (Cx.call E S w fn.ntmps) rfl rfl) fun e σ M=>by cases e<;>exact M
 refine wpIn_mono (Q _ _ (Xf m y P (aG L))) (fun e a w' ⟨σ,u,γ,q⟩=>?_);have key:(∃ avs,retA E.tab σ fn.results.toList=some avs/\Sub (Tb σ (Jv avs)) res)->bodyPostM Fence.wide 0 E.P fn (fun e w'=>∃ v,e=.returned v/\BelE { E with rg:=false } w w'/\Rep w' (fun b=>(z=false/\S b)\/w.heap.size<=b) G0 res v) .ret a w':=by
  rintro ⟨avs,h1,p⟩;obtain ⟨D,I,H,G⟩:=q.defers.marks;refine zfo (cx:=Cx.call E S w fn.ntmps) D a w' q t (fun b g=>g.elim) m I H G (fun W X d U=>?_);obtain ⟨v,B,J⟩:=Sj d h1;rw [U] at B;refine ⟨v,B,v,rfl,⟨d.below,d.dr⟩,?_⟩;have C:=(zlp (S':=fun b=>S b\/w.heap.size<=b) d (fun b g=>?_) J).sub p
  ·rcases j with j|j
   ·exact C.mono (aD _) (fun b g _=>⟨rfl,g.elim (fun h=>aH ⟨j,h⟩) aF⟩)
   ·exact C.flat j
  ·rcases g with g|g
   ·rcases g with ⟨g,_⟩|⟨g,_⟩
    ·exact aH g.1
    ·exact aF g.1
   ·exact aF (d.ge b g).1.1
 cases e with
 |normal=>exact key (zec u)
 |ret=>exact key (zec u)
 |_=>exact u.elim
open Go.RowKit
theorem zzl {S:Nat->Prop}:∀ (ps:List Nat) (avs:List AV) (vs:List Value) (T:Array Value) (base:List (Nat×AV)),(∀ t,Rep w S γ (lkV base t) (T.getD t undef))->(∀ p∈ps,p<T.size)->avs.length=ps.length->vs.length=ps.length ->
  (∀ i (hi:i<avs.length),Rep w S γ avs[i] (vs.getD i undef))->∀ t,Rep w S γ (lkV ((ps.zip avs).foldl (fun tm x=>x::tm) base) t) (((ps.zip vs).foldl (fun t x=>t.setIfInBounds x.1 x.2) T).getD t undef)
 |[],_,_,T,base,d,_,_,_,_=>fun t=>d t
 |p::ps,[],_,T,base,_,_,h1,_,_=>by simp at h1
 |p::ps,av::avs,[],T,base,_,_,_,c,_=>by simp at c
 |p::ps,av::avs,v::vs,T,base,d,f,h1,c,j=>by
  simp only [zip_cons_cons,bV];refine zzl ps avs vs _ _ (fun t=>?_) (fun q m=>by rw [aR];exact f q (aW _ m)) (by simpa using h1) (by simpa using c) (fun i hi=>by have:=j (i+1) (by simpa using hi);simpa using this);have a:=f p (bF ..);simp only [lkV];cases g:aJ p t with
  |true =>
   have:=aB g;subst this;have h:=j 0 (by simp);simp only [aQ,getD_cons_zero] at h;simpa [a] using h
  |false =>
   have b:p≠t:=aU g;have e:(T.setIfInBounds p v).getD t undef=T.getD t undef:=by
    rw [aA,aL b,<-aA]
   rw [e];exact d t
theorem zv9:∀ (l:List (Nat×Value)) (T:Array Value),(l.foldl (fun t x=>t.setIfInBounds x.1 x.2) T).size=T.size
 |[],T=>rfl
 |x::l,T=>by rw [bV,zv9 l,aR]
theorem zox {t:Nat}:∀ (l:List (Nat×Value)) (T:Array Value),(∀ x∈l,x.1≠t)->(l.foldl (fun t x=>t.setIfInBounds x.1 x.2) T).getD t undef=T.getD t undef
 |[],T,_=>rfl
 |x::l,T,h=>by
  rw [bV,zox l _ (fun y a=>h y (aW _ a)),aA,aL (h x (bF ..)),<-aA]
def zzi (ps:List Nat)(args ycaps:List AV)(me:List (Nat×Ent)):AS:=⟨(ps.zip args).foldl (fun tm x=>x::tm) (ycaps.zipIdx.map fun p=>(p.2,p.1)),me⟩
inductive BX (E:Env) (nt:Nat) (ycaps:List AV) (me:List (Nat×Ent)) (σ:AS) (me':List (Nat×Ent)):Prop
 |mk (τ:AS) (hl:LeX E nt σ τ) (hme:τ.me=me') (hb:boxB E.np ycaps τ me me' []=true)
def EndB (E:Env)(nt:Nat)(ycaps:List AV)(me me':List (Nat×Ent)):Exit->AS->Prop |.normal,σ=>BX E nt ycaps me σ me' |_,_=>False
theorem StG.putObjW {cx:Cx}{a:Act}(h:StG cx γ σ a w){r:Nat}{o o':Obj}(g:w.heap[r]? = some o)(D:o.isCells=false)(J:cx.w0.heap.size<=r)(p:¬own γ r)(z:a.defers=[])(j:cx.E.yl=none)(m:∀ es c,o≠.map es c:=by intro es c h;cases h):StG { cx with w1:=w.putObj r o' } γ σ a (w.putObj r o'):=by
 have v:=y1a (k:=0) g D;have f:∀ es c,w.heap[r]? ≠ some (.map es c):=fun es c h=>by rw [g] at h;injection h with h;exact m es c h
 have q:∀ b,own γ b->b≠r:=fun b d e=>p (e▸d)
 refine ⟨fun t=>(h.tm t).putObj v f,fun id=>?_,h.inj,fun b d=>by rw [Cy];exact h.ge b d,h.below.trans ⟨rfl,rfl,rfl,by rw [Cy];exact aD _,fun b d=>Cj (by omega)⟩,h.size,
  ⟨fun _=>z,⟨[],z,.nil,fun r g=>by cases g⟩,h.defers.pin,fun l R G=>absurd (j.symm.trans G) (by simp),aD _⟩,fun b d=>by rw [Cy];exact h.gh b d,fun b d=>?_,h.dr⟩
 ·have:=h.me id;cases y:σ.find id with
  |none=>rw [y] at this;exact this
  |some e =>
   rw [y] at this;obtain ⟨x,u,H⟩:=this;exact ⟨x,u,H.putObj v f (fun b d=>q b ⟨id,x,u,d⟩)⟩
 ·obtain ⟨C,B,I⟩:=h.fr b d;exact ⟨C,by rw [Cy];exact B,rfl⟩
theorem ConG.round {nt:Nat}{ps:Array Tmp}{assign body:Code}{ycaps:List AV}(Y:E.rg=false)(q:E.yl=none)(bc:E.dr=false)(az:ps.toList.all (fun p=>bP E.np p && Nat.blt p nt)=true)(C:args.length=ps.size)(bq:bP ycaps.length nt=true)
  (h:AW E nt (Cw (fun σ=>AW E nt (EndB E nt ycaps me me') [.code body] .normal σ) (fun _ _=>False)) [.code assign] .normal (zzi ps.toList args ycaps me))
  (l D:Nat) (fn:FuncId) (T:Array Value) (hT:T.size=nt):ConG E.P (some (l,.loop (recR fn T ps assign body D))) (fun vs cs w R=>cs=T->CalY E.P l vs cs w R) args ycaps me (.bool true) me':=by
 intro cx γ w vs cs hP aq av an ao c ag ax aa bg;subst bg;have S:=av _ rfl;obtain ⟨q0,q1,q2,q3⟩:=c.defers.yl l _ S;refine ⟨fn,_,assign,body,run_yield (P:=E.P) (args:=vs) q3 (by rw [ag,C]),roundIn_of_wpIn trivial ?_⟩;have ef:(ps.zip vs).foldl (fun (t:Array Value) (x:Tmp×Value)=>t.setIfInBounds x.1 x.2) cs=(ps.toList.zip vs.toList).foldl (fun t x=>t.setIfInBounds x.1 x.2) cs:=by
  rw [<-Array.foldl_toList,Array.toList_zip]
 obtain ⟨tm,M⟩:∃ tm,tm=(ps.toList.zip vs.toList).foldl (fun t x=>t.setIfInBounds x.1 x.2) cs:=⟨_,rfl⟩;have etm:(ps.zip vs).foldl (fun (t:Array Value) (x:Tmp×Value)=>t.setIfInBounds x.1 x.2) cs=tm:=by rw [ef,M]
 show assign.wpIn (Fence.wide.inRound l) 0 E.P _ { tmps:=(ps.zip vs).foldl (fun (t:Array Value) (x:Tmp×Value)=>t.setIfInBounds x.1 x.2) cs,defers:=[] } w;rw [etm];have U:∀ p∈ps.toList,E.np<=p/\p<nt:=fun p hp=>by
  have:=bB.1 az p hp;simpa using this
 let cxa:Cx:=⟨E,cx.S0,cx.w0,nt,fun b=>b<w.heap.size/\¬own γ b,w,some l,cs,fun h=>absurd (Y.symm.trans h) (by simp)⟩;have ay:StG cxa γ (zzi ps.toList args ycaps me) { tmps:=tm,defers:=[] } w:=by
  refine ⟨fun t=>?_,c.me,c.inj,c.ge,c.below,by rw [M];exact (zv9 _ _).trans hT,⟨fun _=>rfl,⟨[],rfl,.nil,fun r hr=>by cases hr⟩,fun t v=>?_,fun l R hl=>absurd (q.symm.trans hl) (by simp),aD _⟩,c.gh,fun b hb=>⟨hb.2,hb.1,rfl⟩,fun hd=>absurd (bc.symm.trans hd) (by simp)⟩
  ·rw [M];refine zzl ps.toList args vs.toList cs _ (fun t=>?_) (fun p hp=>by rw [hT];exact (U p hp).2) (by simpa using C) (by simp [ag,C]) (fun i hi=>?_) t
   ·rw [zmf];by_cases v:0<=t/\t<0+ycaps.length
    ·rw [dif_pos v];exact aa t (by omega)
    ·rw [dif_neg v];exact .any _
   ·have:=ax i hi
    rwa [aA,<-Array.getElem?_toList,<-aC] at this
  ·show tm.getD t undef=cs.getD t undef;rw [M];exact zox _ _ (fun x hx e=>by have:=(U x.1 (of_mem_zip hx).1).1;have bp:t<E.np:=v;omega)
 have hA:WP cxa assign (Cw (fun σ=>AW E nt (EndB E nt ycaps me me') [.code body] .normal σ) (fun _ _=>False)) (zzi ps.toList args ycaps me):=bC (h.out cxa rfl rfl) fun e σ hk=>by cases e<;>exact hk
 refine wpIn_mono (F:=Fence.wide.inRound l) (hA _ _ ⟨γ,ay⟩) (fun e a1 w1 ⟨ad,am,aj⟩=>?_);cases e with
 |normal =>
  obtain ⟨au,z⟩:=aj;obtain ⟨k1,k2,k3⟩:=z.fr l ⟨q1,q2⟩;have k4:w1.heap[l]? = some (.loop (recR fn cs ps assign body D)):=k3.trans q3;refine ⟨_,run_beginRound (P:=E.P) k4 rfl,?_⟩;have ak:=z.putObjW (o':=.loop { recR fn cs ps assign body D with state:=.busy }) k4 rfl q0 k1 (z.defers.d0 Y) q;generalize X:w1.putObj l (.loop { recR fn cs ps assign body D with state:=.busy })=W at ak ⊢;have hB:WP { cxa with w1:=W } body (EndB E nt ycaps me me') ad:=bC ((show AW E nt (EndB E nt ycaps me me') [.code body] .normal ad from am).out { cxa with w1:=W } rfl rfl) fun e σ hk=>by cases e<;>exact hk
  refine wpIn_mono (F:=Fence.wide.inRound l) (hB _ _ ⟨au,ak⟩) (fun O a2 G ⟨bi,al,ai⟩=>?_);cases O with
  |normal =>
   obtain ⟨τ,hl,B,ar⟩:=al;obtain ⟨ae,a⟩:=hl { cxa with w1:=W } rfl rfl a2 G ai;have bh:W.heap[l]? = some (.loop { recR fn cs ps assign body D with state:=.busy }):=by rw [<-X];exact World.putObj_heap_same k2
   obtain ⟨j1,j2,j3⟩:=a.fr l ⟨q1,q2⟩;have j4:G.heap[l]? = some (.loop { recR fn cs ps assign body D with state:=.busy }):=j3.trans bh;refine ⟨_,_,run_endRound (P:=E.P) none j4,?_⟩;have f:=a.putObjW (o':=.loop (recR fn cs ps assign body D)) j4 rfl q0 j1 (a.defers.d0 Y) q;show ∃ u γ',_/\_;have aw:G.putObj l (.loop { { recR fn cs ps assign body D with state:=.busy } with state:=if (none:Option Code).isNone=true then LoopState.ready else LoopState.done,pending:=none })=G.putObj l (.loop (recR fn cs ps assign body D)):=rfl;rw [aw];have Z:(G.putObj l (.loop (recR fn cs ps assign body D))).heap[l]? = some (.loop (recR fn cs ps assign body D)):=World.putObj_heap_same j2;generalize af:G.putObj l (.loop (recR fn cs ps assign body D))=w4 at f Z ⊢;have z1:w.heap.size<=w1.heap.size:=z.defers.sz;have z2:w1.heap.size=W.heap.size:=by rw [<-X,Cy]
   have z3:W.heap.size<=G.heap.size:=a.defers.sz;have z4:G.heap.size=w4.heap.size:=by rw [<-af,Cy]
   have ap:∀ b,¬own γ b->b<w.heap.size->w4.heap[b]? = w.heap[b]? /\ ¬own ae b:=fun b hb j=>by
    obtain ⟨m,p2,p3⟩:=z.fr b ⟨j,hb⟩;obtain ⟨H,Q,r3⟩:=a.fr b ⟨j,hb⟩;refine ⟨?_,H⟩;by_cases ab:b=l
    ·subst ab;exact Z.trans q3.symm
    ·have e1:w4.heap[b]? = G.heap[b]? := by rw [<-af];exact Cj ab
     have O:W.heap[b]? = w1.heap[b]? := by rw [<-X];exact Cj ab
     exact e1.trans (r3.trans (O.trans p3))
   refine ⟨.bool true,ae,rfl,⟨fun t=>.any _,fun i=>by have:=f.me i;unfold aE at this ⊢;rw [<-B];exact this,f.inj,f.ge,f.below,an.symm,⟨fun _=>rfl,⟨[],rfl,.nil,fun r hr=>by cases hr⟩,fun t v=>by rw [ao] at v;omega,fun l' R' N=>?_,bX c.defers.sz (by omega)⟩,f.gh,fun b hb=>?_,fun hd=>absurd (aq.symm.trans hd) (by simp)⟩,.bool _,by omega,fun i y=>?_,ap⟩
   ·rw [S] at N;injection N with N
    injection N with e1 O
    subst e1 O;exact ⟨q0,by omega,j1,Z⟩
   ·obtain ⟨m,p2,p3⟩:=c.fr b hb;obtain ⟨H,Q⟩:=ap b m p2;exact ⟨Q,by omega,H.trans p3⟩
   ·unfold Ho at y;split at y;rotate_left
    ·rename_i ty sz xs e hi he;obtain ⟨t,bn,bo,bj,v,e1,O,rfl⟩:=zxd ar hi he;obtain ⟨j,ac⟩:=List.getElem?_eq_some_iff.1 e1;have H:=aa t j;rw [ac] at H;have Q:=a.tm t;rw [O,a.defers.pin t v] at Q;have J:=c.me i;unfold aE at J;rw [hi] at J;obtain ⟨x,hx,J⟩:=J;have I:=a.me i;unfold aE at I;rw [B,he] at I;obtain ⟨x2,L,I⟩:=I;exact zva H Q hx L J I
    ·cases y
    rename_i ty es hi;have d:=bB.1 ar (i,.box ty es) (T6 hi);have d:=(bO _ _).mp d;rcases d with d|d
    ·cases d
    obtain ⟨t,v,ah⟩:=bA.1 d;rw [bM] at v;rw [aT] at ah;obtain ⟨b1,b2⟩:=ah;split at b1
    ·rename_i k hk;have e1:k=i:=aB b1;subst e1;split at b2
     ·rename_i k2 bm br bb ba;have O:k2=k:=aB b2;subst O;obtain ⟨j,ac⟩:=List.getElem?_eq_some_iff.1 hk;have H:=aa t j;rw [ac] at H;have Q:=a.tm t;rw [bb,a.defers.pin t v] at Q;have J:=c.me k2;unfold aE at J;rw [hi] at J;obtain ⟨x,hx,g,bl,bf,_⟩:=J;have I:=a.me k2;unfold aE at I;rw [B,ba] at I;obtain ⟨x2,L,g2,bk,bd,_⟩:=I;subst bf bd;have m:=H.ptr_inv hx;have p2:cs.getD t undef=_:=Q.ptr_inv L;rw [p2] at m;injection m with m
      injection m with m
      injection m with m
      rw [hx,L,m]
     ·cases b2
    ·cases b1
  |_=>exact al.elim
 |_=>exact am.elim
end Go.Proofs.YthbogefcfhmpgaaGreat
