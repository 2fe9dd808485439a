/- The abstract walk. -/
import Derived.Test.YtidhlpjgifoneaaGreatK13
set_option linter.unusedVariables false
set_option linter.unusedSimpArgs false
namespace Go.Proofs.YtidhlpjgifoneaaGreat
open Go.RowKit List
open List renaming getD_eq_getElem?_getD->aA,replicate->aG,mem_filterMap->aH,getElem_map->aL,getElem_set->aM,getElem?_eq_getElem->aN,getElem_replicate->aQ,getElem_cons_zero->aR,getElem?_set_self->aS,length_replicate->aU,length_map->aY
open Or renaming inr->aB,inl->aE
open Nat renaming le_refl->aC,beq->aJ,eq_of_beq_eq_true->aK,zero_add->aP,add_zero->aZ
open Gam renaming set_self->aD,set_ne->aF
def AV.leafId:AV->Option Nat |.row i=>some i |.ptr i _=>some i |.elt i _ _ _=>some i |.der _ i=>some i |.cont _ i=>some i |_=>none
def AV.rp0 (r:Nat)(src:AV->Bool)(tgt x:AV):AV:=match x.leafId with
 |some i=>match aJ i r with
  |true=>match src x with
   |true=>tgt
   |false=>.any
  |false=>x
 |none=>x
mutual
def AV.rp (r:Nat)(src:AV->Bool)(tgt:AV):AV->AV |.fn f cap=>.fn f (AV.rpL r src tgt cap) |.yld l T cap=>.yld l T (AV.rpL r src tgt cap) |.agg cs=>.agg (AV.rpL r src tgt cs) |.tup cs=>.tup (AV.rpL r src tgt cs) |x=>AV.rp0 r src tgt x
def AV.rpL (r:Nat)(src:AV->Bool)(tgt:AV):List AV->List AV |[]=>[] |x::l=>AV.rp r src tgt x::AV.rpL r src tgt l
end
section
variable {r:Nat} {src:AV->Bool} {tgt:AV}
theorem AV.rpL_length (l:List AV):(AV.rpL r src tgt l).length=l.length:=by
 induction l with
 |nil=>rfl
 |cons x l ih=>simp [AV.rpL,ih]
theorem AV.rpL_at (l:List AV)(i:Nat)(hi:i<l.length):(AV.rpL r src tgt l)[i]'(by rw [AV.rpL_length];exact hi)=AV.rp r src tgt l[i]:=by
 induction l generalizing i with
 |nil=>simp at hi
 |cons x l ih =>
  cases i with
  |zero=>rfl
  |succ i=>exact ih i (by simpa using hi)
theorem Rep.rp {w:World}{S:Nat->Prop}{γ γ':Gam}(d:∀ i x,i≠r->γ i=some x->γ' i=some x)(y:∀ x v,src x=true->x.leafId=some r->Rep w S γ x v->Rep w S γ' tgt v){av:AV}{v:Value}(h:Rep w S γ av v):Rep w S γ' (AV.rp r src tgt av) v:=by
 have leaf:∀ {x:AV} {v:Value} {i:Nat},x.leafId=some i->Rep w S γ x v->(∀ h:i≠r,Rep w S γ' x v)->Rep w S γ' (AV.rp0 r src tgt x) v:=fun {x v i} H h N=>by
  simp only [AV.rp0,H];cases q:aJ i r with
  |true =>
   have:=aK q;subst this;simp only;cases L:src x with
   |true=>exact y x v L H h
   |false=>exact .any _
  |false=>exact N (Nat.ne_of_beq_eq_false q)
 induction h with
 |any=>exact .any _
 |int=>exact .int _ _
 |bool=>exact .bool _
 |str=>exact .str _
 |nilp=>exact .nilp
 |nils=>exact .nils
 |nilf=>exact .nilf
 |@ptr γ id off v B h f=>exact leaf rfl (.ptr h f) (fun hi=>.ptr (d _ _ hi h) f)
 |@elt γ id sz k j v B h f=>exact leaf rfl (.elt h f) (fun hi=>.elt (d _ _ hi h) f)
 |@der γ U id v B h f=>exact leaf rfl (.der h f) (fun hi=>.der (d _ _ hi h) f)
 |@row γ id v B h f=>exact leaf rfl (.row h f) (fun hi=>.row (d _ _ hi h) f)
 |mapv C M g es clock q G Q P p O f J I=>exact .mapv C M g es clock q G Q P p O f
 |mapn=>exact .mapn
 |slen A n c=>exact .slen A n c
 |@cont γ n id v B h f p=>exact leaf rfl (.cont h f p) (fun hi=>.cont (d _ _ hi h) f p)
 |sl A c cell D z q u h1 ih=>exact .sl A c cell D z q u h1
 |ref b off cell G q D u h1 ih=>exact .ref b off cell G q D u h1
 |fn vs p t ih =>
  exact .fn vs (by rw [p,AV.rpL_length]) (fun i m=>by
   have a:=m;rw [AV.rpL_length] at a;rw [AV.rpL_at _ i a];exact ih i a d y leaf)
 |yld t ih =>
  exact .yld (fun i m=>by
   have a:=m;rw [AV.rpL_length] at a;rw [AV.rpL_at _ i a];exact ih i a d y leaf)
 |agg vs p t h1 ih =>
  exact .agg vs (by rw [p,AV.rpL_length]) (fun i m=>by
   have a:=m;rw [AV.rpL_length] at a;rw [AV.rpL_at _ i a];exact ih i a d y leaf) h1
 |tup vs p t ih =>
  exact .tup vs (by rw [p,AV.rpL_length]) (fun i m=>by
   have a:=m;rw [AV.rpL_length] at a;rw [AV.rpL_at _ i a];exact ih i a d y leaf)
end
def Ent.rp (r:Nat)(src:AV->Bool)(tgt:AV):Ent->Ent |.box ty cs=>.box ty (AV.rpL r src tgt cs) |e=>e
def AS.rpAll (σ:AS)(r:Nat)(src:AV->Bool)(tgt:AV)(e:Ent):AS:=⟨σ.tm.map fun p=>(p.1,AV.rp r src tgt p.2),(r,e)::σ.me.map fun p=>(p.1,p.2.rp r src tgt)⟩
variable {σ:AS}
theorem LeX.rpAll {E:Env}{nt:Nat}(r:Nat)(src:AV->Bool)(tgt:AV)(e B:Ent)(U:σ.find r=some e)(L:∀ ty cs,B≠.box ty cs)
  (H:∀ (cx:Cx) (γ:Gam) (a:Act) (w:World) (d:Option (Option Nat×Value)),StG cx γ σ a w->γ r=some d->Bq w (Sg cx.S0 cx.w0.heap.size γ) γ cx.w0.heap.size d e->∃ p,(∀ b,b∈blks p->b∈blks d)/\∀ S':Nat->Prop,(∀ b,Sg cx.S0 cx.w0.heap.size γ b->S' b)->(∀ b,b∈blks d->b ∉ blks p->S' b) ->
    Bq w S' G0 cx.w0.heap.size p B/\∀ γ' x v,γ' r=some p->src x=true->x.leafId=some r->Rep w S' γ x v->Rep w S' γ' tgt v):LeX E nt σ (σ.rpAll r src tgt B):=fun cx hE hn a w ⟨γ,h⟩=>by
 have I:=h.me r;rw [U] at I;obtain ⟨d,G,D⟩:=I;obtain ⟨p,q,H⟩:=H cx γ a w d h G D;have m:∀ b,own (γ.set r p) b->own γ b:=fun b ⟨i,s,hi,hm⟩=>by
  by_cases c:i=r
  ·subst c;rw [aD] at hi;injection hi with hi;subst hi;exact ⟨_,_,G,q b hm⟩
  ·rw [aF _ _ _ c] at hi;exact ⟨i,s,hi,hm⟩
 have N:∀ b,Sg cx.S0 cx.w0.heap.size γ b->Sg cx.S0 cx.w0.heap.size (γ.set r p) b:=fun b f=>f.elim aE (fun ⟨h1,O⟩=>aB ⟨h1,fun J=>O (m b J)⟩)
 obtain ⟨H1,H2⟩:=H (Sg cx.S0 cx.w0.heap.size (γ.set r p)) N (fun b f M=>aB ⟨(h.ge b ⟨_,_,G,f⟩).1,fun ⟨i,s,hi,hm⟩=>by
  by_cases c:i=r
  ·subst c;rw [aD] at hi;injection hi with hi;subst hi;exact M hm
  ·rw [aF _ _ _ c] at hi;exact c (h.inj _ _ _ _ _ hi G hm f)⟩)
 have mv:∀ {av v},Rep w (Sg cx.S0 cx.w0.heap.size γ) γ av v->Rep w (Sg cx.S0 cx.w0.heap.size (γ.set r p)) (γ.set r p) (AV.rp r src tgt av) v:=fun Q =>
  (Q.mono (aC _) (fun b f _=>⟨rfl,N b f⟩)).rp (src:=src) (fun i x hi C=>by rw [aF _ _ _ hi];exact C) (fun x v S W C=>H2 _ x v (aD _ _ _) S W C)
 refine ⟨γ.set r p,fun u=>?_,fun i=>?_,fun i j b s s' hi y mi mj=>?_,fun b f=>h.ge b (m b f),h.below,h.size,h.defers.gam m,h.gh,fun b f=>by obtain ⟨f2,f3,f4⟩:=h.fr b f;exact ⟨fun J=>f2 (m b J),f3,f4⟩,h.dr⟩
 ·have e:(σ.rpAll r src tgt B).get u=AV.rp r src tgt (σ.get u):=zya _ rfl _ _;rw [e];exact mv (h.tm u)
 ·by_cases hi:r=i
  ·subst hi;have e:(σ.rpAll r src tgt B).find r=some B:=by simp [AS.rpAll,AS.find,lkE]
   rw [e];exact ⟨p,aD _ _ _,H1.free L⟩
  ·have e:(σ.rpAll r src tgt B).find i=(σ.find i).map (Ent.rp r src tgt):=by
    unfold AS.rpAll AS.find;simp only [lkE];cases f:aJ r i with
    |true=>exact absurd (aK f) hi
    |false=>exact zye _ _ _
   rw [e,aF _ _ _ (Ne.symm hi)];have:=h.me i;cases P:σ.find i with
   |none=>rw [P] at this;exact this
   |some en =>
    rw [P] at this;obtain ⟨x,C,D⟩:=this;have heq:∀ en:Ent,(∀ ty cs,en≠.box ty cs)->Bq w (Sg cx.S0 cx.w0.heap.size γ) γ cx.w0.heap.size x en->Bq w (Sg cx.S0 cx.w0.heap.size (γ.set r p)) (γ.set r p) cx.w0.heap.size x en:=fun en f D =>
     (D.move (γ':=γ) (aC _) (fun b f _=>⟨rfl,N b f⟩) (fun id d h=>aE h) (fun _ _=>rfl)).free f
    cases en with
    |box ty cs =>
     obtain ⟨g,vs,h1,O,Z,Y,X⟩:=D;exact ⟨x,C,g,vs,h1,O,by rw [Z,AV.rpL_length],fun i hi=>by
      have z:=hi;rw [AV.rpL_length] at z;rw [AV.rpL_at _ i z];exact mv (Y i z),X⟩
    |_=>exact ⟨x,C,heq _ (fun ty cs h=>by cases h) D⟩
 ·by_cases c:i=r
  ·by_cases t:j=r
   ·rw [c,t]
   ·subst c;rw [aD] at hi;injection hi with hi
    subst hi;rw [aF _ _ _ t] at y;exact h.inj _ _ _ _ _ G y (q b mi) mj
  ·rw [aF _ _ _ c] at hi;by_cases t:j=r
   ·subst t;rw [aD] at y;injection y with y
    subst y;exact h.inj _ _ _ _ _ hi G mi (q b mj)
   ·rw [aF _ _ _ t] at y;exact h.inj _ _ _ _ _ hi y mi mj
open Go.RowKit
section
variable {α β κ ν:Type}
def nle (n:Int)(len:Nat)(k:Nat->Option β):Option β:=if 0<=n/\n.toNat<=len then k n.toNat else none
def gle (a b:Nat)(x:Option β):Option β:=if a<=b then x else none
def clr (l:List α)(lo:Nat)(z:α)(k:List α->Option β):Option β:=if lo<=l.length then k (clrL l lo z) else none
def encN (ek:κ->AV)(er:ν->AV)(ty sz:Nat)(p:κ×List ν):AV×NE:=(ek p.1,.row ty sz (p.2.map er))
end
section
variable {α β κ ν:Type} {E:Env} {nt:Nat} {o:Oper} {σ:AS} {K:OpK}
variable {k:Nat->Option β}{r:β}{T id e esz eb ty:Nat}{x:Operand}{i:TyI}{xs:List AV}
theorem OpX.sub {n:Int}{y:Operand}{kd:IntKind}(a:nle n xs.length k=some r)(q:o.op=.slice T x (some y) none none)(w:dokN E nt o.dst=true)(c:A7 x=true)(b:A7 y=true)(j:σ.eval x=.row id)(h:σ.eval y=.int kd n)
  (z:lkT E.tab T=some i) (p:i.shape=.slc e esz eb) (g:aJ esz 0=false) (u:σ.find id=some (.row ty esz xs)) (v:∀ m,k m=some r->K (.der (.sub esz m) id) [id] []):OpX E nt o σ K:=by
 unfold nle at a;split at a
 ·rename_i t;exact .mk _ _ _ (fun cx f d=>zpg (lo:=n.toNat) q (Am w f d) c b j (by rw [h];congr 1;omega) (by rw [f];exact z) p (nbne g) u t.2) (v _ a)
 ·cases a
variable {lo:Nat}
theorem OpX.lns {c:Option β}{sz:Nat}(a:gle lo xs.length c=some r)(m:o.op=.call { callee:=.builtin .len,args:=#[x],argTypes:=#[T] })(t:dokN E nt o.dst=true)(b:A7 x=true)(h:σ.eval x=.der (.sub sz lo) id)(p:σ.find id=some (.row ty sz xs))(u:lkT E.tab T=some i)(j:i.shape=.slc e esz eb)
  (q:c=some r->K (.int .i64 ((xs.length-lo:Nat):Int)) [id] []):OpX E nt o σ K:=by
 unfold gle at a;split at a
 ·rename_i f;exact .mk _ _ _ (fun cx g d=>zwk m (Am t g d) b h p (by rw [g];exact u) j f) (q a)
 ·cases a
theorem OpX.ixs {n:Int}{sz:Nat}{y:Operand}{kd:IntKind}(z:nat n (xs.length-lo) k=some r)(p:o.op=.indexAddr T x y)(v:dokN E nt o.dst=true)(b:A7 x=true)(a:A7 y=true)(h:σ.eval x=.der (.sub sz lo) id)(g:σ.eval y=.int kd n)
  (t:σ.find id=some (.row ty sz xs)) (w:lkT E.tab T=some i) (j:i.shape=.slc e sz eb) (f:aJ sz 0=false) (u:∀ m,k m=some r->K (.elt id sz (lo+m) 0) [id] []):OpX E nt o σ K:=by
 have:=NatX.o (K:=fun m=>lo+m<xs.length->K (.elt id sz (lo+m) 0) [id] []) z (fun m hm _=>u m hm);cases this with
 |mk m q hm k=>exact .mk _ _ _ (fun cx d c=>zdm p (Am v d c) b a h g t (by rw [d];exact w) j (nbne f) q (by omega)) (k (by omega))
theorem OpX.clr (enc:α->AV){l:List α}{z:α}{k:List α->Option β}{ie:TyI}(c:Proofs.YtidhlpjgifoneaaGreat.clr l lo z k=some r)(u:o.op=.call { callee:=.builtin .clear,args:=#[x],argTypes:=#[T] })(B:dokN E nt o.dst=true)(f:A7 x=true)(q:σ.eval x=.der (.sub esz lo) id)(v:σ.find id=some (.row e esz (l.map enc)))
  (C:lkT E.tab T=some i) (t:i.shape=.slc e esz eb) (y:lkT E.tab e=some ie) (p:aJ esz 0=false) (d:Jy ie=true) (b:D0 ie.zero.cells.toList=true) (a:SubL (D8 ie).cells (enc z).cells) (w:∀ m,k m=some r->K (.tup []) [id] [(id,.row e esz (m.map enc))]):OpX E nt o σ K:=by
 unfold Proofs.YtidhlpjgifoneaaGreat.clr at c;split at c
 ·rename_i h;refine .mk _ _ _ (fun cx j g=>?_) (w _ c);have h1:=zps (cx:=cx) u (Am B j g) f q v (by rw [j];exact C) t (by rw [j];exact y) (nbne p) d (Fb b) (by rw [aY];exact h);refine h1.weak (.cons _ (.row _ _ ?_) .nil);rw [<-y2b];unfold clrL;exact (SubR.refl _).append (.replicate a _)
 ·cases c
variable [DecidableEq κ]
omit [DecidableEq κ] in
end
variable {n:Nat}
theorem Born.idx {es:Array MapEntry}(h:∀ j (h:j<es.toList.length),(es.toList[j]).born=j)(b:es.size=n):Born es n:=by
 have e:es.toList.map (·.born)=range n:=by
  apply ext_getElem
  ·simp [b]
  ·intro i c d;simp only [aL,getElem_range];exact h i (by simpa using c)
 refine ⟨by rw [e];exact nodup_range,fun x a=>?_⟩;have:x.born∈es.toList.map (·.born):=mem_map.2 ⟨x,a,rfl⟩;rw [e] at this;exact mem_range.1 this
section
variable {α β κ ν:Type} {E:Env} {nt:Nat}
variable {R:Exit->AS->Prop} {K:List Bt}
end
attribute [irreducible] nle gle clr    
open Go.RowKit
def idA (a:AV):AV:=a
theorem T9 (l:List AV):List.map idA l=l:=by induction l with
 |nil=>rfl
 |cons x l ih=>rw [map_cons,ih];rfl
section
variable {α β:Type}
def idxD (d:AV->Option α)(l:List AV)(n:Int)(k:α->Option β):Option β:=if 0<=n then (match l[n.toNat]? with|some a=>(match d a with|some y=>k y|none=>none)|none=>none) else none
theorem IdxX.oD {enc:α->AV}{d:AV->Option α}{l:List AV}{n:Int}{K:AV->Prop}{k:α->Option β}{r:β}(h:idxD d l n k=some r)(f:∀ a y,d a=some y->a=enc y)(c:∀ y,k y=some r->K (enc y)):IdxX (l.map idA) n K:=by
 unfold idxD at h;split at h
 ·rename_i j;split at h
  ·rename_i a g;split at h
   ·rename_i y b;refine .mk n.toNat (enc y) (by omega) ?_ (c y h);rw [T9,g,f a y b]
   ·cases h
  ·cases h
 ·cases h
end
section
variable {α β V:Type} {E:Env} {nt:Nat} {R:Exit->AS->Prop} {K:List Bt}
def jon (F:V->Option β)(x:Option β):Option β:=x
variable {A:Code}
theorem AW.meet1 {J:AS->Prop}(h1:AW E nt (Cu J (AW E nt R K)) [.code A] .normal σ)(f:∀ τ,J τ->AW E nt R K .normal τ):AW E nt R (.code A::K) .normal σ :=
 ⟨fun cx b a=>WP.mono (h1.out cx b a) (fun e d c=>by cases e<;>first|exact (f _ c).out cx b a|exact AW.out c cx b a)⟩
theorem AW.meet2 {J:AS->Prop}{B:Code}(h1:AW E nt (Cu J (AW E nt R K)) [.code A,.code B] .normal σ)(g:∀ τ,J τ->AW E nt R K .normal τ):AW E nt R (.code A::.code B::K) .normal σ :=
 ⟨fun cx c b=>WP.mono (h1.out cx c b) (fun e f a=>by
  cases e with
  |normal=>exact WP.mono a (fun e d a=>by cases e<;>first|exact (g _ a).out cx c b|exact AW.out a cx c b)
  |_=>exact AW.out a cx c b)⟩
variable {F:V->Option β}
theorem AW.joinO1 {S:V->AS}{x:Option β}{r:β}{C:Code}(h:jon F x=some r)(h1:x=some r->AW E nt (Cu (fun a=>∃ v,F v=some r/\LeX E nt a (S v)) (AW E nt R (.code C::K))) [.code A] .normal σ)(d:∀ v,F v=some r->AW E nt R (.code C::K) .normal (S v)):AW E nt R (.code A::.code C::K) .normal σ :=
 AW.meet1 (h1 h) (fun τ ⟨v,b,c⟩=>AW.weaken c (d v b))
theorem AW.joinO2 {S:V->AS}{x:Option β}{r:β}{B C:Code}(h:jon F x=some r)(h1:x=some r->AW E nt (Cu (fun a=>∃ v,F v=some r/\LeX E nt a (S v)) (AW E nt R (.code C::K))) [.code A,.code B] .normal σ)(d:∀ v,F v=some r->AW E nt R (.code C::K) .normal (S v)):AW E nt R (.code A::.code B::.code C::K) .normal σ :=
 AW.meet2 (h1 h) (fun τ ⟨v,b,c⟩=>AW.weaken c (d v b))
theorem Ay (F:V->Option β)(x:Option β):jon F x=x:=rfl
end
section
variable {β:Type}
def natc (n:Int)(k:Nat)(x y:Option β):Option β:=if n=(k:Int) then x else y
theorem NatX.oS {n:Int}{len:Nat}{K:Nat->Prop}{k:Nat}{x y:Option β}{r:β}(h:natc n k x y=some r)(a:Nat.blt k len=true)(b:x=some r->K k)(h1:y=some r->NatX n len K):NatX n len K:=by
 unfold natc at h;split at h
 ·rename_i e;exact .mk k e (Nat.le_of_ble_eq_true a) (b h)
 ·exact h1 h
theorem Oa (n:Int)(k:Nat)(x y:Option β):natc n k x y=if n=(k:Int) then x else y:=rfl
end
attribute [irreducible] idxD jon natc
open Go.RowKit
def Ew:AV->Bool |.row _=>true |_=>false
def nstV (s:Value)(vs:Array Value):Option (Option Nat×Value):=some (none,.tuple (#[s]++vs))
variable {s:Value}{vs:Array Value}
theorem mem_nstV {b:Nat}:b∈blks (nstV s vs) ↔ B3 s=some b\/∃ j,B3 (vs.getD j undef)=some b:=by
 simp only [nstV,blks,Option.toList_none,nil_append,Cs,Array.toList_append,filterMap_append,mem_append];constructor
 ·rintro (h|h)
  ·left;obtain ⟨v,c,f⟩:=aH.1 h;have:v=s:=by simpa using c
   rw [<-this];exact f
  ·right;obtain ⟨v,c,f⟩:=aH.1 h;obtain ⟨j,a,rfl⟩:=mem_iff_getElem.1 c;have d:j<vs.size:=by simpa using a
   exact ⟨j,by simpa [Array.getD,d] using f⟩
 ·rintro (h|⟨j,h⟩)
  ·left;exact aH.2 ⟨s,by simp,h⟩
  ·right;by_cases a:j<vs.size
   ·exact aH.2 ⟨vs[j],by simp,by simpa [Array.getD,a] using h⟩
   ·simp [Array.getD,a,undef,B3] at h
variable {id:Nat}{vs':Array Value}
theorem zxy {γ:Gam}(h:γ id=some (nstV s vs')):Turn γ id (nstV s vs) :=
 ⟨_,_,rfl,h,rfl,rfl,fun b a=>by cases b<;>first|(cases a;done)|exact ⟨rfl,by simp only [Dv.of,con0]⟩⟩
section
variable {E:Env} {nt:Nat}
theorem LeX.nst (r ety sz:Nat){ty m:Nat}(Z:σ.find r=some (.row ty 1 (aG m .nils))):LeX E nt σ (σ.rpAll r Ew (.cont m r) (.nest ty (aG m (.row ety sz [])))):=by
 refine LeX.rpAll r Ew (.cont m r) _ _ Z (fun ty cs h=>by cases h) (fun cx γ a w d Y hd he=>?_);obtain ⟨s,us,P,D,c,U,N,G⟩:=he;subst P;obtain ⟨I,H⟩:=Ea c;rw [aU] at c;have M:us.length=m:=by have:=c.1;omega
 have p:∀ k,k<m->us.getD k undef=.slice none 0 0:=fun k f=>by
  have:=N k (by simpa using f) 0 (by simp [AV.cells]);simp only [aQ,AV.cells,aR,Nat.mul_one,aZ] at this;exact this.nils_inv
 have y:∀ k,us.toArray.getD k undef=us.getD k undef:=fun k=>by simp [Array.getD_eq_getD_getElem?,aA]
 have t:∀ k b,B3 (us.toArray.getD k undef)≠some b:=fun k b z=>by
  rw [y] at z;by_cases f:k<m
  ·rw [p k f] at z;simp [B3] at z
  ·rw [aA,getElem?_eq_none (by omega)] at z;simp [undef,B3] at z
 refine ⟨nstV s us.toArray,fun b z=>?_,fun S' hS aa=>⟨⟨s,us.toArray,rfl,D,by simp [M],⟨us,by rw [aU];exact c,G,fun k f _=>(y k).symm⟩,fun k f=>?_,fun i j b hi=>absurd hi (t i b),fun i b _=>t i b⟩,fun γ' x v B C S W=>?_⟩⟩
 ·rcases mem_nstV.1 z with h|⟨j,h⟩
  ·exact (Em I H).2 h
  ·exact absurd h (t j b)
 ·have O:k<m:=by simpa using f
  rw [aQ,y,p k O];exact ⟨rfl,[],World.ownsRow_nil _ _ _ _,fun k f=>absurd f (by simp),fun k f=>absurd f (by simp),fun u X=>by cases X⟩
 ·have J:x=.row r:=by
   cases x with
   |row i=>simp only [AV.leafId,Option.some.injEq] at S;rw [S]
   |_=>simp [Ew] at C
  subst J;have L:v=s:=W.row_inv hd (Fc D);subst L;refine .cont B (fun g s' e=>?_) ?_
  ·injection e with e
   injection e with _ e
   subst e;simp only [Dv.of,con0]
  ·rcases c.2 with ⟨q,h0⟩|⟨g,Q,ab,q,_⟩
   ·exact ⟨none,0,by rw [q,h0],fun h=>by omega⟩
   ·exact ⟨_,Q,q,fun _=>⟨g,0,rfl⟩⟩
end
section
variable {cx:Cx} {o:Oper} {σ:AS}
variable {T:Nat}{x:Operand}{i:TyI}
theorem zum {e esz eb:Nat}(g:o.op=.call { callee:=.builtin .len,args:=#[x],argTypes:=#[T] })(u:dok cx o=true)(d:A7 x=true)(j:σ.eval x=.cont n id)(v:lkT cx.E.tab T=some i)(p:i.shape=.slc e esz eb):Aj cx o σ (.int .i64 (n:Int)) [] [] :=
 B8 u fun τ γ a w h1 z f=>by
  have b:=f.ev x d;rw [h1 x (by simp [g,Op.operands,Call.operands]),j] at b;obtain ⟨m,_,_⟩:=Cn (cx.E.ok T i v) p;cases b with
  |cont h y t =>
   obtain ⟨A,c,q,_⟩:=t;exact ⟨.int .i64 (n:Int),by simp [execOp,g,resolve,invoke,builtin,Builtin.len_,q,run_underlying m,goInt,pure],.int _ _⟩
theorem zck {e eb m:Nat}{y:Operand}{k:IntKind}(t:o.op=.indexAddr T x y)(I:dok cx o=true)(q:A7 x=true)(p:A7 y=true)(B:σ.eval x=.cont n id)(z:σ.eval y=.int k (m:Int))(J:lkT cx.E.tab T=some i)(G:i.shape=.slc e 1 eb)(hm:m<n):Aj cx o σ (.der (.nelt m) id) [] [] :=
 B8 I fun τ γ a w h1 M f=>by
  have j:=f.ev x q;rw [h1 x (by simp [t,Op.operands]),B] at j;have d:=f.ev y p;rw [h1 y (by simp [t,Op.operands]),z] at d;obtain ⟨D,u,_⟩:=Cn (cx.E.ok T i J) G;cases j with
  |cont h C H =>
   obtain ⟨A,c,v,L⟩:=H;obtain ⟨b,off,rfl⟩:=L (by omega);refine ⟨.pointer (some ⟨b,off+m,none⟩),?_,.der h (fun g s e=>⟨by cases s<;>rfl,?_⟩)⟩
   ·simp [execOp,t,v,d.int_inv,Instr.indexAt,asIntOf,run_underlying D,Du u (by omega:(1:Nat)≠0),hm,pure,Addr.add_lit]
   ·have:=C g s e;rw [v] at this;cases s with
    |tuple vs =>
     simp only [Dv.of] at this ⊢;rw [<-this]
    |agg vs =>
     simp only [Dv.of] at this ⊢;rw [<-this]
    |_=>simp [Dv.of,undef] at this
variable {ty:Nat}
theorem zt3 {γ γ':Gam}{τ:AS}{a:Act}{w w':World}{dst:Option Nat}{q:Nat}{qs:List NE}{e:Ent}{av:AV}{v:Value}(t:StG cx γ τ a w)(hd:∀ x,dst=some x->cx.E.np<=x/\x<cx.nt)(P:id≠q)(H:γ id=some (nstV s vs))(B:γ' id=some (nstV s vs'))(c:∀ i,i≠id->i≠q->γ' i=γ i)
  (hq:∀ x,γ q=some x->γ' q=some none) (y:∀ b,own γ' b ↔ own γ b) (z:∀ b d,γ' q=some d->b∈blks d->b ∉ blks (nstV s vs')/\(∀ i p,i≠id->i≠q->γ i=some p->b ∉ blks p)) (N:∀ i p b,i≠id->i≠q->γ i=some p->b∈blks p->b ∉ blks (nstV s vs'))
  (M:w.heap.size<=w'.heap.size) (G:∀ k,B3 s≠some k->w'.heap[k]? = w.heap[k]?) (Q:Below cx.w0.heap.size w w') (Y:w.drawn<=w'.drawn)
  (hn:(∀ b,Sg cx.S0 cx.w0.heap.size γ b->b<w.heap.size->w'.heap[b]? = w.heap[b]? /\ Sg cx.S0 cx.w0.heap.size γ' b)->Bq w' (Sg cx.S0 cx.w0.heap.size γ') γ' cx.w0.heap.size (nstV s vs') (.nest ty qs))
  (he:(∀ b,Sg cx.S0 cx.w0.heap.size γ b->b<w.heap.size->w'.heap[b]? = w.heap[b]? /\ Sg cx.S0 cx.w0.heap.size γ' b)->∃ x,γ' q=some x/\Bq w' (Sg cx.S0 cx.w0.heap.size γ') γ' cx.w0.heap.size x e)
  (hv:Rep w' (Sg cx.S0 cx.w0.heap.size γ') γ' av v):St cx (τ.upd dst av [(id,.nest ty qs),(q,e)]) (a.put dst v) w':=by
 have u:∀ b,B3 s=some b->own γ b:=fun b S=>⟨id,_,H,mem_nstV.2 (aE S)⟩
 have W:∀ b,Sg cx.S0 cx.w0.heap.size γ b->B3 s≠some b:=fun b U e=>by
  have J:=u b e;rcases U with ⟨_,h⟩|⟨_,h⟩
  ·have:=(t.ge b J).1.1;omega
  ·exact h J
 have Z:∀ b,Sg cx.S0 cx.w0.heap.size γ b->Sg cx.S0 cx.w0.heap.size γ' b:=fun b S=>S.elim aE (fun ⟨h1,g⟩=>aB ⟨h1,fun J=>g ((y b).1 J)⟩)
 have X:∀ b,Sg cx.S0 cx.w0.heap.size γ b->b<w.heap.size->w'.heap[b]? = w.heap[b]? /\ Sg cx.S0 cx.w0.heap.size γ' b:=fun b U _=>⟨G b (W b U),Z b U⟩
 refine ⟨γ',t.step hd M X (fun i x I=>?_) (fun i hi=>?_) (fun i e0 hi=>?_) (fun i j b d p hi f m D=>?_) (fun b S=>?_) (t.below.trans Q) hv (fun b O _=>⟨G b (fun e=>O (u b e)),fun J=>O ((y b).1 J)⟩) (fun _=>Y)⟩
 ·by_cases h1:i=id
  ·subst h1;rw [H] at I;injection I with I;subst I;exact aB (aB (zxy B))
  ·by_cases g:i=q
   ·subst g;exact aB (aE (hq x I))
   ·exact aE ((c i h1 g).trans I)
 ·rw [Zj P] at hi;by_cases h1:i=id
  ·rw [if_pos h1] at hi;cases hi
  ·rw [if_neg h1] at hi;by_cases g:i=q
   ·rw [if_pos g] at hi;cases hi
   ·exact ⟨c i h1 g,fun b d hi hm=>G b (fun e=>h1 (t.inj _ _ _ _ _ hi H hm (mem_nstV.2 (aE e))))⟩
 ·rw [Zj P] at hi;by_cases h1:i=id
  ·subst h1;rw [if_pos rfl] at hi;injection hi with hi
   subst hi;exact ⟨_,B,hn X⟩
  ·rw [if_neg h1] at hi;by_cases g:i=q
   ·subst g;rw [if_pos rfl] at hi;injection hi with hi
    subst hi;exact he X
   ·rw [if_neg g] at hi;cases hi
 ·have sym:∀ i j d p,γ' i=some d->γ' j=some p->b∈blks d->b∈blks p->i=id->i=j:=fun i j d p hi f m D h1=>by
   subst h1;rw [B] at hi;injection hi with hi
   subst hi;by_cases g:j=i
   ·exact g.symm
   ·by_cases C:j=q
    ·subst C;exact absurd m (z b p f D).1
    ·rw [c j g C] at f;exact absurd m (N j p b g C f D)
  by_cases h1:i=id
  ·exact sym i j d p hi f m D h1
  ·by_cases g:j=id
   ·exact (sym j i p d f hi D m g).symm
   ·by_cases C:i=q
    ·by_cases L:j=q
     ·rw [C,L]
     ·subst C;rw [c j g L] at f;exact absurd D ((z b d hi m).2 j p g L f)
    ·by_cases L:j=q
     ·subst L;rw [c i h1 C] at hi;exact absurd m ((z b p f D).2 i d h1 C hi)
     ·rw [c i h1 C] at hi;rw [c j g L] at f;exact t.inj _ _ _ _ _ hi f m D
 ·have:=t.ge b ((y b).1 S);exact ⟨this.1,Nat.lt_of_lt_of_le this.2 M⟩
variable {es:List NE}
theorem zt5 {γ:Gam}{τ:AS}{a:Act}{w:World}(c:StG cx γ τ a w)(h:τ.find id=some (.nest ty es)) :
  ∃ s vs us,γ id=some (nstV s vs)/\s.oneCell'=true/\vs.size=es.length/\w.ownsRow cx.w0.heap.size ty 1 s es.length us/\(∀ u∈us,u.oneCell'=true)/\(∀ k (j:k<es.length),es[k]≠.hole->us.getD k undef=vs.getD k undef)/\(∀ k (j:k<es.length),NRep w (Sg cx.S0 cx.w0.heap.size γ) cx.w0.heap.size (vs.getD k undef) es[k])/\DisB (B3 s) vs:=by
 have b:=c.me id;rw [h] at b;obtain ⟨d,g,s,vs,f,h1,y,⟨us,v,t,q⟩,p,m⟩:=b;subst f;exact ⟨s,vs,us,g,h1,y,v,t,q,p,m⟩
theorem zpm {d k ety sz:Nat}{xs:List AV}(ho:o.op=.load T x)(ak:o.dst=some d)(hd:dok cx o=true)(ad:A7 x=true)(y:σ.eval x=.der (.nelt k) id)(hT:lkT cx.E.tab T=some i)(ha:i.shape.agg=false)(hl:σ.find id=some (.nest ty es))(he:es[k]? = some (.row ety sz xs))(hn:σ.find d=none)(ab:id≠d) :
  Aj cx o σ (.row d) [id,d] [(id,.nest ty (es.set k .hole)),(d,.row ety sz xs)]:=by
 refine ⟨fun i e he=>zj4 he,fun τ h1 u a w Q K ⟨γ,t⟩ hK=>C5 (fun c X=>by rw [ho] at X;cases X) ?_⟩;have ex:=t.ev x ad;rw [h1 x (by simp [ho,Op.operands]),y] at ex;obtain ⟨s,vs,us,I,ag,ae,v,Z,Y,aa,C⟩:=zt5 t (by rw [u id (by simp)];exact hl);obtain ⟨hk,ac⟩:=List.getElem?_eq_some_iff.1 he;have G:γ d=none:=by have:=t.me d;rw [u d (by simp),hn] at this;exact this
 have N:=aa k hk;rw [ac] at N;obtain ⟨us1,ah⟩:=y1i N;obtain ⟨L,J⟩:=Ea ah;have aj:(execOp a.eval o).run cx.P w=.ok (.value (vs.getD k undef)) w:=by
  have M:=v;rcases v.2 with ⟨_,h0⟩|⟨g,am,al,af,_,W,_⟩
  ·omega
  ·subst af;have hv:a.eval x=.pointer (some ⟨g,0+k,none⟩):=by rw [ex.der_inv I];simp only [Dv.of,con0]
   have X:=Hp M rfl k (by omega);have H:=N8 (cx.E.ok T i hT) ha w ⟨g,0+k,none⟩ (us.getD k undef) (by rw [aP];exact X);rw [Y k hk (by rw [ac];simp)] at H;simp only [execOp,ho,hv,Instr.loadAt,Instr.sureAddr,Sem.run_bind,Sem.run_pure,Result.andThen_ok,H]
 unfold Oper.wp;rw [aj];have ai:k<vs.size:=by omega
 have B:∀ i,(vs.setIfInBounds k .nilFunc).getD i undef=if i=k then .nilFunc else vs.getD i undef:=fun i=>znc _ _ _ _ ai
 have p:∀ i b,B3 ((vs.setIfInBounds k .nilFunc).getD i undef)=some b->i≠k/\B3 (vs.getD i undef)=some b:=fun i b h=>by
  rw [B] at h;by_cases h':i=k
  ·rw [if_pos h'] at h;simp [B3] at h
  ·rw [if_neg h'] at h;exact ⟨h',h⟩
 let γ':Gam:=fun i=>if i=id then some (nstV s (vs.setIfInBounds k .nilFunc)) else if i=d then some (some ((vs.getD k undef).ownBlock,vs.getD k undef)) else γ i
 have g1:γ' id=some (nstV s (vs.setIfInBounds k .nilFunc)):=if_pos rfl;have g2:γ' d=some (some ((vs.getD k undef).ownBlock,vs.getD k undef)):=by show (if d=id then _ else if d=d then _ else _)=_;rw [if_neg (Ne.symm ab),if_pos rfl]
 have g3:∀ i,i≠id->i≠d->γ' i=γ i:=fun i h1 u=>by show (if i=id then _ else if i=d then _ else _)=_;rw [if_neg h1,if_neg u]
 have bl:∀ i U b,i≠id->γ i=some U->b∈blks U->B3 s≠some b/\∀ j,B3 (vs.getD j undef)≠some b:=fun i U b hi D f =>
  ⟨fun e=>hi (t.inj _ _ _ _ _ D I f (mem_nstV.2 (aE e))),fun j z=>hi (t.inj _ _ _ _ _ D I f (mem_nstV.2 (aB ⟨j,z⟩)))⟩
 refine hK _ _ (zt3 (γ':=γ') (q:=d) (w':=w) t (C0 hd) ab I g1 g3 (fun x y=>by rw [G] at y;cases y) (fun b=>⟨fun ⟨i,x,hi,f⟩=>?_,fun ⟨i,x,hi,f⟩=>?_⟩) (fun b x y f=>?_) (fun i U b h1 u hi f X=>?_) (aC _) (fun _ _=>rfl) (Below.refl _ _) (aC _) (fun O=>?_) (fun O=>?_) (.row g2 (fun g s e _=>by injection e with e;injection e with _ e)))
 ·by_cases h1:i=id
  ·subst h1;rw [g1] at hi;injection hi with hi;subst hi
   rcases mem_nstV.1 f with f|⟨j,f⟩
   ·exact ⟨_,_,I,mem_nstV.2 (aE f)⟩
   ·exact ⟨_,_,I,mem_nstV.2 (aB ⟨j,(p j b f).2⟩)⟩
  ·by_cases u:i=d
   ·subst u;rw [g2] at hi;injection hi with hi;subst hi
    exact ⟨_,_,I,mem_nstV.2 (aB ⟨k,(Em L J).1 f⟩)⟩
   ·rw [g3 i h1 u] at hi;exact ⟨i,x,hi,f⟩
 ·by_cases h1:i=id
  ·subst h1;rw [I] at hi;injection hi with hi;subst hi
   rcases mem_nstV.1 f with f|⟨j,f⟩
   ·exact ⟨_,_,g1,mem_nstV.2 (aE f)⟩
   ·by_cases m:j=k
    ·subst m;exact ⟨_,_,g2,(Em L J).2 f⟩
    ·exact ⟨_,_,g1,mem_nstV.2 (aB ⟨j,by rw [B,if_neg m];exact f⟩)⟩
  ·by_cases u:i=d
   ·subst u;rw [G] at hi;cases hi
   ·exact ⟨i,x,(g3 i h1 u).trans hi,f⟩
 ·rw [g2] at y;injection y with y;subst y
  have S:=(Em L J).1 f;refine ⟨fun h=>?_,fun i U h1 u hi hm=>(bl i U b h1 hi hm).2 k S⟩;rcases mem_nstV.1 h with h|⟨i,h⟩
  ·exact C.2 k b h S
  ·exact (p i b h).1 (C.1 _ _ _ (p i b h).2 S)
 ·obtain ⟨q1,q2⟩:=bl i U b h1 hi f;rcases mem_nstV.1 X with h|⟨j,h⟩
  ·exact q1 h
  ·exact q2 j (p j b h).2
 ·refine ⟨s,vs.setIfInBounds k .nilFunc,rfl,ag,by simp [ae],⟨us,by rw [length_set];exact v,Z,fun j z W=>?_⟩,fun j z=>?_,fun i j b hi z=>C.1 i j b (p i b hi).2 (p j b z).2,fun i b f hi=>C.2 i b f (p i b hi).2⟩
  ·have P:j<es.length:=by simpa using z
   simp only [aM] at W;rw [B];by_cases m:k=j
   ·rw [if_pos m] at W;exact absurd rfl W
   ·rw [if_neg m] at W;rw [if_neg (fun e=>m e.symm)];exact Y j P W
  ·have P:j<es.length:=by simpa using z
   simp only [aM];rw [B];by_cases m:k=j
   ·rw [if_pos m,if_pos m.symm];rfl
   ·rw [if_neg m,if_neg (fun e=>m e.symm)];exact (aa j P).moved (aC _) O (fun _ _=>rfl)
 ·obtain ⟨q1,us',q2,q3,q4,q5⟩:=N;exact ⟨_,g2,vs.getD k undef,us',rfl,q1,q2,q3,fun k hk j z=>(q4 k hk j z).mono (aC _) O,q5⟩
theorem zlp {q k ety sz:Nat}{y:Operand}{xs:List AV}(ho:o.op=.store T x y)(hd:dok cx o=true)(ar:A7 x=true)(aq:A7 y=true)(hx:σ.eval x=.der (.nelt k) id)(hy:σ.eval y=.row q)(hT:lkT cx.E.tab T=some i)(an:i.sz=1)(hl:σ.find id=some (.nest ty es))(hq:σ.find q=some (.row ety sz xs))(he:es[k]? = some .hole)(ab:id≠q) :
  Aj cx o σ (.tup []) [id,q] [(id,.nest ty (es.set k (.row ety sz xs))),(q,.dead)]:=by
 refine ⟨fun i e he=>zj4 he,fun τ h1 B a w Q K ⟨γ,t⟩ hK=>C5 (fun c hc=>by rw [ho] at hc;cases hc) ?_⟩;have ex:=t.ev x ar;rw [h1 x (by simp [ho,Op.operands]),hx] at ex;have ey:=t.ev y aq;rw [h1 y (by simp [ho,Op.operands]),hy] at ey;obtain ⟨s,vs,us,Z,ay,ax,Y,ak,au,am,ag⟩:=zt5 t (by rw [B id (by simp)];exact hl);obtain ⟨H,us1,C,z,I,ad,az,al⟩:=T8 (id:=q) t (by rw [B q (by simp)];exact hq);obtain ⟨O,N⟩:=Ea I;obtain ⟨hk,bd⟩:=List.getElem?_eq_some_iff.1 he;have bc:k<vs.size:=by omega
 have ah:H.cells=#[H]:=by rcases I.2 with ⟨e,_⟩|⟨_,_,_,e,_⟩<;>(rw [e];rfl)
 have av:us.length=es.length*1:=Y.1;obtain ⟨g,J,p,aa,ai,hh,ac,bb,bj,aw⟩:∃ g J p,s=.slice (some ⟨g,0,none⟩) es.length J/\cx.w0.heap.size<=g/\w.heap[g]? = some (.cells p ty (0,0))/\es.length<=J/\J<=maxLen/\p.size=J*1/\p.toList.take (es.length*1)=us:=by
  rcases Y.2 with ⟨_,h0⟩|h
  ·omega
  ·exact h
 have W:B3 s=some g:=by rw [aa];rfl
 have hv:a.eval x=.pointer (some ⟨g,0+k,none⟩):=by rw [ex.der_inv Z,aa];simp only [Dv.of,con0]
 have bh:a.eval y=H:=ey.row_inv C (Fc z);have L:=Wh (cx.E.ok T i hT) w g (0+k) ty p H hh (by rw [ah,an];rfl) (by omega) (fun u S=>by rw [ah] at S;simp at S;rw [S];exact z);rw [ah,an,aP] at L;generalize M:(p.toList.take k++(#[H]:Array Value).toList++p.toList.drop (k+1)).toArray=m at L;have bg:(execOp a.eval o).run cx.P w=.ok .skip (w.setRow g m):=by
  rw [aP] at hv;simp only [execOp,ho,hv,bh,Instr.storeAt,Instr.sureAddr,Sem.run_bind,Sem.run_pure,Result.andThen_ok,L]
 unfold Oper.wp;rw [bg];have ao:=setRow_heap w g p m ty (0,0) hh;have v:∀ q,q≠g->(w.setRow g m).heap[q]? = w.heap[q]? := fun q hq=>setRow_other w g q _ hq
 have P:w.heap.size<=(w.setRow g m).heap.size:=by simp
 have bi:w.drawn<=(w.setRow g m).drawn:=aC _;have bf:own γ g:=⟨id,_,Z,mem_nstV.2 (aE W)⟩;have ap:Below cx.w0.heap.size w (w.setRow g m):=⟨rfl,rfl,rfl,P,fun k hk=>v k (by have:=(t.ge g bf).1.1;omega)⟩;generalize w.setRow g m=w' at *;have G:∀ i,(vs.setIfInBounds k H).getD i undef=if i=k then H else vs.getD i undef:=fun i=>znc _ _ _ _ bc
 have bl:∀ i d' b,i≠id->γ i=some d'->b∈blks d'->B3 s≠some b/\∀ j,B3 (vs.getD j undef)≠some b:=fun i d' b hi X d =>
  ⟨fun e=>hi (t.inj _ _ _ _ _ X Z d (mem_nstV.2 (aE e))),fun j D=>hi (t.inj _ _ _ _ _ X Z d (mem_nstV.2 (aB ⟨j,D⟩)))⟩
 have U:∀ b,B3 H=some b->B3 s≠some b/\∀ j,B3 (vs.getD j undef)≠some b:=fun b d=>bl q _ b (Ne.symm ab) C ((Em O N).2 d)
 have ba:∀ b,B3 (vs.getD k undef)≠some b:=fun b d=>by
  have:=am k hk;rw [bd] at this;have this:vs.getD k undef=.nilFunc:=this;rw [this] at d;simp [B3] at d
 let γ':Gam:=fun i=>if i=id then some (nstV s (vs.setIfInBounds k H)) else if i=q then some none else γ i
 have g1:γ' id=some (nstV s (vs.setIfInBounds k H)):=if_pos rfl;have g2:γ' q=some none:=by show (if q=id then _ else if q=q then _ else _)=_;rw [if_neg (Ne.symm ab),if_pos rfl]
 have g3:∀ i,i≠id->i≠q->γ' i=γ i:=fun i h1 B=>by show (if i=id then _ else if i=q then _ else _)=_;rw [if_neg h1,if_neg B]
 refine hK _ _ (zt3 (γ':=γ') (q:=q) (w':=w') t (C0 hd) ab Z g1 g3 (fun x hx=>g2) (fun b=>⟨fun ⟨i,x,hi,d⟩=>?_,fun ⟨i,x,hi,d⟩=>?_⟩) (fun b x hx d=>?_) (fun i d' b h1 B hi d hc=>?_) P (fun b d=>v b (fun e=>d (by rw [e];exact W))) ap bi (fun ae=>?_) (fun ae=>⟨_,g2,rfl⟩) (.tup #[] rfl (fun j D=>absurd D (by simp))))
 ·by_cases h1:i=id
  ·subst h1;rw [g1] at hi;injection hi with hi;subst hi
   rcases mem_nstV.1 d with d|⟨j,d⟩
   ·exact ⟨_,_,Z,mem_nstV.2 (aE d)⟩
   ·rw [G] at d;by_cases f:j=k
    ·rw [if_pos f] at d;exact ⟨_,_,C,(Em O N).2 d⟩
    ·rw [if_neg f] at d;exact ⟨_,_,Z,mem_nstV.2 (aB ⟨j,d⟩)⟩
  ·by_cases B:i=q
   ·subst B;rw [g2] at hi;injection hi with hi;subst hi;cases d
   ·rw [g3 i h1 B] at hi;exact ⟨i,x,hi,d⟩
 ·by_cases h1:i=id
  ·subst h1;rw [Z] at hi;injection hi with hi;subst hi
   rcases mem_nstV.1 d with d|⟨j,d⟩
   ·exact ⟨_,_,g1,mem_nstV.2 (aE d)⟩
   ·exact ⟨_,_,g1,mem_nstV.2 (aB ⟨j,by rw [G,if_neg (fun e=>by subst e;exact ba b d)];exact d⟩)⟩
  ·by_cases B:i=q
   ·subst B;rw [C] at hi;injection hi with hi;subst hi
    exact ⟨_,_,g1,mem_nstV.2 (aB ⟨k,by rw [G,if_pos rfl];exact (Em O N).1 d⟩)⟩
   ·exact ⟨i,x,(g3 i h1 B).trans hi,d⟩
 ·rw [g2] at hx;injection hx with hx;subst hx;cases d
 ·obtain ⟨q1,q2⟩:=bl i d' b h1 hi d;rcases mem_nstV.1 hc with h|⟨j,h⟩
  ·exact q1 h
  ·rw [G] at h;by_cases f:j=k
   ·rw [if_pos f] at h;exact B (t.inj _ _ _ _ _ hi C d ((Em O N).2 h))
   ·rw [if_neg f] at h;exact q2 j h
 ·have aj:m.toList.take (es.length*1)=us.set k H:=by
   rw [<-M,<-aw,set_eq_take_append_cons_drop,if_pos (by simp;omega)];have:=Zz p.toList [H] k (es.length*1) (by simp;omega) (by simp;omega);simpa using this
  refine ⟨s,vs.setIfInBounds k H,rfl,ay,by simp [ax],⟨us.set k H,⟨by simp [av],aB ⟨g,J,m,by rw [length_set];exact aa,ai,ao,by simpa using ac,bb,?_,by simpa using aj⟩⟩,fun u S=>?_,fun j D hh=>?_⟩,fun j D=>?_,fun i j b hi D=>?_,fun i b d hi=>?_⟩
  ·rw [<-M];have:=Wv p.toList [H] k (by simp;omega);simpa [bj] using this
  ·rcases mem_or_eq_of_mem_set S with S|S
   ·exact ak u S
   ·rw [S];exact z
  ·have af:j<es.length:=by simpa using D
   rw [G];by_cases f:j=k
   ·subst f;rw [if_pos rfl,aA,aS (by omega)];rfl
   ·rw [if_neg f,aA,getElem?_set_ne (fun e=>f e.symm),<-aA];simp only [aM] at hh;rw [if_neg (fun e=>f e.symm)] at hh;exact au j af hh
  ·have af:j<es.length:=by simpa using D
   simp only [aM];rw [G];by_cases f:j=k
   ·rw [if_pos f.symm,if_pos f];exact ⟨z,us1,I.moved (fun b d=>v b (fun e=>(U b d).1 (by rw [W,e]))),ad,fun k hk j D=>(az k hk j D).mono P ae,al⟩
   ·rw [if_neg f,if_neg (fun e=>f e.symm)];exact (am j af).moved P ae (fun b d=>v b (fun e=>ag.2 j b (by rw [W,e]) d))
  ·rw [G] at hi D;by_cases h1:i=k
   ·by_cases B:j=k
    ·rw [h1,B]
    ·rw [if_pos h1] at hi;rw [if_neg B] at D;exact absurd D ((U b hi).2 j)
   ·by_cases B:j=k
    ·rw [if_neg h1] at hi;rw [if_pos B] at D;exact absurd hi ((U b D).2 i)
    ·rw [if_neg h1] at hi;rw [if_neg B] at D;exact ag.1 i j b hi D
  ·rw [G] at hi;by_cases h1:i=k
   ·rw [if_pos h1] at hi;exact (U b hi).1 d
   ·rw [if_neg h1] at hi;exact ag.2 i b d hi
end
open Go.RowKit
section
variable {α β:Type}
def mkn (n:Int)(bytes:Nat)(k:Nat->Option β):Option β:=if 0<=n/\n.toNat<=1099511627776/\bytes*n.toNat<=281474976710656 then k n.toNat else none
theorem MakX.on {n:Int}{bytes:Nat}{K:List AV->Prop}{k:Nat->Option β}{r:β}(h:mkn n bytes k=some r)(b:∀ m,k m=some r->K (aG m .nils)):MakX n bytes .nils K:=by
 unfold mkn at h;split at h
 ·rename_i a;exact .mk n.toNat (by omega) a.2.1 a.2.2 _ (.refl _) (b _ h)
 ·cases h
def nst (r:Nat)(x:Option β):Option β:=x
def frr (r:Nat)(x:Option β):Option β:=x
def enR (er:α->AV)(ety sz:Nat)(q:List α):NE:=.row ety sz (q.map er)
def ncx (n:Int)(len:Nat)(c:Option β):Option β:=if 0<=n/\n.toNat<len then c else none
def ntk (l:List (List α))(k:Nat)(c:List α->Option β):Option β:=match l[k]? with|some q=>c q|none=>none
def npt (l:List (List α))(k:Nat)(v:List α)(c:List (List α)->Option β):Option β:=if k<l.length then c (l.set k v) else none
end
section
variable {α β:Type} {E:Env} {nt:Nat} {o:Oper} {σ:AS} {K:OpK}
variable {T:Nat}{x:Operand}{i:TyI}
theorem OpX.lnc {e esz eb:Nat}(g:o.op=.call { callee:=.builtin .len,args:=#[x],argTypes:=#[T] })(j:dokN E nt o.dst=true)(a:A7 x=true)(d:σ.eval x=.cont n id)(m:lkT E.tab T=some i)(f:i.shape=.slc e esz eb)(h:K (.int .i64 (n:Int)) [] []):OpX E nt o σ K :=
 .mk _ _ _ (fun cx c b=>zum g (Am j c b) a d (by rw [c];exact m) f) h
theorem OpX.ixc {n:Int}{len:Nat}{c:Option β}{r:β}{e eb:Nat}{y:Operand}{kd:IntKind}(a:ncx n len c=some r)(p:o.op=.indexAddr T x y)(u:dokN E nt o.dst=true)(d:A7 x=true)(b:A7 y=true)(j:σ.eval x=.cont len id)(h:σ.eval y=.int kd n)(v:lkT E.tab T=some i)(m:i.shape=.slc e 1 eb)
  (t:c=some r->K (.der (.nelt n.toNat) id) [] []):OpX E nt o σ K:=by
 unfold ncx at a;split at a
 ·rename_i q;exact .mk _ _ _ (fun cx g f=>zck p (Am u g f) d b j (by rw [h];congr 1;omega) (by rw [g];exact v) m q.2) (t a)
 ·cases a
variable {l:List (List α)}
theorem OpX.ntk (er:α->AV){k:Nat}{c:List α->Option β}{r:β}{d ty ety sz:Nat}(b:Proofs.YtidhlpjgifoneaaGreat.ntk l k c=some r)(t:o.op=.load T x)(a:o.dst=some d)(y:dokN E nt o.dst=true)(f:A7 x=true)(m:σ.eval x=.der (.nelt k) id)(B:lkT E.tab T=some i)(z:i.shape.agg=false)
  (v:σ.find id=some (.nest ty (l.map (enR er ety sz)))) (u:σ.find d=none) (h:aJ id d=false) (w:∀ q,c q=some r->K (.row d) [id,d] [(id,.nest ty ((l.map (enR er ety sz)).set k .hole)),(d,.row ety sz (q.map er))]):OpX E nt o σ K:=by
 unfold Proofs.YtidhlpjgifoneaaGreat.ntk at b;split at b
 ·rename_i q p;exact .mk _ _ _ (fun cx j g=>zpm t a (Am y j g) f m (by rw [j];exact B) z v (by rw [getElem?_map,p];rfl) u (nbne h)) (w _ b)
 ·cases b
theorem OpX.npt (er:α->AV){k:Nat}{v:List α}{c:List (List α)->Option β}{r:β}{q ty ety sz:Nat}{y:Operand}(a:Proofs.YtidhlpjgifoneaaGreat.npt l k v c=some r)(B:o.op=.store T x y)(G:dokN E nt o.dst=true)(d:A7 x=true)(b:A7 y=true)(w:σ.eval x=.der (.nelt k) id)(u:σ.eval y=.row q)(H:lkT E.tab T=some i)(m:i.sz=1)
  (C:σ.find id=some (.nest ty ((l.map (enR er ety sz)).set k .hole))) (z:σ.find q=some (.row ety sz (v.map er))) (g:aJ id q=false) (D:∀ p,c p=some r->K (.tup []) [id,q] [(id,.nest ty (p.map (enR er ety sz))),(q,.dead)]):OpX E nt o σ K:=by
 unfold Proofs.YtidhlpjgifoneaaGreat.npt at a;split at a
 ·rename_i j;have h:=D _ a;have e:((l.map (enR er ety sz)).set k .hole).set k (.row ety sz (v.map er))=(l.set k v).map (enR er ety sz):=by rw [set_set,map_set];rfl
  rw [<-e] at h;exact .mk _ _ _ (fun cx t f=>zlp B (Am G t f) d b w u (by rw [t];exact H) m C z (by rw [aS (by simpa using j)]) (nbne g)) h
 ·cases a
end
section
variable {α β:Type} {E:Env} {nt:Nat}
def Eo:AV->Bool |.cont _ _=>true |_=>false
variable {l:List (List α)}
theorem LeX.frr (r:Nat)(er:α->AV)(ty ety sz:Nat)(hr:σ.find r=some (.nest ty (l.map (enR er ety sz)))):LeX E nt σ (σ.rpAll r Eo (.sl 1 (l.map fun q=>.sl sz (q.map er))) .dead):=by
 refine LeX.rpAll r Eo _ _ _ hr (fun ty cs h=>by cases h) (fun cx γ a w d ab hd he=>?_);obtain ⟨s,vs,p,O,N,⟨us,g,z,M⟩,Q,ac⟩:=he;have p:d=nstV s vs:=p;subst p;rw [aY] at N g;refine ⟨none,(fun b m=>by cases m),fun S' hS D=>⟨rfl,fun γ' x v Z u hx L=>?_⟩⟩;have I:∃ n,x=.cont n r:=by
  cases x with
  |cont n i=>simp only [AV.leafId,Option.some.injEq] at hx;exact ⟨n,by rw [hx]⟩
  |_=>simp [Eo] at u
 obtain ⟨n,rfl⟩:=I;have J:v=s:=by
  cases L with
  |cont h L hl =>
   rw [hd] at h;injection h with h
   have:=L none (.tuple (#[s]++vs)) h.symm;rw [this];simp only [Dv.of,con0]
 subst J;have W:∀ k,k<l.length->Rep w S' G0 (.sl sz ((l[k]?.getD []).map er)) (us.getD k undef):=fun k t=>by
  have h3:=Q k (by simpa using t);have h2:=M k (by simpa using t) (by simp [enR]);simp only [aL,enR] at h3;obtain ⟨q1,us',Y,q3,q4,q5⟩:=h3;obtain ⟨H,aa⟩:=Ea Y;obtain ⟨s',c,y⟩:=Fh (w:=w) (S:=Sg cx.S0 cx.w0.heap.size γ) (γ:=γ) (S':=S') (d:=some ((vs.getD k undef).ownBlock,vs.getD k undef)) ⟨_,us',rfl,q1,Y,q3,q4,q5⟩ (fun b m _=>hS b m) (fun s X e=>by
   injection e with e
   injection e with G e2
   rw [H] at G;exact D X (mem_nstV.2 (aB ⟨k,G⟩)) (fun m=>by cases m)) G0
  injection c with c
  injection c with _ c
  rw [h2,c,aN t];exact y
 obtain ⟨s0,f,P⟩:=Fh (w:=w) (S:=S') (γ:=γ) (S':=S') (B:=cx.w0.heap.size) (ty:=ty) (sz:=1) (xs:=l.map fun q=>.sl sz (q.map er)) (d:=some (v.ownBlock,v)) ⟨v,us,rfl,O,by rw [aY];exact g,fun k t=>by rw [aL];rfl,fun k t j hj=>by
   have C:k<l.length:=by simpa using t
   have U:j=0:=by
    have:j<1:=by simpa [AV.cells] using hj
    omega
   subst U;simp only [aL,AV.cells,aR,Nat.mul_one,aZ];have:=W k C;rw [aN C] at this;exact this,z⟩ (fun b m _=>m) (fun s X e=>by
   injection e with e
   injection e with G e2
   rw [(Ea g).1] at G;exact D X (mem_nstV.2 (aE G)) (fun m=>by cases m)) γ'
 injection f with f
 injection f with _ f
 rw [f];exact P
variable {R:Exit->AS->Prop} {K:List Bt}
theorem AW.frrO {ty ety sz:Nat}{c:Code}{x:Option β}{y:β}(er:α->AV)(h:Proofs.YtidhlpjgifoneaaGreat.frr id x=some y)(r:Nat)(a:σ.find r=some (.nest ty (l.map (enR er ety sz))))(k:x=some y->AW E nt R (.code c::K) .normal (σ.rpAll r Eo (.sl 1 (l.map fun q=>.sl sz (q.map er))) .dead)):AW E nt R (.code c::K) .normal σ:=AW.weaken (LeX.frr r er ty ety sz a) (k h)
theorem AW.nstO {ty m:Nat}{c:Code}{x:Option β}{y:β}{er:α->AV}(ety sz:Nat)(h:Proofs.YtidhlpjgifoneaaGreat.nst id x=some y)(r:Nat)(a:σ.find r=some (.row ty 1 (aG m .nils)))(k:x=some y->AW E nt R (.code c::K) .normal (σ.rpAll r Ew (.cont m r) (.nest ty ((aG m ([]:List α)).map (enR er ety sz))))):AW E nt R (.code c::K) .normal σ:=by
 have e:(aG m ([]:List α)).map (enR er ety sz)=aG m (.row ety sz []):=by rw [map_replicate];rfl
 rw [e] at k;exact AW.weaken (LeX.nst r ety sz a) (k h)
end
attribute [irreducible] mkn nst frr ntk npt ncx
end Go.Proofs.YtidhlpjgifoneaaGreat
