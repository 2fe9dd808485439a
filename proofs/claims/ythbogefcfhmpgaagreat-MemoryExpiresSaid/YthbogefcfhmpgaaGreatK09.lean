/- The abstract walk. -/
import Derived.Test.YthbogefcfhmpgaaGreatK08
set_option linter.unusedVariables false
set_option linter.unusedSimpArgs false
namespace Go.Proofs.YthbogefcfhmpgaaGreat
open Go.RowKit List
open _root_.Array renaming getD_eq_getD_getElem?->aA,getElem?_setIfInBounds_ne->aL,replicate->aN,getElem?_append_left->aP,size_setIfInBounds->aR,getD->bQ
open Nat renaming eq_of_beq_eq_true->aB,le_refl->aD,le_of_ble_eq_true->aG,beq->aJ,ne_of_beq_eq_false->aU,zero_add->bI,ble->bP,add_zero->bV,le_trans->bW
open List renaming getD_eq_getElem?_getD->aC,replicate->aO,getElem_cons_zero->aQ,mem_filterMap->aS,mem_iff_getElem->aV,mem_cons_of_mem->aW,getElem_map->aX,getElem_set->aY,mem_of_find?_eq_some->aZ,any_eq_true->bA,all_eq_true->bB,getElem?_eq_getElem->bD,findIdx?_cons->bE,mem_cons_self->bF,getElem_replicate->bJ,getElem?_set_self->bK,mem_range->bM,length_replicate->bN,length_map->bT,foldl_cons->bU
open AS renaming find->aE
open Or renaming inr->aF,inl->aH
open Gam renaming set_self->aK,set_ne->aM
open Bool renaming and_eq_true->aT,false_eq_true->bG,or_eq_true->bO
open WP renaming mono->bC
def AV.leafId:AV->Option Nat |.row i=>some i |.ptr i _=>some i |.elt i _ _ _=>some i |.der _ i=>some i |.cont _ i=>some i |_=>none
def AV.rp0 (r:Nat)(src:AV->Bool)(tgt x:AV):AV:=match x.leafId with
 |some i=>match aJ i r with
  |true=>match src x with
   |true=>tgt
   |false=>.any
  |false=>x
 |none=>x
mutual
def AV.rp (r:Nat)(src:AV->Bool)(tgt:AV):AV->AV |.fn f cap=>.fn f (AV.rpL r src tgt cap) |.yld l T cap=>.yld l T (AV.rpL r src tgt cap) |.agg cs=>.agg (AV.rpL r src tgt cs) |.tup cs=>.tup (AV.rpL r src tgt cs) |x=>AV.rp0 r src tgt x
def AV.rpL (r:Nat)(src:AV->Bool)(tgt:AV):List AV->List AV |[]=>[] |x::l=>AV.rp r src tgt x::AV.rpL r src tgt l
end
section
variable {r:Nat} {src:AV->Bool} {tgt:AV}
theorem AV.rpL_length (l:List AV):(AV.rpL r src tgt l).length=l.length:=by
 induction l with
 |nil=>rfl
 |cons x l ih=>simp [AV.rpL,ih]
theorem AV.rpL_at (l:List AV)(i:Nat)(hi:i<l.length):(AV.rpL r src tgt l)[i]'(by rw [AV.rpL_length];exact hi)=AV.rp r src tgt l[i]:=by
 induction l generalizing i with
 |nil=>simp at hi
 |cons x l ih =>
  cases i with
  |zero=>rfl
  |succ i=>exact ih i (by simpa using hi)
theorem Rep.rp {w:World}{S:Nat->Prop}{γ γ':Gam}(d:∀ i x,i≠r->γ i=some x->γ' i=some x)(y:∀ x v,src x=true->x.leafId=some r->Rep w S γ x v->Rep w S γ' tgt v){av:AV}{v:Value}(h:Rep w S γ av v):Rep w S γ' (AV.rp r src tgt av) v:=by
 have leaf:∀ {x:AV} {v:Value} {i:Nat},x.leafId=some i->Rep w S γ x v->(∀ h:i≠r,Rep w S γ' x v)->Rep w S γ' (AV.rp0 r src tgt x) v:=fun {x v i} G h L=>by
  simp only [AV.rp0,G];cases q:aJ i r with
  |true =>
   have:=aB q;subst this;simp only;cases hs:src x with
   |true=>exact y x v hs G h
   |false=>exact .any _
  |false=>exact L (aU q)
 induction h with
 |any=>exact .any _
 |int=>exact .int _ _
 |bool=>exact .bool _
 |str=>exact .str _
 |nilp=>exact .nilp
 |nils=>exact .nils
 |nilf=>exact .nilf
 |@ptr γ id off v B h f=>exact leaf rfl (.ptr h f) (fun hi=>.ptr (d _ _ hi h) f)
 |@elt γ id sz k j v B h f=>exact leaf rfl (.elt h f) (fun hi=>.elt (d _ _ hi h) f)
 |@der γ P id v B h f=>exact leaf rfl (.der h f) (fun hi=>.der (d _ _ hi h) f)
 |@row γ id v B h f=>exact leaf rfl (.row h f) (fun hi=>.row (d _ _ hi h) f)
 |mapv ps0 J g es clock q D O N p M f I H=>exact .mapv ps0 J g es clock q D O N p M f
 |mapn=>exact .mapn
 |slen A n c=>exact .slen A n c
 |@cont γ n id v B h f p=>exact leaf rfl (.cont h f p) (fun hi=>.cont (d _ _ hi h) f p)
 |sl A c cell C z q u h1 ih=>exact .sl A c cell C z q u h1
 |ref b off cell D q C u h1 ih=>exact .ref b off cell D q C u h1
 |fn vs p t ih =>
  exact .fn vs (by rw [p,AV.rpL_length]) (fun i m=>by
   have a:=m;rw [AV.rpL_length] at a;rw [AV.rpL_at _ i a];exact ih i a d y leaf)
 |yld t ih =>
  exact .yld (fun i m=>by
   have a:=m;rw [AV.rpL_length] at a;rw [AV.rpL_at _ i a];exact ih i a d y leaf)
 |agg vs p t h1 ih =>
  exact .agg vs (by rw [p,AV.rpL_length]) (fun i m=>by
   have a:=m;rw [AV.rpL_length] at a;rw [AV.rpL_at _ i a];exact ih i a d y leaf) h1
 |tup vs p t ih =>
  exact .tup vs (by rw [p,AV.rpL_length]) (fun i m=>by
   have a:=m;rw [AV.rpL_length] at a;rw [AV.rpL_at _ i a];exact ih i a d y leaf)
end
def Ent.rp (r:Nat)(src:AV->Bool)(tgt:AV):Ent->Ent |.box ty cs=>.box ty (AV.rpL r src tgt cs) |e=>e
def AS.rpAll (σ:AS)(r:Nat)(src:AV->Bool)(tgt:AV)(e:Ent):AS:=⟨σ.tm.map fun p=>(p.1,AV.rp r src tgt p.2),(r,e)::σ.me.map fun p=>(p.1,p.2.rp r src tgt)⟩
variable {E:Env}{σ:AS}
theorem LeX.rpAll {nt:Nat}(r:Nat)(src:AV->Bool)(tgt:AV)(e z:Ent)(Q:σ.find r=some e)(J:∀ ty cs,z≠.box ty cs)
  (H:∀ (cx:Cx) (γ:Gam) (a:Act) (w:World) (d:Option (Option Nat×Value)),StG cx γ σ a w->γ r=some d->Bj w (Sg cx.S0 cx.w0.heap.size γ) γ cx.w0.heap.size d e->∃ n,(∀ b,b∈blks n->b∈blks d)/\∀ S':Nat->Prop,(∀ b,Sg cx.S0 cx.w0.heap.size γ b->S' b)->(∀ b,b∈blks d->b ∉ blks n->S' b) ->
    Bj w S' G0 cx.w0.heap.size n z/\∀ γ' x v,γ' r=some n->src x=true->x.leafId=some r->Rep w S' γ x v->Rep w S' γ' tgt v):LeX E nt σ (σ.rpAll r src tgt z):=fun cx hE hn a w ⟨γ,h⟩=>by
 have G:=h.me r;rw [Q] at G;obtain ⟨d,D,C⟩:=G;obtain ⟨n,p,H⟩:=H cx γ a w d h D C;have m:∀ b,own (γ.set r n) b->own γ b:=fun b ⟨i,s,hi,hm⟩=>by
  by_cases c:i=r
  ·subst c;rw [aK] at hi;injection hi with hi;subst hi;exact ⟨_,_,D,p b hm⟩
  ·rw [aM _ _ _ c] at hi;exact ⟨i,s,hi,hm⟩
 have M:∀ b,Sg cx.S0 cx.w0.heap.size γ b->Sg cx.S0 cx.w0.heap.size (γ.set r n) b:=fun b f=>f.elim aH (fun ⟨h1,N⟩=>aF ⟨h1,fun I=>N (m b I)⟩)
 obtain ⟨H1,H2⟩:=H (Sg cx.S0 cx.w0.heap.size (γ.set r n)) M (fun b f L=>aF ⟨(h.ge b ⟨_,_,D,f⟩).1,fun ⟨i,s,hi,hm⟩=>by
  by_cases c:i=r
  ·subst c;rw [aK] at hi;injection hi with hi;subst hi;exact L hm
  ·rw [aM _ _ _ c] at hi;exact c (h.inj _ _ _ _ _ hi D hm f)⟩)
 have mv:∀ {av v},Rep w (Sg cx.S0 cx.w0.heap.size γ) γ av v->Rep w (Sg cx.S0 cx.w0.heap.size (γ.set r n)) (γ.set r n) (AV.rp r src tgt av) v:=fun P =>
  (P.mono (aD _) (fun b f _=>⟨rfl,M b f⟩)).rp (src:=src) (fun i x hi B=>by rw [aM _ _ _ hi];exact B) (fun x v hs S B=>H2 _ x v (aK _ _ _) hs S B)
 refine ⟨γ.set r n,fun u=>?_,fun i=>?_,fun i j b s s' hi t mi mj=>?_,fun b f=>h.ge b (m b f),h.below,h.size,h.defers.gam m,h.gh,fun b f=>by obtain ⟨f2,Z,Y⟩:=h.fr b f;exact ⟨fun I=>f2 (m b I),Z,Y⟩,h.dr⟩
 ·have e:(σ.rpAll r src tgt z).get u=AV.rp r src tgt (σ.get u):=zwy _ rfl _ _;rw [e];exact mv (h.tm u)
 ·by_cases hi:r=i
  ·subst hi;have e:(σ.rpAll r src tgt z).find r=some z:=by simp [AS.rpAll,aE,lkE]
   rw [e];exact ⟨n,aK _ _ _,H1.free J⟩
  ·have e:(σ.rpAll r src tgt z).find i=(σ.find i).map (Ent.rp r src tgt):=by
    unfold AS.rpAll aE;simp only [lkE];cases f:aJ r i with
    |true=>exact absurd (aB f) hi
    |false=>exact zx0 _ _ _
   rw [e,aM _ _ _ (Ne.symm hi)];have:=h.me i;cases O:σ.find i with
   |none=>rw [O] at this;exact this
   |some en =>
    rw [O] at this;obtain ⟨x,B,C⟩:=this;have heq:∀ en:Ent,(∀ ty cs,en≠.box ty cs)->Bj w (Sg cx.S0 cx.w0.heap.size γ) γ cx.w0.heap.size x en->Bj w (Sg cx.S0 cx.w0.heap.size (γ.set r n)) (γ.set r n) cx.w0.heap.size x en:=fun en f C =>
     (C.move (γ':=γ) (aD _) (fun b f _=>⟨rfl,M b f⟩) (fun id d h=>aH h) (fun _ _=>rfl)).free f
    cases en with
    |box ty cs =>
     obtain ⟨g,vs,h1,N,X,W,U⟩:=C;exact ⟨x,B,g,vs,h1,N,by rw [X,AV.rpL_length],fun i hi=>by
      have y:=hi;rw [AV.rpL_length] at y;rw [AV.rpL_at _ i y];exact mv (W i y),U⟩
    |_=>exact ⟨x,B,heq _ (fun ty cs h=>by cases h) C⟩
 ·by_cases c:i=r
  ·by_cases q:j=r
   ·rw [c,q]
   ·subst c;rw [aK] at hi;injection hi with hi
    subst hi;rw [aM _ _ _ q] at t;exact h.inj _ _ _ _ _ D t (p b mi) mj
  ·rw [aM _ _ _ c] at hi;by_cases q:j=r
   ·subst q;rw [aK] at t;injection t with t
    subst t;exact h.inj _ _ _ _ _ hi D mi (p b mj)
   ·rw [aM _ _ _ q] at t;exact h.inj _ _ _ _ _ hi t mi mj
open Go.RowKit
section
variable {α β κ ν:Type}
def nle (n:Int)(len:Nat)(k:Nat->Option β):Option β:=if 0<=n/\n.toNat<=len then k n.toNat else none
def gle (a b:Nat)(x:Option β):Option β:=if a<=b then x else none
def clr (l:List α)(lo:Nat)(z:α)(k:List α->Option β):Option β:=if lo<=l.length then k (clrL l lo z) else none
def encN (ek:κ->AV)(er:ν->AV)(ty sz:Nat)(p:κ×List ν):AV×NE:=(ek p.1,.row ty sz (p.2.map er))
end
section
variable {α β κ ν:Type} {E:Env} {nt:Nat} {o:Oper} {σ:AS} {K:OpK}
variable {k:Nat->Option β}{r:β}{T id e esz eb ty:Nat}{x:Operand}{i:TyI}{xs:List AV}
theorem OpX.sub {n:Int}{y:Operand}{kd:IntKind}(a:nle n xs.length k=some r)(p:o.op=.slice T x (some y) none none)(v:dokN E nt o.dst=true)(c:A4 x=true)(b:A4 y=true)(j:σ.eval x=.row id)(h:σ.eval y=.int kd n)
  (z:lkT E.tab T=some i) (hs:i.shape=.slc e esz eb) (g:aJ esz 0=false) (t:σ.find id=some (.row ty esz xs)) (u:∀ m,k m=some r->K (.der (.sub esz m) id) [id] []):OpX E nt o σ K:=by
 unfold nle at a;split at a
 ·rename_i q;exact .mk _ _ _ (fun cx f d=>zpm (lo:=n.toNat) p (Al v f d) c b j (by rw [h];congr 1;omega) (by rw [f];exact z) hs (nbne g) t q.2) (u _ a)
 ·cases a
variable {lo:Nat}
theorem OpX.lns {c:Option β}{sz:Nat}(a:gle lo xs.length c=some r)(j:o.op=.call { callee:=.builtin .len,args:=#[x],argTypes:=#[T] })(p:dokN E nt o.dst=true)(b:A4 x=true)(h:σ.eval x=.der (.sub sz lo) id)(m:σ.find id=some (.row ty sz xs))(q:lkT E.tab T=some i)(hs:i.shape=.slc e esz eb)
  (n:c=some r->K (.int .i64 ((xs.length-lo:Nat):Int)) [id] []):OpX E nt o σ K:=by
 unfold gle at a;split at a
 ·rename_i f;exact .mk _ _ _ (fun cx g d=>zvp j (Al p g d) b h m (by rw [g];exact q) hs f) (n a)
 ·cases a
theorem OpX.ixs {n:Int}{sz:Nat}{y:Operand}{kd:IntKind}(z:nat n (xs.length-lo) k=some r)(j:o.op=.indexAddr T x y)(u:dokN E nt o.dst=true)(b:A4 x=true)(a:A4 y=true)(h:σ.eval x=.der (.sub sz lo) id)(g:σ.eval y=.int kd n)
  (q:σ.find id=some (.row ty sz xs)) (v:lkT E.tab T=some i) (hs:i.shape=.slc e sz eb) (f:aJ sz 0=false) (t:∀ m,k m=some r->K (.elt id sz (lo+m) 0) [id] []):OpX E nt o σ K:=by
 have:=NatX.o (K:=fun m=>lo+m<xs.length->K (.elt id sz (lo+m) 0) [id] []) z (fun m hm _=>t m hm);cases this with
 |mk m p hm k=>exact .mk _ _ _ (fun cx d c=>zei j (Al u d c) b a h g q (by rw [d];exact v) hs (nbne f) p (by omega)) (k (by omega))
theorem OpX.clr (enc:α->AV){l:List α}{z:α}{k:List α->Option β}{ie:TyI}(c:Proofs.YthbogefcfhmpgaaGreat.clr l lo z k=some r)(p:o.op=.call { callee:=.builtin .clear,args:=#[x],argTypes:=#[T] })(v:dokN E nt o.dst=true)(f:A4 x=true)(n:σ.eval x=.der (.sub esz lo) id)(q:σ.find id=some (.row e esz (l.map enc)))
  (y:lkT E.tab T=some i) (hs:i.shape=.slc e esz eb) (u:lkT E.tab e=some ie) (m:aJ esz 0=false) (d:Jh ie=true) (b:D9 ie.zero.cells.toList=true) (a:SubL (Da ie).cells (enc z).cells) (t:∀ l',k l'=some r->K (.tup []) [id] [(id,.row e esz (l'.map enc))]):OpX E nt o σ K:=by
 unfold Proofs.YthbogefcfhmpgaaGreat.clr at c;split at c
 ·rename_i h;refine .mk _ _ _ (fun cx j g=>?_) (t _ c);have h1:=zpy (cx:=cx) p (Al v j g) f n q (by rw [j];exact y) hs (by rw [j];exact u) (nbne m) d (Fc b) (by rw [bT];exact h);refine h1.weak (.cons _ (.row _ _ ?_) .nil);rw [<-y0m];unfold clrL;exact (SubR.refl _).append (.replicate a _)
 ·cases c
variable [DecidableEq κ]
omit [DecidableEq κ] in
end
theorem Born.idx {es:Array MapEntry}{n:Nat}(h:∀ j (h:j<es.toList.length),(es.toList[j]).born=j)(b:es.size=n):Born es n:=by
 have e:es.toList.map (·.born)=range n:=by
  apply ext_getElem
  ·simp [b]
  ·intro i c d;simp only [aX,getElem_range];exact h i (by simpa using c)
 refine ⟨by rw [e];exact nodup_range,fun x a=>?_⟩;have:x.born∈es.toList.map (·.born):=mem_map.2 ⟨x,a,rfl⟩;rw [e] at this;exact bM.1 this
section
variable {α β κ ν:Type} {E:Env} {nt:Nat}
variable {R:Exit->AS->Prop} {K:List Bq}
end
attribute [irreducible] nle gle clr    
open Go.RowKit
def idA (a:AV):AV:=a
theorem Sc (l:List AV):List.map idA l=l:=by induction l with
 |nil=>rfl
 |cons x l ih=>rw [map_cons,ih];rfl
section
variable {α β:Type}
def idxD (d:AV->Option α)(l:List AV)(n:Int)(k:α->Option β):Option β:=if 0<=n then (match l[n.toNat]? with|some a=>(match d a with|some y=>k y|none=>none)|none=>none) else none
theorem IdxX.oD {enc:α->AV}{d:AV->Option α}{l:List AV}{n:Int}{K:AV->Prop}{k:α->Option β}{r:β}(h:idxD d l n k=some r)(f:∀ a y,d a=some y->a=enc y)(c:∀ y,k y=some r->K (enc y)):IdxX (l.map idA) n K:=by
 unfold idxD at h;split at h
 ·rename_i j;split at h
  ·rename_i a g;split at h
   ·rename_i y b;refine .mk n.toNat (enc y) (by omega) ?_ (c y h);rw [Sc,g,f a y b]
   ·cases h
  ·cases h
 ·cases h
end
section
variable {α β V:Type} {E:Env} {nt:Nat} {R:Exit->AS->Prop} {K:List Bq}
def jon (F:V->Option β)(x:Option β):Option β:=x
variable {A:Code}
theorem AW.meet1 {J:AS->Prop}(h1:AW E nt (Cv J (AW E nt R K)) [.code A] .normal σ)(f:∀ τ,J τ->AW E nt R K .normal τ):AW E nt R (.code A::K) .normal σ :=
 ⟨fun cx b a=>bC (h1.out cx b a) (fun e d c=>by cases e<;>first|exact (f _ c).out cx b a|exact AW.out c cx b a)⟩
theorem AW.meet2 {J:AS->Prop}{B:Code}(h1:AW E nt (Cv J (AW E nt R K)) [.code A,.code B] .normal σ)(g:∀ τ,J τ->AW E nt R K .normal τ):AW E nt R (.code A::.code B::K) .normal σ :=
 ⟨fun cx c b=>bC (h1.out cx c b) (fun e f a=>by
  cases e with
  |normal=>exact bC a (fun e d a=>by cases e<;>first|exact (g _ a).out cx c b|exact AW.out a cx c b)
  |_=>exact AW.out a cx c b)⟩
variable {F:V->Option β}
theorem AW.joinO1 {S:V->AS}{x:Option β}{r:β}{C:Code}(h:jon F x=some r)(h1:x=some r->AW E nt (Cv (fun a=>∃ v,F v=some r/\LeX E nt a (S v)) (AW E nt R (.code C::K))) [.code A] .normal σ)(d:∀ v,F v=some r->AW E nt R (.code C::K) .normal (S v)):AW E nt R (.code A::.code C::K) .normal σ :=
 AW.meet1 (h1 h) (fun τ ⟨v,b,c⟩=>AW.weaken c (d v b))
theorem AW.joinO2 {S:V->AS}{x:Option β}{r:β}{B C:Code}(h:jon F x=some r)(h1:x=some r->AW E nt (Cv (fun a=>∃ v,F v=some r/\LeX E nt a (S v)) (AW E nt R (.code C::K))) [.code A,.code B] .normal σ)(d:∀ v,F v=some r->AW E nt R (.code C::K) .normal (S v)):AW E nt R (.code A::.code B::.code C::K) .normal σ :=
 AW.meet2 (h1 h) (fun τ ⟨v,b,c⟩=>AW.weaken c (d v b))
theorem B2 (F:V->Option β)(x:Option β):jon F x=x:=rfl
end
section
variable {β:Type}
def natc (n:Int)(k:Nat)(x y:Option β):Option β:=if n=(k:Int) then x else y
theorem NatX.oS {n:Int}{len:Nat}{K:Nat->Prop}{k:Nat}{x y:Option β}{r:β}(h:natc n k x y=some r)(a:Nat.blt k len=true)(b:x=some r->K k)(h1:y=some r->NatX n len K):NatX n len K:=by
 unfold natc at h;split at h
 ·rename_i e;exact .mk k e (aG a) (b h)
 ·exact h1 h
theorem N9 (n:Int)(k:Nat)(x y:Option β):natc n k x y=if n=(k:Int) then x else y:=rfl
end
attribute [irreducible] idxD jon natc
open Go.RowKit
def Dr:AV->Bool |.row _=>true |_=>false
def nstV (s:Value)(vs:Array Value):Option (Option Nat×Value):=some (none,.tuple (#[s]++vs))
variable {s:Value}{vs:Array Value}
theorem mem_nstV {b:Nat}:b∈blks (nstV s vs) ↔ B5 s=some b\/∃ j,B5 (vs.getD j undef)=some b:=by
 simp only [nstV,blks,Option.toList_none,nil_append,Cn,Array.toList_append,filterMap_append,mem_append];constructor
 ·rintro (h|h)
  ·left;obtain ⟨v,c,f⟩:=aS.1 h;have:v=s:=by simpa using c
   rw [<-this];exact f
  ·right;obtain ⟨v,c,f⟩:=aS.1 h;obtain ⟨j,a,rfl⟩:=aV.1 c;have d:j<vs.size:=by simpa using a
   exact ⟨j,by simpa [bQ,d] using f⟩
 ·rintro (h|⟨j,h⟩)
  ·left;exact aS.2 ⟨s,by simp,h⟩
  ·right;by_cases a:j<vs.size
   ·exact aS.2 ⟨vs[j],by simp,by simpa [bQ,a] using h⟩
   ·simp [bQ,a,undef,B5] at h
variable {γ:Gam}{id:Nat}{vs':Array Value}
theorem zwo (h:γ id=some (nstV s vs')):Turn γ id (nstV s vs) :=
 ⟨_,_,rfl,h,rfl,rfl,fun b a=>by cases b<;>first|(cases a;done)|exact ⟨rfl,by simp only [Dv.of,con0]⟩⟩
section
variable {E:Env} {nt:Nat}
theorem LeX.nst (r ety sz:Nat){ty m:Nat}(Y:σ.find r=some (.row ty 1 (aO m .nils))):LeX E nt σ (σ.rpAll r Dr (.cont m r) (.nest ty (aO m (.row ety sz [])))):=by
 refine LeX.rpAll r Dr (.cont m r) _ _ Y (fun ty cs h=>by cases h) (fun cx γ a w d X hd Z=>?_);obtain ⟨s,us,O,C,c,S,M,D⟩:=Z;subst O;obtain ⟨H,G⟩:=Jd c;rw [bN] at c;have L:us.length=m:=by have:=c.1;omega
 have n:∀ k,k<m->us.getD k undef=.slice none 0 0:=fun k f=>by
  have:=M k (by simpa using f) 0 (by simp [AV.cells]);simp only [bJ,AV.cells,aQ,Nat.mul_one,bV] at this;exact this.nils_inv
 have t:∀ k,us.toArray.getD k undef=us.getD k undef:=fun k=>by simp [aA,aC]
 have q:∀ k b,B5 (us.toArray.getD k undef)≠some b:=fun k b y=>by
  rw [t] at y;by_cases f:k<m
  ·rw [n k f] at y;simp [B5] at y
  ·rw [aC,getElem?_eq_none (by omega)] at y;simp [undef,B5] at y
 refine ⟨nstV s us.toArray,fun b y=>?_,fun S' hS aa=>⟨⟨s,us.toArray,rfl,C,by simp [L],⟨us,by rw [bN];exact c,D,fun k f _=>(t k).symm⟩,fun k f=>?_,fun i j b hi=>absurd hi (q i b),fun i b _=>q i b⟩,fun γ' x v z B Q U=>?_⟩⟩
 ·rcases mem_nstV.1 y with h|⟨j,h⟩
  ·exact (Eo H G).2 h
  ·exact absurd h (q j b)
 ·have N:k<m:=by simpa using f
  rw [bJ,t,n k N];exact ⟨rfl,[],World.ownsRow_nil _ _ _ _,fun k f=>absurd f (by simp),fun k f=>absurd f (by simp),fun u W=>by cases W⟩
 ·have I:x=.row r:=by
   cases x with
   |row i=>simp only [AV.leafId,Option.some.injEq] at Q;rw [Q]
   |_=>simp [Dr] at B
  subst I;have J:v=s:=U.row_inv hd (Gg C);subst J;refine .cont z (fun g s' e=>?_) ?_
  ·injection e with e
   injection e with _ e
   subst e;simp only [Dv.of,con0]
  ·rcases c.2 with ⟨p,h0⟩|⟨g,P,ab,p,_⟩
   ·exact ⟨none,0,by rw [p,h0],fun h=>by omega⟩
   ·exact ⟨_,P,p,fun _=>⟨g,0,rfl⟩⟩
end
section
variable {cx:Cx} {o:Oper} {σ:AS}
variable {x:Operand}
theorem zd9 {T n e eb m:Nat}{y:Operand}{i:TyI}{k:IntKind}(t:o.op=.indexAddr T x y)(H:dok cx o=true)(q:A4 x=true)(p:A4 y=true)(B:σ.eval x=.cont n id)(z:σ.eval y=.int k (m:Int))(I:lkT cx.E.tab T=some i)(hs:i.shape=.slc e 1 eb)(hm:m<n):Ah cx o σ (.der (.nelt m) id) [] [] :=
 Ba H fun τ γ a w h1 L f=>by
  have j:=f.ev x q;rw [h1 x (by simp [t,Op.operands]),B] at j;have d:=f.ev y p;rw [h1 y (by simp [t,Op.operands]),z] at d;obtain ⟨D,u,_⟩:=Cu (cx.E.ok T i I) hs;cases j with
  |cont h C G =>
   obtain ⟨A,c,v,J⟩:=G;obtain ⟨b,off,rfl⟩:=J (by omega);refine ⟨.pointer (some ⟨b,off+m,none⟩),?_,.der h (fun g s e=>⟨by cases s<;>rfl,?_⟩)⟩
   ·simp [execOp,t,v,d.int_inv,Instr.indexAt,asIntOf,run_underlying D,E8 u (by omega:(1:Nat)≠0),hm,pure,Addr.add_lit]
   ·have:=C g s e;rw [v] at this;cases s with
    |tuple vs =>
     simp only [Dv.of] at this ⊢;rw [<-this]
    |agg vs =>
     simp only [Dv.of] at this ⊢;rw [<-this]
    |_=>simp [Dv.of,undef] at this
variable {ty:Nat}
theorem zsr {γ':Gam}{τ:AS}{a:Act}{w w':World}{dst:Option Nat}{q:Nat}{Z:List NE}{e:Ent}{av:AV}{v:Value}(p:StG cx γ τ a w)(hd:∀ x,dst=some x->cx.E.np<=x/\x<cx.nt)(O:id≠q)(G:γ id=some (nstV s vs))(z:γ' id=some (nstV s vs'))(c:∀ i,i≠id->i≠q->γ' i=γ i)
  (hq:∀ x,γ q=some x->γ' q=some none) (u:∀ b,own γ' b ↔ own γ b) (y:∀ b d,γ' q=some d->b∈blks d->b ∉ blks (nstV s vs')/\(∀ i n,i≠id->i≠q->γ i=some n->b ∉ blks n)) (M:∀ i n b,i≠id->i≠q->γ i=some n->b∈blks n->b ∉ blks (nstV s vs'))
  (L:w.heap.size<=w'.heap.size) (D:∀ k,B5 s≠some k->w'.heap[k]? = w.heap[k]?) (P:Below cx.w0.heap.size w w') (X:w.drawn<=w'.drawn)
  (hn:(∀ b,Sg cx.S0 cx.w0.heap.size γ b->b<w.heap.size->w'.heap[b]? = w.heap[b]? /\ Sg cx.S0 cx.w0.heap.size γ' b)->Bj w' (Sg cx.S0 cx.w0.heap.size γ') γ' cx.w0.heap.size (nstV s vs') (.nest ty Z))
  (he:(∀ b,Sg cx.S0 cx.w0.heap.size γ b->b<w.heap.size->w'.heap[b]? = w.heap[b]? /\ Sg cx.S0 cx.w0.heap.size γ' b)->∃ x,γ' q=some x/\Bj w' (Sg cx.S0 cx.w0.heap.size γ') γ' cx.w0.heap.size x e)
  (hv:Rep w' (Sg cx.S0 cx.w0.heap.size γ') γ' av v):St cx (τ.upd dst av [(id,.nest ty Z),(q,e)]) (a.put dst v) w':=by
 have t:∀ b,B5 s=some b->own γ b:=fun b Q=>⟨id,_,G,mem_nstV.2 (aH Q)⟩
 have U:∀ b,Sg cx.S0 cx.w0.heap.size γ b->B5 s≠some b:=fun b S e=>by
  have I:=t b e;rcases S with ⟨_,h⟩|⟨_,h⟩
  ·have:=(p.ge b I).1.1;omega
  ·exact h I
 have Y:∀ b,Sg cx.S0 cx.w0.heap.size γ b->Sg cx.S0 cx.w0.heap.size γ' b:=fun b Q=>Q.elim aH (fun ⟨h1,g⟩=>aF ⟨h1,fun I=>g ((u b).1 I)⟩)
 have W:∀ b,Sg cx.S0 cx.w0.heap.size γ b->b<w.heap.size->w'.heap[b]? = w.heap[b]? /\ Sg cx.S0 cx.w0.heap.size γ' b:=fun b S _=>⟨D b (U b S),Y b S⟩
 refine ⟨γ',p.step hd L W (fun i x H=>?_) (fun i hi=>?_) (fun i e0 hi=>?_) (fun i j b d n hi f m C=>?_) (fun b Q=>?_) (p.below.trans P) hv (fun b N _=>⟨D b (fun e=>N (t b e)),fun I=>N ((u b).1 I)⟩) (fun _=>X)⟩
 ·by_cases h1:i=id
  ·subst h1;rw [G] at H;injection H with H;subst H;exact aF (aF (zwo z))
  ·by_cases g:i=q
   ·subst g;exact aF (aH (hq x H))
   ·exact aH ((c i h1 g).trans H)
 ·rw [Zs O] at hi;by_cases h1:i=id
  ·rw [if_pos h1] at hi;cases hi
  ·rw [if_neg h1] at hi;by_cases g:i=q
   ·rw [if_pos g] at hi;cases hi
   ·exact ⟨c i h1 g,fun b d hi hm=>D b (fun e=>h1 (p.inj _ _ _ _ _ hi G hm (mem_nstV.2 (aH e))))⟩
 ·rw [Zs O] at hi;by_cases h1:i=id
  ·subst h1;rw [if_pos rfl] at hi;injection hi with hi
   subst hi;exact ⟨_,z,hn W⟩
  ·rw [if_neg h1] at hi;by_cases g:i=q
   ·subst g;rw [if_pos rfl] at hi;injection hi with hi
    subst hi;exact he W
   ·rw [if_neg g] at hi;cases hi
 ·have sym:∀ i j d n,γ' i=some d->γ' j=some n->b∈blks d->b∈blks n->i=id->i=j:=fun i j d n hi f m C h1=>by
   subst h1;rw [z] at hi;injection hi with hi
   subst hi;by_cases g:j=i
   ·exact g.symm
   ·by_cases B:j=q
    ·subst B;exact absurd m (y b n f C).1
    ·rw [c j g B] at f;exact absurd m (M j n b g B f C)
  by_cases h1:i=id
  ·exact sym i j d n hi f m C h1
  ·by_cases g:j=id
   ·exact (sym j i n d f hi C m g).symm
   ·by_cases B:i=q
    ·by_cases J:j=q
     ·rw [B,J]
     ·subst B;rw [c j g J] at f;exact absurd C ((y b d hi m).2 j n g J f)
    ·by_cases J:j=q
     ·subst J;rw [c i h1 B] at hi;exact absurd m ((y b n f C).2 i d h1 B hi)
     ·rw [c i h1 B] at hi;rw [c j g J] at f;exact p.inj _ _ _ _ _ hi f m C
 ·have:=p.ge b ((u b).1 Q);exact ⟨this.1,Nat.lt_of_lt_of_le this.2 L⟩
variable {es:List NE}
theorem zst {τ:AS}{a:Act}{w:World}(c:StG cx γ τ a w)(h:τ.find id=some (.nest ty es)) :
  ∃ s vs us,γ id=some (nstV s vs)/\s.oneCell'=true/\vs.size=es.length/\w.ownsRow cx.w0.heap.size ty 1 s es.length us/\(∀ u∈us,u.oneCell'=true)/\(∀ k (j:k<es.length),es[k]≠.hole->us.getD k undef=vs.getD k undef)/\(∀ k (j:k<es.length),NRep w (Sg cx.S0 cx.w0.heap.size γ) cx.w0.heap.size (vs.getD k undef) es[k])/\DisB (B5 s) vs:=by
 have b:=c.me id;rw [h] at b;obtain ⟨d,g,s,vs,f,h1,v,⟨us,t,q,p⟩,n,m⟩:=b;subst f;exact ⟨s,vs,us,g,h1,v,t,q,p,n,m⟩
theorem zpr {T d k ety sz:Nat}{i:TyI}{xs:List AV}(ho:o.op=.load T x)(aj:o.dst=some d)(hd:dok cx o=true)(ac:A4 x=true)(v:σ.eval x=.der (.nelt k) id)(hT:lkT cx.E.tab T=some i)(ha:i.shape.agg=false)(hl:σ.find id=some (.nest ty es))(he:es[k]? = some (.row ety sz xs))(hn:σ.find d=none)(aa:id≠d) :
  Ah cx o σ (.row d) [id,d] [(id,.nest ty (es.set k .hole)),(d,.row ety sz xs)]:=by
 refine ⟨fun i e he=>zqm he,fun τ h1 t a w Q K ⟨γ,p⟩ hK=>C6 (fun c W=>by rw [ho] at W;cases W) ?_⟩;have ex:=p.ev x ac;rw [h1 x (by simp [ho,Op.operands]),v] at ex;obtain ⟨s,vs,us,H,af,ad,u,Y,X,Z,B⟩:=zst p (by rw [t id (by simp)];exact hl);obtain ⟨hk,ab⟩:=List.getElem?_eq_some_iff.1 he;have D:γ d=none:=by have:=p.me d;rw [t d (by simp),hn] at this;exact this
 have M:=Z k hk;rw [ab] at M;obtain ⟨us1,ag⟩:=zzr M;obtain ⟨J,I⟩:=Jd ag;have ai:(execOp a.eval o).run cx.P w=.ok (.value (vs.getD k undef)) w:=by
  have L:=u;rcases u.2 with ⟨_,h0⟩|⟨g,al,ak,ae,_,U,_⟩
  ·omega
  ·subst ae;have hv:a.eval x=.pointer (some ⟨g,0+k,none⟩):=by rw [ex.der_inv H];simp only [Dv.of,con0]
   have W:=Mu L rfl k (by omega);have G:=Rb (cx.E.ok T i hT) ha w ⟨g,0+k,none⟩ (us.getD k undef) (by rw [bI];exact W);rw [X k hk (by rw [ab];simp)] at G;simp only [execOp,ho,hv,Instr.loadAt,Instr.sureAddr,Sem.run_bind,Sem.run_pure,Result.andThen_ok,G]
 unfold Oper.wp;rw [ai];have ah:k<vs.size:=by omega
 have z:∀ i,(vs.setIfInBounds k .nilFunc).getD i undef=if i=k then .nilFunc else vs.getD i undef:=fun i=>znj _ _ _ _ ah
 have n:∀ i b,B5 ((vs.setIfInBounds k .nilFunc).getD i undef)=some b->i≠k/\B5 (vs.getD i undef)=some b:=fun i b h=>by
  rw [z] at h;by_cases h':i=k
  ·rw [if_pos h'] at h;simp [B5] at h
  ·rw [if_neg h'] at h;exact ⟨h',h⟩
 let γ':Gam:=fun i=>if i=id then some (nstV s (vs.setIfInBounds k .nilFunc)) else if i=d then some (some ((vs.getD k undef).ownBlock,vs.getD k undef)) else γ i
 have g1:γ' id=some (nstV s (vs.setIfInBounds k .nilFunc)):=if_pos rfl;have g2:γ' d=some (some ((vs.getD k undef).ownBlock,vs.getD k undef)):=by show (if d=id then _ else if d=d then _ else _)=_;rw [if_neg (Ne.symm aa),if_pos rfl]
 have g3:∀ i,i≠id->i≠d->γ' i=γ i:=fun i h1 t=>by show (if i=id then _ else if i=d then _ else _)=_;rw [if_neg h1,if_neg t]
 have bl:∀ i S b,i≠id->γ i=some S->b∈blks S->B5 s≠some b/\∀ j,B5 (vs.getD j undef)≠some b:=fun i S b hi C f =>
  ⟨fun e=>hi (p.inj _ _ _ _ _ C H f (mem_nstV.2 (aH e))),fun j y=>hi (p.inj _ _ _ _ _ C H f (mem_nstV.2 (aF ⟨j,y⟩)))⟩
 refine hK _ _ (zsr (γ':=γ') (q:=d) (w':=w) p (C2 hd) aa H g1 g3 (fun x v=>by rw [D] at v;cases v) (fun b=>⟨fun ⟨i,x,hi,f⟩=>?_,fun ⟨i,x,hi,f⟩=>?_⟩) (fun b x v f=>?_) (fun i S b h1 t hi f W=>?_) (aD _) (fun _ _=>rfl) (Below.refl _ _) (aD _) (fun N=>?_) (fun N=>?_) (.row g2 (fun g s e _=>by injection e with e;injection e with _ e)))
 ·by_cases h1:i=id
  ·subst h1;rw [g1] at hi;injection hi with hi;subst hi
   rcases mem_nstV.1 f with f|⟨j,f⟩
   ·exact ⟨_,_,H,mem_nstV.2 (aH f)⟩
   ·exact ⟨_,_,H,mem_nstV.2 (aF ⟨j,(n j b f).2⟩)⟩
  ·by_cases t:i=d
   ·subst t;rw [g2] at hi;injection hi with hi;subst hi
    exact ⟨_,_,H,mem_nstV.2 (aF ⟨k,(Eo J I).1 f⟩)⟩
   ·rw [g3 i h1 t] at hi;exact ⟨i,x,hi,f⟩
 ·by_cases h1:i=id
  ·subst h1;rw [H] at hi;injection hi with hi;subst hi
   rcases mem_nstV.1 f with f|⟨j,f⟩
   ·exact ⟨_,_,g1,mem_nstV.2 (aH f)⟩
   ·by_cases m:j=k
    ·subst m;exact ⟨_,_,g2,(Eo J I).2 f⟩
    ·exact ⟨_,_,g1,mem_nstV.2 (aF ⟨j,by rw [z,if_neg m];exact f⟩)⟩
  ·by_cases t:i=d
   ·subst t;rw [D] at hi;cases hi
   ·exact ⟨i,x,(g3 i h1 t).trans hi,f⟩
 ·rw [g2] at v;injection v with v;subst v
  have P:=(Eo J I).1 f;refine ⟨fun h=>?_,fun i S h1 t hi hm=>(bl i S b h1 hi hm).2 k P⟩;rcases mem_nstV.1 h with h|⟨i,h⟩
  ·exact B.2 k b h P
  ·exact (n i b h).1 (B.1 _ _ _ (n i b h).2 P)
 ·obtain ⟨q1,q2⟩:=bl i S b h1 hi f;rcases mem_nstV.1 W with h|⟨j,h⟩
  ·exact q1 h
  ·exact q2 j (n j b h).2
 ·refine ⟨s,vs.setIfInBounds k .nilFunc,rfl,af,by simp [ad],⟨us,by rw [length_set];exact u,Y,fun j y U=>?_⟩,fun j y=>?_,fun i j b hi y=>B.1 i j b (n i b hi).2 (n j b y).2,fun i b f hi=>B.2 i b f (n i b hi).2⟩
  ·have O:j<es.length:=by simpa using y
   simp only [aY] at U;rw [z];by_cases m:k=j
   ·rw [if_pos m] at U;exact absurd rfl U
   ·rw [if_neg m] at U;rw [if_neg (fun e=>m e.symm)];exact X j O U
  ·have O:j<es.length:=by simpa using y
   simp only [aY];rw [z];by_cases m:k=j
   ·rw [if_pos m,if_pos m.symm];rfl
   ·rw [if_neg m,if_neg (fun e=>m e.symm)];exact (Z j O).moved (aD _) N (fun _ _=>rfl)
 ·obtain ⟨q1,us',q2,q3,q4,q5⟩:=M;exact ⟨_,g2,vs.getD k undef,us',rfl,q1,q2,q3,fun k hk j y=>(q4 k hk j y).mono (aD _) N,q5⟩
theorem zm7 {T q k ety sz:Nat}{y:Operand}{i:TyI}{xs:List AV}(ho:o.op=.store T x y)(hd:dok cx o=true)(ar:A4 x=true)(aq:A4 y=true)(Z:σ.eval x=.der (.nelt k) id)(hy:σ.eval y=.row q)(hT:lkT cx.E.tab T=some i)(an:i.sz=1)(hl:σ.find id=some (.nest ty es))(hq:σ.find q=some (.row ety sz xs))(he:es[k]? = some .hole)(ab:id≠q) :
  Ah cx o σ (.tup []) [id,q] [(id,.nest ty (es.set k (.row ety sz xs))),(q,.dead)]:=by
 refine ⟨fun i e he=>zqm he,fun τ h1 z a w Q K ⟨γ,p⟩ hK=>C6 (fun c hc=>by rw [ho] at hc;cases hc) ?_⟩;have ex:=p.ev x ar;rw [h1 x (by simp [ho,Op.operands]),Z] at ex;have ey:=p.ev y aq;rw [h1 y (by simp [ho,Op.operands]),hy] at ey;obtain ⟨s,vs,us,Y,ay,ax,X,ak,au,am,ag⟩:=zst p (by rw [z id (by simp)];exact hl);obtain ⟨G,us1,B,v,H,ad,az,al⟩:=Sa (id:=q) p (by rw [z q (by simp)];exact hq);obtain ⟨N,M⟩:=Jd H;obtain ⟨hk,bd⟩:=List.getElem?_eq_some_iff.1 he;have bc:k<vs.size:=by omega
 have ah:G.cells=#[G]:=by rcases H.2 with ⟨e,_⟩|⟨_,_,_,e,_⟩<;>(rw [e];rfl)
 have av:us.length=es.length*1:=X.1;obtain ⟨g,I,n,aa,ai,hh,ac,bb,bj,aw⟩:∃ g I n,s=.slice (some ⟨g,0,none⟩) es.length I/\cx.w0.heap.size<=g/\w.heap[g]? = some (.cells n ty (0,0))/\es.length<=I/\I<=maxLen/\n.size=I*1/\n.toList.take (es.length*1)=us:=by
  rcases X.2 with ⟨_,h0⟩|h
  ·omega
  ·exact h
 have U:B5 s=some g:=by rw [aa];rfl
 have hv:a.eval x=.pointer (some ⟨g,0+k,none⟩):=by rw [ex.der_inv Y,aa];simp only [Dv.of,con0]
 have bh:a.eval y=G:=ey.row_inv B (Gg v);have J:=Zg (cx.E.ok T i hT) w g (0+k) ty n G hh (by rw [ah,an];rfl) (by omega) (fun u P=>by rw [ah] at P;simp at P;rw [P];exact v);rw [ah,an,bI] at J;generalize L:(n.toList.take k++(#[G]:Array Value).toList++n.toList.drop (k+1)).toArray=m at J;have bg:(execOp a.eval o).run cx.P w=.ok .skip (w.setRow g m):=by
  rw [bI] at hv;simp only [execOp,ho,hv,bh,Instr.storeAt,Instr.sureAddr,Sem.run_bind,Sem.run_pure,Result.andThen_ok,J]
 unfold Oper.wp;rw [bg];have ao:=setRow_heap w g n m ty (0,0) hh;have t:∀ q,q≠g->(w.setRow g m).heap[q]? = w.heap[q]? := fun q hq=>setRow_other w g q _ hq
 have O:w.heap.size<=(w.setRow g m).heap.size:=by simp
 have bi:w.drawn<=(w.setRow g m).drawn:=aD _;have bf:own γ g:=⟨id,_,Y,mem_nstV.2 (aH U)⟩;have ap:Below cx.w0.heap.size w (w.setRow g m):=⟨rfl,rfl,rfl,O,fun k hk=>t k (by have:=(p.ge g bf).1.1;omega)⟩;generalize w.setRow g m=w' at *;have D:∀ i,(vs.setIfInBounds k G).getD i undef=if i=k then G else vs.getD i undef:=fun i=>znj _ _ _ _ bc
 have bl:∀ i d' b,i≠id->γ i=some d'->b∈blks d'->B5 s≠some b/\∀ j,B5 (vs.getD j undef)≠some b:=fun i d' b hi W d =>
  ⟨fun e=>hi (p.inj _ _ _ _ _ W Y d (mem_nstV.2 (aH e))),fun j C=>hi (p.inj _ _ _ _ _ W Y d (mem_nstV.2 (aF ⟨j,C⟩)))⟩
 have S:∀ b,B5 G=some b->B5 s≠some b/\∀ j,B5 (vs.getD j undef)≠some b:=fun b d=>bl q _ b (Ne.symm ab) B ((Eo N M).2 d)
 have ba:∀ b,B5 (vs.getD k undef)≠some b:=fun b d=>by
  have:=am k hk;rw [bd] at this;have this:vs.getD k undef=.nilFunc:=this;rw [this] at d;simp [B5] at d
 let γ':Gam:=fun i=>if i=id then some (nstV s (vs.setIfInBounds k G)) else if i=q then some none else γ i
 have g1:γ' id=some (nstV s (vs.setIfInBounds k G)):=if_pos rfl;have g2:γ' q=some none:=by show (if q=id then _ else if q=q then _ else _)=_;rw [if_neg (Ne.symm ab),if_pos rfl]
 have g3:∀ i,i≠id->i≠q->γ' i=γ i:=fun i h1 z=>by show (if i=id then _ else if i=q then _ else _)=_;rw [if_neg h1,if_neg z]
 refine hK _ _ (zsr (γ':=γ') (q:=q) (w':=w') p (C2 hd) ab Y g1 g3 (fun x Z=>g2) (fun b=>⟨fun ⟨i,x,hi,d⟩=>?_,fun ⟨i,x,hi,d⟩=>?_⟩) (fun b x Z d=>?_) (fun i d' b h1 z hi d hc=>?_) O (fun b d=>t b (fun e=>d (by rw [e];exact U))) ap bi (fun ae=>?_) (fun ae=>⟨_,g2,rfl⟩) (.tup #[] rfl (fun j C=>absurd C (by simp))))
 ·by_cases h1:i=id
  ·subst h1;rw [g1] at hi;injection hi with hi;subst hi
   rcases mem_nstV.1 d with d|⟨j,d⟩
   ·exact ⟨_,_,Y,mem_nstV.2 (aH d)⟩
   ·rw [D] at d;by_cases f:j=k
    ·rw [if_pos f] at d;exact ⟨_,_,B,(Eo N M).2 d⟩
    ·rw [if_neg f] at d;exact ⟨_,_,Y,mem_nstV.2 (aF ⟨j,d⟩)⟩
  ·by_cases z:i=q
   ·subst z;rw [g2] at hi;injection hi with hi;subst hi;cases d
   ·rw [g3 i h1 z] at hi;exact ⟨i,x,hi,d⟩
 ·by_cases h1:i=id
  ·subst h1;rw [Y] at hi;injection hi with hi;subst hi
   rcases mem_nstV.1 d with d|⟨j,d⟩
   ·exact ⟨_,_,g1,mem_nstV.2 (aH d)⟩
   ·exact ⟨_,_,g1,mem_nstV.2 (aF ⟨j,by rw [D,if_neg (fun e=>by subst e;exact ba b d)];exact d⟩)⟩
  ·by_cases z:i=q
   ·subst z;rw [B] at hi;injection hi with hi;subst hi
    exact ⟨_,_,g1,mem_nstV.2 (aF ⟨k,by rw [D,if_pos rfl];exact (Eo N M).1 d⟩)⟩
   ·exact ⟨i,x,(g3 i h1 z).trans hi,d⟩
 ·rw [g2] at Z;injection Z with Z;subst Z;cases d
 ·obtain ⟨q1,q2⟩:=bl i d' b h1 hi d;rcases mem_nstV.1 hc with h|⟨j,h⟩
  ·exact q1 h
  ·rw [D] at h;by_cases f:j=k
   ·rw [if_pos f] at h;exact z (p.inj _ _ _ _ _ hi B d ((Eo N M).2 h))
   ·rw [if_neg f] at h;exact q2 j h
 ·have aj:m.toList.take (es.length*1)=us.set k G:=by
   rw [<-L,<-aw,set_eq_take_append_cons_drop,if_pos (by simp;omega)];have:=zj0 n.toList [G] k (es.length*1) (by simp;omega) (by simp;omega);simpa using this
  refine ⟨s,vs.setIfInBounds k G,rfl,ay,by simp [ax],⟨us.set k G,⟨by simp [av],aF ⟨g,I,m,by rw [length_set];exact aa,ai,ao,by simpa using ac,bb,?_,by simpa using aj⟩⟩,fun u P=>?_,fun j C hh=>?_⟩,fun j C=>?_,fun i j b hi C=>?_,fun i b d hi=>?_⟩
  ·rw [<-L];have:=Zp n.toList [G] k (by simp;omega);simpa [bj] using this
  ·rcases mem_or_eq_of_mem_set P with P|P
   ·exact ak u P
   ·rw [P];exact v
  ·have af:j<es.length:=by simpa using C
   rw [D];by_cases f:j=k
   ·subst f;rw [if_pos rfl,aC,bK (by omega)];rfl
   ·rw [if_neg f,aC,getElem?_set_ne (fun e=>f e.symm),<-aC];simp only [aY] at hh;rw [if_neg (fun e=>f e.symm)] at hh;exact au j af hh
  ·have af:j<es.length:=by simpa using C
   simp only [aY];rw [D];by_cases f:j=k
   ·rw [if_pos f.symm,if_pos f];exact ⟨v,us1,H.moved (fun b d=>t b (fun e=>(S b d).1 (by rw [U,e]))),ad,fun k hk j C=>(az k hk j C).mono O ae,al⟩
   ·rw [if_neg f,if_neg (fun e=>f e.symm)];exact (am j af).moved O ae (fun b d=>t b (fun e=>ag.2 j b (by rw [U,e]) d))
  ·rw [D] at hi C;by_cases h1:i=k
   ·by_cases z:j=k
    ·rw [h1,z]
    ·rw [if_pos h1] at hi;rw [if_neg z] at C;exact absurd C ((S b hi).2 j)
   ·by_cases z:j=k
    ·rw [if_neg h1] at hi;rw [if_pos z] at C;exact absurd hi ((S b C).2 i)
    ·rw [if_neg h1] at hi;rw [if_neg z] at C;exact ag.1 i j b hi C
  ·rw [D] at hi;by_cases h1:i=k
   ·rw [if_pos h1] at hi;exact (S b hi).1 d
   ·rw [if_neg h1] at hi;exact ag.2 i b d hi
end
open Go.RowKit
section
variable {α β:Type}
def mkn (n:Int)(bytes:Nat)(k:Nat->Option β):Option β:=if 0<=n/\n.toNat<=1099511627776/\bytes*n.toNat<=281474976710656 then k n.toNat else none
theorem MakX.on {n:Int}{bytes:Nat}{K:List AV->Prop}{k:Nat->Option β}{r:β}(h:mkn n bytes k=some r)(b:∀ m,k m=some r->K (aO m .nils)):MakX n bytes .nils K:=by
 unfold mkn at h;split at h
 ·rename_i a;exact .mk n.toNat (by omega) a.2.1 a.2.2 _ (.refl _) (b _ h)
 ·cases h
def nst (r:Nat)(x:Option β):Option β:=x
def frr (r:Nat)(x:Option β):Option β:=x
def enR (er:α->AV)(ety sz:Nat)(q:List α):NE:=.row ety sz (q.map er)
def ncx (n:Int)(len:Nat)(c:Option β):Option β:=if 0<=n/\n.toNat<len then c else none
def ntk (l:List (List α))(k:Nat)(c:List α->Option β):Option β:=match l[k]? with|some q=>c q|none=>none
def npt (l:List (List α))(k:Nat)(v:List α)(c:List (List α)->Option β):Option β:=if k<l.length then c (l.set k v) else none
end
section
variable {α β:Type} {E:Env} {nt:Nat} {o:Oper} {σ:AS} {K:OpK}
variable {x:Operand}
theorem OpX.ixc {n:Int}{len:Nat}{c:Option β}{r:β}{T e eb:Nat}{y:Operand}{i:TyI}{kd:IntKind}(a:ncx n len c=some r)(m:o.op=.indexAddr T x y)(t:dokN E nt o.dst=true)(d:A4 x=true)(b:A4 y=true)(j:σ.eval x=.cont len id)(h:σ.eval y=.int kd n)(u:lkT E.tab T=some i)(hs:i.shape=.slc e 1 eb)
  (q:c=some r->K (.der (.nelt n.toNat) id) [] []):OpX E nt o σ K:=by
 unfold ncx at a;split at a
 ·rename_i p;exact .mk _ _ _ (fun cx g f=>zd9 m (Al t g f) d b j (by rw [h];congr 1;omega) (by rw [g];exact u) hs p.2) (q a)
 ·cases a
variable {l:List (List α)}
theorem OpX.ntk (er:α->AV){k:Nat}{c:List α->Option β}{r:β}{T d ty ety sz:Nat}{i:TyI}(b:Proofs.YthbogefcfhmpgaaGreat.ntk l k c=some r)(p:o.op=.load T x)(a:o.dst=some d)(y:dokN E nt o.dst=true)(f:A4 x=true)(m:σ.eval x=.der (.nelt k) id)(B:lkT E.tab T=some i)(z:i.shape.agg=false)
  (u:σ.find id=some (.nest ty (l.map (enR er ety sz)))) (t:σ.find d=none) (h:aJ id d=false) (v:∀ q,c q=some r->K (.row d) [id,d] [(id,.nest ty ((l.map (enR er ety sz)).set k .hole)),(d,.row ety sz (q.map er))]):OpX E nt o σ K:=by
 unfold Proofs.YthbogefcfhmpgaaGreat.ntk at b;split at b
 ·rename_i q n;exact .mk _ _ _ (fun cx j g=>zpr p a (Al y j g) f m (by rw [j];exact B) z u (by rw [getElem?_map,n];rfl) t (nbne h)) (v _ b)
 ·cases b
theorem OpX.npt (er:α->AV){k:Nat}{v:List α}{c:List (List α)->Option β}{r:β}{T q ty ety sz:Nat}{y:Operand}{i:TyI}(a:Proofs.YthbogefcfhmpgaaGreat.npt l k v c=some r)(z:o.op=.store T x y)(D:dokN E nt o.dst=true)(d:A4 x=true)(b:A4 y=true)(t:σ.eval x=.der (.nelt k) id)(p:σ.eval y=.row q)(G:lkT E.tab T=some i)(m:i.sz=1)
  (B:σ.find id=some (.nest ty ((l.map (enR er ety sz)).set k .hole))) (u:σ.find q=some (.row ety sz (v.map er))) (g:aJ id q=false) (C:∀ l',c l'=some r->K (.tup []) [id,q] [(id,.nest ty (l'.map (enR er ety sz))),(q,.dead)]):OpX E nt o σ K:=by
 unfold Proofs.YthbogefcfhmpgaaGreat.npt at a;split at a
 ·rename_i j;have h:=C _ a;have e:((l.map (enR er ety sz)).set k .hole).set k (.row ety sz (v.map er))=(l.set k v).map (enR er ety sz):=by rw [set_set,map_set];rfl
  rw [<-e] at h;exact .mk _ _ _ (fun cx n f=>zm7 z (Al D n f) d b t p (by rw [n];exact G) m B u (by rw [bK (by simpa using j)]) (nbne g)) h
 ·cases a
end
section
variable {α β:Type} {E:Env} {nt:Nat}
def Jj:AV->Bool |.cont _ _=>true |_=>false
variable {l:List (List α)}
theorem LeX.frr (r:Nat)(er:α->AV)(ty ety sz:Nat)(hr:σ.find r=some (.nest ty (l.map (enR er ety sz)))):LeX E nt σ (σ.rpAll r Jj (.sl 1 (l.map fun q=>.sl sz (q.map er))) .dead):=by
 refine LeX.rpAll r Jj _ _ _ hr (fun ty cs h=>by cases h) (fun cx γ a w d ab hd he=>?_);obtain ⟨s,vs,p,O,N,⟨us,g,z,M⟩,Q,ac⟩:=he;have p:d=nstV s vs:=p;subst p;rw [bT] at N g;refine ⟨none,(fun b m=>by cases m),fun S' hS D=>⟨rfl,fun γ' x v Z u hx L=>?_⟩⟩;have I:∃ n,x=.cont n r:=by
  cases x with
  |cont n i=>simp only [AV.leafId,Option.some.injEq] at hx;exact ⟨n,by rw [hx]⟩
  |_=>simp [Jj] at u
 obtain ⟨n,rfl⟩:=I;have J:v=s:=by
  cases L with
  |cont h L hl =>
   rw [hd] at h;injection h with h
   have:=L none (.tuple (#[s]++vs)) h.symm;rw [this];simp only [Dv.of,con0]
 subst J;have W:∀ k,k<l.length->Rep w S' G0 (.sl sz ((l[k]?.getD []).map er)) (us.getD k undef):=fun k t=>by
  have h3:=Q k (by simpa using t);have h2:=M k (by simpa using t) (by simp [enR]);simp only [aX,enR] at h3;obtain ⟨q1,us',Y,q3,q4,q5⟩:=h3;obtain ⟨H,aa⟩:=Jd Y;obtain ⟨s',c,y⟩:=Gk (w:=w) (S:=Sg cx.S0 cx.w0.heap.size γ) (γ:=γ) (S':=S') (d:=some ((vs.getD k undef).ownBlock,vs.getD k undef)) ⟨_,us',rfl,q1,Y,q3,q4,q5⟩ (fun b m _=>hS b m) (fun s X e=>by
   injection e with e
   injection e with G e2
   rw [H] at G;exact D X (mem_nstV.2 (aF ⟨k,G⟩)) (fun m=>by cases m)) G0
  injection c with c
  injection c with _ c
  rw [h2,c,bD t];exact y
 obtain ⟨s0,f,P⟩:=Gk (w:=w) (S:=S') (γ:=γ) (S':=S') (B:=cx.w0.heap.size) (ty:=ty) (sz:=1) (xs:=l.map fun q=>.sl sz (q.map er)) (d:=some (v.ownBlock,v)) ⟨v,us,rfl,O,by rw [bT];exact g,fun k t=>by rw [aX];rfl,fun k t j hj=>by
   have C:k<l.length:=by simpa using t
   have U:j=0:=by
    have:j<1:=by simpa [AV.cells] using hj
    omega
   subst U;simp only [aX,AV.cells,aQ,Nat.mul_one,bV];have:=W k C;rw [bD C] at this;exact this,z⟩ (fun b m _=>m) (fun s X e=>by
   injection e with e
   injection e with G e2
   rw [(Jd g).1] at G;exact D X (mem_nstV.2 (aH G)) (fun m=>by cases m)) γ'
 injection f with f
 injection f with _ f
 rw [f];exact P
variable {R:Exit->AS->Prop} {K:List Bq}
theorem AW.frrO {ty ety sz:Nat}{c:Code}{x:Option β}{y:β}(er:α->AV)(h:Proofs.YthbogefcfhmpgaaGreat.frr id x=some y)(r:Nat)(a:σ.find r=some (.nest ty (l.map (enR er ety sz))))(k:x=some y->AW E nt R (.code c::K) .normal (σ.rpAll r Jj (.sl 1 (l.map fun q=>.sl sz (q.map er))) .dead)):AW E nt R (.code c::K) .normal σ:=AW.weaken (LeX.frr r er ty ety sz a) (k h)
theorem AW.nstO {ty m:Nat}{c:Code}{x:Option β}{y:β}{er:α->AV}(ety sz:Nat)(h:Proofs.YthbogefcfhmpgaaGreat.nst id x=some y)(r:Nat)(a:σ.find r=some (.row ty 1 (aO m .nils)))(k:x=some y->AW E nt R (.code c::K) .normal (σ.rpAll r Dr (.cont m r) (.nest ty ((aO m ([]:List α)).map (enR er ety sz))))):AW E nt R (.code c::K) .normal σ:=by
 have e:(aO m ([]:List α)).map (enR er ety sz)=aO m (.row ety sz []):=by rw [map_replicate];rfl
 rw [e] at k;exact AW.weaken (LeX.nst r ety sz a) (k h)
end
attribute [irreducible] mkn nst frr ntk npt ncx
open Go.RowKit
theorem zx2 {kd:IntKind}{a:AV}(h:isI kd a=true):a=.int kd (intN a):=by
 cases a<;>simp [isI] at h;subst h;rfl
def qK (n:Int)(p:AV×AV):Bool:=decide (n=intN p.1)
theorem zbm {kd:IntKind}{n:Int}:∀ (ps:List (AV×AV)) (i:Nat),(∀ p∈ps,isI kd p.1=true)->Bt (.int kd n) (ps.map (·.1)) i=some ((ps.findIdx? (qK n)).map (· + i))
 |[],i,_=>rfl
 |(a,v)::r,i,h=>by
  have c:=zx2 (h (a,v) (by simp));have d:=zbm (n:=n) r (i+1) (fun p f=>h p (by simp [f]));have e:eqK (.int kd n) a=some (decide (n=intN a)):=by
   simp only at c;rw [c];simp [eqK,eq1,show ∀ m,intN (.int kd m)=m from fun _=>rfl]
  simp only [map_cons,Bt,e];by_cases b:n=intN a
  ·rw [decide_eq_true b];simp [bE,qK,b]
  ·rw [decide_eq_false b];simp only [d,bE,qK,decide_eq_false b];simp only [bG,if_false,Option.map_map];congr 1;have g:(fun p:AV×AV=>decide (n=intN p.1))=qK n:=rfl
   try rw [g]
   cases findIdx? (qK n) r with
   |none=>rfl
   |some j=>simp;omega
theorem zi6 (z:AV)(q:AV×AV->Bool)(ps:List (AV×AV)):Eu z ps (ps.findIdx? q)=((ps.find? q).map (·.2)).getD z:=by
 induction ps with
 |nil=>rfl
 |cons p r ih =>
  rw [bE,find?_cons];cases a:q p with
  |true=>rfl
  |false =>
   simp only [bG,if_false];rw [<-ih];cases findIdx? q r<;>rfl
variable {ps0 ps:List (AV×AV)}
theorem znm {n:Int}(c:ps0.Perm ps)(m:(ps.map fun p=>intN p.1).Nodup):ps0.find? (qK n)=ps.find? (qK n):=by
 have uniq:∀ p∈ps,∀ a∈ps,qK n p=true->qK n a=true->p=a:=fun p h a t q d=>by
  obtain ⟨i,hi,rfl⟩:=aV.1 h;obtain ⟨j,g,rfl⟩:=aV.1 t;have e:intN ps[i].1=intN ps[j].1:=by
   simp only [qK,decide_eq_true_eq] at q d;rw [<-q,<-d]
  have:i=j:=(getElem_inj (h₀:=by simpa using hi) (h₁:=by simpa using g) m).1 (by simpa using e);subst this;rfl
 cases h:ps.find? (qK n) with
 |none =>
  rw [find?_eq_none] at h ⊢;exact fun p hm=>h p (c.mem_iff.1 hm)
 |some p =>
  have h1:=aZ h;have f:=find?_some h;cases b:ps0.find? (qK n) with
  |none=>rw [find?_eq_none] at b;exact absurd f (b p (c.mem_iff.2 h1))
  |some a=>rw [uniq a (c.mem_iff.1 (aZ b)) p h1 (find?_some b) f]
theorem Ex.mem (h:Ex ps0 ps){p:AV×AV}:p∈ps0 ↔ p∈ps:=by
 rcases h with rfl|⟨h,_⟩
 ·exact Iff.rfl
 ·exact h.mem_iff
theorem y3e {k:AV}{kd:IntKind}{r:Option Nat}(j:isI kd k=true)(h:∀ p∈ps,isI kd p.1=true)(f:(ps.map fun p=>intN p.1).Nodup)(c:ps0.Perm ps)(a:Bt k (ps.map (·.1)) 0=some r) :
  ∃ b,Bt k (ps0.map (·.1)) 0=some b/\b.isSome=r.isSome/\∀ z,Eu z ps0 b=Eu z ps r:=by
 have e:=zx2 j;rw [e,zbm ps 0 h] at a;injection a with a
 have g:∀ o:Option Nat,o.map (· + 0)=o:=fun o=>by cases o<;>rfl
 rw [g] at a;refine ⟨ps0.findIdx? (qK (intN k)),?_,?_,fun z=>?_⟩
 ·rw [e,zbm ps0 0 (fun p hm=>h p (c.mem_iff.1 hm)),g];simp [intN]
 ·rw [<-a];have d:∀ l:List (AV×AV),(l.findIdx? (qK (intN k))).isSome=(l.find? (qK (intN k))).isSome:=fun l=>by
   rw [findIdx?_isSome,Bool.eq_iff_iff,find?_isSome,bA]
  rw [d,d,znm c f]
 ·rw [zi6,<-a,zi6,znm c f]
theorem zqs {k:AV}{r:Option Nat}(b:Ex ps0 ps)(a:Bt k (ps.map (·.1)) 0=some r):∃ c,Bt k (ps0.map (·.1)) 0=some c/\c.isSome=r.isSome/\∀ z,Eu z ps0 c=Eu z ps r:=by
 rcases b with rfl|⟨b,kd,h1,g⟩
 ·exact ⟨r,a,rfl,fun _=>rfl⟩
 ·cases ps with
  |nil=>rw [perm_nil.1 b];exact ⟨r,a,rfl,fun _=>rfl⟩
  |cons p t =>
   refine y3e (kd:=kd) ?_ h1 g b a;have hi:=zx2 (h1 p (by simp));simp only [map_cons,Bt] at a;rw [hi] at a;cases k with
   |int d n =>
    simp only [eqK,eq1] at a;by_cases f:d=kd
    ·simp [isI,f]
    ·rw [decide_eq_false f] at a;cases a
   |_=>simp [eqK,eq1] at a
open Go.RowKit
def zro (args:List AV)(me:List (Nat×Ent)):AS:=⟨args.zipIdx.map fun p=>(p.2,p.1),me⟩
def boxB (np:Nat)(args:List AV)(τ:AS)(me me':List (Nat×Ent))(yk:List Nat):Bool:=me.all fun x=>match x.2 with
 |.box _ _=>memB x.1 yk || (range np).any fun t=>(match args[t]? with|some (.ptr k 0)=>aJ k x.1|_=>false) && (match τ.get t,lkE me' x.1 with|.ptr k 0,some (.box _ _)=>aJ k x.1|_,_=>false)
 |.row _ _ _=>match lkE me' x.1 with
  |none=>true
  |some (.row _ _ _)=>(range np).any fun t=>(match args[t]? with|some (.row k)=>aJ k x.1|_=>false) && (match τ.get t with|.row k=>aJ k x.1|_=>false)
  |some _=>false
 |_=>true
variable {args:List AV}{me me':List (Nat×Ent)}
theorem ztm {np:Nat}{τ:AS}{yk:List Nat}(h:boxB np args τ me me' yk=true){i ty sz:Nat}{xs:List AV}(hi:lkE me i=some (.row ty sz xs)){e:Ent}(v:lkE me' i=some e) :
  ∃ t b c a,t<np/\args[t]? = some (.row i)/\τ.get t=.row i/\e=.row b c a:=by
 have g:=bB.1 h (i,.row ty sz xs) (Sn hi);simp only [v] at g;split at g
 ·rename_i f;cases f
 ·rename_i b c a f;injection f with f
  obtain ⟨t,p,d⟩:=bA.1 g;rw [bM] at p;rw [aT] at d;obtain ⟨n,m⟩:=d;split at n
  ·rename_i k u;have z:k=i:=aB n;subst z;split at m
   ·rename_i q j;have y:q=k:=aB m;subst y;exact ⟨t,b,c,a,p,u,j,f⟩
   ·cases m
  ·cases n
 ·cases g
variable {w:World}
theorem zrv {w':World}{S S':Nat->Prop}{γ':Gam}{B B' i ty sz c f:Nat}{xs b:List AV}{d j:Option (Option Nat×Value)}{v:Value}(h1:Rep w S γ (.row i) v)(t:Rep w' S' γ' (.row i) v)(h:γ i=some d)(a:γ' i=some j)
  (q:Bj w S γ B d (.row ty sz xs)) (g:Bj w' S' γ' B' j (.row c f b)):γ' i=γ i:=by
 obtain ⟨s,vs,y,p,_⟩:=q;obtain ⟨z,vs',u,o2,_⟩:=g;subst y u;have n:=h1.row_inv h (Gg p);have m:=t.row_inv a (Gg o2);rw [h,a,<-n,<-m]
def YK (np:Nat)(args:List AV)(τ:AS)(me':List (Nat×Ent)):List Nat->Prop |[]=>True |k::r=>((∃ (t a i l:Nat) (T:Array Value) (caps caps':List AV) (ty:TypeId) (es:List AV),args[t]? = some (.yld l T caps)/\τ.get a=.yld l T caps'/\caps[i]? = some (.ptr k 0)/\caps'[i]? = some (.ptr k 0)/\lkE me' k=some (.box ty es)) \/ ∃ (t i f:Nat) (caps caps':List AV) (ty:TypeId) (es:List AV),t<np/\args[t]? = some (.fn f caps)/\τ.get t=.fn f caps'/\caps[i]? = some (.ptr k 0)/\caps'[i]? = some (.ptr k 0)/\lkE me' k=some (.box ty es))/\YK np args τ me' r
theorem YK.at {np:Nat}{τ:AS}:∀ {l:List Nat},YK np args τ me' l->∀ k∈l,(∃ (t b i l:Nat) (T:Array Value) (caps caps':List AV) (ty:TypeId) (es:List AV),args[t]? = some (.yld l T caps)/\τ.get b=.yld l T caps'/\caps[i]? = some (.ptr k 0)/\caps'[i]? = some (.ptr k 0)/\lkE me' k=some (.box ty es)) \/
   ∃ (t i f:Nat) (caps caps':List AV) (ty:TypeId) (es:List AV),t<np/\args[t]? = some (.fn f caps)/\τ.get t=.fn f caps'/\caps[i]? = some (.ptr k 0)/\caps'[i]? = some (.ptr k 0)/\lkE me' k=some (.box ty es)
 |[],_,k,a=>by cases a
 |x::r,h,k,a=>by
  rcases mem_cons.1 a with rfl|a
  ·exact h.1
  ·exact h.2.at k a
inductive GX (E:Env) (nt:Nat) (fn:Func) (args:List AV) (me:List (Nat×Ent)) (σ:AS) (res:AV) (me':List (Nat×Ent)):Prop
 |mk (τ:AS) (hl:LeX E nt σ τ) (hme:τ.me=me') (avs:List AV) (h1:retA E.tab τ fn.results.toList=some avs) (h2:Sub (Jm avs) res) (yk:List Nat) (hyk:YK E.np args τ me' yk) (hb:boxB E.np args τ me me' yk=true)
def EndG (E:Env)(nt:Nat)(fn:Func)(args:List AV)(me:List (Nat×Ent))(res:AV)(me':List (Nat×Ent)):Exit->AS->Prop |.normal,σ=>GX E nt fn args me σ res me' |.ret,σ=>GX E nt fn args me σ res me' |_,_=>False
variable {fn:Func}
theorem ConG.walk {f:FuncId}{caps:List AV}{res:AV}(c:Code)(hf:E.P.funcs[f]? = some fn)(S:fn.body=some c)(hn:bP (args++caps).length fn.ntmps=true)(aw:bP E.np (args++caps).length=true)(av:E.rg=false)(az:E.dr=false)
  (h:AW E fn.ntmps (EndG E fn.ntmps fn (args++caps) me res me') [.code c] .normal (zro (args++caps) me)):ConG E.P E.yl (CalF E.P f caps.length) args caps me res me':=by
 intro cx γ w vs cs hP al ao aj ak d af aq bb ba;have bg:(vs++cs).size=(args++caps).length:=by simp [af,ba]
 have bk:=aG hn;have bf:=aG aw;refine callsIn_wide.1 (callsIn_of_wp (F:=Fence.wide) (n:=0) hf S trivial ?_);let H:Cx:=⟨E,cx.S0,cx.w0,fn.ntmps,fun b=>b<w.heap.size/\¬own γ b,w,none,vs++cs,fun _=>rfl⟩;have h0:WP H c (EndG E fn.ntmps fn (args++caps) me res me') (zro (args++caps) me):=bC (h.out H rfl rfl) fun e σ hk=>by cases e<;>exact hk
 have z:∀ t (C:t<(args++caps).length),Rep w (Sg cx.S0 cx.w0.heap.size γ) γ (args++caps)[t] ((vs++cs).getD t undef):=fun t C=>by
  by_cases h1:t<args.length
  ·rw [getElem_append_left h1,aA,aP (by omega),<-aA];exact aq t h1
  ·rw [getElem_append_right (by omega),aA,Array.getElem?_append_right (by omega),<-aA,af];exact bb _ (by rw [length_append] at C;omega)
 have Q:∀ t,t<(args++caps).length->(vs++cs++aN (fn.ntmps-(vs++cs).size) undef).getD t undef=(vs++cs).getD t undef:=fun t C=>by
  rw [aA,aA,aP (by omega)]
 have au:StG H γ (zro (args++caps) me) { tmps:=vs++cs++aN (fn.ntmps-(vs++cs).size) undef,defers:=[] } w:=by
  refine ⟨fun t=>?_,d.me,d.inj,d.ge,d.below,?_,⟨fun _=>rfl,⟨[],rfl,.nil,fun r hr=>by cases hr⟩,fun t C=>?_,fun l R hl=>d.defers.yl l R (ao _ hl),aD _⟩,d.gh,fun b S=>⟨S.2,S.1,rfl⟩,fun hd=>?_⟩
  ·unfold AS.get zro;rw [zjm];by_cases C:0<=t/\t<0+(args++caps).length
   ·rw [dif_pos C];have Y:t<(args++caps).length:=by omega
    show Rep w _ γ _ ((vs++cs++aN (fn.ntmps-(vs++cs).size) undef).getD t undef);rw [Q t Y];exact z t Y
   ·rw [dif_neg C];exact .any _
  ·show (vs++cs++aN (fn.ntmps-(vs++cs).size) undef).size=fn.ntmps;rw [Array.size_append,Array.size_replicate];omega
  ·have Y:t<E.np:=C;exact Q t (by omega)
  ·exact absurd (az.symm.trans hd) (by simp)
 refine wpIn_mono (h0 _ _ ⟨γ,au⟩) (fun e a w' ⟨σ,hq,ai⟩=>?_);have key:GX E fn.ntmps fn (args++caps) me σ res me'->bodyPost E.P fn (fun e w'=>∃ u γ',e=.returned u/\MeSt cx γ' me' w'/\Rep w' (Sg cx.S0 cx.w0.heap.size γ') γ' res u/\w.heap.size<=w'.heap.size/\(∀ i,Hr me me' i=true->γ' i=γ i) /\
   (∀ b,¬own γ b->b<w.heap.size->w'.heap[b]? = w.heap[b]? /\ ¬own γ' b)) .ret a w':=by
  rintro ⟨τ,hl,B,avs,h1,h2,yk,ap,am⟩;obtain ⟨γ',hs⟩:=hl H rfl rfl a w' ai;obtain ⟨u,hu,hr⟩:=Rt hs h1;have ab:∀ b,¬own γ b->b<w.heap.size->w'.heap[b]? = w.heap[b]? /\ ¬own γ' b:=fun b S q=>by
   obtain ⟨q1,q2,q3⟩:=hs.fr b ⟨q,S⟩;exact ⟨q3,q1⟩
  have ah:w.heap.size<=w'.heap.size:=hs.defers.sz;refine ⟨hs.defers.d0 av,u,hu,u,γ',rfl,?_,hr.sub h2,ah,fun i L=>?_,ab⟩
  ·refine ⟨fun t=>.any _,fun i=>by have:=hs.me i;unfold aE at this ⊢;rw [<-B];exact this,hs.inj,hs.ge,hs.below,aj.symm,⟨fun _=>rfl,⟨[],rfl,.nil,fun r hr=>by cases hr⟩,fun t C=>by rw [ak] at C;omega,fun l R hl=>?_,bW d.defers.sz ah⟩,hs.gh,fun b S=>?_,fun hd=>absurd (al.symm.trans hd) (by simp)⟩
   ·obtain ⟨q0,q1,q2,q3⟩:=d.defers.yl l R hl;obtain ⟨k1,X⟩:=ab l q2 q1;exact ⟨q0,by omega,X,k1.trans q3⟩
   ·obtain ⟨q1,q2,q3⟩:=d.fr b S;obtain ⟨k1,X⟩:=ab b q1 q2;exact ⟨X,by omega,k1.trans q3⟩
  ·unfold Hr at L;split at L;rotate_left
   ·rename_i ty sz xs e hi he;obtain ⟨t,ae,bj,bh,C,e1,e2,rfl⟩:=ztm am hi he;obtain ⟨q,G⟩:=List.getElem?_eq_some_iff.1 e1;have J:=z t q;rw [G] at J;have I:=hs.tm t;rw [e2,hs.defers.pin t C] at I;have y:=d.me i;unfold aE at y;rw [hi] at y;obtain ⟨x,P,y⟩:=y;have v:=hs.me i;unfold aE at v;rw [B,he] at v;obtain ⟨x2,p,v⟩:=v;exact zrv J I P p y v
   ·cases L
   rename_i ty es hi;have D:=bB.1 am (i,.box ty es) (Sn hi);have D:=(bO _ _).mp D;rcases D with D|D
   ·rcases ap.at i ((Dh _ _).1 D) with ⟨t,t',j,l,T,yc,an,ae,bd,e1,e2,e3,e4,e5⟩|⟨t,j,f',yc,an,ae,bd,ar,e1,e2,e3,e4,e5⟩
    ·obtain ⟨q,G⟩:=List.getElem?_eq_some_iff.1 e1;have J:=z t q;rw [G] at J;have I:=hs.tm t';rw [e2] at I;obtain ⟨hj,Z⟩:=List.getElem?_eq_some_iff.1 e3;obtain ⟨aa,M⟩:=List.getElem?_eq_some_iff.1 e4;have W:=J.yld_inv.2 j hj;have U:=I.yld_inv.2 j aa;rw [Z] at W;rw [M] at U;have y:=d.me i;unfold aE at y;rw [hi] at y;obtain ⟨x,P,g,ad,O,_⟩:=y;have v:=hs.me i;unfold aE at v;rw [B,e5] at v;obtain ⟨x2,p,g2,ac,N,_⟩:=v;subst O N;have m:=W.ptr_inv P;rw [U.ptr_inv p] at m;injection m with m
     injection m with m
     injection m with m
     rw [P,p,m]
    ·obtain ⟨q,G⟩:=List.getElem?_eq_some_iff.1 e1;have J:=z t q;rw [G] at J;have I:=hs.tm t;rw [e2,hs.defers.pin t ar] at I;obtain ⟨hj,Z⟩:=List.getElem?_eq_some_iff.1 e3;obtain ⟨aa,M⟩:=List.getElem?_eq_some_iff.1 e4;obtain ⟨us,ev1,_,W⟩:=J.fn_inv;obtain ⟨us',bc,_,U⟩:=I.fn_inv;have p3:(vs++cs).getD t undef=H.pv.getD t undef:=rfl;rw [p3,bc] at ev1;injection ev1 with _ _ ev1
     subst ev1;have W:=W j hj;have U:=U j aa;rw [Z] at W;rw [M] at U;have y:=d.me i;unfold aE at y;rw [hi] at y;obtain ⟨x,P,g,ad,O,_⟩:=y;have v:=hs.me i;unfold aE at v;rw [B,e5] at v;obtain ⟨x2,p,g2,ac,N,_⟩:=v;subst O N;have m:=W.ptr_inv P;rw [U.ptr_inv p] at m;injection m with m
     injection m with m
     injection m with m
     rw [P,p,m]
   obtain ⟨t,C,ag⟩:=bA.1 D;rw [bM] at C;rw [aT] at ag;obtain ⟨b1,b2⟩:=ag;split at b1
   ·rename_i k hk;have e1:k=i:=aB b1;subst e1;split at b2
    ·rename_i X bi bl ay ax;have e2:X=k:=aB b2;subst e2;obtain ⟨q,G⟩:=List.getElem?_eq_some_iff.1 hk;have J:=z t q;rw [G] at J;have I:=hs.tm t;rw [ay,hs.defers.pin t C] at I;have y:=d.me X;unfold aE at y;rw [hi] at y;obtain ⟨x,P,g,ad,O,_⟩:=y;have v:=hs.me X;unfold aE at v;rw [B,ax] at v;obtain ⟨x2,p,g2,ac,N,_⟩:=v;subst O N;have m:=J.ptr_inv P;have p2:=I.ptr_inv p;have p3:(vs++cs).getD t undef=H.pv.getD t undef:=rfl;rw [p3,p2] at m;injection m with m
     injection m with m
     injection m with m
     rw [P,p,m]
    ·cases b2
   ·cases b1
 cases e with
 |normal=>exact key hq
 |ret=>exact key hq
 |_=>exact hq.elim
open Go.RowKit
theorem zd2 {cx:Cx}{fn:Func}{R:Ending->World->Prop}:∀ (d:List Nat) (a:Act) (w:World),StG cx γ σ a w->cx.E.rg=true->(∀ b,cx.Fr b->False)->cx.E.yl=none->a.defers=d.map (fun r=>{ target:=.collected r,args:=#[] })->d.Nodup ->
  (∀ r∈d,cx.w0.heap.size<=r/\r<w.heap.size/\¬own γ r/\w.heap[r]? = some (.deferred (some []))) ->
  (∀ w' q,StG cx γ σ q w'->q.tmps=a.tmps->∃ v,(results fn a.tmps).run cx.P w'=.ok v w'/\R (.returned v) w')->LeavesInM Fence.wide 0 cx.P fn a.tmps R a.defers .returning w
 |[],a,w,h,m,B,j,z,_,_,k=>by
  rw [z];obtain ⟨v,h1,C⟩:=k w a h rfl;exact ⟨v,h1,C⟩
 |r::d,a,w,h,m,B,j,z,y,n,k=>by
  obtain ⟨H,P,G,D⟩:=n r (bF ..);rw [z];refine ⟨by simp,aH ⟨r,w.putObj r (.deferred none),rfl,run_takeDeferred D,?_⟩⟩;have c:=(nodup_cons.1 y);have f:∀ g∈d,cx.w0.heap.size<=g/\g < (w.putObj r (.deferred none)).heap.size/\¬own γ g/\(w.putObj r (.deferred none)).heap[g]? = some (.deferred (some [])):=fun g p=>by
   obtain ⟨M,L,J,I⟩:=n g (aW _ p);exact ⟨M,by rw [Cy];exact L,J,(Ci (b:=g) (r:=r) (by intro e;subst e;exact c.1 p)).trans I⟩
  have t:=h.putObj (o':=.deferred none) (ds:=d.map (fun r=>{ target:=.collected r,args:=#[] })) D rfl H G
   ⟨fun u=>absurd (u.symm.trans m) (by simp),⟨d,rfl,c.2,f⟩,h.defers.pin,fun l R N=>absurd (j.symm.trans N) (by simp),by rw [Cy];exact h.defers.sz⟩ (fun b O=>(B b O).elim)
  exact zd2 d _ _ t m B j rfl c.2 f (fun w' q h1 C=>k w' q h1 (C.trans rfl))
theorem Con.walkM {z:Bool}{f:FuncId}{res:AV}(c:Code)(N:E.P.funcs[f]? = some fn)(g:fn.body=some c)(O:Cc E f)(L:bP args.length fn.ntmps=true)(j:z=false\/res.flat=true)
  (h:AW E fn.ntmps (EndA E fn res) [.code c] .normal (E2 args)) (t:E.rg=true) (m:E.yl=none) (y:E.np=0):Con { E with rg:=false } z f args res:=by
 refine ⟨O,fun S w vs P=>callsIn_wide.1 (callsIn_of_wp_marks (F:=Fence.wide) (n:=0) N g trivial ?_)⟩;have Q:WP (Cx.call E S w fn.ntmps) c (EndA E fn res) (E2 args):=bC (h.out (Cx.call E S w fn.ntmps) rfl rfl) fun e σ M=>by cases e<;>exact M
 refine wpIn_mono (Q _ _ (Wp m y P (aG L))) (fun e a w' ⟨σ,u,γ,q⟩=>?_);have key:(∃ avs,retA E.tab σ fn.results.toList=some avs/\Sub (Ss σ (Jm avs)) res)->bodyPostM Fence.wide 0 E.P fn (fun e w'=>∃ v,e=.returned v/\BelE { E with rg:=false } w w'/\Rep w' (fun b=>(z=false/\S b)\/w.heap.size<=b) G0 res v) .ret a w':=by
  rintro ⟨avs,h1,p⟩;obtain ⟨D,I,H,G⟩:=q.defers.marks;refine zd2 (cx:=Cx.call E S w fn.ntmps) D a w' q t (fun b g=>g.elim) m I H G (fun W X d U=>?_);obtain ⟨v,B,J⟩:=Rt d h1;rw [U] at B;refine ⟨v,B,v,rfl,⟨d.below,d.dr⟩,?_⟩;have C:=(ziv (S':=fun b=>S b\/w.heap.size<=b) d (fun b g=>?_) J).sub p
  ·rcases j with j|j
   ·exact C.mono (aD _) (fun b g _=>⟨rfl,g.elim (fun h=>aH ⟨j,h⟩) aF⟩)
   ·exact C.flat j
  ·rcases g with g|g
   ·rcases g with ⟨g,_⟩|⟨g,_⟩
    ·exact aH g.1
    ·exact aF g.1
   ·exact aF (d.ge b g).1.1
 cases e with
 |normal=>exact key (zbt u)
 |ret=>exact key (zbt u)
 |_=>exact u.elim
open Go.RowKit
theorem zvk {S:Nat->Prop}:∀ (ps:List Nat) (avs:List AV) (vs:List Value) (T:Array Value) (base:List (Nat×AV)),(∀ t,Rep w S γ (lkV base t) (T.getD t undef))->(∀ p∈ps,p<T.size)->avs.length=ps.length->vs.length=ps.length ->
  (∀ i (hi:i<avs.length),Rep w S γ avs[i] (vs.getD i undef))->∀ t,Rep w S γ (lkV ((ps.zip avs).foldl (fun tm x=>x::tm) base) t) (((ps.zip vs).foldl (fun t x=>t.setIfInBounds x.1 x.2) T).getD t undef)
 |[],_,_,T,base,d,_,_,_,_=>fun t=>d t
 |p::ps,[],_,T,base,_,_,h1,_,_=>by simp at h1
 |p::ps,av::avs,[],T,base,_,_,_,c,_=>by simp at c
 |p::ps,av::avs,v::vs,T,base,d,f,h1,c,j=>by
  simp only [zip_cons_cons,bU];refine zvk ps avs vs _ _ (fun t=>?_) (fun q m=>by rw [aR];exact f q (aW _ m)) (by simpa using h1) (by simpa using c) (fun i hi=>by have:=j (i+1) (by simpa using hi);simpa using this);have a:=f p (bF ..);simp only [lkV];cases g:aJ p t with
  |true =>
   have:=aB g;subst this;have h:=j 0 (by simp);simp only [aQ,getD_cons_zero] at h;simpa [a] using h
  |false =>
   have b:p≠t:=aU g;have e:(T.setIfInBounds p v).getD t undef=T.getD t undef:=by
    rw [aA,aL b,<-aA]
   rw [e];exact d t
theorem zru:∀ (l:List (Nat×Value)) (T:Array Value),(l.foldl (fun t x=>t.setIfInBounds x.1 x.2) T).size=T.size
 |[],T=>rfl
 |x::l,T=>by rw [bU,zru l,aR]
theorem zm0 {t:Nat}:∀ (l:List (Nat×Value)) (T:Array Value),(∀ x∈l,x.1≠t)->(l.foldl (fun t x=>t.setIfInBounds x.1 x.2) T).getD t undef=T.getD t undef
 |[],T,_=>rfl
 |x::l,T,h=>by
  rw [bU,zm0 l _ (fun y a=>h y (aW _ a)),aA,aL (h x (bF ..)),<-aA]
def zvh (ps:List Nat)(args ycaps:List AV)(me:List (Nat×Ent)):AS:=⟨(ps.zip args).foldl (fun tm x=>x::tm) (ycaps.zipIdx.map fun p=>(p.2,p.1)),me⟩
inductive BX (E:Env) (nt:Nat) (ycaps:List AV) (me:List (Nat×Ent)) (σ:AS) (me':List (Nat×Ent)):Prop
 |mk (τ:AS) (hl:LeX E nt σ τ) (hme:τ.me=me') (hb:boxB E.np ycaps τ me me' []=true)
def EndB (E:Env)(nt:Nat)(ycaps:List AV)(me me':List (Nat×Ent)):Exit->AS->Prop |.normal,σ=>BX E nt ycaps me σ me' |_,_=>False
theorem StG.putObjW {cx:Cx}{a:Act}(h:StG cx γ σ a w){r:Nat}{o o':Obj}(g:w.heap[r]? = some o)(C:o.isCells=false)(I:cx.w0.heap.size<=r)(n:¬own γ r)(y:a.defers=[])(j:cx.E.yl=none)(m:∀ es c,o≠.map es c:=by intro es c h;cases h):StG { cx with w1:=w.putObj r o' } γ σ a (w.putObj r o'):=by
 have u:=zwq (k:=0) g C;have f:∀ es c,w.heap[r]? ≠ some (.map es c):=fun es c h=>by rw [g] at h;injection h with h;exact m es c h
 have p:∀ b,own γ b->b≠r:=fun b d e=>n (e▸d)
 refine ⟨fun t=>(h.tm t).putObj u f,fun id=>?_,h.inj,fun b d=>by rw [Cy];exact h.ge b d,h.below.trans ⟨rfl,rfl,rfl,by rw [Cy];exact aD _,fun b d=>Ci (by omega)⟩,h.size,
  ⟨fun _=>y,⟨[],y,.nil,fun r g=>by cases g⟩,h.defers.pin,fun l R D=>absurd (j.symm.trans D) (by simp),aD _⟩,fun b d=>by rw [Cy];exact h.gh b d,fun b d=>?_,h.dr⟩
 ·have:=h.me id;cases v:σ.find id with
  |none=>rw [v] at this;exact this
  |some e =>
   rw [v] at this;obtain ⟨x,q,G⟩:=this;exact ⟨x,q,G.putObj u f (fun b d=>p b ⟨id,x,q,d⟩)⟩
 ·obtain ⟨B,z,H⟩:=h.fr b d;exact ⟨B,by rw [Cy];exact z,rfl⟩
theorem ConG.round {nt:Nat}{ps:Array Tmp}{assign body:Code}{ycaps:List AV}(X:E.rg=false)(n:E.yl=none)(bb:E.dr=false)(ay:ps.toList.all (fun p=>bP E.np p && Nat.blt p nt)=true)(B:args.length=ps.size)(bp:bP ycaps.length nt=true)
  (h:AW E nt (Cv (fun σ=>AW E nt (EndB E nt ycaps me me') [.code body] .normal σ) (fun _ _=>False)) [.code assign] .normal (zvh ps.toList args ycaps me))
  (l D:Nat) (fn:FuncId) (T:Array Value) (hT:T.size=nt):ConG E.P (some (l,.loop (recR fn T ps assign body D))) (fun vs cs w R=>cs=T->CalY E.P l vs cs w R) args ycaps me (.bool true) me':=by
 intro cx γ w vs cs hP ap au am an c af aw Z bf;subst bf;have Q:=au _ rfl;obtain ⟨q0,q1,q2,q3⟩:=c.defers.yl l _ Q;refine ⟨fn,_,assign,body,run_yield (P:=E.P) (args:=vs) q3 (by rw [af,B]),roundIn_of_wpIn trivial ?_⟩;have ef:(ps.zip vs).foldl (fun (t:Array Value) (x:Tmp×Value)=>t.setIfInBounds x.1 x.2) cs=(ps.toList.zip vs.toList).foldl (fun t x=>t.setIfInBounds x.1 x.2) cs:=by
  rw [<-Array.foldl_toList,Array.toList_zip]
 obtain ⟨tm,L⟩:∃ tm,tm=(ps.toList.zip vs.toList).foldl (fun t x=>t.setIfInBounds x.1 x.2) cs:=⟨_,rfl⟩;have etm:(ps.zip vs).foldl (fun (t:Array Value) (x:Tmp×Value)=>t.setIfInBounds x.1 x.2) cs=tm:=by rw [ef,L]
 show assign.wpIn (Fence.wide.inRound l) 0 E.P _ { tmps:=(ps.zip vs).foldl (fun (t:Array Value) (x:Tmp×Value)=>t.setIfInBounds x.1 x.2) cs,defers:=[] } w;rw [etm];have S:∀ p∈ps.toList,E.np<=p/\p<nt:=fun p hp=>by
  have:=bB.1 ay p hp;simpa using this
 let cxa:Cx:=⟨E,cx.S0,cx.w0,nt,fun b=>b<w.heap.size/\¬own γ b,w,some l,cs,fun h=>absurd (X.symm.trans h) (by simp)⟩;have ax:StG cxa γ (zvh ps.toList args ycaps me) { tmps:=tm,defers:=[] } w:=by
  refine ⟨fun t=>?_,c.me,c.inj,c.ge,c.below,by rw [L];exact (zru _ _).trans hT,⟨fun _=>rfl,⟨[],rfl,.nil,fun r hr=>by cases hr⟩,fun t q=>?_,fun l R hl=>absurd (n.symm.trans hl) (by simp),aD _⟩,c.gh,fun b hb=>⟨hb.2,hb.1,rfl⟩,fun hd=>absurd (bb.symm.trans hd) (by simp)⟩
  ·rw [L];refine zvk ps.toList args vs.toList cs _ (fun t=>?_) (fun p hp=>by rw [hT];exact (S p hp).2) (by simpa using B) (by simp [af,B]) (fun i hi=>?_) t
   ·rw [zjm];by_cases q:0<=t/\t<0+ycaps.length
    ·rw [dif_pos q];exact Z t (by omega)
    ·rw [dif_neg q];exact .any _
   ·have:=aw i hi
    rwa [aA,<-Array.getElem?_toList,<-aC] at this
  ·show tm.getD t undef=cs.getD t undef;rw [L];exact zm0 _ _ (fun x hx e=>by have:=(S x.1 (of_mem_zip hx).1).1;have bo:t<E.np:=q;omega)
 have hA:WP cxa assign (Cv (fun σ=>AW E nt (EndB E nt ycaps me me') [.code body] .normal σ) (fun _ _=>False)) (zvh ps.toList args ycaps me):=bC (h.out cxa rfl rfl) fun e σ hk=>by cases e<;>exact hk
 refine wpIn_mono (F:=Fence.wide.inRound l) (hA _ _ ⟨γ,ax⟩) (fun e a1 w1 ⟨ac,al,ai⟩=>?_);cases e with
 |normal =>
  obtain ⟨ar,y⟩:=ai;obtain ⟨k1,k2,k3⟩:=y.fr l ⟨q1,q2⟩;have k4:w1.heap[l]? = some (.loop (recR fn cs ps assign body D)):=k3.trans q3;refine ⟨_,run_beginRound (P:=E.P) k4 rfl,?_⟩;have aj:=y.putObjW (o':=.loop { recR fn cs ps assign body D with state:=.busy }) k4 rfl q0 k1 (y.defers.d0 X) n;generalize W:w1.putObj l (.loop { recR fn cs ps assign body D with state:=.busy })=U at aj ⊢;have hB:WP { cxa with w1:=U } body (EndB E nt ycaps me me') ac:=bC ((show AW E nt (EndB E nt ycaps me me') [.code body] .normal ac from al).out { cxa with w1:=U } rfl rfl) fun e σ hk=>by cases e<;>exact hk
  refine wpIn_mono (F:=Fence.wide.inRound l) (hB _ _ ⟨ar,aj⟩) (fun N a2 C ⟨bh,ak,ah⟩=>?_);cases N with
  |normal =>
   obtain ⟨τ,hl,z,aq⟩:=ak;obtain ⟨ad,a⟩:=hl { cxa with w1:=U } rfl rfl a2 C ah;have bg:U.heap[l]? = some (.loop { recR fn cs ps assign body D with state:=.busy }):=by rw [<-W];exact World.putObj_heap_same k2
   obtain ⟨j1,j2,j3⟩:=a.fr l ⟨q1,q2⟩;have j4:C.heap[l]? = some (.loop { recR fn cs ps assign body D with state:=.busy }):=j3.trans bg;refine ⟨_,_,run_endRound (P:=E.P) none j4,?_⟩;have f:=a.putObjW (o':=.loop (recR fn cs ps assign body D)) j4 rfl q0 j1 (a.defers.d0 X) n;show ∃ u γ',_/\_;have av:C.putObj l (.loop { { recR fn cs ps assign body D with state:=.busy } with state:=if (none:Option Code).isNone=true then LoopState.ready else LoopState.done,pending:=none })=C.putObj l (.loop (recR fn cs ps assign body D)):=rfl;rw [av];have Y:(C.putObj l (.loop (recR fn cs ps assign body D))).heap[l]? = some (.loop (recR fn cs ps assign body D)):=World.putObj_heap_same j2;generalize ae:C.putObj l (.loop (recR fn cs ps assign body D))=w4 at f Y ⊢;have z1:w.heap.size<=w1.heap.size:=y.defers.sz;have z2:w1.heap.size=U.heap.size:=by rw [<-W,Cy]
   have z3:U.heap.size<=C.heap.size:=a.defers.sz;have z4:C.heap.size=w4.heap.size:=by rw [<-ae,Cy]
   have ao:∀ b,¬own γ b->b<w.heap.size->w4.heap[b]? = w.heap[b]? /\ ¬own ad b:=fun b hb j=>by
    obtain ⟨m,p2,p3⟩:=y.fr b ⟨j,hb⟩;obtain ⟨G,O,r3⟩:=a.fr b ⟨j,hb⟩;refine ⟨?_,G⟩;by_cases aa:b=l
    ·subst aa;exact Y.trans q3.symm
    ·have e1:w4.heap[b]? = C.heap[b]? := by rw [<-ae];exact Ci aa
     have N:U.heap[b]? = w1.heap[b]? := by rw [<-W];exact Ci aa
     exact e1.trans (r3.trans (N.trans p3))
   refine ⟨.bool true,ad,rfl,⟨fun t=>.any _,fun i=>by have:=f.me i;unfold aE at this ⊢;rw [<-z];exact this,f.inj,f.ge,f.below,am.symm,⟨fun _=>rfl,⟨[],rfl,.nil,fun r hr=>by cases hr⟩,fun t q=>by rw [an] at q;omega,fun l' R' M=>?_,bW c.defers.sz (by omega)⟩,f.gh,fun b hb=>?_,fun hd=>absurd (ap.symm.trans hd) (by simp)⟩,.bool _,by omega,fun i v=>?_,ao⟩
   ·rw [Q] at M;injection M with M
    injection M with e1 N
    subst e1 N;exact ⟨q0,by omega,j1,Y⟩
   ·obtain ⟨m,p2,p3⟩:=c.fr b hb;obtain ⟨G,O⟩:=ao b m p2;exact ⟨O,by omega,G.trans p3⟩
   ·unfold Hr at v;split at v;rotate_left
    ·rename_i ty sz xs e hi he;obtain ⟨t,bm,bn,bi,q,e1,N,rfl⟩:=ztm aq hi he;obtain ⟨j,ab⟩:=List.getElem?_eq_some_iff.1 e1;have G:=Z t j;rw [ab] at G;have O:=a.tm t;rw [N,a.defers.pin t q] at O;have I:=c.me i;unfold aE at I;rw [hi] at I;obtain ⟨x,hx,I⟩:=I;have H:=a.me i;unfold aE at H;rw [z,he] at H;obtain ⟨x2,J,H⟩:=H;exact zrv G O hx J I H
    ·cases v
    rename_i ty es hi;have d:=bB.1 aq (i,.box ty es) (Sn hi);have d:=(bO _ _).mp d;rcases d with d|d
    ·cases d
    obtain ⟨t,q,ag⟩:=bA.1 d;rw [bM] at q;rw [aT] at ag;obtain ⟨b1,b2⟩:=ag;split at b1
    ·rename_i k hk;have e1:k=i:=aB b1;subst e1;split at b2
     ·rename_i k2 bl bq ba az;have N:k2=k:=aB b2;subst N;obtain ⟨j,ab⟩:=List.getElem?_eq_some_iff.1 hk;have G:=Z t j;rw [ab] at G;have O:=a.tm t;rw [ba,a.defers.pin t q] at O;have I:=c.me k2;unfold aE at I;rw [hi] at I;obtain ⟨x,hx,g,bk,bd,_⟩:=I;have H:=a.me k2;unfold aE at H;rw [z,az] at H;obtain ⟨x2,J,g2,bj,bc,_⟩:=H;subst bd bc;have m:=G.ptr_inv hx;have p2:cs.getD t undef=_:=O.ptr_inv J;rw [p2] at m;injection m with m
      injection m with m
      injection m with m
      rw [hx,J,m]
     ·cases b2
    ·cases b1
  |_=>exact ak.elim
 |_=>exact al.elim
end Go.Proofs.YthbogefcfhmpgaaGreat
