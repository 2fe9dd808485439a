/- Forms of terms. -/
import Derived.Test.YtkoamfnbbhfaiaaGreatDoorK09
set_option linter.unusedVariables false
set_option linter.unusedSimpArgs false
namespace Go.Proofs.YtkoamfnbbhfaiaaGreatDoor
open Go.RowKit List
open _root_.Array renaming getD_eq_getD_getElem?->aA,getElem?_setIfInBounds_ne->aL,replicate->aM,getElem?_append_left->aO,size_setIfInBounds->aQ,getD->bS
open Nat renaming eq_of_beq_eq_true->aB,le_refl->aD,le_of_ble_eq_true->aE,beq->aF,le_trans->aT,ble->bC,zero_add->bI,blt->bV,add_zero->bW
open List renaming getD_eq_getElem?_getD->aC,replicate->aK,mem_cons_of_mem->aN,getElem_cons_zero->aP,mem_filterMap->aR,mem_iff_getElem->aU,getElem_map->aW,getElem_set->aX,mem_of_find?_eq_some->aY,any_eq_true->aZ,all_eq_true->bA,getElem?_eq_getElem->bD,findIdx?_cons->bE,mem_cons_self->bF,getElem_replicate->bJ,getElem?_set_self->bK,mem_range->bM,length_replicate->bN,length_map->bT,foldl_cons->bU
open AS renaming find->aG
open Or renaming inr->aH,inl->aJ
open Bool renaming and_eq_true->aS,false_eq_true->bG,or_eq_true->bP
open AV renaming cells->aV,renL->bQ,inML->bR
open WP renaming mono->bB
open Dv renaming of->bO
section
variable {α β κ ν:Type}
def nle (n:Int)(len:Nat)(k:Nat->Option β):Option β:=if 0<=n/\n.toNat<=len then k n.toNat else none
def gle (a b:Nat)(x:Option β):Option β:=if a<=b then x else none
def clr (l:List α)(lo:Nat)(z:α)(k:List α->Option β):Option β:=if lo<=l.length then k (clrL l lo z) else none
def encN (ek:κ->AV)(er:ν->AV)(ty sz:Nat)(p:κ×List ν):AV×NE:=(ek p.1,.row ty sz (p.2.map er))
end
section
variable {α β κ ν:Type} {E:Env} {nt:Nat} {o:Oper} {σ:AS} {K:OpK}
variable {k:Nat->Option β}{r:β}{T id e esz eb ty:Nat}{x:Operand}{i:TyI}{xs:List AV}
theorem OpX.sub {n:Int}{y:Operand}{kd:IntKind}(a:nle n xs.length k=some r)(t:o.op=.slice T x (some y) none none)(B:dokN E nt o.dst=true)(c:A0 x=true)(b:A0 y=true)(p:σ.eval x=.row id)(j:σ.eval y=.int kd n)
  (C:lkT E.tab T=some i) (q:i.shape=.slc e esz eb) (h:aF esz 0=false) (v:σ.find id=some (.row ty esz xs)) (z:∀ m,k m=some r->K (.der (.sub esz m) id) [id] []):OpX E nt o σ K:=by
 unfold nle at a;split at a
 ·rename_i u;exact .mk _ _ _ (fun cx g d=>zji (lo:=n.toNat) t (Aj B g d) c b p (by rw [j];congr 1;omega) (by rw [g];exact C) q (nbne h) v u.2) (z _ a)
 ·cases a
variable {lo:Nat}
theorem OpX.lns {c:Option β}{sz:Nat}(a:gle lo xs.length c=some r)(p:o.op=.call { callee:=.builtin .len,args:=#[x],argTypes:=#[T] })(u:dokN E nt o.dst=true)(b:A0 x=true)(j:σ.eval x=.der (.sub sz lo) id)(q:σ.find id=some (.row ty sz xs))(v:lkT E.tab T=some i)(m:i.shape=.slc e esz eb)
  (t:c=some r->K (.int .i64 ((xs.length-lo:Nat):Int)) [id] []):OpX E nt o σ K:=by
 unfold gle at a;split at a
 ·rename_i g;exact .mk _ _ _ (fun cx h d=>zp2 p (Aj u h d) b j q (by rw [h];exact v) m g) (t a)
 ·cases a
theorem OpX.ixs {n:Int}{sz:Nat}{y:Operand}{kd:IntKind}(C:nat n (xs.length-lo) k=some r)(q:o.op=.indexAddr T x y)(z:dokN E nt o.dst=true)(b:A0 x=true)(a:A0 y=true)(j:σ.eval x=.der (.sub sz lo) id)(h:σ.eval y=.int kd n)
  (u:σ.find id=some (.row ty sz xs)) (B:lkT E.tab T=some i) (p:i.shape=.slc e sz eb) (g:aF sz 0=false) (v:∀ m,k m=some r->K (.elt id sz (lo+m) 0) [id] []):OpX E nt o σ K:=by
 have:=NatX.o (K:=fun m=>lo+m<xs.length->K (.elt id sz (lo+m) 0) [id] []) C (fun m hm _=>v m hm);cases this with
 |mk m t hm k=>exact .mk _ _ _ (fun cx d c=>z98 q (Aj z d c) b a j h u (by rw [d];exact B) p (nbne g) t (by omega)) (k (by omega))
theorem OpX.clr (enc:α->AV){l:List α}{z:α}{k:List α->Option β}{ie:TyI}(c:Proofs.YtkoamfnbbhfaiaaGreatDoor.clr l lo z k=some r)(v:o.op=.call { callee:=.builtin .clear,args:=#[x],argTypes:=#[T] })(D:dokN E nt o.dst=true)(g:A0 x=true)(t:σ.eval x=.der (.sub esz lo) id)(y:σ.find id=some (.row e esz (l.map enc)))
  (G:lkT E.tab T=some i) (u:i.shape=.slc e esz eb) (C:lkT E.tab e=some ie) (q:aF esz 0=false) (d:Gl ie=true) (b:Ch ie.zero.cells.toList=true) (a:SubL (Cw ie).cells (enc z).cells) (B:∀ p,k p=some r->K (.tup []) [id] [(id,.row e esz (p.map enc))]):OpX E nt o σ K:=by
 unfold Proofs.YtkoamfnbbhfaiaaGreatDoor.clr at c;split at c
 ·rename_i j;refine .mk _ _ _ (fun cx m h=>?_) (B _ c);have h1:=zjn (cx:=cx) v (Aj D m h) g t y (by rw [m];exact G) u (by rw [m];exact C) (nbne q) d (Df b) (by rw [bT];exact j);refine h1.weak (.cons _ (.row _ _ ?_) .nil);rw [<-zta];unfold clrL;exact (SubR.refl _).append (.replicate a _)
 ·cases c
variable [DecidableEq κ]
omit [DecidableEq κ] in
end
variable {n:Nat}
theorem Born.idx {es:Array MapEntry}(h:∀ j (h:j<es.toList.length),(es.toList[j]).born=j)(b:es.size=n):Born es n:=by
 have e:es.toList.map (·.born)=range n:=by
  apply ext_getElem
  ·simp [b]
  ·intro i c d;simp only [aW,getElem_range];exact h i (by simpa using c)
 refine ⟨by rw [e];exact nodup_range,fun x a=>?_⟩;have:x.born∈es.toList.map (·.born):=mem_map.2 ⟨x,a,rfl⟩;rw [e] at this;exact bM.1 this
section
variable {α β κ ν:Type} {E:Env} {nt:Nat}
variable {R:Exit->AS->Prop} {K:List Bi}
end
attribute [irreducible] nle gle clr    
def idA (a:AV):AV:=a
theorem Qw (l:List AV):List.map idA l=l:=by induction l with
 |nil=>rfl
 |cons x l ih=>rw [map_cons,ih];rfl
section
variable {α β:Type}
def idxD (d:AV->Option α)(l:List AV)(n:Int)(k:α->Option β):Option β:=if 0<=n then (match l[n.toNat]? with|some a=>(match d a with|some y=>k y|none=>none)|none=>none) else none
theorem IdxX.oD {enc:α->AV}{d:AV->Option α}{l:List AV}{n:Int}{K:AV->Prop}{k:α->Option β}{r:β}(h:idxD d l n k=some r)(g:∀ a y,d a=some y->a=enc y)(c:∀ y,k y=some r->K (enc y)):IdxX (l.map idA) n K:=by
 unfold idxD at h;split at h
 ·rename_i m;split at h
  ·rename_i a j;split at h
   ·rename_i y b;refine .mk n.toNat (enc y) (by omega) ?_ (c y h);rw [Qw,j,g a y b]
   ·cases h
  ·cases h
 ·cases h
end
section
variable {α β V:Type} {E:Env} {nt:Nat} {R:Exit->AS->Prop} {K:List Bi}
def jon (F:V->Option β)(x:Option β):Option β:=x
variable {A:Code}{σ:AS}
theorem AW.meet1 {J:AS->Prop}(h1:AW E nt (Cy J (AW E nt R K)) [.code A] .normal σ)(h:∀ τ,J τ->AW E nt R K .normal τ):AW E nt R (.code A::K) .normal σ :=
 ⟨fun cx c b a=>bB (h1.out cx c b a) (fun e g d=>by cases e<;>first|exact (h _ d).out cx c b a|exact AW.out d cx c b a)⟩
theorem AW.meet2 {J:AS->Prop}{B:Code}(h1:AW E nt (Cy J (AW E nt R K)) [.code A,.code B] .normal σ)(j:∀ τ,J τ->AW E nt R K .normal τ):AW E nt R (.code A::.code B::K) .normal σ :=
 ⟨fun cx d c b=>bB (h1.out cx d c b) (fun e h a=>by
  cases e with
  |normal=>exact bB a (fun e g a=>by cases e<;>first|exact (j _ a).out cx d c b|exact AW.out a cx d c b)
  |_=>exact AW.out a cx d c b)⟩
variable {F:V->Option β}
theorem AW.joinO1 {S:V->AS}{x:Option β}{r:β}{C:Code}(h:jon F x=some r)(h1:x=some r->AW E nt (Cy (fun a=>∃ v,F v=some r/\LeX E nt a (S v)) (AW E nt R (.code C::K))) [.code A] .normal σ)(d:∀ v,F v=some r->AW E nt R (.code C::K) .normal (S v)):AW E nt R (.code A::.code C::K) .normal σ :=
 AW.meet1 (h1 h) (fun τ ⟨v,b,c⟩=>AW.weaken c (d v b))
theorem AW.joinO2 {S:V->AS}{x:Option β}{r:β}{B C:Code}(h:jon F x=some r)(h1:x=some r->AW E nt (Cy (fun a=>∃ v,F v=some r/\LeX E nt a (S v)) (AW E nt R (.code C::K))) [.code A,.code B] .normal σ)(d:∀ v,F v=some r->AW E nt R (.code C::K) .normal (S v)):AW E nt R (.code A::.code B::.code C::K) .normal σ :=
 AW.meet2 (h1 h) (fun τ ⟨v,b,c⟩=>AW.weaken c (d v b))
theorem B1 (F:V->Option β)(x:Option β):jon F x=x:=rfl
end
section
variable {β:Type}
def natc (n:Int)(k:Nat)(x y:Option β):Option β:=if n=(k:Int) then x else y
theorem NatX.oS {n:Int}{len:Nat}{K:Nat->Prop}{k:Nat}{x y:Option β}{r:β}(h:natc n k x y=some r)(a:bV k len=true)(b:x=some r->K k)(h1:y=some r->NatX n len K):NatX n len K:=by
 unfold natc at h;split at h
 ·rename_i e;exact .mk k e (aE a) (b h)
 ·exact h1 h
theorem Uv (n:Int)(k:Nat)(x y:Option β):natc n k x y=if n=(k:Int) then x else y:=rfl
end
attribute [irreducible] idxD jon natc
def Gs:AV->Bool |.row _=>true |_=>false
def nstV (s:Value)(vs:Array Value):Option (Option Nat×Value):=some (none,.tuple (#[s]++vs))
variable {s:Value}{vs:Array Value}
theorem mem_nstV {b:Nat}:b∈blks (nstV s vs) ↔ B4 s=some b\/∃ j,B4 (vs.getD j undef)=some b:=by
 simp only [nstV,blks,Option.toList_none,nil_append,Cm,Array.toList_append,filterMap_append,mem_append];constructor
 ·rintro (h|h)
  ·left;obtain ⟨v,c,g⟩:=aR.1 h;have:v=s:=by simpa using c
   rw [<-this];exact g
  ·right;obtain ⟨v,c,g⟩:=aR.1 h;obtain ⟨j,a,rfl⟩:=aU.1 c;have d:j<vs.size:=by simpa using a
   exact ⟨j,by simpa [bS,d] using g⟩
 ·rintro (h|⟨j,h⟩)
  ·left;exact aR.2 ⟨s,by simp,h⟩
  ·right;by_cases a:j<vs.size
   ·exact aR.2 ⟨vs[j],by simp,by simpa [bS,a] using h⟩
   ·simp [bS,a,undef,B4] at h
variable {γ:Gam}{id:Nat}{vs':Array Value}
theorem zpv (h:γ id=some (nstV s vs')):Turn γ id (nstV s vs) :=
 ⟨_,_,rfl,h,rfl,rfl,fun b a=>by cases b<;>first|(cases a;done)|exact ⟨rfl,by simp only [bO,con0]⟩⟩
section
variable {E:Env} {nt:Nat}
theorem LeX.nst {σ:AS}(r ety sz:Nat){ty m:Nat}(Z:σ.find r=some (.row ty 1 (aK m .nils))):LeX E nt σ (σ.rpAll r Gs (.cont m r) (.nest ty (aK m (.row ety sz [])))):=by
 refine LeX.rpAll r Gs (.cont m r) _ _ Z (fun ty cs h=>by cases h) (fun cx γ a w d Y hd he=>?_);obtain ⟨s,us,Q,G,c,U,O,H⟩:=he;subst Q;obtain ⟨J,I⟩:=Mk c;rw [bN] at c;have N:us.length=m:=by have:=c.1;omega
 have q:∀ k,k<m->us.getD k undef=.slice none 0 0:=fun k p=>by
  have:=O k (by simpa using p) 0 (by simp [aV]);simp only [bJ,aV,aP,Nat.mul_one,bW] at this;exact this.nils_inv
 have z:∀ k,us.toArray.getD k undef=us.getD k undef:=fun k=>by simp [aA,aC]
 have y:∀ k b,B4 (us.toArray.getD k undef)≠some b:=fun k b B=>by
  rw [z] at B;by_cases p:k<m
  ·rw [q k p] at B;simp [B4] at B
  ·rw [aC,getElem?_eq_none (by omega)] at B;simp [undef,B4] at B
 refine ⟨nstV s us.toArray,fun b B=>?_,fun S' hS aa=>⟨⟨s,us.toArray,rfl,G,by simp [N],⟨us,by rw [bN];exact c,H,fun k p _=>(z k).symm⟩,fun k p=>?_,fun i j b hi=>absurd hi (y i b),fun i b _=>y i b⟩,fun γ' x v C D S W=>?_⟩⟩
 ·rcases mem_nstV.1 B with h|⟨j,h⟩
  ·exact (Gj J I).2 h
  ·exact absurd h (y j b)
 ·have P:k<m:=by simpa using p
  rw [bJ,z,q k P];exact ⟨rfl,[],World.ownsRow_nil _ _ _ _,fun k p=>absurd p (by simp),fun k p=>absurd p (by simp),fun u X=>by cases X⟩
 ·have L:x=.row r:=by
   cases x with
   |row i=>simp only [AV.leafId,Option.some.injEq] at S;rw [S]
   |_=>simp [Gs] at D
  subst L;have M:v=s:=W.row_inv hd (F9 G);subst M;refine .cont C (fun g s' e=>?_) ?_
  ·injection e with e
   injection e with _ e
   subst e;simp only [bO,con0]
  ·rcases c.2 with ⟨t,h0⟩|⟨g,cap,ab,t,_⟩
   ·exact ⟨none,0,by rw [t,h0],fun h=>by omega⟩
   ·exact ⟨_,cap,t,fun _=>⟨g,0,rfl⟩⟩
end
section
variable {cx:Cx} {o:Oper} {σ:AS}
variable {x:Operand}
theorem z8l {T e eb m:Nat}{y:Operand}{i:TyI}{k:IntKind}(u:o.op=.indexAddr T x y)(J:dok cx o=true)(t:A0 x=true)(q:A0 y=true)(C:σ.eval x=.cont n id)(B:σ.eval y=.int k (m:Int))(L:lkT cx.E.tab T=some i)(H:i.shape=.slc e 1 eb)(hm:m<n):A9 cx o σ (.der (.nelt m) id) [] [] :=
 Ay J fun τ γ a w h1 O j=>by
  have p:=j.ev x t;rw [h1 x (by simp [u,Op.operands]),C] at p;have d:=j.ev y q;rw [h1 y (by simp [u,Op.operands]),B] at d;obtain ⟨G,v,_⟩:=C5 (cx.E.ok T i L) H;cases p with
  |cont h D I =>
   obtain ⟨A,c,z,M⟩:=I;obtain ⟨b,off,rfl⟩:=M (by omega);refine ⟨.pointer (some ⟨b,off+m,none⟩),?_,.der h (fun g s e=>⟨by cases s<;>rfl,?_⟩)⟩
   ·simp [execOp,u,z,d.int_inv,Instr.indexAt,asIntOf,run_underlying G,Dp v (by omega:(1:Nat)≠0),hm,pure,Addr.add_lit]
   ·have:=D g s e;rw [z] at this;cases s with
    |tuple vs =>
     simp only [bO] at this ⊢;rw [<-this]
    |agg vs =>
     simp only [bO] at this ⊢;rw [<-this]
    |slice A' N P =>
     simp only [bO] at this;rw [<-this];rfl
    |_=>simp [bO,undef] at this
variable {ty:Nat}
theorem zm9 {γ':Gam}{τ:AS}{a:Act}{w w':World}{dst:Option Nat}{q:Nat}{qs:List NE}{e:Ent}{av:AV}{v:Value}(u:StG cx γ τ a w)(hd:∀ x,dst=some x->cx.E.np<=x/\x<cx.nt)(Q:id≠q)(I:γ id=some (nstV s vs))(C:γ' id=some (nstV s vs'))(c:∀ i,i≠id->i≠q->γ' i=γ i)
  (hq:∀ x,γ q=some x->γ' q=some none) (z:∀ b,own γ' b ↔ own γ b) (B:∀ b d,γ' q=some d->b∈blks d->b ∉ blks (nstV s vs')/\(∀ i t,i≠id->i≠q->γ i=some t->b ∉ blks t)) (O:∀ i t b,i≠id->i≠q->γ i=some t->b∈blks t->b ∉ blks (nstV s vs'))
  (N:w.heap.size<=w'.heap.size) (H:∀ k,B4 s≠some k->w'.heap[k]? = w.heap[k]?) (S:Below cx.w0.heap.size w w') (Z:w.drawn<=w'.drawn)
  (hn:(∀ b,Sg cx.S0 cx.w0.heap.size γ b->b<w.heap.size->w'.heap[b]? = w.heap[b]? /\ Sg cx.S0 cx.w0.heap.size γ' b)->B8 w' (Sg cx.S0 cx.w0.heap.size γ') γ' cx.w0.heap.size (nstV s vs') (.nest ty qs))
  (he:(∀ b,Sg cx.S0 cx.w0.heap.size γ b->b<w.heap.size->w'.heap[b]? = w.heap[b]? /\ Sg cx.S0 cx.w0.heap.size γ' b)->∃ x,γ' q=some x/\B8 w' (Sg cx.S0 cx.w0.heap.size γ') γ' cx.w0.heap.size x e)
  (hv:Rep w' (Sg cx.S0 cx.w0.heap.size γ') γ' av v):St cx (τ.upd dst av [(id,.nest ty qs),(q,e)]) (a.put dst v) w':=by
 have y:∀ b,B4 s=some b->own γ b:=fun b U=>⟨id,_,I,mem_nstV.2 (aJ U)⟩
 have X:∀ b,Sg cx.S0 cx.w0.heap.size γ b->B4 s≠some b:=fun b W e=>by
  have L:=y b e;rcases W with ⟨_,h⟩|⟨_,h⟩
  ·have:=(u.ge b L).1.1;omega
  ·exact h L
 have aa:∀ b,Sg cx.S0 cx.w0.heap.size γ b->Sg cx.S0 cx.w0.heap.size γ' b:=fun b U=>U.elim aJ (fun ⟨h1,j⟩=>aH ⟨h1,fun L=>j ((z b).1 L)⟩)
 have Y:∀ b,Sg cx.S0 cx.w0.heap.size γ b->b<w.heap.size->w'.heap[b]? = w.heap[b]? /\ Sg cx.S0 cx.w0.heap.size γ' b:=fun b W _=>⟨H b (X b W),aa b W⟩
 refine ⟨γ',u.step hd N Y (fun i x J=>?_) (fun i hi=>?_) (fun i e0 hi=>?_) (fun i p b d t hi g m G=>?_) (fun b U=>?_) (u.below.trans S) hv (fun b P _=>⟨H b (fun e=>P (y b e)),fun L=>P ((z b).1 L)⟩) (fun _=>Z)⟩
 ·by_cases h1:i=id
  ·subst h1;rw [I] at J;injection J with J;subst J;exact aH (aH (zpv C))
  ·by_cases j:i=q
   ·subst j;exact aH (aJ (hq x J))
   ·exact aJ ((c i h1 j).trans J)
 ·rw [zc9 Q] at hi;by_cases h1:i=id
  ·rw [if_pos h1] at hi;cases hi
  ·rw [if_neg h1] at hi;by_cases j:i=q
   ·rw [if_pos j] at hi;cases hi
   ·exact ⟨c i h1 j,fun b d hi hm=>H b (fun e=>h1 (u.inj _ _ _ _ _ hi I hm (mem_nstV.2 (aJ e))))⟩
 ·rw [zc9 Q] at hi;by_cases h1:i=id
  ·subst h1;rw [if_pos rfl] at hi;injection hi with hi
   subst hi;exact ⟨_,C,hn Y⟩
  ·rw [if_neg h1] at hi;by_cases j:i=q
   ·subst j;rw [if_pos rfl] at hi;injection hi with hi
    subst hi;exact he Y
   ·rw [if_neg j] at hi;cases hi
 ·have sym:∀ i p d t,γ' i=some d->γ' p=some t->b∈blks d->b∈blks t->i=id->i=p:=fun i p d t hi g m G h1=>by
   subst h1;rw [C] at hi;injection hi with hi
   subst hi;by_cases j:p=i
   ·exact j.symm
   ·by_cases D:p=q
    ·subst D;exact absurd m (B b t g G).1
    ·rw [c p j D] at g;exact absurd m (O p t b j D g G)
  by_cases h1:i=id
  ·exact sym i p d t hi g m G h1
  ·by_cases j:p=id
   ·exact (sym p i t d g hi G m j).symm
   ·by_cases D:i=q
    ·by_cases M:p=q
     ·rw [D,M]
     ·subst D;rw [c p j M] at g;exact absurd G ((B b d hi m).2 p t j M g)
    ·by_cases M:p=q
     ·subst M;rw [c i h1 D] at hi;exact absurd m ((B b t g G).2 i d h1 D hi)
     ·rw [c i h1 D] at hi;rw [c p j M] at g;exact u.inj _ _ _ _ _ hi g m G
 ·have:=u.ge b ((z b).1 U);exact ⟨this.1,Nat.lt_of_lt_of_le this.2 N⟩
variable {es:List NE}
theorem zma {τ:AS}{a:Act}{w:World}(c:StG cx γ τ a w)(j:τ.find id=some (.nest ty es)) :
  ∃ s vs us,γ id=some (nstV s vs)/\s.oneCell'=true/\vs.size=es.length/\w.ownsRow cx.w0.heap.size ty 1 s es.length us/\(∀ u∈us,u.oneCell'=true)/\(∀ k (m:k<es.length),es[k]≠.hole->us.getD k undef=vs.getD k undef)/\(∀ k (m:k<es.length),NRep w (Sg cx.S0 cx.w0.heap.size γ) cx.w0.heap.size (vs.getD k undef) es[k])/\DisB (B4 s) vs:=by
 have b:=c.me id;rw [j] at b;obtain ⟨d,h,s,vs,g,h1,z,⟨us,y,v,t⟩,q,p⟩:=b;subst g;exact ⟨s,vs,us,h,h1,z,y,v,t,q,p⟩
theorem zjl {T d k ety sz:Nat}{i:TyI}{xs:List AV}(ho:o.op=.load T x)(al:o.dst=some d)(hd:dok cx o=true)(ae:A0 x=true)(z:σ.eval x=.der (.nelt k) id)(hT:lkT cx.E.tab T=some i)(ha:i.shape.agg=false)(hl:σ.find id=some (.nest ty es))(he:es[k]? = some (.row ety sz xs))(hn:σ.find d=none)(ac:id≠d) :
  A9 cx o σ (.row d) [id,d] [(id,.nest ty (es.set k .hole)),(d,.row ety sz xs)]:=by
 refine ⟨fun i e he=>zq3 he,fun τ h1 v a w Q K ⟨γ,u⟩ hK=>Br (fun c Y=>by rw [ho] at Y;cases Y) ?_⟩;have ex:=u.ev x ae;rw [h1 x (by simp [ho,Op.operands]),z] at ex;obtain ⟨s,vs,us,J,ah,af,y,aa,Z,ab,D⟩:=zma u (by rw [v id (by simp)];exact hl);obtain ⟨hk,ad⟩:=List.getElem?_eq_some_iff.1 he;have H:γ d=none:=by have:=u.me d;rw [v d (by simp),hn] at this;exact this
 have O:=ab k hk;rw [ad] at O;obtain ⟨us1,ai⟩:=zsd O;obtain ⟨M,L⟩:=Mk ai;have ak:(execOp a.eval o).run cx.P w=.ok (.value (vs.getD k undef)) w:=by
  have N:=y;rcases y.2 with ⟨_,h0⟩|⟨g,cap,am,ag,_,X,_⟩
  ·omega
  ·subst ag;have hv:a.eval x=.pointer (some ⟨g,0+k,none⟩):=by rw [ex.der_inv J];simp only [bO,con0]
   have Y:=Fm N rfl k (by omega);have I:=Q0 (cx.E.ok T i hT) ha w ⟨g,0+k,none⟩ (us.getD k undef) (by rw [bI];exact Y);rw [Z k hk (by rw [ad];simp)] at I;simp only [execOp,ho,hv,Instr.loadAt,Instr.sureAddr,Sem.run_bind,Sem.run_pure,Result.andThen_ok,I]
 unfold Oper.wp;rw [ak];have aj:k<vs.size:=by omega
 have C:∀ i,(vs.setIfInBounds k .nilFunc).getD i undef=if i=k then .nilFunc else vs.getD i undef:=fun i=>zh5 _ _ _ _ aj
 have t:∀ i b,B4 ((vs.setIfInBounds k .nilFunc).getD i undef)=some b->i≠k/\B4 (vs.getD i undef)=some b:=fun i b h=>by
  rw [C] at h;by_cases h':i=k
  ·rw [if_pos h'] at h;simp [B4] at h
  ·rw [if_neg h'] at h;exact ⟨h',h⟩
 let γ':Gam:=fun i=>if i=id then some (nstV s (vs.setIfInBounds k .nilFunc)) else if i=d then some (some ((vs.getD k undef).ownBlock,vs.getD k undef)) else γ i
 have g1:γ' id=some (nstV s (vs.setIfInBounds k .nilFunc)):=if_pos rfl;have g2:γ' d=some (some ((vs.getD k undef).ownBlock,vs.getD k undef)):=by show (if d=id then _ else if d=d then _ else _)=_;rw [if_neg (Ne.symm ac),if_pos rfl]
 have g3:∀ i,i≠id->i≠d->γ' i=γ i:=fun i h1 v=>by show (if i=id then _ else if i=d then _ else _)=_;rw [if_neg h1,if_neg v]
 have bl:∀ i W b,i≠id->γ i=some W->b∈blks W->B4 s≠some b/\∀ j,B4 (vs.getD j undef)≠some b:=fun i W b hi G m =>
  ⟨fun e=>hi (u.inj _ _ _ _ _ G J m (mem_nstV.2 (aJ e))),fun j B=>hi (u.inj _ _ _ _ _ G J m (mem_nstV.2 (aH ⟨j,B⟩)))⟩
 refine hK _ _ (zm9 (γ':=γ') (q:=d) (w':=w) u (Bj hd) ac J g1 g3 (fun x z=>by rw [H] at z;cases z) (fun b=>⟨fun ⟨i,x,hi,m⟩=>?_,fun ⟨i,x,hi,m⟩=>?_⟩) (fun b x z m=>?_) (fun i W b h1 v hi m Y=>?_) (aD _) (fun _ _=>rfl) (Below.refl _ _) (aD _) (fun P=>?_) (fun P=>?_) (.row g2 (fun g s e _=>by injection e with e;injection e with _ e)))
 ·by_cases h1:i=id
  ·subst h1;rw [g1] at hi;injection hi with hi;subst hi
   rcases mem_nstV.1 m with m|⟨j,m⟩
   ·exact ⟨_,_,J,mem_nstV.2 (aJ m)⟩
   ·exact ⟨_,_,J,mem_nstV.2 (aH ⟨j,(t j b m).2⟩)⟩
  ·by_cases v:i=d
   ·subst v;rw [g2] at hi;injection hi with hi;subst hi
    exact ⟨_,_,J,mem_nstV.2 (aH ⟨k,(Gj M L).1 m⟩)⟩
   ·rw [g3 i h1 v] at hi;exact ⟨i,x,hi,m⟩
 ·by_cases h1:i=id
  ·subst h1;rw [J] at hi;injection hi with hi;subst hi
   rcases mem_nstV.1 m with m|⟨j,m⟩
   ·exact ⟨_,_,g1,mem_nstV.2 (aJ m)⟩
   ·by_cases p:j=k
    ·subst p;exact ⟨_,_,g2,(Gj M L).2 m⟩
    ·exact ⟨_,_,g1,mem_nstV.2 (aH ⟨j,by rw [C,if_neg p];exact m⟩)⟩
  ·by_cases v:i=d
   ·subst v;rw [H] at hi;cases hi
   ·exact ⟨i,x,(g3 i h1 v).trans hi,m⟩
 ·rw [g2] at z;injection z with z;subst z
  have U:=(Gj M L).1 m;refine ⟨fun h=>?_,fun i W h1 v hi hm=>(bl i W b h1 hi hm).2 k U⟩;rcases mem_nstV.1 h with h|⟨i,h⟩
  ·exact D.2 k b h U
  ·exact (t i b h).1 (D.1 _ _ _ (t i b h).2 U)
 ·obtain ⟨q1,q2⟩:=bl i W b h1 hi m;rcases mem_nstV.1 Y with h|⟨j,h⟩
  ·exact q1 h
  ·exact q2 j (t j b h).2
 ·refine ⟨s,vs.setIfInBounds k .nilFunc,rfl,ah,by simp [af],⟨us,by rw [length_set];exact y,aa,fun j B X=>?_⟩,fun j B=>?_,fun i j b hi B=>D.1 i j b (t i b hi).2 (t j b B).2,fun i b m hi=>D.2 i b m (t i b hi).2⟩
  ·have S:j<es.length:=by simpa using B
   simp only [aX] at X;rw [C];by_cases p:k=j
   ·rw [if_pos p] at X;exact absurd rfl X
   ·rw [if_neg p] at X;rw [if_neg (fun e=>p e.symm)];exact Z j S X
  ·have S:j<es.length:=by simpa using B
   simp only [aX];rw [C];by_cases p:k=j
   ·rw [if_pos p,if_pos p.symm];rfl
   ·rw [if_neg p,if_neg (fun e=>p e.symm)];exact (ab j S).moved (aD _) P (fun _ _=>rfl)
 ·obtain ⟨q1,us',q2,q3,q4,q5⟩:=O;exact ⟨_,g2,vs.getD k undef,us',rfl,q1,q2,q3,fun k hk j B=>(q4 k hk j B).mono (aD _) P,q5⟩
theorem zfu {T q k ety sz:Nat}{y:Operand}{i:TyI}{xs:List AV}(ho:o.op=.store T x y)(hd:dok cx o=true)(ar:A0 x=true)(aq:A0 y=true)(hx:σ.eval x=.der (.nelt k) id)(hy:σ.eval y=.row q)(hT:lkT cx.E.tab T=some i)(an:i.sz=1)(hl:σ.find id=some (.nest ty es))(hq:σ.find q=some (.row ety sz xs))(he:es[k]? = some .hole)(ab:id≠q) :
  A9 cx o σ (.tup []) [id,q] [(id,.nest ty (es.set k (.row ety sz xs))),(q,.dead)]:=by
 refine ⟨fun i e he=>zq3 he,fun τ h1 C a w Q K ⟨γ,v⟩ hK=>Br (fun c hc=>by rw [ho] at hc;cases hc) ?_⟩;have ex:=v.ev x ar;rw [h1 x (by simp [ho,Op.operands]),hx] at ex;have ey:=v.ev y aq;rw [h1 y (by simp [ho,Op.operands]),hy] at ey;obtain ⟨s,vs,us,Z,ay,ax,Y,ak,au,am,ag⟩:=zma v (by rw [C id (by simp)];exact hl);obtain ⟨I,us1,D,B,J,ad,az,al⟩:=Qv (id:=q) v (by rw [C q (by simp)];exact hq);obtain ⟨O,N⟩:=Mk J;obtain ⟨hk,bd⟩:=List.getElem?_eq_some_iff.1 he;have bc:k<vs.size:=by omega
 have ah:I.cells=#[I]:=by rcases J.2 with ⟨e,_⟩|⟨_,_,_,e,_⟩<;>(rw [e];rfl)
 have av:us.length=es.length*1:=Y.1;obtain ⟨g,cap,t,aa,ai,hh,ac,bb,bj,aw⟩:∃ g cap t,s=.slice (some ⟨g,0,none⟩) es.length cap/\cx.w0.heap.size<=g/\w.heap[g]? = some (.cells t ty (0,0))/\es.length<=cap/\cap<=maxLen/\t.size=cap*1/\t.toList.take (es.length*1)=us:=by
  rcases Y.2 with ⟨_,h0⟩|h
  ·omega
  ·exact h
 have W:B4 s=some g:=by rw [aa];rfl
 have hv:a.eval x=.pointer (some ⟨g,0+k,none⟩):=by rw [ex.der_inv Z,aa];simp only [bO,con0]
 have bh:a.eval y=I:=ey.row_inv D (F9 B);have L:=Wh (cx.E.ok T i hT) w g (0+k) ty t I hh (by rw [ah,an];rfl) (by omega) (fun u S=>by rw [ah] at S;simp at S;rw [S];exact B);rw [ah,an,bI] at L;generalize M:(t.toList.take k++(#[I]:Array Value).toList++t.toList.drop (k+1)).toArray=p at L;have bg:(execOp a.eval o).run cx.P w=.ok .skip (w.setRow g p):=by
  rw [bI] at hv;simp only [execOp,ho,hv,bh,Instr.storeAt,Instr.sureAddr,Sem.run_bind,Sem.run_pure,Result.andThen_ok,L]
 unfold Oper.wp;rw [bg];have ao:=setRow_heap w g t p ty (0,0) hh;have z:∀ q,q≠g->(w.setRow g p).heap[q]? = w.heap[q]? := fun q hq=>setRow_other w g q _ hq
 have P:w.heap.size<=(w.setRow g p).heap.size:=by simp
 have bi:w.drawn<=(w.setRow g p).drawn:=aD _;have bf:own γ g:=⟨id,_,Z,mem_nstV.2 (aJ W)⟩;have ap:Below cx.w0.heap.size w (w.setRow g p):=⟨rfl,rfl,rfl,P,fun k hk=>z k (by have:=(v.ge g bf).1.1;omega)⟩;generalize w.setRow g p=w' at *;have H:∀ i,(vs.setIfInBounds k I).getD i undef=if i=k then I else vs.getD i undef:=fun i=>zh5 _ _ _ _ bc
 have bl:∀ i d' b,i≠id->γ i=some d'->b∈blks d'->B4 s≠some b/\∀ j,B4 (vs.getD j undef)≠some b:=fun i d' b hi X d =>
  ⟨fun e=>hi (v.inj _ _ _ _ _ X Z d (mem_nstV.2 (aJ e))),fun j G=>hi (v.inj _ _ _ _ _ X Z d (mem_nstV.2 (aH ⟨j,G⟩)))⟩
 have U:∀ b,B4 I=some b->B4 s≠some b/\∀ j,B4 (vs.getD j undef)≠some b:=fun b d=>bl q _ b (Ne.symm ab) D ((Gj O N).2 d)
 have ba:∀ b,B4 (vs.getD k undef)≠some b:=fun b d=>by
  have:=am k hk;rw [bd] at this;have this:vs.getD k undef=.nilFunc:=this;rw [this] at d;simp [B4] at d
 let γ':Gam:=fun i=>if i=id then some (nstV s (vs.setIfInBounds k I)) else if i=q then some none else γ i
 have g1:γ' id=some (nstV s (vs.setIfInBounds k I)):=if_pos rfl;have g2:γ' q=some none:=by show (if q=id then _ else if q=q then _ else _)=_;rw [if_neg (Ne.symm ab),if_pos rfl]
 have g3:∀ i,i≠id->i≠q->γ' i=γ i:=fun i h1 C=>by show (if i=id then _ else if i=q then _ else _)=_;rw [if_neg h1,if_neg C]
 refine hK _ _ (zm9 (γ':=γ') (q:=q) (w':=w') v (Bj hd) ab Z g1 g3 (fun x hx=>g2) (fun b=>⟨fun ⟨i,x,hi,d⟩=>?_,fun ⟨i,x,hi,d⟩=>?_⟩) (fun b x hx d=>?_) (fun i d' b h1 C hi d hc=>?_) P (fun b d=>z b (fun e=>d (by rw [e];exact W))) ap bi (fun ae=>?_) (fun ae=>⟨_,g2,rfl⟩) (.tup #[] rfl (fun j G=>absurd G (by simp))))
 ·by_cases h1:i=id
  ·subst h1;rw [g1] at hi;injection hi with hi;subst hi
   rcases mem_nstV.1 d with d|⟨j,d⟩
   ·exact ⟨_,_,Z,mem_nstV.2 (aJ d)⟩
   ·rw [H] at d;by_cases m:j=k
    ·rw [if_pos m] at d;exact ⟨_,_,D,(Gj O N).2 d⟩
    ·rw [if_neg m] at d;exact ⟨_,_,Z,mem_nstV.2 (aH ⟨j,d⟩)⟩
  ·by_cases C:i=q
   ·subst C;rw [g2] at hi;injection hi with hi;subst hi;cases d
   ·rw [g3 i h1 C] at hi;exact ⟨i,x,hi,d⟩
 ·by_cases h1:i=id
  ·subst h1;rw [Z] at hi;injection hi with hi;subst hi
   rcases mem_nstV.1 d with d|⟨j,d⟩
   ·exact ⟨_,_,g1,mem_nstV.2 (aJ d)⟩
   ·exact ⟨_,_,g1,mem_nstV.2 (aH ⟨j,by rw [H,if_neg (fun e=>by subst e;exact ba b d)];exact d⟩)⟩
  ·by_cases C:i=q
   ·subst C;rw [D] at hi;injection hi with hi;subst hi
    exact ⟨_,_,g1,mem_nstV.2 (aH ⟨k,by rw [H,if_pos rfl];exact (Gj O N).1 d⟩)⟩
   ·exact ⟨i,x,(g3 i h1 C).trans hi,d⟩
 ·rw [g2] at hx;injection hx with hx;subst hx;cases d
 ·obtain ⟨q1,q2⟩:=bl i d' b h1 hi d;rcases mem_nstV.1 hc with h|⟨j,h⟩
  ·exact q1 h
  ·rw [H] at h;by_cases m:j=k
   ·rw [if_pos m] at h;exact C (v.inj _ _ _ _ _ hi D d ((Gj O N).2 h))
   ·rw [if_neg m] at h;exact q2 j h
 ·have aj:p.toList.take (es.length*1)=us.set k I:=by
   rw [<-M,<-aw,set_eq_take_append_cons_drop,if_pos (by simp;omega)];have:=X7 t.toList [I] k (es.length*1) (by simp;omega) (by simp;omega);simpa using this
  refine ⟨s,vs.setIfInBounds k I,rfl,ay,by simp [ax],⟨us.set k I,⟨by simp [av],aH ⟨g,cap,p,by rw [length_set];exact aa,ai,ao,by simpa using ac,bb,?_,by simpa using aj⟩⟩,fun u S=>?_,fun j G hh=>?_⟩,fun j G=>?_,fun i j b hi G=>?_,fun i b d hi=>?_⟩
  ·rw [<-M];have:=U9 t.toList [I] k (by simp;omega);simpa [bj] using this
  ·rcases mem_or_eq_of_mem_set S with S|S
   ·exact ak u S
   ·rw [S];exact B
  ·have af:j<es.length:=by simpa using G
   rw [H];by_cases m:j=k
   ·subst m;rw [if_pos rfl,aC,bK (by omega)];rfl
   ·rw [if_neg m,aC,getElem?_set_ne (fun e=>m e.symm),<-aC];simp only [aX] at hh;rw [if_neg (fun e=>m e.symm)] at hh;exact au j af hh
  ·have af:j<es.length:=by simpa using G
   simp only [aX];rw [H];by_cases m:j=k
   ·rw [if_pos m.symm,if_pos m];exact ⟨B,us1,J.moved (fun b d=>z b (fun e=>(U b d).1 (by rw [W,e]))),ad,fun k hk j G=>(az k hk j G).mono P ae,al⟩
   ·rw [if_neg m,if_neg (fun e=>m e.symm)];exact (am j af).moved P ae (fun b d=>z b (fun e=>ag.2 j b (by rw [W,e]) d))
  ·rw [H] at hi G;by_cases h1:i=k
   ·by_cases C:j=k
    ·rw [h1,C]
    ·rw [if_pos h1] at hi;rw [if_neg C] at G;exact absurd G ((U b hi).2 j)
   ·by_cases C:j=k
    ·rw [if_neg h1] at hi;rw [if_pos C] at G;exact absurd hi ((U b G).2 i)
    ·rw [if_neg h1] at hi;rw [if_neg C] at G;exact ag.1 i j b hi G
  ·rw [H] at hi;by_cases h1:i=k
   ·rw [if_pos h1] at hi;exact (U b hi).1 d
   ·rw [if_neg h1] at hi;exact ag.2 i b d hi
end
section
variable {α β:Type}
def mkn (n:Int)(bytes:Nat)(k:Nat->Option β):Option β:=if 0<=n/\n.toNat<=1099511627776/\bytes*n.toNat<=281474976710656 then k n.toNat else none
theorem MakX.on {n:Int}{bytes:Nat}{K:List AV->Prop}{k:Nat->Option β}{r:β}(h:mkn n bytes k=some r)(b:∀ m,k m=some r->K (aK m .nils)):MakX n bytes .nils K:=by
 unfold mkn at h;split at h
 ·rename_i a;exact .mk n.toNat (by omega) a.2.1 a.2.2 _ (.refl _) (b _ h)
 ·cases h
def nst (r:Nat)(x:Option β):Option β:=x
def frr (r:Nat)(x:Option β):Option β:=x
def enR (er:α->AV)(ety sz:Nat)(q:List α):NE:=.row ety sz (q.map er)
def ncx (n:Int)(len:Nat)(c:Option β):Option β:=if 0<=n/\n.toNat<len then c else none
def ntk (l:List (List α))(k:Nat)(c:List α->Option β):Option β:=match l[k]? with|some q=>c q|none=>none
def npt (l:List (List α))(k:Nat)(v:List α)(c:List (List α)->Option β):Option β:=if k<l.length then c (l.set k v) else none
end
section
variable {α β:Type} {E:Env} {nt:Nat} {o:Oper} {σ:AS} {K:OpK}
variable {x:Operand}
theorem OpX.ixc {n:Int}{len:Nat}{c:Option β}{r:β}{T e eb:Nat}{y:Operand}{i:TyI}{kd:IntKind}(a:ncx n len c=some r)(q:o.op=.indexAddr T x y)(v:dokN E nt o.dst=true)(d:A0 x=true)(b:A0 y=true)(m:σ.eval x=.cont len id)(j:σ.eval y=.int kd n)(z:lkT E.tab T=some i)(p:i.shape=.slc e 1 eb)
  (u:c=some r->K (.der (.nelt n.toNat) id) [] []):OpX E nt o σ K:=by
 unfold ncx at a;split at a
 ·rename_i t;exact .mk _ _ _ (fun cx h g=>z8l q (Aj v h g) d b m (by rw [j];congr 1;omega) (by rw [h];exact z) p t.2) (u a)
 ·cases a
variable {l:List (List α)}
theorem OpX.ntk (er:α->AV){k:Nat}{c:List α->Option β}{r:β}{T d ty ety sz:Nat}{i:TyI}(b:Proofs.YtkoamfnbbhfaiaaGreatDoor.ntk l k c=some r)(u:o.op=.load T x)(a:o.dst=some d)(B:dokN E nt o.dst=true)(g:A0 x=true)(p:σ.eval x=.der (.nelt k) id)(D:lkT E.tab T=some i)(C:i.shape.agg=false)
  (y:σ.find id=some (.nest ty (l.map (enR er ety sz)))) (v:σ.find d=none) (j:aF id d=false) (z:∀ q,c q=some r->K (.row d) [id,d] [(id,.nest ty ((l.map (enR er ety sz)).set k .hole)),(d,.row ety sz (q.map er))]):OpX E nt o σ K:=by
 unfold Proofs.YtkoamfnbbhfaiaaGreatDoor.ntk at b;split at b
 ·rename_i q t;exact .mk _ _ _ (fun cx m h=>zjl u a (Aj B m h) g p (by rw [m];exact D) C y (by rw [getElem?_map,t];rfl) v (nbne j)) (z _ b)
 ·cases b
theorem OpX.npt (er:α->AV){k:Nat}{v:List α}{c:List (List α)->Option β}{r:β}{T q ty ety sz:Nat}{y:Operand}{i:TyI}(a:Proofs.YtkoamfnbbhfaiaaGreatDoor.npt l k v c=some r)(D:o.op=.store T x y)(I:dokN E nt o.dst=true)(d:A0 x=true)(b:A0 y=true)(B:σ.eval x=.der (.nelt k) id)(z:σ.eval y=.row q)(J:lkT E.tab T=some i)(p:i.sz=1)
  (G:σ.find id=some (.nest ty ((l.map (enR er ety sz)).set k .hole))) (C:σ.find q=some (.row ety sz (v.map er))) (j:aF id q=false) (H:∀ t,c t=some r->K (.tup []) [id,q] [(id,.nest ty (t.map (enR er ety sz))),(q,.dead)]):OpX E nt o σ K:=by
 unfold Proofs.YtkoamfnbbhfaiaaGreatDoor.npt at a;split at a
 ·rename_i m;have h:=H _ a;have e:((l.map (enR er ety sz)).set k .hole).set k (.row ety sz (v.map er))=(l.set k v).map (enR er ety sz):=by rw [set_set,map_set];rfl
  rw [<-e] at h;exact .mk _ _ _ (fun cx u g=>zfu D (Aj I u g) d b B z (by rw [u];exact J) p G C (by rw [bK (by simpa using m)]) (nbne j)) h
 ·cases a
end
section
variable {α β:Type} {E:Env} {nt:Nat}
def Y8:AV->Bool |.cont _ _=>true |_=>false
variable {l:List (List α)}
theorem LeX.frr {σ:AS}(r:Nat)(er:α->AV)(ty ety sz:Nat)(hr:σ.find r=some (.nest ty (l.map (enR er ety sz)))):LeX E nt σ (σ.rpAll r Y8 (.sl 1 (l.map fun q=>.sl sz (q.map er))) .dead):=by
 refine LeX.rpAll r Y8 _ _ _ hr (fun ty cs h=>by cases h) (fun cx γ a w d ac hd he=>?_);obtain ⟨s,vs,t,P,O,⟨us,m,C,N⟩,U,ad⟩:=he;have t:d=nstV s vs:=t;subst t;rw [bT] at O m;refine ⟨none,(fun b p=>by cases p),fun S' hS G=>⟨rfl,fun γ' x v aa y hx M=>?_⟩⟩;have J:∃ n,x=.cont n r:=by
  cases x with
  |cont n i=>simp only [AV.leafId,Option.some.injEq] at hx;exact ⟨n,by rw [hx]⟩
  |_=>simp [Y8] at y
 obtain ⟨n,rfl⟩:=J;have L:v=s:=by
  cases M with
  |cont h M hl =>
   rw [hd] at h;injection h with h
   have:=M none (.tuple (#[s]++vs)) h.symm;rw [this];simp only [bO,con0]
 subst L;have X:∀ k,k<l.length->Rep w S' G0 (.sl sz ((l[k]?.getD []).map er)) (us.getD k undef):=fun k u=>by
  have h3:=U k (by simpa using u);have h2:=N k (by simpa using u) (by simp [enR]);simp only [aW,enR] at h3;obtain ⟨q1,us',Z,q3,q4,q5⟩:=h3;obtain ⟨I,ab⟩:=Mk Z;obtain ⟨s',c,z⟩:=Gn (w:=w) (S:=Sg cx.S0 cx.w0.heap.size γ) (γ:=γ) (S':=S') (d:=some ((vs.getD k undef).ownBlock,vs.getD k undef)) ⟨_,us',rfl,q1,Z,q3,q4,q5⟩ (fun b p _=>hS b p) (fun s Y e=>by
   injection e with e
   injection e with H e2
   rw [I] at H;exact G Y (mem_nstV.2 (aH ⟨k,H⟩)) (fun p=>by cases p)) G0
  injection c with c
  injection c with _ c
  rw [h2,c,bD u];exact z
 obtain ⟨s0,g,Q⟩:=Gn (w:=w) (S:=S') (γ:=γ) (S':=S') (B:=cx.w0.heap.size) (ty:=ty) (sz:=1) (xs:=l.map fun q=>.sl sz (q.map er)) (d:=some (v.ownBlock,v)) ⟨v,us,rfl,P,by rw [bT];exact m,fun k u=>by rw [aW];rfl,fun k u j hj=>by
   have D:k<l.length:=by simpa using u
   have W:j=0:=by
    have:j<1:=by simpa [aV] using hj
    omega
   subst W;simp only [aW,aV,aP,Nat.mul_one,bW];have:=X k D;rw [bD D] at this;exact this,C⟩ (fun b p _=>p) (fun s Y e=>by
   injection e with e
   injection e with H e2
   rw [(Mk m).1] at H;exact G Y (mem_nstV.2 (aJ H)) (fun p=>by cases p)) γ'
 injection g with g
 injection g with _ g
 rw [g];exact Q
variable {R:Exit->AS->Prop} {K:List Bi}
theorem AW.frrO {ty ety sz:Nat}{c:Code}{σ:AS}{x:Option β}{y:β}(er:α->AV)(h:Proofs.YtkoamfnbbhfaiaaGreatDoor.frr id x=some y)(r:Nat)(a:σ.find r=some (.nest ty (l.map (enR er ety sz))))(k:x=some y->AW E nt R (.code c::K) .normal (σ.rpAll r Y8 (.sl 1 (l.map fun q=>.sl sz (q.map er))) .dead)):AW E nt R (.code c::K) .normal σ:=AW.weaken (LeX.frr r er ty ety sz a) (k h)
theorem AW.nstO {ty m:Nat}{c:Code}{σ:AS}{x:Option β}{y:β}{er:α->AV}(ety sz:Nat)(h:Proofs.YtkoamfnbbhfaiaaGreatDoor.nst id x=some y)(r:Nat)(a:σ.find r=some (.row ty 1 (aK m .nils)))(k:x=some y->AW E nt R (.code c::K) .normal (σ.rpAll r Gs (.cont m r) (.nest ty ((aK m ([]:List α)).map (enR er ety sz))))):AW E nt R (.code c::K) .normal σ:=by
 have e:(aK m ([]:List α)).map (enR er ety sz)=aK m (.row ety sz []):=by rw [map_replicate];rfl
 rw [e] at k;exact AW.weaken (LeX.nst r ety sz a) (k h)
end
attribute [irreducible] mkn nst frr ntk npt ncx
theorem zq7 {kd:IntKind}{a:AV}(h:isI kd a=true):a=.int kd (intN a):=by
 cases a<;>simp [isI] at h;subst h;rfl
def qK (n:Int)(p:AV×AV):Bool:=decide (n=intN p.1)
theorem Zy {kd:IntKind}{n:Int}:∀ (ps:List (AV×AV)) (i:Nat),(∀ p∈ps,isI kd p.1=true)->Bq (.int kd n) (ps.map (·.1)) i=some ((ps.findIdx? (qK n)).map (· + i))
 |[],i,_=>rfl
 |(a,v)::r,i,h=>by
  have c:=zq7 (h (a,v) (by simp));have d:=Zy (n:=n) r (i+1) (fun p g=>h p (by simp [g]));have e:eqK (.int kd n) a=some (decide (n=intN a)):=by
   simp only at c;rw [c];simp [eqK,eq1,show ∀ m,intN (.int kd m)=m from fun _=>rfl]
  simp only [map_cons,Bq,e];by_cases b:n=intN a
  ·rw [decide_eq_true b];simp [bE,qK,b]
  ·rw [decide_eq_false b];simp only [d,bE,qK,decide_eq_false b];simp only [bG,if_false,Option.map_map];congr 1;have q:(fun p:AV×AV=>decide (n=intN p.1))=qK n:=rfl
   try rw [q]
   cases findIdx? (qK n) r with
   |none=>rfl
   |some j=>simp;omega
theorem zc8 (z:AV)(q:AV×AV->Bool)(ps:List (AV×AV)):Ey z ps (ps.findIdx? q)=((ps.find? q).map (·.2)).getD z:=by
 induction ps with
 |nil=>rfl
 |cons p r ih =>
  rw [bE,find?_cons];cases a:q p with
  |true=>rfl
  |false =>
   simp only [bG,if_false];rw [<-ih];cases findIdx? q r<;>rfl
variable {ps0 ps:List (AV×AV)}
theorem zh8 {n:Int}(c:ps0.Perm ps)(t:(ps.map fun p=>intN p.1).Nodup):ps0.find? (qK n)=ps.find? (qK n):=by
 have uniq:∀ p∈ps,∀ a∈ps,qK n p=true->qK n a=true->p=a:=fun p h a u q d=>by
  obtain ⟨i,hi,rfl⟩:=aU.1 h;obtain ⟨j,m,rfl⟩:=aU.1 u;have e:intN ps[i].1=intN ps[j].1:=by
   simp only [qK,decide_eq_true_eq] at q d;rw [<-q,<-d]
  have:i=j:=(getElem_inj (h₀:=by simpa using hi) (h₁:=by simpa using m) t).1 (by simpa using e);subst this;rfl
 cases h:ps.find? (qK n) with
 |none =>
  rw [find?_eq_none] at h ⊢;exact fun p hm=>h p (c.mem_iff.1 hm)
 |some p =>
  have h1:=aY h;have g:=find?_some h;cases b:ps0.find? (qK n) with
  |none=>rw [find?_eq_none] at b;exact absurd g (b p (c.mem_iff.2 h1))
  |some a=>rw [uniq a (c.mem_iff.1 (aY b)) p h1 (find?_some b) g]
theorem Mz.mem (h:Mz ps0 ps){p:AV×AV}:p∈ps0 ↔ p∈ps:=by
 rcases h with rfl|⟨h,_⟩
 ·exact Iff.rfl
 ·exact h.mem_iff
theorem zw9 {k:AV}{kd:IntKind}{r:Option Nat}(m:isI kd k=true)(h:∀ p∈ps,isI kd p.1=true)(g:(ps.map fun p=>intN p.1).Nodup)(c:ps0.Perm ps)(a:Bq k (ps.map (·.1)) 0=some r) :
  ∃ b,Bq k (ps0.map (·.1)) 0=some b/\b.isSome=r.isSome/\∀ z,Ey z ps0 b=Ey z ps r:=by
 have e:=zq7 m;rw [e,Zy ps 0 h] at a;injection a with a
 have j:∀ o:Option Nat,o.map (· + 0)=o:=fun o=>by cases o<;>rfl
 rw [j] at a;refine ⟨ps0.findIdx? (qK (intN k)),?_,?_,fun z=>?_⟩
 ·rw [e,Zy ps0 0 (fun p hm=>h p (c.mem_iff.1 hm)),j];simp [intN]
 ·rw [<-a];have d:∀ l:List (AV×AV),(l.findIdx? (qK (intN k))).isSome=(l.find? (qK (intN k))).isSome:=fun l=>by
   rw [findIdx?_isSome,Bool.eq_iff_iff,find?_isSome,aZ]
  rw [d,d,zh8 c g]
 ·rw [zc8,<-a,zc8,zh8 c g]
theorem zkh {k:AV}{r:Option Nat}(b:Mz ps0 ps)(a:Bq k (ps.map (·.1)) 0=some r):∃ c,Bq k (ps0.map (·.1)) 0=some c/\c.isSome=r.isSome/\∀ z,Ey z ps0 c=Ey z ps r:=by
 rcases b with rfl|⟨b,kd,h1,h⟩
 ·exact ⟨r,a,rfl,fun _=>rfl⟩
 ·cases ps with
  |nil=>rw [perm_nil.1 b];exact ⟨r,a,rfl,fun _=>rfl⟩
  |cons p t =>
   refine zw9 (kd:=kd) ?_ h1 h b a;have hi:=zq7 (h1 p (by simp));simp only [map_cons,Bq] at a;rw [hi] at a;cases k with
   |int d n =>
    simp only [eqK,eq1] at a;by_cases g:d=kd
    ·simp [isI,g]
    ·rw [decide_eq_false g] at a;cases a
   |_=>simp [eqK,eq1] at a
def Jm (args:List AV)(me:List (Nat×Ent)):AS:=⟨args.zipIdx.map fun p=>(p.2,p.1),me⟩
def boxB (np:Nat)(args:List AV)(τ:AS)(me me':List (Nat×Ent))(yk:List Nat):Bool:=me.all fun x=>match x.2 with
 |.box _ _=>memB x.1 yk || (range np).any fun t=>(match args[t]? with|some (.ptr k 0)=>aF k x.1|_=>false) && (match τ.get t,lkE me' x.1 with|.ptr k 0,some (.box _ _)=>aF k x.1|_,_=>false)
 |.row _ _ _=>match lkE me' x.1 with
  |none=>true
  |some (.row _ _ _)=>(range np).any fun t=>(match args[t]? with|some (.row k)=>aF k x.1|_=>false) && (match τ.get t with|.row k=>aF k x.1|_=>false)
  |some _=>false
 |_=>true
variable {args:List AV}{me me':List (Nat×Ent)}{ty sz:Nat}{xs:List AV}
theorem zmy {np:Nat}{τ:AS}{yk:List Nat}(h:boxB np args τ me me' yk=true){i:Nat}(hi:lkE me i=some (.row ty sz xs)){e:Ent}(z:lkE me' i=some e) :
  ∃ t b c a,t<np/\args[t]? = some (.row i)/\τ.get t=.row i/\e=.row b c a:=by
 have j:=bA.1 h (i,.row ty sz xs) (Ea hi);simp only [z] at j;split at j
 ·rename_i g;cases g
 ·rename_i b c a g;injection g with g
  obtain ⟨t,u,d⟩:=aZ.1 j;rw [bM] at u;rw [aS] at d;obtain ⟨q,p⟩:=d;split at q
  ·rename_i k y;have C:k=i:=aB q;subst C;split at p
   ·rename_i v m;have B:v=k:=aB p;subst B;exact ⟨t,b,c,a,u,y,m,g⟩
   ·cases p
  ·cases q
 ·cases j
variable {w:World}
theorem zli {w':World}{S S':Nat->Prop}{γ':Gam}{B B' i c g:Nat}{b:List AV}{d m:Option (Option Nat×Value)}{v:Value}(h1:Rep w S γ (.row i) v)(y:Rep w' S' γ' (.row i) v)(j:γ i=some d)(a:γ' i=some m)
  (u:B8 w S γ B d (.row ty sz xs)) (h:B8 w' S' γ' B' m (.row c g b)):γ' i=γ i:=by
 obtain ⟨s,vs,C,t,_⟩:=u;obtain ⟨D,vs',z,o2,_⟩:=h;subst C z;have q:=h1.row_inv j (F9 t);have p:=y.row_inv a (F9 o2);rw [j,a,<-q,<-p]
def YK (np:Nat)(args:List AV)(τ:AS)(me':List (Nat×Ent)):List Nat->Prop |[]=>True |k::r=>((∃ (t a i l:Nat) (T:Array Value) (caps caps':List AV) (ty:TypeId) (es:List AV),args[t]? = some (.yld l T caps)/\τ.get a=.yld l T caps'/\caps[i]? = some (.ptr k 0)/\caps'[i]? = some (.ptr k 0)/\lkE me' k=some (.box ty es)) \/ ∃ (t i f:Nat) (caps caps':List AV) (ty:TypeId) (es:List AV),t<np/\args[t]? = some (.fn f caps)/\τ.get t=.fn f caps'/\caps[i]? = some (.ptr k 0)/\caps'[i]? = some (.ptr k 0)/\lkE me' k=some (.box ty es))/\YK np args τ me' r
theorem YK.at {np:Nat}{τ:AS}:∀ {l:List Nat},YK np args τ me' l->∀ k∈l,(∃ (t b i l:Nat) (T:Array Value) (caps caps':List AV) (ty:TypeId) (es:List AV),args[t]? = some (.yld l T caps)/\τ.get b=.yld l T caps'/\caps[i]? = some (.ptr k 0)/\caps'[i]? = some (.ptr k 0)/\lkE me' k=some (.box ty es)) \/
   ∃ (t i f:Nat) (caps caps':List AV) (ty:TypeId) (es:List AV),t<np/\args[t]? = some (.fn f caps)/\τ.get t=.fn f caps'/\caps[i]? = some (.ptr k 0)/\caps'[i]? = some (.ptr k 0)/\lkE me' k=some (.box ty es)
 |[],_,k,a=>by cases a
 |x::r,h,k,a=>by
  rcases mem_cons.1 a with rfl|a
  ·exact h.1
  ·exact h.2.at k a
inductive GX (E:Env) (nt:Nat) (fn:Func) (args:List AV) (me:List (Nat×Ent)) (σ:AS) (res:AV) (me':List (Nat×Ent)):Prop
 |mk (τ:AS) (hl:LeX E nt σ τ) (hme:τ.me=me') (avs:List AV) (h1:retA E.tab τ fn.results.toList=some avs) (h2:Sub (Fd avs) res) (yk:List Nat) (hyk:YK E.np args τ me' yk) (hb:boxB E.np args τ me me' yk=true)
def EndG (E:Env)(nt:Nat)(fn:Func)(args:List AV)(me:List (Nat×Ent))(res:AV)(me':List (Nat×Ent)):Exit->AS->Prop |.normal,σ=>GX E nt fn args me σ res me' |.ret,σ=>GX E nt fn args me σ res me' |_,_=>False
variable {E:Env}{f:FuncId}{fn:Func}{res:AV}
theorem ConG.walk {caps:List AV}(c:Code)(hf:E.P.funcs[f]? = some fn)(U:fn.body=some c)(hn:bC (args++caps).length fn.ntmps=true)(ay:bC E.np (args++caps).length=true)(ax:E.rg=false)(bc:E.dr=false)
  (h:AW E fn.ntmps (EndG E fn.ntmps fn (args++caps) me res me') [.code c] .normal (Jm (args++caps) me)) (am:E.ld=false:=by rfl)(am:E.ld=false:=by rfl):ConG E.P E.yl (CalF E.P f caps.length) args caps me res me':=by
 intro cx γ w vs cs hP an bb aq ak al m ah au bf bd;have bj:(vs++cs).size=(args++caps).length:=by simp [ah,bd]
 have bn:=aE hn;have bi:=aE ay;refine callsIn_wide.1 (callsIn_of_wp (F:=Fence.wide) (n:=0) hf U trivial ?_);let cx':Cx:=⟨E,cx.S0,cx.w0,fn.ntmps,fun b=>b<w.heap.size/\¬own γ b,w,none,vs++cs,fun _=>rfl,false,G0,0⟩;have h0:WP cx' c (EndG E fn.ntmps fn (args++caps) me res me') (Jm (args++caps) me):=bB (h.out cx' rfl rfl rfl) fun e σ hk=>by cases e<;>exact hk
 have C:∀ t (G:t<(args++caps).length),Rep w (Sg cx.S0 cx.w0.heap.size γ) γ (args++caps)[t] ((vs++cs).getD t undef):=fun t G=>by
  by_cases h1:t<args.length
  ·rw [getElem_append_left h1,aA,aO (by omega),<-aA];exact au t h1
  ·rw [getElem_append_right (by omega),aA,Array.getElem?_append_right (by omega),<-aA,ah];exact bf _ (by rw [length_append] at G;omega)
 have S:∀ t,t<(args++caps).length->(vs++cs++aM (fn.ntmps-(vs++cs).size) undef).getD t undef=(vs++cs).getD t undef:=fun t G=>by
  rw [aA,aA,aO (by omega)]
 have aw:StG cx' γ (Jm (args++caps) me) { tmps:=vs++cs++aM (fn.ntmps-(vs++cs).size) undef,defers:=[] } w:=by
  refine ⟨fun t=>?_,m.me,m.inj,m.ge,m.below,?_,⟨fun _=>rfl,⟨[],rfl,.nil,fun r hr=>by cases hr⟩,fun t G=>?_,fun l R hl=>m.defers.yl l R (aq _ hl),aD _,fun h=>absurd h (by simp [cx']),fun h=>absurd (am.symm.trans h) (by simp),(fun d hd=>by cases hd),Nat.zero_le _⟩,m.gh,fun b U=>⟨U.2,U.1,rfl⟩,fun hd=>?_⟩
  ·unfold AS.get Jm;rw [Qx];by_cases G:0<=t/\t<0+(args++caps).length
   ·rw [dif_pos G];have Z:t<(args++caps).length:=by omega
    show Rep w _ γ _ ((vs++cs++aM (fn.ntmps-(vs++cs).size) undef).getD t undef);rw [S t Z];exact C t Z
   ·rw [dif_neg G];exact .any _
  ·show (vs++cs++aM (fn.ntmps-(vs++cs).size) undef).size=fn.ntmps;rw [Array.size_append,Array.size_replicate];omega
  ·have Z:t<E.np:=G;exact S t (by omega)
  ·exact absurd (bc.symm.trans hd) (by simp)
 refine wpIn_mono (h0 _ _ ⟨γ,aw⟩) (fun e a w' ⟨σ,hq,aj⟩=>?_);have key:GX E fn.ntmps fn (args++caps) me σ res me'->bodyPost E.P fn (fun e w'=>∃ u γ',e=.returned u/\MeSt cx γ' me' w'/\Rep w' (Sg cx.S0 cx.w0.heap.size γ') γ' res u/\w.heap.size<=w'.heap.size/\(∀ i,Ho me me' i=true->γ' i=γ i) /\
   (∀ b,¬own γ b->b<w.heap.size->w'.heap[b]? = w.heap[b]? /\ ¬own γ' b)) .ret a w':=by
  rintro ⟨τ,hl,D,avs,h1,h2,yk,ar,ao⟩;obtain ⟨γ',v⟩:=hl cx' rfl rfl rfl a w' aj;obtain ⟨u,hu,hr⟩:=J4 v h1;have ad:∀ b,¬own γ b->b<w.heap.size->w'.heap[b]? = w.heap[b]? /\ ¬own γ' b:=fun b U y=>by
   obtain ⟨q1,q2,q3⟩:=v.fr b ⟨y,U⟩;exact ⟨q3,q1⟩
  have aa:w.heap.size<=w'.heap.size:=v.defers.sz;refine ⟨v.defers.d0 ax,u,hu,u,γ',rfl,?_,hr.sub h2,aa,fun i M=>?_,ad⟩
  ·refine ⟨fun t=>.any _,fun i=>by have:=v.me i;unfold aG at this ⊢;rw [<-D];exact this,v.inj,v.ge,v.below,ak.symm,⟨fun _=>rfl,⟨[],rfl,.nil,fun r hr=>by cases hr⟩,fun t G=>by rw [al] at G;omega,fun l R hl=>?_,aT m.defers.sz aa,fun h=>absurd (bb.symm.trans h) (by simp),m.defers.laid,(fun d hd=>by cases hd),aT m.defers.wsz aa⟩,v.gh,fun b U=>?_,fun hd=>absurd (an.symm.trans hd) (by simp)⟩
   ·obtain ⟨q0,q1,q2,q3⟩:=m.defers.yl l R hl;obtain ⟨k1,Y⟩:=ad l q2 q1;exact ⟨q0,by omega,Y,k1.trans q3⟩
   ·obtain ⟨q1,q2,q3⟩:=m.fr b U;obtain ⟨k1,Y⟩:=ad b q1 q2;exact ⟨Y,by omega,k1.trans q3⟩
  ·unfold Ho at M;split at M;rotate_left
   ·rename_i ty sz xs e hi he;obtain ⟨t,ag,bm,bk,G,e1,e2,rfl⟩:=zmy ao hi he;obtain ⟨y,I⟩:=List.getElem?_eq_some_iff.1 e1;have L:=C t y;rw [I] at L;have J:=v.tm t;rw [e2,v.defers.pin t G] at J;have B:=m.me i;unfold aG at B;rw [hi] at B;obtain ⟨x,Q,B⟩:=B;have z:=v.me i;unfold aG at z;rw [D,he] at z;obtain ⟨x2,q,z⟩:=z;exact zli L J Q q B z
   ·cases M
   rename_i ty es hi;have H:=bA.1 ao (i,.box ty es) (Ea hi);have H:=(bP _ _).mp H;rcases H with H|H
   ·rcases ar.at i ((Ct _ _).1 H) with ⟨t,t',j,l,T,yc,ap,ag,bh,e1,e2,e3,e4,e5⟩|⟨t,j,f',yc,ap,ag,bh,av,e1,e2,e3,e4,e5⟩
    ·obtain ⟨y,I⟩:=List.getElem?_eq_some_iff.1 e1;have L:=C t y;rw [I] at L;have J:=v.tm t';rw [e2] at J;obtain ⟨hj,ab⟩:=List.getElem?_eq_some_iff.1 e3;obtain ⟨ac,N⟩:=List.getElem?_eq_some_iff.1 e4;have X:=L.yld_inv.2 j hj;have W:=J.yld_inv.2 j ac;rw [ab] at X;rw [N] at W;have B:=m.me i;unfold aG at B;rw [hi] at B;obtain ⟨x,Q,g,af,P,_⟩:=B;have z:=v.me i;unfold aG at z;rw [D,e5] at z;obtain ⟨x2,q,g2,ae,O,_⟩:=z;subst P O;have p:=X.ptr_inv Q;rw [W.ptr_inv q] at p;injection p with p
     injection p with p
     injection p with p
     rw [Q,q,p]
    ·obtain ⟨y,I⟩:=List.getElem?_eq_some_iff.1 e1;have L:=C t y;rw [I] at L;have J:=v.tm t;rw [e2,v.defers.pin t av] at J;obtain ⟨hj,ab⟩:=List.getElem?_eq_some_iff.1 e3;obtain ⟨ac,N⟩:=List.getElem?_eq_some_iff.1 e4;obtain ⟨us,ev1,_,X⟩:=L.fn_inv;obtain ⟨us',bg,_,W⟩:=J.fn_inv;have p3:(vs++cs).getD t undef=cx'.pv.getD t undef:=rfl;rw [p3,bg] at ev1;injection ev1 with _ _ ev1
     subst ev1;have X:=X j hj;have W:=W j ac;rw [ab] at X;rw [N] at W;have B:=m.me i;unfold aG at B;rw [hi] at B;obtain ⟨x,Q,g,af,P,_⟩:=B;have z:=v.me i;unfold aG at z;rw [D,e5] at z;obtain ⟨x2,q,g2,ae,O,_⟩:=z;subst P O;have p:=X.ptr_inv Q;rw [W.ptr_inv q] at p;injection p with p
     injection p with p
     injection p with p
     rw [Q,q,p]
   obtain ⟨t,G,ai⟩:=aZ.1 H;rw [bM] at G;rw [aS] at ai;obtain ⟨b1,b2⟩:=ai;split at b1
   ·rename_i k hk;have e1:k=i:=aB b1;subst e1;split at b2
    ·rename_i Y bl bo ba az;have e2:Y=k:=aB b2;subst e2;obtain ⟨y,I⟩:=List.getElem?_eq_some_iff.1 hk;have L:=C t y;rw [I] at L;have J:=v.tm t;rw [ba,v.defers.pin t G] at J;have B:=m.me Y;unfold aG at B;rw [hi] at B;obtain ⟨x,Q,g,af,P,_⟩:=B;have z:=v.me Y;unfold aG at z;rw [D,az] at z;obtain ⟨x2,q,g2,ae,O,_⟩:=z;subst P O;have p:=L.ptr_inv Q;have p2:=J.ptr_inv q;have p3:(vs++cs).getD t undef=cx'.pv.getD t undef:=rfl;rw [p3,p2] at p;injection p with p
     injection p with p
     injection p with p
     rw [Q,q,p]
    ·cases b2
   ·cases b1
 cases e with
 |normal=>exact key hq
 |ret=>exact key hq
 |_=>exact hq.elim
variable {σ:AS}
theorem z8g {cx:Cx}{fn:Func}{R:Ending->World->Prop}:∀ (m:List Nat) (a:Act) (w:World),StG cx γ σ a w->cx.E.rg=true->(∀ b,cx.Fr b->False)->cx.E.yl=none->a.defers=m.map (fun r=>{ target:=.collected r,args:=#[] })->m.Nodup ->
  (∀ r∈m,cx.w0.heap.size<=r/\r<w.heap.size/\¬own γ r/\w.heap[r]? = some (.deferred (some []))) ->
  (∀ w' z,StG cx γ σ z w'->z.tmps=a.tmps->∃ v,(results fn a.tmps).run cx.P w'=.ok v w'/\R (.returned v) w')->LeavesInM Fence.wide 0 cx.P fn a.tmps R a.defers .returning w
 |[],a,w,h,t,H,q,y,_,_,k=>by
  rw [y];obtain ⟨v,h1,I⟩:=k w a h rfl;exact ⟨v,h1,I⟩
 |r::m,a,w,h,t,H,q,y,D,u,k=>by
  obtain ⟨M,W,L,J⟩:=u r (bF ..);rw [y];refine ⟨by simp,aJ ⟨r,w.putObj r (.deferred none),rfl,run_takeDeferred J,?_⟩⟩;have c:=(nodup_cons.1 D);have p:∀ g∈m,cx.w0.heap.size<=g/\g < (w.putObj r (.deferred none)).heap.size/\¬own γ g/\(w.putObj r (.deferred none)).heap[g]? = some (.deferred (some [])):=fun g j=>by
   obtain ⟨Q,P,O,N⟩:=u g (aN _ j);exact ⟨Q,by rw [Bx];exact P,O,(Bo (b:=g) (r:=r) (by intro e;subst e;exact c.1 j)).trans N⟩
  have B:=h.putObj (o':=.deferred none) (ds:=m.map (fun r=>{ target:=.collected r,args:=#[] })) J rfl M L
   ⟨fun C=>absurd (C.symm.trans t) (by simp),⟨m,rfl,c.2,p⟩,h.defers.pin,fun l R S=>absurd (q.symm.trans S) (by simp),by rw [Bx];exact h.defers.sz,h.defers.evo,h.defers.laid,(fun d G g j=>h.defers.mks d (by rw [y];exact aN _ G) g j),by rw [Bx];exact h.defers.wsz⟩ (fun b U=>(H b U).elim)
  exact z8g m _ _ B t H q rfl c.2 p (fun w' z h1 I=>k w' z h1 (I.trans rfl))
theorem Con.walkM {fr:Bool}(c:Code)(N:E.P.funcs[f]? = some fn)(g:fn.body=some c)(O:Bh E f)(L:bC args.length fn.ntmps=true)(j:fr=false\/res.flat=true)
  (h:AW E fn.ntmps (EndA E fn res) [.code c] .normal (Di args)) (t:E.rg=true) (m:E.yl=none) (y:E.np=0) (z:E.ld=false:=by rfl):Con { E with rg:=false } fr f args res:=by
 refine ⟨O,fun S w vs P=>callsIn_wide.1 (callsIn_of_wp_marks (F:=Fence.wide) (n:=0) N g trivial ?_)⟩;have Q:WP (Cx.call E S w fn.ntmps) c (EndA E fn res) (Di args):=bB (h.out (Cx.call E S w fn.ntmps) rfl rfl rfl) fun e σ M=>by cases e<;>exact M
 refine wpIn_mono (Q _ _ (Qj m y z P (aE L))) (fun e a w' ⟨σ,u,γ,q⟩=>?_);have key:(∃ avs,retA E.tab σ fn.results.toList=some avs/\Sub (Mp σ (Fd avs)) res)->bodyPostM Fence.wide 0 E.P fn (fun e w'=>∃ v,e=.returned v/\BelE { E with rg:=false } w w'/\Rep w' (fun b=>(fr=false/\S b)\/w.heap.size<=b) G0 res v) .ret a w':=by
  rintro ⟨avs,h1,p⟩;obtain ⟨D,I,H,G⟩:=q.defers.marks;refine z8g (cx:=Cx.call E S w fn.ntmps) D a w' q t (fun b g=>g.elim) m I H G (fun W X d U=>?_);obtain ⟨v,B,J⟩:=J4 d h1;rw [U] at B;refine ⟨v,B,v,rfl,⟨d.below,d.dr⟩,?_⟩;have C:=(Zl (S':=fun b=>S b\/w.heap.size<=b) d (fun b g=>?_) J).sub p
  ·rcases j with j|j
   ·exact C.mono (aD _) (fun b g _=>⟨rfl,g.elim (fun h=>aJ ⟨j,h⟩) aH⟩)
   ·exact C.flat j
  ·rcases g with g|g
   ·rcases g with ⟨g,_⟩|⟨g,_⟩
    ·exact aJ g.1
    ·exact aH g.1
   ·exact aH (d.ge b g).1.1
 cases e with
 |normal=>exact key (Qd u)
 |ret=>exact key (Qd u)
 |_=>exact u.elim
theorem zje {S:Nat->Prop}:∀ (ps:List Nat) (avs:List AV) (vs:List Value) (T:Array Value) (base:List (Nat×AV)),(∀ t,Rep w S γ (lkV base t) (T.getD t undef))->(∀ p∈ps,p<T.size)->avs.length=ps.length->vs.length=ps.length ->
  (∀ i (hi:i<avs.length),Rep w S γ avs[i] (vs.getD i undef))->∀ t,Rep w S γ (lkV ((ps.zip avs).foldl (fun tm x=>x::tm) base) t) (((ps.zip vs).foldl (fun t x=>t.setIfInBounds x.1 x.2) T).getD t undef)
 |[],_,_,T,base,d,_,_,_,_=>fun t=>d t
 |p::ps,[],_,T,base,_,_,h1,_,_=>by simp at h1
 |p::ps,av::avs,[],T,base,_,_,_,c,_=>by simp at c
 |p::ps,av::avs,v::vs,T,base,d,g,h1,c,m=>by
  simp only [zip_cons_cons,bU];refine zje ps avs vs _ _ (fun t=>?_) (fun q u=>by rw [aQ];exact g q (aN _ u)) (by simpa using h1) (by simpa using c) (fun i hi=>by have:=m (i+1) (by simpa using hi);simpa using this);have a:=g p (bF ..);simp only [lkV];cases j:aF p t with
  |true =>
   have:=aB j;subst this;have h:=m 0 (by simp);simp only [aP,getD_cons_zero] at h;simpa [a] using h
  |false =>
   have b:p≠t:=Nat.ne_of_beq_eq_false j;have e:(T.setIfInBounds p v).getD t undef=T.getD t undef:=by
    rw [aA,aL b,<-aA]
   rw [e];exact d t
theorem zd4:∀ (l:List (Nat×Value)) (T:Array Value),(l.foldl (fun t x=>t.setIfInBounds x.1 x.2) T).size=T.size
 |[],T=>rfl
 |x::l,T=>by rw [bU,zd4 l,aQ]
theorem zfl {t:Nat}:∀ (l:List (Nat×Value)) (T:Array Value),(∀ x∈l,x.1≠t)->(l.foldl (fun t x=>t.setIfInBounds x.1 x.2) T).getD t undef=T.getD t undef
 |[],T,_=>rfl
 |x::l,T,h=>by
  rw [bU,zfl l _ (fun y a=>h y (aN _ a)),aA,aL (h x (bF ..)),<-aA]
def R2 (ps:List Nat)(args ycaps:List AV)(me:List (Nat×Ent)):AS:=⟨(ps.zip args).foldl (fun tm x=>x::tm) (ycaps.zipIdx.map fun p=>(p.2,p.1)),me⟩
inductive BX (E:Env) (nt:Nat) (ycaps:List AV) (me:List (Nat×Ent)) (σ:AS) (me':List (Nat×Ent)):Prop
 |mk (τ:AS) (hl:LeX E nt σ τ) (hme:τ.me=me') (hb:boxB E.np ycaps τ me me' []=true)
def EndB (E:Env)(nt:Nat)(ycaps:List AV)(me me':List (Nat×Ent)):Exit->AS->Prop |.normal,σ=>BX E nt ycaps me σ me' |_,_=>False
theorem StG.putObjW {cx:Cx}{a:Act}(h:StG cx γ σ a w){r:Nat}{o o':Obj}(p:w.heap[r]? = some o)(I:o.isCells=false)(N:cx.w0.heap.size<=r)(v:¬own γ r)(z:a.defers=[])(q:cx.E.yl=none)(u:∀ es c,o≠.map es c:=by intro es c h;cases h):StG { cx with w1:=w.putObj r o' } γ σ a (w.putObj r o'):=by
 have C:=zk4 (k:=0) p I;have j:∀ es c,w.heap[r]? ≠ some (.map es c):=fun es c h=>by rw [p] at h;injection h with h;exact u es c h
 have y:∀ b,own γ b->b≠r:=fun b g e=>v (e▸g)
 refine ⟨fun t=>(h.tm t).putObj C j,fun id=>?_,h.inj,fun b g=>by rw [Bx];exact h.ge b g,h.below.trans ⟨rfl,rfl,rfl,by rw [Bx];exact aD _,fun b g=>Bo (by omega)⟩,h.size,
  ⟨fun _=>z,⟨[],z,.nil,fun r p=>by cases p⟩,h.defers.pin,fun l R J=>absurd (q.symm.trans J) (by simp),aD _,h.defers.evo,h.defers.laid,(fun d m=>by rw [z] at m;cases m),by rw [Bx];exact h.defers.wsz⟩,fun b g=>by rw [Bx];exact h.gh b g,fun b g=>?_,h.dr⟩
 ·have:=h.me id;cases D:σ.find id with
  |none=>rw [D] at this;exact this
  |some e =>
   rw [D] at this;obtain ⟨x,B,L⟩:=this;exact ⟨x,B,L.putObj C j (fun b g=>y b ⟨id,x,B,g⟩)⟩
 ·obtain ⟨H,G,M⟩:=h.fr b g;exact ⟨H,by rw [Bx];exact G,rfl⟩
variable {nt:Nat}{ycaps:List AV}
theorem ConG.round {ps:Array Tmp}{assign body:Code}(aa:E.rg=false)(y:E.yl=none)(bh:E.dr=false)(bc:ps.toList.all (fun p=>bC E.np p && bV p nt)=true)(H:args.length=ps.size)(bu:bC ycaps.length nt=true)
  (h:AW E nt (Cy (fun σ=>AW E nt (EndB E nt ycaps me me') [.code body] .normal σ) (fun _ _=>False)) [.code assign] .normal (R2 ps.toList args ycaps me))
  (l D:Nat) (fn:FuncId) (T:Array Value) (hT:T.size=nt) (ar:E.ld=false:=by rfl)(ar:E.ld=false:=by rfl):ConG E.P (some (l,.loop (recR fn T ps assign body D))) (fun vs cs w R=>cs=T->CalY E.P l vs cs w R) args ycaps me (.bool true) me':=by
 intro cx γ w vs cs hP av bg ay ap aq a ai ba ac bk;subst bk;have W:=ay _ rfl;obtain ⟨q0,q1,q2,q3⟩:=a.defers.yl l _ W;refine ⟨fn,_,assign,body,run_yield (P:=E.P) (args:=vs) q3 (by rw [ai,H]),roundIn_of_wpIn trivial ?_⟩;have ef:(ps.zip vs).foldl (fun (t:Array Value) (x:Tmp×Value)=>t.setIfInBounds x.1 x.2) cs=(ps.toList.zip vs.toList).foldl (fun t x=>t.setIfInBounds x.1 x.2) cs:=by
  rw [<-Array.foldl_toList,Array.toList_zip]
 obtain ⟨tm,O⟩:∃ tm,tm=(ps.toList.zip vs.toList).foldl (fun t x=>t.setIfInBounds x.1 x.2) cs:=⟨_,rfl⟩;have etm:(ps.zip vs).foldl (fun (t:Array Value) (x:Tmp×Value)=>t.setIfInBounds x.1 x.2) cs=tm:=by rw [ef,O]
 show assign.wpIn (Fence.wide.inRound l) 0 E.P _ { tmps:=(ps.zip vs).foldl (fun (t:Array Value) (x:Tmp×Value)=>t.setIfInBounds x.1 x.2) cs,defers:=[] } w;rw [etm];have X:∀ p∈ps.toList,E.np<=p/\p<nt:=fun p hp=>by
  have:=bA.1 bc p hp;simpa using this
 let cxa:Cx:=⟨E,cx.S0,cx.w0,nt,fun b=>b<w.heap.size/\¬own γ b,w,some l,cs,fun h=>absurd (aa.symm.trans h) (by simp),false,G0,0⟩;have bb:StG cxa γ (R2 ps.toList args ycaps me) { tmps:=tm,defers:=[] } w:=by
  refine ⟨fun t=>?_,a.me,a.inj,a.ge,a.below,by rw [O];exact (zd4 _ _).trans hT,⟨fun _=>rfl,⟨[],rfl,.nil,fun r hr=>by cases hr⟩,fun t z=>?_,fun l R hl=>absurd (y.symm.trans hl) (by simp),aD _,fun h=>absurd h (by simp [cxa]),fun h=>absurd (ar.symm.trans h) (by simp),(fun d hd=>by cases hd),Nat.zero_le _⟩,a.gh,fun b hb=>⟨hb.2,hb.1,rfl⟩,fun hd=>absurd (bh.symm.trans hd) (by simp)⟩
  ·rw [O];refine zje ps.toList args vs.toList cs _ (fun t=>?_) (fun p hp=>by rw [hT];exact (X p hp).2) (by simpa using H) (by simp [ai,H]) (fun i hi=>?_) t
   ·rw [Qx];by_cases z:0<=t/\t<0+ycaps.length
    ·rw [dif_pos z];exact ac t (by omega)
    ·rw [dif_neg z];exact .any _
   ·have:=ba i hi
    rwa [aA,<-Array.getElem?_toList,<-aC] at this
  ·show tm.getD t undef=cs.getD t undef;rw [O];exact zfl _ _ (fun x hx e=>by have:=(X x.1 (of_mem_zip hx).1).1;have bt:t<E.np:=z;omega)
 have hA:WP cxa assign (Cy (fun σ=>AW E nt (EndB E nt ycaps me me') [.code body] .normal σ) (fun _ _=>False)) (R2 ps.toList args ycaps me):=bB (h.out cxa rfl rfl rfl) fun e σ hk=>by cases e<;>exact hk
 refine wpIn_mono (F:=Fence.wide.inRound l) (hA _ _ ⟨γ,bb⟩) (fun e a1 w1 ⟨af,ao,al⟩=>?_);cases e with
 |normal =>
  obtain ⟨ax,C⟩:=al;obtain ⟨k1,k2,k3⟩:=C.fr l ⟨q1,q2⟩;have k4:w1.heap[l]? = some (.loop (recR fn cs ps assign body D)):=k3.trans q3;refine ⟨_,run_beginRound (P:=E.P) k4 rfl,?_⟩;have am:=C.putObjW (o':=.loop { recR fn cs ps assign body D with state:=.busy }) k4 rfl q0 k1 (C.defers.d0 aa) y;generalize Z:w1.putObj l (.loop { recR fn cs ps assign body D with state:=.busy })=Y at am ⊢;have hB:WP { cxa with w1:=Y } body (EndB E nt ycaps me me') af:=bB ((show AW E nt (EndB E nt ycaps me me') [.code body] .normal af from ao).out { cxa with w1:=Y } rfl rfl rfl) fun e σ hk=>by cases e<;>exact hk
  refine wpIn_mono (F:=Fence.wide.inRound l) (hB _ _ ⟨ax,am⟩) (fun S a2 I ⟨bm,an,ak⟩=>?_);cases S with
  |normal =>
   obtain ⟨τ,hl,G,aw⟩:=an;obtain ⟨ag,c⟩:=hl { cxa with w1:=Y } rfl rfl rfl a2 I ak;have bl:Y.heap[l]? = some (.loop { recR fn cs ps assign body D with state:=.busy }):=by rw [<-Z];exact World.putObj_heap_same k2
   obtain ⟨j1,j2,j3⟩:=c.fr l ⟨q1,q2⟩;have j4:I.heap[l]? = some (.loop { recR fn cs ps assign body D with state:=.busy }):=j3.trans bl;refine ⟨_,_,run_endRound (P:=E.P) none j4,?_⟩;have m:=c.putObjW (o':=.loop (recR fn cs ps assign body D)) j4 rfl q0 j1 (c.defers.d0 aa) y;show ∃ u γ',_/\_;have az:I.putObj l (.loop { { recR fn cs ps assign body D with state:=.busy } with state:=if (none:Option Code).isNone=true then LoopState.ready else LoopState.done,pending:=none })=I.putObj l (.loop (recR fn cs ps assign body D)):=rfl;rw [az];have ab:(I.putObj l (.loop (recR fn cs ps assign body D))).heap[l]? = some (.loop (recR fn cs ps assign body D)):=World.putObj_heap_same j2;generalize ah:I.putObj l (.loop (recR fn cs ps assign body D))=w4 at m ab ⊢;have z1:w.heap.size<=w1.heap.size:=C.defers.sz;have z2:w1.heap.size=Y.heap.size:=by rw [<-Z,Bx]
   have z3:Y.heap.size<=I.heap.size:=c.defers.sz;have z4:I.heap.size=w4.heap.size:=by rw [<-ah,Bx]
   have au:∀ b,¬own γ b->b<w.heap.size->w4.heap[b]? = w.heap[b]? /\ ¬own ag b:=fun b hb q=>by
    obtain ⟨v,p2,p3⟩:=C.fr b ⟨q,hb⟩;obtain ⟨J,U,r3⟩:=c.fr b ⟨q,hb⟩;refine ⟨?_,J⟩;by_cases ad:b=l
    ·subst ad;exact ab.trans q3.symm
    ·have e1:w4.heap[b]? = I.heap[b]? := by rw [<-ah];exact Bo ad
     have S:Y.heap[b]? = w1.heap[b]? := by rw [<-Z];exact Bo ad
     exact e1.trans (r3.trans (S.trans p3))
   refine ⟨.bool true,ag,rfl,⟨fun t=>.any _,fun i=>by have:=m.me i;unfold aG at this ⊢;rw [<-G];exact this,m.inj,m.ge,m.below,ap.symm,⟨fun _=>rfl,⟨[],rfl,.nil,fun r hr=>by cases hr⟩,fun t z=>by rw [aq] at z;omega,fun l' R' Q=>?_,aT a.defers.sz (by omega),fun h=>absurd (bg.symm.trans h) (by simp),a.defers.laid,(fun d hd=>by cases hd),aT a.defers.wsz (by omega)⟩,m.gh,fun b hb=>?_,fun hd=>absurd (av.symm.trans hd) (by simp)⟩,.bool _,by omega,fun i B=>?_,au⟩
   ·rw [W] at Q;injection Q with Q
    injection Q with e1 S
    subst e1 S;exact ⟨q0,by omega,j1,ab⟩
   ·obtain ⟨v,p2,p3⟩:=a.fr b hb;obtain ⟨J,U⟩:=au b v p2;exact ⟨U,by omega,J.trans p3⟩
   ·unfold Ho at B;split at B;rotate_left
    ·rename_i ty sz xs e hi he;obtain ⟨t,br,bs,bn,z,e1,S,rfl⟩:=zmy aw hi he;obtain ⟨q,ae⟩:=List.getElem?_eq_some_iff.1 e1;have J:=ac t q;rw [ae] at J;have U:=c.tm t;rw [S,c.defers.pin t z] at U;have M:=a.me i;unfold aG at M;rw [hi] at M;obtain ⟨x,hx,M⟩:=M;have L:=c.me i;unfold aG at L;rw [G,he] at L;obtain ⟨x2,N,L⟩:=L;exact zli J U hx N M L
    ·cases B
    rename_i ty es hi;have j:=bA.1 aw (i,.box ty es) (Ea hi);have j:=(bP _ _).mp j;rcases j with j|j
    ·cases j
    obtain ⟨t,z,aj⟩:=aZ.1 j;rw [bM] at z;rw [aS] at aj;obtain ⟨b1,b2⟩:=aj;split at b1
    ·rename_i k hk;have e1:k=i:=aB b1;subst e1;split at b2
     ·rename_i k2 bq bv bf bd;have S:k2=k:=aB b2;subst S;obtain ⟨q,ae⟩:=List.getElem?_eq_some_iff.1 hk;have J:=ac t q;rw [ae] at J;have U:=c.tm t;rw [bf,c.defers.pin t z] at U;have M:=a.me k2;unfold aG at M;rw [hi] at M;obtain ⟨x,hx,g,bp,bj,_⟩:=M;have L:=c.me k2;unfold aG at L;rw [G,bd] at L;obtain ⟨x2,N,g2,bo,bi,_⟩:=L;subst bj bi;have v:=J.ptr_inv hx;have p2:cs.getD t undef=_:=U.ptr_inv N;rw [p2] at v;injection v with v
      injection v with v
      injection v with v
      rw [hx,N,v]
     ·cases b2
    ·cases b1
  |_=>exact an.elim
 |_=>exact ao.elim
noncomputable def E0p (np:Nat):Env:={ E0 with np:=np }
noncomputable def E0y (l:Nat)(R:Obj)(np:Nat):Env:={ E0 with np:=np,yl:=some (l,R) }
noncomputable def E0r:Env:={ E0 with rg:=true }
theorem ConG.up {P:Program}{yl:Option (Nat×Obj)}{C:CalT}{caps:List AV}(h:ConG P none C args caps me res me'):ConG P yl C args caps me res me' :=
 fun cx γ w vs cs h1 c b _=>h cx γ w vs cs h1 c b (fun x a=>by cases a)
variable {avs:List AV}
theorem Con.env {E':Env}{fr:Bool}(b:E'.P=E.P)(c:E'.dr=false)(h:Con E fr f avs res):Con E' fr f avs res:=by
 refine ⟨by have:=h.1;unfold Bh at *;rw [b];exact this,fun S w vs d=>?_⟩;have:=h.2 S w vs d;rw [b];exact this.mono fun e w' ⟨v,h1,⟨j,_⟩,g⟩=>⟨v,h1,⟨j,fun a=>absurd (c.symm.trans a) (by simp)⟩,g⟩
theorem ConT.env {E':Env}(a:E'.P=E.P)(h:ConT E f avs ty sz xs res):ConT E' f avs ty sz xs res:=by
 refine ⟨by have:=h.1;unfold Bh at *;rw [a];exact this,h.2.1,fun S w vs b=>?_⟩;rw [a];exact h.2.2 S w vs b
section
variable {α β:Type}
variable {k:α->Option β}{r:β}{find:Nat->Option Ent}{KR:AV->List Nat->List (Nat×Ent)->Prop}
theorem Ag.oM {o:Option α}{K:AV->Prop}{R:Nat->Nat->List AV->AV->Prop}(h:bnd o k=some r)
  (ps b:List (Nat×Nat)) (cargs:List AV) (me:List (Nat×Ent)) (meF:α->List (Nat×Ent)) (resF:α->AV) (dead:List Nat) (t:∀ a,o=some a->ConG E.P E.yl (CalF E.P f 0) cargs [] me (resF a) (meF a)) (q:Bh E f) (c:E.dr=false) (d:bQ (rho ps) cargs=avs) (j:bR (me.map (·.1)) cargs=true) (g:LeF find (rho ps) (me.map (·.1)) me)
  (p:∀ a,Dc find (rho ps) (rho b) me (meF a) (resF a) dead) (m:∀ a,k a=some r->KR ((resF a).ren (rho b)) (idsG (rho ps) (rho b) me (meF a)) (wrG (rho b) (meF a) dead)):Ag E f avs K R find KR:=by
 cases o with
 |none=>unfold bnd at h;cases h
 |some a=>exact .memo ps b cargs me (meF a) (resF a) dead q c (t a rfl) d j g (p a) (m a (by unfold bnd at h;exact h))
theorem Be.oM {o:Option α}{raw:List AV}{K:AV->Prop}{dst:Option Nat}(h:bnd o k=some r)
  (ps b:List (Nat×Nat)) (cargs:List AV) (me:List (Nat×Ent)) (meF:α->List (Nat×Ent)) (resF:α->AV) (dead:List Nat) (t:∀ a,o=some a->ConG E.P E.yl (CalF E.P f 0) cargs [] me (resF a) (meF a)) (q:Bh E f) (c:E.dr=false) (d:bQ (rho ps) cargs=raw) (j:bR (me.map (·.1)) cargs=true) (g:LeF find (rho ps) (me.map (·.1)) me)
  (p:∀ a,Dc find (rho ps) (rho b) me (meF a) (resF a) dead) (m:∀ a,k a=some r->KR ((resF a).ren (rho b)) (idsG (rho ps) (rho b) me (meF a)) (wrG (rho b) (meF a) dead)):Be E f avs K raw find dst KR:=by
 cases o with
 |none=>unfold bnd at h;cases h
 |some a=>exact .memo ps b cargs me (meF a) (resF a) dead q c (t a rfl) d j g (p a) (m a (by unfold bnd at h;exact h))
theorem YldX.oM {o:Option α}{l:Nat}{T:Array Value}{raw cap:List AV}(h:bnd o k=some r)
  (ps b:List (Nat×Nat)) (cargs ccaps:List AV) (me:List (Nat×Ent)) (meF:α->List (Nat×Ent)) (resF:α->AV) (dead:List Nat) (u:∀ a,o=some a->ConG E.P E.yl (fun vs cs w R=>cs=T->CalY E.P l vs cs w R) cargs ccaps me (resF a) (meF a)) (c:E.dr=false) (g:bQ (rho ps) cargs=raw) (d:bQ (rho ps) ccaps=cap) (p:bR (me.map (·.1)) cargs=true) (m:bR (me.map (·.1)) ccaps=true) (j:LeF find (rho ps) (me.map (·.1)) me)
  (t:∀ a,Dc find (rho ps) (rho b) me (meF a) (resF a) dead) (q:∀ a,k a=some r->KR ((resF a).ren (rho b)) (idsG (rho ps) (rho b) me (meF a)) (wrG (rho b) (meF a) dead)):YldX E l T raw cap find KR:=by
 cases o with
 |none=>unfold bnd at h;cases h
 |some a=>exact .mk ps b cargs ccaps me (meF a) (resF a) dead c (u a rfl) g d p m j (t a) (q a (by unfold bnd at h;exact h))
theorem RngX.oM {o:Option α}{gf:Nat}{cap:List AV}{ps:Array Tmp}{a b:Code}{K:AS->Prop}(h:bnd o k=some r)
  (pp c:List (Nat×Nat)) (ycaps ccaps:List AV) (me:List (Nat×Ent)) (meF:α->List (Nat×Ent)) (dead:List Nat)
  (d:∀ x,o=some x->∀ (l D:Nat) (fn:FuncId) (T:Array Value),T.size=nt->ConG E.P (some (l,.loop (recR fn T ps a b D))) (CalF E.P gf 0) (.yld l T ycaps::ccaps) [] me (.tup []) (meF x))
  (z:Bh E gf) (m:E.rg=true) (j:E.dr=false) (g:E.yl=none) (p:bQ (rho pp) ccaps=cap) (t:bR (me.map (·.1)) ccaps=true) (v:LeY σ (rho pp) (me.map (·.1)) 0 ycaps) (q:LeF σ.find (rho pp) (me.map (·.1)) me) (y:∀ x,Dc σ.find (rho pp) (rho c) me (meF x) (.tup []) dead)
  (u:∀ x,k x=some r->K (σ.upd none (.tup []) (wrG (rho c) (meF x) dead))):RngX E nt (.fn gf cap) ps a b σ K:=by
 cases o with
 |none=>unfold bnd at h;cases h
 |some x=>exact .mk gf cap rfl z m j g pp c ycaps ccaps me (meF x) dead p t v q (y x) (d x rfl) (u x (by unfold bnd at h;exact h))
variable {meF:α->List (Nat×Ent)}
theorem GX.o {x r:α}{res:α->AV}(h:some x=some r)(k:GX E nt fn args me σ (res x) (meF x)):GX E nt fn args me σ (res r) (meF r):=by
 injection h with h;subst h;exact k
theorem BX.o {x r:α}(h:some x=some r)(k:BX E nt ycaps me σ (meF x)):BX E nt ycaps me σ (meF r):=by
 injection h with h;subst h;exact k
end
section
variable {β:Type} {E:Env} {nt:Nat} {o:Oper} {σ:AS} {K:OpK}
variable {α:Type}
def bld (l:List α)(k:List α->Option β):Option β:=k l
variable {k:List α->Option β}
theorem OpX.bld {l:List α}{r:β}(enc:α->AV){T d e esz eb:Nat}{ps:Array (Nat×Operand)}{i ie:TyI}(L:bld l k=some r)(z:o.op=.buildSlice T n ps)(b:o.dst=some d)(I:dokN E nt o.dst=true)(J:lkT E.tab T=some i)(y:i.shape=.slc e esz eb)(H:lkT E.tab e=some ie)(v:aF esz 0=false)(B:bC (n*esz) 16777216=true)
  (c:Ch ie.zero.cells.toList=true) (g:bV 0 ie.zero.cells.size=true) (h:Dq σ ps=true) (q:AV.closedL (l.map enc)=true) (a:(l.map enc).length=n) (C:(l.map enc).all (fun x=>aF x.cells.length esz)=true)
  (G:Cr (fun j=>some (j*esz,esz)) (aK (n*esz) .any) (Cd σ ps)=some ((l.map enc).flatMap aV)) (p:σ.find d=none) (D:∀ u,k u=some r->K (.row d) (d::E2 (Cd σ ps)) [(d,.row e esz (u.map enc))]):OpX E nt o σ K :=
 .mk _ _ _ (fun cx t m=>z4k z b (Aj I t m) (by rw [t];exact J) y (by rw [t];exact H) (nbne v) B (Df c) g h q a C G p) (D l L)
def bldS (l:List α)(k:List α->Option β):Option β:=k l
theorem OpX.bldS {l:List α}{r:β}(enc:α->AV){T e esz eb:Nat}{ps:Array (Nat×Operand)}{i ie:TyI}(H:Proofs.YtkoamfnbbhfaiaaGreatDoor.bldS l k=some r)(u:o.op=.buildSlice T n ps)(D:dokN E nt o.dst=true)(G:lkT E.tab T=some i)(t:i.shape=.slc e esz eb)(C:lkT E.tab e=some ie)(q:aF esz 0=false)(v:bC (n*esz) 16777216=true)
  (b:Ch ie.zero.cells.toList=true) (c:bV 0 ie.zero.cells.size=true) (d:Dq σ ps=true) (h:AV.closedL (l.map enc)=true) (a:(l.map enc).length=n) (y:(l.map enc).all (fun x=>aF x.cells.length esz)=true)
  (B:Cr (fun j=>some (j*esz,esz)) (aK (n*esz) .any) (Cd σ ps)=some ((l.map enc).flatMap aV)) (z:∀ p,k p=some r->K (.sl esz (p.map enc)) (E2 (Cd σ ps)) []):OpX E nt o σ K :=
 .mk _ _ _ (fun cx m g=>z88 u (Aj D m g) (by rw [m];exact G) t (by rw [m];exact C) (nbne q) v (Df b) c d h a y B) (z l H)
end
end Go.Proofs.YtkoamfnbbhfaiaaGreatDoor
