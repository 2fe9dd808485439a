/- Memory words over any program. -/
import Derived.WalkKit
import Derived.WalkSpells
import Derived.WalkLawsBesides
import Derived.BigQuiet
import Derived.Deep.QuietTactic
import Derived.Deep.Draws
import Derived.Deep.RegionHeld3
import Derived.Deep.DeepCutAuto
import Derived.Deep.DeepFit
import Derived.StillTailTactics
import Derived.Handy
import Derived.Lib.Hide
import Derived.Lib.SliceRun
import Derived.Maps.AppendAt
import Derived.Deep.RegionLaw
import Derived.Deep.AppendLies
import Derived.Shelf.Abstract
import Derived.Laws.StructEq
import Derived.Shelf.SlicesQ.Equal
import Derived.Lib.Overlaps
import Derived.Lib.AppendZeros
import Derived.Lib.AppendZerosOnto
import Derived.Laws.Externs
import Derived.Laws.IdiomCopy
import Derived.Orders
import Derived.OrdersIn
import Derived.OwnWalkIn
import Derived.RangeFuncLeaves
import Derived.RangeFuncCalls
import Derived.RangeFuncSeq
import Derived.Laws.Tables
import Derived.Laws.MakeOwn
set_option linter.unusedVariables false
set_option linter.unusedSimpArgs false
namespace Go.Proofs.YthbogefcfhmpgaaGreat
open Go.RowKit List
open _root_.Array renaming getD_eq_getD_getElem?->aA,getElem?_eq_some_iff->aD,getD->aK,getElem?_eq_getElem->aL,getElem?_setIfInBounds_ne->aO,getElem?_replicate->bA,getElem_toList->bJ,all_eq_true->bP,getElem?_extract->bV,length_toList->cC,toList_map->cJ,replicate->cM
open Nat renaming lt_of_lt_of_le->aB,eq_of_beq_eq_true->aC,le_refl->aF,beq->aP,succ_mul->aQ,mul_le_mul_right->aU,le_trans->bE,zero_le->bI,eq_or_lt_of_le->bL,min->bO,add_assoc->bS,eq_zero_or_pos->cE,lt_or_ge->cG,add_zero->cH,testBit_or->cO,blt->cQ,beq_refl->cR
open List renaming getD_eq_getElem?_getD->aE,take_append_of_le_length->aH,getElem_append_left->aN,getElem?_append_right->aR,take_of_length_le->aS,getElem?_append_left->aV,getElem_append_right->aW,getElem_drop->aX,getElem_take->aY,getElem?_eq_getElem->aZ,length_append->bB,range->bC,getElem_map->bD,append_assoc->bG,mem_filterMap->bH,length_drop->bK,length_eq_zero_iff->bN,length_cons->bQ,length_take->bR,getElem_range->bT,flatMap_cons->bW,getElem?_map->bX,getElem_mem->bY,map_toArray->bZ,map_cons->cA,all_eq_true->cB,getElem?_take_of_lt->cD,nil_append->cF,mem_append_right->cK,mem_flatMap->cL,map_nil->cN,mem_map->cS
open Option.some renaming injEq->aG
open Bool renaming or_eq_true->aJ,and_eq_true->bU,not_eq_true'->cI
open Or renaming inl->aM,inr->aT
open Option renaming map_eq_some_iff->bF,toList_none->bM,none_or->cP
/-o-/theorem Ω{p:Prop}(h:p:=by omega):p:=h
/-o-/theorem Δ{p:Prop}(h:p:=by simp):p:=h
/-o-/theorem Ψ{p:Prop}(h:p:=by simp;omega):p:=h
/-o-/theorem Θ{p:Prop}(h:p:=by decide):p:=h
theorem hide {p:Prop}(h:p):Hid p:=h
variable {α:Type}
def Sl (w:World)(S:Nat->Prop)(sz:Nat)(enc:α->List Value)(v:Value)(l:List α):Prop:=∃A c,v=.slice A l.length c/\l.length<=c /\ (0<l.length->∃b off,A=some ⟨b,off,none⟩/\S b/\b<w.heap.size/\∀k (h:k<l.length) j u,(enc l[k])[j]? = some u->w.cell? ⟨b,off+(k*sz+j),none⟩=some u)
variable {enc:α->List Value}{sz:Nat}{l:List α}
theorem Y7 (h:∀x∈l,(enc x).length=sz)(k:Nat)(q:k<l.length)(j:Nat)(A:j<sz)(u:Value)(p:(enc l[k])[j]? = some u) :
  (l.flatMap enc)[k*sz+j]? = some u:=by
 induction l generalizing k with
 |nil=>simp at q
 |cons x r ih =>
  have m:=h x Δ;rw[bW];cases k with
  |zero=>rw[aV (by rw[m];omega)];simpa using p
  |succ k =>
   rw[aR (by rw[m,aQ];omega),m,show(k+1)*sz+j-sz=k*sz+j by rw[aQ];omega];exact ih (λy z=>h y (by simp[z])) k (by simpa using q) (by simpa using p)
section
variable {α:Type} {w w':World} {S S':Nat->Prop} {sz:Nat} {enc:α->List Value} {v:Value} {l:List α}
theorem Sl.nil_:Sl w S sz enc (.slice none 0 0) []:=⟨none,0,rfl,aF _,λh=>absurd h (Nat.lt_irrefl _)⟩
theorem Sl.keep (h:Sl w S sz enc v l)(z:w.heap.size<=w'.heap.size)(G:∀b,S b->b<w.heap.size->w'.heap[b]? = w.heap[b]?):Sl w' S sz enc v l:=by
 obtain⟨A,c,D,H,C⟩:=h;refine⟨A,c,D,H,λF=>?_⟩;obtain⟨b,off,I,r,q,m⟩:=C F;exact⟨b,off,I,r,aB q z,λk p j u E=>(World.cell?_of_block (w:=w) (a:=⟨b,_,none⟩) (G b r q)).trans (m k p j u E)⟩
theorem Sl.below (h:Sl w S sz enc v l)(m:Below w.heap.size w w'):Sl w' S sz enc v l:=h.keep m.size λb _ j=>m.block b j
theorem Sl.weaken (h:Sl w S sz enc v l)(z:∀b,S b->S' b):Sl w S' sz enc v l:=by
 obtain⟨A,c,p,u,m⟩:=h;refine⟨A,c,p,u,λq=>?_⟩;obtain⟨b,off,C,j,r⟩:=m q;exact⟨b,off,C,z b j,r⟩
theorem Sl.setCell (h:Sl w S sz enc v l){p:Addr}(j:¬S p.block)(u:Value):Sl (w.setCell p u) S sz enc v l :=
 h.keep (by simp[World.setCell]) λb m _=>Below.heap_setCell w p u b (λe=>j (e▸m))
theorem Sl.drewN (h:Sl w S sz enc v l)(n:Nat):Sl (w.drewN n) S sz enc v l:=h
theorem Sl.alloc (h:Sl w S sz enc v l)(o:Obj):Sl (w.alloc o) S sz enc v l:=h.below ((Below.refl _ _).alloc (aF _) o)
theorem Sl.form (h:Sl w S sz enc v l):∃A c,v=.slice A l.length c/\l.length<=c/\(∀k (p:k<l.length),∃b off,A=some ⟨b,off,none⟩/\b<w.heap.size/\∀j u,(enc l[k])[j]? = some u->w.cell? ⟨b,off+(k*sz+j),none⟩=some u):=by
 obtain⟨A,c,r,z,q⟩:=h;refine⟨A,c,r,z,λk p=>?_⟩;obtain⟨b,off,D,_,C,m⟩:=q Ω;exact⟨b,off,D,C,m k p⟩
theorem Sl.of_own {base:Nat}{e:TypeId}(h:w.ownsRow base e sz v l.length (l.flatMap enc))(m:∀x∈l,(enc x).length=sz)(F:∀b,base<=b->S b):Sl w S sz enc v l:=by
 rcases h.2 with⟨rfl,q⟩|⟨g,H,G,rfl,E,D,A,_,_,_⟩
 ·refine⟨none,0,by rw[q],Ω,λh=>by omega⟩
 ·refine⟨_,_,rfl,A,λ_=>⟨g,0,rfl,F g E,(aD.1 D).1,λk z j u r=>?_⟩⟩;have C:j<sz:=by rw[<-m _ (bY z)];exact(List.getElem?_eq_some_iff.1 r).1
  have p:=Y7 m k z j C u r;have:=h.cells (g:=g) rfl _ _ p;rw[Addr.add]at this;split at this
  ·rename_i q;rw[q];exact this
  ·exact this
end
structure EOk {α:Type} (P:Program) (t e:TypeId) (sz bytes:Nat) (enc:α->List Value):Prop where
 und:P.underlying t=some (.slice e)
 inf:∃i z,P.info? e=some i/\i.zero=some z/\i.size=sz/\i.bytes=bytes/\z.cells.size=sz
 pos:0<sz
 len:∀x,(enc x).length=sz
 one:∀x,∀u∈enc x,u.oneCell'=true
def Own (w:World)(base:Nat)(e:TypeId)(sz:Nat)(enc:α->List Value)(v:Value)(l:List α):Prop:=w.ownsRow base e sz v l.length (l.flatMap enc)
section
variable {α:Type} {P:Program} {w w':World} {S S':Nat->Prop} {t e:TypeId} {sz bytes base:Nat} {enc:α->List Value} {v:Value} {l:List α}
theorem Own.nil_:Own w base e sz enc (.slice none 0 0) ([]:List α):=World.ownsRow_nil w base e sz
theorem Own.val (h:Own w base e sz enc v l):∃A c,v=.slice A l.length c/\l.length<=c/\c<=maxLen:=by
 rcases h.2 with⟨rfl,m⟩|⟨g,q,p,rfl,_,_,j,hm,_⟩
 ·exact⟨none,0,by rw[m],Ω,by simp[maxLen]⟩
 ·exact⟨_,_,rfl,j,hm⟩
theorem Own.sl (h:Own w base e sz enc v l)(m:EOk P t e sz bytes enc)(j:∀b,base<=b->S b):Sl w S sz enc v l:=Sl.of_own h (λx _=>m.len x) j
theorem Own.kept {row:Option Nat}(h:Own w base e sz enc v l)(m:w.grownBy w' row)(j:v.ownBlock=none\/v.ownBlock≠row):Own w' base e sz enc v l:=World.ownsRow.kept h m j
theorem Own.below (h:Own w base e sz enc v l)(j:Below w.heap.size w w'):Own w' base e sz enc v l :=
 h.kept (row:=none) ⟨j.os,j.tape,j.output,j.size,λk m _=>j.block k m⟩ (by cases v.ownBlock<;>simp)
theorem Own.lt (h:Own w base e sz enc v l):∀k,v.ownBlock=some k->base<=k/\k<w.heap.size:=World.ownsRow.lt h
theorem Own.le {base':Nat}(h:Own w base e sz enc v l)(u:base'<=base):Own w base' e sz enc v l :=
 ⟨h.1,h.2.elim aM (λ⟨g,m,j,p,q,r⟩=>aT ⟨g,m,j,p,bE u q,r⟩)⟩
theorem Sl.flat (h:Sl w S sz enc v l)(p:∀x∈l,(enc x).length=sz)(C:0<sz):∃A c,v=.slice A l.length c/\l.length<=c/\(A=none->l=[])/\∀ad,A=some ad->∀j u,(l.flatMap enc)[j]? = some u->w.cell? (ad.add j)=some u:=by
 obtain⟨A,c,rfl,M,G⟩:=h;refine⟨A,c,rfl,M,λI=>?_,λad I j u H=>?_⟩
 ·rcases cE l.length with J|J
  ·exact bN.1 J
  ·obtain⟨b,off,m,_⟩:=G J;rw[I]at m;cases m
 ·have O:(l.flatMap enc).length=l.length*sz:=by
   clear M G H
   induction l with
   |nil=>simp
   |cons x r ih=>rw[bW,bB,p x Δ,ih (λy N=>p y (by simp[N])),bQ,aQ];omega
  have R:j<l.length*sz:=by rw[<-O];exact(List.getElem?_eq_some_iff.1 H).1
  have F:j / sz<l.length:=(Nat.div_lt_iff_lt_mul C).2 R;obtain⟨b,off,m,_,U,z⟩:=G (Nat.lt_of_le_of_lt (bI _) F);rw[I]at m;injection m with m
  subst m;have hm:j % sz<sz:=Nat.mod_lt _ C;have E:j / sz*sz+j % sz=j:=by rw[Nat.mul_comm];exact Nat.div_add_mod j sz
  have D:j % sz<(enc l[j / sz]).length:=by rw[p _ (bY F)];exact hm
  have q:=Y7 p (j / sz) F (j % sz) hm _ (aZ D);rw[E,H]at q;have:=z (j / sz) F (j % sz) _ (aZ D);rw[E]at this;injection q with q
  rw[Addr.add_lit,this,q]
theorem zo7 (E:EOk P t e sz bytes enc)(ty:TypeId)(p:Own w base e sz enc v l){u:Value}{h:List α}(I:Sl w S sz enc u h)
  (H:(l.length+h.length)<=1099511627776) (D:bytes<=100) (G:base<=w.heap.size) :
  ∃A c w',(Builtin.append_ #[t,t] ty #[v,u]).run P w=.ok (.slice A (l++h).length c) w'/\Own w' base e sz enc (.slice A (l++h).length c) (l++h)/\w.grownBy w' v.ownBlock /\
   ((Value.slice A (l++h).length c).ownBlock=v.ownBlock\/(Value.slice A (l++h).length c).ownBlock=some w.heap.size):=by
 obtain⟨i,z,hi,X,F,O,J⟩:=E.inf;obtain⟨A,c,rfl,Z,q,C⟩:=I.flat (λx _=>E.len x) E.pos;have N:(h.flatMap enc).length=h.length*sz:=by
  clear q C H Z I
  induction h with
  |nil=>simp
  |cons x r W=>rw[bW,bB,E.len x,W,bQ,aQ];omega
 have h1:∀u∈h.flatMap enc,u.oneCell'=true:=λu I=>by
  obtain⟨x,_,Y⟩:=cL.1 I;exact E.one x u Y
 have key:∃v' w',(Builtin.append_ #[t,t] ty #[v,.slice A h.length c]).run P w=.ok v' w'/\w'.ownsRow base e sz v' (l.length+h.length) (l.flatMap enc++h.flatMap enc)/\w.grownBy w' v.ownBlock/\(v'.ownBlock=v.ownBlock\/v'.ownBlock=some w.heap.size):=by
  cases A with
  |none =>
   have V:=q rfl;subst V;refine⟨v,w,?_,by simpa[Own]using p,World.grownBy.refl w _,.inl rfl⟩;rcases p.2 with⟨rfl,V⟩|⟨g,ab,aa,rfl,_,_,M,_⟩
   ·simp[Builtin.append_,run_underlying E.und,Go.sizeOf,typeInfo,hi,Builtin.lenOf,Builtin.firstCells]
   ·simp[Builtin.append_,run_underlying E.und,Go.sizeOf,typeInfo,hi,Builtin.lenOf,Builtin.firstCells,M,storeCells]
  |some ad =>
   obtain⟨v',w',j,U,R,_,h5⟩:=run_append_own_at (P:=P) w base t ty e i z sz bytes E.und hi X F O J E.pos v l.length (l.flatMap enc) p ad h.length c (h.flatMap enc) N (C ad rfl) h1
    (by simp only[maxLen];omega) (bE (Nat.mul_le_mul H D) Ω) G
   exact⟨v',w',j,U,R,h5⟩
 obtain⟨v',w',j,U,R,h4⟩:=key;have m:Own w' base e sz enc v' (l++h):=by
  unfold Own;rw[bB,flatMap_append];exact U
 obtain⟨A',c',rfl,_,_⟩:=m.val;exact⟨A',c',w',j,m,R,h4⟩
theorem Hv {ops:Array Oper}{m:List Oper}{o:Oper}{a:Act}{Q:Exit->Act->World->Prop}(z:o.guard=none)(s x:Operand)
  (G:o.op=.call { callee:=.builtin .append,args:=#[s,x],argTypes:=#[t,t] })
  (I:EOk P t e sz bytes enc) (hs:a.eval s=v) (r:Own w base e sz enc v l) {u:Value} {p:List α} (D:a.eval x=u) (E:Sl w S sz enc u p)
  (C:(l.length+p.length)<=1099511627776) (j:bytes<=100) (q:base<=w.heap.size)
  (h:∀A c w',Own w' base e sz enc (.slice A (l++p).length c) (l++p)->w.grownBy w' v.ownBlock ->
    ((Value.slice A (l++p).length c).ownBlock=v.ownBlock\/(Value.slice A (l++p).length c).ownBlock=some w.heap.size)->wpList P ops Q m (a.put o.dst (.slice A (l++p).length c)) w') :
  wpList P ops Q (o::m) a w:=by
 refine wpList_plain z λK H=>?_
 obtain⟨A,c,w',F,N,M,J⟩:=zo7 (P:=P) I o.type r E C j q;unfold Oper.wp execOp;simp only[G,resolve,invoke,builtin,Sem.run_bind,Sem.run_pure,Result.andThen_ok,bZ,cA,cN,hs,D,F];exact H _ _ (h A c w' N M J)
end
variable {a b:World}
theorem Below.next {c:World}(h:Below a.heap.size a b)(k:Below b.heap.size b c):Below a.heap.size a c:=h.trans (k.mono h.size)
variable {w:World}{e:TypeId}
theorem Own.made_:Own (w.alloc (.cells #[] e)) w.heap.size e sz enc (.slice (some ⟨w.heap.size,0,none⟩) 0 0) ([]:List α) :=
 World.ownsRow_made w #[] 0 (aF _) (by simp[maxLen]) Δ
variable {B:Nat}{w':World}{v:Value}
theorem Own.grown {base:Nat}{w0:World}(h:Own w base e sz enc v l)(q:Below B w0 w)(r:B<=base)(j:B<=w.heap.size)(p:w.grownBy w' v.ownBlock):Below B w0 w' :=
 q.grown p j (λk m=>bE r (h.lt k m).1)
def Ic (e:TypeId)(sz:Nat)(enc:α->List Value)(l:List α)(w0:World)(r:Ending)(w':World):Prop:=∃A c,r=.returned (.slice A l.length c)/\Own w' w0.heap.size e sz enc (.slice A l.length c) l/\Below w0.heap.size w0 w'
variable {S:Nat->Prop}{n:Nat}
theorem Sl.none_nil {c:Nat}(h:Sl w S sz enc (.slice none n c) l):l=[]:=by
 obtain⟨A,r,m,_,q⟩:=h;injection m with m _ _
 rcases cE l.length with p|p
 ·exact bN.1 p
 ·obtain⟨b,off,j,_⟩:=q p;rw[<-m]at j;cases j
def yai (P:Program)(g:Nat)(lb:Array Value)(arg:α->Value)(p:α->Bool)(w:World):Prop:=∀(W:World) (x:α),Below w.heap.size w W->Calls P g (#[arg x]++lb) W λe w'=>e=.returned (.bool (p x))/\Below W.heap.size W w'
variable {g:Nat}
theorem yai.later {P:Program}{lb:Array Value}{arg:α->Value}{p:α->Bool}{w1:World}(h:yai P g lb arg p w)(j:Below w.heap.size w w1):yai P g lb arg p w1 :=
 λW x m=>h W x (j.trans (m.mono j.size))
def Blk (w:World)(g:Nat)(t:TypeId)(cs:Array Value):Prop:=w.heap[g]? = some (.cells cs t (0,0))
section
variable {w w':World} {g:Nat} {t:TypeId} {cs:Array Value}
theorem Blk.lt (h:Blk w g t cs):g<w.heap.size:=by
 rcases cG g w.heap.size with j|m
 ·exact j
 ·unfold Blk at h;rw[Array.getElem?_eq_none m]at h;cases h
theorem Blk.cell (h:Blk w g t cs)(i:Nat):w.cell? ⟨g,i,none⟩=cs[i]? := cell_of_row w g i cs t (0,0) h
theorem Blk.frozen (h:Blk w g t cs)(i:Nat):w.frozen? ⟨g,i,none⟩=false:=by
 unfold Blk at h;simp[World.frozen?,h]
theorem Blk.shape (h:Blk w g t cs):w.shape? g=some (t,cs.size):=by unfold Blk at h;simp[World.shape?,h]
theorem Blk.new (w:World)(t:TypeId)(cs:Array Value):Blk (w.alloc (.cells cs t)) w.heap.size t cs:=heap_alloc_new w _
theorem Blk.alloc (h:Blk w g t cs)(o:Obj):Blk (w.alloc o) g t cs:=(Below.heap_alloc w o g h.lt).trans h
theorem Blk.below (h:Blk w g t cs)(j:Below w.heap.size w w'):Blk w' g t cs:=(j.block g h.lt).trans h
theorem Blk.set (h:Blk w g t cs)(i:Nat)(u:Value):Blk (w.setCell ⟨g,i,none⟩ u) g t (cs.setIfInBounds i u):=by
 unfold Blk at h ⊢;simp[World.setCell,Array.getElem?_modify,h]
theorem Blk.grown {row:Option Nat}(h:Blk w g t cs)(m:w.grownBy w' row)(j:some g≠row):Blk w' g t cs:=(m.block g h.lt j).trans h
end
section
variable {P:Program} {w:World}
theorem zrb (elem:TypeId)(sz:Nat)(dT sT ty:TypeId)(A:P.underlying dT=some (.slice elem))(m:(P.info? elem).map (·.size)=some sz)(g off dLen dCap sLen sCap:Nat)(ad:Addr)(t:TypeId)(h:List Value)(z:Blk w g t h.toArray)(cs:List Value)
  (C:cs.length=bO sLen dLen*sz) (p:∀j v,cs[j]? = some v->w.cell? (ad.add j)=some v) (q:off+cs.length<=h.length) (h1:∀v∈cs,v.oneCell'=true) :
  ∃w',(Builtin.copy_ #[dT,sT] ty #[.slice (some ⟨g,off,none⟩) dLen dCap,.slice (some ad) sLen sCap]).run P w=.ok (goInt (bO sLen dLen)) w' /\
   Blk w' g t (h.take off++cs++h.drop (off+cs.length)).toArray/\w.grownBy w' (some g):=by
 have D:=run_firstCells_some (P:=P) w sz (bO sLen dLen) ad sLen sCap cs C p;have r:=run_storeCells_at P g off t cs 0 h.toArray w z (by simpa using q) h1;refine⟨_,?_,setRow_heap w g h.toArray _ t _ z,⟨rfl,rfl,rfl,Δ,λk _ E=>setRow_other w g k _ (λe=>E (by rw[e]))⟩⟩;cases u:P.info? elem with
 |none=>simp[u]at m
 |some i =>
  have hi:i.size=sz:=by simpa[u]using m
  simp[Builtin.copy_,run_underlying A,Builtin.lenOf,Go.sizeOf,typeInfo,u,hi,D,r]
variable {o:Oper}{K:Act->World->Prop}{Q:Exit->Act->World->Prop}
theorem zis {a:Act}(d s:Operand)(dT sT:TypeId)
  (A:o.op=.call { callee:=.builtin .copy,args:=#[d,s],argTypes:=#[dT,sT] }) (elem:TypeId) (sz:Nat) (u:P.underlying dT=some (.slice elem)) (r:(P.info? elem).map (·.size)=some sz)
  (g off dLen dCap sLen sCap:Nat) (ad:Addr) (E:a.eval d=.slice (some ⟨g,off,none⟩) dLen dCap) (hs:a.eval s=.slice (some ad) sLen sCap) (t:TypeId) (m:List Value) (D:Blk w g t m.toArray) (cs:List Value)
  (C:cs.length=bO sLen dLen*sz) (p:∀j v,cs[j]? = some v->w.cell? (ad.add j)=some v) (q:off+cs.length<=m.length) (h1:∀v∈cs,v.oneCell'=true)
  (h:∀w',Blk w' g t (m.take off++cs++m.drop (off+cs.length)).toArray->w.grownBy w' (some g)->K (a.put o.dst (goInt (bO sLen dLen))) w'):o.wp P a w K Q:=by
 obtain⟨w',z,G,F⟩:=zrb (P:=P) (w:=w) elem sz dT sT o.type u r g off dLen dCap sLen sCap ad t m D cs C p q h1;unfold Oper.wp execOp;simp only[A,resolve,invoke,builtin,Sem.run_bind,Sem.run_pure,Result.andThen_ok,bZ,cA,cN,E,hs,z];exact h w' G F
variable {ops:Array Oper}
theorem zc6 {p:List Oper}{a:Act}(z:o.guard=none)(d s:Operand)(dT sT:TypeId)
  (C:o.op=.call { callee:=.builtin .copy,args:=#[d,s],argTypes:=#[dT,sT] }) (elem:TypeId) (sz:Nat) (A:P.underlying dT=some (.slice elem)) (u:(P.info? elem).map (·.size)=some sz)
  (g off dLen dCap sLen sCap:Nat) (ad:Addr) (F:a.eval d=.slice (some ⟨g,off,none⟩) dLen dCap) (hs:a.eval s=.slice (some ad) sLen sCap) (t:TypeId) (m:List Value) (E:Blk w g t m.toArray) (cs:List Value)
  (D:cs.length=bO sLen dLen*sz) (q:∀j v,cs[j]? = some v->w.cell? (ad.add j)=some v) (r:off+cs.length<=m.length) (h1:∀v∈cs,v.oneCell'=true)
  (h:∀w',Blk w' g t (m.take off++cs++m.drop (off+cs.length)).toArray->w.grownBy w' (some g)->wpList P ops Q p (a.put o.dst (goInt (bO sLen dLen))) w'):wpList P ops Q (o::p) a w :=
 wpList_plain z λ_ G=>zis d s dT sT C elem sz A u g off dLen dCap sLen sCap ad F hs t m E cs D q r h1 λw' I H=>G _ _ (h w' I H)
theorem zfc {a:Act}{E:Prop}(u:o.guard=none)(d s:Operand)(dT sT:TypeId)
  (A:o.op=.call { callee:=.builtin .copy,args:=#[d,s],argTypes:=#[dT,sT] }) (elem:TypeId) (sz:Nat) (z:P.underlying dT=some (.slice elem)) (r:(P.info? elem).map (·.size)=some sz)
  (g off dLen dCap sLen sCap:Nat) (ad:Addr) (F:a.eval d=.slice (some ⟨g,off,none⟩) dLen dCap) (hs:a.eval s=.slice (some ad) sLen sCap) (t:TypeId) (m:List Value) (D:Blk w g t m.toArray) (cs:List Value)
  (C:cs.length=bO sLen dLen*sz) (p:∀j v,cs[j]? = some v->w.cell? (ad.add j)=some v) (q:off+cs.length<=m.length) (h1:∀v∈cs,v.oneCell'=true)
  (h:∀w',Blk w' g t (m.take off++cs++m.drop (off+cs.length)).toArray->w.grownBy w' (some g)->K (a.put o.dst (goInt (bO sLen dLen))) w') :
  if Region.wanted o (yielded ops a.tmps)=true then Oper.wp P o a w K Q else E:=by
 rw[if_pos (by simp[Region.wanted,u])];exact zis d s dT sT A elem sz z r g off dLen dCap sLen sCap ad F hs t m D cs C p q h1 h
end
theorem zk1 (F1 F2 R X:List α)(p s q:Nat)(h1:F1.length=p)(C:F2.length=q)(j:X.length=s)(z:s<=R.length) :
  ((((F1++F2++R).take (p+s)++F2++(F1++F2++R).drop (p+s+F2.length)).take p++X++((F1++F2++R).take (p+s)++F2++(F1++F2++R).drop (p+s+F2.length)).drop (p+X.length)).take (p+s+q))=F1++X++F2:=by
 have m:((F1++F2++R).take (p+s)).length=p+s:=Ψ
 have h:((F1++F2++R).take (p+s)).take p=F1:=by
  rw[take_take,Nat.min_eq_left Ω,bG,aH Ω,aS Ω]
 generalize (F1++F2++R).take (p+s)=A at *;generalize (F1++F2++R).drop (p+s+F2.length)=D;have u:(A++F2++D).take p=F1:=by rw[bG,aH Ω,h]
 have r:(A++F2++D).drop (p+X.length)=F2++D:=by rw[bG,j,<-m,drop_left]
 rw[u,r,<-bG,aH Ψ,aS Ψ]
theorem zsz (F1 F2 Z X:List α)(p s q:Nat)(h1:F1.length=p)(u:F2.length=q)(r:X.length=s)(m:s+q<=Z.length) :
  ((((F1++Z).take p++X++(F1++Z).drop (p+X.length)).take (p+s)++F2++((F1++Z).take p++X++(F1++Z).drop (p+X.length)).drop (p+s+F2.length)).take (p+s+q))=F1++X++F2:=by
 have j:(F1++Z).take p=F1:=by rw[aH Ω,aS Ω]
 rw[j];generalize (F1++Z).drop (p+X.length)=D;have h:(F1++X++D).take (p+s)=F1++X:=by rw[aH Ψ,aS Ψ]
 rw[h,aH Ψ,aS Ψ]
theorem zev (h:∀x,(enc x).length=sz)(l:List α):(l.flatMap enc).length=l.length*sz:=by
 induction l with
 |nil=>simp
 |cons x r j=>rw[bW,bB,h x,j,bQ,aQ];omega
theorem zwk (h:∀x,∀u∈enc x,u.oneCell'=true)(l:List α):∀u∈l.flatMap enc,u.oneCell'=true:=λu m=>by
 obtain⟨x,_,j⟩:=cL.1 m;exact h x u j
variable {row:Option Nat}
theorem zft {c:World}(h:a.grownBy b row)(k:b.grownBy c row):a.grownBy c row :=
 ⟨k.os.trans h.os,k.tape.trans h.tape,k.output.trans h.output,bE h.size k.size,λi hi j=>(k.block i (aB hi h.size) j).trans (h.block i hi j)⟩
theorem zfu {o:Obj}(h:(a.alloc o).grownBy b (some a.heap.size))(row:Option Nat):a.grownBy b row :=
 ⟨h.os,h.tape,h.output,by have:=h.size;rw[World.size_alloc]at this;omega,λi hi _=>(h.block i (by rw[World.size_alloc];omega) Ψ).trans (Below.heap_alloc a o i hi)⟩
theorem Own.of_blk {base c:Nat}{j:List Value}(h:Blk w g e j.toArray)(q:base<=g)(m:l.length<=c)(p:c<=maxLen)(hs:j.length=c*sz)
  (r:j.take (l.length*sz)=l.flatMap enc) (u:∀x,(enc x).length=sz):Own w base e sz enc (.slice (some ⟨g,0,none⟩) l.length c) l :=
 ⟨zev u l,aT ⟨g,c,j.toArray,rfl,q,h,m,p,by simpa using hs,r⟩⟩
theorem z37 (h:a.drew.grownBy b row):a.grownBy b row:=⟨h.os,h.tape,h.output,h.size,h.block⟩
structure Pt where
 seq:Int
 time:Int
deriving DecidableEq
structure Trk where
 next:Int
 beyond:List Int
 points:List Pt
 mark:Int
deriving DecidableEq
inductive Dv where
 |sub (sz lo:Nat)
 |con
 |nelt (k:Nat)
 |obj (j:Nat)
 |oelt (j k:Nat)
deriving Inhabited
def P4:Value->Bool |.tuple _=>true |.agg _=>true |_=>false
def Dv.of:Dv->Value->Value
 |.sub sz lo,.slice (some a) n c=>.slice (some (if c=lo then a else⟨a.block,a.off+lo*sz,none⟩)) (n-lo) (c-lo)
 |.sub _ _,.slice none n c=>.slice none (n-0) (c-0)
 |.con,.tuple vs=>vs.getD 0 undef
 |.nelt k,.tuple vs=>match vs.getD 0 undef with|.slice (some a) _ _=>.pointer (some ⟨a.block,a.off+k,none⟩)|v=>v
 |.con,.agg vs=>vs.getD 0 undef
 |.nelt k,.agg vs=>match vs.getD 0 undef with|.slice (some a) _ _=>.pointer (some ⟨a.block,a.off+k,none⟩)|v=>v
 |.obj j,.agg vs=>vs.getD (j+1) undef
 |.oelt j k,.agg vs=>match vs.getD (j+1) undef with|.slice (some a) _ _=>.pointer (some ⟨a.block,a.off+k,none⟩)|v=>v
 |_,_=>undef
def Dv.ok:Dv->Value->Bool |.obj j,.agg vs=>cQ (j+1) vs.size |.oelt j _,.agg vs=>cQ (j+1) vs.size |.obj _,_=>false |.oelt _ _,_=>false |_,_=>true
def Born (es:Array MapEntry)(clock:Nat):Prop:=(es.toList.map (·.born)).Nodup/\∀e∈es.toList,e.born<clock
inductive AV where
 |any
 |int (k:IntKind) (n:Int)
 |bool (b:Bool)
 |str (s:ByteArray)
 |nilp
 |ptr (id off:Nat)
 |nils
 |sl (sz:Nat) (xs:List AV)
 |row (id:Nat)
 |elt (id sz k j:Nat)
 |fn (f:FuncId) (cap:List AV)
 |yld (l:Nat) (T:Array Value) (cap:List AV)
 |nilf
 |agg (cs:List AV)
 |tup (cs:List AV)
 |ref (cs:List AV)
 |der (φ:Dv) (id:Nat)
 |mapv (ps:List (AV×AV))
 |slen (n:Nat)
 |cont (n id:Nat)
deriving Inhabited
def intN:AV->Int |.int _ n=>n |_=>0
def isI (kd:IntKind):AV->Bool |.int k _=>decide (k=kd) |_=>false
def ydk (ps:List (AV×AV)):Prop:=∃kd,(∀p∈ps,isI kd p.1=true)/\(ps.map λp=>intN p.1).Nodup
def F8 (h ps:List (AV×AV)):Prop:=h=ps\/(h.Perm ps/\ydk ps)
def AV.cells:AV->List AV |.agg cs=>cs |x=>[x]
mutual
def AV.closed:AV->Bool |.ptr _ _=>false |.row _=>false |.elt _ _ _ _=>false |.der _ _=>false |.cont _ _=>false |.fn _ cap=>AV.closedL cap |.yld _ _ cap=>AV.closedL cap |.agg cs=>AV.closedL cs |.tup cs=>AV.closedL cs |_=>true
def AV.closedL:List AV->Bool |[]=>true |x::r=>x.closed && AV.closedL r
end
theorem AV.closedL_at {l:List AV}(h:AV.closedL l=true)(i:Nat)(hi:i<l.length):l[i].closed=true:=by
 induction l generalizing i with
 |nil=>simp at hi
 |cons x r ih =>
  simp only[AV.closedL,bU]at h;cases i with
  |zero=>exact h.1
  |succ i=>exact ih h.2 i (by simpa using hi)
abbrev Gam:=Nat->Option (Option (Option Nat×Value))
def G0:Gam:=λ_=>none
inductive Rep (w:World) (S:Nat->Prop):Gam->AV->Value->Prop
 |any {γ:Gam} (v:Value):Rep w S γ .any v
 |int {γ:Gam} (k:IntKind) (n:Int):Rep w S γ (.int k n) (.int k n)
 |bool {γ:Gam} (b:Bool):Rep w S γ (.bool b) (.bool b)
 |str {γ:Gam} (s:ByteArray):Rep w S γ (.str s) (.string s)
 |nilp {γ:Gam}:Rep w S γ .nilp (.pointer none)
 |ptr {γ:Gam} {id off:Nat} {v:Value} {d:Option (Option Nat×Value)} (h:γ id=some d) (hv:∀g s,d=some (some g,s)->v=.pointer (some ⟨g,off,none⟩)):Rep w S γ (.ptr id off) v
 |elt {γ:Gam} {id sz k j:Nat} {v:Value} {d:Option (Option Nat×Value)} (h:γ id=some d) (hv:∀g s,d=some (some g,s)->v=.pointer (some ⟨g,k*sz+j,none⟩)):Rep w S γ (.elt id sz k j) v
 |nils {γ:Gam}:Rep w S γ .nils (.slice none 0 0)
 |sl {γ:Gam} {sz:Nat} {xs:List AV} (A:Option Addr) (c:Nat) (cell:Nat->Nat->Value) (hc:xs.length<=c) (hlen:∀k (hk:k<xs.length),(xs[k]).cells.length=sz)
   (hb:0<xs.length->∃b off,A=some ⟨b,off,none⟩/\S b/\b<w.heap.size/\∀k j,k<xs.length->j<sz->w.cell? ⟨b,off+(k*sz+j),none⟩=some (cell k j))
   (hr:∀k (hk:k<xs.length) j (hj:j<(xs[k]).cells.length),Rep w S G0 ((xs[k]).cells[j]) (cell k j)) (h1:∀k j,(cell k j).oneCell'=true):Rep w S γ (.sl sz xs) (.slice A xs.length c)
 |row {γ:Gam} {id:Nat} {v:Value} {d:Option (Option Nat×Value)} (h:γ id=some d) (hv:∀g s,d=some (g,s)->P4 s=false->v=s):Rep w S γ (.row id) v
 |fn {γ:Gam} {f:FuncId} {cap:List AV} (vs:Array Value) (hl:vs.size=cap.length) (hr:∀i (hi:i<cap.length),Rep w S γ cap[i] (vs.getD i undef)):Rep w S γ (.fn f cap) (.func (.func f) #[] vs)
 |yld {γ:Gam} {l:Nat} {T:Array Value} {cap:List AV} (hr:∀i (hi:i<cap.length),Rep w S γ cap[i] (T.getD i undef)):Rep w S γ (.yld l T cap) (.func (.yield l) #[] #[])
 |nilf {γ:Gam}:Rep w S γ .nilf .nilFunc
 |agg {γ:Gam} {cs:List AV} (vs:Array Value) (hl:vs.size=cs.length) (hr:∀i (hi:i<cs.length),Rep w S γ cs[i] (vs.getD i undef)) (h1:∀i,i<vs.size->(vs.getD i undef).oneCell'=true):Rep w S γ (.agg cs) (.agg vs)
 |tup {γ:Gam} {cs:List AV} (vs:Array Value) (hl:vs.size=cs.length) (hr:∀i (hi:i<cs.length),Rep w S γ cs[i] (vs.getD i undef)):Rep w S γ (.tup cs) (.tuple vs)
 |ref {γ:Gam} {cs:List AV} (b off:Nat) (cell:Nat->Value) (hS:S b) (hb:b<w.heap.size) (hc:∀j,j<cs.length->w.cell? ⟨b,off+j,none⟩=some (cell j))
   (hr:∀j (hj:j<cs.length),Rep w S G0 cs[j] (cell j)) (h1:∀j,j<cs.length->(cell j).oneCell'=true):Rep w S γ (.ref cs) (.pointer (some ⟨b,off,none⟩))
 |der {γ:Gam} {φ:Dv} {id:Nat} {v:Value} {d:Option (Option Nat×Value)} (h:γ id=some d) (hv:∀g s,d=some (g,s)->φ.ok s=true/\v=φ.of s):Rep w S γ (.der φ id) v
 |mapv {γ:Gam} {ps:List (AV×AV)} (ps0:List (AV×AV)) (hp:F8 ps0 ps) (g:Nat) (es:Array MapEntry) (clock:Nat) (hb:Born es clock) (hS:S g) (hg:g<w.heap.size) (hh:w.heap[g]? = some (.map es clock)) (hl:es.size=ps0.length)
   (hk:∀j (h:j<es.toList.length) (h':j<ps0.length),Rep w S G0 (ps0[j]).1 (es.toList[j]).key) (hv:∀j (h:j<es.toList.length) (h':j<ps0.length),Rep w S G0 (ps0[j]).2 (es.toList[j]).val):Rep w S γ (.mapv ps) (.map (some g))
 |mapn {γ:Gam}:Rep w S γ (.mapv []) (.map none)
 |slen {γ:Gam} (A:Option Addr) (n c:Nat):Rep w S γ (.slen n) (.slice A n c)
 |cont {γ:Gam} {n id:Nat} {v:Value} {d:Option (Option Nat×Value)} (h:γ id=some d) (hv:∀g s,d=some (g,s)->v=Dv.con.of s) (hl:∃A c,v=.slice A n c/\(0<n->∃b off,A=some ⟨b,off,none⟩)):Rep w S γ (.cont n id) v
section
variable {w w':World} {S S':Nat->Prop} {γ γ':Gam} {av:AV} {v:Value}
theorem Rep.mono (h:Rep w S γ av v)(M:w.heap.size<=w'.heap.size)(F:∀b,S b->b<w.heap.size->w'.heap[b]? = w.heap[b]? /\ S' b):Rep w' S' γ av v:=by
 induction h with
 |any=>exact .any _
 |int=>exact .int _ _
 |bool=>exact .bool _
 |str=>exact .str _
 |nilp=>exact .nilp
 |ptr h q=>exact .ptr h q
 |elt h q=>exact .elt h q
 |nils=>exact .nils
 |sl A c cell O E z C h1 m =>
  refine .sl A c cell O E (λZ=>?_) (λk F j N=>m k F j N) h1;obtain⟨b,off,X,G,D,u⟩:=z Z;obtain⟨e,p⟩:=F b G D;exact⟨b,off,X,p,aB D M,λk j h1 Y=>(World.cell?_of_block (w:=w) (a:=⟨b,_,none⟩) e).trans (u k j h1 Y)⟩
 |row h q=>exact .row h q
 |fn vs r C m=>exact .fn vs r m
 |yld C m=>exact .yld m
 |nilf=>exact .nilf
 |agg vs r C h1 m=>exact .agg vs r m h1
 |tup vs r C m=>exact .tup vs r m
 |ref b off cell G z O C h1 m =>
  obtain⟨e,p⟩:=F b G z;exact .ref b off cell p (aB z M) (λj N=>(World.cell?_of_block (w:=w) (a:=⟨b,_,none⟩) e).trans (O j N)) m h1
 |der h q=>exact .der h q
 |mapv H U g es clock z G R W r V q J I =>
  obtain⟨e,p⟩:=F g G R;exact .mapv H U g es clock z p (aB R M) (e.trans W) r J I
 |mapn=>exact .mapn
 |cont h q r=>exact .cont h q r
 |slen A n c=>exact .slen A n c
def Turn (γ:Gam)(id:Nat)(d:Option (Option Nat×Value)):Prop:=∃s j,d=some (none,s)/\γ id=some (some (none,j))/\P4 s=true/\P4 j=true/\∀h:Dv,h.ok s=true->h.ok j=true/\h.of j=h.of s
theorem Rep.gam (h:Rep w S γ av v)(z:∀id d,γ id=some d->γ' id=some d\/γ' id=some none\/Turn γ' id d):Rep w S γ' av v:=by
 induction h with
 |any=>exact .any _
 |int=>exact .int _ _
 |bool=>exact .bool _
 |str=>exact .str _
 |nilp=>exact .nilp
 |ptr h p =>
  rcases z _ _ h with j|j|⟨E,I,q,j,H,t2,m⟩
  ·exact .ptr j p
  ·exact .ptr j (λg s e=>by cases e)
  ·exact .ptr j (λg s e=>by cases e)
 |elt h p =>
  rcases z _ _ h with j|j|⟨E,I,q,j,H,t2,m⟩
  ·exact .elt j p
  ·exact .elt j (λg s e=>by cases e)
  ·exact .elt j (λg s e=>by cases e)
 |nils=>exact .nils
 |sl A c cell D F G C h1 u=>exact .sl A c cell D F G C h1
 |row h p =>
  rcases z _ _ h with j|j|⟨E,I,q,j,H,t2,m⟩
  ·exact .row j p
  ·exact .row j (λg s e _=>by cases e)
  ·exact .row j (λg s e D=>by injection e with e;injection e with _ e;subst e;rw[t2]at D;cases D)
 |fn vs r C u=>exact .fn vs r (λi hi=>u i hi z)
 |yld C u=>exact .yld (λi hi=>u i hi z)
 |nilf=>exact .nilf
 |agg vs r C h1 u=>exact .agg vs r (λi hi=>u i hi z) h1
 |tup vs r C u=>exact .tup vs r (λi hi=>u i hi z)
 |ref b off cell N G D C h1 u=>exact .ref b off cell N G D C h1
 |der h p =>
  rcases z _ _ h with j|j|⟨E,I,q,j,H,t2,m⟩
  ·exact .der j p
  ·exact .der j (λg s e=>by cases e)
  ·exact .der j (λg s e=>by
    injection e with e;injection e with _ e;subst e
    obtain⟨V,U⟩:=p _ _ q;obtain⟨R,O⟩:=m _ V;exact⟨R,U.trans O.symm⟩)
 |cont h p r =>
  rcases z _ _ h with j|j|⟨E,I,q,j,H,t2,m⟩
  ·exact .cont j p r
  ·exact .cont j (λg s e=>by cases e) r
  ·exact .cont j (λg s e=>by injection e with e;injection e with _ e;subst e;rw[(m .con (by cases E<;>rfl)).2];exact p _ _ q) r
 |mapv J Y g es clock G N M hh r Z p X W=>exact .mapv J Y g es clock G N M hh r Z p
 |mapn=>exact .mapn
 |slen A n c=>exact .slen A n c
theorem Rep.open_ (h:Rep w S G0 av v):Rep w S γ' av v:=h.gam (λid d h=>by cases h)
theorem Rep.close (h:Rep w S γ av v)(j:av.closed=true):Rep w S γ' av v:=by
 induction h with
 |any=>exact .any _
 |int=>exact .int _ _
 |bool=>exact .bool _
 |str=>exact .str _
 |nilp=>exact .nilp
 |ptr h r=>simp[AV.closed]at j
 |elt h r=>simp[AV.closed]at j
 |nils=>exact .nils
 |sl A c cell E u z q h1 m=>exact .sl A c cell E u z q h1
 |row h r=>simp[AV.closed]at j
 |fn vs p q m=>simp only[AV.closed]at j;exact .fn vs p (λi hi=>m i hi (AV.closedL_at j i hi))
 |yld q m=>simp only[AV.closed]at j;exact .yld (λi hi=>m i hi (AV.closedL_at j i hi))
 |nilf=>exact .nilf
 |agg vs p q h1 m=>simp only[AV.closed]at j;exact .agg vs p (λi hi=>m i hi (AV.closedL_at j i hi)) h1
 |tup vs p q m=>simp only[AV.closed]at j;exact .tup vs p (λi hi=>m i hi (AV.closedL_at j i hi))
 |ref b off cell F z E q h1 m=>exact .ref b off cell F z E q h1
 |cont h r p=>simp[AV.closed]at j
 |der h r=>simp[AV.closed]at j
 |mapv C I g es clock z F D M p J r H G=>exact .mapv C I g es clock z F D M p J r
 |mapn=>exact .mapn
 |slen A n c=>exact .slen A n c
def AV.one:AV->Bool |.any|.agg _|.tup _|.ptr _ _|.row _|.elt _ _ _ _|.der _ _=>false |_=>true
theorem Rep.one (h:Rep w S γ av v)(h1:av.one=true):v.oneCell'=true:=by
 cases h<;>first|rfl|(rename_i j;obtain⟨_,_,rfl,_⟩:=j;rfl)|(simp[AV.one]at h1;done)
theorem Rep.int_inv {k:IntKind}{n:Int}(h:Rep w S γ (.int k n) v):v=.int k n:=by cases h;rfl
theorem Rep.bool_inv {b:Bool}(h:Rep w S γ (.bool b) v):v=.bool b:=by cases h;rfl
theorem Rep.str_inv {s:ByteArray}(h:Rep w S γ (.str s) v):v=.string s:=by cases h;rfl
variable {id:Nat}{s:Value}
theorem Rep.ptr_inv {off:Nat}(h:Rep w S γ (.ptr id off) v)(m:γ id=some (some (some g,s))):v=.pointer (some ⟨g,off,none⟩):=by
 cases h with
 |ptr h j=>rw[m]at h;injection h with h;exact j g s h.symm
theorem Rep.elt_inv {k j:Nat}(h:Rep w S γ (.elt id sz k j) v)(p:γ id=some (some (some g,s))):v=.pointer (some ⟨g,k*sz+j,none⟩):=by
 cases h with
 |elt h m=>rw[p]at h;injection h with h;exact m g s h.symm
theorem Rep.nils_inv (h:Rep w S γ .nils v):v=.slice none 0 0:=by cases h;rfl
variable {cs:List AV}
theorem Rep.ref_inv (h:Rep w S γ (.ref cs) v):∃b off,v=.pointer (some ⟨b,off,none⟩)/\S b/\b<w.heap.size/\∃cell:Nat->Value,(∀j,j<cs.length->w.cell? ⟨b,off+j,none⟩=some (cell j))/\(∀j (u:j<cs.length),Rep w S G0 cs[j] (cell j))/\∀j,j<cs.length->(cell j).oneCell'=true:=by
 cases h with
 |ref b off cell r q p m h1=>exact⟨b,off,rfl,r,q,cell,p,m,h1⟩
theorem Gp (h:s.oneCell'=true):P4 s=false:=by cases s<;>first|rfl|simp[Value.oneCell']at h
theorem Rep.sl_tup {xs:List AV}(h:Rep w S γ (.sl sz xs) v):P4 v=false:=by cases h;rfl
theorem Rep.row_inv {g:Option Nat}(h:Rep w S γ (.row id) v)(p:γ id=some (some (g,s)))(m:P4 s=false:=by first|rfl|assumption|(apply Gp;assumption)|(apply Rep.sl_tup;assumption)):v=s:=by
 cases h with
 |row h j=>rw[p]at h;injection h with h;exact j g s h.symm m
theorem Rep.der_inv {j:Dv}{g:Option Nat}(h:Rep w S γ (.der j id) v)(p:γ id=some (some (g,s))):v=j.of s:=by
 cases h with
 |der h m=>rw[p]at h;injection h with h;exact(m g s h.symm).2
theorem Rep.agg_inv (h:Rep w S γ (.agg cs) v):∃vs:Array Value,v=.agg vs/\vs.size=cs.length/\(∀i (hi:i<cs.length),Rep w S γ cs[i] (vs.getD i undef))/\∀i,i<vs.size->(vs.getD i undef).oneCell'=true:=by
 cases h with
 |agg vs m j h1=>exact⟨vs,rfl,m,j,h1⟩
theorem Rep.tup_inv (h:Rep w S γ (.tup cs) v):∃vs:Array Value,v=.tuple vs/\vs.size=cs.length/\∀i (hi:i<cs.length),Rep w S γ cs[i] (vs.getD i undef):=by
 cases h with
 |tup vs m j=>exact⟨vs,rfl,m,j⟩
theorem Rep.fn_inv {f:FuncId}(h:Rep w S γ (.fn f cs) v):∃vs:Array Value,v=.func (.func f) #[] vs/\vs.size=cs.length/\∀i (hi:i<cs.length),Rep w S γ cs[i] (vs.getD i undef):=by
 cases h with
 |fn vs m j=>exact⟨vs,rfl,m,j⟩
theorem Rep.yld_inv {l:Nat}{T:Array Value}(h:Rep w S γ (.yld l T cs) v):v=.func (.yield l) #[] #[]/\∀i (hi:i<cs.length),Rep w S γ cs[i] (T.getD i undef):=by
 cases h with
 |yld j=>exact⟨rfl,j⟩
theorem Rep.sl_inv {xs:List AV}(h:Rep w S γ (.sl sz xs) v):∃A c,v=.slice A xs.length c/\xs.length<=c/\(∀k (q:k<xs.length),(xs[k]).cells.length=sz) /\
  ∃cell:Nat->Nat->Value,(0<xs.length->∃b off,A=some ⟨b,off,none⟩/\S b/\b<w.heap.size/\∀k j,k<xs.length->j<sz->w.cell? ⟨b,off+(k*sz+j),none⟩=some (cell k j)) /\
   (∀k (q:k<xs.length) j (z:j<(xs[k]).cells.length),Rep w S G0 ((xs[k]).cells[j]) (cell k j))/\∀k j,(cell k j).oneCell'=true:=by
 cases h with
 |sl A c cell r m u p h1=>exact⟨A,c,rfl,r,m,cell,u,p,h1⟩
end
open Go.RowKit
inductive NE where
 |row (ty sz:Nat) (xs:List AV)
 |mp (ps:List (AV×AV))
 |hole
deriving Inhabited
inductive Ent where
 |box (ty:TypeId) (cells:List AV)
 |row (ty:TypeId) (sz:Nat) (xs:List AV)
 |mp (ps:List (AV×AV))
 |nest (ty:TypeId) (es:List NE)
 |mpn (ps:List (AV×NE))
 |are (ty:TypeId) (idx:List (Option Nat)) (os:List NE)
 |it (ps:List (AV×AV))
 |itp (ps:List (AV×AV))
 |itc (p:AV×AV) (ps:List (AV×AV))
 |dead
deriving Inhabited
structure AS where
 tm:List (Nat×AV)
 me:List (Nat×Ent)
deriving Inhabited
def lkV:List (Nat×AV)->Nat->AV
 |[],_=>.any
 |(u,x)::r,t=>match aP u t with|true=>x|false=>lkV r t
def lkE:List (Nat×Ent)->Nat->Option Ent
 |[],_=>none
 |(u,x)::r,t=>match aP u t with|true=>some x|false=>lkE r t
def AS.get (σ:AS)(t:Nat):AV:=lkV σ.tm t
def AS.find (σ:AS)(i:Nat):Option Ent:=lkE σ.me i
def putD (d:Option Nat)(v:AV)(l:List (Nat×AV)):List (Nat×AV):=match d with|some d=>(d,v)::l|none=>l
def AS.upd (σ:AS)(dst:Option Nat)(v:AV)(wr:List (Nat×Ent)):AS:=⟨putD dst v σ.tm,wr++σ.me⟩
theorem AS.get_upd (σ:AS)(dst:Option Nat)(v:AV)(wr:List (Nat×Ent))(t:Nat):(σ.upd dst v wr).get t=if dst=some t then v else σ.get t:=by
 cases dst with
 |none=>simp[AS.upd,AS.get,putD]
 |some d =>
  simp only[AS.upd,AS.get,putD,lkV,aG];by_cases h:d=t
  ·subst h;simp
  ·rw[if_neg h];have:aP d t=false:=by
    cases j:aP d t with
    |false=>rfl
    |true=>exact absurd (aC j) h
   rw[this]
theorem zn8 (l m:List (Nat×Ent))(i:Nat):lkE (l++m) i=(lkE l i).or (lkE m i):=by
 induction l with
 |nil=>simp[lkE]
 |cons x r j =>
  obtain⟨u,e⟩:=x;simp only[cons_append,lkE];cases h:aP u i<;>simp[j]
theorem AS.find_upd (σ:AS)(dst:Option Nat)(v:AV)(wr:List (Nat×Ent))(i:Nat):(σ.upd dst v wr).find i=(lkE wr i).or (σ.find i):=zn8 _ _ _
def B8:Value->Option Nat |.slice (some a) _ _=>some a.block |.map (some g)=>some g |_=>none
def Cq:Value->List Nat |.tuple vs=>vs.toList.filterMap B8 |.agg vs=>vs.toList.filterMap B8 |_=>[]
def blks:Option (Option Nat×Value)->List Nat |none=>[] |some (o,s)=>o.toList++Cq s
variable {s:Value}
theorem C3 {b:Nat}:b∈blks (some (some b,s)):=by simp[blks]
def own (γ:Gam)(b:Nat):Prop:=∃id d,γ id=some d/\b∈blks d
variable {γ:Gam}{id:Nat}
theorem own.mk {b:Nat}(h:γ id=some (some (some b,s))):own γ b:=⟨id,_,h,C3⟩
theorem Ow {b:Nat}(hs:Cq s=[])(h:b∈blks (some (some g,s))):b=g:=by simpa[blks,hs]using h
theorem Tv {b:Nat}(hs:Cq s=[])(h:b∈blks (some (none,s))):False:=by simp[blks,hs]at h
theorem Fn {b:Nat}(hs:Cq s=[])(h:b∈blks (some (s.ownBlock,s))):s.ownBlock=some b:=by
 cases j:s.ownBlock with
 |none=>rw[j]at h;exact(Tv hs h).elim
 |some g=>rw[j]at h;rw[Ow hs h]
theorem Fl (h:s.oneCell'=true):Cq s=[]:=by cases s<;>first|rfl|simp[Value.oneCell']at h
def Nw (S0:Nat->Prop)(B b:Nat):Prop:=B<=b/\¬S0 b
def Sg (S0:Nat->Prop)(B:Nat)(γ:Gam)(b:Nat):Prop:=(S0 b/\b<B)\/(Nw S0 B b/\¬own γ b)
def Km (w:World)(S:Nat->Prop)(e:MapEntry)(p:AV×AV):Prop:=Rep w S G0 p.1 e.key/\Rep w S G0 p.2 e.val
def Dj (w:World)(S:Nat->Prop)(g:Nat)(ps:List (AV×AV)):Prop:=∃es clock,w.heap[g]? = some (.map es clock)/\es.size=ps.length/\Born es clock/\∀j (h:j<es.toList.length) (m:j<ps.length),Km w S es.toList[j] ps[j]
variable {S':Nat->Prop}{ps:List (AV×AV)}
theorem Dj.move (h:Dj w S g ps)(r:w.heap.size<=w'.heap.size)(u:∀b,S b->b<w.heap.size->w'.heap[b]? = w.heap[b]? /\ S' b)(A:w'.heap[g]? = w.heap[g]?):Dj w' S' g ps:=by
 obtain⟨es,clock,h1,C,m,z⟩:=h;exact⟨es,clock,A.trans h1,C,m,λj q p=>⟨(z j q p).1.mono r u,(z j q p).2.mono r u⟩⟩
def DisB (o:Option Nat)(vs:Array Value):Prop:=(∀i j b,B8 (vs.getD i undef)=some b->B8 (vs.getD j undef)=some b->i=j)/\∀i b,o=some b->B8 (vs.getD i undef)≠some b
def NRep (w:World)(S:Nat->Prop)(B:Nat)(v:Value):NE->Prop |.row ty sz xs=>v.oneCell'=true/\∃vs,w.ownsRow B ty sz v xs.length vs/\(∀k (m:k<xs.length),(xs[k]).cells.length=sz) /\ (∀k (m:k<xs.length) j (p:j<(xs[k]).cells.length),Rep w S G0 ((xs[k]).cells[j]) (vs.getD (k*sz+j) undef))/\∀u∈vs,u.oneCell'=true |.mp ps=>∃g h,v=.map (some g)/\Dj w S g h/\F8 h ps |.hole=>v=.nilFunc
def Cn (es:Array MapEntry)(h:Array Nat):List MapEntry:=es.toList.filter λe=>!h.contains e.born
def RepL (w:World)(S:Nat->Prop)(L:List MapEntry)(ps:List (AV×AV)):Prop:=L.length=ps.length/\∀j (h:j<L.length) (m:j<ps.length),Km w S L[j] ps[j]
variable {L:List MapEntry}
theorem RepL.move (h:RepL w S L ps)(p:w.heap.size<=w'.heap.size)(r:∀b,S b->b<w.heap.size->w'.heap[b]? = w.heap[b]? /\ S' b):RepL w' S' L ps :=
 ⟨h.1,λj q m=>⟨(h.2 j q m).1.mono p r,(h.2 j q m).2.mono p r⟩⟩
def RepM (w:World)(S:Nat->Prop)(L:List MapEntry)(ps:List (AV×AV)):Prop:=∃h,h.Perm ps/\RepL w S L h
theorem RepM.move (h:RepM w S L ps)(m:w.heap.size<=w'.heap.size)(p:∀b,S b->b<w.heap.size->w'.heap[b]? = w.heap[b]? /\ S' b):RepM w' S' L ps:=by
 obtain⟨j,h1,q⟩:=h;exact⟨j,h1,q.move m p⟩
def ItIs (w:World)(S:Nat->Prop)(g:Nat)(P:Array MapEntry->Array Nat->Nat->Nat->Prop):Prop :=
 (∃bm since h j es clock,w.heap[g]? = some (.mapIter (some bm) since h j)/\S bm/\bm<w.heap.size/\w.heap[bm]? = some (.map es clock)/\(es.toList.map (·.born)).Nodup/\(∀e∈es.toList,e.born<since)/\since<=j/\since<=clock/\P es h j clock) \/
 (∃a b s,w.heap[g]? = some (.mapIter none a s b)/\P #[] #[] 0 0)
theorem ItIs.move {P P':Array MapEntry->Array Nat->Nat->Nat->Prop}(h:ItIs w S g P)(C:∀b,S b->b<w.heap.size->w'.heap[b]? = w.heap[b]? /\ S' b)(A:w.heap.size<=w'.heap.size)(p:w'.heap[g]? = w.heap[g]?)(q:∀es s c d,P es s c d->P' es s c d):ItIs w' S' g P':=by
 rcases h with⟨bm,since,j,J,es,clock,h1,m,r,I,H,G,F,E,D⟩|⟨a,b,s,h1,m⟩
 ·obtain⟨z,u⟩:=C bm m r;exact aM ⟨bm,since,j,J,es,clock,p.trans h1,u,aB r A,z.trans I,H,G,F,E,q _ _ _ _ D⟩
 ·exact aT ⟨a,b,s,p.trans h1,q _ _ _ _ m⟩
def ItL (w:World)(S:Nat->Prop)(ps:List (AV×AV))(es:Array MapEntry)(h:Array Nat)(j clock:Nat):Prop:=RepM w S (Cn es h) ps
def ItP (w:World)(S:Nat->Prop)(ps:List (AV×AV))(es:Array MapEntry)(h:Array Nat)(j clock:Nat):Prop:=j=clock/\∃(seen0:Array Nat) (e:MapEntry),h=seen0.push e.born/\e∈Cn es seen0/\RepM w S (Cn es seen0) ps
def ItC (w:World)(S:Nat->Prop)(p:AV×AV)(ps:List (AV×AV))(es:Array MapEntry)(h:Array Nat)(j clock:Nat):Prop:=j=clock/\∃(seen0:Array Nat) (e:MapEntry),h=seen0.push e.born/\e∈es.toList/\Km w S e p/\RepM w S (Cn es h) ps
def Bm (w:World)(S:Nat->Prop)(γ:Gam)(B:Nat)(d:Option (Option Nat×Value)):Ent->Prop |.box ty cells=>∃g vs,d=some (some g,.slice none 0 0)/\Blk w g ty vs/\vs.size=cells.length/\(∀i (hi:i<cells.length),Rep w S γ cells[i] (vs.getD i undef))/\∀i,i<vs.size->(vs.getD i undef).oneCell'=true |.row ty sz xs=>∃s vs,d=some (s.ownBlock,s)/\s.oneCell'=true/\w.ownsRow B ty sz s xs.length vs/\(∀k (q:k<xs.length),(xs[k]).cells.length=sz) /\ (∀k (q:k<xs.length) j (z:j<(xs[k]).cells.length),Rep w S G0 ((xs[k]).cells[j]) (vs.getD (k*sz+j) undef))/\∀u∈vs,u.oneCell'=true |.mp ps=>∃g,d=some (some g,.map (some g))/\Dj w S g ps |.nest ty es=>∃s vs,d=some (none,.tuple (#[s]++vs))/\s.oneCell'=true/\vs.size=es.length/\(∃us,w.ownsRow B ty 1 s es.length us/\(∀u∈us,u.oneCell'=true)/\∀k (q:k<es.length),es[k]≠.hole->us.getD k undef=vs.getD k undef) /\ (∀k (q:k<es.length),NRep w S B (vs.getD k undef) es[k])/\DisB (B8 s) vs |.mpn ps=>∃g es vs,d=some (none,.tuple (#[.map (some g)]++vs))/\w.heap[g]? = some (.map es ps.length)/\es.size=ps.length/\vs.size=ps.length/\(∀j (h:j<es.toList.length),(es.toList[j]).born=j) /\ (∀j (h:j<es.toList.length) (r:j<ps.length),Rep w S G0 (ps[j]).1 (es.toList[j]).key)/\(∀j (h:j<es.toList.length) (r:j<ps.length),(ps[j]).2≠.hole->(es.toList[j]).val=vs.getD j undef)/\(∀j (r:j<ps.length),NRep w S B (vs.getD j undef) (ps[j]).2)/\DisB (some g) vs |.are ty idx m=>∃s vs us,d=some (none,.agg (#[s]++vs))/\s.oneCell'=true/\vs.size=m.length/\w.ownsRow B ty 1 s idx.length us/\(∀u∈us,u.oneCell'=true) /\ (∀k (q:k<idx.length),(idx[k]=none->Rep w S G0 (.mapv []) (us.getD k undef))/\∀j,idx[k]=some j->j<m.length/\us.getD k undef=vs.getD j undef)/\(∀j (h:j<m.length),m[j]≠.hole/\NRep w S B (vs.getD j undef) m[j])/\DisB (B8 s) vs |.it ps=>∃g,d=some (some g,.slice none 0 0)/\ItIs w S g (ItL w S ps) |.itp ps=>∃g,d=some (some g,.slice none 0 0)/\ItIs w S g (ItP w S ps) |.itc p ps=>∃g,d=some (some g,.slice none 0 0)/\ItIs w S g (ItC w S p ps) |.dead=>d=none
inductive Ec where
 |strct (fs:List (Nat×Nat×Option Bool))
 |arr (n e esz:Nat) (eagg:Option Bool)
 |slc (e esz ebytes:Nat)
 |str
 |bool
 |int (k:IntKind)
 |map (k e:Nat)
 |other
structure TyI where
 sz:Nat
 bytes:Nat
 zero:Value
 shape:Ec
def aggT (P:Program)(t:TypeId):Option Bool:=match P.underlying t with|some (.struct _)=>some true|some (.array _ _)=>some true|some _=>some false|none=>none
def Du (P:Program):TypeDesc->Ec |.struct fs=>.strct (fs.toList.map λf=>(f.offset,P.cellsOf f.type,aggT P f.type)) |.array n e=>.arr n e (P.cellsOf e) (aggT P e) |.slice e=>.slc e (P.cellsOf e) (P.bytesOf e) |.string=>.str |.bool=>.bool |.int k=>.int k |.map k e=>.map k e |_=>.other
structure TyOk (P:Program) (T:TypeId) (i:TyI):Prop where
 info:(P.info? T).map (λx=>(x.size,x.bytes))=some (i.sz,i.bytes)
 zero:(P.info? T).bind (·.zero)=some i.zero
 shape:(P.underlying T).map (Du P)=some i.shape
def lkT:List (Nat×TyI)->Nat->Option TyI
 |[],_=>none
 |(u,x)::r,t=>match aP u t with|true=>some x|false=>lkT r t
structure Env where
 P:Program
 tab:List (Nat×TyI)
 ok:∀T i,lkT tab T=some i->TyOk P T i
 mixed:P.follows .mixedOrders=true
 dr:Bool
 rg:Bool
 yl:Option (Nat×Obj)
 np:Nat
 bl:Bool
structure Cx where
 E:Env
 S0:Nat->Prop
 w0:World
 nt:Nat
 Fr:Nat->Prop
 w1:World
 rd:Option Nat
 pv:Array Value
 hrd:E.rg=true->rd=none
def Cx.call (E:Env)(S:Nat->Prop)(w:World)(nt:Nat):Cx:=⟨E,λb=>S b/\b<w.heap.size,w,nt,λ_=>False,w,none,#[],λ_=>rfl⟩
abbrev Cx.P (cx:Cx):Program:=cx.E.P
abbrev Cx.F (cx:Cx):Fence:={ Fence.wide with round:=cx.rd }
def ydj (B:Nat)(γ:Gam)(w:World)(ds:List Deferred):Prop:=∃h:List Nat,ds=h.map (λr=>{ target:=.collected r,args:=#[] })/\h.Nodup/\∀r∈h,B<=r/\r<w.heap.size/\¬own γ r/\w.heap[r]? = some (.deferred (some []))
structure Book (cx:Cx) (γ:Gam) (a:Act) (w:World):Prop where
 d0:cx.E.rg=false->a.defers=[]
 marks:ydj cx.w0.heap.size γ w a.defers
 pin:∀t,t<cx.E.np->a.tmps.getD t undef=cx.pv.getD t undef
 yl:∀l R,cx.E.yl=some (l,R)->cx.w0.heap.size<=l/\l<w.heap.size/\¬own γ l/\w.heap[l]? = some R
 sz:cx.w1.heap.size<=w.heap.size
variable {cx:Cx}{γ':Gam}
theorem Book.step {a:Act}(h:Book cx γ a w)(A:w.heap.size<=w'.heap.size)(C:∀b,¬own γ b->b<w.heap.size->w'.heap[b]? = w.heap[b]? /\ ¬own γ' b):Book cx γ' a w':=by
 obtain⟨D,h1,H,G⟩:=h.marks;refine⟨h.d0,⟨D,h1,H,λr E=>?_⟩,h.pin,λl R F=>?_,bE h.sz A⟩
 ·obtain⟨q,j,p,m⟩:=G r E;obtain⟨z,u⟩:=C r p j;exact⟨q,aB j A,u,z.trans m⟩
 ·obtain⟨q,j,p,m⟩:=h.yl l R F;obtain⟨z,u⟩:=C l p j;exact⟨q,aB j A,u,z.trans m⟩
theorem Book.gam {a:Act}(h:Book cx γ a w)(j:∀b,own γ' b->own γ b):Book cx γ' a w :=
 h.step (aF _) (λb m _=>⟨rfl,λh=>m (j b h)⟩)
def MeOk (w:World)(S:Nat->Prop)(γ:Gam)(B:Nat)(d:Option (Option (Option Nat×Value))):Option Ent->Prop |none=>d=none |some e=>∃x,d=some x/\Bm w S γ B x e
structure StG (cx:Cx) (γ:Gam) (σ:AS) (a:Act) (w:World):Prop where
 tm:∀t,Rep w (Sg cx.S0 cx.w0.heap.size γ) γ (σ.get t) (a.tmps.getD t undef)
 me:∀id,MeOk w (Sg cx.S0 cx.w0.heap.size γ) γ cx.w0.heap.size (γ id) (σ.find id)
 inj:∀id id' b d d',γ id=some d->γ id'=some d'->b∈blks d->b∈blks d'->id=id'
 ge:∀b,own γ b->Nw cx.S0 cx.w0.heap.size b/\b<w.heap.size
 below:Below cx.w0.heap.size cx.w0 w
 size:a.tmps.size=cx.nt
 defers:Book cx γ a w
 gh:∀b,cx.S0 b->b<w.heap.size
 fr:∀b,cx.Fr b->¬own γ b/\b<w.heap.size/\w.heap[b]? = cx.w1.heap[b]?
 dr:cx.E.dr=true->cx.w0.drawn<=w.drawn
def St (cx:Cx)(σ:AS)(a:Act)(w:World):Prop:=∃γ,StG cx γ σ a w
variable {σ τ:AS}
theorem St.congr {a:Act}(h:St cx σ a w)(h1:∀t,τ.get t=σ.get t)(j:∀i,τ.find i=σ.find i):St cx τ a w:=by
 obtain⟨γ,h⟩:=h;exact⟨γ,λt=>by rw[h1];exact h.tm t,λi=>by rw[j];exact h.me i,h.inj,h.ge,h.below,h.size,h.defers,h.gh,h.fr,h.dr⟩
structure Tr where
 val:AV
 ids:List Nat
 wr:List (Nat×Ent)
deriving Inhabited
def C0 (ops:Array Oper)(i:Nat):Option Nat:=(ops[i]?).bind (·.dst)
def F6 (ops:Array Oper)(i:Nat):List Nat:=match ops[i]? with|some o=>o.looksAt ops|none=>[]
def yaj (cx:Cx)(ops:Array Oper)(i:Nat)(σ σ':AS):Prop:=∀a w Q K,St cx σ a w->(∀h w',St cx σ' h w'->K h w')->wpOpIn cx.F 0 cx.P ops Q i K a w
def Step (cx:Cx)(ops:Array Oper)(i:Nat)(σ:AS)(tr:Tr):Prop:=(∀id e,lkE tr.wr id=some e->id∈tr.ids) /\ ∀τ:AS,(∀t∈F6 ops i,τ.get t=σ.get t)->(∀id∈tr.ids,τ.find id=σ.find id)->yaj cx ops i τ (τ.upd (C0 ops i) tr.val tr.wr)
def Ext (σ τ:AS):Prop:=(∀t,σ.get t=τ.get t)/\∀i,σ.find i=τ.find i
theorem Ext.refl (σ:AS):Ext σ σ:=⟨λ_=>rfl,λ_=>rfl⟩
theorem Ext.upd (h:Ext σ τ)(d:Option Nat)(v:AV)(wr:List (Nat×Ent)):Ext (σ.upd d v wr) (τ.upd d v wr) :=
 ⟨λt=>by rw[AS.get_upd,AS.get_upd,h.1],λi=>by rw[AS.find_upd,AS.find_upd,h.2]⟩
theorem Ext.trans {a b c:AS}(h:Ext a b)(k:Ext b c):Ext a c:=⟨λt=>(h.1 t).trans (k.1 t),λi=>(h.2 i).trans (k.2 i)⟩
inductive Run (cx:Cx) (ops:Array Oper):Nat->AS->List Tr->AS->Prop
 |done {i:Nat} {σ σ':AS} (h:ops.size<=i) (hx:Ext σ' σ):Run cx ops i σ [] σ'
 |step {i:Nat} {σ σ1 σ':AS} {tr:Tr} {trs:List Tr} (h:i<ops.size) (hs:Step cx ops i σ tr) (hx:Ext σ1 (σ.upd (C0 ops i) tr.val tr.wr)) (hr:Run cx ops (i+1) σ1 trs σ'):Run cx ops i σ (tr::trs) σ'
variable {ops:Array Oper}{i:Nat}{σ':AS}{trs:List Tr}{Q:Exit->Act->World->Prop}
theorem Run.wpOps (h:Run cx ops i σ trs σ')(r:∀a w,St cx σ' a w->Q .normal a w)(hi:i<=ops.size) :
  ∀a w,St cx σ a w->wpOpsIn cx.F 0 cx.P ops Q (range' i (ops.size-i)) a w:=by
 induction h with
 |done h m =>
  intro a w hs;rw[show ops.size-_=0 by omega];exact r a w (hs.congr m.1 m.2)
 |@step i σ u σ' tr trs h j m C z =>
  intro a w p;rw[show ops.size-i=(ops.size-(i+1))+1 by omega,range'_succ,wpOpsIn_cons];exact j.2 σ (λ_ _=>rfl) (λ_ _=>rfl) a w Q _ p (λA w' q=>z r Ω A w' (q.congr m.1 m.2))
section
variable (dst:Nat->Option Nat) (tr:Nat->Tr)
def C6 (X:Nat->Bool)(σ:AS):Nat->AS
 |0=>σ
 |k+1=>if X k=true then(C6 X σ k).upd (dst k) (tr k).val (tr k).wr else C6 X σ k
variable {dst tr}
theorem zfv (X:Nat->Bool)(σ:AS)(k t:Nat):(C6 dst tr X σ (k+1)).get t=if X k=true/\dst k=some t then(tr k).val else(C6 dst tr X σ k).get t:=by
 unfold C6;by_cases h:X k=true
 ·rw[if_pos h,AS.get_upd];by_cases j:dst k=some t
  ·rw[if_pos j,if_pos ⟨h,j⟩]
  ·rw[if_neg j,if_neg (λm=>j m.2)];cases k<;>rfl
 ·rw[if_neg h,if_neg (λm=>h m.1)];cases k<;>rfl
theorem zdo (X:Nat->Bool)(σ:AS)(k i:Nat):(C6 dst tr X σ (k+1)).find i=if X k=true then(lkE (tr k).wr i).or ((C6 dst tr X σ k).find i)else(C6 dst tr X σ k).find i:=by
 conv=>lhs;unfold C6
 by_cases h:X k=true
 ·rw[if_pos h,if_pos h,AS.find_upd]
 ·rw[if_neg h,if_neg h]
theorem zk5 (X Y:Nat->Bool)(σ:AS)(k t:Nat)(h:∀j,j<k->dst j=some t->X j=Y j):(C6 dst tr X σ k).get t=(C6 dst tr Y σ k).get t:=by
 induction k with
 |zero=>rfl
 |succ k ih =>
  rw[zfv,zfv,ih (λj p=>h j Ω)];by_cases m:dst k=some t
  ·rw[h k Ω m]
  ·rw[if_neg (λh=>m h.2),if_neg (λh=>m h.2)]
theorem zgr (X:Nat->Bool)(σ:AS)(m k t:Nat)(hm:m<=k)(h:∀j,m<=j->j<k->dst j=some t->X j=false):(C6 dst tr X σ k).get t=(C6 dst tr X σ m).get t:=by
 induction k with
 |zero=>rw[show m=0 by omega]
 |succ k ih =>
  rcases cG k m with p|p
  ·rw[show m=k+1 by omega]
  ·rw[zfv,if_neg,ih p (λj h1 q=>h j h1 Ω)];rintro ⟨h1,q⟩;rw[h k p Ω q]at h1;cases h1
theorem zgt (X Y:Nat->Bool)(σ:AS)(k i:Nat)(h:∀j,j<k->lkE (tr j).wr i≠none->X j=Y j):(C6 dst tr X σ k).find i=(C6 dst tr Y σ k).find i:=by
 induction k with
 |zero=>rfl
 |succ k ih =>
  rw[zdo,zdo,ih (λj p=>h j Ω)];cases m:lkE (tr k).wr i with
  |none=>simp
  |some e=>rw[h k Ω (by simp[m])]
theorem zew (X:Nat->Bool)(σ:AS)(m k i:Nat)(hm:m<=k)(h:∀j,m<=j->j<k->lkE (tr j).wr i≠none->X j=false):(C6 dst tr X σ k).find i=(C6 dst tr X σ m).find i:=by
 induction k with
 |zero=>rw[show m=0 by omega]
 |succ k ih =>
  rcases cG k m with p|p
  ·rw[show m=k+1 by omega]
  ·rw[zdo,ih p (λj h1 r=>h j h1 Ω)];cases q:lkE (tr k).wr i with
   |none=>simp
   |some e=>rw[h k p Ω (by simp[q])];simp
end
def forced (n:Nat)(k:Nat->α):α:=match n with|0=>k 0|m+1=>k (m+1)
theorem Yd (n:Nat)(k:Nat->α):forced n k=k n:=by cases n<;>rfl
def clo1 (look:Nat->Nat)(o:Oper):Nat:=o.after.toList.foldl (λs e=>if Region.binds .any e then s ||| (2 ^ e.on ||| look e.on)else s) 0
def cloL:List Oper->List Nat->List Nat |[],acc=>acc |o::r,acc=>forced (clo1 (λi=>acc.getD i 0) o) λv=>cloL r (acc++[v])
theorem clo1_bit (look:Nat->Nat)(l:List Edge)(s i:Nat)(h:(l.foldl (λs e=>if Region.binds .any e then s ||| (2 ^ e.on ||| look e.on)else s) s).testBit i=true) :
  s.testBit i=true\/∃e∈l,Region.binds .any e=true/\(e.on=i\/(look e.on).testBit i=true):=by
 induction l generalizing s with
 |nil=>exact aM h
 |cons e r ih =>
  rw[foldl_cons]at h;rcases ih _ h with h|⟨p,m,h⟩
  ·by_cases j:Region.binds .any e=true
   ·rw[if_pos j,cO,cO,Nat.testBit_two_pow]at h;simp only[aJ,decide_eq_true_eq]at h;rcases h with h|h|h
    ·exact aM h
    ·exact aT ⟨e,Δ,j,aM h⟩
    ·exact aT ⟨e,Δ,j,aT h⟩
   ·rw[if_neg j]at h;exact aM h
  ·exact aT ⟨p,by simp[m],h⟩
def Down (ops:Array Oper)(X:Nat->Bool):Prop:=∀j o,ops[j]? = some o->X j=true->∀e∈o.after,Region.binds .any e=true->X e.on=true
theorem zzj {X:Nat->Bool}(F:Down ops X):∀(l:List Oper) (acc:List Nat),(∀m o,l[m]? = some o->ops[acc.length+m]? = some o) ->
  (∀j i,(acc.getD j 0).testBit i=true->X j=true->X i=true)->∀j i,((cloL l acc).getD j 0).testBit i=true->X j=true->X i=true
 |[],acc,_,h=>h
 |o::r,acc,D,h=>by
  unfold cloL;rw[Yd];refine zzj F r _ (λm o' z=>?_) (λj i q E=>?_)
  ·have:=D (m+1) o' (by simpa using z);rw[bB,length_singleton];rw[show acc.length+1+m=acc.length+(m+1) by omega];exact this
  ·rcases Nat.lt_trichotomy j acc.length with A|heq|G
   ·rw[aE,aV A,<-aE]at q;exact h j i q E
   ·subst heq;rw[aE,aR (aF _)]at q;simp only[Nat.sub_self,getElem?_cons_zero,Option.getD_some]at q;have z:=D 0 o Δ;rw[cH]at z;rcases clo1_bit (λi=>acc.getD i 0) o.after.toList 0 i q with q|⟨e,H,C,p⟩
    ·simp at q
    ·have u:=F _ o z E e (by simpa using H) C;rcases p with p|p
     ·rw[<-p];exact u
     ·exact h _ _ p u
   ·rw[aE,getElem?_eq_none Ψ]at q;simp at q
def Yw (wr:List (Nat×Ent)):List Nat:=wr.map (·.1)
variable {wr:List (Nat×Ent)}
theorem zoq (h:lkE wr i≠none):i∈Yw wr:=by
 induction wr with
 |nil=>simp[lkE]at h
 |cons x r ih =>
  obtain⟨u,e⟩:=x;simp only[lkE]at h;cases j:aP u i with
  |true=>have:=aC j;subst this;simp[Yw]
  |false=>rw[j]at h;have:=ih h;simp[Yw]at this ⊢;exact aT this
def memB (n:Nat):List Nat->Bool
 |[]=>false
 |x::r=>match aP x n with|true=>true|false=>memB n r
theorem Dn (n:Nat)(l:List Nat):memB n l=true ↔ n∈l:=by
 induction l with
 |nil=>simp[memB]
 |cons x r ih =>
  simp only[memB,mem_cons];cases h:aP x n with
  |true=>have:=aC h;simp[this]
  |false=>have:=Nat.ne_of_beq_eq_false h;simp[ih];omega
def memO (d:Option Nat)(l:List Nat):Bool:=match d with|some d=>memB d l|none=>false
def meet (l m:List Nat):Bool:=l.any λx=>memB x m
theorem zol (l m:List Nat):meet l m=true ↔ ∃x,x∈l/\x∈m:=by simp[meet,Dn]
def yas (a b:Option Nat):Bool:=match a,b with|some a,some b=>aP a b|_,_=>false
def F7 (ops:Array Oper)(tr:Nat->Tr)(i j:Nat):Bool:=memO (C0 ops i) (F6 ops j) || memO (C0 ops j) (F6 ops i) || yas (C0 ops i) (C0 ops j) || meet (Yw (tr i).wr) (tr j).ids || meet (Yw (tr j).wr) (tr i).ids
def Uq (ops:Array Oper)(trs:List Tr):Bool :=
 let cl:=cloL ops.toList []
 (bC ops.size).all λj=>(bC j).all λi=>!F7 ops (λk=>trs.getD k default) i j || (cl.getD j 0).testBit i
def U8 (ops:Array Oper):Bool:=(bC ops.size).all λj=>match ops[j]? with|some o=>o.after.all λe=>!Region.binds .any e || cQ e.on j|none=>true
theorem Run.length (h:Run cx ops i σ trs σ')(hi:i<=ops.size):trs.length=ops.size-i:=by
 induction h with
 |done h j=>simp;omega
 |step h hs j m ih=>have:=ih Ω;simp;omega
theorem Step.ext {tr:Tr}(h:Step cx ops i σ tr)(m:Ext τ σ):Step cx ops i τ tr :=
 ⟨h.1,λρ h1 q=>h.2 ρ (λt p=>(h1 t p).trans (m.1 t)) (λid j=>(q id j).trans (m.2 id))⟩
theorem Run.steps {σ0:AS}{tr:Nat->Tr}(h:Run cx ops i σ trs σ')(hi:i<=ops.size)(q:∀j,j<trs.length->tr (i+j)=trs.getD j default)
  (m:Ext σ (C6 (C0 ops) tr (λ_=>true) σ0 i)):(∀j,i<=j->j<ops.size->Step cx ops j (C6 (C0 ops) tr (λ_=>true) σ0 j) (tr j))/\Ext σ' (C6 (C0 ops) tr (λ_=>true) σ0 ops.size):=by
 induction h with
 |@done i σ σ' h z=>exact⟨λj h1 E=>by omega,by rw[show ops.size=i by omega];exact z.trans m⟩
 |@step i σ r σ' u trs h hs z H G =>
  have F:tr i=u:=by have:=q 0 Δ;simpa using this
  have p:Ext r (C6 (C0 ops) tr (λ_=>true) σ0 (i+1)):=by
   refine z.trans ?_;unfold C6;rw[if_pos rfl,F];exact m.upd _ _ _
  obtain⟨h1,E⟩:=G Ω (λj I=>by have:=q (j+1) Ψ;rw[show i+1+j=i+(j+1) by omega,this];simp) p;refine⟨λj D C=>?_,E⟩;rcases bL D with rfl|A
  ·rw[F];exact hs.ext ⟨λt=>(m.1 t).symm,λi=>(m.2 i).symm⟩
  ·exact h1 j A C
theorem y4z {σ0:AS}{tr:Nat->Tr}
  (H:∀j,j<ops.size->Step cx ops j (C6 (C0 ops) tr (λ_=>true) σ0 j) (tr j))
  (aj:∀i j,i<j->j<ops.size->F7 ops tr i j=true->((cloL ops.toList []).getD j 0).testBit i=true)
  (ao:∀j o,ops[j]? = some o->∀e∈o.after,Region.binds .any e=true->e.on<j)
  (hQ:∀a w,St cx (C6 (C0 ops) tr (λ_=>true) σ0 ops.size) a w->Q .normal a w) :
  ∀(fuel:Nat) (L:Array Bool),L.size=ops.size->(L.toList.filter (! ·)).length=fuel->Down ops (λi=>L.getD i false)->∀a w,St cx (C6 (C0 ops) tr (λi=>L.getD i false) σ0 ops.size) a w ->
   wpAnyIn cx.F 0 cx.P .any ops Q fuel L a w:=by
 intro fuel;have aa:∀(L:Array Bool),L.size=ops.size->Down ops (λi=>L.getD i false)->Region.ready .any ops L=[]->∀j,j<ops.size->L.getD j false=true:=by
  intro L Z p q j
  induction j using Nat.strongRecOn with
  |_ j ih =>
   intro A;cases al:L.getD j false with
   |true=>rfl
   |false =>
    have hm:j∈Region.ready .any ops L:=mem_ready.2 ⟨by
     have:j<L.size:=Ω
     simp only[aK,this,dif_pos]at al ⊢;exact al,ops[j],aL A,λe he hb=>by
      have J:=ao j ops[j] (aL A) e he hb;exact ih e.on J Ω⟩
    rw[q]at hm;cases hm
 have V:∀(L:Array Bool),L.size=ops.size->Down ops (λi=>L.getD i false)->Region.ready .any ops L=[]->∀a w,St cx (C6 (C0 ops) tr (λi=>L.getD i false) σ0 ops.size) a w->Q .normal a w:=by
  intro L Z p q a w F;have W:=aa L Z p q;exact hQ a w (F.congr (λt=>zk5 _ _ _ _ _ (λj A _=>(W j A).symm)) (λi=>zgt _ _ _ _ _ (λj A _=>(W j A).symm)))
 induction fuel with
 |zero =>
  intro L Z z p a w F;have q:Region.ready .any ops L=[]:=by
   cases hr:Region.ready .any ops L with
   |nil=>rfl
   |cons i r =>
    have hm:i∈Region.ready .any ops L:=by rw[hr];simp
    obtain⟨h0,o,ho,_⟩:=mem_ready.1 hm;have hi:i<L.size:=by rw[Z];exact(aD.1 ho).1
    have ap:L[i]=false:=by simpa[aK,hi]using h0
    have:L[i]∈L.toList.filter (! ·):=mem_filter.2 ⟨Δ,by rw[ap];rfl⟩;rw[bN.1 z]at this;cases this
  exact⟨q,V L Z p q a w F⟩
 |succ fuel ih =>
  intro L Z z p a w F;refine⟨λq=>V L Z p q a w F,λi hi=>?_⟩;obtain⟨h0,o,ho,ac⟩:=mem_ready.1 hi;have ab:i<ops.size:=(aD.1 ho).1;have M:i<L.size:=Ω
  have an:L.getD i false=false:=by simp only[aK,M,dif_pos]at h0 ⊢;exact h0
  generalize hX:(λi=>L.getD i false)=X at *;have ad:X i=false:=by rw[<-hX];exact an
  have ak:∀j,L.getD j false=X j:=λj=>by rw[<-hX]
  let X':Nat->Bool:=λj=>(L.setIfInBounds i true).getD j false
  have C:X' i=true:=by show(L.setIfInBounds i true).getD i false=true;simp[M]
  have u:∀j,j≠i->X' j=X j:=λj A=>by
   show(L.setIfInBounds i true).getD j false=X j;rw[getD_set_ne false (Ne.symm A)];exact ak j
  have E:Down ops X':=λj oj I A e he hb=>by
   by_cases ah:j=i
   ·subst ah;rw[ho]at I;injection I with I
    subst I;have h1:=ac e he hb;by_cases N:e.on=j
    ·rw[N];exact C
    ·rw[u _ N,<-ak];exact h1
   ·rw[u j ah]at A;have h1:=p j oj I A e he hb;by_cases N:e.on=i
    ·rw[N];exact C
    ·rw[u _ N];exact h1
  have bit:∀Y:Nat->Bool,Down ops Y->∀j k,((cloL ops.toList []).getD j 0).testBit k=true->Y j=true->Y k=true:=λY hY =>
   zzj hY ops.toList [] (λm o h=>by simpa using h) (λj k h=>by simp at h)
  -- those later than i that F7 with it have not run;those earlier that F7 have
  have later:∀j,i<j->j<ops.size->F7 ops tr i j=true->X j=false:=λj h1 U hc=>by
   cases A:X j with
   |false=>rfl
   |true=>have:=bit X p j i (aj i j h1 U hc) A;rw[ad]at this;cases this
  have earlier:∀j,j<i->F7 ops tr j i=true->X j=true:=λj h1 hc=>by
   have:=bit X' E i j (aj j i h1 ab hc) C
   rwa [u j Ω]at this
  have agree1:∀t∈F6 ops i,(C6 (C0 ops) tr X σ0 ops.size).get t=(C6 (C0 ops) tr (λ_=>true) σ0 i).get t:=λt ht=>by
   rw[zgr X σ0 i ops.size t Ω (λj h1 U G=>by
    rcases bL h1 with rfl|J
    ·exact ad
    ·exact later j J U (by simp only[F7,aJ];refine aM (aM (aM (aT ?_)));rw[G];exact(Dn _ _).2 ht))]
   exact zk5 _ _ _ _ _ (λj A G=>earlier j A (by simp only[F7,aJ];refine aM (aM (aM (aM ?_)));rw[G];exact(Dn _ _).2 ht))
  have agree2:∀id∈(tr i).ids,(C6 (C0 ops) tr X σ0 ops.size).find id=(C6 (C0 ops) tr (λ_=>true) σ0 i).find id:=λid ai=>by
   rw[zew X σ0 i ops.size id Ω (λj h1 U G=>by
    rcases bL h1 with rfl|J
    ·exact ad
    ·exact later j J U (by simp only[F7,aJ];exact aT ((zol _ _).2 ⟨id,zoq G,ai⟩)))]
   exact zgt _ _ _ _ _ (λj A G=>earlier j A (by simp only[F7,aJ];exact aM (aT ((zol _ _).2 ⟨id,zoq G,ai⟩))))
  refine(H i ab).2 _ agree1 agree2 a w Q _ F (λa' w' ae=>?_);have O:=(H i ab).1;refine ih (L.setIfInBounds i true) (by simp[Z]) ?_ E a' w' (ae.congr (λt=>?_) (λid=>?_))
  ·have R:L.toList=L.toList.take i++false::L.toList.drop (i+1):=by
    have am:L.toList[i]'(by simpa using M)=false:=by simpa[aK,M]using an
    rw[<-am,getElem_cons_drop,take_append_drop]
   have af:(L.setIfInBounds i true).toList=L.toList.take i++true::L.toList.drop (i+1):=by
    rw[Array.toList_setIfInBounds,set_eq_take_append_cons_drop,if_pos (by simpa using M)]
   rw[af];rw[R]at z;simp only[filter_append,bB,filter_cons,Bool.not_false,if_true,bQ,Bool.not_true,Bool.false_eq_true,if_false]at z ⊢;omega
  ·rw[AS.get_upd];by_cases G:C0 ops i=some t
   ·rw[if_pos G,zgr X' σ0 (i+1) ops.size t Ω (λj h1 U D=>by
     rw[u j Ω];exact later j Ω U (by simp only[F7,aJ];refine aM (aM (aT ?_));rw[G,D];simp[yas])),zfv,if_pos ⟨C,G⟩]
   ·rw[if_neg G];exact zk5 _ _ _ _ _ (λj A D=>u j (λe=>G (e▸D)))
  ·rw[AS.find_upd];cases hw:lkE (tr i).wr id with
   |some e =>
    rw[zew X' σ0 (i+1) ops.size id Ω (λj h1 U D=>by
     rw[u j Ω];exact later j Ω U (by simp only[F7,aJ];exact aT ((zol _ _).2 ⟨id,zoq D,O id e hw⟩))),zdo,if_pos C,hw]
    rfl
   |none =>
    rw[cP];exact zgt _ _ _ _ _ (λj A D=>u j (λe=>D (e▸hw)))
open Go.RowKit
def Le (cx:Cx)(σ τ:AS):Prop:=∀a w,St cx σ a w->St cx τ a w
theorem Le.refl (cx:Cx)(σ:AS):Le cx σ σ:=λ_ _ h=>h
theorem Le.trans {a b c:AS}(h:Le cx a b)(k:Le cx b c):Le cx a c:=λ_ _ s=>k _ _ (h _ _ s)
def lift (cx:Cx)(Q:Exit->AS->Prop):Exit->Act->World->Prop:=λe a w=>∃σ,Q e σ/\St cx σ a w
def WP (cx:Cx)(c:Code)(Q:Exit->AS->Prop)(σ:AS):Prop:=∀a w,St cx σ a w->c.wpIn cx.F 0 cx.P (lift cx Q) a w
def Cv (next:AS->Prop)(Q:Exit->AS->Prop):Exit->AS->Prop |.normal,σ=>next σ |e,σ=>Q e σ
def Ol (id:Nat)(Q:Exit->AS->Prop):Exit->AS->Prop
 |.exit h,σ=>if h=id then Q .normal σ else Q (.exit h) σ
 |e,σ=>Q e σ
theorem Xs (p:Nat->Prop)(h:∃n,p n):∃n,p n/\∀m,p m->n<=m:=by
 obtain⟨n,r⟩:=h
 induction n using Nat.strongRecOn with
 |_ n q =>
  by_cases hm:∃m,m<n/\p m
  ·obtain⟨m,h1,j⟩:=hm;exact q m h1 j
  ·exact⟨n,r,λm j=>Nat.le_of_not_lt λh1=>hm ⟨m,h1,j⟩⟩
section
variable {cx:Cx} {Q:Exit->AS->Prop} {σ τ:AS}
variable {c:Code}
theorem WP.weaken (h:Le cx σ τ)(k:WP cx c Q τ):WP cx c Q σ:=λa w hs=>k a w (h a w hs)
theorem WP.mono {Q':Exit->AS->Prop}(h:WP cx c Q σ)(k:∀e σ,Q e σ->Q' e σ):WP cx c Q' σ:=λa w hs=>wpIn_mono (h a w hs) (λe a w ⟨σ,h1,j⟩=>⟨σ,k e σ h1,j⟩)
theorem WP.skip (h:Q .normal σ):WP cx .skip Q σ:=λa w hs=>wpIn_skip ⟨σ,h,hs⟩
theorem WP.ret (h:Q .ret σ):WP cx .ret Q σ:=λa w hs=>wpIn_ret ⟨σ,h,hs⟩
theorem WP.exit (h:Q (.exit id) σ):WP cx (.exit id) Q σ:=λa w hs=>wpIn_exit ⟨σ,h,hs⟩
theorem WP.seq {x y:Code}(h:WP cx x (Cv (WP cx y Q) Q) σ):WP cx (.seq x y) Q σ:=λa w hs=>by
 refine wpIn_seq (wpIn_mono (h a w hs) (λe a w ⟨τ,h1,j⟩=>?_));cases e with
 |normal=>exact h1 a w j
 |_=>exact⟨τ,h1,j⟩
theorem WP.block (h:WP cx c (Ol id Q) σ):WP cx (.block id c) Q σ:=λa w hs=>by
 refine wpIn_block (wpIn_mono (h a w hs) (λe a w ⟨τ,h1,p⟩=>?_));cases e with
 |exit m =>
  simp only[Ol]at h1;simp only[Exit.inBlock];by_cases j:m=id
  ·rw[if_pos j]at h1 ⊢;exact⟨τ,h1,p⟩
  ·rw[if_neg j]at h1 ⊢;exact⟨τ,h1,p⟩
 |_=>exact⟨τ,h1,p⟩
theorem WP.loop (I:Nat->AS->Prop)(n:Nat)(G:I n σ)(round:∀n σ,I n σ->WP cx c (Cv (λσ'=>∃m,m<n/\I m σ') Q) σ):WP cx (.loop c) Q σ:=λa w hs=>by
 classical
 let R:Act->World->Nat->Prop:=λa w n=>∃σ,I n σ/\St cx σ a w
 let u:Act->World->Nat:=λa w=>if h:∃n,R a w n then Classical.choose (Xs _ h)else 0
 refine wpIn_loop (λa w=>∃n,R a w n) u ⟨n,σ,G,hs⟩ (λa w A=>?_);have E:u a w=Classical.choose (Xs _ A):=dif_pos A;obtain⟨τ,q,z⟩:=(Classical.choose_spec (Xs _ A)).1;refine wpIn_mono (round _ τ q a w z) (λe D w' ⟨j,h1,C⟩=>?_);cases e with
 |normal =>
  obtain⟨m,hm,r⟩:=h1;have p:∃n,R D w' n:=⟨m,j,r,C⟩;refine⟨p,?_⟩;have F:u D w'<=m:=by
   show(if h:∃n,R D w' n then Classical.choose (Xs _ h)else 0)<=m;rw[dif_pos p];exact(Classical.choose_spec (Xs _ p)).2 m ⟨j,r,C⟩
  omega
 |_=>exact⟨j,h1,C⟩
end
def AV.ofV:Value->AV
 |.int k n=>.int k n
 |.bool b=>.bool b
 |.string s=>.str s
 |.pointer none=>.nilp
 |.slice none 0 0=>.nils
 |.nilFunc=>.nilf
 |.map none=>.mapv []
 |.tuple cs=>if cs.size=0 then .tup []else .any
 |_=>.any
def D7:Value->AV |.agg cs=>.agg (cs.toList.map AV.ofV) |v=>AV.ofV v
def AS.eval (σ:AS):Operand->AV |.tmp t=>σ.get t |.const v=>D7 v |.func f=>.fn f [] |.global _=>.any
theorem Oq (w:World)(S:Nat->Prop)(γ:Gam)(v:Value):Rep w S γ (AV.ofV v) v:=by
 unfold AV.ofV;split
 ·exact .int _ _
 ·exact .bool _
 ·exact .str _
 ·exact .nilp
 ·exact .nils
 ·exact .nilf
 ·exact .mapn
 ·rename_i cs;by_cases h:cs.size=0
  ·rw[if_pos h];have:cs=#[]:=Array.eq_empty_of_size_eq_zero h;subst this;exact .tup #[] rfl (λi hi=>by simp at hi)
  ·rw[if_neg h];exact .any _
 ·exact .any _
def P6:Value->Bool
 |.agg cs=>cs.all (·.oneCell')
 |_=>true
theorem Yb (w:World)(S:Nat->Prop)(γ:Gam)(v:Value)(h:P6 v=true):Rep w S γ (D7 v) v:=by
 unfold D7;split
 ·rename_i cs;refine .agg cs Δ (λi hi=>?_) (λi hi=>?_)
  ·have j:i<cs.size:=by simpa using hi
   simp only[bD,bJ];have:cs.getD i undef=cs[i]:=by simp[aK,j]
   rw[this];exact Oq w S γ _
  ·have:cs.getD i undef=cs[i]:=by simp[aK,hi]
   rw[this];simp only[P6,bP]at h;exact h i hi
 ·exact Oq w S γ _
def A6:Operand->Bool |.const v=>P6 v |_=>true
section
variable {cx:Cx} {γ:Gam} {σ τ:AS} {a:Act} {w:World}
theorem StG.ev (h:StG cx γ σ a w)(x:Operand)(j:A6 x=true):Rep w (Sg cx.S0 cx.w0.heap.size γ) γ (σ.eval x) (a.eval x):=by
 cases x with
 |tmp t=>exact h.tm t
 |const v=>exact Yb _ _ _ _ j
 |global g=>exact .any _
 |func f=>exact .fn #[] rfl (λi hi=>by simp at hi)
theorem y6d (a:Act)(d:Option Nat)(v:Value)(t:Nat)(m:∀x,d=some x->x<a.tmps.size):(a.put d v).tmps.getD t undef=if d=some t then v else a.tmps.getD t undef:=by
 cases d with
 |none=>simp[Act.put]
 |some d =>
  have j:=m d rfl;simp only[Act.put,aG];by_cases h:d=t
  ·subst h;simp[j]
  ·rw[if_neg h];simp[aO h]
theorem y5e (a:Act)(d:Option Nat)(v:Value):(a.put d v).tmps.size=a.tmps.size:=by cases d<;>simp[Act.put]
theorem zmr (a:Act)(d:Option Nat)(v:Value):(a.put d v).defers=a.defers:=by cases d<;>rfl
variable {dst:Option Nat}
theorem Book.put {cx:Cx}{γ:Gam}{a:Act}{w:World}(h:Book cx γ a w)(q:∀x,dst=some x->cx.E.np<=x/\x<cx.nt):Book cx γ (a.put dst v) w:=by
 refine⟨λp=>by rw[zmr];exact h.d0 p,by rw[zmr];exact h.marks,λt m=>?_,h.yl,h.sz⟩;rw[<-h.pin t m];cases dst with
 |none=>rfl
 |some d =>
  have j:d≠t:=λe=>by have:=(q d rfl).1;omega
  simp only[Act.put,aA];rw[aO j]
theorem _root_.Go.World.ownsRow.moved {w:World}{e size:Nat}{xs:List Value}(h:w.ownsRow B e size v n xs)(q:∀g,B8 v=some g->w'.heap[g]? = w.heap[g]?):w'.ownsRow B e size v n xs:=by
 refine⟨h.1,h.2.elim aM λ⟨g,m,j,p,z,u,r⟩=>aT ⟨g,m,j,p,z,?_,r⟩⟩;rw[q g (by rw[p];rfl)];exact u
theorem NRep.moved {w:World}{e:NE}(h:NRep w S B v e)(r:w.heap.size<=w'.heap.size)(z:∀b,S b->b<w.heap.size->w'.heap[b]? = w.heap[b]? /\ S' b)(A:∀g,B8 v=some g->w'.heap[g]? = w.heap[g]?):NRep w' S' B v e:=by
 cases e with
 |row ty sz xs =>
  obtain⟨h1,vs,m,G,C,E⟩:=h;exact⟨h1,vs,m.moved A,G,λk q j F=>(C k q j F).mono r z,E⟩
 |mp ps =>
  obtain⟨g,p,u,hm,D⟩:=h;exact⟨g,p,u,hm.move r z (A g (by rw[u];rfl)),D⟩
 |hole=>exact h
variable {d:Option (Option Nat×Value)}
theorem Bm.move {e:Ent}(h:Bm w S γ B d e)(A:w.heap.size<=w'.heap.size)
  (C:∀b,S b->b<w.heap.size->w'.heap[b]? = w.heap[b]? /\ S' b) (R:∀id d,γ id=some d->γ' id=some d\/γ' id=some none\/Turn γ' id d) (m:∀b,b∈blks d->w'.heap[b]? = w.heap[b]?):Bm w' S' γ' B d e:=by
 cases e with
 |box ty cells =>
  obtain⟨g,vs,q,hb,hs,X,h1⟩:=h;exact⟨g,vs,q,(m g (by rw[q];exact C3)).trans hb,hs,λi hi=>((X i hi).mono A C).gam R,h1⟩
 |row ty sz xs =>
  obtain⟨s,vs,q,h1,z,hc,X,ho⟩:=h;refine⟨s,vs,q,h1,⟨z.1,z.2.elim aM (λ⟨g,ad,ac,hv,D,Z,r⟩=>aT ⟨g,ad,ac,hv,D,?_,r⟩)⟩,hc,λk u j hj=>(X k u j hj).mono A C,ho⟩;subst hv;exact(m g (by rw[q];exact C3)).trans Z
 |mp ps =>
  obtain⟨g,q,hm⟩:=h;exact⟨g,q,hm.move A C (m g (by rw[q];exact C3))⟩
 |nest ty es =>
  obtain⟨s,vs,q,h1,E,⟨us,z,W,V⟩,I,F⟩:=h;have H:∀g,B8 s=some g->w'.heap[g]? = w.heap[g]? := λg D=>m g (by rw[q];simp[blks,Cq,D])
  have G:∀k,k<es.length->∀g,B8 (vs.getD k undef)=some g->w'.heap[g]? = w.heap[g]? := λk u g D=>m g (by
   rw[q];simp only[blks,bM,cF,Cq,bH];refine⟨vs.getD k undef,?_,D⟩;have:k<vs.size:=Ω
   simp[aK,this])
  refine⟨s,vs,q,h1,E,⟨us,z.moved λg D=>H g D,W,V⟩,λk u=>?_,F⟩;exact(I k u).moved A C (G k u)
 |mpn ps =>
  obtain⟨g,es,vs,q,Z,hl,E,ab,Y,U,I,F⟩:=h;have aa:w'.heap[g]? = w.heap[g]? := m g (by rw[q];simp[blks,Cq,B8]);have G:∀k,k<ps.length->∀g,B8 (vs.getD k undef)=some g->w'.heap[g]? = w.heap[g]? := λk u g D=>m g (by
   rw[q];simp only[blks,bM,cF,Cq,bH];refine⟨vs.getD k undef,?_,D⟩;have:k<vs.size:=Ω
   simp[aK,this])
  exact⟨g,es,vs,q,aa.trans Z,hl,E,ab,λj h N=>(Y j h N).mono A C,U,λj N=>(I j N).moved A C (G j N),F⟩
 |are ty idx os =>
  obtain⟨s,vs,us,q,h1,E,z,W,J,I,F⟩:=h;have H:∀g,B8 s=some g->w'.heap[g]? = w.heap[g]? := λg D=>m g (by rw[q];simp[blks,Cq,D])
  have G:∀k,k<os.length->∀g,B8 (vs.getD k undef)=some g->w'.heap[g]? = w.heap[g]? := λk u g D=>m g (by
   rw[q];simp only[blks,bM,cF,Cq,bH];refine⟨vs.getD k undef,?_,D⟩;have:k<vs.size:=Ω
   simp[aK,this])
  exact⟨s,vs,us,q,h1,E,z.moved λg D=>H g D,W,λk u=>⟨λh=>((J k u).1 h).mono A C,(J k u).2⟩,λj h=>⟨(I j h).1,(I j h).2.moved A C (G j h)⟩,F⟩
 |it ps =>
  obtain⟨g,q,hi⟩:=h;exact⟨g,q,hi.move C A (m g (by rw[q];exact C3)) (λes s c d h=>RepM.move h A C)⟩
 |itp ps =>
  obtain⟨g,q,hi⟩:=h;exact⟨g,q,hi.move C A (m g (by rw[q];exact C3)) (λes s c d ⟨h0,O,e,h1,h2,M⟩=>⟨h0,O,e,h1,h2,RepM.move M A C⟩)⟩
 |itc p ps =>
  obtain⟨g,q,hi⟩:=h;exact⟨g,q,hi.move C A (m g (by rw[q];exact C3)) (λes s c d ⟨h0,O,e,h1,h2,M,h4⟩=>⟨h0,O,e,h1,h2,⟨M.1.mono A C,M.2.mono A C⟩,RepM.move h4 A C⟩)⟩
 |dead=>exact h
theorem Bm.free {w:World}{γ:Gam}{e:Ent}(h:Bm w S γ B d e)(j:∀ty cs,e≠.box ty cs):Bm w S γ' B d e:=by
 cases e with
 |box ty cs=>exact absurd rfl (j ty cs)
 |_=>exact h
theorem Bm.gmono {w:World}{γ:Gam}{e:Ent}(h:Bm w S γ B d e)(j:∀ty cs,e≠.box ty cs)(m:∀b,S b->S' b):Bm w S' γ' B d e :=
 (h.move (γ':=γ) (aF _) (λb j _=>⟨rfl,m b j⟩) (λid d h=>aM h) (λ_ _=>rfl)).free j
variable {av:AV}
theorem StG.step (h:StG cx γ σ a w)(C:∀x,dst=some x->cx.E.np<=x/\x<cx.nt)(r:w.heap.size<=w'.heap.size)
  (I:∀b,Sg cx.S0 cx.w0.heap.size γ b->b<w.heap.size->w'.heap[b]? = w.heap[b]? /\ Sg cx.S0 cx.w0.heap.size γ' b)
  (q:∀id d,γ id=some d->γ' id=some d\/γ' id=some none\/Turn γ' id d)
  (j:∀id,lkE wr id=none->γ' id=γ id/\∀b d,γ id=some d->b∈blks d->w'.heap[b]? = w.heap[b]?)
  (u:∀id e,lkE wr id=some e->∃x,γ' id=some x/\Bm w' (Sg cx.S0 cx.w0.heap.size γ') γ' cx.w0.heap.size x e)
  (A:∀id p b d N,γ' id=some d->γ' p=some N->b∈blks d->b∈blks N->id=p)
  (F:∀b,own γ' b->Nw cx.S0 cx.w0.heap.size b/\b<w'.heap.size) (m:Below cx.w0.heap.size cx.w0 w')
  (U:Rep w' (Sg cx.S0 cx.w0.heap.size γ') γ' av v) (z:∀b,¬own γ b->b<w.heap.size->w'.heap[b]? = w.heap[b]? /\ ¬own γ' b) (G:cx.E.dr=true->w.drawn<=w'.drawn):StG cx γ' (σ.upd dst av wr) (a.put dst v) w':=by
 refine⟨λt=>?_,λid=>?_,A,F,m,by rw[y5e];exact h.size,(h.defers.step r z).put C,λb m=>aB (h.gh b m) r,λb m=>?_,λC=>bE (h.dr C) (G C)⟩;rotate_right
 ·obtain⟨Y,M,X⟩:=h.fr b m;obtain⟨R,O⟩:=z b Y M;exact⟨O,aB M r,R.trans X⟩
 ·rw[AS.get_upd,y6d a dst v t (λx D=>by rw[h.size];exact(C x D).2)];by_cases E:dst=some t
  ·rw[if_pos E,if_pos E];exact U
  ·rw[if_neg E,if_neg E];exact((h.tm t).mono r I).gam q
 ·rw[AS.find_upd];cases H:lkE wr id with
  |some e=>exact u id e H
  |none =>
   rw[cP];obtain⟨h1,W⟩:=j id H;rw[h1];have:=h.me id;cases J:σ.find id with
   |none=>rw[J]at this;exact this
   |some e =>
    rw[J]at this;obtain⟨x,D,V⟩:=this;exact⟨x,D,V.move r I q (λb m=>W b x D m)⟩
theorem StG.put (h:StG cx γ σ a w)(j:∀x,dst=some x->cx.E.np<=x/\x<cx.nt)(p:Rep w (Sg cx.S0 cx.w0.heap.size γ) γ av v):StG cx γ (σ.upd dst av []) (a.put dst v) w :=
 h.step j (aF _) (λb m _=>⟨rfl,m⟩) (λid d j=>aM j) (λid _=>⟨rfl,λ_ _ _ _=>rfl⟩) (λid e q=>by simp[lkE]at q) h.inj h.ge h.below p (λb m _=>⟨rfl,m⟩) (λ_=>aF _)
theorem StG.grow (h:StG cx γ σ a w)(p:∀x,dst=some x->cx.E.np<=x/\x<cx.nt)(m:Below w.heap.size w w')(u:cx.E.dr=true->w.drawn<=w'.drawn)(z:Rep w' (Sg cx.S0 cx.w0.heap.size γ) γ av v):StG cx γ (σ.upd dst av []) (a.put dst v) w':=by
 refine h.step p m.size (λb C j=>⟨m.block b j,C⟩) (λid d p=>aM p) (λid _=>⟨rfl,λb d p hm=>m.block b (h.ge b ⟨id,d,p,hm⟩).2⟩) (λid e A=>by simp[lkE]at A) h.inj
  (λb q=>⟨(h.ge b q).1,aB (h.ge b q).2 m.size⟩) (h.below.trans (m.mono h.below.size)) z (λb r j=>⟨m.block b j,r⟩) u
def Gam.set (γ:Gam)(id:Nat)(x:Option (Option Nat×Value)):Gam:=λi=>if i=id then some x else γ i
theorem Gam.set_self (γ:Gam)(id:Nat)(x:Option (Option Nat×Value)):γ.set id x id=some x:=by simp[Gam.set]
theorem Gam.set_ne (γ:Gam)(id:Nat)(x:Option (Option Nat×Value))(h:i≠id):γ.set id x i=γ i:=by simp[Gam.set,h]
theorem StG.name (h:StG cx γ σ a w){e:Ent}(hd:∀x,dst=some x->cx.E.np<=x/\x<cx.nt)(Y:σ.find id=none)(F:Below w.heap.size w w')(hg:w.heap.size<=g)(E:g<w'.heap.size)
  (Z:Bm w' (Sg cx.S0 cx.w0.heap.size (γ.set id (some (some g,s)))) (γ.set id (some (some g,s))) cx.w0.heap.size (some (some g,s)) e)
  (X:Rep w' (Sg cx.S0 cx.w0.heap.size (γ.set id (some (some g,s)))) (γ.set id (some (some g,s))) av v) (O:cx.E.dr=true->w.drawn<=w'.drawn:=by exactλ_=>Nat.le_refl _) (C:Cq s=[]:=by rfl):StG cx (γ.set id (some (some g,s))) (σ.upd dst av [(id,e)]) (a.put dst v) w':=by
 have A:γ id=none:=by have:=h.me id;rw[Y]at this;exact this
 have H:∀i x,γ i=some x->i≠id:=λi x G e=>by subst e;rw[A]at G;cases G
 have p:∀b,own (γ.set id (some (some g,s))) b->b=g\/own γ b:=λb ⟨i,d,hi,hm⟩=>by
  by_cases m:i=id
  ·subst m;rw[Gam.set_self]at hi;injection hi with hi;subst hi;exact aM (Ow C hm)
  ·rw[Gam.set_ne _ _ _ m]at hi;exact aT ⟨i,d,hi,hm⟩
 refine h.step hd F.size (λb U D=>⟨F.block b D,?_⟩) (λi x G=>aM ?_) (λi hi=>?_) (λi e' hi=>?_) (λi j b W V h1 r M J=>?_) (λb R=>?_) (h.below.trans (F.mono h.below.size)) X (λb N D=>⟨F.block b D,λu=>?_⟩) O;rotate_right
 ·rcases p b u with rfl|u
  ·omega
  ·exact N u
 ·rcases U with U|⟨h1,r⟩
  ·exact aM U
  ·refine aT ⟨h1,λu=>?_⟩;rcases p b u with rfl|u
   ·omega
   ·exact r u
 ·rw[Gam.set_ne _ _ _ (H i x G)];exact G
 ·have m:i≠id:=λe=>by subst e;simp[lkE]at hi
  refine⟨Gam.set_ne _ _ _ m,λb d E hm=>F.block b (h.ge b ⟨i,d,E,hm⟩).2⟩
 ·have m:i=id:=by
   simp only[lkE]at hi;cases I:aP id i with
   |true=>exact(aC I).symm
   |false=>rw[I]at hi;cases hi
  subst m;simp only[lkE,cR,aG]at hi;subst hi;exact⟨_,Gam.set_self _ _ _,Z⟩
 ·by_cases z:i=id
  ·by_cases q:j=id
   ·rw[z,q]
   ·subst z;rw[Gam.set_self]at h1;rw[Gam.set_ne _ _ _ q]at r;injection h1 with h1
    subst h1;have:=(h.ge b ⟨j,V,r,J⟩).2;have:=Ow C M;omega
  ·by_cases q:j=id
   ·subst q;rw[Gam.set_self]at r;rw[Gam.set_ne _ _ _ z]at h1;injection r with r
    subst r;have:=(h.ge b ⟨i,W,h1,M⟩).2;have:=Ow C J;omega
   ·rw[Gam.set_ne _ _ _ z]at h1;rw[Gam.set_ne _ _ _ q]at r;exact h.inj i j b W V h1 r M J
 ·rcases p b R with rfl|u
  ·have:=h.below.size;exact⟨⟨Ω,λh0=>by have:=h.gh _ h0;omega⟩,E⟩
  ·have:=h.ge b u;exact⟨this.1,aB this.2 F.size⟩
end
variable {o:Oper}
theorem C9 {a:Act}{K:Act->World->Prop}(j:∀c,o.op≠.defer c)(h:o.wp cx.P a w K Q):o.wpIn cx.F 0 cx.P a w K Q:=by
 unfold Oper.wp at h;refine⟨λ_ _=>trivial,?_⟩;rw[Oper.semAt_eq _ _ _ j];generalize (execOp a.eval o).run cx.P w=r at *;cases r with
 |ok x w' =>
  cases x with
  |enter f args =>
   simp only[Oper.upon,Oper.uponIn]at h ⊢;exact⟨λh=>by simp[Fence.wide]at h,((callsIn_wide (n:=0-1)).2 h:_)⟩
  |row r args =>
   simp only[Oper.upon,Oper.uponIn]at h ⊢;exact⟨λh=>by simp[Fence.wide]at h,λc cs _=>let ⟨v,w',r,s⟩:=h c cs;⟨v,w',r,stepsIn_wide.2 s⟩⟩
  |_=>first|exact h|exact h.elim
 |halt x w'=>cases x<;>first|exact h|exact h.elim
theorem zfh {ρ:Operand->Value}{P:Program}(h:(execOp ρ o).run P w=.ok (.value v) w'):∀c,o.op≠.defer c:=by
 intro c p;unfold execOp at h;rw[p]at h;simp only[Sem.run_bind]at h;cases j:(resolve ρ c o.type).run P w with
 |ok d m=>rw[j]at h;simp[Result.andThen]at h
 |halt x m=>rw[j]at h;simp[Result.andThen]at h
def Ao (cx:Cx)(o:Oper)(σ:AS)(av:AV)(ids:List Nat)(wr:List (Nat×Ent)):Prop:=(∀id e,lkE wr id=some e->id∈ids) /\ ∀τ:AS,(∀x∈o.op.operands,τ.eval x=σ.eval x)->(∀id∈ids,τ.find id=σ.find id)->∀a w Q K,St cx τ a w->(∀h w',St cx (τ.upd o.dst av wr) h w'->K h w')->o.wpIn cx.F 0 cx.P a w K Q
def dok (cx:Cx)(o:Oper):Bool:=match o.dst with|some d=>Nat.ble cx.E.np d && cQ d cx.nt|none=>true
theorem C5 (h:dok cx o=true):∀x,o.dst=some x->cx.E.np<=x/\x<cx.nt:=λx j=>by
 unfold dok at h;rw[j]at h;simpa using h
variable {av:AV}
theorem Ao.step {ids:List Nat}(m:ops[i]? = some o)(u:o.guard=none)(h:Ao cx o σ av ids wr):Step cx ops i σ ⟨av,ids,wr⟩:=by
 refine⟨h.1,λτ h1 A a w Q K j p=>?_⟩;have z:C0 ops i=o.dst:=by simp[C0,m]
 have r:F6 ops i=o.looksAt ops:=by simp[F6,m]
 unfold Go.wpOpIn;simp only[m];rw[if_pos (by simp[Region.wanted,u])];refine h.2 τ (λx q=>?_) A a w Q K j (by rw[z]at p;exact p);cases x with
 |tmp t =>
  refine h1 t ?_;rw[r];exact mem_append_left _ (bH.2 ⟨.tmp t,by simpa using q,rfl⟩)
 |_=>rfl
variable {want:Bool}
theorem Ao.step_guard {t:Nat}{c:Bool}{ids:List Nat}(z:ops[i]? = some o)(D:o.guard=some (g,want))(A:C0 ops g=some t)(H:σ.get t=.bool c)(J:c=want)
  (h:Ao cx o σ av ids wr):Step cx ops i σ ⟨av,ids,wr⟩:=by
 refine⟨h.1,λτ h1 M a w Q K m E=>?_⟩;have I:C0 ops i=o.dst:=by simp[C0,z]
 have C:F6 ops i=o.looksAt ops:=by simp[F6,z]
 have p:t∈F6 ops i:=by
  rw[C];refine cK _ ?_;simp only[D];have:(ops[g]?).bind (·.dst)=some t:=A;simp[this]
 have j:a.tmps.getD t undef=.bool c:=by
  obtain⟨γ,hs⟩:=m;have:=hs.tm t;rw[h1 t p,H]at this;exact this.bool_inv
 unfold Go.wpOpIn;simp only[z];have G:Region.wanted o (yielded ops a.tmps)=true:=by
  have q:(ops[g]?).bind (·.dst)=some t:=A;simp only[Region.wanted,D,yielded];rw[q];rw[aA]at j;cases r:a.tmps[t]? with
  |none=>rw[r]at j;simp[undef]at j
  |some u=>rw[r]at j;simp at j;subst j;simp[r,J]
 rw[if_pos G];refine h.2 τ (λx F=>?_) M a w Q K m (by rw[I]at E;exact E);cases x with
 |tmp t =>
  refine h1 t ?_;rw[C];exact mem_append_left _ (bH.2 ⟨.tmp t,by simpa using F,rfl⟩)
 |_=>rfl
theorem zh7 {t:Nat}(A:ops[i]? = some o)(z:dok cx o=true)(E:o.guard=some (g,want))(H:C0 ops g=some t)(G:(∃c,σ.get t=.bool c/\c≠want)\/σ.get t=.tup []):Step cx ops i σ ⟨.tup [],[],[]⟩:=by
 refine⟨λid e J=>by simp[lkE]at J,λτ h1 O a w Q K r N=>?_⟩;have M:C0 ops i=o.dst:=by simp[C0,A]
 have I:F6 ops i=o.looksAt ops:=by simp[F6,A]
 have p:(ops[g]?).bind (·.dst)=some t:=H;have q:t∈F6 ops i:=by
  rw[I];refine cK _ ?_;simp only[E];simp[p]
 obtain⟨γ,hs⟩:=r;have h:=hs.tm t;rw[h1 t q]at h;unfold Go.wpOpIn;simp only[A];have F:¬Region.wanted o (yielded ops a.tmps)=true:=by
  simp only[Region.wanted,E,yielded];rw[p];rcases G with⟨c,D,C⟩|D
  ·rw[D]at h;have:=h.bool_inv;rw[aA]at this;cases m:a.tmps[t]? with
   |none=>simp[m]
   |some u=>rw[m]at this;simp at this;subst this;simp[m,C]
  ·rw[D]at h;obtain⟨vs,j,_,_⟩:=h.tup_inv;rw[aA]at j;cases m:a.tmps[t]? with
   |none=>simp[m]
   |some u=>rw[m]at j;simp at j;subst j;simp[m]
 rw[if_neg F];refine⟨λ_ _=>trivial,N _ _ ⟨γ,?_⟩⟩;rw[M];exact hs.put (C5 z) (.tup #[] rfl (λi hi=>by simp at hi))
def Exec (cx:Cx)(ops:Array Oper)(i:Nat)(σ:AS)(trs:List Tr)(Post:List Tr->AS->Prop):Prop:=∃h σ',Run cx ops i σ h σ'/\Post (trs.reverse++h) σ'
section
variable {cx:Cx} {ops:Array Oper} {i:Nat} {σ:AS} {trs:List Tr} {Post:List Tr->AS->Prop}
theorem Exec.done (h:ops.size<=i)(j:Post trs.reverse σ):Exec cx ops i σ trs Post:=⟨[],σ,.done h (Ext.refl _),by simpa using j⟩
theorem Exec.cons {tr:Tr}(h:i<ops.size)(hs:Step cx ops i σ tr)(k:Exec cx ops (i+1) (σ.upd (C0 ops i) tr.val tr.wr) (tr::trs) Post):Exec cx ops i σ trs Post:=by
 obtain⟨j,σ',m,p⟩:=k;exact⟨tr::j,σ',.step h hs (Ext.refl _) m,by simpa using p⟩
theorem Exec.ext (h:Ext σ' σ)(k:Exec cx ops i σ' trs Post):Exec cx ops i σ trs Post:=by
 obtain⟨u,τ,p,z⟩:=k;have hs:Ext σ σ':=⟨λt=>(h.1 t).symm,λi=>(h.2 i).symm⟩;cases p with
 |done r j=>exact⟨[],τ,.done r (j.trans h),z⟩
 |step q m j p=>exact⟨_,τ,.step q (m.ext hs) (j.trans (h.upd _ _ _)) p,z⟩
theorem Exec.op {ids:List Nat}(j:ops[i]? = some o)(m:o.guard=none)(h:Ao cx o σ av ids wr)(k:Exec cx ops (i+1) (σ.upd o.dst av wr) (⟨av,ids,wr⟩::trs) Post):Exec cx ops i σ trs Post :=
 Exec.cons (aD.1 j).1 (Ao.step j m h) (by
  have p:C0 ops i=o.dst:=by simp[C0,j]
  rw[p];exact k)
theorem Exec.guard {t:Nat}{c:Bool}(h:ops[i]? = some o)(r:o.guard=some (g,want))(q:C0 ops g=some t)(p:σ.get t=.bool c)(m:dok cx o=true)
  (h1:c=want->∃av ids wr,Ao cx o σ av ids wr/\Exec cx ops (i+1) (σ.upd o.dst av wr) (⟨av,ids,wr⟩::trs) Post)
  (A:c≠want->Exec cx ops (i+1) (σ.upd o.dst (.tup []) []) (⟨.tup [],[],[]⟩::trs) Post):Exec cx ops i σ trs Post:=by
 have u:C0 ops i=o.dst:=by simp[C0,h]
 by_cases j:c=want
 ·obtain⟨av,ids,wr,z,k⟩:=h1 j;exact Exec.cons (aD.1 h).1 (Ao.step_guard h r q p j z) (by rw[u];exact k)
 ·exact Exec.cons (aD.1 h).1 (zh7 h m r q (aM ⟨c,p,j⟩)) (by rw[u];exact A j)
end
section
variable {cx:Cx} {Q:Exit->AS->Prop} {σ:AS} {id:Nat} {ops:Array Oper}
theorem WP.region (h:Exec cx ops 0 σ [] (λ_ σ'=>Q .normal σ')):WP cx (.region id ops false) Q σ:=λa w hs=>by
 obtain⟨trs,σ',j,m⟩:=h;refine wpIn_region ?_;have:=j.wpOps (Q:=lift cx Q) (λa w hs=>⟨σ',m,hs⟩) (bI _) a w hs;rw[range_eq_range'];simpa using this
theorem WP.region_draw (E:U8 ops=true)(h:Exec cx ops 0 σ [] (λtrs σ'=>Uq ops trs=true/\Q .normal σ')):WP cx (.region id ops true) Q σ:=λa w hs=>by
 obtain⟨trs,σ',H,z,C⟩:=h;simp only[reverse_nil,cF]at z C;refine wpIn_region_any cx.E.mixed ?_;obtain⟨h1,F⟩:=H.steps (σ0:=σ) (tr:=λk=>trs.getD k default) (bI _) (λj _=>by simp) (Ext.refl _);refine y4z (λj m=>h1 j (bI _) m) (λi j q m u=>?_) (λj o D e r I=>?_) (λa w hs=>⟨σ',C,hs.congr F.1 F.2⟩) ops.size _ Δ Δ (λj o _ m=>by
  simp only[aA,bA]at m;split at m<;>simp at m) a _ ?_
 ·simp only[Uq,cB,mem_range,aJ,cI]at z;rcases z j m i q with h|h
  ·rw[u]at h;cases h
  ·exact h
 ·simp only[U8,cB,mem_range]at E;have:=E j (aD.1 D).1;rw[D]at this;simp only[Array.all_eq_true_iff_forall_mem,aJ,cI]at this;rcases this e r with h|h
  ·rw[I]at h;cases h
  ·simpa using h
 ·have p:St cx σ a { w with drawn:=w.drawn+1 }:=by
   obtain⟨γ,hs⟩:=hs;have A:Below w.heap.size w { w with drawn:=w.drawn+1 }:=⟨rfl,rfl,rfl,aF _,λ_ _=>rfl⟩;have:=hs.grow (dst:=none) (av:=.any) (v:=undef) (λx G=>by cases G) A (λ_=>Nat.le_succ _) (.any _);exact⟨γ,this⟩
  refine p.congr (λt=>?_) (λi=>?_)
  ·have:∀k,(C6 (C0 ops) (λk=>trs.getD k default) (λi=>(cM ops.size false).getD i false) σ k).get t=σ.get t:=λk =>
    zgr _ _ 0 k t (bI _) (λj _ _ _=>by simp only[aA,bA];split<;>simp)
   exact this _
  ·have:∀k,(C6 (C0 ops) (λk=>trs.getD k default) (λi=>(cM ops.size false).getD i false) σ k).find i=σ.find i:=λk =>
    zew _ _ 0 k i (bI _) (λj _ _ _=>by simp only[aA,bA];split<;>simp)
   exact this _
theorem WP.cond {c:Operand}{x y:Code}{b:Bool}(j:A6 c=true)(u:σ.eval c=.bool b)(q:b=true->WP cx x Q σ)(r:b=false->WP cx y Q σ):WP cx (.cond c x y) Q σ:=λa w hs=>by
 obtain⟨γ,h⟩:=hs;have p:=h.ev c j;rw[u]at p;exact wpIn_cond_split p.bool_inv (λm=>q m a w ⟨γ,h⟩) (λm=>r m a w ⟨γ,h⟩)
end
open Go.RowKit
section
variable {cx:Cx} {o:Oper} {σ:AS}
theorem Bc {ids:List Nat}(r:dok cx o=true)
  (h:∀τ γ a w,(∀x∈o.op.operands,τ.eval x=σ.eval x)->(∀id∈ids,τ.find id=σ.find id)->StG cx γ τ a w->∃v,(execOp a.eval o).run cx.P w=.ok (.value v) w/\Rep w (Sg cx.S0 cx.w0.heap.size γ) γ av v):Ao cx o σ av ids []:=by
 refine⟨λid e q=>by simp[lkE]at q,λτ h1 z a w Q K ⟨γ,j⟩ u=>?_⟩;obtain⟨v,m,p⟩:=h τ γ a w h1 z j;refine C9 (zfh m) ?_;unfold Oper.wp;rw[m];exact u _ _ ⟨γ,j.put (C5 r) p⟩
theorem y1k {ids:List Nat}(u:dok cx o=true)
  (h:∀τ γ a w,(∀x∈o.op.operands,τ.eval x=σ.eval x)->(∀id∈ids,τ.find id=σ.find id)->StG cx γ τ a w->∃v w',(execOp a.eval o).run cx.P w=.ok (.value v) w'/\Below w.heap.size w w'/\(cx.E.dr=true->w.drawn<=w'.drawn)/\Rep w' (Sg cx.S0 cx.w0.heap.size γ) γ av v):Ao cx o σ av ids []:=by
 refine⟨λid e r=>by simp[lkE]at r,λτ h1 C a w Q K ⟨γ,j⟩ A=>?_⟩;obtain⟨v,w',p,z,m,q⟩:=h τ γ a w h1 C j;refine C9 (zfh p) ?_;unfold Oper.wp;rw[p];exact A _ _ ⟨γ,j.grow (C5 u) z m q⟩
variable {x:Operand}
theorem yav (m:o.op=.move x)(q:dok cx o=true)(h:A6 x=true)(p:σ.eval x=av):Ao cx o σ av [] [] :=
 Bc q λτ γ a w h1 _ j=>⟨a.eval x,by simp[execOp,m],by
  have:=j.ev x h
  rwa [h1 x (by simp[m,Op.operands]),p]at this⟩
theorem y5c (m:o.op=.assign x)(q:dok cx o=true)(h:A6 x=true)(p:σ.eval x=av):Ao cx o σ av [] [] :=
 Bc q λτ γ a w h1 _ j=>⟨a.eval x,by simp[execOp,m],by
  have:=j.ev x h
  rwa [h1 x (by simp[m,Op.operands]),p]at this⟩
def AV.toV:AV->Value |.int k n=>.int k n |.bool b=>.bool b |_=>undef
def binI:BinOp->IntKind->Int->Int->Option AV |.add,k,a,b=>some (.int k (k.wrap (a+b))) |.sub,k,a,b=>some (.int k (k.wrap (a-b))) |.mul,k,a,b=>some (.int k (k.wrap (a*b))) |.eql,_,a,b=>some (.bool (decide (a=b))) |.neq,_,a,b=>some (.bool (!decide (a=b))) |.lss,_,a,b=>some (.bool (decide (a<b))) |.leq,_,a,b=>some (.bool (decide (a<=b))) |.gtr,_,a,b=>some (.bool (decide (b<a))) |.geq,_,a,b=>some (.bool (decide (b<=a))) |_,_,_,_=>none
variable {y:Operand}{t t2:TypeId}{k:IntKind}
theorem yb0 {op:BinOp}{a b:Int}(j:o.op=.binOp op t x y t2)(E:dok cx o=true)(q:A6 x=true)(p:A6 y=true)(D:σ.eval x=.int k a)(C:σ.eval y=.int k b)(m:binI op k a b=some av) :
  Ao cx o σ av [] [] :=
 Bc E λτ γ ac w h1 _ h=>by
  have A:=h.ev x q;rw[h1 x (by simp[j,Op.operands]),D]at A;have z:=h.ev y p;rw[h1 y (by simp[j,Op.operands]),C]at z;have u:=A.int_inv;have r:=z.int_inv;refine⟨av.toV,?_,?_⟩
  ·cases op<;>simp only[binI,aG,reduceCtorEq]at m<;>subst m <;>
    first
     |(simp[execOp,j,u,r,eqGuard,binOp,Op.intArith,Op.intCmp,pure,AV.toV];done)
     |(simp[execOp,j,u,r,eqGuard,binOp,Op.intArith,Op.intCmp,pure,AV.toV];rfl)
     |(simp[execOp,j,u,r,eqGuard,binOp,Op.intArith,Op.intCmp,pure,AV.toV];rw[Bool.eq_iff_iff];simp)
  ·cases op<;>simp only[binI,aG,reduceCtorEq]at m<;>subst m<;>first|exact .int _ _|exact .bool _
theorem ycs {a b c:Int}(p:o.op=.binOp .rem t x y t2)(A:dok cx o=true)(m:A6 x=true)(j:A6 y=true)(z:σ.eval x=.int k a)(u:σ.eval y=.int k b)(D:b≠0)(C:a.tmod b=c):Ao cx o σ (.int k c) [] [] :=
 Bc A λτ γ ac w h1 _ h=>by
  have r:=h.ev x m;rw[h1 x (by simp[p,Op.operands]),z]at r;have q:=h.ev y j;rw[h1 y (by simp[p,Op.operands]),u]at q;exact⟨.int k c,by simp[execOp,p,r.int_inv,q.int_inv,eqGuard,binOp,Op.intDiv,pure,D,C],.int _ _⟩
theorem yct {a b c:Int}(p:o.op=.binOp .quo t x y t2)(A:dok cx o=true)(m:A6 x=true)(j:A6 y=true)(z:σ.eval x=.int k a)(u:σ.eval y=.int k b)(D:b≠0)(C:k.wrap (a.tdiv b)=c):Ao cx o σ (.int k c) [] [] :=
 Bc A λτ γ ac w h1 _ h=>by
  have r:=h.ev x m;rw[h1 x (by simp[p,Op.operands]),z]at r;have q:=h.ev y j;rw[h1 y (by simp[p,Op.operands]),u]at q;exact⟨.int k c,by simp[execOp,p,r.int_inv,q.int_inv,eqGuard,binOp,Op.intDiv,pure,D,C],.int _ _⟩
theorem ycu {b:Bool}(m:o.op=.unOp .not t x)(r:dok cx o=true)(h:A6 x=true)(q:σ.eval x=.bool b):Ao cx o σ (.bool (!b)) [] [] :=
 Bc r λτ γ ac w h1 _ j=>by
  have p:=j.ev x h;rw[h1 x (by simp[m,Op.operands]),q]at p;exact⟨.bool (!b),by simp[execOp,m,p.bool_inv,Op.unary,pure],.bool _⟩
theorem ycv {a c:Int}(m:o.op=.unOp .neg t x)(r:dok cx o=true)(h:A6 x=true)(q:σ.eval x=.int k a)(u:k.wrap (0-a)=c):Ao cx o σ (.int k c) [] [] :=
 Bc r λτ γ ac w h1 _ j=>by
  have p:=j.ev x h;rw[h1 x (by simp[m,Op.operands]),q]at p;exact⟨.int k c,by simp[execOp,m,p.int_inv,Op.unary,Op.intArith,pure,<-u],.int _ _⟩
theorem zj3 {c:Operand}{b:Bool}(m:o.op=.pick c x y)(z:dok cx o=true)(p:A6 c=true)(j:A6 x=true)(A:σ.eval c=.bool b)(C:b=true)(u:σ.eval x=av):Ao cx o σ av [] [] :=
 Bc z λτ γ ac w h1 _ h=>by
  have r:=h.ev c p;rw[h1 c (by simp[m,Op.operands]),A]at r;have q:=h.ev x j;rw[h1 x (by simp[m,Op.operands]),u]at q;exact⟨ac.eval x,by simp[execOp,m,r.bool_inv,asBool,C,pure],q⟩
theorem zha {c:Operand}{b:Bool}(m:o.op=.pick c x y)(z:dok cx o=true)(p:A6 c=true)(j:A6 y=true)(A:σ.eval c=.bool b)(C:b=false)(u:σ.eval y=av):Ao cx o σ av [] [] :=
 Bc z λτ γ ac w h1 _ h=>by
  have r:=h.ev c p;rw[h1 c (by simp[m,Op.operands]),A]at r;have q:=h.ev y j;rw[h1 y (by simp[m,Op.operands]),u]at q;exact⟨ac.eval y,by simp[execOp,m,r.bool_inv,asBool,C,pure],q⟩
theorem ycz {a b:Bool}(p:o.op=.binOp .eql t x y t2)(D:dok cx o=true)(m:A6 x=true)(j:A6 y=true)(z:σ.eval x=.bool a)(u:σ.eval y=.bool b)(A:cx.P.underlying t=some .bool):Ao cx o σ (.bool (a == b)) [] [] :=
 Bc D λτ γ ac w h1 _ h=>by
  have r:=h.ev x m;rw[h1 x (by simp[p,Op.operands]),z]at r;have q:=h.ev y j;rw[h1 y (by simp[p,Op.operands]),u]at q;have C:∀n:Nat,(Op.equalIn (n+1) t (.bool a) (.bool b)).run cx.P w=.ok (a == b) w:=λn=>by simp[Op.equalIn,run_underlying A,pure]
  exact⟨.bool (a == b),by simp[execOp,p,r.bool_inv,q.bool_inv,eqGuard,binOp,Op.equal,Op.maxDepth,C 9999,pure],.bool _⟩
theorem ycw {a b:Bool}(p:o.op=.binOp .neq t x y t2)(D:dok cx o=true)(m:A6 x=true)(j:A6 y=true)(z:σ.eval x=.bool a)(u:σ.eval y=.bool b)(A:cx.P.underlying t=some .bool):Ao cx o σ (.bool (!(a == b))) [] [] :=
 Bc D λτ γ ac w h1 _ h=>by
  have r:=h.ev x m;rw[h1 x (by simp[p,Op.operands]),z]at r;have q:=h.ev y j;rw[h1 y (by simp[p,Op.operands]),u]at q;have C:∀n:Nat,(Op.equalIn (n+1) t (.bool a) (.bool b)).run cx.P w=.ok (a == b) w:=λn=>by simp[Op.equalIn,run_underlying A,pure]
  exact⟨.bool (!(a == b)),by simp[execOp,p,r.bool_inv,q.bool_inv,eqGuard,binOp,Op.equal,Op.maxDepth,C 9999,pure],.bool _⟩
variable {T:TypeId}
theorem TyOk.size {P:Program}{i:TyI}(h:TyOk P T i)(w:World):(sizeOf T).run P w=.ok i.sz w:=by
 have:=h.info;cases j:P.info? T with
 |none=>rw[j]at this;simp at this
 |some x=>rw[j]at this;simp at this;simp[sizeOf,typeInfo,j,this.1]
theorem TyOk.cells {P:Program}{i:TyI}(h:TyOk P T i):P.cellsOf T=i.sz:=by
 have:=h.info;cases j:P.info? T with
 |none=>rw[j]at this;simp at this
 |some x=>rw[j]at this;simp at this;simp[Program.cellsOf,j,this.1]
theorem TyOk.zeroV {P:Program}{i:TyI}(h:TyOk P T i)(w:World):(zeroValue T).run P w=.ok i.zero w:=by
 have:=h.zero;cases j:P.info? T with
 |none=>rw[j]at this;simp at this
 |some x=>rw[j]at this;simp at this;simp[zeroValue,typeInfo,j,this]
theorem TyOk.und {P:Program}{i:TyI}(h:TyOk P T i):∃d,P.underlying T=some d/\Du P d=i.shape:=by
 have:=h.shape;cases j:P.underlying T with
 |none=>rw[j]at this;simp at this
 |some d=>rw[j]at this;simp at this;exact⟨d,rfl,this⟩
def Ec.agg:Ec->Bool |.strct _=>true |.arr _ _ _ _=>true |_=>false
theorem TyOk.agg {P:Program}{i:TyI}(h:TyOk P T i)(w:World):(isAgg T).run P w=.ok i.shape.agg w:=by
 obtain⟨d,j,hs⟩:=h.und;rw[<-hs];cases d<;>simp[isAgg,run_underlying j,Du,Ec.agg,pure]
theorem zdm {P:Program}{b:Bool}(h:aggT P T=some b)(w:World):(isAgg T).run P w=.ok b w:=by
 unfold aggT at h;split at h
 ·rename_i fs j;injection h with h;subst h;simp[isAgg,run_underlying j,pure]
 ·rename_i n e j;injection h with h;subst h;simp[isAgg,run_underlying j,pure]
 ·rename_i d h1 m j;injection h with h
  subst h;cases d<;>first|exact(h1 _ rfl).elim|exact(m _ _ rfl).elim|simp[isAgg,run_underlying j,pure]
 ·cases h
end
open Go.RowKit
theorem zdl (P:Program)(w:World)(e:TypeId)(cs:Array Value):(newRow e cs).run P w=.ok ⟨w.heap.size,0,none⟩ (w.alloc (.cells cs e)):=by
 rfl
section
variable {cx:Cx} {o:Oper} {σ:AS}
def AV.ids:AV->List Nat |.ptr id _=>[id] |.row id=>[id] |.elt id _ _ _=>[id] |.der _ id=>[id] |_=>[]
def okc (σ:AS):AV->Bool
 |.any=>false
 |.tup _=>false
 |.ptr id _=>match σ.find id with|some (.box _ _)=>true|_=>false
 |.row id=>match σ.find id with|some (.row _ _ _)=>true|some (.mp _)=>true|_=>false
 |.elt _ _ _ _=>false
 |.der _ _=>false
 |_=>true
theorem zg7 {cx:Cx}{σ:AS}{a:Act}(h:StG cx γ τ a w)(C:Rep w (Sg cx.S0 cx.w0.heap.size γ) γ av v)(r:okc σ av=true)(z:∀id∈av.ids,τ.find id=σ.find id) :
  v.cells.size=av.cells.length/\(∀i (hi:i<av.cells.length),Rep w (Sg cx.S0 cx.w0.heap.size γ) γ av.cells[i] (v.cells.getD i undef))/\∀i,i<v.cells.size->(v.cells.getD i undef).oneCell'=true:=by
 have single:av.cells=[av]->v.oneCell'=true->v.cells.size=av.cells.length/\(∀i (hi:i<av.cells.length),Rep w (Sg cx.S0 cx.w0.heap.size γ) γ av.cells[i] (v.cells.getD i undef))/\∀i,i<v.cells.size->(v.cells.getD i undef).oneCell'=true:=by
  intro G h1;have u:v.cells=#[v]:=by cases v<;>first|rfl|simp[Value.oneCell']at h1
  refine⟨by rw[u,G];rfl,λi hi=>?_,λi hi=>?_⟩
  ·have A:i=0:=by rw[G]at hi;simpa using hi
   subst A;simp only[G,u];exact C
  ·have A:i=0:=by rw[u]at hi;simpa using hi
   subst A;simp only[u];exact h1
 cases av with
 |any=>simp[okc]at r
 |tup cs=>simp[okc]at r
 |elt id sz k j=>simp[okc]at r
 |der J id=>simp[okc]at r
 |agg cs =>
  obtain⟨vs,rfl,I,H,h1⟩:=C.agg_inv;exact⟨I,H,h1⟩
 |ptr id off =>
  have F:=z id (by simp[AV.ids]);have m:=h.me id;simp only[okc]at r;split at r
  ·rename_i ty cs q;rw[F,q]at m;obtain⟨x,D,g,vs,p,_⟩:=m;subst p;have:=C.ptr_inv D;exact single rfl (by rw[this];rfl)
  ·cases r
 |row id =>
  have F:=z id (by simp[AV.ids]);have m:=h.me id;simp only[okc]at r;split at r
  ·rename_i ty sz xs q;rw[F,q]at m;obtain⟨x,D,s,vs,p,E,_⟩:=m;subst p;have:=C.row_inv D;exact single rfl (by rw[this];exact E)
  ·rename_i ps q;rw[F,q]at m;obtain⟨x,D,g,p,_⟩:=m;subst p;have:=C.row_inv D;exact single rfl (by rw[this];rfl)
  ·cases r
 |_=>exact single rfl (C.one rfl)
variable {T:Nat}
theorem y8n {d:Nat}{i:TyI}(A:o.op=.alloc T)(C:o.dst=some d)(G:dok cx o=true)(H:lkT cx.E.tab T=some i)(F:σ.find d=none)(z:i.zero.cells.all (·.oneCell')=true) :
  Ao cx o σ (.ptr d 0) [d] [(d,.box T (i.zero.cells.toList.map AV.ofV))]:=by
 refine⟨λid e u=>?_,λτ h1 J a w Q K ⟨γ,p⟩ I=>C9 (λc D=>by rw[A]at D;cases D) ?_⟩
 ·simp only[lkE]at u;cases E:aP d id with
  |true=>simp[aC E]
  |false=>rw[E]at u;cases u
 have q:=cx.E.ok T i H;have h:(execOp a.eval o).run cx.P w=.ok (.value (.pointer (some ⟨w.heap.size,0,none⟩))) (w.alloc (.cells i.zero.cells T)):=by
  simp[execOp,A,Instr.alloc,q.zeroV,newVar,zdl,pure]
 unfold Oper.wp;rw[h];refine I _ _ ⟨_,p.name (id:=d) (g:=w.heap.size) (s:=.slice none 0 0) (e:=.box T (i.zero.cells.toList.map AV.ofV)) (C5 G) (by rw[J d Δ];exact F) ((Below.refl _ _).alloc (aF _) _) (aF _) Δ ?_ ?_⟩
 ·refine⟨w.heap.size,i.zero.cells,rfl,Blk.new w _ _,Δ,λj m=>?_,λj m=>?_⟩
  ·have r:j<i.zero.cells.size:=by simpa using m
   have:i.zero.cells.getD j undef=i.zero.cells[j]:=by simp[aK,r]
   simp only[bD,bJ,this];exact Oq _ _ _ _
  ·have:i.zero.cells.getD j undef=i.zero.cells[j]:=by simp[aK,m]
   rw[this];simp only[bP]at z;exact z j m
 ·exact .ptr (Gam.set_self _ _ _) (λg s e=>by injection e with e;injection e with e _;injection e with e;rw[e])
variable {x:Operand}
theorem yd0 {d:Nat}(F:o.op=.box T x)(M:o.dst=some d)(R:dok cx o=true)(E:A6 x=true)(r:σ.eval x=av)(D:okc σ av=true)(J:σ.find d=none) :
  Ao cx o σ (.ptr d 0) (d::av.ids) [(d,.box T av.cells)]:=by
 refine⟨λid e H=>?_,λτ h1 C a w Q K ⟨γ,h⟩ U=>C9 (λc D=>by rw[F]at D;cases D) ?_⟩
 ·simp only[lkE]at H;cases A:aP d id with
  |true=>simp[aC A]
  |false=>rw[A]at H;cases H
 have z:=h.ev x E;rw[h1 x (by simp[F,Op.operands]),r]at z;obtain⟨X,W,V⟩:=zg7 h z D (λid m=>C id (by simp[m]));have u:(execOp a.eval o).run cx.P w=.ok (.value (.pointer (some ⟨w.heap.size,0,none⟩))) (w.alloc (.cells (a.eval x).cells T)):=by
  simp[execOp,F,Instr.box,newVar,zdl,pure]
 unfold Oper.wp;rw[u];have q:γ d=none:=by have:=h.me d;rw[C d Δ,J]at this;exact this
 have p:Below w.heap.size w (w.alloc (.cells (a.eval x).cells T)):=(Below.refl _ _).alloc (aF _) _;refine U _ _ ⟨_,h.name (id:=d) (g:=w.heap.size) (s:=.slice none 0 0) (e:=.box T av.cells) (C5 R) (by rw[C d Δ];exact J) p (aF _) Δ ?_ ?_⟩
 ·refine⟨w.heap.size,(a.eval x).cells,rfl,Blk.new w _ _,X,λj O=>?_,V⟩;refine((W j O).mono p.size (λb I G=>⟨p.block b G,?_⟩)).gam (λid x r=>aM ?_)
  ·rcases I with I|⟨h1,C⟩
   ·exact aM I
   ·refine aT ⟨h1,λ⟨i,N,hi,A⟩=>?_⟩;by_cases m:i=d
    ·subst m;rw[Gam.set_self]at hi;injection hi with hi;subst hi;have:=Ow rfl A;omega
    ·rw[Gam.set_ne _ _ _ m]at hi;exact C ⟨i,N,hi,A⟩
  ·rw[Gam.set_ne]
   ·exact r
   ·rintro rfl;rw[q]at r;cases r
 ·exact .ptr (Gam.set_self _ _ _) (λg s e=>by injection e with e;injection e with e _;injection e with e;rw[e])
variable {fs:List (Nat×Nat×Option Bool)}
theorem zfa {P:Program}{T:TypeId}{i:TyI}(h:TyOk P T i)(hs:i.shape=.strct fs):∃Fs,P.underlying T=some (.struct Fs)/\fs=Fs.toList.map λf=>(f.offset,P.cellsOf f.type,aggT P f.type):=by
 obtain⟨d,m,j⟩:=h.und;rw[hs]at j;cases d<;>simp only[Du,Ec.strct.injEq,reduceCtorEq]at j;exact⟨_,m,j.symm⟩
variable {f fo fsz:Nat}{ag:Option Bool}
theorem zem {P:Program}{T:TypeId}{i:TyI}(h:TyOk P T i)(hs:i.shape=.strct fs)(C:fs[f]? = some (fo,fsz,ag))(z:fsz≠0)(b off:Nat)(w:World) :
  (Instr.fieldAt T (.pointer (some ⟨b,off,none⟩)) f).run P w=.ok (.pointer (some ⟨b,off+fo,none⟩)) w:=by
 obtain⟨Fs,D,rfl⟩:=zfa h hs;simp only[bX,bF,Prod.mk.injEq]at C;obtain⟨fd,u,h1,m,_⟩:=C;have p:Fs[f]? = some fd:=by simpa using u
 have q:∃info,P.info? fd.type=some info/\info.size=fsz:=by
  unfold Program.cellsOf at m;cases A:P.info? fd.type with
  |none=>rw[A]at m;simp at m;exact absurd m.symm z
  |some info=>rw[A]at m;simp at m;exact⟨info,rfl,m⟩
 obtain⟨info,hi,r⟩:=q;have j:(sizeOf fd.type).run P w=.ok fsz w:=by simp[sizeOf,typeInfo,hi,r]
 simp[Instr.fieldAt,run_underlying D,p,Instr.sureAddr,fieldPlace,j,z,pure,Addr.add_lit,h1]
variable {off:Nat}{ty:TypeId}{cs:List AV}
theorem zvr {i:TyI}(u:o.op=.fieldAddr T x f)(E:dok cx o=true)(q:A6 x=true)(A:σ.eval x=.ptr id off)(F:lkT cx.E.tab T=some i)(hs:i.shape=.strct fs)(D:fs[f]? = some (fo,fsz,ag))
  (z:fsz≠0) (C:σ.find id=some (.box ty cs)):Ao cx o σ (.ptr id (off+fo)) [id] [] :=
 Bc E λτ γ a w h1 G h=>by
  have m:=h.ev x q;rw[h1 x (by simp[u,Op.operands]),A]at m;have j:=h.me id;rw[G id Δ,C]at j;obtain⟨d,p,g,vs,r,_⟩:=j;subst r;have e:=m.ptr_inv p;refine⟨.pointer (some ⟨g,off+fo,none⟩),?_,.ptr p (λH s e=>by injection e with e;injection e with e _;injection e with e;rw[e])⟩;simp[execOp,u,e,zem (cx.E.ok T i F) hs D z,pure]
theorem zja {k j:Nat}{i:TyI}{xs:List AV}(C:o.op=.fieldAddr T x f)(H:dok cx o=true)(u:A6 x=true)(E:σ.eval x=.elt id sz k j)(I:lkT cx.E.tab T=some i)(hs:i.shape=.strct fs)(G:fs[f]? = some (fo,fsz,ag))
  (D:fsz≠0) (F:σ.find id=some (.row ty sz xs)) (O:k<xs.length):Ao cx o σ (.elt id sz k (j+fo)) [id] [] :=
 Bc H λτ γ a w h1 J m=>by
  have r:=m.ev x u;rw[h1 x (by simp[C,Op.operands]),E]at r;have q:=m.me id;rw[J id Δ,F]at q;obtain⟨d,h,s,vs,A,_,p,_⟩:=q;subst A;have z:∃g,s.ownBlock=some g:=by
   rcases p.2 with⟨rfl,R⟩|⟨g,N,M,rfl,_⟩
   ·omega
   ·exact⟨g,rfl⟩
  obtain⟨g,z⟩:=z;rw[z]at h;have e:=r.elt_inv h;refine⟨.pointer (some ⟨g,k*sz+(j+fo),none⟩),?_,.elt h (λU s e=>by injection e with e;injection e with e _;injection e with e;rw[e])⟩;simp[execOp,C,e,zem (cx.E.ok T i I) hs G D,pure,bS]
theorem zh9 {b k:Nat}{cell:Nat->Value}(r:S b)(q:b<w.heap.size)(p:∀j,j<cs.length->w.cell? ⟨b,off+j,none⟩=some (cell j))(m:∀j (h:j<cs.length),Rep w S G0 cs[j] (cell j))
  (h1:∀j,j<cs.length->(cell j).oneCell'=true):Rep w S γ (.ref (cs.drop k)) (.pointer (some ⟨b,off+k,none⟩)):=by
 refine .ref b (off+k) (λj=>cell (k+j)) r q (λj h=>?_) (λj h=>?_) (λj h=>?_)
 ·rw[bK]at h;have:=p (k+j) Ω
  rwa [<-bS]at this
 ·rw[bK]at h;rw[aX];exact m (k+j) Ω
 ·rw[bK]at h;exact h1 (k+j) Ω
theorem zj9 {i:TyI}(q:o.op=.fieldAddr T x f)(C:dok cx o=true)(j:A6 x=true)(u:σ.eval x=.ref cs)(F:lkT cx.E.tab T=some i)(hs:i.shape=.strct fs)(A:fs[f]? = some (fo,fsz,ag))
  (r:fsz≠0):Ao cx o σ (.ref (cs.drop fo)) [] [] :=
 Bc C λτ γ a w h1 H m=>by
  have h:=m.ev x j;rw[h1 x (by simp[q,Op.operands]),u]at h;obtain⟨b,off,e,G,E,cell,D,z,p⟩:=h.ref_inv;refine⟨.pointer (some ⟨b,off+fo,none⟩),?_,zh9 G E D z p⟩;simp[execOp,q,e,zem (cx.E.ok T i F) hs A r,pure]
theorem Xh {P:Program}{T:TypeId}{i:TyI}(h:TyOk P T i)(q:i.shape.agg=true)(w:World)(ad:Addr)(cs:List Value)(m:cs.length=i.sz)(p:∀j v,cs[j]? = some v->w.cell? (ad.add j)=some v):(loadVar T ad).run P w=.ok (.agg cs.toArray) w:=by
 have:=run_loadCells_list (P:=P) w ad cs p;rw[m]at this;simp[loadVar,h.agg,q,h.size,this,pure]
theorem Tb {P:Program}{T:TypeId}{i:TyI}(h:TyOk P T i)(m:i.shape.agg=false)(w:World)(ad:Addr)(v:Value)(j:w.cell? ad=some v):(loadVar T ad).run P w=.ok v w:=by
 simp[loadVar,h.agg,m,load,Sem.run,j]
theorem Oe {vs:Array Value}(h:Blk w g ty vs)(j:Nat)(m:j<vs.size):w.cell? ⟨g,j,none⟩=some (vs.getD j undef):=by
 rw[h.cell,aL m];simp[aK,m]
theorem y03 {i:TyI}(H:o.op=.load T x)(O:dok cx o=true)(D:A6 x=true)(I:σ.eval x=.ptr id off)(V:lkT cx.E.tab T=some i)(U:i.shape.agg=true)(N:σ.find id=some (.box ty cs))(X:off+i.sz<=cs.length) :
  Ao cx o σ (.agg ((cs.drop off).take i.sz)) [id] [] :=
 Bc O λτ γ a w h1 W p=>by
  have C:=p.ev x D;rw[h1 x (by simp[H,Op.operands]),I]at C;have u:=p.me id;rw[W id Δ,N]at u;obtain⟨d,G,g,vs,F,R,J,M,r⟩:=u;subst F;have e:=C.ptr_inv G;have h:((bC i.sz).map λj=>vs.getD (off+j) undef).length=i.sz:=Δ
  have q:=Xh (cx.E.ok T i V) U w ⟨g,off,none⟩ ((bC i.sz).map λj=>vs.getD (off+j) undef) h (λj v A=>by
   obtain⟨E,z⟩:=List.getElem?_eq_some_iff.1 A;rw[h]at E;simp only[bD,bT]at z;rw[Addr.add_lit,Oe R _ Ω,z])
  refine⟨.agg ((bC i.sz).map λj=>vs.getD (off+j) undef).toArray,by simp only[execOp,H,e,Instr.loadAt,Instr.sureAddr,Sem.run_bind,Sem.run_pure,Result.andThen_ok,q],.agg _ Ψ (λj A=>?_) (λj A=>?_)⟩
  ·rw[bR,bK]at A;simp only[aY,aX];have:((bC i.sz).map λj=>vs.getD (off+j) undef).toArray.getD j undef=vs.getD (off+j) undef:=by
    have m:j<i.sz:=Ω
    simp[m]
   rw[this];exact M (off+j) Ω
  ·have m:j<i.sz:=by simpa using A
   have:((bC i.sz).map λj=>vs.getD (off+j) undef).toArray.getD j undef=vs.getD (off+j) undef:=by
    simp[m]
   rw[this];exact r _ Ω
theorem y01 {i:TyI}(D:o.op=.load T x)(I:dok cx o=true)(q:A6 x=true)(E:σ.eval x=.ptr id off)(O:lkT cx.E.tab T=some i)(N:i.shape.agg=false)(H:σ.find id=some (.box ty cs))(J:cs[off]? = some av) :
  Ao cx o σ av [id] [] :=
 Bc I λτ γ a w h1 R h=>by
  have p:=h.ev x q;rw[h1 x (by simp[D,Op.operands]),E]at p;have m:=h.me id;rw[R id Δ,H]at m;obtain⟨d,z,g,vs,u,M,F,G,C⟩:=m;subst u;have e:=p.ptr_inv z;obtain⟨r,A⟩:=List.getElem?_eq_some_iff.1 J;have j:=Tb (cx.E.ok T i O) N w ⟨g,off,none⟩ (vs.getD off undef) (Oe M off Ω);refine⟨vs.getD off undef,by simp only[execOp,D,e,Instr.loadAt,Instr.sureAddr,Sem.run_bind,Sem.run_pure,Result.andThen_ok,j],?_⟩;have:=G off r
  rwa [A]at this
theorem zlg {i:TyI}(E:o.op=.load T x)(H:dok cx o=true)(z:A6 x=true)(F:σ.eval x=.ref cs)(M:lkT cx.E.tab T=some i)(J:i.shape.agg=true)(N:i.sz<=cs.length) :
  Ao cx o σ (.agg (cs.take i.sz)) [] [] :=
 Bc H λτ γ a w h1 U A=>by
  have u:=A.ev x z;rw[h1 x (by simp[E,Op.operands]),F]at u;obtain⟨b,off,e,R,O,cell,I,G,D⟩:=u.ref_inv;have h:((bC i.sz).map cell).length=i.sz:=Δ
  have p:=Xh (cx.E.ok T i M) J w ⟨b,off,none⟩ ((bC i.sz).map cell) h (λj v r=>by
   obtain⟨C,q⟩:=List.getElem?_eq_some_iff.1 r;rw[h]at C;simp only[bD,bT]at q;rw[Addr.add_lit,I _ Ω,q])
  refine⟨.agg ((bC i.sz).map cell).toArray,by simp only[execOp,E,e,Instr.loadAt,Instr.sureAddr,Sem.run_bind,Sem.run_pure,Result.andThen_ok,p],.agg _ Ψ (λj r=>?_) (λj r=>?_)⟩
  ·rw[bR]at r;simp only[aY];have:((bC i.sz).map cell).toArray.getD j undef=cell j:=by
    have m:j<i.sz:=Ω
    simp[m]
   rw[this];exact(G j Ω).open_
  ·have m:j<i.sz:=by simpa using r
   have:((bC i.sz).map cell).toArray.getD j undef=cell j:=by simp[m]
   rw[this];exact D _ Ω
theorem zlf {i:TyI}(q:o.op=.load T x)(z:dok cx o=true)(m:A6 x=true)(r:σ.eval x=.ref (av::cs))(D:lkT cx.E.tab T=some i)(C:i.shape.agg=false) :
  Ao cx o σ av [] [] :=
 Bc z λτ γ a w h1 H p=>by
  have j:=p.ev x m;rw[h1 x (by simp[q,Op.operands]),r]at j;obtain⟨b,off,e,G,F,cell,A,u,E⟩:=j.ref_inv;have h:=Tb (cx.E.ok T i D) C w ⟨b,off,none⟩ (cell 0) (by simpa using A 0 Δ);exact⟨cell 0,by simp only[execOp,q,e,Instr.loadAt,Instr.sureAddr,Sem.run_bind,Sem.run_pure,Result.andThen_ok,h],(u 0 Δ).open_⟩
theorem z65 {P:Program}{T:TypeId}{i:TyI}(h:TyOk P T i)(w:World)(g off:Nat)(ty:TypeId)(vs:Array Value)(v:Value)(p:Blk w g ty vs)(j:v.cells.size=i.sz)(m:off+i.sz<=vs.size)(h1:∀u∈v.cells.toList,u.oneCell'=true) :
  (storeVar T ⟨g,off,none⟩ v).run P w=.ok () (w.setRow g (vs.toList.take off++v.cells.toList++vs.toList.drop (off+i.sz)).toArray):=by
 have:=run_storeCells_at P g off ty v.cells.toList 0 vs w p (by simp[j];omega) h1;simp only[cH,cC,j]at this;simp[storeVar,h.size,j,this]
theorem y8k {y:Operand}{i:TyI}{D:List AV}(ho:o.op=.store T x y)(hd:dok cx o=true)(ah:A6 x=true)(af:A6 y=true)(hx:σ.eval x=.ptr id off)(hy:σ.eval y=av)(hT:lkT cx.E.tab T=some i)(hl:σ.find id=some (.box ty cs))(hn:off+i.sz<=cs.length)
  (ap:av.cells.length=i.sz) (hc:okc σ av=true) (aa:cs.take off++av.cells++cs.drop (off+i.sz)=D):Ao cx o σ (.tup []) (id::av.ids) [(id,.box ty D)]:=by
 refine⟨λr e he=>?_,λτ h1 q a w Q K ⟨γ,m⟩ hK=>C9 (λc hc=>by rw[ho]at hc;cases hc) ?_⟩
 ·simp only[lkE]at he;cases hb:aP id r with
  |true=>simp[aC hb]
  |false=>rw[hb]at he;cases he
 have Z:=m.ev x ah;rw[h1 x (by simp[ho,Op.operands]),hx]at Z;have G:=m.ev y af;rw[h1 y (by simp[ho,Op.operands]),hy]at G;have V:=m.me id;rw[q id Δ,hl]at V;obtain⟨d,C,g,vs,an,hb,aq,hr,E⟩:=V;subst an;have e:=Z.ptr_inv C;obtain⟨c1,c2,c3⟩:=zg7 m G hc (λid J=>q id (by simp[J]));have H:∀u∈(a.eval y).cells.toList,u.oneCell'=true:=λu hu=>by
  obtain⟨j,F,rfl⟩:=mem_iff_getElem.1 hu;have W:j<(a.eval y).cells.size:=by simpa using F
  have:=c3 j W;simpa[aK,W]using this
 have O:=z65 (cx.E.ok T i hT) w g off ty vs (a.eval y) hb (c1.trans ap) Ω H;unfold Oper.wp;have al:(execOp a.eval o).run cx.P w=.ok .skip (w.setRow g (vs.toList.take off++(a.eval y).cells.toList++vs.toList.drop (off+i.sz)).toArray):=by
  simp only[execOp,ho,e,Instr.storeAt,Instr.sureAddr,Sem.run_bind,Sem.run_pure,Result.andThen_ok,O]
 rw[al];have ad:=setRow_heap w g vs (vs.toList.take off++(a.eval y).cells.toList++vs.toList.drop (off+i.sz)).toArray ty (0,0) hb;have p:∀k,k≠g->(w.setRow g (vs.toList.take off++(a.eval y).cells.toList++vs.toList.drop (off+i.sz)).toArray).heap[k]? = w.heap[k]? := λk hk=>setRow_other w g k _ hk
 have M:own γ g:=own.mk C;have Y:=m.ge g M;have R:∀b,Sg cx.S0 cx.w0.heap.size γ b->b≠g:=λb N e=>by
  subst e;rcases N with⟨_,h⟩|⟨_,h⟩
  ·have:=Y.1.1;omega
  ·exact h M
 generalize z:w.setRow g (vs.toList.take off++(a.eval y).cells.toList++vs.toList.drop (off+i.sz)).toArray=w' at *;have hz:w.heap.size<=w'.heap.size:=by rw[<-z];simp
 have am:w.drawn<=w'.drawn:=by rw[<-z];exact aF _
 refine hK _ _ ⟨γ,m.step (C5 hd) hz (λb N ar=>⟨p b (R b N),N⟩) (λid d h=>aM h) (λr X=>⟨rfl,λg' s ak aj=>p g' ?_⟩) (λr e' A=>?_) m.inj (λb ac=>⟨(m.ge b ac).1,aB (m.ge b ac).2 hz⟩) ?_ (.tup #[] rfl (λi hi=>by simp at hi)) (λb U _=>⟨p b (λe=>U (e▸M)),U⟩) (λ_=>am)⟩
 ·rintro rfl;have:=m.inj _ _ _ _ _ ak C aj C3;subst this;simp[lkE]at X
 ·have J:r=id:=by
   simp only[lkE]at A;cases ab:aP id r with
   |true=>exact(aC ab).symm
   |false=>rw[ab]at A;cases A
  subst J;simp only[lkE,cR,aG]at A;subst A;have I:∀{av v},Rep w (Sg cx.S0 cx.w0.heap.size γ) γ av v->Rep w' (Sg cx.S0 cx.w0.heap.size γ) γ av v:=λh=>h.mono hz (λb N _=>⟨p b (R b N),N⟩)
  have au:D.length=cs.length:=by rw[<-aa];simp;omega
  have ai:(vs.toList.take off++(a.eval y).cells.toList++vs.toList.drop (off+i.sz)).toArray.size=vs.size:=by
   simp;omega
  have ae:∀j (F:j<cs.length),(vs.toList.take off++(a.eval y).cells.toList++vs.toList.drop (off+i.sz)).toArray.getD j undef=if j<off then vs.getD j undef else if j<off+i.sz then(a.eval y).cells.getD (j-off) undef else vs.getD j undef:=λj F=>by
   simp only[aA,getElem?_toArray];congr 1;by_cases h1:j<off
   ·rw[if_pos h1];rw[bG,aV Ψ,cD h1];simp
   ·rw[if_neg h1];by_cases q:j<off+i.sz
    ·rw[if_pos q,bG,aR Ψ,aV Ψ];rw[show j-(List.take off vs.toList).length=j-off by simp;omega];simp
    ·rw[if_neg q,aR Ψ,getElem?_drop];rw[show off+i.sz+(j-(List.take off vs.toList++(a.eval y).cells.toList).length)=j by simp;omega];simp
  refine⟨_,C,g,_,rfl,ad,Ω,λj F=>?_,λj F=>?_⟩
  ·rw[ae j Ω];have ao:D[j]=if h1:j<off then cs[j]' Ω else if q:j<off+i.sz then av.cells[j-off]' Ω else cs[j]' Ω:=by
    subst aa;by_cases h1:j<off
    ·rw[dif_pos h1,aN Ψ,aN Ψ,aY]
    ·rw[dif_neg h1];by_cases q:j<off+i.sz
     ·rw[dif_pos q,aN Ψ,aW Ψ];congr 1;simp;omega
     ·rw[dif_neg q,aW Ψ,aX];congr 1;simp;omega
   rw[ao];by_cases h1:j<off
   ·rw[if_pos h1,dif_pos h1];exact I (hr j Ω)
   ·rw[if_neg h1,dif_neg h1];by_cases q:j<off+i.sz
    ·rw[if_pos q,dif_pos q];exact I (c2 (j-off) Ω)
    ·rw[if_neg q,dif_neg q];exact I (hr j Ω)
  ·rw[ai]at F;rw[ae j Ω];by_cases h1:j<off
   ·rw[if_pos h1];exact E j F
   ·rw[if_neg h1];by_cases q:j<off+i.sz
    ·rw[if_pos q];exact c3 (j-off) Ω
    ·rw[if_neg q];exact E j F
 ·refine m.below.trans ⟨by rw[<-z];rfl,by rw[<-z];rfl,by rw[<-z];rfl,hz,λk hk=>p k (by have:=Y.1.1;omega)⟩
end
open Go.RowKit
variable {esz eb:Nat}
theorem Cr {P:Program}{T:TypeId}{i:TyI}{e:Nat}(h:TyOk P T i)(hs:i.shape=.slc e esz eb):P.underlying T=some (.slice e)/\P.cellsOf e=esz/\P.bytesOf e=eb:=by
 obtain⟨d,m,j⟩:=h.und;rw[hs]at j;cases d<;>simp only[Du,Ec.slc.injEq,reduceCtorEq]at j;obtain⟨rfl,q,p⟩:=j;exact⟨m,q,p⟩
theorem Ej {P:Program}{e:Nat}(h:P.cellsOf e=esz)(m:esz≠0)(w:World):(sizeOf e).run P w=.ok esz w:=by
 unfold Program.cellsOf at h;cases j:P.info? e with
 |none=>rw[j]at h;simp at h;exact absurd h.symm m
 |some info=>rw[j]at h;simp at h;simp[sizeOf,typeInfo,j,h]
section
variable {cx:Cx} {o:Oper} {σ:AS}
variable {T:Nat}{x y:Operand}{xs:List AV}{k:IntKind}{el:AV}
theorem zlj {i:TyI}{e:Nat}{n:Int}{m:Nat}(E:o.op=.indexAddr T x y)(Y:dok cx o=true)(D:A6 x=true)(C:A6 y=true)(O:σ.eval x=.sl sz xs)(N:σ.eval y=.int k n)
  (hT:lkT cx.E.tab T=some i) (hs:i.shape=.slc e sz eb) (M:sz≠0) (V:n=(m:Int)) (X:xs[m]? = some el):Ao cx o σ (.ref el.cells) [] [] :=
 Bc Y λτ γ a w h1 h2 r=>by
  have z:=r.ev x D;rw[h1 x (by simp[E,Op.operands]),O]at z;have h:=r.ev y C;rw[h1 y (by simp[E,Op.operands]),N]at h;obtain⟨hm,p⟩:=List.getElem?_eq_some_iff.1 X;obtain⟨A,c,ex,hc,u,cell,Z,U,J⟩:=z.sl_inv;obtain⟨b,off,rfl,hS,F,q⟩:=Z Ω;obtain⟨R,I,_⟩:=Cr (cx.E.ok T i hT) hs;have W:=u m hm;rw[p]at W;refine⟨.pointer (some ⟨b,off+m*sz,none⟩),?_,.ref b (off+m*sz) (λj=>cell m j) hS F (λj H=>?_) (λj H=>?_) (λj H=>J m j)⟩
  ·subst V;simp[execOp,E,ex,h.int_inv,Instr.indexAt,asIntOf,run_underlying R,Ej I M,hm,pure,Addr.add_lit]
  ·have:=q m j hm Ω
   rwa [<-bS]at this
  ·have G:j<(xs[m]).cells.length:=by rw[p];exact H
   have:=U m hm j G;simp only[p]at this;exact this
variable {ty:TypeId}
theorem zj7 {i:TyI}{e:Nat}{n:Int}{m:Nat}(C:o.op=.indexAddr T x y)(N:dok cx o=true)(A:A6 x=true)(z:A6 y=true)(H:σ.eval x=.row id)(G:σ.eval y=.int k n)
  (M:σ.find id=some (.row ty sz xs)) (O:lkT cx.E.tab T=some i) (hs:i.shape=.slc e sz eb) (F:sz≠0) (J:n=(m:Int)) (hm:m<xs.length):Ao cx o σ (.elt id sz m 0) [id] [] :=
 Bc N λτ γ a w h1 R j=>by
  have r:=j.ev x A;rw[h1 x (by simp[C,Op.operands]),H]at r;have h:=j.ev y z;rw[h1 y (by simp[C,Op.operands]),G]at h;have q:=j.me id;rw[R id Δ,M]at q;obtain⟨d,u,s,vs,D,_,p,_⟩:=q;subst D;obtain⟨I,E,_⟩:=Cr (cx.E.ok T i O) hs;have U:=r.row_inv u;rcases p.2 with⟨rfl,X⟩|⟨g,W,V,rfl,_⟩
  ·omega
  refine⟨.pointer (some ⟨g,m*sz,none⟩),?_,.elt u (λY s e=>by injection e with e;injection e with e _;simp only[Value.ownBlock,aG]at e;rw[<-e];rfl)⟩;subst J;simp[execOp,C,U,h.int_inv,Instr.indexAt,asIntOf,run_underlying I,Ej E F,hm,pure,Addr.add_lit]
theorem Oc {ty:Nat}{vs:List Value}(h:w.ownsRow B ty sz s n vs)(m:s.ownBlock=some g)(j:Nat)(A:j<n*sz):w.cell? ⟨g,j,none⟩=some (vs.getD j undef):=by
 obtain⟨E,h⟩:=h;rcases h with⟨rfl,G⟩|⟨D,q,p,rfl,F,C,z,hm,hs,r⟩
 ·simp[Value.ownBlock]at m
 ·simp only[Value.ownBlock,aG]at m;subst m;have u:n*sz<=q*sz:=aU _ z;rw[cell_of_row w D j p ty (0,0) C,<-r];rw[aE,cD A];simp only[Array.getElem?_toList];rw[aL Ω];rfl
theorem zli {k:Nat}{i:TyI}(U:o.op=.load T x)(hd:dok cx o=true)(J:A6 x=true)(W:σ.eval x=.elt id sz k 0)(hT:lkT cx.E.tab T=some i)(ha:i.shape.agg=true)(Z:σ.find id=some (.row ty sz xs))(X:i.sz=sz)(he:xs[k]? = some el) :
  Ao cx o σ (.agg el.cells) [id] [] :=
 Bc hd λτ γ a w h1 h2 r=>by
  have G:=r.ev x J;rw[h1 x (by simp[U,Op.operands]),W]at G;have A:=r.me id;rw[h2 id Δ,Z]at A;obtain⟨d,H,s,vs,R,_,h,D,Y,z⟩:=A;subst R;obtain⟨N,p⟩:=List.getElem?_eq_some_iff.1 he;have I:∃g,s.ownBlock=some g:=by
   rcases h.2 with⟨rfl,h0⟩|⟨g,ab,aa,rfl,_⟩
   ·omega
   ·exact⟨g,rfl⟩
  obtain⟨g,I⟩:=I;rw[I]at H;have e:=G.elt_inv H;have M:=D k N;rw[p]at M;have F:∀j,j<sz->k*sz+j<xs.length*sz:=λj q=>by
   have:(k+1)*sz<=xs.length*sz:=aU _ N;rw[aQ]at this;omega
  have C:((bC i.sz).map λj=>vs.getD (k*sz+j) undef).length=i.sz:=Δ
  have u:=Xh (cx.E.ok T i hT) ha w ⟨g,k*sz+0,none⟩ ((bC i.sz).map λj=>vs.getD (k*sz+j) undef) C (λj v q=>by
   obtain⟨O,E⟩:=List.getElem?_eq_some_iff.1 q;rw[C]at O;simp only[bD,bT]at E;rw[Addr.add_lit,cH,Oc h I _ (F j Ω),E])
  refine⟨.agg ((bC i.sz).map λj=>vs.getD (k*sz+j) undef).toArray,by simp only[execOp,U,e,Instr.loadAt,Instr.sureAddr,Sem.run_bind,Sem.run_pure,Result.andThen_ok,u],.agg _ Ψ (λj q=>?_) (λj q=>?_)⟩
  ·have:((bC i.sz).map λj=>vs.getD (k*sz+j) undef).toArray.getD j undef=vs.getD (k*sz+j) undef:=by
    have m:j<i.sz:=Ω
    simp[m]
   rw[this];have m:j<(xs[k]).cells.length:=by rw[p];exact q
   have:=Y k N j m;simp only[p]at this;exact this.open_
  ·have m:j<i.sz:=by simpa using q
   have:((bC i.sz).map λj=>vs.getD (k*sz+j) undef).toArray.getD j undef=vs.getD (k*sz+j) undef:=by simp[m]
   rw[this];have V:k*sz+j<vs.length:=by rw[h.1];exact F j Ω
   rw[aE,aZ V];exact z _ (bY V)
theorem zj5 {k J:Nat}{i:TyI}(W:o.op=.load T x)(hd:dok cx o=true)(O:A6 x=true)(Y:σ.eval x=.elt id sz k J)(hT:lkT cx.E.tab T=some i)(ha:i.shape.agg=true)(hl:σ.find id=some (.row ty sz xs))(Z:J+i.sz<=sz)(he:xs[k]? = some el) :
  Ao cx o σ (.agg ((el.cells.drop J).take i.sz)) [id] [] :=
 Bc hd λτ γ a w h1 h2 u=>by
  have I:=u.ev x O;rw[h1 x (by simp[W,Op.operands]),Y]at I;have C:=u.me id;rw[h2 id Δ,hl]at C;obtain⟨d,M,s,vs,V,_,h,E,hr,A⟩:=C;subst V;obtain⟨U,r⟩:=List.getElem?_eq_some_iff.1 he;have N:∃g,s.ownBlock=some g:=by
   rcases h.2 with⟨rfl,h0⟩|⟨g,ab,aa,rfl,_⟩
   ·omega
   ·exact⟨g,rfl⟩
  obtain⟨g,N⟩:=N;rw[N]at M;have e:=I.elt_inv M;have R:=E k U;rw[r]at R;have G:∀j,j<sz->k*sz+j<xs.length*sz:=λj m=>by
   have:(k+1)*sz<=xs.length*sz:=aU _ U;rw[aQ]at this;omega
  have D:((bC i.sz).map λj=>vs.getD (k*sz+(J+j)) undef).length=i.sz:=Δ
  have z:=Xh (cx.E.ok T i hT) ha w ⟨g,k*sz+J,none⟩ ((bC i.sz).map λj=>vs.getD (k*sz+(J+j)) undef) D (λj v m=>by
   obtain⟨p,F⟩:=List.getElem?_eq_some_iff.1 m;rw[D]at p;simp only[bD,bT]at F;rw[Addr.add_lit,bS,Oc h N _ (G (J+j) Ω),F])
  have H:∀j,j<i.sz->((bC i.sz).map λj=>vs.getD (k*sz+(J+j)) undef).toArray.getD j undef=vs.getD (k*sz+(J+j)) undef:=λj m=>by simp[m]
  refine⟨.agg ((bC i.sz).map λj=>vs.getD (k*sz+(J+j)) undef).toArray,by simp only[execOp,W,e,Instr.loadAt,Instr.sureAddr,Sem.run_bind,Sem.run_pure,Result.andThen_ok,z],.agg _ Ψ (λj m=>?_) (λj m=>?_)⟩
  ·have p:j<i.sz:=by rw[bR]at m;omega
   rw[H j p];have q:J+j<(xs[k]).cells.length:=by rw[r];omega
   have:=hr k U (J+j) q;simp only[r]at this;simp only[aY,aX];exact this.open_
  ·have q:j<i.sz:=by simpa using m
   rw[H j q];have X:k*sz+(J+j)<vs.length:=by rw[h.1];exact G (J+j) Ω
   rw[aE,aZ X];exact A _ (bY X)
theorem zlh {k j:Nat}{i:TyI}(N:o.op=.load T x)(X:dok cx o=true)(D:A6 x=true)(O:σ.eval x=.elt id sz k j)(hT:lkT cx.E.tab T=some i)(Z:i.shape.agg=false)(U:σ.find id=some (.row ty sz xs))(W:xs[k]? = some el)(Y:el.cells[j]? = some av) :
  Ao cx o σ av [id] [] :=
 Bc X λτ γ a w h1 h2 p=>by
  have z:=p.ev x D;rw[h1 x (by simp[N,Op.operands]),O]at z;have r:=p.me id;rw[h2 id Δ,U]at r;obtain⟨d,A,s,vs,I,_,h,u,R,M⟩:=r;subst I;obtain⟨F,m⟩:=List.getElem?_eq_some_iff.1 W;obtain⟨V,J⟩:=List.getElem?_eq_some_iff.1 Y;have C:∃g,s.ownBlock=some g:=by
   rcases h.2 with⟨rfl,h0⟩|⟨g,ab,aa,rfl,_⟩
   ·omega
   ·exact⟨g,rfl⟩
  obtain⟨g,C⟩:=C;rw[C]at A;have e:=z.elt_inv A;have E:=u k F;rw[m]at E;have H:k*sz+j<xs.length*sz:=by
   have:(k+1)*sz<=xs.length*sz:=aU _ F;rw[aQ]at this;omega
  have q:=Tb (cx.E.ok T i hT) Z w ⟨g,k*sz+j,none⟩ _ (Oc h C _ H);refine⟨vs.getD (k*sz+j) undef,by simp only[execOp,N,e,Instr.loadAt,Instr.sureAddr,Sem.run_bind,Sem.run_pure,Result.andThen_ok,q],?_⟩;have G:j<(xs[k]).cells.length:=by rw[m];exact V
  have:=R k F j G;simp only[m,J]at this;exact this.open_
theorem getElem?_of_getD {vs:Array Value}{j:Nat}(h:j<vs.size):vs[j]? = some (vs.getD j undef):=by
 rw[aA,aL h];rfl
variable {fs:List (Nat×Nat×Option Bool)}{cs:List AV}
theorem zvp {f fo fsz:Nat}{i:TyI}(D:o.op=.field T x f)(H:dok cx o=true)(r:A6 x=true)(F:σ.eval x=.agg cs)(J:lkT cx.E.tab T=some i)(hs:i.shape=.strct fs)(E:fs[f]? = some (fo,fsz,some false))(I:cs[fo]? = some av) :
  Ao cx o σ av [] [] :=
 Bc H λτ γ a w h1 V u=>by
  have p:=u.ev x r;rw[h1 x (by simp[D,Op.operands]),F]at p;obtain⟨vs,e,U,G,N⟩:=p.agg_inv;obtain⟨Fs,M,rfl⟩:=zfa (cx.E.ok T i J) hs;simp only[bX,bF,Prod.mk.injEq]at E;obtain⟨fd,A,R,W,O⟩:=E;have m:Fs[f]? = some fd:=by simpa using A
  obtain⟨z,C⟩:=List.getElem?_eq_some_iff.1 I;have q:=zdm O w;have h:=getElem?_of_getD (vs:=vs) (j:=fo) Ω;refine⟨vs.getD fo undef,?_,?_⟩
  ·simp only[execOp,D,e,Instr.field,Sem.run_bind,Sem.run_pure,Result.andThen_ok,run_underlying M,m,asAgg,part,q,R,h];rfl
  ·have:=G fo z
   rwa [C]at this
theorem zvq {f fo fsz:Nat}{i:TyI}(F:o.op=.field T x f)(J:dok cx o=true)(u:A6 x=true)(q:σ.eval x=.agg cs)(M:lkT cx.E.tab T=some i)(hs:i.shape=.strct fs)(G:fs[f]? = some (fo,fsz,some true))(H:fsz≠0)(W:fo+fsz<=cs.length) :
  Ao cx o σ (.agg ((cs.drop fo).take fsz)) [] [] :=
 Bc J λτ γ a w h1 X A=>by
  have m:=A.ev x u;rw[h1 x (by simp[F,Op.operands]),q]at m;obtain⟨vs,e,V,I,E⟩:=m.agg_inv;obtain⟨Fs,N,rfl⟩:=zfa (cx.E.ok T i M) hs;simp only[bX,bF,Prod.mk.injEq]at G;obtain⟨fd,D,U,R,O⟩:=G;have h:Fs[f]? = some fd:=by simpa using D
  have p:=zdm O w;have z:=Ej R H w;have q:∀j,j<fsz->(vs.extract fo (fo+fsz)).getD j undef=vs.getD (fo+j) undef:=λj r=>by
   rw[aA,aA,bV,if_pos Ω]
  refine⟨.agg (vs.extract fo (fo+fsz)),?_,.agg _ Ψ (λj r=>?_) (λj r=>?_)⟩
  ·simp only[execOp,F,e,Instr.field,Sem.run_bind,Sem.run_pure,Result.andThen_ok,run_underlying N,h,asAgg,part,p,U,if_true,z]
  ·rw[bR,bK]at r;rw[q j Ω];simp only[aY,aX];exact I (fo+j) Ω
  ·have C:j<fsz:=by simp at r;omega
   rw[q j C];exact E _ Ω
theorem zvn {e:Nat}{i:TyI}{m:Int}{q:Nat}(F:o.op=.index T x y)(W:dok cx o=true)(E:A6 x=true)(D:A6 y=true)(O:σ.eval x=.agg cs)(N:σ.eval y=.int k m)(Y:lkT cx.E.tab T=some i)
  (hs:i.shape=.arr n e esz (some false)) (M:esz≠0) (hm:m=(q:Int)) (U:q<n) (X:cs[q*esz]? = some av):Ao cx o σ av [] [] :=
 Bc W λτ γ a w h1 h2 r=>by
  have A:=r.ev x E;rw[h1 x (by simp[F,Op.operands]),O]at A;have p:=r.ev y D;rw[h1 y (by simp[F,Op.operands]),N]at p;obtain⟨vs,ex,hl,R,Z⟩:=A.agg_inv;obtain⟨d,I,H⟩:=(cx.E.ok T i Y).und;rw[hs]at H;cases d<;>simp only[Du,Ec.arr.injEq,reduceCtorEq]at H;obtain⟨V,rfl,e2,e3⟩:=H;subst V;obtain⟨G,J⟩:=List.getElem?_eq_some_iff.1 X;have C:=zdm e3 w;have z:=getElem?_of_getD (vs:=vs) (j:=q*esz) Ω;subst hm;have h:=R (q*esz) G;rw[J]at h;generalize vs.getD (q*esz) undef=u at *;exact⟨u,by simp[execOp,F,ex,p.int_inv,Instr.index,asIntOf,run_underlying I,Ej e2 M,U,part,C,z,pure],h⟩
theorem zvo {e:Nat}{i:TyI}{m:Int}{q:Nat}(E:o.op=.index T x y)(U:dok cx o=true)(D:A6 x=true)(C:A6 y=true)(N:σ.eval x=.agg cs)(M:σ.eval y=.int k m)(V:lkT cx.E.tab T=some i)
  (hs:i.shape=.arr n e esz (some true)) (J:esz≠0) (hm:m=(q:Int)) (R:q<n) (hc:q*esz+esz<=cs.length):Ao cx o σ (.agg ((cs.drop (q*esz)).take esz)) [] [] :=
 Bc U λτ γ a w h1 h2 r=>by
  have u:=r.ev x D;rw[h1 x (by simp[E,Op.operands]),N]at u;have h:=r.ev y C;rw[h1 y (by simp[E,Op.operands]),M]at h;obtain⟨vs,W,Z,O,I⟩:=u.agg_inv;obtain⟨d,H,G⟩:=(cx.E.ok T i V).und;rw[hs]at G;cases d<;>simp only[Du,Ec.arr.injEq,reduceCtorEq]at G;obtain⟨rfl,rfl,Y,X⟩:=G;have z:=zdm X w;have p:∀j,j<esz->(vs.extract (q*esz) (q*esz+esz)).getD j undef=vs.getD (q*esz+j) undef:=λj A=>by
   rw[aA,aA,bV,if_pos Ω]
  subst hm;refine⟨.agg (vs.extract (q*esz) (q*esz+esz)),?_,.agg _ Ψ (λj A=>?_) (λj A=>?_)⟩
  ·simp[execOp,E,W,h.int_inv,Instr.index,asIntOf,run_underlying H,Ej Y J,R,part,z,pure]
  ·rw[bR,bK]at A;rw[p j Ω];simp only[aY,aX];exact O (q*esz+j) Ω
  ·have F:j<esz:=by simp at A;omega
   rw[p j F];exact I _ Ω
theorem y1s {ix:Nat}(C:o.op=.extract x ix)(F:dok cx o=true)(q:A6 x=true)(D:σ.eval x=.tup cs)(G:cs[ix]? = some av):Ao cx o σ av [] [] :=
 Bc F λτ γ a w h1 I r=>by
  have p:=r.ev x q;rw[h1 x (by simp[C,Op.operands]),D]at p;obtain⟨vs,e,H,E⟩:=p.tup_inv;obtain⟨z,A⟩:=List.getElem?_eq_some_iff.1 G;have m:=getElem?_of_getD (vs:=vs) (j:=ix) Ω;have h:=E ix z;rw[A]at h;generalize vs.getD ix undef=u at *;exact⟨u,by simp[execOp,C,e,Instr.extract,m,pure],h⟩
theorem y58 {ty:Nat}{i:TyI}{e:Nat}(p:o.op=.call { callee:=.builtin .len,args:=#[x],argTypes:=#[T] })(u:dok cx o=true)(j:A6 x=true)(q:σ.eval x=.sl sz xs)(z:lkT cx.E.tab T=some i)(hs:i.shape=.slc e esz eb) :
  Ao cx o σ (.int .i64 (xs.length:Int)) [] [] :=
 Bc u λτ γ a w h1 D m=>by
  have h:=m.ev x j;rw[h1 x (by simp[p,Op.operands,Call.operands]),q]at h;obtain⟨A,c,C,_⟩:=h.sl_inv;obtain⟨r,_,_⟩:=Cr (cx.E.ok T i z) hs;exact⟨.int .i64 (xs.length:Int),by simp[execOp,p,resolve,invoke,builtin,Builtin.len_,C,run_underlying r,goInt,pure],.int _ _⟩
theorem y04 {ty:Nat}{i:TyI}{e:Nat}(p:o.op=.call { callee:=.builtin .len,args:=#[x],argTypes:=#[T] })(u:dok cx o=true)(j:A6 x=true)(q:σ.eval x=.nils)(z:lkT cx.E.tab T=some i)(hs:i.shape=.slc e esz eb) :
  Ao cx o σ (.int .i64 0) [] [] :=
 Bc u λτ γ a w h1 A m=>by
  have h:=m.ev x j;rw[h1 x (by simp[p,Op.operands,Call.operands]),q]at h;obtain⟨r,_,_⟩:=Cr (cx.E.ok T i z) hs;exact⟨.int .i64 0,by simp[execOp,p,resolve,invoke,builtin,Builtin.len_,h.nils_inv,run_underlying r,goInt,pure],.int _ _⟩
theorem y1q {i:TyI}{e:Nat}(C:o.op=.call { callee:=.builtin .len,args:=#[x],argTypes:=#[T] })(G:dok cx o=true)(q:A6 x=true)(D:σ.eval x=.row id)(F:σ.find id=some (.row ty sz xs))(H:lkT cx.E.tab T=some i)(hs:i.shape=.slc e esz eb) :
  Ao cx o σ (.int .i64 (xs.length:Int)) [id] [] :=
 Bc G λτ γ a w h1 I h=>by
  have p:=h.ev x q;rw[h1 x (by simp[C,Op.operands,Call.operands]),D]at p;have m:=h.me id;rw[I id Δ,F]at m;obtain⟨d,z,s,vs,u,_,j,_⟩:=m;subst u;have e:=p.row_inv z;obtain⟨E,_,_⟩:=Cr (cx.E.ok T i H) hs;have r:∃A c,s=.slice A xs.length c:=by
   rcases j.2 with⟨rfl,J⟩|⟨g,N,M,rfl,_⟩
   ·exact⟨none,0,by rw[J]⟩
   ·exact⟨_,_,rfl⟩
  obtain⟨A,c,rfl⟩:=r;exact⟨.int .i64 (xs.length:Int),by simp[execOp,C,resolve,invoke,builtin,Builtin.len_,e,run_underlying E,goInt,pure],.int _ _⟩
theorem y1p {i:TyI}{s:ByteArray}(q:o.op=.call { callee:=.builtin .len,args:=#[x],argTypes:=#[T] })(z:dok cx o=true)(j:A6 x=true)(u:σ.eval x=.str s)(A:lkT cx.E.tab T=some i)(hs:i.shape=.str) :
  Ao cx o σ (.int .i64 (s.size:Int)) [] [] :=
 Bc z λτ γ a w h1 C m=>by
  have h:=m.ev x j;rw[h1 x (by simp[q,Op.operands,Call.operands]),u]at h;obtain⟨d,p,r⟩:=(cx.E.ok T i A).und;rw[hs]at r;cases d<;>simp only[Du,reduceCtorEq]at r;exact⟨.int .i64 (s.size:Int),by simp[execOp,q,resolve,invoke,builtin,Builtin.len_,h.str_inv,run_underlying p,goInt,pure],.int _ _⟩
theorem ycy {T:Array TypeId}{u:IntKind}{a b:Int}(p:o.op=.call { callee:=.builtin .max,args:=#[x,y],argTypes:=T })(C:dok cx o=true)(m:A6 x=true)(j:A6 y=true)(A:σ.eval x=.int k a)(z:σ.eval y=.int u b):Ao cx o σ (.int k (max a b)) [] [] :=
 Bc C λτ γ ac w h1 D h=>by
  have r:=h.ev x m;rw[h1 x (by simp[p,Op.operands,Call.operands]),A]at r;have q:=h.ev y j;rw[h1 y (by simp[p,Op.operands,Call.operands]),z]at q;have hm:(if b > a then b else a)=max a b:=by split<;>omega
  refine⟨.int k (max a b),?_,.int _ _⟩;rw[<-hm];simp only[execOp,p,resolve,invoke,builtin,Sem.run_bind,Sem.run_pure,Result.andThen_ok,bZ,cA,cN,r.int_inv,q.int_inv];rfl
theorem ycx {T:Array TypeId}{u:IntKind}{a b:Int}(p:o.op=.call { callee:=.builtin .min,args:=#[x,y],argTypes:=T })(C:dok cx o=true)(m:A6 x=true)(j:A6 y=true)(A:σ.eval x=.int k a)(z:σ.eval y=.int u b):Ao cx o σ (.int k (min a b)) [] [] :=
 Bc C λτ γ ac w h1 D h=>by
  have r:=h.ev x m;rw[h1 x (by simp[p,Op.operands,Call.operands]),A]at r;have q:=h.ev y j;rw[h1 y (by simp[p,Op.operands,Call.operands]),z]at q;have hm:(if b<a then b else a)=min a b:=by split<;>omega
  refine⟨.int k (min a b),?_,.int _ _⟩;rw[<-hm];simp only[execOp,p,resolve,invoke,builtin,Sem.run_bind,Sem.run_pure,Result.andThen_ok,bZ,cA,cN,r.int_inv,q.int_inv];rfl
end
open Go.RowKit
def CRel (w:World)(S:Nat->Prop)(γ:Gam)(cells:Array Value)(cs:List AV):Prop:=cells.size=cs.length/\(∀i (hi:i<cs.length),Rep w S γ cs[i] (cells.getD i undef))/\∀i,i<cells.size->(cells.getD i undef).oneCell'=true
def Dh (place:Nat->Option (Nat×Nat)):List AV->List (Nat×AV)->Option (List AV)
 |cells,[]=>some cells
 |cells,(i,v)::r=>match place i with
  |none=>none
  |some (off,size)=>match aP v.cells.length size && Nat.ble (off+size) cells.length with
   |true=>Dh place (cells.take off++v.cells++cells.drop (off+size)) r
   |false=>none
theorem zh8 (off:Nat):∀(l:List Value) (n:Nat) (cells:Array Value),((l.zipIdx n).foldl (λcs p=>cs.setIfInBounds (off+p.2) p.1) cells).size=cells.size /\
  ∀m,((l.zipIdx n).foldl (λcs p=>cs.setIfInBounds (off+p.2) p.1) cells).getD m undef=if off+n<=m/\m<off+n+l.length/\m<cells.size then l.getD (m-(off+n)) undef else cells.getD m undef
 |[],n,cells=>⟨rfl,λm=>by rw[if_neg Ψ];rfl⟩
 |v::r,n,cells=>by
  simp only[zipIdx_cons,foldl_cons];obtain⟨h1,u⟩:=zh8 off r (n+1) (cells.setIfInBounds (off+n) v);refine⟨by rw[h1];simp,λm=>?_⟩;rw[u m];simp only[Array.size_setIfInBounds,bQ];by_cases hm:m=off+n
  ·subst hm;rw[if_neg Ω];by_cases q:off+n<cells.size
   ·rw[if_pos Ω];simp[aA,q]
   ·rw[if_neg Ω];simp[aA,q]
  ·have h:(cells.setIfInBounds (off+n) v).getD m undef=cells.getD m undef:=by
    simp only[aA,aO (Ne.symm hm)]
   rw[h];by_cases j:off+(n+1)<=m/\m<off+(n+1)+r.length/\m<cells.size
   ·rw[if_pos j,if_pos Ω];rw[show m-(off+n)=(m-(off+(n+1)))+1 by omega];simp
   ·rw[if_neg j,if_neg Ω]
theorem Yl {place:Nat->Option (Nat×Nat)}{f:Operand->Value}{g:Operand->AV}:∀(ops:List (Nat×Operand)) (cells:Array Value) (cs z:List AV),(∀p∈ops,CRel w S γ (f p.2).cells (g p.2).cells)->CRel w S γ cells cs ->
  Dh place cs (ops.map λp=>(p.1,g p.2))=some z->∃cells',Instr.fill place cells (ops.map λp=>(p.1,f p.2))=some cells'/\CRel w S γ cells' z
 |[],cells,cs,z,_,A,h=>by
  simp only[cN,Dh,aG]at h;subst h;exact⟨cells,rfl,A⟩
 |(i,x)::r,cells,cs,z,V,A,h=>by
  simp only[cA,Dh]at h;obtain⟨U,R,O⟩:=V (i,x) Δ;simp only at U R O;cases E:place i with
  |none=>rw[E]at h;simp at h
  |some X =>
   obtain⟨off,size⟩:=X;rw[E]at h;simp only at h;split at h
   ·rename_i q;simp only[bU]at q;have ab:(g x).cells.length=size:=aC q.1;have aa:off+size<=cs.length:=Nat.le_of_ble_eq_true q.2;simp only[cA,Instr.fill,E];have M:¬(((f x).cells.size≠size || off+(f x).cells.size > cells.size)=true):=by
     have:=A.1;simp only[aJ,decide_eq_true_eq];simp only[U]at *;omega
    rw[if_neg M];refine Yl r _ _ z (λp J=>V p (by simp[J])) ?_ h;have F:((f x).cells.zipIdx.foldl (λcs (p:Value×Nat)=>cs.setIfInBounds (off+p.2) p.1) cells)=(((f x).cells.toList.zipIdx 0).foldl (λcs p=>cs.setIfInBounds (off+p.2) p.1) cells):=by
     rw[<-Array.foldl_toList,Array.toList_zipIdx]
    have C:((f x).cells.zipIdx.foldl (λcs x=>match x with|(c,j)=>cs.setIfInBounds (off+j) c) cells)=(((f x).cells.toList.zipIdx 0).foldl (λcs p=>cs.setIfInBounds (off+p.2) p.1) cells):=F;obtain⟨N,W⟩:=zh8 off (f x).cells.toList 0 cells;have H:(cs.take off++(g x).cells++cs.drop (off+size)).length=cs.length:=Ψ
    have D:∀m,m<cs.length->(((f x).cells.toList.zipIdx 0).foldl (λcs p=>cs.setIfInBounds (off+p.2) p.1) cells).getD m undef=if off<=m/\m<off+size then(f x).cells.getD (m-off) undef else cells.getD m undef:=λm hm=>by
     rw[W m];have Y:=A.1;have Z:(f x).cells.toList.length=size:=by rw[cC];omega
     by_cases I:off<=m/\m<off+size
     ·rw[if_pos I,if_pos Ω];simp[aA,aE]
     ·rw[if_neg I,if_neg Ω]
    have G:CRel w S γ (((f x).cells.toList.zipIdx 0).foldl (λcs p=>cs.setIfInBounds (off+p.2) p.1) cells) (cs.take off++(g x).cells++cs.drop (off+size)):=by
     refine⟨by rw[N,H];exact A.1,λm hm=>?_,λm hm=>?_⟩
     ·rw[H]at hm;rw[D m hm];by_cases h1:m<off
      ·rw[if_neg Ω,aN Ψ,aN Ψ,aY];exact A.2.1 m hm
      ·by_cases h2:m<off+size
       ·rw[if_pos Ω,aN Ψ,aW Ψ];have u:(cs.take off).length=off:=Ψ
        simp only[u];exact R (m-off) Ω
       ·rw[if_neg Ω,aW Ψ,aX];have u:off+size+(m-(cs.take off++(g x).cells).length)=m:=Ψ
        simp only[u];exact A.2.1 m hm
     ·rw[N]at hm;rw[D m (by have:=A.1;omega)];by_cases I:off<=m/\m<off+size
      ·rw[if_pos I];exact O (m-off) Ω
      ·rw[if_neg I];exact A.2.2 m hm
    rw[C];exact G
   ·cases h
theorem zt9 (w:World)(S:Nat->Prop)(γ:Gam)(z:Value)(p:z.cells.all (·.oneCell')=true):CRel w S γ z.cells (z.cells.toList.map AV.ofV):=by
 refine⟨Δ,λj h=>?_,λj h=>?_⟩
 ·have m:j<z.cells.size:=by simpa using h
  have:z.cells.getD j undef=z.cells[j]:=by simp[aK,m]
  simp only[bD,bJ,this];exact Oq _ _ _ _
 ·have:z.cells.getD j undef=z.cells[j]:=by simp[aK,h]
  rw[this];simp only[bP]at p;exact p j h
section
variable {cx:Cx} {o:Oper} {σ:AS}
def Ct (σ:AS)(ps:Array (Nat×Operand)):List (Nat×AV):=ps.toList.map λp=>(p.1,σ.eval p.2)
def Fq (l:List (Nat×AV)):List Nat:=l.flatMap λp=>p.2.ids
def Fp (σ:AS)(ps:Array (Nat×Operand)):Bool:=ps.toList.all λp=>A6 p.2 && okc σ (σ.eval p.2)
theorem zfe {a:Act}{ps:Array (Nat×Operand)}(h:StG cx γ τ a w)(j:Fp σ ps=true)(h1:∀p∈ps.toList,τ.eval p.2=σ.eval p.2)(A:∀id∈Fq (Ct σ ps),τ.find id=σ.find id) :
  ∀p∈ps.toList,CRel w (Sg cx.S0 cx.w0.heap.size γ) γ (a.eval p.2).cells (σ.eval p.2).cells:=λp q=>by
 simp only[Fp,cB,bU]at j;obtain⟨z,u⟩:=j p q;have m:=h.ev p.2 z;rw[h1 p q]at m;exact zg7 h m u (λid r=>A id (cL.2 ⟨(p.1,σ.eval p.2),cS.2 ⟨p,q,rfl⟩,r⟩))
theorem zfq {P:Program}{e:Nat}(h:P.cellsOf e=esz)(m:esz≠0):∃info,P.info? e=some info/\info.size=esz:=by
 unfold Program.cellsOf at h;cases j:P.info? e with
 |none=>rw[j]at h;simp at h;exact absurd h.symm m
 |some info=>rw[j]at h;simp at h;exact⟨info,rfl,h⟩
theorem y1y {P:Program}(Fs:List Field)(h:∀f∈Fs,P.cellsOf f.type≠0):Fs.mapM (λf=>(P.info? f.type).map λi=>(f.offset,i.size))=some (Fs.map λf=>(f.offset,P.cellsOf f.type)):=by
 induction Fs with
 |nil=>rfl
 |cons f r j =>
  obtain⟨info,hi,hs⟩:=zfq rfl (h f Δ);rw[mapM_cons,j (λg m=>h g (by simp[m]))];simp[hi,hs]
theorem zo8 {T:Nat}{ps:Array (Nat×Operand)}{i:TyI}{fs:List (Nat×Nat×Option Bool)}{cs:List AV}(O:o.op=.build T ps)(V:dok cx o=true)(X:lkT cx.E.tab T=some i)(hs:i.shape=.strct fs)(R:i.zero.cells.all (·.oneCell')=true)(E:Fp σ ps=true)
  (z:fs.all (λf=>!(aP f.2.1 0))=true) (H:Dh (λj=>(fs[j]?).map λf=>(f.1,f.2.1)) (i.zero.cells.toList.map AV.ofV) (Ct σ ps)=some cs):Ao cx o σ (.agg cs) (Fq (Ct σ ps)) [] :=
 Bc V λτ γ a w h1 Z C=>by
  have u:=zfe C E (λp U=>h1 p.2 (by simp only[O,Op.operands,mem_toArray,cS];exact⟨p,U,rfl⟩)) Z;have m:=cx.E.ok T i X;obtain⟨Fs,Y,q⟩:=zfa m hs;obtain⟨cells',h,M,J,I⟩:=Yl (f:=a.eval) (g:=σ.eval) ps.toList i.zero.cells _ cs u (zt9 w _ γ i.zero R) H;have D:(λj:Nat=>(fs[j]?).map λ(f:Nat×Nat×Option Bool)=>(f.1,f.2.1))=λj:Nat=>(Fs.toList.map λf=>(f.offset,cx.P.cellsOf f.type))[j]? := by
   funext j;rw[q];simp[bX,Option.map_map];rfl
  rw[D]at h;have W:cx.P.built T ((ps.map λp=>(p.1,a.eval p.2)).toList)=some cells':=by
   obtain⟨it,G,A⟩:∃it,cx.P.info? T=some it/\it.zero=some i.zero:=by
    have:=m.zero;cases N:cx.P.info? T with
    |none=>rw[N]at this;simp at this
    |some it=>rw[N]at this;exact⟨it,rfl,by simpa using this⟩
   have F:∀f∈Fs.toList,cx.P.cellsOf f.type≠0:=λf H=>by
    simp only[q,cB]at z;have:=z (f.offset,cx.P.cellsOf f.type,aggT cx.P f.type) (cS.2 ⟨f,H,rfl⟩);intro e;simp[e]at this
   unfold Program.built;rw[G,Y];simp only[A,y1y Fs.toList F,cJ];simpa using h
  have r:=run_build (P:=cx.P) w T (ps.map λp=>(p.1,a.eval p.2)) cells' W;refine⟨.agg cells',?_,.agg cells' M J I⟩;have e:(ps.map λx=>match x with|(i,x)=>(i,a.eval x))=ps.map λp=>(p.1,a.eval p.2):=rfl
  simp only[execOp,O,e,Sem.run_bind,Sem.run_pure,Result.andThen_ok,r]
variable {ag:Option Bool}
theorem y1e {P:Program}{T:TypeId}{i:TyI}{e:Nat}(h:TyOk P T i)(hs:i.shape=.arr n e esz ag):P.underlying T=some (.array n e)/\P.cellsOf e=esz/\aggT P e=ag:=by
 obtain⟨d,m,j⟩:=h.und;rw[hs]at j;cases d<;>simp only[Du,Ec.arr.injEq,reduceCtorEq]at j;obtain⟨rfl,rfl,q,p⟩:=j;exact⟨m,q,p⟩
theorem zvu {T e:Nat}{ps:Array (Nat×Operand)}{i:TyI}{cs:List AV}(N:o.op=.build T ps)(W:dok cx o=true)(Y:lkT cx.E.tab T=some i)(hs:i.shape=.arr n e esz ag)(O:i.zero.cells.all (·.oneCell')=true)(D:Fp σ ps=true)(z:esz≠0)
  (V:Dh (λj=>some (j*esz,esz)) (i.zero.cells.toList.map AV.ofV) (Ct σ ps)=some cs):Ao cx o σ (.agg cs) (Fq (Ct σ ps)) [] :=
 Bc W λτ γ a w h1 Z C=>by
  have r:=zfe C D (λp U=>h1 p.2 (by simp only[N,Op.operands,mem_toArray,cS];exact⟨p,U,rfl⟩)) Z;have h:=cx.E.ok T i Y;obtain⟨R,G,_⟩:=y1e h hs;obtain⟨cells',m,J,I,H⟩:=Yl (f:=a.eval) (g:=σ.eval) ps.toList i.zero.cells _ cs r (zt9 w _ γ i.zero O) V;have X:cx.P.built T ((ps.map λp=>(p.1,a.eval p.2)).toList)=some cells':=by
   obtain⟨it,E,A⟩:∃it,cx.P.info? T=some it/\it.zero=some i.zero:=by
    have:=h.zero;cases M:cx.P.info? T with
    |none=>rw[M]at this;simp at this
    |some it=>rw[M]at this;exact⟨it,rfl,by simpa using this⟩
   obtain⟨ie,F,u⟩:=zfq G z;unfold Program.built;rw[E,R];simp only[A,F,u,cJ];exact m
  have q:=run_build (P:=cx.P) w T (ps.map λp=>(p.1,a.eval p.2)) cells' X;refine⟨.agg cells',?_,.agg cells' J I H⟩;have e:(ps.map λx=>match x with|(i,x)=>(i,a.eval x))=ps.map λp=>(p.1,a.eval p.2):=rfl
  simp only[execOp,N,e,Sem.run_bind,Sem.run_pure,Result.andThen_ok,q]
end
end Go.Proofs.YthbogefcfhmpgaaGreat
