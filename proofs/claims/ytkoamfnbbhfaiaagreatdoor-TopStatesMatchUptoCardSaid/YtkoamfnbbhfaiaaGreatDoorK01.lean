/- Memory words over any program. -/
import Derived.WalkKit
import Derived.WalkSpells
import Derived.WalkLawsBesides
import Derived.BigQuiet
import Derived.Deep.QuietTactic
import Derived.Deep.Draws
import Derived.Deep.RegionHeld3
import Derived.Deep.DeepCutAuto
import Derived.Deep.DeepFit
import Derived.StillTailTactics
import Derived.Handy
import Derived.Lib.Hide
import Derived.Lib.SliceRun
import Derived.Maps.AppendAt
import Derived.Deep.RegionLaw
import Derived.Deep.AppendLies
import Derived.Shelf.Abstract
import Derived.Laws.StructEq
import Derived.Shelf.SlicesQ.Equal
import Derived.Lib.Overlaps
import Derived.Lib.AppendZeros
import Derived.Lib.AppendZerosOnto
import Derived.Laws.Externs
import Derived.Laws.IdiomCopy
import GoSem.Core.Sem
import Derived.Orders
import Derived.OrdersIn
import Derived.OwnWalkIn
import Derived.RangeFuncLeaves
import Derived.RangeFuncCalls
import Derived.RangeFuncSeq
set_option linter.unusedVariables false
set_option linter.unusedSimpArgs false
namespace Go.Proofs.YtkoamfnbbhfaiaaGreatDoor
open Go.RowKit List
open Nat renaming lt_of_lt_of_le->aA,le_trans->aK,eq_of_beq_eq_true->aL,beq->aM,le_refl->aN,succ_mul->aO,eq_or_lt_of_le->aP,min->aS,eq_zero_or_pos->aZ,lt_or_ge->bB,testBit_or->bC,blt->bD
open List renaming take_append_of_le_length->aB,getD_eq_getElem?_getD->aF,take_of_length_le->aG,length_append->aJ,length_eq_zero_iff->aQ,flatMap_cons->aT,append_assoc->aU,getElem?_append_right->aV,getElem?_append_left->aW,length_cons->aX,getElem?_eq_getElem->aY
open Bool renaming or_eq_true->aC
open Or renaming inl->aD,inr->aE
open _root_.Array renaming getElem?_eq_some_iff->aH,getElem?_eq_getElem->aR,getD->bA
theorem hide {p:Prop}(h:p):Hid p:=h
variable {α:Type}
def Sl (w:World)(S:Nat->Prop)(sz:Nat)(enc:α->List Value)(v:Value)(l:List α):Prop:=∃ A c,v=.slice A l.length c/\l.length<=c /\ (0<l.length->∃ b off,A=some ⟨b,off,none⟩/\S b/\b<w.heap.size/\∀ k (d:k<l.length) j u,(enc l[k])[j]? = some u->w.cell? ⟨b,off+(k*sz+j),none⟩=some u)
variable {enc:α->List Value}{sz:Nat}{l:List α}
theorem Ub (c:∀ x∈l,(enc x).length=sz)(k:Nat)(h:k<l.length)(j:Nat)(n:j<sz)(u:Value)(f:(enc l[k])[j]? = some u) :
  (l.flatMap enc)[k*sz+j]? = some u:=by
 induction l generalizing k with
 |nil=>simp at h
 |cons x r ih =>
  have d:=c x (by simp);rw [aT];cases k with
  |zero=>rw [aW (by rw [d];omega)];simpa using f
  |succ k =>
   rw [aV (by rw [d,aO];omega),d,show (k+1)*sz+j-sz=k*sz+j by rw [aO];omega];exact ih (fun y m=>c y (by simp [m])) k (by simpa using h) (by simpa using f)
section
variable {α:Type} {w w':World} {S S':Nat->Prop} {sz:Nat} {enc:α->List Value} {v:Value} {l:List α}
theorem Sl.nil_:Sl w S sz enc (.slice none 0 0) []:=⟨none,0,rfl,aN _,fun h=>absurd h (Nat.lt_irrefl _)⟩
theorem Sl.keep (h:Sl w S sz enc v l)(p:w.heap.size<=w'.heap.size)(z:∀ b,S b->b<w.heap.size->w'.heap[b]? = w.heap[b]?):Sl w' S sz enc v l:=by
 obtain ⟨A,c,r,B,q⟩:=h;refine ⟨A,c,r,B,fun y=>?_⟩;obtain ⟨b,off,C,n,m,d⟩:=q y;exact ⟨b,off,C,n,aA m p,fun k f j u x=>(World.cell?_of_block (w:=w) (a:=⟨b,_,none⟩) (z b n m)).trans (d k f j u x)⟩
theorem Sl.below (h:Sl w S sz enc v l)(d:Below w.heap.size w w'):Sl w' S sz enc v l:=h.keep d.size fun b _ c=>d.block b c
theorem Sl.weaken (h:Sl w S sz enc v l)(n:∀ b,S b->S' b):Sl w S' sz enc v l:=by
 obtain ⟨A,c,j,m,f⟩:=h;refine ⟨A,c,j,m,fun k=>?_⟩;obtain ⟨b,off,p,d,r⟩:=f k;exact ⟨b,off,p,n b d,r⟩
theorem Sl.setCell (h:Sl w S sz enc v l){p:Addr}(c:¬S p.block)(u:Value):Sl (w.setCell p u) S sz enc v l :=
 h.keep (by simp [World.setCell]) fun b d _=>Below.heap_setCell w p u b (fun e=>c (e▸d))
theorem Sl.drewN (h:Sl w S sz enc v l)(n:Nat):Sl (w.drewN n) S sz enc v l:=h
theorem Sl.alloc (h:Sl w S sz enc v l)(o:Obj):Sl (w.alloc o) S sz enc v l:=h.below ((Below.refl _ _).alloc (aN _) o)
theorem Sl.form (h:Sl w S sz enc v l):∃ A c,v=.slice A l.length c/\l.length<=c/\(∀ k (f:k<l.length),∃ b off,A=some ⟨b,off,none⟩/\b<w.heap.size/\∀ j u,(enc l[k])[j]? = some u->w.cell? ⟨b,off+(k*sz+j),none⟩=some u):=by
 obtain ⟨A,c,n,p,m⟩:=h;refine ⟨A,c,n,p,fun k f=>?_⟩;obtain ⟨b,off,r,_,q,d⟩:=m (by omega);exact ⟨b,off,r,q,d k f⟩
theorem Sl.of_own {base:Nat}{e:TypeId}(h:w.ownsRow base e sz v l.length (l.flatMap enc))(c:∀ x∈l,(enc x).length=sz)(z:∀ b,base<=b->S b):Sl w S sz enc v l:=by
 rcases h.2 with ⟨rfl,f⟩|⟨g,cap,A,rfl,y,r,p,_,_,_⟩
 ·refine ⟨none,0,by rw [f],by omega,fun h=>by omega⟩
 ·refine ⟨_,_,rfl,p,fun _=>⟨g,0,rfl,z g y,(aH.1 r).1,fun k n j u m=>?_⟩⟩;have q:j<sz:=by rw [<-c _ (getElem_mem n)];exact (List.getElem?_eq_some_iff.1 m).1
  have d:=Ub c k n j q u m;have:=h.cells (g:=g) rfl _ _ d;rw [Addr.add] at this;split at this
  ·rename_i f;rw [f];exact this
  ·exact this
end
structure EOk {α:Type} (P:Program) (t e:TypeId) (sz bytes:Nat) (enc:α->List Value):Prop where
 und:P.underlying t=some (.slice e)
 inf:∃ i z,P.info? e=some i/\i.zero=some z/\i.size=sz/\i.bytes=bytes/\z.cells.size=sz
 pos:0<sz
 len:∀ x,(enc x).length=sz
 one:∀ x,∀ u∈enc x,u.oneCell'=true
def Own (w:World)(base:Nat)(e:TypeId)(sz:Nat)(enc:α->List Value)(v:Value)(l:List α):Prop:=w.ownsRow base e sz v l.length (l.flatMap enc)
section
variable {α:Type} {P:Program} {w w':World} {S S':Nat->Prop} {t e:TypeId} {sz bytes base:Nat} {enc:α->List Value} {v:Value} {l:List α}
theorem Own.nil_:Own w base e sz enc (.slice none 0 0) ([]:List α):=World.ownsRow_nil w base e sz
theorem Own.val (h:Own w base e sz enc v l):∃ A c,v=.slice A l.length c/\l.length<=c/\c<=maxLen:=by
 rcases h.2 with ⟨rfl,f⟩|⟨g,cap,j,rfl,_,_,d,hm,_⟩
 ·exact ⟨none,0,by rw [f],by omega,by simp [maxLen]⟩
 ·exact ⟨_,_,rfl,d,hm⟩
theorem Own.sl (h:Own w base e sz enc v l)(d:EOk P t e sz bytes enc)(c:∀ b,base<=b->S b):Sl w S sz enc v l:=Sl.of_own h (fun x _=>d.len x) c
theorem Own.kept {row:Option Nat}(h:Own w base e sz enc v l)(d:w.grownBy w' row)(c:v.ownBlock=none\/v.ownBlock≠row):Own w' base e sz enc v l:=World.ownsRow.kept h d c
theorem Own.below (h:Own w base e sz enc v l)(c:Below w.heap.size w w'):Own w' base e sz enc v l :=
 h.kept (row:=none) ⟨c.os,c.tape,c.output,c.size,fun k d _=>c.block k d⟩ (by cases v.ownBlock<;>simp)
theorem Own.lt (h:Own w base e sz enc v l):∀ k,v.ownBlock=some k->base<=k/\k<w.heap.size:=World.ownsRow.lt h
theorem Own.le {base':Nat}(h:Own w base e sz enc v l)(j:base'<=base):Own w base' e sz enc v l :=
 ⟨h.1,h.2.elim aD (fun ⟨g,cap,c,d,f,r⟩=>aE ⟨g,cap,c,d,aK j f,r⟩)⟩
theorem Sl.flat (h:Sl w S sz enc v l)(f:∀ x∈l,(enc x).length=sz)(n:0<sz):∃ A c,v=.slice A l.length c/\l.length<=c/\(A=none->l=[])/\∀ ad,A=some ad->∀ j u,(l.flatMap enc)[j]? = some u->w.cell? (ad.add j)=some u:=by
 obtain ⟨A,c,rfl,F,B⟩:=h;refine ⟨A,c,rfl,F,fun D=>?_,fun ad D j u C=>?_⟩
 ·rcases aZ l.length with E|E
  ·exact aQ.1 E
  ·obtain ⟨b,off,d,_⟩:=B E;rw [D] at d;cases d
 ·have H:(l.flatMap enc).length=l.length*sz:=by
   clear F B C
   induction l with
   |nil=>simp
   |cons x r ih=>rw [aT,aJ,f x (by simp),ih (fun y G=>f y (by simp [G])),aX,aO];omega
  have I:j<l.length*sz:=by rw [<-H];exact (List.getElem?_eq_some_iff.1 C).1
  have z:j / sz<l.length:=(Nat.div_lt_iff_lt_mul n).2 I;obtain ⟨b,off,d,_,J,m⟩:=B (Nat.lt_of_le_of_lt (Nat.zero_le _) z);rw [D] at d;injection d with d
  subst d;have hm:j % sz<sz:=Nat.mod_lt _ n;have q:j / sz*sz+j % sz=j:=by rw [Nat.mul_comm];exact Nat.div_add_mod j sz
  have p:j % sz<(enc l[j / sz]).length:=by rw [f _ (getElem_mem z)];exact hm
  have k:=Ub f (j / sz) z (j % sz) hm _ (aY p);rw [q,C] at k;have:=m (j / sz) z (j % sz) _ (aY p);rw [q] at this;injection k with k
  rw [Addr.add_lit,this,k]
theorem zd5 (p:EOk P t e sz bytes enc)(ty:TypeId)(j:Own w base e sz enc v l){u:Value}{d:List α}(C:Sl w S sz enc u d)
  (B:(l.length+d.length)<=1099511627776) (n:bytes<=100) (y:base<=w.heap.size) :
  ∃ A c w',(Builtin.append_ #[t,t] ty #[v,u]).run P w=.ok (.slice A (l++d).length c) w'/\Own w' base e sz enc (.slice A (l++d).length c) (l++d)/\w.grownBy w' v.ownBlock /\
   ((Value.slice A (l++d).length c).ownBlock=v.ownBlock\/(Value.slice A (l++d).length c).ownBlock=some w.heap.size):=by
 obtain ⟨i,z,hi,N,q,G,D⟩:=p.inf;obtain ⟨A,c,rfl,R,k,m⟩:=C.flat (fun x _=>p.len x) p.pos;have F:(d.flatMap enc).length=d.length*sz:=by
  clear k m B R C
  induction d with
  |nil=>simp
  |cons x r M=>rw [aT,aJ,p.len x,M,aX,aO];omega
 have h1:∀ u∈d.flatMap enc,u.oneCell'=true:=fun u C=>by
  obtain ⟨x,_,O⟩:=mem_flatMap.1 C;exact p.one x u O
 have key:∃ v' w',(Builtin.append_ #[t,t] ty #[v,.slice A d.length c]).run P w=.ok v' w'/\w'.ownsRow base e sz v' (l.length+d.length) (l.flatMap enc++d.flatMap enc)/\w.grownBy w' v.ownBlock/\(v'.ownBlock=v.ownBlock\/v'.ownBlock=some w.heap.size):=by
  cases A with
  |none =>
   have J:=k rfl;subst J;refine ⟨v,w,?_,by simpa [Own] using j,World.grownBy.refl w _,.inl rfl⟩;rcases j.2 with ⟨rfl,J⟩|⟨g,cap,V,rfl,_,_,E,_⟩
   ·simp [Builtin.append_,run_underlying p.und,Go.sizeOf,typeInfo,hi,Builtin.lenOf,Builtin.firstCells]
   ·simp [Builtin.append_,run_underlying p.und,Go.sizeOf,typeInfo,hi,Builtin.lenOf,Builtin.firstCells,E,storeCells]
  |some ad =>
   obtain ⟨v',w',f,I,H,_,T⟩:=run_append_own_at (P:=P) w base t ty e i z sz bytes p.und hi N q G D p.pos v l.length (l.flatMap enc) j ad d.length c (d.flatMap enc) F (m ad rfl) h1
    (by simp only [maxLen];omega) (aK (Nat.mul_le_mul B n) (by omega)) y
   exact ⟨v',w',f,I,H,T⟩
 obtain ⟨v',w',f,I,H,U⟩:=key;have h:Own w' base e sz enc v' (l++d):=by
  unfold Own;rw [aJ,flatMap_append];exact I
 obtain ⟨A',W,rfl,_,_⟩:=h.val;exact ⟨A',W,w',f,h,H,U⟩
theorem Lw {ops:Array Oper}{f:List Oper}{o:Oper}{a:Act}{Q:Exit->Act->World->Prop}(n:o.guard=none)(s x:Operand)
  (B:o.op=.call { callee:=.builtin .append,args:=#[s,x],argTypes:=#[t,t] })
  (D:EOk P t e sz bytes enc) (y:a.eval s=v) (m:Own w base e sz enc v l) {u:Value} {j:List α} (q:a.eval x=u) (r:Sl w S sz enc u j)
  (p:(l.length+j.length)<=1099511627776) (d:bytes<=100) (k:base<=w.heap.size)
  (h:∀ A c w',Own w' base e sz enc (.slice A (l++j).length c) (l++j)->w.grownBy w' v.ownBlock ->
    ((Value.slice A (l++j).length c).ownBlock=v.ownBlock\/(Value.slice A (l++j).length c).ownBlock=some w.heap.size)->wpList P ops Q f (a.put o.dst (.slice A (l++j).length c)) w') :
  wpList P ops Q (o::f) a w:=by
 refine wpList_plain n fun K C=>?_
 obtain ⟨A,c,w',z,G,F,E⟩:=zd5 (P:=P) D o.type m r p d k;unfold Oper.wp execOp;simp only [B,resolve,invoke,builtin,Sem.run_bind,Sem.run_pure,Result.andThen_ok,map_toArray,map_cons,map_nil,y,q,z];exact C _ _ (h A c w' G F E)
end
variable {a b:World}
theorem Below.next {c:World}(h:Below a.heap.size a b)(k:Below b.heap.size b c):Below a.heap.size a c:=h.trans (k.mono h.size)
variable {w:World}{e:TypeId}
theorem Own.made_:Own (w.alloc (.cells #[] e)) w.heap.size e sz enc (.slice (some ⟨w.heap.size,0,none⟩) 0 0) ([]:List α) :=
 World.ownsRow_made w #[] 0 (aN _) (by simp [maxLen]) (by simp)
variable {w':World}
theorem Own.grown {B base:Nat}{w0:World}{v:Value}(h:Own w base e sz enc v l)(j:Below B w0 w)(m:B<=base)(c:B<=w.heap.size)(f:w.grownBy w' v.ownBlock):Below B w0 w' :=
 j.grown f c (fun k d=>aK m (h.lt k d).1)
def Ms (e:TypeId)(sz:Nat)(enc:α->List Value)(l:List α)(w0:World)(r:Ending)(w':World):Prop:=∃ A c,r=.returned (.slice A l.length c)/\Own w' w0.heap.size e sz enc (.slice A l.length c) l/\Below w0.heap.size w0 w'
variable {S:Nat->Prop}
theorem Sl.none_nil {n c:Nat}(h:Sl w S sz enc (.slice none n c) l):l=[]:=by
 obtain ⟨A,m,f,_,k⟩:=h;injection f with f _ _
 rcases aZ l.length with j|j
 ·exact aQ.1 j
 ·obtain ⟨b,off,d,_⟩:=k j;rw [<-f] at d;cases d
def zwu (P:Program)(g:Nat)(lb:Array Value)(arg:α->Value)(p:α->Bool)(w:World):Prop:=∀ (W:World) (x:α),Below w.heap.size w W->Calls P g (#[arg x]++lb) W fun e w'=>e=.returned (.bool (p x))/\Below W.heap.size W w'
variable {g:Nat}
theorem zwu.later {P:Program}{lb:Array Value}{arg:α->Value}{p:α->Bool}{w1:World}(h:zwu P g lb arg p w)(c:Below w.heap.size w w1):zwu P g lb arg p w1 :=
 fun W x d=>h W x (c.trans (d.mono c.size))
def Blk (w:World)(g:Nat)(t:TypeId)(cs:Array Value):Prop:=w.heap[g]? = some (.cells cs t (0,0))
section
variable {w w':World} {g:Nat} {t:TypeId} {cs:Array Value}
theorem Blk.lt (h:Blk w g t cs):g<w.heap.size:=by
 rcases bB g w.heap.size with c|d
 ·exact c
 ·unfold Blk at h;rw [Array.getElem?_eq_none d] at h;cases h
theorem Blk.cell (h:Blk w g t cs)(i:Nat):w.cell? ⟨g,i,none⟩=cs[i]? := cell_of_row w g i cs t (0,0) h
theorem Blk.frozen (h:Blk w g t cs)(i:Nat):w.frozen? ⟨g,i,none⟩=false:=by
 unfold Blk at h;simp [World.frozen?,h]
theorem Blk.shape (h:Blk w g t cs):w.shape? g=some (t,cs.size):=by unfold Blk at h;simp [World.shape?,h]
theorem Blk.new (w:World)(t:TypeId)(cs:Array Value):Blk (w.alloc (.cells cs t)) w.heap.size t cs:=heap_alloc_new w _
theorem Blk.alloc (h:Blk w g t cs)(o:Obj):Blk (w.alloc o) g t cs:=(Below.heap_alloc w o g h.lt).trans h
theorem Blk.below (h:Blk w g t cs)(c:Below w.heap.size w w'):Blk w' g t cs:=(c.block g h.lt).trans h
theorem Blk.set (h:Blk w g t cs)(i:Nat)(u:Value):Blk (w.setCell ⟨g,i,none⟩ u) g t (cs.setIfInBounds i u):=by
 unfold Blk at h ⊢;simp [World.setCell,Array.getElem?_modify,h]
theorem Blk.grown {row:Option Nat}(h:Blk w g t cs)(d:w.grownBy w' row)(c:some g≠row):Blk w' g t cs:=(d.block g h.lt c).trans h
end
section
variable {P:Program} {w:World}
theorem zfo (elem:TypeId)(sz:Nat)(dT sT ty:TypeId)(q:P.underlying dT=some (.slice elem))(d:(P.info? elem).map (·.size)=some sz)(g off dLen dCap sLen sCap:Nat)(ad:Addr)(t:TypeId)(c:List Value)(p:Blk w g t c.toArray)(cs:List Value)
  (r:cs.length=aS sLen dLen*sz) (f:∀ j v,cs[j]? = some v->w.cell? (ad.add j)=some v) (h:off+cs.length<=c.length) (h1:∀ v∈cs,v.oneCell'=true) :
  ∃ w',(Builtin.copy_ #[dT,sT] ty #[.slice (some ⟨g,off,none⟩) dLen dCap,.slice (some ad) sLen sCap]).run P w=.ok (goInt (aS sLen dLen)) w' /\
   Blk w' g t (c.take off++cs++c.drop (off+cs.length)).toArray/\w.grownBy w' (some g):=by
 have u:=run_firstCells_some (P:=P) w sz (aS sLen dLen) ad sLen sCap cs r f;have m:=run_storeCells_at P g off t cs 0 c.toArray w p (by simpa using h) h1;refine ⟨_,?_,setRow_heap w g c.toArray _ t _ p,⟨rfl,rfl,rfl,by simp,fun k _ x=>setRow_other w g k _ (fun e=>x (by rw [e]))⟩⟩;cases n:P.info? elem with
 |none=>simp [n] at d
 |some i =>
  have hi:i.size=sz:=by simpa [n] using d
  simp [Builtin.copy_,run_underlying q,Builtin.lenOf,Go.sizeOf,typeInfo,n,hi,u,m]
variable {o:Oper}{K:Act->World->Prop}{Q:Exit->Act->World->Prop}
theorem z8t {a:Act}(d s:Operand)(dT sT:TypeId)
  (r:o.op=.call { callee:=.builtin .copy,args:=#[d,s],argTypes:=#[dT,sT] }) (elem:TypeId) (sz:Nat) (n:P.underlying dT=some (.slice elem)) (m:(P.info? elem).map (·.size)=some sz)
  (g off dLen dCap sLen sCap:Nat) (ad:Addr) (y:a.eval d=.slice (some ⟨g,off,none⟩) dLen dCap) (p:a.eval s=.slice (some ad) sLen sCap) (t:TypeId) (c:List Value) (x:Blk w g t c.toArray) (cs:List Value)
  (u:cs.length=aS sLen dLen*sz) (f:∀ j v,cs[j]? = some v->w.cell? (ad.add j)=some v) (k:off+cs.length<=c.length) (h1:∀ v∈cs,v.oneCell'=true)
  (h:∀ w',Blk w' g t (c.take off++cs++c.drop (off+cs.length)).toArray->w.grownBy w' (some g)->K (a.put o.dst (goInt (aS sLen dLen))) w'):o.wp P a w K Q:=by
 obtain ⟨w',q,A,z⟩:=zfo (P:=P) (w:=w) elem sz dT sT o.type n m g off dLen dCap sLen sCap ad t c x cs u f k h1;unfold Oper.wp execOp;simp only [r,resolve,invoke,builtin,Sem.run_bind,Sem.run_pure,Result.andThen_ok,map_toArray,map_cons,map_nil,y,p,q];exact h w' A z
variable {ops:Array Oper}
theorem z5k {f:List Oper}{a:Act}(p:o.guard=none)(d s:Operand)(dT sT:TypeId)
  (u:o.op=.call { callee:=.builtin .copy,args:=#[d,s],argTypes:=#[dT,sT] }) (elem:TypeId) (sz:Nat) (q:P.underlying dT=some (.slice elem)) (n:(P.info? elem).map (·.size)=some sz)
  (g off dLen dCap sLen sCap:Nat) (ad:Addr) (z:a.eval d=.slice (some ⟨g,off,none⟩) dLen dCap) (r:a.eval s=.slice (some ad) sLen sCap) (t:TypeId) (c:List Value) (y:Blk w g t c.toArray) (cs:List Value)
  (x:cs.length=aS sLen dLen*sz) (k:∀ j v,cs[j]? = some v->w.cell? (ad.add j)=some v) (m:off+cs.length<=c.length) (h1:∀ v∈cs,v.oneCell'=true)
  (h:∀ w',Blk w' g t (c.take off++cs++c.drop (off+cs.length)).toArray->w.grownBy w' (some g)->wpList P ops Q f (a.put o.dst (goInt (aS sLen dLen))) w'):wpList P ops Q (o::f) a w :=
 wpList_plain p fun _ A=>z8t d s dT sT u elem sz q n g off dLen dCap sLen sCap ad z r t c y cs x k m h1 fun w' C B=>A _ _ (h w' C B)
theorem z7i {a:Act}{E:Prop}(n:o.guard=none)(d s:Operand)(dT sT:TypeId)
  (r:o.op=.call { callee:=.builtin .copy,args:=#[d,s],argTypes:=#[dT,sT] }) (elem:TypeId) (sz:Nat) (p:P.underlying dT=some (.slice elem)) (m:(P.info? elem).map (·.size)=some sz)
  (g off dLen dCap sLen sCap:Nat) (ad:Addr) (y:a.eval d=.slice (some ⟨g,off,none⟩) dLen dCap) (q:a.eval s=.slice (some ad) sLen sCap) (t:TypeId) (c:List Value) (x:Blk w g t c.toArray) (cs:List Value)
  (u:cs.length=aS sLen dLen*sz) (f:∀ j v,cs[j]? = some v->w.cell? (ad.add j)=some v) (k:off+cs.length<=c.length) (h1:∀ v∈cs,v.oneCell'=true)
  (h:∀ w',Blk w' g t (c.take off++cs++c.drop (off+cs.length)).toArray->w.grownBy w' (some g)->K (a.put o.dst (goInt (aS sLen dLen))) w') :
  if Region.wanted o (yielded ops a.tmps)=true then Oper.wp P o a w K Q else E:=by
 rw [if_pos (by simp [Region.wanted,n])];exact z8t d s dT sT r elem sz p m g off dLen dCap sLen sCap ad y q t c x cs u f k h1 h
end
theorem z9o (F1 F2 R X:List α)(p s q:Nat)(h1:F1.length=p)(m:F2.length=q)(d:X.length=s)(k:s<=R.length) :
  ((((F1++F2++R).take (p+s)++F2++(F1++F2++R).drop (p+s+F2.length)).take p++X++((F1++F2++R).take (p+s)++F2++(F1++F2++R).drop (p+s+F2.length)).drop (p+X.length)).take (p+s+q))=F1++X++F2:=by
 have f:((F1++F2++R).take (p+s)).length=p+s:=by simp;omega
 have c:((F1++F2++R).take (p+s)).take p=F1:=by
  rw [take_take,Nat.min_eq_left (by omega),aU,aB (by omega),aG (by omega)]
 generalize (F1++F2++R).take (p+s)=A at *;generalize (F1++F2++R).drop (p+s+F2.length)=D;have j:(A++F2++D).take p=F1:=by rw [aU,aB (by omega),c]
 have h:(A++F2++D).drop (p+X.length)=F2++D:=by rw [aU,d,<-f,drop_left]
 rw [j,h,<-aU,aB (by simp;omega),aG (by simp;omega)]
theorem zh2 (F1 F2 Z X:List α)(p s q:Nat)(h1:F1.length=p)(j:F2.length=q)(h:X.length=s)(f:s+q<=Z.length) :
  ((((F1++Z).take p++X++(F1++Z).drop (p+X.length)).take (p+s)++F2++((F1++Z).take p++X++(F1++Z).drop (p+X.length)).drop (p+s+F2.length)).take (p+s+q))=F1++X++F2:=by
 have d:(F1++Z).take p=F1:=by rw [aB (by omega),aG (by omega)]
 rw [d];generalize (F1++Z).drop (p+X.length)=D;have c:(F1++X++D).take (p+s)=F1++X:=by rw [aB (by simp;omega),aG (by simp;omega)]
 rw [c,aB (by simp;omega),aG (by simp;omega)]
theorem Za (h:∀ x,(enc x).length=sz)(l:List α):(l.flatMap enc).length=l.length*sz:=by
 induction l with
 |nil=>simp
 |cons x r c=>rw [aT,aJ,h x,c,aX,aO];omega
theorem zkf (h:∀ x,∀ u∈enc x,u.oneCell'=true)(l:List α):∀ u∈l.flatMap enc,u.oneCell'=true:=fun u d=>by
 obtain ⟨x,_,c⟩:=mem_flatMap.1 d;exact h x u c
variable {row:Option Nat}
theorem z7p {c:World}(h:a.grownBy b row)(k:b.grownBy c row):a.grownBy c row :=
 ⟨k.os.trans h.os,k.tape.trans h.tape,k.output.trans h.output,aK h.size k.size,fun i hi d=>(k.block i (aA hi h.size) d).trans (h.block i hi d)⟩
theorem z7q {o:Obj}(h:(a.alloc o).grownBy b (some a.heap.size))(row:Option Nat):a.grownBy b row :=
 ⟨h.os,h.tape,h.output,by have:=h.size;rw [World.size_alloc] at this;omega,fun i hi _=>(h.block i (by rw [World.size_alloc];omega) (by simp;omega)).trans (Below.heap_alloc a o i hi)⟩
theorem Own.of_blk {base c:Nat}{d:List Value}(h:Blk w g e d.toArray)(k:base<=g)(f:l.length<=c)(j:c<=maxLen)(n:d.length=c*sz)
  (m:d.take (l.length*sz)=l.flatMap enc) (p:∀ x,(enc x).length=sz):Own w base e sz enc (.slice (some ⟨g,0,none⟩) l.length c) l :=
 ⟨Za p l,aE ⟨g,c,d.toArray,rfl,k,h,f,j,by simpa using n,m⟩⟩
theorem Yy (h:a.drew.grownBy b row):a.grownBy b row:=⟨h.os,h.tape,h.output,h.size,h.block⟩
structure Pt where
 seq:Int
 time:Int
deriving DecidableEq
structure Trk where
 next:Int
 beyond:List Int
 points:List Pt
 mark:Int
deriving DecidableEq
inductive Dv where
 |sub (sz lo:Nat)
 |con
 |nelt (k:Nat)
 |obj (j:Nat)
 |oelt (j k:Nat)
 |gs (sz lo n:Nat)
deriving Inhabited
def Mu:Value->Bool |.tuple _=>true |.agg _=>true |_=>false
def Dv.of:Dv->Value->Value
 |.sub sz lo,.slice (some a) n c=>.slice (some (if c=lo then a else ⟨a.block,a.off+lo*sz,none⟩)) (n-lo) (c-lo)
 |.sub _ _,.slice none n c=>.slice none (n-0) (c-0)
 |.gs sz lo n,.slice (some a) _ c=>.slice (some (if c=lo then a else ⟨a.block,a.off+lo*sz,none⟩)) n (c-lo)
 |.gs _ _ n,.slice none _ c=>.slice none n c
 |.con,.slice A n c=>.slice A n c
 |.nelt k,.slice (some a) _ _=>.pointer (some ⟨a.block,a.off+k,none⟩)
 |.con,.tuple vs=>vs.getD 0 undef
 |.nelt k,.tuple vs=>match vs.getD 0 undef with|.slice (some a) _ _=>.pointer (some ⟨a.block,a.off+k,none⟩)|v=>v
 |.con,.agg vs=>vs.getD 0 undef
 |.nelt k,.agg vs=>match vs.getD 0 undef with|.slice (some a) _ _=>.pointer (some ⟨a.block,a.off+k,none⟩)|v=>v
 |.obj j,.agg vs=>vs.getD (j+1) undef
 |.oelt j k,.agg vs=>match vs.getD (j+1) undef with|.slice (some a) _ _=>.pointer (some ⟨a.block,a.off+k,none⟩)|v=>v
 |_,_=>undef
def Dv.ok:Dv->Value->Bool |.obj j,.agg vs=>bD (j+1) vs.size |.oelt j _,.agg vs=>bD (j+1) vs.size |.obj _,_=>false |.oelt _ _,_=>false |_,_=>true
def Born (es:Array MapEntry)(clock:Nat):Prop:=(es.toList.map (·.born)).Nodup/\∀ e∈es.toList,e.born<clock
inductive AV where
 |any
 |int (k:IntKind) (n:Int)
 |bool (b:Bool)
 |str (s:ByteArray)
 |nilp
 |ptr (id off:Nat)
 |nils
 |sl (sz:Nat) (xs:List AV)
 |row (id:Nat)
 |elt (id sz k j:Nat)
 |fn (f:FuncId) (cap:List AV)
 |yld (l:Nat) (T:Array Value) (cap:List AV)
 |nilf
 |agg (cs:List AV)
 |tup (cs:List AV)
 |ref (cs:List AV)
 |der (φ:Dv) (id:Nat)
 |mapv (ps:List (AV×AV))
 |slen (n:Nat)
 |cont (n id:Nat)
deriving Inhabited
def intN:AV->Int |.int _ n=>n |_=>0
def isI (kd:IntKind):AV->Bool |.int k _=>decide (k=kd) |_=>false
def zze (ps:List (AV×AV)):Prop:=∃ kd,(∀ p∈ps,isI kd p.1=true)/\(ps.map fun p=>intN p.1).Nodup
def Mz (c ps:List (AV×AV)):Prop:=c=ps\/(c.Perm ps/\zze ps)
def AV.cells:AV->List AV |.agg cs=>cs |x=>[x]
mutual
def AV.closed:AV->Bool |.ptr _ _=>false |.row _=>false |.elt _ _ _ _=>false |.der _ _=>false |.cont _ _=>false |.fn _ cap=>AV.closedL cap |.yld _ _ cap=>AV.closedL cap |.agg cs=>AV.closedL cs |.tup cs=>AV.closedL cs |_=>true
def AV.closedL:List AV->Bool |[]=>true |x::r=>x.closed && AV.closedL r
end
theorem AV.closedL_at {l:List AV}(h:AV.closedL l=true)(i:Nat)(hi:i<l.length):l[i].closed=true:=by
 induction l generalizing i with
 |nil=>simp at hi
 |cons x r ih =>
  simp only [AV.closedL,Bool.and_eq_true] at h;cases i with
  |zero=>exact h.1
  |succ i=>exact ih h.2 i (by simpa using hi)
abbrev Gam:=Nat->Option (Option (Option Nat×Value))
def G0:Gam:=fun _=>none
inductive Rep (w:World) (S:Nat->Prop):Gam->AV->Value->Prop
 |any {γ:Gam} (v:Value):Rep w S γ .any v
 |int {γ:Gam} (k:IntKind) (n:Int):Rep w S γ (.int k n) (.int k n)
 |bool {γ:Gam} (b:Bool):Rep w S γ (.bool b) (.bool b)
 |str {γ:Gam} (s:ByteArray):Rep w S γ (.str s) (.string s)
 |nilp {γ:Gam}:Rep w S γ .nilp (.pointer none)
 |ptr {γ:Gam} {id off:Nat} {v:Value} {d:Option (Option Nat×Value)} (h:γ id=some d) (hv:∀ g s,d=some (some g,s)->v=.pointer (some ⟨g,off,none⟩)):Rep w S γ (.ptr id off) v
 |elt {γ:Gam} {id sz k j:Nat} {v:Value} {d:Option (Option Nat×Value)} (h:γ id=some d) (hv:∀ g s,d=some (some g,s)->v=.pointer (some ⟨g,k*sz+j,none⟩)):Rep w S γ (.elt id sz k j) v
 |nils {γ:Gam}:Rep w S γ .nils (.slice none 0 0)
 |sl {γ:Gam} {sz:Nat} {xs:List AV} (A:Option Addr) (c:Nat) (cell:Nat->Nat->Value) (hc:xs.length<=c) (hlen:∀ k (hk:k<xs.length),(xs[k]).cells.length=sz)
   (hb:0<xs.length->∃ b off,A=some ⟨b,off,none⟩/\S b/\b<w.heap.size/\∀ k j,k<xs.length->j<sz->w.cell? ⟨b,off+(k*sz+j),none⟩=some (cell k j))
   (hr:∀ k (hk:k<xs.length) j (hj:j<(xs[k]).cells.length),Rep w S G0 ((xs[k]).cells[j]) (cell k j)) (h1:∀ k j,(cell k j).oneCell'=true):Rep w S γ (.sl sz xs) (.slice A xs.length c)
 |row {γ:Gam} {id:Nat} {v:Value} {d:Option (Option Nat×Value)} (h:γ id=some d) (hv:∀ g s,d=some (g,s)->Mu s=false->v=s):Rep w S γ (.row id) v
 |fn {γ:Gam} {f:FuncId} {cap:List AV} (vs:Array Value) (hl:vs.size=cap.length) (hr:∀ i (hi:i<cap.length),Rep w S γ cap[i] (vs.getD i undef)):Rep w S γ (.fn f cap) (.func (.func f) #[] vs)
 |yld {γ:Gam} {l:Nat} {T:Array Value} {cap:List AV} (hr:∀ i (hi:i<cap.length),Rep w S γ cap[i] (T.getD i undef)):Rep w S γ (.yld l T cap) (.func (.yield l) #[] #[])
 |nilf {γ:Gam}:Rep w S γ .nilf .nilFunc
 |agg {γ:Gam} {cs:List AV} (vs:Array Value) (hl:vs.size=cs.length) (hr:∀ i (hi:i<cs.length),Rep w S γ cs[i] (vs.getD i undef)) (h1:∀ i,i<vs.size->(vs.getD i undef).oneCell'=true):Rep w S γ (.agg cs) (.agg vs)
 |tup {γ:Gam} {cs:List AV} (vs:Array Value) (hl:vs.size=cs.length) (hr:∀ i (hi:i<cs.length),Rep w S γ cs[i] (vs.getD i undef)):Rep w S γ (.tup cs) (.tuple vs)
 |ref {γ:Gam} {cs:List AV} (b off:Nat) (cell:Nat->Value) (hS:S b) (hb:b<w.heap.size) (hc:∀ j,j<cs.length->w.cell? ⟨b,off+j,none⟩=some (cell j))
   (hr:∀ j (hj:j<cs.length),Rep w S G0 cs[j] (cell j)) (h1:∀ j,j<cs.length->(cell j).oneCell'=true):Rep w S γ (.ref cs) (.pointer (some ⟨b,off,none⟩))
 |der {γ:Gam} {φ:Dv} {id:Nat} {v:Value} {d:Option (Option Nat×Value)} (h:γ id=some d) (hv:∀ g s,d=some (g,s)->φ.ok s=true/\v=φ.of s):Rep w S γ (.der φ id) v
 |mapv {γ:Gam} {ps:List (AV×AV)} (ps0:List (AV×AV)) (hp:Mz ps0 ps) (g:Nat) (es:Array MapEntry) (clock:Nat) (hb:Born es clock) (hS:S g) (hg:g<w.heap.size) (hh:w.heap[g]? = some (.map es clock)) (hl:es.size=ps0.length)
   (hk:∀ j (h:j<es.toList.length) (h':j<ps0.length),Rep w S G0 (ps0[j]).1 (es.toList[j]).key) (hv:∀ j (h:j<es.toList.length) (h':j<ps0.length),Rep w S G0 (ps0[j]).2 (es.toList[j]).val):Rep w S γ (.mapv ps) (.map (some g))
 |mapn {γ:Gam}:Rep w S γ (.mapv []) (.map none)
 |slen {γ:Gam} (A:Option Addr) (n c:Nat):Rep w S γ (.slen n) (.slice A n c)
 |cont {γ:Gam} {n id:Nat} {v:Value} {d:Option (Option Nat×Value)} (h:γ id=some d) (hv:∀ g s,d=some (g,s)->v=Dv.con.of s) (hl:∃ A c,v=.slice A n c/\(0<n->∃ b off,A=some ⟨b,off,none⟩)):Rep w S γ (.cont n id) v
section
variable {w w':World} {S S':Nat->Prop} {γ γ':Gam} {av:AV} {v:Value}
theorem Rep.mono (h:Rep w S γ av v)(F:w.heap.size<=w'.heap.size)(z:∀ b,S b->b<w.heap.size->w'.heap[b]? = w.heap[b]? /\ S' b):Rep w' S' γ av v:=by
 induction h with
 |any=>exact .any _
 |int=>exact .int _ _
 |bool=>exact .bool _
 |str=>exact .str _
 |nilp=>exact .nilp
 |ptr h m=>exact .ptr h m
 |elt h m=>exact .elt h m
 |nils=>exact .nils
 |sl A c cell H y r u h1 d =>
  refine .sl A c cell H y (fun T=>?_) (fun k z j G=>d k z j G) h1;obtain ⟨b,off,O,B,x,q⟩:=r T;obtain ⟨e,f⟩:=z b B x;exact ⟨b,off,O,f,aA x F,fun k j h1 R=>(World.cell?_of_block (w:=w) (a:=⟨b,_,none⟩) e).trans (q k j h1 R)⟩
 |row h m=>exact .row h m
 |fn vs p u d=>exact .fn vs p d
 |yld u d=>exact .yld d
 |nilf=>exact .nilf
 |agg vs p u h1 d=>exact .agg vs p d h1
 |tup vs p u d=>exact .tup vs p d
 |ref b off cell B r H u h1 d =>
  obtain ⟨e,f⟩:=z b B r;exact .ref b off cell f (aA r F) (fun j G=>(World.cell?_of_block (w:=w) (a:=⟨b,_,none⟩) e).trans (H j G)) d h1
 |der h m=>exact .der h m
 |mapv C J g es clock r B I N p M m E D =>
  obtain ⟨e,f⟩:=z g B I;exact .mapv C J g es clock r f (aA I F) (e.trans N) p E D
 |mapn=>exact .mapn
 |cont h m p=>exact .cont h m p
 |slen A n c=>exact .slen A n c
def Turn (γ:Gam)(id:Nat)(d:Option (Option Nat×Value)):Prop:=∃ s f,d=some (none,s)/\γ id=some (some (none,f))/\Mu s=true/\Mu f=true/\∀ c:Dv,c.ok s=true->c.ok f=true/\c.of f=c.of s
theorem Rep.gam (h:Rep w S γ av v)(r:∀ id d,γ id=some d->γ' id=some d\/γ' id=some none\/Turn γ' id d):Rep w S γ' av v:=by
 induction h with
 |any=>exact .any _
 |int=>exact .int _ _
 |bool=>exact .bool _
 |str=>exact .str _
 |nilp=>exact .nilp
 |ptr h k =>
  rcases r _ _ h with f|f|⟨z,E,m,f,D,y,j⟩
  ·exact .ptr f k
  ·exact .ptr f (fun g s e=>by cases e)
  ·exact .ptr f (fun g s e=>by cases e)
 |elt h k =>
  rcases r _ _ h with f|f|⟨z,E,m,f,D,y,j⟩
  ·exact .elt f k
  ·exact .elt f (fun g s e=>by cases e)
  ·exact .elt f (fun g s e=>by cases e)
 |nils=>exact .nils
 |sl A c cell x B C u h1 q=>exact .sl A c cell x B C u h1
 |row h k =>
  rcases r _ _ h with f|f|⟨z,E,m,f,D,y,j⟩
  ·exact .row f k
  ·exact .row f (fun g s e _=>by cases e)
  ·exact .row f (fun g s e x=>by injection e with e;injection e with _ e;subst e;rw [y] at x;cases x)
 |fn vs p u q=>exact .fn vs p (fun i hi=>q i hi r)
 |yld u q=>exact .yld (fun i hi=>q i hi r)
 |nilf=>exact .nilf
 |agg vs p u h1 q=>exact .agg vs p (fun i hi=>q i hi r) h1
 |tup vs p u q=>exact .tup vs p (fun i hi=>q i hi r)
 |ref b off cell H C x u h1 q=>exact .ref b off cell H C x u h1
 |der h k =>
  rcases r _ _ h with f|f|⟨z,E,m,f,D,y,j⟩
  ·exact .der f k
  ·exact .der f (fun g s e=>by cases e)
  ·exact .der f (fun g s e=>by
    injection e with e;injection e with _ e;subst e
    obtain ⟨N,M⟩:=k _ _ m;obtain ⟨J,I⟩:=j _ N;exact ⟨J,M.trans I.symm⟩)
 |cont h k p =>
  rcases r _ _ h with f|f|⟨z,E,m,f,D,y,j⟩
  ·exact .cont f k p
  ·exact .cont f (fun g s e=>by cases e) p
  ·exact .cont f (fun g s e=>by injection e with e;injection e with _ e;subst e;rw [(j .con (by cases z<;>rfl)).2];exact k _ _ m) p
 |mapv F T g es clock C H G V p U k R O=>exact .mapv F T g es clock C H G V p U k
 |mapn=>exact .mapn
 |slen A n c=>exact .slen A n c
theorem Rep.open_ (h:Rep w S G0 av v):Rep w S γ' av v:=h.gam (fun id d h=>by cases h)
theorem Rep.close (h:Rep w S γ av v)(d:av.closed=true):Rep w S γ' av v:=by
 induction h with
 |any=>exact .any _
 |int=>exact .int _ _
 |bool=>exact .bool _
 |str=>exact .str _
 |nilp=>exact .nilp
 |ptr h m=>simp [AV.closed] at d
 |elt h m=>simp [AV.closed] at d
 |nils=>exact .nils
 |sl A c cell x p q k h1 f=>exact .sl A c cell x p q k h1
 |row h m=>simp [AV.closed] at d
 |fn vs j k f=>simp only [AV.closed] at d;exact .fn vs j (fun i hi=>f i hi (AV.closedL_at d i hi))
 |yld k f=>simp only [AV.closed] at d;exact .yld (fun i hi=>f i hi (AV.closedL_at d i hi))
 |nilf=>exact .nilf
 |agg vs j k h1 f=>simp only [AV.closed] at d;exact .agg vs j (fun i hi=>f i hi (AV.closedL_at d i hi)) h1
 |tup vs j k f=>simp only [AV.closed] at d;exact .tup vs j (fun i hi=>f i hi (AV.closedL_at d i hi))
 |ref b off cell y q x k h1 f=>exact .ref b off cell y q x k h1
 |cont h m j=>simp [AV.closed] at d
 |der h m=>simp [AV.closed] at d
 |mapv r C g es clock q y u E j D m B z=>exact .mapv r C g es clock q y u E j D m
 |mapn=>exact .mapn
 |slen A n c=>exact .slen A n c
def AV.one:AV->Bool |.any|.agg _|.tup _|.ptr _ _|.row _|.elt _ _ _ _|.der _ _=>false |_=>true
theorem Rep.one (h:Rep w S γ av v)(h1:av.one=true):v.oneCell'=true:=by
 cases h<;>first|rfl|(rename_i c;obtain ⟨_,_,rfl,_⟩:=c;rfl)|(simp [AV.one] at h1;done)
theorem Rep.int_inv {k:IntKind}{n:Int}(h:Rep w S γ (.int k n) v):v=.int k n:=by cases h;rfl
theorem Rep.bool_inv {b:Bool}(h:Rep w S γ (.bool b) v):v=.bool b:=by cases h;rfl
theorem Rep.str_inv {s:ByteArray}(h:Rep w S γ (.str s) v):v=.string s:=by cases h;rfl
variable {id:Nat}{s:Value}
theorem Rep.ptr_inv {off:Nat}(h:Rep w S γ (.ptr id off) v)(d:γ id=some (some (some g,s))):v=.pointer (some ⟨g,off,none⟩):=by
 cases h with
 |ptr h c=>rw [d] at h;injection h with h;exact c g s h.symm
theorem Rep.elt_inv {k j:Nat}(h:Rep w S γ (.elt id sz k j) v)(d:γ id=some (some (some g,s))):v=.pointer (some ⟨g,k*sz+j,none⟩):=by
 cases h with
 |elt h c=>rw [d] at h;injection h with h;exact c g s h.symm
theorem Rep.nils_inv (h:Rep w S γ .nils v):v=.slice none 0 0:=by cases h;rfl
variable {cs:List AV}
theorem Rep.ref_inv (h:Rep w S γ (.ref cs) v):∃ b off,v=.pointer (some ⟨b,off,none⟩)/\S b/\b<w.heap.size/\∃ cell:Nat->Value,(∀ j,j<cs.length->w.cell? ⟨b,off+j,none⟩=some (cell j))/\(∀ j (m:j<cs.length),Rep w S G0 cs[j] (cell j))/\∀ j,j<cs.length->(cell j).oneCell'=true:=by
 cases h with
 |ref b off cell k f d c h1=>exact ⟨b,off,rfl,k,f,cell,d,c,h1⟩
theorem F9 (h:s.oneCell'=true):Mu s=false:=by cases s<;>first|rfl|simp [Value.oneCell'] at h
theorem Rep.sl_tup {xs:List AV}(h:Rep w S γ (.sl sz xs) v):Mu v=false:=by cases h;rfl
theorem Rep.row_inv {g:Option Nat}(h:Rep w S γ (.row id) v)(f:γ id=some (some (g,s)))(d:Mu s=false:=by first|rfl|assumption|(apply F9;assumption)|(apply Rep.sl_tup;assumption)):v=s:=by
 cases h with
 |row h c=>rw [f] at h;injection h with h;exact c g s h.symm d
theorem Rep.der_inv {c:Dv}{g:Option Nat}(h:Rep w S γ (.der c id) v)(f:γ id=some (some (g,s))):v=c.of s:=by
 cases h with
 |der h d=>rw [f] at h;injection h with h;exact (d g s h.symm).2
theorem Rep.agg_inv (h:Rep w S γ (.agg cs) v):∃ vs:Array Value,v=.agg vs/\vs.size=cs.length/\(∀ i (hi:i<cs.length),Rep w S γ cs[i] (vs.getD i undef))/\∀ i,i<vs.size->(vs.getD i undef).oneCell'=true:=by
 cases h with
 |agg vs d c h1=>exact ⟨vs,rfl,d,c,h1⟩
theorem Rep.tup_inv (h:Rep w S γ (.tup cs) v):∃ vs:Array Value,v=.tuple vs/\vs.size=cs.length/\∀ i (hi:i<cs.length),Rep w S γ cs[i] (vs.getD i undef):=by
 cases h with
 |tup vs d c=>exact ⟨vs,rfl,d,c⟩
theorem Rep.fn_inv {f:FuncId}(h:Rep w S γ (.fn f cs) v):∃ vs:Array Value,v=.func (.func f) #[] vs/\vs.size=cs.length/\∀ i (hi:i<cs.length),Rep w S γ cs[i] (vs.getD i undef):=by
 cases h with
 |fn vs d c=>exact ⟨vs,rfl,d,c⟩
theorem Rep.yld_inv {l:Nat}{T:Array Value}(h:Rep w S γ (.yld l T cs) v):v=.func (.yield l) #[] #[]/\∀ i (hi:i<cs.length),Rep w S γ cs[i] (T.getD i undef):=by
 cases h with
 |yld c=>exact ⟨rfl,c⟩
theorem Rep.sl_inv {xs:List AV}(h:Rep w S γ (.sl sz xs) v):∃ A c,v=.slice A xs.length c/\xs.length<=c/\(∀ k (m:k<xs.length),(xs[k]).cells.length=sz) /\
  ∃ cell:Nat->Nat->Value,(0<xs.length->∃ b off,A=some ⟨b,off,none⟩/\S b/\b<w.heap.size/\∀ k j,k<xs.length->j<sz->w.cell? ⟨b,off+(k*sz+j),none⟩=some (cell k j)) /\
   (∀ k (m:k<xs.length) j (q:j<(xs[k]).cells.length),Rep w S G0 ((xs[k]).cells[j]) (cell k j))/\∀ k j,(cell k j).oneCell'=true:=by
 cases h with
 |sl A c cell n d p f h1=>exact ⟨A,c,rfl,n,d,cell,p,f,h1⟩
end
def gls0:List (Nat×Array Value):=let i (n:Int):Value:=.int .i64 n;let t:Value:=.bool true;let f:Value:=.bool false
 [(0,#[i 0,i 0,t,t,f,f,i 2,i 64,f,f,f,f,i 2,i 64,f,f,f,f,i 2,i 64,f,f,f,f,i 1,i 1,f,f,f,f,i 1,i 1,t,t,t,f,i 1,i 1,f,f,t,t,i 1,i 1,f,t,f,f,i 2,i 2,f,f,f,f,i 1,i 1,t,t,t,f,i 1,i 1,f,f,t,t])]
open Go.RowKit
def lstB:Bool->LoopState |true=>.busy |false=>.ready
inductive NE where
 |row (ty sz:Nat) (xs:List AV)
 |mp (ps:List (AV×AV))
 |hole
deriving Inhabited
inductive Ent where
 |box (ty:TypeId) (cells:List AV)
 |row (ty:TypeId) (sz:Nat) (xs:List AV)
 |mp (ps:List (AV×AV))
 |nest (ty:TypeId) (es:List NE)
 |mpn (ps:List (AV×NE))
 |are (ty:TypeId) (idx:List (Option Nat)) (os:List NE)
 |it (ps:List (AV×AV))
 |itp (ps:List (AV×AV))
 |itc (p:AV×AV) (ps:List (AV×AV))
 |dead
 |gen (ty:TypeId) (sz:Nat) (xs:List AV)
 |lp (fn:FuncId) (ps:Array Tmp) (assign body:Code) (nt:Nat) (busy:Bool) (caps:List AV)
deriving Inhabited
structure AS where
 tm:List (Nat×AV)
 me:List (Nat×Ent)
deriving Inhabited
def lkV:List (Nat×AV)->Nat->AV
 |[],_=>.any
 |(u,x)::r,t=>match aM u t with|true=>x|false=>lkV r t
def lkE:List (Nat×Ent)->Nat->Option Ent
 |[],_=>none
 |(u,x)::r,t=>match aM u t with|true=>some x|false=>lkE r t
def AS.get (σ:AS)(t:Nat):AV:=lkV σ.tm t
def AS.find (σ:AS)(i:Nat):Option Ent:=lkE σ.me i
def putD (d:Option Nat)(v:AV)(l:List (Nat×AV)):List (Nat×AV):=match d with|some d=>(d,v)::l|none=>l
def AS.upd (σ:AS)(dst:Option Nat)(v:AV)(wr:List (Nat×Ent)):AS:=⟨putD dst v σ.tm,wr++σ.me⟩
theorem AS.get_upd (σ:AS)(dst:Option Nat)(v:AV)(wr:List (Nat×Ent))(t:Nat):(σ.upd dst v wr).get t=if dst=some t then v else σ.get t:=by
 cases dst with
 |none=>simp [AS.upd,AS.get,putD]
 |some d =>
  simp only [AS.upd,AS.get,putD,lkV,Option.some.injEq];by_cases h:d=t
  ·subst h;simp
  ·rw [if_neg h];have:aM d t=false:=by
    cases c:aM d t with
    |false=>rfl
    |true=>exact absurd (aL c) h
   rw [this]
theorem zca (l m:List (Nat×Ent))(i:Nat):lkE (l++m) i=(lkE l i).or (lkE m i):=by
 induction l with
 |nil=>simp [lkE]
 |cons x r c =>
  obtain ⟨u,e⟩:=x;simp only [cons_append,lkE];cases h:aM u i<;>simp [c]
theorem AS.find_upd (σ:AS)(dst:Option Nat)(v:AV)(wr:List (Nat×Ent))(i:Nat):(σ.upd dst v wr).find i=(lkE wr i).or (σ.find i):=zca _ _ _
def B4:Value->Option Nat |.slice (some a) _ _=>some a.block |.map (some g)=>some g |_=>none
def Cm:Value->List Nat |.tuple vs=>vs.toList.filterMap B4 |.agg vs=>vs.toList.filterMap B4 |_=>[]
def blks:Option (Option Nat×Value)->List Nat |none=>[] |some (o,s)=>o.toList++Cm s
variable {s:Value}
theorem Bc {b:Nat}:b∈blks (some (some b,s)):=by simp [blks]
def own (γ:Gam)(b:Nat):Prop:=∃ id d,γ id=some d/\b∈blks d
variable {γ:Gam}
theorem own.mk {id b:Nat}(h:γ id=some (some (some b,s))):own γ b:=⟨id,_,h,Bc⟩
theorem Jk {b:Nat}(c:Cm s=[])(h:b∈blks (some (some g,s))):b=g:=by simpa [blks,c] using h
theorem Qh {b:Nat}(c:Cm s=[])(h:b∈blks (some (none,s))):False:=by simp [blks,c] at h
theorem D9 {b:Nat}(c:Cm s=[])(h:b∈blks (some (s.ownBlock,s))):s.ownBlock=some b:=by
 cases d:s.ownBlock with
 |none=>rw [d] at h;exact (Qh c h).elim
 |some g=>rw [d] at h;rw [Jk c h]
theorem D8 (h:s.oneCell'=true):Cm s=[]:=by cases s<;>first|rfl|simp [Value.oneCell'] at h
def Nw (S0:Nat->Prop)(B b:Nat):Prop:=B<=b/\¬S0 b
def Sg (S0:Nat->Prop)(B:Nat)(γ:Gam)(b:Nat):Prop:=(S0 b/\b<B)\/(Nw S0 B b/\¬own γ b)
def Ju (w:World)(S:Nat->Prop)(e:MapEntry)(p:AV×AV):Prop:=Rep w S G0 p.1 e.key/\Rep w S G0 p.2 e.val
def Eh (w:World)(S:Nat->Prop)(g:Nat)(ps:List (AV×AV)):Prop:=∃ es clock,w.heap[g]? = some (.map es clock)/\es.size=ps.length/\Born es clock/\∀ j (h:j<es.toList.length) (c:j<ps.length),Ju w S es.toList[j] ps[j]
variable {S':Nat->Prop}{ps:List (AV×AV)}
theorem Eh.move (h:Eh w S g ps)(f:w.heap.size<=w'.heap.size)(k:∀ b,S b->b<w.heap.size->w'.heap[b]? = w.heap[b]? /\ S' b)(n:w'.heap[g]? = w.heap[g]?):Eh w' S' g ps:=by
 obtain ⟨es,clock,h1,p,c,m⟩:=h;exact ⟨es,clock,n.trans h1,p,c,fun j q d=>⟨(m j q d).1.mono f k,(m j q d).2.mono f k⟩⟩
def DisB (o:Option Nat)(vs:Array Value):Prop:=(∀ i j b,B4 (vs.getD i undef)=some b->B4 (vs.getD j undef)=some b->i=j)/\∀ i b,o=some b->B4 (vs.getD i undef)≠some b
def NRep (w:World)(S:Nat->Prop)(B:Nat)(v:Value):NE->Prop |.row ty sz xs=>v.oneCell'=true/\∃ vs,w.ownsRow B ty sz v xs.length vs/\(∀ k (d:k<xs.length),(xs[k]).cells.length=sz) /\ (∀ k (d:k<xs.length) j (f:j<(xs[k]).cells.length),Rep w S G0 ((xs[k]).cells[j]) (vs.getD (k*sz+j) undef))/\∀ u∈vs,u.oneCell'=true |.mp ps=>∃ g c,v=.map (some g)/\Eh w S g c/\Mz c ps |.hole=>v=.nilFunc
def Cz (es:Array MapEntry)(c:Array Nat):List MapEntry:=es.toList.filter fun e=>!c.contains e.born
def RepL (w:World)(S:Nat->Prop)(L:List MapEntry)(ps:List (AV×AV)):Prop:=L.length=ps.length/\∀ j (h:j<L.length) (c:j<ps.length),Ju w S L[j] ps[j]
variable {L:List MapEntry}
theorem RepL.move (h:RepL w S L ps)(d:w.heap.size<=w'.heap.size)(f:∀ b,S b->b<w.heap.size->w'.heap[b]? = w.heap[b]? /\ S' b):RepL w' S' L ps :=
 ⟨h.1,fun j q c=>⟨(h.2 j q c).1.mono d f,(h.2 j q c).2.mono d f⟩⟩
def RepM (w:World)(S:Nat->Prop)(L:List MapEntry)(ps:List (AV×AV)):Prop:=∃ c,c.Perm ps/\RepL w S L c
theorem RepM.move (h:RepM w S L ps)(d:w.heap.size<=w'.heap.size)(f:∀ b,S b->b<w.heap.size->w'.heap[b]? = w.heap[b]? /\ S' b):RepM w' S' L ps:=by
 obtain ⟨c,h1,j⟩:=h;exact ⟨c,h1,j.move d f⟩
def ItIs (w:World)(S:Nat->Prop)(g:Nat)(P:Array MapEntry->Array Nat->Nat->Nat->Prop):Prop :=
 (∃ bm since c d es clock,w.heap[g]? = some (.mapIter (some bm) since c d)/\S bm/\bm<w.heap.size/\w.heap[bm]? = some (.map es clock)/\(es.toList.map (·.born)).Nodup/\(∀ e∈es.toList,e.born<since)/\since<=d/\since<=clock/\P es c d clock) \/
 (∃ a b s,w.heap[g]? = some (.mapIter none a s b)/\P #[] #[] 0 0)
theorem ItIs.move {P P':Array MapEntry->Array Nat->Nat->Nat->Prop}(h:ItIs w S g P)(u:∀ b,S b->b<w.heap.size->w'.heap[b]? = w.heap[b]? /\ S' b)(r:w.heap.size<=w'.heap.size)(k:w'.heap[g]? = w.heap[g]?)(m:∀ es s c d,P es s c d->P' es s c d):ItIs w' S' g P':=by
 rcases h with ⟨bm,since,f,D,es,clock,h1,j,n,C,B,A,z,y,x⟩|⟨a,b,s,h1,j⟩
 ·obtain ⟨q,p⟩:=u bm j n;exact aD ⟨bm,since,f,D,es,clock,k.trans h1,p,aA n r,q.trans C,B,A,z,y,m _ _ _ _ x⟩
 ·exact aE ⟨a,b,s,k.trans h1,m _ _ _ _ j⟩
def ItL (w:World)(S:Nat->Prop)(ps:List (AV×AV))(es:Array MapEntry)(c:Array Nat)(d clock:Nat):Prop:=RepM w S (Cz es c) ps
def ItP (w:World)(S:Nat->Prop)(ps:List (AV×AV))(es:Array MapEntry)(c:Array Nat)(d clock:Nat):Prop:=d=clock/\∃ (seen0:Array Nat) (e:MapEntry),c=seen0.push e.born/\e∈Cz es seen0/\RepM w S (Cz es seen0) ps
def ItC (w:World)(S:Nat->Prop)(p:AV×AV)(ps:List (AV×AV))(es:Array MapEntry)(c:Array Nat)(d clock:Nat):Prop:=d=clock/\∃ (seen0:Array Nat) (e:MapEntry),c=seen0.push e.born/\e∈es.toList/\Ju w S e p/\RepM w S (Cz es c) ps
def B8 (w:World)(S:Nat->Prop)(γ:Gam)(B:Nat)(d:Option (Option Nat×Value)):Ent->Prop |.box ty cells=>∃ g vs,d=some (some g,.slice none 0 0)/\Blk w g ty vs/\vs.size=cells.length/\(∀ i (hi:i<cells.length),Rep w S γ cells[i] (vs.getD i undef))/\∀ i,i<vs.size->(vs.getD i undef).oneCell'=true |.row ty sz xs=>∃ s vs,d=some (s.ownBlock,s)/\s.oneCell'=true/\w.ownsRow B ty sz s xs.length vs/\(∀ k (c:k<xs.length),(xs[k]).cells.length=sz) /\ (∀ k (c:k<xs.length) j (q:j<(xs[k]).cells.length),Rep w S G0 ((xs[k]).cells[j]) (vs.getD (k*sz+j) undef))/\∀ u∈vs,u.oneCell'=true |.mp ps=>∃ g,d=some (some g,.map (some g))/\Eh w S g ps |.nest ty es=>∃ s vs,d=some (none,.tuple (#[s]++vs))/\s.oneCell'=true/\vs.size=es.length/\(∃ us,w.ownsRow B ty 1 s es.length us/\(∀ u∈us,u.oneCell'=true)/\∀ k (c:k<es.length),es[k]≠.hole->us.getD k undef=vs.getD k undef) /\ (∀ k (c:k<es.length),NRep w S B (vs.getD k undef) es[k])/\DisB (B4 s) vs |.mpn ps=>∃ g es vs,d=some (none,.tuple (#[.map (some g)]++vs))/\w.heap[g]? = some (.map es ps.length)/\es.size=ps.length/\vs.size=ps.length/\(∀ j (h:j<es.toList.length),(es.toList[j]).born=j) /\ (∀ j (h:j<es.toList.length) (m:j<ps.length),Rep w S G0 (ps[j]).1 (es.toList[j]).key)/\(∀ j (h:j<es.toList.length) (m:j<ps.length),(ps[j]).2≠.hole->(es.toList[j]).val=vs.getD j undef)/\(∀ j (m:j<ps.length),NRep w S B (vs.getD j undef) (ps[j]).2)/\DisB (some g) vs |.are ty idx f=>∃ s vs us,d=some (none,.agg (#[s]++vs))/\s.oneCell'=true/\vs.size=f.length/\w.ownsRow B ty 1 s idx.length us/\(∀ u∈us,u.oneCell'=true) /\ (∀ k (c:k<idx.length),(idx[k]=none->Rep w S G0 (.mapv []) (us.getD k undef))/\∀ j,idx[k]=some j->j<f.length/\us.getD k undef=vs.getD j undef)/\(∀ j (h:j<f.length),f[j]≠.hole/\NRep w S B (vs.getD j undef) f[j])/\DisB (B4 s) vs |.it ps=>∃ g,d=some (some g,.slice none 0 0)/\ItIs w S g (ItL w S ps) |.itp ps=>∃ g,d=some (some g,.slice none 0 0)/\ItIs w S g (ItP w S ps) |.itc p ps=>∃ g,d=some (some g,.slice none 0 0)/\ItIs w S g (ItC w S p ps) |.dead=>d=none |.gen ty sz xs=>∃ s vs,d=some (s.ownBlock,s)/\s.oneCell'=true/\w.ownsRow B ty sz s xs.length vs/\(∀ k (c:k<xs.length),(xs[k]).cells.length=sz) /\ (∀ k (c:k<xs.length) j (q:j<(xs[k]).cells.length),Rep w S γ ((xs[k]).cells[j]) (vs.getD (k*sz+j) undef))/\∀ u∈vs,u.oneCell'=true |.lp fn ps a b n busy caps=>∃ l T D fn0,d=some (some l,.func (.yield l) #[] #[])/\w.heap[l]? = some (.loop { state:=lstB busy,pending:=none,fn:=fn0,tmps:=T,params:=ps,assign:=a,body:=b,defers:=D }) /\ T.size=n/\∀ t (r:t<caps.length),Rep w S γ caps[t] (T.getD t undef)
inductive Eg where
 |strct (fs:List (Nat×Nat×Option Bool))
 |arr (n e esz:Nat) (eagg:Option Bool)
 |slc (e esz ebytes:Nat)
 |str
 |bool
 |int (k:IntKind)
 |map (k e:Nat)
 |other
structure TyI where
 sz:Nat
 bytes:Nat
 zero:Value
 shape:Eg
def aggT (P:Program)(t:TypeId):Option Bool:=match P.underlying t with|some (.struct _)=>some true|some (.array _ _)=>some true|some _=>some false|none=>none
def E1 (P:Program):TypeDesc->Eg |.struct fs=>.strct (fs.toList.map fun f=>(f.offset,P.cellsOf f.type,aggT P f.type)) |.array n e=>.arr n e (P.cellsOf e) (aggT P e) |.slice e=>.slc e (P.cellsOf e) (P.bytesOf e) |.string=>.str |.bool=>.bool |.int k=>.int k |.map k e=>.map k e |_=>.other
structure TyOk (P:Program) (T:TypeId) (i:TyI):Prop where
 info:(P.info? T).map (fun x=>(x.size,x.bytes))=some (i.sz,i.bytes)
 zero:(P.info? T).bind (·.zero)=some i.zero
 shape:(P.underlying T).map (E1 P)=some i.shape
def lkT:List (Nat×TyI)->Nat->Option TyI
 |[],_=>none
 |(u,x)::r,t=>match aM u t with|true=>some x|false=>lkT r t
structure Env where
 P:Program
 tab:List (Nat×TyI)
 ok:∀ T i,lkT tab T=some i->TyOk P T i
 mixed:P.follows .mixedOrders=true
 dr:Bool
 rg:Bool
 yl:Option (Nat×Obj)
 np:Nat
 bl:Bool
 ld:Bool
structure Cx where
 E:Env
 S0:Nat->Prop
 w0:World
 nt:Nat
 Fr:Nat->Prop
 w1:World
 rd:Option Nat
 pv:Array Value
 hrd:E.rg=true->rd=none
 ev:Bool
 g0:Gam
 wm:Nat
def lkG:List (Nat×Array Value)->Nat->Option (Array Value)
 |[],_=>none
 |(u,x)::r,t=>match aM u t with|true=>some x|false=>lkG r t
def Laid (S:Nat->Prop)(w:World):Prop:=∀ g vs,lkG gls0 g=some vs->S g/\g<w.heap.size/\∃ ty,w.heap[g]? = some (.cells vs ty (0,0))
theorem Laid.mono (h:Laid S w)(j:w.heap.size<=w'.heap.size)(k:∀ b,S b->b<w.heap.size->w'.heap[b]? = w.heap[b]? /\ S' b):Laid S' w':=fun g vs m=>by
 obtain ⟨h1,c,ty,n⟩:=h g vs m;obtain ⟨f,d⟩:=k g h1 c;exact ⟨d,aA c j,ty,f.trans n⟩
def Evo (γ γ':Gam):Prop:=∀ id d,γ id=some d->γ' id=some d\/γ' id=some none\/Turn γ' id d
def Cx.call (E:Env)(S:Nat->Prop)(w:World)(c:Nat):Cx:=⟨E,fun b=>S b/\b<w.heap.size,w,c,fun _=>False,w,none,#[],fun _=>rfl,false,G0,0⟩
abbrev Cx.P (cx:Cx):Program:=cx.E.P
abbrev Cx.F (cx:Cx):Fence:={ Fence.wide with round:=cx.rd }
def zzd (B:Nat)(γ:Gam)(w:World)(ds:List Deferred):Prop:=∃ c:List Nat,ds=c.map (fun r=>{ target:=.collected r,args:=#[] })/\c.Nodup/\∀ r∈c,B<=r/\r<w.heap.size/\¬own γ r/\w.heap[r]? = some (.deferred (some []))
structure Book (cx:Cx) (γ:Gam) (a:Act) (w:World):Prop where
 d0:cx.E.rg=false->a.defers=[]
 marks:zzd cx.w0.heap.size γ w a.defers
 pin:∀ t,t<cx.E.np->a.tmps.getD t undef=cx.pv.getD t undef
 yl:∀ l R,cx.E.yl=some (l,R)->cx.w0.heap.size<=l/\l<w.heap.size/\¬own γ l/\w.heap[l]? = some R
 sz:cx.w1.heap.size<=w.heap.size
 evo:cx.ev=true->Evo cx.g0 γ
 laid:cx.E.ld=true->Laid cx.S0 cx.w0
 mks:∀ d∈a.defers,∀ r,d.target=.collected r->cx.wm<=r
 wsz:cx.wm<=w.heap.size
theorem Evo.trans {a b c:Gam}(h:Evo a b)(k:Evo b c):Evo a c:=fun id d C=>by
 rcases h id d C with h1|h1|⟨s,y,q,E,x,B,f⟩
 ·exact k id d h1
 ·rcases k id _ h1 with j|j|⟨s,y,q,_⟩
  ·exact aE (aD j)
  ·exact aE (aD j)
  ·cases q
 ·rcases k id _ E with j|j|⟨u,A,p,D,F,z,n⟩
  ·exact aE (aE ⟨s,y,q,j,x,B,f⟩)
  ·exact aE (aD j)
  ·injection p with p
   injection p with _ p
   subst p;exact aE (aE ⟨s,A,q,D,x,z,fun m r=>⟨(n m (f m r).1).1,(n m (f m r).1).2.trans (f m r).2⟩⟩)
theorem Evo.refl (γ:Gam):Evo γ γ:=fun _ _ h=>aD h
variable {cx:Cx}{γ':Gam}
theorem Book.step {a:Act}(h:Book cx γ a w)(d:w.heap.size<=w'.heap.size)(q:∀ b,¬own γ b->b<w.heap.size->w'.heap[b]? = w.heap[b]? /\ ¬own γ' b)(p:cx.ev=true->Evo γ γ'):Book cx γ' a w':=by
 obtain ⟨x,h1,B,A⟩:=h.marks;refine ⟨h.d0,⟨x,h1,B,fun r y=>?_⟩,h.pin,fun l R z=>?_,aK h.sz d,fun u=>(h.evo u).trans (p u),h.laid,h.mks,aK h.wsz d⟩
 ·obtain ⟨k,c,j,f⟩:=A r y;obtain ⟨n,m⟩:=q r j c;exact ⟨k,aA c d,m,n.trans f⟩
 ·obtain ⟨k,c,j,f⟩:=h.yl l R z;obtain ⟨n,m⟩:=q l j c;exact ⟨k,aA c d,m,n.trans f⟩
theorem Book.gam {a:Act}(h:Book cx γ a w)(d:∀ b,own γ' b->own γ b)(c:cx.ev=false):Book cx γ' a w :=
 h.step (aN _) (fun b f _=>⟨rfl,fun h=>f (d b h)⟩) (fun h=>absurd (c.symm.trans h) (by simp))
theorem Book.gamE {a:Act}(h:Book cx γ a w)(d:∀ b,own γ' b->own γ b)(c:Evo γ γ'):Book cx γ' a w :=
 h.step (aN _) (fun b f _=>⟨rfl,fun h=>f (d b h)⟩) (fun _=>c)
def MeOk (w:World)(S:Nat->Prop)(γ:Gam)(B:Nat)(d:Option (Option (Option Nat×Value))):Option Ent->Prop |none=>d=none |some e=>∃ x,d=some x/\B8 w S γ B x e
structure StG (cx:Cx) (γ:Gam) (σ:AS) (a:Act) (w:World):Prop where
 tm:∀ t,Rep w (Sg cx.S0 cx.w0.heap.size γ) γ (σ.get t) (a.tmps.getD t undef)
 me:∀ id,MeOk w (Sg cx.S0 cx.w0.heap.size γ) γ cx.w0.heap.size (γ id) (σ.find id)
 inj:∀ id id' b d d',γ id=some d->γ id'=some d'->b∈blks d->b∈blks d'->id=id'
 ge:∀ b,own γ b->Nw cx.S0 cx.w0.heap.size b/\b<w.heap.size
 below:Below cx.w0.heap.size cx.w0 w
 size:a.tmps.size=cx.nt
 defers:Book cx γ a w
 gh:∀ b,cx.S0 b->b<w.heap.size
 fr:∀ b,cx.Fr b->¬own γ b/\b<w.heap.size/\w.heap[b]? = cx.w1.heap[b]?
 dr:cx.E.dr=true->cx.w0.drawn<=w.drawn
def St (cx:Cx)(σ:AS)(a:Act)(w:World):Prop:=∃ γ,StG cx γ σ a w
variable {σ:AS}
theorem St.congr {τ:AS}{a:Act}(h:St cx σ a w)(h1:∀ t,τ.get t=σ.get t)(c:∀ i,τ.find i=σ.find i):St cx τ a w:=by
 obtain ⟨γ,h⟩:=h;exact ⟨γ,fun t=>by rw [h1];exact h.tm t,fun i=>by rw [c];exact h.me i,h.inj,h.ge,h.below,h.size,h.defers,h.gh,h.fr,h.dr⟩
structure Tr where
 val:AV
 ids:List Nat
 wr:List (Nat×Ent)
deriving Inhabited
def Bb (ops:Array Oper)(i:Nat):Option Nat:=(ops[i]?).bind (·.dst)
def looks (ops:Array Oper)(i:Nat):List Nat:=match ops[i]? with|some o=>o.looksAt ops|none=>[]
def zwv (cx:Cx)(ops:Array Oper)(i:Nat)(σ c:AS):Prop:=∀ a w Q K,St cx σ a w->(∀ d w',St cx c d w'->K d w')->wpOpIn cx.F 0 cx.P ops Q i K a w
def Step (cx:Cx)(ops:Array Oper)(i:Nat)(σ:AS)(tr:Tr):Prop:=(∀ id e,lkE tr.wr id=some e->id∈tr.ids) /\ ∀ τ:AS,(∀ t∈looks ops i,τ.get t=σ.get t)->(∀ id∈tr.ids,τ.find id=σ.find id)->zwv cx ops i τ (τ.upd (Bb ops i) tr.val tr.wr)
def Ext (σ τ:AS):Prop:=(∀ t,σ.get t=τ.get t)/\∀ i,σ.find i=τ.find i
theorem Ext.refl (σ:AS):Ext σ σ:=⟨fun _=>rfl,fun _=>rfl⟩
theorem Ext.upd {τ:AS}(h:Ext σ τ)(d:Option Nat)(v:AV)(wr:List (Nat×Ent)):Ext (σ.upd d v wr) (τ.upd d v wr) :=
 ⟨fun t=>by rw [AS.get_upd,AS.get_upd,h.1],fun i=>by rw [AS.find_upd,AS.find_upd,h.2]⟩
theorem Ext.trans {a b c:AS}(h:Ext a b)(k:Ext b c):Ext a c:=⟨fun t=>(h.1 t).trans (k.1 t),fun i=>(h.2 i).trans (k.2 i)⟩
inductive Run (cx:Cx) (ops:Array Oper):Nat->AS->List Tr->AS->Prop
 |done {i:Nat} {σ σ':AS} (h:ops.size<=i) (hx:Ext σ' σ):Run cx ops i σ [] σ'
 |step {i:Nat} {σ σ1 σ':AS} {tr:Tr} {trs:List Tr} (h:i<ops.size) (hs:Step cx ops i σ tr) (hx:Ext σ1 (σ.upd (Bb ops i) tr.val tr.wr)) (hr:Run cx ops (i+1) σ1 trs σ'):Run cx ops i σ (tr::trs) σ'
variable {ops:Array Oper}{i:Nat}{trs:List Tr}{Q:Exit->Act->World->Prop}
theorem Run.wpOps {c:AS}(h:Run cx ops i σ trs c)(m:∀ a w,St cx c a w->Q .normal a w)(hi:i<=ops.size) :
  ∀ a w,St cx σ a w->wpOpsIn cx.F 0 cx.P ops Q (range' i (ops.size-i)) a w:=by
 induction h with
 |done h f =>
  intro a w q;rw [show ops.size-_=0 by omega];exact m a w (q.congr f.1 f.2)
 |@step i σ n c tr trs h d f u p =>
  intro a w j;rw [show ops.size-i=(ops.size-(i+1))+1 by omega,range'_succ,wpOpsIn_cons];exact d.2 σ (fun _ _=>rfl) (fun _ _=>rfl) a w Q _ j (fun r w' k=>p m (by omega) r w' (k.congr f.1 f.2))
section
variable (dst:Nat->Option Nat) (tr:Nat->Tr)
def C0 (X:Nat->Bool)(σ:AS):Nat->AS
 |0=>σ
 |k+1=>if X k=true then (C0 X σ k).upd (dst k) (tr k).val (tr k).wr else C0 X σ k
variable {dst tr}
theorem X6 (X:Nat->Bool)(σ:AS)(k t:Nat):(C0 dst tr X σ (k+1)).get t=if X k=true/\dst k=some t then (tr k).val else (C0 dst tr X σ k).get t:=by
 unfold C0;by_cases h:X k=true
 ·rw [if_pos h,AS.get_upd];by_cases c:dst k=some t
  ·rw [if_pos c,if_pos ⟨h,c⟩]
  ·rw [if_neg c,if_neg (fun d=>c d.2)];cases k<;>rfl
 ·rw [if_neg h,if_neg (fun d=>h d.1)];cases k<;>rfl
theorem Ww (X:Nat->Bool)(σ:AS)(k i:Nat):(C0 dst tr X σ (k+1)).find i=if X k=true then (lkE (tr k).wr i).or ((C0 dst tr X σ k).find i) else (C0 dst tr X σ k).find i:=by
 conv=>lhs;unfold C0
 by_cases h:X k=true
 ·rw [if_pos h,if_pos h,AS.find_upd]
 ·rw [if_neg h,if_neg h]
theorem Zx (X Y:Nat->Bool)(σ:AS)(k t:Nat)(h:∀ j,j<k->dst j=some t->X j=Y j):(C0 dst tr X σ k).get t=(C0 dst tr Y σ k).get t:=by
 induction k with
 |zero=>rfl
 |succ k ih =>
  rw [X6,X6,ih (fun j d=>h j (by omega))];by_cases c:dst k=some t
  ·rw [h k (by omega) c]
  ·rw [if_neg (fun h=>c h.2),if_neg (fun h=>c h.2)]
theorem Zi (X:Nat->Bool)(σ:AS)(m k t:Nat)(hm:m<=k)(h:∀ j,m<=j->j<k->dst j=some t->X j=false):(C0 dst tr X σ k).get t=(C0 dst tr X σ m).get t:=by
 induction k with
 |zero=>rw [show m=0 by omega]
 |succ k ih =>
  rcases bB k m with c|c
  ·rw [show m=k+1 by omega]
  ·rw [X6,if_neg,ih c (fun j h1 d=>h j h1 (by omega))];rintro ⟨h1,d⟩;rw [h k c (by omega) d] at h1;cases h1
theorem Zj (X Y:Nat->Bool)(σ:AS)(k i:Nat)(h:∀ j,j<k->lkE (tr j).wr i≠none->X j=Y j):(C0 dst tr X σ k).find i=(C0 dst tr Y σ k).find i:=by
 induction k with
 |zero=>rfl
 |succ k ih =>
  rw [Ww,Ww,ih (fun j d=>h j (by omega))];cases c:lkE (tr k).wr i with
  |none=>simp
  |some e=>rw [h k (by omega) (by simp [c])]
theorem Zb (X:Nat->Bool)(σ:AS)(m k i:Nat)(hm:m<=k)(h:∀ j,m<=j->j<k->lkE (tr j).wr i≠none->X j=false):(C0 dst tr X σ k).find i=(C0 dst tr X σ m).find i:=by
 induction k with
 |zero=>rw [show m=0 by omega]
 |succ k ih =>
  rcases bB k m with c|c
  ·rw [show m=k+1 by omega]
  ·rw [Ww,ih c (fun j h1 f=>h j h1 (by omega))];cases d:lkE (tr k).wr i with
   |none=>simp
   |some e=>rw [h k c (by omega) (by simp [d])];simp
end
def Gp (n:Nat)(k:Nat->α):α:=match n with|0=>k 0|m+1=>k (m+1)
theorem Ui (n:Nat)(k:Nat->α):Gp n k=k n:=by cases n<;>rfl
def clo1 (look:Nat->Nat)(o:Oper):Nat:=o.after.toList.foldl (fun s e=>if Region.binds .any e then s ||| (2 ^ e.on ||| look e.on) else s) 0
def cloL:List Oper->List Nat->List Nat |[],acc=>acc |o::r,acc=>Gp (clo1 (fun i=>acc.getD i 0) o) fun v=>cloL r (acc++[v])
theorem clo1_bit (look:Nat->Nat)(l:List Edge)(s i:Nat)(h:(l.foldl (fun s e=>if Region.binds .any e then s ||| (2 ^ e.on ||| look e.on) else s) s).testBit i=true) :
  s.testBit i=true\/∃ e∈l,Region.binds .any e=true/\(e.on=i\/(look e.on).testBit i=true):=by
 induction l generalizing s with
 |nil=>exact aD h
 |cons e r ih =>
  rw [foldl_cons] at h;rcases ih _ h with h|⟨f,d,h⟩
  ·by_cases c:Region.binds .any e=true
   ·rw [if_pos c,bC,bC,Nat.testBit_two_pow] at h;simp only [aC,decide_eq_true_eq] at h;rcases h with h|h|h
    ·exact aD h
    ·exact aE ⟨e,by simp,c,aD h⟩
    ·exact aE ⟨e,by simp,c,aE h⟩
   ·rw [if_neg c] at h;exact aD h
  ·exact aE ⟨f,by simp [d],h⟩
def Down (ops:Array Oper)(X:Nat->Bool):Prop:=∀ j o,ops[j]? = some o->X j=true->∀ e∈o.after,Region.binds .any e=true->X e.on=true
theorem zmv {X:Nat->Bool}(x:Down ops X):∀ (l:List Oper) (acc:List Nat),(∀ m o,l[m]? = some o->ops[acc.length+m]? = some o) ->
  (∀ j i,(acc.getD j 0).testBit i=true->X j=true->X i=true)->∀ j i,((cloL l acc).getD j 0).testBit i=true->X j=true->X i=true
 |[],acc,_,h=>h
 |o::r,acc,q,h=>by
  unfold cloL;rw [Ui];refine zmv x r _ (fun m o' k=>?_) (fun j i d u=>?_)
  ·have:=q (m+1) o' (by simpa using k);rw [aJ,length_singleton];rw [show acc.length+1+m=acc.length+(m+1) by omega];exact this
  ·rcases Nat.lt_trichotomy j acc.length with n|heq|y
   ·rw [aF,aW n,<-aF] at d;exact h j i d u
   ·subst heq;rw [aF,aV (aN _)] at d;simp only [Nat.sub_self,getElem?_cons_zero,Option.getD_some] at d;have k:=q 0 o (by simp);rw [Nat.add_zero] at k;rcases clo1_bit (fun i=>acc.getD i 0) o.after.toList 0 i d with d|⟨e,z,p,c⟩
    ·simp at d
    ·have f:=x _ o k u e (by simpa using z) p;rcases c with c|c
     ·rw [<-c];exact f
     ·exact h _ _ c f
   ·rw [aF,getElem?_eq_none (by simp;omega)] at d;simp at d
def Eb (wr:List (Nat×Ent)):List Nat:=wr.map (·.1)
theorem Xu {wr:List (Nat×Ent)}(h:lkE wr i≠none):i∈Eb wr:=by
 induction wr with
 |nil=>simp [lkE] at h
 |cons x r ih =>
  obtain ⟨u,e⟩:=x;simp only [lkE] at h;cases c:aM u i with
  |true=>have:=aL c;subst this;simp [Eb]
  |false=>rw [c] at h;have:=ih h;simp [Eb] at this ⊢;exact aE this
def memB (n:Nat):List Nat->Bool
 |[]=>false
 |x::r=>match aM x n with|true=>true|false=>memB n r
theorem Ct (n:Nat)(l:List Nat):memB n l=true ↔ n∈l:=by
 induction l with
 |nil=>simp [memB]
 |cons x r ih =>
  simp only [memB,mem_cons];cases h:aM x n with
  |true=>have:=aL h;simp [this]
  |false=>have:=Nat.ne_of_beq_eq_false h;simp [ih];omega
def memO (d:Option Nat)(l:List Nat):Bool:=match d with|some d=>memB d l|none=>false
def meet (l m:List Nat):Bool:=l.any fun x=>memB x m
theorem zdl (l m:List Nat):meet l m=true ↔ ∃ x,x∈l/\x∈m:=by simp [meet,Ct]
def Yg (a b:Option Nat):Bool:=match a,b with|some a,some b=>aM a b|_,_=>false
def E5 (ops:Array Oper)(tr:Nat->Tr)(i j:Nat):Bool:=memO (Bb ops i) (looks ops j) || memO (Bb ops j) (looks ops i) || Yg (Bb ops i) (Bb ops j) || meet (Eb (tr i).wr) (tr j).ids || meet (Eb (tr j).wr) (tr i).ids
def Hr (ops:Array Oper)(trs:List Tr):Bool :=
 let cl:=cloL ops.toList []
 (range ops.size).all fun j=>(range j).all fun i=>!E5 ops (fun k=>trs.getD k default) i j || (cl.getD j 0).testBit i
def Hm (ops:Array Oper):Bool:=(range ops.size).all fun j=>match ops[j]? with|some o=>o.after.all fun e=>!Region.binds .any e || bD e.on j|none=>true
theorem Run.length {c:AS}(h:Run cx ops i σ trs c)(hi:i<=ops.size):trs.length=ops.size-i:=by
 induction h with
 |done h d=>simp;omega
 |step h f d j ih=>have:=ih (by omega);simp;omega
theorem Step.ext {τ:AS}{tr:Tr}(h:Step cx ops i σ tr)(d:Ext τ σ):Step cx ops i τ tr :=
 ⟨h.1,fun ρ h1 j=>h.2 ρ (fun t f=>(h1 t f).trans (d.1 t)) (fun id c=>(j id c).trans (d.2 id))⟩
theorem Run.steps {σ0:AS}{tr:Nat->Tr}{c:AS}(h:Run cx ops i σ trs c)(hi:i<=ops.size)(k:∀ j,j<trs.length->tr (i+j)=trs.getD j default)
  (d:Ext σ (C0 (Bb ops) tr (fun _=>true) σ0 i)):(∀ j,i<=j->j<ops.size->Step cx ops j (C0 (Bb ops) tr (fun _=>true) σ0 j) (tr j))/\Ext c (C0 (Bb ops) tr (fun _=>true) σ0 ops.size):=by
 induction h with
 |@done i σ c h p=>exact ⟨fun j h1 x=>by omega,by rw [show ops.size=i by omega];exact p.trans d⟩
 |@step i σ m c n trs h A p B z =>
  have y:tr i=n:=by have:=k 0 (by simp);simpa using this
  have f:Ext m (C0 (Bb ops) tr (fun _=>true) σ0 (i+1)):=by
   refine p.trans ?_;unfold C0;rw [if_pos rfl,y];exact d.upd _ _ _
  obtain ⟨h1,x⟩:=z (by omega) (fun j C=>by have:=k (j+1) (by simp;omega);rw [show i+1+j=i+(j+1) by omega,this];simp) f;refine ⟨fun j u r=>?_,x⟩;rcases aP u with rfl|q
  ·rw [y];exact A.ext ⟨fun t=>(d.1 t).symm,fun i=>(d.2 i).symm⟩
  ·exact h1 j q r
theorem zro {σ0:AS}{tr:Nat->Tr}
  (A:∀ j,j<ops.size->Step cx ops j (C0 (Bb ops) tr (fun _=>true) σ0 j) (tr j))
  (aa:∀ i j,i<j->j<ops.size->E5 ops tr i j=true->((cloL ops.toList []).getD j 0).testBit i=true)
  (af:∀ j o,ops[j]? = some o->∀ e∈o.after,Region.binds .any e=true->e.on<j)
  (hQ:∀ a w,St cx (C0 (Bb ops) tr (fun _=>true) σ0 ops.size) a w->Q .normal a w) :
  ∀ (fuel:Nat) (L:Array Bool),L.size=ops.size->(L.toList.filter (! ·)).length=fuel->Down ops (fun i=>L.getD i false)->∀ a w,St cx (C0 (Bb ops) tr (fun i=>L.getD i false) σ0 ops.size) a w ->
   wpAnyIn cx.F 0 cx.P .any ops Q fuel L a w:=by
 intro fuel;have N:∀ (L:Array Bool),L.size=ops.size->Down ops (fun i=>L.getD i false)->Region.ready .any ops L=[]->∀ j,j<ops.size->L.getD j false=true:=by
  intro L M c d j
  induction j using Nat.strongRecOn with
  |_ j ih =>
   intro p;cases ac:L.getD j false with
   |true=>rfl
   |false =>
    have hm:j∈Region.ready .any ops L:=mem_ready.2 ⟨by
     have:j<L.size:=by omega
     simp only [bA,this,dif_pos] at ac ⊢;exact ac,ops[j],aR p,fun e he hb=>by
      have C:=af j ops[j] (aR p) e he hb;exact ih e.on C (by omega)⟩
    rw [d] at hm;cases hm
 have I:∀ (L:Array Bool),L.size=ops.size->Down ops (fun i=>L.getD i false)->Region.ready .any ops L=[]->∀ a w,St cx (C0 (Bb ops) tr (fun i=>L.getD i false) σ0 ops.size) a w->Q .normal a w:=by
  intro L M c d a w y;have J:=N L M c d;exact hQ a w (y.congr (fun t=>Zx _ _ _ _ _ (fun j p _=>(J j p).symm)) (fun i=>Zj _ _ _ _ _ (fun j p _=>(J j p).symm)))
 induction fuel with
 |zero =>
  intro L M n c a w y;have d:Region.ready .any ops L=[]:=by
   cases hr:Region.ready .any ops L with
   |nil=>rfl
   |cons i r =>
    have hm:i∈Region.ready .any ops L:=by rw [hr];simp
    obtain ⟨h0,o,ho,_⟩:=mem_ready.1 hm;have hi:i<L.size:=by rw [M];exact (aH.1 ho).1
    have ag:L[i]=false:=by simpa [bA,hi] using h0
    have:L[i]∈L.toList.filter (! ·):=mem_filter.2 ⟨by simp,by rw [ag];rfl⟩;rw [aQ.1 n] at this;cases this
  exact ⟨d,I L M c d a w y⟩
 |succ fuel ih =>
  intro L M n c a w y;refine ⟨fun d=>I L M c d a w y,fun i hi=>?_⟩;obtain ⟨h0,o,ho,R⟩:=mem_ready.1 hi;have O:i<ops.size:=(aH.1 ho).1;have D:i<L.size:=by omega
  have ae:L.getD i false=false:=by simp only [bA,D,dif_pos] at h0 ⊢;exact h0
  generalize hX:(fun i=>L.getD i false)=X at *;have T:X i=false:=by rw [<-hX];exact ae
  have ab:∀ j,L.getD j false=X j:=fun j=>by rw [<-hX]
  let X':Nat->Bool:=fun j=>(L.setIfInBounds i true).getD j false
  have q:X' i=true:=by show (L.setIfInBounds i true).getD i false=true;simp [D]
  have f:∀ j,j≠i->X' j=X j:=fun j p=>by
   show (L.setIfInBounds i true).getD j false=X j;rw [getD_set_ne false (Ne.symm p)];exact ab j
  have x:Down ops X':=fun j oj B p e he hb=>by
   by_cases W:j=i
   ·subst W;rw [ho] at B;injection B with B
    subst B;have h1:=R e he hb;by_cases E:e.on=j
    ·rw [E];exact q
    ·rw [f _ E,<-ab];exact h1
   ·rw [f j W] at p;have h1:=c j oj B p e he hb;by_cases E:e.on=i
    ·rw [E];exact q
    ·rw [f _ E];exact h1
  have bit:∀ Y:Nat->Bool,Down ops Y->∀ j k,((cloL ops.toList []).getD j 0).testBit k=true->Y j=true->Y k=true:=fun Y hY =>
   zmv hY ops.toList [] (fun m o h=>by simpa using h) (fun j k h=>by simp at h)
  -- those later than i that E5 with it have not run;those earlier that E5 have
  have later:∀ j,i<j->j<ops.size->E5 ops tr i j=true->X j=false:=fun j h1 H hc=>by
   cases p:X j with
   |false=>rfl
   |true=>have:=bit X c j i (aa i j h1 H hc) p;rw [T] at this;cases this
  have earlier:∀ j,j<i->E5 ops tr j i=true->X j=true:=fun j h1 hc=>by
   have:=bit X' x i j (aa j i h1 O hc) q
   rwa [f j (by omega)] at this
  have agree1:∀ t∈looks ops i,(C0 (Bb ops) tr X σ0 ops.size).get t=(C0 (Bb ops) tr (fun _=>true) σ0 i).get t:=fun t ht=>by
   rw [Zi X σ0 i ops.size t (by omega) (fun j h1 H z=>by
    rcases aP h1 with rfl|C
    ·exact T
    ·exact later j C H (by simp only [E5,aC];refine aD (aD (aD (aE ?_)));rw [z];exact (Ct _ _).2 ht))]
   exact Zx _ _ _ _ _ (fun j p z=>earlier j p (by simp only [E5,aC];refine aD (aD (aD (aD ?_)));rw [z];exact (Ct _ _).2 ht))
  have agree2:∀ id∈(tr i).ids,(C0 (Bb ops) tr X σ0 ops.size).find id=(C0 (Bb ops) tr (fun _=>true) σ0 i).find id:=fun id Z=>by
   rw [Zb X σ0 i ops.size id (by omega) (fun j h1 H z=>by
    rcases aP h1 with rfl|C
    ·exact T
    ·exact later j C H (by simp only [E5,aC];exact aE ((zdl _ _).2 ⟨id,Xu z,Z⟩)))]
   exact Zj _ _ _ _ _ (fun j p z=>earlier j p (by simp only [E5,aC];exact aD (aE ((zdl _ _).2 ⟨id,Xu z,Z⟩))))
  refine (A i O).2 _ agree1 agree2 a w Q _ y (fun a' w' U=>?_);have F:=(A i O).1;refine ih (L.setIfInBounds i true) (by simp [M]) ?_ x a' w' (U.congr (fun t=>?_) (fun id=>?_))
  ·have G:L.toList=L.toList.take i++false::L.toList.drop (i+1):=by
    have ad:L.toList[i]'(by simpa using D)=false:=by simpa [bA,D] using ae
    rw [<-ad,getElem_cons_drop,take_append_drop]
   have V:(L.setIfInBounds i true).toList=L.toList.take i++true::L.toList.drop (i+1):=by
    rw [Array.toList_setIfInBounds,set_eq_take_append_cons_drop,if_pos (by simpa using D)]
   rw [V];rw [G] at n;simp only [filter_append,aJ,filter_cons,Bool.not_false,if_true,aX,Bool.not_true,Bool.false_eq_true,if_false] at n ⊢;omega
  ·rw [AS.get_upd];by_cases z:Bb ops i=some t
   ·rw [if_pos z,Zi X' σ0 (i+1) ops.size t (by omega) (fun j h1 H u=>by
     rw [f j (by omega)];exact later j (by omega) H (by simp only [E5,aC];refine aD (aD (aE ?_));rw [z,u];simp [Yg])),X6,if_pos ⟨q,z⟩]
   ·rw [if_neg z];exact Zx _ _ _ _ _ (fun j p u=>f j (fun e=>z (e▸u)))
  ·rw [AS.find_upd];cases hw:lkE (tr i).wr id with
   |some e =>
    rw [Zb X' σ0 (i+1) ops.size id (by omega) (fun j h1 H u=>by
     rw [f j (by omega)];exact later j (by omega) H (by simp only [E5,aC];exact aE ((zdl _ _).2 ⟨id,Xu u,F id e hw⟩))),Ww,if_pos q,hw]
    rfl
   |none =>
    rw [Option.none_or];exact Zj _ _ _ _ _ (fun j p u=>f j (fun e=>u (e▸hw)))
end Go.Proofs.YtkoamfnbbhfaiaaGreatDoor
