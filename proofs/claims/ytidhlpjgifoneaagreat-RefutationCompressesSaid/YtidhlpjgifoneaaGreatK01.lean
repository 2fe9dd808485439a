/- Memory words over any program. -/
import Derived.WalkKit
import Derived.WalkSpells
import Derived.WalkLawsBesides
import Derived.BigQuiet
import Derived.Deep.QuietTactic
import Derived.Deep.Draws
import Derived.Deep.RegionHeld3
import Derived.Deep.DeepCutAuto
import Derived.Deep.DeepFit
import Derived.StillTailTactics
import Derived.Handy
import Derived.Lib.Hide
import Derived.Lib.SliceRun
import Derived.Maps.AppendAt
import Derived.Deep.RegionLaw
import Derived.Deep.AppendLies
import Derived.Shelf.Abstract
import Derived.Laws.StructEq
import Derived.Shelf.SlicesQ.Equal
import Derived.Lib.Overlaps
import Derived.Lib.AppendZeros
import Derived.Lib.AppendZerosOnto
import Derived.Laws.Externs
import Derived.Laws.IdiomCopy
set_option linter.unusedVariables false
set_option linter.unusedSimpArgs false
namespace Go.Proofs.YtidhlpjgifoneaaGreat
open Go.RowKit List
open List renaming take_append_of_le_length->aA,take_of_length_le->aC,length_append->aF,flatMap_cons->aH,append_assoc->aJ,getElem?_eq_getElem->aK,length_eq_zero_iff->aM,length_cons->aO
open Nat renaming lt_of_lt_of_le->aB,succ_mul->aD,min->aE,le_trans->aG,eq_zero_or_pos->aL,le_refl->aN
theorem hide {p:Prop}(h:p):Hid p:=h
variable {α:Type}
def Sl (w:World)(S:Nat->Prop)(sz:Nat)(enc:α->List Value)(v:Value)(l:List α):Prop:=∃ A c,v=.slice A l.length c/\l.length<=c /\ (0<l.length->∃ b off,A=some ⟨b,off,none⟩/\S b/\b<w.heap.size/\∀ k (d:k<l.length) j u,(enc l[k])[j]? = some u->w.cell? ⟨b,off+(k*sz+j),none⟩=some u)
variable {enc:α->List Value}{sz:Nat}{l:List α}
theorem Wx (c:∀ x∈l,(enc x).length=sz)(k:Nat)(h:k<l.length)(j:Nat)(m:j<sz)(u:Value)(f:(enc l[k])[j]? = some u) :
  (l.flatMap enc)[k*sz+j]? = some u:=by
 induction l generalizing k with
 |nil=>simp at h
 |cons x r ih =>
  have d:=c x (by simp);rw [aH];cases k with
  |zero=>rw [getElem?_append_left (by rw [d];omega)];simpa using f
  |succ k =>
   rw [getElem?_append_right (by rw [d,aD];omega),d,show (k+1)*sz+j-sz=k*sz+j by rw [aD];omega];exact ih (fun y i=>c y (by simp [i])) k (by simpa using h) (by simpa using f)
section
variable {α:Type} {w w':World} {S S':Nat->Prop} {sz:Nat} {enc:α->List Value} {v:Value} {l:List α}
theorem Sl.nil_:Sl w S sz enc (.slice none 0 0) []:=⟨none,0,rfl,aN _,fun h=>absurd h (Nat.lt_irrefl _)⟩
theorem Sl.keep (h:Sl w S sz enc v l)(n:w.heap.size<=w'.heap.size)(y:∀ b,S b->b<w.heap.size->w'.heap[b]? = w.heap[b]?):Sl w' S sz enc v l:=by
 obtain ⟨A,c,q,z,p⟩:=h;refine ⟨A,c,q,z,fun x=>?_⟩;obtain ⟨b,off,B,m,i,d⟩:=p x;exact ⟨b,off,B,m,aB i n,fun k f j u r=>(World.cell?_of_block (w:=w) (a:=⟨b,_,none⟩) (y b m i)).trans (d k f j u r)⟩
theorem Sl.below (h:Sl w S sz enc v l)(d:Below w.heap.size w w'):Sl w' S sz enc v l:=h.keep d.size fun b _ c=>d.block b c
theorem Sl.weaken (h:Sl w S sz enc v l)(m:∀ b,S b->S' b):Sl w S' sz enc v l:=by
 obtain ⟨A,c,i,k,f⟩:=h;refine ⟨A,c,i,k,fun j=>?_⟩;obtain ⟨b,off,n,d,r⟩:=f j;exact ⟨b,off,n,m b d,r⟩
theorem Sl.setCell (h:Sl w S sz enc v l){p:Addr}(c:¬S p.block)(u:Value):Sl (w.setCell p u) S sz enc v l :=
 h.keep (by simp [World.setCell]) fun b d _=>Below.heap_setCell w p u b (fun e=>c (e▸d))
theorem Sl.drewN (h:Sl w S sz enc v l)(n:Nat):Sl (w.drewN n) S sz enc v l:=h
theorem Sl.alloc (h:Sl w S sz enc v l)(o:Obj):Sl (w.alloc o) S sz enc v l:=h.below ((Below.refl _ _).alloc (aN _) o)
theorem Sl.form (h:Sl w S sz enc v l):∃ A c,v=.slice A l.length c/\l.length<=c/\(∀ k (f:k<l.length),∃ b off,A=some ⟨b,off,none⟩/\b<w.heap.size/\∀ j u,(enc l[k])[j]? = some u->w.cell? ⟨b,off+(k*sz+j),none⟩=some u):=by
 obtain ⟨A,c,m,n,i⟩:=h;refine ⟨A,c,m,n,fun k f=>?_⟩;obtain ⟨b,off,q,_,p,d⟩:=i (by omega);exact ⟨b,off,q,p,d k f⟩
theorem Sl.of_own {base:Nat}{e:TypeId}(h:w.ownsRow base e sz v l.length (l.flatMap enc))(c:∀ x∈l,(enc x).length=sz)(y:∀ b,base<=b->S b):Sl w S sz enc v l:=by
 rcases h.2 with ⟨rfl,f⟩|⟨g,A,z,rfl,r,q,n,_,_,_⟩
 ·refine ⟨none,0,by rw [f],by omega,fun h=>by omega⟩
 ·refine ⟨_,_,rfl,n,fun _=>⟨g,0,rfl,y g r,(Array.getElem?_eq_some_iff.1 q).1,fun k m j u i=>?_⟩⟩;have p:j<sz:=by rw [<-c _ (getElem_mem m)];exact (List.getElem?_eq_some_iff.1 i).1
  have d:=Wx c k m j p u i;have:=h.cells (g:=g) rfl _ _ d;rw [Addr.add] at this;split at this
  ·rename_i f;rw [f];exact this
  ·exact this
end
structure EOk {α:Type} (P:Program) (t e:TypeId) (sz bytes:Nat) (enc:α->List Value):Prop where
 und:P.underlying t=some (.slice e)
 inf:∃ i z,P.info? e=some i/\i.zero=some z/\i.size=sz/\i.bytes=bytes/\z.cells.size=sz
 pos:0<sz
 len:∀ x,(enc x).length=sz
 one:∀ x,∀ u∈enc x,u.oneCell'=true
def Own (w:World)(base:Nat)(e:TypeId)(sz:Nat)(enc:α->List Value)(v:Value)(l:List α):Prop:=w.ownsRow base e sz v l.length (l.flatMap enc)
section
variable {α:Type} {P:Program} {w w':World} {S S':Nat->Prop} {t e:TypeId} {sz bytes base:Nat} {enc:α->List Value} {v:Value} {l:List α}
theorem Own.nil_:Own w base e sz enc (.slice none 0 0) ([]:List α):=World.ownsRow_nil w base e sz
theorem Own.val (h:Own w base e sz enc v l):∃ A c,v=.slice A l.length c/\l.length<=c/\c<=maxLen:=by
 rcases h.2 with ⟨rfl,f⟩|⟨g,j,i,rfl,_,_,d,hm,_⟩
 ·exact ⟨none,0,by rw [f],by omega,by simp [maxLen]⟩
 ·exact ⟨_,_,rfl,d,hm⟩
theorem Own.sl (h:Own w base e sz enc v l)(d:EOk P t e sz bytes enc)(c:∀ b,base<=b->S b):Sl w S sz enc v l:=Sl.of_own h (fun x _=>d.len x) c
theorem Own.kept {row:Option Nat}(h:Own w base e sz enc v l)(d:w.grownBy w' row)(c:v.ownBlock=none\/v.ownBlock≠row):Own w' base e sz enc v l:=World.ownsRow.kept h d c
theorem Own.below (h:Own w base e sz enc v l)(c:Below w.heap.size w w'):Own w' base e sz enc v l :=
 h.kept (row:=none) ⟨c.os,c.tape,c.output,c.size,fun k d _=>c.block k d⟩ (by cases v.ownBlock<;>simp)
theorem Own.lt (h:Own w base e sz enc v l):∀ k,v.ownBlock=some k->base<=k/\k<w.heap.size:=World.ownsRow.lt h
theorem Own.le {base':Nat}(h:Own w base e sz enc v l)(j:base'<=base):Own w base' e sz enc v l :=
 ⟨h.1,h.2.elim Or.inl (fun ⟨g,d,c,f,i,r⟩=>Or.inr ⟨g,d,c,f,aG j i,r⟩)⟩
theorem Sl.flat (h:Sl w S sz enc v l)(f:∀ x∈l,(enc x).length=sz)(m:0<sz):∃ A c,v=.slice A l.length c/\l.length<=c/\(A=none->l=[])/\∀ ad,A=some ad->∀ j u,(l.flatMap enc)[j]? = some u->w.cell? (ad.add j)=some u:=by
 obtain ⟨A,c,rfl,E,z⟩:=h;refine ⟨A,c,rfl,E,fun C=>?_,fun ad C j u B=>?_⟩
 ·rcases aL l.length with D|D
  ·exact aM.1 D
  ·obtain ⟨b,off,d,_⟩:=z D;rw [C] at d;cases d
 ·have G:(l.flatMap enc).length=l.length*sz:=by
   clear E z B
   induction l with
   |nil=>simp
   |cons x r ih=>rw [aH,aF,f x (by simp),ih (fun y F=>f y (by simp [F])),aO,aD];omega
  have H:j<l.length*sz:=by rw [<-G];exact (List.getElem?_eq_some_iff.1 B).1
  have q:j / sz<l.length:=(Nat.div_lt_iff_lt_mul m).2 H;obtain ⟨b,off,d,_,I,k⟩:=z (Nat.lt_of_le_of_lt (Nat.zero_le _) q);rw [C] at d;injection d with d
  subst d;have hm:j % sz<sz:=Nat.mod_lt _ m;have p:j / sz*sz+j % sz=j:=by rw [Nat.mul_comm];exact Nat.div_add_mod j sz
  have n:j % sz<(enc l[j / sz]).length:=by rw [f _ (getElem_mem q)];exact hm
  have i:=Wx f (j / sz) q (j % sz) hm _ (aK n);rw [p,B] at i;have:=k (j / sz) q (j % sz) _ (aK n);rw [p] at this;injection i with i
  rw [Addr.add_lit,this,i]
theorem zig (p:EOk P t e sz bytes enc)(ty:TypeId)(j:Own w base e sz enc v l){u:Value}{d:List α}(C:Sl w S sz enc u d)
  (B:(l.length+d.length)<=1099511627776) (n:bytes<=100) (y:base<=w.heap.size) :
  ∃ A c w',(Builtin.append_ #[t,t] ty #[v,u]).run P w=.ok (.slice A (l++d).length c) w'/\Own w' base e sz enc (.slice A (l++d).length c) (l++d)/\w.grownBy w' v.ownBlock /\
   ((Value.slice A (l++d).length c).ownBlock=v.ownBlock\/(Value.slice A (l++d).length c).ownBlock=some w.heap.size):=by
 obtain ⟨i,z,hi,M,q,G,D⟩:=p.inf;obtain ⟨A,c,rfl,O,k,m⟩:=C.flat (fun x _=>p.len x) p.pos;have F:(d.flatMap enc).length=d.length*sz:=by
  clear k m B O C
  induction d with
  |nil=>simp
  |cons x r L=>rw [aH,aF,p.len x,L,aO,aD];omega
 have h1:∀ u∈d.flatMap enc,u.oneCell'=true:=fun u C=>by
  obtain ⟨x,_,N⟩:=mem_flatMap.1 C;exact p.one x u N
 have key:∃ v' w',(Builtin.append_ #[t,t] ty #[v,.slice A d.length c]).run P w=.ok v' w'/\w'.ownsRow base e sz v' (l.length+d.length) (l.flatMap enc++d.flatMap enc)/\w.grownBy w' v.ownBlock/\(v'.ownBlock=v.ownBlock\/v'.ownBlock=some w.heap.size):=by
  cases A with
  |none =>
   have J:=k rfl;subst J;refine ⟨v,w,?_,by simpa [Own] using j,World.grownBy.refl w _,.inl rfl⟩;rcases j.2 with ⟨rfl,J⟩|⟨g,V,U,rfl,_,_,E,_⟩
   ·simp [Builtin.append_,run_underlying p.und,Go.sizeOf,typeInfo,hi,Builtin.lenOf,Builtin.firstCells]
   ·simp [Builtin.append_,run_underlying p.und,Go.sizeOf,typeInfo,hi,Builtin.lenOf,Builtin.firstCells,E,storeCells]
  |some ad =>
   obtain ⟨v',w',f,I,H,_,R⟩:=run_append_own_at (P:=P) w base t ty e i z sz bytes p.und hi M q G D p.pos v l.length (l.flatMap enc) j ad d.length c (d.flatMap enc) F (m ad rfl) h1
    (by simp only [maxLen];omega) (aG (Nat.mul_le_mul B n) (by omega)) y
   exact ⟨v',w',f,I,H,R⟩
 obtain ⟨v',w',f,I,H,T⟩:=key;have h:Own w' base e sz enc v' (l++d):=by
  unfold Own;rw [aF,flatMap_append];exact I
 obtain ⟨A',W,rfl,_,_⟩:=h.val;exact ⟨A',W,w',f,h,H,T⟩
theorem Jg {ops:Array Oper}{f:List Oper}{o:Oper}{a:Act}{Q:Exit->Act->World->Prop}(m:o.guard=none)(s x:Operand)
  (z:o.op=.call { callee:=.builtin .append,args:=#[s,x],argTypes:=#[t,t] })
  (C:EOk P t e sz bytes enc) (r:a.eval s=v) (k:Own w base e sz enc v l) {u:Value} {i:List α} (p:a.eval x=u) (q:Sl w S sz enc u i)
  (n:(l.length+i.length)<=1099511627776) (d:bytes<=100) (j:base<=w.heap.size)
  (h:∀ A c w',Own w' base e sz enc (.slice A (l++i).length c) (l++i)->w.grownBy w' v.ownBlock ->
    ((Value.slice A (l++i).length c).ownBlock=v.ownBlock\/(Value.slice A (l++i).length c).ownBlock=some w.heap.size)->wpList P ops Q f (a.put o.dst (.slice A (l++i).length c)) w') :
  wpList P ops Q (o::f) a w:=by
 refine wpList_plain m fun K B=>?_
 obtain ⟨A,c,w',y,F,E,D⟩:=zig (P:=P) C o.type k q n d j;unfold Oper.wp execOp;simp only [z,resolve,invoke,builtin,Sem.run_bind,Sem.run_pure,Result.andThen_ok,map_toArray,map_cons,map_nil,r,p,y];exact B _ _ (h A c w' F E D)
end
variable {a b:World}
theorem Below.next {c:World}(h:Below a.heap.size a b)(k:Below b.heap.size b c):Below a.heap.size a c:=h.trans (k.mono h.size)
variable {w:World}{e:TypeId}
theorem Own.made_:Own (w.alloc (.cells #[] e)) w.heap.size e sz enc (.slice (some ⟨w.heap.size,0,none⟩) 0 0) ([]:List α) :=
 World.ownsRow_made w #[] 0 (aN _) (by simp [maxLen]) (by simp)
theorem Own.grown {B base:Nat}{w0 w':World}{v:Value}(h:Own w base e sz enc v l)(i:Below B w0 w)(j:B<=base)(c:B<=w.heap.size)(f:w.grownBy w' v.ownBlock):Below B w0 w' :=
 i.grown f c (fun k d=>aG j (h.lt k d).1)
def K2 (e:TypeId)(sz:Nat)(enc:α->List Value)(l:List α)(w0:World)(r:Ending)(w':World):Prop:=∃ A c,r=.returned (.slice A l.length c)/\Own w' w0.heap.size e sz enc (.slice A l.length c) l/\Below w0.heap.size w0 w'
theorem Sl.none_nil {S:Nat->Prop}{n c:Nat}(h:Sl w S sz enc (.slice none n c) l):l=[]:=by
 obtain ⟨A,k,f,_,j⟩:=h;injection f with f _ _
 rcases aL l.length with i|i
 ·exact aM.1 i
 ·obtain ⟨b,off,d,_⟩:=j i;rw [<-f] at d;cases d
def y5q (P:Program)(g:Nat)(lb:Array Value)(arg:α->Value)(p:α->Bool)(w:World):Prop:=∀ (W:World) (x:α),Below w.heap.size w W->Calls P g (#[arg x]++lb) W fun e w'=>e=.returned (.bool (p x))/\Below W.heap.size W w'
variable {g:Nat}
theorem y5q.later {P:Program}{lb:Array Value}{arg:α->Value}{p:α->Bool}{w1:World}(h:y5q P g lb arg p w)(c:Below w.heap.size w w1):y5q P g lb arg p w1 :=
 fun W x d=>h W x (c.trans (d.mono c.size))
def Blk (w:World)(g:Nat)(t:TypeId)(cs:Array Value):Prop:=w.heap[g]? = some (.cells cs t (0,0))
section
variable {w w':World} {g:Nat} {t:TypeId} {cs:Array Value}
theorem Blk.lt (h:Blk w g t cs):g<w.heap.size:=by
 rcases Nat.lt_or_ge g w.heap.size with c|d
 ·exact c
 ·unfold Blk at h;rw [Array.getElem?_eq_none d] at h;cases h
theorem Blk.cell (h:Blk w g t cs)(i:Nat):w.cell? ⟨g,i,none⟩=cs[i]? := cell_of_row w g i cs t (0,0) h
theorem Blk.frozen (h:Blk w g t cs)(i:Nat):w.frozen? ⟨g,i,none⟩=false:=by
 unfold Blk at h;simp [World.frozen?,h]
theorem Blk.shape (h:Blk w g t cs):w.shape? g=some (t,cs.size):=by unfold Blk at h;simp [World.shape?,h]
theorem Blk.new (w:World)(t:TypeId)(cs:Array Value):Blk (w.alloc (.cells cs t)) w.heap.size t cs:=heap_alloc_new w _
theorem Blk.alloc (h:Blk w g t cs)(o:Obj):Blk (w.alloc o) g t cs:=(Below.heap_alloc w o g h.lt).trans h
theorem Blk.below (h:Blk w g t cs)(c:Below w.heap.size w w'):Blk w' g t cs:=(c.block g h.lt).trans h
theorem Blk.set (h:Blk w g t cs)(i:Nat)(u:Value):Blk (w.setCell ⟨g,i,none⟩ u) g t (cs.setIfInBounds i u):=by
 unfold Blk at h ⊢;simp [World.setCell,Array.getElem?_modify,h]
theorem Blk.grown {row:Option Nat}(h:Blk w g t cs)(d:w.grownBy w' row)(c:some g≠row):Blk w' g t cs:=(d.block g h.lt c).trans h
end
section
variable {P:Program} {w:World}
theorem zll (elem:TypeId)(sz:Nat)(dT sT ty:TypeId)(q:P.underlying dT=some (.slice elem))(d:(P.info? elem).map (·.size)=some sz)(g off dLen dCap sLen sCap:Nat)(ad:Addr)(t:TypeId)(c:List Value)(p:Blk w g t c.toArray)(cs:List Value)
  (r:cs.length=aE sLen dLen*sz) (f:∀ j v,cs[j]? = some v->w.cell? (ad.add j)=some v) (h:off+cs.length<=c.length) (h1:∀ v∈cs,v.oneCell'=true) :
  ∃ w',(Builtin.copy_ #[dT,sT] ty #[.slice (some ⟨g,off,none⟩) dLen dCap,.slice (some ad) sLen sCap]).run P w=.ok (goInt (aE sLen dLen)) w' /\
   Blk w' g t (c.take off++cs++c.drop (off+cs.length)).toArray/\w.grownBy w' (some g):=by
 have u:=run_firstCells_some (P:=P) w sz (aE sLen dLen) ad sLen sCap cs r f;have m:=run_storeCells_at P g off t cs 0 c.toArray w p (by simpa using h) h1;refine ⟨_,?_,setRow_heap w g c.toArray _ t _ p,⟨rfl,rfl,rfl,by simp,fun k _ x=>setRow_other w g k _ (fun e=>x (by rw [e]))⟩⟩;cases n:P.info? elem with
 |none=>simp [n] at d
 |some i =>
  have hi:i.size=sz:=by simpa [n] using d
  simp [Builtin.copy_,run_underlying q,Builtin.lenOf,Go.sizeOf,typeInfo,n,hi,u,m]
variable {o:Oper}{K:Act->World->Prop}{Q:Exit->Act->World->Prop}
theorem zd7 {a:Act}(d s:Operand)(dT sT:TypeId)
  (q:o.op=.call { callee:=.builtin .copy,args:=#[d,s],argTypes:=#[dT,sT] }) (elem:TypeId) (sz:Nat) (m:P.underlying dT=some (.slice elem)) (k:(P.info? elem).map (·.size)=some sz)
  (g off dLen dCap sLen sCap:Nat) (ad:Addr) (x:a.eval d=.slice (some ⟨g,off,none⟩) dLen dCap) (n:a.eval s=.slice (some ad) sLen sCap) (t:TypeId) (c:List Value) (u:Blk w g t c.toArray) (cs:List Value)
  (r:cs.length=aE sLen dLen*sz) (f:∀ j v,cs[j]? = some v->w.cell? (ad.add j)=some v) (i:off+cs.length<=c.length) (h1:∀ v∈cs,v.oneCell'=true)
  (h:∀ w',Blk w' g t (c.take off++cs++c.drop (off+cs.length)).toArray->w.grownBy w' (some g)->K (a.put o.dst (goInt (aE sLen dLen))) w'):o.wp P a w K Q:=by
 obtain ⟨w',p,z,y⟩:=zll (P:=P) (w:=w) elem sz dT sT o.type m k g off dLen dCap sLen sCap ad t c u cs r f i h1;unfold Oper.wp execOp;simp only [q,resolve,invoke,builtin,Sem.run_bind,Sem.run_pure,Result.andThen_ok,map_toArray,map_cons,map_nil,x,n,p];exact h w' z y
variable {ops:Array Oper}
theorem z8f {f:List Oper}{a:Act}(n:o.guard=none)(d s:Operand)(dT sT:TypeId)
  (r:o.op=.call { callee:=.builtin .copy,args:=#[d,s],argTypes:=#[dT,sT] }) (elem:TypeId) (sz:Nat) (p:P.underlying dT=some (.slice elem)) (m:(P.info? elem).map (·.size)=some sz)
  (g off dLen dCap sLen sCap:Nat) (ad:Addr) (y:a.eval d=.slice (some ⟨g,off,none⟩) dLen dCap) (q:a.eval s=.slice (some ad) sLen sCap) (t:TypeId) (c:List Value) (x:Blk w g t c.toArray) (cs:List Value)
  (u:cs.length=aE sLen dLen*sz) (i:∀ j v,cs[j]? = some v->w.cell? (ad.add j)=some v) (k:off+cs.length<=c.length) (h1:∀ v∈cs,v.oneCell'=true)
  (h:∀ w',Blk w' g t (c.take off++cs++c.drop (off+cs.length)).toArray->w.grownBy w' (some g)->wpList P ops Q f (a.put o.dst (goInt (aE sLen dLen))) w'):wpList P ops Q (o::f) a w :=
 wpList_plain n fun _ z=>zd7 d s dT sT r elem sz p m g off dLen dCap sLen sCap ad y q t c x cs u i k h1 fun w' B A=>z _ _ (h w' B A)
theorem zb0 {a:Act}{E:Prop}(m:o.guard=none)(d s:Operand)(dT sT:TypeId)
  (q:o.op=.call { callee:=.builtin .copy,args:=#[d,s],argTypes:=#[dT,sT] }) (elem:TypeId) (sz:Nat) (n:P.underlying dT=some (.slice elem)) (k:(P.info? elem).map (·.size)=some sz)
  (g off dLen dCap sLen sCap:Nat) (ad:Addr) (x:a.eval d=.slice (some ⟨g,off,none⟩) dLen dCap) (p:a.eval s=.slice (some ad) sLen sCap) (t:TypeId) (c:List Value) (u:Blk w g t c.toArray) (cs:List Value)
  (r:cs.length=aE sLen dLen*sz) (f:∀ j v,cs[j]? = some v->w.cell? (ad.add j)=some v) (i:off+cs.length<=c.length) (h1:∀ v∈cs,v.oneCell'=true)
  (h:∀ w',Blk w' g t (c.take off++cs++c.drop (off+cs.length)).toArray->w.grownBy w' (some g)->K (a.put o.dst (goInt (aE sLen dLen))) w') :
  if Region.wanted o (yielded ops a.tmps)=true then Oper.wp P o a w K Q else E:=by
 rw [if_pos (by simp [Region.wanted,m])];exact zd7 d s dT sT q elem sz n k g off dLen dCap sLen sCap ad x p t c u cs r f i h1 h
end
theorem zee (F1 F2 R X:List α)(p s q:Nat)(h1:F1.length=p)(k:F2.length=q)(d:X.length=s)(j:s<=R.length) :
  ((((F1++F2++R).take (p+s)++F2++(F1++F2++R).drop (p+s+F2.length)).take p++X++((F1++F2++R).take (p+s)++F2++(F1++F2++R).drop (p+s+F2.length)).drop (p+X.length)).take (p+s+q))=F1++X++F2:=by
 have f:((F1++F2++R).take (p+s)).length=p+s:=by simp;omega
 have c:((F1++F2++R).take (p+s)).take p=F1:=by
  rw [take_take,Nat.min_eq_left (by omega),aJ,aA (by omega),aC (by omega)]
 generalize (F1++F2++R).take (p+s)=A at *;generalize (F1++F2++R).drop (p+s+F2.length)=D;have i:(A++F2++D).take p=F1:=by rw [aJ,aA (by omega),c]
 have h:(A++F2++D).drop (p+X.length)=F2++D:=by rw [aJ,d,<-f,drop_left]
 rw [i,h,<-aJ,aA (by simp;omega),aC (by simp;omega)]
theorem znb (F1 F2 Z X:List α)(p s q:Nat)(h1:F1.length=p)(i:F2.length=q)(h:X.length=s)(f:s+q<=Z.length) :
  ((((F1++Z).take p++X++(F1++Z).drop (p+X.length)).take (p+s)++F2++((F1++Z).take p++X++(F1++Z).drop (p+X.length)).drop (p+s+F2.length)).take (p+s+q))=F1++X++F2:=by
 have d:(F1++Z).take p=F1:=by rw [aA (by omega),aC (by omega)]
 rw [d];generalize (F1++Z).drop (p+X.length)=D;have c:(F1++X++D).take (p+s)=F1++X:=by rw [aA (by simp;omega),aC (by simp;omega)]
 rw [c,aA (by simp;omega),aC (by simp;omega)]
theorem zak (h:∀ x,(enc x).length=sz)(l:List α):(l.flatMap enc).length=l.length*sz:=by
 induction l with
 |nil=>simp
 |cons x r c=>rw [aH,aF,h x,c,aO,aD];omega
theorem zqk (h:∀ x,∀ u∈enc x,u.oneCell'=true)(l:List α):∀ u∈l.flatMap enc,u.oneCell'=true:=fun u d=>by
 obtain ⟨x,_,c⟩:=mem_flatMap.1 d;exact h x u c
variable {row:Option Nat}
theorem zb5 {c:World}(h:a.grownBy b row)(k:b.grownBy c row):a.grownBy c row :=
 ⟨k.os.trans h.os,k.tape.trans h.tape,k.output.trans h.output,aG h.size k.size,fun i hi d=>(k.block i (aB hi h.size) d).trans (h.block i hi d)⟩
theorem zb6 {o:Obj}(h:(a.alloc o).grownBy b (some a.heap.size))(row:Option Nat):a.grownBy b row :=
 ⟨h.os,h.tape,h.output,by have:=h.size;rw [World.size_alloc] at this;omega,fun i hi _=>(h.block i (by rw [World.size_alloc];omega) (by simp;omega)).trans (Below.heap_alloc a o i hi)⟩
theorem Own.of_blk {base c:Nat}{d:List Value}(h:Blk w g e d.toArray)(j:base<=g)(f:l.length<=c)(i:c<=maxLen)(m:d.length=c*sz)
  (k:d.take (l.length*sz)=l.flatMap enc) (n:∀ x,(enc x).length=sz):Own w base e sz enc (.slice (some ⟨g,0,none⟩) l.length c) l :=
 ⟨zak n l,Or.inr ⟨g,c,d.toArray,rfl,j,h,f,i,by simpa using m,k⟩⟩
theorem z0t (h:a.drew.grownBy b row):a.grownBy b row:=⟨h.os,h.tape,h.output,h.size,h.block⟩
structure Pt where
 seq:Int
 time:Int
deriving DecidableEq
structure Trk where
 next:Int
 beyond:List Int
 points:List Pt
 mark:Int
deriving DecidableEq
inductive Dv where
 |sub (sz lo:Nat)
 |con
 |nelt (k:Nat)
 |obj (j:Nat)
 |oelt (j k:Nat)
deriving Inhabited
def Oj:Value->Bool |.tuple _=>true |.agg _=>true |_=>false
def Dv.of:Dv->Value->Value
 |.sub sz lo,.slice (some a) n c=>.slice (some (if c=lo then a else ⟨a.block,a.off+lo*sz,none⟩)) (n-lo) (c-lo)
 |.sub _ _,.slice none n c=>.slice none (n-0) (c-0)
 |.con,.tuple vs=>vs.getD 0 undef
 |.nelt k,.tuple vs=>match vs.getD 0 undef with|.slice (some a) _ _=>.pointer (some ⟨a.block,a.off+k,none⟩)|v=>v
 |.con,.agg vs=>vs.getD 0 undef
 |.nelt k,.agg vs=>match vs.getD 0 undef with|.slice (some a) _ _=>.pointer (some ⟨a.block,a.off+k,none⟩)|v=>v
 |.obj j,.agg vs=>vs.getD (j+1) undef
 |.oelt j k,.agg vs=>match vs.getD (j+1) undef with|.slice (some a) _ _=>.pointer (some ⟨a.block,a.off+k,none⟩)|v=>v
 |_,_=>undef
def Dv.ok:Dv->Value->Bool |.obj j,.agg vs=>Nat.blt (j+1) vs.size |.oelt j _,.agg vs=>Nat.blt (j+1) vs.size |.obj _,_=>false |.oelt _ _,_=>false |_,_=>true
def Born (es:Array MapEntry)(clock:Nat):Prop:=(es.toList.map (·.born)).Nodup/\∀ e∈es.toList,e.born<clock
inductive AV where
 |any
 |int (k:IntKind) (n:Int)
 |bool (b:Bool)
 |str (s:ByteArray)
 |nilp
 |ptr (id off:Nat)
 |nils
 |sl (sz:Nat) (xs:List AV)
 |row (id:Nat)
 |elt (id sz k j:Nat)
 |fn (f:FuncId) (cap:List AV)
 |yld (l:Nat) (T:Array Value) (cap:List AV)
 |nilf
 |agg (cs:List AV)
 |tup (cs:List AV)
 |ref (cs:List AV)
 |der (φ:Dv) (id:Nat)
 |mapv (ps:List (AV×AV))
 |slen (n:Nat)
 |cont (n id:Nat)
deriving Inhabited
def intN:AV->Int |.int _ n=>n |_=>0
def isI (kd:IntKind):AV->Bool |.int k _=>decide (k=kd) |_=>false
def y94 (c:List (AV×AV)):Prop:=∃ kd,(∀ p∈c,isI kd p.1=true)/\(c.map fun p=>intN p.1).Nodup
def Hv (c d:List (AV×AV)):Prop:=c=d\/(c.Perm d/\y94 d)
def AV.cells:AV->List AV |.agg cs=>cs |x=>[x]
mutual
def AV.closed:AV->Bool |.ptr _ _=>false |.row _=>false |.elt _ _ _ _=>false |.der _ _=>false |.cont _ _=>false |.fn _ cap=>AV.closedL cap |.yld _ _ cap=>AV.closedL cap |.agg cs=>AV.closedL cs |.tup cs=>AV.closedL cs |_=>true
def AV.closedL:List AV->Bool |[]=>true |x::r=>x.closed && AV.closedL r
end
theorem AV.closedL_at {l:List AV}(h:AV.closedL l=true)(i:Nat)(hi:i<l.length):l[i].closed=true:=by
 induction l generalizing i with
 |nil=>simp at hi
 |cons x r ih =>
  simp only [AV.closedL,Bool.and_eq_true] at h;cases i with
  |zero=>exact h.1
  |succ i=>exact ih h.2 i (by simpa using hi)
abbrev Gam:=Nat->Option (Option (Option Nat×Value))
def G0:Gam:=fun _=>none
inductive Rep (w:World) (S:Nat->Prop):Gam->AV->Value->Prop
 |any {γ:Gam} (v:Value):Rep w S γ .any v
 |int {γ:Gam} (k:IntKind) (n:Int):Rep w S γ (.int k n) (.int k n)
 |bool {γ:Gam} (b:Bool):Rep w S γ (.bool b) (.bool b)
 |str {γ:Gam} (s:ByteArray):Rep w S γ (.str s) (.string s)
 |nilp {γ:Gam}:Rep w S γ .nilp (.pointer none)
 |ptr {γ:Gam} {id off:Nat} {v:Value} {d:Option (Option Nat×Value)} (h:γ id=some d) (hv:∀ g s,d=some (some g,s)->v=.pointer (some ⟨g,off,none⟩)):Rep w S γ (.ptr id off) v
 |elt {γ:Gam} {id sz k j:Nat} {v:Value} {d:Option (Option Nat×Value)} (h:γ id=some d) (hv:∀ g s,d=some (some g,s)->v=.pointer (some ⟨g,k*sz+j,none⟩)):Rep w S γ (.elt id sz k j) v
 |nils {γ:Gam}:Rep w S γ .nils (.slice none 0 0)
 |sl {γ:Gam} {sz:Nat} {xs:List AV} (A:Option Addr) (c:Nat) (cell:Nat->Nat->Value) (hc:xs.length<=c) (hlen:∀ k (hk:k<xs.length),(xs[k]).cells.length=sz)
   (hb:0<xs.length->∃ b off,A=some ⟨b,off,none⟩/\S b/\b<w.heap.size/\∀ k j,k<xs.length->j<sz->w.cell? ⟨b,off+(k*sz+j),none⟩=some (cell k j))
   (hr:∀ k (hk:k<xs.length) j (hj:j<(xs[k]).cells.length),Rep w S G0 ((xs[k]).cells[j]) (cell k j)) (h1:∀ k j,(cell k j).oneCell'=true):Rep w S γ (.sl sz xs) (.slice A xs.length c)
 |row {γ:Gam} {id:Nat} {v:Value} {d:Option (Option Nat×Value)} (h:γ id=some d) (hv:∀ g s,d=some (g,s)->Oj s=false->v=s):Rep w S γ (.row id) v
 |fn {γ:Gam} {f:FuncId} {cap:List AV} (vs:Array Value) (hl:vs.size=cap.length) (hr:∀ i (hi:i<cap.length),Rep w S γ cap[i] (vs.getD i undef)):Rep w S γ (.fn f cap) (.func (.func f) #[] vs)
 |yld {γ:Gam} {l:Nat} {T:Array Value} {cap:List AV} (hr:∀ i (hi:i<cap.length),Rep w S γ cap[i] (T.getD i undef)):Rep w S γ (.yld l T cap) (.func (.yield l) #[] #[])
 |nilf {γ:Gam}:Rep w S γ .nilf .nilFunc
 |agg {γ:Gam} {cs:List AV} (vs:Array Value) (hl:vs.size=cs.length) (hr:∀ i (hi:i<cs.length),Rep w S γ cs[i] (vs.getD i undef)) (h1:∀ i,i<vs.size->(vs.getD i undef).oneCell'=true):Rep w S γ (.agg cs) (.agg vs)
 |tup {γ:Gam} {cs:List AV} (vs:Array Value) (hl:vs.size=cs.length) (hr:∀ i (hi:i<cs.length),Rep w S γ cs[i] (vs.getD i undef)):Rep w S γ (.tup cs) (.tuple vs)
 |ref {γ:Gam} {cs:List AV} (b off:Nat) (cell:Nat->Value) (hS:S b) (hb:b<w.heap.size) (hc:∀ j,j<cs.length->w.cell? ⟨b,off+j,none⟩=some (cell j))
   (hr:∀ j (hj:j<cs.length),Rep w S G0 cs[j] (cell j)) (h1:∀ j,j<cs.length->(cell j).oneCell'=true):Rep w S γ (.ref cs) (.pointer (some ⟨b,off,none⟩))
 |der {γ:Gam} {φ:Dv} {id:Nat} {v:Value} {d:Option (Option Nat×Value)} (h:γ id=some d) (hv:∀ g s,d=some (g,s)->φ.ok s=true/\v=φ.of s):Rep w S γ (.der φ id) v
 |mapv {γ:Gam} {ps:List (AV×AV)} (ps0:List (AV×AV)) (hp:Hv ps0 ps) (g:Nat) (es:Array MapEntry) (clock:Nat) (hb:Born es clock) (hS:S g) (hg:g<w.heap.size) (hh:w.heap[g]? = some (.map es clock)) (hl:es.size=ps0.length)
   (hk:∀ j (h:j<es.toList.length) (h':j<ps0.length),Rep w S G0 (ps0[j]).1 (es.toList[j]).key) (hv:∀ j (h:j<es.toList.length) (h':j<ps0.length),Rep w S G0 (ps0[j]).2 (es.toList[j]).val):Rep w S γ (.mapv ps) (.map (some g))
 |mapn {γ:Gam}:Rep w S γ (.mapv []) (.map none)
 |slen {γ:Gam} (A:Option Addr) (n c:Nat):Rep w S γ (.slen n) (.slice A n c)
 |cont {γ:Gam} {n id:Nat} {v:Value} {d:Option (Option Nat×Value)} (h:γ id=some d) (hv:∀ g s,d=some (g,s)->v=Dv.con.of s) (hl:∃ A c,v=.slice A n c/\(0<n->∃ b off,A=some ⟨b,off,none⟩)):Rep w S γ (.cont n id) v
section
variable {w w':World} {S S':Nat->Prop} {γ γ':Gam} {av:AV} {v:Value}
theorem Rep.mono (h:Rep w S γ av v)(E:w.heap.size<=w'.heap.size)(y:∀ b,S b->b<w.heap.size->w'.heap[b]? = w.heap[b]? /\ S' b):Rep w' S' γ av v:=by
 induction h with
 |any=>exact .any _
 |int=>exact .int _ _
 |bool=>exact .bool _
 |str=>exact .str _
 |nilp=>exact .nilp
 |ptr h i=>exact .ptr h i
 |elt h i=>exact .elt h i
 |nils=>exact .nils
 |sl A c cell G x q r h1 d =>
  refine .sl A c cell G x (fun O=>?_) (fun k y j F=>d k y j F) h1;obtain ⟨b,off,M,z,u,p⟩:=q O;obtain ⟨e,f⟩:=y b z u;exact ⟨b,off,M,f,aB u E,fun k j h1 N=>(World.cell?_of_block (w:=w) (a:=⟨b,_,none⟩) e).trans (p k j h1 N)⟩
 |row h i=>exact .row h i
 |fn vs m r d=>exact .fn vs m d
 |yld r d=>exact .yld d
 |nilf=>exact .nilf
 |agg vs m r h1 d=>exact .agg vs m d h1
 |tup vs m r d=>exact .tup vs m d
 |ref b off cell z q G r h1 d =>
  obtain ⟨e,f⟩:=y b z q;exact .ref b off cell f (aB q E) (fun j F=>(World.cell?_of_block (w:=w) (a:=⟨b,_,none⟩) e).trans (G j F)) d h1
 |der h i=>exact .der h i
 |mapv B I g es clock q z H L m J i D C =>
  obtain ⟨e,f⟩:=y g z H;exact .mapv B I g es clock q f (aB H E) (e.trans L) m D C
 |mapn=>exact .mapn
 |cont h i m=>exact .cont h i m
 |slen A n c=>exact .slen A n c
def Turn (γ:Gam)(id:Nat)(d:Option (Option Nat×Value)):Prop:=∃ s f,d=some (none,s)/\γ id=some (some (none,f))/\Oj s=true/\Oj f=true/\∀ c:Dv,c.ok s=true->c.ok f=true/\c.of f=c.of s
theorem Rep.gam (h:Rep w S γ av v)(r:∀ id d,γ id=some d->γ' id=some d\/γ' id=some none\/Turn γ' id d):Rep w S γ' av v:=by
 induction h with
 |any=>exact .any _
 |int=>exact .int _ _
 |bool=>exact .bool _
 |str=>exact .str _
 |nilp=>exact .nilp
 |ptr h k =>
  rcases r _ _ h with f|f|⟨z,E,m,f,D,y,j⟩
  ·exact .ptr f k
  ·exact .ptr f (fun g s e=>by cases e)
  ·exact .ptr f (fun g s e=>by cases e)
 |elt h k =>
  rcases r _ _ h with f|f|⟨z,E,m,f,D,y,j⟩
  ·exact .elt f k
  ·exact .elt f (fun g s e=>by cases e)
  ·exact .elt f (fun g s e=>by cases e)
 |nils=>exact .nils
 |sl A c cell x B C u h1 q=>exact .sl A c cell x B C u h1
 |row h k =>
  rcases r _ _ h with f|f|⟨z,E,m,f,D,y,j⟩
  ·exact .row f k
  ·exact .row f (fun g s e _=>by cases e)
  ·exact .row f (fun g s e x=>by injection e with e;injection e with _ e;subst e;rw [y] at x;cases x)
 |fn vs p u q=>exact .fn vs p (fun i hi=>q i hi r)
 |yld u q=>exact .yld (fun i hi=>q i hi r)
 |nilf=>exact .nilf
 |agg vs p u h1 q=>exact .agg vs p (fun i hi=>q i hi r) h1
 |tup vs p u q=>exact .tup vs p (fun i hi=>q i hi r)
 |ref b off cell H C x u h1 q=>exact .ref b off cell H C x u h1
 |der h k =>
  rcases r _ _ h with f|f|⟨z,E,m,f,D,y,j⟩
  ·exact .der f k
  ·exact .der f (fun g s e=>by cases e)
  ·exact .der f (fun g s e=>by
    injection e with e;injection e with _ e;subst e
    obtain ⟨M,L⟩:=k _ _ m;obtain ⟨J,I⟩:=j _ M;exact ⟨J,L.trans I.symm⟩)
 |cont h k p =>
  rcases r _ _ h with f|f|⟨z,E,m,f,D,y,j⟩
  ·exact .cont f k p
  ·exact .cont f (fun g s e=>by cases e) p
  ·exact .cont f (fun g s e=>by injection e with e;injection e with _ e;subst e;rw [(j .con (by cases z<;>rfl)).2];exact k _ _ m) p
 |mapv F R g es clock C H G U p T k O N=>exact .mapv F R g es clock C H G U p T k
 |mapn=>exact .mapn
 |slen A n c=>exact .slen A n c
theorem Rep.open_ (h:Rep w S G0 av v):Rep w S γ' av v:=h.gam (fun id d h=>by cases h)
theorem Rep.close (h:Rep w S γ av v)(d:av.closed=true):Rep w S γ' av v:=by
 induction h with
 |any=>exact .any _
 |int=>exact .int _ _
 |bool=>exact .bool _
 |str=>exact .str _
 |nilp=>exact .nilp
 |ptr h m=>simp [AV.closed] at d
 |elt h m=>simp [AV.closed] at d
 |nils=>exact .nils
 |sl A c cell x p q k h1 f=>exact .sl A c cell x p q k h1
 |row h m=>simp [AV.closed] at d
 |fn vs j k f=>simp only [AV.closed] at d;exact .fn vs j (fun i hi=>f i hi (AV.closedL_at d i hi))
 |yld k f=>simp only [AV.closed] at d;exact .yld (fun i hi=>f i hi (AV.closedL_at d i hi))
 |nilf=>exact .nilf
 |agg vs j k h1 f=>simp only [AV.closed] at d;exact .agg vs j (fun i hi=>f i hi (AV.closedL_at d i hi)) h1
 |tup vs j k f=>simp only [AV.closed] at d;exact .tup vs j (fun i hi=>f i hi (AV.closedL_at d i hi))
 |ref b off cell y q x k h1 f=>exact .ref b off cell y q x k h1
 |cont h m j=>simp [AV.closed] at d
 |der h m=>simp [AV.closed] at d
 |mapv r C g es clock q y u E j D m B z=>exact .mapv r C g es clock q y u E j D m
 |mapn=>exact .mapn
 |slen A n c=>exact .slen A n c
def AV.one:AV->Bool |.any|.agg _|.tup _|.ptr _ _|.row _|.elt _ _ _ _|.der _ _=>false |_=>true
theorem Rep.one (h:Rep w S γ av v)(h1:av.one=true):v.oneCell'=true:=by
 cases h<;>first|rfl|(rename_i c;obtain ⟨_,_,rfl,_⟩:=c;rfl)|(simp [AV.one] at h1;done)
theorem Rep.int_inv {k:IntKind}{n:Int}(h:Rep w S γ (.int k n) v):v=.int k n:=by cases h;rfl
theorem Rep.bool_inv {b:Bool}(h:Rep w S γ (.bool b) v):v=.bool b:=by cases h;rfl
theorem Rep.str_inv {s:ByteArray}(h:Rep w S γ (.str s) v):v=.string s:=by cases h;rfl
variable {id:Nat}{s:Value}
theorem Rep.ptr_inv {off:Nat}(h:Rep w S γ (.ptr id off) v)(d:γ id=some (some (some g,s))):v=.pointer (some ⟨g,off,none⟩):=by
 cases h with
 |ptr h c=>rw [d] at h;injection h with h;exact c g s h.symm
theorem Rep.elt_inv {k j:Nat}(h:Rep w S γ (.elt id sz k j) v)(d:γ id=some (some (some g,s))):v=.pointer (some ⟨g,k*sz+j,none⟩):=by
 cases h with
 |elt h c=>rw [d] at h;injection h with h;exact c g s h.symm
theorem Rep.nils_inv (h:Rep w S γ .nils v):v=.slice none 0 0:=by cases h;rfl
variable {cs:List AV}
theorem Rep.ref_inv (h:Rep w S γ (.ref cs) v):∃ b off,v=.pointer (some ⟨b,off,none⟩)/\S b/\b<w.heap.size/\∃ cell:Nat->Value,(∀ j,j<cs.length->w.cell? ⟨b,off+j,none⟩=some (cell j))/\(∀ j (k:j<cs.length),Rep w S G0 cs[j] (cell j))/\∀ j,j<cs.length->(cell j).oneCell'=true:=by
 cases h with
 |ref b off cell i f d c h1=>exact ⟨b,off,rfl,i,f,cell,d,c,h1⟩
theorem Fc (h:s.oneCell'=true):Oj s=false:=by cases s<;>first|rfl|simp [Value.oneCell'] at h
theorem Rep.sl_tup {xs:List AV}(h:Rep w S γ (.sl sz xs) v):Oj v=false:=by cases h;rfl
theorem Rep.row_inv {g:Option Nat}(h:Rep w S γ (.row id) v)(f:γ id=some (some (g,s)))(d:Oj s=false:=by first|rfl|assumption|(apply Fc;assumption)|(apply Rep.sl_tup;assumption)):v=s:=by
 cases h with
 |row h c=>rw [f] at h;injection h with h;exact c g s h.symm d
theorem Rep.der_inv {c:Dv}{g:Option Nat}(h:Rep w S γ (.der c id) v)(f:γ id=some (some (g,s))):v=c.of s:=by
 cases h with
 |der h d=>rw [f] at h;injection h with h;exact (d g s h.symm).2
theorem Rep.agg_inv (h:Rep w S γ (.agg cs) v):∃ vs:Array Value,v=.agg vs/\vs.size=cs.length/\(∀ i (hi:i<cs.length),Rep w S γ cs[i] (vs.getD i undef))/\∀ i,i<vs.size->(vs.getD i undef).oneCell'=true:=by
 cases h with
 |agg vs d c h1=>exact ⟨vs,rfl,d,c,h1⟩
theorem Rep.tup_inv (h:Rep w S γ (.tup cs) v):∃ vs:Array Value,v=.tuple vs/\vs.size=cs.length/\∀ i (hi:i<cs.length),Rep w S γ cs[i] (vs.getD i undef):=by
 cases h with
 |tup vs d c=>exact ⟨vs,rfl,d,c⟩
theorem Rep.fn_inv {f:FuncId}(h:Rep w S γ (.fn f cs) v):∃ vs:Array Value,v=.func (.func f) #[] vs/\vs.size=cs.length/\∀ i (hi:i<cs.length),Rep w S γ cs[i] (vs.getD i undef):=by
 cases h with
 |fn vs d c=>exact ⟨vs,rfl,d,c⟩
theorem Rep.yld_inv {l:Nat}{T:Array Value}(h:Rep w S γ (.yld l T cs) v):v=.func (.yield l) #[] #[]/\∀ i (hi:i<cs.length),Rep w S γ cs[i] (T.getD i undef):=by
 cases h with
 |yld c=>exact ⟨rfl,c⟩
theorem Rep.sl_inv {xs:List AV}(h:Rep w S γ (.sl sz xs) v):∃ A c,v=.slice A xs.length c/\xs.length<=c/\(∀ k (i:k<xs.length),(xs[k]).cells.length=sz) /\
  ∃ cell:Nat->Nat->Value,(0<xs.length->∃ b off,A=some ⟨b,off,none⟩/\S b/\b<w.heap.size/\∀ k j,k<xs.length->j<sz->w.cell? ⟨b,off+(k*sz+j),none⟩=some (cell k j)) /\
   (∀ k (i:k<xs.length) j (p:j<(xs[k]).cells.length),Rep w S G0 ((xs[k]).cells[j]) (cell k j))/\∀ k j,(cell k j).oneCell'=true:=by
 cases h with
 |sl A c cell m d n f h1=>exact ⟨A,c,rfl,m,d,cell,n,f,h1⟩
end
end Go.Proofs.YtidhlpjgifoneaaGreat
