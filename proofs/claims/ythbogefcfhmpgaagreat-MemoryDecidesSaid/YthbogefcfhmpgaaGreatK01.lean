/- Memory words over any program. -/
import Derived.WalkKit
import Derived.WalkSpells
import Derived.WalkLawsBesides
import Derived.BigQuiet
import Derived.Deep.QuietTactic
import Derived.Deep.Draws
import Derived.Deep.RegionHeld3
import Derived.Deep.DeepCutAuto
import Derived.Deep.DeepFit
import Derived.StillTailTactics
import Derived.Handy
import Derived.Lib.Hide
import Derived.Lib.SliceRun
import Derived.Maps.AppendAt
import Derived.Deep.RegionLaw
import Derived.Deep.AppendLies
import Derived.Shelf.Abstract
import Derived.Laws.StructEq
import Derived.Shelf.SlicesQ.Equal
import Derived.Lib.Overlaps
import Derived.Lib.AppendZeros
import Derived.Lib.AppendZerosOnto
import Derived.Laws.Externs
import Derived.Laws.IdiomCopy
import Derived.Orders
import Derived.OrdersIn
import Derived.OwnWalkIn
import Derived.RangeFuncLeaves
import Derived.RangeFuncCalls
import Derived.RangeFuncSeq
set_option linter.unusedVariables false
set_option linter.unusedSimpArgs false
namespace Go.Proofs.YthbogefcfhmpgaaGreat
open Go.RowKit List
open Nat renaming lt_of_lt_of_le->aA,eq_of_beq_eq_true->aF,beq->aH,eq_or_lt_of_le->aK,le_refl->aN,succ_mul->aO,le_trans->aP,eq_zero_or_pos->aT,lt_or_ge->aV,testBit_or->aY,blt->aZ
open Bool renaming or_eq_true->aB
open List renaming getD_eq_getElem?_getD->aC,length_append->aG,length_eq_zero_iff->aL,getElem?_append_right->aQ,getElem?_append_left->aR,getElem?_eq_getElem->aS,flatMap_cons->aW,length_cons->aX
open _root_.Array renaming getElem?_eq_some_iff->aD,getElem?_eq_getElem->aM,getD->aU
open Or renaming inl->aE,inr->aJ
theorem hide {p:Prop}(h:p):Hid p:=h
variable {α:Type}
def Sl (w:World)(S:Nat->Prop)(sz:Nat)(enc:α->List Value)(v:Value)(l:List α):Prop :=
 ∃ A c,v=.slice A l.length c/\l.length<=c /\
  (0<l.length->∃ b off,A=some ⟨b,off,none⟩/\S b/\b<w.heap.size/\∀ k (hk:k<l.length) j u,(enc l[k])[j]? = some u->w.cell? ⟨b,off+(k*sz+j),none⟩=some u)
variable {enc:α->List Value}{sz:Nat}{l:List α}
theorem z9y (henc:∀ x∈l,(enc x).length=sz)(k:Nat)(hk:k<l.length)(j:Nat)(hj:j<sz)(u:Value)(hu:(enc l[k])[j]? = some u) :
  (l.flatMap enc)[k*sz+j]? = some u:=by
 induction l generalizing k with
 |nil=>simp at hk
 |cons x r ih =>
  have hx:=henc x (by simp)
  rw [aW]
  cases k with
  |zero=>rw [aR (by rw [hx];omega)];simpa using hu
  |succ k =>
   rw [aQ (by rw [hx,aO];omega),hx,show (k+1)*sz+j-sz=k*sz+j by rw [aO];omega]
   exact ih (fun y hy=>henc y (by simp [hy])) k (by simpa using hk) (by simpa using hu)
section
variable {α:Type} {w w':World} {S S':Nat->Prop} {sz:Nat} {enc:α->List Value} {v:Value} {l:List α}
theorem Sl.nil_:Sl w S sz enc (.slice none 0 0) []:=⟨none,0,rfl,aN _,fun h=>absurd h (Nat.lt_irrefl _)⟩
theorem Sl.keep (h:Sl w S sz enc v l)(hz:w.heap.size<=w'.heap.size)(hk:∀ b,S b->b<w.heap.size->w'.heap[b]? = w.heap[b]?):Sl w' S sz enc v l:=by
 obtain ⟨A,c,hv,hc,hx⟩:=h
 refine ⟨A,c,hv,hc,fun hp=>?_⟩
 obtain ⟨b,off,hA,hS,hb,hcell⟩:=hx hp
 exact ⟨b,off,hA,hS,aA hb hz,fun k hlt j u hu=>(World.cell?_of_block (w:=w) (a:=⟨b,_,none⟩) (hk b hS hb)).trans (hcell k hlt j u hu)⟩
theorem Sl.below (h:Sl w S sz enc v l)(hb:Below w.heap.size w w'):Sl w' S sz enc v l:=h.keep hb.size fun b _ hlt=>hb.block b hlt
theorem Sl.weaken (h:Sl w S sz enc v l)(hS:∀ b,S b->S' b):Sl w S' sz enc v l:=by
 obtain ⟨A,c,hv,hc,hx⟩:=h
 refine ⟨A,c,hv,hc,fun hp=>?_⟩
 obtain ⟨b,off,hA,hSb,r⟩:=hx hp
 exact ⟨b,off,hA,hS b hSb,r⟩
theorem Sl.setCell (h:Sl w S sz enc v l){p:Addr}(hp:¬S p.block)(u:Value):Sl (w.setCell p u) S sz enc v l :=
 h.keep (by simp [World.setCell]) fun b hS _=>Below.heap_setCell w p u b (fun e=>hp (e▸hS))
theorem Sl.alloc (h:Sl w S sz enc v l)(o:Obj):Sl (w.alloc o) S sz enc v l:=h.below ((Below.refl _ _).alloc (aN _) o)
theorem Sl.form (h:Sl w S sz enc v l):∃ A c,v=.slice A l.length c/\l.length<=c/\(∀ k (hk:k<l.length),∃ b off,A=some ⟨b,off,none⟩/\b<w.heap.size/\∀ j u,(enc l[k])[j]? = some u->w.cell? ⟨b,off+(k*sz+j),none⟩=some u):=by
 obtain ⟨A,c,hv,hc,hx⟩:=h
 refine ⟨A,c,hv,hc,fun k hk=>?_⟩
 obtain ⟨b,off,hA,_,hb,hcell⟩:=hx (by omega)
 exact ⟨b,off,hA,hb,hcell k hk⟩
theorem Sl.of_own {base:Nat}{e:TypeId}(h:w.ownsRow base e sz v l.length (l.flatMap enc))(henc:∀ x∈l,(enc x).length=sz)(hS:∀ b,base<=b->S b):Sl w S sz enc v l:=by
 rcases h.2 with ⟨rfl,h0⟩|⟨g,cap,cur,rfl,hb,hg,hn,_,_,_⟩
 ·refine ⟨none,0,by rw [h0],by omega,fun h=>by omega⟩
 ·refine ⟨_,_,rfl,hn,fun _=>⟨g,0,rfl,hS g hb,(aD.1 hg).1,fun k hk j u hu=>?_⟩⟩
  have hj:j<sz:=by rw [<-henc _ (getElem_mem hk)];exact (List.getElem?_eq_some_iff.1 hu).1
  have hat:=z9y henc k hk j hj u hu
  have:=h.cells (g:=g) rfl _ _ hat
  rw [Addr.add] at this
  split at this
  ·rename_i h0;rw [h0];exact this
  ·exact this
end
structure EOk {α:Type} (P:Program) (t e:TypeId) (sz bytes:Nat) (enc:α->List Value):Prop where
 und:P.underlying t=some (.slice e)
 inf:∃ i z,P.info? e=some i/\i.zero=some z/\i.size=sz/\i.bytes=bytes/\z.cells.size=sz
 pos:0<sz
 len:∀ x,(enc x).length=sz
 one:∀ x,∀ u∈enc x,u.oneCell'=true
def Own (w:World)(base:Nat)(e:TypeId)(sz:Nat)(enc:α->List Value)(v:Value)(l:List α):Prop :=
 w.ownsRow base e sz v l.length (l.flatMap enc)
section
variable {α:Type} {P:Program} {w w':World} {S S':Nat->Prop} {t e:TypeId} {sz bytes base:Nat} {enc:α->List Value} {v:Value} {l:List α}
theorem Own.nil_:Own w base e sz enc (.slice none 0 0) ([]:List α):=World.ownsRow_nil w base e sz
theorem Own.val (h:Own w base e sz enc v l):∃ A c,v=.slice A l.length c/\l.length<=c/\c<=maxLen:=by
 rcases h.2 with ⟨rfl,h0⟩|⟨g,cap,cur,rfl,_,_,hn,hm,_⟩
 ·exact ⟨none,0,by rw [h0],by omega,by simp [maxLen]⟩
 ·exact ⟨_,_,rfl,hn,hm⟩
theorem Own.sl (h:Own w base e sz enc v l)(hE:EOk P t e sz bytes enc)(hS:∀ b,base<=b->S b):Sl w S sz enc v l:=Sl.of_own h (fun x _=>hE.len x) hS
theorem Own.kept {row:Option Nat}(h:Own w base e sz enc v l)(hg:w.grownBy w' row)(hne:v.ownBlock=none\/v.ownBlock≠row):Own w' base e sz enc v l:=World.ownsRow.kept h hg hne
theorem Own.below (h:Own w base e sz enc v l)(hb:Below w.heap.size w w'):Own w' base e sz enc v l :=
 h.kept (row:=none) ⟨hb.os,hb.tape,hb.output,hb.size,fun k hk _=>hb.block k hk⟩ (by cases v.ownBlock<;>simp)
theorem Own.lt (h:Own w base e sz enc v l):∀ k,v.ownBlock=some k->base<=k/\k<w.heap.size:=World.ownsRow.lt h
theorem Own.le {base':Nat}(h:Own w base e sz enc v l)(hb:base'<=base):Own w base' e sz enc v l :=
 ⟨h.1,h.2.elim aE (fun ⟨g,cap,cur,hv,hg,r⟩=>aJ ⟨g,cap,cur,hv,aP hb hg,r⟩)⟩
theorem Sl.flat (h:Sl w S sz enc v l)(hlen:∀ x∈l,(enc x).length=sz)(hsz:0<sz):∃ A c,v=.slice A l.length c/\l.length<=c/\(A=none->l=[])/\∀ ad,A=some ad->∀ j u,(l.flatMap enc)[j]? = some u->w.cell? (ad.add j)=some u:=by
 obtain ⟨A,c,rfl,hc,hx⟩:=h
 refine ⟨A,c,rfl,hc,fun hA=>?_,fun ad hA j u hu=>?_⟩
 ·rcases aT l.length with h0|h0
  ·exact aL.1 h0
  ·obtain ⟨b,off,hA',_⟩:=hx h0;rw [hA] at hA';cases hA'
 ·have hl:(l.flatMap enc).length=l.length*sz:=by
   clear hc hx hu
   induction l with
   |nil=>simp
   |cons x r ih=>rw [aW,aG,hlen x (by simp),ih (fun y hy=>hlen y (by simp [hy])),aX,aO];omega
  have hj:j<l.length*sz:=by rw [<-hl];exact (List.getElem?_eq_some_iff.1 hu).1
  have hk:j / sz<l.length:=(Nat.div_lt_iff_lt_mul hsz).2 hj
  obtain ⟨b,off,hA',_,hb,hcell⟩:=hx (Nat.lt_of_le_of_lt (Nat.zero_le _) hk)
  rw [hA] at hA'
  injection hA' with hA'
  subst hA'
  have hm:j % sz<sz:=Nat.mod_lt _ hsz
  have hdm:j / sz*sz+j % sz=j:=by rw [Nat.mul_comm];exact Nat.div_add_mod j sz
  have hin:j % sz<(enc l[j / sz]).length:=by rw [hlen _ (getElem_mem hk)];exact hm
  have hu':=z9y hlen (j / sz) hk (j % sz) hm _ (aS hin)
  rw [hdm,hu] at hu'
  have:=hcell (j / sz) hk (j % sz) _ (aS hin)
  rw [hdm] at this
  injection hu' with hu'
  rw [Addr.add_lit,this,hu']
theorem zf8 (hE:EOk P t e sz bytes enc)(ty:TypeId)(hown:Own w base e sz enc v l){u:Value}{l2:List α}(hu:Sl w S sz enc u l2)
  (h63:(l.length+l2.length)<=1099511627776) (hbytes:bytes<=100) (hbase:base<=w.heap.size) :
  ∃ A c w',(Builtin.append_ #[t,t] ty #[v,u]).run P w=.ok (.slice A (l++l2).length c) w'/\Own w' base e sz enc (.slice A (l++l2).length c) (l++l2)/\w.grownBy w' v.ownBlock /\
   ((Value.slice A (l++l2).length c).ownBlock=v.ownBlock\/(Value.slice A (l++l2).length c).ownBlock=some w.heap.size):=by
 obtain ⟨i,z,hi,hz,hsize,hby,hzs⟩:=hE.inf
 obtain ⟨A,c,rfl,hc,hnone,hcell⟩:=hu.flat (fun x _=>hE.len x) hE.pos
 have hl2:(l2.flatMap enc).length=l2.length*sz:=by
  clear hnone hcell h63 hc hu
  induction l2 with
  |nil=>simp
  |cons x r ih=>rw [aW,aG,hE.len x,ih,aX,aO];omega
 have h1:∀ u∈l2.flatMap enc,u.oneCell'=true:=fun u hu=>by
  obtain ⟨x,_,hx⟩:=mem_flatMap.1 hu
  exact hE.one x u hx
 have key:∃ v' w',(Builtin.append_ #[t,t] ty #[v,.slice A l2.length c]).run P w=.ok v' w'/\w'.ownsRow base e sz v' (l.length+l2.length) (l.flatMap enc++l2.flatMap enc)/\w.grownBy w' v.ownBlock/\(v'.ownBlock=v.ownBlock\/v'.ownBlock=some w.heap.size):=by
  cases A with
  |none =>
   have h0:=hnone rfl
   subst h0
   refine ⟨v,w,?_,by simpa [Own] using hown,World.grownBy.refl w _,.inl rfl⟩
   rcases hown.2 with ⟨rfl,h0⟩|⟨g,cap,cur,rfl,_,_,hnc,_⟩
   ·simp [Builtin.append_,run_underlying hE.und,Go.sizeOf,typeInfo,hi,Builtin.lenOf,Builtin.firstCells]
   ·simp [Builtin.append_,run_underlying hE.und,Go.sizeOf,typeInfo,hi,Builtin.lenOf,Builtin.firstCells,hnc,storeCells]
  |some ad =>
   obtain ⟨v',w',hrun,h2,h3,_,h5⟩:=run_append_own_at (P:=P) w base t ty e i z sz bytes hE.und hi hz hsize hby hzs hE.pos v l.length (l.flatMap enc) hown ad l2.length c (l2.flatMap enc) hl2 (hcell ad rfl) h1
    (by simp only [maxLen];omega) (aP (Nat.mul_le_mul h63 hbytes) (by omega)) hbase
   exact ⟨v',w',hrun,h2,h3,h5⟩
 obtain ⟨v',w',hrun,h2,h3,h4⟩:=key
 have hown':Own w' base e sz enc v' (l++l2):=by
  unfold Own
  rw [aG,flatMap_append]
  exact h2
 obtain ⟨A',c',rfl,_,_⟩:=hown'.val
 exact ⟨A',c',w',hrun,hown',h3,h4⟩
theorem z5s {ops:Array Oper}{rest:List Oper}{o:Oper}{a:Act}{Q:Exit->Act->World->Prop}(hgd:o.guard=none)(s x:Operand)
  (ho:o.op=.call { callee:=.builtin .append,args:=#[s,x],argTypes:=#[t,t] })
  (hE:EOk P t e sz bytes enc) (hs:a.eval s=v) (hown:Own w base e sz enc v l) {u:Value} {l2:List α} (hx:a.eval x=u) (hu:Sl w S sz enc u l2)
  (h63:(l.length+l2.length)<=1099511627776) (hbytes:bytes<=100) (hbase:base<=w.heap.size)
  (h:∀ A c w',Own w' base e sz enc (.slice A (l++l2).length c) (l++l2)->w.grownBy w' v.ownBlock ->
    ((Value.slice A (l++l2).length c).ownBlock=v.ownBlock\/(Value.slice A (l++l2).length c).ownBlock=some w.heap.size)->wpList P ops Q rest (a.put o.dst (.slice A (l++l2).length c)) w') :
  wpList P ops Q (o::rest) a w:=by
 refine wpList_plain hgd fun K hK=>?_
 obtain ⟨A,c,w',hr,h2,h3,h4⟩:=zf8 (P:=P) hE o.type hown hu h63 hbytes hbase
 unfold Oper.wp execOp
 simp only [ho,resolve,invoke,builtin,Sem.run_bind,Sem.run_pure,Result.andThen_ok,map_toArray,map_cons,map_nil,hs,hx,hr]
 exact hK _ _ (h A c w' h2 h3 h4)
end
theorem Below.next {a b c:World}(h:Below a.heap.size a b)(k:Below b.heap.size b c):Below a.heap.size a c:=h.trans (k.mono h.size)
variable {w:World}
theorem Own.made_ {e:TypeId}:Own (w.alloc (.cells #[] e)) w.heap.size e sz enc (.slice (some ⟨w.heap.size,0,none⟩) 0 0) ([]:List α) :=
 World.ownsRow_made w #[] 0 (aN _) (by simp [maxLen]) (by simp)
variable {w':World}
theorem Own.grown {B base:Nat}{w0:World}{e:TypeId}{v:Value}(h:Own w base e sz enc v l)(hb:Below B w0 w)(hB:B<=base)(hz:B<=w.heap.size)(hg:w.grownBy w' v.ownBlock):Below B w0 w' :=
 hb.grown hg hz (fun k hk=>aP hB (h.lt k hk).1)
def zt9 (e:TypeId)(sz:Nat)(enc:α->List Value)(l:List α)(w0:World)(r:Ending)(w':World):Prop :=
 ∃ A c,r=.returned (.slice A l.length c)/\Own w' w0.heap.size e sz enc (.slice A l.length c) l/\Below w0.heap.size w0 w'
variable {S:Nat->Prop}
theorem Sl.none_nil {n c:Nat}(h:Sl w S sz enc (.slice none n c) l):l=[]:=by
 obtain ⟨A,c',he,_,hx⟩:=h
 injection he with he _ _
 rcases aT l.length with h0|h0
 ·exact aL.1 h0
 ·obtain ⟨b,off,hA',_⟩:=hx h0;rw [<-he] at hA';cases hA'
def zym (P:Program)(g:Nat)(lb:Array Value)(arg:α->Value)(p:α->Bool)(w:World):Prop :=
 ∀ (W:World) (x:α),Below w.heap.size w W->Calls P g (#[arg x]++lb) W fun e w'=>e=.returned (.bool (p x))/\Below W.heap.size W w'
variable {g:Nat}
theorem zym.later {P:Program}{lb:Array Value}{arg:α->Value}{p:α->Bool}{w1:World}(h:zym P g lb arg p w)(hb:Below w.heap.size w w1):zym P g lb arg p w1 :=
 fun W x hW=>h W x (hb.trans (hW.mono hb.size))
def Blk (w:World)(g:Nat)(t:TypeId)(cs:Array Value):Prop:=w.heap[g]? = some (.cells cs t (0,0))
section
variable {w w':World} {g:Nat} {t:TypeId} {cs:Array Value}
theorem Blk.lt (h:Blk w g t cs):g<w.heap.size:=by
 rcases aV g w.heap.size with hlt|hge
 ·exact hlt
 ·unfold Blk at h;rw [Array.getElem?_eq_none hge] at h;cases h
theorem Blk.cell (h:Blk w g t cs)(i:Nat):w.cell? ⟨g,i,none⟩=cs[i]? := cell_of_row w g i cs t (0,0) h
theorem Blk.frozen (h:Blk w g t cs)(i:Nat):w.frozen? ⟨g,i,none⟩=false:=by
 unfold Blk at h
 simp [World.frozen?,h]
theorem Blk.shape (h:Blk w g t cs):w.shape? g=some (t,cs.size):=by unfold Blk at h;simp [World.shape?,h]
theorem Blk.new (w:World)(t:TypeId)(cs:Array Value):Blk (w.alloc (.cells cs t)) w.heap.size t cs:=heap_alloc_new w _
theorem Blk.alloc (h:Blk w g t cs)(o:Obj):Blk (w.alloc o) g t cs:=(Below.heap_alloc w o g h.lt).trans h
theorem Blk.below (h:Blk w g t cs)(hb:Below w.heap.size w w'):Blk w' g t cs:=(hb.block g h.lt).trans h
theorem Blk.set (h:Blk w g t cs)(i:Nat)(u:Value):Blk (w.setCell ⟨g,i,none⟩ u) g t (cs.setIfInBounds i u):=by
 unfold Blk at h ⊢
 simp [World.setCell,Array.getElem?_modify,h]
theorem Blk.grown {row:Option Nat}(h:Blk w g t cs)(hb:w.grownBy w' row)(hg:some g≠row):Blk w' g t cs:=(hb.block g h.lt hg).trans h
end
section
variable {P:Program} {w:World}
end
structure Pt where
 seq:Int
 time:Int
deriving DecidableEq
structure Trk where
 next:Int
 beyond:List Int
 points:List Pt
 mark:Int
deriving DecidableEq
inductive Dv where
 |sub (sz lo:Nat)
 |con
 |nelt (k:Nat)
 |obj (j:Nat)
 |oelt (j k:Nat)
deriving Inhabited
def Oh:Value->Bool
 |.tuple _=>true
 |.agg _=>true
 |_=>false
def Dv.of:Dv->Value->Value
 |.sub sz lo,.slice (some a) n c=>.slice (some (if c=lo then a else ⟨a.block,a.off+lo*sz,none⟩)) (n-lo) (c-lo)
 |.sub _ _,.slice none n c=>.slice none (n-0) (c-0)
 |.con,.tuple vs=>vs.getD 0 undef
 |.nelt k,.tuple vs=>match vs.getD 0 undef with|.slice (some a) _ _=>.pointer (some ⟨a.block,a.off+k,none⟩)|v=>v
 |.con,.agg vs=>vs.getD 0 undef
 |.nelt k,.agg vs=>match vs.getD 0 undef with|.slice (some a) _ _=>.pointer (some ⟨a.block,a.off+k,none⟩)|v=>v
 |.obj j,.agg vs=>vs.getD (j+1) undef
 |.oelt j k,.agg vs=>match vs.getD (j+1) undef with|.slice (some a) _ _=>.pointer (some ⟨a.block,a.off+k,none⟩)|v=>v
 |_,_=>undef
def Dv.ok:Dv->Value->Bool
 |.obj j,.agg vs=>aZ (j+1) vs.size
 |.oelt j _,.agg vs=>aZ (j+1) vs.size
 |.obj _,_=>false
 |.oelt _ _,_=>false
 |_,_=>true
def Born (es:Array MapEntry)(clock:Nat):Prop:=(es.toList.map (·.born)).Nodup/\∀ e∈es.toList,e.born<clock
inductive AV where
 |any
 |int (k:IntKind) (n:Int)
 |bool (b:Bool)
 |str (s:ByteArray)
 |nilp
 |ptr (id off:Nat)
 |nils
 |sl (sz:Nat) (xs:List AV)
 |row (id:Nat)
 |elt (id sz k j:Nat)
 |fn (f:FuncId) (cap:List AV)
 |yld (l:Nat) (T:Array Value) (cap:List AV)
 |nilf
 |agg (cs:List AV)
 |tup (cs:List AV)
 |ref (cs:List AV)
 |der (φ:Dv) (id:Nat)
 |mapv (ps:List (AV×AV))
 |slen (n:Nat)
 |cont (n id:Nat)
deriving Inhabited
def intN:AV->Int
 |.int _ n=>n
 |_=>0
def isI (kd:IntKind):AV->Bool
 |.int k _=>decide (k=kd)
 |_=>false
def y1d (ps:List (AV×AV)):Prop:=∃ kd,(∀ p∈ps,isI kd p.1=true)/\(ps.map fun p=>intN p.1).Nodup
def Fc (ps0 ps:List (AV×AV)):Prop:=ps0=ps\/(ps0.Perm ps/\y1d ps)
def AV.cells:AV->List AV
 |.agg cs=>cs
 |x=>[x]
mutual
def AV.closed:AV->Bool
 |.ptr _ _=>false
 |.row _=>false
 |.elt _ _ _ _=>false
 |.der _ _=>false
 |.cont _ _=>false
 |.fn _ cap=>AV.closedL cap
 |.yld _ _ cap=>AV.closedL cap
 |.agg cs=>AV.closedL cs
 |.tup cs=>AV.closedL cs
 |_=>true
def AV.closedL:List AV->Bool
 |[]=>true
 |x::r=>x.closed && AV.closedL r
end
theorem AV.closedL_at {l:List AV}(h:AV.closedL l=true)(i:Nat)(hi:i<l.length):l[i].closed=true:=by
 induction l generalizing i with
 |nil=>simp at hi
 |cons x r ih =>
  simp only [AV.closedL,Bool.and_eq_true] at h
  cases i with
  |zero=>exact h.1
  |succ i=>exact ih h.2 i (by simpa using hi)
abbrev Gam:=Nat->Option (Option (Option Nat×Value))
def G0:Gam:=fun _=>none
inductive Rep (w:World) (S:Nat->Prop):Gam->AV->Value->Prop
 |any {γ:Gam} (v:Value):Rep w S γ .any v
 |int {γ:Gam} (k:IntKind) (n:Int):Rep w S γ (.int k n) (.int k n)
 |bool {γ:Gam} (b:Bool):Rep w S γ (.bool b) (.bool b)
 |str {γ:Gam} (s:ByteArray):Rep w S γ (.str s) (.string s)
 |nilp {γ:Gam}:Rep w S γ .nilp (.pointer none)
 |ptr {γ:Gam} {id off:Nat} {v:Value} {d:Option (Option Nat×Value)} (h:γ id=some d) (hv:∀ g s,d=some (some g,s)->v=.pointer (some ⟨g,off,none⟩)):Rep w S γ (.ptr id off) v
 |elt {γ:Gam} {id sz k j:Nat} {v:Value} {d:Option (Option Nat×Value)} (h:γ id=some d) (hv:∀ g s,d=some (some g,s)->v=.pointer (some ⟨g,k*sz+j,none⟩)):Rep w S γ (.elt id sz k j) v
 |nils {γ:Gam}:Rep w S γ .nils (.slice none 0 0)
 |sl {γ:Gam} {sz:Nat} {xs:List AV} (A:Option Addr) (c:Nat) (cell:Nat->Nat->Value) (hc:xs.length<=c) (hlen:∀ k (hk:k<xs.length),(xs[k]).cells.length=sz)
   (hb:0<xs.length->∃ b off,A=some ⟨b,off,none⟩/\S b/\b<w.heap.size/\∀ k j,k<xs.length->j<sz->w.cell? ⟨b,off+(k*sz+j),none⟩=some (cell k j))
   (hr:∀ k (hk:k<xs.length) j (hj:j<(xs[k]).cells.length),Rep w S G0 ((xs[k]).cells[j]) (cell k j)) (h1:∀ k j,(cell k j).oneCell'=true):Rep w S γ (.sl sz xs) (.slice A xs.length c)
 |row {γ:Gam} {id:Nat} {v:Value} {d:Option (Option Nat×Value)} (h:γ id=some d) (hv:∀ g s,d=some (g,s)->Oh s=false->v=s):Rep w S γ (.row id) v
 |fn {γ:Gam} {f:FuncId} {cap:List AV} (vs:Array Value) (hl:vs.size=cap.length) (hr:∀ i (hi:i<cap.length),Rep w S γ cap[i] (vs.getD i undef)):Rep w S γ (.fn f cap) (.func (.func f) #[] vs)
 |yld {γ:Gam} {l:Nat} {T:Array Value} {cap:List AV} (hr:∀ i (hi:i<cap.length),Rep w S γ cap[i] (T.getD i undef)):Rep w S γ (.yld l T cap) (.func (.yield l) #[] #[])
 |nilf {γ:Gam}:Rep w S γ .nilf .nilFunc
 |agg {γ:Gam} {cs:List AV} (vs:Array Value) (hl:vs.size=cs.length) (hr:∀ i (hi:i<cs.length),Rep w S γ cs[i] (vs.getD i undef)) (h1:∀ i,i<vs.size->(vs.getD i undef).oneCell'=true):Rep w S γ (.agg cs) (.agg vs)
 |tup {γ:Gam} {cs:List AV} (vs:Array Value) (hl:vs.size=cs.length) (hr:∀ i (hi:i<cs.length),Rep w S γ cs[i] (vs.getD i undef)):Rep w S γ (.tup cs) (.tuple vs)
 |ref {γ:Gam} {cs:List AV} (b off:Nat) (cell:Nat->Value) (hS:S b) (hb:b<w.heap.size) (hc:∀ j,j<cs.length->w.cell? ⟨b,off+j,none⟩=some (cell j))
   (hr:∀ j (hj:j<cs.length),Rep w S G0 cs[j] (cell j)) (h1:∀ j,j<cs.length->(cell j).oneCell'=true):Rep w S γ (.ref cs) (.pointer (some ⟨b,off,none⟩))
 |der {γ:Gam} {φ:Dv} {id:Nat} {v:Value} {d:Option (Option Nat×Value)} (h:γ id=some d) (hv:∀ g s,d=some (g,s)->φ.ok s=true/\v=φ.of s):Rep w S γ (.der φ id) v
 |mapv {γ:Gam} {ps:List (AV×AV)} (ps0:List (AV×AV)) (hp:Fc ps0 ps) (g:Nat) (es:Array MapEntry) (clock:Nat) (hb:Born es clock) (hS:S g) (hg:g<w.heap.size) (hh:w.heap[g]? = some (.map es clock)) (hl:es.size=ps0.length)
   (hk:∀ j (h:j<es.toList.length) (h':j<ps0.length),Rep w S G0 (ps0[j]).1 (es.toList[j]).key) (hv:∀ j (h:j<es.toList.length) (h':j<ps0.length),Rep w S G0 (ps0[j]).2 (es.toList[j]).val):Rep w S γ (.mapv ps) (.map (some g))
 |mapn {γ:Gam}:Rep w S γ (.mapv []) (.map none)
 |slen {γ:Gam} (A:Option Addr) (n c:Nat):Rep w S γ (.slen n) (.slice A n c)
 |cont {γ:Gam} {n id:Nat} {v:Value} {d:Option (Option Nat×Value)} (h:γ id=some d) (hv:∀ g s,d=some (g,s)->v=Dv.con.of s) (hl:∃ A c,v=.slice A n c/\(0<n->∃ b off,A=some ⟨b,off,none⟩)):Rep w S γ (.cont n id) v
section
variable {w w':World} {S S':Nat->Prop} {γ γ':Gam} {av:AV} {v:Value}
theorem Rep.mono (h:Rep w S γ av v)(hz:w.heap.size<=w'.heap.size)(hk:∀ b,S b->b<w.heap.size->w'.heap[b]? = w.heap[b]? /\ S' b):Rep w' S' γ av v:=by
 induction h with
 |any=>exact .any _
 |int=>exact .int _ _
 |bool=>exact .bool _
 |str=>exact .str _
 |nilp=>exact .nilp
 |ptr h hv=>exact .ptr h hv
 |elt h hv=>exact .elt h hv
 |nils=>exact .nils
 |sl A c cell hc hlen hb hr h1 ih =>
  refine .sl A c cell hc hlen (fun h0=>?_) (fun k hk j hj=>ih k hk j hj) h1
  obtain ⟨b,off,hA,hS,hlt,hcell⟩:=hb h0
  obtain ⟨e,hS'⟩:=hk b hS hlt
  exact ⟨b,off,hA,hS',aA hlt hz,fun k j h1 h2=>(World.cell?_of_block (w:=w) (a:=⟨b,_,none⟩) e).trans (hcell k j h1 h2)⟩
 |row h hv=>exact .row h hv
 |fn vs hl hr ih=>exact .fn vs hl ih
 |yld hr ih=>exact .yld ih
 |nilf=>exact .nilf
 |agg vs hl hr h1 ih=>exact .agg vs hl ih h1
 |tup vs hl hr ih=>exact .tup vs hl ih
 |ref b off cell hS hb hc hr h1 ih =>
  obtain ⟨e,hS'⟩:=hk b hS hb
  exact .ref b off cell hS' (aA hb hz) (fun j hj=>(World.cell?_of_block (w:=w) (a:=⟨b,_,none⟩) e).trans (hc j hj)) ih h1
 |der h hv=>exact .der h hv
 |mapv ps0 hp g es clock hb hS hg hh hl hk' hv ih1 ih2 =>
  obtain ⟨e,hS'⟩:=hk g hS hg
  exact .mapv ps0 hp g es clock hb hS' (aA hg hz) (e.trans hh) hl ih1 ih2
 |mapn=>exact .mapn
 |cont h hv hl=>exact .cont h hv hl
 |slen A n c=>exact .slen A n c
def Turn (γ:Gam)(id:Nat)(d:Option (Option Nat×Value)):Prop:=∃ s s',d=some (none,s)/\γ id=some (some (none,s'))/\Oh s=true/\Oh s'=true/\∀ φ:Dv,φ.ok s=true->φ.ok s'=true/\φ.of s'=φ.of s
theorem Rep.gam (h:Rep w S γ av v)(hg:∀ id d,γ id=some d->γ' id=some d\/γ' id=some none\/Turn γ' id d):Rep w S γ' av v:=by
 induction h with
 |any=>exact .any _
 |int=>exact .int _ _
 |bool=>exact .bool _
 |str=>exact .str _
 |nilp=>exact .nilp
 |ptr h hv =>
  rcases hg _ _ h with h'|h'|⟨s1,s2,hd1,h',t1,t2,hφ⟩
  ·exact .ptr h' hv
  ·exact .ptr h' (fun g s e=>by cases e)
  ·exact .ptr h' (fun g s e=>by cases e)
 |elt h hv =>
  rcases hg _ _ h with h'|h'|⟨s1,s2,hd1,h',t1,t2,hφ⟩
  ·exact .elt h' hv
  ·exact .elt h' (fun g s e=>by cases e)
  ·exact .elt h' (fun g s e=>by cases e)
 |nils=>exact .nils
 |sl A c cell hc hlen hb hr h1 ih=>exact .sl A c cell hc hlen hb hr h1
 |row h hv =>
  rcases hg _ _ h with h'|h'|⟨s1,s2,hd1,h',t1,t2,hφ⟩
  ·exact .row h' hv
  ·exact .row h' (fun g s e _=>by cases e)
  ·exact .row h' (fun g s e hc=>by injection e with e;injection e with _ e;subst e;rw [t2] at hc;cases hc)
 |fn vs hl hr ih=>exact .fn vs hl (fun i hi=>ih i hi hg)
 |yld hr ih=>exact .yld (fun i hi=>ih i hi hg)
 |nilf=>exact .nilf
 |agg vs hl hr h1 ih=>exact .agg vs hl (fun i hi=>ih i hi hg) h1
 |tup vs hl hr ih=>exact .tup vs hl (fun i hi=>ih i hi hg)
 |ref b off cell hS hb hc hr h1 ih=>exact .ref b off cell hS hb hc hr h1
 |der h hv =>
  rcases hg _ _ h with h'|h'|⟨s1,s2,hd1,h',t1,t2,hφ⟩
  ·exact .der h' hv
  ·exact .der h' (fun g s e=>by cases e)
  ·exact .der h' (fun g s e=>by
    injection e with e;injection e with _ e;subst e
    obtain ⟨k1,k2⟩:=hv _ _ hd1
    obtain ⟨k3,k4⟩:=hφ _ k1
    exact ⟨k3,k2.trans k4.symm⟩)
 |cont h hv hl =>
  rcases hg _ _ h with h'|h'|⟨s1,s2,hd1,h',t1,t2,hφ⟩
  ·exact .cont h' hv hl
  ·exact .cont h' (fun g s e=>by cases e) hl
  ·exact .cont h' (fun g s e=>by injection e with e;injection e with _ e;subst e;rw [(hφ .con (by cases s1<;>rfl)).2];exact hv _ _ hd1) hl
 |mapv ps0 hp g es clock hb hS hgb hh hl hk hv ih1 ih2=>exact .mapv ps0 hp g es clock hb hS hgb hh hl hk hv
 |mapn=>exact .mapn
 |slen A n c=>exact .slen A n c
theorem Rep.open_ (h:Rep w S G0 av v):Rep w S γ' av v:=h.gam (fun id d h=>by cases h)
theorem Rep.close (h:Rep w S γ av v)(hcl:av.closed=true):Rep w S γ' av v:=by
 induction h with
 |any=>exact .any _
 |int=>exact .int _ _
 |bool=>exact .bool _
 |str=>exact .str _
 |nilp=>exact .nilp
 |ptr h hv=>simp [AV.closed] at hcl
 |elt h hv=>simp [AV.closed] at hcl
 |nils=>exact .nils
 |sl A c cell hc hlen hb hr h1 ih=>exact .sl A c cell hc hlen hb hr h1
 |row h hv=>simp [AV.closed] at hcl
 |fn vs hl hr ih=>simp only [AV.closed] at hcl;exact .fn vs hl (fun i hi=>ih i hi (AV.closedL_at hcl i hi))
 |yld hr ih=>simp only [AV.closed] at hcl;exact .yld (fun i hi=>ih i hi (AV.closedL_at hcl i hi))
 |nilf=>exact .nilf
 |agg vs hl hr h1 ih=>simp only [AV.closed] at hcl;exact .agg vs hl (fun i hi=>ih i hi (AV.closedL_at hcl i hi)) h1
 |tup vs hl hr ih=>simp only [AV.closed] at hcl;exact .tup vs hl (fun i hi=>ih i hi (AV.closedL_at hcl i hi))
 |ref b off cell hS hb hc hr h1 ih=>exact .ref b off cell hS hb hc hr h1
 |cont h hv hl=>simp [AV.closed] at hcl
 |der h hv=>simp [AV.closed] at hcl
 |mapv ps0 hp g es clock hb hS hgb hh hl hk hv ih1 ih2=>exact .mapv ps0 hp g es clock hb hS hgb hh hl hk hv
 |mapn=>exact .mapn
 |slen A n c=>exact .slen A n c
def AV.one:AV->Bool
 |.any|.agg _|.tup _|.ptr _ _|.row _|.elt _ _ _ _|.der _ _=>false
 |_=>true
theorem Rep.one (h:Rep w S γ av v)(h1:av.one=true):v.oneCell'=true:=by
 cases h<;>first|rfl|(rename_i hl;obtain ⟨_,_,rfl,_⟩:=hl;rfl)|(simp [AV.one] at h1;done)
theorem Rep.int_inv {k:IntKind}{n:Int}(h:Rep w S γ (.int k n) v):v=.int k n:=by cases h;rfl
theorem Rep.bool_inv {b:Bool}(h:Rep w S γ (.bool b) v):v=.bool b:=by cases h;rfl
theorem Rep.str_inv {s:ByteArray}(h:Rep w S γ (.str s) v):v=.string s:=by cases h;rfl
variable {id:Nat}{s:Value}
theorem Rep.ptr_inv {off:Nat}(h:Rep w S γ (.ptr id off) v)(hg:γ id=some (some (some g,s))):v=.pointer (some ⟨g,off,none⟩):=by
 cases h with
 |ptr h hv=>rw [hg] at h;injection h with h;exact hv g s h.symm
theorem Rep.elt_inv {k j:Nat}(h:Rep w S γ (.elt id sz k j) v)(hg:γ id=some (some (some g,s))):v=.pointer (some ⟨g,k*sz+j,none⟩):=by
 cases h with
 |elt h hv=>rw [hg] at h;injection h with h;exact hv g s h.symm
theorem Rep.nils_inv (h:Rep w S γ .nils v):v=.slice none 0 0:=by cases h;rfl
variable {cs:List AV}
theorem Rep.ref_inv (h:Rep w S γ (.ref cs) v):∃ b off,v=.pointer (some ⟨b,off,none⟩)/\S b/\b<w.heap.size/\∃ cell:Nat->Value,(∀ j,j<cs.length->w.cell? ⟨b,off+j,none⟩=some (cell j))/\(∀ j (hj:j<cs.length),Rep w S G0 cs[j] (cell j))/\∀ j,j<cs.length->(cell j).oneCell'=true:=by
 cases h with
 |ref b off cell hS hb hc hr h1=>exact ⟨b,off,rfl,hS,hb,cell,hc,hr,h1⟩
theorem Nt (h:s.oneCell'=true):Oh s=false:=by cases s<;>first|rfl|simp [Value.oneCell'] at h
theorem Rep.sl_tup {xs:List AV}(h:Rep w S γ (.sl sz xs) v):Oh v=false:=by cases h;rfl
theorem Rep.row_inv {g:Option Nat}(h:Rep w S γ (.row id) v)(hg:γ id=some (some (g,s)))(ht:Oh s=false:=by first|rfl|assumption|(apply Nt;assumption)|(apply Rep.sl_tup;assumption)):v=s:=by
 cases h with
 |row h hv=>rw [hg] at h;injection h with h;exact hv g s h.symm ht
theorem Rep.der_inv {φ:Dv}{g:Option Nat}(h:Rep w S γ (.der φ id) v)(hg:γ id=some (some (g,s))):v=φ.of s:=by
 cases h with
 |der h hv=>rw [hg] at h;injection h with h;exact (hv g s h.symm).2
theorem Rep.agg_inv (h:Rep w S γ (.agg cs) v):∃ vs:Array Value,v=.agg vs/\vs.size=cs.length/\(∀ i (hi:i<cs.length),Rep w S γ cs[i] (vs.getD i undef))/\∀ i,i<vs.size->(vs.getD i undef).oneCell'=true:=by
 cases h with
 |agg vs hl hr h1=>exact ⟨vs,rfl,hl,hr,h1⟩
theorem Rep.tup_inv (h:Rep w S γ (.tup cs) v):∃ vs:Array Value,v=.tuple vs/\vs.size=cs.length/\∀ i (hi:i<cs.length),Rep w S γ cs[i] (vs.getD i undef):=by
 cases h with
 |tup vs hl hr=>exact ⟨vs,rfl,hl,hr⟩
theorem Rep.fn_inv {f:FuncId}(h:Rep w S γ (.fn f cs) v):∃ vs:Array Value,v=.func (.func f) #[] vs/\vs.size=cs.length/\∀ i (hi:i<cs.length),Rep w S γ cs[i] (vs.getD i undef):=by
 cases h with
 |fn vs hl hr=>exact ⟨vs,rfl,hl,hr⟩
theorem Rep.yld_inv {l:Nat}{T:Array Value}(h:Rep w S γ (.yld l T cs) v):v=.func (.yield l) #[] #[]/\∀ i (hi:i<cs.length),Rep w S γ cs[i] (T.getD i undef):=by
 cases h with
 |yld hr=>exact ⟨rfl,hr⟩
theorem Rep.sl_inv {xs:List AV}(h:Rep w S γ (.sl sz xs) v):∃ A c,v=.slice A xs.length c/\xs.length<=c/\(∀ k (hk:k<xs.length),(xs[k]).cells.length=sz) /\
  ∃ cell:Nat->Nat->Value,(0<xs.length->∃ b off,A=some ⟨b,off,none⟩/\S b/\b<w.heap.size/\∀ k j,k<xs.length->j<sz->w.cell? ⟨b,off+(k*sz+j),none⟩=some (cell k j)) /\
   (∀ k (hk:k<xs.length) j (hj:j<(xs[k]).cells.length),Rep w S G0 ((xs[k]).cells[j]) (cell k j))/\∀ k j,(cell k j).oneCell'=true:=by
 cases h with
 |sl A c cell hc hlen hb hr h1=>exact ⟨A,c,rfl,hc,hlen,cell,hb,hr,h1⟩
end
open Go.RowKit
inductive NE where
 |row (ty sz:Nat) (xs:List AV)
 |mp (ps:List (AV×AV))
 |hole
deriving Inhabited
inductive Ent where
 |box (ty:TypeId) (cells:List AV)
 |row (ty:TypeId) (sz:Nat) (xs:List AV)
 |mp (ps:List (AV×AV))
 |nest (ty:TypeId) (es:List NE)
 |mpn (ps:List (AV×NE))
 |are (ty:TypeId) (idx:List (Option Nat)) (os:List NE)
 |it (ps:List (AV×AV))
 |itp (ps:List (AV×AV))
 |itc (p:AV×AV) (ps:List (AV×AV))
 |dead
deriving Inhabited
structure AS where
 tm:List (Nat×AV)
 me:List (Nat×Ent)
deriving Inhabited
def lkV:List (Nat×AV)->Nat->AV
 |[],_=>.any
 |(u,x)::r,t=>match aH u t with|true=>x|false=>lkV r t
def lkE:List (Nat×Ent)->Nat->Option Ent
 |[],_=>none
 |(u,x)::r,t=>match aH u t with|true=>some x|false=>lkE r t
def AS.get (σ:AS)(t:Nat):AV:=lkV σ.tm t
def AS.find (σ:AS)(i:Nat):Option Ent:=lkE σ.me i
def putD (d:Option Nat)(v:AV)(l:List (Nat×AV)):List (Nat×AV):=match d with|some d=>(d,v)::l|none=>l
def AS.upd (σ:AS)(dst:Option Nat)(v:AV)(wr:List (Nat×Ent)):AS:=⟨putD dst v σ.tm,wr++σ.me⟩
theorem AS.get_upd (σ:AS)(dst:Option Nat)(v:AV)(wr:List (Nat×Ent))(t:Nat):(σ.upd dst v wr).get t=if dst=some t then v else σ.get t:=by
 cases dst with
 |none=>simp [AS.upd,AS.get,putD]
 |some d =>
  simp only [AS.upd,AS.get,putD,lkV,Option.some.injEq]
  by_cases h:d=t
  ·subst h;simp
  ·rw [if_neg h]
   have:aH d t=false:=by
    cases hb:aH d t with
    |false=>rfl
    |true=>exact absurd (aF hb) h
   rw [this]
theorem zei (l m:List (Nat×Ent))(i:Nat):lkE (l++m) i=(lkE l i).or (lkE m i):=by
 induction l with
 |nil=>simp [lkE]
 |cons x r ih =>
  obtain ⟨u,e⟩:=x
  simp only [cons_append,lkE]
  cases h:aH u i<;>simp [ih]
theorem AS.find_upd (σ:AS)(dst:Option Nat)(v:AV)(wr:List (Nat×Ent))(i:Nat):(σ.upd dst v wr).find i=(lkE wr i).or (σ.find i):=zei _ _ _
def Az:Value->Option Nat
 |.slice (some a) _ _=>some a.block
 |.map (some g)=>some g
 |_=>none
def Ca:Value->List Nat
 |.tuple vs=>vs.toList.filterMap Az
 |.agg vs=>vs.toList.filterMap Az
 |_=>[]
def blks:Option (Option Nat×Value)->List Nat
 |none=>[]
 |some (o,s)=>o.toList++Ca s
variable {b:Nat}{s:Value}
theorem Bh:b∈blks (some (some b,s)):=by simp [blks]
def own (γ:Gam)(b:Nat):Prop:=∃ id d,γ id=some d/\b∈blks d
theorem own.mk {γ:Gam}{id:Nat}(h:γ id=some (some (some b,s))):own γ b:=⟨id,_,h,Bh⟩
theorem O5 (hs:Ca s=[])(h:b∈blks (some (some g,s))):b=g:=by simpa [blks,hs] using h
theorem Rp (hs:Ca s=[])(h:b∈blks (some (none,s))):False:=by simp [blks,hs] at h
theorem Fq (hs:Ca s=[])(h:b∈blks (some (s.ownBlock,s))):s.ownBlock=some b:=by
 cases ho:s.ownBlock with
 |none=>rw [ho] at h;exact (Rp hs h).elim
 |some g=>rw [ho] at h;rw [O5 hs h]
theorem Fp (h:s.oneCell'=true):Ca s=[]:=by cases s<;>first|rfl|simp [Value.oneCell'] at h
def Nw (S0:Nat->Prop)(B b:Nat):Prop:=B<=b/\¬S0 b
def Sg (S0:Nat->Prop)(B:Nat)(γ:Gam)(b:Nat):Prop:=(S0 b/\b<B)\/(Nw S0 B b/\¬own γ b)
def Kw (w:World)(S:Nat->Prop)(e:MapEntry)(p:AV×AV):Prop:=Rep w S G0 p.1 e.key/\Rep w S G0 p.2 e.val
def D4 (w:World)(S:Nat->Prop)(g:Nat)(ps:List (AV×AV)):Prop :=
 ∃ es clock,w.heap[g]? = some (.map es clock)/\es.size=ps.length/\Born es clock/\∀ j (h:j<es.toList.length) (h':j<ps.length),Kw w S es.toList[j] ps[j]
variable {S':Nat->Prop}{ps:List (AV×AV)}
theorem D4.move (h:D4 w S g ps)(hz:w.heap.size<=w'.heap.size)(hk:∀ b,S b->b<w.heap.size->w'.heap[b]? = w.heap[b]? /\ S' b)(hg:w'.heap[g]? = w.heap[g]?):D4 w' S' g ps:=by
 obtain ⟨es,clock,h1,h2,hbn,h3⟩:=h
 exact ⟨es,clock,hg.trans h1,h2,hbn,fun j q q'=>⟨(h3 j q q').1.mono hz hk,(h3 j q q').2.mono hz hk⟩⟩
def DisB (o:Option Nat)(vs:Array Value):Prop:=(∀ i j b,Az (vs.getD i undef)=some b->Az (vs.getD j undef)=some b->i=j)/\∀ i b,o=some b->Az (vs.getD i undef)≠some b
def NRep (w:World)(S:Nat->Prop)(B:Nat)(v:Value):NE->Prop
 |.row ty sz xs=>v.oneCell'=true/\∃ vs,w.ownsRow B ty sz v xs.length vs/\(∀ k (hk:k<xs.length),(xs[k]).cells.length=sz) /\
   (∀ k (hk:k<xs.length) j (hj:j<(xs[k]).cells.length),Rep w S G0 ((xs[k]).cells[j]) (vs.getD (k*sz+j) undef))/\∀ u∈vs,u.oneCell'=true
 |.mp ps=>∃ g ps0,v=.map (some g)/\D4 w S g ps0/\Fc ps0 ps
 |.hole=>v=.nilFunc
def C5 (es:Array MapEntry)(seen:Array Nat):List MapEntry:=es.toList.filter fun e=>!seen.contains e.born
def RepL (w:World)(S:Nat->Prop)(L:List MapEntry)(ps:List (AV×AV)):Prop:=L.length=ps.length/\∀ j (h:j<L.length) (h':j<ps.length),Kw w S L[j] ps[j]
variable {L:List MapEntry}
theorem RepL.move (h:RepL w S L ps)(hz:w.heap.size<=w'.heap.size)(hk:∀ b,S b->b<w.heap.size->w'.heap[b]? = w.heap[b]? /\ S' b):RepL w' S' L ps :=
 ⟨h.1,fun j q q'=>⟨(h.2 j q q').1.mono hz hk,(h.2 j q q').2.mono hz hk⟩⟩
def RepM (w:World)(S:Nat->Prop)(L:List MapEntry)(ps:List (AV×AV)):Prop:=∃ ps0,ps0.Perm ps/\RepL w S L ps0
theorem RepM.move (h:RepM w S L ps)(hz:w.heap.size<=w'.heap.size)(hk:∀ b,S b->b<w.heap.size->w'.heap[b]? = w.heap[b]? /\ S' b):RepM w' S' L ps:=by
 obtain ⟨ps0,h1,h2⟩:=h
 exact ⟨ps0,h1,h2.move hz hk⟩
def ItIs (w:World)(S:Nat->Prop)(g:Nat)(P:Array MapEntry->Array Nat->Nat->Nat->Prop):Prop :=
 (∃ bm since seen c0 es clock,w.heap[g]? = some (.mapIter (some bm) since seen c0)/\S bm/\bm<w.heap.size/\w.heap[bm]? = some (.map es clock)/\(es.toList.map (·.born)).Nodup/\(∀ e∈es.toList,e.born<since)/\since<=c0/\since<=clock/\P es seen c0 clock) \/
 (∃ a b s,w.heap[g]? = some (.mapIter none a s b)/\P #[] #[] 0 0)
theorem ItIs.move {P P':Array MapEntry->Array Nat->Nat->Nat->Prop}(h:ItIs w S g P)(hk:∀ b,S b->b<w.heap.size->w'.heap[b]? = w.heap[b]? /\ S' b)(hz:w.heap.size<=w'.heap.size)(hg:w'.heap[g]? = w.heap[g]?)(hP:∀ es s c d,P es s c d->P' es s c d):ItIs w' S' g P':=by
 rcases h with ⟨bm,since,seen,c0,es,clock,h1,h2,h3,h4,h5,h6,h7,h8,h9⟩|⟨a,b,s,h1,h2⟩
 ·obtain ⟨k1,k2⟩:=hk bm h2 h3
  exact aE ⟨bm,since,seen,c0,es,clock,hg.trans h1,k2,aA h3 hz,k1.trans h4,h5,h6,h7,h8,hP _ _ _ _ h9⟩
 ·exact aJ ⟨a,b,s,hg.trans h1,hP _ _ _ _ h2⟩
def ItL (w:World)(S:Nat->Prop)(ps:List (AV×AV))(es:Array MapEntry)(seen:Array Nat)(c0 clock:Nat):Prop:=RepM w S (C5 es seen) ps
def ItP (w:World)(S:Nat->Prop)(ps:List (AV×AV))(es:Array MapEntry)(seen:Array Nat)(c0 clock:Nat):Prop:=c0=clock/\∃ (seen0:Array Nat) (e:MapEntry),seen=seen0.push e.born/\e∈C5 es seen0/\RepM w S (C5 es seen0) ps
def ItC (w:World)(S:Nat->Prop)(p:AV×AV)(ps:List (AV×AV))(es:Array MapEntry)(seen:Array Nat)(c0 clock:Nat):Prop:=c0=clock/\∃ (seen0:Array Nat) (e:MapEntry),seen=seen0.push e.born/\e∈es.toList/\Kw w S e p/\RepM w S (C5 es seen) ps
def B6 (w:World)(S:Nat->Prop)(γ:Gam)(B:Nat)(d:Option (Option Nat×Value)):Ent->Prop
 |.box ty cells=>∃ g vs,d=some (some g,.slice none 0 0)/\Blk w g ty vs/\vs.size=cells.length/\(∀ i (hi:i<cells.length),Rep w S γ cells[i] (vs.getD i undef))/\∀ i,i<vs.size->(vs.getD i undef).oneCell'=true
 |.row ty sz xs=>∃ s vs,d=some (s.ownBlock,s)/\s.oneCell'=true/\w.ownsRow B ty sz s xs.length vs/\(∀ k (hk:k<xs.length),(xs[k]).cells.length=sz) /\
   (∀ k (hk:k<xs.length) j (hj:j<(xs[k]).cells.length),Rep w S G0 ((xs[k]).cells[j]) (vs.getD (k*sz+j) undef))/\∀ u∈vs,u.oneCell'=true
 |.mp ps=>∃ g,d=some (some g,.map (some g))/\D4 w S g ps
 |.nest ty es=>∃ s vs,d=some (none,.tuple (#[s]++vs))/\s.oneCell'=true/\vs.size=es.length/\(∃ us,w.ownsRow B ty 1 s es.length us/\(∀ u∈us,u.oneCell'=true)/\∀ k (hk:k<es.length),es[k]≠.hole->us.getD k undef=vs.getD k undef) /\
   (∀ k (hk:k<es.length),NRep w S B (vs.getD k undef) es[k])/\DisB (Az s) vs
 |.mpn ps=>∃ g es vs,d=some (none,.tuple (#[.map (some g)]++vs))/\w.heap[g]? = some (.map es ps.length)/\es.size=ps.length/\vs.size=ps.length/\(∀ j (h:j<es.toList.length),(es.toList[j]).born=j) /\
   (∀ j (h:j<es.toList.length) (h':j<ps.length),Rep w S G0 (ps[j]).1 (es.toList[j]).key)/\(∀ j (h:j<es.toList.length) (h':j<ps.length),(ps[j]).2≠.hole->(es.toList[j]).val=vs.getD j undef)/\(∀ j (h':j<ps.length),NRep w S B (vs.getD j undef) (ps[j]).2)/\DisB (some g) vs
 |.are ty idx os=>∃ s vs us,d=some (none,.agg (#[s]++vs))/\s.oneCell'=true/\vs.size=os.length/\w.ownsRow B ty 1 s idx.length us/\(∀ u∈us,u.oneCell'=true) /\
   (∀ k (hk:k<idx.length),(idx[k]=none->Rep w S G0 (.mapv []) (us.getD k undef))/\∀ j,idx[k]=some j->j<os.length/\us.getD k undef=vs.getD j undef)/\(∀ j (h:j<os.length),os[j]≠.hole/\NRep w S B (vs.getD j undef) os[j])/\DisB (Az s) vs
 |.it ps=>∃ g,d=some (some g,.slice none 0 0)/\ItIs w S g (ItL w S ps)
 |.itp ps=>∃ g,d=some (some g,.slice none 0 0)/\ItIs w S g (ItP w S ps)
 |.itc p ps=>∃ g,d=some (some g,.slice none 0 0)/\ItIs w S g (ItC w S p ps)
 |.dead=>d=none
inductive E3 where
 |strct (fs:List (Nat×Nat×Option Bool))
 |arr (n e esz:Nat) (eagg:Option Bool)
 |slc (e esz ebytes:Nat)
 |str
 |bool
 |int (k:IntKind)
 |map (k e:Nat)
 |other
structure TyI where
 sz:Nat
 bytes:Nat
 zero:Value
 shape:E3
def aggT (P:Program)(t:TypeId):Option Bool:=match P.underlying t with|some (.struct _)=>some true|some (.array _ _)=>some true|some _=>some false|none=>none
def Dk (P:Program):TypeDesc->E3
 |.struct fs=>.strct (fs.toList.map fun f=>(f.offset,P.cellsOf f.type,aggT P f.type))
 |.array n e=>.arr n e (P.cellsOf e) (aggT P e)
 |.slice e=>.slc e (P.cellsOf e) (P.bytesOf e)
 |.string=>.str
 |.bool=>.bool
 |.int k=>.int k
 |.map k e=>.map k e
 |_=>.other
structure TyOk (P:Program) (T:TypeId) (i:TyI):Prop where
 info:(P.info? T).map (fun x=>(x.size,x.bytes))=some (i.sz,i.bytes)
 zero:(P.info? T).bind (·.zero)=some i.zero
 shape:(P.underlying T).map (Dk P)=some i.shape
def lkT:List (Nat×TyI)->Nat->Option TyI
 |[],_=>none
 |(u,x)::r,t=>match aH u t with|true=>some x|false=>lkT r t
structure Env where
 P:Program
 tab:List (Nat×TyI)
 ok:∀ T i,lkT tab T=some i->TyOk P T i
 mixed:P.follows .mixedOrders=true
 dr:Bool
 rg:Bool
 yl:Option (Nat×Obj)
 np:Nat
 bl:Bool
structure Cx where
 E:Env
 S0:Nat->Prop
 w0:World
 nt:Nat
 Fr:Nat->Prop
 w1:World
 rd:Option Nat
 pv:Array Value
 hrd:E.rg=true->rd=none
def Cx.call (E:Env)(S:Nat->Prop)(w:World)(nt:Nat):Cx:=⟨E,fun b=>S b/\b<w.heap.size,w,nt,fun _=>False,w,none,#[],fun _=>rfl⟩
abbrev Cx.P (cx:Cx):Program:=cx.E.P
abbrev Cx.F (cx:Cx):Fence:={ Fence.wide with round:=cx.rd }
def y1c (B:Nat)(γ:Gam)(w:World)(ds:List Deferred):Prop:=∃ rs:List Nat,ds=rs.map (fun r=>{ target:=.collected r,args:=#[] })/\rs.Nodup/\∀ r∈rs,B<=r/\r<w.heap.size/\¬own γ r/\w.heap[r]? = some (.deferred (some []))
structure Book (cx:Cx) (γ:Gam) (a:Act) (w:World):Prop where
 d0:cx.E.rg=false->a.defers=[]
 marks:y1c cx.w0.heap.size γ w a.defers
 pin:∀ t,t<cx.E.np->a.tmps.getD t undef=cx.pv.getD t undef
 yl:∀ l R,cx.E.yl=some (l,R)->cx.w0.heap.size<=l/\l<w.heap.size/\¬own γ l/\w.heap[l]? = some R
 sz:cx.w1.heap.size<=w.heap.size
variable {cx:Cx}
theorem Book.step {γ γ':Gam}{a:Act}(h:Book cx γ a w)(hz:w.heap.size<=w'.heap.size)(hk:∀ b,¬own γ b->b<w.heap.size->w'.heap[b]? = w.heap[b]? /\ ¬own γ' b):Book cx γ' a w':=by
 obtain ⟨rs,h1,h2,h3⟩:=h.marks
 refine ⟨h.d0,⟨rs,h1,h2,fun r hr=>?_⟩,h.pin,fun l R hl=>?_,aP h.sz hz⟩
 ·obtain ⟨q1,q2,q3,q4⟩:=h3 r hr
  obtain ⟨k1,k2⟩:=hk r q3 q2
  exact ⟨q1,aA q2 hz,k2,k1.trans q4⟩
 ·obtain ⟨q1,q2,q3,q4⟩:=h.yl l R hl
  obtain ⟨k1,k2⟩:=hk l q3 q2
  exact ⟨q1,aA q2 hz,k2,k1.trans q4⟩
theorem Book.gam {γ γ':Gam}{a:Act}(h:Book cx γ a w)(hk:∀ b,own γ' b->own γ b):Book cx γ' a w :=
 h.step (aN _) (fun b hb _=>⟨rfl,fun h=>hb (hk b h)⟩)
def MeOk (w:World)(S:Nat->Prop)(γ:Gam)(B:Nat)(d:Option (Option (Option Nat×Value))):Option Ent->Prop
 |none=>d=none
 |some e=>∃ x,d=some x/\B6 w S γ B x e
structure StG (cx:Cx) (γ:Gam) (σ:AS) (a:Act) (w:World):Prop where
 tm:∀ t,Rep w (Sg cx.S0 cx.w0.heap.size γ) γ (σ.get t) (a.tmps.getD t undef)
 me:∀ id,MeOk w (Sg cx.S0 cx.w0.heap.size γ) γ cx.w0.heap.size (γ id) (σ.find id)
 inj:∀ id id' b d d',γ id=some d->γ id'=some d'->b∈blks d->b∈blks d'->id=id'
 ge:∀ b,own γ b->Nw cx.S0 cx.w0.heap.size b/\b<w.heap.size
 below:Below cx.w0.heap.size cx.w0 w
 size:a.tmps.size=cx.nt
 defers:Book cx γ a w
 gh:∀ b,cx.S0 b->b<w.heap.size
 fr:∀ b,cx.Fr b->¬own γ b/\b<w.heap.size/\w.heap[b]? = cx.w1.heap[b]?
 dr:cx.E.dr=true->cx.w0.drawn<=w.drawn
def St (cx:Cx)(σ:AS)(a:Act)(w:World):Prop:=∃ γ,StG cx γ σ a w
variable {σ:AS}
theorem St.congr {τ:AS}{a:Act}(h:St cx σ a w)(h1:∀ t,τ.get t=σ.get t)(h2:∀ i,τ.find i=σ.find i):St cx τ a w:=by
 obtain ⟨γ,h⟩:=h
 exact ⟨γ,fun t=>by rw [h1];exact h.tm t,fun i=>by rw [h2];exact h.me i,h.inj,h.ge,h.below,h.size,h.defers,h.gh,h.fr,h.dr⟩
structure Tr where
 val:AV
 ids:List Nat
 wr:List (Nat×Ent)
deriving Inhabited
def Bf (ops:Array Oper)(i:Nat):Option Nat:=(ops[i]?).bind (·.dst)
def F8 (ops:Array Oper)(i:Nat):List Nat:=match ops[i]? with|some o=>o.looksAt ops|none=>[]
def zyn (cx:Cx)(ops:Array Oper)(i:Nat)(σ σ':AS):Prop :=
 ∀ a w Q K,St cx σ a w->(∀ a' w',St cx σ' a' w'->K a' w')->wpOpIn cx.F 0 cx.P ops Q i K a w
def Step (cx:Cx)(ops:Array Oper)(i:Nat)(σ:AS)(tr:Tr):Prop :=
 (∀ id e,lkE tr.wr id=some e->id∈tr.ids) /\
 ∀ τ:AS,(∀ t∈F8 ops i,τ.get t=σ.get t)->(∀ id∈tr.ids,τ.find id=σ.find id)->zyn cx ops i τ (τ.upd (Bf ops i) tr.val tr.wr)
def Ext (σ τ:AS):Prop:=(∀ t,σ.get t=τ.get t)/\∀ i,σ.find i=τ.find i
theorem Ext.refl (σ:AS):Ext σ σ:=⟨fun _=>rfl,fun _=>rfl⟩
theorem Ext.upd {τ:AS}(h:Ext σ τ)(d:Option Nat)(v:AV)(wr:List (Nat×Ent)):Ext (σ.upd d v wr) (τ.upd d v wr) :=
 ⟨fun t=>by rw [AS.get_upd,AS.get_upd,h.1],fun i=>by rw [AS.find_upd,AS.find_upd,h.2]⟩
theorem Ext.trans {a b c:AS}(h:Ext a b)(k:Ext b c):Ext a c:=⟨fun t=>(h.1 t).trans (k.1 t),fun i=>(h.2 i).trans (k.2 i)⟩
inductive Run (cx:Cx) (ops:Array Oper):Nat->AS->List Tr->AS->Prop
 |done {i:Nat} {σ σ':AS} (h:ops.size<=i) (hx:Ext σ' σ):Run cx ops i σ [] σ'
 |step {i:Nat} {σ σ1 σ':AS} {tr:Tr} {trs:List Tr} (h:i<ops.size) (hs:Step cx ops i σ tr) (hx:Ext σ1 (σ.upd (Bf ops i) tr.val tr.wr)) (hr:Run cx ops (i+1) σ1 trs σ'):Run cx ops i σ (tr::trs) σ'
variable {ops:Array Oper}{i:Nat}{trs:List Tr}{Q:Exit->Act->World->Prop}
theorem Run.wpOps {σ':AS}(h:Run cx ops i σ trs σ')(hQ:∀ a w,St cx σ' a w->Q .normal a w)(hi:i<=ops.size) :
  ∀ a w,St cx σ a w->wpOpsIn cx.F 0 cx.P ops Q (range' i (ops.size-i)) a w:=by
 induction h with
 |done h hx =>
  intro a w hs
  rw [show ops.size-_=0 by omega]
  exact hQ a w (hs.congr hx.1 hx.2)
 |@step i σ σ1 σ' tr trs h hstep hx hr ih =>
  intro a w hst
  rw [show ops.size-i=(ops.size-(i+1))+1 by omega,range'_succ,wpOpsIn_cons]
  exact hstep.2 σ (fun _ _=>rfl) (fun _ _=>rfl) a w Q _ hst (fun a' w' hs'=>ih hQ (by omega) a' w' (hs'.congr hx.1 hx.2))
section
variable (dst:Nat->Option Nat) (tr:Nat->Tr)
def Bo (X:Nat->Bool)(σ:AS):Nat->AS
 |0=>σ
 |k+1=>if X k=true then (Bo X σ k).upd (dst k) (tr k).val (tr k).wr else Bo X σ k
variable {dst tr}
theorem Xy (X:Nat->Bool)(σ:AS)(k t:Nat):(Bo dst tr X σ (k+1)).get t=if X k=true/\dst k=some t then (tr k).val else (Bo dst tr X σ k).get t:=by
 unfold Bo
 by_cases h:X k=true
 ·rw [if_pos h,AS.get_upd]
  by_cases h2:dst k=some t
  ·rw [if_pos h2,if_pos ⟨h,h2⟩]
  ·rw [if_neg h2,if_neg (fun h3=>h2 h3.2)];cases k<;>rfl
 ·rw [if_neg h,if_neg (fun h3=>h h3.1)];cases k<;>rfl
theorem Xi (X:Nat->Bool)(σ:AS)(k i:Nat):(Bo dst tr X σ (k+1)).find i=if X k=true then (lkE (tr k).wr i).or ((Bo dst tr X σ k).find i) else (Bo dst tr X σ k).find i:=by
 conv=>lhs;unfold Bo
 by_cases h:X k=true
 ·rw [if_pos h,if_pos h,AS.find_upd]
 ·rw [if_neg h,if_neg h]
theorem zc5 (X Y:Nat->Bool)(σ:AS)(k t:Nat)(h:∀ j,j<k->dst j=some t->X j=Y j):(Bo dst tr X σ k).get t=(Bo dst tr Y σ k).get t:=by
 induction k with
 |zero=>rfl
 |succ k ih =>
  rw [Xy,Xy,ih (fun j hj=>h j (by omega))]
  by_cases hd:dst k=some t
  ·rw [h k (by omega) hd]
  ·rw [if_neg (fun h=>hd h.2),if_neg (fun h=>hd h.2)]
theorem z9x (X:Nat->Bool)(σ:AS)(m k t:Nat)(hm:m<=k)(h:∀ j,m<=j->j<k->dst j=some t->X j=false):(Bo dst tr X σ k).get t=(Bo dst tr X σ m).get t:=by
 induction k with
 |zero=>rw [show m=0 by omega]
 |succ k ih =>
  rcases aV k m with h'|h'
  ·rw [show m=k+1 by omega]
  ·rw [Xy,if_neg,ih h' (fun j h1 h2=>h j h1 (by omega))]
   rintro ⟨h1,h2⟩
   rw [h k h' (by omega) h2] at h1
   cases h1
theorem z9z (X Y:Nat->Bool)(σ:AS)(k i:Nat)(h:∀ j,j<k->lkE (tr j).wr i≠none->X j=Y j):(Bo dst tr X σ k).find i=(Bo dst tr Y σ k).find i:=by
 induction k with
 |zero=>rfl
 |succ k ih =>
  rw [Xi,Xi,ih (fun j hj=>h j (by omega))]
  cases hw:lkE (tr k).wr i with
  |none=>simp
  |some e=>rw [h k (by omega) (by simp [hw])]
theorem z8j (X:Nat->Bool)(σ:AS)(m k i:Nat)(hm:m<=k)(h:∀ j,m<=j->j<k->lkE (tr j).wr i≠none->X j=false):(Bo dst tr X σ k).find i=(Bo dst tr X σ m).find i:=by
 induction k with
 |zero=>rw [show m=0 by omega]
 |succ k ih =>
  rcases aV k m with h'|h'
  ·rw [show m=k+1 by omega]
  ·rw [Xi,ih h' (fun j h1 h2=>h j h1 (by omega))]
   cases hw:lkE (tr k).wr i with
   |none=>simp
   |some e=>rw [h k h' (by omega) (by simp [hw])];simp
end
def forced (n:Nat)(k:Nat->α):α:=match n with|0=>k 0|m+1=>k (m+1)
theorem Ux (n:Nat)(k:Nat->α):forced n k=k n:=by cases n<;>rfl
def clo1 (look:Nat->Nat)(o:Oper):Nat:=o.after.toList.foldl (fun s e=>if Region.binds .any e then s ||| (2 ^ e.on ||| look e.on) else s) 0
def cloL:List Oper->List Nat->List Nat
 |[],acc=>acc
 |o::r,acc=>forced (clo1 (fun i=>acc.getD i 0) o) fun v=>cloL r (acc++[v])
theorem clo1_bit (look:Nat->Nat)(l:List Edge)(s i:Nat)(h:(l.foldl (fun s e=>if Region.binds .any e then s ||| (2 ^ e.on ||| look e.on) else s) s).testBit i=true) :
  s.testBit i=true\/∃ e∈l,Region.binds .any e=true/\(e.on=i\/(look e.on).testBit i=true):=by
 induction l generalizing s with
 |nil=>exact aE h
 |cons e r ih =>
  rw [foldl_cons] at h
  rcases ih _ h with h|⟨e',he,h⟩
  ·by_cases hb:Region.binds .any e=true
   ·rw [if_pos hb,aY,aY,Nat.testBit_two_pow] at h
    simp only [aB,decide_eq_true_eq] at h
    rcases h with h|h|h
    ·exact aE h
    ·exact aJ ⟨e,by simp,hb,aE h⟩
    ·exact aJ ⟨e,by simp,hb,aJ h⟩
   ·rw [if_neg hb] at h;exact aE h
  ·exact aJ ⟨e',by simp [he],h⟩
def Down (ops:Array Oper)(X:Nat->Bool):Prop:=∀ j o,ops[j]? = some o->X j=true->∀ e∈o.after,Region.binds .any e=true->X e.on=true
theorem zoi {X:Nat->Bool}(hX:Down ops X):∀ (l:List Oper) (acc:List Nat),(∀ m o,l[m]? = some o->ops[acc.length+m]? = some o) ->
  (∀ j i,(acc.getD j 0).testBit i=true->X j=true->X i=true)->∀ j i,((cloL l acc).getD j 0).testBit i=true->X j=true->X i=true
 |[],acc,_,h=>h
 |o::r,acc,hl,h=>by
  unfold cloL
  rw [Ux]
  refine zoi hX r _ (fun m o' ho=>?_) (fun j i hb hj=>?_)
  ·have:=hl (m+1) o' (by simpa using ho)
   rw [aG,length_singleton]
   rw [show acc.length+1+m=acc.length+(m+1) by omega]
   exact this
  ·rcases Nat.lt_trichotomy j acc.length with hlt|heq|hgt
   ·rw [aC,aR hlt,<-aC] at hb
    exact h j i hb hj
   ·subst heq
    rw [aC,aQ (aN _)] at hb
    simp only [Nat.sub_self,getElem?_cons_zero,Option.getD_some] at hb
    have ho:=hl 0 o (by simp)
    rw [Nat.add_zero] at ho
    rcases clo1_bit (fun i=>acc.getD i 0) o.after.toList 0 i hb with hb|⟨e,he,hbe,hon⟩
    ·simp at hb
    ·have hXe:=hX _ o ho hj e (by simpa using he) hbe
     rcases hon with hon|hon
     ·rw [<-hon];exact hXe
     ·exact h _ _ hon hXe
   ·rw [aC,getElem?_eq_none (by simp;omega)] at hb
    simp at hb
def Vd (wr:List (Nat×Ent)):List Nat:=wr.map (·.1)
theorem Yk {wr:List (Nat×Ent)}(h:lkE wr i≠none):i∈Vd wr:=by
 induction wr with
 |nil=>simp [lkE] at h
 |cons x r ih =>
  obtain ⟨u,e⟩:=x
  simp only [lkE] at h
  cases hb:aH u i with
  |true=>have:=aF hb;subst this;simp [Vd]
  |false=>rw [hb] at h;have:=ih h;simp [Vd] at this ⊢;exact aJ this
def memB (n:Nat):List Nat->Bool
 |[]=>false
 |x::r=>match aH x n with|true=>true|false=>memB n r
theorem Dc (n:Nat)(l:List Nat):memB n l=true ↔ n∈l:=by
 induction l with
 |nil=>simp [memB]
 |cons x r ih =>
  simp only [memB,mem_cons]
  cases h:aH x n with
  |true=>have:=aF h;simp [this]
  |false=>have:=Nat.ne_of_beq_eq_false h;simp [ih];omega
def memO (d:Option Nat)(l:List Nat):Bool:=match d with|some d=>memB d l|none=>false
def meet (l m:List Nat):Bool:=l.any fun x=>memB x m
theorem zfl (l m:List Nat):meet l m=true ↔ ∃ x,x∈l/\x∈m:=by simp [meet,Dc]
def zyy (a b:Option Nat):Bool:=match a,b with|some a,some b=>aH a b|_,_=>false
def Fb (ops:Array Oper)(tr:Nat->Tr)(i j:Nat):Bool :=
 memO (Bf ops i) (F8 ops j) || memO (Bf ops j) (F8 ops i) || zyy (Bf ops i) (Bf ops j) || meet (Vd (tr i).wr) (tr j).ids || meet (Vd (tr j).wr) (tr i).ids
def Sc (ops:Array Oper)(trs:List Tr):Bool :=
 let cl:=cloL ops.toList []
 (range ops.size).all fun j=>(range j).all fun i=>!Fb ops (fun k=>trs.getD k default) i j || (cl.getD j 0).testBit i
def Rx (ops:Array Oper):Bool:=(range ops.size).all fun j=>match ops[j]? with|some o=>o.after.all fun e=>!Region.binds .any e || aZ e.on j|none=>true
theorem Run.length {σ':AS}(h:Run cx ops i σ trs σ')(hi:i<=ops.size):trs.length=ops.size-i:=by
 induction h with
 |done h hx=>simp;omega
 |step h hs hx hr ih=>have:=ih (by omega);simp;omega
theorem Step.ext {τ:AS}{tr:Tr}(h:Step cx ops i σ tr)(hx:Ext τ σ):Step cx ops i τ tr :=
 ⟨h.1,fun ρ h1 h2=>h.2 ρ (fun t ht=>(h1 t ht).trans (hx.1 t)) (fun id hid=>(h2 id hid).trans (hx.2 id))⟩
theorem Run.steps {σ0:AS}{tr:Nat->Tr}{σ':AS}(h:Run cx ops i σ trs σ')(hi:i<=ops.size)(htr:∀ j,j<trs.length->tr (i+j)=trs.getD j default)
  (hσ:Ext σ (Bo (Bf ops) tr (fun _=>true) σ0 i)):(∀ j,i<=j->j<ops.size->Step cx ops j (Bo (Bf ops) tr (fun _=>true) σ0 j) (tr j))/\Ext σ' (Bo (Bf ops) tr (fun _=>true) σ0 ops.size):=by
 induction h with
 |@done i σ σ' h hx=>exact ⟨fun j h1 h2=>by omega,by rw [show ops.size=i by omega];exact hx.trans hσ⟩
 |@step i σ σ1 σ' tr1 trs h hs hx hr ih =>
  have e0:tr i=tr1:=by have:=htr 0 (by simp);simpa using this
  have hσ':Ext σ1 (Bo (Bf ops) tr (fun _=>true) σ0 (i+1)):=by
   refine hx.trans ?_
   unfold Bo
   rw [if_pos rfl,e0]
   exact hσ.upd _ _ _
  obtain ⟨h1,h2⟩:=ih (by omega) (fun j hj=>by have:=htr (j+1) (by simp;omega);rw [show i+1+j=i+(j+1) by omega,this];simp) hσ'
  refine ⟨fun j hj1 hj2=>?_,h2⟩
  rcases aK hj1 with rfl|hlt
  ·rw [e0];exact hs.ext ⟨fun t=>(hσ.1 t).symm,fun i=>(hσ.2 i).symm⟩
  ·exact h1 j hlt hj2
theorem ztk {σ0:AS}{tr:Nat->Tr}
  (hstep:∀ j,j<ops.size->Step cx ops j (Bo (Bf ops) tr (fun _=>true) σ0 j) (tr j))
  (hcf:∀ i j,i<j->j<ops.size->Fb ops tr i j=true->((cloL ops.toList []).getD j 0).testBit i=true)
  (hed:∀ j o,ops[j]? = some o->∀ e∈o.after,Region.binds .any e=true->e.on<j)
  (hQ:∀ a w,St cx (Bo (Bf ops) tr (fun _=>true) σ0 ops.size) a w->Q .normal a w) :
  ∀ (fuel:Nat) (L:Array Bool),L.size=ops.size->(L.toList.filter (! ·)).length=fuel->Down ops (fun i=>L.getD i false)->∀ a w,St cx (Bo (Bf ops) tr (fun i=>L.getD i false) σ0 ops.size) a w ->
   wpAnyIn cx.F 0 cx.P .any ops Q fuel L a w:=by
 intro fuel
 have hlast:∀ (L:Array Bool),L.size=ops.size->Down ops (fun i=>L.getD i false)->Region.ready .any ops L=[]->∀ j,j<ops.size->L.getD j false=true:=by
  intro L hL hdown hnil j
  induction j using Nat.strongRecOn with
  |_ j ih =>
   intro hj
   cases hLj:L.getD j false with
   |true=>rfl
   |false =>
    have hm:j∈Region.ready .any ops L:=mem_ready.2 ⟨by
     have:j<L.size:=by omega
     simp only [aU,this,dif_pos] at hLj ⊢
     exact hLj,ops[j],aM hj,fun e he hb=>by
      have hlt:=hed j ops[j] (aM hj) e he hb
      exact ih e.on hlt (by omega)⟩
    rw [hnil] at hm
    cases hm
 have hend:∀ (L:Array Bool),L.size=ops.size->Down ops (fun i=>L.getD i false)->Region.ready .any ops L=[]->∀ a w,St cx (Bo (Bf ops) tr (fun i=>L.getD i false) σ0 ops.size) a w->Q .normal a w:=by
  intro L hL hdown hnil a w hst
  have hall:=hlast L hL hdown hnil
  exact hQ a w (hst.congr (fun t=>zc5 _ _ _ _ _ (fun j hj _=>(hall j hj).symm)) (fun i=>z9z _ _ _ _ _ (fun j hj _=>(hall j hj).symm)))
 induction fuel with
 |zero =>
  intro L hL hcount hdown a w hst
  have hnil:Region.ready .any ops L=[]:=by
   cases hr:Region.ready .any ops L with
   |nil=>rfl
   |cons i r =>
    have hm:i∈Region.ready .any ops L:=by rw [hr];simp
    obtain ⟨h0,o,ho,_⟩:=mem_ready.1 hm
    have hi:i<L.size:=by rw [hL];exact (aD.1 ho).1
    have h0':L[i]=false:=by simpa [aU,hi] using h0
    have:L[i]∈L.toList.filter (! ·):=mem_filter.2 ⟨by simp,by rw [h0'];rfl⟩
    rw [aL.1 hcount] at this
    cases this
  exact ⟨hnil,hend L hL hdown hnil a w hst⟩
 |succ fuel ih =>
  intro L hL hcount hdown a w hst
  refine ⟨fun hnil=>hend L hL hdown hnil a w hst,fun i hi=>?_⟩
  obtain ⟨h0,o,ho,hdeps⟩:=mem_ready.1 hi
  have hin:i<ops.size:=(aD.1 ho).1
  have hiL:i<L.size:=by omega
  have hLi:L.getD i false=false:=by simp only [aU,hiL,dif_pos] at h0 ⊢;exact h0
  generalize hX:(fun i=>L.getD i false)=X at *
  have hXi:X i=false:=by rw [<-hX];exact hLi
  have hXX:∀ j,L.getD j false=X j:=fun j=>by rw [<-hX]
  let X':Nat->Bool:=fun j=>(L.setIfInBounds i true).getD j false
  have hX'i:X' i=true:=by show (L.setIfInBounds i true).getD i false=true;simp [hiL]
  have hX'n:∀ j,j≠i->X' j=X j:=fun j hj=>by
   show (L.setIfInBounds i true).getD j false=X j
   rw [getD_set_ne false (Ne.symm hj)];exact hXX j
  have hdown':Down ops X':=fun j oj hoj hj e he hb=>by
   by_cases hji:j=i
   ·subst hji
    rw [ho] at hoj
    injection hoj with hoj
    subst hoj
    have h1:=hdeps e he hb
    by_cases hei:e.on=j
    ·rw [hei];exact hX'i
    ·rw [hX'n _ hei,<-hXX];exact h1
   ·rw [hX'n j hji] at hj
    have h1:=hdown j oj hoj hj e he hb
    by_cases hei:e.on=i
    ·rw [hei];exact hX'i
    ·rw [hX'n _ hei];exact h1
  have bit:∀ Y:Nat->Bool,Down ops Y->∀ j k,((cloL ops.toList []).getD j 0).testBit k=true->Y j=true->Y k=true:=fun Y hY =>
   zoi hY ops.toList [] (fun m o h=>by simpa using h) (fun j k h=>by simp at h)
  -- those later than i that Fb with it have not run;those earlier that Fb have
  have later:∀ j,i<j->j<ops.size->Fb ops tr i j=true->X j=false:=fun j h1 h2 hc=>by
   cases hj:X j with
   |false=>rfl
   |true=>have:=bit X hdown j i (hcf i j h1 h2 hc) hj;rw [hXi] at this;cases this
  have earlier:∀ j,j<i->Fb ops tr j i=true->X j=true:=fun j h1 hc=>by
   have:=bit X' hdown' i j (hcf j i h1 hin hc) hX'i
   rwa [hX'n j (by omega)] at this
  have agree1:∀ t∈F8 ops i,(Bo (Bf ops) tr X σ0 ops.size).get t=(Bo (Bf ops) tr (fun _=>true) σ0 i).get t:=fun t ht=>by
   rw [z9x X σ0 i ops.size t (by omega) (fun j h1 h2 hd=>by
    rcases aK h1 with rfl|hlt
    ·exact hXi
    ·exact later j hlt h2 (by simp only [Fb,aB];refine aE (aE (aE (aJ ?_)));rw [hd];exact (Dc _ _).2 ht))]
   exact zc5 _ _ _ _ _ (fun j hj hd=>earlier j hj (by simp only [Fb,aB];refine aE (aE (aE (aE ?_)));rw [hd];exact (Dc _ _).2 ht))
  have agree2:∀ id∈(tr i).ids,(Bo (Bf ops) tr X σ0 ops.size).find id=(Bo (Bf ops) tr (fun _=>true) σ0 i).find id:=fun id hid=>by
   rw [z8j X σ0 i ops.size id (by omega) (fun j h1 h2 hd=>by
    rcases aK h1 with rfl|hlt
    ·exact hXi
    ·exact later j hlt h2 (by simp only [Fb,aB];exact aJ ((zfl _ _).2 ⟨id,Yk hd,hid⟩)))]
   exact z9z _ _ _ _ _ (fun j hj hd=>earlier j hj (by simp only [Fb,aB];exact aE (aJ ((zfl _ _).2 ⟨id,Yk hd,hid⟩))))
  refine (hstep i hin).2 _ agree1 agree2 a w Q _ hst (fun a' w' hst'=>?_)
  have hstepi:=(hstep i hin).1
  refine ih (L.setIfInBounds i true) (by simp [hL]) ?_ hdown' a' w' (hst'.congr (fun t=>?_) (fun id=>?_))
  ·have hsplit:L.toList=L.toList.take i++false::L.toList.drop (i+1):=by
    have hLi':L.toList[i]'(by simpa using hiL)=false:=by simpa [aU,hiL] using hLi
    rw [<-hLi',getElem_cons_drop,take_append_drop]
   have hset:(L.setIfInBounds i true).toList=L.toList.take i++true::L.toList.drop (i+1):=by
    rw [Array.toList_setIfInBounds,set_eq_take_append_cons_drop,if_pos (by simpa using hiL)]
   rw [hset]
   rw [hsplit] at hcount
   simp only [filter_append,aG,filter_cons,Bool.not_false,if_true,aX,Bool.not_true,Bool.false_eq_true,if_false] at hcount ⊢
   omega
  ·rw [AS.get_upd]
   by_cases hd:Bf ops i=some t
   ·rw [if_pos hd,z9x X' σ0 (i+1) ops.size t (by omega) (fun j h1 h2 hdj=>by
     rw [hX'n j (by omega)]
     exact later j (by omega) h2 (by simp only [Fb,aB];refine aE (aE (aJ ?_));rw [hd,hdj];simp [zyy])),Xy,if_pos ⟨hX'i,hd⟩]
   ·rw [if_neg hd]
    exact zc5 _ _ _ _ _ (fun j hj hdj=>hX'n j (fun e=>hd (e▸hdj)))
  ·rw [AS.find_upd]
   cases hw:lkE (tr i).wr id with
   |some e =>
    rw [z8j X' σ0 (i+1) ops.size id (by omega) (fun j h1 h2 hdj=>by
     rw [hX'n j (by omega)]
     exact later j (by omega) h2 (by simp only [Fb,aB];exact aJ ((zfl _ _).2 ⟨id,Yk hdj,hstepi id e hw⟩))),Xi,if_pos hX'i,hw]
    rfl
   |none =>
    rw [Option.none_or]
    exact z9z _ _ _ _ _ (fun j hj hdj=>hX'n j (fun e=>hdj (e▸hw)))
end Go.Proofs.YthbogefcfhmpgaaGreat
