/- Memory words over any program. -/
import Derived.WalkKit
import Derived.WalkSpells
import Derived.WalkLawsBesides
import Derived.BigQuiet
import Derived.Deep.QuietTactic
import Derived.Deep.Draws
import Derived.Deep.RegionHeld3
import Derived.Deep.DeepCutAuto
import Derived.Deep.DeepFit
import Derived.StillTailTactics
import Derived.Handy
import Derived.Lib.Hide
import Derived.Lib.SliceRun
import Derived.Maps.AppendAt
import Derived.Deep.RegionLaw
import Derived.Deep.AppendLies
import Derived.Shelf.Abstract
import Derived.Laws.StructEq
import Derived.Shelf.SlicesQ.Equal
import Derived.Lib.Overlaps
import Derived.Lib.AppendZeros
import Derived.Lib.AppendZerosOnto
import Derived.Laws.Externs
import Derived.Laws.IdiomCopy
set_option linter.unusedVariables false
set_option linter.unusedSimpArgs false
namespace Go.Proofs.YtidhlpjgifoneaaGreat
open Go.RowKit List
theorem hide {p:Prop}(h:p):Hid p:=h
variable {α:Type}
def Sl (w:World)(S:Nat->Prop)(sz:Nat)(enc:α->List Value)(v:Value)(l:List α):Prop :=
 ∃ A c,v=.slice A l.length c/\l.length<=c /\
  (0<l.length->∃ b off,A=some ⟨b,off,none⟩/\S b/\b<w.heap.size/\∀ k (hk:k<l.length) j u,(enc l[k])[j]? = some u->w.cell? ⟨b,off+(k*sz+j),none⟩=some u)
variable {enc:α->List Value}{sz:Nat}{l:List α}
theorem zn2 (henc:∀ x∈l,(enc x).length=sz)(k:Nat)(hk:k<l.length)(j:Nat)(hj:j<sz)(u:Value)(hu:(enc l[k])[j]? = some u) :
  (l.flatMap enc)[k*sz+j]? = some u:=by
 induction l generalizing k with
 |nil=>simp at hk
 |cons x r ih =>
  have hx:=henc x (by simp)
  rw [flatMap_cons]
  cases k with
  |zero=>rw [getElem?_append_left (by rw [hx];omega)];simpa using hu
  |succ k =>
   rw [getElem?_append_right (by rw [hx,Nat.succ_mul];omega),hx,show (k+1)*sz+j-sz=k*sz+j by rw [Nat.succ_mul];omega]
   exact ih (fun y hy=>henc y (by simp [hy])) k (by simpa using hk) (by simpa using hu)
section
variable {α:Type} {w w':World} {S S':Nat->Prop} {sz:Nat} {enc:α->List Value} {v:Value} {l:List α}
theorem Sl.nil_:Sl w S sz enc (.slice none 0 0) []:=⟨none,0,rfl,Nat.le_refl _,fun h=>absurd h (Nat.lt_irrefl _)⟩
theorem Sl.keep (h:Sl w S sz enc v l)(hz:w.heap.size<=w'.heap.size)(hk:∀ b,S b->b<w.heap.size->w'.heap[b]? = w.heap[b]?):Sl w' S sz enc v l:=by
 obtain ⟨A,c,hv,hc,hx⟩:=h
 refine ⟨A,c,hv,hc,fun hp=>?_⟩
 obtain ⟨b,off,hA,hS,hb,hcell⟩:=hx hp
 exact ⟨b,off,hA,hS,Nat.lt_of_lt_of_le hb hz,fun k hlt j u hu=>(World.cell?_of_block (w:=w) (a:=⟨b,_,none⟩) (hk b hS hb)).trans (hcell k hlt j u hu)⟩
theorem Sl.below (h:Sl w S sz enc v l)(hb:Below w.heap.size w w'):Sl w' S sz enc v l:=h.keep hb.size fun b _ hlt=>hb.block b hlt
theorem Sl.weaken (h:Sl w S sz enc v l)(hS:∀ b,S b->S' b):Sl w S' sz enc v l:=by
 obtain ⟨A,c,hv,hc,hx⟩:=h
 refine ⟨A,c,hv,hc,fun hp=>?_⟩
 obtain ⟨b,off,hA,hSb,r⟩:=hx hp
 exact ⟨b,off,hA,hS b hSb,r⟩
theorem Sl.setCell (h:Sl w S sz enc v l){p:Addr}(hp:¬S p.block)(u:Value):Sl (w.setCell p u) S sz enc v l :=
 h.keep (by simp [World.setCell]) fun b hS _=>Below.heap_setCell w p u b (fun e=>hp (e▸hS))
theorem Sl.drewN (h:Sl w S sz enc v l)(n:Nat):Sl (w.drewN n) S sz enc v l:=h
theorem Sl.alloc (h:Sl w S sz enc v l)(o:Obj):Sl (w.alloc o) S sz enc v l:=h.below ((Below.refl _ _).alloc (Nat.le_refl _) o)
theorem Sl.form (h:Sl w S sz enc v l):∃ A c,v=.slice A l.length c/\l.length<=c/\(∀ k (hk:k<l.length),∃ b off,A=some ⟨b,off,none⟩/\b<w.heap.size/\∀ j u,(enc l[k])[j]? = some u->w.cell? ⟨b,off+(k*sz+j),none⟩=some u):=by
 obtain ⟨A,c,hv,hc,hx⟩:=h
 refine ⟨A,c,hv,hc,fun k hk=>?_⟩
 obtain ⟨b,off,hA,_,hb,hcell⟩:=hx (by omega)
 exact ⟨b,off,hA,hb,hcell k hk⟩
theorem Sl.of_own {base:Nat}{e:TypeId}(h:w.ownsRow base e sz v l.length (l.flatMap enc))(henc:∀ x∈l,(enc x).length=sz)(hS:∀ b,base<=b->S b):Sl w S sz enc v l:=by
 rcases h.2 with ⟨rfl,h0⟩|⟨g,cap,cur,rfl,hb,hg,hn,_,_,_⟩
 ·refine ⟨none,0,by rw [h0],by omega,fun h=>by omega⟩
 ·refine ⟨_,_,rfl,hn,fun _=>⟨g,0,rfl,hS g hb,(Array.getElem?_eq_some_iff.1 hg).1,fun k hk j u hu=>?_⟩⟩
  have hj:j<sz:=by rw [<-henc _ (getElem_mem hk)];exact (List.getElem?_eq_some_iff.1 hu).1
  have hat:=zn2 henc k hk j hj u hu
  have:=h.cells (g:=g) rfl _ _ hat
  rw [Addr.add] at this
  split at this
  ·rename_i h0;rw [h0];exact this
  ·exact this
end
structure EOk {α:Type} (P:Program) (t e:TypeId) (sz bytes:Nat) (enc:α->List Value):Prop where
 und:P.underlying t=some (.slice e)
 inf:∃ i z,P.info? e=some i/\i.zero=some z/\i.size=sz/\i.bytes=bytes/\z.cells.size=sz
 pos:0<sz
 len:∀ x,(enc x).length=sz
 one:∀ x,∀ u∈enc x,u.oneCell'=true
def Own (w:World)(base:Nat)(e:TypeId)(sz:Nat)(enc:α->List Value)(v:Value)(l:List α):Prop :=
 w.ownsRow base e sz v l.length (l.flatMap enc)
section
variable {α:Type} {P:Program} {w w':World} {S S':Nat->Prop} {t e:TypeId} {sz bytes base:Nat} {enc:α->List Value} {v:Value} {l:List α}
theorem Own.nil_:Own w base e sz enc (.slice none 0 0) ([]:List α):=World.ownsRow_nil w base e sz
theorem Own.val (h:Own w base e sz enc v l):∃ A c,v=.slice A l.length c/\l.length<=c/\c<=maxLen:=by
 rcases h.2 with ⟨rfl,h0⟩|⟨g,cap,cur,rfl,_,_,hn,hm,_⟩
 ·exact ⟨none,0,by rw [h0],by omega,by simp [maxLen]⟩
 ·exact ⟨_,_,rfl,hn,hm⟩
theorem Own.sl (h:Own w base e sz enc v l)(hE:EOk P t e sz bytes enc)(hS:∀ b,base<=b->S b):Sl w S sz enc v l:=Sl.of_own h (fun x _=>hE.len x) hS
theorem Own.kept {row:Option Nat}(h:Own w base e sz enc v l)(hg:w.grownBy w' row)(hne:v.ownBlock=none\/v.ownBlock≠row):Own w' base e sz enc v l:=World.ownsRow.kept h hg hne
theorem Own.below (h:Own w base e sz enc v l)(hb:Below w.heap.size w w'):Own w' base e sz enc v l :=
 h.kept (row:=none) ⟨hb.os,hb.tape,hb.output,hb.size,fun k hk _=>hb.block k hk⟩ (by cases v.ownBlock<;>simp)
theorem Own.lt (h:Own w base e sz enc v l):∀ k,v.ownBlock=some k->base<=k/\k<w.heap.size:=World.ownsRow.lt h
theorem Own.le {base':Nat}(h:Own w base e sz enc v l)(hb:base'<=base):Own w base' e sz enc v l :=
 ⟨h.1,h.2.elim Or.inl (fun ⟨g,cap,cur,hv,hg,r⟩=>Or.inr ⟨g,cap,cur,hv,Nat.le_trans hb hg,r⟩)⟩
theorem Sl.flat (h:Sl w S sz enc v l)(hlen:∀ x∈l,(enc x).length=sz)(hsz:0<sz):∃ A c,v=.slice A l.length c/\l.length<=c/\(A=none->l=[])/\∀ ad,A=some ad->∀ j u,(l.flatMap enc)[j]? = some u->w.cell? (ad.add j)=some u:=by
 obtain ⟨A,c,rfl,hc,hx⟩:=h
 refine ⟨A,c,rfl,hc,fun hA=>?_,fun ad hA j u hu=>?_⟩
 ·rcases Nat.eq_zero_or_pos l.length with h0|h0
  ·exact length_eq_zero_iff.1 h0
  ·obtain ⟨b,off,hA',_⟩:=hx h0;rw [hA] at hA';cases hA'
 ·have hl:(l.flatMap enc).length=l.length*sz:=by
   clear hc hx hu
   induction l with
   |nil=>simp
   |cons x r ih=>rw [flatMap_cons,length_append,hlen x (by simp),ih (fun y hy=>hlen y (by simp [hy])),length_cons,Nat.succ_mul];omega
  have hj:j<l.length*sz:=by rw [<-hl];exact (List.getElem?_eq_some_iff.1 hu).1
  have hk:j / sz<l.length:=(Nat.div_lt_iff_lt_mul hsz).2 hj
  obtain ⟨b,off,hA',_,hb,hcell⟩:=hx (Nat.lt_of_le_of_lt (Nat.zero_le _) hk)
  rw [hA] at hA'
  injection hA' with hA'
  subst hA'
  have hm:j % sz<sz:=Nat.mod_lt _ hsz
  have hdm:j / sz*sz+j % sz=j:=by rw [Nat.mul_comm];exact Nat.div_add_mod j sz
  have hin:j % sz<(enc l[j / sz]).length:=by rw [hlen _ (getElem_mem hk)];exact hm
  have hu':=zn2 hlen (j / sz) hk (j % sz) hm _ (getElem?_eq_getElem hin)
  rw [hdm,hu] at hu'
  have:=hcell (j / sz) hk (j % sz) _ (getElem?_eq_getElem hin)
  rw [hdm] at this
  injection hu' with hu'
  rw [Addr.add_lit,this,hu']
theorem y31 (hE:EOk P t e sz bytes enc)(ty:TypeId)(hown:Own w base e sz enc v l){u:Value}{l2:List α}(hu:Sl w S sz enc u l2)
  (h63:(l.length+l2.length)<=1099511627776) (hbytes:bytes<=100) (hbase:base<=w.heap.size) :
  ∃ A c w',(Builtin.append_ #[t,t] ty #[v,u]).run P w=.ok (.slice A (l++l2).length c) w'/\Own w' base e sz enc (.slice A (l++l2).length c) (l++l2)/\w.grownBy w' v.ownBlock /\
   ((Value.slice A (l++l2).length c).ownBlock=v.ownBlock\/(Value.slice A (l++l2).length c).ownBlock=some w.heap.size):=by
 obtain ⟨i,z,hi,hz,hsize,hby,hzs⟩:=hE.inf
 obtain ⟨A,c,rfl,hc,hnone,hcell⟩:=hu.flat (fun x _=>hE.len x) hE.pos
 have hl2:(l2.flatMap enc).length=l2.length*sz:=by
  clear hnone hcell h63 hc hu
  induction l2 with
  |nil=>simp
  |cons x r ih=>rw [flatMap_cons,length_append,hE.len x,ih,length_cons,Nat.succ_mul];omega
 have h1:∀ u∈l2.flatMap enc,u.oneCell'=true:=fun u hu=>by
  obtain ⟨x,_,hx⟩:=mem_flatMap.1 hu
  exact hE.one x u hx
 have key:∃ v' w',(Builtin.append_ #[t,t] ty #[v,.slice A l2.length c]).run P w=.ok v' w'/\w'.ownsRow base e sz v' (l.length+l2.length) (l.flatMap enc++l2.flatMap enc)/\w.grownBy w' v.ownBlock/\(v'.ownBlock=v.ownBlock\/v'.ownBlock=some w.heap.size):=by
  cases A with
  |none =>
   have h0:=hnone rfl
   subst h0
   refine ⟨v,w,?_,by simpa [Own] using hown,World.grownBy.refl w _,.inl rfl⟩
   rcases hown.2 with ⟨rfl,h0⟩|⟨g,cap,cur,rfl,_,_,hnc,_⟩
   ·simp [Builtin.append_,run_underlying hE.und,Go.sizeOf,typeInfo,hi,Builtin.lenOf,Builtin.firstCells]
   ·simp [Builtin.append_,run_underlying hE.und,Go.sizeOf,typeInfo,hi,Builtin.lenOf,Builtin.firstCells,hnc,storeCells]
  |some ad =>
   obtain ⟨v',w',hrun,h2,h3,_,h5⟩:=run_append_own_at (P:=P) w base t ty e i z sz bytes hE.und hi hz hsize hby hzs hE.pos v l.length (l.flatMap enc) hown ad l2.length c (l2.flatMap enc) hl2 (hcell ad rfl) h1
    (by simp only [maxLen];omega) (Nat.le_trans (Nat.mul_le_mul h63 hbytes) (by omega)) hbase
   exact ⟨v',w',hrun,h2,h3,h5⟩
 obtain ⟨v',w',hrun,h2,h3,h4⟩:=key
 have hown':Own w' base e sz enc v' (l++l2):=by
  unfold Own
  rw [length_append,flatMap_append]
  exact h2
 obtain ⟨A',c',rfl,_,_⟩:=hown'.val
 exact ⟨A',c',w',hrun,hown',h3,h4⟩
theorem zax {ops:Array Oper}{rest:List Oper}{o:Oper}{a:Act}{Q:Exit->Act->World->Prop}(hgd:o.guard=none)(s x:Operand)
  (ho:o.op=.call { callee:=.builtin .append,args:=#[s,x],argTypes:=#[t,t] })
  (hE:EOk P t e sz bytes enc) (hs:a.eval s=v) (hown:Own w base e sz enc v l) {u:Value} {l2:List α} (hx:a.eval x=u) (hu:Sl w S sz enc u l2)
  (h63:(l.length+l2.length)<=1099511627776) (hbytes:bytes<=100) (hbase:base<=w.heap.size)
  (h:∀ A c w',Own w' base e sz enc (.slice A (l++l2).length c) (l++l2)->w.grownBy w' v.ownBlock ->
    ((Value.slice A (l++l2).length c).ownBlock=v.ownBlock\/(Value.slice A (l++l2).length c).ownBlock=some w.heap.size)->wpList P ops Q rest (a.put o.dst (.slice A (l++l2).length c)) w') :
  wpList P ops Q (o::rest) a w:=by
 refine wpList_plain hgd fun K hK=>?_
 obtain ⟨A,c,w',hr,h2,h3,h4⟩:=y31 (P:=P) hE o.type hown hu h63 hbytes hbase
 unfold Oper.wp execOp
 simp only [ho,resolve,invoke,builtin,Sem.run_bind,Sem.run_pure,Result.andThen_ok,map_toArray,map_cons,map_nil,hs,hx,hr]
 exact hK _ _ (h A c w' h2 h3 h4)
end
variable {a b:World}
theorem Below.next {c:World}(h:Below a.heap.size a b)(k:Below b.heap.size b c):Below a.heap.size a c:=h.trans (k.mono h.size)
variable {w:World}{e:TypeId}
theorem Own.made_:Own (w.alloc (.cells #[] e)) w.heap.size e sz enc (.slice (some ⟨w.heap.size,0,none⟩) 0 0) ([]:List α) :=
 World.ownsRow_made w #[] 0 (Nat.le_refl _) (by simp [maxLen]) (by simp)
theorem Own.grown {B base:Nat}{w0 w':World}{v:Value}(h:Own w base e sz enc v l)(hb:Below B w0 w)(hB:B<=base)(hz:B<=w.heap.size)(hg:w.grownBy w' v.ownBlock):Below B w0 w' :=
 hb.grown hg hz (fun k hk=>Nat.le_trans hB (h.lt k hk).1)
def zwe (e:TypeId)(sz:Nat)(enc:α->List Value)(l:List α)(w0:World)(r:Ending)(w':World):Prop :=
 ∃ A c,r=.returned (.slice A l.length c)/\Own w' w0.heap.size e sz enc (.slice A l.length c) l/\Below w0.heap.size w0 w'
theorem Sl.none_nil {S:Nat->Prop}{n c:Nat}(h:Sl w S sz enc (.slice none n c) l):l=[]:=by
 obtain ⟨A,c',he,_,hx⟩:=h
 injection he with he _ _
 rcases Nat.eq_zero_or_pos l.length with h0|h0
 ·exact length_eq_zero_iff.1 h0
 ·obtain ⟨b,off,hA',_⟩:=hx h0;rw [<-he] at hA';cases hA'
def ypj (P:Program)(g:Nat)(lb:Array Value)(arg:α->Value)(p:α->Bool)(w:World):Prop :=
 ∀ (W:World) (x:α),Below w.heap.size w W->Calls P g (#[arg x]++lb) W fun e w'=>e=.returned (.bool (p x))/\Below W.heap.size W w'
variable {g:Nat}
theorem ypj.later {P:Program}{lb:Array Value}{arg:α->Value}{p:α->Bool}{w1:World}(h:ypj P g lb arg p w)(hb:Below w.heap.size w w1):ypj P g lb arg p w1 :=
 fun W x hW=>h W x (hb.trans (hW.mono hb.size))
def Blk (w:World)(g:Nat)(t:TypeId)(cs:Array Value):Prop:=w.heap[g]? = some (.cells cs t (0,0))
section
variable {w w':World} {g:Nat} {t:TypeId} {cs:Array Value}
theorem Blk.lt (h:Blk w g t cs):g<w.heap.size:=by
 rcases Nat.lt_or_ge g w.heap.size with hlt|hge
 ·exact hlt
 ·unfold Blk at h;rw [Array.getElem?_eq_none hge] at h;cases h
theorem Blk.cell (h:Blk w g t cs)(i:Nat):w.cell? ⟨g,i,none⟩=cs[i]? := cell_of_row w g i cs t (0,0) h
theorem Blk.frozen (h:Blk w g t cs)(i:Nat):w.frozen? ⟨g,i,none⟩=false:=by
 unfold Blk at h
 simp [World.frozen?,h]
theorem Blk.shape (h:Blk w g t cs):w.shape? g=some (t,cs.size):=by unfold Blk at h;simp [World.shape?,h]
theorem Blk.new (w:World)(t:TypeId)(cs:Array Value):Blk (w.alloc (.cells cs t)) w.heap.size t cs:=heap_alloc_new w _
theorem Blk.alloc (h:Blk w g t cs)(o:Obj):Blk (w.alloc o) g t cs:=(Below.heap_alloc w o g h.lt).trans h
theorem Blk.below (h:Blk w g t cs)(hb:Below w.heap.size w w'):Blk w' g t cs:=(hb.block g h.lt).trans h
theorem Blk.set (h:Blk w g t cs)(i:Nat)(u:Value):Blk (w.setCell ⟨g,i,none⟩ u) g t (cs.setIfInBounds i u):=by
 unfold Blk at h ⊢
 simp [World.setCell,Array.getElem?_modify,h]
theorem Blk.grown {row:Option Nat}(h:Blk w g t cs)(hb:w.grownBy w' row)(hg:some g≠row):Blk w' g t cs:=(hb.block g h.lt hg).trans h
end
section
variable {P:Program} {w:World}
theorem y63 (elem:TypeId)(sz:Nat)(dT sT ty:TypeId)(hu:P.underlying dT=some (.slice elem))(hsz:(P.info? elem).map (·.size)=some sz)(g off dLen dCap sLen sCap:Nat)(ad:Addr)(t:TypeId)(cur:List Value)(hg:Blk w g t cur.toArray)(cs:List Value)
  (hn:cs.length=Nat.min sLen dLen*sz) (hsrc:∀ j v,cs[j]? = some v->w.cell? (ad.add j)=some v) (hfit:off+cs.length<=cur.length) (h1:∀ v∈cs,v.oneCell'=true) :
  ∃ w',(Builtin.copy_ #[dT,sT] ty #[.slice (some ⟨g,off,none⟩) dLen dCap,.slice (some ad) sLen sCap]).run P w=.ok (goInt (Nat.min sLen dLen)) w' /\
   Blk w' g t (cur.take off++cs++cur.drop (off+cs.length)).toArray/\w.grownBy w' (some g):=by
 have hl:=run_firstCells_some (P:=P) w sz (Nat.min sLen dLen) ad sLen sCap cs hn hsrc
 have hst:=run_storeCells_at P g off t cs 0 cur.toArray w hg (by simpa using hfit) h1
 refine ⟨_,?_,setRow_heap w g cur.toArray _ t _ hg,⟨rfl,rfl,rfl,by simp,fun k _ hk=>setRow_other w g k _ (fun e=>hk (by rw [e]))⟩⟩
 cases hq:P.info? elem with
 |none=>simp [hq] at hsz
 |some i =>
  have hi:i.size=sz:=by simpa [hq] using hsz
  simp [Builtin.copy_,run_underlying hu,Builtin.lenOf,Go.sizeOf,typeInfo,hq,hi,hl,hst]
variable {o:Oper}{K:Act->World->Prop}{Q:Exit->Act->World->Prop}
theorem zxj {a:Act}(d s:Operand)(dT sT:TypeId)
  (ho:o.op=.call { callee:=.builtin .copy,args:=#[d,s],argTypes:=#[dT,sT] }) (elem:TypeId) (sz:Nat) (hu:P.underlying dT=some (.slice elem)) (hsz:(P.info? elem).map (·.size)=some sz)
  (g off dLen dCap sLen sCap:Nat) (ad:Addr) (hd:a.eval d=.slice (some ⟨g,off,none⟩) dLen dCap) (hs:a.eval s=.slice (some ad) sLen sCap) (t:TypeId) (cur:List Value) (hg:Blk w g t cur.toArray) (cs:List Value)
  (hn:cs.length=Nat.min sLen dLen*sz) (hsrc:∀ j v,cs[j]? = some v->w.cell? (ad.add j)=some v) (hfit:off+cs.length<=cur.length) (h1:∀ v∈cs,v.oneCell'=true)
  (h:∀ w',Blk w' g t (cur.take off++cs++cur.drop (off+cs.length)).toArray->w.grownBy w' (some g)->K (a.put o.dst (goInt (Nat.min sLen dLen))) w'):o.wp P a w K Q:=by
 obtain ⟨w',hr,h2,h3⟩:=y63 (P:=P) (w:=w) elem sz dT sT o.type hu hsz g off dLen dCap sLen sCap ad t cur hg cs hn hsrc hfit h1
 unfold Oper.wp execOp
 simp only [ho,resolve,invoke,builtin,Sem.run_bind,Sem.run_pure,Result.andThen_ok,map_toArray,map_cons,map_nil,hd,hs,hr]
 exact h w' h2 h3
variable {ops:Array Oper}
theorem zq4 {rest:List Oper}{a:Act}(hgd:o.guard=none)(d s:Operand)(dT sT:TypeId)
  (ho:o.op=.call { callee:=.builtin .copy,args:=#[d,s],argTypes:=#[dT,sT] }) (elem:TypeId) (sz:Nat) (hu:P.underlying dT=some (.slice elem)) (hsz:(P.info? elem).map (·.size)=some sz)
  (g off dLen dCap sLen sCap:Nat) (ad:Addr) (hd:a.eval d=.slice (some ⟨g,off,none⟩) dLen dCap) (hs:a.eval s=.slice (some ad) sLen sCap) (t:TypeId) (cur:List Value) (hg:Blk w g t cur.toArray) (cs:List Value)
  (hn:cs.length=Nat.min sLen dLen*sz) (hsrc:∀ j v,cs[j]? = some v->w.cell? (ad.add j)=some v) (hfit:off+cs.length<=cur.length) (h1:∀ v∈cs,v.oneCell'=true)
  (h:∀ w',Blk w' g t (cur.take off++cs++cur.drop (off+cs.length)).toArray->w.grownBy w' (some g)->wpList P ops Q rest (a.put o.dst (goInt (Nat.min sLen dLen))) w'):wpList P ops Q (o::rest) a w :=
 wpList_plain hgd fun _ hK=>zxj d s dT sT ho elem sz hu hsz g off dLen dCap sLen sCap ad hd hs t cur hg cs hn hsrc hfit h1 fun w' h2 h3=>hK _ _ (h w' h2 h3)
theorem ztp {a:Act}{E:Prop}(hgd:o.guard=none)(d s:Operand)(dT sT:TypeId)
  (ho:o.op=.call { callee:=.builtin .copy,args:=#[d,s],argTypes:=#[dT,sT] }) (elem:TypeId) (sz:Nat) (hu:P.underlying dT=some (.slice elem)) (hsz:(P.info? elem).map (·.size)=some sz)
  (g off dLen dCap sLen sCap:Nat) (ad:Addr) (hd:a.eval d=.slice (some ⟨g,off,none⟩) dLen dCap) (hs:a.eval s=.slice (some ad) sLen sCap) (t:TypeId) (cur:List Value) (hg:Blk w g t cur.toArray) (cs:List Value)
  (hn:cs.length=Nat.min sLen dLen*sz) (hsrc:∀ j v,cs[j]? = some v->w.cell? (ad.add j)=some v) (hfit:off+cs.length<=cur.length) (h1:∀ v∈cs,v.oneCell'=true)
  (h:∀ w',Blk w' g t (cur.take off++cs++cur.drop (off+cs.length)).toArray->w.grownBy w' (some g)->K (a.put o.dst (goInt (Nat.min sLen dLen))) w') :
  if Region.wanted o (yielded ops a.tmps)=true then Oper.wp P o a w K Q else E:=by
 rw [if_pos (by simp [Region.wanted,hgd])]
 exact zxj d s dT sT ho elem sz hu hsz g off dLen dCap sLen sCap ad hd hs t cur hg cs hn hsrc hfit h1 h
end
theorem zyp (F1 F2 R X:List α)(p s q:Nat)(h1:F1.length=p)(h2:F2.length=q)(hX:X.length=s)(hR:s<=R.length) :
  ((((F1++F2++R).take (p+s)++F2++(F1++F2++R).drop (p+s+F2.length)).take p++X++((F1++F2++R).take (p+s)++F2++(F1++F2++R).drop (p+s+F2.length)).drop (p+X.length)).take (p+s+q))=F1++X++F2:=by
 have hA:((F1++F2++R).take (p+s)).length=p+s:=by simp;omega
 have hA1:((F1++F2++R).take (p+s)).take p=F1:=by
  rw [take_take,Nat.min_eq_left (by omega),append_assoc,take_append_of_le_length (by omega),take_of_length_le (by omega)]
 generalize (F1++F2++R).take (p+s)=A at *
 generalize (F1++F2++R).drop (p+s+F2.length)=D
 have e1:(A++F2++D).take p=F1:=by rw [append_assoc,take_append_of_le_length (by omega),hA1]
 have e2:(A++F2++D).drop (p+X.length)=F2++D:=by rw [append_assoc,hX,<-hA,drop_left]
 rw [e1,e2,<-append_assoc,take_append_of_le_length (by simp;omega),take_of_length_le (by simp;omega)]
theorem y7m (F1 F2 Z X:List α)(p s q:Nat)(h1:F1.length=p)(h2:F2.length=q)(hX:X.length=s)(hZ:s+q<=Z.length) :
  ((((F1++Z).take p++X++(F1++Z).drop (p+X.length)).take (p+s)++F2++((F1++Z).take p++X++(F1++Z).drop (p+X.length)).drop (p+s+F2.length)).take (p+s+q))=F1++X++F2:=by
 have e0:(F1++Z).take p=F1:=by rw [take_append_of_le_length (by omega),take_of_length_le (by omega)]
 rw [e0]
 generalize (F1++Z).drop (p+X.length)=D
 have e1:(F1++X++D).take (p+s)=F1++X:=by rw [take_append_of_le_length (by simp;omega),take_of_length_le (by simp;omega)]
 rw [e1,take_append_of_le_length (by simp;omega),take_of_length_le (by simp;omega)]
theorem zt8 (h:∀ x,(enc x).length=sz)(l:List α):(l.flatMap enc).length=l.length*sz:=by
 induction l with
 |nil=>simp
 |cons x r ih=>rw [flatMap_cons,length_append,h x,ih,length_cons,Nat.succ_mul];omega
theorem yax (h:∀ x,∀ u∈enc x,u.oneCell'=true)(l:List α):∀ u∈l.flatMap enc,u.oneCell'=true:=fun u hu=>by
 obtain ⟨x,_,hx⟩:=mem_flatMap.1 hu
 exact h x u hx
variable {row:Option Nat}
theorem zu3 {c:World}(h:a.grownBy b row)(k:b.grownBy c row):a.grownBy c row :=
 ⟨k.os.trans h.os,k.tape.trans h.tape,k.output.trans h.output,Nat.le_trans h.size k.size,fun i hi hne=>(k.block i (Nat.lt_of_lt_of_le hi h.size) hne).trans (h.block i hi hne)⟩
theorem zu4 {o:Obj}(h:(a.alloc o).grownBy b (some a.heap.size))(row:Option Nat):a.grownBy b row :=
 ⟨h.os,h.tape,h.output,by have:=h.size;rw [World.size_alloc] at this;omega,fun i hi _=>(h.block i (by rw [World.size_alloc];omega) (by simp;omega)).trans (Below.heap_alloc a o i hi)⟩
theorem Own.of_blk {base c:Nat}{cur:List Value}(h:Blk w g e cur.toArray)(hbg:base<=g)(hlc:l.length<=c)(hcm:c<=maxLen)(hs:cur.length=c*sz)
  (ht:cur.take (l.length*sz)=l.flatMap enc) (hE:∀ x,(enc x).length=sz):Own w base e sz enc (.slice (some ⟨g,0,none⟩) l.length c) l :=
 ⟨zt8 hE l,Or.inr ⟨g,c,cur.toArray,rfl,hbg,h,hlc,hcm,by simpa using hs,ht⟩⟩
theorem zi2 (h:a.drew.grownBy b row):a.grownBy b row:=⟨h.os,h.tape,h.output,h.size,h.block⟩
structure Pt where
 seq:Int
 time:Int
deriving DecidableEq
structure Trk where
 next:Int
 beyond:List Int
 points:List Pt
 mark:Int
deriving DecidableEq
inductive Dv where
 |sub (sz lo:Nat)
 |con
 |nelt (k:Nat)
 |obj (j:Nat)
 |oelt (j k:Nat)
deriving Inhabited
def yau:Value->Bool
 |.tuple _=>true
 |.agg _=>true
 |_=>false
def Dv.of:Dv->Value->Value
 |.sub sz lo,.slice (some a) n c=>.slice (some (if c=lo then a else ⟨a.block,a.off+lo*sz,none⟩)) (n-lo) (c-lo)
 |.sub _ _,.slice none n c=>.slice none (n-0) (c-0)
 |.con,.tuple vs=>vs.getD 0 undef
 |.nelt k,.tuple vs=>match vs.getD 0 undef with|.slice (some a) _ _=>.pointer (some ⟨a.block,a.off+k,none⟩)|v=>v
 |.con,.agg vs=>vs.getD 0 undef
 |.nelt k,.agg vs=>match vs.getD 0 undef with|.slice (some a) _ _=>.pointer (some ⟨a.block,a.off+k,none⟩)|v=>v
 |.obj j,.agg vs=>vs.getD (j+1) undef
 |.oelt j k,.agg vs=>match vs.getD (j+1) undef with|.slice (some a) _ _=>.pointer (some ⟨a.block,a.off+k,none⟩)|v=>v
 |_,_=>undef
def Dv.ok:Dv->Value->Bool
 |.obj j,.agg vs=>Nat.blt (j+1) vs.size
 |.oelt j _,.agg vs=>Nat.blt (j+1) vs.size
 |.obj _,_=>false
 |.oelt _ _,_=>false
 |_,_=>true
def Born (es:Array MapEntry)(clock:Nat):Prop:=(es.toList.map (·.born)).Nodup/\∀ e∈es.toList,e.born<clock
inductive AV where
 |any
 |int (k:IntKind) (n:Int)
 |bool (b:Bool)
 |str (s:ByteArray)
 |nilp
 |ptr (id off:Nat)
 |nils
 |sl (sz:Nat) (xs:List AV)
 |row (id:Nat)
 |elt (id sz k j:Nat)
 |fn (f:FuncId) (cap:List AV)
 |yld (l:Nat) (T:Array Value) (cap:List AV)
 |nilf
 |agg (cs:List AV)
 |tup (cs:List AV)
 |ref (cs:List AV)
 |der (φ:Dv) (id:Nat)
 |mapv (ps:List (AV×AV))
 |slen (n:Nat)
 |cont (n id:Nat)
deriving Inhabited
def intN:AV->Int
 |.int _ n=>n
 |_=>0
def isI (kd:IntKind):AV->Bool
 |.int k _=>decide (k=kd)
 |_=>false
def yst (ps:List (AV×AV)):Prop:=∃ kd,(∀ p∈ps,isI kd p.1=true)/\(ps.map fun p=>intN p.1).Nodup
def y58 (ps0 ps:List (AV×AV)):Prop:=ps0=ps\/(ps0.Perm ps/\yst ps)
def AV.cells:AV->List AV
 |.agg cs=>cs
 |x=>[x]
mutual
def AV.closed:AV->Bool
 |.ptr _ _=>false
 |.row _=>false
 |.elt _ _ _ _=>false
 |.der _ _=>false
 |.cont _ _=>false
 |.fn _ cap=>AV.closedL cap
 |.yld _ _ cap=>AV.closedL cap
 |.agg cs=>AV.closedL cs
 |.tup cs=>AV.closedL cs
 |_=>true
def AV.closedL:List AV->Bool
 |[]=>true
 |x::r=>x.closed && AV.closedL r
end
theorem AV.closedL_at {l:List AV}(h:AV.closedL l=true)(i:Nat)(hi:i<l.length):l[i].closed=true:=by
 induction l generalizing i with
 |nil=>simp at hi
 |cons x r ih =>
  simp only [AV.closedL,Bool.and_eq_true] at h
  cases i with
  |zero=>exact h.1
  |succ i=>exact ih h.2 i (by simpa using hi)
abbrev Gam:=Nat->Option (Option (Option Nat×Value))
def G0:Gam:=fun _=>none
inductive Rep (w:World) (S:Nat->Prop):Gam->AV->Value->Prop
 |any {γ:Gam} (v:Value):Rep w S γ .any v
 |int {γ:Gam} (k:IntKind) (n:Int):Rep w S γ (.int k n) (.int k n)
 |bool {γ:Gam} (b:Bool):Rep w S γ (.bool b) (.bool b)
 |str {γ:Gam} (s:ByteArray):Rep w S γ (.str s) (.string s)
 |nilp {γ:Gam}:Rep w S γ .nilp (.pointer none)
 |ptr {γ:Gam} {id off:Nat} {v:Value} {d:Option (Option Nat×Value)} (h:γ id=some d) (hv:∀ g s,d=some (some g,s)->v=.pointer (some ⟨g,off,none⟩)):Rep w S γ (.ptr id off) v
 |elt {γ:Gam} {id sz k j:Nat} {v:Value} {d:Option (Option Nat×Value)} (h:γ id=some d) (hv:∀ g s,d=some (some g,s)->v=.pointer (some ⟨g,k*sz+j,none⟩)):Rep w S γ (.elt id sz k j) v
 |nils {γ:Gam}:Rep w S γ .nils (.slice none 0 0)
 |sl {γ:Gam} {sz:Nat} {xs:List AV} (A:Option Addr) (c:Nat) (cell:Nat->Nat->Value) (hc:xs.length<=c) (hlen:∀ k (hk:k<xs.length),(xs[k]).cells.length=sz)
   (hb:0<xs.length->∃ b off,A=some ⟨b,off,none⟩/\S b/\b<w.heap.size/\∀ k j,k<xs.length->j<sz->w.cell? ⟨b,off+(k*sz+j),none⟩=some (cell k j))
   (hr:∀ k (hk:k<xs.length) j (hj:j<(xs[k]).cells.length),Rep w S G0 ((xs[k]).cells[j]) (cell k j)) (h1:∀ k j,(cell k j).oneCell'=true):Rep w S γ (.sl sz xs) (.slice A xs.length c)
 |row {γ:Gam} {id:Nat} {v:Value} {d:Option (Option Nat×Value)} (h:γ id=some d) (hv:∀ g s,d=some (g,s)->yau s=false->v=s):Rep w S γ (.row id) v
 |fn {γ:Gam} {f:FuncId} {cap:List AV} (vs:Array Value) (hl:vs.size=cap.length) (hr:∀ i (hi:i<cap.length),Rep w S γ cap[i] (vs.getD i undef)):Rep w S γ (.fn f cap) (.func (.func f) #[] vs)
 |yld {γ:Gam} {l:Nat} {T:Array Value} {cap:List AV} (hr:∀ i (hi:i<cap.length),Rep w S γ cap[i] (T.getD i undef)):Rep w S γ (.yld l T cap) (.func (.yield l) #[] #[])
 |nilf {γ:Gam}:Rep w S γ .nilf .nilFunc
 |agg {γ:Gam} {cs:List AV} (vs:Array Value) (hl:vs.size=cs.length) (hr:∀ i (hi:i<cs.length),Rep w S γ cs[i] (vs.getD i undef)) (h1:∀ i,i<vs.size->(vs.getD i undef).oneCell'=true):Rep w S γ (.agg cs) (.agg vs)
 |tup {γ:Gam} {cs:List AV} (vs:Array Value) (hl:vs.size=cs.length) (hr:∀ i (hi:i<cs.length),Rep w S γ cs[i] (vs.getD i undef)):Rep w S γ (.tup cs) (.tuple vs)
 |ref {γ:Gam} {cs:List AV} (b off:Nat) (cell:Nat->Value) (hS:S b) (hb:b<w.heap.size) (hc:∀ j,j<cs.length->w.cell? ⟨b,off+j,none⟩=some (cell j))
   (hr:∀ j (hj:j<cs.length),Rep w S G0 cs[j] (cell j)) (h1:∀ j,j<cs.length->(cell j).oneCell'=true):Rep w S γ (.ref cs) (.pointer (some ⟨b,off,none⟩))
 |der {γ:Gam} {φ:Dv} {id:Nat} {v:Value} {d:Option (Option Nat×Value)} (h:γ id=some d) (hv:∀ g s,d=some (g,s)->φ.ok s=true/\v=φ.of s):Rep w S γ (.der φ id) v
 |mapv {γ:Gam} {ps:List (AV×AV)} (ps0:List (AV×AV)) (hp:y58 ps0 ps) (g:Nat) (es:Array MapEntry) (clock:Nat) (hb:Born es clock) (hS:S g) (hg:g<w.heap.size) (hh:w.heap[g]? = some (.map es clock)) (hl:es.size=ps0.length)
   (hk:∀ j (h:j<es.toList.length) (h':j<ps0.length),Rep w S G0 (ps0[j]).1 (es.toList[j]).key) (hv:∀ j (h:j<es.toList.length) (h':j<ps0.length),Rep w S G0 (ps0[j]).2 (es.toList[j]).val):Rep w S γ (.mapv ps) (.map (some g))
 |mapn {γ:Gam}:Rep w S γ (.mapv []) (.map none)
 |slen {γ:Gam} (A:Option Addr) (n c:Nat):Rep w S γ (.slen n) (.slice A n c)
 |cont {γ:Gam} {n id:Nat} {v:Value} {d:Option (Option Nat×Value)} (h:γ id=some d) (hv:∀ g s,d=some (g,s)->v=Dv.con.of s) (hl:∃ A c,v=.slice A n c/\(0<n->∃ b off,A=some ⟨b,off,none⟩)):Rep w S γ (.cont n id) v
section
variable {w w':World} {S S':Nat->Prop} {γ γ':Gam} {av:AV} {v:Value}
theorem Rep.mono (h:Rep w S γ av v)(hz:w.heap.size<=w'.heap.size)(hk:∀ b,S b->b<w.heap.size->w'.heap[b]? = w.heap[b]? /\ S' b):Rep w' S' γ av v:=by
 induction h with
 |any=>exact .any _
 |int=>exact .int _ _
 |bool=>exact .bool _
 |str=>exact .str _
 |nilp=>exact .nilp
 |ptr h hv=>exact .ptr h hv
 |elt h hv=>exact .elt h hv
 |nils=>exact .nils
 |sl A c cell hc hlen hb hr h1 ih =>
  refine .sl A c cell hc hlen (fun h0=>?_) (fun k hk j hj=>ih k hk j hj) h1
  obtain ⟨b,off,hA,hS,hlt,hcell⟩:=hb h0
  obtain ⟨e,hS'⟩:=hk b hS hlt
  exact ⟨b,off,hA,hS',Nat.lt_of_lt_of_le hlt hz,fun k j h1 h2=>(World.cell?_of_block (w:=w) (a:=⟨b,_,none⟩) e).trans (hcell k j h1 h2)⟩
 |row h hv=>exact .row h hv
 |fn vs hl hr ih=>exact .fn vs hl ih
 |yld hr ih=>exact .yld ih
 |nilf=>exact .nilf
 |agg vs hl hr h1 ih=>exact .agg vs hl ih h1
 |tup vs hl hr ih=>exact .tup vs hl ih
 |ref b off cell hS hb hc hr h1 ih =>
  obtain ⟨e,hS'⟩:=hk b hS hb
  exact .ref b off cell hS' (Nat.lt_of_lt_of_le hb hz) (fun j hj=>(World.cell?_of_block (w:=w) (a:=⟨b,_,none⟩) e).trans (hc j hj)) ih h1
 |der h hv=>exact .der h hv
 |mapv ps0 hp g es clock hb hS hg hh hl hk' hv ih1 ih2 =>
  obtain ⟨e,hS'⟩:=hk g hS hg
  exact .mapv ps0 hp g es clock hb hS' (Nat.lt_of_lt_of_le hg hz) (e.trans hh) hl ih1 ih2
 |mapn=>exact .mapn
 |cont h hv hl=>exact .cont h hv hl
 |slen A n c=>exact .slen A n c
def Turn (γ:Gam)(id:Nat)(d:Option (Option Nat×Value)):Prop:=∃ s s',d=some (none,s)/\γ id=some (some (none,s'))/\yau s=true/\yau s'=true/\∀ φ:Dv,φ.ok s=true->φ.ok s'=true/\φ.of s'=φ.of s
theorem Rep.gam (h:Rep w S γ av v)(hg:∀ id d,γ id=some d->γ' id=some d\/γ' id=some none\/Turn γ' id d):Rep w S γ' av v:=by
 induction h with
 |any=>exact .any _
 |int=>exact .int _ _
 |bool=>exact .bool _
 |str=>exact .str _
 |nilp=>exact .nilp
 |ptr h hv =>
  rcases hg _ _ h with h'|h'|⟨s1,s2,hd1,h',t1,t2,hφ⟩
  ·exact .ptr h' hv
  ·exact .ptr h' (fun g s e=>by cases e)
  ·exact .ptr h' (fun g s e=>by cases e)
 |elt h hv =>
  rcases hg _ _ h with h'|h'|⟨s1,s2,hd1,h',t1,t2,hφ⟩
  ·exact .elt h' hv
  ·exact .elt h' (fun g s e=>by cases e)
  ·exact .elt h' (fun g s e=>by cases e)
 |nils=>exact .nils
 |sl A c cell hc hlen hb hr h1 ih=>exact .sl A c cell hc hlen hb hr h1
 |row h hv =>
  rcases hg _ _ h with h'|h'|⟨s1,s2,hd1,h',t1,t2,hφ⟩
  ·exact .row h' hv
  ·exact .row h' (fun g s e _=>by cases e)
  ·exact .row h' (fun g s e hc=>by injection e with e;injection e with _ e;subst e;rw [t2] at hc;cases hc)
 |fn vs hl hr ih=>exact .fn vs hl (fun i hi=>ih i hi hg)
 |yld hr ih=>exact .yld (fun i hi=>ih i hi hg)
 |nilf=>exact .nilf
 |agg vs hl hr h1 ih=>exact .agg vs hl (fun i hi=>ih i hi hg) h1
 |tup vs hl hr ih=>exact .tup vs hl (fun i hi=>ih i hi hg)
 |ref b off cell hS hb hc hr h1 ih=>exact .ref b off cell hS hb hc hr h1
 |der h hv =>
  rcases hg _ _ h with h'|h'|⟨s1,s2,hd1,h',t1,t2,hφ⟩
  ·exact .der h' hv
  ·exact .der h' (fun g s e=>by cases e)
  ·exact .der h' (fun g s e=>by
    injection e with e;injection e with _ e;subst e
    obtain ⟨k1,k2⟩:=hv _ _ hd1
    obtain ⟨k3,k4⟩:=hφ _ k1
    exact ⟨k3,k2.trans k4.symm⟩)
 |cont h hv hl =>
  rcases hg _ _ h with h'|h'|⟨s1,s2,hd1,h',t1,t2,hφ⟩
  ·exact .cont h' hv hl
  ·exact .cont h' (fun g s e=>by cases e) hl
  ·exact .cont h' (fun g s e=>by injection e with e;injection e with _ e;subst e;rw [(hφ .con (by cases s1<;>rfl)).2];exact hv _ _ hd1) hl
 |mapv ps0 hp g es clock hb hS hgb hh hl hk hv ih1 ih2=>exact .mapv ps0 hp g es clock hb hS hgb hh hl hk hv
 |mapn=>exact .mapn
 |slen A n c=>exact .slen A n c
theorem Rep.open_ (h:Rep w S G0 av v):Rep w S γ' av v:=h.gam (fun id d h=>by cases h)
theorem Rep.close (h:Rep w S γ av v)(hcl:av.closed=true):Rep w S γ' av v:=by
 induction h with
 |any=>exact .any _
 |int=>exact .int _ _
 |bool=>exact .bool _
 |str=>exact .str _
 |nilp=>exact .nilp
 |ptr h hv=>simp [AV.closed] at hcl
 |elt h hv=>simp [AV.closed] at hcl
 |nils=>exact .nils
 |sl A c cell hc hlen hb hr h1 ih=>exact .sl A c cell hc hlen hb hr h1
 |row h hv=>simp [AV.closed] at hcl
 |fn vs hl hr ih=>simp only [AV.closed] at hcl;exact .fn vs hl (fun i hi=>ih i hi (AV.closedL_at hcl i hi))
 |yld hr ih=>simp only [AV.closed] at hcl;exact .yld (fun i hi=>ih i hi (AV.closedL_at hcl i hi))
 |nilf=>exact .nilf
 |agg vs hl hr h1 ih=>simp only [AV.closed] at hcl;exact .agg vs hl (fun i hi=>ih i hi (AV.closedL_at hcl i hi)) h1
 |tup vs hl hr ih=>simp only [AV.closed] at hcl;exact .tup vs hl (fun i hi=>ih i hi (AV.closedL_at hcl i hi))
 |ref b off cell hS hb hc hr h1 ih=>exact .ref b off cell hS hb hc hr h1
 |cont h hv hl=>simp [AV.closed] at hcl
 |der h hv=>simp [AV.closed] at hcl
 |mapv ps0 hp g es clock hb hS hgb hh hl hk hv ih1 ih2=>exact .mapv ps0 hp g es clock hb hS hgb hh hl hk hv
 |mapn=>exact .mapn
 |slen A n c=>exact .slen A n c
def AV.one:AV->Bool
 |.any|.agg _|.tup _|.ptr _ _|.row _|.elt _ _ _ _|.der _ _=>false
 |_=>true
theorem Rep.one (h:Rep w S γ av v)(h1:av.one=true):v.oneCell'=true:=by
 cases h<;>first|rfl|(rename_i hl;obtain ⟨_,_,rfl,_⟩:=hl;rfl)|(simp [AV.one] at h1;done)
theorem Rep.int_inv {k:IntKind}{n:Int}(h:Rep w S γ (.int k n) v):v=.int k n:=by cases h;rfl
theorem Rep.bool_inv {b:Bool}(h:Rep w S γ (.bool b) v):v=.bool b:=by cases h;rfl
theorem Rep.str_inv {s:ByteArray}(h:Rep w S γ (.str s) v):v=.string s:=by cases h;rfl
variable {id:Nat}{s:Value}
theorem Rep.ptr_inv {off:Nat}(h:Rep w S γ (.ptr id off) v)(hg:γ id=some (some (some g,s))):v=.pointer (some ⟨g,off,none⟩):=by
 cases h with
 |ptr h hv=>rw [hg] at h;injection h with h;exact hv g s h.symm
theorem Rep.elt_inv {k j:Nat}(h:Rep w S γ (.elt id sz k j) v)(hg:γ id=some (some (some g,s))):v=.pointer (some ⟨g,k*sz+j,none⟩):=by
 cases h with
 |elt h hv=>rw [hg] at h;injection h with h;exact hv g s h.symm
theorem Rep.nils_inv (h:Rep w S γ .nils v):v=.slice none 0 0:=by cases h;rfl
variable {cs:List AV}
theorem Rep.ref_inv (h:Rep w S γ (.ref cs) v):∃ b off,v=.pointer (some ⟨b,off,none⟩)/\S b/\b<w.heap.size/\∃ cell:Nat->Value,(∀ j,j<cs.length->w.cell? ⟨b,off+j,none⟩=some (cell j))/\(∀ j (hj:j<cs.length),Rep w S G0 cs[j] (cell j))/\∀ j,j<cs.length->(cell j).oneCell'=true:=by
 cases h with
 |ref b off cell hS hb hc hr h1=>exact ⟨b,off,rfl,hS,hb,cell,hc,hr,h1⟩
theorem zhm (h:s.oneCell'=true):yau s=false:=by cases s<;>first|rfl|simp [Value.oneCell'] at h
theorem Rep.sl_tup {xs:List AV}(h:Rep w S γ (.sl sz xs) v):yau v=false:=by cases h;rfl
theorem Rep.row_inv {g:Option Nat}(h:Rep w S γ (.row id) v)(hg:γ id=some (some (g,s)))(ht:yau s=false:=by first|rfl|assumption|(apply zhm;assumption)|(apply Rep.sl_tup;assumption)):v=s:=by
 cases h with
 |row h hv=>rw [hg] at h;injection h with h;exact hv g s h.symm ht
theorem Rep.der_inv {φ:Dv}{g:Option Nat}(h:Rep w S γ (.der φ id) v)(hg:γ id=some (some (g,s))):v=φ.of s:=by
 cases h with
 |der h hv=>rw [hg] at h;injection h with h;exact (hv g s h.symm).2
theorem Rep.agg_inv (h:Rep w S γ (.agg cs) v):∃ vs:Array Value,v=.agg vs/\vs.size=cs.length/\(∀ i (hi:i<cs.length),Rep w S γ cs[i] (vs.getD i undef))/\∀ i,i<vs.size->(vs.getD i undef).oneCell'=true:=by
 cases h with
 |agg vs hl hr h1=>exact ⟨vs,rfl,hl,hr,h1⟩
theorem Rep.tup_inv (h:Rep w S γ (.tup cs) v):∃ vs:Array Value,v=.tuple vs/\vs.size=cs.length/\∀ i (hi:i<cs.length),Rep w S γ cs[i] (vs.getD i undef):=by
 cases h with
 |tup vs hl hr=>exact ⟨vs,rfl,hl,hr⟩
theorem Rep.fn_inv {f:FuncId}(h:Rep w S γ (.fn f cs) v):∃ vs:Array Value,v=.func (.func f) #[] vs/\vs.size=cs.length/\∀ i (hi:i<cs.length),Rep w S γ cs[i] (vs.getD i undef):=by
 cases h with
 |fn vs hl hr=>exact ⟨vs,rfl,hl,hr⟩
theorem Rep.yld_inv {l:Nat}{T:Array Value}(h:Rep w S γ (.yld l T cs) v):v=.func (.yield l) #[] #[]/\∀ i (hi:i<cs.length),Rep w S γ cs[i] (T.getD i undef):=by
 cases h with
 |yld hr=>exact ⟨rfl,hr⟩
theorem Rep.sl_inv {xs:List AV}(h:Rep w S γ (.sl sz xs) v):∃ A c,v=.slice A xs.length c/\xs.length<=c/\(∀ k (hk:k<xs.length),(xs[k]).cells.length=sz) /\
  ∃ cell:Nat->Nat->Value,(0<xs.length->∃ b off,A=some ⟨b,off,none⟩/\S b/\b<w.heap.size/\∀ k j,k<xs.length->j<sz->w.cell? ⟨b,off+(k*sz+j),none⟩=some (cell k j)) /\
   (∀ k (hk:k<xs.length) j (hj:j<(xs[k]).cells.length),Rep w S G0 ((xs[k]).cells[j]) (cell k j))/\∀ k j,(cell k j).oneCell'=true:=by
 cases h with
 |sl A c cell hc hlen hb hr h1=>exact ⟨A,c,rfl,hc,hlen,cell,hb,hr,h1⟩
end
end Go.Proofs.YtidhlpjgifoneaaGreat
