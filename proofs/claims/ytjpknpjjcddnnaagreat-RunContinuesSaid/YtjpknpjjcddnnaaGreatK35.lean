/- Arguments opened: what any row needs. Arguments opened: cells of any struct, field by field. Arguments opened: automata, and what the bulk of the reading says of them (printed by gen_openq.py). -/
import Derived.Test.YtjpknpjjcddnnaaGreatK34
import Derived.Test.YtjpknpjjcddnnaaGreatK23
set_option linter.unusedVariables false
set_option linter.unusedSimpArgs false
namespace Go.Proofs.YtjpknpjjcddnnaaGreat
open Go.ChangeShapes Go.WideShapes Go.ChangeAt Go.RowKit Go.Joins Go.Deep
section
variable {H:Type} {enc:TypeId×Value->H} {W:World} {base:Nat} {v:Value} {d:DataW H} {p:List MemPlace}
theorem spot_none {a:Addr}{u:Value}(h:W.cell? a=some u):a.spot=none/\a.block<W.heap.size:=by
 unfold World.cell? at h
 split at h
 ·rename_i c _ _ hg
  split at h
  ·cases h
  ·rename_i hs
   refine ⟨by cases hh:a.spot with|none=>rfl|some _=>simp [hh] at hs,?_⟩
   rcases Nat.lt_or_ge a.block W.heap.size with hlt|hge
   ·exact hlt
   ·rw [Array.getElem?_eq_none hge] at hg;cases hg
 ·cases h
theorem add_eq (b off k:Nat):(⟨b,off,none⟩:Addr).add k=⟨b,off+k,none⟩:=by
 by_cases h:k=0<;>simp [Addr.add,h]
theorem mapM_some {α β:Type}{f:α->Option β}:∀ {l:List α} {r:List β},l.mapM f=some r->r.length=l.length/\∀ k (hk:k<l.length) (hr:k<r.length),f l[k]=some r[k]
 |[],r,h=>by simp at h;subst h;exact ⟨rfl,fun k hk=>absurd hk (by simp)⟩
 |a::l,r,h=>by
  simp only [List.mapM_cons] at h
  cases ha:f a with
  |none=>rw [ha] at h;simp at h
  |some b =>
   rw [ha] at h
   cases hl:l.mapM f with
   |none=>rw [hl] at h;simp at h
   |some s =>
    rw [hl] at h
    simp at h
    subst h
    obtain ⟨i1,i2⟩:=mapM_some hl
    refine ⟨by simp [i1],fun k hk hr=>?_⟩
    cases k with
    |zero=>exact ha
    |succ k=>exact i2 k (by simpa using hk) (by simpa using hr)
theorem zyy {a:Addr}{n:Nat}{cs:List Value}(h:W.cells? 0 a n=some cs):cs.length=n/\∀ j,j<n->W.cell? (a.add j)=some (cs.getD j undef):=by
 unfold World.cells? at h
 rw [if_pos (Nat.zero_le _)] at h
 obtain ⟨i1,i2⟩:=mapM_some h
 have hl:cs.length=n:=by simpa using i1
 refine ⟨hl,fun j hj=>?_⟩
 have:=i2 j (by simpa using hj) (by omega)
 rw [List.getElem_range] at this
 rw [this]
 simp [List.getElem?_eq_getElem (show j<cs.length by omega)]
set_option maxRecDepth 100000
def CellsOf {α:Type}(W:World)(a:α->AV)(m:α)(cs:List Value):Prop :=
 cs.length=(a m).cells.length/\∀ j (hj:j<(a m).cells.length),Rep W (fun _=>True) G0 ((a m).cells[j]) (cs.getD j undef)/\(cs.getD j undef).oneCell'=true
theorem sl_open {α:Type}{a:α->AV}{t e:TypeId}{sz:Nat}(ht:Tryz.prog.underlying t=some (.slice e))(hsz:Tryz.prog.cellsOf e=sz)(h0:0<sz)(i0:Inhabited α)(hlen:∀ m,(a m).cells.length=sz)
  (each:∀ (n:Nat) (cs:List Value) (x:DataW H×List MemPlace),cs.length=sz->DataW.trod enc Tryz.prog W 0 (fun _=>true) true n e cs=some x->∃ m:α,CellsOf W a m cs)
  {n:Nat} {u:Value} {x:DataW H×List MemPlace} (h:DataW.trod enc Tryz.prog W 0 (fun _=>true) true n t [u]=some x):∃ l:List α,Rep W (fun _=>True) G0 (.sl sz (l.map a)) u:=by
 rcases open_slice ht h with ⟨h1,_⟩|⟨A,len,cap,m,n',D,Pl,h1,_,hlc,hm,hmm,_,hc⟩
 ·simp only [List.cons.injEq,and_true] at h1
  subst h1
  exact ⟨[],.sl none 0 (fun _ _=>.bool true) (by simp) (fun k hk=>absurd hk (by simp)) (fun h=>absurd h (by simp)) (fun k hk=>absurd hk (by simp)) (fun _ _=>rfl)⟩
 ·simp only [List.cons.injEq,and_true] at h1
  subst h1
  simp only [if_true] at hmm
  subst hmm
  rw [hsz] at hc
  have every:∀ i,∃ q:α×List Value,i<len->W.cells? 0 (A.add (i*sz)) sz=some q.2/\CellsOf W a q.1 q.2:=fun i=>by
   by_cases hi:i<len
   ·obtain ⟨cs,c1,c2⟩:=hc i (by omega)
    obtain ⟨k,hk⟩:=each n' cs _ (zyy c1).1 c2
    exact ⟨(k,cs),fun _=>⟨c1,hk⟩⟩
   ·exact ⟨(i0.default,[]),fun h=>absurd h hi⟩
  obtain ⟨f,hf⟩:=Classical.axiomOfChoice every
  have hl:((List.range len).map fun i=>(f i).1).length=len:=by simp
  refine ⟨(List.range len).map fun i=>(f i).1,?_⟩
  have e:len=(((List.range len).map fun i=>(f i).1).map a).length:=by simp
  have hcell:∀ k j,k<len->j<sz->W.cell? ((A.add (k*sz)).add j)=some ((f k).2.getD j undef):=fun k j hk hj=>(zyy (hf k hk).1).2 j hj
  have:Rep W (fun _=>True) G0 (.sl sz (((List.range len).map fun i=>(f i).1).map a)) (.slice (some A) (((List.range len).map fun i=>(f i).1).map a).length m):=by
   refine .sl (some A) m (fun k j=>if k<len/\j<sz then (f k).2.getD j undef else .bool true) (by simpa using hlc) (fun k hk=>?_) (fun h0'=>?_) (fun k hk j hj=>?_) (fun k j=>?_)
   ·simp only [List.getElem_map];exact hlen _
   ·have hlp:0<len:=by simpa using h0'
    have c0:=spot_none (hcell 0 0 hlp h0)
    obtain ⟨b,off,sp⟩:=A
    have e1:sp=none:=by simpa [Addr.add] using c0.1
    subst e1
    rw [add_eq,add_eq] at c0
    refine ⟨b,off,rfl,trivial,c0.2,fun k j hk hj=>?_⟩
    have hk':k<len:=by simpa using hk
    have:=hcell k j hk' hj
    rw [add_eq,add_eq] at this
    rw [if_pos ⟨hk',hj⟩,<-this]
    congr 2
    omega
   ·have hk':k<len:=by simpa using hk
    simp only [List.getElem_map,List.getElem_range] at hj ⊢
    have hj':j<sz:=by rw [hlen] at hj;exact hj
    rw [if_pos ⟨hk',hj'⟩]
    exact ((hf k hk').2.2 j hj).1
   ·by_cases hkj:k<len/\j<sz
    ·rw [if_pos hkj]
     exact ((hf k hkj.1).2.2 j (by rw [hlen];exact hkj.2)).2
    ·rw [if_neg hkj];rfl
  rw [<-e] at this
  exact this
theorem Rep.one_sl {sz:Nat}{xs:List AV}{u:Value}(h:Rep W (fun _=>True) G0 (.sl sz xs) u):u.oneCell'=true:=by
 cases h;rfl
theorem slArg_open {α:Type}{a:α->AV}{t e:TypeId}{sz:Nat}(ht:Tryz.prog.underlying t=some (.slice e))(hsz:Tryz.prog.cellsOf e=sz)(h0:0<sz)(i0:Inhabited α)(hlen:∀ m,(a m).cells.length=sz)
  (each:∀ (n:Nat) (cs:List Value) (x:DataW H×List MemPlace),cs.length=sz->DataW.trod enc Tryz.prog W 0 (fun _=>true) true n e cs=some x->∃ m:α,CellsOf W a m cs)
  (hv:Value.okWide Tryz.prog W .any base t v) (h:DataW.Trod enc Tryz.prog W 0 (fun _=>true) true t v d p):∃ l:List α,Rep W (fun _=>True) G0 (.sl sz (l.map a)) v:=by
 obtain ⟨A,len,cap,rfl⟩:=okWide_slice ht hv
 obtain ⟨fuel,hf⟩:=h
 exact sl_open ht hsz h0 i0 hlen each hf
theorem agg_of {α:Type}{a:α->AV}{m:α}{cs:Array Value}{xs:List AV}(hm:a m=.agg xs)(h:CellsOf W a m cs.toList):Rep W (fun _=>True) G0 (a m) (.agg cs):=by
 obtain ⟨h1,h2⟩:=h
 rw [hm] at h1 h2 ⊢
 have hl:cs.size=xs.length:=by simpa [AV.cells] using h1
 have g:∀ i,cs.toList.getD i undef=cs.getD i undef:=fun i=>by
  by_cases hi:i<cs.size
  ·simp [Array.getD,hi]
  ·simp [Array.getD,hi]
 refine .agg _ hl (fun i hi=>?_) (fun i hi=>?_)
 ·have:=(h2 i hi).1
  rw [g] at this
  exact this
 ·have:=(h2 i (show i<xs.length by rw [<-hl];exact hi)).2
  rw [g] at this
  exact this
end
end Go.Proofs.YtjpknpjjcddnnaaGreat
namespace Go.Proofs.YtjpknpjjcddnnaaGreat
open Go.ChangeShapes Go.WideShapes Go.ChangeAt Go.RowKit Go.Joins Go.Deep
section
variable {H:Type} {enc:TypeId×Value->H} {W:World} {base:Nat} {v:Value} {d:DataW H} {p:List MemPlace}
set_option maxRecDepth 100000
def zak (W:World)(xs:List AV)(cs:List Value):Prop :=
 cs.length=xs.length/\∀ j (hj:j<xs.length),Rep W (fun _=>True) G0 (xs[j]) (cs.getD j undef)/\(cs.getD j undef).oneCell'=true
theorem zak.one {a:AV}{c:Value}(h:Rep W (fun _=>True) G0 a c)(h1:c.oneCell'=true):zak W [a] [c]:=by
 refine ⟨rfl,fun j hj=>?_⟩
 have hj':j<1:=hj
 rcases j with _|j
 ·exact ⟨h,h1⟩
 ·omega
theorem zak.append {xs ys:List AV}{cs ds:List Value}(h1:zak W xs cs)(h2:zak W ys ds):zak W (xs++ys) (cs++ds):=by
 refine ⟨by rw [List.length_append,List.length_append,h1.1,h2.1],fun j hj=>?_⟩
 by_cases h:j<xs.length
 ·have:=h1.2 j h
  rw [List.getElem_append_left h]
  have e:(cs++ds).getD j undef=cs.getD j undef:=by
   simp only [List.getD_eq_getElem?_getD]
   rw [List.getElem?_append_left (by rw [h1.1];exact h)]
  rw [e];exact this
 ·have hj':j-xs.length<ys.length:=by rw [List.length_append] at hj;omega
  have:=h2.2 (j-xs.length) hj'
  rw [List.getElem_append_right (by omega)]
  have e:(cs++ds).getD j undef=ds.getD (j-xs.length) undef:=by
   simp only [List.getD_eq_getElem?_getD]
   rw [List.getElem?_append_right (by rw [h1.1];omega),h1.1]
  rw [e];exact this
theorem zak.cut {cs:List Value}{o s:Nat}{xs ys:List AV}(h1:zak W xs ((cs.drop o).take s))(h2:zak W ys (cs.drop (o+s))):zak W (xs++ys) (cs.drop o):=by
 have:cs.drop o=(cs.drop o).take s++cs.drop (o+s):=by rw [<-List.drop_drop,List.take_append_drop]
 rw [this]
 exact h1.append h2
theorem zak.done {cs:List Value}{o:Nat}(h:cs.length<=o):zak W [] (cs.drop o):=by
 rw [List.drop_eq_nil_of_le h]
 exact ⟨rfl,fun j hj=>absurd hj (by simp)⟩
theorem z6j {cs:List Value}{o s:Nat}(h:o+s<=cs.length):((cs.drop o).take s).length=s:=by rw [List.length_take,List.length_drop];omega
abbrev FO (enc:TypeId×Value->H)(W:World)(t:TypeId)(sz:Nat){α:Type}(e:α->List AV):Prop :=
 ∀ (n:Nat) (cs:List Value) (x:DataW H×List MemPlace),cs.length=sz->DataW.trod enc Tryz.prog W 0 (fun _=>true) true n t cs=some x->∃ m:α,zak W (e m) cs
theorem zf9 {t:TypeId}(ht:Tryz.prog.underlying t=some (.int .i64)):FO enc W t 1 (fun z:Int=>[aI z]):=fun n cs x hl h=>by
 obtain ⟨z,rfl,_⟩:=DataW.trod_int (k:=.i64) ht h
 exact ⟨z,.one (.int _ _) rfl⟩
theorem fo_str {t:TypeId}(ht:Tryz.prog.underlying t=some .string):FO enc W t 1 (fun z:ByteArray=>[AV.str z]):=fun n cs x hl h=>by
 obtain ⟨z,rfl,_⟩:=DataW.trod_string ht h
 exact ⟨z,.one (.str _) rfl⟩
theorem fo_sl {t e:TypeId}{sz:Nat}{α:Type}{a:α->AV}(ht:Tryz.prog.underlying t=some (.slice e))(hsz:Tryz.prog.cellsOf e=sz)(h0:0<sz)(i0:Inhabited α)(hlen:∀ m,(a m).cells.length=sz)
  (each:FO enc W e sz (fun m:α=>(a m).cells)):FO enc W t 1 (fun l:List α=>[AV.sl sz (l.map a)]):=fun n cs x hl h=>by
 match cs,hl with
 |[c],_ =>
  obtain ⟨l,hl⟩:=sl_open (a:=a) ht hsz h0 i0 hlen each h
  exact ⟨l,.one hl hl.one_sl⟩
theorem fo_aI {t:TypeId}(ht:Tryz.prog.underlying t=some (.int .i64)):FO enc W t 1 (fun z:Int=>(aI z).cells):=zf9 ht
theorem arg_slice {α:Type}{a:α->AV}{t e:TypeId}{sz:Nat}(ht:Tryz.prog.underlying t=some (.slice e))(hsz:Tryz.prog.cellsOf e=sz)(h0:0<sz)(i0:Inhabited α)(hlen:∀ m,(a m).cells.length=sz)
  (each:FO enc W e sz (fun m:α=>(a m).cells)) (hv:Value.okWide Tryz.prog W .any base t v) (h:DataW.Trod enc Tryz.prog W 0 (fun _=>true) true t v d p):∃ l:List α,Rep W (fun _=>True) G0 (.sl sz (l.map a)) v :=
 slArg_open ht hsz h0 i0 hlen each hv h
end
end Go.Proofs.YtjpknpjjcddnnaaGreat
namespace Go.Proofs.YtjpknpjjcddnnaaGreat
open Go.ChangeShapes Go.WideShapes Go.ChangeAt Go.RowKit Go.Joins Go.Deep
theorem bk_pos {H:Type}(d:DataW H):1<=Rows.uptoBulk d:=by
 cases d with
 |lit l=>cases l<;>simp [Rows.uptoBulk]
 |nil=>simp [Rows.uptoBulk]
 |ptr d=>simp [Rows.uptoBulk]
 |slice elems spare=>simp [Rows.uptoBulk]
 |agg parts=>simp [Rows.uptoBulk]
 |iface t d=>simp [Rows.uptoBulk]
 |map entries=>simp [Rows.uptoBulk]
 |held h=>simp [Rows.uptoBulk]
theorem bk_mem {H:Type}{d:DataW H}{l:List (DataW H)}(h:d∈l):Rows.uptoBulk d<=Rows.uptoBulkAll l:=by
 induction l with
 |nil=>cases h
 |cons x r ih =>
  simp only [Rows.uptoBulkAll]
  rcases List.mem_cons.1 h with e|e
  ·subst e;omega
  ·have:=ih e;omega
def SlQ {α:Type}(Q:Nat->α->Prop)(b:Nat)(l:List α):Prop:=∃ ps:List (Nat×α),ps.map (·.2)=l/\(∀ p∈ps,1<=p.1/\Q p.1 p.2)/\(ps.map (·.1)).sum<b
theorem SlQ.len {α:Type}{Q:Nat->α->Prop}{b:Nat}{l:List α}(h:SlQ Q b l):l.length<b:=by
 obtain ⟨ps,rfl,h2,h3⟩:=h
 rw [List.length_map]
 refine Nat.lt_of_le_of_lt ?_ h3
 clear h3
 induction ps with
 |nil=>simp
 |cons p ps ih =>
  have:=(h2 p (by simp)).1
  have:=ih (fun q hq=>h2 q (List.mem_cons_of_mem _ hq))
  simp only [List.map_cons,List.sum_cons,List.length_cons];omega
theorem SlQ.mem {α:Type}{Q:Nat->α->Prop}{b:Nat}{l:List α}(h:SlQ Q b l):∀ m∈l,∃ b',b' < b/\Q b' m:=fun m hm=>by
 obtain ⟨ps,rfl,h2,h3⟩:=h
 obtain ⟨p,hp,rfl⟩:=List.mem_map.1 hm
 refine ⟨p.1,?_,(h2 p hp).2⟩
 have:p.1<=(ps.map (·.1)).sum:=by
  clear h2 h3 hm
  induction ps with
  |nil=>cases hp
  |cons x ps ih =>
   simp only [List.map_cons,List.sum_cons]
   rcases List.mem_cons.1 hp with e|e
   ·subst e;omega
   ·have:=ih e;omega
 omega
section
variable {H:Type} {enc:TypeId×Value->H} {W:World} {base:Nat} {v:Value} {d:DataW H} {p:List MemPlace}
set_option maxRecDepth 100000
theorem sl_openQ {α:Type}{a:α->AV}{t e:TypeId}{sz:Nat}(ht:Tryz.prog.underlying t=some (.slice e))(hsz:Tryz.prog.cellsOf e=sz)(h0:0<sz)(i0:Inhabited α)(hlen:∀ m,(a m).cells.length=sz)
  {Q:Nat->α->Prop} {n:Nat} {u:Value} {x:DataW H×List MemPlace} (each:∀ (n:Nat) (cs:List Value) (y:DataW H×List MemPlace),Rows.uptoBulk y.1<Rows.uptoBulk x.1->cs.length=sz->DataW.trod enc Tryz.prog W 0 (fun _=>true) true n e cs=some y->∃ m:α,CellsOf W a m cs/\Q (Rows.uptoBulk y.1) m)
  (h:DataW.trod enc Tryz.prog W 0 (fun _=>true) true n t [u]=some x):∃ l:List α,Rep W (fun _=>True) G0 (.sl sz (l.map a)) u/\SlQ Q (Rows.uptoBulk x.1) l:=by
 rcases open_slice ht h with ⟨h1,hx⟩|⟨A,len,cap,m,n',D,Pl,h1,_,hlc,hm,hmm,hx,hc⟩
 ·simp only [List.cons.injEq,and_true] at h1
  subst h1
  exact ⟨[],.sl none 0 (fun _ _=>.bool true) (by simp) (fun k hk=>absurd hk (by simp)) (fun h=>absurd h (by simp)) (fun k hk=>absurd hk (by simp)) (fun _ _=>rfl),[],rfl,by simp,by rw [hx];simp [Rows.uptoBulk]⟩
 ·simp only [List.cons.injEq,and_true] at h1
  subst h1
  simp only [if_true] at hmm
  subst hmm
  rw [hsz] at hc
  have hbx:Rows.uptoBulkAll ((List.range len).map D)<Rows.uptoBulk x.1:=by
   rw [hx]
   simp only [Rows.uptoBulk]
   omega
  have every:∀ i,∃ q:α×List Value,i<len->W.cells? 0 (A.add (i*sz)) sz=some q.2/\CellsOf W a q.1 q.2/\Q (Rows.uptoBulk (D i)) q.1:=fun i=>by
   by_cases hi:i<len
   ·obtain ⟨cs,c1,c2⟩:=hc i (by omega)
    have hlt:Rows.uptoBulk (D i)<Rows.uptoBulk x.1:=by
     have:=bk_mem (l:=(List.range len).map D) (List.mem_map.2 ⟨i,List.mem_range.2 hi,rfl⟩)
     omega
    obtain ⟨k,hk,hq⟩:=each n' cs _ hlt (zyy c1).1 c2
    exact ⟨(k,cs),fun _=>⟨c1,hk,hq⟩⟩
   ·exact ⟨(i0.default,[]),fun h=>absurd h hi⟩
  obtain ⟨f,hf⟩:=Classical.axiomOfChoice every
  have hl:((List.range len).map fun i=>(f i).1).length=len:=by simp
  refine ⟨(List.range len).map fun i=>(f i).1,?_,(List.range len).map (fun i=>(Rows.uptoBulk (D i),(f i).1)),by simp,?_,?_⟩
  rotate_left
  ·intro p hp
   obtain ⟨i,hi,rfl⟩:=List.mem_map.1 hp
   exact ⟨bk_pos _,(hf i (List.mem_range.1 hi)).2.2⟩
  ·rw [List.map_map]
   have:∀ l:List Nat,(l.map ((fun p:Nat×α=>p.1) ∘ fun i=>(Rows.uptoBulk (D i),(f i).1))).sum=Rows.uptoBulkAll (l.map D):=fun l=>by
    induction l with
    |nil=>simp [Rows.uptoBulkAll]
    |cons i l ih=>simp only [List.map_cons,List.sum_cons,ih,Rows.uptoBulkAll,Function.comp]
   rw [this]
   exact hbx
  have e:len=(((List.range len).map fun i=>(f i).1).map a).length:=by simp
  have hcell:∀ k j,k<len->j<sz->W.cell? ((A.add (k*sz)).add j)=some ((f k).2.getD j undef):=fun k j hk hj=>(zyy (hf k hk).1).2 j hj
  have:Rep W (fun _=>True) G0 (.sl sz (((List.range len).map fun i=>(f i).1).map a)) (.slice (some A) (((List.range len).map fun i=>(f i).1).map a).length m):=by
   refine .sl (some A) m (fun k j=>if k<len/\j<sz then (f k).2.getD j undef else .bool true) (by simpa using hlc) (fun k hk=>?_) (fun h0'=>?_) (fun k hk j hj=>?_) (fun k j=>?_)
   ·simp only [List.getElem_map];exact hlen _
   ·have hlp:0<len:=by simpa using h0'
    have c0:=spot_none (hcell 0 0 hlp h0)
    obtain ⟨b,off,sp⟩:=A
    have e1:sp=none:=by simpa [Addr.add] using c0.1
    subst e1
    rw [add_eq,add_eq] at c0
    refine ⟨b,off,rfl,trivial,c0.2,fun k j hk hj=>?_⟩
    have hk':k<len:=by simpa using hk
    have:=hcell k j hk' hj
    rw [add_eq,add_eq] at this
    rw [if_pos ⟨hk',hj⟩,<-this]
    congr 2
    omega
   ·have hk':k<len:=by simpa using hk
    simp only [List.getElem_map,List.getElem_range] at hj ⊢
    have hj':j<sz:=by rw [hlen] at hj;exact hj
    rw [if_pos ⟨hk',hj'⟩]
    exact ((hf k hk').2.1.2 j hj).1
   ·by_cases hkj:k<len/\j<sz
    ·rw [if_pos hkj]
     exact ((hf k hkj.1).2.1.2 j (by rw [hlen];exact hkj.2)).2
    ·rw [if_neg hkj];rfl
  rw [<-e] at this
  exact this
abbrev FQ (enc:TypeId×Value->H)(W:World)(t:TypeId)(sz:Nat){α:Type}(e:α->List AV)(Q:Nat->α->Prop)(B:Nat):Prop :=
 ∀ (n:Nat) (cs:List Value) (x:DataW H×List MemPlace),Rows.uptoBulk x.1<B->cs.length=sz->DataW.trod enc Tryz.prog W 0 (fun _=>true) true n t cs=some x->∃ m:α,zak W (e m) cs/\Q (Rows.uptoBulk x.1) m
theorem zv4 {t:TypeId}{sz B:Nat}{α:Type}{e:α->List AV}(h:FO enc W t sz e):FQ enc W t sz e (fun _ _=>True) B:=fun n cs x _ hl ht=>by
 obtain ⟨m,hm⟩:=h n cs x hl ht
 exact ⟨m,hm,trivial⟩
theorem fq_sl {t e:TypeId}{sz B:Nat}{α:Type}{a:α->AV}{Q:Nat->α->Prop}(ht:Tryz.prog.underlying t=some (.slice e))(hsz:Tryz.prog.cellsOf e=sz)(h0:0<sz)(i0:Inhabited α)(hlen:∀ m,(a m).cells.length=sz)
  (each:FQ enc W e sz (fun m:α=>(a m).cells) Q B):FQ enc W t 1 (fun l:List α=>[AV.sl sz (l.map a)]) (SlQ Q) B:=fun n cs x hb hl h=>by
 match cs,hl with
 |[c],_ =>
  obtain ⟨l,hl,hq⟩:=sl_openQ (a:=a) ht hsz h0 i0 hlen (fun n cs y hy hl h=>each n cs y (by omega) hl h) h
  exact ⟨l,.one hl hl.one_sl,hq⟩
theorem arg_structQ {t:TypeId}{fs:Array Field}{sz:Nat}{α:Type}{a:α->AV}{Q:Nat->α->Prop}(ht:Tryz.prog.underlying t=some (.struct fs))(hsz:Tryz.prog.cellsOf t=sz)(ha:∀ m,∃ xs,a m=.agg xs)(each:∀ B,FQ enc W t sz (fun m:α=>(a m).cells) Q B)
  (hv:Value.okWide Tryz.prog W .any base t v) (h:DataW.Trod enc Tryz.prog W 0 (fun _=>true) true t v d p):∃ m:α,Rep W (fun _=>True) G0 (a m) v/\Q (Rows.uptoBulk d) m:=by
 obtain ⟨cs,rfl,hz⟩:=okWide_struct ht hv
 obtain ⟨fuel,hf⟩:=h
 obtain ⟨m,hm,hq⟩:=each (Rows.uptoBulk d+1) fuel cs.toList _ (by show Rows.uptoBulk d<Rows.uptoBulk d+1;omega) (by simpa using hz.trans hsz) hf
 obtain ⟨xs,hx⟩:=ha m
 exact ⟨m,agg_of hx hm,hq⟩
def QE (b:Nat)(m:Exn):Prop:=∃ z,z<=b/\ETr z m
def QG (b:Nat)(g:Gd):Prop:=∃ b',b' < b/\QE b' g.fCond
def QS (b:Nat)(s:Stt):Prop:=∃ b',b' < b/\SlQ QG b' s.fGuards
abbrev QT {α:Type}(_:Nat)(_:α):Prop:=True
def QX (b:Nat)(x:Ed):Prop:=(∃ b',b' < b/\QE b' x.fCond)/\(∃ b',b' < b/\SlQ QT b' x.fOpens)/\(∃ b',b' < b/\SlQ QT b' x.fCloses)/\(∃ b',b' < b/\∃ l:List Exn,x.fChecks=l.map z1u/\SlQ QE b' l)/\(∃ b',b' < b/\SlQ QT b' x.fLimits)/\(∃ b',b' < b/\SlQ QT b' x.fInside)
def QA (b:Nat)(a:Aut):Prop:=(∃ b',b' < b/\SlQ QS b' a.fStates)/\(∃ b',b' < b/\SlQ QX b' a.fEdges)
theorem etr_of {b:Nat}{l:List Exn}(h:SlQ QE b l):∃ qs:List (Nat×Exn),qs.map (·.2)=l/\(∀ q∈qs,ETr q.1 q.2)/\(qs.map (·.1)).sum<b:=by
 obtain ⟨ps,rfl,h2,h3⟩:=h
 have:∃ qs:List (Nat×Exn),qs.map (·.2)=ps.map (·.2)/\(∀ q∈qs,ETr q.1 q.2)/\(qs.map (·.1)).sum<=(ps.map (·.1)).sum:=by
  clear h3
  induction ps with
  |nil=>exact ⟨[],rfl,by simp,by simp⟩
  |cons p ps ih =>
   obtain ⟨qs,q1,q2,q3⟩:=ih (fun q hq=>h2 q (List.mem_cons_of_mem _ hq))
   obtain ⟨z,hz,ht⟩:=(h2 p (by simp)).2
   refine ⟨(z,p.2)::qs,by simp [q1],fun q hq=>?_,by simp only [List.map_cons,List.sum_cons];omega⟩
   rcases List.mem_cons.1 hq with e|e
   ·rw [e];exact ht
   ·exact q2 q e
 obtain ⟨qs,q1,q2,q3⟩:=this
 exact ⟨qs,q1,q2,by omega⟩
theorem wfE_of {b:Nat}{e:Exn}(h:QE b e)(hb:b<=1048576):WfE e:=by
 obtain ⟨z,hz,ht⟩:=h
 exact ⟨z,by omega,ht⟩
theorem wfA_of {b:Nat}{a:Aut}(h:QA b a)(hb:b<=1048576):WfA a:=by
 obtain ⟨⟨b1,h1,s1⟩,⟨b2,h2,s2⟩⟩:=h
 refine ⟨by have:=s1.len;omega,by have:=s2.len;omega,fun s hs=>?_,fun x hx=>?_⟩
 ·obtain ⟨b3,h3,b4,h4,s4⟩:=s1.mem s hs
  refine ⟨by have:=s4.len;omega,fun g hg=>?_⟩
  obtain ⟨b5,h5,b6,h6,q6⟩:=s4.mem g hg
  exact wfE_of q6 (by omega)
 ·obtain ⟨b3,h3,⟨c1,d1,q1⟩,⟨c2,d2,q2⟩,⟨c3,d3,q3⟩,⟨c4,d4,l,hl,q4⟩,⟨c5,d5,q5⟩,⟨c6,d6,q6⟩⟩:=s2.mem x hx
  refine ⟨wfE_of q1 (by omega),⟨l,hl,fun y hy=>?_⟩,?_,?_,?_,?_,?_⟩
  ·obtain ⟨b7,h7,q7⟩:=q4.mem y hy
   exact wfE_of q7 (by omega)
  ·rw [hl,List.length_map];have:=q4.len;omega
  ·have:=q2.len;omega
  ·have:=q3.len;omega
  ·have:=q6.len;omega
  ·have:=q5.len;omega
theorem fo_Value:FO enc W 45 3 (fun m:z03=>(z0a m).cells):=fun n cs x hl h=>by
 obtain ⟨xs,n',_,hx,_,hlen,hf⟩:=DataW.trod_struct Tryz.underlying45 h
 match xs,hlen with
 |[y0,y1,y2],_ =>
  have c0:Tryz.prog.cellsOf 3=1:=by kernel_rfl
  have g0:DataW.trod enc Tryz.prog W 0 (fun _=>true) true n' 3 ((cs.drop 0).take (Tryz.prog.cellsOf 3))=some y0:=hf 0 _ rfl
  rw [c0] at g0
  obtain ⟨m0,h0⟩:=(zf9 Tryz.underlying3) n' _ _ (z6j (by omega)) g0
  have c1:Tryz.prog.cellsOf 3=1:=by kernel_rfl
  have g1:DataW.trod enc Tryz.prog W 0 (fun _=>true) true n' 3 ((cs.drop 1).take (Tryz.prog.cellsOf 3))=some y1:=hf 1 _ rfl
  rw [c1] at g1
  obtain ⟨m1,h1⟩:=(zf9 Tryz.underlying3) n' _ _ (z6j (by omega)) g1
  have c2:Tryz.prog.cellsOf 9=1:=by kernel_rfl
  have g2:DataW.trod enc Tryz.prog W 0 (fun _=>true) true n' 9 ((cs.drop 2).take (Tryz.prog.cellsOf 9))=some y2:=hf 2 _ rfl
  rw [c2] at g2
  obtain ⟨m2,h2⟩:=(fo_str Tryz.underlying9) n' _ _ (z6j (by omega)) g2
  have r:=(show zak W _ (cs.drop 0) from (.cut h0 (.cut h1 (.cut h2 (zak.done (by omega))))))
  exact ⟨⟨m0,m1,m2⟩,r⟩
theorem fq_Expr:∀ B,FQ enc W 47 8 (fun m:Exn=>(z1u m).cells) QE B
 |0=>fun n cs x hb hl h=>absurd hb (Nat.not_lt_zero _)
 |B+1=>fun n cs x hb hl h=>by
  obtain ⟨xs,n',_,hx,_,hlen,hf⟩:=DataW.trod_struct Tryz.underlying47 h
  match xs,hlen with
  |[y0,y1,y2,y3,y4,y5],_ =>
   have hk:Rows.uptoBulk x.1=Rows.uptoBulk y0.1+Rows.uptoBulk y1.1+Rows.uptoBulk y2.1+Rows.uptoBulk y3.1+Rows.uptoBulk y4.1+Rows.uptoBulk y5.1+1:=by rw [hx];simp only [Rows.uptoBulk,Rows.uptoBulkAll,List.map_cons,List.map_nil]<;>omega
   have c0:Tryz.prog.cellsOf 3=1:=by kernel_rfl
   have g0:DataW.trod enc Tryz.prog W 0 (fun _=>true) true n' 3 ((cs.drop 0).take (Tryz.prog.cellsOf 3))=some y0:=hf 0 _ rfl
   rw [c0] at g0
   obtain ⟨m0,h0,q0⟩:=(zv4 (zf9 Tryz.underlying3)) n' _ _ (show Rows.uptoBulk y0.1<B by omega) (z6j (by omega)) g0
   have c1:Tryz.prog.cellsOf 43=1:=by kernel_rfl
   have g1:DataW.trod enc Tryz.prog W 0 (fun _=>true) true n' 43 ((cs.drop 1).take (Tryz.prog.cellsOf 43))=some y1:=hf 1 _ rfl
   rw [c1] at g1
   obtain ⟨m1,h1,q1⟩:=(fq_sl (sz:=8) (a:=z1u) Tryz.underlying43 (by kernel_rfl) (by omega) inferInstance (fun _=>rfl) (fq_Expr B)) n' _ _ (show Rows.uptoBulk y1.1<B by omega) (z6j (by omega)) g1
   have c2:Tryz.prog.cellsOf 3=1:=by kernel_rfl
   have g2:DataW.trod enc Tryz.prog W 0 (fun _=>true) true n' 3 ((cs.drop 2).take (Tryz.prog.cellsOf 3))=some y2:=hf 2 _ rfl
   rw [c2] at g2
   obtain ⟨m2,h2,q2⟩:=(zv4 (zf9 Tryz.underlying3)) n' _ _ (show Rows.uptoBulk y2.1<B by omega) (z6j (by omega)) g2
   have c3:Tryz.prog.cellsOf 3=1:=by kernel_rfl
   have g3:DataW.trod enc Tryz.prog W 0 (fun _=>true) true n' 3 ((cs.drop 3).take (Tryz.prog.cellsOf 3))=some y3:=hf 3 _ rfl
   rw [c3] at g3
   obtain ⟨m3,h3,q3⟩:=(zv4 (zf9 Tryz.underlying3)) n' _ _ (show Rows.uptoBulk y3.1<B by omega) (z6j (by omega)) g3
   have c4:Tryz.prog.cellsOf 3=1:=by kernel_rfl
   have g4:DataW.trod enc Tryz.prog W 0 (fun _=>true) true n' 3 ((cs.drop 4).take (Tryz.prog.cellsOf 3))=some y4:=hf 4 _ rfl
   rw [c4] at g4
   obtain ⟨m4,h4,q4⟩:=(zv4 (zf9 Tryz.underlying3)) n' _ _ (show Rows.uptoBulk y4.1<B by omega) (z6j (by omega)) g4
   have c5:Tryz.prog.cellsOf 45=3:=by kernel_rfl
   have g5:DataW.trod enc Tryz.prog W 0 (fun _=>true) true n' 45 ((cs.drop 5).take (Tryz.prog.cellsOf 45))=some y5:=hf 5 _ rfl
   rw [c5] at g5
   obtain ⟨m5,h5,q5⟩:=(zv4 fo_Value) n' _ _ (show Rows.uptoBulk y5.1<B by omega) (z6j (by omega)) g5
   have h1:zak W [AV.sl 8 (List.map idA (List.map z1u m1))] ((cs.drop 1).take 1):=by rw [map_idA];exact h1
   have r:=(show zak W _ (cs.drop 0) from (.cut h0 (.cut h1 (.cut h2 (.cut h3 (.cut h4 (.cut h5 (zak.done (by omega)))))))))
   obtain ⟨qs,r1,r2,r3⟩:=etr_of q1
   refine ⟨⟨m0,m1.map z1u,m2,m3,m4,m5⟩,r,1+(qs.map (·.1)).sum,by omega,.mk qs _ r2 ?_⟩
   show m1.map z1u=_
   rw [<-r1,List.map_map]
   rfl
theorem fq_Guard (B:Nat):FQ enc W 59 11 (fun m:Gd=>(z0t m).cells) QG B:=fun n cs x hb hl h=>by
 obtain ⟨xs,n',_,hx,_,hlen,hf⟩:=DataW.trod_struct Tryz.underlying59 h
 match xs,hlen with
 |[y0,y1,y2,y3],_ =>
  have hk:Rows.uptoBulk x.1=Rows.uptoBulk y0.1+Rows.uptoBulk y1.1+Rows.uptoBulk y2.1+Rows.uptoBulk y3.1+1:=by rw [hx];simp only [Rows.uptoBulk,Rows.uptoBulkAll,List.map_cons,List.map_nil]<;>omega
  have c0:Tryz.prog.cellsOf 3=1:=by kernel_rfl
  have g0:DataW.trod enc Tryz.prog W 0 (fun _=>true) true n' 3 ((cs.drop 0).take (Tryz.prog.cellsOf 3))=some y0:=hf 0 _ rfl
  rw [c0] at g0
  obtain ⟨m0,h0,q0⟩:=(zv4 (zf9 Tryz.underlying3)) n' _ _ (show Rows.uptoBulk y0.1<B by omega) (z6j (by omega)) g0
  have c1:Tryz.prog.cellsOf 3=1:=by kernel_rfl
  have g1:DataW.trod enc Tryz.prog W 0 (fun _=>true) true n' 3 ((cs.drop 1).take (Tryz.prog.cellsOf 3))=some y1:=hf 1 _ rfl
  rw [c1] at g1
  obtain ⟨m1,h1,q1⟩:=(zv4 (zf9 Tryz.underlying3)) n' _ _ (show Rows.uptoBulk y1.1<B by omega) (z6j (by omega)) g1
  have c2:Tryz.prog.cellsOf 3=1:=by kernel_rfl
  have g2:DataW.trod enc Tryz.prog W 0 (fun _=>true) true n' 3 ((cs.drop 2).take (Tryz.prog.cellsOf 3))=some y2:=hf 2 _ rfl
  rw [c2] at g2
  obtain ⟨m2,h2,q2⟩:=(zv4 (zf9 Tryz.underlying3)) n' _ _ (show Rows.uptoBulk y2.1<B by omega) (z6j (by omega)) g2
  have c3:Tryz.prog.cellsOf 47=8:=by kernel_rfl
  have g3:DataW.trod enc Tryz.prog W 0 (fun _=>true) true n' 47 ((cs.drop 3).take (Tryz.prog.cellsOf 47))=some y3:=hf 3 _ rfl
  rw [c3] at g3
  obtain ⟨m3,h3,q3⟩:=(fq_Expr B) n' _ _ (show Rows.uptoBulk y3.1<B by omega) (z6j (by omega)) g3
  have r:=(show zak W _ (cs.drop 0) from (.cut h0 (.cut h1 (.cut h2 (.cut h3 (zak.done (by omega)))))))
  exact ⟨⟨m0,m1,m2,m3⟩,r,_,(show Rows.uptoBulk y3.1<_ by omega),q3⟩
theorem fq_State (B:Nat):FQ enc W 56 1 (fun m:Stt=>(z0d m).cells) QS B:=fun n cs x hb hl h=>by
 obtain ⟨xs,n',_,hx,_,hlen,hf⟩:=DataW.trod_struct Tryz.underlying56 h
 match xs,hlen with
 |[y0],_ =>
  have hk:Rows.uptoBulk x.1=Rows.uptoBulk y0.1+1:=by rw [hx];simp only [Rows.uptoBulk,Rows.uptoBulkAll,List.map_cons,List.map_nil]<;>omega
  have c0:Tryz.prog.cellsOf 54=1:=by kernel_rfl
  have g0:DataW.trod enc Tryz.prog W 0 (fun _=>true) true n' 54 ((cs.drop 0).take (Tryz.prog.cellsOf 54))=some y0:=hf 0 _ rfl
  rw [c0] at g0
  obtain ⟨m0,h0,q0⟩:=(fq_sl (sz:=11) (a:=z0t) Tryz.underlying54 (by kernel_rfl) (by omega) inferInstance (fun _=>rfl) (fq_Guard B)) n' _ _ (show Rows.uptoBulk y0.1<B by omega) (z6j (by omega)) g0
  have r:=(show zak W _ (cs.drop 0) from (.cut h0 (zak.done (by omega))))
  exact ⟨⟨m0⟩,r,_,(show Rows.uptoBulk y0.1<_ by omega),q0⟩
theorem fo_Limit:FO enc W 92 2 (fun m:z0z=>(z0r m).cells):=fun n cs x hl h=>by
 obtain ⟨xs,n',_,hx,_,hlen,hf⟩:=DataW.trod_struct Tryz.underlying92 h
 match xs,hlen with
 |[y0,y1],_ =>
  have c0:Tryz.prog.cellsOf 3=1:=by kernel_rfl
  have g0:DataW.trod enc Tryz.prog W 0 (fun _=>true) true n' 3 ((cs.drop 0).take (Tryz.prog.cellsOf 3))=some y0:=hf 0 _ rfl
  rw [c0] at g0
  obtain ⟨m0,h0⟩:=(zf9 Tryz.underlying3) n' _ _ (z6j (by omega)) g0
  have c1:Tryz.prog.cellsOf 3=1:=by kernel_rfl
  have g1:DataW.trod enc Tryz.prog W 0 (fun _=>true) true n' 3 ((cs.drop 1).take (Tryz.prog.cellsOf 3))=some y1:=hf 1 _ rfl
  rw [c1] at g1
  obtain ⟨m1,h1⟩:=(zf9 Tryz.underlying3) n' _ _ (z6j (by omega)) g1
  have r:=(show zak W _ (cs.drop 0) from (.cut h0 (.cut h1 (zak.done (by omega)))))
  exact ⟨⟨m0,m1⟩,r⟩
theorem fq_Edge (B:Nat):FQ enc W 51 17 (fun m:Ed=>(z0e m).cells) QX B:=fun n cs x hb hl h=>by
 obtain ⟨xs,n',_,hx,_,hlen,hf⟩:=DataW.trod_struct Tryz.underlying51 h
 match xs,hlen with
 |[y0,y1,y2,y3,y4,y5,y6,y7,y8,y9],_ =>
  have hk:Rows.uptoBulk x.1=Rows.uptoBulk y0.1+Rows.uptoBulk y1.1+Rows.uptoBulk y2.1+Rows.uptoBulk y3.1+Rows.uptoBulk y4.1+Rows.uptoBulk y5.1+Rows.uptoBulk y6.1+Rows.uptoBulk y7.1+Rows.uptoBulk y8.1+Rows.uptoBulk y9.1+1:=by rw [hx];simp only [Rows.uptoBulk,Rows.uptoBulkAll,List.map_cons,List.map_nil]<;>omega
  have c0:Tryz.prog.cellsOf 3=1:=by kernel_rfl
  have g0:DataW.trod enc Tryz.prog W 0 (fun _=>true) true n' 3 ((cs.drop 0).take (Tryz.prog.cellsOf 3))=some y0:=hf 0 _ rfl
  rw [c0] at g0
  obtain ⟨m0,h0,q0⟩:=(zv4 (zf9 Tryz.underlying3)) n' _ _ (show Rows.uptoBulk y0.1<B by omega) (z6j (by omega)) g0
  have c1:Tryz.prog.cellsOf 3=1:=by kernel_rfl
  have g1:DataW.trod enc Tryz.prog W 0 (fun _=>true) true n' 3 ((cs.drop 1).take (Tryz.prog.cellsOf 3))=some y1:=hf 1 _ rfl
  rw [c1] at g1
  obtain ⟨m1,h1,q1⟩:=(zv4 (zf9 Tryz.underlying3)) n' _ _ (show Rows.uptoBulk y1.1<B by omega) (z6j (by omega)) g1
  have c2:Tryz.prog.cellsOf 3=1:=by kernel_rfl
  have g2:DataW.trod enc Tryz.prog W 0 (fun _=>true) true n' 3 ((cs.drop 2).take (Tryz.prog.cellsOf 3))=some y2:=hf 2 _ rfl
  rw [c2] at g2
  obtain ⟨m2,h2,q2⟩:=(zv4 (zf9 Tryz.underlying3)) n' _ _ (show Rows.uptoBulk y2.1<B by omega) (z6j (by omega)) g2
  have c3:Tryz.prog.cellsOf 3=1:=by kernel_rfl
  have g3:DataW.trod enc Tryz.prog W 0 (fun _=>true) true n' 3 ((cs.drop 3).take (Tryz.prog.cellsOf 3))=some y3:=hf 3 _ rfl
  rw [c3] at g3
  obtain ⟨m3,h3,q3⟩:=(zv4 (zf9 Tryz.underlying3)) n' _ _ (show Rows.uptoBulk y3.1<B by omega) (z6j (by omega)) g3
  have c4:Tryz.prog.cellsOf 47=8:=by kernel_rfl
  have g4:DataW.trod enc Tryz.prog W 0 (fun _=>true) true n' 47 ((cs.drop 4).take (Tryz.prog.cellsOf 47))=some y4:=hf 4 _ rfl
  rw [c4] at g4
  obtain ⟨m4,h4,q4⟩:=(fq_Expr B) n' _ _ (show Rows.uptoBulk y4.1<B by omega) (z6j (by omega)) g4
  have c5:Tryz.prog.cellsOf 48=1:=by kernel_rfl
  have g5:DataW.trod enc Tryz.prog W 0 (fun _=>true) true n' 48 ((cs.drop 12).take (Tryz.prog.cellsOf 48))=some y5:=hf 5 _ rfl
  rw [c5] at g5
  obtain ⟨m5,h5,q5⟩:=(fq_sl (sz:=1) (a:=aI) Tryz.underlying48 (by kernel_rfl) (by omega) inferInstance (fun _=>rfl) (zv4 (fo_aI Tryz.underlying3))) n' _ _ (show Rows.uptoBulk y5.1<B by omega) (z6j (by omega)) g5
  have c6:Tryz.prog.cellsOf 48=1:=by kernel_rfl
  have g6:DataW.trod enc Tryz.prog W 0 (fun _=>true) true n' 48 ((cs.drop 13).take (Tryz.prog.cellsOf 48))=some y6:=hf 6 _ rfl
  rw [c6] at g6
  obtain ⟨m6,h6,q6⟩:=(fq_sl (sz:=1) (a:=aI) Tryz.underlying48 (by kernel_rfl) (by omega) inferInstance (fun _=>rfl) (zv4 (fo_aI Tryz.underlying3))) n' _ _ (show Rows.uptoBulk y6.1<B by omega) (z6j (by omega)) g6
  have c7:Tryz.prog.cellsOf 43=1:=by kernel_rfl
  have g7:DataW.trod enc Tryz.prog W 0 (fun _=>true) true n' 43 ((cs.drop 14).take (Tryz.prog.cellsOf 43))=some y7:=hf 7 _ rfl
  rw [c7] at g7
  obtain ⟨m7,h7,q7⟩:=(fq_sl (sz:=8) (a:=z1u) Tryz.underlying43 (by kernel_rfl) (by omega) inferInstance (fun _=>rfl) (fq_Expr B)) n' _ _ (show Rows.uptoBulk y7.1<B by omega) (z6j (by omega)) g7
  have c8:Tryz.prog.cellsOf 49=1:=by kernel_rfl
  have g8:DataW.trod enc Tryz.prog W 0 (fun _=>true) true n' 49 ((cs.drop 15).take (Tryz.prog.cellsOf 49))=some y8:=hf 8 _ rfl
  rw [c8] at g8
  obtain ⟨m8,h8,q8⟩:=(fq_sl (sz:=2) (a:=z0r) Tryz.underlying49 (by kernel_rfl) (by omega) inferInstance (fun _=>rfl) (zv4 fo_Limit)) n' _ _ (show Rows.uptoBulk y8.1<B by omega) (z6j (by omega)) g8
  have c9:Tryz.prog.cellsOf 48=1:=by kernel_rfl
  have g9:DataW.trod enc Tryz.prog W 0 (fun _=>true) true n' 48 ((cs.drop 16).take (Tryz.prog.cellsOf 48))=some y9:=hf 9 _ rfl
  rw [c9] at g9
  obtain ⟨m9,h9,q9⟩:=(fq_sl (sz:=1) (a:=aI) Tryz.underlying48 (by kernel_rfl) (by omega) inferInstance (fun _=>rfl) (zv4 (fo_aI Tryz.underlying3))) n' _ _ (show Rows.uptoBulk y9.1<B by omega) (z6j (by omega)) g9
  have h7:zak W [AV.sl 8 (List.map idA (List.map z1u m7))] ((cs.drop 14).take 1):=by rw [map_idA];exact h7
  have r:=(show zak W _ (cs.drop 0) from (.cut h0 (.cut h1 (.cut h2 (.cut h3 (.cut h4 (.cut h5 (.cut h6 (.cut h7 (.cut h8 (.cut h9 (zak.done (by omega)))))))))))))
  exact ⟨⟨m0,m1,m2,m3,m4,m5,m6,m7.map z1u,m8,m9⟩,r,⟨_,(show Rows.uptoBulk y4.1<_ by omega),q4⟩,⟨_,(show Rows.uptoBulk y5.1<_ by omega),q5⟩,⟨_,(show Rows.uptoBulk y6.1<_ by omega),q6⟩,⟨_,(show Rows.uptoBulk y7.1<_ by omega),m7,rfl,q7⟩,⟨_,(show Rows.uptoBulk y8.1<_ by omega),q8⟩,⟨_,(show Rows.uptoBulk y9.1<_ by omega),q9⟩⟩
theorem fq_Aut (B:Nat):FQ enc W 25 4 (fun m:Aut=>(zgc m).cells) QA B:=fun n cs x hb hl h=>by
 obtain ⟨xs,n',_,hx,_,hlen,hf⟩:=DataW.trod_struct Tryz.underlying25 h
 match xs,hlen with
 |[y0,y1,y2,y3],_ =>
  have hk:Rows.uptoBulk x.1=Rows.uptoBulk y0.1+Rows.uptoBulk y1.1+Rows.uptoBulk y2.1+Rows.uptoBulk y3.1+1:=by rw [hx];simp only [Rows.uptoBulk,Rows.uptoBulkAll,List.map_cons,List.map_nil]<;>omega
  have c0:Tryz.prog.cellsOf 3=1:=by kernel_rfl
  have g0:DataW.trod enc Tryz.prog W 0 (fun _=>true) true n' 3 ((cs.drop 0).take (Tryz.prog.cellsOf 3))=some y0:=hf 0 _ rfl
  rw [c0] at g0
  obtain ⟨m0,h0,q0⟩:=(zv4 (zf9 Tryz.underlying3)) n' _ _ (show Rows.uptoBulk y0.1<B by omega) (z6j (by omega)) g0
  have c1:Tryz.prog.cellsOf 3=1:=by kernel_rfl
  have g1:DataW.trod enc Tryz.prog W 0 (fun _=>true) true n' 3 ((cs.drop 1).take (Tryz.prog.cellsOf 3))=some y1:=hf 1 _ rfl
  rw [c1] at g1
  obtain ⟨m1,h1,q1⟩:=(zv4 (zf9 Tryz.underlying3)) n' _ _ (show Rows.uptoBulk y1.1<B by omega) (z6j (by omega)) g1
  have c2:Tryz.prog.cellsOf 22=1:=by kernel_rfl
  have g2:DataW.trod enc Tryz.prog W 0 (fun _=>true) true n' 22 ((cs.drop 2).take (Tryz.prog.cellsOf 22))=some y2:=hf 2 _ rfl
  rw [c2] at g2
  obtain ⟨m2,h2,q2⟩:=(fq_sl (sz:=1) (a:=z0d) Tryz.underlying22 (by kernel_rfl) (by omega) inferInstance (fun _=>rfl) (fq_State B)) n' _ _ (show Rows.uptoBulk y2.1<B by omega) (z6j (by omega)) g2
  have c3:Tryz.prog.cellsOf 23=1:=by kernel_rfl
  have g3:DataW.trod enc Tryz.prog W 0 (fun _=>true) true n' 23 ((cs.drop 3).take (Tryz.prog.cellsOf 23))=some y3:=hf 3 _ rfl
  rw [c3] at g3
  obtain ⟨m3,h3,q3⟩:=(fq_sl (sz:=17) (a:=z0e) Tryz.underlying23 (by kernel_rfl) (by omega) inferInstance (fun _=>rfl) (fq_Edge B)) n' _ _ (show Rows.uptoBulk y3.1<B by omega) (z6j (by omega)) g3
  have r:=(show zak W _ (cs.drop 0) from (.cut h0 (.cut h1 (.cut h2 (.cut h3 (zak.done (by omega)))))))
  exact ⟨⟨m0,m1,m2,m3⟩,r,⟨_,(show Rows.uptoBulk y2.1<_ by omega),q2⟩,⟨_,(show Rows.uptoBulk y3.1<_ by omega),q3⟩⟩
theorem Aut_arg (hv:Value.okWide Tryz.prog W .any base 25 v)(h:DataW.Trod enc Tryz.prog W 0 (fun _=>true) true 25 v d p)(hb:Rows.uptoBulk d<=1048576):∃ m:Aut,Rep W (fun _=>True) G0 (zgc m) v/\WfA m:=by
 obtain ⟨m,r,q⟩:=arg_structQ (sz:=4) (a:=zgc) Tryz.underlying25 (by kernel_rfl) (fun _=>⟨_,rfl⟩) (fun B=>fq_Aut B) hv h
 exact ⟨m,r,wfA_of q hb⟩
theorem fo_Event:FO enc W 66 5 (fun m:z01=>(z04 m).cells):=fun n cs x hl h=>by
 obtain ⟨xs,n',_,hx,_,hlen,hf⟩:=DataW.trod_struct Tryz.underlying66 h
 match xs,hlen with
 |[y0,y1,y2,y3,y4],_ =>
  have c0:Tryz.prog.cellsOf 3=1:=by kernel_rfl
  have g0:DataW.trod enc Tryz.prog W 0 (fun _=>true) true n' 3 ((cs.drop 0).take (Tryz.prog.cellsOf 3))=some y0:=hf 0 _ rfl
  rw [c0] at g0
  obtain ⟨m0,h0⟩:=(zf9 Tryz.underlying3) n' _ _ (z6j (by omega)) g0
  have c1:Tryz.prog.cellsOf 3=1:=by kernel_rfl
  have g1:DataW.trod enc Tryz.prog W 0 (fun _=>true) true n' 3 ((cs.drop 1).take (Tryz.prog.cellsOf 3))=some y1:=hf 1 _ rfl
  rw [c1] at g1
  obtain ⟨m1,h1⟩:=(zf9 Tryz.underlying3) n' _ _ (z6j (by omega)) g1
  have c2:Tryz.prog.cellsOf 3=1:=by kernel_rfl
  have g2:DataW.trod enc Tryz.prog W 0 (fun _=>true) true n' 3 ((cs.drop 2).take (Tryz.prog.cellsOf 3))=some y2:=hf 2 _ rfl
  rw [c2] at g2
  obtain ⟨m2,h2⟩:=(zf9 Tryz.underlying3) n' _ _ (z6j (by omega)) g2
  have c3:Tryz.prog.cellsOf 3=1:=by kernel_rfl
  have g3:DataW.trod enc Tryz.prog W 0 (fun _=>true) true n' 3 ((cs.drop 3).take (Tryz.prog.cellsOf 3))=some y3:=hf 3 _ rfl
  rw [c3] at g3
  obtain ⟨m3,h3⟩:=(zf9 Tryz.underlying3) n' _ _ (z6j (by omega)) g3
  have c4:Tryz.prog.cellsOf 64=1:=by kernel_rfl
  have g4:DataW.trod enc Tryz.prog W 0 (fun _=>true) true n' 64 ((cs.drop 4).take (Tryz.prog.cellsOf 64))=some y4:=hf 4 _ rfl
  rw [c4] at g4
  obtain ⟨m4,h4⟩:=(fo_sl (sz:=3) (a:=z0a) Tryz.underlying64 (by kernel_rfl) (by omega) inferInstance (fun _=>rfl) fo_Value) n' _ _ (z6j (by omega)) g4
  have r:=(show zak W _ (cs.drop 0) from (.cut h0 (.cut h1 (.cut h2 (.cut h3 (.cut h4 (zak.done (by omega))))))))
  exact ⟨⟨m0,m1,m2,m3,m4⟩,r⟩
theorem Events_arg (hv:Value.okWide Tryz.prog W .any base 26 v)(h:DataW.Trod enc Tryz.prog W 0 (fun _=>true) true 26 v d p):∃ l:List z01,Rep W (fun _=>True) G0 (.sl 5 (l.map z04)) v :=
 arg_slice Tryz.underlying26 (by kernel_rfl) (by omega) inferInstance (fun _=>rfl) fo_Event hv h
end
end Go.Proofs.YtjpknpjjcddnnaaGreat
