/- Arguments opened. -/
import Derived.Test.YtidhlpjgifoneaaGreatK39
import Derived.OpenShut
import Derived.JoinedCond
set_option linter.unusedVariables false
set_option linter.unusedSimpArgs false
namespace Go.Proofs.YtidhlpjgifoneaaGreat
open Go.ChangeShapes Go.WideShapes Go.ChangeAt Go.RowKit Go.Joins Go.Deep List
section
variable {H:Type} {enc:TypeId×Value->H} {W:World} {base:Nat} {v:Value} {d:DataW H} {p:List MemPlace}
variable {u:Value}
theorem zle {a:Addr}(h:W.cell? a=some u):a.spot=none/\a.block<W.heap.size:=by
 unfold World.cell? at h;split at h
 ·rename_i c _ _ g;split at h
  ·cases h
  ·rename_i i;refine ⟨by cases j:a.spot with|none=>rfl|some _=>simp [j] at i,?_⟩;rcases Nat.lt_or_ge a.block W.heap.size with e|f
   ·exact e
   ·rw [Array.getElem?_eq_none f] at g;cases g
 ·cases h
theorem K1 (b off k:Nat):(⟨b,off,none⟩:Addr).add k=⟨b,off+k,none⟩:=by
 by_cases h:k=0<;>simp [Addr.add,h]
variable {α:Type}
theorem zn7 {i:Type}{f:α->Option i}:∀ {l:List α} {r:List i},l.mapM f=some r->r.length=l.length/\∀ k (c:k<l.length) (j:k<r.length),f l[k]=some r[k]
 |[],r,h=>by simp at h;subst h;exact ⟨rfl,fun k c=>absurd c (by simp)⟩
 |a::l,r,h=>by
  simp only [mapM_cons] at h;cases g:f a with
  |none=>rw [g] at h;simp at h
  |some b =>
   rw [g] at h;cases e:l.mapM f with
   |none=>rw [e] at h;simp at h
   |some s =>
    rw [e] at h;simp at h;subst h;obtain ⟨n,m⟩:=zn7 e;refine ⟨by simp [n],fun k c j=>?_⟩;cases k with
    |zero=>exact g
    |succ k=>exact m k (by simpa using c) (by simpa using j)
theorem Zn {a:Addr}{n:Nat}{cs:List Value}(h:W.cells? 0 a n=some cs):cs.length=n/\∀ j,j<n->W.cell? (a.add j)=some (cs.getD j undef):=by
 unfold World.cells? at h;rw [if_pos (Nat.zero_le _)] at h;obtain ⟨e,c⟩:=zn7 h;have f:cs.length=n:=by simpa using e
 refine ⟨f,fun j g=>?_⟩;have:=c j (by simpa using g) (by omega);rw [getElem_range] at this;rw [this];simp [getElem?_eq_getElem (show j<cs.length by omega)]
set_option maxRecDepth 100000
def Te (W:World)(a:α->AV)(m:α)(cs:List Value):Prop:=cs.length=(a m).cells.length/\∀ j (c:j<(a m).cells.length),Rep W (fun _=>True) G0 ((a m).cells[j]) (cs.getD j undef)/\(cs.getD j undef).oneCell'=true
variable {a:α->AV}{sz:Nat}
theorem zw4 {t e:TypeId}(N:Tryz.prog.underlying t=some (.slice e))(z:Tryz.prog.cellsOf e=sz)(O:0<sz)(M:Inhabited α)(g:∀ m,(a m).cells.length=sz)
  (each:∀ (n:Nat) (cs:List Value) (x:DataW H×List MemPlace),cs.length=sz->DataW.trod enc Tryz.prog W 0 (fun _=>true) true n e cs=some x->∃ m:α,Te W a m cs)
  {n:Nat}  {x:DataW H×List MemPlace} (h:DataW.trod enc Tryz.prog W 0 (fun _=>true) true n t [u]=some x):∃ l:List α,Rep W (fun _=>True) G0 (.sl sz (l.map a)) u:=by
 rcases open_slice N h with ⟨h1,_⟩|⟨A,len,R,m,L,D,Pl,h1,_,C,hm,y,_,J⟩
 ·simp only [List.cons.injEq,and_true] at h1;subst h1;exact ⟨[],.sl none 0 (fun _ _=>.bool true) (by simp) (fun k c=>absurd c (by simp)) (fun h=>absurd h (by simp)) (fun k c=>absurd c (by simp)) (fun _ _=>rfl)⟩
 ·simp only [List.cons.injEq,and_true] at h1;subst h1;simp only [if_true] at y;subst y;rw [z] at J;have every:∀ i,∃ q:α×List Value,i<len->W.cells? 0 (A.add (i*sz)) sz=some q.2/\Te W a q.1 q.2:=fun i=>by
   by_cases hi:i<len
   ·obtain ⟨cs,K,S⟩:=J i (by omega);obtain ⟨k,c⟩:=each L cs _ (Zn K).1 S;exact ⟨(k,cs),fun _=>⟨K,c⟩⟩
   ·exact ⟨(M.default,[]),fun h=>absurd h hi⟩
  obtain ⟨f,F⟩:=Classical.axiomOfChoice every;have T:((range len).map fun i=>(f i).1).length=len:=by simp
  refine ⟨(range len).map fun i=>(f i).1,?_⟩;have e:len=(((range len).map fun i=>(f i).1).map a).length:=by simp
  have r:∀ k j,k<len->j<sz->W.cell? ((A.add (k*sz)).add j)=some ((f k).2.getD j undef):=fun k j c w=>(Zn (F k c).1).2 j w
  have:Rep W (fun _=>True) G0 (.sl sz (((range len).map fun i=>(f i).1).map a)) (.slice (some A) (((range len).map fun i=>(f i).1).map a).length m):=by
   refine .sl (some A) m (fun k j=>if k<len/\j<sz then (f k).2.getD j undef else .bool true) (by simpa using C) (fun k c=>?_) (fun G=>?_) (fun k c j w=>?_) (fun k j=>?_)
   ·simp only [getElem_map];exact g _
   ·have B:0<len:=by simpa using G
    have I:=zle (r 0 0 B O);obtain ⟨b,off,sp⟩:=A;have P:sp=none:=by simpa [Addr.add] using I.1
    subst P;rw [K1,K1] at I;refine ⟨b,off,rfl,trivial,I.2,fun k j c w=>?_⟩;have o:k<len:=by simpa using c
    have:=r k j o w;rw [K1,K1] at this;rw [if_pos ⟨o,w⟩,<-this];congr 2;omega
   ·have o:k<len:=by simpa using c
    simp only [getElem_map,getElem_range] at w ⊢;have E:j<sz:=by rw [g] at w;exact w
    rw [if_pos ⟨o,E⟩];exact ((F k o).2.2 j w).1
   ·by_cases s:k<len/\j<sz
    ·rw [if_pos s];exact ((F k s.1).2.2 j (by rw [g];exact s.2)).2
    ·rw [if_neg s];rfl
  rw [<-e] at this;exact this
theorem Rep.one_sl {xs:List AV}(h:Rep W (fun _=>True) G0 (.sl sz xs) u):u.oneCell'=true:=by
 cases h;rfl
theorem zud {t e:TypeId}(g:Tryz.prog.underlying t=some (.slice e))(f:Tryz.prog.cellsOf e=sz)(o:0<sz)(i:Inhabited α)(c:∀ m,(a m).cells.length=sz)
  (each:∀ (n:Nat) (cs:List Value) (x:DataW H×List MemPlace),cs.length=sz->DataW.trod enc Tryz.prog W 0 (fun _=>true) true n e cs=some x->∃ m:α,Te W a m cs)
  (j:Value.okWide Tryz.prog W .any base t v) (h:DataW.Trod enc Tryz.prog W 0 (fun _=>true) true t v d p):∃ l:List α,Rep W (fun _=>True) G0 (.sl sz (l.map a)) v:=by
 obtain ⟨A,len,q,rfl⟩:=okWide_slice g j;obtain ⟨fuel,k⟩:=h;exact zw4 g f o i c each k
theorem y3k {m:α}{cs:Array Value}{xs:List AV}(hm:a m=.agg xs)(h:Te W a m cs.toList):Rep W (fun _=>True) G0 (a m) (.agg cs):=by
 obtain ⟨h1,c⟩:=h;rw [hm] at h1 c ⊢;have e:cs.size=xs.length:=by simpa [AV.cells] using h1
 have g:∀ i,cs.toList.getD i undef=cs.getD i undef:=fun i=>by
  by_cases hi:i<cs.size
  ·simp [Array.getD,hi]
  ·simp [Array.getD,hi]
 refine .agg _ e (fun i hi=>?_) (fun i hi=>?_)
 ·have:=(c i hi).1;rw [g] at this;exact this
 ·have:=(c i (show i<xs.length by rw [<-e];exact hi)).2;rw [g] at this;exact this
end
section
variable {H:Type} {enc:TypeId×Value->H} {W:World} {base:Nat} {v:Value} {d:DataW H} {p:List MemPlace}
set_option maxRecDepth 100000
def Br (W:World)(xs:List AV)(cs:List Value):Prop:=cs.length=xs.length/\∀ j (c:j<xs.length),Rep W (fun _=>True) G0 (xs[j]) (cs.getD j undef)/\(cs.getD j undef).oneCell'=true
theorem Br.one {a:AV}{c:Value}(h:Rep W (fun _=>True) G0 a c)(h1:c.oneCell'=true):Br W [a] [c]:=by
 refine ⟨rfl,fun j f=>?_⟩;have e:j<1:=f;rcases j with _|j
 ·exact ⟨h,h1⟩
 ·omega
variable {cs:List Value}
theorem Br.append {xs ys:List AV}{ds:List Value}(h1:Br W xs cs)(f:Br W ys ds):Br W (xs++ys) (cs++ds):=by
 refine ⟨by rw [length_append,length_append,h1.1,f.1],fun j g=>?_⟩;by_cases h:j<xs.length
 ·have:=h1.2 j h;rw [getElem_append_left h];have e:(cs++ds).getD j undef=cs.getD j undef:=by
   simp only [getD_eq_getElem?_getD];rw [getElem?_append_left (by rw [h1.1];exact h)]
  rw [e];exact this
 ·have c:j-xs.length<ys.length:=by rw [length_append] at g;omega
  have:=f.2 (j-xs.length) c;rw [getElem_append_right (by omega)];have e:(cs++ds).getD j undef=ds.getD (j-xs.length) undef:=by
   simp only [getD_eq_getElem?_getD];rw [getElem?_append_right (by rw [h1.1];omega),h1.1]
  rw [e];exact this
theorem Br.cut {o s:Nat}{xs ys:List AV}(h1:Br W xs ((cs.drop o).take s))(c:Br W ys (cs.drop (o+s))):Br W (xs++ys) (cs.drop o):=by
 have:cs.drop o=(cs.drop o).take s++cs.drop (o+s):=by rw [<-drop_drop,take_append_drop]
 rw [this];exact h1.append c
theorem Br.done {o:Nat}(h:cs.length<=o):Br W [] (cs.drop o):=by
 rw [drop_eq_nil_of_le h];exact ⟨rfl,fun j c=>absurd c (by simp)⟩
theorem Bp {o s:Nat}(h:o+s<=cs.length):((cs.drop o).take s).length=s:=by rw [length_take,length_drop];omega
abbrev FO (enc:TypeId×Value->H)(W:World)(t:TypeId)(sz:Nat){α:Type}(e:α->List AV):Prop:=∀ (n:Nat) (cs:List Value) (x:DataW H×List MemPlace),cs.length=sz->DataW.trod enc Tryz.prog W 0 (fun _=>true) true n t cs=some x->∃ m:α,Br W (e m) cs
variable {t:TypeId}
theorem C8 (c:Tryz.prog.underlying t=some (.int .i64)):FO enc W t 1 (fun z:Int=>[aI z]):=fun n cs x e h=>by
 obtain ⟨z,rfl,_⟩:=DataW.trod_int (k:=.i64) c h;exact ⟨z,.one (.int _ _) rfl⟩
theorem y7g (c:Tryz.prog.underlying t=some .string):FO enc W t 1 (fun z:ByteArray=>[AV.str z]):=fun n cs x e h=>by
 obtain ⟨z,rfl,_⟩:=DataW.trod_string c h;exact ⟨z,.one (.str _) rfl⟩
variable {sz:Nat}{α:Type}{a:α->AV}
theorem Xs {e:TypeId}(k:Tryz.prog.underlying t=some (.slice e))(i:Tryz.prog.cellsOf e=sz)(o:0<sz)(j:Inhabited α)(f:∀ m,(a m).cells.length=sz)
  (each:FO enc W e sz (fun m:α=>(a m).cells)):FO enc W t 1 (fun l:List α=>[AV.sl sz (l.map a)]):=fun n cs x g h=>by
 match cs,g with
 |[c],_ =>
  obtain ⟨l,g⟩:=zw4 (a:=a) k i o j f each h;exact ⟨l,.one g g.one_sl⟩
theorem y55 (c:Tryz.prog.underlying t=some (.int .i64)):FO enc W t 1 (fun z:Int=>(aI z).cells):=C8 c
theorem zvf {fs:Array Field}(i:Tryz.prog.underlying t=some (.struct fs))(c:Tryz.prog.cellsOf t=sz)(k:∀ m,∃ xs,a m=.agg xs)(each:FO enc W t sz (fun m:α=>(a m).cells))
  (g:Value.okWide Tryz.prog W .any base t v) (h:DataW.Trod enc Tryz.prog W 0 (fun _=>true) true t v d p):∃ m:α,Rep W (fun _=>True) G0 (a m) v:=by
 obtain ⟨cs,rfl,e⟩:=okWide_struct i g;obtain ⟨fuel,j⟩:=h;obtain ⟨m,hm⟩:=each fuel cs.toList _ (by simpa using e.trans c) j;obtain ⟨xs,f⟩:=k m;exact ⟨m,y3k f hm⟩
theorem zzm {e:TypeId}(j:Tryz.prog.underlying t=some (.slice e))(f:Tryz.prog.cellsOf e=sz)(k:0<sz)(g:Inhabited α)(c:∀ m,(a m).cells.length=sz)
  (each:FO enc W e sz (fun m:α=>(a m).cells)) (i:Value.okWide Tryz.prog W .any base t v) (h:DataW.Trod enc Tryz.prog W 0 (fun _=>true) true t v d p):∃ l:List α,Rep W (fun _=>True) G0 (.sl sz (l.map a)) v :=
 zud j f k g c each i h
end
section
variable {H:Type} {enc:TypeId×Value->H} {W:World} {base:Nat} {v:Value} {d:DataW H} {p:List MemPlace}
set_option maxRecDepth 100000
def z0z (x:Bc):AV:=.agg [.sl 1 (List.map (fun q=>AV.sl 3 (List.map A4 q)) x.fSets)]
theorem y7h:FO enc W 74 3 (fun m:Bh=>(Bf m).cells):=fun n cs x D h=>by
 obtain ⟨xs,c,_,_,_,e,f⟩:=DataW.trod_struct Tryz.underlying74 h
 match xs,e with
 |[o,l,k],_ =>
  have C:Tryz.prog.cellsOf 3=1:=by kernel_rfl
  have j:DataW.trod enc Tryz.prog W 0 (fun _=>true) true c 3 ((cs.drop 0).take (Tryz.prog.cellsOf 3))=some o:=f 0 _ rfl;rw [C] at j;obtain ⟨w,z⟩:=(C8 Tryz.underlying3) c _ _ (Bp (by omega)) j;have B:Tryz.prog.cellsOf 3=1:=by kernel_rfl
  have i:DataW.trod enc Tryz.prog W 0 (fun _=>true) true c 3 ((cs.drop 1).take (Tryz.prog.cellsOf 3))=some l:=f 1 _ rfl;rw [B] at i;obtain ⟨s,h1⟩:=(C8 Tryz.underlying3) c _ _ (Bp (by omega)) i;have A:Tryz.prog.cellsOf 3=1:=by kernel_rfl
  have g:DataW.trod enc Tryz.prog W 0 (fun _=>true) true c 3 ((cs.drop 2).take (Tryz.prog.cellsOf 3))=some k:=f 2 _ rfl;rw [A] at g;obtain ⟨q,y⟩:=(C8 Tryz.underlying3) c _ _ (Bp (by omega)) g;have r:=(show Br W _ (cs.drop 0) from (.cut z (.cut h1 (.cut y (Br.done (by omega))))));exact ⟨⟨w,s,q⟩,r⟩
theorem zv6:FO enc W 76 4 (fun m:B6=>(Ar m).cells):=fun n cs x y h=>by
 obtain ⟨xs,e,_,_,_,c,f⟩:=DataW.trod_struct Tryz.underlying76 h
 match xs,c with
 |[k,j],_ =>
  have w:Tryz.prog.cellsOf 3=1:=by kernel_rfl
  have i:DataW.trod enc Tryz.prog W 0 (fun _=>true) true e 3 ((cs.drop 0).take (Tryz.prog.cellsOf 3))=some k:=f 0 _ rfl;rw [w] at i;obtain ⟨o,q⟩:=(C8 Tryz.underlying3) e _ _ (Bp (by omega)) i;have s:Tryz.prog.cellsOf 74=3:=by kernel_rfl
  have g:DataW.trod enc Tryz.prog W 0 (fun _=>true) true e 74 ((cs.drop 1).take (Tryz.prog.cellsOf 74))=some j:=f 1 _ rfl;rw [s] at g;obtain ⟨l,h1⟩:=(y7h) e _ _ (Bp (by omega)) g;have r:=(show Br W _ (cs.drop 0) from (.cut q (.cut h1 (Br.done (by omega)))));exact ⟨⟨o,l⟩,r⟩
theorem y1r:FO enc W 102 2 (fun m:Ak=>(Ae m).cells):=fun n cs x y h=>by
 obtain ⟨xs,e,_,_,_,c,f⟩:=DataW.trod_struct Tryz.underlying102 h
 match xs,c with
 |[k,j],_ =>
  have w:Tryz.prog.cellsOf 3=1:=by kernel_rfl
  have i:DataW.trod enc Tryz.prog W 0 (fun _=>true) true e 3 ((cs.drop 0).take (Tryz.prog.cellsOf 3))=some k:=f 0 _ rfl;rw [w] at i;obtain ⟨o,q⟩:=(C8 Tryz.underlying3) e _ _ (Bp (by omega)) i;have s:Tryz.prog.cellsOf 3=1:=by kernel_rfl
  have g:DataW.trod enc Tryz.prog W 0 (fun _=>true) true e 3 ((cs.drop 1).take (Tryz.prog.cellsOf 3))=some j:=f 1 _ rfl;rw [s] at g;obtain ⟨l,h1⟩:=(C8 Tryz.underlying3) e _ _ (Bp (by omega)) g;have r:=(show Br W _ (cs.drop 0) from (.cut q (.cut h1 (Br.done (by omega)))));exact ⟨⟨o,l⟩,r⟩
theorem zyj:FO enc W 60 3 (fun m:A0=>(A4 m).cells):=fun n cs x D h=>by
 obtain ⟨xs,c,_,_,_,e,f⟩:=DataW.trod_struct Tryz.underlying60 h
 match xs,e with
 |[o,l,k],_ =>
  have C:Tryz.prog.cellsOf 3=1:=by kernel_rfl
  have j:DataW.trod enc Tryz.prog W 0 (fun _=>true) true c 3 ((cs.drop 0).take (Tryz.prog.cellsOf 3))=some o:=f 0 _ rfl;rw [C] at j;obtain ⟨w,z⟩:=(C8 Tryz.underlying3) c _ _ (Bp (by omega)) j;have B:Tryz.prog.cellsOf 42=1:=by kernel_rfl
  have i:DataW.trod enc Tryz.prog W 0 (fun _=>true) true c 42 ((cs.drop 1).take (Tryz.prog.cellsOf 42))=some l:=f 1 _ rfl;rw [B] at i;obtain ⟨s,h1⟩:=(Xs (sz:=4) (a:=Ar) Tryz.underlying42 (by kernel_rfl) (by omega) inferInstance (fun _=>rfl) (zv6)) c _ _ (Bp (by omega)) i;have A:Tryz.prog.cellsOf 58=1:=by kernel_rfl
  have g:DataW.trod enc Tryz.prog W 0 (fun _=>true) true c 58 ((cs.drop 2).take (Tryz.prog.cellsOf 58))=some k:=f 2 _ rfl;rw [A] at g;obtain ⟨q,y⟩:=(Xs (sz:=2) (a:=Ae) Tryz.underlying58 (by kernel_rfl) (by omega) inferInstance (fun _=>rfl) (y1r)) c _ _ (Bp (by omega)) g;have r:=(show Br W _ (cs.drop 0) from (.cut z (.cut h1 (.cut y (Br.done (by omega))))));exact ⟨⟨w,s,q⟩,r⟩
theorem zjb:FO enc W 31 1 (fun m:Bc=>(z0z m).cells):=fun n cs x q h=>by
 obtain ⟨xs,e,_,_,_,c,j⟩:=DataW.trod_struct Tryz.underlying31 h
 match xs,c with
 |[g],_ =>
  have o:Tryz.prog.cellsOf 29=1:=by kernel_rfl
  have f:DataW.trod enc Tryz.prog W 0 (fun _=>true) true e 29 ((cs.drop 0).take (Tryz.prog.cellsOf 29))=some g:=j 0 _ rfl;rw [o] at f;obtain ⟨i,k⟩:=(Xs (sz:=1) (a:=(fun l:List A0=>AV.sl 3 (l.map A4))) Tryz.underlying29 (by kernel_rfl) (by omega) inferInstance (fun _=>rfl) (Xs (sz:=3) (a:=A4) Tryz.underlying57 (by kernel_rfl) (by omega) inferInstance (fun _=>rfl) (zyj))) e _ _ (Bp (by omega)) f;have r:=(show Br W _ (cs.drop 0) from (.cut k (Br.done (by omega))));exact ⟨⟨i⟩,r⟩
theorem zgn (c:Value.okWide Tryz.prog W .any base 31 v)(h:DataW.Trod enc Tryz.prog W 0 (fun _=>true) true 31 v d p):∃ m:Bc,Rep W (fun _=>True) G0 (z0z m) v :=
 zvf Tryz.underlying31 (by kernel_rfl) (fun _=>⟨_,rfl⟩) zjb c h
end
theorem zco (a:Ai)(c:WfA a)(l:List A8)(q:Bc):Con E0 true 9 [Bj a,.sl 5 (l.map A6),z0z q] (.bool true):=z0f (zcl a c l q)
section
variable {H:Type} {enc:TypeId×Value->H}
set_option maxRecDepth 100000 in
theorem zqg (F:Stop.Interp)(N:Os)(started:N.Started){f:FuncId}{fn:Func}{s:ChangeSpec}{fr:Bool}(hf:Tryz.prog.funcs[f]? = some fn)(P:Tryz.prog.inits.idxOf? f=none)
  (hw:∃ (w:World) (tape:Tape) (i:Input),w.os=N/\(w.forCall tape i).Shaped Tryz.checked.prog/\i.vars=[]/\Input.okWide Tryz.checked.prog (w.forCall tape i) .any w.heap.size f i /\
    (Rows.OpenSpec.upto s).pre6 enc Tryz.checked.prog fn [] false (w.forCall tape i).memory i.args/\Assume.holds {} Tryz.checked.prog (lone (Frame.enter Tryz.checked.prog f i.args .normal) [] (w.forCall tape i)))
  (c:s.vars=[]) (l:fn.resultTypes=#[4]) (m:fn.params.toList.all (fun t=>Tryz.prog.readableRec t && decide (t<Tryz.prog.types.size))=true)
  (o:∀ ds:List (DataW H),ds.length=fn.params.size->s.fn H ds={ results:=[.lit (.bool true)],args:=ds })
  (z:∀ (W:World) (base:Nat) (args:Array Value) (ds:List (DataW H)) (p:List MemPlace),(∀ (j:Nat) t v,fn.params[j]? = some t->args[j]? = some v->Value.okWide Tryz.prog W .any base t v) ->
    DataW.TrodAll enc Tryz.prog W 0 (fun _=>true) true fn.params.toList args.toList ds p->Rows.uptoBulkAll ds<=1048576->∃ avs,Args W (fun _=>True) avs args/\Con E0 fr f avs (.bool true)) :
  ReturnsInHanded {} Tryz.checked N f .any ((Rows.OpenSpec.upto s).pre6 enc Tryz.prog fn [] false) (((Rows.OpenSpec.upto s).at F).post enc Tryz.prog fn false true false false):=by
 refine returnsInHanded_of_cond (C:=Tryz.checked) (s:=Rows.OpenSpec.upto s) (k:=Rows.uptoSmall) rfl y1f started P hf hw ?_;intro W base args ds gs before B X V hk _;show Calls Tryz.checked.prog f args W fun e W'=>∃ v,e=.returned v/\s.post enc Tryz.prog fn false true false false W args v W'
 have K:=X;obtain ⟨p,q,M,Y,rfl,R,aa⟩:=X;have G:∀ x∈p++q,x.block<W.heap.size:=fun x g=>DataW.Whole.lt K x g
 rw [show (Rows.OpenSpec.upto s).vars=s.vars from rfl,c] at Y;obtain ⟨rfl,rfl⟩:=trodVars_none Y;have T:Rows.uptoBulkAll ds<=1048576:=by
  have:=of_decide_eq_true hk
  rwa [append_nil] at this
 obtain ⟨avs,A,J⟩:=z W base args ds p B M T;refine (J.2 (fun _=>True) W args A).mono fun e W' ⟨v,he,⟨L,_⟩,O⟩=>?_
 have O:=O.bool_inv;subst O;subst he;have S:ds.length=fn.params.size:=(zpb _ _ _ _ M).trans (by simp);have y:s.fn H (ds++[])={ results:=[.lit (.bool true)],args:=ds }:=by rw [append_nil];exact o ds S
 have n:∀ x∈p,x.block<W.heap.size:=fun x g=>G x (by simp [g])
 have k0:=zaz (sp':=fun b=>decide (b<W.heap.size)) L _ _ _ _ m M n (fun x g=>by simpa using n x g);have Z:=zaz (sp':=fun _=>true) L _ _ _ _ m M n (fun x g=>rfl);have E:(Value.bool true).resultList fn.resultTypes.size=[.bool true]:=by rw [l];rfl
 have D:fn.resultTypes.toList=[4]:=by rw [l]
 refine ⟨_,rfl,ds,[],_,[],p,[],K,?_,?_,?_,World.keptBut_mono (fun x g=>⟨g,?_⟩) (L.frame (·∈p++[])),fun h=>?_⟩
 ·rw [y,D,E];exact trodAll_mk1 (shut_bool Tryz.underlying4 true)
 ·rw [y];exact k0
 ·rw [y,c];exact rfl
 ·exact Or.inr (Or.inl (by simpa using g))
 ·rw [D,E,c];refine ⟨?_,[.lit (.bool true)]++ds,[],p,⟨p,[],?_,rfl,by simp,?_,fun h=>by simp at h⟩,?_⟩
  ·rw [l];intro j t r ht U
   match j with
   |0 =>
    obtain rfl:4=t:=Option.some.inj ht;obtain rfl:Value.bool true=r:=Option.some.inj U;exact okWide_bool_mk Tryz.underlying4 true
   |j+1=>exact absurd U (by simp)
  ·exact trodAll_append Z (trodAll_mk1 (shut_bool Tryz.underlying4 true))
  ·intro b off hp;have I:MemPlace.cell b off∈p++[]:=by simpa using hp
   rw [L.frozen (G _ I)];exact R b off I
  ·intro x g _;simpa using g
end
theorem y7w {H:Type}(d:DataW H):1<=Rows.uptoBulk d:=by
 cases d with
 |lit l=>cases l<;>simp [Rows.uptoBulk]
 |nil=>simp [Rows.uptoBulk]
 |ptr d=>simp [Rows.uptoBulk]
 |slice elems spare=>simp [Rows.uptoBulk]
 |agg parts=>simp [Rows.uptoBulk]
 |iface t d=>simp [Rows.uptoBulk]
 |map entries=>simp [Rows.uptoBulk]
 |held h=>simp [Rows.uptoBulk]
theorem y7x {H:Type}{d:DataW H}{l:List (DataW H)}(h:d∈l):Rows.uptoBulk d<=Rows.uptoBulkAll l:=by
 induction l with
 |nil=>cases h
 |cons x r ih =>
  simp only [Rows.uptoBulkAll];rcases mem_cons.1 h with e|e
  ·subst e;omega
  ·have:=ih e;omega
variable {α:Type}
def SlQ (Q:Nat->α->Prop)(b:Nat)(l:List α):Prop:=∃ c:List (Nat×α),c.map (·.2)=l/\(∀ p∈c,1<=p.1/\Q p.1 p.2)/\(c.map (·.1)).sum<b
variable {Q:Nat->α->Prop}{b:Nat}
theorem SlQ.len {l:List α}(h:SlQ Q b l):l.length<b:=by
 obtain ⟨c,rfl,f,e⟩:=h;rw [length_map];refine Nat.lt_of_le_of_lt ?_ e;clear e
 induction c with
 |nil=>simp
 |cons p c ih =>
  have:=(f p (by simp)).1;have:=ih (fun q g=>f q (mem_cons_of_mem _ g));simp only [map_cons,sum_cons,length_cons];omega
theorem SlQ.mem {l:List α}(h:SlQ Q b l):∀ m∈l,∃ i,i < b/\Q i m:=fun m hm=>by
 obtain ⟨c,rfl,g,j⟩:=h;obtain ⟨p,f,rfl⟩:=mem_map.1 hm;refine ⟨p.1,?_,(g p f).2⟩;have:p.1<=(c.map (·.1)).sum:=by
  clear g j hm
  induction c with
  |nil=>cases f
  |cons x c ih =>
   simp only [map_cons,sum_cons];rcases mem_cons.1 f with e|e
   ·subst e;omega
   ·have:=ih e;omega
 omega
section
variable {H:Type} {enc:TypeId×Value->H} {W:World} {base:Nat} {v:Value} {d:DataW H} {p:List MemPlace}
set_option maxRecDepth 100000
variable {a:α->AV}{t:TypeId}{sz:Nat}
theorem y0g {e:TypeId}(T:Tryz.prog.underlying t=some (.slice e))(E:Tryz.prog.cellsOf e=sz)(X:0<sz)(S:Inhabited α)(g:∀ m,(a m).cells.length=sz)
   {n:Nat} {u:Value} {x:DataW H×List MemPlace} (each:∀ (n:Nat) (cs:List Value) (y:DataW H×List MemPlace),Rows.uptoBulk y.1<Rows.uptoBulk x.1->cs.length=sz->DataW.trod enc Tryz.prog W 0 (fun _=>true) true n e cs=some y->∃ m:α,Te W a m cs/\Q (Rows.uptoBulk y.1) m)
  (h:DataW.trod enc Tryz.prog W 0 (fun _=>true) true n t [u]=some x):∃ l:List α,Rep W (fun _=>True) G0 (.sl sz (l.map a)) u/\SlQ Q (Rows.uptoBulk x.1) l:=by
 rcases open_slice T h with ⟨h1,C⟩|⟨A,len,Z,m,P,D,Pl,h1,_,I,hm,z,C,N⟩
 ·simp only [List.cons.injEq,and_true] at h1;subst h1;exact ⟨[],.sl none 0 (fun _ _=>.bool true) (by simp) (fun k c=>absurd c (by simp)) (fun h=>absurd h (by simp)) (fun k c=>absurd c (by simp)) (fun _ _=>rfl),[],rfl,by simp,by rw [C];simp [Rows.uptoBulk]⟩
 ·simp only [List.cons.injEq,and_true] at h1;subst h1;simp only [if_true] at z;subst z;rw [E] at N;have K:Rows.uptoBulkAll ((range len).map D)<Rows.uptoBulk x.1:=by
   rw [C];simp only [Rows.uptoBulk];omega
  have every:∀ i,∃ q:α×List Value,i<len->W.cells? 0 (A.add (i*sz)) sz=some q.2/\Te W a q.1 q.2/\Q (Rows.uptoBulk (D i)) q.1:=fun i=>by
   by_cases hi:i<len
   ·obtain ⟨cs,O,c2⟩:=N i (by omega);have F:Rows.uptoBulk (D i)<Rows.uptoBulk x.1:=by
     have:=y7x (l:=(range len).map D) (mem_map.2 ⟨i,mem_range.2 hi,rfl⟩);omega
    obtain ⟨k,c,U⟩:=each P cs _ F (Zn O).1 c2;exact ⟨(k,cs),fun _=>⟨O,c,U⟩⟩
   ·exact ⟨(S.default,[]),fun h=>absurd h hi⟩
  obtain ⟨f,B⟩:=Classical.axiomOfChoice every;have hl:((range len).map fun i=>(f i).1).length=len:=by simp
  refine ⟨(range len).map fun i=>(f i).1,?_,(range len).map (fun i=>(Rows.uptoBulk (D i),(f i).1)),by simp,?_,?_⟩;rotate_left
  ·intro p V;obtain ⟨i,hi,rfl⟩:=mem_map.1 V;exact ⟨y7w _,(B i (mem_range.1 hi)).2.2⟩
  ·rw [map_map];have:∀ l:List Nat,(l.map ((fun p:Nat×α=>p.1) ∘ fun i=>(Rows.uptoBulk (D i),(f i).1))).sum=Rows.uptoBulkAll (l.map D):=fun l=>by
    induction l with
    |nil=>simp [Rows.uptoBulkAll]
    |cons i l R=>simp only [map_cons,sum_cons,R,Rows.uptoBulkAll,Function.comp]
   rw [this];exact K
  have e:len=(((range len).map fun i=>(f i).1).map a).length:=by simp
  have r:∀ k j,k<len->j<sz->W.cell? ((A.add (k*sz)).add j)=some ((f k).2.getD j undef):=fun k j c w=>(Zn (B k c).1).2 j w
  have:Rep W (fun _=>True) G0 (.sl sz (((range len).map fun i=>(f i).1).map a)) (.slice (some A) (((range len).map fun i=>(f i).1).map a).length m):=by
   refine .sl (some A) m (fun k j=>if k<len/\j<sz then (f k).2.getD j undef else .bool true) (by simpa using I) (fun k c=>?_) (fun L=>?_) (fun k c j w=>?_) (fun k j=>?_)
   ·simp only [getElem_map];exact g _
   ·have G:0<len:=by simpa using L
    have M:=zle (r 0 0 G X);obtain ⟨b,off,sp⟩:=A;have Y:sp=none:=by simpa [Addr.add] using M.1
    subst Y;rw [K1,K1] at M;refine ⟨b,off,rfl,trivial,M.2,fun k j c w=>?_⟩;have o:k<len:=by simpa using c
    have:=r k j o w;rw [K1,K1] at this;rw [if_pos ⟨o,w⟩,<-this];congr 2;omega
   ·have o:k<len:=by simpa using c
    simp only [getElem_map,getElem_range] at w ⊢;have J:j<sz:=by rw [g] at w;exact w
    rw [if_pos ⟨o,J⟩];exact ((B k o).2.1.2 j w).1
   ·by_cases s:k<len/\j<sz
    ·rw [if_pos s];exact ((B k s.1).2.1.2 j (by rw [g];exact s.2)).2
    ·rw [if_neg s];rfl
  rw [<-e] at this;exact this
abbrev FQ (enc:TypeId×Value->H)(W:World)(t:TypeId)(sz:Nat){α:Type}(e:α->List AV)(Q:Nat->α->Prop)(B:Nat):Prop:=∀ (n:Nat) (cs:List Value) (x:DataW H×List MemPlace),Rows.uptoBulk x.1<B->cs.length=sz->DataW.trod enc Tryz.prog W 0 (fun _=>true) true n t cs=some x->∃ m:α,Br W (e m) cs/\Q (Rows.uptoBulk x.1) m
theorem D2 {B:Nat}{e:α->List AV}(h:FO enc W t sz e):FQ enc W t sz e (fun _ _=>True) B:=fun n cs x _ f c=>by
 obtain ⟨m,hm⟩:=h n cs x f c;exact ⟨m,hm,trivial⟩
theorem Hu {e:TypeId}{B:Nat}(k:Tryz.prog.underlying t=some (.slice e))(i:Tryz.prog.cellsOf e=sz)(q:0<sz)(j:Inhabited α)(g:∀ m,(a m).cells.length=sz)
  (each:FQ enc W e sz (fun m:α=>(a m).cells) Q B):FQ enc W t 1 (fun l:List α=>[AV.sl sz (l.map a)]) (SlQ Q) B:=fun n cs x s f h=>by
 match cs,f with
 |[c],_ =>
  obtain ⟨l,f,o⟩:=y0g (a:=a) k i q j g (fun n cs y r f h=>each n cs y (by omega) f h) h;exact ⟨l,.one f f.one_sl,o⟩
theorem zre {fs:Array Field}(i:Tryz.prog.underlying t=some (.struct fs))(c:Tryz.prog.cellsOf t=sz)(l:∀ m,∃ xs,a m=.agg xs)(each:∀ B,FQ enc W t sz (fun m:α=>(a m).cells) Q B)
  (g:Value.okWide Tryz.prog W .any base t v) (h:DataW.Trod enc Tryz.prog W 0 (fun _=>true) true t v d p):∃ m:α,Rep W (fun _=>True) G0 (a m) v/\Q (Rows.uptoBulk d) m:=by
 obtain ⟨cs,rfl,e⟩:=okWide_struct i g;obtain ⟨fuel,k⟩:=h;obtain ⟨m,hm,j⟩:=each (Rows.uptoBulk d+1) fuel cs.toList _ (by show Rows.uptoBulk d<Rows.uptoBulk d+1;omega) (by simpa using e.trans c) k;obtain ⟨xs,f⟩:=l m;exact ⟨m,y3k f hm,j⟩
def QE (b:Nat)(m:Exn):Prop:=∃ z,z<=b/\ETr z m
def QG (b:Nat)(g:Gd):Prop:=∃ c,c < b/\QE c g.fCond
def QS (b:Nat)(s:Stt):Prop:=∃ c,c < b/\SlQ QG c s.fGuards
abbrev QT {α:Type}(_:Nat)(_:α):Prop:=True
def QX (b:Nat)(x:Ed):Prop:=(∃ c,c < b/\QE c x.fCond)/\(∃ c,c < b/\SlQ QT c x.fOpens)/\(∃ c,c < b/\SlQ QT c x.fCloses)/\(∃ c,c < b/\∃ l:List Exn,x.fChecks=l.map Av/\SlQ QE c l)/\(∃ c,c < b/\SlQ QT c x.fLimits)/\(∃ c,c < b/\SlQ QT c x.fInside)
def QA (b:Nat)(a:Aut):Prop:=(∃ c,c < b/\SlQ QS c a.fStates)/\(∃ c,c < b/\SlQ QX c a.fEdges)
theorem y7m {l:List Exn}(h:SlQ QE b l):∃ qs:List (Nat×Exn),qs.map (·.2)=l/\(∀ q∈qs,ETr q.1 q.2)/\(qs.map (·.1)).sum<b:=by
 obtain ⟨c,rfl,j,o⟩:=h;have:∃ qs:List (Nat×Exn),qs.map (·.2)=c.map (·.2)/\(∀ q∈qs,ETr q.1 q.2)/\(qs.map (·.1)).sum<=(c.map (·.1)).sum:=by
  clear o
  induction c with
  |nil=>exact ⟨[],rfl,by simp,by simp⟩
  |cons p c m =>
   obtain ⟨qs,g,f,k⟩:=m (fun q i=>j q (mem_cons_of_mem _ i));obtain ⟨z,r,n⟩:=(j p (by simp)).2;refine ⟨(z,p.2)::qs,by simp [g],fun q i=>?_,by simp only [map_cons,sum_cons];omega⟩;rcases mem_cons.1 i with e|e
   ·rw [e];exact n
   ·exact f q e
 obtain ⟨qs,g,f,k⟩:=this;exact ⟨qs,g,f,by omega⟩
theorem zvt {e:Exn}(h:QE b e)(g:b<=1048576):WfE e:=by
 obtain ⟨z,f,c⟩:=h;exact ⟨z,by omega,c⟩
theorem y5x {a:Aut}(h:QA b a)(E:b<=1048576):WfA a:=by
 obtain ⟨⟨b1,h1,i⟩,⟨b2,K,f⟩⟩:=h;refine ⟨by have:=i.len;omega,by have:=f.len;omega,fun s A=>?_,fun x z=>?_⟩
 ·obtain ⟨D,C,b4,J,e⟩:=i.mem s A;refine ⟨by have:=e.len;omega,fun g B=>?_⟩;obtain ⟨b5,I,b6,G,c⟩:=e.mem g B;exact zvt c (by omega)
 ·obtain ⟨D,C,⟨Y,R,r⟩,⟨X,P,q⟩,⟨V,O,o⟩,⟨U,N,l,k,j⟩,⟨T,M,n⟩,⟨S,L,c⟩⟩:=f.mem x z;refine ⟨zvt r (by omega),⟨l,k,fun y w=>?_⟩,?_,?_,?_,?_,?_⟩
  ·obtain ⟨Z,F,m⟩:=j.mem y w;exact zvt m (by omega)
  ·rw [k,length_map];have:=j.len;omega
  ·have:=q.len;omega
  ·have:=o.len;omega
  ·have:=c.len;omega
  ·have:=n.len;omega
theorem zth:FO enc W 109 3 (fun m:Ab=>(Ag m).cells):=fun n cs x E h=>by
 obtain ⟨xs,c,_,D,_,e,f⟩:=DataW.trod_struct Tryz.underlying109 h
 match xs,e with
 |[o,l,k],_ =>
  have C:Tryz.prog.cellsOf 3=1:=by kernel_rfl
  have j:DataW.trod enc Tryz.prog W 0 (fun _=>true) true c 3 ((cs.drop 0).take (Tryz.prog.cellsOf 3))=some o:=f 0 _ rfl;rw [C] at j;obtain ⟨w,z⟩:=(C8 Tryz.underlying3) c _ _ (Bp (by omega)) j;have B:Tryz.prog.cellsOf 3=1:=by kernel_rfl
  have i:DataW.trod enc Tryz.prog W 0 (fun _=>true) true c 3 ((cs.drop 1).take (Tryz.prog.cellsOf 3))=some l:=f 1 _ rfl;rw [B] at i;obtain ⟨s,h1⟩:=(C8 Tryz.underlying3) c _ _ (Bp (by omega)) i;have A:Tryz.prog.cellsOf 9=1:=by kernel_rfl
  have g:DataW.trod enc Tryz.prog W 0 (fun _=>true) true c 9 ((cs.drop 2).take (Tryz.prog.cellsOf 9))=some k:=f 2 _ rfl;rw [A] at g;obtain ⟨q,y⟩:=(y7g Tryz.underlying9) c _ _ (Bp (by omega)) g;have r:=(show Br W _ (cs.drop 0) from (.cut z (.cut h1 (.cut y (Br.done (by omega))))));exact ⟨⟨w,s,q⟩,r⟩
theorem zja:∀ B,FQ enc W 111 8 (fun m:Exn=>(Av m).cells) QE B
 |0=>fun n cs x s O h=>absurd s (Nat.not_lt_zero _)
 |B+1=>fun n cs x s O h=>by
  obtain ⟨xs,c,_,N,_,f,e⟩:=DataW.trod_struct Tryz.underlying111 h
  match xs,f with
  |[o,l,k,j,i,g],_ =>
   have hk:Rows.uptoBulk x.1=Rows.uptoBulk o.1+Rows.uptoBulk l.1+Rows.uptoBulk k.1+Rows.uptoBulk j.1+Rows.uptoBulk i.1+Rows.uptoBulk g.1+1:=by rw [N];simp only [Rows.uptoBulk,Rows.uptoBulkAll,map_cons,map_nil]<;>omega
   have c0:Tryz.prog.cellsOf 3=1:=by kernel_rfl
   have D:DataW.trod enc Tryz.prog W 0 (fun _=>true) true c 3 ((cs.drop 0).take (Tryz.prog.cellsOf 3))=some o:=e 0 _ rfl;rw [c0] at D;obtain ⟨M,U,q0⟩:=(D2 (C8 Tryz.underlying3)) c _ _ (show Rows.uptoBulk o.1<B by omega) (Bp (by omega)) D;have c1:Tryz.prog.cellsOf 107=1:=by kernel_rfl
   have C:DataW.trod enc Tryz.prog W 0 (fun _=>true) true c 107 ((cs.drop 1).take (Tryz.prog.cellsOf 107))=some l:=e 1 _ rfl;rw [c1] at C;obtain ⟨q,h1,G⟩:=(Hu (sz:=8) (a:=Av) Tryz.underlying107 (by kernel_rfl) (by omega) inferInstance (fun _=>rfl) (zja B)) c _ _ (show Rows.uptoBulk l.1<B by omega) (Bp (by omega)) C;have Z:Tryz.prog.cellsOf 3=1:=by kernel_rfl
   have A:DataW.trod enc Tryz.prog W 0 (fun _=>true) true c 3 ((cs.drop 2).take (Tryz.prog.cellsOf 3))=some k:=e 2 _ rfl;rw [Z] at A;obtain ⟨L,T,q2⟩:=(D2 (C8 Tryz.underlying3)) c _ _ (show Rows.uptoBulk k.1<B by omega) (Bp (by omega)) A;have Y:Tryz.prog.cellsOf 3=1:=by kernel_rfl
   have z:DataW.trod enc Tryz.prog W 0 (fun _=>true) true c 3 ((cs.drop 3).take (Tryz.prog.cellsOf 3))=some j:=e 3 _ rfl;rw [Y] at z;obtain ⟨K,S,q3⟩:=(D2 (C8 Tryz.underlying3)) c _ _ (show Rows.uptoBulk j.1<B by omega) (Bp (by omega)) z;have X:Tryz.prog.cellsOf 3=1:=by kernel_rfl
   have y:DataW.trod enc Tryz.prog W 0 (fun _=>true) true c 3 ((cs.drop 4).take (Tryz.prog.cellsOf 3))=some i:=e 4 _ rfl;rw [X] at y;obtain ⟨J,R,q4⟩:=(D2 (C8 Tryz.underlying3)) c _ _ (show Rows.uptoBulk i.1<B by omega) (Bp (by omega)) y;have V:Tryz.prog.cellsOf 109=3:=by kernel_rfl
   have w:DataW.trod enc Tryz.prog W 0 (fun _=>true) true c 109 ((cs.drop 5).take (Tryz.prog.cellsOf 109))=some g:=e 5 _ rfl;rw [V] at w;obtain ⟨I,P,q5⟩:=(D2 zth) c _ _ (show Rows.uptoBulk g.1<B by omega) (Bp (by omega)) w;have h1:Br W [AV.sl 8 (List.map idA (List.map Av q))] ((cs.drop 1).take 1):=by rw [T9];exact h1
   have r:=(show Br W _ (cs.drop 0) from (.cut U (.cut h1 (.cut T (.cut S (.cut R (.cut P (Br.done (by omega)))))))));obtain ⟨qs,F,E,r3⟩:=y7m G;refine ⟨⟨M,q.map Av,L,K,J,I⟩,r,1+(qs.map (·.1)).sum,by omega,.mk qs _ E ?_⟩;show q.map Av=_;rw [<-F,map_map];rfl
theorem y1q (B:Nat):FQ enc W 154 11 (fun m:Gd=>(Be m).cells) QG B:=fun n cs x S P h=>by
 obtain ⟨xs,c,_,D,_,e,g⟩:=DataW.trod_struct Tryz.underlying154 h
 match xs,e with
 |[k,j,i,f],_ =>
  have R:Rows.uptoBulk x.1=Rows.uptoBulk k.1+Rows.uptoBulk j.1+Rows.uptoBulk i.1+Rows.uptoBulk f.1+1:=by rw [D];simp only [Rows.uptoBulk,Rows.uptoBulkAll,map_cons,map_nil]<;>omega
  have L:Tryz.prog.cellsOf 3=1:=by kernel_rfl
  have s:DataW.trod enc Tryz.prog W 0 (fun _=>true) true c 3 ((cs.drop 0).take (Tryz.prog.cellsOf 3))=some k:=g 0 _ rfl;rw [L] at s;obtain ⟨C,G,O⟩:=(D2 (C8 Tryz.underlying3)) c _ _ (show Rows.uptoBulk k.1<B by omega) (Bp (by omega)) s;have K:Tryz.prog.cellsOf 3=1:=by kernel_rfl
  have q:DataW.trod enc Tryz.prog W 0 (fun _=>true) true c 3 ((cs.drop 1).take (Tryz.prog.cellsOf 3))=some j:=g 1 _ rfl;rw [K] at q;obtain ⟨A,h1,N⟩:=(D2 (C8 Tryz.underlying3)) c _ _ (show Rows.uptoBulk j.1<B by omega) (Bp (by omega)) q;have J:Tryz.prog.cellsOf 3=1:=by kernel_rfl
  have o:DataW.trod enc Tryz.prog W 0 (fun _=>true) true c 3 ((cs.drop 2).take (Tryz.prog.cellsOf 3))=some i:=g 2 _ rfl;rw [J] at o;obtain ⟨z,F,M⟩:=(D2 (C8 Tryz.underlying3)) c _ _ (show Rows.uptoBulk i.1<B by omega) (Bp (by omega)) o;have I:Tryz.prog.cellsOf 111=8:=by kernel_rfl
  have l:DataW.trod enc Tryz.prog W 0 (fun _=>true) true c 111 ((cs.drop 3).take (Tryz.prog.cellsOf 111))=some f:=g 3 _ rfl;rw [I] at l;obtain ⟨y,E,w⟩:=(zja B) c _ _ (show Rows.uptoBulk f.1<B by omega) (Bp (by omega)) l;have r:=(show Br W _ (cs.drop 0) from (.cut G (.cut h1 (.cut F (.cut E (Br.done (by omega)))))));exact ⟨⟨C,A,z,y⟩,r,_,(show Rows.uptoBulk f.1<_ by omega),w⟩
theorem y1p (B:Nat):FQ enc W 105 1 (fun m:Stt=>(Bb m).cells) QS B:=fun n cs x y s h=>by
 obtain ⟨xs,f,_,k,_,c,l⟩:=DataW.trod_struct Tryz.underlying105 h
 match xs,c with
 |[e],_ =>
  have w:Rows.uptoBulk x.1=Rows.uptoBulk e.1+1:=by rw [k];simp only [Rows.uptoBulk,Rows.uptoBulkAll,map_cons,map_nil]<;>omega
  have q:Tryz.prog.cellsOf 103=1:=by kernel_rfl
  have g:DataW.trod enc Tryz.prog W 0 (fun _=>true) true f 103 ((cs.drop 0).take (Tryz.prog.cellsOf 103))=some e:=l 0 _ rfl;rw [q] at g;obtain ⟨j,o,i⟩:=(Hu (sz:=11) (a:=Be) Tryz.underlying103 (by kernel_rfl) (by omega) inferInstance (fun _=>rfl) (y1q B)) f _ _ (show Rows.uptoBulk e.1<B by omega) (Bp (by omega)) g;have r:=(show Br W _ (cs.drop 0) from (.cut o (Br.done (by omega))));exact ⟨⟨j⟩,r,_,(show Rows.uptoBulk e.1<_ by omega),i⟩
theorem y1s:FO enc W 209 2 (fun m:C4=>(Ce m).cells):=fun n cs x z h=>by
 obtain ⟨xs,e,_,y,_,c,f⟩:=DataW.trod_struct Tryz.underlying209 h
 match xs,c with
 |[k,j],_ =>
  have w:Tryz.prog.cellsOf 3=1:=by kernel_rfl
  have i:DataW.trod enc Tryz.prog W 0 (fun _=>true) true e 3 ((cs.drop 0).take (Tryz.prog.cellsOf 3))=some k:=f 0 _ rfl;rw [w] at i;obtain ⟨o,q⟩:=(C8 Tryz.underlying3) e _ _ (Bp (by omega)) i;have s:Tryz.prog.cellsOf 3=1:=by kernel_rfl
  have g:DataW.trod enc Tryz.prog W 0 (fun _=>true) true e 3 ((cs.drop 1).take (Tryz.prog.cellsOf 3))=some j:=f 1 _ rfl;rw [s] at g;obtain ⟨l,h1⟩:=(C8 Tryz.underlying3) e _ _ (Bp (by omega)) g;have r:=(show Br W _ (cs.drop 0) from (.cut q (.cut h1 (Br.done (by omega)))));exact ⟨⟨o,l⟩,r⟩
theorem y54 (B:Nat):FQ enc W 115 17 (fun m:Ed=>(B7 m).cells) QX B:=fun n cs x hb hl h=>by
 obtain ⟨xs,c,_,hx,_,f,e⟩:=DataW.trod_struct Tryz.underlying115 h
 match xs,f with
 |[y,w,s,q,o,l,k,j,i,g],_ =>
  have hk:Rows.uptoBulk x.1=Rows.uptoBulk y.1+Rows.uptoBulk w.1+Rows.uptoBulk s.1+Rows.uptoBulk q.1+Rows.uptoBulk o.1+Rows.uptoBulk l.1+Rows.uptoBulk k.1+Rows.uptoBulk j.1+Rows.uptoBulk i.1+Rows.uptoBulk g.1+1:=by rw [hx];simp only [Rows.uptoBulk,Rows.uptoBulkAll,map_cons,map_nil]<;>omega
  have c0:Tryz.prog.cellsOf 3=1:=by kernel_rfl
  have M:DataW.trod enc Tryz.prog W 0 (fun _=>true) true c 3 ((cs.drop 0).take (Tryz.prog.cellsOf 3))=some y:=e 0 _ rfl;rw [c0] at M;obtain ⟨m0,h0,q0⟩:=(D2 (C8 Tryz.underlying3)) c _ _ (show Rows.uptoBulk y.1<B by omega) (Bp (by omega)) M;have c1:Tryz.prog.cellsOf 3=1:=by kernel_rfl
  have L:DataW.trod enc Tryz.prog W 0 (fun _=>true) true c 3 ((cs.drop 1).take (Tryz.prog.cellsOf 3))=some w:=e 1 _ rfl;rw [c1] at L;obtain ⟨m1,h1,q1⟩:=(D2 (C8 Tryz.underlying3)) c _ _ (show Rows.uptoBulk w.1<B by omega) (Bp (by omega)) L;have c2:Tryz.prog.cellsOf 3=1:=by kernel_rfl
  have K:DataW.trod enc Tryz.prog W 0 (fun _=>true) true c 3 ((cs.drop 2).take (Tryz.prog.cellsOf 3))=some s:=e 2 _ rfl;rw [c2] at K;obtain ⟨m2,h2,q2⟩:=(D2 (C8 Tryz.underlying3)) c _ _ (show Rows.uptoBulk s.1<B by omega) (Bp (by omega)) K;have c3:Tryz.prog.cellsOf 3=1:=by kernel_rfl
  have J:DataW.trod enc Tryz.prog W 0 (fun _=>true) true c 3 ((cs.drop 3).take (Tryz.prog.cellsOf 3))=some q:=e 3 _ rfl;rw [c3] at J;obtain ⟨m3,h3,q3⟩:=(D2 (C8 Tryz.underlying3)) c _ _ (show Rows.uptoBulk q.1<B by omega) (Bp (by omega)) J;have c4:Tryz.prog.cellsOf 111=8:=by kernel_rfl
  have I:DataW.trod enc Tryz.prog W 0 (fun _=>true) true c 111 ((cs.drop 4).take (Tryz.prog.cellsOf 111))=some o:=e 4 _ rfl;rw [c4] at I;obtain ⟨Z,h4,T⟩:=(zja B) c _ _ (show Rows.uptoBulk o.1<B by omega) (Bp (by omega)) I;have c5:Tryz.prog.cellsOf 112=1:=by kernel_rfl
  have G:DataW.trod enc Tryz.prog W 0 (fun _=>true) true c 112 ((cs.drop 12).take (Tryz.prog.cellsOf 112))=some l:=e 5 _ rfl;rw [c5] at G;obtain ⟨Y,h5,S⟩:=(Hu (sz:=1) (a:=aI) Tryz.underlying112 (by kernel_rfl) (by omega) inferInstance (fun _=>rfl) (D2 (y55 Tryz.underlying3))) c _ _ (show Rows.uptoBulk l.1<B by omega) (Bp (by omega)) G;have c6:Tryz.prog.cellsOf 112=1:=by kernel_rfl
  have F:DataW.trod enc Tryz.prog W 0 (fun _=>true) true c 112 ((cs.drop 13).take (Tryz.prog.cellsOf 112))=some k:=e 6 _ rfl;rw [c6] at F;obtain ⟨X,h6,R⟩:=(Hu (sz:=1) (a:=aI) Tryz.underlying112 (by kernel_rfl) (by omega) inferInstance (fun _=>rfl) (D2 (y55 Tryz.underlying3))) c _ _ (show Rows.uptoBulk k.1<B by omega) (Bp (by omega)) F;have c7:Tryz.prog.cellsOf 107=1:=by kernel_rfl
  have E:DataW.trod enc Tryz.prog W 0 (fun _=>true) true c 107 ((cs.drop 14).take (Tryz.prog.cellsOf 107))=some j:=e 7 _ rfl;rw [c7] at E;obtain ⟨z,A,P⟩:=(Hu (sz:=8) (a:=Av) Tryz.underlying107 (by kernel_rfl) (by omega) inferInstance (fun _=>rfl) (zja B)) c _ _ (show Rows.uptoBulk j.1<B by omega) (Bp (by omega)) E;have c8:Tryz.prog.cellsOf 113=1:=by kernel_rfl
  have D:DataW.trod enc Tryz.prog W 0 (fun _=>true) true c 113 ((cs.drop 15).take (Tryz.prog.cellsOf 113))=some i:=e 8 _ rfl;rw [c8] at D;obtain ⟨V,h8,O⟩:=(Hu (sz:=2) (a:=Ce) Tryz.underlying113 (by kernel_rfl) (by omega) inferInstance (fun _=>rfl) (D2 y1s)) c _ _ (show Rows.uptoBulk i.1<B by omega) (Bp (by omega)) D;have c9:Tryz.prog.cellsOf 112=1:=by kernel_rfl
  have C:DataW.trod enc Tryz.prog W 0 (fun _=>true) true c 112 ((cs.drop 16).take (Tryz.prog.cellsOf 112))=some g:=e 9 _ rfl;rw [c9] at C;obtain ⟨U,h9,N⟩:=(Hu (sz:=1) (a:=aI) Tryz.underlying112 (by kernel_rfl) (by omega) inferInstance (fun _=>rfl) (D2 (y55 Tryz.underlying3))) c _ _ (show Rows.uptoBulk g.1<B by omega) (Bp (by omega)) C;have A:Br W [AV.sl 8 (List.map idA (List.map Av z))] ((cs.drop 14).take 1):=by rw [T9];exact A
  have r:=(show Br W _ (cs.drop 0) from (.cut h0 (.cut h1 (.cut h2 (.cut h3 (.cut h4 (.cut h5 (.cut h6 (.cut A (.cut h8 (.cut h9 (Br.done (by omega)))))))))))));exact ⟨⟨m0,m1,m2,m3,Z,Y,X,z.map Av,V,U⟩,r,⟨_,(show Rows.uptoBulk o.1<_ by omega),T⟩,⟨_,(show Rows.uptoBulk l.1<_ by omega),S⟩,⟨_,(show Rows.uptoBulk k.1<_ by omega),R⟩,⟨_,(show Rows.uptoBulk j.1<_ by omega),z,rfl,P⟩,⟨_,(show Rows.uptoBulk i.1<_ by omega),O⟩,⟨_,(show Rows.uptoBulk g.1<_ by omega),N⟩⟩
theorem y7f (B:Nat):FQ enc W 25 4 (fun m:Aut=>(Bj m).cells) QA B:=fun n cs x S P h=>by
 obtain ⟨xs,c,_,E,_,e,i⟩:=DataW.trod_struct Tryz.underlying25 h
 match xs,e with
 |[k,j,g,f],_ =>
  have R:Rows.uptoBulk x.1=Rows.uptoBulk k.1+Rows.uptoBulk j.1+Rows.uptoBulk g.1+Rows.uptoBulk f.1+1:=by rw [E];simp only [Rows.uptoBulk,Rows.uptoBulkAll,map_cons,map_nil]<;>omega
  have M:Tryz.prog.cellsOf 3=1:=by kernel_rfl
  have s:DataW.trod enc Tryz.prog W 0 (fun _=>true) true c 3 ((cs.drop 0).take (Tryz.prog.cellsOf 3))=some k:=i 0 _ rfl;rw [M] at s;obtain ⟨D,I,O⟩:=(D2 (C8 Tryz.underlying3)) c _ _ (show Rows.uptoBulk k.1<B by omega) (Bp (by omega)) s;have L:Tryz.prog.cellsOf 3=1:=by kernel_rfl
  have q:DataW.trod enc Tryz.prog W 0 (fun _=>true) true c 3 ((cs.drop 1).take (Tryz.prog.cellsOf 3))=some j:=i 1 _ rfl;rw [L] at q;obtain ⟨C,h1,N⟩:=(D2 (C8 Tryz.underlying3)) c _ _ (show Rows.uptoBulk j.1<B by omega) (Bp (by omega)) q;have K:Tryz.prog.cellsOf 22=1:=by kernel_rfl
  have o:DataW.trod enc Tryz.prog W 0 (fun _=>true) true c 22 ((cs.drop 2).take (Tryz.prog.cellsOf 22))=some g:=i 2 _ rfl;rw [K] at o;obtain ⟨A,G,y⟩:=(Hu (sz:=1) (a:=Bb) Tryz.underlying22 (by kernel_rfl) (by omega) inferInstance (fun _=>rfl) (y1p B)) c _ _ (show Rows.uptoBulk g.1<B by omega) (Bp (by omega)) o;have J:Tryz.prog.cellsOf 23=1:=by kernel_rfl
  have l:DataW.trod enc Tryz.prog W 0 (fun _=>true) true c 23 ((cs.drop 3).take (Tryz.prog.cellsOf 23))=some f:=i 3 _ rfl;rw [J] at l;obtain ⟨z,F,w⟩:=(Hu (sz:=17) (a:=B7) Tryz.underlying23 (by kernel_rfl) (by omega) inferInstance (fun _=>rfl) (y54 B)) c _ _ (show Rows.uptoBulk f.1<B by omega) (Bp (by omega)) l;have r:=(show Br W _ (cs.drop 0) from (.cut I (.cut h1 (.cut G (.cut F (Br.done (by omega)))))));exact ⟨⟨D,C,A,z⟩,r,⟨_,(show Rows.uptoBulk g.1<_ by omega),y⟩,⟨_,(show Rows.uptoBulk f.1<_ by omega),w⟩⟩
theorem y5t (c:Value.okWide Tryz.prog W .any base 25 v)(h:DataW.Trod enc Tryz.prog W 0 (fun _=>true) true 25 v d p)(e:Rows.uptoBulk d<=1048576):∃ m:Aut,Rep W (fun _=>True) G0 (Bj m) v/\WfA m:=by
 obtain ⟨m,r,q⟩:=zre (sz:=4) (a:=Bj) Tryz.underlying25 (by kernel_rfl) (fun _=>⟨_,rfl⟩) (fun B=>y7f B) c h;exact ⟨m,r,y5x q e⟩
theorem y1t:FO enc W 71 5 (fun m:A8=>(A6 m).cells):=fun n cs x P h=>by
 obtain ⟨xs,c,_,O,_,e,f⟩:=DataW.trod_struct Tryz.underlying71 h
 match xs,e with
 |[y,w,s,q,o],_ =>
  have N:Tryz.prog.cellsOf 3=1:=by kernel_rfl
  have l:DataW.trod enc Tryz.prog W 0 (fun _=>true) true c 3 ((cs.drop 0).take (Tryz.prog.cellsOf 3))=some y:=f 0 _ rfl;rw [N] at l;obtain ⟨D,I⟩:=(C8 Tryz.underlying3) c _ _ (Bp (by omega)) l;have M:Tryz.prog.cellsOf 3=1:=by kernel_rfl
  have k:DataW.trod enc Tryz.prog W 0 (fun _=>true) true c 3 ((cs.drop 1).take (Tryz.prog.cellsOf 3))=some w:=f 1 _ rfl;rw [M] at k;obtain ⟨C,h1⟩:=(C8 Tryz.underlying3) c _ _ (Bp (by omega)) k;have L:Tryz.prog.cellsOf 3=1:=by kernel_rfl
  have j:DataW.trod enc Tryz.prog W 0 (fun _=>true) true c 3 ((cs.drop 2).take (Tryz.prog.cellsOf 3))=some s:=f 2 _ rfl;rw [L] at j;obtain ⟨B,G⟩:=(C8 Tryz.underlying3) c _ _ (Bp (by omega)) j;have K:Tryz.prog.cellsOf 3=1:=by kernel_rfl
  have i:DataW.trod enc Tryz.prog W 0 (fun _=>true) true c 3 ((cs.drop 3).take (Tryz.prog.cellsOf 3))=some q:=f 3 _ rfl;rw [K] at i;obtain ⟨A,F⟩:=(C8 Tryz.underlying3) c _ _ (Bp (by omega)) i;have J:Tryz.prog.cellsOf 69=1:=by kernel_rfl
  have g:DataW.trod enc Tryz.prog W 0 (fun _=>true) true c 69 ((cs.drop 4).take (Tryz.prog.cellsOf 69))=some o:=f 4 _ rfl;rw [J] at g;obtain ⟨z,E⟩:=(Xs (sz:=3) (a:=Ag) Tryz.underlying69 (by kernel_rfl) (by omega) inferInstance (fun _=>rfl) zth) c _ _ (Bp (by omega)) g;have r:=(show Br W _ (cs.drop 0) from (.cut I (.cut h1 (.cut G (.cut F (.cut E (Br.done (by omega))))))));exact ⟨⟨D,C,B,A,z⟩,r⟩
theorem zvj (c:Value.okWide Tryz.prog W .any base 26 v)(h:DataW.Trod enc Tryz.prog W 0 (fun _=>true) true 26 v d p):∃ l:List A8,Rep W (fun _=>True) G0 (.sl 5 (l.map A6)) v :=
 zzm Tryz.underlying26 (by kernel_rfl) (by omega) inferInstance (fun _=>rfl) y1t c h
end
section
variable {H:Type} {enc:TypeId×Value->H} {W:World} {base:Nat} {v:Value} {d:DataW H} {p:List MemPlace}
set_option maxRecDepth 100000
end
end Go.Proofs.YtidhlpjgifoneaaGreat
