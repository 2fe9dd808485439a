/- Layer 57, plainly. -/
import Derived.Test.YtidhlpjgifoneaaGreatK35
import Derived.Test.YtidhlpjgifoneaaGreatRows
import Derived.ProofKit
import Derived.Lib.SmallJoins
import Derived.Deep.Slices
import Derived.Below
import Derived.OpenShut
import Derived.JoinedCond
set_option linter.unusedVariables false
set_option linter.unusedSimpArgs false
namespace Go.Proofs.YtidhlpjgifoneaaGreat
open Go.RowKit List
variable {a:Aut}{l:List Ev}
theorem ynl (h:GS a l):∃ c:List (List Bool),z86 N0 a=some c/\ShB a.fStates.length c/\∀ s y:Nat,MB c s y ↔ y<16/\Rd a s (y:Int) :=
 yo1 h.wf h.ok (fun x e=>(h.wf.ed x e).lc) (by have:=h.edges;omega)
theorem yrv (h:GS a l){i:Nat}(hi:i<=l.length){cs:List Cf}(g:Sb a l i cs)(e:Ev):z9p N0 a l cs e=some (cfN a l cs e,maN a l cs e) :=
 yqo h.cx h.edges (kk:=i+20) (by have:=h.len;omega) e cs (fun c f=>(g.gd h hi c f).cb) (by have:=g.len h hi;omega)
theorem y7f (h:GS a l)(red:Bool)(c:List (List Bool))(f:List Cf->List Cf)(j:∀ i cs,Sb a l i cs->Sb a l i (f cs))(q:red=false->f=id)(h1:red=true->∀ i cs,i<=l.length->Sb a l i cs->zb6 N0 c cs=some (f cs)) :
  ∀ (m i:Nat) (cs:List Cf) (out:List (List Cf)),i<=l.length->l.length<m+i->(s:out.length=i+1)->out[i]=cs->Sb a l i cs->z2l N0 red l a c (fun y=>some (y,0)) m ((i:Int),out)=some (bS f a l (l.drop i) cs out)
 |0,i,cs,out,h1,w,_,_,_=>by omega
 |m+1,i,cs,out,A,z,x,r,g=>by
  have k:=h.len;unfold z2l;simp only [length_map,z0f];by_cases hi:i<l.length
  ·have e:=g.next h hi;have o:=e.len h (by omega);have n:=(g.ma h hi).2;rw [if_pos (by omega),zeu (by omega),zia (by omega),r,z0r hi,yrv h (by omega) g,z05,z3g,z1s,if_neg (by grind)];unfold z5m;rw [z0f,if_neg (by grind),z0f,z3g,z1s,drop_eq_getElem_cons hi,y67,length_map];by_cases hm:maN a l cs l[i]=[]
   ·rw [if_neg (by simp_all),if_pos hm];have step:z3m N0 red l a c ((i:Int),out) (z2l N0 red l a c (fun y=>some (y,0)) m) (f (cfN a l cs l[i]))=some (bS f a l (l.drop (i+1)) (f (cfN a l cs l[i])) (out++[f (cfN a l cs l[i])])):=by
     unfold z3m;rw [y66,zcu (by simp;omega) (by omega),z27 i (by omega)];exact y7f h red c f j q h1 m (i+1) (f (cfN a l cs l[i])) (out++[f (cfN a l cs l[i])]) (by omega) (by omega) (by simp;omega) (by simp_all) (j _ _ e)
    cases red with
    |false =>
     rw [zae];simp_all
    |true =>
     rw [z9u,h1 rfl (i+1) _ (by omega) e,z05];exact step
   simp_all
  ·rw [if_neg (by omega),drop_eq_nil_of_le (by omega)];rfl
theorem ypw (h:GS a l){c:List (List Bool)}(e:z86 N0 a=some c)(red:Bool)(f:List Cf->List Cf)(g:∀ i cs,Sb a l i cs->Sb a l i (f cs))(j:red=false->f=id)(h1:red=true->∀ i cs,i<=l.length->Sb a l i cs->zb6 N0 c cs=some (f cs)) :
  zcd N0 a l red=some (bS f a l l [cf0] [[cf0]]):=by
 have:=y7f h red c f g j h1 N0 0 [cf0] [[cf0]] (Nat.zero_le _) (by have:=h.len;unfold N0;omega) rfl rfl (sb0 a l);unfold zcd;have k:z9x N0=some cf0:=rfl;rw [e,z05,k,z05,y66,yne];simpa using this
theorem yrc (c:WfA a)(f:z87 N0 a l=some true):∃ e:Int,z3t N0 a l=some e/\z3e N0 a l=some e/\(e=0->GS a l):=by
 obtain ⟨b,i,n⟩:=ybg a c l;rw [f] at i;obtain rfl:=Option.some.inj i;obtain ⟨_,o,_⟩:=n rfl;obtain ⟨r,k,j,_⟩:=y4d N0 (by decide) a c;have key:∃ e:Int,z3t N0 a l=some e/\z3e N0 a l=some e:=by
  unfold z3t z3e;rw [k,j,z05,z05,yod N0 l (by unfold N0;omega) (by decide) (by omega),yi1 N0 l (by unfold N0;omega) (by omega),z05,z12,z0f];by_cases h:r=0
  ·simp_all
  ·simp_all
 obtain ⟨e,m,g⟩:=key;exact ⟨e,m,g,fun h=>GS.of c f (by rw [g,h])⟩
theorem yno (h:GS a l)(g:z3e N0 a l=some 0):z54 N0 a l=z3u N0 a l:=by
 obtain ⟨j,c,_⟩:=ynl h;unfold z54 z3u;rw [g,zzs h,z05,z05,ypw h c false id (fun i cs f=>f) (fun _=>rfl) (fun e=>by cases e),yml h]
theorem yhg (h:GS a l){f:List Cf->List Cf}(e:Ch a l f):(refS f a l).length<=1000000/\∀ x∈refS f a l,x.length<=1000000/\∀ c∈x,cfOk c=true:=by
 refine ⟨?_,yh9 h (ymh h e).1⟩;have h1:=h.len;have g:=(ymh h e).1.ln;omega
theorem y2j:z6p N0 ⟨[]⟩ ⟨[]⟩=some true:=ymm (A:=[]) (by simp) (fun x c=>by cases c)
theorem y8q (a:Aut)(n:WfA a)(l:List Ev):z82 N0 a l=some true:=by
 have c:z8a N0=some true:=ygn;obtain ⟨b,q,_⟩:=ybg a n l;unfold z82;rw [q,z05,z12];cases b with
 |false=>rw [zae,c,z05]
 |true =>
  obtain ⟨e,D,o,C⟩:=yrc n q;have key:∀ (S:List (List Cf)) (x:Int),z6p N0 ⟨S⟩ ⟨S⟩=some true->z3u N0 a l=some (⟨S⟩,x)->z54 N0 a l=some (⟨S⟩,x)->(bnd (z3u N0 a l) fun k=>bnd (z54 N0 a l) fun j=>jon (z0y N0) <| reg <| bnd (z6p N0 k.1 j.1) fun w=>cnd (w) (cnd (decide (k.2=j.2)) (bnd (z8a N0) fun s=>z0y N0 s) <| z0y N0 false) <| z0y N0 false)=some true:=fun S x h1 B A=>by
   rw [B,A,z05,z05,z3g,z1s,h1,z05,z9u,z0f,if_pos rfl,c,z05];unfold z0y;rfl
  rw [z9u];by_cases i:e=0
  ·have h:=C i;have f:=yoe h;have g:=yno h (by rw [o,i]);cases hm:msI a l l.length with
   |nil =>
    rw [hm] at f;obtain ⟨z,y⟩:=yhg h (yra a l);exact key _ _ (ymm z y) f (g.trans f)
   |cons m r =>
    rw [hm] at f;exact key _ _ y2j f (g.trans f)
  ·refine key [] e y2j ?_ ?_
   ·unfold z3u;rw [D,z05,z12,z0f,if_neg i]
   ·unfold z54;rw [o,z05,z12,z0f,if_neg i]
theorem ya2 (a:z07)(c:WfA a)(l:List z03):Con E0 true 3 [z0m a,.sl 5 (l.map z02)] (.bool true):=zi5 (y8q a c l)
open Go.ChangeShapes Go.WideShapes Go.ChangeAt
theorem yma {w:World}{S:Nat->Prop}{a b:AV}{x y:Value}(f:Rep w S G0 a x)(e:Rep w S G0 b y):Args w S [a,b] #[x,y] :=
 ⟨rfl,fun i hi=>by
  have c:i<2:=hi;rcases i with _|_|i
  ·exact f
  ·exact e
  ·omega⟩
theorem ylc:ownKnob Tryz.prog.godebug=none:=by kernel_rfl
theorem ylh:laidOutB Tryz.prog=true:=by kernel_rfl
section
variable {H:Type} {enc:TypeId×Value->H}
theorem zva {W W':World}{sp':Nat->Bool}(m:Below W.heap.size W W')(e:List TypeId):∀ (vs:List Value) (ds:List (DataW H)) (p:List MemPlace),e.all (fun t=>Tryz.prog.readableRec t && decide (t<Tryz.prog.types.size))=true ->
  DataW.TrodAll enc Tryz.prog W 0 (fun _=>true) true e vs ds p->(∀ x∈p,x.block<W.heap.size)->(∀ x∈p,sp' x.block=true)->DataW.TrodAll enc Tryz.prog W' 0 sp' true e vs ds p:=by
 induction e with
 |nil =>
  intro vs ds p _ h _ _
  match vs,ds,h with
  |[],[],h=>exact h
  |_::_,_,h=>exact h.elim
  |[],_::_,h=>exact h.elim
 |cons t e ih =>
  intro vs ds p k h g j
  match vs,ds,h with
  |v::vs,d::ds,h =>
   obtain ⟨q,r,h1,n,rfl⟩:=h;have f:Tryz.prog.readableRec t=true/\t<Tryz.prog.types.size:=by
    have:=all_eq_true.mp k t (mem_cons_self ..);rw [Bool.and_eq_true,decide_eq_true_eq] at this;exact this
   have i:e.all (fun t=>Tryz.prog.readableRec t && decide (t<Tryz.prog.types.size))=true :=
    all_eq_true.mpr fun x c=>all_eq_true.mp k x (mem_cons_of_mem _ c)
   exact ⟨q,r,WideElems.Trod_stays ylh f.1 f.2 h1 (fun x c=>m.same (g x (mem_append_left _ c))) (fun x c=>j x (mem_append_left _ c)),
    ih vs ds r i n (fun x c=>g x (mem_append_right _ c)) (fun x c=>j x (mem_append_right _ c)),rfl⟩
  |[],_,h=>exact h.elim
  |_::_,[],h=>exact h.elim
theorem yau {W:World}{b:Nat}{sp:Nat->Bool}(c:List TypeId):∀ (vs:List Value) (ds:List (DataW H)) (p:List MemPlace),DataW.TrodAll enc Tryz.prog W b sp true c vs ds p->ds.length=c.length:=by
 induction c with
 |nil =>
  intro vs ds p h
  match vs,ds,h with
  |[],[],h=>rfl
  |_::_,_,h=>exact h.elim
  |[],_::_,h=>exact h.elim
 |cons t c e =>
  intro vs ds p h
  match vs,ds,h with
  |v::vs,d::ds,h =>
   obtain ⟨q,r,h1,f,rfl⟩:=h;simp only [length_cons];rw [e vs ds r f]
  |[],_,h=>exact h.elim
  |_::_,[],h=>exact h.elim
end
section
variable {H:Type} {enc:TypeId×Value->H}
set_option maxRecDepth 100000 in
theorem yby (F:Stop.Interp)(O:Os)(started:O.Started){f:FuncId}{fn:Func}{s:ChangeSpec}{fr:Bool}(hf:Tryz.prog.funcs[f]? = some fn)(R:Tryz.prog.inits.idxOf? f=none)
  (hw:∃ (w:World) (tape:Tape) (i:Input),w.os=O/\(w.forCall tape i).Shaped Tryz.checked.prog/\i.vars=[]/\Input.okWide Tryz.checked.prog (w.forCall tape i) .any w.heap.size f i /\
    (Rows.OpenSpec.upto s).pre6 enc Tryz.checked.prog fn [] false (w.forCall tape i).memory i.args/\Assume.holds {} Tryz.checked.prog (lone (Frame.enter Tryz.checked.prog f i.args .normal) [] (w.forCall tape i)))
  (c:s.vars=[]) (m:fn.resultTypes=#[4]) (n:fn.params.toList.all (fun t=>Tryz.prog.readableRec t && decide (t<Tryz.prog.types.size))=true)
  (y:∀ ds:List (DataW H),ds.length=fn.params.size->s.fn H ds={ results:=[.lit (.bool true)],args:=ds })
  (A:∀ (W:World) (base:Nat) (args:Array Value) (ds:List (DataW H)) (p:List MemPlace),(∀ (j:Nat) t v,fn.params[j]? = some t->args[j]? = some v->Value.okWide Tryz.prog W .any base t v) ->
    DataW.TrodAll enc Tryz.prog W 0 (fun _=>true) true fn.params.toList args.toList ds p->Rows.uptoBulkAll ds<=1048576->∃ avs,Args W (fun _=>True) avs args/\Con E0 fr f avs (.bool true)) :
  ReturnsInHanded {} Tryz.checked O f .any ((Rows.OpenSpec.upto s).pre6 enc Tryz.prog fn [] false) (((Rows.OpenSpec.upto s).at F).post enc Tryz.prog fn false true false false):=by
 refine returnsInHanded_of_cond (C:=Tryz.checked) (s:=Rows.OpenSpec.upto s) (k:=Rows.uptoSmall) rfl ylc started R hf hw ?_;intro W base args ds gs before D Y X hk _;show Calls Tryz.checked.prog f args W fun e W'=>∃ v,e=.returned v/\s.post enc Tryz.prog fn false true false false W args v W'
 have L:=Y;obtain ⟨p,q,N,Z,rfl,S,aa⟩:=Y;have I:∀ x∈p++q,x.block<W.heap.size:=fun x g=>DataW.Whole.lt L x g
 rw [show (Rows.OpenSpec.upto s).vars=s.vars from rfl,c] at Z;obtain ⟨rfl,rfl⟩:=trodVars_none Z;have U:Rows.uptoBulkAll ds<=1048576:=by
  have:=of_decide_eq_true hk
  rwa [append_nil] at this
 obtain ⟨avs,B,K⟩:=A W base args ds p D N U;refine (K.2 (fun _=>True) W args B).mono fun e W' ⟨v,he,⟨M,_⟩,P⟩=>?_
 have P:=P.bool_inv;subst P;subst he;have T:ds.length=fn.params.size:=(yau _ _ _ _ N).trans (by simp);have z:s.fn H (ds++[])={ results:=[.lit (.bool true)],args:=ds }:=by rw [append_nil];exact y ds T
 have o:∀ x∈p,x.block<W.heap.size:=fun x g=>I x (by simp [g])
 have k0:=zva (sp':=fun b=>decide (b<W.heap.size)) M _ _ _ _ n N o (fun x g=>by simpa using o x g);have k1:=zva (sp':=fun _=>true) M _ _ _ _ n N o (fun x g=>rfl);have G:(Value.bool true).resultList fn.resultTypes.size=[.bool true]:=by rw [m];rfl
 have E:fn.resultTypes.toList=[4]:=by rw [m]
 refine ⟨_,rfl,ds,[],_,[],p,[],L,?_,?_,?_,World.keptBut_mono (fun x g=>⟨g,?_⟩) (M.frame (·∈p++[])),fun h=>?_⟩
 ·rw [z,E,G];exact trodAll_mk1 (shut_bool Tryz.underlying4 true)
 ·rw [z];exact k0
 ·rw [z,c];exact rfl
 ·exact Or.inr (Or.inl (by simpa using g))
 ·rw [E,G,c];refine ⟨?_,[.lit (.bool true)]++ds,[],p,⟨p,[],?_,rfl,by simp,?_,fun h=>by simp at h⟩,?_⟩
  ·rw [m];intro j t r ht V
   match j with
   |0 =>
    obtain rfl:4=t:=Option.some.inj ht;obtain rfl:Value.bool true=r:=Option.some.inj V;exact okWide_bool_mk Tryz.underlying4 true
   |j+1=>exact absurd V (by simp)
  ·exact trodAll_append k1 (trodAll_mk1 (shut_bool Tryz.underlying4 true))
  ·intro b off hp;have J:MemPlace.cell b off∈p++[]:=by simpa using hp
   rw [M.frozen (I _ J)];exact S b off J
  ·intro x g _;simpa using g
end
open Go.Joins Go.Deep
section
variable {H:Type} {enc:TypeId×Value->H} {W:World} {base:Nat} {v:Value} {d:DataW H} {p:List MemPlace}
variable {u:Value}
theorem y72 {a:Addr}(h:W.cell? a=some u):a.spot=none/\a.block<W.heap.size:=by
 unfold World.cell? at h;split at h
 ·rename_i c _ _ g;split at h
  ·cases h
  ·rename_i i;refine ⟨by cases j:a.spot with|none=>rfl|some _=>simp [j] at i,?_⟩;rcases Nat.lt_or_ge a.block W.heap.size with e|f
   ·exact e
   ·rw [Array.getElem?_eq_none f] at g;cases g
 ·cases h
theorem zxv (b off k:Nat):(⟨b,off,none⟩:Addr).add k=⟨b,off+k,none⟩:=by
 by_cases h:k=0<;>simp [Addr.add,h]
variable {α:Type}
theorem y8m {i:Type}{f:α->Option i}:∀ {l:List α} {r:List i},l.mapM f=some r->r.length=l.length/\∀ k (c:k<l.length) (j:k<r.length),f l[k]=some r[k]
 |[],r,h=>by simp at h;subst h;exact ⟨rfl,fun k c=>absurd c (by simp)⟩
 |a::l,r,h=>by
  simp only [mapM_cons] at h;cases g:f a with
  |none=>rw [g] at h;simp at h
  |some b =>
   rw [g] at h;cases e:l.mapM f with
   |none=>rw [e] at h;simp at h
   |some s =>
    rw [e] at h;simp at h;subst h;obtain ⟨n,m⟩:=y8m e;refine ⟨by simp [n],fun k c j=>?_⟩;cases k with
    |zero=>exact g
    |succ k=>exact m k (by simpa using c) (by simpa using j)
theorem ztf {a:Addr}{n:Nat}{cs:List Value}(h:W.cells? 0 a n=some cs):cs.length=n/\∀ j,j<n->W.cell? (a.add j)=some (cs.getD j undef):=by
 unfold World.cells? at h;rw [if_pos (Nat.zero_le _)] at h;obtain ⟨e,c⟩:=y8m h;have f:cs.length=n:=by simpa using e
 refine ⟨f,fun j g=>?_⟩;have:=c j (by simpa using g) (by omega);rw [getElem_range] at this;rw [this];simp [getElem?_eq_getElem (show j<cs.length by omega)]
set_option maxRecDepth 100000
def zxc (W:World)(a:α->AV)(m:α)(cs:List Value):Prop:=cs.length=(a m).cells.length/\∀ j (c:j<(a m).cells.length),Rep W (fun _=>True) G0 ((a m).cells[j]) (cs.getD j undef)/\(cs.getD j undef).oneCell'=true
variable {sz:Nat}
theorem yh8 {a:α->AV}{t e:TypeId}(N:Tryz.prog.underlying t=some (.slice e))(z:Tryz.prog.cellsOf e=sz)(O:0<sz)(M:Inhabited α)(g:∀ m,(a m).cells.length=sz)
  (each:∀ (n:Nat) (cs:List Value) (x:DataW H×List MemPlace),cs.length=sz->DataW.trod enc Tryz.prog W 0 (fun _=>true) true n e cs=some x->∃ m:α,zxc W a m cs)
  {n:Nat}  {x:DataW H×List MemPlace} (h:DataW.trod enc Tryz.prog W 0 (fun _=>true) true n t [u]=some x):∃ l:List α,Rep W (fun _=>True) G0 (.sl sz (l.map a)) u:=by
 rcases open_slice N h with ⟨h1,_⟩|⟨A,len,R,m,L,D,Pl,h1,_,C,hm,y,_,J⟩
 ·simp only [List.cons.injEq,and_true] at h1;subst h1;exact ⟨[],.sl none 0 (fun _ _=>.bool true) (by simp) (fun k c=>absurd c (by simp)) (fun h=>absurd h (by simp)) (fun k c=>absurd c (by simp)) (fun _ _=>rfl)⟩
 ·simp only [List.cons.injEq,and_true] at h1;subst h1;simp only [if_true] at y;subst y;rw [z] at J;have every:∀ i,∃ q:α×List Value,i<len->W.cells? 0 (A.add (i*sz)) sz=some q.2/\zxc W a q.1 q.2:=fun i=>by
   by_cases hi:i<len
   ·obtain ⟨cs,K,S⟩:=J i (by omega);obtain ⟨k,c⟩:=each L cs _ (ztf K).1 S;exact ⟨(k,cs),fun _=>⟨K,c⟩⟩
   ·exact ⟨(M.default,[]),fun h=>absurd h hi⟩
  obtain ⟨f,F⟩:=Classical.axiomOfChoice every;have T:((range len).map fun i=>(f i).1).length=len:=by simp
  refine ⟨(range len).map fun i=>(f i).1,?_⟩;have e:len=(((range len).map fun i=>(f i).1).map a).length:=by simp
  have r:∀ k j,k<len->j<sz->W.cell? ((A.add (k*sz)).add j)=some ((f k).2.getD j undef):=fun k j c w=>(ztf (F k c).1).2 j w
  have:Rep W (fun _=>True) G0 (.sl sz (((range len).map fun i=>(f i).1).map a)) (.slice (some A) (((range len).map fun i=>(f i).1).map a).length m):=by
   refine .sl (some A) m (fun k j=>if k<len/\j<sz then (f k).2.getD j undef else .bool true) (by simpa using C) (fun k c=>?_) (fun G=>?_) (fun k c j w=>?_) (fun k j=>?_)
   ·simp only [getElem_map];exact g _
   ·have B:0<len:=by simpa using G
    have I:=y72 (r 0 0 B O);obtain ⟨b,off,sp⟩:=A;have P:sp=none:=by simpa [Addr.add] using I.1
    subst P;rw [zxv,zxv] at I;refine ⟨b,off,rfl,trivial,I.2,fun k j c w=>?_⟩;have o:k<len:=by simpa using c
    have:=r k j o w;rw [zxv,zxv] at this;rw [if_pos ⟨o,w⟩,<-this];congr 2;omega
   ·have o:k<len:=by simpa using c
    simp only [getElem_map,getElem_range] at w ⊢;have E:j<sz:=by rw [g] at w;exact w
    rw [if_pos ⟨o,E⟩];exact ((F k o).2.2 j w).1
   ·by_cases s:k<len/\j<sz
    ·rw [if_pos s];exact ((F k s.1).2.2 j (by rw [g];exact s.2)).2
    ·rw [if_neg s];rfl
  rw [<-e] at this;exact this
theorem Rep.one_sl {xs:List AV}(h:Rep W (fun _=>True) G0 (.sl sz xs) u):u.oneCell'=true:=by
 cases h;rfl
theorem yfl {a:α->AV}{t e:TypeId}(g:Tryz.prog.underlying t=some (.slice e))(f:Tryz.prog.cellsOf e=sz)(o:0<sz)(i:Inhabited α)(c:∀ m,(a m).cells.length=sz)
  (each:∀ (n:Nat) (cs:List Value) (x:DataW H×List MemPlace),cs.length=sz->DataW.trod enc Tryz.prog W 0 (fun _=>true) true n e cs=some x->∃ m:α,zxc W a m cs)
  (j:Value.okWide Tryz.prog W .any base t v) (h:DataW.Trod enc Tryz.prog W 0 (fun _=>true) true t v d p):∃ l:List α,Rep W (fun _=>True) G0 (.sl sz (l.map a)) v:=by
 obtain ⟨A,len,q,rfl⟩:=okWide_slice g j;obtain ⟨fuel,k⟩:=h;exact yh8 g f o i c each k
theorem yrg {a:α->AV}{m:α}{cs:Array Value}{xs:List AV}(hm:a m=.agg xs)(h:zxc W a m cs.toList):Rep W (fun _=>True) G0 (a m) (.agg cs):=by
 obtain ⟨h1,c⟩:=h;rw [hm] at h1 c ⊢;have e:cs.size=xs.length:=by simpa [AV.cells] using h1
 have g:∀ i,cs.toList.getD i undef=cs.getD i undef:=fun i=>by
  by_cases hi:i<cs.size
  ·simp [Array.getD,hi]
  ·simp [Array.getD,hi]
 refine .agg _ e (fun i hi=>?_) (fun i hi=>?_)
 ·have:=(c i hi).1;rw [g] at this;exact this
 ·have:=(c i (show i<xs.length by rw [<-e];exact hi)).2;rw [g] at this;exact this
end
section
variable {H:Type} {enc:TypeId×Value->H} {W:World} {base:Nat} {v:Value} {d:DataW H} {p:List MemPlace}
set_option maxRecDepth 100000
def zcw (W:World)(xs:List AV)(cs:List Value):Prop:=cs.length=xs.length/\∀ j (c:j<xs.length),Rep W (fun _=>True) G0 (xs[j]) (cs.getD j undef)/\(cs.getD j undef).oneCell'=true
theorem zcw.one {a:AV}{c:Value}(h:Rep W (fun _=>True) G0 a c)(h1:c.oneCell'=true):zcw W [a] [c]:=by
 refine ⟨rfl,fun j f=>?_⟩;have e:j<1:=f;rcases j with _|j
 ·exact ⟨h,h1⟩
 ·omega
variable {cs:List Value}
theorem zcw.append {xs ys:List AV}{ds:List Value}(h1:zcw W xs cs)(f:zcw W ys ds):zcw W (xs++ys) (cs++ds):=by
 refine ⟨by rw [length_append,length_append,h1.1,f.1],fun j g=>?_⟩;by_cases h:j<xs.length
 ·have:=h1.2 j h;rw [getElem_append_left h];have e:(cs++ds).getD j undef=cs.getD j undef:=by
   simp only [getD_eq_getElem?_getD];rw [getElem?_append_left (by rw [h1.1];exact h)]
  rw [e];exact this
 ·have c:j-xs.length<ys.length:=by rw [length_append] at g;omega
  have:=f.2 (j-xs.length) c;rw [getElem_append_right (by omega)];have e:(cs++ds).getD j undef=ds.getD (j-xs.length) undef:=by
   simp only [getD_eq_getElem?_getD];rw [getElem?_append_right (by rw [h1.1];omega),h1.1]
  rw [e];exact this
theorem zcw.cut {o s:Nat}{xs ys:List AV}(h1:zcw W xs ((cs.drop o).take s))(c:zcw W ys (cs.drop (o+s))):zcw W (xs++ys) (cs.drop o):=by
 have:cs.drop o=(cs.drop o).take s++cs.drop (o+s):=by rw [<-drop_drop,take_append_drop]
 rw [this];exact h1.append c
theorem zcw.done {o:Nat}(h:cs.length<=o):zcw W [] (cs.drop o):=by
 rw [drop_eq_nil_of_le h];exact ⟨rfl,fun j c=>absurd c (by simp)⟩
theorem z84 {o s:Nat}(h:o+s<=cs.length):((cs.drop o).take s).length=s:=by rw [length_take,length_drop];omega
abbrev FO (enc:TypeId×Value->H)(W:World)(t:TypeId)(sz:Nat){α:Type}(e:α->List AV):Prop:=∀ (n:Nat) (cs:List Value) (x:DataW H×List MemPlace),cs.length=sz->DataW.trod enc Tryz.prog W 0 (fun _=>true) true n t cs=some x->∃ m:α,zcw W (e m) cs
variable {t:TypeId}
theorem zhi (c:Tryz.prog.underlying t=some (.int .i64)):FO enc W t 1 (fun z:Int=>[aI z]):=fun n cs x e h=>by
 obtain ⟨z,rfl,_⟩:=DataW.trod_int (k:=.i64) c h;exact ⟨z,.one (.int _ _) rfl⟩
theorem yqy (c:Tryz.prog.underlying t=some .string):FO enc W t 1 (fun z:ByteArray=>[AV.str z]):=fun n cs x e h=>by
 obtain ⟨z,rfl,_⟩:=DataW.trod_string c h;exact ⟨z,.one (.str _) rfl⟩
theorem ys6 {e:TypeId}{sz:Nat}{α:Type}{a:α->AV}(k:Tryz.prog.underlying t=some (.slice e))(i:Tryz.prog.cellsOf e=sz)(o:0<sz)(j:Inhabited α)(f:∀ m,(a m).cells.length=sz)
  (each:FO enc W e sz (fun m:α=>(a m).cells)):FO enc W t 1 (fun l:List α=>[AV.sl sz (l.map a)]):=fun n cs x g h=>by
 match cs,g with
 |[c],_ =>
  obtain ⟨l,g⟩:=yh8 (a:=a) k i o j f each h;exact ⟨l,.one g g.one_sl⟩
theorem yoz (c:Tryz.prog.underlying t=some (.int .i64)):FO enc W t 1 (fun z:Int=>(aI z).cells):=zhi c
theorem yjw {α:Type}{a:α->AV}{e:TypeId}{sz:Nat}(j:Tryz.prog.underlying t=some (.slice e))(f:Tryz.prog.cellsOf e=sz)(k:0<sz)(g:Inhabited α)(c:∀ m,(a m).cells.length=sz)
  (each:FO enc W e sz (fun m:α=>(a m).cells)) (i:Value.okWide Tryz.prog W .any base t v) (h:DataW.Trod enc Tryz.prog W 0 (fun _=>true) true t v d p):∃ l:List α,Rep W (fun _=>True) G0 (.sl sz (l.map a)) v :=
 yfl j f k g c each i h
end
theorem yrd {H:Type}(d:DataW H):1<=Rows.uptoBulk d:=by
 cases d with
 |lit l=>cases l<;>simp [Rows.uptoBulk]
 |nil=>simp [Rows.uptoBulk]
 |ptr d=>simp [Rows.uptoBulk]
 |slice elems spare=>simp [Rows.uptoBulk]
 |agg parts=>simp [Rows.uptoBulk]
 |iface t d=>simp [Rows.uptoBulk]
 |map entries=>simp [Rows.uptoBulk]
 |held h=>simp [Rows.uptoBulk]
theorem yre {H:Type}{d:DataW H}{l:List (DataW H)}(h:d∈l):Rows.uptoBulk d<=Rows.uptoBulkAll l:=by
 induction l with
 |nil=>cases h
 |cons x r ih =>
  simp only [Rows.uptoBulkAll];rcases mem_cons.1 h with e|e
  ·subst e;omega
  ·have:=ih e;omega
variable {α:Type}
def SlQ (Q:Nat->α->Prop)(b:Nat)(l:List α):Prop:=∃ c:List (Nat×α),c.map (·.2)=l/\(∀ p∈c,1<=p.1/\Q p.1 p.2)/\(c.map (·.1)).sum<b
variable {Q:Nat->α->Prop}{b:Nat}
theorem SlQ.len {l:List α}(h:SlQ Q b l):l.length<b:=by
 obtain ⟨c,rfl,f,e⟩:=h;rw [length_map];refine Nat.lt_of_le_of_lt ?_ e;clear e
 induction c with
 |nil=>simp
 |cons p c ih =>
  have:=(f p (by simp)).1;have:=ih (fun q g=>f q (mem_cons_of_mem _ g));simp only [map_cons,sum_cons,length_cons];omega
theorem SlQ.mem {l:List α}(h:SlQ Q b l):∀ m∈l,∃ i,i < b/\Q i m:=fun m hm=>by
 obtain ⟨c,rfl,g,j⟩:=h;obtain ⟨p,f,rfl⟩:=mem_map.1 hm;refine ⟨p.1,?_,(g p f).2⟩;have:p.1<=(c.map (·.1)).sum:=by
  clear g j hm
  induction c with
  |nil=>cases f
  |cons x c ih =>
   simp only [map_cons,sum_cons];rcases mem_cons.1 f with e|e
   ·subst e;omega
   ·have:=ih e;omega
 omega
section
variable {H:Type} {enc:TypeId×Value->H} {W:World} {base:Nat} {v:Value} {d:DataW H} {p:List MemPlace}
set_option maxRecDepth 100000
variable {t:TypeId}{sz:Nat}
theorem yko {a:α->AV}{e:TypeId}(T:Tryz.prog.underlying t=some (.slice e))(E:Tryz.prog.cellsOf e=sz)(X:0<sz)(S:Inhabited α)(g:∀ m,(a m).cells.length=sz)
   {n:Nat} {u:Value} {x:DataW H×List MemPlace} (each:∀ (n:Nat) (cs:List Value) (y:DataW H×List MemPlace),Rows.uptoBulk y.1<Rows.uptoBulk x.1->cs.length=sz->DataW.trod enc Tryz.prog W 0 (fun _=>true) true n e cs=some y->∃ m:α,zxc W a m cs/\Q (Rows.uptoBulk y.1) m)
  (h:DataW.trod enc Tryz.prog W 0 (fun _=>true) true n t [u]=some x):∃ l:List α,Rep W (fun _=>True) G0 (.sl sz (l.map a)) u/\SlQ Q (Rows.uptoBulk x.1) l:=by
 rcases open_slice T h with ⟨h1,C⟩|⟨A,len,Z,m,P,D,Pl,h1,_,I,hm,z,C,N⟩
 ·simp only [List.cons.injEq,and_true] at h1;subst h1;exact ⟨[],.sl none 0 (fun _ _=>.bool true) (by simp) (fun k c=>absurd c (by simp)) (fun h=>absurd h (by simp)) (fun k c=>absurd c (by simp)) (fun _ _=>rfl),[],rfl,by simp,by rw [C];simp [Rows.uptoBulk]⟩
 ·simp only [List.cons.injEq,and_true] at h1;subst h1;simp only [if_true] at z;subst z;rw [E] at N;have K:Rows.uptoBulkAll ((range len).map D)<Rows.uptoBulk x.1:=by
   rw [C];simp only [Rows.uptoBulk];omega
  have every:∀ i,∃ q:α×List Value,i<len->W.cells? 0 (A.add (i*sz)) sz=some q.2/\zxc W a q.1 q.2/\Q (Rows.uptoBulk (D i)) q.1:=fun i=>by
   by_cases hi:i<len
   ·obtain ⟨cs,O,c2⟩:=N i (by omega);have F:Rows.uptoBulk (D i)<Rows.uptoBulk x.1:=by
     have:=yre (l:=(range len).map D) (mem_map.2 ⟨i,mem_range.2 hi,rfl⟩);omega
    obtain ⟨k,c,U⟩:=each P cs _ F (ztf O).1 c2;exact ⟨(k,cs),fun _=>⟨O,c,U⟩⟩
   ·exact ⟨(S.default,[]),fun h=>absurd h hi⟩
  obtain ⟨f,B⟩:=Classical.axiomOfChoice every;have hl:((range len).map fun i=>(f i).1).length=len:=by simp
  refine ⟨(range len).map fun i=>(f i).1,?_,(range len).map (fun i=>(Rows.uptoBulk (D i),(f i).1)),by simp,?_,?_⟩;rotate_left
  ·intro p V;obtain ⟨i,hi,rfl⟩:=mem_map.1 V;exact ⟨yrd _,(B i (mem_range.1 hi)).2.2⟩
  ·rw [map_map];have:∀ l:List Nat,(l.map ((fun p:Nat×α=>p.1) ∘ fun i=>(Rows.uptoBulk (D i),(f i).1))).sum=Rows.uptoBulkAll (l.map D):=fun l=>by
    induction l with
    |nil=>simp [Rows.uptoBulkAll]
    |cons i l R=>simp only [map_cons,sum_cons,R,Rows.uptoBulkAll,Function.comp]
   rw [this];exact K
  have e:len=(((range len).map fun i=>(f i).1).map a).length:=by simp
  have r:∀ k j,k<len->j<sz->W.cell? ((A.add (k*sz)).add j)=some ((f k).2.getD j undef):=fun k j c w=>(ztf (B k c).1).2 j w
  have:Rep W (fun _=>True) G0 (.sl sz (((range len).map fun i=>(f i).1).map a)) (.slice (some A) (((range len).map fun i=>(f i).1).map a).length m):=by
   refine .sl (some A) m (fun k j=>if k<len/\j<sz then (f k).2.getD j undef else .bool true) (by simpa using I) (fun k c=>?_) (fun L=>?_) (fun k c j w=>?_) (fun k j=>?_)
   ·simp only [getElem_map];exact g _
   ·have G:0<len:=by simpa using L
    have M:=y72 (r 0 0 G X);obtain ⟨b,off,sp⟩:=A;have Y:sp=none:=by simpa [Addr.add] using M.1
    subst Y;rw [zxv,zxv] at M;refine ⟨b,off,rfl,trivial,M.2,fun k j c w=>?_⟩;have o:k<len:=by simpa using c
    have:=r k j o w;rw [zxv,zxv] at this;rw [if_pos ⟨o,w⟩,<-this];congr 2;omega
   ·have o:k<len:=by simpa using c
    simp only [getElem_map,getElem_range] at w ⊢;have J:j<sz:=by rw [g] at w;exact w
    rw [if_pos ⟨o,J⟩];exact ((B k o).2.1.2 j w).1
   ·by_cases s:k<len/\j<sz
    ·rw [if_pos s];exact ((B k s.1).2.1.2 j (by rw [g];exact s.2)).2
    ·rw [if_neg s];rfl
  rw [<-e] at this;exact this
abbrev FQ (enc:TypeId×Value->H)(W:World)(t:TypeId)(sz:Nat){α:Type}(e:α->List AV)(Q:Nat->α->Prop)(B:Nat):Prop:=∀ (n:Nat) (cs:List Value) (x:DataW H×List MemPlace),Rows.uptoBulk x.1<B->cs.length=sz->DataW.trod enc Tryz.prog W 0 (fun _=>true) true n t cs=some x->∃ m:α,zcw W (e m) cs/\Q (Rows.uptoBulk x.1) m
theorem zr0 {B:Nat}{e:α->List AV}(h:FO enc W t sz e):FQ enc W t sz e (fun _ _=>True) B:=fun n cs x _ f c=>by
 obtain ⟨m,hm⟩:=h n cs x f c;exact ⟨m,hm,trivial⟩
theorem y4r {e:TypeId}{B:Nat}{a:α->AV}(k:Tryz.prog.underlying t=some (.slice e))(i:Tryz.prog.cellsOf e=sz)(q:0<sz)(j:Inhabited α)(g:∀ m,(a m).cells.length=sz)
  (each:FQ enc W e sz (fun m:α=>(a m).cells) Q B):FQ enc W t 1 (fun l:List α=>[AV.sl sz (l.map a)]) (SlQ Q) B:=fun n cs x s f h=>by
 match cs,f with
 |[c],_ =>
  obtain ⟨l,f,o⟩:=yko (a:=a) k i q j g (fun n cs y r f h=>each n cs y (by omega) f h) h;exact ⟨l,.one f f.one_sl,o⟩
theorem ycy {fs:Array Field}{a:α->AV}(i:Tryz.prog.underlying t=some (.struct fs))(c:Tryz.prog.cellsOf t=sz)(n:∀ m,∃ xs,a m=.agg xs)(each:∀ B,FQ enc W t sz (fun m:α=>(a m).cells) Q B)
  (g:Value.okWide Tryz.prog W .any base t v) (h:DataW.Trod enc Tryz.prog W 0 (fun _=>true) true t v d p):∃ m:α,Rep W (fun _=>True) G0 (a m) v/\Q (Rows.uptoBulk d) m:=by
 obtain ⟨cs,rfl,e⟩:=okWide_struct i g;obtain ⟨fuel,k⟩:=h;obtain ⟨m,hm,j⟩:=each (Rows.uptoBulk d+1) fuel cs.toList _ (by show Rows.uptoBulk d<Rows.uptoBulk d+1;omega) (by simpa using e.trans c) k;obtain ⟨xs,f⟩:=n m;exact ⟨m,yrg f hm,j⟩
def QE (b:Nat)(m:Exn):Prop:=∃ z,z<=b/\ETr z m
def QG (b:Nat)(g:Gd):Prop:=∃ c,c < b/\QE c g.fCond
def QS (b:Nat)(s:Stt):Prop:=∃ c,c < b/\SlQ QG c s.fGuards
abbrev QT {α:Type}(_:Nat)(_:α):Prop:=True
def QX (b:Nat)(x:Ed):Prop:=(∃ c,c < b/\QE c x.fCond)/\(∃ c,c < b/\SlQ QT c x.fOpens)/\(∃ c,c < b/\SlQ QT c x.fCloses)/\(∃ c,c < b/\∃ l:List Exn,x.fChecks=l.map z0n/\SlQ QE c l)/\(∃ c,c < b/\SlQ QT c x.fLimits)/\(∃ c,c < b/\SlQ QT c x.fInside)
def QA (b:Nat)(a:Aut):Prop:=(∃ c,c < b/\SlQ QS c a.fStates)/\(∃ c,c < b/\SlQ QX c a.fEdges)
theorem yr3 {l:List Exn}(h:SlQ QE b l):∃ qs:List (Nat×Exn),qs.map (·.2)=l/\(∀ q∈qs,ETr q.1 q.2)/\(qs.map (·.1)).sum<b:=by
 obtain ⟨c,rfl,j,o⟩:=h;have:∃ qs:List (Nat×Exn),qs.map (·.2)=c.map (·.2)/\(∀ q∈qs,ETr q.1 q.2)/\(qs.map (·.1)).sum<=(c.map (·.1)).sum:=by
  clear o
  induction c with
  |nil=>exact ⟨[],rfl,by simp,by simp⟩
  |cons p c m =>
   obtain ⟨qs,g,f,k⟩:=m (fun q i=>j q (mem_cons_of_mem _ i));obtain ⟨z,r,n⟩:=(j p (by simp)).2;refine ⟨(z,p.2)::qs,by simp [g],fun q i=>?_,by simp only [map_cons,sum_cons];omega⟩;rcases mem_cons.1 i with e|e
   ·rw [e];exact n
   ·exact f q e
 obtain ⟨qs,g,f,k⟩:=this;exact ⟨qs,g,f,by omega⟩
theorem yh1 {e:Exn}(h:QE b e)(g:b<=1048576):WfE e:=by
 obtain ⟨z,f,c⟩:=h;exact ⟨z,by omega,c⟩
theorem ypr (h:QA b a)(E:b<=1048576):WfA a:=by
 obtain ⟨⟨b1,h1,i⟩,⟨b2,K,f⟩⟩:=h;refine ⟨by have:=i.len;omega,by have:=f.len;omega,fun s A=>?_,fun x z=>?_⟩
 ·obtain ⟨D,C,b4,J,e⟩:=i.mem s A;refine ⟨by have:=e.len;omega,fun g B=>?_⟩;obtain ⟨b5,I,b6,G,c⟩:=e.mem g B;exact yh1 c (by omega)
 ·obtain ⟨D,C,⟨Y,R,r⟩,⟨X,P,q⟩,⟨V,O,o⟩,⟨U,N,l,k,j⟩,⟨T,M,n⟩,⟨S,L,c⟩⟩:=f.mem x z;refine ⟨yh1 r (by omega),⟨l,k,fun y w=>?_⟩,?_,?_,?_,?_,?_⟩
  ·obtain ⟨Z,F,m⟩:=j.mem y w;exact yh1 m (by omega)
  ·rw [k,length_map];have:=j.len;omega
  ·have:=q.len;omega
  ·have:=o.len;omega
  ·have:=c.len;omega
  ·have:=n.len;omega
theorem yep:FO enc W 109 3 (fun m:z04=>(z09 m).cells):=fun n cs x F h=>by
 obtain ⟨xs,c,_,E,_,e,f⟩:=DataW.trod_struct Tryz.underlying109 h
 match xs,e with
 |[q,o,k],_ =>
  have D:Tryz.prog.cellsOf 3=1:=by kernel_rfl
  have j:DataW.trod enc Tryz.prog W 0 (fun _=>true) true c 3 ((cs.drop 0).take (Tryz.prog.cellsOf 3))=some q:=f 0 _ rfl;rw [D] at j;obtain ⟨y,A⟩:=(zhi Tryz.underlying3) c _ _ (z84 (by omega)) j;have C:Tryz.prog.cellsOf 3=1:=by kernel_rfl
  have i:DataW.trod enc Tryz.prog W 0 (fun _=>true) true c 3 ((cs.drop 1).take (Tryz.prog.cellsOf 3))=some o:=f 1 _ rfl;rw [C] at i;obtain ⟨w,h1⟩:=(zhi Tryz.underlying3) c _ _ (z84 (by omega)) i;have B:Tryz.prog.cellsOf 9=1:=by kernel_rfl
  have g:DataW.trod enc Tryz.prog W 0 (fun _=>true) true c 9 ((cs.drop 2).take (Tryz.prog.cellsOf 9))=some k:=f 2 _ rfl;rw [B] at g;obtain ⟨s,z⟩:=(yqy Tryz.underlying9) c _ _ (z84 (by omega)) g;have r:=(show zcw W _ (cs.drop 0) from (.cut A (.cut h1 (.cut z (zcw.done (by omega))))));exact ⟨⟨y,w,s⟩,r⟩
theorem y4s:∀ B,FQ enc W 111 8 (fun m:Exn=>(z0n m).cells) QE B
 |0=>fun n cs x w P h=>absurd w (Nat.not_lt_zero _)
 |B+1=>fun n cs x w P h=>by
  obtain ⟨xs,c,_,O,_,f,e⟩:=DataW.trod_struct Tryz.underlying111 h
  match xs,f with
  |[q,o,k,j,i,g],_ =>
   have hk:Rows.uptoBulk x.1=Rows.uptoBulk q.1+Rows.uptoBulk o.1+Rows.uptoBulk k.1+Rows.uptoBulk j.1+Rows.uptoBulk i.1+Rows.uptoBulk g.1+1:=by rw [O];simp only [Rows.uptoBulk,Rows.uptoBulkAll,map_cons,map_nil]<;>omega
   have c0:Tryz.prog.cellsOf 3=1:=by kernel_rfl
   have E:DataW.trod enc Tryz.prog W 0 (fun _=>true) true c 3 ((cs.drop 0).take (Tryz.prog.cellsOf 3))=some q:=e 0 _ rfl;rw [c0] at E;obtain ⟨N,V,q0⟩:=(zr0 (zhi Tryz.underlying3)) c _ _ (show Rows.uptoBulk q.1<B by omega) (z84 (by omega)) E;have c1:Tryz.prog.cellsOf 107=1:=by kernel_rfl
   have D:DataW.trod enc Tryz.prog W 0 (fun _=>true) true c 107 ((cs.drop 1).take (Tryz.prog.cellsOf 107))=some o:=e 1 _ rfl;rw [c1] at D;obtain ⟨s,h1,I⟩:=(y4r (sz:=8) (a:=z0n) Tryz.underlying107 (by kernel_rfl) (by omega) inferInstance (fun _=>rfl) (y4s B)) c _ _ (show Rows.uptoBulk o.1<B by omega) (z84 (by omega)) D;have c2:Tryz.prog.cellsOf 3=1:=by kernel_rfl
   have C:DataW.trod enc Tryz.prog W 0 (fun _=>true) true c 3 ((cs.drop 2).take (Tryz.prog.cellsOf 3))=some k:=e 2 _ rfl;rw [c2] at C;obtain ⟨M,U,q2⟩:=(zr0 (zhi Tryz.underlying3)) c _ _ (show Rows.uptoBulk k.1<B by omega) (z84 (by omega)) C;have Z:Tryz.prog.cellsOf 3=1:=by kernel_rfl
   have A:DataW.trod enc Tryz.prog W 0 (fun _=>true) true c 3 ((cs.drop 3).take (Tryz.prog.cellsOf 3))=some j:=e 3 _ rfl;rw [Z] at A;obtain ⟨L,T,q3⟩:=(zr0 (zhi Tryz.underlying3)) c _ _ (show Rows.uptoBulk j.1<B by omega) (z84 (by omega)) A;have Y:Tryz.prog.cellsOf 3=1:=by kernel_rfl
   have z:DataW.trod enc Tryz.prog W 0 (fun _=>true) true c 3 ((cs.drop 4).take (Tryz.prog.cellsOf 3))=some i:=e 4 _ rfl;rw [Y] at z;obtain ⟨K,S,q4⟩:=(zr0 (zhi Tryz.underlying3)) c _ _ (show Rows.uptoBulk i.1<B by omega) (z84 (by omega)) z;have X:Tryz.prog.cellsOf 109=3:=by kernel_rfl
   have y:DataW.trod enc Tryz.prog W 0 (fun _=>true) true c 109 ((cs.drop 5).take (Tryz.prog.cellsOf 109))=some g:=e 5 _ rfl;rw [X] at y;obtain ⟨J,R,q5⟩:=(zr0 yep) c _ _ (show Rows.uptoBulk g.1<B by omega) (z84 (by omega)) y;have h1:zcw W [AV.sl 8 (List.map idA (List.map z0n s))] ((cs.drop 1).take 1):=by rw [zwo];exact h1
   have r:=(show zcw W _ (cs.drop 0) from (.cut V (.cut h1 (.cut U (.cut T (.cut S (.cut R (zcw.done (by omega)))))))));obtain ⟨qs,G,F,r3⟩:=yr3 I;refine ⟨⟨N,s.map z0n,M,L,K,J⟩,r,1+(qs.map (·.1)).sum,by omega,.mk qs _ F ?_⟩;show s.map z0n=_;rw [<-G,map_map];rfl
theorem yll (B:Nat):FQ enc W 154 11 (fun m:Gd=>(z0u m).cells) QG B:=fun n cs x T R h=>by
 obtain ⟨xs,c,_,E,_,e,g⟩:=DataW.trod_struct Tryz.underlying154 h
 match xs,e with
 |[k,j,i,f],_ =>
  have S:Rows.uptoBulk x.1=Rows.uptoBulk k.1+Rows.uptoBulk j.1+Rows.uptoBulk i.1+Rows.uptoBulk f.1+1:=by rw [E];simp only [Rows.uptoBulk,Rows.uptoBulkAll,map_cons,map_nil]<;>omega
  have M:Tryz.prog.cellsOf 3=1:=by kernel_rfl
  have w:DataW.trod enc Tryz.prog W 0 (fun _=>true) true c 3 ((cs.drop 0).take (Tryz.prog.cellsOf 3))=some k:=g 0 _ rfl;rw [M] at w;obtain ⟨D,I,P⟩:=(zr0 (zhi Tryz.underlying3)) c _ _ (show Rows.uptoBulk k.1<B by omega) (z84 (by omega)) w;have L:Tryz.prog.cellsOf 3=1:=by kernel_rfl
  have s:DataW.trod enc Tryz.prog W 0 (fun _=>true) true c 3 ((cs.drop 1).take (Tryz.prog.cellsOf 3))=some j:=g 1 _ rfl;rw [L] at s;obtain ⟨C,h1,O⟩:=(zr0 (zhi Tryz.underlying3)) c _ _ (show Rows.uptoBulk j.1<B by omega) (z84 (by omega)) s;have K:Tryz.prog.cellsOf 3=1:=by kernel_rfl
  have q:DataW.trod enc Tryz.prog W 0 (fun _=>true) true c 3 ((cs.drop 2).take (Tryz.prog.cellsOf 3))=some i:=g 2 _ rfl;rw [K] at q;obtain ⟨A,G,N⟩:=(zr0 (zhi Tryz.underlying3)) c _ _ (show Rows.uptoBulk i.1<B by omega) (z84 (by omega)) q;have J:Tryz.prog.cellsOf 111=8:=by kernel_rfl
  have o:DataW.trod enc Tryz.prog W 0 (fun _=>true) true c 111 ((cs.drop 3).take (Tryz.prog.cellsOf 111))=some f:=g 3 _ rfl;rw [J] at o;obtain ⟨z,F,y⟩:=(y4s B) c _ _ (show Rows.uptoBulk f.1<B by omega) (z84 (by omega)) o;have r:=(show zcw W _ (cs.drop 0) from (.cut I (.cut h1 (.cut G (.cut F (zcw.done (by omega)))))));exact ⟨⟨D,C,A,z⟩,r,_,(show Rows.uptoBulk f.1<_ by omega),y⟩
theorem ylk (B:Nat):FQ enc W 105 1 (fun m:Stt=>(z0s m).cells) QS B:=fun n cs x z w h=>by
 obtain ⟨xs,f,_,k,_,c,o⟩:=DataW.trod_struct Tryz.underlying105 h
 match xs,c with
 |[e],_ =>
  have y:Rows.uptoBulk x.1=Rows.uptoBulk e.1+1:=by rw [k];simp only [Rows.uptoBulk,Rows.uptoBulkAll,map_cons,map_nil]<;>omega
  have s:Tryz.prog.cellsOf 103=1:=by kernel_rfl
  have g:DataW.trod enc Tryz.prog W 0 (fun _=>true) true f 103 ((cs.drop 0).take (Tryz.prog.cellsOf 103))=some e:=o 0 _ rfl;rw [s] at g;obtain ⟨j,q,i⟩:=(y4r (sz:=11) (a:=z0u) Tryz.underlying103 (by kernel_rfl) (by omega) inferInstance (fun _=>rfl) (yll B)) f _ _ (show Rows.uptoBulk e.1<B by omega) (z84 (by omega)) g;have r:=(show zcw W _ (cs.drop 0) from (.cut q (zcw.done (by omega))));exact ⟨⟨j⟩,r,_,(show Rows.uptoBulk e.1<_ by omega),i⟩
theorem ylm:FO enc W 209 2 (fun m:z1j=>(z23 m).cells):=fun n cs x A h=>by
 obtain ⟨xs,e,_,z,_,c,f⟩:=DataW.trod_struct Tryz.underlying209 h
 match xs,c with
 |[k,j],_ =>
  have y:Tryz.prog.cellsOf 3=1:=by kernel_rfl
  have i:DataW.trod enc Tryz.prog W 0 (fun _=>true) true e 3 ((cs.drop 0).take (Tryz.prog.cellsOf 3))=some k:=f 0 _ rfl;rw [y] at i;obtain ⟨q,s⟩:=(zhi Tryz.underlying3) e _ _ (z84 (by omega)) i;have w:Tryz.prog.cellsOf 3=1:=by kernel_rfl
  have g:DataW.trod enc Tryz.prog W 0 (fun _=>true) true e 3 ((cs.drop 1).take (Tryz.prog.cellsOf 3))=some j:=f 1 _ rfl;rw [w] at g;obtain ⟨o,h1⟩:=(zhi Tryz.underlying3) e _ _ (z84 (by omega)) g;have r:=(show zcw W _ (cs.drop 0) from (.cut s (.cut h1 (zcw.done (by omega)))));exact ⟨⟨q,o⟩,r⟩
theorem yoy (B:Nat):FQ enc W 115 17 (fun m:Ed=>(z0v m).cells) QX B:=fun n cs x hb hl h=>by
 obtain ⟨xs,c,_,hx,_,f,e⟩:=DataW.trod_struct Tryz.underlying115 h
 match xs,f with
 |[z,y,w,s,q,o,k,j,i,g],_ =>
  have hk:Rows.uptoBulk x.1=Rows.uptoBulk z.1+Rows.uptoBulk y.1+Rows.uptoBulk w.1+Rows.uptoBulk s.1+Rows.uptoBulk q.1+Rows.uptoBulk o.1+Rows.uptoBulk k.1+Rows.uptoBulk j.1+Rows.uptoBulk i.1+Rows.uptoBulk g.1+1:=by rw [hx];simp only [Rows.uptoBulk,Rows.uptoBulkAll,map_cons,map_nil]<;>omega
  have c0:Tryz.prog.cellsOf 3=1:=by kernel_rfl
  have N:DataW.trod enc Tryz.prog W 0 (fun _=>true) true c 3 ((cs.drop 0).take (Tryz.prog.cellsOf 3))=some z:=e 0 _ rfl;rw [c0] at N;obtain ⟨m0,h0,q0⟩:=(zr0 (zhi Tryz.underlying3)) c _ _ (show Rows.uptoBulk z.1<B by omega) (z84 (by omega)) N;have c1:Tryz.prog.cellsOf 3=1:=by kernel_rfl
  have M:DataW.trod enc Tryz.prog W 0 (fun _=>true) true c 3 ((cs.drop 1).take (Tryz.prog.cellsOf 3))=some y:=e 1 _ rfl;rw [c1] at M;obtain ⟨m1,h1,q1⟩:=(zr0 (zhi Tryz.underlying3)) c _ _ (show Rows.uptoBulk y.1<B by omega) (z84 (by omega)) M;have c2:Tryz.prog.cellsOf 3=1:=by kernel_rfl
  have L:DataW.trod enc Tryz.prog W 0 (fun _=>true) true c 3 ((cs.drop 2).take (Tryz.prog.cellsOf 3))=some w:=e 2 _ rfl;rw [c2] at L;obtain ⟨m2,h2,q2⟩:=(zr0 (zhi Tryz.underlying3)) c _ _ (show Rows.uptoBulk w.1<B by omega) (z84 (by omega)) L;have c3:Tryz.prog.cellsOf 3=1:=by kernel_rfl
  have K:DataW.trod enc Tryz.prog W 0 (fun _=>true) true c 3 ((cs.drop 3).take (Tryz.prog.cellsOf 3))=some s:=e 3 _ rfl;rw [c3] at K;obtain ⟨m3,h3,q3⟩:=(zr0 (zhi Tryz.underlying3)) c _ _ (show Rows.uptoBulk s.1<B by omega) (z84 (by omega)) K;have c4:Tryz.prog.cellsOf 111=8:=by kernel_rfl
  have J:DataW.trod enc Tryz.prog W 0 (fun _=>true) true c 111 ((cs.drop 4).take (Tryz.prog.cellsOf 111))=some q:=e 4 _ rfl;rw [c4] at J;obtain ⟨m4,h4,U⟩:=(y4s B) c _ _ (show Rows.uptoBulk q.1<B by omega) (z84 (by omega)) J;have c5:Tryz.prog.cellsOf 112=1:=by kernel_rfl
  have I:DataW.trod enc Tryz.prog W 0 (fun _=>true) true c 112 ((cs.drop 12).take (Tryz.prog.cellsOf 112))=some o:=e 5 _ rfl;rw [c5] at I;obtain ⟨Z,h5,T⟩:=(y4r (sz:=1) (a:=aI) Tryz.underlying112 (by kernel_rfl) (by omega) inferInstance (fun _=>rfl) (zr0 (yoz Tryz.underlying3))) c _ _ (show Rows.uptoBulk o.1<B by omega) (z84 (by omega)) I;have c6:Tryz.prog.cellsOf 112=1:=by kernel_rfl
  have G:DataW.trod enc Tryz.prog W 0 (fun _=>true) true c 112 ((cs.drop 13).take (Tryz.prog.cellsOf 112))=some k:=e 6 _ rfl;rw [c6] at G;obtain ⟨Y,h6,S⟩:=(y4r (sz:=1) (a:=aI) Tryz.underlying112 (by kernel_rfl) (by omega) inferInstance (fun _=>rfl) (zr0 (yoz Tryz.underlying3))) c _ _ (show Rows.uptoBulk k.1<B by omega) (z84 (by omega)) G;have c7:Tryz.prog.cellsOf 107=1:=by kernel_rfl
  have F:DataW.trod enc Tryz.prog W 0 (fun _=>true) true c 107 ((cs.drop 14).take (Tryz.prog.cellsOf 107))=some j:=e 7 _ rfl;rw [c7] at F;obtain ⟨A,C,R⟩:=(y4r (sz:=8) (a:=z0n) Tryz.underlying107 (by kernel_rfl) (by omega) inferInstance (fun _=>rfl) (y4s B)) c _ _ (show Rows.uptoBulk j.1<B by omega) (z84 (by omega)) F;have c8:Tryz.prog.cellsOf 113=1:=by kernel_rfl
  have E:DataW.trod enc Tryz.prog W 0 (fun _=>true) true c 113 ((cs.drop 15).take (Tryz.prog.cellsOf 113))=some i:=e 8 _ rfl;rw [c8] at E;obtain ⟨X,h8,P⟩:=(y4r (sz:=2) (a:=z23) Tryz.underlying113 (by kernel_rfl) (by omega) inferInstance (fun _=>rfl) (zr0 ylm)) c _ _ (show Rows.uptoBulk i.1<B by omega) (z84 (by omega)) E;have c9:Tryz.prog.cellsOf 112=1:=by kernel_rfl
  have D:DataW.trod enc Tryz.prog W 0 (fun _=>true) true c 112 ((cs.drop 16).take (Tryz.prog.cellsOf 112))=some g:=e 9 _ rfl;rw [c9] at D;obtain ⟨V,h9,O⟩:=(y4r (sz:=1) (a:=aI) Tryz.underlying112 (by kernel_rfl) (by omega) inferInstance (fun _=>rfl) (zr0 (yoz Tryz.underlying3))) c _ _ (show Rows.uptoBulk g.1<B by omega) (z84 (by omega)) D;have C:zcw W [AV.sl 8 (List.map idA (List.map z0n A))] ((cs.drop 14).take 1):=by rw [zwo];exact C
  have r:=(show zcw W _ (cs.drop 0) from (.cut h0 (.cut h1 (.cut h2 (.cut h3 (.cut h4 (.cut h5 (.cut h6 (.cut C (.cut h8 (.cut h9 (zcw.done (by omega)))))))))))));exact ⟨⟨m0,m1,m2,m3,m4,Z,Y,A.map z0n,X,V⟩,r,⟨_,(show Rows.uptoBulk q.1<_ by omega),U⟩,⟨_,(show Rows.uptoBulk o.1<_ by omega),T⟩,⟨_,(show Rows.uptoBulk k.1<_ by omega),S⟩,⟨_,(show Rows.uptoBulk j.1<_ by omega),A,rfl,R⟩,⟨_,(show Rows.uptoBulk i.1<_ by omega),P⟩,⟨_,(show Rows.uptoBulk g.1<_ by omega),O⟩⟩
theorem yqx (B:Nat):FQ enc W 25 4 (fun m:Aut=>(z0m m).cells) QA B:=fun n cs x T R h=>by
 obtain ⟨xs,c,_,F,_,e,i⟩:=DataW.trod_struct Tryz.underlying25 h
 match xs,e with
 |[k,j,g,f],_ =>
  have S:Rows.uptoBulk x.1=Rows.uptoBulk k.1+Rows.uptoBulk j.1+Rows.uptoBulk g.1+Rows.uptoBulk f.1+1:=by rw [F];simp only [Rows.uptoBulk,Rows.uptoBulkAll,map_cons,map_nil]<;>omega
  have N:Tryz.prog.cellsOf 3=1:=by kernel_rfl
  have w:DataW.trod enc Tryz.prog W 0 (fun _=>true) true c 3 ((cs.drop 0).take (Tryz.prog.cellsOf 3))=some k:=i 0 _ rfl;rw [N] at w;obtain ⟨E,J,P⟩:=(zr0 (zhi Tryz.underlying3)) c _ _ (show Rows.uptoBulk k.1<B by omega) (z84 (by omega)) w;have M:Tryz.prog.cellsOf 3=1:=by kernel_rfl
  have s:DataW.trod enc Tryz.prog W 0 (fun _=>true) true c 3 ((cs.drop 1).take (Tryz.prog.cellsOf 3))=some j:=i 1 _ rfl;rw [M] at s;obtain ⟨D,h1,O⟩:=(zr0 (zhi Tryz.underlying3)) c _ _ (show Rows.uptoBulk j.1<B by omega) (z84 (by omega)) s;have L:Tryz.prog.cellsOf 22=1:=by kernel_rfl
  have q:DataW.trod enc Tryz.prog W 0 (fun _=>true) true c 22 ((cs.drop 2).take (Tryz.prog.cellsOf 22))=some g:=i 2 _ rfl;rw [L] at q;obtain ⟨C,I,z⟩:=(y4r (sz:=1) (a:=z0s) Tryz.underlying22 (by kernel_rfl) (by omega) inferInstance (fun _=>rfl) (ylk B)) c _ _ (show Rows.uptoBulk g.1<B by omega) (z84 (by omega)) q;have K:Tryz.prog.cellsOf 23=1:=by kernel_rfl
  have o:DataW.trod enc Tryz.prog W 0 (fun _=>true) true c 23 ((cs.drop 3).take (Tryz.prog.cellsOf 23))=some f:=i 3 _ rfl;rw [K] at o;obtain ⟨A,G,y⟩:=(y4r (sz:=17) (a:=z0v) Tryz.underlying23 (by kernel_rfl) (by omega) inferInstance (fun _=>rfl) (yoy B)) c _ _ (show Rows.uptoBulk f.1<B by omega) (z84 (by omega)) o;have r:=(show zcw W _ (cs.drop 0) from (.cut J (.cut h1 (.cut I (.cut G (zcw.done (by omega)))))));exact ⟨⟨E,D,C,A⟩,r,⟨_,(show Rows.uptoBulk g.1<_ by omega),z⟩,⟨_,(show Rows.uptoBulk f.1<_ by omega),y⟩⟩
theorem ypl (c:Value.okWide Tryz.prog W .any base 25 v)(h:DataW.Trod enc Tryz.prog W 0 (fun _=>true) true 25 v d p)(e:Rows.uptoBulk d<=1048576):∃ m:Aut,Rep W (fun _=>True) G0 (z0m m) v/\WfA m:=by
 obtain ⟨m,r,q⟩:=ycy (sz:=4) (a:=z0m) Tryz.underlying25 (by kernel_rfl) (fun _=>⟨_,rfl⟩) (fun B=>yqx B) c h;exact ⟨m,r,ypr q e⟩
theorem yln:FO enc W 71 5 (fun m:z03=>(z02 m).cells):=fun n cs x R h=>by
 obtain ⟨xs,c,_,P,_,e,f⟩:=DataW.trod_struct Tryz.underlying71 h
 match xs,e with
 |[z,y,w,s,q],_ =>
  have O:Tryz.prog.cellsOf 3=1:=by kernel_rfl
  have o:DataW.trod enc Tryz.prog W 0 (fun _=>true) true c 3 ((cs.drop 0).take (Tryz.prog.cellsOf 3))=some z:=f 0 _ rfl;rw [O] at o;obtain ⟨E,J⟩:=(zhi Tryz.underlying3) c _ _ (z84 (by omega)) o;have N:Tryz.prog.cellsOf 3=1:=by kernel_rfl
  have k:DataW.trod enc Tryz.prog W 0 (fun _=>true) true c 3 ((cs.drop 1).take (Tryz.prog.cellsOf 3))=some y:=f 1 _ rfl;rw [N] at k;obtain ⟨D,h1⟩:=(zhi Tryz.underlying3) c _ _ (z84 (by omega)) k;have M:Tryz.prog.cellsOf 3=1:=by kernel_rfl
  have j:DataW.trod enc Tryz.prog W 0 (fun _=>true) true c 3 ((cs.drop 2).take (Tryz.prog.cellsOf 3))=some w:=f 2 _ rfl;rw [M] at j;obtain ⟨C,I⟩:=(zhi Tryz.underlying3) c _ _ (z84 (by omega)) j;have L:Tryz.prog.cellsOf 3=1:=by kernel_rfl
  have i:DataW.trod enc Tryz.prog W 0 (fun _=>true) true c 3 ((cs.drop 3).take (Tryz.prog.cellsOf 3))=some s:=f 3 _ rfl;rw [L] at i;obtain ⟨B,G⟩:=(zhi Tryz.underlying3) c _ _ (z84 (by omega)) i;have K:Tryz.prog.cellsOf 69=1:=by kernel_rfl
  have g:DataW.trod enc Tryz.prog W 0 (fun _=>true) true c 69 ((cs.drop 4).take (Tryz.prog.cellsOf 69))=some q:=f 4 _ rfl;rw [K] at g;obtain ⟨A,F⟩:=(ys6 (sz:=3) (a:=z09) Tryz.underlying69 (by kernel_rfl) (by omega) inferInstance (fun _=>rfl) yep) c _ _ (z84 (by omega)) g;have r:=(show zcw W _ (cs.drop 0) from (.cut J (.cut h1 (.cut I (.cut G (.cut F (zcw.done (by omega))))))));exact ⟨⟨E,D,C,B,A⟩,r⟩
theorem ygq (c:Value.okWide Tryz.prog W .any base 26 v)(h:DataW.Trod enc Tryz.prog W 0 (fun _=>true) true 26 v d p):∃ l:List z03,Rep W (fun _=>True) G0 (.sl 5 (l.map z02)) v :=
 yjw Tryz.underlying26 (by kernel_rfl) (by omega) inferInstance (fun _=>rfl) yln c h
end
end Go.Proofs.YtidhlpjgifoneaaGreat
