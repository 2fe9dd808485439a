/- The package variables that the row lists. -/
import Derived.Test.YtkoamfnbbhfaiaaGreatDoorK16
import Derived.Deep.DeepHandedRow
import Derived.LaidLaws
set_option linter.unusedVariables false
set_option linter.unusedSimpArgs false
namespace Go.Proofs.YtkoamfnbbhfaiaaGreatDoor
open Go.ChangeShapes Go.WideShapes Go.ChangeAt Go.RowKit List
theorem cut6 {cs L:List Value}{k:Nat}(h:(cs.drop k).take 6=L):cs.drop k=L++cs.drop (k+6):=by
 rw [<-h,<-drop_drop,take_append_drop]
theorem zq6 {H:Type}{k c:IntKind}{a b:Int}(h:(DataW.lit (.int k a):DataW H)=.lit (.int c b)):a=b:=by injection h with h;injection h
theorem Xj {H:Type}{a b:Bool}(h:(DataW.lit (.bool a):DataW H)=.lit (.bool b)):a=b:=by injection h with h;injection h
theorem len6 {c:List Value}(h:c.length=6):∃ g f e d b a,c=[g,f,e,d,b,a]:=by
 match c,h with
 |[g,f,e,d,b,a],_=>exact ⟨g,f,e,d,b,a,rfl⟩
theorem Fl {W:World}{n:Nat}{c:List Value}{a b:Int}{p q r s:Bool}{y:DataW Unit×List MemPlace}(d:y.1=.agg [.lit (.int .i64 a),.lit (.int .i64 b),.lit (.bool p),.lit (.bool q),.lit (.bool r),.lit (.bool s)])
  (h:DataW.trod (fun _=>()) Tryz.prog W 0 (fun _=>true) false n 249 c=some y):c=[.int .i64 a,.int .i64 b,.bool p,.bool q,.bool r,.bool s]:=by
 obtain ⟨xs,m,_,z,A,f,e⟩:=DataW.trod_struct Tryz.underlying249 h;rw [show Tryz.prog.cellsOf 249=6 by kernel_rfl] at A
 match xs,f with
 |[N,M,L,K,J,I],_ =>
 have x:DataW.trod (fun _=>()) Tryz.prog W 0 (fun _=>true) false m 3 ((c.drop 0).take (Tryz.prog.cellsOf 3))=some N:=e 0 _ rfl;have w:DataW.trod (fun _=>()) Tryz.prog W 0 (fun _=>true) false m 3 ((c.drop 1).take (Tryz.prog.cellsOf 3))=some M:=e 1 _ rfl;have v:DataW.trod (fun _=>()) Tryz.prog W 0 (fun _=>true) false m 4 ((c.drop 2).take (Tryz.prog.cellsOf 4))=some L:=e 2 _ rfl;have u:DataW.trod (fun _=>()) Tryz.prog W 0 (fun _=>true) false m 4 ((c.drop 3).take (Tryz.prog.cellsOf 4))=some K:=e 3 _ rfl;have t:DataW.trod (fun _=>()) Tryz.prog W 0 (fun _=>true) false m 4 ((c.drop 4).take (Tryz.prog.cellsOf 4))=some J:=e 4 _ rfl;have o:DataW.trod (fun _=>()) Tryz.prog W 0 (fun _=>true) false m 4 ((c.drop 5).take (Tryz.prog.cellsOf 4))=some I:=e 5 _ rfl;rw [show Tryz.prog.cellsOf 3=1 by kernel_rfl] at x w;rw [show Tryz.prog.cellsOf 4=1 by kernel_rfl] at v u t o;obtain ⟨T,G,rfl,_⟩:=DataW.trod_int Tryz.underlying3 x;obtain ⟨S,F,rfl,_⟩:=DataW.trod_int Tryz.underlying3 w;obtain ⟨R,E,rfl⟩:=DataW.trod_bool Tryz.underlying4 v;obtain ⟨Q,D,rfl⟩:=DataW.trod_bool Tryz.underlying4 u;obtain ⟨P,C,rfl⟩:=DataW.trod_bool Tryz.underlying4 t;obtain ⟨O,B,rfl⟩:=DataW.trod_bool Tryz.underlying4 o;rw [z] at d;injection d with d
 injection d with l d
 injection d with h1 d
 injection d with k d
 injection d with j d
 injection d with i d
 injection d with g d
 have l:=zq6 l;have h1:=zq6 h1;have k:=Xj k;have j:=Xj j;have i:=Xj i;have g:=Xj g;subst l h1 k j i g;clear e z x w v u t o h;obtain ⟨c0,Z,Y,X,V,U,rfl⟩:=len6 A;simp only [drop_zero,List.drop_succ_cons,take_succ_cons,take_zero,List.cons.injEq,and_true] at G F E D C B;rw [G,F,E,D,C,B]
set_option maxRecDepth 100000 in
theorem zfk {W:World}{n:Nat}{c:List Value}{p:List MemPlace}(h:DataW.trod (fun _=>()) Tryz.prog W 0 (fun _=>true) false n 250 c=some (Rows.laid_tidegate_pattern_shapes,p)):c=[.int .i64 0,.int .i64 0,.bool true,.bool true,.bool false,.bool false]++([.int .i64 2,.int .i64 64,.bool false,.bool false,.bool false,.bool false]++([.int .i64 2,.int .i64 64,.bool false,.bool false,.bool false,.bool false]++([.int .i64 2,.int .i64 64,.bool false,.bool false,.bool false,.bool false]++([.int .i64 1,.int .i64 1,.bool false,.bool false,.bool false,.bool false]++([.int .i64 1,.int .i64 1,.bool true,.bool true,.bool true,.bool false]++([.int .i64 1,.int .i64 1,.bool false,.bool false,.bool true,.bool true]++([.int .i64 1,.int .i64 1,.bool false,.bool true,.bool false,.bool false]++([.int .i64 2,.int .i64 2,.bool false,.bool false,.bool false,.bool false]++([.int .i64 1,.int .i64 1,.bool true,.bool true,.bool true,.bool false]++([.int .i64 1,.int .i64 1,.bool false,.bool false,.bool true,.bool true])))))))))):=by
 obtain ⟨xs,m,_,a,v,e,b⟩:=DataW.trod_array Tryz.underlying250 h;rw [show Tryz.prog.cellsOf 250=66 by kernel_rfl] at v;rw [show Tryz.prog.cellsOf 249=6 by kernel_rfl] at b
 match xs,e with
 |[P,O,N,M,L,K,J,I,G,F,u],_ =>
 have a:=congrArg Prod.fst a;unfold Rows.laid_tidegate_pattern_shapes at a;injection a with a
 injection a with E a
 injection a with h1 a
 injection a with D a
 injection a with C a
 injection a with B a
 injection a with A a
 injection a with z a
 injection a with y a
 injection a with x a
 injection a with w a
 injection a with f a
 have t:=cut6 (Fl E.symm (b 0 (by decide)));have s:=cut6 (Fl h1.symm (b 1 (by decide)));have r:=cut6 (Fl D.symm (b 2 (by decide)));have q:=cut6 (Fl C.symm (b 3 (by decide)));have o:=cut6 (Fl B.symm (b 4 (by decide)));have l:=cut6 (Fl A.symm (b 5 (by decide)));have k:=cut6 (Fl z.symm (b 6 (by decide)));have j:=cut6 (Fl y.symm (b 7 (by decide)));have i:=cut6 (Fl x.symm (b 8 (by decide)));have g:=cut6 (Fl w.symm (b 9 (by decide)));have d:=cut6 (Fl f.symm (b 10 (by decide)));simp only [Nat.zero_mul,Nat.one_mul,Nat.reduceMul,Nat.reduceAdd,Nat.zero_add,drop_zero] at t s r q o l k j i g d;rw [t,s,r,q,o,l,k,j,i,g,d,drop_eq_nil_of_le (by omega),append_nil]
set_option maxRecDepth 100000 in
theorem zk9 {W:World}(h:laidMetH Tryz.prog Rows.topStatesMatchUptoRow.laid W):Laid (fun _=>True) W:=by
 have h:laidMet Tryz.prog Rows.topStatesMatchUptoRow.laid W:=h;obtain ⟨ps,b,t,r⟩:=h;obtain ⟨P,E,X,A,L,I,a1,a2,a3,a4,b,rfl⟩:=b;obtain ⟨O,D,V,z,K,G,b1,b2,Z,Y,b,rfl⟩:=b;obtain ⟨N,C,U,y,J,F,T,S,R,Q,b,rfl⟩:=b;obtain ⟨M,B,l,x,q,p,w,v,e,u,b,rfl⟩:=b;have m : Tryz.prog.globalNamed "tidegate/pattern.shapes" = some 0 := by kernel_rfl
 have s:(Tryz.prog.globals[0]?).map (·.type)=some 250:=by kernel_rfl
 obtain rfl:=Option.some.inj (m.symm.trans w);obtain rfl:=Option.some.inj (s.symm.trans v);have n:=zfk u;have f:l.size=66:=by
  have:=congrArg length n;simpa using this
 have c:MemPlace.cell 0 0∈MemPlace.row ⟨0,0,none⟩ l.size++q++p:=by
  refine mem_append_left _ (mem_append_left _ ?_);rw [f];simp [MemPlace.row]
 obtain ⟨⟨o,tt,d⟩,_⟩:=r 0 0 (by simp only [mem_append];simp only [mem_append] at c;simp [c]);simp only [World.var?,m,Option.bind_some,d] at e;have e:o=l:=Option.some.inj e;subst e;intro g vs a;unfold gls0 at a;have j:g=0/\vs=o:=by
  unfold lkG at a;split at a
  ·rename_i k;have k:=Nat.eq_of_beq_eq_true k;injection a with a
   refine ⟨k.symm,?_⟩;rw [<-a];apply Array.ext';rw [n];rfl
  ·simp [lkG] at a
 obtain ⟨rfl,rfl⟩:=j;refine ⟨trivial,?_,tt,d⟩;by_cases i:0<W.heap.size
 ·exact i
 ·rw [Array.getElem?_eq_none (by omega)] at d;cases d
set_option maxRecDepth 100000 in
noncomputable def Zv (a:Os):World :=
 let put (h:Array Obj) (b:Nat) (c:Array Value):Array Obj:=h.modify b fun
   |.cells _ t frozen=>.cells c t frozen
   |o=>o
 let w:=World.holding Tryz.prog a ⟨#[],#[],[]⟩
 { w with heap:=put (put (put (put w.heap 0 #[.int .i64 0,.int .i64 0,.bool true,.bool true,.bool false,.bool false,.int .i64 2,.int .i64 64,.bool false,.bool false,.bool false,.bool false,.int .i64 2,.int .i64 64,.bool false,.bool false,.bool false,.bool false,.int .i64 2,.int .i64 64,.bool false,.bool false,.bool false,.bool false,.int .i64 1,.int .i64 1,.bool false,.bool false,.bool false,.bool false,.int .i64 1,.int .i64 1,.bool true,.bool true,.bool true,.bool false,.int .i64 1,.int .i64 1,.bool false,.bool false,.bool true,.bool true,.int .i64 1,.int .i64 1,.bool false,.bool true,.bool false,.bool false,.int .i64 2,.int .i64 2,.bool false,.bool false,.bool false,.bool false,.int .i64 1,.int .i64 1,.bool true,.bool true,.bool true,.bool false,.int .i64 1,.int .i64 1,.bool false,.bool false,.bool true,.bool true]) 1 #[.int .u64 1,.int .u64 10,.int .u64 100,.int .u64 1000,.int .u64 10000,.int .u64 100000,.int .u64 1000000,.int .u64 10000000,.int .u64 100000000,.int .u64 1000000000,.int .u64 10000000000,.int .u64 100000000000,.int .u64 1000000000000,.int .u64 10000000000000,.int .u64 100000000000000,.int .u64 1000000000000000,.int .u64 10000000000000000,.int .u64 100000000000000000,.int .u64 1000000000000000000,.int .u64 10000000000000000000]) 2 #[.int .u8 0,.int .u8 1,.int .u8 28,.int .u8 2,.int .u8 29,.int .u8 14,.int .u8 24,.int .u8 3,.int .u8 30,.int .u8 22,.int .u8 20,.int .u8 15,.int .u8 25,.int .u8 17,.int .u8 4,.int .u8 8,.int .u8 31,.int .u8 27,.int .u8 13,.int .u8 23,.int .u8 21,.int .u8 19,.int .u8 16,.int .u8 7,.int .u8 26,.int .u8 12,.int .u8 18,.int .u8 6,.int .u8 11,.int .u8 5,.int .u8 10,.int .u8 9]) 3 #[.int .u8 0,.int .u8 1,.int .u8 56,.int .u8 2,.int .u8 57,.int .u8 49,.int .u8 28,.int .u8 3,.int .u8 61,.int .u8 58,.int .u8 42,.int .u8 50,.int .u8 38,.int .u8 29,.int .u8 17,.int .u8 4,.int .u8 62,.int .u8 47,.int .u8 59,.int .u8 36,.int .u8 45,.int .u8 43,.int .u8 51,.int .u8 22,.int .u8 53,.int .u8 39,.int .u8 33,.int .u8 30,.int .u8 24,.int .u8 18,.int .u8 12,.int .u8 5,.int .u8 63,.int .u8 55,.int .u8 48,.int .u8 27,.int .u8 60,.int .u8 41,.int .u8 37,.int .u8 16,.int .u8 46,.int .u8 35,.int .u8 44,.int .u8 21,.int .u8 52,.int .u8 32,.int .u8 23,.int .u8 11,.int .u8 54,.int .u8 26,.int .u8 40,.int .u8 15,.int .u8 34,.int .u8 20,.int .u8 31,.int .u8 10,.int .u8 25,.int .u8 14,.int .u8 19,.int .u8 9,.int .u8 13,.int .u8 8,.int .u8 7,.int .u8 6] }
section
variable {H:Type} {enc:TypeId×Value->H}
set_option maxRecDepth 100000 in
theorem zk8 (F:Stop.Interp)(J:Os)(started:J.Started){f:FuncId}{fn:Func}{s:ChangeSpec}{fr:Bool}(hf:Tryz.prog.funcs[f]? = some fn)(L:Tryz.prog.inits.idxOf? f=none)
  (X:∃ (w:World) (tape:Tape) (i:Input),w.os=J/\(w.forCall tape i).Shaped Tryz.checked.prog/\i.vars=[]/\Input.okWide Tryz.checked.prog (w.forCall tape i) .any w.heap.size f i /\
    (Rows.OpenSpec.upto s).preRow enc Tryz.checked.prog fn [] false Rows.topStatesMatchUptoRow.laid (w.forCall tape i).memory i.args/\Assume.holds {} Tryz.checked.prog (lone (Frame.enter Tryz.checked.prog f i.args .normal) [] (w.forCall tape i)))
  (a:s.vars=[]) (d:fn.resultTypes=#[4]) (g:fn.params.toList.all (fun t=>Tryz.prog.readableRec t && decide (t<Tryz.prog.types.size))=true)
  (l:∀ ds:List (DataW H),ds.length=fn.params.size->s.fn H ds={ results:=[.lit (.bool true)],args:=ds })
  (n:∀ (W:World) (base:Nat) (args:Array Value) (ds:List (DataW H)) (p:List MemPlace),(∀ (j:Nat) t v,fn.params[j]? = some t->args[j]? = some v->Value.okWide Tryz.prog W .any base t v) ->
    DataW.TrodAll enc Tryz.prog W 0 (fun _=>true) true fn.params.toList args.toList ds p->Rows.uptoBulkAll ds<=1048576->∃ avs,Args W (fun _=>True) avs args/\ConL Ec fr f avs (.bool true)) :
  ReturnsInHanded {} Tryz.checked J f .any ((Rows.OpenSpec.upto s).preRow enc Tryz.prog fn [] false Rows.topStatesMatchUptoRow.laid) (((Rows.OpenSpec.upto s).at F).post enc Tryz.prog fn false true false false):=by
 refine returnsInHanded_of_row (C:=Tryz.checked) (s:=Rows.OpenSpec.upto s) zsc started L hf X ?_;intro W base args ds gs before u S R M _ hL _ _;have M:=M _ rfl;show Calls Tryz.checked.prog f args W fun e W'=>∃ v,e=.returned v/\s.post enc Tryz.prog fn false true false false W args v W'
 have E:=S;obtain ⟨p,q,I,T,rfl,N,aa⟩:=S;have A:∀ x∈p++q,x.block<W.heap.size:=fun x c=>DataW.Whole.lt E x c
 rw [show (Rows.OpenSpec.upto s).vars=s.vars from rfl,a] at T;obtain ⟨rfl,rfl⟩:=trodVars_none T;have P:Rows.uptoBulkAll ds<=1048576:=by
  have:=of_decide_eq_true M
  rwa [append_nil] at this
 obtain ⟨avs,o,D⟩:=n W base args ds p u I P;refine (D.2 (fun _=>True) W args (zk9 hL) o).mono fun e W' ⟨v,he,⟨G,_⟩,K⟩=>?_
 have K:=K.bool_inv;subst K;subst he;have O:ds.length=fn.params.size:=(zjb _ _ _ _ I).trans (by simp);have m:s.fn H (ds++[])={ results:=[.lit (.bool true)],args:=ds }:=by rw [append_nil];exact l ds O
 have k:∀ x∈p,x.block<W.heap.size:=fun x c=>A x (by simp [c])
 have V:=z7h (sp':=fun b=>decide (b<W.heap.size)) G _ _ _ _ g I k (fun x c=>by simpa using k x c);have U:=z7h (sp':=fun _=>true) G _ _ _ _ g I k (fun x c=>rfl);have z:(Value.bool true).resultList fn.resultTypes.size=[.bool true]:=by rw [d];rfl
 have y:fn.resultTypes.toList=[4]:=by rw [d]
 refine ⟨_,rfl,ds,[],_,[],p,[],E,?_,?_,?_,World.keptBut_mono (fun x c=>⟨c,?_⟩) (G.frame (·∈p++[])),fun h=>?_⟩
 ·rw [m,y,z];exact trodAll_mk1 (shut_bool Tryz.underlying4 true)
 ·rw [m];exact V
 ·rw [m,a];exact rfl
 ·exact Or.inr (Or.inl (by simpa using c))
 ·rw [y,z,a];refine ⟨?_,[.lit (.bool true)]++ds,[],p,⟨p,[],?_,rfl,by simp,?_,fun h=>by simp at h⟩,?_⟩
  ·rw [d];intro j t r Y Q
   match j with
   |0 =>
    obtain rfl:4=t:=Option.some.inj Y;obtain rfl:Value.bool true=r:=Option.some.inj Q;exact okWide_bool_mk Tryz.underlying4 true
   |j+1=>exact absurd Q (by simp)
  ·exact trodAll_append U (trodAll_mk1 (shut_bool Tryz.underlying4 true))
  ·intro b off Z;have B:MemPlace.cell b off∈p++[]:=by simpa using Z
   rw [G.frozen (A _ B)];exact N b off B
  ·intro x c _;simpa using c
end
end Go.Proofs.YtkoamfnbbhfaiaaGreatDoor
