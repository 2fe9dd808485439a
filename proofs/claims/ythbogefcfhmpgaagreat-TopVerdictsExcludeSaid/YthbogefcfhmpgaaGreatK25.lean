/- Arguments opened. -/
import Derived.Test.YthbogefcfhmpgaaGreatK24
set_option linter.unusedVariables false
set_option linter.unusedSimpArgs false
namespace Go.Proofs.YthbogefcfhmpgaaGreat
open Go.ChangeShapes Go.WideShapes Go.ChangeAt Go.RowKit Go.Joins Go.Deep List
theorem yay {H:Type}(d:DataW H):1<=Rows.uptoBulk d:=by
 cases d with
 |lit l=>cases l<;>simp [Rows.uptoBulk]
 |nil=>simp [Rows.uptoBulk]
 |ptr d=>simp [Rows.uptoBulk]
 |slice elems spare=>simp [Rows.uptoBulk]
 |agg parts=>simp [Rows.uptoBulk]
 |iface t d=>simp [Rows.uptoBulk]
 |map entries=>simp [Rows.uptoBulk]
 |held h=>simp [Rows.uptoBulk]
theorem yaz {H:Type}{d:DataW H}{l:List (DataW H)}(h:d∈l):Rows.uptoBulk d<=Rows.uptoBulkAll l:=by
 induction l with
 |nil=>cases h
 |cons x r ih =>
  simp only [Rows.uptoBulkAll];rcases mem_cons.1 h with e|e
  ·subst e;omega
  ·have:=ih e;omega
variable {α:Type}
def SlQ (Q:Nat->α->Prop)(b:Nat)(l:List α):Prop:=∃ c:List (Nat×α),c.map (·.2)=l/\(∀ p∈c,1<=p.1/\Q p.1 p.2)/\(c.map (·.1)).sum<b
variable {Q:Nat->α->Prop}{b:Nat}
theorem SlQ.len {l:List α}(h:SlQ Q b l):l.length<b:=by
 obtain ⟨c,rfl,f,e⟩:=h;rw [length_map];refine Nat.lt_of_le_of_lt ?_ e;clear e
 induction c with
 |nil=>simp
 |cons p c ih =>
  have:=(f p (by simp)).1;have:=ih (fun q g=>f q (mem_cons_of_mem _ g));simp only [map_cons,sum_cons,length_cons];omega
theorem SlQ.mem {l:List α}(h:SlQ Q b l):∀ m∈l,∃ i,i < b/\Q i m:=fun m hm=>by
 obtain ⟨c,rfl,g,j⟩:=h;obtain ⟨p,f,rfl⟩:=mem_map.1 hm;refine ⟨p.1,?_,(g p f).2⟩;have:p.1<=(c.map (·.1)).sum:=by
  clear g j hm
  induction c with
  |nil=>cases f
  |cons x c ih =>
   simp only [map_cons,sum_cons];rcases mem_cons.1 f with e|e
   ·subst e;omega
   ·have:=ih e;omega
 omega
section
variable {H:Type} {enc:TypeId×Value->H} {W:World} {base:Nat} {v:Value} {d:DataW H} {p:List MemPlace}
set_option maxRecDepth 100000
variable {a:α->AV}{t:TypeId}{sz:Nat}
theorem y3r {e:TypeId}(T:Tryz.prog.underlying t=some (.slice e))(E:Tryz.prog.cellsOf e=sz)(X:0<sz)(S:Inhabited α)(g:∀ m,(a m).cells.length=sz)
   {n:Nat} {u:Value} {x:DataW H×List MemPlace} (each:∀ (n:Nat) (cs:List Value) (y:DataW H×List MemPlace),Rows.uptoBulk y.1<Rows.uptoBulk x.1->cs.length=sz->DataW.trod enc Tryz.prog W 0 (fun _=>true) true n e cs=some y->∃ m:α,T1 W a m cs/\Q (Rows.uptoBulk y.1) m)
  (h:DataW.trod enc Tryz.prog W 0 (fun _=>true) true n t [u]=some x):∃ l:List α,Rep W (fun _=>True) G0 (.sl sz (l.map a)) u/\SlQ Q (Rows.uptoBulk x.1) l:=by
 rcases open_slice T h with ⟨h1,C⟩|⟨A,len,Z,m,P,D,Pl,h1,_,I,hm,z,C,N⟩
 ·simp only [List.cons.injEq,and_true] at h1;subst h1;exact ⟨[],.sl none 0 (fun _ _=>.bool true) (by simp) (fun k c=>absurd c (by simp)) (fun h=>absurd h (by simp)) (fun k c=>absurd c (by simp)) (fun _ _=>rfl),[],rfl,by simp,by rw [C];simp [Rows.uptoBulk]⟩
 ·simp only [List.cons.injEq,and_true] at h1;subst h1;simp only [if_true] at z;subst z;rw [E] at N;have K:Rows.uptoBulkAll ((range len).map D)<Rows.uptoBulk x.1:=by
   rw [C];simp only [Rows.uptoBulk];omega
  have every:∀ i,∃ q:α×List Value,i<len->W.cells? 0 (A.add (i*sz)) sz=some q.2/\T1 W a q.1 q.2/\Q (Rows.uptoBulk (D i)) q.1:=fun i=>by
   by_cases hi:i<len
   ·obtain ⟨cs,O,c2⟩:=N i (by omega);have F:Rows.uptoBulk (D i)<Rows.uptoBulk x.1:=by
     have:=yaz (l:=(range len).map D) (mem_map.2 ⟨i,mem_range.2 hi,rfl⟩);omega
    obtain ⟨k,c,U⟩:=each P cs _ F (zc7 O).1 c2;exact ⟨(k,cs),fun _=>⟨O,c,U⟩⟩
   ·exact ⟨(S.default,[]),fun h=>absurd h hi⟩
  obtain ⟨f,B⟩:=Classical.axiomOfChoice every;have hl:((range len).map fun i=>(f i).1).length=len:=by simp
  refine ⟨(range len).map fun i=>(f i).1,?_,(range len).map (fun i=>(Rows.uptoBulk (D i),(f i).1)),by simp,?_,?_⟩;rotate_left
  ·intro p V;obtain ⟨i,hi,rfl⟩:=mem_map.1 V;exact ⟨yay _,(B i (mem_range.1 hi)).2.2⟩
  ·rw [map_map];have:∀ l:List Nat,(l.map ((fun p:Nat×α=>p.1) ∘ fun i=>(Rows.uptoBulk (D i),(f i).1))).sum=Rows.uptoBulkAll (l.map D):=fun l=>by
    induction l with
    |nil=>simp [Rows.uptoBulkAll]
    |cons i l R=>simp only [map_cons,sum_cons,R,Rows.uptoBulkAll,Function.comp]
   rw [this];exact K
  have e:len=(((range len).map fun i=>(f i).1).map a).length:=by simp
  have r:∀ k j,k<len->j<sz->W.cell? ((A.add (k*sz)).add j)=some ((f k).2.getD j undef):=fun k j c w=>(zc7 (B k c).1).2 j w
  have:Rep W (fun _=>True) G0 (.sl sz (((range len).map fun i=>(f i).1).map a)) (.slice (some A) (((range len).map fun i=>(f i).1).map a).length m):=by
   refine .sl (some A) m (fun k j=>if k<len/\j<sz then (f k).2.getD j undef else .bool true) (by simpa using I) (fun k c=>?_) (fun L=>?_) (fun k c j w=>?_) (fun k j=>?_)
   ·simp only [getElem_map];exact g _
   ·have G:0<len:=by simpa using L
    have M:=zou (r 0 0 G X);obtain ⟨b,off,sp⟩:=A;have Y:sp=none:=by simpa [Addr.add] using M.1
    subst Y;rw [Js,Js] at M;refine ⟨b,off,rfl,trivial,M.2,fun k j c w=>?_⟩;have o:k<len:=by simpa using c
    have:=r k j o w;rw [Js,Js] at this;rw [if_pos ⟨o,w⟩,<-this];congr 2;omega
   ·have o:k<len:=by simpa using c
    simp only [getElem_map,getElem_range] at w ⊢;have J:j<sz:=by rw [g] at w;exact w
    rw [if_pos ⟨o,J⟩];exact ((B k o).2.1.2 j w).1
   ·by_cases s:k<len/\j<sz
    ·rw [if_pos s];exact ((B k s.1).2.1.2 j (by rw [g];exact s.2)).2
    ·rw [if_neg s];rfl
  rw [<-e] at this;exact this
abbrev FQ (enc:TypeId×Value->H)(W:World)(t:TypeId)(sz:Nat){α:Type}(e:α->List AV)(Q:Nat->α->Prop)(B:Nat):Prop:=∀ (n:Nat) (cs:List Value) (x:DataW H×List MemPlace),Rows.uptoBulk x.1<B->cs.length=sz->DataW.trod enc Tryz.prog W 0 (fun _=>true) true n t cs=some x->∃ m:α,Bq W (e m) cs/\Q (Rows.uptoBulk x.1) m
theorem D8 {B:Nat}{e:α->List AV}(h:FO enc W t sz e):FQ enc W t sz e (fun _ _=>True) B:=fun n cs x _ f c=>by
 obtain ⟨m,hm⟩:=h n cs x f c;exact ⟨m,hm,trivial⟩
theorem Hp {e:TypeId}{B:Nat}(k:Tryz.prog.underlying t=some (.slice e))(i:Tryz.prog.cellsOf e=sz)(q:0<sz)(j:Inhabited α)(g:∀ m,(a m).cells.length=sz)
  (each:FQ enc W e sz (fun m:α=>(a m).cells) Q B):FQ enc W t 1 (fun l:List α=>[AV.sl sz (l.map a)]) (SlQ Q) B:=fun n cs x s f h=>by
 match cs,f with
 |[c],_ =>
  obtain ⟨l,f,o⟩:=y3r (a:=a) k i q j g (fun n cs y r f h=>each n cs y (by omega) f h) h;exact ⟨l,.one f f.one_sl,o⟩
theorem zuw {fs:Array Field}(i:Tryz.prog.underlying t=some (.struct fs))(c:Tryz.prog.cellsOf t=sz)(l:∀ m,∃ xs,a m=.agg xs)(each:∀ B,FQ enc W t sz (fun m:α=>(a m).cells) Q B)
  (g:Value.okWide Tryz.prog W .any base t v) (h:DataW.Trod enc Tryz.prog W 0 (fun _=>true) true t v d p):∃ m:α,Rep W (fun _=>True) G0 (a m) v/\Q (Rows.uptoBulk d) m:=by
 obtain ⟨cs,rfl,e⟩:=okWide_struct i g;obtain ⟨fuel,k⟩:=h;obtain ⟨m,hm,j⟩:=each (Rows.uptoBulk d+1) fuel cs.toList _ (by show Rows.uptoBulk d<Rows.uptoBulk d+1;omega) (by simpa using e.trans c) k;obtain ⟨xs,f⟩:=l m;exact ⟨m,y6o f hm,j⟩
def QE (b:Nat)(m:Exn):Prop:=∃ z,z<=b/\ETr z m
def QG (b:Nat)(g:Gd):Prop:=∃ c,c < b/\QE c g.fCond
def QS (b:Nat)(s:Stt):Prop:=∃ c,c < b/\SlQ QG c s.fGuards
abbrev QT {α:Type}(_:Nat)(_:α):Prop:=True
def QX (b:Nat)(x:Ed):Prop:=(∃ c,c < b/\QE c x.fCond)/\(∃ c,c < b/\SlQ QT c x.fOpens)/\(∃ c,c < b/\SlQ QT c x.fCloses)/\(∃ c,c < b/\∃ l:List Exn,x.fChecks=l.map Ay/\SlQ QE c l)/\(∃ c,c < b/\SlQ QT c x.fLimits)/\(∃ c,c < b/\SlQ QT c x.fInside)
def QA (b:Nat)(a:Aut):Prop:=(∃ c,c < b/\SlQ QS c a.fStates)/\(∃ c,c < b/\SlQ QX c a.fEdges)
theorem yan {l:List Exn}(h:SlQ QE b l):∃ c:List (Nat×Exn),c.map (·.2)=l/\(∀ q∈c,ETr q.1 q.2)/\(c.map (·.1)).sum<b:=by
 obtain ⟨f,rfl,k,r⟩:=h;have:∃ c:List (Nat×Exn),c.map (·.2)=f.map (·.2)/\(∀ q∈c,ETr q.1 q.2)/\(c.map (·.1)).sum<=(f.map (·.1)).sum:=by
  clear r
  induction f with
  |nil=>exact ⟨[],rfl,by simp,by simp⟩
  |cons p f n =>
   obtain ⟨c,i,g,m⟩:=n (fun q j=>k q (mem_cons_of_mem _ j));obtain ⟨z,s,o⟩:=(k p (by simp)).2;refine ⟨(z,p.2)::c,by simp [i],fun q j=>?_,by simp only [map_cons,sum_cons];omega⟩;rcases mem_cons.1 j with e|e
   ·rw [e];exact o
   ·exact g q e
 obtain ⟨c,i,g,m⟩:=this;exact ⟨c,i,g,by omega⟩
theorem zzb {e:Exn}(h:QE b e)(g:b<=1048576):WfE e:=by
 obtain ⟨z,f,c⟩:=h;exact ⟨z,by omega,c⟩
theorem y93 {a:Aut}(h:QA b a)(D:b<=1048576):WfA a:=by
 obtain ⟨⟨b1,h1,i⟩,⟨b2,J,f⟩⟩:=h;refine ⟨by have:=i.len;omega,by have:=f.len;omega,fun s z=>?_,fun x w=>?_⟩
 ·obtain ⟨C,B,b4,I,e⟩:=i.mem s z;refine ⟨by have:=e.len;omega,fun g A=>?_⟩;obtain ⟨b5,G,Z,F,c⟩:=e.mem g A;exact zzb c (by omega)
 ·obtain ⟨C,B,⟨X,P,r⟩,⟨V,O,q⟩,⟨U,N,o⟩,⟨T,M,l,k,j⟩,⟨S,L,n⟩,⟨R,K,c⟩⟩:=f.mem x w;refine ⟨zzb r (by omega),⟨l,k,fun y u=>?_⟩,?_,?_,?_,?_,?_⟩
  ·obtain ⟨Y,E,m⟩:=j.mem y u;exact zzb m (by omega)
  ·rw [k,length_map];have:=j.len;omega
  ·have:=q.len;omega
  ·have:=o.len;omega
  ·have:=c.len;omega
  ·have:=n.len;omega
theorem zws:FO enc W 144 3 (fun m:A9=>(Af m).cells):=fun n cs x D h=>by
 obtain ⟨xs,c,_,C,_,e,f⟩:=DataW.trod_struct Tryz.underlying144 h
 match xs,e with
 |[o,l,k],_ =>
  have B:Tryz.prog.cellsOf 3=1:=by kernel_rfl
  have j:DataW.trod enc Tryz.prog W 0 (fun _=>true) true c 3 ((cs.drop 0).take (Tryz.prog.cellsOf 3))=some o:=f 0 _ rfl;rw [B] at j;obtain ⟨u,y⟩:=(Ca Tryz.underlying3) c _ _ (Bn (by omega)) j;have A:Tryz.prog.cellsOf 3=1:=by kernel_rfl
  have i:DataW.trod enc Tryz.prog W 0 (fun _=>true) true c 3 ((cs.drop 1).take (Tryz.prog.cellsOf 3))=some l:=f 1 _ rfl;rw [A] at i;obtain ⟨s,h1⟩:=(Ca Tryz.underlying3) c _ _ (Bn (by omega)) i;have z:Tryz.prog.cellsOf 9=1:=by kernel_rfl
  have g:DataW.trod enc Tryz.prog W 0 (fun _=>true) true c 9 ((cs.drop 2).take (Tryz.prog.cellsOf 9))=some k:=f 2 _ rfl;rw [z] at g;obtain ⟨q,w⟩:=(yah Tryz.underlying9) c _ _ (Bn (by omega)) g;have r:=(show Bq W _ (cs.drop 0) from (.cut y (.cut h1 (.cut w (Bq.done (by omega))))));exact ⟨⟨u,s,q⟩,r⟩
theorem zmo:∀ B,FQ enc W 146 8 (fun m:Exn=>(Ay m).cells) QE B
 |0=>fun n cs x u O h=>absurd u (Nat.not_lt_zero _)
 |B+1=>fun n cs x u O h=>by
  obtain ⟨xs,c,_,N,_,f,e⟩:=DataW.trod_struct Tryz.underlying146 h
  match xs,f with
  |[o,l,k,j,i,g],_ =>
   have hk:Rows.uptoBulk x.1=Rows.uptoBulk o.1+Rows.uptoBulk l.1+Rows.uptoBulk k.1+Rows.uptoBulk j.1+Rows.uptoBulk i.1+Rows.uptoBulk g.1+1:=by rw [N];simp only [Rows.uptoBulk,Rows.uptoBulkAll,map_cons,map_nil]<;>omega
   have c0:Tryz.prog.cellsOf 3=1:=by kernel_rfl
   have D:DataW.trod enc Tryz.prog W 0 (fun _=>true) true c 3 ((cs.drop 0).take (Tryz.prog.cellsOf 3))=some o:=e 0 _ rfl;rw [c0] at D;obtain ⟨M,U,q0⟩:=(D8 (Ca Tryz.underlying3)) c _ _ (show Rows.uptoBulk o.1<B by omega) (Bn (by omega)) D;have c1:Tryz.prog.cellsOf 142=1:=by kernel_rfl
   have C:DataW.trod enc Tryz.prog W 0 (fun _=>true) true c 142 ((cs.drop 1).take (Tryz.prog.cellsOf 142))=some l:=e 1 _ rfl;rw [c1] at C;obtain ⟨q,h1,G⟩:=(Hp (sz:=8) (a:=Ay) Tryz.underlying142 (by kernel_rfl) (by omega) inferInstance (fun _=>rfl) (zmo B)) c _ _ (show Rows.uptoBulk l.1<B by omega) (Bn (by omega)) C;have Z:Tryz.prog.cellsOf 3=1:=by kernel_rfl
   have A:DataW.trod enc Tryz.prog W 0 (fun _=>true) true c 3 ((cs.drop 2).take (Tryz.prog.cellsOf 3))=some k:=e 2 _ rfl;rw [Z] at A;obtain ⟨L,T,q2⟩:=(D8 (Ca Tryz.underlying3)) c _ _ (show Rows.uptoBulk k.1<B by omega) (Bn (by omega)) A;have Y:Tryz.prog.cellsOf 3=1:=by kernel_rfl
   have z:DataW.trod enc Tryz.prog W 0 (fun _=>true) true c 3 ((cs.drop 3).take (Tryz.prog.cellsOf 3))=some j:=e 3 _ rfl;rw [Y] at z;obtain ⟨K,S,q3⟩:=(D8 (Ca Tryz.underlying3)) c _ _ (show Rows.uptoBulk j.1<B by omega) (Bn (by omega)) z;have X:Tryz.prog.cellsOf 3=1:=by kernel_rfl
   have y:DataW.trod enc Tryz.prog W 0 (fun _=>true) true c 3 ((cs.drop 4).take (Tryz.prog.cellsOf 3))=some i:=e 4 _ rfl;rw [X] at y;obtain ⟨J,R,q4⟩:=(D8 (Ca Tryz.underlying3)) c _ _ (show Rows.uptoBulk i.1<B by omega) (Bn (by omega)) y;have V:Tryz.prog.cellsOf 144=3:=by kernel_rfl
   have w:DataW.trod enc Tryz.prog W 0 (fun _=>true) true c 144 ((cs.drop 5).take (Tryz.prog.cellsOf 144))=some g:=e 5 _ rfl;rw [V] at w;obtain ⟨I,P,q5⟩:=(D8 zws) c _ _ (show Rows.uptoBulk g.1<B by omega) (Bn (by omega)) w;have h1:Bq W [AV.sl 8 (List.map idA (List.map Ay q))] ((cs.drop 1).take 1):=by rw [Sw];exact h1
   have r:=(show Bq W _ (cs.drop 0) from (.cut U (.cut h1 (.cut T (.cut S (.cut R (.cut P (Bq.done (by omega)))))))));obtain ⟨s,F,E,r3⟩:=yan G;refine ⟨⟨M,q.map Ay,L,K,J,I⟩,r,1+(s.map (·.1)).sum,by omega,.mk s _ E ?_⟩;show q.map Ay=_;rw [<-F,map_map];rfl
theorem y4y (B:Nat):FQ enc W 216 11 (fun m:Gd=>(B7 m).cells) QG B:=fun n cs x R O h=>by
 obtain ⟨xs,c,_,C,_,e,g⟩:=DataW.trod_struct Tryz.underlying216 h
 match xs,e with
 |[k,j,i,f],_ =>
  have P:Rows.uptoBulk x.1=Rows.uptoBulk k.1+Rows.uptoBulk j.1+Rows.uptoBulk i.1+Rows.uptoBulk f.1+1:=by rw [C];simp only [Rows.uptoBulk,Rows.uptoBulkAll,map_cons,map_nil]<;>omega
  have K:Tryz.prog.cellsOf 3=1:=by kernel_rfl
  have s:DataW.trod enc Tryz.prog W 0 (fun _=>true) true c 3 ((cs.drop 0).take (Tryz.prog.cellsOf 3))=some k:=g 0 _ rfl;rw [K] at s;obtain ⟨A,F,N⟩:=(D8 (Ca Tryz.underlying3)) c _ _ (show Rows.uptoBulk k.1<B by omega) (Bn (by omega)) s;have J:Tryz.prog.cellsOf 3=1:=by kernel_rfl
  have q:DataW.trod enc Tryz.prog W 0 (fun _=>true) true c 3 ((cs.drop 1).take (Tryz.prog.cellsOf 3))=some j:=g 1 _ rfl;rw [J] at q;obtain ⟨z,h1,M⟩:=(D8 (Ca Tryz.underlying3)) c _ _ (show Rows.uptoBulk j.1<B by omega) (Bn (by omega)) q;have I:Tryz.prog.cellsOf 3=1:=by kernel_rfl
  have o:DataW.trod enc Tryz.prog W 0 (fun _=>true) true c 3 ((cs.drop 2).take (Tryz.prog.cellsOf 3))=some i:=g 2 _ rfl;rw [I] at o;obtain ⟨y,E,L⟩:=(D8 (Ca Tryz.underlying3)) c _ _ (show Rows.uptoBulk i.1<B by omega) (Bn (by omega)) o;have G:Tryz.prog.cellsOf 146=8:=by kernel_rfl
  have l:DataW.trod enc Tryz.prog W 0 (fun _=>true) true c 146 ((cs.drop 3).take (Tryz.prog.cellsOf 146))=some f:=g 3 _ rfl;rw [G] at l;obtain ⟨w,D,u⟩:=(zmo B) c _ _ (show Rows.uptoBulk f.1<B by omega) (Bn (by omega)) l;have r:=(show Bq W _ (cs.drop 0) from (.cut F (.cut h1 (.cut E (.cut D (Bq.done (by omega)))))));exact ⟨⟨A,z,y,w⟩,r,_,(show Rows.uptoBulk f.1<_ by omega),u⟩
theorem y4x (B:Nat):FQ enc W 140 1 (fun m:Stt=>(Ao m).cells) QS B:=fun n cs x w s h=>by
 obtain ⟨xs,f,_,k,_,c,l⟩:=DataW.trod_struct Tryz.underlying140 h
 match xs,c with
 |[e],_ =>
  have u:Rows.uptoBulk x.1=Rows.uptoBulk e.1+1:=by rw [k];simp only [Rows.uptoBulk,Rows.uptoBulkAll,map_cons,map_nil]<;>omega
  have q:Tryz.prog.cellsOf 138=1:=by kernel_rfl
  have g:DataW.trod enc Tryz.prog W 0 (fun _=>true) true f 138 ((cs.drop 0).take (Tryz.prog.cellsOf 138))=some e:=l 0 _ rfl;rw [q] at g;obtain ⟨j,o,i⟩:=(Hp (sz:=11) (a:=B7) Tryz.underlying138 (by kernel_rfl) (by omega) inferInstance (fun _=>rfl) (y4y B)) f _ _ (show Rows.uptoBulk e.1<B by omega) (Bn (by omega)) g;have r:=(show Bq W _ (cs.drop 0) from (.cut o (Bq.done (by omega))));exact ⟨⟨j⟩,r,_,(show Rows.uptoBulk e.1<_ by omega),i⟩
theorem y50:FO enc W 230 2 (fun m:C3=>(Bw m).cells):=fun n cs x y h=>by
 obtain ⟨xs,e,_,w,_,c,f⟩:=DataW.trod_struct Tryz.underlying230 h
 match xs,c with
 |[k,j],_ =>
  have u:Tryz.prog.cellsOf 3=1:=by kernel_rfl
  have i:DataW.trod enc Tryz.prog W 0 (fun _=>true) true e 3 ((cs.drop 0).take (Tryz.prog.cellsOf 3))=some k:=f 0 _ rfl;rw [u] at i;obtain ⟨o,q⟩:=(Ca Tryz.underlying3) e _ _ (Bn (by omega)) i;have s:Tryz.prog.cellsOf 3=1:=by kernel_rfl
  have g:DataW.trod enc Tryz.prog W 0 (fun _=>true) true e 3 ((cs.drop 1).take (Tryz.prog.cellsOf 3))=some j:=f 1 _ rfl;rw [s] at g;obtain ⟨l,h1⟩:=(Ca Tryz.underlying3) e _ _ (Bn (by omega)) g;have r:=(show Bq W _ (cs.drop 0) from (.cut q (.cut h1 (Bq.done (by omega)))));exact ⟨⟨o,l⟩,r⟩
theorem y88 (B:Nat):FQ enc W 149 17 (fun m:Ed=>(Ac m).cells) QX B:=fun n cs x hb hl h=>by
 obtain ⟨xs,c,_,hx,_,f,e⟩:=DataW.trod_struct Tryz.underlying149 h
 match xs,f with
 |[w,u,s,q,o,l,k,j,i,g],_ =>
  have hk:Rows.uptoBulk x.1=Rows.uptoBulk w.1+Rows.uptoBulk u.1+Rows.uptoBulk s.1+Rows.uptoBulk q.1+Rows.uptoBulk o.1+Rows.uptoBulk l.1+Rows.uptoBulk k.1+Rows.uptoBulk j.1+Rows.uptoBulk i.1+Rows.uptoBulk g.1+1:=by rw [hx];simp only [Rows.uptoBulk,Rows.uptoBulkAll,map_cons,map_nil]<;>omega
  have c0:Tryz.prog.cellsOf 3=1:=by kernel_rfl
  have L:DataW.trod enc Tryz.prog W 0 (fun _=>true) true c 3 ((cs.drop 0).take (Tryz.prog.cellsOf 3))=some w:=e 0 _ rfl;rw [c0] at L;obtain ⟨m0,h0,q0⟩:=(D8 (Ca Tryz.underlying3)) c _ _ (show Rows.uptoBulk w.1<B by omega) (Bn (by omega)) L;have c1:Tryz.prog.cellsOf 3=1:=by kernel_rfl
  have K:DataW.trod enc Tryz.prog W 0 (fun _=>true) true c 3 ((cs.drop 1).take (Tryz.prog.cellsOf 3))=some u:=e 1 _ rfl;rw [c1] at K;obtain ⟨m1,h1,q1⟩:=(D8 (Ca Tryz.underlying3)) c _ _ (show Rows.uptoBulk u.1<B by omega) (Bn (by omega)) K;have c2:Tryz.prog.cellsOf 3=1:=by kernel_rfl
  have J:DataW.trod enc Tryz.prog W 0 (fun _=>true) true c 3 ((cs.drop 2).take (Tryz.prog.cellsOf 3))=some s:=e 2 _ rfl;rw [c2] at J;obtain ⟨m2,h2,q2⟩:=(D8 (Ca Tryz.underlying3)) c _ _ (show Rows.uptoBulk s.1<B by omega) (Bn (by omega)) J;have c3:Tryz.prog.cellsOf 3=1:=by kernel_rfl
  have I:DataW.trod enc Tryz.prog W 0 (fun _=>true) true c 3 ((cs.drop 3).take (Tryz.prog.cellsOf 3))=some q:=e 3 _ rfl;rw [c3] at I;obtain ⟨Z,h3,q3⟩:=(D8 (Ca Tryz.underlying3)) c _ _ (show Rows.uptoBulk q.1<B by omega) (Bn (by omega)) I;have c4:Tryz.prog.cellsOf 146=8:=by kernel_rfl
  have G:DataW.trod enc Tryz.prog W 0 (fun _=>true) true c 146 ((cs.drop 4).take (Tryz.prog.cellsOf 146))=some o:=e 4 _ rfl;rw [c4] at G;obtain ⟨Y,h4,S⟩:=(zmo B) c _ _ (show Rows.uptoBulk o.1<B by omega) (Bn (by omega)) G;have c5:Tryz.prog.cellsOf 43=1:=by kernel_rfl
  have F:DataW.trod enc Tryz.prog W 0 (fun _=>true) true c 43 ((cs.drop 12).take (Tryz.prog.cellsOf 43))=some l:=e 5 _ rfl;rw [c5] at F;obtain ⟨X,h5,R⟩:=(Hp (sz:=1) (a:=aI) Tryz.underlying43 (by kernel_rfl) (by omega) inferInstance (fun _=>rfl) (D8 (y89 Tryz.underlying3))) c _ _ (show Rows.uptoBulk l.1<B by omega) (Bn (by omega)) F;have c6:Tryz.prog.cellsOf 43=1:=by kernel_rfl
  have E:DataW.trod enc Tryz.prog W 0 (fun _=>true) true c 43 ((cs.drop 13).take (Tryz.prog.cellsOf 43))=some k:=e 6 _ rfl;rw [c6] at E;obtain ⟨V,h6,P⟩:=(Hp (sz:=1) (a:=aI) Tryz.underlying43 (by kernel_rfl) (by omega) inferInstance (fun _=>rfl) (D8 (y89 Tryz.underlying3))) c _ _ (show Rows.uptoBulk k.1<B by omega) (Bn (by omega)) E;have c7:Tryz.prog.cellsOf 142=1:=by kernel_rfl
  have D:DataW.trod enc Tryz.prog W 0 (fun _=>true) true c 142 ((cs.drop 14).take (Tryz.prog.cellsOf 142))=some j:=e 7 _ rfl;rw [c7] at D;obtain ⟨y,z,O⟩:=(Hp (sz:=8) (a:=Ay) Tryz.underlying142 (by kernel_rfl) (by omega) inferInstance (fun _=>rfl) (zmo B)) c _ _ (show Rows.uptoBulk j.1<B by omega) (Bn (by omega)) D;have c8:Tryz.prog.cellsOf 147=1:=by kernel_rfl
  have C:DataW.trod enc Tryz.prog W 0 (fun _=>true) true c 147 ((cs.drop 15).take (Tryz.prog.cellsOf 147))=some i:=e 8 _ rfl;rw [c8] at C;obtain ⟨U,h8,N⟩:=(Hp (sz:=2) (a:=Bw) Tryz.underlying147 (by kernel_rfl) (by omega) inferInstance (fun _=>rfl) (D8 y50)) c _ _ (show Rows.uptoBulk i.1<B by omega) (Bn (by omega)) C;have c9:Tryz.prog.cellsOf 43=1:=by kernel_rfl
  have A:DataW.trod enc Tryz.prog W 0 (fun _=>true) true c 43 ((cs.drop 16).take (Tryz.prog.cellsOf 43))=some g:=e 9 _ rfl;rw [c9] at A;obtain ⟨T,h9,M⟩:=(Hp (sz:=1) (a:=aI) Tryz.underlying43 (by kernel_rfl) (by omega) inferInstance (fun _=>rfl) (D8 (y89 Tryz.underlying3))) c _ _ (show Rows.uptoBulk g.1<B by omega) (Bn (by omega)) A;have z:Bq W [AV.sl 8 (List.map idA (List.map Ay y))] ((cs.drop 14).take 1):=by rw [Sw];exact z
  have r:=(show Bq W _ (cs.drop 0) from (.cut h0 (.cut h1 (.cut h2 (.cut h3 (.cut h4 (.cut h5 (.cut h6 (.cut z (.cut h8 (.cut h9 (Bq.done (by omega)))))))))))));exact ⟨⟨m0,m1,m2,Z,Y,X,V,y.map Ay,U,T⟩,r,⟨_,(show Rows.uptoBulk o.1<_ by omega),S⟩,⟨_,(show Rows.uptoBulk l.1<_ by omega),R⟩,⟨_,(show Rows.uptoBulk k.1<_ by omega),P⟩,⟨_,(show Rows.uptoBulk j.1<_ by omega),y,rfl,O⟩,⟨_,(show Rows.uptoBulk i.1<_ by omega),N⟩,⟨_,(show Rows.uptoBulk g.1<_ by omega),M⟩⟩
theorem yag (B:Nat):FQ enc W 26 4 (fun m:Aut=>(Bh m).cells) QA B:=fun n cs x R O h=>by
 obtain ⟨xs,c,_,D,_,e,i⟩:=DataW.trod_struct Tryz.underlying26 h
 match xs,e with
 |[k,j,g,f],_ =>
  have P:Rows.uptoBulk x.1=Rows.uptoBulk k.1+Rows.uptoBulk j.1+Rows.uptoBulk g.1+Rows.uptoBulk f.1+1:=by rw [D];simp only [Rows.uptoBulk,Rows.uptoBulkAll,map_cons,map_nil]<;>omega
  have L:Tryz.prog.cellsOf 3=1:=by kernel_rfl
  have s:DataW.trod enc Tryz.prog W 0 (fun _=>true) true c 3 ((cs.drop 0).take (Tryz.prog.cellsOf 3))=some k:=i 0 _ rfl;rw [L] at s;obtain ⟨C,G,N⟩:=(D8 (Ca Tryz.underlying3)) c _ _ (show Rows.uptoBulk k.1<B by omega) (Bn (by omega)) s;have K:Tryz.prog.cellsOf 3=1:=by kernel_rfl
  have q:DataW.trod enc Tryz.prog W 0 (fun _=>true) true c 3 ((cs.drop 1).take (Tryz.prog.cellsOf 3))=some j:=i 1 _ rfl;rw [K] at q;obtain ⟨A,h1,M⟩:=(D8 (Ca Tryz.underlying3)) c _ _ (show Rows.uptoBulk j.1<B by omega) (Bn (by omega)) q;have J:Tryz.prog.cellsOf 23=1:=by kernel_rfl
  have o:DataW.trod enc Tryz.prog W 0 (fun _=>true) true c 23 ((cs.drop 2).take (Tryz.prog.cellsOf 23))=some g:=i 2 _ rfl;rw [J] at o;obtain ⟨z,F,w⟩:=(Hp (sz:=1) (a:=Ao) Tryz.underlying23 (by kernel_rfl) (by omega) inferInstance (fun _=>rfl) (y4x B)) c _ _ (show Rows.uptoBulk g.1<B by omega) (Bn (by omega)) o;have I:Tryz.prog.cellsOf 24=1:=by kernel_rfl
  have l:DataW.trod enc Tryz.prog W 0 (fun _=>true) true c 24 ((cs.drop 3).take (Tryz.prog.cellsOf 24))=some f:=i 3 _ rfl;rw [I] at l;obtain ⟨y,E,u⟩:=(Hp (sz:=17) (a:=Ac) Tryz.underlying24 (by kernel_rfl) (by omega) inferInstance (fun _=>rfl) (y88 B)) c _ _ (show Rows.uptoBulk f.1<B by omega) (Bn (by omega)) l;have r:=(show Bq W _ (cs.drop 0) from (.cut G (.cut h1 (.cut F (.cut E (Bq.done (by omega)))))));exact ⟨⟨C,A,z,y⟩,r,⟨_,(show Rows.uptoBulk g.1<_ by omega),w⟩,⟨_,(show Rows.uptoBulk f.1<_ by omega),u⟩⟩
theorem y90 (c:Value.okWide Tryz.prog W .any base 26 v)(h:DataW.Trod enc Tryz.prog W 0 (fun _=>true) true 26 v d p)(e:Rows.uptoBulk d<=1048576):∃ m:Aut,Rep W (fun _=>True) G0 (Bh m) v/\WfA m:=by
 obtain ⟨m,r,q⟩:=zuw (sz:=4) (a:=Bh) Tryz.underlying26 (by kernel_rfl) (fun _=>⟨_,rfl⟩) (fun B=>yag B) c h;exact ⟨m,r,y93 q e⟩
theorem y51:FO enc W 37 5 (fun m:A8=>(A7 m).cells):=fun n cs x O h=>by
 obtain ⟨xs,c,_,N,_,e,f⟩:=DataW.trod_struct Tryz.underlying37 h
 match xs,e with
 |[w,u,s,q,o],_ =>
  have M:Tryz.prog.cellsOf 3=1:=by kernel_rfl
  have l:DataW.trod enc Tryz.prog W 0 (fun _=>true) true c 3 ((cs.drop 0).take (Tryz.prog.cellsOf 3))=some w:=f 0 _ rfl;rw [M] at l;obtain ⟨C,G⟩:=(Ca Tryz.underlying3) c _ _ (Bn (by omega)) l;have L:Tryz.prog.cellsOf 3=1:=by kernel_rfl
  have k:DataW.trod enc Tryz.prog W 0 (fun _=>true) true c 3 ((cs.drop 1).take (Tryz.prog.cellsOf 3))=some u:=f 1 _ rfl;rw [L] at k;obtain ⟨B,h1⟩:=(Ca Tryz.underlying3) c _ _ (Bn (by omega)) k;have K:Tryz.prog.cellsOf 3=1:=by kernel_rfl
  have j:DataW.trod enc Tryz.prog W 0 (fun _=>true) true c 3 ((cs.drop 2).take (Tryz.prog.cellsOf 3))=some s:=f 2 _ rfl;rw [K] at j;obtain ⟨A,F⟩:=(Ca Tryz.underlying3) c _ _ (Bn (by omega)) j;have J:Tryz.prog.cellsOf 3=1:=by kernel_rfl
  have i:DataW.trod enc Tryz.prog W 0 (fun _=>true) true c 3 ((cs.drop 3).take (Tryz.prog.cellsOf 3))=some q:=f 3 _ rfl;rw [J] at i;obtain ⟨z,E⟩:=(Ca Tryz.underlying3) c _ _ (Bn (by omega)) i;have I:Tryz.prog.cellsOf 35=1:=by kernel_rfl
  have g:DataW.trod enc Tryz.prog W 0 (fun _=>true) true c 35 ((cs.drop 4).take (Tryz.prog.cellsOf 35))=some o:=f 4 _ rfl;rw [I] at g;obtain ⟨y,D⟩:=(Xv (sz:=3) (a:=Af) Tryz.underlying35 (by kernel_rfl) (by omega) inferInstance (fun _=>rfl) zws) c _ _ (Bn (by omega)) g;have r:=(show Bq W _ (cs.drop 0) from (.cut G (.cut h1 (.cut F (.cut E (.cut D (Bq.done (by omega))))))));exact ⟨⟨C,B,A,z,y⟩,r⟩
theorem zyw (c:Value.okWide Tryz.prog W .any base 29 v)(h:DataW.Trod enc Tryz.prog W 0 (fun _=>true) true 29 v d p):∃ l:List A8,Rep W (fun _=>True) G0 (.sl 5 (l.map A7)) v :=
 y2x Tryz.underlying29 (by kernel_rfl) (by omega) inferInstance (fun _=>rfl) y51 c h
end
section
variable {H:Type} {enc:TypeId×Value->H} {W:World} {base:Nat} {v:Value} {d:DataW H} {p:List MemPlace}
set_option maxRecDepth 100000
end
end Go.Proofs.YthbogefcfhmpgaaGreat
