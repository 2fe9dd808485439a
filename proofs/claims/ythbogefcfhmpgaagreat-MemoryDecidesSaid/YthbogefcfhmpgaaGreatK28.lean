/- Arguments opened. -/
import Derived.Test.YthbogefcfhmpgaaGreatK27
import Derived.OpenShut
import Derived.JoinedCond
set_option linter.unusedVariables false
set_option linter.unusedSimpArgs false
namespace Go.Proofs.YthbogefcfhmpgaaGreat
open Go.ChangeShapes Go.WideShapes Go.ChangeAt Go.RowKit Go.Joins Go.Deep List
theorem y0f {H:Type}(d:DataW H):1<=Rows.uptoBulk d:=by
 cases d with
 |lit l=>cases l<;>simp [Rows.uptoBulk]
 |nil=>simp [Rows.uptoBulk]
 |ptr d=>simp [Rows.uptoBulk]
 |slice elems spare=>simp [Rows.uptoBulk]
 |agg parts=>simp [Rows.uptoBulk]
 |iface t d=>simp [Rows.uptoBulk]
 |map entries=>simp [Rows.uptoBulk]
 |held h=>simp [Rows.uptoBulk]
theorem y0g {H:Type}{d:DataW H}{l:List (DataW H)}(h:d∈l):Rows.uptoBulk d<=Rows.uptoBulkAll l:=by
 induction l with
 |nil=>cases h
 |cons x r ih =>
  simp only [Rows.uptoBulkAll]
  rcases mem_cons.1 h with e|e
  ·subst e;omega
  ·have:=ih e;omega
variable {α:Type}
def SlQ (Q:Nat->α->Prop)(b:Nat)(l:List α):Prop:=∃ ps:List (Nat×α),ps.map (·.2)=l/\(∀ p∈ps,1<=p.1/\Q p.1 p.2)/\(ps.map (·.1)).sum<b
variable {Q:Nat->α->Prop}{b:Nat}
theorem SlQ.len {l:List α}(h:SlQ Q b l):l.length<b:=by
 obtain ⟨ps,rfl,h2,h3⟩:=h
 rw [length_map]
 refine Nat.lt_of_le_of_lt ?_ h3
 clear h3
 induction ps with
 |nil=>simp
 |cons p ps ih =>
  have:=(h2 p (by simp)).1
  have:=ih (fun q hq=>h2 q (mem_cons_of_mem _ hq))
  simp only [map_cons,sum_cons,length_cons];omega
theorem SlQ.mem {l:List α}(h:SlQ Q b l):∀ m∈l,∃ b',b' < b/\Q b' m:=fun m hm=>by
 obtain ⟨ps,rfl,h2,h3⟩:=h
 obtain ⟨p,hp,rfl⟩:=mem_map.1 hm
 refine ⟨p.1,?_,(h2 p hp).2⟩
 have:p.1<=(ps.map (·.1)).sum:=by
  clear h2 h3 hm
  induction ps with
  |nil=>cases hp
  |cons x ps ih =>
   simp only [map_cons,sum_cons]
   rcases mem_cons.1 hp with e|e
   ·subst e;omega
   ·have:=ih e;omega
 omega
section
variable {H:Type} {enc:TypeId×Value->H} {W:World} {base:Nat} {v:Value} {d:DataW H} {p:List MemPlace}
set_option maxRecDepth 100000
variable {a:α->AV}{t:TypeId}{sz:Nat}
theorem ztp {e:TypeId}(ht:Tryz.prog.underlying t=some (.slice e))(hsz:Tryz.prog.cellsOf e=sz)(h0:0<sz)(i0:Inhabited α)(hlen:∀ m,(a m).cells.length=sz)
   {n:Nat} {u:Value} {x:DataW H×List MemPlace} (each:∀ (n:Nat) (cs:List Value) (y:DataW H×List MemPlace),Rows.uptoBulk y.1<Rows.uptoBulk x.1->cs.length=sz->DataW.trod enc Tryz.prog W 0 (fun _=>true) true n e cs=some y->∃ m:α,V8 W a m cs/\Q (Rows.uptoBulk y.1) m)
  (h:DataW.trod enc Tryz.prog W 0 (fun _=>true) true n t [u]=some x):∃ l:List α,Rep W (fun _=>True) G0 (.sl sz (l.map a)) u/\SlQ Q (Rows.uptoBulk x.1) l:=by
 rcases open_slice ht h with ⟨h1,hx⟩|⟨A,len,cap,m,n',D,Pl,h1,_,hlc,hm,hmm,hx,hc⟩
 ·simp only [List.cons.injEq,and_true] at h1
  subst h1
  exact ⟨[],.sl none 0 (fun _ _=>.bool true) (by simp) (fun k hk=>absurd hk (by simp)) (fun h=>absurd h (by simp)) (fun k hk=>absurd hk (by simp)) (fun _ _=>rfl),[],rfl,by simp,by rw [hx];simp [Rows.uptoBulk]⟩
 ·simp only [List.cons.injEq,and_true] at h1
  subst h1
  simp only [if_true] at hmm
  subst hmm
  rw [hsz] at hc
  have hbx:Rows.uptoBulkAll ((range len).map D)<Rows.uptoBulk x.1:=by
   rw [hx]
   simp only [Rows.uptoBulk]
   omega
  have every:∀ i,∃ q:α×List Value,i<len->W.cells? 0 (A.add (i*sz)) sz=some q.2/\V8 W a q.1 q.2/\Q (Rows.uptoBulk (D i)) q.1:=fun i=>by
   by_cases hi:i<len
   ·obtain ⟨cs,c1,c2⟩:=hc i (by omega)
    have hlt:Rows.uptoBulk (D i)<Rows.uptoBulk x.1:=by
     have:=y0g (l:=(range len).map D) (mem_map.2 ⟨i,mem_range.2 hi,rfl⟩)
     omega
    obtain ⟨k,hk,hq⟩:=each n' cs _ hlt (Xl c1).1 c2
    exact ⟨(k,cs),fun _=>⟨c1,hk,hq⟩⟩
   ·exact ⟨(i0.default,[]),fun h=>absurd h hi⟩
  obtain ⟨f,hf⟩:=Classical.axiomOfChoice every
  have hl:((range len).map fun i=>(f i).1).length=len:=by simp
  refine ⟨(range len).map fun i=>(f i).1,?_,(range len).map (fun i=>(Rows.uptoBulk (D i),(f i).1)),by simp,?_,?_⟩
  rotate_left
  ·intro p hp
   obtain ⟨i,hi,rfl⟩:=mem_map.1 hp
   exact ⟨y0f _,(hf i (mem_range.1 hi)).2.2⟩
  ·rw [map_map]
   have:∀ l:List Nat,(l.map ((fun p:Nat×α=>p.1) ∘ fun i=>(Rows.uptoBulk (D i),(f i).1))).sum=Rows.uptoBulkAll (l.map D):=fun l=>by
    induction l with
    |nil=>simp [Rows.uptoBulkAll]
    |cons i l ih=>simp only [map_cons,sum_cons,ih,Rows.uptoBulkAll,Function.comp]
   rw [this]
   exact hbx
  have e:len=(((range len).map fun i=>(f i).1).map a).length:=by simp
  have hcell:∀ k j,k<len->j<sz->W.cell? ((A.add (k*sz)).add j)=some ((f k).2.getD j undef):=fun k j hk hj=>(Xl (hf k hk).1).2 j hj
  have:Rep W (fun _=>True) G0 (.sl sz (((range len).map fun i=>(f i).1).map a)) (.slice (some A) (((range len).map fun i=>(f i).1).map a).length m):=by
   refine .sl (some A) m (fun k j=>if k<len/\j<sz then (f k).2.getD j undef else .bool true) (by simpa using hlc) (fun k hk=>?_) (fun h0'=>?_) (fun k hk j hj=>?_) (fun k j=>?_)
   ·simp only [getElem_map];exact hlen _
   ·have hlp:0<len:=by simpa using h0'
    have c0:=zhq (hcell 0 0 hlp h0)
    obtain ⟨b,off,sp⟩:=A
    have e1:sp=none:=by simpa [Addr.add] using c0.1
    subst e1
    rw [Ku,Ku] at c0
    refine ⟨b,off,rfl,trivial,c0.2,fun k j hk hj=>?_⟩
    have hk':k<len:=by simpa using hk
    have:=hcell k j hk' hj
    rw [Ku,Ku] at this
    rw [if_pos ⟨hk',hj⟩,<-this]
    congr 2
    omega
   ·have hk':k<len:=by simpa using hk
    simp only [getElem_map,getElem_range] at hj ⊢
    have hj':j<sz:=by rw [hlen] at hj;exact hj
    rw [if_pos ⟨hk',hj'⟩]
    exact ((hf k hk').2.1.2 j hj).1
   ·by_cases hkj:k<len/\j<sz
    ·rw [if_pos hkj]
     exact ((hf k hkj.1).2.1.2 j (by rw [hlen];exact hkj.2)).2
    ·rw [if_neg hkj];rfl
  rw [<-e] at this
  exact this
abbrev FQ (enc:TypeId×Value->H)(W:World)(t:TypeId)(sz:Nat){α:Type}(e:α->List AV)(Q:Nat->α->Prop)(B:Nat):Prop :=
 ∀ (n:Nat) (cs:List Value) (x:DataW H×List MemPlace),Rows.uptoBulk x.1<B->cs.length=sz->DataW.trod enc Tryz.prog W 0 (fun _=>true) true n t cs=some x->∃ m:α,Bi W (e m) cs/\Q (Rows.uptoBulk x.1) m
theorem Ck {B:Nat}{e:α->List AV}(h:FO enc W t sz e):FQ enc W t sz e (fun _ _=>True) B:=fun n cs x _ hl ht=>by
 obtain ⟨m,hm⟩:=h n cs x hl ht
 exact ⟨m,hm,trivial⟩
theorem H3 {e:TypeId}{B:Nat}(ht:Tryz.prog.underlying t=some (.slice e))(hsz:Tryz.prog.cellsOf e=sz)(h0:0<sz)(i0:Inhabited α)(hlen:∀ m,(a m).cells.length=sz)
  (each:FQ enc W e sz (fun m:α=>(a m).cells) Q B):FQ enc W t 1 (fun l:List α=>[AV.sl sz (l.map a)]) (SlQ Q) B:=fun n cs x hb hl h=>by
 match cs,hl with
 |[c],_ =>
  obtain ⟨l,hl,hq⟩:=ztp (a:=a) ht hsz h0 i0 hlen (fun n cs y hy hl h=>each n cs y (by omega) hl h) h
  exact ⟨l,.one hl hl.one_sl,hq⟩
theorem zmu {fs:Array Field}(ht:Tryz.prog.underlying t=some (.struct fs))(hsz:Tryz.prog.cellsOf t=sz)(ha:∀ m,∃ xs,a m=.agg xs)(each:∀ B,FQ enc W t sz (fun m:α=>(a m).cells) Q B)
  (hv:Value.okWide Tryz.prog W .any base t v) (h:DataW.Trod enc Tryz.prog W 0 (fun _=>true) true t v d p):∃ m:α,Rep W (fun _=>True) G0 (a m) v/\Q (Rows.uptoBulk d) m:=by
 obtain ⟨cs,rfl,hz⟩:=okWide_struct ht hv
 obtain ⟨fuel,hf⟩:=h
 obtain ⟨m,hm,hq⟩:=each (Rows.uptoBulk d+1) fuel cs.toList _ (by show Rows.uptoBulk d<Rows.uptoBulk d+1;omega) (by simpa using hz.trans hsz) hf
 obtain ⟨xs,hx⟩:=ha m
 exact ⟨m,y0j hx hm,hq⟩
def QE (b:Nat)(m:Exn):Prop:=∃ z,z<=b/\ETr z m
def QG (b:Nat)(g:Gd):Prop:=∃ b',b' < b/\QE b' g.fCond
def QS (b:Nat)(s:Stt):Prop:=∃ b',b' < b/\SlQ QG b' s.fGuards
abbrev QT {α:Type}(_:Nat)(_:α):Prop:=True
def QX (b:Nat)(x:Ed):Prop:=(∃ b',b' < b/\QE b' x.fCond)/\(∃ b',b' < b/\SlQ QT b' x.fOpens)/\(∃ b',b' < b/\SlQ QT b' x.fCloses)/\(∃ b',b' < b/\∃ l:List Exn,x.fChecks=l.map Ao/\SlQ QE b' l)/\(∃ b',b' < b/\SlQ QT b' x.fLimits)/\(∃ b',b' < b/\SlQ QT b' x.fInside)
def QA (b:Nat)(a:Aut):Prop:=(∃ b',b' < b/\SlQ QS b' a.fStates)/\(∃ b',b' < b/\SlQ QX b' a.fEdges)
theorem y09 {l:List Exn}(h:SlQ QE b l):∃ qs:List (Nat×Exn),qs.map (·.2)=l/\(∀ q∈qs,ETr q.1 q.2)/\(qs.map (·.1)).sum<b:=by
 obtain ⟨ps,rfl,h2,h3⟩:=h
 have:∃ qs:List (Nat×Exn),qs.map (·.2)=ps.map (·.2)/\(∀ q∈qs,ETr q.1 q.2)/\(qs.map (·.1)).sum<=(ps.map (·.1)).sum:=by
  clear h3
  induction ps with
  |nil=>exact ⟨[],rfl,by simp,by simp⟩
  |cons p ps ih =>
   obtain ⟨qs,q1,q2,q3⟩:=ih (fun q hq=>h2 q (mem_cons_of_mem _ hq))
   obtain ⟨z,hz,ht⟩:=(h2 p (by simp)).2
   refine ⟨(z,p.2)::qs,by simp [q1],fun q hq=>?_,by simp only [map_cons,sum_cons];omega⟩
   rcases mem_cons.1 hq with e|e
   ·rw [e];exact ht
   ·exact q2 q e
 obtain ⟨qs,q1,q2,q3⟩:=this
 exact ⟨qs,q1,q2,by omega⟩
theorem zq4 {e:Exn}(h:QE b e)(hb:b<=1048576):WfE e:=by
 obtain ⟨z,hz,ht⟩:=h
 exact ⟨z,by omega,ht⟩
theorem zys {a:Aut}(h:QA b a)(hb:b<=1048576):WfA a:=by
 obtain ⟨⟨b1,h1,s1⟩,⟨b2,h2,s2⟩⟩:=h
 refine ⟨by have:=s1.len;omega,by have:=s2.len;omega,fun s hs=>?_,fun x hx=>?_⟩
 ·obtain ⟨b3,h3,b4,h4,s4⟩:=s1.mem s hs
  refine ⟨by have:=s4.len;omega,fun g hg=>?_⟩
  obtain ⟨b5,h5,b6,h6,q6⟩:=s4.mem g hg
  exact zq4 q6 (by omega)
 ·obtain ⟨b3,h3,⟨c1,d1,q1⟩,⟨c2,d2,q2⟩,⟨c3,d3,q3⟩,⟨c4,d4,l,hl,q4⟩,⟨c5,d5,q5⟩,⟨c6,d6,q6⟩⟩:=s2.mem x hx
  refine ⟨zq4 q1 (by omega),⟨l,hl,fun y hy=>?_⟩,?_,?_,?_,?_,?_⟩
  ·obtain ⟨b7,h7,q7⟩:=q4.mem y hy
   exact zq4 q7 (by omega)
  ·rw [hl,length_map];have:=q4.len;omega
  ·have:=q2.len;omega
  ·have:=q3.len;omega
  ·have:=q6.len;omega
  ·have:=q5.len;omega
theorem zuw:FO enc W 144 3 (fun m:A6=>(Ac m).cells):=fun n cs x hl h=>by
 obtain ⟨xs,n',_,hx,_,hlen,hf⟩:=DataW.trod_struct Tryz.underlying144 h
 match xs,hlen with
 |[y0,y1,y2],_ =>
  have c0:Tryz.prog.cellsOf 3=1:=by kernel_rfl
  have g0:DataW.trod enc Tryz.prog W 0 (fun _=>true) true n' 3 ((cs.drop 0).take (Tryz.prog.cellsOf 3))=some y0:=hf 0 _ rfl
  rw [c0] at g0
  obtain ⟨m0,h0⟩:=(Ci Tryz.underlying3) n' _ _ (Bg (by omega)) g0
  have c1:Tryz.prog.cellsOf 3=1:=by kernel_rfl
  have g1:DataW.trod enc Tryz.prog W 0 (fun _=>true) true n' 3 ((cs.drop 1).take (Tryz.prog.cellsOf 3))=some y1:=hf 1 _ rfl
  rw [c1] at g1
  obtain ⟨m1,h1⟩:=(Ci Tryz.underlying3) n' _ _ (Bg (by omega)) g1
  have c2:Tryz.prog.cellsOf 9=1:=by kernel_rfl
  have g2:DataW.trod enc Tryz.prog W 0 (fun _=>true) true n' 9 ((cs.drop 2).take (Tryz.prog.cellsOf 9))=some y2:=hf 2 _ rfl
  rw [c2] at g2
  obtain ⟨m2,h2⟩:=(zsh Tryz.underlying9) n' _ _ (Bg (by omega)) g2
  have r:=(show Bi W _ (cs.drop 0) from (.cut h0 (.cut h1 (.cut h2 (Bi.done (by omega))))))
  exact ⟨⟨m0,m1,m2⟩,r⟩
theorem Ym:∀ B,FQ enc W 146 8 (fun m:Exn=>(Ao m).cells) QE B
 |0=>fun n cs x hb hl h=>absurd hb (Nat.not_lt_zero _)
 |B+1=>fun n cs x hb hl h=>by
  obtain ⟨xs,n',_,hx,_,hlen,hf⟩:=DataW.trod_struct Tryz.underlying146 h
  match xs,hlen with
  |[y0,y1,y2,y3,y4,y5],_ =>
   have hk:Rows.uptoBulk x.1=Rows.uptoBulk y0.1+Rows.uptoBulk y1.1+Rows.uptoBulk y2.1+Rows.uptoBulk y3.1+Rows.uptoBulk y4.1+Rows.uptoBulk y5.1+1:=by rw [hx];simp only [Rows.uptoBulk,Rows.uptoBulkAll,map_cons,map_nil]<;>omega
   have c0:Tryz.prog.cellsOf 3=1:=by kernel_rfl
   have g0:DataW.trod enc Tryz.prog W 0 (fun _=>true) true n' 3 ((cs.drop 0).take (Tryz.prog.cellsOf 3))=some y0:=hf 0 _ rfl
   rw [c0] at g0
   obtain ⟨m0,h0,q0⟩:=(Ck (Ci Tryz.underlying3)) n' _ _ (show Rows.uptoBulk y0.1<B by omega) (Bg (by omega)) g0
   have c1:Tryz.prog.cellsOf 142=1:=by kernel_rfl
   have g1:DataW.trod enc Tryz.prog W 0 (fun _=>true) true n' 142 ((cs.drop 1).take (Tryz.prog.cellsOf 142))=some y1:=hf 1 _ rfl
   rw [c1] at g1
   obtain ⟨m1,h1,q1⟩:=(H3 (sz:=8) (a:=Ao) Tryz.underlying142 (by kernel_rfl) (by omega) inferInstance (fun _=>rfl) (Ym B)) n' _ _ (show Rows.uptoBulk y1.1<B by omega) (Bg (by omega)) g1
   have c2:Tryz.prog.cellsOf 3=1:=by kernel_rfl
   have g2:DataW.trod enc Tryz.prog W 0 (fun _=>true) true n' 3 ((cs.drop 2).take (Tryz.prog.cellsOf 3))=some y2:=hf 2 _ rfl
   rw [c2] at g2
   obtain ⟨m2,h2,q2⟩:=(Ck (Ci Tryz.underlying3)) n' _ _ (show Rows.uptoBulk y2.1<B by omega) (Bg (by omega)) g2
   have c3:Tryz.prog.cellsOf 3=1:=by kernel_rfl
   have g3:DataW.trod enc Tryz.prog W 0 (fun _=>true) true n' 3 ((cs.drop 3).take (Tryz.prog.cellsOf 3))=some y3:=hf 3 _ rfl
   rw [c3] at g3
   obtain ⟨m3,h3,q3⟩:=(Ck (Ci Tryz.underlying3)) n' _ _ (show Rows.uptoBulk y3.1<B by omega) (Bg (by omega)) g3
   have c4:Tryz.prog.cellsOf 3=1:=by kernel_rfl
   have g4:DataW.trod enc Tryz.prog W 0 (fun _=>true) true n' 3 ((cs.drop 4).take (Tryz.prog.cellsOf 3))=some y4:=hf 4 _ rfl
   rw [c4] at g4
   obtain ⟨m4,h4,q4⟩:=(Ck (Ci Tryz.underlying3)) n' _ _ (show Rows.uptoBulk y4.1<B by omega) (Bg (by omega)) g4
   have c5:Tryz.prog.cellsOf 144=3:=by kernel_rfl
   have g5:DataW.trod enc Tryz.prog W 0 (fun _=>true) true n' 144 ((cs.drop 5).take (Tryz.prog.cellsOf 144))=some y5:=hf 5 _ rfl
   rw [c5] at g5
   obtain ⟨m5,h5,q5⟩:=(Ck zuw) n' _ _ (show Rows.uptoBulk y5.1<B by omega) (Bg (by omega)) g5
   have h1:Bi W [AV.sl 8 (List.map idA (List.map Ao m1))] ((cs.drop 1).take 1):=by rw [Ru];exact h1
   have r:=(show Bi W _ (cs.drop 0) from (.cut h0 (.cut h1 (.cut h2 (.cut h3 (.cut h4 (.cut h5 (Bi.done (by omega)))))))))
   obtain ⟨qs,r1,r2,r3⟩:=y09 q1
   refine ⟨⟨m0,m1.map Ao,m2,m3,m4,m5⟩,r,1+(qs.map (·.1)).sum,by omega,.mk qs _ r2 ?_⟩
   show m1.map Ao=_
   rw [<-r1,map_map]
   rfl
theorem zuv (B:Nat):FQ enc W 216 11 (fun m:Gd=>(B1 m).cells) QG B:=fun n cs x hb hl h=>by
 obtain ⟨xs,n',_,hx,_,hlen,hf⟩:=DataW.trod_struct Tryz.underlying216 h
 match xs,hlen with
 |[y0,y1,y2,y3],_ =>
  have hk:Rows.uptoBulk x.1=Rows.uptoBulk y0.1+Rows.uptoBulk y1.1+Rows.uptoBulk y2.1+Rows.uptoBulk y3.1+1:=by rw [hx];simp only [Rows.uptoBulk,Rows.uptoBulkAll,map_cons,map_nil]<;>omega
  have c0:Tryz.prog.cellsOf 3=1:=by kernel_rfl
  have g0:DataW.trod enc Tryz.prog W 0 (fun _=>true) true n' 3 ((cs.drop 0).take (Tryz.prog.cellsOf 3))=some y0:=hf 0 _ rfl
  rw [c0] at g0
  obtain ⟨m0,h0,q0⟩:=(Ck (Ci Tryz.underlying3)) n' _ _ (show Rows.uptoBulk y0.1<B by omega) (Bg (by omega)) g0
  have c1:Tryz.prog.cellsOf 3=1:=by kernel_rfl
  have g1:DataW.trod enc Tryz.prog W 0 (fun _=>true) true n' 3 ((cs.drop 1).take (Tryz.prog.cellsOf 3))=some y1:=hf 1 _ rfl
  rw [c1] at g1
  obtain ⟨m1,h1,q1⟩:=(Ck (Ci Tryz.underlying3)) n' _ _ (show Rows.uptoBulk y1.1<B by omega) (Bg (by omega)) g1
  have c2:Tryz.prog.cellsOf 3=1:=by kernel_rfl
  have g2:DataW.trod enc Tryz.prog W 0 (fun _=>true) true n' 3 ((cs.drop 2).take (Tryz.prog.cellsOf 3))=some y2:=hf 2 _ rfl
  rw [c2] at g2
  obtain ⟨m2,h2,q2⟩:=(Ck (Ci Tryz.underlying3)) n' _ _ (show Rows.uptoBulk y2.1<B by omega) (Bg (by omega)) g2
  have c3:Tryz.prog.cellsOf 146=8:=by kernel_rfl
  have g3:DataW.trod enc Tryz.prog W 0 (fun _=>true) true n' 146 ((cs.drop 3).take (Tryz.prog.cellsOf 146))=some y3:=hf 3 _ rfl
  rw [c3] at g3
  obtain ⟨m3,h3,q3⟩:=(Ym B) n' _ _ (show Rows.uptoBulk y3.1<B by omega) (Bg (by omega)) g3
  have r:=(show Bi W _ (cs.drop 0) from (.cut h0 (.cut h1 (.cut h2 (.cut h3 (Bi.done (by omega)))))))
  exact ⟨⟨m0,m1,m2,m3⟩,r,_,(show Rows.uptoBulk y3.1<_ by omega),q3⟩
theorem zuu (B:Nat):FQ enc W 140 1 (fun m:Stt=>(Aq m).cells) QS B:=fun n cs x hb hl h=>by
 obtain ⟨xs,n',_,hx,_,hlen,hf⟩:=DataW.trod_struct Tryz.underlying140 h
 match xs,hlen with
 |[y0],_ =>
  have hk:Rows.uptoBulk x.1=Rows.uptoBulk y0.1+1:=by rw [hx];simp only [Rows.uptoBulk,Rows.uptoBulkAll,map_cons,map_nil]<;>omega
  have c0:Tryz.prog.cellsOf 138=1:=by kernel_rfl
  have g0:DataW.trod enc Tryz.prog W 0 (fun _=>true) true n' 138 ((cs.drop 0).take (Tryz.prog.cellsOf 138))=some y0:=hf 0 _ rfl
  rw [c0] at g0
  obtain ⟨m0,h0,q0⟩:=(H3 (sz:=11) (a:=B1) Tryz.underlying138 (by kernel_rfl) (by omega) inferInstance (fun _=>rfl) (zuv B)) n' _ _ (show Rows.uptoBulk y0.1<B by omega) (Bg (by omega)) g0
  have r:=(show Bi W _ (cs.drop 0) from (.cut h0 (Bi.done (by omega))))
  exact ⟨⟨m0⟩,r,_,(show Rows.uptoBulk y0.1<_ by omega),q0⟩
theorem zux:FO enc W 230 2 (fun m:C8=>(Bn m).cells):=fun n cs x hl h=>by
 obtain ⟨xs,n',_,hx,_,hlen,hf⟩:=DataW.trod_struct Tryz.underlying230 h
 match xs,hlen with
 |[y0,y1],_ =>
  have c0:Tryz.prog.cellsOf 3=1:=by kernel_rfl
  have g0:DataW.trod enc Tryz.prog W 0 (fun _=>true) true n' 3 ((cs.drop 0).take (Tryz.prog.cellsOf 3))=some y0:=hf 0 _ rfl
  rw [c0] at g0
  obtain ⟨m0,h0⟩:=(Ci Tryz.underlying3) n' _ _ (Bg (by omega)) g0
  have c1:Tryz.prog.cellsOf 3=1:=by kernel_rfl
  have g1:DataW.trod enc Tryz.prog W 0 (fun _=>true) true n' 3 ((cs.drop 1).take (Tryz.prog.cellsOf 3))=some y1:=hf 1 _ rfl
  rw [c1] at g1
  obtain ⟨m1,h1⟩:=(Ci Tryz.underlying3) n' _ _ (Bg (by omega)) g1
  have r:=(show Bi W _ (cs.drop 0) from (.cut h0 (.cut h1 (Bi.done (by omega)))))
  exact ⟨⟨m0,m1⟩,r⟩
theorem zy1 (B:Nat):FQ enc W 149 17 (fun m:Ed=>(Ab m).cells) QX B:=fun n cs x hb hl h=>by
 obtain ⟨xs,n',_,hx,_,hlen,hf⟩:=DataW.trod_struct Tryz.underlying149 h
 match xs,hlen with
 |[y0,y1,y2,y3,y4,y5,y6,y7,y8,y9],_ =>
  have hk:Rows.uptoBulk x.1=Rows.uptoBulk y0.1+Rows.uptoBulk y1.1+Rows.uptoBulk y2.1+Rows.uptoBulk y3.1+Rows.uptoBulk y4.1+Rows.uptoBulk y5.1+Rows.uptoBulk y6.1+Rows.uptoBulk y7.1+Rows.uptoBulk y8.1+Rows.uptoBulk y9.1+1:=by rw [hx];simp only [Rows.uptoBulk,Rows.uptoBulkAll,map_cons,map_nil]<;>omega
  have c0:Tryz.prog.cellsOf 3=1:=by kernel_rfl
  have g0:DataW.trod enc Tryz.prog W 0 (fun _=>true) true n' 3 ((cs.drop 0).take (Tryz.prog.cellsOf 3))=some y0:=hf 0 _ rfl
  rw [c0] at g0
  obtain ⟨m0,h0,q0⟩:=(Ck (Ci Tryz.underlying3)) n' _ _ (show Rows.uptoBulk y0.1<B by omega) (Bg (by omega)) g0
  have c1:Tryz.prog.cellsOf 3=1:=by kernel_rfl
  have g1:DataW.trod enc Tryz.prog W 0 (fun _=>true) true n' 3 ((cs.drop 1).take (Tryz.prog.cellsOf 3))=some y1:=hf 1 _ rfl
  rw [c1] at g1
  obtain ⟨m1,h1,q1⟩:=(Ck (Ci Tryz.underlying3)) n' _ _ (show Rows.uptoBulk y1.1<B by omega) (Bg (by omega)) g1
  have c2:Tryz.prog.cellsOf 3=1:=by kernel_rfl
  have g2:DataW.trod enc Tryz.prog W 0 (fun _=>true) true n' 3 ((cs.drop 2).take (Tryz.prog.cellsOf 3))=some y2:=hf 2 _ rfl
  rw [c2] at g2
  obtain ⟨m2,h2,q2⟩:=(Ck (Ci Tryz.underlying3)) n' _ _ (show Rows.uptoBulk y2.1<B by omega) (Bg (by omega)) g2
  have c3:Tryz.prog.cellsOf 3=1:=by kernel_rfl
  have g3:DataW.trod enc Tryz.prog W 0 (fun _=>true) true n' 3 ((cs.drop 3).take (Tryz.prog.cellsOf 3))=some y3:=hf 3 _ rfl
  rw [c3] at g3
  obtain ⟨m3,h3,q3⟩:=(Ck (Ci Tryz.underlying3)) n' _ _ (show Rows.uptoBulk y3.1<B by omega) (Bg (by omega)) g3
  have c4:Tryz.prog.cellsOf 146=8:=by kernel_rfl
  have g4:DataW.trod enc Tryz.prog W 0 (fun _=>true) true n' 146 ((cs.drop 4).take (Tryz.prog.cellsOf 146))=some y4:=hf 4 _ rfl
  rw [c4] at g4
  obtain ⟨m4,h4,q4⟩:=(Ym B) n' _ _ (show Rows.uptoBulk y4.1<B by omega) (Bg (by omega)) g4
  have c5:Tryz.prog.cellsOf 43=1:=by kernel_rfl
  have g5:DataW.trod enc Tryz.prog W 0 (fun _=>true) true n' 43 ((cs.drop 12).take (Tryz.prog.cellsOf 43))=some y5:=hf 5 _ rfl
  rw [c5] at g5
  obtain ⟨m5,h5,q5⟩:=(H3 (sz:=1) (a:=aI) Tryz.underlying43 (by kernel_rfl) (by omega) inferInstance (fun _=>rfl) (Ck (zy3 Tryz.underlying3))) n' _ _ (show Rows.uptoBulk y5.1<B by omega) (Bg (by omega)) g5
  have c6:Tryz.prog.cellsOf 43=1:=by kernel_rfl
  have g6:DataW.trod enc Tryz.prog W 0 (fun _=>true) true n' 43 ((cs.drop 13).take (Tryz.prog.cellsOf 43))=some y6:=hf 6 _ rfl
  rw [c6] at g6
  obtain ⟨m6,h6,q6⟩:=(H3 (sz:=1) (a:=aI) Tryz.underlying43 (by kernel_rfl) (by omega) inferInstance (fun _=>rfl) (Ck (zy3 Tryz.underlying3))) n' _ _ (show Rows.uptoBulk y6.1<B by omega) (Bg (by omega)) g6
  have c7:Tryz.prog.cellsOf 142=1:=by kernel_rfl
  have g7:DataW.trod enc Tryz.prog W 0 (fun _=>true) true n' 142 ((cs.drop 14).take (Tryz.prog.cellsOf 142))=some y7:=hf 7 _ rfl
  rw [c7] at g7
  obtain ⟨m7,h7,q7⟩:=(H3 (sz:=8) (a:=Ao) Tryz.underlying142 (by kernel_rfl) (by omega) inferInstance (fun _=>rfl) (Ym B)) n' _ _ (show Rows.uptoBulk y7.1<B by omega) (Bg (by omega)) g7
  have c8:Tryz.prog.cellsOf 147=1:=by kernel_rfl
  have g8:DataW.trod enc Tryz.prog W 0 (fun _=>true) true n' 147 ((cs.drop 15).take (Tryz.prog.cellsOf 147))=some y8:=hf 8 _ rfl
  rw [c8] at g8
  obtain ⟨m8,h8,q8⟩:=(H3 (sz:=2) (a:=Bn) Tryz.underlying147 (by kernel_rfl) (by omega) inferInstance (fun _=>rfl) (Ck zux)) n' _ _ (show Rows.uptoBulk y8.1<B by omega) (Bg (by omega)) g8
  have c9:Tryz.prog.cellsOf 43=1:=by kernel_rfl
  have g9:DataW.trod enc Tryz.prog W 0 (fun _=>true) true n' 43 ((cs.drop 16).take (Tryz.prog.cellsOf 43))=some y9:=hf 9 _ rfl
  rw [c9] at g9
  obtain ⟨m9,h9,q9⟩:=(H3 (sz:=1) (a:=aI) Tryz.underlying43 (by kernel_rfl) (by omega) inferInstance (fun _=>rfl) (Ck (zy3 Tryz.underlying3))) n' _ _ (show Rows.uptoBulk y9.1<B by omega) (Bg (by omega)) g9
  have h7:Bi W [AV.sl 8 (List.map idA (List.map Ao m7))] ((cs.drop 14).take 1):=by rw [Ru];exact h7
  have r:=(show Bi W _ (cs.drop 0) from (.cut h0 (.cut h1 (.cut h2 (.cut h3 (.cut h4 (.cut h5 (.cut h6 (.cut h7 (.cut h8 (.cut h9 (Bi.done (by omega)))))))))))))
  exact ⟨⟨m0,m1,m2,m3,m4,m5,m6,m7.map Ao,m8,m9⟩,r,⟨_,(show Rows.uptoBulk y4.1<_ by omega),q4⟩,⟨_,(show Rows.uptoBulk y5.1<_ by omega),q5⟩,⟨_,(show Rows.uptoBulk y6.1<_ by omega),q6⟩,⟨_,(show Rows.uptoBulk y7.1<_ by omega),m7,rfl,q7⟩,⟨_,(show Rows.uptoBulk y8.1<_ by omega),q8⟩,⟨_,(show Rows.uptoBulk y9.1<_ by omega),q9⟩⟩
theorem y08 (B:Nat):FQ enc W 26 4 (fun m:Aut=>(B2 m).cells) QA B:=fun n cs x hb hl h=>by
 obtain ⟨xs,n',_,hx,_,hlen,hf⟩:=DataW.trod_struct Tryz.underlying26 h
 match xs,hlen with
 |[y0,y1,y2,y3],_ =>
  have hk:Rows.uptoBulk x.1=Rows.uptoBulk y0.1+Rows.uptoBulk y1.1+Rows.uptoBulk y2.1+Rows.uptoBulk y3.1+1:=by rw [hx];simp only [Rows.uptoBulk,Rows.uptoBulkAll,map_cons,map_nil]<;>omega
  have c0:Tryz.prog.cellsOf 3=1:=by kernel_rfl
  have g0:DataW.trod enc Tryz.prog W 0 (fun _=>true) true n' 3 ((cs.drop 0).take (Tryz.prog.cellsOf 3))=some y0:=hf 0 _ rfl
  rw [c0] at g0
  obtain ⟨m0,h0,q0⟩:=(Ck (Ci Tryz.underlying3)) n' _ _ (show Rows.uptoBulk y0.1<B by omega) (Bg (by omega)) g0
  have c1:Tryz.prog.cellsOf 3=1:=by kernel_rfl
  have g1:DataW.trod enc Tryz.prog W 0 (fun _=>true) true n' 3 ((cs.drop 1).take (Tryz.prog.cellsOf 3))=some y1:=hf 1 _ rfl
  rw [c1] at g1
  obtain ⟨m1,h1,q1⟩:=(Ck (Ci Tryz.underlying3)) n' _ _ (show Rows.uptoBulk y1.1<B by omega) (Bg (by omega)) g1
  have c2:Tryz.prog.cellsOf 23=1:=by kernel_rfl
  have g2:DataW.trod enc Tryz.prog W 0 (fun _=>true) true n' 23 ((cs.drop 2).take (Tryz.prog.cellsOf 23))=some y2:=hf 2 _ rfl
  rw [c2] at g2
  obtain ⟨m2,h2,q2⟩:=(H3 (sz:=1) (a:=Aq) Tryz.underlying23 (by kernel_rfl) (by omega) inferInstance (fun _=>rfl) (zuu B)) n' _ _ (show Rows.uptoBulk y2.1<B by omega) (Bg (by omega)) g2
  have c3:Tryz.prog.cellsOf 24=1:=by kernel_rfl
  have g3:DataW.trod enc Tryz.prog W 0 (fun _=>true) true n' 24 ((cs.drop 3).take (Tryz.prog.cellsOf 24))=some y3:=hf 3 _ rfl
  rw [c3] at g3
  obtain ⟨m3,h3,q3⟩:=(H3 (sz:=17) (a:=Ab) Tryz.underlying24 (by kernel_rfl) (by omega) inferInstance (fun _=>rfl) (zy1 B)) n' _ _ (show Rows.uptoBulk y3.1<B by omega) (Bg (by omega)) g3
  have r:=(show Bi W _ (cs.drop 0) from (.cut h0 (.cut h1 (.cut h2 (.cut h3 (Bi.done (by omega)))))))
  exact ⟨⟨m0,m1,m2,m3⟩,r,⟨_,(show Rows.uptoBulk y2.1<_ by omega),q2⟩,⟨_,(show Rows.uptoBulk y3.1<_ by omega),q3⟩⟩
end
def Wn (x:Ht):AV:=.agg [.sl 2 (x.fTypes.map Al),aI x.fA.fVars,aI x.fA.fScopes,.sl 1 (x.fA.fStates.map Aq),.sl 17 (x.fA.fEdges.map Ab),aI x.fRate]
section
variable {H:Type} {enc:TypeId×Value->H} {W:World} {base:Nat} {v:Value} {d:DataW H} {p:List MemPlace}
set_option maxRecDepth 100000
theorem zuy:FO enc W 164 2 (fun m:Rj=>(C7 m).cells):=fun n cs x hl h=>by
 obtain ⟨xs,n',_,_,_,hlen,hf⟩:=DataW.trod_struct Tryz.underlying164 h
 match xs,hlen with
 |[y0,y1],_ =>
  have c0:Tryz.prog.cellsOf 9=1:=by kernel_rfl
  have g0:DataW.trod enc Tryz.prog W 0 (fun _=>true) true n' 9 ((cs.drop 0).take (Tryz.prog.cellsOf 9))=some y0:=hf 0 _ rfl
  rw [c0] at g0
  obtain ⟨m0,h0⟩:=(zsh Tryz.underlying9) n' _ _ (Bg (by omega)) g0
  have c1:Tryz.prog.cellsOf 3=1:=by kernel_rfl
  have g1:DataW.trod enc Tryz.prog W 0 (fun _=>true) true n' 3 ((cs.drop 1).take (Tryz.prog.cellsOf 3))=some y1:=hf 1 _ rfl
  rw [c1] at g1
  obtain ⟨m1,h1⟩:=(Ci Tryz.underlying3) n' _ _ (Bg (by omega)) g1
  have r:=(show Bi W _ (cs.drop 0) from (.cut h0 (.cut h1 (Bi.done (by omega)))))
  exact ⟨⟨m0,m1⟩,r⟩
theorem zsi:FO enc W 99 2 (fun m:Ah=>(Al m).cells):=fun n cs x hl h=>by
 obtain ⟨xs,n',_,_,_,hlen,hf⟩:=DataW.trod_struct Tryz.underlying99 h
 match xs,hlen with
 |[y0,y1],_ =>
  have c0:Tryz.prog.cellsOf 9=1:=by kernel_rfl
  have g0:DataW.trod enc Tryz.prog W 0 (fun _=>true) true n' 9 ((cs.drop 0).take (Tryz.prog.cellsOf 9))=some y0:=hf 0 _ rfl
  rw [c0] at g0
  obtain ⟨m0,h0⟩:=(zsh Tryz.underlying9) n' _ _ (Bg (by omega)) g0
  have c1:Tryz.prog.cellsOf 97=1:=by kernel_rfl
  have g1:DataW.trod enc Tryz.prog W 0 (fun _=>true) true n' 97 ((cs.drop 1).take (Tryz.prog.cellsOf 97))=some y1:=hf 1 _ rfl
  rw [c1] at g1
  obtain ⟨m1,h1⟩:=(y16 (sz:=2) (a:=C7) Tryz.underlying97 (by kernel_rfl) (by omega) inferInstance (fun _=>rfl) (zuy)) n' _ _ (Bg (by omega)) g1
  have r:=(show Bi W _ (cs.drop 0) from (.cut h0 (.cut h1 (Bi.done (by omega)))))
  exact ⟨⟨m0,m1⟩,r⟩
def y1b (b:Nat)(m:Ht):Prop:=(∃ b',b' < b/\SlQ (fun _ _=>True) b' m.fTypes)/\∃ b',b' < b/\QA b' m.fA
theorem zy2 (B:Nat):FQ enc W 28 6 (fun m:Ht=>(Wn m).cells) y1b B:=fun n cs x hb hl h=>by
 obtain ⟨xs,n',_,hx,_,hlen,hf⟩:=DataW.trod_struct Tryz.underlying28 h
 match xs,hlen with
 |[y0,y1,y2],_ =>
  have hk:Rows.uptoBulk x.1=Rows.uptoBulk y0.1+Rows.uptoBulk y1.1+Rows.uptoBulk y2.1+1:=by rw [hx];simp only [Rows.uptoBulk,Rows.uptoBulkAll,map_cons,map_nil]<;>omega
  have c0:Tryz.prog.cellsOf 22=1:=by kernel_rfl
  have g0:DataW.trod enc Tryz.prog W 0 (fun _=>true) true n' 22 ((cs.drop 0).take (Tryz.prog.cellsOf 22))=some y0:=hf 0 _ rfl
  rw [c0] at g0
  obtain ⟨m0,h0,q0⟩:=(H3 (sz:=2) (a:=Al) Tryz.underlying22 (by kernel_rfl) (by omega) inferInstance (fun _=>rfl) (Ck zsi)) n' _ _ (show Rows.uptoBulk y0.1<B by omega) (Bg (by omega)) g0
  have c1:Tryz.prog.cellsOf 26=4:=by kernel_rfl
  have g1:DataW.trod enc Tryz.prog W 0 (fun _=>true) true n' 26 ((cs.drop 1).take (Tryz.prog.cellsOf 26))=some y1:=hf 1 _ rfl
  rw [c1] at g1
  obtain ⟨m1,h1,q1⟩:=(y08 B) n' _ _ (show Rows.uptoBulk y1.1<B by omega) (Bg (by omega)) g1
  have c2:Tryz.prog.cellsOf 3=1:=by kernel_rfl
  have g2:DataW.trod enc Tryz.prog W 0 (fun _=>true) true n' 3 ((cs.drop 5).take (Tryz.prog.cellsOf 3))=some y2:=hf 2 _ rfl
  rw [c2] at g2
  obtain ⟨m2,h2,q2⟩:=(Ck (Ci Tryz.underlying3)) n' _ _ (show Rows.uptoBulk y2.1<B by omega) (Bg (by omega)) g2
  have r:=(show Bi W _ (cs.drop 0) from (.cut h0 (.cut h1 (.cut h2 (Bi.done (by omega))))))
  exact ⟨⟨m0,m1,m2⟩,r,⟨_,(show Rows.uptoBulk y0.1<_ by omega),q0⟩,⟨_,(show Rows.uptoBulk y1.1<_ by omega),q1⟩⟩
theorem zoq (hv:Value.okWide Tryz.prog W .any base 28 v)(h:DataW.Trod enc Tryz.prog W 0 (fun _=>true) true 28 v d p)(hb:Rows.uptoBulk d<=1048576):∃ m:Ht,Rep W (fun _=>True) G0 (Wn m) v/\WfA m.fA/\m.fTypes.length<=1100000:=by
 obtain ⟨m,r,⟨b0,q0,q1⟩,⟨b1,q2,q3⟩⟩:=zmu (sz:=6) (a:=Wn) Tryz.underlying28 (by kernel_rfl) (fun _=>⟨_,rfl⟩) (fun B=>zy2 B) hv h
 have:=q1.len
 exact ⟨m,r,zys q3 (by omega),by omega⟩
end
theorem zfs (c:Ht)(hw:WfA c.fA)(hT:c.fTypes.length<=1100000):Con E0 true 6 [Wn c] (.bool true):=z0f (zfn c hw hT)
section
variable {H:Type} {enc:TypeId×Value->H}
set_option maxRecDepth 100000 in
theorem z8h (F:Stop.Interp)(os:Os)(started:os.Started){f:FuncId}{fn:Func}{s:ChangeSpec}{fr:Bool}(hf:Tryz.prog.funcs[f]? = some fn)(hni:Tryz.prog.inits.idxOf? f=none)
  (hw:∃ (w:World) (tape:Tape) (i:Input),w.os=os/\(w.forCall tape i).Shaped Tryz.checked.prog/\i.vars=[]/\Input.okWide Tryz.checked.prog (w.forCall tape i) .any w.heap.size f i /\
    (Rows.OpenSpec.upto s).pre6 enc Tryz.checked.prog fn [] false (w.forCall tape i).memory i.args/\Assume.holds {} Tryz.checked.prog (lone (Frame.enter Tryz.checked.prog f i.args .normal) [] (w.forCall tape i)))
  (hvars:s.vars=[]) (hres:fn.resultTypes=#[4]) (hread:fn.params.toList.all (fun t=>Tryz.prog.readableRec t && decide (t<Tryz.prog.types.size))=true)
  (hspec:∀ ds:List (DataW H),ds.length=fn.params.size->s.fn H ds={ results:=[.lit (.bool true)],args:=ds })
  (hopen:∀ (W:World) (base:Nat) (args:Array Value) (ds:List (DataW H)) (p:List MemPlace),(∀ (j:Nat) t v,fn.params[j]? = some t->args[j]? = some v->Value.okWide Tryz.prog W .any base t v) ->
    DataW.TrodAll enc Tryz.prog W 0 (fun _=>true) true fn.params.toList args.toList ds p->Rows.uptoBulkAll ds<=1048576->∃ avs,Args W (fun _=>True) avs args/\Con E0 fr f avs (.bool true)) :
  ReturnsInHanded {} Tryz.checked os f .any ((Rows.OpenSpec.upto s).pre6 enc Tryz.prog fn [] false) (((Rows.OpenSpec.upto s).at F).post enc Tryz.prog fn false true false false):=by
 refine returnsInHanded_of_cond (C:=Tryz.checked) (s:=Rows.OpenSpec.upto s) (k:=Rows.uptoSmall) rfl zuh started hni hf hw ?_
 intro W base args ds gs before hval hW hcnd hk _
 show Calls Tryz.checked.prog f args W fun e W'=>∃ v,e=.returned v/\s.post enc Tryz.prog fn false true false false W args v W'
 have hW':=hW
 obtain ⟨p,q,hA,hV,rfl,hfz,hnd⟩:=hW
 have hlt:∀ x∈p++q,x.block<W.heap.size:=fun x hx=>DataW.Whole.lt hW' x hx
 rw [show (Rows.OpenSpec.upto s).vars=s.vars from rfl,hvars] at hV
 obtain ⟨rfl,rfl⟩:=trodVars_none hV
 have hbk:Rows.uptoBulkAll ds<=1048576:=by
  have:=of_decide_eq_true hk
  rwa [append_nil] at this
 obtain ⟨avs,hargs,hcon⟩:=hopen W base args ds p hval hA hbk
 refine (hcon.2 (fun _=>True) W args hargs).mono fun e W' ⟨v,he,⟨hb,_⟩,hv⟩=>?_
 have hv:=hv.bool_inv
 subst hv
 subst he
 have hdl:ds.length=fn.params.size:=(zl6 _ _ _ _ hA).trans (by simp)
 have hsp:s.fn H (ds++[])={ results:=[.lit (.bool true)],args:=ds }:=by rw [append_nil];exact hspec ds hdl
 have hltp:∀ x∈p,x.block<W.heap.size:=fun x hx=>hlt x (by simp [hx])
 have k0:=z8u (sp':=fun b=>decide (b<W.heap.size)) hb _ _ _ _ hread hA hltp (fun x hx=>by simpa using hltp x hx)
 have k1:=z8u (sp':=fun _=>true) hb _ _ _ _ hread hA hltp (fun x hx=>rfl)
 have hrl:(Value.bool true).resultList fn.resultTypes.size=[.bool true]:=by rw [hres];rfl
 have hrt:fn.resultTypes.toList=[4]:=by rw [hres]
 refine ⟨_,rfl,ds,[],_,[],p,[],hW',?_,?_,?_,World.keptBut_mono (fun x hx=>⟨hx,?_⟩) (hb.frame (·∈p++[])),fun h=>?_⟩
 ·rw [hsp,hrt,hrl];exact trodAll_mk1 (shut_bool Tryz.underlying4 true)
 ·rw [hsp];exact k0
 ·rw [hsp,hvars];exact rfl
 ·exact Or.inr (Or.inl (by simpa using hx))
 ·rw [hrt,hrl,hvars]
  refine ⟨?_,[.lit (.bool true)]++ds,[],p,⟨p,[],?_,rfl,by simp,?_,fun h=>by simp at h⟩,?_⟩
  ·rw [hres];intro j t r ht hr
   match j with
   |0 =>
    obtain rfl:4=t:=Option.some.inj ht
    obtain rfl:Value.bool true=r:=Option.some.inj hr
    exact okWide_bool_mk Tryz.underlying4 true
   |j+1=>exact absurd hr (by simp)
  ·exact trodAll_append k1 (trodAll_mk1 (shut_bool Tryz.underlying4 true))
  ·intro b off hp
   have hin:MemPlace.cell b off∈p++[]:=by simpa using hp
   rw [hb.frozen (hlt _ hin)]
   exact hfz b off hin
  ·intro x hx _
   simpa using hx
end
section
variable {H:Type} {enc:TypeId×Value->H} {W:World} {base:Nat} {v:Value} {d:DataW H} {p:List MemPlace}
set_option maxRecDepth 100000
end
end Go.Proofs.YthbogefcfhmpgaaGreat
