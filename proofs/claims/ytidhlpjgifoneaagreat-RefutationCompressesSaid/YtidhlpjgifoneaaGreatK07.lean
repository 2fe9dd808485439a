/- The abstract walk, before its evaluator. -/
import Derived.Test.YtidhlpjgifoneaaGreatK06
set_option linter.unusedVariables false
set_option linter.unusedSimpArgs false
namespace Go.Proofs.YtidhlpjgifoneaaGreat
open Go.RowKit List
open Nat renaming eq_of_beq_eq_true->aA,mul_le_mul_right->aB,le_refl->aF,lt_of_lt_of_le->aK,succ_mul->aL,le_trans->aM,beq->aR,beq_refl->aS
open List renaming getElem?_eq_getElem->aC,getD_eq_getElem?_getD->aD,getElem?_take_of_lt->aE,getElem?_append_right->aH,getElem?_append_left->aJ,getElem?_eq_none->aN,getElem_set->aO
open Option.some renaming injEq->aG
open Or renaming inl->aP,inr->aQ
section
variable {α:Type}
theorem zif (l m:List α)(o q:Nat)(h:o+m.length<=l.length):(l.take o++m++l.drop (o+m.length))[q]? = if q<o then l[q]? else if q<o+m.length then m[q-o]? else l[q]? := by
 by_cases h1:q<o
 ·rw [if_pos h1,append_assoc,aJ (by simp;omega),aE h1]
 ·rw [if_neg h1];by_cases a:q<o+m.length
  ·rw [if_pos a,append_assoc,aH (by simp;omega),aJ (by simp;omega)];rw [show q-(List.take o l).length=q-o by simp;omega]
  ·rw [if_neg a,aH (by simp;omega),getElem?_drop];rw [show o+m.length+(q-(List.take o l++m).length)=q by simp;omega]
theorem Zz (l m:List α)(o n:Nat)(h:o+m.length<=n)(b:n<=l.length):(l.take o++m++l.drop (o+m.length)).take n=(l.take n).take o++m++(l.take n).drop (o+m.length):=by
 apply ext_getElem?;intro q;rw [zif (l.take n) m o q (by simp;omega)];by_cases a:q<n
 ·rw [aE a,zif l m o q (by omega),aE a]
 ·rw [aN (by simp;omega),if_neg (by omega),if_neg (by omega),aN (by simp;omega)]
theorem Wv (l m:List α)(o:Nat)(h:o+m.length<=l.length):(l.take o++m++l.drop (o+m.length)).length=l.length:=by simp;omega
end
section
variable {cx:Cx} {σ:AS} {o:Oper}
theorem zdh {T id sz k j:Nat}{x y:Operand}{i:TyI}{ty:TypeId}{xs:List AV}{av el el':AV}(ho:o.op=.store T x y)(hd:dok cx o=true)(aw:A7 x=true)(au:A7 y=true)(hx:σ.eval x=.elt id sz k j)(hy:σ.eval y=av)(hT:lkT cx.E.tab T=some i)(hl:σ.find id=some (.row ty sz xs))
  (he:xs[k]? = some el) (ar:av.cells.length=i.sz) (bk:j+i.sz<=sz) (hc:okc σ av=true) (bj:av.closed=true) (N:el'.cells=el.cells.take j++av.cells++el.cells.drop (j+i.sz)) :
  Aj cx o σ (.tup []) (id::av.ids) [(id,.row ty sz (xs.set k el'))]:=by
 refine ⟨fun z e he=>?_,fun τ h1 h2 a w Q K ⟨γ,l⟩ hK=>C5 (fun c hc=>by rw [ho] at hc;cases hc) ?_⟩
 ·simp only [lkE] at he;cases hb:aR id z with
  |true=>simp [aA hb]
  |false=>rw [hb] at he;cases he
 have an:=l.ev x aw;rw [h1 x (by simp [ho,Op.operands]),hx] at an;have V:=l.ev y au;rw [h1 y (by simp [ho,Op.operands]),hy] at V;have ah:=l.me id;rw [h2 id (by simp),hl] at ah;obtain ⟨d,t,s,vs,bh,ay,ae,F,hr,S⟩:=ah;subst bh;obtain ⟨hk,O⟩:=List.getElem?_eq_some_iff.1 he;obtain ⟨ax,aa⟩:=ae;rcases aa with ⟨_,h0⟩|⟨g,P,J,rfl,ab,G,E,hm,bi,W⟩
 ·omega
 have t:γ id=some (some (some g,.slice (some ⟨g,0,none⟩) xs.length P)):=t;have e:=an.elt_inv t;obtain ⟨c1,c2,c3⟩:=X8 l V hc (fun id Y=>h2 id (by simp [Y]));have D:∀ u∈(a.eval y).cells.toList,u.oneCell'=true:=fun u L=>by
  obtain ⟨q,C,rfl⟩:=mem_iff_getElem.1 L;have ad:q<(a.eval y).cells.size:=by simpa using C
  have:=c3 q ad;simpa [Array.getD,ad] using this
 have M:(a.eval y).cells.toList.length=i.sz:=by simp;omega
 have aj:=F k hk;have bn:k*sz+sz<=xs.length*sz:=by
  have:(k+1)*sz<=xs.length*sz:=aB _ hk;rw [aL] at this;exact this
 have bo:xs.length*sz<=P*sz:=aB _ E;have R:=Wh (cx.E.ok T i hT) w g (k*sz+j) ty J (a.eval y) G (c1.trans ar) (by omega) D;unfold Oper.wp;generalize I:(J.toList.take (k*sz+j)++(a.eval y).cells.toList++J.toList.drop (k*sz+j+i.sz)).toArray=m at R;have bf:(execOp a.eval o).run cx.P w=.ok .skip (w.setRow g m):=by
  simp only [execOp,ho,e,Instr.storeAt,Instr.sureAddr,Sem.run_bind,Sem.run_pure,Result.andThen_ok,R]
 rw [bf];have aq:=setRow_heap w g J m ty (0,0) G;have n:∀ q,q≠g->(w.setRow g m).heap[q]? = w.heap[q]? := fun q C=>setRow_other w g q _ C
 have Z:own γ g:=own.mk t;have al:=l.ge g Z;have af:∀ b,Sg cx.S0 cx.w0.heap.size γ b->b≠g:=fun b hS e=>by
  subst e;rcases hS with ⟨_,h⟩|⟨_,h⟩
  ·have:=al.1.1;omega
  ·exact h Z
 generalize A:w.setRow g m=w' at *;have hz:w.heap.size<=w'.heap.size:=by rw [<-A];simp
 have bg:w.drawn<=w'.drawn:=by rw [<-A];exact aF _
 have X:∀ {γ':Gam} {av v},Rep w (Sg cx.S0 cx.w0.heap.size γ) γ' av v->Rep w' (Sg cx.S0 cx.w0.heap.size γ) γ' av v:=fun h=>h.mono hz (fun b hS _=>⟨n b (af b hS),hS⟩)
 refine hK _ _ ⟨γ,l.step (C0 hd) hz (fun b hS ai=>⟨n b (af b hS),hS⟩) (fun id d h=>aP h) (fun z ak=>⟨rfl,fun g' s bd bc=>n g' ?_⟩) (fun z e' H=>?_) l.inj (fun b ap=>⟨(l.ge b ap).1,aK (l.ge b ap).2 hz⟩) ?_ (.tup #[] rfl (fun i hi=>by simp at hi)) (fun b ag _=>⟨n b (fun e=>ag (e▸Z)),ag⟩) (fun _=>bg)⟩
 ·rintro rfl;have:=l.inj _ _ _ _ _ bd t bc C1;subst this;simp [lkE] at ak
 ·have Y:z=id:=by
   simp only [lkE] at H;cases ao:aR id z with
   |true=>exact (aA ao).symm
   |false=>rw [ao] at H;cases H
  subst Y;simp only [lkE,aS,aG] at H;subst H;have ac:m.toList.take (xs.length*sz)=vs.take (k*sz+j)++(a.eval y).cells.toList++vs.drop (k*sz+j+i.sz):=by
   rw [<-I,<-W,<-M];exact Zz _ _ _ _ (by omega) (by simp;omega)
  have am:∀ q,(vs.take (k*sz+j)++(a.eval y).cells.toList++vs.drop (k*sz+j+i.sz))[q]? = if q<k*sz+j then vs[q]? else if q<k*sz+j+i.sz then (a.eval y).cells.toList[q-(k*sz+j)]? else vs[q]? := fun q=>by
   rw [<-M];exact zif _ _ _ _ (by omega)
  refine ⟨_,t,.slice (some ⟨g,0,none⟩) xs.length P,vs.take (k*sz+j)++(a.eval y).cells.toList++vs.drop (k*sz+j+i.sz),rfl,ay,⟨?_,aQ ⟨g,P,m,by simp,ab,aq,by simpa using E,hm,?_,by simpa using ac⟩⟩,?_,?_,?_⟩
  ·rw [<-M,Wv _ _ _ (by omega)];simpa using ax
  ·rw [<-I];have:=Wv J.toList (a.eval y).cells.toList (k*sz+j) (by simp;omega);rw [M] at this;simpa [bi] using this
  ·intro q C;rw [length_set] at C;rw [aO];by_cases p:k=q
   ·rw [if_pos p,N];rw [O] at aj;simp;omega
   ·rw [if_neg p];exact F q C
  ·intro q C r B;rw [length_set] at C;have bm:=F q C;rw [aD,am];rw [aO] at B;by_cases p:k=q
   ·subst p;rw [O] at aj;simp only [getElem_set_self];rw [if_pos rfl,N] at B;simp only [length_append,length_take,length_drop] at B;have U:∀ r,(h:r<el.cells.length)->Rep w' (Sg cx.S0 cx.w0.heap.size γ) G0 el.cells[r] (vs[k*sz+r]?.getD undef):=fun r h=>by
     have:=hr k hk r (by rw [O];exact h);simp only [O] at this;rw [aD] at this;exact X this
    have f:(el'.cells)[r]? = if r<j then el.cells[r]? else if r<j+i.sz then av.cells[r-j]? else el.cells[r]? := by
     rw [N,<-ar];exact zif _ _ _ _ (by omega)
    have az:r<el'.cells.length:=by rw [N];simp;omega
    rw [aC az] at f;by_cases h1:r<j
    ·rw [if_pos (by omega)];rw [if_pos h1,aC (by omega)] at f;injection f with f
     rw [f];exact U r (by omega)
    ·rw [if_neg (by omega)];rw [if_neg h1] at f;by_cases h2:r<j+i.sz
     ·rw [if_pos (by omega)];rw [if_pos h2,aC (by omega)] at f;injection f with f
      rw [f];have ba:=c2 (r-j) (by omega);have:=(X ba).close (γ':=G0) (z8w bj (r-j) (by omega));rw [show k*sz+r-(k*sz+j)=r-j by omega];simpa [Array.getD_eq_getD_getElem?] using this
     ·rw [if_neg (by omega)];rw [if_neg h2,aC (by omega)] at f;injection f with f
      rw [f];exact U r (by omega)
   ·have bb:(xs.set k el')[q]'(by simpa using C)=xs[q]:=by rw [aO,if_neg p]
    rw [if_neg p] at B;simp only [bb];have:=X (hr q C r B);rw [aD] at this;have bl:¬(k*sz+j<=q*sz+r/\q*sz+r<k*sz+j+i.sz):=fun ⟨h1,h2⟩=>by
     rcases Nat.lt_or_gt_of_ne p with ai|f
     ·have:(k+1)*sz<=q*sz:=aB _ ai;rw [aL] at this;omega
     ·have:(q+1)*sz<=k*sz:=aB _ f;rw [aL] at this;omega
    by_cases h1:q*sz+r<k*sz+j
    ·rw [if_pos h1];exact this
    ·rw [if_neg h1,if_neg (by omega)];exact this
  ·intro u L;simp only [mem_append] at L;rcases L with (L|L)|L
   ·exact S u (mem_of_mem_take L)
   ·exact D u L
   ·exact S u (mem_of_mem_drop L)
 ·refine l.below.trans ⟨by rw [<-A];rfl,by rw [<-A];rfl,by rw [<-A];rfl,hz,fun k hk=>n k (by have:=al.1.1;omega)⟩
theorem Xi {τ:AS}{γ:Gam}{a:Act}{w w':World}{dst:Option Nat}{d ty sz:Nat}{xs:List AV}{v u:Value}{us:List Value}{av:AV}(l:StG cx γ τ a w)(X:cx.E.dr=true->w.drawn<=w'.drawn)(hn:τ.find d=none)(hd:∀ x,dst=some x->cx.E.np<=x/\x<cx.nt)(y:Below w.heap.size w w')(m:w'.ownsRow w.heap.size ty sz v xs.length us)
  (J:∀ k (V:k<xs.length),(xs[k]).cells.length=sz) (Q:∀ k (V:k<xs.length) j (B:j<(xs[k]).cells.length),Rep w' (fun b=>(Sg cx.S0 cx.w0.heap.size γ b\/w.heap.size<=b)/\v.ownBlock≠some b) G0 ((xs[k]).cells[j]) (us.getD (k*sz+j) undef)) (H:∀ u∈us,u.oneCell'=true)
  (hu:(∀ b,(Sg cx.S0 cx.w0.heap.size γ b\/w.heap.size<=b)/\v.ownBlock≠some b->Sg cx.S0 cx.w0.heap.size (γ.set d (some (v.ownBlock,v))) b)->Rep w' (Sg cx.S0 cx.w0.heap.size (γ.set d (some (v.ownBlock,v)))) (γ.set d (some (v.ownBlock,v))) av u) :
  St cx (τ.upd dst av [(d,.row ty sz xs)]) (a.put dst u) w':=by
 have E:γ d=none:=by have:=l.me d;rw [hn] at this;exact this
 have z:=l.below.size;generalize A:γ.set d (some (v.ownBlock,v))=γ' at *;have n:γ' d=some (some (v.ownBlock,v)):=by rw [<-A];exact Gam.set_self _ _ _
 have c:∀ i,i≠d->γ' i=γ i:=fun i hi=>by rw [<-A];exact Gam.set_ne _ _ _ hi
 have f:∀ b,v.ownBlock=some b->w.heap.size<=b/\b<w'.heap.size:=fun b f=>by
  rcases m.2 with ⟨G,_⟩|⟨g,N,M,G,Z,hh,_⟩
  ·rw [G] at f;simp [Value.ownBlock] at f
  ·rw [G] at f;simp only [Value.ownBlock,aG] at f;subst f;exact ⟨Z,(Array.getElem?_eq_some_iff.1 hh).1⟩
 have p:∀ b,own γ' b->v.ownBlock=some b\/own γ b:=fun b ⟨id,s,hi,hm⟩=>by
  by_cases h:id=d
  ·subst h;rw [n] at hi;injection hi with hi;subst hi;exact aP (Fe (Fd (Cw m)) hm)
  ·rw [c id h] at hi;exact aQ ⟨id,s,hi,hm⟩
 have I:∀ i x,γ i=some x->i≠d:=fun i x F e=>by subst e;rw [E] at F;cases F
 have L:∀ b,(Sg cx.S0 cx.w0.heap.size γ b\/w.heap.size<=b)/\v.ownBlock≠some b->Sg cx.S0 cx.w0.heap.size γ' b:=fun b ⟨h1,t⟩=>by
  rcases h1 with (h1|⟨h1,h3⟩)|h1
  ·exact aP h1
  ·refine aQ ⟨h1,fun S=>?_⟩;rcases p b S with h|h
   ·exact t h
   ·exact h3 h
  ·refine aQ ⟨⟨aM z h1,fun h0=>by have:=l.gh _ h0;omega⟩,fun S=>?_⟩;rcases p b S with h|h
   ·exact t h
   ·have:=(l.ge b h).2;omega
 have C:∀ b,Sg cx.S0 cx.w0.heap.size γ b->b<w.heap.size->Sg cx.S0 cx.w0.heap.size γ' b:=fun b y q=>L b ⟨aP y,fun e=>by have:=(f b e).1;omega⟩
 refine ⟨γ',l.step (γ':=γ') hd y.size (fun b L q=>⟨y.block b q,C b L q⟩) (fun i x F=>aP (by rw [c i (I i x F)];exact F)) (fun i hi=>?_) (fun i e' hi=>?_) (fun i j b s1 s2 h1 t P O=>?_) (fun b Y=>?_) (l.below.trans (y.mono z)) (hu L) (fun b T q=>⟨y.block b q,fun R=>by
  rcases p b R with h|h
  ·have:=(f b h).1;omega
  ·exact T h⟩) X⟩
 ·have D:i≠d:=fun e=>by subst e;simp [lkE] at hi
  exact ⟨c i D,fun g' s' W U=>y.block g' (l.ge g' ⟨i,s',W,U⟩).2⟩
 ·have D:i=d:=by
   simp only [lkE] at hi;cases K:aR d i with
   |true=>exact (aA K).symm
   |false=>rw [K] at hi;cases hi
  subst D;simp only [lkE,aS,aG] at hi;subst hi;exact ⟨_,n,v,us,rfl,Cw m,⟨m.1,m.2.elim aP (fun ⟨g,N,M,G,hg,r⟩=>aQ ⟨g,N,M,G,aM z hg,r⟩)⟩,J,fun k V j B=>(Q k V j B).mono (aF _) (fun b y _=>⟨rfl,L b y⟩),H⟩
 ·by_cases hi:i=d
  ·by_cases B:j=d
   ·rw [hi,B]
   ·subst hi;rw [n] at h1;rw [c j B] at t;injection h1 with h1
    subst h1;have q1:=(f b (Fe (Fd (Cw m)) P)).1;have q2:=(l.ge b ⟨j,_,t,O⟩).2;omega
  ·rw [c i hi] at h1;by_cases B:j=d
   ·subst B;rw [n] at t;injection t with t
    subst t;have q1:=(f b (Fe (Fd (Cw m)) O)).1;have q2:=(l.ge b ⟨i,_,h1,P⟩).2;omega
   ·rw [c j B] at t;exact l.inj _ _ _ _ _ h1 t P O
 ·rcases p b Y with h|h
  ·exact ⟨⟨aM z (f b h).1,fun h0=>by have:=l.gh _ h0;have:=(f b h).1;omega⟩,(f b h).2⟩
  ·exact ⟨(l.ge b h).1,aK (l.ge b h).2 y.size⟩
theorem zdq {T id off:Nat}{x y:Operand}{i:TyI}{len e esz:Nat}{ag:Option Bool}{ty:TypeId}{cs:List AV}{k:IntKind}{n:Int}{m:Nat}(q:o.op=.indexAddr T x y)(E:dok cx o=true)(p:A7 x=true)(l:A7 y=true)(z:σ.eval x=.ptr id off)(v:σ.eval y=.int k n)
  (D:σ.find id=some (.box ty cs)) (F:lkT cx.E.tab T=some i) (B:i.shape=.arr len e esz ag) (u:esz≠0) (C:n=(m:Int)) (hm:m<len):Aj cx o σ (.ptr id (off+m*esz)) [id] [] :=
 B8 E fun τ γ a w h1 G c=>by
  have h:=c.ev x p;rw [h1 x (by simp [q,Op.operands]),z] at h;have b:=c.ev y l;rw [h1 y (by simp [q,Op.operands]),v] at b;have f:=c.me id;rw [G id (by simp),D] at f;obtain ⟨d,j,g,vs,r,_⟩:=f;subst r;obtain ⟨A,t,_⟩:=zvv (cx.E.ok T i F) B;have H:=h.ptr_inv j;refine ⟨.pointer (some ⟨g,off+m*esz,none⟩),?_,.ptr j (fun I s e=>by injection e with e;injection e with e _;injection e with e;rw [e])⟩;subst C;simp [execOp,q,H,b.int_inv,Instr.indexAt,Instr.sureAddr,asIntOf,run_underlying A,Du t u,hm,pure,Addr.add_lit]
theorem zii {T d:Nat}{r:Array (Nat×Operand)}{i ie:TyI}{e esz eb:Nat}(t:o.op=.buildSlice T 0 r)(b:o.dst=some d)(E:dok cx o=true)(F:lkT cx.E.tab T=some i)(C:i.shape=.slc e esz eb)(h:lkT cx.E.tab e=some ie)(A:esz≠0)(m:r=#[])(D:σ.find d=none) :
  Aj cx o σ (.row d) [d] [(d,.row e esz [])]:=by
 refine ⟨fun id e h=>?_,fun τ h1 H a w Q K ⟨γ,l⟩ G=>C5 (fun c y=>by rw [t] at y;cases y) ?_⟩
 ·simp only [lkE] at h;cases z:aR d id with
  |true=>simp [aA z]
  |false=>rw [z] at h;cases h
 subst m;have f:=Z5 (n:=0) (parts:=#[]) (cells':=#[]) (cx.E.ok T i F) C (cx.E.ok e ie h) A (by omega) (by simp [Instr.fill]) w;unfold Oper.wp;have q:(execOp a.eval o).run cx.P w=.ok (.value (.slice (some ⟨w.heap.size,0,none⟩) 0 0)) (w.alloc (.cells #[] e)):=by
  have I:(Array.map (fun x:Nat×Operand=>(x.1,a.eval x.2)) #[])=(#[]:Array (Nat×Value)):=by simp
  simp only [execOp,t,Sem.run_bind,Sem.run_pure,Result.andThen_ok];rw [I,f];rfl
 rw [q];refine G _ _ ?_;rw [b];exact Xi (v:=.slice (some ⟨w.heap.size,0,none⟩) 0 0) (us:=[]) l (fun _=>aF _) (by rw [H d (by simp),D]) (fun x j=>by injection j with j;subst j;exact C0 E _ b) ((Below.refl _ _).alloc (aF _) _)
  ⟨by simp,aQ ⟨w.heap.size,0,#[],by simp,aF _,Blk.new w _ _,by simp,by simp,by simp,by simp⟩⟩ (fun k p=>by simp at p) (fun k p=>by simp at p) (fun u B=>by simp at B)
  (fun J=>.row (Gam.set_self _ _ _) (fun g s e _=>by injection e with e;injection e with _ e))
end
end Go.Proofs.YtidhlpjgifoneaaGreat
