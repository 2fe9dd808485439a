/- Forms of terms. -/
import Derived.Test.YthbogefcfhmpgaaGreatK04
import Derived.Laws.IdiomRangeMap
set_option linter.unusedVariables false
set_option linter.unusedSimpArgs false
set_option maxRecDepth 100000
set_option maxHeartbeats 8000000
namespace Go.Proofs.YthbogefcfhmpgaaGreat
open Go.RowKit List
open IntKind renaming wrap->aA
open Nat renaming le_refl->aB,eq_of_beq_eq_true->aD,beq->aM,lt_of_lt_of_le->aQ,zero_add->aX,beq_refl->aY,mul_le_mul->bS,add_zero->bX,ble->cA
open Option.some renaming injEq->aC,inj->bQ
open Or renaming inl->aE,inr->aF
open Bool renaming false_eq_true->aG,not_false->bR,not_true->bW
open _root_.Array renaming getElem?_setIfInBounds->aH,getD_eq_getD_getElem?->aK,getElem?_eq_some_iff->aR,size_append->bI,filter->bY
open List renaming perm_append_singleton->aJ,map_cons->aL,getD_eq_getElem?_getD->aN,pairwise_cons->aO,replicate->aP,filter_eq_self->aS,getElem_cons_zero->aU,filter_cons->aV,length_replicate->aW,length_eraseIdx_of_lt->aZ,getElem_map->bB,mem_map->bE,length_eq_zero_iff->bG,getElem?_map->bJ,getElem_replicate->bK,getElem_eraseIdx->bN,length_set->bT,nodup_cons->bU,length_map->bV
open Int renaming toNat_natCast->aT
open Option renaming none_or->bA,map_some->bP
open AS renaming freeze->bC
open AW renaming weaken->bD
open AV renaming closedL->bF,cells->bH,leafId->bM
open Dv renaming of->bO
noncomputable def E0b:Env:={ E0 with bl:=true }
noncomputable def E0q (np:Nat):Env:={ E0 with np:=np,bl:=true }
variable {E:Env}{f:FuncId}{avs xs:List AV}{ty sz:Nat}
theorem ConC.env {E':Env}{inp:Bool}{d:List AV}{e g:Nat}{res:AV}(n:E'.P=E.P)(h:ConC inp E f avs ty sz xs e g d res):ConC inp E' f avs ty sz xs e g d res:=by
 refine⟨by have:=h.1;unfold Cd at *;rw[n];exact this,h.2.1,λS w0 w vs v us=>?_⟩;rw[n];exact h.2.2 S w0 w vs v us
section
variable {cx:Cx} {o:Oper} {σ:AS}
theorem y0g {P:Program}{w:World}{S:Nat->Prop}{T kt et:TypeId}{k zA:AV}{vk vm z:Value}(ok:Bool)(p:P.underlying T=some (.map kt et))(e:Br P kt k=true)(g:Rep w S G0 k vk)(hm:vm=.map none)
  (n:(zeroValue et).run P w=.ok z w) (d:Rep w S G0 zA z):∃v,Rep w S G0 (Ea zA [] none) v/\(Instr.lookup T vm vk ok).run P w=.ok (if ok then .tuple #[v,.bool (none:Option Nat).isSome]else v) w:=by
 subst hm;have q:=(za8 (P:=P) (w:=w) e g [] [] none rfl (λj h=>absurd h Δ) rfl).1;refine⟨z,d,?_⟩;cases ok<;>simp[Instr.lookup,run_underlying p,P2 _ e g,q,n,Result.andThen]
variable {ps:List (AV×AV)}
theorem mapv_val {γ:Gam}{w:World}{S:Nat->Prop}{v:Value}(e:Rep w S γ (.mapv ps) v):(∃g d,v=.map (some g)/\S g/\g<w.heap.size/\Dj w S g d/\F8 d ps)\/(v=.map none/\ps=[]):=by
 cases e with
 |mapv d p g es clock A C z u q t e=>exact aE ⟨g,d,rfl,C,z,⟨es,clock,u,q,A,λj h n=>⟨t j h n,e j h n⟩⟩,p⟩
 |mapn=>exact aF ⟨rfl,rfl⟩
variable {x:Operand}
theorem zmq {T kt et:Nat}{y:Operand}{ok:Bool}{i ie:TyI}{k av:AV}{r:Option Nat}(z:o.op=.lookup T x y ok)(W:dok cx o=true)(t:A6 x=true)(q:A6 y=true)(Q:σ.eval x=.mapv ps)(O:σ.eval y=k)
  (J:lkT cx.E.tab T=some i) (hs:i.shape=.map kt et) (I:lkT cx.E.tab et=some ie) (h:P6 ie.zero=true) (p:Br cx.P kt k=true) (A:Bt k (ps.map (·.1)) 0=some r)
  (D:Sub (Ea (D7 ie.zero) ps r) av):Ao cx o σ (Gv av r.isSome ok) [] [] :=
 Bc W λτ γ a w h1 h2 n=>by
  have L:=n.ev x t;rw[h1 x (by simp[z,Op.operands]),Q]at L;have G:=n.ev y q;rw[h1 y (by simp[z,Op.operands]),O]at G;obtain⟨v,d,e⟩:∃v,Rep w (Sg cx.S0 cx.w0.heap.size γ) G0 (Ea (D7 ie.zero) ps r) v/\(Instr.lookup T (a.eval x) (a.eval y) ok).run cx.P w=.ok (if ok then .tuple #[v,.bool r.isSome]else v) w:=by
   rcases mapv_val L with⟨g,N,u,_,_,hm,U⟩|⟨u,C⟩
   ·obtain⟨M,Z,Y,X⟩:=zk7 U A;obtain⟨v,d,e⟩:=zgp (S:=Sg cx.S0 cx.w0.heap.size γ) (zA:=D7 ie.zero) ok (Fo (cx.E.ok T i J) hs) p (G.flat (Oa p)) hm ((cx.E.ok et ie I).zeroV w) (Yb _ _ _ _ h) Z;rw[Y]at e;refine⟨v,?_,by rw[u];exact e⟩;rw[<-X];cases M<;>exact d
   ·subst C;simp only[map_nil,Bt,aC]at A;subst A;exact y0g ok (Fo (cx.E.ok T i J) hs) p (G.flat (w':=w) (S':=Sg cx.S0 cx.w0.heap.size γ) (γ':=G0) (Oa p)) u ((cx.E.ok et ie I).zeroV w) (Yb _ _ _ _ h)
  have d:=(d.open_ (γ':=γ)).sub D;refine⟨(if ok then .tuple #[v,.bool r.isSome]else v),by simp only[execOp,z,Sem.run_bind,e,Result.andThen_ok,Sem.run_pure],?_⟩;cases ok with
  |false=>exact d
  |true =>
   simp only[Gv,if_true];refine .tup #[v,.bool r.isSome] rfl (λj H=>?_);have H:j<2:=H;rcases j with _|_|j
   ·exact d
   ·exact .bool _
   ·omega
theorem zve {T id q k t h:Nat}{i:TyI}{ty ety:TypeId}{ys:List AV}{el:AV}(N:o.op=.store T x (.tmp t))(U:dok cx o=true)(H:o.dst=none)(J:A6 x=true)(Y:σ.eval x=.elt id sz k 0)(X:σ.get t=.row q)(hT:lkT cx.E.tab T=some i)(hi:i.sz=1)(hl:σ.find id=some (.row ty sz xs))(hq:σ.find q=some (.row ety h ys))(G:id≠q)
  (p:xs[k]? = some el) (Z:1<=sz) {el':AV} (O:el'.cells=.sl h ys::el.cells.drop 1) :
  Ao cx o σ (.tup []) [id,q] [(id,.row ty sz (xs.set k el')),(q,.dead)]:=by
 refine⟨λC e p=>?_,λτ h1 W a w Q K M hK=>?_⟩
 ·simp only[lkE]at p;cases n:aM id C with
  |true=>simp[aD n]
  |false =>
   rw[n]at p;simp only at p;cases z:aM q C with
   |true=>simp[aD z]
   |false=>rw[z]at p;cases p
 have tx:τ.eval x=.elt id sz k 0:=by rw[h1 x (by simp[N,Op.operands]),Y]
 have A:τ.get t=.row q:=by have:=h1 (.tmp t) (by simp[N,Op.operands]);simpa[AS.eval,X]using this
 have tl:τ.find id=some (.row ty sz xs):=by rw[W id Δ,hl]
 have tq:τ.find q=some (.row ety h ys):=by rw[W q Δ,hq]
 have fr:St cx (τ.freeze t q h ys) a w:=LeX.freeze (E:=cx.E) (nt:=cx.nt) t q ety h ys A tq cx rfl rfl a w M;have g1:(τ.freeze t q h ys).eval x=.elt id sz k 0:=by
  cases x with
  |tmp u =>
   have I:u≠t:=λe=>by
    subst e;have:τ.get u=.elt id sz k 0:=tx;rw[A]at this;cases this
   show(τ.freeze t q h ys).get u=_;have e:(τ.freeze t q h ys).get u=τ.get u:=by
    unfold bC AS.get;simp only[lkV];cases n:aM t u with
    |true=>exact absurd (aD n).symm I
    |false=>rfl
   rw[e];exact tx
  |_=>exact tx
 have g2:(τ.freeze t q h ys).eval (.tmp t)=.sl h ys:=by simp[AS.eval,bC,AS.get,lkV]
 have fnd:∀j,j≠q->(τ.freeze t q h ys).find j=τ.find j:=λj hj=>by
  unfold bC AS.find;simp only[lkE];cases n:aM q j with
  |true=>exact absurd (aD n).symm hj
  |false=>rfl
 have fndq:(τ.freeze t q h ys).find q=some .dead:=by simp[bC,AS.find,lkE]
 have g3:(τ.freeze t q h ys).find id=some (.row ty sz xs):=by rw[fnd id G,tl]
 have R:=zj2 (cx:=cx) (o:=o) (σ:=τ.freeze t q h ys) (el':=el') N U J rfl g1 g2 hT g3 p (by rw[hi];rfl) (by rw[hi];omega) rfl rfl (by rw[hi];simpa[bH]using O);refine R.2 _ (λ_ _=>rfl) (λ_ _=>rfl) a w Q K fr (λa' w' D=>hK a' w' ?_);obtain⟨γ,hs⟩:=D;rw[H]at hs ⊢;have dq:γ q=some none:=by
  have:=hs.me q;rw[AS.find_upd]at this;have e:lkE [(id,Ent.row ty sz (xs.set k el'))] q=none:=by
   simp only[lkE];cases n:aM id q with
   |true=>exact absurd (aD n) G
   |false=>rfl
  rw[e,bA,fndq]at this;obtain⟨d,U,p⟩:=this;have p:d=none:=p;rw[U,p]
 refine⟨γ,λu=>?_,λj=>?_,hs.inj,hs.ge,hs.below,hs.size,hs.defers,hs.gh,hs.fr,hs.dr⟩
 ·rw[AS.get_upd,if_neg Δ];have L:=hs.tm u;rw[AS.get_upd,if_neg Δ]at L;by_cases I:t=u
  ·subst I;rw[A];exact .row dq (λg s e _=>by cases e)
  ·have e:(τ.freeze t q h ys).get u=τ.get u:=by
    unfold bC AS.get;simp only[lkV];cases n:aM t u with
    |true=>exact absurd (aD n) I
    |false=>rfl
   rw[e]at L;exact L
 ·have hm:=hs.me j;rw[AS.find_upd]at hm ⊢;simp only[lkE]at hm ⊢;cases n:aM id j with
  |true=>rw[n]at hm;exact hm
  |false =>
   rw[n]at hm;simp only[bA]at hm ⊢;cases z:aM q j with
   |true => 
    have:=aD z;subst this;exact⟨none,dq,rfl⟩
   |false =>
    simp only[bA];rw[fnd j (λe=>by subst e;simp at z)]at hm;exact hm
theorem zld {cs:List AV}(h:o.op=.nilCheck x)(q:dok cx o=true)(d:A6 x=true)(n:σ.eval x=.ref cs):Ao cx o σ (.ref cs) [] [] :=
 Bc q λτ γ a w h1 t e=>by
  have g:=e.ev x d;rw[h1 x (by simp[h,Op.operands]),n]at g;obtain⟨b,off,p,_⟩:=g.ref_inv;refine⟨a.eval x,by simp only[execOp,h,p,Sem.run_pure],g⟩
theorem zle {id off:Nat}{cs:List AV}(u:o.op=.nilCheck x)(D:dok cx o=true)(n:A6 x=true)(z:σ.eval x=.ptr id off)(C:σ.find id=some (.box ty cs)):Ao cx o σ (.ptr id off) [id] [] :=
 Bc D λτ γ a w h1 G e=>by
  have t:=e.ev x n;rw[h1 x (by simp[u,Op.operands]),z]at t;have h:=e.me id;rw[G id Δ,C]at h;obtain⟨d,q,g,vs,p,_⟩:=h;subst p;have A:=t.ptr_inv q;refine⟨a.eval x,by simp only[execOp,u,A,Sem.run_pure],t⟩
end
section
variable {α β κ ν:Type} {E:Env} {nt:Nat} {o:Oper} {σ:AS} {K:OpK}
variable {x:Operand}
theorem OpX.nckR {cs:List AV}(h:o.op=.nilCheck x)(p:dokN E nt o.dst=true)(d:A6 x=true)(g:σ.eval x=.ref cs)(n:K (.ref cs) [] []):OpX E nt o σ K:=.mk _ _ _ (λcx q e=>zld h (Aq p q e) d g) n
theorem OpX.nckP {id off:Nat}{cs:List AV}(h:o.op=.nilCheck x)(q:dokN E nt o.dst=true)(d:A6 x=true)(g:σ.eval x=.ptr id off)(n:σ.find id=some (.box ty cs))(p:K (.ptr id off) [id] []):OpX E nt o σ K:=.mk _ _ _ (λcx t e=>zle h (Aq q t e) d g n) p
theorem OpX.str {e:Type}(er:e->AV){l:List (List e)}{m:Nat}{v:List e}{k:List (List e)->Option β}{r:β}{T t id q ety:Nat}{i:TyI}(g:stx l m (λ_=>v) k=some r)(H:o.op=.store T x (.tmp t))(d:o.dst=none)(L:dokN E nt o.dst=true)(p:A6 x=true)(D:σ.eval x=.elt id 1 m 0)(C:σ.get t=.row q)(M:lkT E.tab T=some i)(hi:i.sz=1)
  (I:σ.find id=some (.row ty 1 (l.map λq=>.sl sz (q.map er)))) (G:σ.find q=some (.row ety sz (v.map er))) (z:aM id q=false) (J:∀l',k l'=some r->K (.tup []) [id,q] [(id,.row ty 1 (l'.map λq=>.sl sz (q.map er))),(q,.dead)]):OpX E nt o σ K:=by
 unfold stx at g;split at g
 ·rename_i y n;refine .mk _ _ _ (λcx A u=>?_) (J _ g);have h:=zve (cx:=cx) (el':=.sl sz (v.map er)) H (Aq L A u) d p D C (by rw[A];exact M) hi I G (nbne z) (by rw[bJ,n];rfl) (aB _) rfl;rw[map_set];exact h
 ·cases g
def mgv [DecidableEq κ](l:List (κ×ν))(k:κ)(z:ν)(c:ν->Bool->Option β):Option β:=c ((mlk l k).getD z) (mlk l k).isSome
theorem OpX.lkv [DecidableEq κ](ek:κ->AV)(er:ν->AV){l:List (κ×ν)}{k:κ}{z:ν}{ok:Bool}{c:ν->Bool->Option β}{r:β}{T kt et:Nat}{y:Operand}{i ie:TyI}(D:mgv l k z c=some r)(heq:∀a b,eqK (ek a) (ek b)=some (decide (a=b)))(J:o.op=.lookup T x y ok)(O:dokN E nt o.dst=true)(n:A6 x=true)(g:A6 y=true)(I:σ.eval x=.mapv (l.map (encM ek er)))(H:σ.eval y=ek k)
  (U:lkT E.tab T=some i) (hs:i.shape=.map kt et) (N:lkT E.tab et=some ie) (e:D8 ie.zero.cells.toList=true) (u:Br E.P kt (ek k)=true) (G:Sub (D7 ie.zero) (er z)) (L:∀v b,c v b=some r->K (Gv (er v) b ok) [] []):OpX E nt o σ K:=by
 have h:=LkX.o (P:=E.P) (kt:=kt) (zA:=D7 ie.zero) (K:=λav b=>K (Gv av b ok) [] []) ek er (show mgt l k z c=some r by unfold mgv at D;unfold mgt;exact D) u heq G (λv b C=>L v b C);cases h with
 |mk q av b A M Q p C =>
  subst Q;exact .mk _ _ _ (λcx d t=>zmq (ok:=ok) J (Aq O d t) n g I H (by rw[d];exact U) hs (by rw[d];exact N) (Y8 e) (by rw[show cx.P=E.P by rw[<-d]];exact A) M p) C
theorem zz7 (k:AV):∀(l:List AV) (i:Nat),Bt k l (i+1)=(Bt k l i).map (·.map (· + 1))
 |[],i=>rfl
 |a::l,i=>by
  simp only[Bt];cases eqK k a with
  |none=>rfl
  |some b=>cases b with
   |true=>rfl
   |false=>exact zz7 k l (i+1)
def LkC (n:Int)(z:AV)(qs:List (AV×AV))(K:AV->Prop):Prop:=∃r av,Bt (.int .i64 n) (qs.map (·.1)) 0=some r/\Sub (Ea z qs r) av/\K av
variable {qs:List (AV×AV)}
theorem LkC.cons {n:Int}{z v:AV}{k:Nat}{K:AV->Prop}{x y:Option β}{r:β}(h:natc n k x y=some r)(g:x=some r->K v)(h1:y=some r->LkC n z qs K):LkC n z ((.int .i64 (k:Int),v)::qs) K:=by
 rw[Ot]at h;split at h
 ·rename_i e;refine⟨some 0,v,?_,.refl _,g h⟩;simp only[aL,Bt,eqK,eq1,e];simp
 ·rename_i e;obtain⟨q,av,t,d,p⟩:=h1 h;refine⟨q.map (· + 1),av,?_,?_,p⟩
  ·simp only[aL,Bt,eqK,eq1];rw[decide_eq_false e];simp only[zz7,t,bP];rfl
  ·cases q with
   |none=>exact d
   |some j=>exact d
theorem OpX.lkc {n:Int}{T kt et:Nat}{y:Operand}{i ie:TyI}(z:o.op=.lookup T x y false)(u:σ.eval x=.mapv qs)(D:dokN E nt o.dst=true)(h:A6 x=true)(g:A6 y=true)(t:σ.eval y=.int .i64 n)
  (G:lkT E.tab T=some i) (hs:i.shape=.map kt et) (C:lkT E.tab et=some ie) (e:D8 ie.zero.cells.toList=true) (q:Br E.P kt (.int .i64 n)=true) (A:LkC n (D7 ie.zero) qs λav=>K av [] []):OpX E nt o σ K:=by
 obtain⟨r,av,J,I,H⟩:=A;exact .mk _ _ _ (λcx d p=>zmq (ok:=false) z (Aq D d p) h g u t (by rw[d];exact G) hs (by rw[d];exact C) (Y8 e) (by rw[show cx.P=E.P by rw[<-d]];exact q) J I) H
end
def Uf:AV->Bool |.ptr _ 0=>true |_=>false
variable {β:Type}
def frb (r:Nat)(x:Option β):Option β:=x
section
variable {β:Type} {E:Env} {nt:Nat}
variable {cs:List AV}
theorem LeX.frb {σ:AS}(r:Nat)(M:σ.find r=some (.box ty cs))(Q:bF cs=true):LeX E nt σ (σ.rpAll r Uf (.ref cs) .dead):=by
 refine LeX.rpAll r Uf _ _ _ M (λty cs h=>by cases h) (λcx γ a w d L O N=>?_);obtain⟨g,vs,D,p,J,C,q⟩:=N;subst D;refine⟨none,(λb p=>by cases p),λS' U G=>⟨rfl,λγ' x v H e I A=>?_⟩⟩;have u:x=.ptr r 0:=by
  cases x with
  |ptr i off=>cases off with
   |zero=>simp only[bM,aC]at I;rw[I]
   |succ n=>simp[Uf]at e
  |_=>simp[Uf]at e
 subst u;have z:v=.pointer (some ⟨g,0,none⟩):=by
  cases A with
  |ptr h A=>rw[O]at h;injection h with h;exact A _ _ h.symm
 subst z;refine .ref g 0 (λj=>vs.getD j undef) (G g C3 (λh=>by cases h)) p.lt (λj t=>by rw[aX];exact Oe p j Ω) (λj t=>?_) (λj t=>q j Ω);exact((C j t).close (AV.closedL_at Q j t)).mono (aB _) (λb p _=>⟨rfl,U b p⟩)
variable {R:Exit->AS->Prop} {K:List Bu}
theorem AW.frb0 {c:Code}{σ:AS}(r:Nat)(d:σ.find r=some (.box ty cs))(e:bF cs=true)(k:AW E nt R (.code c::K) .normal (σ.rpAll r Uf (.ref cs) .dead)):AW E nt R (.code c::K) .normal σ:=bD (LeX.frb r d e) k
theorem AW.frbO {id:Nat}{c:Code}{σ:AS}{x:Option β}{y:β}(h:Proofs.YthbogefcfhmpgaaGreat.frb id x=some y)(r:Nat)(d:σ.find r=some (.box ty cs))(e:bF cs=true)(k:x=some y->AW E nt R (.code c::K) .normal (σ.rpAll r Uf (.ref cs) .dead)):AW E nt R (.code c::K) .normal σ:=bD (LeX.frb r d e) (k h)
end
section
variable {α β:Type} {E:Env} {nt:Nat} {o:Oper} {σ:AS} {K:OpK}
theorem OpX.bldR {l:List α}{k:List α->Option β}{r:β}(enc:α->AV){T n d e esz eb:Nat}{ps:Array (Nat×Operand)}{i ie:TyI}{fl:List AV}{ag:Bool}(Y:Proofs.YthbogefcfhmpgaaGreat.bld l k=some r)(M:o.op=.buildSlice T n ps)(p:o.dst=some d)(U:dokN E nt o.dst=true)(X:lkT E.tab T=some i)(hs:i.shape=.slc e esz eb)(Q:lkT E.tab e=some ie)(J:aM esz 0=false)(N:cA (n*esz) 16777216=true)
  (q:D8 ie.zero.cells.toList=true) (t:Nat.blt 0 ie.zero.cells.size=true) (z:Fp σ ps=true) (W:ie.shape.agg=ag) (H:Dh (λj=>some (j*esz,esz)) (aP (n*esz) .any) (Ct σ ps)=some fl) (u:F4 ag esz n fl=xs) (I:(ag || (aM esz 1 && fl.all zyr))=true) (D:bF xs=true) (h:SubR xs (l.map enc))
  (C:σ.find d=none) (O:∀l',k l'=some r->K (.row d) (d::Fq (Ct σ ps)) [(d,.row e esz (l'.map enc))]):OpX E nt o σ K:=by
 have g:=zcj _ _ _ _ H;rw[aW]at g;simp only[Bool.or_eq_true,Bool.and_eq_true]at I;obtain⟨c1,c2,c3⟩:=zkt ag esz _ fl g (I.imp id (λ⟨h1,Z⟩=>⟨nbeq h1,Z⟩));subst u;refine .mk _ _ _ (λcx G A=>Ao.weak (.cons _ (.row _ _ h) .nil) (zaw M p (Aq U G A) (by rw[G];exact X) hs (by rw[G];exact Q) (nbne J) N (Fk q) t z D c2 (by simp only[all_eq_true];intro x L;rw[c3 x L];simp) (by rw[c1];exact H) C)) (O l Y)
def bndM (t:Nat)(o:Option α)(k:α->Option β):Option β:=bnd o k
theorem Be (t:Nat){o:Option α}{k:α->Option β}{r:β}(h:bndM t o k=some r):bnd o k=some r:=h
theorem Ck (t:Nat)(a:α)(k:α->Option β):bndM t (some a) k=k a:=by unfold bndM bnd;rfl
end
section
variable {α β γ:Type} {E:Env} {nt:Nat} {f:FuncId} {avs:List AV}
def bndP (o:Option α)(rl:α->Option γ)(kN:α->Option β)(kS:α->γ->Option β):Option β:=match o with|some a=>(match rl a with|some q=>kS a q|none=>kN a)|none=>none
theorem Ab.oP {o:Option α}{rl:α->Option γ}{kN:α->Option β}{kS:α->γ->Option β}{r:β}{fr:Bool}{K:AV->Prop}{R:Nat->Nat->List AV->AV->Prop}{find:Nat->Option Ent}{KR:AV->List Nat->List (Nat×Ent)->Prop}(h:bndP o rl kN kS=some r)(enc:α->AV)(encN:α->AV)(encS:α->γ->AV)(t:∀a,rl a=none->enc a=encN a)(p:∀a q,rl a=some q->enc a=encS a q)(g:∀a,o=some a->Con E fr f avs (enc a))(n:∀a,kN a=some r->K (encN a))(e:∀a q,kS a q=some r->K (encS a q)):Ab E f avs K R find KR:=by
 unfold bndP at h;split at h
 ·rename_i a;split at h
  ·rename_i q d;exact .mk fr _ (g _ rfl) (by rw[p _ _ d];exact e _ _ h)
  ·rename_i d;exact .mk fr _ (g _ rfl) (by rw[t _ d];exact n _ h)
 ·cases h
end
attribute [irreducible] mgv bndP frb bndM
section
variable {β V:Type}
abbrev yak (E:Env)(nt:Nat)(L:Nat->V->Option β)(S:V->AS):Prop:=∀{R:Exit->AS->Prop} {K:List Bu} {σ:AS} {c:Code} {r:β} {n:Nat} {e:V} (_:L n e=some r) (_:LeX E nt σ (S e)) (_:∀m v,L (m+1) v=some r->AW E nt (Cv (λd=>∃v',L m v'=some r/\LeX E nt d (S v')) (AW E nt R K)) [.code c] .normal (S v)),Au E nt (λnext d=>AW E nt (Cv next (AW E nt R K)) [.code c] .normal d) σ
theorem LoopA.oT {nt:Nat}{L:Nat->V->Option β}{S:V->AS}(d:∀v,L 0 v=none):yak E nt L S:=λh e round=>LoopA.o h d e round
end
section
variable {β:Type}
theorem RetX.oA {v:AV}{a r:β}{enc:β->AV}(h:some a=some r)(hs:Sub v (enc a):=by (repeat' first|exact Sub.nil _|exact Sub.refl _|refine Sub.agg ?_|refine Sub.tup ?_|refine Sub.fn ?_|exact SubL.nil|refine SubL.cons ?_ ?_|refine Sub.sl _ ?_|exact SubE.nil|refine SubE.cons ?_ ?_)<;>fail)(hs:Sub v (enc a):=by (repeat' first|exact Sub.nil _|exact Sub.refl _|refine Sub.agg ?_|refine Sub.tup ?_|refine Sub.fn ?_|exact SubL.nil|refine SubL.cons ?_ ?_|refine Sub.sl _ ?_|exact SubE.nil|refine SubE.cons ?_ ?_)<;>fail):RetX v (enc r):=RetX.o h hs
theorem LeX.a {nt:Nat}{σ τ:AS}(ps:List (Nat×Nat))(h:injB (rho ps) (τ.me.map (·.1))=true:=by rfl)(h1:LeV σ (rho ps) (τ.me.map (·.1)) τ.tm:=by (repeat' first|exact trivial|exact rfl|refine⟨?_,?_⟩)<;>fail)(d:LeE σ (rho ps) (τ.me.map (·.1)) τ.me:=by (repeat' first|exact trivial|exact rfl|refine⟨?_,?_⟩)<;>fail):LeX E nt σ τ:=LeX.of ps h h1 d
end
def arnV (s:Value)(vs:Array Value):Option (Option Nat×Value):=some (none,.agg (#[s]++vs))
variable {s:Value}{vs:Array Value}
theorem mem_arnV {b:Nat}:b∈blks (arnV s vs) ↔ B8 s=some b\/∃j,B8 (vs.getD j undef)=some b:=by
 rw[show blks (arnV s vs)=blks (nstV s vs) from rfl];exact mem_nstV
theorem con1 (x:Value)(vs:Array Value)(j:Nat):(#[x]++vs).getD (j+1) undef=vs.getD j undef:=by
 rw[aK,aK,Array.getElem?_append_right Δ];simp
variable {γ:Gam}{id:Nat}
theorem y4c {e:Array Value}(h:γ id=some (arnV s e))(n:∀j,j<vs.size->j<e.size/\e.getD j undef=vs.getD j undef):Turn γ id (arnV s vs) :=
 ⟨_,_,rfl,h,rfl,rfl,λp d=>by
  cases p with
  |obj j =>
   simp only[Dv.ok,Nat.blt_eq,bI]at d ⊢;have h1:j<vs.size:=by simp at d;omega
   obtain⟨q,g⟩:=n j h1;exact⟨Ψ,by simp only[bO,con1,g]⟩
  |oelt j k =>
   simp only[Dv.ok,Nat.blt_eq,bI]at d ⊢;have h1:j<vs.size:=by simp at d;omega
   obtain⟨q,g⟩:=n j h1;exact⟨Ψ,by simp only[bO,con1,g]⟩
  |_=>exact⟨rfl,by simp only[bO,con0]⟩⟩
section
variable {cx:Cx} {o:Oper} {σ:AS}
variable {idx:List (Option Nat)}{os:List NE}
theorem zqc {τ:AS}{a:Act}{w:World}(g:StG cx γ τ a w)(q:τ.find id=some (.are ty idx os)) :
  ∃s vs us,γ id=some (arnV s vs)/\s.oneCell'=true/\vs.size=os.length/\w.ownsRow cx.w0.heap.size ty 1 s idx.length us/\(∀u∈us,u.oneCell'=true) /\
   (∀k (t:k<idx.length),(idx[k]=none->Rep w (Sg cx.S0 cx.w0.heap.size γ) G0 (.mapv []) (us.getD k undef))/\∀j,idx[k]=some j->j<os.length/\us.getD k undef=vs.getD j undef)/\(∀j (h:j<os.length),os[j]≠.hole/\NRep w (Sg cx.S0 cx.w0.heap.size γ) cx.w0.heap.size (vs.getD j undef) os[j])/\DisB (B8 s) vs:=by
 have e:=g.me id;rw[q]at e;obtain⟨d,p,s,vs,us,n,r⟩:=e;subst n;exact⟨s,vs,us,p,r⟩
variable {v:Value}
theorem yca {w:World}{S:Nat->Prop}{d:Dv}{g:Option Nat}(h:Rep w S γ (.der d id) v)(n:γ id=some (some (g,s))):d.ok s=true/\v=d.of s:=by
 cases h with
 |der h e=>rw[n]at h;injection h with h;exact e g s h.symm
theorem y50 {γ':Gam}{τ:AS}{a:Act}{w w':World}{dst:Option Nat}{q:Nat}{d0 d1:Option (Option Nat×Value)}{e1 e:Ent}{av:AV}(z:StG cx γ τ a w)(hd:∀x,dst=some x->cx.E.np<=x/\x<cx.nt)(Y:id≠q)(M:γ id=some d0)(I:γ' id=some d1)(L:Turn γ' id d0)(g:∀i,i≠id->i≠q->γ' i=γ i)
  (hq:∀x,γ q=some x->γ' q=some none) (C:∀b,own γ' b ↔ own γ b) (D:∀b d,γ' q=some d->b∈blks d->b ∉ blks d1/\(∀i u,i≠id->i≠q->γ i=some u->b ∉ blks u)) (W:∀i u b,i≠id->i≠q->γ i=some u->b∈blks u->b ∉ blks d1)
  (U:w.heap.size<=w'.heap.size) (J:∀k,k ∉ blks d0->w'.heap[k]? = w.heap[k]?) (Z:Below cx.w0.heap.size w w') (ab:w.drawn<=w'.drawn)
  (hn:(∀b,Sg cx.S0 cx.w0.heap.size γ b->b<w.heap.size->w'.heap[b]? = w.heap[b]? /\ Sg cx.S0 cx.w0.heap.size γ' b)->Bm w' (Sg cx.S0 cx.w0.heap.size γ') γ' cx.w0.heap.size d1 e1)
  (he:(∀b,Sg cx.S0 cx.w0.heap.size γ b->b<w.heap.size->w'.heap[b]? = w.heap[b]? /\ Sg cx.S0 cx.w0.heap.size γ' b)->∃x,γ' q=some x/\Bm w' (Sg cx.S0 cx.w0.heap.size γ') γ' cx.w0.heap.size x e)
  (hv:Rep w' (Sg cx.S0 cx.w0.heap.size γ') γ' av v):St cx (τ.upd dst av [(id,e1),(q,e)]) (a.put dst v) w':=by
 have A:∀b,b∈blks d0->own γ b:=λb hb=>⟨id,_,M,hb⟩
 have aa:∀b,Sg cx.S0 cx.w0.heap.size γ b->b ∉ blks d0:=λb hS e=>by
  have O:=A b e;rcases hS with⟨_,h⟩|⟨_,h⟩
  ·have:=(z.ge b O).1.1;omega
  ·exact h O
 have ac:∀b,Sg cx.S0 cx.w0.heap.size γ b->Sg cx.S0 cx.w0.heap.size γ' b:=λb hb=>hb.elim aE (λ⟨h1,p⟩=>aF ⟨h1,λO=>p ((C b).1 O)⟩)
 have hk:∀b,Sg cx.S0 cx.w0.heap.size γ b->b<w.heap.size->w'.heap[b]? = w.heap[b]? /\ Sg cx.S0 cx.w0.heap.size γ' b:=λb hS _=>⟨J b (aa b hS),ac b hS⟩
 refine⟨γ',z.step hd U hk (λi x N=>?_) (λi hi=>?_) (λi e0 hi=>?_) (λi t b d u hi n m H=>?_) (λb hb=>?_) (z.below.trans Z) hv (λb X _=>⟨J b (λe=>X (A b e)),λO=>X ((C b).1 O)⟩) (λ_=>ab)⟩
 ·by_cases h1:i=id
  ·subst h1;rw[M]at N;injection N with N;subst N;exact aF (aF L)
  ·by_cases p:i=q
   ·subst p;exact aF (aE (hq x N))
   ·exact aE ((g i h1 p).trans N)
 ·rw[zdn Y]at hi;by_cases h1:i=id
  ·rw[if_pos h1]at hi;cases hi
  ·rw[if_neg h1]at hi;by_cases p:i=q
   ·rw[if_pos p]at hi;cases hi
   ·exact⟨g i h1 p,λb d hi hm=>J b (λe=>h1 (z.inj _ _ _ _ _ hi M hm e))⟩
 ·rw[zdn Y]at hi;by_cases h1:i=id
  ·subst h1;rw[if_pos rfl]at hi;injection hi with hi
   subst hi;exact⟨_,I,hn hk⟩
  ·rw[if_neg h1]at hi;by_cases p:i=q
   ·subst p;rw[if_pos rfl]at hi;injection hi with hi
    subst hi;exact he hk
   ·rw[if_neg p]at hi;cases hi
 ·have sym:∀i t d u,γ' i=some d->γ' t=some u->b∈blks d->b∈blks u->i=id->i=t:=λi t d u hi n m H h1=>by
   subst h1;rw[I]at hi;injection hi with hi
   subst hi;by_cases p:t=i
   ·exact p.symm
   ·by_cases G:t=q
    ·subst G;exact absurd m (D b u n H).1
    ·rw[g t p G]at n;exact absurd m (W t u b p G n H)
  by_cases h1:i=id
  ·exact sym i t d u hi n m H h1
  ·by_cases p:t=id
   ·exact(sym t i u d n hi H m p).symm
   ·by_cases G:i=q
    ·by_cases Q:t=q
     ·rw[G,Q]
     ·subst G;rw[g t p Q]at n;exact absurd H ((D b d hi m).2 t u p Q n)
    ·by_cases Q:t=q
     ·subst Q;rw[g i h1 G]at hi;exact absurd m ((D b u n H).2 i d h1 G hi)
     ·rw[g i h1 G]at hi;rw[g t p Q]at n;exact z.inj _ _ _ _ _ hi n m H
 ·have:=z.ge b ((C b).1 hb);exact⟨this.1,aQ this.2 U⟩
theorem LeX.are {nt:Nat}{σ:AS}(r:Nat){m:Nat}(Z:σ.find r=some (.row ty 1 (aP m (.mapv [])))):LeX E nt σ (σ.rpAll r Dw (.cont m r) (.are ty (aP m none) [])):=by
 refine LeX.rpAll r Dw (.cont m r) _ _ Z (λty cs h=>by cases h) (λcx γ a w d Y hd he=>?_);obtain⟨s,us,M,u,n,U,I,z⟩:=he;subst M;obtain⟨D,C⟩:=I9 n;rw[aW]at n;have X:us.length=m:=by have:=n.1;omega
 have A:∀k,k<m->Rep w (Sg cx.S0 cx.w0.heap.size γ) G0 (.mapv []) (us.getD k undef):=λk L=>by
  have:=I k (by simpa using L) 0 (by simp[bH]);simp only[bK,bH,aU,Nat.mul_one,bX]at this;exact this
 refine⟨arnV s #[],λb N=>?_,λS' hS aa=>⟨⟨s,#[],us,rfl,u,rfl,by rw[aW];exact n,z,λk L=>?_,λj h=>absurd h Δ,λi j b hi=>?_,λi b _ hi=>?_⟩,λγ' x v q t Q W=>?_⟩⟩
 ·rcases mem_arnV.1 N with h|⟨j,h⟩
  ·exact(Ey D C).2 h
  ·simp[undef,B8]at h
 ·have J:k<m:=by simpa using L
  simp only[bK];exact⟨λ_=>(A k J).mono (aB _) (λb N _=>⟨rfl,hS b N⟩),λj hj=>by cases hj⟩
 ·simp[undef,B8]at hi
 ·simp[undef,B8]at hi
 ·have G:x=.row r:=by
   cases x with
   |row i=>simp only[bM,aC]at Q;rw[Q]
   |_=>simp[Dw]at t
  subst G;have H:v=s:=W.row_inv hd (Gp u);subst H;refine .cont q (λg s' e=>?_) ?_
  ·injection e with e
   injection e with _ e
   subst e;simp only[bO,con0]
  ·rcases n.2 with⟨p,h0⟩|⟨g,O,ab,p,_⟩
   ·exact⟨none,0,by rw[p,h0],λh=>by omega⟩
   ·exact⟨_,O,p,λ_=>⟨g,0,rfl⟩⟩
variable {T j:Nat}{x:Operand}{i:TyI}
theorem y02 {k:Nat}(D:o.op=.load T x)(X:dok cx o=true)(q:A6 x=true)(J:σ.eval x=.der (.nelt k) id)(hT:lkT cx.E.tab T=some i)(Z:i.shape.agg=false)(Q:σ.find id=some (.are ty idx os))(U:idx[k]? = some (some j)) :
  Ao cx o σ (.der (.obj j) id) [id] [] :=
 Bc X λτ γ a w h1 h2 p=>by
  have H:=p.ev x q;rw[h1 x (by simp[D,Op.operands]),J]at H;obtain⟨s,vs,us,G,N,M,h,C,A,O,W⟩:=zqc p (by rw[h2 id Δ];exact Q);obtain⟨u,z⟩:=List.getElem?_eq_some_iff.1 U;obtain⟨q1,I⟩:=(A k u).2 j z;refine⟨vs.getD j undef,?_,.der G (λg s' e=>?_)⟩
  ·have n:=h;rcases h.2 with⟨_,h0⟩|⟨g,ab,aa,t,_,hh,_⟩
   ·omega
   ·subst t;have L:a.eval x=.pointer (some ⟨g,0+k,none⟩):=by rw[H.der_inv G];simp only[bO,con0]
    have Y:=Oc n rfl k Ω;have d:=Tb (cx.E.ok T i hT) Z w ⟨g,0+k,none⟩ (us.getD k undef) (by rw[aX];exact Y);rw[I]at d;simp only[execOp,D,L,Instr.loadAt,Instr.sureAddr,Sem.run_bind,Sem.run_pure,Result.andThen_ok,d]
  ·injection e with e
   injection e with _ e
   subst e;exact⟨by simp[Dv.ok];omega,by simp only[bO,con1]⟩
variable {ps:List (AV×AV)}
theorem y2v {τ:AS}{a:Act}{w:World}(z:γ id=some (arnV s vs))(t:vs.size=os.length)(e:∀j (h:j<os.length),os[j]≠.hole/\NRep w (Sg cx.S0 cx.w0.heap.size γ) cx.w0.heap.size (vs.getD j undef) os[j])(q:Rep w (Sg cx.S0 cx.w0.heap.size γ) γ (.der (.obj j) id) v)(u:os[j]? = some (.mp ps)) :
  ∃g d,v=.map (some g)/\vs.getD j undef=.map (some g)/\j<os.length/\Dj w (Sg cx.S0 cx.w0.heap.size γ) g d/\F8 d ps:=by
 obtain⟨p,n⟩:=List.getElem?_eq_some_iff.1 u;have h:=(e j p).2;rw[n]at h;obtain⟨g,d,h1,C,A⟩:=h;refine⟨g,d,?_,h1,p,C,A⟩;rw[(yca q z).2];simp only[bO,con1,h1]
variable {y:Operand}
theorem zrg {kt et:Nat}{ok:Bool}{ie:TyI}{k av:AV}{r:Option Nat}(z:o.op=.lookup T x y ok)(hd:dok cx o=true)(t:A6 x=true)(q:A6 y=true)(O:σ.eval x=.der (.obj j) id)(N:σ.eval y=k)(X:σ.find id=some (.are ty idx os))(n:os[j]? = some (.mp ps))
  (hT:lkT cx.E.tab T=some i) (hs:i.shape=.map kt et) (he:lkT cx.E.tab et=some ie) (p:P6 ie.zero=true) (H:Br cx.P kt k=true) (hf:Bt k (ps.map (·.1)) 0=some r)
  (C:Sub (Ea (D7 ie.zero) ps r) av):Ao cx o σ (Gv av r.isSome ok) [id] [] :=
 Bc hd λτ γ a w h1 h2 e=>by
  have J:=e.ev x t;rw[h1 x (by simp[z,Op.operands]),O]at J;have I:=e.ev y q;rw[h1 y (by simp[z,Op.operands]),N]at I;obtain⟨s,vs,us,Z,U,u,D,G,Y,A,aa⟩:=zqc e (by rw[h2 id Δ];exact X);obtain⟨g,M,Q,_,_,hm,W⟩:=y2v (τ:=τ) (a:=a) Z u A J n;obtain⟨L,f1,f2,f3⟩:=zk7 W hf;obtain⟨v,d,h⟩:=zgp (S:=Sg cx.S0 cx.w0.heap.size γ) (zA:=D7 ie.zero) ok (Fo (cx.E.ok T i hT) hs) H (I.flat (Oa H)) hm ((cx.E.ok et ie he).zeroV w) (Yb _ _ _ _ p) f1;rw[f2]at h;have d:Rep w (Sg cx.S0 cx.w0.heap.size γ) G0 (Ea (D7 ie.zero) ps r) v:=by rw[<-f3];cases L<;>exact d
  have d:=(d.open_ (γ':=γ)).sub C;refine⟨(if ok then .tuple #[v,.bool r.isSome]else v),by simp only[execOp,z,Q,Sem.run_bind,h,Result.andThen_ok,Sem.run_pure],?_⟩;cases ok with
  |false=>exact d
  |true =>
   simp only[Gv,if_true];refine .tup #[v,.bool r.isSome] rfl (λj n=>?_);have n:j<2:=n;rcases j with _|_|j
   ·exact d
   ·exact .bool _
   ·omega
def PutQ (k x:AV)(ps ps':List (AV×AV)):Prop:=∀d,F8 d ps->∃e,Bt k (d.map (·.1)) 0=some e/\F8 (putK e k x d) ps'
theorem zj4 {kt et:Nat}{z:Operand}{k xv:AV}{ps':List (AV×AV)}(q:o.op=.mapUpdate T x y z\/o.op=.insert T x y z)(hd:dok cx o=true)(an:A6 x=true)(am:A6 y=true)(al:A6 z=true)(hx:σ.eval x=.der (.obj j) id)(hy:σ.eval y=k)(hz:σ.eval z=xv)(hl:σ.find id=some (.are ty idx os))(hj:os[j]? = some (.mp ps))
  (hT:lkT cx.E.tab T=some i) (hs:i.shape=.map kt et) (H:Br cx.P kt k=true) (az:xv.closed=true) (ap:PutQ k xv ps ps'):Ao cx o σ (.tup []) [id] [(id,.are ty idx (os.set j (.mp ps')))]:=by
 refine⟨λid e he=>Dd he,λτ h1 h2 a w Q K ⟨γ,p⟩ hK=>C9 (λc hc=>by rcases q with q|q<;>(rw[q]at hc;cases hc)) ?_⟩;have A:x∈o.op.operands/\y∈o.op.operands/\z∈o.op.operands:=by rcases q with q|q<;>simp[q,Op.operands]
 have ex:=p.ev x an;rw[h1 x A.1,hx]at ex;have ey:=p.ev y am;rw[h1 y A.2.1,hy]at ey;have ez:=p.ev z al;rw[h1 z A.2.2,hz]at ez;obtain⟨s,vs,us,G,ao,Y,aa,ab,ad,J,U⟩:=zqc p (by rw[h2 id Δ];exact hl);obtain⟨g,ak,hv,C,ba,hm,hp⟩:=y2v (τ:=τ) (a:=a) G Y J ex hj;obtain⟨r0,f1,f2⟩:=ap ak hp;have ag:g∈blks (arnV s vs):=mem_arnV.2 (aF ⟨j,by rw[C];rfl⟩);have N:own γ g:=⟨id,_,G,ag⟩;have af:=p.ge g N;have D:∀b,Sg cx.S0 cx.w0.heap.size γ b->b≠g:=λb t e=>by
  subst e;rcases t with⟨_,h⟩|⟨_,h⟩
  ·have:=af.1.1;omega
  ·exact h N
 obtain⟨W,Z,ar⟩:=zmo (Fo (cx.E.ok T i hT) hs) H (ey.flat (Oa H)) (ez.close az) hm f1 (λt=>D g t rfl);have ax:(execOp a.eval o).run cx.P w=.ok .skip { w with heap:=w.heap.setIfInBounds g W }:=by
  rcases q with q|q<;>simp only[execOp,q,hv,Sem.run_bind,Z,Result.andThen_ok,Sem.run_pure]
 unfold Oper.wp;rw[ax];have n:∀k,k≠g->({ w with heap:=w.heap.setIfInBounds g W }:World).heap[k]? = w.heap[k]? := λk H=>by simp[aH,Ne.symm H]
 have u:w.heap.size<=({ w with heap:=w.heap.setIfInBounds g W }:World).heap.size:=Δ
 have ay:w.drawn<=({ w with heap:=w.heap.setIfInBounds g W }:World).drawn:=aB _;have ai:Below cx.w0.heap.size w ({ w with heap:=w.heap.setIfInBounds g W }:World):=⟨rfl,rfl,rfl,u,λk H=>n k (by have:=af.1.1;omega)⟩;generalize ({ w with heap:=w.heap.setIfInBounds g W }:World)=w' at *;refine hK _ _ ⟨γ,p.step (C5 hd) u (λb t L=>⟨n b (D b t),t⟩) (λid d h=>aE h) (λX ae=>⟨rfl,λg' s aw aq=>n g' ?_⟩) (λX e' O=>?_) p.inj (λb ah=>⟨(p.ge b ah).1,aQ (p.ge b ah).2 u⟩) (p.below.trans ai) (.tup #[] rfl (λj hj=>absurd hj Δ)) (λb ac L=>⟨n b (λe=>ac (e▸N)),ac⟩) (λ_=>ay)⟩
 ·rintro rfl;have:=p.inj _ _ _ _ _ aw G aq ag;subst this;simp[lkE]at ae
 ·have av:X=id:=by have:=Dd O;simpa using this
  subst av;simp only[lkE,aY,aC]at O;subst O;refine⟨_,G,s,vs,us,rfl,ao,by rw[bT];exact Y,aa.moved (λb hb=>n b (λe=>U.2 j b hb (by rw[C,e];rfl))),ab,λk H=>⟨λh=>((ad k H).1 h).mono u (λb t L=>⟨n b (D b t),t⟩),λI au=>by rw[bT];exact(ad k H).2 I au⟩,λI h'=>?_,U⟩;have aj:I < os.length:=by simpa using h'
  simp only[getElem_set];by_cases M:j=I
  ·subst M;rw[if_pos rfl];exact⟨(by intro h;cases h),g,_,C,ar,f2⟩
  ·rw[if_neg M];exact⟨(J I aj).1,(J I aj).2.moved u (λb t L=>⟨n b (D b t),t⟩) (λb hb=>n b (λe=>M (U.1 j I b (by rw[C,e];rfl) hb)))⟩
theorem zvf {q k:Nat}(ho:o.op=.store T x y)(hd:dok cx o=true)(aq:A6 x=true)(ap:A6 y=true)(hx:σ.eval x=.der (.nelt k) id)(hy:σ.eval y=.row q)(hT:lkT cx.E.tab T=some i)(am:i.sz=1)(hl:σ.find id=some (.are ty idx os))(hq:σ.find q=some (.mp ps))(hk:k<idx.length)(ac:id≠q) :
  Ao cx o σ (.tup []) [id,q] [(id,.are ty (idx.set k (some os.length)) (os++[.mp ps])),(q,.dead)]:=by
 refine⟨λi e he=>zwf he,λτ h1 D a w Q K ⟨γ,z⟩ hK=>C9 (λc hc=>by rw[ho]at hc;cases hc) ?_⟩;have ex:=z.ev x aq;rw[h1 x (by simp[ho,Op.operands]),hx]at ex;have ey:=z.ev y ap;rw[h1 y (by simp[ho,Op.operands]),hy]at ey;obtain⟨s,vs,us,hg,aw,ah,aa,aj,al,ak,ae⟩:=zqc z (by rw[D id Δ];exact hl);obtain⟨m,H,ba,hm⟩:=Ud (id:=q) z (by rw[D q Δ];exact hq) ey;have au:us.length=idx.length*1:=aa.1;obtain⟨g,L,t,ab,af,hh,ad,ax,bc,av⟩:∃g L t,s=.slice (some ⟨g,0,none⟩) idx.length L/\cx.w0.heap.size<=g/\w.heap[g]? = some (.cells t ty (0,0))/\idx.length<=L/\L<=maxLen/\t.size=L*1/\t.toList.take (idx.length*1)=us:=by
  rcases aa.2 with⟨_,h0⟩|h
  ·omega
  ·exact h
 have X:B8 s=some g:=by rw[ab];rfl
 have hv:a.eval x=.pointer (some ⟨g,0+k,none⟩):=by rw[ex.der_inv hg,ab];simp only[bO,con0]
 have N:=z65 (cx.E.ok T i hT) w g (0+k) ty t (.map (some m)) hh (by rw[am];rfl) Ω (λu hu=>by
  have:u=.map (some m):=by simpa[Value.cells]using hu
  rw[this];rfl)
 rw[show(Value.map (some m)).cells=#[.map (some m)] from rfl,am,aX]at N;generalize O:(t.toList.take k++(#[Value.map (some m)]:Array Value).toList++t.toList.drop (k+1)).toArray=d at N;have az:(execOp a.eval o).run cx.P w=.ok .skip (w.setRow g d):=by
  rw[aX]at hv;simp only[execOp,ho,hv,ba,Instr.storeAt,Instr.sureAddr,Sem.run_bind,Sem.run_pure,Result.andThen_ok,N]
 unfold Oper.wp;rw[az];have an:=setRow_heap w g t d ty (0,0) hh;have A:∀q,q≠g->(w.setRow g d).heap[q]? = w.heap[q]? := λq hq=>setRow_other w g q _ hq
 have M:w.heap.size<=(w.setRow g d).heap.size:=Δ
 have bb:w.drawn<=(w.setRow g d).drawn:=aB _;have ay:own γ g:=⟨id,_,hg,mem_arnV.2 (aE X)⟩;have ao:Below cx.w0.heap.size w (w.setRow g d):=⟨rfl,rfl,rfl,M,λk hk=>A k (by have:=(z.ge g ay).1.1;omega)⟩;generalize w.setRow g d=w' at *;have C:∀i,(vs.push (.map (some m))).getD i undef=if i=vs.size then .map (some m)else vs.getD i undef:=λi=>by
  simp only[aK,Array.getElem?_push];by_cases h:i=vs.size
  ·rw[if_pos h,if_pos h];rfl
  ·rw[if_neg h,if_neg h]
 have ar:∀j b,B8 (vs.getD j undef)=some b->j<vs.size:=λj b h=>by
  rcases Nat.lt_or_ge j vs.size with h'|h'
  ·exact h'
  ·simp[Array.getD,Nat.not_lt.2 h',undef,B8]at h
 have bl:∀i d' b,i≠id->γ i=some d'->b∈blks d'->B8 s≠some b/\∀j,B8 (vs.getD j undef)≠some b:=λi d' b hi Y n =>
  ⟨λe=>hi (z.inj _ _ _ _ _ Y hg n (mem_arnV.2 (aE e))),λj p=>hi (z.inj _ _ _ _ _ Y hg n (mem_arnV.2 (aF ⟨j,p⟩)))⟩
 obtain⟨ai,Z⟩:=bl q _ m (Ne.symm ac) H C3;let γ':Gam:=λi=>if i=id then some (arnV s (vs.push (.map (some m))))else if i=q then some none else γ i
 have g1:γ' id=some (arnV s (vs.push (.map (some m)))):=if_pos rfl;have g2:γ' q=some none:=by show(if q=id then _ else if q=q then _ else _)=_;rw[if_neg (Ne.symm ac),if_pos rfl]
 have g3:∀i,i≠id->i≠q->γ' i=γ i:=λi h1 D=>by show(if i=id then _ else if i=q then _ else _)=_;rw[if_neg h1,if_neg D]
 have U:∀b,b∈blks (arnV s (vs.push (.map (some m)))) ↔ b∈blks (arnV s vs)\/b=m:=λb=>by
  rw[mem_arnV,mem_arnV];constructor
  ·rintro (h|⟨j,h⟩)
   ·exact aE (aE h)
   ·rw[C]at h;by_cases p:j=vs.size
    ·rw[if_pos p]at h;injection h with h;exact aF h.symm
    ·rw[if_neg p]at h;exact aE (aF ⟨j,h⟩)
  ·rintro ((h|⟨j,h⟩)|h)
   ·exact aE h
   ·exact aF ⟨j,by rw[C,if_neg (by have:=ar j b h;omega)];exact h⟩
   ·exact aF ⟨vs.size,by rw[C,if_pos rfl,h];rfl⟩
 refine hK _ _ (y50 (γ':=γ') (q:=q) (w':=w') z (C5 hd) ac hg g1 (y4c g1 (λj p=>⟨Ψ,by rw[C,if_neg Ω]⟩)) g3 (λx hx=>g2) (λb=>⟨λ⟨i,x,hi,n⟩=>?_,λ⟨i,x,hi,n⟩=>?_⟩) (λb x hx n=>?_) (λi d' b h1 D hi n hc=>?_) M (λb n=>A b (λe=>n (by rw[e];exact mem_arnV.2 (aE X)))) ao bb (λW=>?_) (λW=>⟨_,g2,rfl⟩) (.tup #[] rfl (λj p=>absurd p Δ)))
 ·by_cases h1:i=id
  ·subst h1;rw[g1]at hi;injection hi with hi;subst hi
   rcases(U b).1 n with n|n
   ·exact⟨_,_,hg,n⟩
   ·subst n;exact⟨_,_,H,C3⟩
  ·by_cases D:i=q
   ·subst D;rw[g2]at hi;injection hi with hi;subst hi;cases n
   ·rw[g3 i h1 D]at hi;exact⟨i,x,hi,n⟩
 ·by_cases h1:i=id
  ·subst h1;rw[hg]at hi;injection hi with hi;subst hi
   exact⟨_,_,g1,(U b).2 (aE n)⟩
  ·by_cases D:i=q
   ·subst D;rw[H]at hi;injection hi with hi;subst hi
    exact⟨_,_,g1,(U b).2 (aF (Ow rfl n))⟩
   ·exact⟨i,x,(g3 i h1 D).trans hi,n⟩
 ·rw[g2]at hx;injection hx with hx;subst hx;cases n
 ·obtain⟨q1,q2⟩:=bl i d' b h1 hi n;rcases(U b).1 hc with h|h
  ·rcases mem_arnV.1 h with h|⟨j,h⟩
   ·exact q1 h
   ·exact q2 j h
  ·subst h;exact D (z.inj _ _ _ _ _ hi H n C3)
 ·have ag:d.toList.take (idx.length*1)=us.set k (.map (some m)):=by
   rw[<-O,<-av,set_eq_take_append_cons_drop,if_pos Ψ];have:=zo4 t.toList [Value.map (some m)] k (idx.length*1) Ψ Ψ;simpa using this
  refine⟨s,vs.push (.map (some m)),us.set k (.map (some m)),rfl,aw,by simp[ah],⟨by simp[au],aF ⟨g,L,d,by rw[bT];exact ab,af,an,by simpa using ad,ax,?_,by simpa using ag⟩⟩,λu hu=>?_,λj p=>?_,λj p=>?_,λi j b hi p=>?_,λi b n hi=>?_⟩
  ·rw[<-O];have:=zdk t.toList [Value.map (some m)] k Ψ;simpa[bc]using this
  ·rcases mem_or_eq_of_mem_set hu with hu|hu
   ·exact aj u hu
   ·rw[hu];rfl
  ·have J:j<idx.length:=by simpa using p
   simp only[getElem_set,length_append,length_cons,length_nil];by_cases I:k=j
   ·subst I;rw[if_pos rfl];refine⟨λh=>(by cases h),λj' G=>?_⟩;injection G with G
    subst G;refine⟨Ω,?_⟩;rw[aN,getElem?_set_self Ω,C,if_pos ah.symm];rfl
   ·rw[if_neg I];have e:(us.set k (Value.map (some m))).getD j undef=us.getD j undef:=by rw[aN,getElem?_set_ne I,<-aN]
    rw[e];refine⟨λh=>((al j J).1 h).mono M W,λj' G=>?_⟩;obtain⟨q1,q2⟩:=(al j J).2 j' G;exact⟨Ω,by rw[q2,C,if_neg Ω]⟩
  ·simp only[length_append,length_cons,length_nil]at p;rw[C];by_cases I:j=vs.size
   ·rw[if_pos I];have e:(os++[NE.mp ps])[j]' Ψ=NE.mp ps:=by rw[getElem_append_right Ω];simp
    rw[e];exact⟨(by intro h;cases h),m,ps,rfl,hm.move M W (A m (λe=>ai (by rw[X,e]))),aE rfl⟩
   ·have J:j<os.length:=Ω
    rw[if_neg I,getElem_append_left J];exact⟨(ak j J).1,(ak j J).2.moved M W (λb n=>A b (λe=>ae.2 j b (by rw[X,e]) n))⟩
  ·rw[C]at hi p;by_cases h1:i=vs.size
   ·by_cases D:j=vs.size
    ·rw[h1,D]
    ·rw[if_pos h1]at hi;rw[if_neg D]at p;injection hi with hi;subst hi;exact absurd p (Z j)
   ·by_cases D:j=vs.size
    ·rw[if_neg h1]at hi;rw[if_pos D]at p;injection p with p;subst p;exact absurd hi (Z i)
    ·rw[if_neg h1]at hi;rw[if_neg D]at p;exact ae.1 i j b hi p
  ·rw[C]at hi;by_cases h1:i=vs.size
   ·rw[if_pos h1]at hi;injection hi with hi;subst hi;exact ai n
   ·rw[if_neg h1]at hi;exact ae.2 i b n hi
end
section
variable {P:Program} {w:World} {S:Nat->Prop}
theorem zor (es:Array MapEntry)(seen:Array Nat):(leftOf es seen).toList=Cn es seen:=by simp[leftOf,Cn]
theorem run_next_at (w:World)(ty:TypeId)(g bm since C:Nat)(seen:Array Nat)(es:Array MapEntry)(clock:Nat)(D:w.heap[g]? = some (.mapIter (some bm) since seen C))(J:w.heap[bm]? = some (.map es clock))(h:∀x∈es.toList,x.born<since)(u:since<=C) :
  (Cn es seen=[]/\(Instr.next (.pointer (some ⟨g,0,none⟩)) false ty).run P w=.ok (.tuple #[.bool false]) w) \/
  ∃e∈Cn es seen,∃n,(Instr.next (.pointer (some ⟨g,0,none⟩)) false ty).run P w=.ok (.tuple #[.bool true,e.key,e.val]) { w with drawn:=w.drawn+n,heap:=w.heap.setIfInBounds g (.mapIter (some bm) since (seen.push e.born) clock) }:=by
 simp only[Instr.next,getObj,Sem.run_bind,Sem.run,D,J,Result.andThen,next_test_false seen es since C h u,aG,if_false];rw[<-zor];unfold leftOf;have d:∀x∈(bY (λe=>!seen.contains e.born) es).toList,x.born<since:=λx p=>h x (by simp at p ⊢;exact p.1)
 generalize bY (λe=>!seen.contains e.born) es=L at d ⊢;have N:L.filter (λx=>decide (x.born<since))=L:=Array.filter_eq_self.2 (λx p=>by simpa using d x (by simpa using p));have M:L.filter (λx=>decide (x.born ≥ since))=#[]:=by
  rw[Array.filter_eq_empty_iff];intro x p;have:=d x (by simpa using p);simp;omega
 simp only[N,M,Array.append_empty];by_cases H:L.size=0
 ·left;have:L=#[]:=Array.eq_empty_of_size_eq_zero H;subst this;refine⟨rfl,?_⟩;simp[choose,Sem.run,Question.forced]
 ·right;have z:L.isEmpty=false:=by simp[Array.isEmpty,H]
  simp only[z,aG,if_false,Array.empty_append,Array.size_map];have A:∃(j n:Nat),j<L.size/\(choose (Question.mapNext L.size)).run P w=.ok j { w with drawn:=w.drawn+n }:=by
   by_cases G:L.size<=1
   ·exact⟨0,0,Ω,by simp[choose,Sem.run,Question.forced,G]⟩
   ·exact⟨_,1,Nat.mod_lt _ Ω,by
     simp only[choose,Sem.run,Question.forced,decide_eq_true_eq,G,if_false,Question.cut];rfl⟩
  obtain⟨j,n,I,t⟩:=A;refine⟨L[j],Δ,n,?_⟩;have q:∀o':Obj,(setObj g o').run P { w with drawn:=w.drawn+n }=.ok () { w with drawn:=w.drawn+n,heap:=w.heap.setIfInBounds g o' }:=λo'=>by
   simp only[setObj,Sem.run,D]
  simp only[t,Array.getElem?_map,Array.getElem?_eq_getElem I,bP,Sem.run_bind,q,Result.andThen];rfl
theorem zr9 (w:World)(ty:TypeId)(g a b:Nat)(s:Array Nat)(d:w.heap[g]? = some (.mapIter none a s b)):(Instr.next (.pointer (some ⟨g,0,none⟩)) false ty).run P w=.ok (.tuple #[.bool false]) w:=by
 simp only[Instr.next,getObj,Sem.run_bind,Sem.run,d,Result.andThen];rfl
theorem zra (w:World)(g bm since:Nat)(seen:Array Nat)(es:Array MapEntry)(clock:Nat)(e:MapEntry)(h:w.heap[g]? = some (.mapIter (some bm) since (seen.push e.born) clock))(q:w.heap[bm]? = some (.map es clock))(p:e∈es.toList)(d:(es.toList.map (·.born)).Nodup) :
  (Instr.entry (.pointer (some ⟨g,0,none⟩))).run P w=.ok (.tuple #[e.key,e.val]) w:=by
 have n:es.find? (·.born == e.born)=some e:=by rw[<-Array.find?_toList];exact find_born e es.toList d p
 simp only[Instr.entry,getObj,Sem.run_bind,Sem.run,h,q,Result.andThen,Array.back?_push,bne_self_eq_false,aG,if_false,n];rfl
variable {ps:List (AV×AV)}
theorem RepL.len0 {L:List MapEntry}(h:RepM w S L ps):L=[] ↔ ps=[]:=by
 obtain⟨d,h1,e,_⟩:=h;have:=h1.length_eq;rw[<-bG,<-bG];omega
variable {es:Array MapEntry}{seen:Array Nat}
theorem y0h (p:(es.toList.map (·.born)).Nodup){i:Nat}(hi:i<(Cn es seen).length):Cn es (seen.push (Cn es seen)[i].born)=(Cn es seen).eraseIdx i:=by
 have n:Cn es (seen.push (Cn es seen)[i].born)=(Cn es seen).filter λe=>!(e.born == (Cn es seen)[i].born):=by
  generalize (Cn es seen)[i].born=b;unfold Cn;rw[filter_filter];congr 1;funext e;rw[contains_push];cases seen.contains e.born<;>simp
 rw[n];have d:((Cn es seen).map (·.born)).Nodup:=by
  unfold Cn;exact(filter_sublist.map _).nodup p
 generalize Cn es seen=L at *;clear n
 induction L generalizing i with
 |nil=>simp at hi
 |cons x r ih =>
  simp only[aL,bU]at d;cases i with
  |zero =>
   simp only[aU,eraseIdx_cons_zero,aV,beq_self_eq_true,bW,aG,if_false];rw[aS];intro e q;have:e.born≠x.born:=λh=>d.1 (h▸bE.2 ⟨e,q,rfl⟩)
   simpa using this
  |succ i =>
   have g:i<r.length:=by simpa using hi
   simp only[getElem_cons_succ,eraseIdx_cons_succ,aV];have:x.born≠r[i].born:=λh=>d.1 (h▸bE.2 ⟨r[i],getElem_mem _,rfl⟩)
   have t:(x.born == r[i].born)=false:=by simpa using this
   rw[t];simp only[bR,if_true];rw[ih g d.2]
theorem Ob {α:Type}:∀{l:List α} {i:Nat} (h:i<l.length),(l[i]::l.eraseIdx i).Perm l
 |x::r,0,_=>.refl _
 |x::r,i+1,h=>(Perm.swap x _ _).trans ((Ob (l:=r) (i:=i) (by simpa using h)).cons x)
theorem ItP.split {A clock:Nat}(D:(es.toList.map (·.born)).Nodup)(h:ItP w S ps es seen A clock):∃j,∃h:j<ps.length,ItC w S ps[j] (ps.eraseIdx j) es seen A clock:=by
 obtain⟨H,seen0,e,hs,z,d,t,G,p⟩:=h;obtain⟨i,hi,rfl⟩:=mem_iff_getElem.1 z;have g:i<d.length:=Ω
 have hm:d[i]∈ps:=t.mem_iff.1 (getElem_mem _);obtain⟨j,u,n⟩:=mem_iff_getElem.1 hm;refine⟨j,u,H,seen0,_,hs,(mem_filter.1 z).1,by rw[n];exact p i hi g,d.eraseIdx i,?_,?_⟩
 ·have C:d.Perm (d[i]::d.eraseIdx i):=(Ob g).symm;have q:ps.Perm (ps[j]::ps.eraseIdx j):=(Ob u).symm;rw[n]at q;exact Perm.cons_inv ((C.symm.trans t).trans q)
 ·rw[hs,y0h D hi];refine⟨by rw[aZ hi,aZ g,G],λk h I=>?_⟩;rw[bN,bN];split
  ·exact p _ _ _
  ·exact p _ _ _
end
section
variable {cx:Cx} {o:Oper} {σ:AS}
variable {x:Operand}{ps:List (AV×AV)}
theorem y8l {T kt et d:Nat}{i:TyI}(M:o.op=.range T x)(Z:o.dst=some d)(hd:dok cx o=true)(I:A6 x=true)(hx:σ.eval x=.mapv ps)(hT:lkT cx.E.tab T=some i)(hs:i.shape=.map kt et)(hn:σ.find d=none):Ao cx o σ (.ptr d 0) [d] [(d,.it ps)]:=by
 refine⟨λid e he=>Dd he,λτ h1 h2 a w Q K ⟨γ,t⟩ hK=>C9 (λc hc=>by rw[M]at hc;cases hc) ?_⟩;have ex:=t.ev x I;rw[h1 x (by simp[M,Op.operands]),hx]at ex;have X:=Fo (cx.E.ok T i hT) hs;have key:∀q:Obj,(Instr.range T (a.eval x)).run cx.P w=.ok (.pointer (some ⟨w.heap.size,0,none⟩)) (w.alloc q)->ItIs (w.alloc q) (Sg cx.S0 cx.w0.heap.size (γ.set d (some (some w.heap.size,.slice none 0 0)))) w.heap.size (ItL (w.alloc q) (Sg cx.S0 cx.w0.heap.size (γ.set d (some (some w.heap.size,.slice none 0 0)))) ps)->o.wp cx.P a w K Q:=λq u N=>by
  have O:(execOp a.eval o).run cx.P w=.ok (.value (.pointer (some ⟨w.heap.size,0,none⟩))) (w.alloc q):=by
   simp only[execOp,M,Sem.run_bind,u,Result.andThen_ok,Sem.run_pure]
  unfold Oper.wp;rw[O];refine hK _ _ ⟨_,t.name (id:=d) (g:=w.heap.size) (s:=.slice none 0 0) (e:=.it ps) (C5 hd) (by rw[h2 d Δ];exact hn) ((Below.refl _ _).alloc (aB _) _) (aB _) Δ ?_ ?_⟩
  ·exact⟨w.heap.size,rfl,N⟩
  ·exact .ptr (Gam.set_self _ _ _) (λg s e=>by injection e with e;injection e with e _;injection e with e;rw[e])
 have D:∀b,Sg cx.S0 cx.w0.heap.size γ b->b<w.heap.size->Sg cx.S0 cx.w0.heap.size (γ.set d (some (some w.heap.size,.slice none 0 0))) b:=λb G p=>G.elim aE (λ⟨q1,q2⟩=>aF ⟨q1,λ⟨i,s,hi,hm⟩=>by
  by_cases z:i=d
  ·subst z;rw[Gam.set_self]at hi;injection hi with hi;subst hi;have:=Ow rfl hm;omega
  ·rw[Gam.set_ne _ _ _ z]at hi;exact q2 ⟨i,s,hi,hm⟩⟩)
 rcases mapv_val ex with⟨g,H,J,W,A,⟨es,clock,G,hl,C,Y⟩,L⟩|⟨J,U⟩
 ·refine key (.mapIter (some g) clock #[] clock) (by rw[J];exact run_range_map w T kt et g es clock X G) (aE ⟨g,clock,#[],clock,es,clock,heap_alloc_new _ _,D g W A,Ψ,by rw[heap_alloc_old _ _ A];exact G,C.1,C.2,aB _,aB _,H,?_,?_⟩)
  ·rcases L with rfl|⟨L,_⟩
   ·exact .refl _
   ·exact L
  ·have n:Cn es #[]=es.toList:=by simp[Cn]
   have hm:∀{av v},Rep w (Sg cx.S0 cx.w0.heap.size γ) G0 av v->Rep (w.alloc (.mapIter (some g) clock #[] clock)) (Sg cx.S0 cx.w0.heap.size (γ.set d (some (some w.heap.size,.slice none 0 0)))) G0 av v:=λh=>h.mono Δ (λb hS p=>⟨heap_alloc_old _ _ p,D b hS p⟩)
   exact⟨by rw[n];simpa using hl,λj h h'=>⟨by simp only[n];exact hm (Y j (by rw[<-n];exact h) h').1,by simp only[n];exact hm (Y j (by rw[<-n];exact h) h').2⟩⟩
 ·subst U;refine key (.mapIter none 0 #[] 0) (by rw[J];exact run_range_nilMap w T kt et X) (aF ⟨0,0,#[],heap_alloc_new _ _,[],.refl _,by simp[RepL,Cn]⟩)
theorem y39 {τ:AS}{a:Act}{w:World}{e:Ent}{v:Value}(p:StG cx γ τ a w)(u:τ.find id=some e)(t:Rep w (Sg cx.S0 cx.w0.heap.size γ) γ (.ptr id 0) v)(z:∀d,Bm w (Sg cx.S0 cx.w0.heap.size γ) γ cx.w0.heap.size d e->∃g,d=some (some g,.slice none 0 0)) :
  ∃g,γ id=some (some (some g,.slice none 0 0))/\v=.pointer (some ⟨g,0,none⟩)/\Bm w (Sg cx.S0 cx.w0.heap.size γ) γ cx.w0.heap.size (some (some g,.slice none 0 0)) e:=by
 have h:=p.me id;rw[u]at h;obtain⟨d,n,q⟩:=h;obtain⟨g,rfl⟩:=z d q;exact⟨g,n,t.ptr_inv n,q⟩
theorem y9s {τ:AS}{a:Act}{w w':World}{g:Nat}{e:Ent}{av:AV}{v:Value}{dst:Option Nat}(n:StG cx γ τ a w)(Y:∀x,dst=some x->cx.E.np<=x/\x<cx.nt)(M:γ id=some (some (some g,.slice none 0 0)))(O:w.heap.size<=w'.heap.size)(D:∀k,k≠g->w'.heap[k]? = w.heap[k]?)(Z:Below cx.w0.heap.size w w')(N:w.drawn<=w'.drawn)
  (X:(∀b,Sg cx.S0 cx.w0.heap.size γ b->b<w.heap.size->w'.heap[b]? = w.heap[b]? /\ Sg cx.S0 cx.w0.heap.size γ b)->Bm w' (Sg cx.S0 cx.w0.heap.size γ) γ cx.w0.heap.size (some (some g,.slice none 0 0)) e) (U:Rep w' (Sg cx.S0 cx.w0.heap.size γ) γ av v):St cx (τ.upd dst av [(id,e)]) (a.put dst v) w':=by
 have p:own γ g:=own.mk M;have J:=n.ge g p;have G:∀b,Sg cx.S0 cx.w0.heap.size γ b->b≠g:=λb C e=>by
  subst e;rcases C with⟨_,h⟩|⟨_,h⟩
  ·have:=J.1.1;omega
  ·exact h p
 have Q:∀b,Sg cx.S0 cx.w0.heap.size γ b->b<w.heap.size->w'.heap[b]? = w.heap[b]? /\ Sg cx.S0 cx.w0.heap.size γ b:=λb C _=>⟨D b (G b C),C⟩
 refine⟨γ,n.step Y O Q (λid d h=>aE h) (λt z=>⟨rfl,λg' s L H=>D g' ?_⟩) (λt e' q=>?_) n.inj (λb A=>⟨(n.ge b A).1,aQ (n.ge b A).2 O⟩) (n.below.trans Z) U (λb u W=>⟨D b (λe=>u (e▸p)),u⟩) (λ_=>N)⟩
 ·rintro rfl;have:=n.inj _ _ _ _ _ L M H C3;subst this;simp[lkE]at z
 ·have I:t=id:=by have:=Dd q;simpa using this
  subst I;simp only[lkE,aY,aC]at q;subst q;exact⟨_,M,X Q⟩
theorem zzz (z:o.op=.next x false)(U:dok cx o=true)(u:A6 x=true)(M:σ.eval x=.ptr id 0)(Q:σ.find id=some (.it [])):Ao cx o σ (.tup [.bool false]) [id] [] :=
 Bc U λτ γ a w h1 W p=>by
  have D:=p.ev x u;rw[h1 x (by simp[z,Op.operands]),M]at D;obtain⟨g,hg,N,g',n,hi⟩:=y39 p (by rw[W id Δ];exact Q) D (λd h=>by obtain⟨g,h,_⟩:=h;exact⟨g,h⟩);injection n with n
  injection n with n _
  injection n with n
  subst n;refine⟨.tuple #[.bool false],?_,.tup #[.bool false] rfl (λj A=>by have A:j<1:=A;have X:j=0:=Ω;subst X;exact .bool _)⟩;have q:(Instr.next (a.eval x) false o.type).run cx.P w=.ok (.tuple #[.bool false]) w:=by
   rw[N];rcases hi with⟨bm,since,seen,Y,es,clock,t,L,q3,J,q5,I,H,Z,G⟩|⟨b,c,s,t,L⟩
   ·rcases run_next_at (P:=cx.P) w o.type g bm since Y seen es clock t J I H with⟨_,O⟩|⟨e,C,_⟩
    ·exact O
    ·have:=(RepL.len0 G).2 rfl;rw[this]at C;cases C
   ·exact zr9 w o.type g b c s t
  simp only[execOp,z,Sem.run_bind,q,Result.andThen_ok,Sem.run_pure]
theorem yau (G:o.op=.next x false)(hd:dok cx o=true)(D:A6 x=true)(hx:σ.eval x=.ptr id 0)(hl:σ.find id=some (.it ps))(u:ps≠[]):Ao cx o σ (.tup [.bool true,.any,.any]) [id] [(id,.itp ps)]:=by
 refine⟨λid e J=>Dd J,λτ h1 h2 a w Q K ⟨γ,q⟩ hK=>C9 (λc hc=>by rw[G]at hc;cases hc) ?_⟩;have ex:=q.ev x D;rw[h1 x (by simp[G,Op.operands]),hx]at ex;obtain⟨g,Z,hv,g',p,hi⟩:=y39 q (by rw[h2 id Δ];exact hl) ex (λd h=>by obtain⟨g,h,_⟩:=h;exact⟨g,h⟩);injection p with p
 injection p with p _
 injection p with p
 subst p;rcases hi with⟨bm,since,seen,c0,es,clock,W,C,U,O,q5,N,q7,M,L⟩|⟨b,c,s,W,C⟩
 ·rcases run_next_at (P:=cx.P) w o.type g bm since c0 seen es clock W O N q7 with⟨h0,_⟩|⟨e,J,n,hr⟩
  ·exact absurd ((RepL.len0 L).1 h0) u
  ·have I:(execOp a.eval o).run cx.P w=.ok (.value (.tuple #[.bool true,e.key,e.val])) { w with drawn:=w.drawn+n,heap:=w.heap.setIfInBounds g (.mapIter (some bm) since (seen.push e.born) clock) }:=by
    simp only[execOp,G,hv,Sem.run_bind,hr,Result.andThen_ok,Sem.run_pure]
   unfold Oper.wp;rw[I];have A:=q.ge g (own.mk Z);have t:∀k,k≠g->(w.heap.setIfInBounds g (.mapIter (some bm) since (seen.push e.born) clock))[k]? = w.heap[k]? := λk X=>by simp[aH,Ne.symm X]
   refine hK _ _ (y9s q (C5 hd) Z Δ t ⟨rfl,rfl,rfl,Δ,λk X=>t k (by have:=A.1.1;omega)⟩ (Nat.le_add_right _ _) (λz=>?_) (.tup #[.bool true,e.key,e.val] rfl (λj Y=>?_)))
   ·refine⟨g,rfl,aE ⟨bm,since,seen.push e.born,clock,es,clock,by simp[aH,A.2],C,by simpa using U,?_,q5,N,M,M,rfl,seen,e,rfl,J,?_⟩⟩
    ·exact(z bm C U).1.trans O
    ·exact RepM.move L Δ (λb hS H=>z b hS H)
   ·have Y:j<3:=Y;rcases j with _|_|_|j
    ·exact .bool _
    ·exact .any _
    ·exact .any _
    ·omega
 ·exact absurd ((RepL.len0 C).1 rfl) u
theorem y8m {p:AV×AV}(A:o.op=.entry x)(O:dok cx o=true)(u:A6 x=true)(J:σ.eval x=.ptr id 0)(M:σ.find id=some (.itc p ps)):Ao cx o σ (.tup [p.1,p.2]) [id] [] :=
 Bc O λτ γ a w h1 Q q=>by
  have G:=q.ev x u;rw[h1 x (by simp[A,Op.operands]),J]at G;obtain⟨g,hg,L,g',n,hi⟩:=y39 q (by rw[Q id Δ];exact M) G (λd h=>by obtain⟨g,h,_⟩:=h;exact⟨g,h⟩);injection n with n
  injection n with n _
  injection n with n
  subst n;rcases hi with⟨bm,since,seen,U,es,clock,z,q2,Z,I,H,Y,X,W,D,seen0,e,hs,N,t,_⟩|⟨b,c,s,z,D,seen0,e,hs,_⟩
  ·subst D;subst hs;refine⟨.tuple #[e.key,e.val],by simp only[execOp,A,L,Sem.run_bind,zra w g bm since seen0 es U e z I N H,Result.andThen_ok,Sem.run_pure],.tup #[e.key,e.val] rfl (λj C=>?_)⟩;have C:j<2:=C;rcases j with _|_|j
   ·exact t.1.open_
   ·exact t.2.open_
   ·omega
  ·simp at hs
end
section
variable {E:Env} {nt:Nat} {σ:AS} {R:Exit->AS->Prop} {K:List Bu}
variable {ps:List (AV×AV)}
theorem AW.itp {c:Code}(r:Nat)(Y:σ.find r=some (.itp ps))(k:∀j (h:j<ps.length),AW E nt R (.code c::K) .normal (σ.upd none .any [(r,.itc ps[j] (ps.eraseIdx j))])):AW E nt R (.code c::K) .normal σ:=⟨λcx hE Z a w q=>by
 obtain⟨γ,h⟩:=q;have p:=h.me r;rw[Y]at p;obtain⟨d,D,g,C,hi⟩:=p;subst C;have n:∃j,∃h:j<ps.length,ItIs w (Sg cx.S0 cx.w0.heap.size γ) g (ItC w (Sg cx.S0 cx.w0.heap.size γ) ps[j] (ps.eraseIdx j)):=by
  rcases hi with⟨bm,since,seen,c0,es,clock,I,W,U,Q,H,O,N,M,L⟩|⟨b,c,s,I,J,seen0,e,hs,_⟩
  ·obtain⟨j,t,J⟩:=L.split H;exact⟨j,t,aE ⟨bm,since,seen,c0,es,clock,I,W,U,Q,H,O,N,M,J⟩⟩
  ·simp at hs
 obtain⟨j,t,z⟩:=n;refine(k j t).out cx hE Z a w ⟨γ,h.step (dst:=none) (v:=undef) (λx X=>by cases X) (aB _) (λb G _=>⟨rfl,G⟩) (λid d D=>aE D) (λid _=>⟨rfl,λ_ _ _ _=>rfl⟩) (λid e A=>?_) h.inj h.ge h.below (.any _) (λb G _=>⟨rfl,G⟩) (λ_=>aB _)⟩;have u:id=r:=by have:=Dd A;simpa using this
 subst u;simp only[lkE,aY,aC]at A;subst A;exact⟨_,D,g,rfl,z⟩⟩
theorem LeX.itc {p:AV×AV}(r:Nat)(O:σ.find r=some (.itc p ps)):LeX E nt σ (σ.upd none .any [(r,.it ps)]):=λcx Z Y a w ⟨γ,h⟩=>by
 have n:=h.me r;rw[O]at n;obtain⟨d,z,g,u,hi⟩:=n;subst u;refine⟨γ,h.step (dst:=none) (v:=undef) (λx N=>by cases N) (aB _) (λb A _=>⟨rfl,A⟩) (λid d z=>aE z) (λid _=>⟨rfl,λ_ _ _ _=>rfl⟩) (λid e q=>?_) h.inj h.ge h.below (.any _) (λb A _=>⟨rfl,A⟩) (λ_=>aB _)⟩;have t:id=r:=by have:=Dd q;simpa using this
 subst t;simp only[lkE,aY,aC]at q;subst q;refine⟨_,z,g,rfl,?_⟩;rcases hi with⟨bm,since,seen,X,es,clock,C,M,L,J,I,H,G,D,W,seen0,e,hs,q,U,Q⟩|⟨b,c,s,C,W,seen0,e,hs,_⟩
 ·exact aE ⟨bm,since,seen,X,es,clock,C,M,L,J,I,H,G,D,Q⟩
 ·simp at hs
end
def aI (n:Int):AV:=.int .i64 n
theorem Cl (n:Int)(h:-9223372036854775808<=n/\n<=9223372036854775807):IntKind.i64.wrap n=n:=IntWalk.i64_in _ h
theorem yda (h:vs.size=2):vs=#[vs.getD 0 undef,vs.getD 1 undef]:=by
 obtain⟨l⟩:=vs
 match l,h with
 |[a,b],_=>rfl
theorem ydb (h:vs.size=1):vs=#[vs.getD 0 undef]:=by
 obtain⟨l⟩:=vs
 match l,h with
 |[a],_=>rfl
section
variable {fr:Bool} {f:FuncId} {a b c res:AV}
theorem ydh {w w':World}(h:Below w.heap.size w w'):BelE E0 w w':=⟨h,λh=>Bool.noConfusion (show false=true from h)⟩
end
abbrev Ars (α:Type):=List (Option Nat)×List α
def mkA (α:Type)(n:Nat):Ars α:=(aP n none,[])
section
variable {α β κ ν:Type}
def enO (ek:κ->AV)(ev:ν->AV)(l:List (κ×ν)):NE:=.mp (l.map (encM ek ev))
def mkm (n:Int)(bytes:Nat)(k:Nat->Option β):Option β:=if 0<=n/\n.toNat<=1099511627776/\bytes*n.toNat<=281474976710656 then k n.toNat else none
theorem MakX.om {n:Int}{bytes:Nat}{K:List AV->Prop}{k:Nat->Option β}{r:β}(h:mkm n bytes k=some r)(e:∀m,k m=some r->K (aP m (.mapv []))):MakX n bytes (.mapv []) K:=by
 unfold mkm at h;split at h
 ·rename_i d;exact .mk n.toNat Ω d.2.1 d.2.2 _ (.refl _) (e _ h)
 ·cases h
def are (r:Nat)(x:Option β):Option β:=x
def frm (r:Nat)(x:Option β):Option β:=x
def aob (m:Ars α)(k:Nat)(c:Nat->Option β):Option β:=match m.1[k]? with|some (some j)=>c j|_=>none
def ast (m:Ars α)(k:Nat)(v:α)(c:Ars α->Option β):Option β:=if k<m.1.length then c (m.1.set k (some m.2.length),m.2++[v])else none
def sput (l:List (Int×ν))(k:Int)(v:ν):List (Int×ν):=match l with
 |[]=>[(k,v)]
 |(a,b)::r=>if k<a then(k,v)::(a,b)::r else if k=a then(k,v)::r else(a,b)::sput r k v
def aup (m:Ars (List (Int×ν)))(j:Nat)(k:Int)(v:ν)(c:Ars (List (Int×ν))->Option β):Option β:=match m.2[j]? with|some l=>(if(l.map (·.1)).Pairwise (· < ·)then c (m.1,m.2.set j (sput l k v))else none)|none=>none
def alk [DecidableEq κ](m:Ars (List (κ×ν)))(j:Nat)(k:κ)(z:ν)(c:ν->Bool->Option β):Option β:=match m.2[j]? with|some l=>c ((mlk l k).getD z) (mlk l k).isSome|none=>none
def aval (m:Ars (List α)):List (List α):=m.1.map λo=>match o with|some j=>(m.2[j]?).getD []|none=>[]
def nxt (l:List α)(a b:Option β):Option β:=match l with|[]=>a|_::_=>b
open Classical in
noncomputable def pck2 (l:List α)(c:α->List α->Option β):Option β:=if h:∃r,∀j (h:j<l.length),c l[j] (l.eraseIdx j)=some r then some h.choose else none
noncomputable def pck (l:List α)(c:α->List α->Option β):Option β:=match l with|[]=>none|[x]=>c x []|x::y::r=>pck2 (x::y::r) c
variable {c:α->List α->Option β}
theorem yb1 {l:List α}{r:β}(h:pck l c=some r):∀j (h:j<l.length),c l[j] (l.eraseIdx j)=some r:=by
 match l,h with
 |[],h=>cases h
 |[x],h=>intro j d;have n:j=0:=(by simpa using d);subst n;exact h
 |x::y::t,h =>
  simp only[pck,pck2]at h;split at h
  ·rename_i g;have e:=bQ h;subst e;exact g.choose_spec
  ·cases h
theorem zi7 {l:List α}{r:β}(e:l≠[])(h:∀j (h:j<l.length),c l[j] (l.eraseIdx j)=some r):pck l c=some r:=by
 match l,h with
 |[],_=>exact absurd rfl e
 |[x],h=>exact h 0 Δ
 |x::y::t,h =>
  simp only[pck,pck2];have d:∃r,∀j (h:j<(x::y::t).length),c (x::y::t)[j] ((x::y::t).eraseIdx j)=some r:=⟨r,h⟩;rw[dif_pos d];have:=d.choose_spec 0 Δ;rw[h 0 Δ]at this;exact this.symm
variable {l:List (Int×ν)}{k:Int}{v:ν}
theorem zxl:∀a,a∈(sput l k v).map (·.1) ↔ a=k\/a∈l.map (·.1):=by
 induction l with
 |nil=>intro a;simp[sput]
 |cons p r ih =>
  obtain⟨a,b⟩:=p;intro x;simp only[sput];split
  ·simp
  ·split
   ·rename_i h1 d;subst d;simp
   ·simp only[aL,mem_cons,ih];constructor
    ·rintro (h|h|h)
     ·exact aF (aE h)
     ·exact aE h
     ·exact aF (aF h)
    ·rintro (h|h|h)
     ·exact aF (aE h)
     ·exact aE h
     ·exact aF (aF h)
def Srt (l:List (Int×ν)):Prop:=(l.map (·.1)).Pairwise (· < ·)
theorem Srt.nodup (h:Srt l):(l.map (·.1)).Nodup:=Pairwise.imp (λh=>by omega) h
theorem Tw (h:Srt l):Srt (sput l k v):=by
 induction l with
 |nil=>simp[sput,Srt]
 |cons p r g =>
  obtain⟨a,b⟩:=p;simp only[Srt,aL,aO]at h;simp only[sput];split
  ·rename_i h1;simp only[Srt,aL,aO];refine⟨λx d=>?_,h⟩;rcases mem_cons.1 d with rfl|d
   ·exact h1
   ·have:=h.1 x d;omega
  ·split
   ·rename_i h1 e;subst e;simp only[Srt,aL,aO];exact h
   ·rename_i h1 e;simp only[Srt,aL,aO];refine⟨λx d=>?_,g h.2⟩;rcases(zxl x).1 d with rfl|d
    ·omega
    ·exact h.1 x d
theorem zit (h:Srt l):(sput l k v).Perm ((l.filter λp=>decide (p.1≠k))++[(k,v)]):=by
 induction l with
 |nil=>exact .refl _
 |cons p r g =>
  obtain⟨a,b⟩:=p;simp only[Srt,aL,aO]at h;have all:∀(t:List (Int×ν)),(∀x∈t.map (·.1),x≠k)->(t.filter λp=>decide (p.1≠k))=t:=λt n=>by
   rw[aS];intro p q;have:=n p.1 (bE.2 ⟨p,q,rfl⟩);simpa using this
  simp only[sput];split
  ·rename_i h1;rw[all ((a,b)::r) (λx d=>by
    rcases mem_cons.1 d with rfl|d
    ·omega
    ·have:=h.1 x d;omega)]
   exact(aJ (k,v) ((a,b)::r)).symm
  ·split
   ·rename_i h1 e;subst e;rw[aV,if_neg Δ,all r (λx d=>by have:=h.1 x d;omega)];exact(aJ (k,v) r).symm
   ·rename_i h1 e;rw[aV,if_pos Ψ];exact(g h.2).cons (a,b)
theorem zrj {n:Int}{K X:AV}:∀{ps:List (AV×AV)},(ps.map λp=>intN p.1).Nodup->(putK (ps.findIdx? (qK n)) K X ps).Perm ((ps.filter λp=>!qK n p)++[(K,X)])
 |[],_=>.refl _
 |p::r,h=>by
  simp only[aL,bU]at h;rw[findIdx?_cons,aV];cases t:qK n p with
  |true =>
   have u:(r.filter λp=>!qK n p)=r:=by
    rw[aS];intro x q;have:¬n=intN x.1:=λe=>h.1 (by
     have:intN p.1=intN x.1:=by rw[<-e];have g:=t;simp only[qK,decide_eq_true_eq]at g;exact g.symm
     rw[this];exact bE.2 ⟨x,q,rfl⟩)
    simp[qK,this]
   simp only[if_true,putK,set_cons_zero,bW,aG,if_false];rw[u];exact(aJ (K,X) r).symm
  |false =>
   have d:=zrj (n:=n) (K:=K) (X:=X) h.2;simp only[aG,if_false,bR,if_true];cases hi:findIdx? (qK n) r with
   |none=>rw[hi]at d;simpa[putK]using d.cons p
   |some j=>rw[hi]at d;simpa[putK]using d.cons p
theorem y1v {ev:ν->AV}(h:Srt l):PutQ (aI k) (ev v) (l.map (encM aI ev)) ((sput l k v).map (encM aI ev)):=λg t=>by
 have D:∀l:List (Int×ν),∀p∈l.map (encM aI ev),isI .i64 p.1=true:=λl p hm=>by
  obtain⟨q,_,rfl⟩:=bE.1 hm;simp[encM,aI,isI]
 have C:∀l:List (Int×ν),(l.map (encM aI ev)).map (λp=>intN p.1)=l.map (·.1):=λl=>by
  rw[map_map];exact map_congr_left (λp _=>by simp[encM,aI,intN])
 have d:g.Perm (l.map (encM aI ev)):=by
  rcases t with rfl|⟨t,_⟩
  ·exact .refl _
  ·exact t
 have z:∀p∈g,isI .i64 p.1=true:=λp hm=>D l p (d.mem_iff.1 hm)
 have u:(g.map λp=>intN p.1).Nodup:=by
  have:=d.map (λp=>intN p.1);rw[C]at this;exact this.nodup_iff.2 h.nodup
 refine⟨g.findIdx? (qK k),?_,aF ⟨?_,.i64,D _,by rw[C];exact(Tw h).nodup⟩⟩
 ·have:=zfw (n:=k) g 0 z;rw[show aI k=.int .i64 k from rfl,this];cases findIdx? (qK k) g<;>rfl
 ·refine(zrj u).trans ?_;have A:=(zit (v:=v) h (k:=k)).map (encM aI ev);rw[map_append]at A;refine Perm.trans ?_ A.symm;refine Perm.append ?_ (.refl _);have G:=d.filter (λp=>!qK k p);refine G.trans ?_;have:(l.map (encM aI ev)).filter (λp=>!qK k p)=(l.filter λp=>decide (p.1≠k)).map (encM aI ev):=by
   rw[filter_map];congr 1;apply filter_congr;intro p _;simp only[Function.comp,encM,aI,qK,intN];by_cases e:p.1=k
   ·simp[e]
   ·have:¬k=p.1:=λh=>e h.symm
    simp[e,this]
  rw[this]
end
section
variable {α β κ ν:Type} {E:Env} {nt:Nat} {o:Oper} {σ:AS} {K:OpK}
variable {r:β}{T:Nat}{x:Operand}{i:TyI}
theorem OpX.aob {m:Ars α}{eo:α->NE}{k:Nat}{c:Nat->Option β}(d:Proofs.YthbogefcfhmpgaaGreat.aob m k c=some r)(p:o.op=.load T x)(z:dokN E nt o.dst=true)(e:A6 x=true)(n:σ.eval x=.der (.nelt k) id)(C:lkT E.tab T=some i)(A:i.shape.agg=false)(q:σ.find id=some (.are ty m.1 (m.2.map eo)))
  (t:∀j,c j=some r->K (.der (.obj j) id) [id] []):OpX E nt o σ K:=by
 unfold Proofs.YthbogefcfhmpgaaGreat.aob at d;split at d
 ·rename_i j u;exact .mk _ _ _ (λcx h g=>y02 p (Aq z h g) e n (by rw[h];exact C) A q u) (t _ d)
 ·cases d
variable {m:Ars (List (κ×ν))}{y:Operand}
theorem OpX.ast {v:List (κ×ν)}{k:Nat}{c:Ars (List (κ×ν))->Option β}{q:Nat}(ek:κ->AV)(ev:ν->AV)(d:Proofs.YthbogefcfhmpgaaGreat.ast m k v c=some r)(H:o.op=.store T x y)(L:dokN E nt o.dst=true)(n:A6 x=true)(g:A6 y=true)(D:σ.eval x=.der (.nelt k) id)(C:σ.eval y=.row q)(M:lkT E.tab T=some i)(z:i.sz=1)
  (I:σ.find id=some (.are ty m.1 (m.2.map (enO ek ev)))) (G:σ.find q=some (.mp (v.map (encM ek ev)))) (t:aM id q=false) (J:∀e,c e=some r->K (.tup []) [id,q] [(id,.are ty e.1 (e.2.map (enO ek ev))),(q,.dead)]):OpX E nt o σ K:=by
 unfold Proofs.YthbogefcfhmpgaaGreat.ast at d;split at d
 ·rename_i u;have h:=J _ d;refine .mk _ _ _ (λcx A p=>zvf H (Aq L A p) n g D C (by rw[A];exact M) z I G u (nbne t)) ?_;simp only[bV];simp only[map_append,aL,map_nil]at h;exact h
 ·cases d
variable {kt et:Nat}
theorem OpX.aup {m:Ars (List (Int×ν))}{j:Nat}{key:Int}{v:ν}{c:Ars (List (Int×ν))->Option β}{z:Operand}(ev:ν->AV)(d:Proofs.YthbogefcfhmpgaaGreat.aup m j key v c=some r)(I:o.op=.mapUpdate T x y z\/o.op=.insert T x y z)(N:dokN E nt o.dst=true)(p:A6 x=true)(n:A6 y=true)(g:A6 z=true)(H:σ.eval x=.der (.obj j) id)(G:σ.eval y=aI key)(D:σ.eval z=ev v)
  (O:lkT E.tab T=some i) (hs:i.shape=.map kt et) (u:Br E.P kt (aI key)=true) (A:(ev v).closed=true) (J:σ.find id=some (.are ty m.1 (m.2.map (enO aI ev)))) (L:∀e,c e=some r->K (.tup []) [id] [(id,.are ty e.1 (e.2.map (enO aI ev)))]):OpX E nt o σ K:=by
 unfold Proofs.YthbogefcfhmpgaaGreat.aup at d;split at d
 ·rename_i l M;split at d
  ·rename_i q;have h:=L _ d;refine .mk _ _ _ (λcx C t=>zj4 (ps':=(sput l key v).map (encM aI ev)) I (Aq N C t) p n g H G D J (by rw[bJ,M];rfl) (by rw[C];exact O) hs (by rw[show cx.P=E.P by rw[<-C]];exact u) A (y1v q)) ?_;simp only[map_set]at h;exact h
  ·cases d
 ·cases d
theorem OpX.alk [DecidableEq κ](ek:κ->AV)(er:ν->AV){j:Nat}{k:κ}{z:ν}{ok:Bool}{c:ν->Bool->Option β}{ie:TyI}(d:Proofs.YthbogefcfhmpgaaGreat.alk m j k z c=some r)(heq:∀a b,eqK (ek a) (ek b)=some (decide (a=b)))(J:o.op=.lookup T x y ok)(U:dokN E nt o.dst=true)(p:A6 x=true)(n:A6 y=true)(I:σ.eval x=.der (.obj j) id)(H:σ.eval y=ek k)
  (L:σ.find id=some (.are ty m.1 (m.2.map (enO ek er)))) (X:lkT E.tab T=some i) (hs:i.shape=.map kt et) (Q:lkT E.tab et=some ie) (g:D8 ie.zero.cells.toList=true) (A:Br E.P kt (ek k)=true) (G:Sub (D7 ie.zero) (er z)) (M:∀v b,c v b=some r->K (Gv (er v) b ok) [id] []):OpX E nt o σ K:=by
 unfold Proofs.YthbogefcfhmpgaaGreat.alk at d;split at d
 ·rename_i l N;have h:=LkX.o (P:=E.P) (kt:=kt) (zA:=D7 ie.zero) (K:=λav b=>K (Gv av b ok) [id] []) ek er (show mgt l k z c=some r by unfold mgt;exact d) A heq G (λv b D=>M v b D);cases h with
  |mk q av b C O W t D =>
   subst W;exact .mk _ _ _ (λcx e u=>zrg (ok:=ok) J (Aq U e u) p n I H L (by rw[bJ,N];rfl) (by rw[e];exact X) hs (by rw[e];exact Q) (Y8 g) (by rw[show cx.P=E.P by rw[<-e]];exact C) O t) D
 ·cases d
variable {ps:List (AV×AV)}
theorem OpX.rng {d:Nat}(q:o.op=.range T x)(e:o.dst=some d)(z:dokN E nt o.dst=true)(g:A6 x=true)(p:σ.eval x=.mapv ps)(A:lkT E.tab T=some i)(hs:i.shape=.map kt et)(t:σ.find d=none)(u:K (.ptr d 0) [d] [(d,.it ps)]):OpX E nt o σ K :=
 .mk _ _ _ (λcx n h=>y8l q e (Aq z n h) g p (by rw[n];exact A) hs t) u
theorem OpX.nxt {l:List α}{a b:Option β}(en:α->AV×AV)(g:Proofs.YthbogefcfhmpgaaGreat.nxt l a b=some r)(p:o.op=.next x false)(t:dokN E nt o.dst=true)(e:A6 x=true)(n:σ.eval x=.ptr id 0)(q:σ.find id=some (.it (l.map en)))(z:a=some r->K (.tup [.bool false]) [id] [])(u:b=some r->K (.tup [.bool true,.any,.any]) [id] [(id,.itp (l.map en))]):OpX E nt o σ K:=by
 unfold Proofs.YthbogefcfhmpgaaGreat.nxt at g;split at g
 ·exact .mk _ _ _ (λcx h d=>zzz p (Aq t h d) e n q) (z g)
 ·exact .mk _ _ _ (λcx h d=>yau p (Aq t h d) e n q Δ) (u g)
theorem OpX.ent {p:AV×AV}(h:o.op=.entry x)(t:dokN E nt o.dst=true)(d:A6 x=true)(g:σ.eval x=.ptr id 0)(n:σ.find id=some (.itc p ps))(q:K (.tup [p.1,p.2]) [id] []):OpX E nt o σ K :=
 .mk _ _ _ (λcx u e=>y8m h (Aq t u e) d g n) q
end
section
variable {α β κ ν:Type} {E:Env} {nt:Nat} {R:Exit->AS->Prop} {K:List Bu}
variable {c:Code}{σ:AS}
theorem AW.areO {m:Nat}{x:Option β}{y:β}(ek:κ->AV)(ev:ν->AV)(h:Proofs.YthbogefcfhmpgaaGreat.are id x=some y)(r:Nat)(d:σ.find r=some (.row ty 1 (aP m (.mapv []))))(k:x=some y->AW E nt R (.code c::K) .normal (σ.rpAll r Dw (.cont m r) (.are ty (mkA (List (κ×ν)) m).1 ((mkA (List (κ×ν)) m).2.map (enO ek ev))))):AW E nt R (.code c::K) .normal σ:=bD (LeX.are r d) (k h)
theorem zsv {α β:Type}(f:α->β):∀(l:List α) (j:Nat),(l.map f).eraseIdx j=(l.eraseIdx j).map f
 |[],j=>by simp
 |x::r,0=>by simp
 |x::r,j+1=>by simp[zsv f r j]
theorem AW.pckO {l:List α}{f:α->List α->Option β}{y:β}(en:α->AV×AV)(h:pck l f=some y)(r:Nat)(e:σ.find r=some (.itp (l.map en)))(k:∀x s,f x s=some y->AW E nt R (.code c::K) .normal (σ.upd none .any [(r,.itc (en x) (s.map en))])):AW E nt R (.code c::K) .normal σ :=
 AW.itp r e (λj g=>by
  have d:j<l.length:=by simpa using g
  have:=k _ _ (yb1 h j d);rw[<-zsv]at this;simpa using this)
variable {m:Ars (List (κ×ν))}
theorem LeX.frc (r:Nat)(ek:κ->AV)(ev:ν->AV)(hr:σ.find r=some (.are ty m.1 (m.2.map (enO ek ev)))):LeX E nt σ (σ.rpAll r F0 (.sl 1 ((aval m).map λq=>.mapv (q.map (encM ek ev)))) .dead):=by
 refine LeX.rpAll r F0 _ _ _ hr (λty cs h=>by cases h) (λcx γ a w d ad hd he=>?_);obtain⟨s,vs,us,A,W,U,u,D,aa,Y,ae⟩:=he;have A:d=arnV s vs:=A;subst A;rw[bV]at U;refine⟨none,(λb p=>by cases p),λS' hS H=>⟨rfl,λγ' x v ac C hx Q=>?_⟩⟩;have N:∃n,x=.cont n r:=by
  cases x with
  |cont n i=>simp only[bM,aC]at hx;exact⟨n,by rw[hx]⟩
  |_=>simp[F0]at C
 obtain⟨n,rfl⟩:=N;have O:v=s:=by
  cases Q with
  |cont h Q hl =>
   rw[hd]at h;injection h with h
   have:=Q none (.agg (#[s]++vs)) h.symm;rw[this];simp only[bO,con0]
 subst O;have ab:∀k (G:k<(aval m).length),Rep w S' G0 (.mapv ((aval m)[k].map (encM ek ev))) (us.getD k undef):=λk G=>by
  have z:k<m.1.length:=by simpa[aval]using G
  obtain⟨q1,q2⟩:=aa k z;simp only[aval,bB];cases hc:m.1[k]with
  |none=>exact(q1 hc).mono (aB _) (λb p _=>⟨rfl,hS b p⟩)
  |some j =>
   obtain⟨q3,q4⟩:=q2 j hc;have J:j<m.2.length:=by simpa using q3
   rw[q4];simp only[getElem?_eq_getElem J,Option.getD_some];have h2:=(Y j q3).2;simp only[bB,enO]at h2;obtain⟨g,M,I,⟨es,clock,e2,e3,e4,e5⟩,e6⟩:=h2;rw[I];have hg:S' g:=H g (mem_arnV.2 (aF ⟨j,by rw[I];rfl⟩)) (λp=>by cases p);exact .mapv M e6 g es clock e4 hg (aR.1 e2).1 e2 e3 (λj q L=>(e5 j q L).1.mono (aB _) (λb p hl=>⟨rfl,hS b p⟩)) (λj q L=>(e5 j q L).2.mono (aB _) (λb p hl=>⟨rfl,hS b p⟩))
 obtain⟨s0,t,X⟩:=Fv (w:=w) (S:=S') (γ:=γ) (S':=S') (B:=cx.w0.heap.size) (ty:=ty) (sz:=1) (xs:=(aval m).map λq=>.mapv (q.map (encM ek ev))) (d:=some (v.ownBlock,v)) ⟨v,us,rfl,W,by rw[bV];simpa[aval]using u,λk G=>by rw[bB];rfl,λk G j hj=>by
   have z:k<(aval m).length:=by simpa using G
   have Z:j=0:=by
    have:j<1:=by simpa[bH]using hj
    omega
   subst Z;simp only[bB,bH,aU,Nat.mul_one,bX];exact ab k z,D⟩ (λb p _=>p) (λs g' e=>by
   injection e with e
   injection e with I e2
   rw[(I9 u).1]at I;exact H g' (mem_arnV.2 (aE I)) (λp=>by cases p)) γ'
 injection t with t
 injection t with _ t
 rw[t];exact X
theorem AW.frcO {x:Option β}{y:β}(ek:κ->AV)(ev:ν->AV)(h:frm id x=some y)(r:Nat)(d:σ.find r=some (.are ty m.1 (m.2.map (enO ek ev))))(k:x=some y->AW E nt R (.code c::K) .normal (σ.rpAll r F0 (.sl 1 ((aval m).map λq=>.mapv (q.map (encM ek ev)))) .dead)):AW E nt R (.code c::K) .normal σ:=bD (LeX.frc r ek ev d) (k h)
end
variable {ν:Type}
def Cw (l:List (Int×ν)):List (Int×ν):=l.foldr (λp m=>sput m p.1 p.2) []
theorem zfi (l:List (Int×ν)):Srt (Cw l):=by
 induction l with
 |nil=>simp[Cw,Srt]
 |cons p r ih=>exact Tw ih
theorem Y6:∀{l:List (Int×ν)},(l.map (·.1)).Nodup->(Cw l).Perm l
 |[],_=>.refl _
 |p::r,h=>by
  simp only[aL,bU]at h;have d:=Y6 h.2;have e:Cw (p::r)=sput (Cw r) p.1 p.2:=rfl;rw[e];refine(zit (zfi r)).trans ?_;have n:(Cw r).filter (λq=>decide (q.1≠p.1))=Cw r:=by
   rw[aS];intro q g;have:q.1≠p.1:=λe=>h.1 (e▸bE.2 ⟨q,d.mem_iff.1 g,rfl⟩)
   simpa using this
  rw[n];exact(aJ p (Cw r)).trans (d.cons p)
def frs (_:Nat)(l:List (Int×ν))(x:Option β):Option β:=if(l.map (·.1)).Nodup then x else none
section
variable {β ν:Type} {E:Env} {nt:Nat} {R:Exit->AS->Prop} {K:List Bu}
theorem LeX.frs {σ:AS}{ps ps':List (AV×AV)}(r:Nat)(M:σ.find r=some (.mp ps))(N:F8 ps ps'):LeX E nt σ (σ.rpAll r Dw (.mapv ps') .dead):=by
 refine LeX.rpAll r Dw _ _ _ M (λty cs h=>by cases h) (λcx γ a w d L W U=>?_);obtain⟨g,z,es,clock,h1,X,A,I⟩:=U;subst z;refine⟨none,(λb e=>by cases e),λS' H C=>⟨rfl,λγ' x v D n G J=>?_⟩⟩;have t:x=.row r:=by
  cases x with
  |row i=>simp only[bM,aC]at G;rw[G]
  |_=>simp[Dw]at n
 subst t;have u:v=.map (some g):=J.row_inv W;subst u;have Q:S' g:=C g C3 (λe=>by cases e);exact .mapv ps N g es clock A Q (aR.1 h1).1 h1 X (λj q p=>(I j q p).1.mono (aB _) (λb e O=>⟨rfl,H b e⟩)) (λj q p=>(I j q p).2.mono (aB _) (λb e O=>⟨rfl,H b e⟩))
variable {l:List (Int×ν)}
theorem zwc {ev:ν->AV}(h:(l.map (·.1)).Nodup):F8 (l.map (encM aI ev)) ((Cw l).map (encM aI ev)):=by
 refine aF ⟨((Y6 h).map _).symm,.i64,λp d=>?_,?_⟩
 ·obtain⟨q,_,rfl⟩:=bE.1 d;simp[encM,aI,isI]
 ·have e:((Cw l).map (encM aI ev)).map (λp=>intN p.1)=(Cw l).map (·.1):=by
   rw[map_map];exact map_congr_left (λp _=>by simp[encM,aI,intN])
  rw[e];exact(zfi l).nodup
theorem AW.frsO {c:Code}{σ:AS}{x:Option β}{y:β}(ev:ν->AV)(h:Proofs.YthbogefcfhmpgaaGreat.frs id l x=some y)(r:Nat)(d:σ.find r=some (.mp (l.map (encM aI ev))))(k:x=some y->AW E nt R (.code c::K) .normal (σ.rpAll r Dw (.mapv ((Cw l).map (encM aI ev))) .dead)):AW E nt R (.code c::K) .normal σ:=by
 unfold Proofs.YthbogefcfhmpgaaGreat.frs at h;split at h
 ·rename_i e;exact bD (LeX.frs r d (zwc e)) (k h)
 ·cases h
end
section
variable {α β:Type}
def eltD (d:AV->Option α)(l:List AV)(m:Nat)(k:α->Option β):Option β:=match l[m]? with|some a=>(match d a with|some y=>k y|none=>none)|none=>none
theorem EltX.oD {enc:α->AV}{d:AV->Option α}{l:List AV}{m:Nat}{K:AV->Prop}{k:α->Option β}{r:β}(h:eltD d l m k=some r)(n:∀a y,d a=some y->a=enc y)(g:∀y,k y=some r->K (enc y)):EltX (l.map idA) m K:=by
 unfold eltD at h;split at h
 ·rename_i a p;split at h
  ·rename_i y e;refine .mk (enc y) ?_ (g y h);rw[U5,p,n a y e]
  ·cases h
 ·cases h
end
attribute [irreducible] mkm are frm aob ast aup alk nxt pck frs eltD
abbrev B16:=Bool×Bool×Bool×Bool×Bool×Bool×Bool×Bool×Bool×Bool×Bool×Bool×Bool×Bool×Bool×Bool
section
variable {α β V:Type}
inductive Us (l:List Nat):Prop|mk
variable {nt:Nat}{R:Exit->AS->Prop}{K:List Bu}{σ:AS}
theorem AW.stepW {ids:List Nat}(u:Us ids){e:Exit}(h:Ee E nt R (fAS σ λd=>go E nt ids 1000000 K e d)):AW E nt R K e σ:=AW.stepU ids h
class JI (two:Bool) (F:V->Option β) (S:outParam (V->AS)) (B:outParam (V->Option β)):Type where
 eq:∀v,F v=B v
variable {F B:V->Option β}{os:Array Oper}{r:β}
theorem AW.jI {S:V->AS}{i:Nat}{d:Bool}{C:Code}{x:Option β}(h:jon F x=some r)[j:JI false F S B]
  (n:∀v,B v=some r->AW E nt R (.code C::K) .normal (S v)) (h1:x=some r->AW E nt (Cv (λe=>∃v,F v=some r/\LeX E nt e (S v)) (AW E nt R (.code C::K))) [.code (.region i os d)] .normal σ):AW E nt R (.code (.region i os d)::.code C::K) .normal σ:=AW.joinO1 h h1 λv g=>n v ((j.eq v).symm.trans g)
theorem AW.jI2 {S:V->AS}{i:Nat}{d:Bool}{D C:Code}{x:Option β}(h:jon F x=some r)[j:JI true F S B]
  (n:∀v,B v=some r->AW E nt R (.code C::K) .normal (S v)) (h1:x=some r->AW E nt (Cv (λe=>∃v,F v=some r/\LeX E nt e (S v)) (AW E nt R (.code C::K))) [.code (.region i os d),.code D] .normal σ):AW E nt R (.code (.region i os d)::.code D::.code C::K) .normal σ:=AW.joinO2 h h1 λv g=>n v ((j.eq v).symm.trans g)
abbrev jf (F:V->Option β)(S:V->AS){B:V->Option β}(h:∀v,F v=B v):JI false F S B:=⟨h⟩
abbrev jt (F:V->Option β)(S:V->AS){B:V->Option β}(h:∀v,F v=B v):JI true F S B:=⟨h⟩
class LI (L:Nat->V->Option β) (S:outParam (V->AS)) (B:outParam (Nat->V->Option β)):Type where
 z:∀v,L 0 v=none
 s:∀m v,L (m+1) v=B m v
abbrev li (L:Nat->V->Option β)(S:V->AS){B:Nat->V->Option β}(s:∀m v,L (m+1) v=B m v)(z:∀v,L 0 v=none:=by exactλ_=>rfl)(z:∀v,L 0 v=none:=by exactλ_=>rfl):LI L S B:=⟨z,s⟩
variable {c:Code}
theorem Au.I {L:Nat->V->Option β}{S:V->AS}{B:Nat->V->Option β}{n:Nat}{e:V}(h:L n e=some r)[j:LI L S B](p:LeX E nt σ (S e))
  (round:∀m v,B m v=some r->AW E nt (Cv (λd=>∃v',L m v'=some r/\LeX E nt d (S v')) (AW E nt R K)) [.code c] .normal (S v)):Au E nt (λnext d=>AW E nt (Cv next (AW E nt R K)) [.code c] .normal d) σ :=
 LoopA.o h j.z p λm v g=>round m v ((j.s m v).symm.trans g)
class CI (E:Env) (o:Option α) (fr:outParam Bool) (f:outParam FuncId) (avs:outParam (List AV)) (res:outParam (α->AV)):Prop where
 h:∀{a},o=some a->Con E fr f avs (res a)
variable {f':FuncId}{avs':List AV}{o:Option α}{k:α->Option β}{fr:Bool}{enc:α->AV}{find:Nat->Option Ent}{KR:AV->List Nat->List (Nat×Ent)->Prop}
theorem Ab.I {K:AV->Prop}{R:Nat->Nat->List AV->AV->Prop}(h:bnd o k=some r)[i:CI E o fr f' avs' enc](g:∀a,k a=some r->K (enc a))(e:f'=f:=by rfl)(d:avs'=avs:=by rfl)(e:f'=f:=by rfl)(d:avs'=avs:=by rfl)(e:f'=f:=by rfl)(d:avs'=avs:=by rfl):Ab E f avs K R find KR:=by
 subst e d;exact Ab.o h enc (λ_=>i.h) g
theorem B5.I {K:AV->Prop}{raw:List AV}{dst:Option Nat}(h:bnd o k=some r)[i:CI E o fr f' avs' enc](d:∀a,k a=some r->K (enc a))(n:f'=f:=by rfl)(g:avs'=avs:=by rfl)(e:∀a,fr=true\/(enc a).flat=true:=by exactλ_=>Or.inl rfl):B5 E f avs K raw find dst KR:=by
 subst n g;exact B5.o h enc (λ_=>i.h) e d
theorem Ab.S {K:AV->Prop}{R:Nat->Nat->List AV->AV->Prop}(h:bnd o k=some r)[i:CI E o fr f' avs' enc](d:∀a,k a=some r->K (enc a))(n:f'=f:=by rfl)(g:SubL avs avs':=by repeat' first|exact Sub.nil _|exact Sub.refl _|refine Sub.agg ?_|refine Sub.tup ?_|refine Sub.fn ?_|exact SubL.nil|refine SubL.cons ?_ ?_|refine Sub.sl _ ?_|exact SubE.nil|refine SubE.cons ?_ ?_):Ab E f avs K R find KR:=by
 subst n;exact Ab.o h enc (λ_ e=>Con.sub g (i.h e)) d
theorem LeX.pa {τ:AS}{v:AV}(t:Nat)(d:LeX E nt (σ.putS t v) τ)(hs:Sub (σ.get t) v:=by repeat' first|exact Sub.nil _|exact Sub.refl _|refine Sub.agg ?_|refine Sub.tup ?_|refine Sub.fn ?_|exact SubL.nil|refine SubL.cons ?_ ?_|refine Sub.sl _ ?_|exact SubE.nil|refine SubE.cons ?_ ?_):LeX E nt σ τ:=LeX.trans (LeX.put t v hs) d
theorem AndA {p q k:Prop}(g:k)(e:p:=by kernel_rfl)(d:q:=by kernel_rfl):(p/\q)/\k:=⟨⟨e,d⟩,g⟩
theorem AppX.oA {l m:List α}{ys:List AV}{bytes:Nat}{K:List AV->Prop}{k:List α->Option β}(h:app l m bytes k=some r)(d:∀l',k l'=some r->K (l'.map enc))(hs:SubR ys (m.map enc):=by first|exact SubR.refl _|(repeat' first|exact SubR.nil|refine SubR.cons ?_ ?_|exact SubL.nil|refine SubL.cons ?_ ?_|exact Sub.refl _|exact Sub.nil _)):AppX ((l.map enc).length+ys.length) bytes (l.map enc++ys) K:=AppX.o enc h hs d
theorem AppX.oA0 {m:List α}{ys:List AV}{bytes:Nat}{K:List AV->Prop}{k:List α->Option β}(h:app [] m bytes k=some r)(d:∀l',k l'=some r->K (l'.map enc))(hs:SubR ys (m.map enc):=by first|exact SubR.refl _|(repeat' first|exact SubR.nil|refine SubR.cons ?_ ?_|exact SubL.nil|refine SubL.cons ?_ ?_|exact Sub.refl _|exact Sub.nil _)):AppX ys.length bytes ys K:=AppX.o0 enc h hs d
theorem EqX.A {p K:Prop}(k:K)(h:p:=by first|rfl|kernel_rfl):EqX p K:=.mk h k
theorem IdxX.A {l:List α}{n:Int}{K:AV->Prop}(h:idx l n k=some r)(d:∀x,k x=some r->K (enc x)):IdxX (l.map enc) n K:=IdxX.o enc h d
variable {fn:Func}{args:List AV}
theorem cw {res : AV}(g : E0.P.funcs[f]? = some fn)(h : AW E0 fn.ntmps (EndA E0 fn res) [.code c] .normal (E9 args))(n : fn.body = some c := by rfl)(e : Nat.ble args.length fn.ntmps = true := by rfl)(h1 : (fn.name == "runtime.NumGoroutine") = false := by rfl)(p : fn.body.isNone = false := by rfl)(d : fr = false ∨ res.flat = true := by first | exact Or.inr rfl | exact Or.inl rfl)(n : fn.body = some c := by rfl)(e : Nat.ble args.length fn.ntmps = true := by rfl)(h1 : (fn.name == "runtime.NumGoroutine") = false := by rfl)(p : fn.body.isNone = false := by rfl)(d : fr = false ∨ res.flat = true := by first | exact Or.inr rfl | exact Or.inl rfl) : Con E0 fr f args res :=
 Con.walk c g n (Ax g h1 p) e d h
theorem GX.A {x r:α}{me:List (Nat×Ent)}{res:α->AV}{meF:α->List (Nat×Ent)}(h:some x=some r)(τ:α->AS)(h1:LeX E nt σ (τ x):=by exact LeX.a [])(p:(τ x).me=meF x:=by rfl)(n:retA E.tab (τ x) fn.results.toList=some avs:=by rfl)
  (g:Sub (Kl avs) (res x):=by repeat' first|exact Sub.nil _|exact Sub.refl _|refine Sub.agg ?_|refine Sub.tup ?_|refine Sub.fn ?_|exact SubL.nil|refine SubL.cons ?_ ?_|refine Sub.sl _ ?_|exact SubE.nil|refine SubE.cons ?_ ?_) (e:YK E.np args (τ x) (meF x) []:=by trivial) (d:boxB E.np args (τ x) me (meF x) []=true:=by rfl):GX E nt fn args me σ (res r) (meF r):=GX.o h (GX.mk (τ x) h1 p avs n g [] e d)
theorem RetX.oB {v w:AV}{a:β}(h:some a=some r)(hs:a=r->Sub v w:=by
  intro d;subst d
  (repeat' first|exact Sub.nil _|exact Sub.refl _|refine Sub.agg ?_|refine Sub.tup ?_|refine Sub.fn ?_|exact SubL.nil|refine SubL.cons ?_ ?_|refine Sub.sl _ ?_|exact SubE.nil|refine SubE.cons ?_ ?_)<;>fail):RetX v w:=.sub (hs (bQ h))
theorem CI.w {res : α → AV}(ids : List Nat)(g : E0.P.funcs[f]? = some fn)(p : fn.body = some c := by rfl)(n : Nat.ble args.length fn.ntmps = true := by rfl)(h1 : (fn.name == "runtime.NumGoroutine") = false := by rfl)(t : fn.body.isNone = false := by rfl)
  (e:∀ r,fr=false\/(res r).flat=true:=by first|exact fun _=>Or.inr rfl|exact fun _=>Or.inl rfl)
  (h:∀ (_:Us ids) r,o=some r->AW E0 fn.ntmps (EndA E0 fn (res r)) [.code c] .normal (E9 args):=by
    intro u r d;repeat' first
     |refine AW.jI d (fun v d=>?_) fun d=>?_
     |refine AW.jI2 d (fun v d=>?_) fun d=>?_
     |refine AW.regO d fun d=>?_
     |refine AW.stepW u ?_;conv=>whnf
     |refine A3.o d (fun d=>?_) fun d=>?_
     |refine A3.t ?_
     |refine A3.f ?_
     |exact ⟨_,d,LeX.a []⟩
     |refine Au.I d (LeX.a []) fun m v d=>?_
     |refine IdxX.A d fun x d=>?_
     |refine Ab.I d fun a d=>?_
     |exact RetX.oB d
     |refine And.intro ⟨by kernel_rfl,by kernel_rfl⟩ ?_
     |refine EqX.A ?_
     |refine AppX.oA d fun l d=>?_
     |refine AppX.oA0 d fun l d=>?_):CI E0 o fr f args res :=
 ⟨fun q=>Con.walk c g p (Ax g h1 t) n (e _) (h .mk _ q)⟩
instance CI_E0p {np:Nat}{o:Option α}{fr:Bool}{f:FuncId}{avs:List AV}{res:α->AV}[i:CI E0 o fr f avs res]:CI (E0p np) o fr f avs res:=⟨λh=>Con.env rfl rfl (i.h h)⟩
instance CI_E0b {o:Option α}{fr:Bool}{f:FuncId}{avs:List AV}{res:α->AV}[i:CI E0 o fr f avs res]:CI E0b o fr f avs res:=⟨λh=>Con.env rfl rfl (i.h h)⟩
instance CI_E0y {l np:Nat}{R:Obj}{o:Option α}{fr:Bool}{f:FuncId}{avs:List AV}{res:α->AV}[i:CI E0 o fr f avs res]:CI (E0y l R np) o fr f avs res:=⟨λh=>Con.env rfl rfl (i.h h)⟩
end
section
variable {α β:Type}
theorem Aj (x y:Option β):cnd true x y=x:=by unfold cnd;rfl
theorem Al (x y:Option β):cnd false x y=y:=by unfold cnd;rfl
theorem A4 (p:Prop)[Decidable p](x y:Option β):cnd (decide p) x y=if p then x else y:=by
 by_cases h:p<;>simp[h,Aj,Al]
theorem Ar (b:Bool)(x y:Option β):cnd (!b) x y=cnd b y x:=by cases b<;>simp[Aj,Al]
theorem Az (b:Bool)(x y:Option β):cnd b x y=if b=true then x else y:=by cases b<;>simp[Aj,Al]
theorem A0 (a:α)(k:α->Option β):bnd (some a) k=k a:=by unfold bnd;rfl
theorem Ye (a:α)(k:α->Option β):bndR (some a) k=k a:=by unfold bndR;rfl
theorem zkw (a:α)(k:α->Option β):bndC (some a) k=k a:=by unfold bndC;rfl
theorem Ak (x:Option β):reg x=x:=by unfold reg;rfl
theorem Yt (i:Nat)(x:Option β):frz i x=x:=by unfold frz;rfl
variable {l:List α}
theorem Ae {i:Nat}(h:i<l.length)(k:α->Option β):idx l (i:Int) k=k l[i]:=by
 unfold idx;simp[h]
theorem Ov {n:Int}(d:0<=n)(h:n.toNat<l.length)(k:α->Option β):idx l n k=k l[n.toNat]:=by
 unfold idx;simp[h,d]
theorem zou {x:α}(k:α->Option β):idx (x::l) 0 k=k x:=by unfold idx;simp
variable {len:Nat}
theorem Cs {i:Nat}(h:i<len)(k:Nat->Option β):nat (i:Int) len k=k i:=by
 unfold nat;simp[h]
theorem Ft {n:Int}(d:0<=n)(h:n.toNat<len)(k:Nat->Option β):nat n len k=k n.toNat:=by
 unfold nat;simp[h,d]
theorem Ys {m:Nat}(h:m<len)(x:Option β):ltx m len x=x:=by unfold ltx;simp[h]
theorem Cu {m:Nat}(h:m<l.length)(k:α->Option β):elt l m k=k l[m]:=by unfold elt;simp[h]
theorem E7 {m:Nat}(h:m<l.length)(f:α->α)(k:List α->Option β):stx l m f k=k (l.set m (f l[m])):=by unfold stx;simp[h]
theorem Bo {m:List α}{bytes:Nat}(h:l.length+m.length<=1000000000)(d:bytes<=100000)(k:List α->Option β):app l m bytes k=k (l++m):=by
 unfold app;have e:=bS h d;rw[if_pos ⟨Ω,Ω⟩]
theorem Yr {n:Nat}{bytes:Nat}(h:n<=1000000000)(d:bytes<=100000)(z:α)(k:List α->Option β):mak (n:Int) bytes z k=k (aP n z):=by
 unfold mak;have e:=bS d h;rw[if_pos ⟨Ω,by simp only[aT];omega,by simp only[aT];omega⟩];simp only[aT]
theorem Fu {a b:Nat}(h1:a<=b)(d:b<=l.length)(k:List α->Option β):sls l (a:Int) (b:Int) k=k ((l.take b).drop a):=by
 unfold sls;rw[if_pos Ω];simp
theorem yar {b:Int}(h:0<=b)(x:Option β):shx b x=x:=by unfold shx;simp[h]
theorem Af (k:Nat)(h:k<=1000000000000):aA .i64 ((k:Int)+1)=((k+1:Nat):Int):=by rw[Cl _ Ω];omega
end
structure A9 where
 fKind:Int
 fNum:Int
 fText:ByteArray
deriving DecidableEq,Inhabited
def Ag (x:A9):AV:=.agg [aI (x.fKind),aI (x.fNum),.str (x.fText)]
abbrev Ci (x:A9):List AV:=[aI (x.fKind),aI (x.fNum),.str (x.fText)]
structure B4 where
 fOp:Int
 fArgs:(List AV)
 fVar:Int
 fField:Int
 fKind:Int
 fValue:A9
deriving Inhabited
def Aw (x:B4):AV:=.agg [aI (x.fOp),.sl 8 (x.fArgs.map idA),aI (x.fVar),aI (x.fField),aI (x.fKind),aI (x.fValue.fKind),aI (x.fValue.fNum),.str (x.fValue.fText)]
abbrev D4 (x:B4):List AV:=[aI (x.fOp),.sl 8 (x.fArgs.map idA),aI (x.fVar),aI (x.fField),aI (x.fKind),aI (x.fValue.fKind),aI (x.fValue.fNum),.str (x.fValue.fText)]
def C7:AV->Option B4 |.agg [.int .i64 t,.sl 8 q,.int .i64 p,.int .i64 n,.int .i64 h,.int .i64 g,.int .i64 e,.str d]=>some ⟨t,q,p,n,h,⟨g,e,d⟩⟩ |_=>none
theorem D2 (a:AV)(y:B4)(h:C7 a=some y):a=Aw y:=by
 unfold C7 at h;split at h
 ·injection h with h;subst h;simp[Aw,aI,U5]
 ·cases h
theorem Tc (y:B4):C7 (Aw y)=some y:=by simp[C7,Aw,aI,U5]
def Lm (n:Nat)(b:B4->Int->Option (Int))(p:Int)(q:B4)(c:Int×Int)(d:Int->Option (Int))(e:(Int×Int)->Option (Int))(f:Bool):Option (Int):=cnd (f) (idxD C7 q.fArgs c.2 λg=>bnd (b g p) λh=>e ((aA .i64 (c.1+h)),(aA .i64 (c.2+1))))<|d c.1
def J3 (n:Nat)(b:B4->Int->Option (Int))(g:Int)(h:B4)(c:Int->Option (Int)):Nat->Int×Int->Option (Int) |0,_=>none |e+1,d=>jon (Lm n b g h d c (J3 n b g h c e))<|reg<|cnd (decide (d.2<((h.fArgs.map idA).length:Int))) (Lm n b g h d c (J3 n b g h c e) (decide (d.1<=g)))<|Lm n b g h d c (J3 n b g h c e) false
def Ge:Nat->B4->Int->Option (Int) |0,_,_=>none |n+1,e,d=>J3 n (Ge n) d e (λb=>some b) n (1,0)
def Qi (n:Nat)(b:B4->Option (Int))(h:B4)(d:Int->Option (Int)):Nat->Int×Int->Option (Int) |0,_=>none |e+1,c=>cnd (decide (c.2<((h.fArgs.map idA).length:Int))) (idxD C7 h.fArgs c.2 λf=>bnd (b f) λg=>(Qi n b h d e) ((max c.1 g),(aA .i64 (c.2+1))))<|d c.1
def Gc:Nat->B4->Option (Int) |0,_=>none |n+1,d=>Qi n (Gc n) d (λb=>some (aA .i64 (b+1))) n (0,0)
def Ep (n:Nat)(b:Bool):Option (Int):=cnd (b) (some 2)<|some (-1)
def G8 (n:Nat)(d:Int)(b:Bool):Option (Int):=cnd (b) (some 0)<|cnd (decide (d=12)) (some 1)<|jon (Ep n)<|reg<|cnd (decide (d=5)) (Ep n (decide (d=5)))<|reg<|cnd (decide (d=6)) (Ep n (decide (d=6)))<|reg<|cnd (decide (d=7)) (Ep n (decide (d=7)))<|reg<|cnd (decide (d=8)) (Ep n (decide (d=8)))<|reg<|cnd (decide (d=9)) (Ep n (decide (d=9)))<|reg<|cnd (decide (d=10)) (Ep n (decide (d=10)))<|Ep n (decide (d=11))
def Vy (n:Nat)(d:Int):Option (Int):=jon (G8 n d)<|reg<|cnd (decide (d=0)) (G8 n d (decide (d=0)))<|reg<|cnd (decide (d=1)) (G8 n d (decide (d=1)))<|reg<|cnd (decide (d=2)) (G8 n d (decide (d=2)))<|reg<|cnd (decide (d=3)) (G8 n d (decide (d=3)))<|G8 n d (decide (d=4))
def J6 (n:Nat)(b:Bool)(c:Bool):Option (Bool×Bool):=some (c,b)
def Ly (n:Nat)(d:Int)(b:Bool):Option (Bool×Bool):=jon (J6 n b)<|reg<|cnd (b) (J6 n b true)<|cnd (decide (d=2)) (J6 n b true)<|J6 n b (decide (d=3))
def W8 (n:Nat)(d:Int):Option (Bool×Bool):=jon (Ly n d)<|reg<|cnd (decide (d=1)) (Ly n d true)<|Ly n d (decide (d=4))
def Hh (n:Nat)(d:A9):Option (Int):=cnd (decide (d.fKind<0)) (some 1)<|cnd (decide (2<d.fKind)) (some 1)<|cnd (decide (d.fKind=2)) (cnd (!decide (d.fNum=0)) (some 3)<|cnd (decide (64<((d.fText.size:Nat):Int))) (some 13)<|some 0)<|cnd (!(d.fText.toList == ByteArray.empty.toList)) (some 3)<|cnd (decide (d.fKind=1)) (cnd (decide (d.fNum<0)) (some 2)<|cnd (decide (1<d.fNum)) (some 2)<|cnd (decide (d.fNum<(-1099511627776))) (some 2)<|cnd (decide (1099511627776<d.fNum)) (some 2)<|some 0)<|cnd (decide (d.fNum<(-1099511627776))) (some 2)<|cnd (decide (1099511627776<d.fNum)) (some 2)<|some 0
def H4 (n:Nat)(b:Bool):Option (Bool):=some b
def Mw (n:Nat)(d:Int)(e:A9):Option (Bool):=jon (H4 n)<|reg<|cnd (decide (e.fKind=0)) (H4 n true)<|cnd (decide (d=0)) (H4 n true)<|cnd (decide (d=4)) (H4 n true)<|H4 n (decide (d=5))
def Cb (n:Nat)(b:Bool):Option (Int):=cnd (b) (some 3)<|some 0
def H9 (n:Nat)(d:B4)(e:Bool×Bool)(b:Bool)(c:Bool):Option (Int):=cnd (c) (some 9)<|jon (Cb n)<|reg<|cnd (!(e.1)) (cnd (!decide (d.fVar=0)) (Cb n true)<|cnd (!(e.2)) (cnd (!decide (d.fField=0)) (Cb n true)<|cnd (!(decide (d.fOp=4))) (cnd (!decide (d.fKind=0)) (Cb n true)<|cnd (!(b)) (Cb n (!(decide (d.fValue.fKind=0) && (decide (d.fValue.fNum=0) && ((d.fValue.fText.toList == ByteArray.empty.toList) && true)))))<|Cb n false)<|cnd (!(b)) (Cb n (!(decide (d.fValue.fKind=0) && (decide (d.fValue.fNum=0) && ((d.fValue.fText.toList == ByteArray.empty.toList) && true)))))<|Cb n false)<|cnd (!(decide (d.fOp=4))) (cnd (!decide (d.fKind=0)) (Cb n true)<|cnd (!(b)) (Cb n (!(decide (d.fValue.fKind=0) && (decide (d.fValue.fNum=0) && ((d.fValue.fText.toList == ByteArray.empty.toList) && true)))))<|Cb n false)<|cnd (!(b)) (Cb n (!(decide (d.fValue.fKind=0) && (decide (d.fValue.fNum=0) && ((d.fValue.fText.toList == ByteArray.empty.toList) && true)))))<|Cb n false)<|cnd (!(e.2)) (cnd (!decide (d.fField=0)) (Cb n true)<|cnd (!(decide (d.fOp=4))) (cnd (!decide (d.fKind=0)) (Cb n true)<|cnd (!(b)) (Cb n (!(decide (d.fValue.fKind=0) && (decide (d.fValue.fNum=0) && ((d.fValue.fText.toList == ByteArray.empty.toList) && true)))))<|Cb n false)<|cnd (!(b)) (Cb n (!(decide (d.fValue.fKind=0) && (decide (d.fValue.fNum=0) && ((d.fValue.fText.toList == ByteArray.empty.toList) && true)))))<|Cb n false)<|cnd (!(decide (d.fOp=4))) (cnd (!decide (d.fKind=0)) (Cb n true)<|cnd (!(b)) (Cb n (!(decide (d.fValue.fKind=0) && (decide (d.fValue.fNum=0) && ((d.fValue.fText.toList == ByteArray.empty.toList) && true)))))<|Cb n false)<|cnd (!(b)) (Cb n (!(decide (d.fValue.fKind=0) && (decide (d.fValue.fNum=0) && ((d.fValue.fText.toList == ByteArray.empty.toList) && true)))))<|Cb n false
def Lz (n:Nat)(d:B4)(e:Bool×Bool)(b:Bool)(_:Unit):Option (Int):=jon (H9 n d e b)<|reg<|cnd (decide (d.fOp=4)) (bnd (Mw n d.fKind d.fValue) λc=>cnd (!(c)) (H9 n d e b true)<|cnd (decide (d.fKind=1)) (H9 n d e b (!(decide (d.fValue.fKind=0) && (decide (d.fValue.fNum=0) && ((d.fValue.fText.toList == ByteArray.empty.toList) && true)))))<|H9 n d e b false)<|H9 n d e b false
def M0 (n:Nat)(d:B4)(e:Bool×Bool)(b:Bool):Option (Int):=jon (Lz n d e b)<|reg<|cnd (b) (bnd (Hh n d.fValue) λc=>cnd (!decide (c=0)) (some c)<|Lz n d e b ())<|Lz n d e b ()
def J7 (n:Nat)(d:B4)(e:Bool×Bool)(b:Bool):Option (Int):=cnd (b) (some 1)<|jon (M0 n d e)<|reg<|cnd (decide (d.fOp=4)) (M0 n d e true)<|M0 n d e (decide (d.fOp=0))
def Eg (n:Nat)(d:B4)(e:Bool×Bool)(b:Bool):Option (Int):=cnd (b) (some 2)<|jon (J7 n d e)<|reg<|cnd (decide (d.fOp=4)) (cnd (decide (d.fKind<1)) (J7 n d e true)<|J7 n d e (decide (5<d.fKind)))<|J7 n d e false
def W9 (n:Nat)(d:B4):Option (Int):=bnd (Vy n d.fOp) λg=>cnd (decide (g<0)) (some 1)<|cnd (!decide (((d.fArgs.map idA).length:Int)=g)) (some 15)<|bnd (W8 n d.fOp) λe=>jon (Eg n d e)<|reg<|cnd (e.1) (cnd (decide (d.fVar<0)) (Eg n d e true)<|cnd (decide (16<=d.fVar)) (Eg n d e true)<|cnd (e.2) (cnd (decide (d.fField<0)) (Eg n d e true)<|Eg n d e (decide (8<=d.fField)))<|Eg n d e false)<|cnd (e.2) (cnd (decide (d.fField<0)) (Eg n d e true)<|Eg n d e (decide (8<=d.fField)))<|Eg n d e false
def Qh (n:Nat)(b:B4->Option (Int))(h:B4)(c:Option (Int)):Nat->Int->Option (Int) |0,_=>none |e+1,d=>cnd (decide (d<((h.fArgs.map idA).length:Int))) (idxD C7 h.fArgs d λg=>bnd (b g) λf=>cnd (!decide (f=0)) (some f)<|(Qh n b h c e) (aA .i64 (d+1)))<|c
def Hg:Nat->B4->Option (Int) |0,_=>none |n+1,e=>bnd (W9 n e) λd=>cnd (!decide (d=0)) (some d)<|Qh n (Hg n) e (some 0) n 0
def Gf (n:Nat)(d:B4):Option (Int):=bnd (Ge n d 64) λh=>cnd (decide (64<h)) (some 5)<|bnd (Gc n d) λg=>cnd (decide (12<g)) (some 12)<|bnd (Hg n d) λe=>some e
structure Bb where
 fScope:Int
 fType:Int
 fVar:Int
 fCond:B4
deriving Inhabited
def B9 (x:Bb):AV:=.agg [aI (x.fScope),aI (x.fType),aI (x.fVar),aI (x.fCond.fOp),.sl 8 (x.fCond.fArgs.map idA),aI (x.fCond.fVar),aI (x.fCond.fField),aI (x.fCond.fKind),aI (x.fCond.fValue.fKind),aI (x.fCond.fValue.fNum),.str (x.fCond.fValue.fText)]
abbrev Y0 (x:Bb):List AV:=[aI (x.fScope),aI (x.fType),aI (x.fVar),aI (x.fCond.fOp),.sl 8 (x.fCond.fArgs.map idA),aI (x.fCond.fVar),aI (x.fCond.fField),aI (x.fCond.fKind),aI (x.fCond.fValue.fKind),aI (x.fCond.fValue.fNum),.str (x.fCond.fValue.fText)]
structure Dm where
 fGuards:(List Bb)
deriving Inhabited
def Am (x:Dm):AV:=.agg [.sl 11 (x.fGuards.map B9)]
structure C2 where
 fScope:Int
 fSpan:Int
deriving DecidableEq,Inhabited
def Bw (x:C2):AV:=.agg [aI (x.fScope),aI (x.fSpan)]
abbrev zah (x:C2):List AV:=[aI (x.fScope),aI (x.fSpan)]
structure Ah where
 fFrom:Int
 fTo:Int
 fVar:Int
 fType:Int
 fCond:B4
 fOpens:(List Int)
 fCloses:(List Int)
 fChecks:(List AV)
 fLimits:(List C2)
 fInside:(List Int)
deriving Inhabited
def Aa (x:Ah):AV:=.agg [aI (x.fFrom),aI (x.fTo),aI (x.fVar),aI (x.fType),aI (x.fCond.fOp),.sl 8 (x.fCond.fArgs.map idA),aI (x.fCond.fVar),aI (x.fCond.fField),aI (x.fCond.fKind),aI (x.fCond.fValue.fKind),aI (x.fCond.fValue.fNum),.str (x.fCond.fValue.fText),.sl 1 (x.fOpens.map aI),.sl 1 (x.fCloses.map aI),.sl 8 (x.fChecks.map idA),.sl 2 (x.fLimits.map Bw),.sl 1 (x.fInside.map aI)]
abbrev Bs (x:Ah):List AV:=[aI (x.fFrom),aI (x.fTo),aI (x.fVar),aI (x.fType),aI (x.fCond.fOp),.sl 8 (x.fCond.fArgs.map idA),aI (x.fCond.fVar),aI (x.fCond.fField),aI (x.fCond.fKind),aI (x.fCond.fValue.fKind),aI (x.fCond.fValue.fNum),.str (x.fCond.fValue.fText),.sl 1 (x.fOpens.map aI),.sl 1 (x.fCloses.map aI),.sl 8 (x.fChecks.map idA),.sl 2 (x.fLimits.map Bw),.sl 1 (x.fInside.map aI)]
structure Ad where
 fVars:Int
 fScopes:Int
 fStates:(List Dm)
 fEdges:(List Ah)
deriving Inhabited
def Bi (x:Ad):AV:=.agg [aI (x.fVars),aI (x.fScopes),.sl 1 (x.fStates.map Am),.sl 17 (x.fEdges.map Aa)]
abbrev B3 (x:Ad):List AV:=[aI (x.fVars),aI (x.fScopes),.sl 1 (x.fStates.map Am),.sl 17 (x.fEdges.map Aa)]
def Md (n:Nat)(b:Bool):Option (Bool):=some b
def Db (n:Nat)(d:Int)(e:Int):Option (Bool):=jon (Md n)<|reg<|cnd (decide (d<0)) (Md n true)<|Md n (decide (e<d))
def Q1 (n:Nat)(h:(List Bb))(p:Ad)(c:Int)(b:Option (Int)):Nat->Int->Option (Int) |0,_=>none |e+1,d=>cnd (decide (d<c)) (idx h d λf=>idx h c λg=>cnd (decide (f.fScope=g.fScope)) (some 7)<|(Q1 n h p c b e) (aA .i64 (d+1)))<|b
def Iz (n:Nat)(g:(List Bb))(h:Ad)(b:Int)(c:Int->Option (Int))(e:Bool):Option (Int):=cnd (e) (some 2)<|Q1 n g h b (idx g b λf=>bnd (Gf n f.fCond) λd=>cnd (!decide (d=0)) (some d)<|c (aA .i64 (b+1))) n 0
def G4 (n:Nat)(p:(List Bb))(q:Ad)(b:Option (Int)):Nat->Int->Option (Int) |0,_=>none |d+1,c=>cnd (decide (c<((p.map B9).length:Int))) (jon (Iz n p q c (G4 n p q b d))<|reg<|idx p c λe=>bnd (Db n e.fScope (aA .i64 (q.fScopes-1))) λf=>cnd (f) (Iz n p q c (G4 n p q b d) true)<|idx p c λg=>bnd (Db n g.fType 15) λh=>cnd (h) (Iz n p q c (G4 n p q b d) true)<|idx p c λj=>bnd (Db n j.fVar (aA .i64 (q.fVars-1))) λk=>Iz n p q c (G4 n p q b d) k)<|b
def Vo (n:Nat)(e:Ad)(d:(List Bb)):Option (Int):=cnd (decide (64<((d.map B9).length:Int))) (some 5)<|G4 n d e (some 0) n 0
def Q0 (n:Nat)(p:Int)(h:(List Int))(c:Int)(b:Option (Int)):Nat->Int->Option (Int) |0,_=>none |e+1,d=>cnd (decide (d<c)) (idx h d λf=>idx h c λg=>cnd (decide (f=g)) (some 7)<|(Q0 n p h c b e) (aA .i64 (d+1)))<|b
def L5 (n:Nat)(h:Int)(g:(List Int))(c:Option (Int)):Nat->Int->Option (Int) |0,_=>none |d+1,b=>cnd (decide (b<((g.map aI).length:Int))) (idx g b λe=>bnd (Db n e (aA .i64 (h-1))) λf=>cnd (f) (some 2)<|Q0 n h g b ((L5 n h g c d) (aA .i64 (b+1))) n 0)<|c
def Rg (n:Nat)(e:(List Int))(d:Int):Option (Int):=L5 n d e (some 0) n 0
def Li (n:Nat)(g:Ah)(b:Option (Int)):Nat->Int->Option (Int) |0,_=>none |d+1,c=>cnd (decide (c<((g.fLimits.map Bw).length:Int))) (idx g.fLimits c λe=>bnd (Db n e.fSpan 1099511627776) λf=>cnd (f) (some 2)<|(Li n g b d) (aA .i64 (c+1)))<|b
def H0 (n:Nat)(h:Ah)(p:Ad)(b:(List Int))(c:Option (Int)):Nat->Int->Option (Int) |0,_=>none |f+1,d=>cnd (decide (d<4)) (idx ([h.fOpens,h.fCloses,h.fInside,b]:List (List Int)) d λg=>bnd (Rg n g p.fScopes) λe=>cnd (!decide (e=0)) (some e)<|(H0 n h p b c f) (aA .i64 (d+1)))<|c
def Qd (n:Nat)(g:Ah)(h:Ad)(c:(List Int)->Option (Int)):Nat->Int×(List Int)->Option (Int) |0,_=>none |d+1,b=>cnd (decide (b.1<((g.fLimits.map Bw).length:Int))) (idx g.fLimits b.1 λe=>app b.2 [e.fScope] 8 λf=>(Qd n g h c d) ((aA .i64 (b.1+1)),f))<|c b.2
def Rw (n:Nat)(e:Ad)(d:Ah):Option (Int):=Qd n d e (λb=>frz 7026<|reg<|H0 n d e b (Li n d (some 0) n 0) n 0) n (0,[])
def Qw (n:Nat)(g:Ah)(h:Ad)(b:Option (Int)):Nat->Int->Option (Int) |0,_=>none |d+1,c=>cnd (decide (c<((g.fChecks.map idA).length:Int))) (idxD C7 g.fChecks c λf=>bnd (Gf n f) λe=>cnd (!decide (e=0)) (some e)<|(Qw n g h b d) (aA .i64 (c+1)))<|b
def Dx (n:Nat)(h:Int)(d:Ah)(g:Ad)(b:Bool):Option (Int):=cnd (b) (some 2)<|cnd (decide (d.fFrom<h)) (some 14)<|bnd (Gf n d.fCond) λe=>cnd (!decide (e=0)) (some e)<|cnd (decide (64<((d.fChecks.map idA).length:Int))) (some 5)<|Qw n d g (bnd (Rw n g d) λc=>some c) n 0
def W6 (n:Nat)(p:Ad)(h:Ah)(q:Int):Option (Int):=jon (Dx n q h p)<|reg<|bnd (Db n h.fFrom (aA .i64 (((p.fStates.map Am).length:Int)-1))) λb=>cnd (b) (Dx n q h p true)<|cnd (!decide (h.fTo=(-1))) (bnd (Db n h.fTo (aA .i64 (((p.fStates.map Am).length:Int)-1))) λc=>cnd (c) (Dx n q h p true)<|bnd (Db n h.fVar (aA .i64 (p.fVars-1))) λd=>cnd (d) (Dx n q h p true)<|bnd (Db n h.fType 15) λe=>Dx n q h p e)<|bnd (Db n h.fVar (aA .i64 (p.fVars-1))) λf=>cnd (f) (Dx n q h p true)<|bnd (Db n h.fType 15) λg=>Dx n q h p g
def Qe (n:Nat)(h:Ad)(c:Option (Int)):Nat->Int×Int->Option (Int) |0,_=>none |d+1,b=>cnd (decide (b.2<((h.fEdges.map Aa).length:Int))) (idx h.fEdges b.2 λf=>bnd (W6 n h f b.1) λe=>cnd (!decide (e=0)) (some e)<|idx h.fEdges b.2 λg=>(Qe n h c d) (g.fFrom,(aA .i64 (b.2+1))))<|c
def Qf (n:Nat)(g:Ad)(b:Option (Int)):Nat->Int->Option (Int) |0,_=>none |d+1,c=>cnd (decide (c<((g.fStates.map Am).length:Int))) (idx g.fStates c λf=>bnd (Vo n g f.fGuards) λe=>cnd (!decide (e=0)) (some e)<|(Qf n g b d) (aA .i64 (c+1)))<|b
def G6 (n:Nat)(d:Ad)(b:Bool):Option (Int):=cnd (b) (some 5)<|Qf n d (Qe n d (some 0) n (0,0)) n 0
def H3 (n:Nat)(d:Ad)(b:Bool):Option (Int):=cnd (b) (some 2)<|jon (G6 n d)<|reg<|cnd (decide (((d.fStates.map Am).length:Int)<1)) (G6 n d true)<|cnd (decide (256<((d.fStates.map Am).length:Int))) (G6 n d true)<|G6 n d (decide (2048<((d.fEdges.map Aa).length:Int)))
def Ff (n:Nat)(d:Ad):Option (Int):=jon (H3 n d)<|reg<|bnd (Db n d.fVars 16) λb=>cnd (b) (H3 n d true)<|bnd (Db n d.fScopes 64) λc=>H3 n d c
def Tl (n:Nat)(b:B4->Option (Int×Int))(h:B4)(d:Int->Int->Option (Int×Int)):Nat->Int×Int×Int->Option (Int×Int) |0,_=>none |e+1,c=>cnd (decide (c.2.2<((h.fArgs.map idA).length:Int))) (idxD C7 h.fArgs c.2.2 λg=>bnd (b g) λf=>(Tl n b h d e) ((aA .i64 (c.1+f.1)),(max c.2.1 f.2),(aA .i64 (c.2.2+1))))<|d c.1 c.2.1
def I3:Nat->B4->Option (Int×Int) |0,_=>none |n+1,d=>Tl n (I3 n) d (λb c=>some (b,(aA .i64 (c+1)))) n (1,0,0)
def Nt (n:Nat)(d:Int)(b:Bool):Option (Int×Bool):=cnd (b) (some (0,false))<|cnd (decide (d<5)) (some (0,true))<|cnd (decide (d=12)) (some (1,true))<|some (2,true)
def Xy (n:Nat)(d:Int):Option (Int×Bool):=jon (Nt n d)<|reg<|cnd (decide (d<0)) (Nt n d true)<|Nt n d (decide (12<d))
def O0 (n:Nat)(b:Bool):Option (Bool×Bool):=cnd (b) (some (true,false))<|some (false,false)
def O1 (n:Nat)(d:Int)(b:Bool):Option (Bool×Bool):=cnd (b) (some (true,true))<|jon (O0 n)<|reg<|cnd (decide (d=2)) (O0 n (decide (d=2)))<|O0 n (decide (d=3))
def Tt (n:Nat)(d:Int):Option (Bool×Bool):=jon (O1 n d)<|reg<|cnd (decide (d=1)) (O1 n d (decide (d=1)))<|O1 n d (decide (d=4))
def O4 (n:Nat)(d:A9):Option (Int):=cnd (decide (d.fKind=0)) (cnd (decide (d.fNum<(-1099511627776))) (some 2)<|cnd (decide (1099511627776<d.fNum)) (some 2)<|cnd (decide (d.fKind=1)) (cnd (!decide (d.fNum=0)) (cnd (!decide (d.fNum=1)) (some 2)<|cnd (decide (64<((d.fText.size:Nat):Int))) (some 13)<|some 0)<|cnd (decide (64<((d.fText.size:Nat):Int))) (some 13)<|some 0)<|cnd (decide (64<((d.fText.size:Nat):Int))) (some 13)<|some 0)<|cnd (decide (d.fKind=1)) (cnd (!decide (d.fNum=0)) (cnd (!decide (d.fNum=1)) (some 2)<|cnd (decide (64<((d.fText.size:Nat):Int))) (some 13)<|some 0)<|cnd (decide (64<((d.fText.size:Nat):Int))) (some 13)<|some 0)<|cnd (decide (64<((d.fText.size:Nat):Int))) (some 13)<|some 0
def Gl (n:Nat)(d:A9):Option (Int):=cnd (decide (d.fKind=0)) (cnd (decide (d.fKind=0)) (cnd (!(d.fText.toList == ByteArray.empty.toList)) (some 3)<|bnd (O4 n d) λp=>some p)<|cnd (decide (d.fKind=2)) (cnd (!decide (d.fNum=0)) (some 3)<|bnd (O4 n d) λh=>some h)<|some 1)<|cnd (decide (d.fKind=1)) (cnd (!(d.fText.toList == ByteArray.empty.toList)) (some 3)<|bnd (O4 n d) λg=>some g)<|cnd (decide (d.fKind=2)) (cnd (!decide (d.fNum=0)) (some 3)<|bnd (O4 n d) λe=>some e)<|some 1
def K6 (n:Nat)(b:Bool):Option (Bool):=some b
def Xx (n:Nat)(d:Int)(e:A9):Option (Bool):=jon (K6 n)<|reg<|cnd (decide (e.fKind=0)) (K6 n true)<|cnd (decide (d=4)) (K6 n true)<|K6 n (decide (d=5))
def Hp (n:Nat)(b:Bool):Option (Int):=cnd (b) (some 9)<|some 0
def Xg (n:Nat)(d:B4):Option (Int):=bnd (Gl n d.fValue) λe=>cnd (!decide (e=0)) (some e)<|jon (Hp n)<|reg<|cnd (decide (d.fOp=4)) (bnd (Xx n d.fKind d.fValue) λg=>cnd (!(g)) (Hp n true)<|cnd (decide (d.fKind=1)) (Hp n (!(decide (d.fValue.fKind=0) && (decide (d.fValue.fNum=0) && ((d.fValue.fText.toList == ByteArray.empty.toList) && true)))))<|Hp n false)<|Hp n false
def Cc (n:Nat)(b:Bool):Option (Int):=cnd (b) (some 3)<|some 0
def O2 (n:Nat)(d:B4)(e:Bool×Bool)(b:Bool)(_:Unit):Option (Int):=jon (Cc n)<|reg<|cnd (!(e.1)) (cnd (!decide (d.fVar=0)) (Cc n true)<|cnd (!(e.2)) (cnd (!decide (d.fField=0)) (Cc n true)<|cnd (!(decide (d.fOp=4))) (cnd (!decide (d.fKind=0)) (Cc n true)<|cnd (!(b)) (Cc n (!(decide (d.fValue.fKind=0) && (decide (d.fValue.fNum=0) && ((d.fValue.fText.toList == ByteArray.empty.toList) && true)))))<|Cc n false)<|cnd (!(b)) (Cc n (!(decide (d.fValue.fKind=0) && (decide (d.fValue.fNum=0) && ((d.fValue.fText.toList == ByteArray.empty.toList) && true)))))<|Cc n false)<|cnd (!(decide (d.fOp=4))) (cnd (!decide (d.fKind=0)) (Cc n true)<|cnd (!(b)) (Cc n (!(decide (d.fValue.fKind=0) && (decide (d.fValue.fNum=0) && ((d.fValue.fText.toList == ByteArray.empty.toList) && true)))))<|Cc n false)<|cnd (!(b)) (Cc n (!(decide (d.fValue.fKind=0) && (decide (d.fValue.fNum=0) && ((d.fValue.fText.toList == ByteArray.empty.toList) && true)))))<|Cc n false)<|cnd (!(e.2)) (cnd (!decide (d.fField=0)) (Cc n true)<|cnd (!(decide (d.fOp=4))) (cnd (!decide (d.fKind=0)) (Cc n true)<|cnd (!(b)) (Cc n (!(decide (d.fValue.fKind=0) && (decide (d.fValue.fNum=0) && ((d.fValue.fText.toList == ByteArray.empty.toList) && true)))))<|Cc n false)<|cnd (!(b)) (Cc n (!(decide (d.fValue.fKind=0) && (decide (d.fValue.fNum=0) && ((d.fValue.fText.toList == ByteArray.empty.toList) && true)))))<|Cc n false)<|cnd (!(decide (d.fOp=4))) (cnd (!decide (d.fKind=0)) (Cc n true)<|cnd (!(b)) (Cc n (!(decide (d.fValue.fKind=0) && (decide (d.fValue.fNum=0) && ((d.fValue.fText.toList == ByteArray.empty.toList) && true)))))<|Cc n false)<|cnd (!(b)) (Cc n (!(decide (d.fValue.fKind=0) && (decide (d.fValue.fNum=0) && ((d.fValue.fText.toList == ByteArray.empty.toList) && true)))))<|Cc n false
def O3 (n:Nat)(d:B4)(e:Bool×Bool)(b:Bool):Option (Int):=jon (O2 n d e b)<|reg<|cnd (b) (bnd (Xg n d) λg=>cnd (!decide (g=0)) (some g)<|O2 n d e b ())<|O2 n d e b ()
def K8 (n:Nat)(d:B4)(e:Bool×Bool)(b:Bool):Option (Int):=cnd (b) (some 1)<|jon (O3 n d e)<|reg<|cnd (decide (d.fOp=4)) (O3 n d e true)<|O3 n d e (decide (d.fOp=0))
def Ei (n:Nat)(d:B4)(e:Bool×Bool)(b:Bool):Option (Int):=cnd (b) (some 2)<|jon (K8 n d e)<|reg<|cnd (decide (d.fOp=4)) (cnd (decide (d.fKind<1)) (K8 n d e true)<|K8 n d e (decide (5<d.fKind)))<|K8 n d e false
def Y2 (n:Nat)(d:B4):Option (Int):=bnd (Xy n d.fOp) λg=>cnd (!(g.2)) (some 1)<|cnd (!decide (((d.fArgs.map idA).length:Int)=g.1)) (some 15)<|bnd (Tt n d.fOp) λe=>jon (Ei n d e)<|reg<|cnd (e.1) (cnd (decide (d.fVar<0)) (Ei n d e true)<|cnd (decide (16<=d.fVar)) (Ei n d e true)<|cnd (e.2) (cnd (decide (d.fField<0)) (Ei n d e true)<|Ei n d e (decide (8<=d.fField)))<|Ei n d e false)<|cnd (e.2) (cnd (decide (d.fField<0)) (Ei n d e true)<|Ei n d e (decide (8<=d.fField)))<|Ei n d e false
def Tf (n:Nat)(b:B4->Option (Int))(h:B4)(c:Option (Int)):Nat->Int->Option (Int) |0,_=>none |e+1,d=>cnd (decide (d<((h.fArgs.map idA).length:Int))) (idxD C7 h.fArgs d λg=>bnd (b g) λf=>cnd (!decide (f=0)) (some f)<|(Tf n b h c e) (aA .i64 (d+1)))<|c
def I0:Nat->B4->Option (Int) |0,_=>none |n+1,e=>bnd (Y2 n e) λd=>cnd (!decide (d=0)) (some d)<|Tf n (I0 n) e (some 0) n 0
def I2 (n:Nat)(e:B4):Option (Int):=bnd (I3 n e) λd=>cnd (decide (64<d.1)) (some 5)<|cnd (decide (12<d.2)) (some 12)<|bnd (I0 n e) λg=>some g
def My (n:Nat)(b:Bool):Option (Bool):=some b
def Es (n:Nat)(d:Int)(e:Int):Option (Bool):=jon (My n)<|reg<|cnd (decide (0<=d)) (My n (decide (d<e)))<|My n false
def Si (n:Nat)(e:Bb)(d:Bb):Option (Bool):=some (decide (e.fScope=d.fScope))
def S2 (n:Nat)(d:Bb)(h:(List Bb))(c:Option (Int)):Nat->Int->Option (Int) |0,_=>none |e+1,b=>cnd (decide (b<((h.map B9).length:Int))) (idx h b λf=>bnd (Si n f d) λg=>cnd (g) (some b)<|(S2 n d h c e) (aA .i64 (b+1)))<|c
def X1 (n:Nat)(d:(List Bb))(b:Bb):Option (Int):=S2 n b d (some (-1)) n 0
def S3 (n:Nat)(e:(List Bb))(b:Bb):Option (Bool):=bnd (X1 n e b) λd=>some (decide (0<=d))
def Jq (n:Nat)(p:(List Bb))(q:Ad)(b:Int)(c:Int->Option (Int))(d:Bb)(f:Bool):Option (Int):=cnd (f) (some 2)<|sls p 0 b λg=>bnd (S3 n g d) λh=>cnd (h) (some 7)<|bnd (I2 n d.fCond) λe=>cnd (!decide (e=0)) (some e)<|c (aA .i64 (b+1))
def Gg (n:Nat)(p:(List Bb))(q:Ad)(b:Option (Int)):Nat->Int->Option (Int) |0,_=>none |d+1,c=>cnd (decide (c<((p.map B9).length:Int))) (idx p c λe=>jon (Jq n p q c (Gg n p q b d) e)<|reg<|bnd (Es n e.fScope q.fScopes) λf=>cnd (!(f)) (Jq n p q c (Gg n p q b d) e true)<|bnd (Es n e.fType 16) λg=>cnd (!(g)) (Jq n p q c (Gg n p q b d) e true)<|bnd (Es n e.fVar q.fVars) λh=>Jq n p q c (Gg n p q b d) e !(h))<|b
def X4 (n:Nat)(e:Ad)(d:(List Bb)):Option (Int):=cnd (decide (64<((d.map B9).length:Int))) (some 5)<|Gg n d e (some 0) n 0
def Rr (n:Nat)(g:(List C2))(c:(List Int)->Option ((List Int))):Nat->Int×(List Int)->Option ((List Int)) |0,_=>none |d+1,b=>cnd (decide (b.1<((g.map Bw).length:Int))) (idx g b.1 λe=>app b.2 [e.fScope] 8 λf=>(Rr n g c d) ((aA .i64 (b.1+1)),f))<|c b.2
def So (n:Nat)(d:(List C2)):Option ((List Int)):=Rr n d (λb=>some b) n (0,[])
def T1 (n:Nat)(h:Int)(g:(List Int))(c:Option (Int)):Nat->Int->Option (Int) |0,_=>none |d+1,b=>cnd (decide (b<((g.map aI).length:Int))) (idx g b λe=>cnd (decide (h=e)) (some b)<|(T1 n h g c d) (aA .i64 (b+1)))<|c
def z3d (n:Nat)(e:(List Int))(d:Int):Option (Int):=T1 n d e (some (-1)) n 0
def E3 (n:Nat)(g:(List Int))(e:Int):Option (Bool):=bnd (z3d n g e) λd=>some (decide (0<=d))
def Hi (n:Nat)(q:(List (List Int)))(p:Ad)(g:Int)(d:(List Int))(c:Option (Int)):Nat->Int->Option (Int) |0,_=>none |e+1,b=>cnd (decide (b<((d.map aI).length:Int))) (idx d b λf=>bnd (Es n f p.fScopes) λh=>cnd (!(h)) (some 2)<|sls d 0 b λj=>bnd (E3 n j f) λk=>cnd (k) (some 7)<|(Hi n q p g d c e) (aA .i64 (b+1)))<|c
def Jp (n:Nat)(g:(List (List Int)))(h:Ad)(c:Option (Int)):Nat->Int->Option (Int) |0,_=>none |d+1,b=>cnd (decide (b<(((List.map (λq=>AV.sl 1 (List.map aI q)) (g)).length:Nat):Int))) (idx g b λe=>Hi n g h b e ((Jp n g h c d) (aA .i64 (b+1))) n 0)<|c
def X3 (n:Nat)(e:Ad)(d:(List (List Int))):Option (Int):=Jp n d e (some 0) n 0
def Jr (n:Nat)(b:Bool):Option (Bool):=some b
def Jx (n:Nat)(d:C2):Option (Bool):=jon (Jr n)<|reg<|cnd (decide (d.fSpan<0)) (Jr n true)<|Jr n (decide (1099511627776<d.fSpan))
def Q2 (n:Nat)(g:(List C2))(c:Option (Int)):Nat->Int->Option (Int) |0,_=>none |d+1,b=>cnd (decide (b<((g.map Bw).length:Int))) (idx g b λe=>bnd (Jx n e) λf=>cnd (f) (some b)<|(Q2 n g c d) (aA .i64 (b+1)))<|c
def Vq (n:Nat)(d:(List C2)):Option (Int):=Q2 n d (some (-1)) n 0
def Q3 (n:Nat)(e:(List C2)):Option (Bool):=bnd (Vq n e) λd=>some (decide (0<=d))
def Hq (n:Nat)(g:Ah)(h:Ad)(b:Option (Int)):Nat->Int->Option (Int) |0,_=>none |d+1,c=>cnd (decide (c<((g.fChecks.map idA).length:Int))) (idxD C7 g.fChecks c λf=>bnd (I2 n f) λe=>cnd (!decide (e=0)) (some e)<|(Hq n g h b d) (aA .i64 (c+1)))<|b
def Dk (n:Nat)(q:Int)(g:Ah)(p:Ad)(c:Bool):Option (Int):=cnd (c) (some 2)<|cnd (decide (g.fFrom<q)) (some 14)<|bnd (I2 n g.fCond) λh=>cnd (!decide (h=0)) (some h)<|cnd (decide (64<((g.fChecks.map idA).length:Int))) (some 5)<|Hq n g p (bnd (So n g.fLimits) λd=>bnd (X3 n p ([g.fOpens,g.fCloses,g.fInside,d])) λb=>cnd (!decide (b=0)) (some b)<|bnd (Q3 n g.fLimits) λe=>cnd (e) (some 2)<|some 0) n 0
def K2 (n:Nat)(g:Ad)(e:Ah)(h:Int):Option (Int):=jon (Dk n h e g)<|reg<|bnd (Es n e.fFrom ((g.fStates.map Am).length:Int)) λb=>cnd (!(b)) (Dk n h e g true)<|cnd (decide (e.fTo<(-1))) (Dk n h e g true)<|cnd (decide (((g.fStates.map Am).length:Int)<=e.fTo)) (Dk n h e g true)<|bnd (Es n e.fVar g.fVars) λc=>cnd (!(c)) (Dk n h e g true)<|bnd (Es n e.fType 16) λd=>Dk n h e g !(d)
def Hm (n:Nat)(g:Ad)(c:Option (Int)):Nat->Int×Int->Option (Int) |0,_=>none |d+1,b=>cnd (decide (b.2<((g.fEdges.map Aa).length:Int))) (idx g.fEdges b.2 λe=>bnd (K2 n g e b.1) λf=>cnd (!decide (f=0)) (some f)<|(Hm n g c d) (e.fFrom,(aA .i64 (b.2+1))))<|c
def Hn (n:Nat)(g:Ad)(b:Option (Int)):Nat->Int->Option (Int) |0,_=>none |d+1,c=>cnd (decide (c<((g.fStates.map Am).length:Int))) (idx g.fStates c λf=>bnd (X4 n g f.fGuards) λe=>cnd (!decide (e=0)) (some e)<|(Hn n g b d) (aA .i64 (c+1)))<|b
def E1 (n:Nat)(d:Ad)(b:Bool):Option (Int):=cnd (b) (some 5)<|Hn n d (Hm n d (some 0) n (0,0)) n 0
def E2 (n:Nat)(d:Ad)(b:Bool):Option (Int):=cnd (b) (some 2)<|jon (E1 n d)<|reg<|cnd (decide (((d.fStates.map Am).length:Int)<1)) (E1 n d true)<|cnd (decide (256<((d.fStates.map Am).length:Int))) (E1 n d true)<|E1 n d (decide (2048<((d.fEdges.map Aa).length:Int)))
def Cp (n:Nat)(d:Ad):Option (Int):=jon (E2 n d)<|reg<|cnd (decide (d.fVars<0)) (E2 n d true)<|cnd (decide (16<d.fVars)) (E2 n d true)<|cnd (decide (d.fScopes<0)) (E2 n d true)<|E2 n d (decide (64<d.fScopes))
def J8 (n:Nat)(b:Bool):Option (Bool):=some b
def S8 (n:Nat)(d:Int):Option (Bool):=jon (J8 n)<|reg<|cnd (decide (0<=d)) (J8 n (decide (d<=5)))<|J8 n false
structure C4 where
 fKind:Int
 fCount:Int
 fValue:A9
deriving DecidableEq,Inhabited
def Eh (x:C4):AV:=.agg [aI (x.fKind),aI (x.fCount),aI (x.fValue.fKind),aI (x.fValue.fNum),.str (x.fValue.fText)]
abbrev X7 (x:C4):List AV:=[aI (x.fKind),aI (x.fCount),aI (x.fValue.fKind),aI (x.fValue.fNum),.str (x.fValue.fText)]
def H5 (n:Nat)(b:Bool):Option (Int):=cnd (b) (some 3)<|some 0
def Ln (n:Nat)(b:Bool):Option (Int):=cnd (b) (some 3)<|some 0
def Lo (n:Nat)(d:C4)(b:Bool):Option (Int):=cnd (b) (cnd (!(decide (d.fValue.fKind=0) && (decide (d.fValue.fNum=0) && ((d.fValue.fText.toList == ByteArray.empty.toList) && true)))) (some 3)<|some 0)<|cnd (decide (d.fKind=1)) (jon (H5 n)<|reg<|cnd (!decide (d.fValue.fKind=0)) (H5 n true)<|cnd (!(d.fValue.fText.toList == ByteArray.empty.toList)) (H5 n true)<|cnd (decide (d.fValue.fNum<(aA .i64 (0-(aA .i64 (d.fCount*1099511627776)))))) (H5 n true)<|H5 n (decide ((aA .i64 (d.fCount*1099511627776))<d.fValue.fNum)))<|jon (Ln n)<|reg<|bnd (Hh n d.fValue) λg=>cnd (!decide (g=0)) (Ln n true)<|bnd (Mw n d.fKind d.fValue) λe=>Ln n !(e)
def Lp (n:Nat)(d:C4)(b:Bool):Option (Int):=cnd (b) (some 2)<|jon (Lo n d)<|reg<|cnd (decide (d.fCount=0)) (Lo n d true)<|Lo n d (decide (d.fKind=0))
def Rz (n:Nat)(d:C4):Option (Int):=bnd (S8 n d.fKind) λe=>cnd (!(e)) (some 1)<|jon (Lp n d)<|reg<|cnd (decide (d.fCount<0)) (Lp n d true)<|Lp n d (decide (4096<d.fCount))
def Rx (n:Nat)(h:Int)(e:A9):Option (Int):=bnd (Hh n e) λd=>cnd (!decide (d=0)) (some d)<|bnd (Mw n h e) λg=>cnd (!(g)) (some 9)<|some 0
def Vd (n:Nat)(d:Int)(g:A9)(e:A9):Option (A9):=cnd (decide (d=1)) (some (⟨0,(aA .i64 (g.fNum+e.fNum)),ByteArray.empty⟩))<|cnd (decide (d=2)) (some (⟨0,(min g.fNum e.fNum),ByteArray.empty⟩))<|cnd (decide (d=3)) (some (⟨0,(max g.fNum e.fNum),ByteArray.empty⟩))<|cnd (decide (d=4)) (some g)<|cnd (decide (d=5)) (some e)<|some (⟨0,0,ByteArray.empty⟩)
def Jk (n:Nat)(d:C4)(b:Int×Int×ByteArray):Option (C4×Int):=some (⟨d.fKind,(aA .i64 (d.fCount+1)),⟨b.1,b.2.1,b.2.2⟩⟩,0)
def Wk (n:Nat)(d:C4)(e:A9):Option (C4×Int):=bnd (Rz n d) λp=>cnd (!decide (p=0)) (some (⟨0,0,⟨0,0,ByteArray.empty⟩⟩,p))<|bnd (Rx n d.fKind e) λh=>cnd (!decide (h=0)) (some (⟨0,0,⟨0,0,ByteArray.empty⟩⟩,h))<|cnd (decide (d.fCount=4096)) (some (⟨0,0,⟨0,0,ByteArray.empty⟩⟩,5))<|jon (Jk n d)<|reg<|cnd (decide (d.fKind=0)) (Jk n d (0,0,ByteArray.empty))<|reg<|cnd (decide (0<d.fCount)) (bnd (Vd n d.fKind d.fValue e) λg=>Jk n d (g.fKind,g.fNum,g.fText))<|Jk n d (e.fKind,e.fNum,e.fText)
def L8 (n:Nat)(d:A9)(e:C4)(b:Bool):Option (A9×Int):=cnd (b) (some (d,0))<|some (e.fValue,0)
def Rj (n:Nat)(d:C4)(e:A9):Option (A9×Int):=bnd (Rz n d) λh=>cnd (!decide (h=0)) (some (⟨0,0,ByteArray.empty⟩,h))<|bnd (Rx n d.fKind e) λg=>cnd (!decide (g=0)) (some (⟨0,0,ByteArray.empty⟩,g))<|cnd (decide (d.fKind=0)) (some (⟨0,d.fCount,ByteArray.empty⟩,0))<|jon (L8 n e d)<|reg<|cnd (decide (d.fCount=0)) (L8 n e d (!decide (d.fKind=1)))<|L8 n e d false
def Ry (n:Nat)(h:A9)(g:(List A9))(d:Int->Int->Int->Int->ByteArray->Option (A9×Int)):Nat->Int×Int×Int×Int×Int×ByteArray->Option (A9×Int) |0,_=>none |e+1,b=>cnd (decide (b.1<((g.map Ag).length:Int))) (idx g b.1 λf=>bnd (Wk n (⟨b.2.1,b.2.2.1,⟨b.2.2.2.1,b.2.2.2.2.1,b.2.2.2.2.2⟩⟩:C4) f) λc=>cnd (!decide (c.2=0)) (some (⟨0,0,ByteArray.empty⟩,c.2))<|(Ry n h g d e) ((aA .i64 (b.1+1)),c.1.fKind,c.1.fCount,c.1.fValue.fKind,c.1.fValue.fNum,c.1.fValue.fText))<|d b.2.1 b.2.2.1 b.2.2.2.1 b.2.2.2.2.1 b.2.2.2.2.2
def Sq (n:Nat)(q:Int)(p:(List A9))(h:A9):Option (A9×Int):=bnd (S8 n q) λt=>cnd (!(t)) (some (⟨0,0,ByteArray.empty⟩,1))<|cnd (decide (4096<((p.map Ag).length:Int))) (some (⟨0,0,ByteArray.empty⟩,5))<|Ry n h p (λb c d e f=>bnd (Rj n (⟨b,c,⟨d,e,f⟩⟩:C4) h) λg=>some (g.1,g.2)) n (0,q,0,0,0,ByteArray.empty)
structure A8 where
 fSource:Int
 fSeq:Int
 fType:Int
 fTime:Int
 fValues:(List A9)
deriving DecidableEq,Inhabited
def A5 (x:A8):AV:=.agg [aI (x.fSource),aI (x.fSeq),aI (x.fType),aI (x.fTime),.sl 3 (x.fValues.map Ag)]
abbrev Bx (x:A8):List AV:=[aI (x.fSource),aI (x.fSeq),aI (x.fType),aI (x.fTime),.sl 3 (x.fValues.map Ag)]
structure Av where
 fVars:(List (List A8))
deriving DecidableEq,Inhabited
def Ds (x:Av):AV:=.agg [.sl 1 (List.map (λq=>AV.sl 5 (List.map A5 q)) (x.fVars))]
abbrev Dt (x:Av):List AV:=[.sl 1 (List.map (λq=>AV.sl 5 (List.map A5 q)) (x.fVars))]
def L7 (n:Nat)(e:Int)(g:Av)(b:Bool):Option ((List A8)):=cnd (b) (some [])<|idx g.fVars e λd=>some d
def Mj (n:Nat)(e:Av)(d:Int):Option ((List A8)):=jon (L7 n d e)<|reg<|cnd (decide (d<0)) (L7 n d e true)<|L7 n d e (decide ((((List.map (λq=>AV.sl 5 (List.map A5 q)) (e.fVars)).length:Nat):Int)<=d))
def z18 (n:Nat)(q:Av)(e:Int)(p:Int)(h:A8):Option (A8×Bool):=cnd (decide (e=p)) (some (h,true))<|bnd (Mj n (⟨q.fVars⟩:Av) e) λd=>cnd (decide (((d.map A5).length:Int)=0)) (some (⟨0,0,0,0,[]⟩,false))<|idx d (aA .i64 (((d.map A5).length:Int)-1)) λg=>some (g,true)
def Qx (n:Nat)(q:B4)(p:(List A8))(c:(List A9)->Option (A9×Int)):Nat->Int×(List A9)->Option (A9×Int) |0,_=>none |d+1,b=>cnd (decide (b.1<((p.map A5).length:Int))) (idx p b.1 λe=>cnd (decide (((e.fValues.map Ag).length:Int)<=q.fField)) (some (⟨0,0,ByteArray.empty⟩,6))<|idx p b.1 λf=>idx f.fValues q.fField λg=>app b.2 [g] 32 λh=>(Qx n q p c d) ((aA .i64 (b.1+1)),h))<|c b.2
def S7 (n:Nat)(h:B4)(p:Av)(z:Int)(u:A8):Option (A9×Int):=cnd (decide (h.fOp=0)) (some (h.fValue,0))<|cnd (decide (h.fOp=3)) (bnd (Mj n (⟨p.fVars⟩:Av) h.fVar) λt=>some (⟨0,((t.map A5).length:Int),ByteArray.empty⟩,0))<|cnd (decide (h.fOp=4)) (bnd (Mj n (⟨p.fVars⟩:Av) h.fVar) λq=>Qx n h q (λc=>bnd (Sq n h.fKind c h.fValue) λd=>some (d.1,d.2)) n (0,[]))<|bnd (z18 n (⟨p.fVars⟩:Av) h.fVar z u) λb=>cnd (!(b.2)) (some (⟨0,0,ByteArray.empty⟩,10))<|cnd (decide (h.fOp=2)) (some (⟨0,b.1.fTime,ByteArray.empty⟩,0))<|cnd (decide (((b.1.fValues.map Ag).length:Int)<=h.fField)) (some (⟨0,0,ByteArray.empty⟩,6))<|idx b.1.fValues h.fField λf=>bnd (Hh n f) λe=>cnd (!decide (e=0)) (some (⟨0,0,ByteArray.empty⟩,e))<|idx b.1.fValues h.fField λg=>some (g,0)
def Ip (n:Nat)(b:Bool):Option (Int):=cnd (b) (some 1)<|some (-1)
def Gx (n:Nat)(d:Int)(b:Bool):Option (Int):=cnd (b) (some 0)<|jon (Ip n)<|reg<|cnd (decide (d=10)) (Ip n (decide (d=10)))<|reg<|cnd (decide (d=11)) (Ip n (decide (d=11)))<|Ip n (decide (d=12))
def V6 (n:Nat)(d:Int):Option (Int):=jon (Gx n d)<|reg<|cnd (decide (d=5)) (Gx n d (decide (d=5)))<|reg<|cnd (decide (d=6)) (Gx n d (decide (d=6)))<|reg<|cnd (decide (d=7)) (Gx n d (decide (d=7)))<|Gx n d (decide (d=8))
def G1 (n:Nat)(e:(List Int))(g:Int)(c:Int)(b:Int->Option (Int))(d:Bool):Option (Int):=cnd (d) (some 9)<|b (aA .i64 (c+1))
def Fb (n:Nat)(p:(List Int))(q:Int)(b:Option (Int)):Nat->Int->Option (Int) |0,_=>none |d+1,c=>cnd (decide (c<((p.map aI).length:Int))) (bnd (V6 n q) λe=>jon (G1 n p q c (Fb n p q b d))<|reg<|cnd (decide (0<=e)) (idx p c λf=>cnd (!decide (f=e)) (G1 n p q c (Fb n p q b d) true)<|cnd (decide (q=9)) (idx p c λg=>idx p 0 λh=>G1 n p q c (Fb n p q b d) (!decide (g=h)))<|G1 n p q c (Fb n p q b d) false)<|cnd (decide (q=9)) (idx p c λj=>idx p 0 λk=>G1 n p q c (Fb n p q b d) (!decide (j=k)))<|G1 n p q c (Fb n p q b d) false)<|b
def Zk (n:Nat)(e:Int)(d:(List Int)):Option (Int):=Fb n d e (some 0) n 0
def Dz (n:Nat)(d:Bool):Option (A9):=cnd (d) (some (⟨1,1,ByteArray.empty⟩))<|some (⟨1,0,ByteArray.empty⟩)
def Lk (n:Nat)(b:Int×Int×ByteArray):Option (A9):=some (⟨b.1,b.2.1,b.2.2⟩)
def Lj (n:Nat)(b:Int×Int×ByteArray):Option (A9):=some (⟨b.1,b.2.1,b.2.2⟩)
def Mv (n:Nat)(u:Int)(t:(List A9)):Option (A9):=cnd (decide (u=5)) (idx t 0 λL=>idx t 1 λJ=>some (⟨0,(aA .i64 (L.fNum+J.fNum)),ByteArray.empty⟩))<|cnd (decide (u=6)) (idx t 0 λI=>idx t 1 λH=>some (⟨0,(aA .i64 (I.fNum-H.fNum)),ByteArray.empty⟩))<|cnd (decide (u=7)) (idx t 0 λG=>idx t 1 λD=>bnd (Dz n (decide (G.fNum<D.fNum))) λC=>some C)<|cnd (decide (u=8)) (idx t 0 λA=>idx t 1 λz=>bnd (Dz n (decide (A.fNum<=z.fNum))) λh=>some h)<|cnd (decide (u=9)) (idx t 0 λb=>idx t 1 λc=>bnd (Dz n (decide (b.fKind=c.fKind) && (decide (b.fNum=c.fNum) && ((b.fText.toList == c.fText.toList) && true)))) λj=>some j)<|cnd (decide (u=10)) (jon (Lk n)<|reg<|idx t 0 λk=>cnd (decide (k.fNum=1)) (idx t 1 λl=>bnd (Dz n (decide (l.fNum=1))) λd=>Lk n (d.fKind,d.fNum,d.fText))<|bnd (Dz n false) λe=>Lk n (e.fKind,e.fNum,e.fText))<|cnd (decide (u=11)) (jon (Lj n)<|reg<|idx t 0 λo=>cnd (decide (o.fNum=1)) (bnd (Dz n true) λf=>Lj n (f.fKind,f.fNum,f.fText))<|idx t 1 λp=>bnd (Dz n (decide (p.fNum=1))) λg=>Lj n (g.fKind,g.fNum,g.fText))<|idx t 0 λq=>bnd (Dz n (!decide (q.fNum=1))) λs=>some s
def Qy (n:Nat)(b:B4->Av->Int->A8->Option (A9×Int))(q:A8)(t:Int)(u:Av)(p:B4)(d:(List A9)->(List Int)->Option (A9×Int)):Nat->Int×(List A9)×(List Int)->Option (A9×Int) |0,_=>none |f+1,c=>cnd (decide (c.1<((p.fArgs.map idA).length:Int))) (idxD C7 p.fArgs c.1 λg=>bnd (b g (⟨u.fVars⟩:Av) t q) λe=>cnd (!decide (e.2=0)) (some (⟨0,0,ByteArray.empty⟩,e.2))<|app c.2.1 [e.1] 32 λh=>app c.2.2 [e.1.fKind] 8 λj=>(Qy n b q t u p d f) ((aA .i64 (c.1+1)),h,j))<|d c.2.1 c.2.2
def Hk:Nat->B4->Av->Int->A8->Option (A9×Int) |0,_,_,_,_=>none |n+1,g,t,q,p=>cnd (decide (((g.fArgs.map idA).length:Int)=0)) (bnd (S7 n g (⟨t.fVars⟩:Av) q p) λh=>some (h.1,h.2))<|Qy n (Hk n) p q t g (λb c=>bnd (Zk n g.fOp c) λd=>cnd (!decide (d=0)) (some (⟨0,0,ByteArray.empty⟩,d))<|bnd (Mv n g.fOp b) λe=>some (e,0)) n (0,[],[])
def z19 (n:Nat)(g:B4)(q:Av)(p:Int)(h:A8):Option (A9×Int):=bnd (Gf n g) λe=>cnd (!decide (e=0)) (some (⟨0,0,ByteArray.empty⟩,e))<|bnd (Hk n g (⟨q.fVars⟩:Av) p h) λd=>some (d.1,d.2)
def Ll (n:Nat)(b:Bool):Option (Bool):=some b
def Gb (n:Nat)(q:B4)(p:Av)(h:Int)(g:A8):Option (Bool):=bnd (z19 n q (⟨p.fVars⟩:Av) h g) λd=>jon (Ll n)<|reg<|cnd (decide (d.2=0)) (bnd (Dz n true) λe=>Ll n (decide (d.1.fKind=e.fKind) && (decide (d.1.fNum=e.fNum) && ((d.1.fText.toList == e.fText.toList) && true))))<|Ll n false
structure Bh where
 fTime:Int
 fSource:Int
 fSeq:Int
deriving DecidableEq,Inhabited
def Bj (x:Bh):AV:=.agg [aI (x.fTime),aI (x.fSource),aI (x.fSeq)]
abbrev y4a (x:Bh):List AV:=[aI (x.fTime),aI (x.fSource),aI (x.fSeq)]
structure Bl where
 fVar:Int
 fRef:Bh
deriving DecidableEq,Inhabited
def B0 (x:Bl):AV:=.agg [aI (x.fVar),aI (x.fRef.fTime),aI (x.fRef.fSource),aI (x.fRef.fSeq)]
abbrev zqb (x:Bl):List AV:=[aI (x.fVar),aI (x.fRef.fTime),aI (x.fRef.fSource),aI (x.fRef.fSeq)]
structure Ac where
 fBindings:(List Bl)
deriving DecidableEq,Inhabited
def B1 (x:Ac):AV:=.agg [.sl 4 (x.fBindings.map B0)]
abbrev O6 (x:Ac):List AV:=[.sl 4 (x.fBindings.map B0)]
def S1 (n:Nat)(e:Bh)(d:Bh):Option (Int):=cnd (!decide (e.fTime=d.fTime)) (cnd (decide (e.fTime<d.fTime)) (some (-1))<|some 1)<|cnd (!decide (e.fSource=d.fSource)) (cnd (decide (e.fSource<d.fSource)) (some (-1))<|some 1)<|cnd (decide (e.fSeq<d.fSeq)) (some (-1))<|cnd (decide (d.fSeq<e.fSeq)) (some 1)<|some 0
def Vw (n:Nat)(e:Bl)(d:Bl):Option (Int):=bnd (S1 n (⟨e.fRef.fTime,e.fRef.fSource,e.fRef.fSeq⟩:Bh) (⟨d.fRef.fTime,d.fRef.fSource,d.fRef.fSeq⟩:Bh)) λg=>cnd (!decide (g=0)) (some g)<|cnd (decide (e.fVar<d.fVar)) (some (-1))<|cnd (decide (d.fVar<e.fVar)) (some 1)<|some 0
def Kx (n:Nat)(p:Ac)(q:Ac)(b:Int)(e:Option (Int))(f:Int->Option (Int))(h:Bool):Option (Int):=cnd (h) (idx q.fBindings b λc=>idx p.fBindings b λd=>bnd (Vw n (⟨c.fVar,⟨c.fRef.fTime,c.fRef.fSource,c.fRef.fSeq⟩⟩:Bl) (⟨d.fVar,⟨d.fRef.fTime,d.fRef.fSource,d.fRef.fSeq⟩⟩:Bl)) λg=>cnd (!decide (g=0)) (some g)<|f (aA .i64 (b+1)))<|e
def Iv (n:Nat)(e:Ac)(g:Ac)(b:Option (Int)):Nat->Int->Option (Int) |0,_=>none |d+1,c=>jon (Kx n e g c b (Iv n e g b d))<|reg<|cnd (decide (c<((g.fBindings.map B0).length:Int))) (Kx n e g c b (Iv n e g b d) (decide (c<((e.fBindings.map B0).length:Int))))<|Kx n e g c b (Iv n e g b d) false
def Lx (n:Nat)(e:Ac)(d:Ac):Option (Int):=Iv n d e (cnd (decide (((e.fBindings.map B0).length:Int)<((d.fBindings.map B0).length:Int))) (some (-1))<|cnd (decide (((d.fBindings.map B0).length:Int)<((e.fBindings.map B0).length:Int))) (some 1)<|some 0) n 0
structure Ap where
 fScope:Int
 fTime:Int
deriving DecidableEq,Inhabited
def Ai (x:Ap):AV:=.agg [aI (x.fScope),aI (x.fTime)]
abbrev zf2 (x:Ap):List AV:=[aI (x.fScope),aI (x.fTime)]
structure A1 where
 fState:Int
 fBindings:(List Bl)
 fStarts:(List Ap)
deriving DecidableEq,Inhabited
def A7 (x:A1):AV:=.agg [aI (x.fState),.sl 4 (x.fBindings.map B0),.sl 2 (x.fStarts.map Ai)]
abbrev C1 (x:A1):List AV:=[aI (x.fState),.sl 4 (x.fBindings.map B0),.sl 2 (x.fStarts.map Ai)]
def Iu (n:Nat)(g:A1)(h:A1)(e:Int)(b:Int->Option (Int))(c:Ap)(d:Ap)(f:Bool):Option (Int):=cnd (f) (some (-1))<|cnd (!(decide (c.fScope=d.fScope) && (decide (c.fTime=d.fTime) && true))) (some 1)<|b (aA .i64 (e+1))
def Kv (n:Nat)(h:A1)(p:A1)(b:Int)(f:Option (Int))(c:Int->Option (Int))(g:Bool):Option (Int):=cnd (g) (idx p.fStarts b λd=>idx h.fStarts b λe=>jon (Iu n h p b c d e)<|reg<|cnd (decide (d.fScope<e.fScope)) (Iu n h p b c d e true)<|cnd (decide (d.fScope=e.fScope)) (Iu n h p b c d e (decide (d.fTime<e.fTime)))<|Iu n h p b c d e false)<|f
def Ir (n:Nat)(e:A1)(g:A1)(b:Option (Int)):Nat->Int->Option (Int) |0,_=>none |d+1,c=>jon (Kv n e g c b (Ir n e g b d))<|reg<|cnd (decide (c<((g.fStarts.map Ai).length:Int))) (Kv n e g c b (Ir n e g b d) (decide (c<((e.fStarts.map Ai).length:Int))))<|Kv n e g c b (Ir n e g b d) false
def Qv (n:Nat)(e:A1)(d:A1):Option (Int):=cnd (!decide (e.fState=d.fState)) (cnd (decide (e.fState<d.fState)) (some (-1))<|some 1)<|bnd (Lx n (⟨e.fBindings⟩:Ac) (⟨d.fBindings⟩:Ac)) λg=>cnd (!decide (g=0)) (some g)<|Ir n d e (cnd (decide (((e.fStarts.map Ai).length:Int)<((d.fStarts.map Ai).length:Int))) (some (-1))<|cnd (decide (((d.fStarts.map Ai).length:Int)<((e.fStarts.map Ai).length:Int))) (some 1)<|some 0) n 0
def Mb (n:Nat)(q:A1)(p:(List A1))(b:Int)(c:Bool):Option ((List A1)):=cnd (c) (some p)<|sls p 0 b λd=>app ([]:List A1) d 56 λe=>app e [q] 56 λf=>sls p b ((p.map A7).length:Int) λg=>app f g 56 λh=>some h
def M9 (n:Nat)(g:A1)(h:(List A1))(b:Int)(c:Int->Option ((List A1)))(d:Int->Option ((List A1)))(e:Bool):Option ((List A1)):=cnd (e) (d (aA .i64 (b+1)))<|c b
def Jf (n:Nat)(h:A1)(g:(List A1))(b:Int->Option ((List A1))):Nat->Int->Option ((List A1)) |0,_=>none |d+1,c=>jon (M9 n h g c b (Jf n h g b d))<|reg<|cnd (decide (c<((g.map A7).length:Int))) (idx g c λe=>bnd (Qv n e h) λf=>M9 n h g c b (Jf n h g b d) (decide (f<0)))<|M9 n h g c b (Jf n h g b d) false
def N7 (n:Nat)(e:(List A1))(g:A1):Option ((List A1)):=Jf n g e (λb=>jon (Mb n g e b)<|reg<|cnd (decide (b<((e.map A7).length:Int))) (idx e b λc=>bnd (Qv n c g) λd=>Mb n g e b (decide (d=0)))<|Mb n g e b false) n 0
def Jt (n:Nat)(b:Bool):Option (Bool):=some b
def T7 (n:Nat)(d:Int):Option (Bool):=jon (Jt n)<|reg<|cnd (decide (0<=d)) (Jt n (decide (d<=5)))<|Jt n false
def Ho (n:Nat)(b:Bool):Option (Bool):=some b
def T6 (n:Nat)(d:Int)(e:A9):Option (Bool):=jon (Ho n)<|reg<|cnd (decide (e.fKind=0)) (Ho n true)<|cnd (!decide (d=1)) (cnd (!decide (d=2)) (Ho n (!decide (d=3)))<|Ho n false)<|Ho n false
def Nm (n:Nat)(h:Int)(e:A9):Option (Int):=bnd (Gl n e) λd=>cnd (!decide (d=0)) (some d)<|bnd (T6 n h e) λg=>cnd (!(g)) (some 9)<|some 0
def z1z (n:Nat)(e:Int)(d:A9):Option (A9):=cnd (decide (e=0)) (some (⟨0,0,ByteArray.empty⟩))<|some d
def z11 (n:Nat):Option (A9):=some (⟨0,0,ByteArray.empty⟩)
def z10 (n:Nat)(e:A9)(d:A9):Option (A9×A9×A9):=some (⟨0,(aA .i64 (e.fNum+d.fNum)),ByteArray.empty⟩,e,d)
def z0z (n:Nat)(e:A9)(d:A9):Option (A9×A9×A9):=some (⟨0,(min e.fNum d.fNum),ByteArray.empty⟩,e,d)
def z0y (n:Nat)(e:A9)(d:A9):Option (A9×A9×A9):=some (⟨0,(max e.fNum d.fNum),ByteArray.empty⟩,e,d)
def z0x (n:Nat)(d:A9):Option (A9×A9):=some (d,d)
def z0w (n:Nat)(d:A9):Option (A9×A9):=some (d,d)
def Wz (n:Nat)(d:Int)(g:A9)(e:A9):Option (A9):=natc d 0 (bnd (z11 n) λz=>some z)<|natc d 1 (bndM 15 (z10 n g e) λu=>some u.1)<|natc d 2 (bndM 15 (z0z n g e) λt=>some t.1)<|natc d 3 (bndM 15 (z0y n g e) λq=>some q.1)<|natc d 4 (bndM 15 (z0x n g) λp=>some p.1)<|natc d 5 (bndM 15 (z0w n e) λh=>some h.1)<|none
def z20 (n:Nat)(d:C4)(e:C4):Option (C4):=cnd (decide (d.fCount=0)) (some e)<|cnd (decide (e.fCount=0)) (some d)<|bnd (Wz n d.fKind d.fValue e.fValue) λg=>some (⟨d.fKind,(aA .i64 (d.fCount+e.fCount)),g⟩)
def z2r (n:Nat)(p:C4)(h:A9)(d:Int):Option (C4):=bnd (z1z n d h) λg=>bnd (z20 n p (⟨d,1,g⟩:C4)) λe=>some e
def S6 (n:Nat)(e:Int)(h:(List A9))(c:Int->Int->Int->Int->ByteArray->Option (C4)):Nat->Int×Int×Int×Int×Int×ByteArray->Option (C4) |0,_=>none |f+1,b=>cnd (decide (b.1<((h.map Ag).length:Int))) (idx h b.1 λg=>bnd (z2r n (⟨b.2.1,b.2.2.1,⟨b.2.2.2.1,b.2.2.2.2.1,b.2.2.2.2.2⟩⟩:C4) g e) λd=>(S6 n e h c f) ((aA .i64 (b.1+1)),d.fKind,d.fCount,d.fValue.fKind,d.fValue.fNum,d.fValue.fText))<|c b.2.1 b.2.2.1 b.2.2.2.1 b.2.2.2.2.1 b.2.2.2.2.2
def X6 (n:Nat)(h:C4)(p:(List A9))(g:Int):Option (C4):=S6 n g p (λb c d e f=>some (⟨b,c,⟨d,e,f⟩⟩)) n (0,h.fKind,h.fCount,h.fValue.fKind,h.fValue.fNum,h.fValue.fText)
def N5 (n:Nat)(d:C4)(b:Bool):Option (Int):=cnd (b) (some 2)<|reg<|cnd (decide (d.fCount=0)) (cnd (!((decide (d.fValue.fKind=0) && (decide (d.fValue.fNum=0) && ((d.fValue.fText.toList == ByteArray.empty.toList) && true))))) (some 3)<|some 0)<|cnd (decide (d.fKind=0)) (cnd (!((decide (d.fValue.fKind=0) && (decide (d.fValue.fNum=0) && ((d.fValue.fText.toList == ByteArray.empty.toList) && true))))) (some 3)<|some 0)<|reg<|cnd (decide (d.fKind=1)) (reg<|cnd (decide (d.fValue.fKind=0)) (cnd ((d.fValue.fText.toList == ByteArray.empty.toList)) (cnd (decide ((aA .i64 (0-(aA .i64 (d.fCount*1099511627776))))<=d.fValue.fNum)) (cnd (!(decide (d.fValue.fNum<=(aA .i64 (d.fCount*1099511627776))))) (some 3)<|some 0)<|some 3)<|some 3)<|some 3)<|reg<|bnd (Gl n d.fValue) λg=>cnd (decide (g=0)) (bnd (T6 n d.fKind d.fValue) λe=>cnd (!(e)) (some 3)<|some 0)<|some 3
def Xf (n:Nat)(d:C4):Option (Int):=bnd (T7 n d.fKind) λe=>cnd (!(e)) (some 1)<|jon (N5 n d)<|reg<|cnd (decide (d.fCount<0)) (N5 n d true)<|N5 n d (decide (4096<d.fCount))
def N1 (n:Nat)(d:A9)(e:C4)(b:Bool):Option (A9×Int):=cnd (b) (some (d,0))<|some (e.fValue,0)
def Sy (n:Nat)(d:C4)(e:A9):Option (A9×Int):=bnd (Xf n d) λh=>cnd (!decide (h=0)) (some (⟨0,0,ByteArray.empty⟩,h))<|bnd (Nm n d.fKind e) λg=>cnd (!decide (g=0)) (some (⟨0,0,ByteArray.empty⟩,g))<|cnd (decide (d.fKind=0)) (some (⟨0,d.fCount,ByteArray.empty⟩,0))<|jon (N1 n e d)<|reg<|cnd (decide (d.fCount=0)) (N1 n e d (!decide (d.fKind=1)))<|N1 n e d false
def T8 (n:Nat)(p:A9)(g:(List A9))(h:Int)(b:Option (A9×Int)):Nat->Int->Option (A9×Int) |0,_=>none |d+1,c=>cnd (decide (c<((g.map Ag).length:Int))) (idx g c λf=>bnd (Nm n h f) λe=>cnd (!decide (e=0)) (some (⟨0,0,ByteArray.empty⟩,e))<|(T8 n p g h b d) (aA .i64 (c+1)))<|b
def Tm (n:Nat)(d:Int)(e:(List A9))(g:A9):Option (A9×Int):=bnd (T7 n d) λh=>cnd (!(h)) (some (⟨0,0,ByteArray.empty⟩,1))<|cnd (decide (4096<((e.map Ag).length:Int))) (some (⟨0,0,ByteArray.empty⟩,5))<|T8 n g e d (bnd (X6 n (⟨d,0,⟨0,0,ByteArray.empty⟩⟩:C4) e d) λc=>bnd (Sy n c g) λb=>some (b.1,b.2)) n 0
def Y4 (n:Nat)(d:Int):Option (Bool):=some (!decide (d=d))
def D3 (n:Nat)(e:Int)(d:Int):Option (Int):=bnd (Y4 n e) λh=>bnd (Y4 n d) λg=>cnd (h) (cnd (g) (some 0)<|some (-1))<|cnd (g) (some 1)<|cnd (decide (e<d)) (some (-1))<|cnd (decide (d<e)) (some 1)<|some 0
def Tu (n:Nat)(g:(List Int))(b:Option (Int)):Nat->Int->Option (Int) |0,_=>none |d+1,c=>cnd (decide (c<((g.map aI).length:Int))) (idx g c λe=>cnd (!decide (e=0)) (some e)<|(Tu n g b d) (aA .i64 (c+1)))<|b
def Ez (n:Nat)(d:(List Int)):Option (Int):=Tu n d (some 0) n 0
def Xw (n:Nat)(e:Bh)(d:Bh):Option (Int):=bnd (D3 n e.fTime d.fTime) λq=>bnd (D3 n e.fSource d.fSource) λp=>bnd (D3 n e.fSeq d.fSeq) λh=>bnd (Ez n ([q,p,h])) λg=>some g
def Xc (n:Nat)(e:Bl)(d:Bl):Option (Int):=bnd (Xw n (⟨e.fRef.fTime,e.fRef.fSource,e.fRef.fSeq⟩:Bh) (⟨d.fRef.fTime,d.fRef.fSource,d.fRef.fSeq⟩:Bh)) λp=>bnd (D3 n e.fVar d.fVar) λh=>bnd (Ez n ([p,h])) λg=>some g
def Qz (n:Nat)(h:(List Bl))(p:(List Bl))(c:Option (Int)):Nat->Int->Option (Int) |0,_=>none |f+1,b=>cnd (decide (b<((p.map B0).length:Int))) (idx p b λd=>cnd (decide (((h.map B0).length:Int)<=b)) (some 1)<|idx h b λe=>bnd (Xc n (⟨d.fVar,⟨d.fRef.fTime,d.fRef.fSource,d.fRef.fSeq⟩⟩:Bl) (⟨e.fVar,⟨e.fRef.fTime,e.fRef.fSource,e.fRef.fSeq⟩⟩:Bl)) λg=>cnd (!decide (g=0)) (some g)<|(Qz n h p c f) (aA .i64 (b+1)))<|c
def Wa (n:Nat)(e:(List Bl))(d:(List Bl)):Option (Int):=Qz n d e (cnd (decide (((e.map B0).length:Int)<((d.map B0).length:Int))) (some (-1))<|some 0) n 0
def Te (n:Nat)(g:Ac)(e:Ac):Option (Int):=bnd (Wa n g.fBindings e.fBindings) λd=>some d
def Xl (n:Nat)(e:Ap)(d:Ap):Option (Int):=bnd (D3 n e.fScope d.fScope) λp=>bnd (D3 n e.fTime d.fTime) λh=>bnd (Ez n ([p,h])) λg=>some g
def Pg (n:Nat)(h:(List Ap))(p:(List Ap))(c:Option (Int)):Nat->Int->Option (Int) |0,_=>none |d+1,b=>cnd (decide (b<((p.map Ai).length:Int))) (idx p b λf=>cnd (decide (((h.map Ai).length:Int)<=b)) (some 1)<|idx h b λg=>bnd (Xl n f g) λe=>cnd (!decide (e=0)) (some e)<|(Pg n h p c d) (aA .i64 (b+1)))<|c
def V8 (n:Nat)(e:(List Ap))(d:(List Ap)):Option (Int):=Pg n d e (cnd (decide (((e.map Ai).length:Int)<((d.map Ai).length:Int))) (some (-1))<|some 0) n 0
def Xq (n:Nat)(e:A1)(d:A1):Option (Int):=bnd (D3 n e.fState d.fState) λq=>bnd (Te n (⟨e.fBindings⟩:Ac) (⟨d.fBindings⟩:Ac)) λp=>bnd (V8 n e.fStarts d.fStarts) λh=>bnd (Ez n ([q,p,h])) λg=>some g
def Gj (n:Nat)(b:Bool):Option (Bool):=some b
def zdh (n:Nat)(d:A8):Option (Bool):=jon (Gj n)<|reg<|cnd (decide (0<=d.fTime)) (cnd (decide (d.fTime<=1099511627776)) (cnd (decide (0<=d.fSource)) (cnd (decide (d.fSource<8)) (cnd (decide (0<=d.fSeq)) (Gj n (decide (d.fSeq<=1099511627776)))<|Gj n false)<|Gj n false)<|Gj n false)<|Gj n false)<|Gj n false
def Og (n:Nat)(d:A8):Option (Bh):=some (⟨d.fTime,d.fSource,d.fSeq⟩)
def zds (n:Nat)(e:Bh)(d:Bh):Option (Int):=bnd (D3 n e.fTime d.fTime) λq=>bnd (D3 n e.fSource d.fSource) λp=>bnd (D3 n e.fSeq d.fSeq) λh=>bnd (Ez n ([q,p,h])) λg=>some g
def zdi (n:Nat)(e:Bl)(h:A8):Option (Bool):=bnd (Og n h) λd=>bnd (zds n (⟨e.fRef.fTime,e.fRef.fSource,e.fRef.fSeq⟩:Bh) (⟨d.fTime,d.fSource,d.fSeq⟩:Bh)) λg=>some (decide (0<=g))
def Zg (n:Nat)(e:A8)(h:(List Bl))(c:Option (Int)):Nat->Int->Option (Int) |0,_=>none |f+1,b=>cnd (decide (b<((h.map B0).length:Int))) (idx h b λd=>bnd (zdi n (⟨d.fVar,⟨d.fRef.fTime,d.fRef.fSource,d.fRef.fSeq⟩⟩:Bl) e) λg=>cnd (g) (some b)<|(Zg n e h c f) (aA .i64 (b+1)))<|c
def z1o (n:Nat)(d:(List Bl))(b:A8):Option (Int):=Zg n b d (some (-1)) n 0
def z12 (n:Nat)(e:(List Bl))(b:A8):Option (Bool):=bnd (z1o n e b) λd=>some (decide (0<=d))
def zh3 (n:Nat)(g:A1)(e:A8):Option (Bool):=bnd (z12 n g.fBindings e) λd=>some d
def zdj (n:Nat)(g:A1)(e:A8):Option (Bool):=bnd (zh3 n g e) λd=>some d
def Zh (n:Nat)(d:A8)(h:(List A1))(c:Option (Int)):Nat->Int->Option (Int) |0,_=>none |e+1,b=>cnd (decide (b<((h.map A7).length:Int))) (idx h b λf=>bnd (zdj n f d) λg=>cnd (g) (some b)<|(Zh n d h c e) (aA .i64 (b+1)))<|c
def z1p (n:Nat)(d:(List A1))(b:A8):Option (Int):=Zh n b d (some (-1)) n 0
def z13 (n:Nat)(e:(List A1))(b:A8):Option (Bool):=bnd (z1p n e b) λd=>some (decide (0<=d))
def zdt (n:Nat)(h:(List A1))(d:A8):Option (Int):=bnd (zdh n d) λg=>cnd (!(g)) (some 2)<|bnd (z13 n h d) λe=>cnd (e) (some 14)<|some 0
attribute [irreducible] Lm Ep G8 J6 Ly H4 Cb H9 Lz M0 J7 Eg Md Iz Dx G6 H3 Nt O0 O1 K6 Hp Cc O2 O3 K8 Ei My Jq Jr Dk E1 E2 J8 H5 Ln Lo Lp Jk L8 L7 Ip Gx G1 Lk Lj Ll Kx Iu Kv Mb M9 Jt Ho N5 N1 Gj
def Xr (n:Nat)(d:Int):Option (Bool):=some (!decide (d=d))
def Fi (n:Nat)(e:Int)(d:Int):Option (Int):=bnd (Xr n e) λh=>bnd (Xr n d) λg=>cnd (h) (cnd (g) (some 0)<|some (-1))<|cnd (g) (some 1)<|cnd (decide (e<d)) (some (-1))<|cnd (decide (d<e)) (some 1)<|some 0
def Tn (n:Nat)(g:(List Int))(b:Option (Int)):Nat->Int->Option (Int) |0,_=>none |d+1,c=>cnd (decide (c<((g.map aI).length:Int))) (idx g c λe=>cnd (!decide (e=0)) (some e)<|(Tn n g b d) (aA .i64 (c+1)))<|b
def Gn (n:Nat)(d:(List Int)):Option (Int):=Tn n d (some 0) n 0
def Xp (n:Nat)(e:Bh)(d:Bh):Option (Int):=bnd (Fi n e.fTime d.fTime) λq=>bnd (Fi n e.fSource d.fSource) λp=>bnd (Fi n e.fSeq d.fSeq) λh=>bnd (Gn n ([q,p,h])) λg=>some g
def Wp (n:Nat)(e:Bl)(d:Bl):Option (Int):=bnd (Xp n e.fRef d.fRef) λp=>bnd (Fi n e.fVar d.fVar) λh=>bnd (Gn n ([p,h])) λg=>some g
def Q4 (n:Nat)(h:(List Bl))(p:(List Bl))(c:Option (Int)):Nat->Int->Option (Int) |0,_=>none |d+1,b=>cnd (decide (b<((p.map B0).length:Int))) (idx p b λf=>cnd (decide (((h.map B0).length:Int)<=b)) (some 1)<|idx h b λg=>bnd (Wp n f g) λe=>cnd (!decide (e=0)) (some e)<|(Q4 n h p c d) (aA .i64 (b+1)))<|c
def Vr (n:Nat)(e:(List Bl))(d:(List Bl)):Option (Int):=Q4 n d e (cnd (decide (((e.map B0).length:Int)<((d.map B0).length:Int))) (some (-1))<|some 0) n 0
def Xb (n:Nat)(g:Ac)(e:Ac):Option (Int):=bnd (Vr n g.fBindings e.fBindings) λd=>some d
def Xa (n:Nat)(e:Ap)(d:Ap):Option (Int):=bnd (Fi n e.fScope d.fScope) λp=>bnd (Fi n e.fTime d.fTime) λh=>bnd (Gn n ([p,h])) λg=>some g
def P9 (n:Nat)(h:(List Ap))(p:(List Ap))(c:Option (Int)):Nat->Int->Option (Int) |0,_=>none |d+1,b=>cnd (decide (b<((p.map Ai).length:Int))) (idx p b λf=>cnd (decide (((h.map Ai).length:Int)<=b)) (some 1)<|idx h b λg=>bnd (Xa n f g) λe=>cnd (!decide (e=0)) (some e)<|(P9 n h p c d) (aA .i64 (b+1)))<|c
def V2 (n:Nat)(e:(List Ap))(d:(List Ap)):Option (Int):=P9 n d e (cnd (decide (((e.map Ai).length:Int)<((d.map Ai).length:Int))) (some (-1))<|some 0) n 0
def z2z (n:Nat)(e:A1)(d:A1):Option (Int):=bnd (Fi n e.fState d.fState) λq=>bnd (Xb n (⟨e.fBindings⟩:Ac) (⟨d.fBindings⟩:Ac)) λp=>bnd (V2 n e.fStarts d.fStarts) λh=>bnd (Gn n ([q,p,h])) λg=>some g
end Go.Proofs.YthbogefcfhmpgaaGreat
