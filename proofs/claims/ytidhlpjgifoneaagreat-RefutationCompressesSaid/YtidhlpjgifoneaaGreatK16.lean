/- Forms of terms. -/
import Derived.Test.YtidhlpjgifoneaaGreatK14
import Derived.Test.YtidhlpjgifoneaaGreatK15
set_option linter.unusedVariables false
set_option linter.unusedSimpArgs false
namespace Go.Proofs.YtidhlpjgifoneaaGreat
open Go.RowKit List
open Nat renaming eq_of_beq_eq_true->aA,beq->aF,le_refl->aH,zero_add->aK,lt_of_lt_of_le->aO
open _root_.Array renaming getD_eq_getD_getElem?->aB,size_append->aP
open Option.some renaming injEq->aC
open List renaming getD_eq_getElem?_getD->aD,length_replicate->aJ,getElem_replicate->aQ,length_set->aS,replicate->aT
open Or renaming inl->aE,inr->aG
open Option renaming none_or->aL
open AS renaming freeze->aM
open AV renaming closedL->aN,cells->aU
noncomputable def E0b:Env:={ E0 with bl:=true }
variable {E:Env}{xs:List AV}{ty sz:Nat}
theorem ConC.env {E':Env}{inp:Bool}{f:FuncId}{avs a:List AV}{b c:Nat}{res:AV}(d:E'.P=E.P)(h:ConC inp E f avs ty sz xs b c a res):ConC inp E' f avs ty sz xs b c a res:=by
 refine ⟨by have:=h.1;unfold Ci at *;rw [d];exact this,h.2.1,fun S w0 w vs v us=>?_⟩;rw [d];exact h.2.2 S w0 w vs v us
section
variable {cx:Cx} {o:Oper} {σ:AS}
theorem zv3 {P:Program}{w:World}{S:Nat->Prop}{T kt et:TypeId}{k zA:AV}{vk vm z:Value}(ok:Bool)(e:P.underlying T=some (.map kt et))(b:Bv P kt k=true)(c:Rep w S G0 k vk)(hm:vm=.map none)
  (d:(zeroValue et).run P w=.ok z w) (a:Rep w S G0 zA z):∃ v,Rep w S G0 (Dz zA [] none) v/\(Instr.lookup T vm vk ok).run P w=.ok (if ok then .tuple #[v,.bool (none:Option Nat).isSome] else v) w:=by
 subst hm;have g:=(zam (P:=P) (w:=w) b c [] [] none rfl (fun j h=>absurd h (by simp)) rfl).1;refine ⟨z,a,?_⟩;cases ok<;>simp [Instr.lookup,run_underlying e,Xo _ b c,g,d,Result.andThen]
variable {ps:List (AV×AV)}
theorem mapv_val {γ:Gam}{w:World}{S:Nat->Prop}{v:Value}(b:Rep w S γ (.mapv ps) v):(∃ g a,v=.map (some g)/\S g/\g<w.heap.size/\Dq w S g a/\Hv a ps)\/(v=.map none/\ps=[]):=by
 cases b with
 |mapv a d g es clock n p m l e k b=>exact aE ⟨g,a,rfl,p,m,⟨es,clock,l,e,n,fun j h c=>⟨k j h c,b j h c⟩⟩,d⟩
 |mapn=>exact aG ⟨rfl,rfl⟩
variable {x:Operand}
theorem zgq {T kt et:Nat}{y:Operand}{ok:Bool}{i ie:TyI}{k av:AV}{r:Option Nat}(p:o.op=.lookup T x y ok)(M:dok cx o=true)(m:A7 x=true)(l:A7 y=true)(J:σ.eval x=.mapv ps)(I:σ.eval y=k)
  (D:lkT cx.E.tab T=some i) (A:i.shape=.map kt et) (C:lkT cx.E.tab et=some ie) (d:Om ie.zero=true) (h:Bv cx.P kt k=true) (q:Bz k (ps.map (·.1)) 0=some r)
  (u:Sub (Dz (Cz ie.zero) ps r) av):Aj cx o σ (Ge av r.isSome ok) [] [] :=
 B8 M fun τ γ a w h1 Q e=>by
  have F:=e.ev x m;rw [h1 x (by simp [p,Op.operands]),J] at F;have z:=e.ev y l;rw [h1 y (by simp [p,Op.operands]),I] at z;obtain ⟨v,b,c⟩:∃ v,Rep w (Sg cx.S0 cx.w0.heap.size γ) G0 (Dz (Cz ie.zero) ps r) v/\(Instr.lookup T (a.eval x) (a.eval y) ok).run cx.P w=.ok (if ok then .tuple #[v,.bool r.isSome] else v) w:=by
   rcases mapv_val F with ⟨g,H,n,_,_,hm,L⟩|⟨n,t⟩
   ·obtain ⟨G,P,O,N⟩:=zej L q;obtain ⟨v,b,c⟩:=zbo (S:=Sg cx.S0 cx.w0.heap.size γ) (zA:=Cz ie.zero) ok (Js (cx.E.ok T i D) A) h (z.flat (T2 h)) hm ((cx.E.ok et ie C).zeroV w) (X4 _ _ _ _ d) P;rw [O] at c;refine ⟨v,?_,by rw [n];exact c⟩;rw [<-N];cases G<;>exact b
   ·subst t;simp only [map_nil,Bz,aC] at q;subst q;exact zv3 ok (Js (cx.E.ok T i D) A) h (z.flat (w':=w) (S':=Sg cx.S0 cx.w0.heap.size γ) (γ':=G0) (T2 h)) n ((cx.E.ok et ie C).zeroV w) (X4 _ _ _ _ d)
  have b:=(b.open_ (γ':=γ)).sub u;refine ⟨(if ok then .tuple #[v,.bool r.isSome] else v),by simp only [execOp,p,Sem.run_bind,c,Result.andThen_ok,Sem.run_pure],?_⟩;cases ok with
  |false=>exact b
  |true =>
   simp only [Ge,if_true];refine .tup #[v,.bool r.isSome] rfl (fun j B=>?_);have B:j<2:=B;rcases j with _|_|j
   ·exact b
   ·exact .bool _
   ·omega
theorem zpe {T id q k t b:Nat}{i:TyI}{ty ety:TypeId}{ys:List AV}{el:AV}(G:o.op=.store T x (.tmp t))(I:dok cx o=true)(A:o.dst=none)(C:A7 x=true)(M:σ.eval x=.elt id sz k 0)(L:σ.get t=.row q)(U:lkT cx.E.tab T=some i)(hi:i.sz=1)(P:σ.find id=some (.row ty sz xs))(O:σ.find q=some (.row ety b ys))(z:id≠q)
  (l:xs[k]? = some el) (N:1<=sz) {el':AV} (H:el'.cells=.sl b ys::el.cells.drop 1) :
  Aj cx o σ (.tup []) [id,q] [(id,.row ty sz (xs.set k el')),(q,.dead)]:=by
 refine ⟨fun p e l=>?_,fun τ h1 J a w Q K F W=>?_⟩
 ·simp only [lkE] at l;cases c:aF id p with
  |true=>simp [aA c]
  |false =>
   rw [c] at l;simp only at l;cases m:aF q p with
   |true=>simp [aA m]
   |false=>rw [m] at l;cases l
 have tx:τ.eval x=.elt id sz k 0:=by rw [h1 x (by simp [G,Op.operands]),M]
 have n:τ.get t=.row q:=by have:=h1 (.tmp t) (by simp [G,Op.operands]);simpa [AS.eval,L] using this
 have tl:τ.find id=some (.row ty sz xs):=by rw [J id (by simp),P]
 have tq:τ.find q=some (.row ety b ys):=by rw [J q (by simp),O]
 have fr:St cx (τ.freeze t q b ys) a w:=LeX.freeze (E:=cx.E) (nt:=cx.nt) t q ety b ys n tq cx rfl rfl a w F;have Z:(τ.freeze t q b ys).eval x=.elt id sz k 0:=by
  cases x with
  |tmp u =>
   have B:u≠t:=fun e=>by
    subst e;have:τ.get u=.elt id sz k 0:=tx;rw [n] at this;cases this
   show (τ.freeze t q b ys).get u=_;have e:(τ.freeze t q b ys).get u=τ.get u:=by
    unfold aM AS.get;simp only [lkV];cases c:aF t u with
    |true=>exact absurd (aA c).symm B
    |false=>rfl
   rw [e];exact tx
  |_=>exact tx
 have Y:(τ.freeze t q b ys).eval (.tmp t)=.sl b ys:=by simp [AS.eval,aM,AS.get,lkV]
 have fnd:∀ j,j≠q->(τ.freeze t q b ys).find j=τ.find j:=fun j S=>by
  unfold aM AS.find;simp only [lkE];cases c:aF q j with
  |true=>exact absurd (aA c).symm S
  |false=>rfl
 have fndq:(τ.freeze t q b ys).find q=some .dead:=by simp [aM,AS.find,lkE]
 have X:(τ.freeze t q b ys).find id=some (.row ty sz xs):=by rw [fnd id z,tl]
 have R:=zdh (cx:=cx) (o:=o) (σ:=τ.freeze t q b ys) (el':=el') G I C rfl Z Y U X l (by rw [hi];rfl) (by rw [hi];omega) rfl rfl (by rw [hi];simpa [aU] using H);refine R.2 _ (fun _ _=>rfl) (fun _ _=>rfl) a w Q K fr (fun a' w' r=>W a' w' ?_);obtain ⟨γ,h⟩:=r;rw [A] at h ⊢;have dq:γ q=some none:=by
  have:=h.me q;rw [AS.find_upd] at this;have e:lkE [(id,Ent.row ty sz (xs.set k el'))] q=none:=by
   simp only [lkE];cases c:aF id q with
   |true=>exact absurd (aA c) z
   |false=>rfl
  rw [e,aL,fndq] at this;obtain ⟨d,I,l⟩:=this;have l:d=none:=l;rw [I,l]
 refine ⟨γ,fun u=>?_,fun j=>?_,h.inj,h.ge,h.below,h.size,h.defers,h.gh,h.fr,h.dr⟩
 ·rw [AS.get_upd,if_neg (by simp)];have D:=h.tm u;rw [AS.get_upd,if_neg (by simp)] at D;by_cases B:t=u
  ·subst B;rw [n];exact .row dq (fun g s e _=>by cases e)
  ·have e:(τ.freeze t q b ys).get u=τ.get u:=by
    unfold aM AS.get;simp only [lkV];cases c:aF t u with
    |true=>exact absurd (aA c) B
    |false=>rfl
   rw [e] at D;exact D
 ·have hm:=h.me j;rw [AS.find_upd] at hm ⊢;simp only [lkE] at hm ⊢;cases c:aF id j with
  |true=>rw [c] at hm;exact hm
  |false =>
   rw [c] at hm;simp only [aL] at hm ⊢;cases m:aF q j with
   |true => 
    have:=aA m;subst this;exact ⟨none,dq,rfl⟩
   |false =>
    simp only [aL];rw [fnd j (fun e=>by subst e;simp at m)] at hm;exact hm
theorem zfm {cs:List AV}(g:o.op=.nilCheck x)(l:dok cx o=true)(c:A7 x=true)(h:σ.eval x=.ref cs):Aj cx o σ (.ref cs) [] [] :=
 B8 l fun τ γ a w h1 m d=>by
  have e:=d.ev x c;rw [h1 x (by simp [g,Op.operands]),h] at e;obtain ⟨b,off,k,_⟩:=e.ref_inv;refine ⟨a.eval x,by simp only [execOp,g,k,Sem.run_pure],e⟩
theorem zfn {id off:Nat}{cs:List AV}(m:o.op=.nilCheck x)(r:dok cx o=true)(e:A7 x=true)(n:σ.eval x=.ptr id off)(q:σ.find id=some (.box ty cs)):Aj cx o σ (.ptr id off) [id] [] :=
 B8 r fun τ γ a w h1 t b=>by
  have l:=b.ev x e;rw [h1 x (by simp [m,Op.operands]),n] at l;have c:=b.me id;rw [t id (by simp),q] at c;obtain ⟨d,k,g,vs,h,_⟩:=c;subst h;have p:=l.ptr_inv k;refine ⟨a.eval x,by simp only [execOp,m,p,Sem.run_pure],l⟩
end
section
variable {α β κ ν:Type} {E:Env} {nt:Nat} {o:Oper} {σ:AS} {K:OpK}
variable {x:Operand}
theorem OpX.nckR {cs:List AV}(d:o.op=.nilCheck x)(g:dokN E nt o.dst=true)(a:A7 x=true)(c:σ.eval x=.ref cs)(e:K (.ref cs) [] []):OpX E nt o σ K:=.mk _ _ _ (fun cx h b=>zfm d (Am g h b) a c) e
theorem OpX.nckP {id off:Nat}{cs:List AV}(d:o.op=.nilCheck x)(h:dokN E nt o.dst=true)(a:A7 x=true)(c:σ.eval x=.ptr id off)(e:σ.find id=some (.box ty cs))(g:K (.ptr id off) [id] []):OpX E nt o σ K:=.mk _ _ _ (fun cx k b=>zfn d (Am h k b) a c e) g
theorem OpX.str {b:Type}(er:b->AV){l:List (List b)}{m:Nat}{v:List b}{k:List (List b)->Option β}{r:β}{T t id q ety:Nat}{i:TyI}(c:stx l m (fun _=>v) k=some r)(C:o.op=.store T x (.tmp t))(a:o.dst=none)(G:dokN E nt o.dst=true)(e:A7 x=true)(A:σ.eval x=.elt id 1 m 0)(z:σ.get t=.row q)(H:lkT E.tab T=some i)(hi:i.sz=1)
  (D:σ.find id=some (.row ty 1 (l.map fun q=>.sl sz (q.map er)))) (B:σ.find q=some (.row ety sz (v.map er))) (n:aF id q=false) (F:∀ p,k p=some r->K (.tup []) [id,q] [(id,.row ty 1 (p.map fun q=>.sl sz (q.map er))),(q,.dead)]):OpX E nt o σ K:=by
 unfold stx at c;split at c
 ·rename_i y d;refine .mk _ _ _ (fun cx u g=>?_) (F _ c);have h:=zpe (cx:=cx) (el':=.sl sz (v.map er)) C (Am G u g) a e A z (by rw [u];exact H) hi D B (nbne n) (by rw [getElem?_map,d];rfl) (aH _) rfl;rw [map_set];exact h
 ·cases c
def mgv [DecidableEq κ](l:List (κ×ν))(k:κ)(z:ν)(c:ν->Bool->Option β):Option β:=c ((mlk l k).getD z) (mlk l k).isSome
theorem OpX.lkv [DecidableEq κ](ek:κ->AV)(er:ν->AV){l:List (κ×ν)}{k:κ}{z:ν}{ok:Bool}{c:ν->Bool->Option β}{r:β}{T kt et:Nat}{y:Operand}{i ie:TyI}(B:mgv l k z c=some r)(heq:∀ a b,eqK (ek a) (ek b)=some (decide (a=b)))(H:o.op=.lookup T x y ok)(M:dokN E nt o.dst=true)(m:A7 x=true)(g:A7 y=true)(F:σ.eval x=.mapv (l.map (encM ek er)))(D:σ.eval y=ek k)
  (O:lkT E.tab T=some i) (G:i.shape=.map kt et) (L:lkT E.tab et=some ie) (e:D0 ie.zero.cells.toList=true) (t:Bv E.P kt (ek k)=true) (C:Sub (Cz ie.zero) (er z)) (I:∀ v b,c v b=some r->K (Ge (er v) b ok) [] []):OpX E nt o σ K:=by
 have h:=LkX.o (P:=E.P) (kt:=kt) (zA:=Cz ie.zero) (K:=fun av b=>K (Ge av b ok) [] []) ek er (show mgt l k z c=some r by unfold mgv at B;unfold mgt;exact B) t heq C (fun v b A=>I v b A);cases h with
 |mk q av b u J N n A =>
  subst N;exact .mk _ _ _ (fun cx d p=>zgq (ok:=ok) H (Am M d p) m g F D (by rw [d];exact O) G (by rw [d];exact L) (Wz e) (by rw [show cx.P=E.P by rw [<-d]];exact u) J n) A
theorem ztk (k:AV):∀ (l:List AV) (i:Nat),Bz k l (i+1)=(Bz k l i).map (·.map (· + 1))
 |[],i=>rfl
 |a::l,i=>by
  simp only [Bz];cases eqK k a with
  |none=>rfl
  |some b=>cases b with
   |true=>rfl
   |false=>exact ztk k l (i+1)
def LkC (n:Int)(z:AV)(qs:List (AV×AV))(K:AV->Prop):Prop:=∃ r av,Bz (.int .i64 n) (qs.map (·.1)) 0=some r/\Sub (Dz z qs r) av/\K av
variable {qs:List (AV×AV)}
theorem LkC.cons {n:Int}{z v:AV}{k:Nat}{K:AV->Prop}{x y:Option β}{r:β}(h:natc n k x y=some r)(b:x=some r->K v)(h1:y=some r->LkC n z qs K):LkC n z ((.int .i64 (k:Int),v)::qs) K:=by
 rw [Oa] at h;split at h
 ·rename_i e;refine ⟨some 0,v,?_,.refl _,b h⟩;simp only [map_cons,Bz,eqK,eq1,e];simp
 ·rename_i e;obtain ⟨q,av,d,a,c⟩:=h1 h;refine ⟨q.map (· + 1),av,?_,?_,c⟩
  ·simp only [map_cons,Bz,eqK,eq1];rw [decide_eq_false e];simp only [ztk,d,Option.map_some];rfl
  ·cases q with
   |none=>exact a
   |some j=>exact a
theorem OpX.lkc {n:Int}{T kt et:Nat}{y:Operand}{i ie:TyI}(m:o.op=.lookup T x y false)(k:σ.eval x=.mapv qs)(t:dokN E nt o.dst=true)(d:A7 x=true)(c:A7 y=true)(h:σ.eval y=.int .i64 n)
  (u:lkT E.tab T=some i) (l:i.shape=.map kt et) (q:lkT E.tab et=some ie) (b:D0 ie.zero.cells.toList=true) (g:Bv E.P kt (.int .i64 n)=true) (p:LkC n (Cz ie.zero) qs fun av=>K av [] []):OpX E nt o σ K:=by
 obtain ⟨r,av,B,A,z⟩:=p;exact .mk _ _ _ (fun cx a e=>zgq (ok:=false) m (Am t a e) d c k h (by rw [a];exact u) l (by rw [a];exact q) (Wz b) (by rw [show cx.P=E.P by rw [<-a]];exact g) B A) z
end
def Th:AV->Bool |.ptr _ 0=>true |_=>false
def frb {β:Type}(r:Nat)(x:Option β):Option β:=x
section
variable {β:Type} {E:Env} {nt:Nat}
variable {cs:List AV}
theorem LeX.frb {σ:AS}(r:Nat)(F:σ.find r=some (.box ty cs))(I:aN cs=true):LeX E nt σ (σ.rpAll r Th (.ref cs) .dead):=by
 refine LeX.rpAll r Th _ _ _ F (fun ty cs h=>by cases h) (fun cx γ a w d D H G=>?_);obtain ⟨g,vs,u,e,C,t,k⟩:=G;subst u;refine ⟨none,(fun b e=>by cases e),fun S' J z=>⟨rfl,fun γ' x v A c B q=>?_⟩⟩;have m:x=.ptr r 0:=by
  cases x with
  |ptr i off=>cases off with
   |zero=>simp only [AV.leafId,aC] at B;rw [B]
   |succ n=>simp [Th] at c
  |_=>simp [Th] at c
 subst m;have p:v=.pointer (some ⟨g,0,none⟩):=by
  cases q with
  |ptr h q=>rw [H] at h;injection h with h;exact q _ _ h.symm
 subst p;refine .ref g 0 (fun j=>vs.getD j undef) (z g C1 (fun h=>by cases h)) e.lt (fun j l=>by rw [aK];exact O0 e j (by omega)) (fun j l=>?_) (fun j l=>k j (by omega));exact ((t j l).close (AV.closedL_at I j l)).mono (aH _) (fun b e _=>⟨rfl,J b e⟩)
variable {R:Exit->AS->Prop} {K:List Bt}
theorem AW.frb0 {c:Code}{σ:AS}(r:Nat)(a:σ.find r=some (.box ty cs))(b:aN cs=true)(k:AW E nt R (.code c::K) .normal (σ.rpAll r Th (.ref cs) .dead)):AW E nt R (.code c::K) .normal σ:=AW.weaken (LeX.frb r a b) k
theorem AW.frbO {id:Nat}{c:Code}{σ:AS}{x:Option β}{y:β}(h:Proofs.YtidhlpjgifoneaaGreat.frb id x=some y)(r:Nat)(a:σ.find r=some (.box ty cs))(b:aN cs=true)(k:x=some y->AW E nt R (.code c::K) .normal (σ.rpAll r Th (.ref cs) .dead)):AW E nt R (.code c::K) .normal σ:=AW.weaken (LeX.frb r a b) (k h)
end
section
variable {α β:Type} {E:Env} {nt:Nat} {o:Oper} {σ:AS} {K:OpK}
theorem OpX.bldR {l:List α}{k:List α->Option β}{r:β}(enc:α->AV){T n d e esz eb:Nat}{ps:Array (Nat×Operand)}{i ie:TyI}{fl:List AV}{ag:Bool}(P:Proofs.YtidhlpjgifoneaaGreat.bld l k=some r)(H:o.op=.buildSlice T n ps)(c:o.dst=some d)(M:dokN E nt o.dst=true)(O:lkT E.tab T=some i)(G:i.shape=.slc e esz eb)(L:lkT E.tab e=some ie)(D:aF esz 0=false)(I:Nat.ble (n*esz) 16777216=true)
  (g:D0 ie.zero.cells.toList=true) (h:Nat.blt 0 ie.zero.cells.size=true) (p:Ff σ ps=true) (N:ie.shape.agg=ag) (B:D9 (fun j=>some (j*esz,esz)) (aT (n*esz) .any) (Cr σ ps)=some fl) (m:Er ag esz n fl=xs) (C:(ag || (aF esz 1 && fl.all zt4))=true) (u:aN xs=true) (b:SubR xs (l.map enc))
  (t:σ.find d=none) (J:∀ A,k A=some r->K (.row d) (d::Fg (Cr σ ps)) [(d,.row e esz (A.map enc))]):OpX E nt o σ K:=by
 have a:=z8q _ _ _ _ B;rw [aJ] at a;simp only [Bool.or_eq_true,Bool.and_eq_true] at C;obtain ⟨W,U,S⟩:=zf5 ag esz _ fl a (C.imp id (fun ⟨h1,Q⟩=>⟨nbeq h1,Q⟩));subst m;refine .mk _ _ _ (fun cx z q=>Aj.weak (.cons _ (.row _ _ b) .nil) (z6w H c (Am M z q) (by rw [z];exact O) G (by rw [z];exact L) (nbne D) I (Fb g) h p u U (by simp only [all_eq_true];intro x F;rw [S x F];simp) (by rw [W];exact B) t)) (J l P)
def bndM (t:Nat)(o:Option α)(k:α->Option β):Option β:=bnd o k
theorem Bm (t:Nat){o:Option α}{k:α->Option β}{r:β}(h:bndM t o k=some r):bnd o k=some r:=h
theorem Cd (t:Nat)(a:α)(k:α->Option β):bndM t (some a) k=k a:=by unfold bndM bnd;rfl
end
section
variable {α β γ:Type} {E:Env} {nt:Nat} {f:FuncId} {avs:List AV}
def bndP (o:Option α)(rl:α->Option γ)(kN:α->Option β)(kS:α->γ->Option β):Option β:=match o with|some a=>(match rl a with|some q=>kS a q|none=>kN a)|none=>none
theorem Af.oP {o:Option α}{rl:α->Option γ}{kN:α->Option β}{kS:α->γ->Option β}{r:β}{d:Bool}{K:AV->Prop}{R:Nat->Nat->List AV->AV->Prop}{find:Nat->Option Ent}{KR:AV->List Nat->List (Nat×Ent)->Prop}(h:bndP o rl kN kS=some r)(enc:α->AV)(encN:α->AV)(encS:α->γ->AV)(l:∀ a,rl a=none->enc a=encN a)(k:∀ a q,rl a=some q->enc a=encS a q)(e:∀ a,o=some a->Con E d f avs (enc a))(g:∀ a,kN a=some r->K (encN a))(c:∀ a q,kS a q=some r->K (encS a q)):Af E f avs K R find KR:=by
 unfold bndP at h;split at h
 ·rename_i a;split at h
  ·rename_i q b;exact .mk d _ (e _ rfl) (by rw [k _ _ b];exact c _ _ h)
  ·rename_i b;exact .mk d _ (e _ rfl) (by rw [l _ b];exact g _ h)
 ·cases h
end
attribute [irreducible] mgv bndP frb bndM
section
variable {β V:Type}
abbrev y5s (E:Env)(nt:Nat)(L:Nat->V->Option β)(S:V->AS):Prop:=∀ {R:Exit->AS->Prop} {K:List Bt} {σ:AS} {c:Code} {r:β} {n:Nat} {b:V} (_:L n b=some r) (_:LeX E nt σ (S b)) (_:∀ m v,L (m+1) v=some r->AW E nt (Cu (fun a=>∃ v',L m v'=some r/\LeX E nt a (S v')) (AW E nt R K)) [.code c] .normal (S v)),Ax E nt (fun next a=>AW E nt (Cu next (AW E nt R K)) [.code c] .normal a) σ
theorem LoopA.oT {nt:Nat}{L:Nat->V->Option β}{S:V->AS}(a:∀ v,L 0 v=none):y5s E nt L S:=fun h b round=>LoopA.o h a b round
end
section
variable {β:Type}
theorem RetX.oA {v:AV}{a r:β}{enc:β->AV}(h:some a=some r)(b:Sub v (enc a):=by (repeat' first|exact Sub.nil _|exact Sub.refl _|refine Sub.agg ?_|refine Sub.tup ?_|refine Sub.fn ?_|exact SubL.nil|refine SubL.cons ?_ ?_|refine Sub.sl _ ?_|exact SubE.nil|refine SubE.cons ?_ ?_)<;>fail)(b:Sub v (enc a):=by (repeat' first|exact Sub.nil _|exact Sub.refl _|refine Sub.agg ?_|refine Sub.tup ?_|refine Sub.fn ?_|exact SubL.nil|refine SubL.cons ?_ ?_|refine Sub.sl _ ?_|exact SubE.nil|refine SubE.cons ?_ ?_)<;>fail):RetX v (enc r):=RetX.o h b
theorem LeX.a {nt:Nat}{σ τ:AS}(ps:List (Nat×Nat))(h:injB (rho ps) (τ.me.map (·.1))=true:=by rfl)(h1:LeV σ (rho ps) (τ.me.map (·.1)) τ.tm:=by (repeat' first|exact trivial|exact rfl|refine ⟨?_,?_⟩)<;>fail)(a:LeE σ (rho ps) (τ.me.map (·.1)) τ.me:=by (repeat' first|exact trivial|exact rfl|refine ⟨?_,?_⟩)<;>fail):LeX E nt σ τ:=LeX.of ps h h1 a
end
def arnV (s:Value)(vs:Array Value):Option (Option Nat×Value):=some (none,.agg (#[s]++vs))
variable {s:Value}{vs:Array Value}
theorem mem_arnV {b:Nat}:b∈blks (arnV s vs) ↔ B3 s=some b\/∃ j,B3 (vs.getD j undef)=some b:=by
 rw [show blks (arnV s vs)=blks (nstV s vs) from rfl];exact mem_nstV
theorem con1 (x:Value)(vs:Array Value)(j:Nat):(#[x]++vs).getD (j+1) undef=vs.getD j undef:=by
 rw [aB,aB,Array.getElem?_append_right (by simp)];simp
variable {γ:Gam}{id:Nat}
theorem zzl {b:Array Value}(h:γ id=some (arnV s b))(d:∀ j,j<vs.size->j<b.size/\b.getD j undef=vs.getD j undef):Turn γ id (arnV s vs) :=
 ⟨_,_,rfl,h,rfl,rfl,fun e a=>by
  cases e with
  |obj j =>
   simp only [Dv.ok,Nat.blt_eq,aP] at a ⊢;have h1:j<vs.size:=by simp at a;omega
   obtain ⟨g,c⟩:=d j h1;exact ⟨by simp;omega,by simp only [Dv.of,con1,c]⟩
  |oelt j k =>
   simp only [Dv.ok,Nat.blt_eq,aP] at a ⊢;have h1:j<vs.size:=by simp at a;omega
   obtain ⟨g,c⟩:=d j h1;exact ⟨by simp;omega,by simp only [Dv.of,con1,c]⟩
  |_=>exact ⟨rfl,by simp only [Dv.of,con0]⟩⟩
section
variable {cx:Cx} {o:Oper} {σ:AS}
variable {w:World}{idx:List (Option Nat)}{os:List NE}
theorem Hr {τ:AS}{a:Act}(c:StG cx γ τ a w)(l:τ.find id=some (.are ty idx os)) :
  ∃ s vs us,γ id=some (arnV s vs)/\s.oneCell'=true/\vs.size=os.length/\w.ownsRow cx.w0.heap.size ty 1 s idx.length us/\(∀ u∈us,u.oneCell'=true) /\
   (∀ k (m:k<idx.length),(idx[k]=none->Rep w (Sg cx.S0 cx.w0.heap.size γ) G0 (.mapv []) (us.getD k undef))/\∀ j,idx[k]=some j->j<os.length/\us.getD k undef=vs.getD j undef)/\(∀ j (h:j<os.length),os[j]≠.hole/\NRep w (Sg cx.S0 cx.w0.heap.size γ) cx.w0.heap.size (vs.getD j undef) os[j])/\DisB (B3 s) vs:=by
 have b:=c.me id;rw [l] at b;obtain ⟨d,g,s,vs,us,e,r⟩:=b;subst e;exact ⟨s,vs,us,g,r⟩
variable {v:Value}
theorem ztp {S:Nat->Prop}{a:Dv}{g:Option Nat}(h:Rep w S γ (.der a id) v)(c:γ id=some (some (g,s))):a.ok s=true/\v=a.of s:=by
 cases h with
 |der h b=>rw [c] at h;injection h with h;exact b g s h.symm
theorem y09 {γ':Gam}{τ:AS}{a:Act}{w':World}{dst:Option Nat}{q:Nat}{S W:Option (Option Nat×Value)}{e1 e:Ent}{av:AV}(r:StG cx γ τ a w)(hd:∀ x,dst=some x->cx.E.np<=x/\x<cx.nt)(O:id≠q)(G:γ id=some S)(C:γ' id=some W)(F:Turn γ' id S)(c:∀ i,i≠id->i≠q->γ' i=γ i)
  (hq:∀ x,γ q=some x->γ' q=some none) (u:∀ b,own γ' b ↔ own γ b) (z:∀ b d,γ' q=some d->b∈blks d->b ∉ blks W/\(∀ i p,i≠id->i≠q->γ i=some p->b ∉ blks p)) (M:∀ i p b,i≠id->i≠q->γ i=some p->b∈blks p->b ∉ blks W)
  (L:w.heap.size<=w'.heap.size) (D:∀ k,k ∉ blks S->w'.heap[k]? = w.heap[k]?) (P:Below cx.w0.heap.size w w') (Z:w.drawn<=w'.drawn)
  (hn:(∀ b,Sg cx.S0 cx.w0.heap.size γ b->b<w.heap.size->w'.heap[b]? = w.heap[b]? /\ Sg cx.S0 cx.w0.heap.size γ' b)->Bq w' (Sg cx.S0 cx.w0.heap.size γ') γ' cx.w0.heap.size W e1)
  (he:(∀ b,Sg cx.S0 cx.w0.heap.size γ b->b<w.heap.size->w'.heap[b]? = w.heap[b]? /\ Sg cx.S0 cx.w0.heap.size γ' b)->∃ x,γ' q=some x/\Bq w' (Sg cx.S0 cx.w0.heap.size γ') γ' cx.w0.heap.size x e)
  (hv:Rep w' (Sg cx.S0 cx.w0.heap.size γ') γ' av v):St cx (τ.upd dst av [(id,e1),(q,e)]) (a.put dst v) w':=by
 have t:∀ b,b∈blks S->own γ b:=fun b Q=>⟨id,_,G,Q⟩
 have X:∀ b,Sg cx.S0 cx.w0.heap.size γ b->b ∉ blks S:=fun b U e=>by
  have I:=t b e;rcases U with ⟨_,h⟩|⟨_,h⟩
  ·have:=(r.ge b I).1.1;omega
  ·exact h I
 have aa:∀ b,Sg cx.S0 cx.w0.heap.size γ b->Sg cx.S0 cx.w0.heap.size γ' b:=fun b Q=>Q.elim aE (fun ⟨h1,l⟩=>aG ⟨h1,fun I=>l ((u b).1 I)⟩)
 have Y:∀ b,Sg cx.S0 cx.w0.heap.size γ b->b<w.heap.size->w'.heap[b]? = w.heap[b]? /\ Sg cx.S0 cx.w0.heap.size γ' b:=fun b U _=>⟨D b (X b U),aa b U⟩
 refine ⟨γ',r.step hd L Y (fun i x H=>?_) (fun i hi=>?_) (fun i e0 hi=>?_) (fun i n b d p hi g m B=>?_) (fun b Q=>?_) (r.below.trans P) hv (fun b N _=>⟨D b (fun e=>N (t b e)),fun I=>N ((u b).1 I)⟩) (fun _=>Z)⟩
 ·by_cases h1:i=id
  ·subst h1;rw [G] at H;injection H with H;subst H;exact aG (aG F)
  ·by_cases l:i=q
   ·subst l;exact aG (aE (hq x H))
   ·exact aE ((c i h1 l).trans H)
 ·rw [Zj O] at hi;by_cases h1:i=id
  ·rw [if_pos h1] at hi;cases hi
  ·rw [if_neg h1] at hi;by_cases l:i=q
   ·rw [if_pos l] at hi;cases hi
   ·exact ⟨c i h1 l,fun b d hi hm=>D b (fun e=>h1 (r.inj _ _ _ _ _ hi G hm e))⟩
 ·rw [Zj O] at hi;by_cases h1:i=id
  ·subst h1;rw [if_pos rfl] at hi;injection hi with hi
   subst hi;exact ⟨_,C,hn Y⟩
  ·rw [if_neg h1] at hi;by_cases l:i=q
   ·subst l;rw [if_pos rfl] at hi;injection hi with hi
    subst hi;exact he Y
   ·rw [if_neg l] at hi;cases hi
 ·have sym:∀ i n d p,γ' i=some d->γ' n=some p->b∈blks d->b∈blks p->i=id->i=n:=fun i n d p hi g m B h1=>by
   subst h1;rw [C] at hi;injection hi with hi
   subst hi;by_cases l:n=i
   ·exact l.symm
   ·by_cases A:n=q
    ·subst A;exact absurd m (z b p g B).1
    ·rw [c n l A] at g;exact absurd m (M n p b l A g B)
  by_cases h1:i=id
  ·exact sym i n d p hi g m B h1
  ·by_cases l:n=id
   ·exact (sym n i p d g hi B m l).symm
   ·by_cases A:i=q
    ·by_cases J:n=q
     ·rw [A,J]
     ·subst A;rw [c n l J] at g;exact absurd B ((z b d hi m).2 n p l J g)
    ·by_cases J:n=q
     ·subst J;rw [c i h1 A] at hi;exact absurd m ((z b p g B).2 i d h1 A hi)
     ·rw [c i h1 A] at hi;rw [c n l J] at g;exact r.inj _ _ _ _ _ hi g m B
 ·have:=r.ge b ((u b).1 Q);exact ⟨this.1,aO this.2 L⟩
theorem LeX.are {nt:Nat}{σ:AS}(r:Nat){m:Nat}(Q:σ.find r=some (.row ty 1 (aT m (.mapv [])))):LeX E nt σ (σ.rpAll r Ew (.cont m r) (.are ty (aT m none) [])):=by
 refine LeX.rpAll r Ew (.cont m r) _ _ Q (fun ty cs h=>by cases h) (fun cx γ a w d P W U=>?_);obtain ⟨s,us,H,q,c,M,D,t⟩:=U;subst H;obtain ⟨A,z⟩:=Ea c;rw [aJ] at c;have O:us.length=m:=by have:=c.1;omega
 have u:∀ k,k<m->Rep w (Sg cx.S0 cx.w0.heap.size γ) G0 (.mapv []) (us.getD k undef):=fun k G=>by
  have:=D k (by simpa using G) 0 (by simp [aU]);simp only [aQ,aU,getElem_cons_zero,Nat.mul_one,Nat.add_zero] at this;exact this
 refine ⟨arnV s #[],fun b I=>?_,fun S' Y X=>⟨⟨s,#[],us,rfl,q,rfl,by rw [aJ];exact c,t,fun k G=>?_,fun j h=>absurd h (by simp),fun i j b hi=>?_,fun i b _ hi=>?_⟩,fun γ' x v n p L N=>?_⟩⟩
 ·rcases mem_arnV.1 I with h|⟨j,h⟩
  ·exact (Em A z).2 h
  ·simp [undef,B3] at h
 ·have F:k<m:=by simpa using G
  simp only [aQ];exact ⟨fun _=>(u k F).mono (aH _) (fun b I _=>⟨rfl,Y b I⟩),fun j S=>by cases S⟩
 ·simp [undef,B3] at hi
 ·simp [undef,B3] at hi
 ·have B:x=.row r:=by
   cases x with
   |row i=>simp only [AV.leafId,aC] at L;rw [L]
   |_=>simp [Ew] at p
  subst B;have C:v=s:=N.row_inv W (Fc q);subst C;refine .cont n (fun g s' e=>?_) ?_
  ·injection e with e
   injection e with _ e
   subst e;simp only [Dv.of,con0]
  ·rcases c.2 with ⟨l,Z⟩|⟨g,J,aa,l,_⟩
   ·exact ⟨none,0,by rw [l,Z],fun h=>by omega⟩
   ·exact ⟨_,J,l,fun _=>⟨g,0,rfl⟩⟩
variable {T j:Nat}{x:Operand}{i:TyI}
theorem zuj {k:Nat}(t:o.op=.load T x)(L:dok cx o=true)(l:A7 x=true)(B:σ.eval x=.der (.nelt k) id)(O:lkT cx.E.tab T=some i)(N:i.shape.agg=false)(H:σ.find id=some (.are ty idx os))(I:idx[k]? = some (some j)) :
  Aj cx o σ (.der (.obj j) id) [id] [] :=
 B8 L fun τ γ a w h1 P h=>by
  have z:=h.ev x l;rw [h1 x (by simp [t,Op.operands]),B] at z;obtain ⟨s,vs,us,u,F,D,c,r,q,G,J⟩:=Hr h (by rw [P id (by simp)];exact H);obtain ⟨n,p⟩:=List.getElem?_eq_some_iff.1 I;obtain ⟨W,A⟩:=(q k n).2 j p;refine ⟨vs.getD j undef,?_,.der u (fun g U e=>?_)⟩
  ·have d:=c;rcases c.2 with ⟨_,Y⟩|⟨g,S,Q,m,_,X,_⟩
   ·omega
   ·subst m;have C:a.eval x=.pointer (some ⟨g,0+k,none⟩):=by rw [z.der_inv u];simp only [Dv.of,con0]
    have M:=Hp d rfl k (by omega);have b:=N8 (cx.E.ok T i O) N w ⟨g,0+k,none⟩ (us.getD k undef) (by rw [aK];exact M);rw [A] at b;simp only [execOp,t,C,Instr.loadAt,Instr.sureAddr,Sem.run_bind,Sem.run_pure,Result.andThen_ok,b]
  ·injection e with e
   injection e with _ e
   subst e;exact ⟨by simp [Dv.ok];omega,by simp only [Dv.of,con1]⟩
variable {ps:List (AV×AV)}
theorem zxv {τ:AS}{a:Act}(n:γ id=some (arnV s vs))(l:vs.size=os.length)(c:∀ j (h:j<os.length),os[j]≠.hole/\NRep w (Sg cx.S0 cx.w0.heap.size γ) cx.w0.heap.size (vs.getD j undef) os[j])(k:Rep w (Sg cx.S0 cx.w0.heap.size γ) γ (.der (.obj j) id) v)(m:os[j]? = some (.mp ps)) :
  ∃ g b,v=.map (some g)/\vs.getD j undef=.map (some g)/\j<os.length/\Dq w (Sg cx.S0 cx.w0.heap.size γ) g b/\Hv b ps:=by
 obtain ⟨e,d⟩:=List.getElem?_eq_some_iff.1 m;have h:=(c j e).2;rw [d] at h;obtain ⟨g,b,h1,q,p⟩:=h;refine ⟨g,b,?_,h1,e,q,p⟩;rw [(ztp k n).2];simp only [Dv.of,con1,h1]
variable {y:Operand}
theorem zlr {kt et:Nat}{ok:Bool}{ie:TyI}{k av:AV}{r:Option Nat}(p:o.op=.lookup T x y ok)(X:dok cx o=true)(m:A7 x=true)(l:A7 y=true)(H:σ.eval x=.der (.obj j) id)(G:σ.eval y=k)(N:σ.find id=some (.are ty idx os))(e:os[j]? = some (.mp ps))
  (Y:lkT cx.E.tab T=some i) (L:i.shape=.map kt et) (U:lkT cx.E.tab et=some ie) (h:Om ie.zero=true) (A:Bv cx.P kt k=true) (Q:Bz k (ps.map (·.1)) 0=some r)
  (t:Sub (Dz (Cz ie.zero) ps r) av):Aj cx o σ (Ge av r.isSome ok) [id] [] :=
 B8 X fun τ γ a w h1 Z c=>by
  have C:=c.ev x m;rw [h1 x (by simp [p,Op.operands]),H] at C;have B:=c.ev y l;rw [h1 y (by simp [p,Op.operands]),G] at B;obtain ⟨s,vs,us,P,J,n,u,z,O,q,W⟩:=Hr c (by rw [Z id (by simp)];exact N);obtain ⟨g,F,I,_,_,hm,M⟩:=zxv (τ:=τ) (a:=a) P n q C e;obtain ⟨D,f1,f2,f3⟩:=zej M Q;obtain ⟨v,b,d⟩:=zbo (S:=Sg cx.S0 cx.w0.heap.size γ) (zA:=Cz ie.zero) ok (Js (cx.E.ok T i Y) L) A (B.flat (T2 A)) hm ((cx.E.ok et ie U).zeroV w) (X4 _ _ _ _ h) f1;rw [f2] at d;have b:Rep w (Sg cx.S0 cx.w0.heap.size γ) G0 (Dz (Cz ie.zero) ps r) v:=by rw [<-f3];cases D<;>exact b
  have b:=(b.open_ (γ':=γ)).sub t;refine ⟨(if ok then .tuple #[v,.bool r.isSome] else v),by simp only [execOp,p,I,Sem.run_bind,d,Result.andThen_ok,Sem.run_pure],?_⟩;cases ok with
  |false=>exact b
  |true =>
   simp only [Ge,if_true];refine .tup #[v,.bool r.isSome] rfl (fun j e=>?_);have e:j<2:=e;rcases j with _|_|j
   ·exact b
   ·exact .bool _
   ·omega
def PutQ (k x:AV)(ps ps':List (AV×AV)):Prop:=∀ a,Hv a ps->∃ b,Bz k (a.map (·.1)) 0=some b/\Hv (putK b k x a) ps'
theorem zdk {kt et:Nat}{z:Operand}{k xv:AV}{ps':List (AV×AV)}(n:o.op=.mapUpdate T x y z\/o.op=.insert T x y z)(hd:dok cx o=true)(ag:A7 x=true)(af:A7 y=true)(ae:A7 z=true)(hx:σ.eval x=.der (.obj j) id)(hy:σ.eval y=k)(hz:σ.eval z=xv)(hl:σ.find id=some (.are ty idx os))(hj:os[j]? = some (.mp ps))
  (hT:lkT cx.E.tab T=some i) (hs:i.shape=.map kt et) (B:Bv cx.P kt k=true) (aq:xv.closed=true) (ai:PutQ k xv ps ps'):Aj cx o σ (.tup []) [id] [(id,.are ty idx (os.set j (.mp ps')))]:=by
 refine ⟨fun id e he=>D5 he,fun τ h1 h2 a w Q K ⟨γ,m⟩ hK=>C5 (fun c hc=>by rcases n with n|n<;>(rw [n] at hc;cases hc)) ?_⟩;have r:x∈o.op.operands/\y∈o.op.operands/\z∈o.op.operands:=by rcases n with n|n<;>simp [n,Op.operands]
 have ex:=m.ev x ag;rw [h1 x r.1,hx] at ex;have ey:=m.ev y af;rw [h1 y r.2.1,hy] at ey;have ez:=m.ev z ae;rw [h1 z r.2.2,hz] at ez;obtain ⟨s,vs,us,A,ah,N,P,S,W,D,J⟩:=Hr m (by rw [h2 id (by simp)];exact hl);obtain ⟨g,ad,hv,t,ar,hm,hp⟩:=zxv (τ:=τ) (a:=a) A N D ex hj;obtain ⟨r0,f1,f2⟩:=ai ad hp;have Z:g∈blks (arnV s vs):=mem_arnV.2 (aG ⟨j,by rw [t];rfl⟩);have H:own γ g:=⟨id,_,A,Z⟩;have Y:=m.ge g H;have u:∀ b,Sg cx.S0 cx.w0.heap.size γ b->b≠g:=fun b p e=>by
  subst e;rcases p with ⟨_,h⟩|⟨_,h⟩
  ·have:=Y.1.1;omega
  ·exact h H
 obtain ⟨L,O,ak⟩:=zgo (Js (cx.E.ok T i hT) hs) B (ey.flat (T2 B)) (ez.close aq) hm f1 (fun p=>u g p rfl);have ao:(execOp a.eval o).run cx.P w=.ok .skip { w with heap:=w.heap.setIfInBounds g L }:=by
  rcases n with n|n<;>simp only [execOp,n,hv,Sem.run_bind,O,Result.andThen_ok,Sem.run_pure]
 unfold Oper.wp;rw [ao];have l:∀ k,k≠g->({ w with heap:=w.heap.setIfInBounds g L }:World).heap[k]? = w.heap[k]? := fun k B=>by simp [Array.getElem?_setIfInBounds,Ne.symm B]
 have q:w.heap.size<=({ w with heap:=w.heap.setIfInBounds g L }:World).heap.size:=by simp
 have ap:w.drawn<=({ w with heap:=w.heap.setIfInBounds g L }:World).drawn:=aH _;have ab:Below cx.w0.heap.size w ({ w with heap:=w.heap.setIfInBounds g L }:World):=⟨rfl,rfl,rfl,q,fun k B=>l k (by have:=Y.1.1;omega)⟩;generalize ({ w with heap:=w.heap.setIfInBounds g L }:World)=w' at *;refine hK _ _ ⟨γ,m.step (C0 hd) q (fun b p F=>⟨l b (u b p),p⟩) (fun id d h=>aE h) (fun M X=>⟨rfl,fun g' s an aj=>l g' ?_⟩) (fun M e' I=>?_) m.inj (fun b aa=>⟨(m.ge b aa).1,aO (m.ge b aa).2 q⟩) (m.below.trans ab) (.tup #[] rfl (fun j hj=>absurd hj (by simp))) (fun b U F=>⟨l b (fun e=>U (e▸H)),U⟩) (fun _=>ap)⟩
 ·rintro rfl;have:=m.inj _ _ _ _ _ an A aj Z;subst this;simp [lkE] at X
 ·have am:M=id:=by have:=D5 I;simpa using this
  subst am;simp only [lkE,Nat.beq_refl,aC] at I;subst I;refine ⟨_,A,s,vs,us,rfl,ah,by rw [aS];exact N,P.moved (fun b hb=>l b (fun e=>J.2 j b hb (by rw [t,e];rfl))),S,fun k B=>⟨fun h=>((W k B).1 h).mono q (fun b p F=>⟨l b (u b p),p⟩),fun C al=>by rw [aS];exact (W k B).2 C al⟩,fun C h'=>?_,J⟩;have ac:C < os.length:=by simpa using h'
  simp only [getElem_set];by_cases G:j=C
  ·subst G;rw [if_pos rfl];exact ⟨(by intro h;cases h),g,_,t,ak,f2⟩
  ·rw [if_neg G];exact ⟨(D C ac).1,(D C ac).2.moved q (fun b p F=>⟨l b (u b p),p⟩) (fun b hb=>l b (fun e=>G (J.1 j C b (by rw [t,e];rfl) hb)))⟩
theorem zpf {q k:Nat}(ho:o.op=.store T x y)(hd:dok cx o=true)(am:A7 x=true)(al:A7 y=true)(U:σ.eval x=.der (.nelt k) id)(hy:σ.eval y=.row q)(hT:lkT cx.E.tab T=some i)(ai:i.sz=1)(hl:σ.find id=some (.are ty idx os))(hq:σ.find q=some (.mp ps))(hk:k<idx.length)(Y:id≠q) :
  Aj cx o σ (.tup []) [id,q] [(id,.are ty (idx.set k (some os.length)) (os++[.mp ps])),(q,.dead)]:=by
 refine ⟨fun i e he=>zj4 he,fun τ h1 A a w Q K ⟨γ,r⟩ hK=>C5 (fun c hc=>by rw [ho] at hc;cases hc) ?_⟩;have ex:=r.ev x am;rw [h1 x (by simp [ho,Op.operands]),U] at ex;have ey:=r.ev y al;rw [h1 y (by simp [ho,Op.operands]),hy] at ey;obtain ⟨s,vs,us,hg,aq,ad,S,af,ah,ag,aa⟩:=Hr r (by rw [A id (by simp)];exact hl);obtain ⟨m,C,aw,hm⟩:=zt8 (id:=q) r (by rw [A q (by simp)];exact hq) ey;have ao:us.length=idx.length*1:=S.1;obtain ⟨g,G,p,X,ab,hh,Z,ar,ay,ap⟩:∃ g G p,s=.slice (some ⟨g,0,none⟩) idx.length G/\cx.w0.heap.size<=g/\w.heap[g]? = some (.cells p ty (0,0))/\idx.length<=G/\G<=maxLen/\p.size=G*1/\p.toList.take (idx.length*1)=us:=by
  rcases S.2 with ⟨_,h0⟩|h
  ·omega
  ·exact h
 have N:B3 s=some g:=by rw [X];rfl
 have hv:a.eval x=.pointer (some ⟨g,0+k,none⟩):=by rw [ex.der_inv hg,X];simp only [Dv.of,con0]
 have I:=Wh (cx.E.ok T i hT) w g (0+k) ty p (.map (some m)) hh (by rw [ai];rfl) (by omega) (fun u W=>by
  have:u=.map (some m):=by simpa [Value.cells] using W
  rw [this];rfl)
 rw [show (Value.map (some m)).cells=#[.map (some m)] from rfl,ai,aK] at I;generalize J:(p.toList.take k++(#[Value.map (some m)]:Array Value).toList++p.toList.drop (k+1)).toArray=d at I;have av:(execOp a.eval o).run cx.P w=.ok .skip (w.setRow g d):=by
  rw [aK] at hv;simp only [execOp,ho,hv,aw,Instr.storeAt,Instr.sureAddr,Sem.run_bind,Sem.run_pure,Result.andThen_ok,I]
 unfold Oper.wp;rw [av];have aj:=setRow_heap w g p d ty (0,0) hh;have t:∀ q,q≠g->(w.setRow g d).heap[q]? = w.heap[q]? := fun q hq=>setRow_other w g q _ hq
 have H:w.heap.size<=(w.setRow g d).heap.size:=by simp
 have ax:w.drawn<=(w.setRow g d).drawn:=aH _;have au:own γ g:=⟨id,_,hg,mem_arnV.2 (aE N)⟩;have ak:Below cx.w0.heap.size w (w.setRow g d):=⟨rfl,rfl,rfl,H,fun k hk=>t k (by have:=(r.ge g au).1.1;omega)⟩;generalize w.setRow g d=w' at *;have z:∀ i,(vs.push (.map (some m))).getD i undef=if i=vs.size then .map (some m) else vs.getD i undef:=fun i=>by
  simp only [aB,Array.getElem?_push];by_cases h:i=vs.size
  ·rw [if_pos h,if_pos h];rfl
  ·rw [if_neg h,if_neg h]
 have an:∀ j b,B3 (vs.getD j undef)=some b->j<vs.size:=fun j b h=>by
  rcases Nat.lt_or_ge j vs.size with h'|h'
  ·exact h'
  ·simp [Array.getD,Nat.not_lt.2 h',undef,B3] at h
 have bl:∀ i d' b,i≠id->γ i=some d'->b∈blks d'->B3 s≠some b/\∀ j,B3 (vs.getD j undef)≠some b:=fun i d' b hi O l =>
  ⟨fun e=>hi (r.inj _ _ _ _ _ O hg l (mem_arnV.2 (aE e))),fun j n=>hi (r.inj _ _ _ _ _ O hg l (mem_arnV.2 (aG ⟨j,n⟩)))⟩
 obtain ⟨ae,P⟩:=bl q _ m (Ne.symm Y) C C1;let γ':Gam:=fun i=>if i=id then some (arnV s (vs.push (.map (some m)))) else if i=q then some none else γ i
 have g1:γ' id=some (arnV s (vs.push (.map (some m)))):=if_pos rfl;have g2:γ' q=some none:=by show (if q=id then _ else if q=q then _ else _)=_;rw [if_neg (Ne.symm Y),if_pos rfl]
 have g3:∀ i,i≠id->i≠q->γ' i=γ i:=fun i h1 A=>by show (if i=id then _ else if i=q then _ else _)=_;rw [if_neg h1,if_neg A]
 have L:∀ b,b∈blks (arnV s (vs.push (.map (some m)))) ↔ b∈blks (arnV s vs)\/b=m:=fun b=>by
  rw [mem_arnV,mem_arnV];constructor
  ·rintro (h|⟨j,h⟩)
   ·exact aE (aE h)
   ·rw [z] at h;by_cases n:j=vs.size
    ·rw [if_pos n] at h;injection h with h;exact aG h.symm
    ·rw [if_neg n] at h;exact aE (aG ⟨j,h⟩)
  ·rintro ((h|⟨j,h⟩)|h)
   ·exact aE h
   ·exact aG ⟨j,by rw [z,if_neg (by have:=an j b h;omega)];exact h⟩
   ·exact aG ⟨vs.size,by rw [z,if_pos rfl,h];rfl⟩
 refine hK _ _ (y09 (γ':=γ') (q:=q) (w':=w') r (C0 hd) Y hg g1 (zzl g1 (fun j n=>⟨by simp;omega,by rw [z,if_neg (by omega)]⟩)) g3 (fun x U=>g2) (fun b=>⟨fun ⟨i,x,hi,l⟩=>?_,fun ⟨i,x,hi,l⟩=>?_⟩) (fun b x U l=>?_) (fun i d' b h1 A hi l hc=>?_) H (fun b l=>t b (fun e=>l (by rw [e];exact mem_arnV.2 (aE N)))) ak ax (fun M=>?_) (fun M=>⟨_,g2,rfl⟩) (.tup #[] rfl (fun j n=>absurd n (by simp))))
 ·by_cases h1:i=id
  ·subst h1;rw [g1] at hi;injection hi with hi;subst hi
   rcases (L b).1 l with l|l
   ·exact ⟨_,_,hg,l⟩
   ·subst l;exact ⟨_,_,C,C1⟩
  ·by_cases A:i=q
   ·subst A;rw [g2] at hi;injection hi with hi;subst hi;cases l
   ·rw [g3 i h1 A] at hi;exact ⟨i,x,hi,l⟩
 ·by_cases h1:i=id
  ·subst h1;rw [hg] at hi;injection hi with hi;subst hi
   exact ⟨_,_,g1,(L b).2 (aE l)⟩
  ·by_cases A:i=q
   ·subst A;rw [C] at hi;injection hi with hi;subst hi
    exact ⟨_,_,g1,(L b).2 (aG (Od rfl l))⟩
   ·exact ⟨i,x,(g3 i h1 A).trans hi,l⟩
 ·rw [g2] at U;injection U with U;subst U;cases l
 ·obtain ⟨q1,q2⟩:=bl i d' b h1 hi l;rcases (L b).1 hc with h|h
  ·rcases mem_arnV.1 h with h|⟨j,h⟩
   ·exact q1 h
   ·exact q2 j h
  ·subst h;exact A (r.inj _ _ _ _ _ hi C l C1)
 ·have ac:d.toList.take (idx.length*1)=us.set k (.map (some m)):=by
   rw [<-J,<-ap,set_eq_take_append_cons_drop,if_pos (by simp;omega)];have:=Zz p.toList [Value.map (some m)] k (idx.length*1) (by simp;omega) (by simp;omega);simpa using this
  refine ⟨s,vs.push (.map (some m)),us.set k (.map (some m)),rfl,aq,by simp [ad],⟨by simp [ao],aG ⟨g,G,d,by rw [aS];exact X,ab,aj,by simpa using Z,ar,?_,by simpa using ac⟩⟩,fun u W=>?_,fun j n=>?_,fun j n=>?_,fun i j b hi n=>?_,fun i b l hi=>?_⟩
  ·rw [<-J];have:=Wv p.toList [Value.map (some m)] k (by simp;omega);simpa [ay] using this
  ·rcases mem_or_eq_of_mem_set W with W|W
   ·exact af u W
   ·rw [W];rfl
  ·have F:j<idx.length:=by simpa using n
   simp only [getElem_set,length_append,length_cons,length_nil];by_cases D:k=j
   ·subst D;rw [if_pos rfl];refine ⟨fun h=>(by cases h),fun j' B=>?_⟩;injection B with B
    subst B;refine ⟨by omega,?_⟩;rw [aD,getElem?_set_self (by omega),z,if_pos ad.symm];rfl
   ·rw [if_neg D];have e:(us.set k (Value.map (some m))).getD j undef=us.getD j undef:=by rw [aD,getElem?_set_ne D,<-aD]
    rw [e];refine ⟨fun h=>((ah j F).1 h).mono H M,fun j' B=>?_⟩;obtain ⟨q1,q2⟩:=(ah j F).2 j' B;exact ⟨by omega,by rw [q2,z,if_neg (by omega)]⟩
  ·simp only [length_append,length_cons,length_nil] at n;rw [z];by_cases D:j=vs.size
   ·rw [if_pos D];have e:(os++[NE.mp ps])[j]'(by simp;omega)=NE.mp ps:=by rw [getElem_append_right (by omega)];simp
    rw [e];exact ⟨(by intro h;cases h),m,ps,rfl,hm.move H M (t m (fun e=>ae (by rw [N,e]))),aE rfl⟩
   ·have F:j<os.length:=by omega
    rw [if_neg D,getElem_append_left F];exact ⟨(ag j F).1,(ag j F).2.moved H M (fun b l=>t b (fun e=>aa.2 j b (by rw [N,e]) l))⟩
  ·rw [z] at hi n;by_cases h1:i=vs.size
   ·by_cases A:j=vs.size
    ·rw [h1,A]
    ·rw [if_pos h1] at hi;rw [if_neg A] at n;injection hi with hi;subst hi;exact absurd n (P j)
   ·by_cases A:j=vs.size
    ·rw [if_neg h1] at hi;rw [if_pos A] at n;injection n with n;subst n;exact absurd hi (P i)
    ·rw [if_neg h1] at hi;rw [if_neg A] at n;exact aa.1 i j b hi n
  ·rw [z] at hi;by_cases h1:i=vs.size
   ·rw [if_pos h1] at hi;injection hi with hi;subst hi;exact ae l
   ·rw [if_neg h1] at hi;exact aa.2 i b l hi
end
end Go.Proofs.YtidhlpjgifoneaaGreat
