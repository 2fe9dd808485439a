/- Forms of terms. -/
import Derived.Test.YtkoamfnbbhfaiaaGreatDoorK10
import Derived.Laws.IdiomRangeMap
set_option linter.unusedVariables false
set_option linter.unusedSimpArgs false
namespace Go.Proofs.YtkoamfnbbhfaiaaGreatDoor
open Go.RowKit List
open Nat renaming eq_of_beq_eq_true->aA,le_refl->aB,beq->aD,beq_refl->aQ
open Option.some renaming injEq->aC
open List renaming length_replicate->aE,length_eraseIdx_of_lt->aG,getElem_replicate->aK,getElem_cons_zero->aL,getElem_eraseIdx->aN,replicate->aO
open AV renaming closedL->aF,cells->aR
open Option renaming none_or->aH
open AS renaming freeze->aJ
open Or renaming inl->aM,inr->aS
noncomputable def E0b:Env:={ E0 with bl:=true }
variable {E:Env}{xs:List AV}{ty sz:Nat}
theorem ConC.env {E':Env}{inp:Bool}{f:FuncId}{avs a:List AV}{b c:Nat}{res:AV}(d:E'.P=E.P)(h:ConC inp E f avs ty sz xs b c a res):ConC inp E' f avs ty sz xs b c a res:=by
 refine ⟨by have:=h.1;unfold Bh at *;rw [d];exact this,h.2.1,fun S w0 w vs v us=>?_⟩;rw [d];exact h.2.2 S w0 w vs v us
section
variable {cx:Cx} {o:Oper} {σ:AS}
theorem zno {P:Program}{w:World}{S:Nat->Prop}{T kt et:TypeId}{k zA:AV}{vk vm z:Value}(ok:Bool)(e:P.underlying T=some (.map kt et))(b:Bp P kt k=true)(c:Rep w S G0 k vk)(hm:vm=.map none)
  (d:(zeroValue et).run P w=.ok z w) (a:Rep w S G0 zA z):∃ v,Rep w S G0 (Ey zA [] none) v/\(Instr.lookup T vm vk ok).run P w=.ok (if ok then .tuple #[v,.bool (none:Option Nat).isSome] else v) w:=by
 subst hm;have g:=(Zc (P:=P) (w:=w) b c [] [] none rfl (fun j h=>absurd h (by simp)) rfl).1;refine ⟨z,a,?_⟩;cases ok<;>simp [Instr.lookup,run_underlying e,V3 _ b c,g,d,Result.andThen]
variable {ps:List (AV×AV)}
theorem mapv_val {γ:Gam}{w:World}{S:Nat->Prop}{v:Value}(b:Rep w S γ (.mapv ps) v):(∃ g a,v=.map (some g)/\S g/\g<w.heap.size/\Eh w S g a/\Mz a ps)\/(v=.map none/\ps=[]):=by
 cases b with
 |mapv a d g es clock m n l k e i b=>exact aM ⟨g,a,rfl,n,l,⟨es,clock,k,e,m,fun j h c=>⟨i j h c,b j h c⟩⟩,d⟩
 |mapn=>exact aS ⟨rfl,rfl⟩
variable {x:Operand}
theorem zbn {T kt et:Nat}{y:Operand}{ok:Bool}{i ie:TyI}{k av:AV}{r:Option Nat}(p:o.op=.lookup T x y ok)(L:dok cx o=true)(m:A0 x=true)(l:A0 y=true)(I:σ.eval x=.mapv ps)(H:σ.eval y=k)
  (C:lkT cx.E.tab T=some i) (z:i.shape=.map kt et) (B:lkT cx.E.tab et=some ie) (d:Rg ie.zero=true) (h:Bp cx.P kt k=true) (q:Bq k (ps.map (·.1)) 0=some r)
  (t:Sub (Ey (E3 ie.zero) ps r) av):A9 cx o σ (Mt av r.isSome ok) [] [] :=
 Ay L fun τ γ a w h1 Q e=>by
  have D:=e.ev x m;rw [h1 x (by simp [p,Op.operands]),I] at D;have u:=e.ev y l;rw [h1 y (by simp [p,Op.operands]),H] at u;obtain ⟨v,b,c⟩:∃ v,Rep w (Sg cx.S0 cx.w0.heap.size γ) G0 (Ey (E3 ie.zero) ps r) v/\(Instr.lookup T (a.eval x) (a.eval y) ok).run cx.P w=.ok (if ok then .tuple #[v,.bool r.isSome] else v) w:=by
   rcases mapv_val D with ⟨g,G,n,_,_,hm,J⟩|⟨n,s⟩
   ·obtain ⟨F,O,N,M⟩:=zkh J q;obtain ⟨v,b,c⟩:=zc7 (S:=Sg cx.S0 cx.w0.heap.size γ) (zA:=E3 ie.zero) ok (Qt (cx.E.ok T i C) z) h (u.flat (Wv h)) hm ((cx.E.ok et ie B).zeroV w) (X3 _ _ _ _ d) O;rw [N] at c;refine ⟨v,?_,by rw [n];exact c⟩;rw [<-M];cases F<;>exact b
   ·subst s;simp only [map_nil,Bq,aC] at q;subst q;exact zno ok (Qt (cx.E.ok T i C) z) h (u.flat (w':=w) (S':=Sg cx.S0 cx.w0.heap.size γ) (γ':=G0) (Wv h)) n ((cx.E.ok et ie B).zeroV w) (X3 _ _ _ _ d)
  have b:=(b.open_ (γ':=γ)).sub t;refine ⟨(if ok then .tuple #[v,.bool r.isSome] else v),by simp only [execOp,p,Sem.run_bind,c,Result.andThen_ok,Sem.run_pure],?_⟩;cases ok with
  |false=>exact b
  |true =>
   simp only [Mt,if_true];refine .tup #[v,.bool r.isSome] rfl (fun j A=>?_);have A:j<2:=A;rcases j with _|_|j
   ·exact b
   ·exact .bool _
   ·omega
theorem zjg {T id q k t b:Nat}{i:TyI}{ty ety:TypeId}{ys:List AV}{el:AV}(D:o.op=.store T x (.tmp t))(G:dok cx o=true)(y:o.dst=none)(A:A0 x=true)(J:σ.eval x=.elt id sz k 0)(I:σ.get t=.row q)(U:lkT cx.E.tab T=some i)(hi:i.sz=1)(N:σ.find id=some (.row ty sz xs))(M:σ.find q=some (.row ety b ys))(v:id≠q)
  (l:xs[k]? = some el) (L:1<=sz) {el':AV} (F:el'.cells=.sl b ys::el.cells.drop 1) :
  A9 cx o σ (.tup []) [id,q] [(id,.row ty sz (xs.set k el')),(q,.dead)]:=by
 refine ⟨fun p e l=>?_,fun τ h1 H a w Q K C W=>?_⟩
 ·simp only [lkE] at l;cases c:aD id p with
  |true=>simp [aA c]
  |false =>
   rw [c] at l;simp only at l;cases m:aD q p with
   |true=>simp [aA m]
   |false=>rw [m] at l;cases l
 have tx:τ.eval x=.elt id sz k 0:=by rw [h1 x (by simp [D,Op.operands]),J]
 have n:τ.get t=.row q:=by have:=h1 (.tmp t) (by simp [D,Op.operands]);simpa [AS.eval,I] using this
 have tl:τ.find id=some (.row ty sz xs):=by rw [H id (by simp),N]
 have tq:τ.find q=some (.row ety b ys):=by rw [H q (by simp),M]
 have fr:St cx (τ.freeze t q b ys) a w:=Le.freeze (cx:=cx) t q ety b ys n tq a w C;have Z:(τ.freeze t q b ys).eval x=.elt id sz k 0:=by
  cases x with
  |tmp u =>
   have z:u≠t:=fun e=>by
    subst e;have:τ.get u=.elt id sz k 0:=tx;rw [n] at this;cases this
   show (τ.freeze t q b ys).get u=_;have e:(τ.freeze t q b ys).get u=τ.get u:=by
    unfold aJ AS.get;simp only [lkV];cases c:aD t u with
    |true=>exact absurd (aA c).symm z
    |false=>rfl
   rw [e];exact tx
  |_=>exact tx
 have Y:(τ.freeze t q b ys).eval (.tmp t)=.sl b ys:=by simp [AS.eval,aJ,AS.get,lkV]
 have fnd:∀ j,j≠q->(τ.freeze t q b ys).find j=τ.find j:=fun j O=>by
  unfold aJ AS.find;simp only [lkE];cases c:aD q j with
  |true=>exact absurd (aA c).symm O
  |false=>rfl
 have fndq:(τ.freeze t q b ys).find q=some .dead:=by simp [aJ,AS.find,lkE]
 have X:(τ.freeze t q b ys).find id=some (.row ty sz xs):=by rw [fnd id v,tl]
 have R:=z90 (cx:=cx) (o:=o) (σ:=τ.freeze t q b ys) (el':=el') D G A rfl Z Y U X l (by rw [hi];rfl) (by rw [hi];omega) rfl rfl (by rw [hi];simpa [aR] using F);refine R.2 _ (fun _ _=>rfl) (fun _ _=>rfl) a w Q K fr (fun a' w' r=>W a' w' ?_);obtain ⟨γ,h⟩:=r;rw [y] at h ⊢;have dq:γ q=some none:=by
  have:=h.me q;rw [AS.find_upd] at this;have e:lkE [(id,Ent.row ty sz (xs.set k el'))] q=none:=by
   simp only [lkE];cases c:aD id q with
   |true=>exact absurd (aA c) v
   |false=>rfl
  rw [e,aH,fndq] at this;obtain ⟨d,G,l⟩:=this;have l:d=none:=l;rw [G,l]
 refine ⟨γ,fun u=>?_,fun j=>?_,h.inj,h.ge,h.below,h.size,h.defers,h.gh,h.fr,h.dr⟩
 ·rw [AS.get_upd,if_neg (by simp)];have B:=h.tm u;rw [AS.get_upd,if_neg (by simp)] at B;by_cases z:t=u
  ·subst z;rw [n];exact .row dq (fun g s e _=>by cases e)
  ·have e:(τ.freeze t q b ys).get u=τ.get u:=by
    unfold aJ AS.get;simp only [lkV];cases c:aD t u with
    |true=>exact absurd (aA c) z
    |false=>rfl
   rw [e] at B;exact B
 ·have hm:=h.me j;rw [AS.find_upd] at hm ⊢;simp only [lkE] at hm ⊢;cases c:aD id j with
  |true=>rw [c] at hm;exact hm
  |false =>
   rw [c] at hm;simp only [aH] at hm ⊢;cases m:aD q j with
   |true => 
    have:=aA m;subst this;exact ⟨none,dq,rfl⟩
   |false =>
    simp only [aH];rw [fnd j (fun e=>by subst e;simp at m)] at hm;exact hm
theorem z6z {cs:List AV}(g:o.op=.nilCheck x)(j:dok cx o=true)(c:A0 x=true)(h:σ.eval x=.ref cs):A9 cx o σ (.ref cs) [] [] :=
 Ay j fun τ γ a w h1 k d=>by
  have e:=d.ev x c;rw [h1 x (by simp [g,Op.operands]),h] at e;obtain ⟨b,off,i,_⟩:=e.ref_inv;refine ⟨a.eval x,by simp only [execOp,g,i,Sem.run_pure],e⟩
theorem z71 {id off:Nat}{cs:List AV}(k:o.op=.nilCheck x)(p:dok cx o=true)(e:A0 x=true)(l:σ.eval x=.ptr id off)(n:σ.find id=some (.box ty cs)):A9 cx o σ (.ptr id off) [id] [] :=
 Ay p fun τ γ a w h1 q b=>by
  have j:=b.ev x e;rw [h1 x (by simp [k,Op.operands]),l] at j;have c:=b.me id;rw [q id (by simp),n] at c;obtain ⟨d,i,g,vs,h,_⟩:=c;subst h;have m:=j.ptr_inv i;refine ⟨a.eval x,by simp only [execOp,k,m,Sem.run_pure],j⟩
end
section
variable {α β κ ν:Type} {E:Env} {nt:Nat} {o:Oper} {σ:AS} {K:OpK}
variable {x:Operand}
theorem OpX.nckR {cs:List AV}(d:o.op=.nilCheck x)(g:dokN E nt o.dst=true)(a:A0 x=true)(c:σ.eval x=.ref cs)(e:K (.ref cs) [] []):OpX E nt o σ K:=.mk _ _ _ (fun cx h b=>z6z d (Aj g h b) a c) e
theorem OpX.nckP {id off:Nat}{cs:List AV}(d:o.op=.nilCheck x)(h:dokN E nt o.dst=true)(a:A0 x=true)(c:σ.eval x=.ptr id off)(e:σ.find id=some (.box ty cs))(g:K (.ptr id off) [id] []):OpX E nt o σ K:=.mk _ _ _ (fun cx i b=>z71 d (Aj h i b) a c e) g
theorem OpX.str {b:Type}(er:b->AV){l:List (List b)}{m:Nat}{v:List b}{k:List (List b)->Option β}{r:β}{T t id q ety:Nat}{i:TyI}(c:stx l m (fun _=>v) k=some r)(A:o.op=.store T x (.tmp t))(a:o.dst=none)(D:dokN E nt o.dst=true)(e:A0 x=true)(u:σ.eval x=.elt id 1 m 0)(s:σ.get t=.row q)(F:lkT E.tab T=some i)(hi:i.sz=1)
  (B:σ.find id=some (.row ty 1 (l.map fun q=>.sl sz (q.map er)))) (z:σ.find q=some (.row ety sz (v.map er))) (j:aD id q=false) (C:∀ n,k n=some r->K (.tup []) [id,q] [(id,.row ty 1 (n.map fun q=>.sl sz (q.map er))),(q,.dead)]):OpX E nt o σ K:=by
 unfold stx at c;split at c
 ·rename_i y d;refine .mk _ _ _ (fun cx p g=>?_) (C _ c);have h:=zjg (cx:=cx) (el':=.sl sz (v.map er)) A (Aj D p g) a e u s (by rw [p];exact F) hi B z (nbne j) (by rw [getElem?_map,d];rfl) (aB _) rfl;rw [map_set];exact h
 ·cases c
def mgv [DecidableEq κ](l:List (κ×ν))(k:κ)(z:ν)(c:ν->Bool->Option β):Option β:=c ((mlk l k).getD z) (mlk l k).isSome
theorem OpX.lkv [DecidableEq κ](ek:κ->AV)(er:ν->AV){l:List (κ×ν)}{k:κ}{z:ν}{ok:Bool}{c:ν->Bool->Option β}{r:β}{T kt et:Nat}{y:Operand}{i ie:TyI}(u:mgv l k z c=some r)(heq:∀ a b,eqK (ek a) (ek b)=some (decide (a=b)))(F:o.op=.lookup T x y ok)(J:dokN E nt o.dst=true)(j:A0 x=true)(g:A0 y=true)(C:σ.eval x=.mapv (l.map (encM ek er)))(B:σ.eval y=ek k)
  (M:lkT E.tab T=some i) (D:i.shape=.map kt et) (I:lkT E.tab et=some ie) (e:Ch ie.zero.cells.toList=true) (p:Bp E.P kt (ek k)=true) (A:Sub (E3 ie.zero) (er z)) (G:∀ v b,c v b=some r->K (Mt (er v) b ok) [] []):OpX E nt o σ K:=by
 have h:=LkX.o (P:=E.P) (kt:=kt) (zA:=E3 ie.zero) (K:=fun av b=>K (Mt av b ok) [] []) ek er (show mgt l k z c=some r by unfold mgv at u;unfold mgt;exact u) p heq A (fun v b t=>G v b t);cases h with
 |mk q av b s H L m t =>
  subst L;exact .mk _ _ _ (fun cx d n=>zbn (ok:=ok) F (Aj J d n) j g C B (by rw [d];exact M) D (by rw [d];exact I) (Ud e) (by rw [show cx.P=E.P by rw [<-d]];exact s) H m) t
theorem zmn (k:AV):∀ (l:List AV) (i:Nat),Bq k l (i+1)=(Bq k l i).map (·.map (· + 1))
 |[],i=>rfl
 |a::l,i=>by
  simp only [Bq];cases eqK k a with
  |none=>rfl
  |some b=>cases b with
   |true=>rfl
   |false=>exact zmn k l (i+1)
def LkC (n:Int)(z:AV)(qs:List (AV×AV))(K:AV->Prop):Prop:=∃ r av,Bq (.int .i64 n) (qs.map (·.1)) 0=some r/\Sub (Ey z qs r) av/\K av
variable {qs:List (AV×AV)}
theorem LkC.cons {n:Int}{z v:AV}{k:Nat}{K:AV->Prop}{x y:Option β}{r:β}(h:natc n k x y=some r)(b:x=some r->K v)(h1:y=some r->LkC n z qs K):LkC n z ((.int .i64 (k:Int),v)::qs) K:=by
 rw [Uv] at h;split at h
 ·rename_i e;refine ⟨some 0,v,?_,.refl _,b h⟩;simp only [map_cons,Bq,eqK,eq1,e];simp
 ·rename_i e;obtain ⟨q,av,d,a,c⟩:=h1 h;refine ⟨q.map (· + 1),av,?_,?_,c⟩
  ·simp only [map_cons,Bq,eqK,eq1];rw [decide_eq_false e];simp only [zmn,d,Option.map_some];rfl
  ·cases q with
   |none=>exact a
   |some j=>exact a
theorem OpX.lkc {n:Int}{T kt et:Nat}{y:Operand}{i ie:TyI}(l:o.op=.lookup T x y false)(j:σ.eval x=.mapv qs)(q:dokN E nt o.dst=true)(d:A0 x=true)(c:A0 y=true)(h:σ.eval y=.int .i64 n)
  (s:lkT E.tab T=some i) (k:i.shape=.map kt et) (p:lkT E.tab et=some ie) (b:Ch ie.zero.cells.toList=true) (g:Bp E.P kt (.int .i64 n)=true) (m:LkC n (E3 ie.zero) qs fun av=>K av [] []):OpX E nt o σ K:=by
 obtain ⟨r,av,v,u,t⟩:=m;exact .mk _ _ _ (fun cx a e=>zbn (ok:=false) l (Aj q a e) d c j h (by rw [a];exact s) k (by rw [a];exact p) (Ud b) (by rw [show cx.P=E.P by rw [<-a]];exact g) v u) t
end
def Jp:AV->Bool |.ptr _ 0=>true |_=>false
def frb {β:Type}(r:Nat)(x:Option β):Option β:=x
section
variable {β:Type} {E:Env} {nt:Nat}
variable {σ:AS}{cs:List AV}
theorem Le.frb {cx:Cx}(r:Nat)(C:σ.find r=some (.box ty cs))(G:aF cs=true):Le cx σ (σ.rpAll r Jp (.ref cs) .dead):=by
 refine Le.rpAll r Jp _ _ _ C (fun ty cs h=>by cases h) (fun cx γ a w d B F D=>?_) (aS rfl) rfl;obtain ⟨g,vs,t,e,A,s,k⟩:=D;subst t;refine ⟨none,(fun b e=>by cases e),fun S' H u=>⟨rfl,fun γ' x v y c z q=>?_⟩⟩;have m:x=.ptr r 0:=by
  cases x with
  |ptr i off=>cases off with
   |zero=>simp only [AV.leafId,aC] at z;rw [z]
   |succ n=>simp [Jp] at c
  |_=>simp [Jp] at c
 subst m;have p:v=.pointer (some ⟨g,0,none⟩):=by
  cases q with
  |ptr h q=>rw [F] at h;injection h with h;exact q _ _ h.symm
 subst p;refine .ref g 0 (fun j=>vs.getD j undef) (u g Bc (fun h=>by cases h)) e.lt (fun j l=>by rw [Nat.zero_add];exact Mh e j (by omega)) (fun j l=>?_) (fun j l=>k j (by omega));exact ((s j l).close (AV.closedL_at G j l)).mono (aB _) (fun b e _=>⟨rfl,H b e⟩)
variable {R:Exit->AS->Prop} {K:List Bi}
theorem LeX.frb (r:Nat)(a:σ.find r=some (.box ty cs))(b:aF cs=true):LeX E nt σ (σ.rpAll r Jp (.ref cs) .dead):=fun _ _ _ _=>Le.frb r a b
theorem AW.frb0 {c:Code}(r:Nat)(a:σ.find r=some (.box ty cs))(b:aF cs=true)(k:AW E nt R (.code c::K) .normal (σ.rpAll r Jp (.ref cs) .dead)):AW E nt R (.code c::K) .normal σ:=AW.weaken (LeX.frb r a b) k
theorem AW.frbO {id:Nat}{c:Code}{x:Option β}{y:β}(h:Proofs.YtkoamfnbbhfaiaaGreatDoor.frb id x=some y)(r:Nat)(a:σ.find r=some (.box ty cs))(b:aF cs=true)(k:x=some y->AW E nt R (.code c::K) .normal (σ.rpAll r Jp (.ref cs) .dead)):AW E nt R (.code c::K) .normal σ:=AW.weaken (LeX.frb r a b) (k h)
end
section
variable {α β:Type} {E:Env} {nt:Nat} {o:Oper} {σ:AS} {K:OpK}
theorem OpX.bldR {l:List α}{k:List α->Option β}{r:β}(enc:α->AV){T n d e esz eb:Nat}{ps:Array (Nat×Operand)}{i ie:TyI}{fl:List AV}{ag:Bool}(M:Proofs.YtkoamfnbbhfaiaaGreatDoor.bld l k=some r)(D:o.op=.buildSlice T n ps)(c:o.dst=some d)(I:dokN E nt o.dst=true)(L:lkT E.tab T=some i)(C:i.shape=.slc e esz eb)(H:lkT E.tab e=some ie)(A:aD esz 0=false)(F:Nat.ble (n*esz) 16777216=true)
  (g:Ch ie.zero.cells.toList=true) (h:Nat.blt 0 ie.zero.cells.size=true) (p:Dq σ ps=true) (J:ie.shape.agg=ag) (y:Cr (fun j=>some (j*esz,esz)) (aO (n*esz) .any) (Cd σ ps)=some fl) (m:Ew ag esz n fl=xs) (z:(ag || (aD esz 1 && fl.all V0))=true) (t:aF xs=true) (b:SubR xs (l.map enc))
  (s:σ.find d=none) (G:∀ v,k v=some r->K (.row d) (d::E2 (Cd σ ps)) [(d,.row e esz (v.map enc))]):OpX E nt o σ K:=by
 have a:=Wi _ _ _ _ y;rw [aE] at a;simp only [Bool.or_eq_true,Bool.and_eq_true] at z;obtain ⟨U,Q,O⟩:=Zd ag esz _ fl a (z.imp id (fun ⟨h1,N⟩=>⟨nbeq h1,N⟩));subst m;refine .mk _ _ _ (fun cx u q=>A9.weak (.cons _ (.row _ _ b) .nil) (z4k D c (Aj I u q) (by rw [u];exact L) C (by rw [u];exact H) (nbne A) F (Df g) h p t Q (by simp only [all_eq_true];intro x B;rw [O x B];simp) (by rw [U];exact y) s)) (G l M)
def bndM (t:Nat)(o:Option α)(k:α->Option β):Option β:=bnd o k
theorem Ca (t:Nat){o:Option α}{k:α->Option β}{r:β}(h:bndM t o k=some r):bnd o k=some r:=h
theorem D7 (t:Nat)(a:α)(k:α->Option β):bndM t (some a) k=k a:=by unfold bndM bnd;rfl
end
section
variable {α β γ:Type} {E:Env} {nt:Nat} {f:FuncId} {avs:List AV}
def bndP (o:Option α)(rl:α->Option γ)(kN:α->Option β)(kS:α->γ->Option β):Option β:=match o with|some a=>(match rl a with|some q=>kS a q|none=>kN a)|none=>none
theorem Ag.oP {o:Option α}{rl:α->Option γ}{kN:α->Option β}{kS:α->γ->Option β}{r:β}{fr:Bool}{K:AV->Prop}{R:Nat->Nat->List AV->AV->Prop}{find:Nat->Option Ent}{KR:AV->List Nat->List (Nat×Ent)->Prop}(h:bndP o rl kN kS=some r)(enc:α->AV)(encN:α->AV)(encS:α->γ->AV)(i:∀ a,rl a=none->enc a=encN a)(g:∀ a q,rl a=some q->enc a=encS a q)(d:∀ a,o=some a->Con E fr f avs (enc a))(e:∀ a,kN a=some r->K (encN a))(c:∀ a q,kS a q=some r->K (encS a q)):Ag E f avs K R find KR:=by
 unfold bndP at h;split at h
 ·rename_i a;split at h
  ·rename_i q b;exact .mk fr _ (d _ rfl) (by rw [g _ _ b];exact c _ _ h)
  ·rename_i b;exact .mk fr _ (d _ rfl) (by rw [i _ b];exact e _ h)
 ·cases h
end
attribute [irreducible] mgv bndP frb bndM
section
variable {β V:Type}
abbrev zww (E:Env)(nt:Nat)(L:Nat->V->Option β)(S:V->AS):Prop:=∀ {R:Exit->AS->Prop} {K:List Bi} {σ:AS} {c:Code} {r:β} {n:Nat} {b:V} (_:L n b=some r) (_:LeX E nt σ (S b)) (_:∀ m v,L (m+1) v=some r->AW E nt (Cy (fun a=>∃ v',L m v'=some r/\LeX E nt a (S v')) (AW E nt R K)) [.code c] .normal (S v)),B5 E nt (fun next a=>AW E nt (Cy next (AW E nt R K)) [.code c] .normal a) σ
theorem LoopA.oT {nt:Nat}{L:Nat->V->Option β}{S:V->AS}(a:∀ v,L 0 v=none):zww E nt L S:=fun h b round=>LoopA.o h a b round
end
section
variable {β:Type}
theorem RetX.oA {v:AV}{a r:β}{enc:β->AV}(h:some a=some r)(b:Sub v (enc a):=by (repeat' first|exact Sub.nil _|exact Sub.refl _|refine Sub.agg ?_|refine Sub.tup ?_|refine Sub.fn ?_|exact SubL.nil|refine SubL.cons ?_ ?_|refine Sub.sl _ ?_|exact SubE.nil|refine SubE.cons ?_ ?_)<;>fail)(b:Sub v (enc a):=by (repeat' first|exact Sub.nil _|exact Sub.refl _|refine Sub.agg ?_|refine Sub.tup ?_|refine Sub.fn ?_|exact SubL.nil|refine SubL.cons ?_ ?_|refine Sub.sl _ ?_|exact SubE.nil|refine SubE.cons ?_ ?_)<;>fail):RetX v (enc r):=RetX.o h b
theorem LeX.a {nt:Nat}{σ τ:AS}(ps:List (Nat×Nat))(h:injB (rho ps) (τ.me.map (·.1))=true:=by rfl)(h1:LeV σ (rho ps) (τ.me.map (·.1)) τ.tm:=by (repeat' first|exact trivial|exact rfl|refine ⟨?_,?_⟩)<;>fail)(a:LeE σ (rho ps) (τ.me.map (·.1)) τ.me:=by (repeat' first|exact trivial|exact rfl|refine ⟨?_,?_⟩)<;>fail):LeX E nt σ τ:=LeX.of ps h h1 a
end
def arnV (s:Value)(vs:Array Value):Option (Option Nat×Value):=some (none,.agg (#[s]++vs))
theorem mem_arnV {s:Value}{b:Nat}{vs:Array Value}:b∈blks (arnV s vs) ↔ B4 s=some b\/∃ j,B4 (vs.getD j undef)=some b:=by
 rw [show blks (arnV s vs)=blks (nstV s vs) from rfl];exact mem_nstV
section
variable {cx:Cx} {o:Oper} {σ:AS}
theorem LeX.are {nt:Nat}{σ:AS}(r:Nat){m:Nat}(O:σ.find r=some (.row ty 1 (aO m (.mapv [])))):LeX E nt σ (σ.rpAll r Gs (.cont m r) (.are ty (aO m none) [])):=by
 refine LeX.rpAll r Gs (.cont m r) _ _ O (fun ty cs h=>by cases h) (fun cx γ a w d N U T=>?_);obtain ⟨s,us,G,q,c,J,C,t⟩:=T;subst G;obtain ⟨z,y⟩:=Mk c;rw [aE] at c;have M:us.length=m:=by have:=c.1;omega
 have u:∀ k,k<m->Rep w (Sg cx.S0 cx.w0.heap.size γ) G0 (.mapv []) (us.getD k undef):=fun k F=>by
  have:=C k (by simpa using F) 0 (by simp [aR]);simp only [aK,aR,aL,Nat.mul_one,Nat.add_zero] at this;exact this
 refine ⟨arnV s #[],fun b H=>?_,fun S' X W=>⟨⟨s,#[],us,rfl,q,rfl,by rw [aE];exact c,t,fun k F=>?_,fun j h=>absurd h (by simp),fun i j b hi=>?_,fun i b _ hi=>?_⟩,fun γ' x v n p I L=>?_⟩⟩
 ·rcases mem_arnV.1 H with h|⟨j,h⟩
  ·exact (Gj z y).2 h
  ·simp [undef,B4] at h
 ·have D:k<m:=by simpa using F
  simp only [aK];exact ⟨fun _=>(u k D).mono (aB _) (fun b H _=>⟨rfl,X b H⟩),fun j Q=>by cases Q⟩
 ·simp [undef,B4] at hi
 ·simp [undef,B4] at hi
 ·have A:x=.row r:=by
   cases x with
   |row i=>simp only [AV.leafId,aC] at I;rw [I]
   |_=>simp [Gs] at p
  subst A;have B:v=s:=L.row_inv U (F9 q);subst B;refine .cont n (fun g s' e=>?_) ?_
  ·injection e with e
   injection e with _ e
   subst e;simp only [Dv.of,con0]
  ·rcases c.2 with ⟨l,Y⟩|⟨g,cap,Z,l,_⟩
   ·exact ⟨none,0,by rw [l,Y],fun h=>by omega⟩
   ·exact ⟨_,cap,l,fun _=>⟨g,0,rfl⟩⟩
end
section
variable {P:Program} {w:World} {S:Nat->Prop}
variable {es:Array MapEntry}{seen:Array Nat}
theorem znp (g:(es.toList.map (·.born)).Nodup){i:Nat}(hi:i<(Cz es seen).length):Cz es (seen.push (Cz es seen)[i].born)=(Cz es seen).eraseIdx i:=by
 have d:Cz es (seen.push (Cz es seen)[i].born)=(Cz es seen).filter fun e=>!(e.born == (Cz es seen)[i].born):=by
  generalize (Cz es seen)[i].born=b;unfold Cz;rw [filter_filter];congr 1;funext e;rw [contains_push];cases seen.contains e.born<;>simp
 rw [d];have a:((Cz es seen).map (·.born)).Nodup:=by
  unfold Cz;exact (filter_sublist.map _).nodup g
 generalize Cz es seen=L at *;clear d
 induction L generalizing i with
 |nil=>simp at hi
 |cons x r ih =>
  simp only [map_cons,nodup_cons] at a;cases i with
  |zero =>
   simp only [aL,eraseIdx_cons_zero,filter_cons,beq_self_eq_true,Bool.not_true,Bool.false_eq_true,if_false];rw [filter_eq_self];intro e j;have:e.born≠x.born:=fun h=>a.1 (h▸mem_map.2 ⟨e,j,rfl⟩)
   simpa using this
  |succ i =>
   have c:i<r.length:=by simpa using hi
   simp only [getElem_cons_succ,eraseIdx_cons_succ,filter_cons];have:x.born≠r[i].born:=fun h=>a.1 (h▸mem_map.2 ⟨r[i],getElem_mem _,rfl⟩)
   have k:(x.born == r[i].born)=false:=by simpa using this
   rw [k];simp only [Bool.not_false,if_true];rw [ih c a.2]
theorem Zk {α:Type}:∀ {l:List α} {i:Nat} (h:i<l.length),(l[i]::l.eraseIdx i).Perm l
 |x::r,0,_=>.refl _
 |x::r,i+1,h=>(Perm.swap x _ _).trans ((Zk (l:=r) (i:=i) (by simpa using h)).cons x)
theorem ItP.split {ps:List (AV×AV)}{q clock:Nat}(s:(es.toList.map (·.born)).Nodup)(h:ItP w S ps es seen q clock):∃ j,∃ h:j<ps.length,ItC w S ps[j] (ps.eraseIdx j) es seen q clock:=by
 obtain ⟨u,seen0,e,l,p,a,m,t,d⟩:=h;obtain ⟨i,hi,rfl⟩:=mem_iff_getElem.1 p;have b:i<a.length:=by omega
 have hm:a[i]∈ps:=m.mem_iff.1 (getElem_mem _);obtain ⟨j,n,c⟩:=mem_iff_getElem.1 hm;refine ⟨j,n,u,seen0,_,l,(mem_filter.1 p).1,by rw [c];exact d i hi b,a.eraseIdx i,?_,?_⟩
 ·have r:a.Perm (a[i]::a.eraseIdx i):=(Zk b).symm;have g:ps.Perm (ps[j]::ps.eraseIdx j):=(Zk n).symm;rw [c] at g;exact Perm.cons_inv ((r.symm.trans m).trans g)
 ·rw [l,znp s hi];refine ⟨by rw [aG hi,aG b,t],fun k h v=>?_⟩;rw [aN,aN];split
  ·exact d _ _ _
  ·exact d _ _ _
end
section
variable {cx:Cx} {o:Oper} {σ:AS}
theorem zuw {T kt et d:Nat}{x:Operand}{i:TyI}{ps:List (AV×AV)}(D:o.op=.range T x)(M:o.dst=some d)(hd:dok cx o=true)(A:A0 x=true)(Y:σ.eval x=.mapv ps)(hT:lkT cx.E.tab T=some i)(Z:i.shape=.map kt et)(hn:σ.find d=none):A9 cx o σ (.ptr d 0) [d] [(d,.it ps)]:=by
 refine ⟨fun id e he=>Es he,fun τ h1 h2 a w Q K ⟨γ,n⟩ hK=>Br (fun c N=>by rw [D] at N;cases N) ?_⟩;have U:=n.ev x A;rw [h1 x (by simp [D,Op.operands]),Y] at U;have J:=Qt (cx.E.ok T i hT) Z;have key:∀ m:Obj,(Instr.range T (a.eval x)).run cx.P w=.ok (.pointer (some ⟨w.heap.size,0,none⟩)) (w.alloc m)->ItIs (w.alloc m) (Sg cx.S0 cx.w0.heap.size (γ.set d (some (some w.heap.size,.slice none 0 0)))) w.heap.size (ItL (w.alloc m) (Sg cx.S0 cx.w0.heap.size (γ.set d (some (some w.heap.size,.slice none 0 0)))) ps)->o.wp cx.P a w K Q:=fun m p F=>by
  have G:(execOp a.eval o).run cx.P w=.ok (.value (.pointer (some ⟨w.heap.size,0,none⟩))) (w.alloc m):=by
   simp only [execOp,D,Sem.run_bind,p,Result.andThen_ok,Sem.run_pure]
  unfold Oper.wp;rw [G];refine hK _ _ ⟨_,n.name (id:=d) (g:=w.heap.size) (s:=.slice none 0 0) (e:=.it ps) (Bj hd) (by rw [h2 d (by simp)];exact hn) ((Below.refl _ _).alloc (aB _) _) (aB _) (by simp) ?_ ?_⟩
  ·exact ⟨w.heap.size,rfl,F⟩
  ·exact .ptr (Gam.set_self _ _ _) (fun g s e=>by injection e with e;injection e with e _;injection e with e;rw [e])
 have u:∀ b,Sg cx.S0 cx.w0.heap.size γ b->b<w.heap.size->Sg cx.S0 cx.w0.heap.size (γ.set d (some (some w.heap.size,.slice none 0 0))) b:=fun b y l=>y.elim aM (fun ⟨X,W⟩=>aS ⟨X,fun ⟨i,s,hi,hm⟩=>by
  by_cases q:i=d
  ·subst q;rw [Gam.set_self] at hi;injection hi with hi;subst hi;have:=Jk rfl hm;omega
  ·rw [Gam.set_ne _ _ _ q] at hi;exact W ⟨i,s,hi,hm⟩⟩)
 rcases mapv_val U with ⟨g,z,B,I,r,⟨es,clock,y,hl,t,L⟩,C⟩|⟨B,H⟩
 ·refine key (.mapIter (some g) clock #[] clock) (by rw [B];exact run_range_map w T kt et g es clock J y) (aM ⟨g,clock,#[],clock,es,clock,heap_alloc_new _ _,u g I r,by simp;omega,by rw [heap_alloc_old _ _ r];exact y,t.1,t.2,aB _,aB _,z,?_,?_⟩)
  ·rcases C with rfl|⟨C,_⟩
   ·exact .refl _
   ·exact C
  ·have k:Cz es #[]=es.toList:=by simp [Cz]
   have hm:∀ {av v},Rep w (Sg cx.S0 cx.w0.heap.size γ) G0 av v->Rep (w.alloc (.mapIter (some g) clock #[] clock)) (Sg cx.S0 cx.w0.heap.size (γ.set d (some (some w.heap.size,.slice none 0 0)))) G0 av v:=fun h=>h.mono (by simp) (fun b hS l=>⟨heap_alloc_old _ _ l,u b hS l⟩)
   exact ⟨by rw [k];simpa using hl,fun j h O=>⟨by simp only [k];exact hm (L j (by rw [<-k];exact h) O).1,by simp only [k];exact hm (L j (by rw [<-k];exact h) O).2⟩⟩
 ·subst H;refine key (.mapIter none 0 #[] 0) (by rw [B];exact run_range_nilMap w T kt et J) (aS ⟨0,0,#[],heap_alloc_new _ _,[],.refl _,by simp [RepL,Cz]⟩)
end
section
variable {E:Env} {nt:Nat} {σ:AS} {R:Exit->AS->Prop} {K:List Bi}
variable {ps:List (AV×AV)}
theorem AW.itp {c:Code}(r:Nat)(Q:σ.find r=some (.itp ps))(k:∀ j (h:j<ps.length),AW E nt R (.code c::K) .normal (σ.upd none .any [(r,.itc ps[j] (ps.eraseIdx j))])):AW E nt R (.code c::K) .normal σ:=⟨fun cx U T N a w m=>by
 obtain ⟨γ,h⟩:=m;have l:=h.me r;rw [Q] at l;obtain ⟨d,y,g,u,hi⟩:=l;subst u;have i:∃ j,∃ h:j<ps.length,ItIs w (Sg cx.S0 cx.w0.heap.size γ) g (ItC w (Sg cx.S0 cx.w0.heap.size γ) ps[j] (ps.eraseIdx j)):=by
  rcases hi with ⟨bm,since,seen,W,es,clock,B,L,J,I,A,H,G,F,D⟩|⟨b,c,s,B,C,seen0,e,O,_⟩
  ·obtain ⟨j,n,C⟩:=D.split A;exact ⟨j,n,aM ⟨bm,since,seen,W,es,clock,B,L,J,I,A,H,G,F,C⟩⟩
  ·simp at O
 obtain ⟨j,n,q⟩:=i;refine (k j n).out cx U T N a w ⟨γ,h.step (dst:=none) (v:=undef) (fun x M=>by cases M) (aB _) (fun b z _=>⟨rfl,z⟩) (fun id d y=>aM y) (fun id _=>⟨rfl,fun _ _ _ _=>rfl⟩) (fun id e t=>?_) h.inj h.ge h.below (.any _) (fun b z _=>⟨rfl,z⟩) (fun _=>aB _)⟩;have p:id=r:=by have:=Es t;simpa using this
 subst p;simp only [lkE,aQ,aC] at t;subst t;exact ⟨_,y,g,rfl,q⟩⟩
theorem LeX.itc {p:AV×AV}(r:Nat)(G:σ.find r=some (.itc p ps)):LeX E nt σ (σ.upd none .any [(r,.it ps)]):=fun cx O N M a w ⟨γ,h⟩=>by
 have i:=h.me r;rw [G] at i;obtain ⟨d,m,g,l,hi⟩:=i;subst l;refine ⟨γ,h.step (dst:=none) (v:=undef) (fun x F=>by cases F) (aB _) (fun b n _=>⟨rfl,n⟩) (fun id d m=>aM m) (fun id _=>⟨rfl,fun _ _ _ _=>rfl⟩) (fun id e j=>?_) h.inj h.ge h.below (.any _) (fun b n _=>⟨rfl,n⟩) (fun _=>aB _)⟩;have k:id=r:=by have:=Es j;simpa using this
 subst k;simp only [lkE,aQ,aC] at j;subst j;refine ⟨_,m,g,rfl,?_⟩;rcases hi with ⟨bm,since,seen,L,es,clock,q,D,C,B,A,z,y,u,J,seen0,e,t,j,I,H⟩|⟨b,c,s,q,J,seen0,e,t,_⟩
 ·exact aM ⟨bm,since,seen,L,es,clock,q,D,C,B,A,z,y,u,H⟩
 ·simp at t
end
section
variable {α β κ ν:Type}
def are (r:Nat)(x:Option β):Option β:=x
def frm (r:Nat)(x:Option β):Option β:=x
open Classical in
def Srt (l:List (Int×ν)):Prop:=(l.map (·.1)).Pairwise (· < ·)
theorem Srt.nodup {l:List (Int×ν)}(h:Srt l):(l.map (·.1)).Nodup:=Pairwise.imp (fun h=>by omega) h
end
section
variable {α β κ ν:Type} {E:Env} {nt:Nat} {o:Oper} {σ:AS} {K:OpK}
theorem OpX.rng {T kt et d:Nat}{x:Operand}{i:TyI}{ps:List (AV×AV)}(j:o.op=.range T x)(a:o.dst=some d)(m:dokN E nt o.dst=true)(b:A0 x=true)(g:σ.eval x=.mapv ps)(n:lkT E.tab T=some i)(h:i.shape=.map kt et)(k:σ.find d=none)(l:K (.ptr d 0) [d] [(d,.it ps)]):OpX E nt o σ K :=
 .mk _ _ _ (fun cx e c=>zuw j a (Aj m e c) b g (by rw [e];exact n) h k) l
end
section
variable {α β κ ν:Type} {E:Env} {nt:Nat} {R:Exit->AS->Prop} {K:List Bi}
end
section
variable {β ν:Type} {E:Env} {nt:Nat} {R:Exit->AS->Prop} {K:List Bi}
end
section
variable {α β:Type}
def eltD (d:AV->Option α)(l:List AV)(m:Nat)(k:α->Option β):Option β:=match l[m]? with|some a=>(match d a with|some y=>k y|none=>none)|none=>none
theorem EltX.oD {enc:α->AV}{d:AV->Option α}{l:List AV}{m:Nat}{K:AV->Prop}{k:α->Option β}{r:β}(h:eltD d l m k=some r)(e:∀ a y,d a=some y->a=enc y)(c:∀ y,k y=some r->K (enc y)):EltX (l.map idA) m K:=by
 unfold eltD at h;split at h
 ·rename_i a g;split at h
  ·rename_i y b;refine .mk (enc y) ?_ (c y h);rw [Qw,g,e a y b]
  ·cases h
 ·cases h
end
attribute [irreducible]  are frm        eltD
end Go.Proofs.YtkoamfnbbhfaiaaGreatDoor
