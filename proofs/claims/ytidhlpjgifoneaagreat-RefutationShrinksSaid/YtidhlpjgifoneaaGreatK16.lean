/- Forms of terms. -/
import Derived.Test.YtidhlpjgifoneaaGreatK14
import Derived.Test.YtidhlpjgifoneaaGreatK15
set_option linter.unusedVariables false
set_option linter.unusedSimpArgs false
namespace Go.Proofs.YtidhlpjgifoneaaGreat
open Go.RowKit List
noncomputable def E0b:Env:={ E0 with bl:=true }
variable {E:Env}{xs:List AV}{ty sz:Nat}
theorem ConC.env {E':Env}{inp:Bool}{f:FuncId}{avs xs':List AV}{ty' sz':Nat}{res:AV}(hP:E'.P=E.P)(h:ConC inp E f avs ty sz xs ty' sz' xs' res):ConC inp E' f avs ty sz xs ty' sz' xs' res:=by
 refine ⟨by have:=h.1;unfold zfg at *;rw [hP];exact this,h.2.1,fun S w0 w vs v us=>?_⟩
 rw [hP]
 exact h.2.2 S w0 w vs v us
section
variable {cx:Cx} {o:Oper} {σ:AS}
theorem yfe {P:Program}{w:World}{S:Nat->Prop}{T kt et:TypeId}{k zA:AV}{vk vm z:Value}(ok:Bool)(hT:P.underlying T=some (.map kt et))(ht:zfh P kt k=true)(hk:Rep w S G0 k vk)(hm:vm=.map none)
  (hz:(zeroValue et).run P w=.ok z w) (hzR:Rep w S G0 zA z):∃ v,Rep w S G0 (ztw zA [] none) v/\(Instr.lookup T vm vk ok).run P w=.ok (if ok then .tuple #[v,.bool (none:Option Nat).isSome] else v) w:=by
 subst hm
 have f1:=(ztb (P:=P) (w:=w) ht hk [] [] none rfl (fun j h=>absurd h (by simp)) rfl).1
 refine ⟨z,hzR,?_⟩
 cases ok<;>simp [Instr.lookup,run_underlying hT,y8v _ ht hk,f1,hz,Result.andThen]
variable {ps:List (AV×AV)}
theorem mapv_val {γ:Gam}{w:World}{S:Nat->Prop}{v:Value}(hv:Rep w S γ (.mapv ps) v):(∃ g ps0,v=.map (some g)/\S g/\g<w.heap.size/\ztl w S g ps0/\y58 ps0 ps)\/(v=.map none/\ps=[]):=by
 cases hv with
 |mapv ps0 hp g es clock hb hS hg hh hl hk hv=>exact Or.inl ⟨g,ps0,rfl,hS,hg,⟨es,clock,hh,hl,hb,fun j h h'=>⟨hk j h h',hv j h h'⟩⟩,hp⟩
 |mapn=>exact Or.inr ⟨rfl,rfl⟩
variable {x:Operand}
theorem y1c {T kt et:Nat}{y:Operand}{ok:Bool}{i ie:TyI}{k av:AV}{r:Option Nat}(ho:o.op=.lookup T x y ok)(hd:dok cx o=true)(hxo:z0r x=true)(hyo:z0r y=true)(hx:σ.eval x=.mapv ps)(hy:σ.eval y=k)
  (hT:lkT cx.E.tab T=some i) (hs:i.shape=.map kt et) (he:lkT cx.E.tab et=some ie) (hzo:ybu ie.zero=true) (hk:zfh cx.P kt k=true) (hf:zfz k (ps.map (·.1)) 0=some r)
  (hav:Sub (ztw (zht ie.zero) ps r) av):z11 cx o σ (y0c av r.isSome ok) [] [] :=
 z14 hd fun τ γ a w h1 h2 hst=>by
  have ex:=hst.ev x hxo
  rw [h1 x (by simp [ho,Op.operands]),hx] at ex
  have ey:=hst.ev y hyo
  rw [h1 y (by simp [ho,Op.operands]),hy] at ey
  obtain ⟨v,hv1,hv2⟩:∃ v,Rep w (Sg cx.S0 cx.w0.heap.size γ) G0 (ztw (zht ie.zero) ps r) v/\(Instr.lookup T (a.eval x) (a.eval y) ok).run cx.P w=.ok (if ok then .tuple #[v,.bool r.isSome] else v) w:=by
   rcases mapv_val ex with ⟨g,ps0,hv,_,_,hm,hp⟩|⟨hv,he0⟩
   ·obtain ⟨r0,f1,f2,f3⟩:=zyx hp hf
    obtain ⟨v,hv1,hv2⟩:=zv7 (S:=Sg cx.S0 cx.w0.heap.size γ) (zA:=zht ie.zero) ok (zq5 (cx.E.ok T i hT) hs) hk (ey.flat (zj5 hk)) hm ((cx.E.ok et ie he).zeroV w) (zqb _ _ _ _ hzo) f1
    rw [f2] at hv2
    refine ⟨v,?_,by rw [hv];exact hv2⟩
    rw [<-f3]
    cases r0<;>exact hv1
   ·subst he0
    simp only [map_nil,zfz,Option.some.injEq] at hf
    subst hf
    exact yfe ok (zq5 (cx.E.ok T i hT) hs) hk (ey.flat (w':=w) (S':=Sg cx.S0 cx.w0.heap.size γ) (γ':=G0) (zj5 hk)) hv ((cx.E.ok et ie he).zeroV w) (zqb _ _ _ _ hzo)
  have hv1:=(hv1.open_ (γ':=γ)).sub hav
  refine ⟨(if ok then .tuple #[v,.bool r.isSome] else v),by simp only [execOp,ho,Sem.run_bind,hv2,Result.andThen_ok,Sem.run_pure],?_⟩
  cases ok with
  |false=>exact hv1
  |true =>
   simp only [y0c,if_true]
   refine .tup #[v,.bool r.isSome] rfl (fun j hj=>?_)
   have hj:j<2:=hj
   rcases j with _|_|j
   ·exact hv1
   ·exact .bool _
   ·omega
theorem y9p {T id q k t s2:Nat}{i:TyI}{ty ety:TypeId}{ys:List AV}{el:AV}(ho:o.op=.store T x (.tmp t))(hd:dok cx o=true)(hdst:o.dst=none)(hxo:z0r x=true)(hx:σ.eval x=.elt id sz k 0)(hy:σ.get t=.row q)(hT:lkT cx.E.tab T=some i)(hi:i.sz=1)(hl:σ.find id=some (.row ty sz xs))(hq:σ.find q=some (.row ety s2 ys))(hne:id≠q)
  (he:xs[k]? = some el) (hsz:1<=sz) {el':AV} (hel:el'.cells=.sl s2 ys::el.cells.drop 1) :
  z11 cx o σ (.tup []) [id,q] [(id,.row ty sz (xs.set k el')),(q,.dead)]:=by
 refine ⟨fun id' e he=>?_,fun τ h1 h2 a w Q K hst hK=>?_⟩
 ·simp only [lkE] at he
  cases hb:Nat.beq id id' with
  |true=>simp [Nat.eq_of_beq_eq_true hb]
  |false =>
   rw [hb] at he
   simp only at he
   cases hb2:Nat.beq q id' with
   |true=>simp [Nat.eq_of_beq_eq_true hb2]
   |false=>rw [hb2] at he;cases he
 have tx:τ.eval x=.elt id sz k 0:=by rw [h1 x (by simp [ho,Op.operands]),hx]
 have ty':τ.get t=.row q:=by have:=h1 (.tmp t) (by simp [ho,Op.operands]);simpa [AS.eval,hy] using this
 have tl:τ.find id=some (.row ty sz xs):=by rw [h2 id (by simp),hl]
 have tq:τ.find q=some (.row ety s2 ys):=by rw [h2 q (by simp),hq]
 have fr:St cx (τ.freeze t q s2 ys) a w:=LeX.freeze (E:=cx.E) (nt:=cx.nt) t q ety s2 ys ty' tq cx rfl rfl a w hst
 have g1:(τ.freeze t q s2 ys).eval x=.elt id sz k 0:=by
  cases x with
  |tmp u =>
   have hu:u≠t:=fun e=>by
    subst e
    have:τ.get u=.elt id sz k 0:=tx
    rw [ty'] at this;cases this
   show (τ.freeze t q s2 ys).get u=_
   have e:(τ.freeze t q s2 ys).get u=τ.get u:=by
    unfold AS.freeze AS.get
    simp only [lkV]
    cases hb:Nat.beq t u with
    |true=>exact absurd (Nat.eq_of_beq_eq_true hb).symm hu
    |false=>rfl
   rw [e];exact tx
  |_=>exact tx
 have g2:(τ.freeze t q s2 ys).eval (.tmp t)=.sl s2 ys:=by simp [AS.eval,AS.freeze,AS.get,lkV]
 have fnd:∀ j,j≠q->(τ.freeze t q s2 ys).find j=τ.find j:=fun j hj=>by
  unfold AS.freeze AS.find
  simp only [lkE]
  cases hb:Nat.beq q j with
  |true=>exact absurd (Nat.eq_of_beq_eq_true hb).symm hj
  |false=>rfl
 have fndq:(τ.freeze t q s2 ys).find q=some .dead:=by simp [AS.freeze,AS.find,lkE]
 have g3:(τ.freeze t q s2 ys).find id=some (.row ty sz xs):=by rw [fnd id hne,tl]
 have R:=zxy (cx:=cx) (o:=o) (σ:=τ.freeze t q s2 ys) (el':=el') ho hd hxo rfl g1 g2 hT g3 he (by rw [hi];rfl) (by rw [hi];omega) rfl rfl (by rw [hi];simpa [AV.cells] using hel)
 refine R.2 _ (fun _ _=>rfl) (fun _ _=>rfl) a w Q K fr (fun a' w' hst'=>hK a' w' ?_)
 obtain ⟨γ,hs⟩:=hst'
 rw [hdst] at hs ⊢
 have dq:γ q=some none:=by
  have:=hs.me q
  rw [AS.find_upd] at this
  have e:lkE [(id,Ent.row ty sz (xs.set k el'))] q=none:=by
   simp only [lkE]
   cases hb:Nat.beq id q with
   |true=>exact absurd (Nat.eq_of_beq_eq_true hb) hne
   |false=>rfl
  rw [e,Option.none_or,fndq] at this
  obtain ⟨d,hd,he⟩:=this
  have he:d=none:=he
  rw [hd,he]
 refine ⟨γ,fun u=>?_,fun j=>?_,hs.inj,hs.ge,hs.below,hs.size,hs.defers,hs.gh,hs.fr,hs.dr⟩
 ·rw [AS.get_upd,if_neg (by simp)]
  have hv:=hs.tm u
  rw [AS.get_upd,if_neg (by simp)] at hv
  by_cases hu:t=u
  ·subst hu
   rw [ty']
   exact .row dq (fun g s e _=>by cases e)
  ·have e:(τ.freeze t q s2 ys).get u=τ.get u:=by
    unfold AS.freeze AS.get
    simp only [lkV]
    cases hb:Nat.beq t u with
    |true=>exact absurd (Nat.eq_of_beq_eq_true hb) hu
    |false=>rfl
   rw [e] at hv
   exact hv
 ·have hm:=hs.me j
  rw [AS.find_upd] at hm ⊢
  simp only [lkE] at hm ⊢
  cases hb:Nat.beq id j with
  |true=>rw [hb] at hm;exact hm
  |false =>
   rw [hb] at hm
   simp only [Option.none_or] at hm ⊢
   cases hb2:Nat.beq q j with
   |true => 
    have:=Nat.eq_of_beq_eq_true hb2
    subst this
    exact ⟨none,dq,rfl⟩
   |false =>
    simp only [Option.none_or]
    rw [fnd j (fun e=>by subst e;simp at hb2)] at hm
    exact hm
theorem y03 {cs:List AV}(ho:o.op=.nilCheck x)(hd:dok cx o=true)(hxo:z0r x=true)(hx:σ.eval x=.ref cs):z11 cx o σ (.ref cs) [] [] :=
 z14 hd fun τ γ a w h1 h2 hst=>by
  have ex:=hst.ev x hxo
  rw [h1 x (by simp [ho,Op.operands]),hx] at ex
  obtain ⟨b,off,hv,_⟩:=ex.ref_inv
  refine ⟨a.eval x,by simp only [execOp,ho,hv,Sem.run_pure],ex⟩
theorem y04 {id off:Nat}{cs:List AV}(ho:o.op=.nilCheck x)(hd:dok cx o=true)(hxo:z0r x=true)(hx:σ.eval x=.ptr id off)(hl:σ.find id=some (.box ty cs)):z11 cx o σ (.ptr id off) [id] [] :=
 z14 hd fun τ γ a w h1 h2 hst=>by
  have ex:=hst.ev x hxo
  rw [h1 x (by simp [ho,Op.operands]),hx] at ex
  have hme:=hst.me id
  rw [h2 id (by simp),hl] at hme
  obtain ⟨d,hd',g,vs,hde,_⟩:=hme
  subst hde
  have hv:=ex.ptr_inv hd'
  refine ⟨a.eval x,by simp only [execOp,ho,hv,Sem.run_pure],ex⟩
end
section
variable {α β κ ν:Type} {E:Env} {nt:Nat} {o:Oper} {σ:AS} {K:OpK}
variable {x:Operand}
theorem OpX.nckR {cs:List AV}(ho:o.op=.nilCheck x)(hd:dokN E nt o.dst=true)(hxo:z0r x=true)(hx:σ.eval x=.ref cs)(hk:K (.ref cs) [] []):OpX E nt o σ K:=.mk _ _ _ (fun cx hE hnt=>y03 ho (z15 hd hE hnt) hxo hx) hk
theorem OpX.nckP {id off:Nat}{cs:List AV}(ho:o.op=.nilCheck x)(hd:dokN E nt o.dst=true)(hxo:z0r x=true)(hx:σ.eval x=.ptr id off)(hl:σ.find id=some (.box ty cs))(hk:K (.ptr id off) [id] []):OpX E nt o σ K:=.mk _ _ _ (fun cx hE hnt=>y04 ho (z15 hd hE hnt) hxo hx hl) hk
theorem OpX.str {ε:Type}(er:ε->AV){l:List (List ε)}{m:Nat}{v:List ε}{k:List (List ε)->Option β}{r:β}{T t id q ety:Nat}{i:TyI}(hF:stx l m (fun _=>v) k=some r)(ho:o.op=.store T x (.tmp t))(hdst:o.dst=none)(hd:dokN E nt o.dst=true)(hxo:z0r x=true)(hx:σ.eval x=.elt id 1 m 0)(hy:σ.get t=.row q)(hT:lkT E.tab T=some i)(hi:i.sz=1)
  (hl:σ.find id=some (.row ty 1 (l.map fun q=>.sl sz (q.map er)))) (hq:σ.find q=some (.row ety sz (v.map er))) (hne:Nat.beq id q=false) (hk:∀ l',k l'=some r->K (.tup []) [id,q] [(id,.row ty 1 (l'.map fun q=>.sl sz (q.map er))),(q,.dead)]):OpX E nt o σ K:=by
 unfold stx at hF
 split at hF
 ·rename_i y hy'
  refine .mk _ _ _ (fun cx hE hnt=>?_) (hk _ hF)
  have h:=y9p (cx:=cx) (el':=.sl sz (v.map er)) ho (z15 hd hE hnt) hdst hxo hx hy (by rw [hE];exact hT) hi hl hq (nbne hne) (by rw [getElem?_map,hy'];rfl) (Nat.le_refl _) rfl
  rw [map_set]
  exact h
 ·cases hF
def mgv [DecidableEq κ](l:List (κ×ν))(k:κ)(z:ν)(c:ν->Bool->Option β):Option β:=c ((mlk l k).getD z) (mlk l k).isSome
theorem OpX.lkv [DecidableEq κ](ek:κ->AV)(er:ν->AV){l:List (κ×ν)}{k:κ}{z:ν}{ok:Bool}{c:ν->Bool->Option β}{r:β}{T kt et:Nat}{y:Operand}{i ie:TyI}(hF:mgv l k z c=some r)(heq:∀ a b,eqK (ek a) (ek b)=some (decide (a=b)))(ho:o.op=.lookup T x y ok)(hd:dokN E nt o.dst=true)(hxo:z0r x=true)(hyo:z0r y=true)(hx:σ.eval x=.mapv (l.map (encM ek er)))(hy:σ.eval y=ek k)
  (hT:lkT E.tab T=some i) (hs:i.shape=.map kt et) (he:lkT E.tab et=some ie) (hzo:zhu ie.zero.cells.toList=true) (hkf:zfh E.P kt (ek k)=true) (hz:Sub (zht ie.zero) (er z)) (hk:∀ v b,c v b=some r->K (y0c (er v) b ok) [] []):OpX E nt o σ K:=by
 have h:=LkX.o (P:=E.P) (kt:=kt) (zA:=zht ie.zero) (K:=fun av b=>K (y0c av b ok) [] []) ek er (show mgt l k z c=some r by unfold mgv at hF;unfold mgt;exact hF) hkf heq hz (fun v b hc=>hk v b hc)
 cases h with
 |mk q av b hk' hf hb hsu hc =>
  subst hb
  exact .mk _ _ _ (fun cx hE hnt=>y1c (ok:=ok) ho (z15 hd hE hnt) hxo hyo hx hy (by rw [hE];exact hT) hs (by rw [hE];exact he) (zn6 hzo) (by rw [show cx.P=E.P by rw [<-hE]];exact hk') hf hsu) hc
theorem ye0 (k:AV):∀ (l:List AV) (i:Nat),zfz k l (i+1)=(zfz k l i).map (·.map (· + 1))
 |[],i=>rfl
 |a::l,i=>by
  simp only [zfz]
  cases eqK k a with
  |none=>rfl
  |some b=>cases b with
   |true=>rfl
   |false=>exact ye0 k l (i+1)
def LkC (n:Int)(z:AV)(qs:List (AV×AV))(K:AV->Prop):Prop:=∃ r av,zfz (.int .i64 n) (qs.map (·.1)) 0=some r/\Sub (ztw z qs r) av/\K av
variable {qs:List (AV×AV)}
theorem LkC.cons {n:Int}{z v:AV}{k:Nat}{K:AV->Prop}{x y:Option β}{r:β}(h:natc n k x y=some r)(h0:x=some r->K v)(h1:y=some r->LkC n z qs K):LkC n z ((.int .i64 (k:Int),v)::qs) K:=by
 rw [zt6] at h
 split at h
 ·rename_i e
  refine ⟨some 0,v,?_,.refl _,h0 h⟩
  simp only [map_cons,zfz,eqK,eq1,e]
  simp
 ·rename_i e
  obtain ⟨q,av,g1,g2,g3⟩:=h1 h
  refine ⟨q.map (· + 1),av,?_,?_,g3⟩
  ·simp only [map_cons,zfz,eqK,eq1]
   rw [decide_eq_false e]
   simp only [ye0,g1,Option.map_some]
   rfl
  ·cases q with
   |none=>exact g2
   |some j=>exact g2
theorem OpX.lkc {n:Int}{T kt et:Nat}{y:Operand}{i ie:TyI}(ho:o.op=.lookup T x y false)(hx:σ.eval x=.mapv qs)(hd:dokN E nt o.dst=true)(hxo:z0r x=true)(hyo:z0r y=true)(hy:σ.eval y=.int .i64 n)
  (hT:lkT E.tab T=some i) (hs:i.shape=.map kt et) (he:lkT E.tab et=some ie) (hzo:zhu ie.zero.cells.toList=true) (hkf:zfh E.P kt (.int .i64 n)=true) (hk:LkC n (zht ie.zero) qs fun av=>K av [] []):OpX E nt o σ K:=by
 obtain ⟨r,av,g1,g2,g3⟩:=hk
 exact .mk _ _ _ (fun cx hE hnt=>y1c (ok:=false) ho (z15 hd hE hnt) hxo hyo hx hy (by rw [hE];exact hT) hs (by rw [hE];exact he) (zn6 hzo) (by rw [show cx.P=E.P by rw [<-hE]];exact hkf) g1 g2) g3
end
def y20:AV->Bool
 |.ptr _ 0=>true
 |_=>false
def frb {β:Type}(r:Nat)(x:Option β):Option β:=x
section
variable {β:Type} {E:Env} {nt:Nat}
variable {cs:List AV}
theorem LeX.frb {σ:AS}(r:Nat)(hr:σ.find r=some (.box ty cs))(hc:AV.closedL cs=true):LeX E nt σ (σ.rpAll r y20 (.ref cs) .dead):=by
 refine LeX.rpAll r y20 _ _ _ hr (fun ty cs h=>by cases h) (fun cx γ a w d hst hd he=>?_)
 obtain ⟨g,vs,hde,hb,hsz,hrr,hone⟩:=he
 subst hde
 refine ⟨none,(fun b hb=>by cases hb),fun S' hS hS2=>⟨rfl,fun γ' x v hγ' hsrc hx hv=>?_⟩⟩
 have hx':x=.ptr r 0:=by
  cases x with
  |ptr i off=>cases off with
   |zero=>simp only [AV.leafId,Option.some.injEq] at hx;rw [hx]
   |succ n=>simp [y20] at hsrc
  |_=>simp [y20] at hsrc
 subst hx'
 have hv':v=.pointer (some ⟨g,0,none⟩):=by
  cases hv with
  |ptr h hv=>rw [hd] at h;injection h with h;exact hv _ _ h.symm
 subst hv'
 refine .ref g 0 (fun j=>vs.getD j undef) (hS2 g z4e (fun h=>by cases h)) hb.lt (fun j hj=>by rw [Nat.zero_add];exact zjr hb j (by omega)) (fun j hj=>?_) (fun j hj=>hone j (by omega))
 exact ((hrr j hj).close (AV.closedL_at hc j hj)).mono (Nat.le_refl _) (fun b hb _=>⟨rfl,hS b hb⟩)
variable {R:Exit->AS->Prop} {K:List zfk}
theorem AW.frb0 {c:Code}{σ:AS}(r:Nat)(hr:σ.find r=some (.box ty cs))(hc:AV.closedL cs=true)(k:AW E nt R (.code c::K) .normal (σ.rpAll r y20 (.ref cs) .dead)):AW E nt R (.code c::K) .normal σ:=AW.weaken (LeX.frb r hr hc) k
theorem AW.frbO {id:Nat}{c:Code}{σ:AS}{x:Option β}{y:β}(h:Proofs.YtidhlpjgifoneaaGreat.frb id x=some y)(r:Nat)(hr:σ.find r=some (.box ty cs))(hc:AV.closedL cs=true)(k:x=some y->AW E nt R (.code c::K) .normal (σ.rpAll r y20 (.ref cs) .dead)):AW E nt R (.code c::K) .normal σ:=AW.weaken (LeX.frb r hr hc) (k h)
end
section
variable {α β:Type} {E:Env} {nt:Nat} {o:Oper} {σ:AS} {K:OpK}
theorem OpX.bldR {l:List α}{k:List α->Option β}{r:β}(enc:α->AV){T n d e esz eb:Nat}{ps:Array (Nat×Operand)}{i ie:TyI}{fl:List AV}{ag:Bool}(hF:Proofs.YtidhlpjgifoneaaGreat.bld l k=some r)(ho:o.op=.buildSlice T n ps)(hdst:o.dst=some d)(hd:dokN E nt o.dst=true)(hT:lkT E.tab T=some i)(hs:i.shape=.slc e esz eb)(he:lkT E.tab e=some ie)(hz:Nat.beq esz 0=false)(hn:Nat.ble (n*esz) 16777216=true)
  (hze:zhu ie.zero.cells.toList=true) (hz0:Nat.blt 0 ie.zero.cells.size=true) (hok:zje σ ps=true) (hag:ie.shape.agg=ag) (hf:zqi (fun j=>some (j*esz,esz)) (replicate (n*esz) .any) (zh0 σ ps)=some fl) (hxs:zp1 ag esz n fl=xs) (hc:(ag || (Nat.beq esz 1 && fl.all ydk))=true) (hcl:AV.closedL xs=true) (hsub:SubR xs (l.map enc))
  (hnn:σ.find d=none) (hk:∀ l',k l'=some r->K (.row d) (d::zjf (zh0 σ ps)) [(d,.row e esz (l'.map enc))]):OpX E nt o σ K:=by
 have hlen:=zqh _ _ _ _ hf
 rw [length_replicate] at hlen
 simp only [Bool.or_eq_true,Bool.and_eq_true] at hc
 obtain ⟨c1,c2,c3⟩:=zzn ag esz _ fl hlen (hc.imp id (fun ⟨h1,h2⟩=>⟨nbeq h1,h2⟩))
 subst hxs
 refine .mk _ _ _ (fun cx hE hnt=>z11.weak (.cons _ (.row _ _ hsub) .nil) (zoy ho hdst (z15 hd hE hnt) (by rw [hE];exact hT) hs (by rw [hE];exact he) (nbne hz) hn (zf3 hze) hz0 hok hcl c2 (by simp only [all_eq_true];intro x hx;rw [c3 x hx];simp) (by rw [c1];exact hf) hnn)) (hk l hF)
def bndM (t:Nat)(o:Option α)(k:α->Option β):Option β:=bnd o k
theorem z6d (t:Nat){o:Option α}{k:α->Option β}{r:β}(h:bndM t o k=some r):bnd o k=some r:=h
theorem z8n (t:Nat)(a:α)(k:α->Option β):bndM t (some a) k=k a:=by unfold bndM bnd;rfl
end
section
variable {α β γ:Type} {E:Env} {nt:Nat} {f:FuncId} {avs:List AV}
def bndP (o:Option α)(rl:α->Option γ)(kN:α->Option β)(kS:α->γ->Option β):Option β:=match o with|some a=>(match rl a with|some q=>kS a q|none=>kN a)|none=>none
theorem z1l.oP {o:Option α}{rl:α->Option γ}{kN:α->Option β}{kS:α->γ->Option β}{r:β}{fr:Bool}{K:AV->Prop}{R:Nat->Nat->List AV->AV->Prop}{find:Nat->Option Ent}{KR:AV->List Nat->List (Nat×Ent)->Prop}(h:bndP o rl kN kS=some r)(enc:α->AV)(encN:α->AV)(encS:α->γ->AV)(hN:∀ a,rl a=none->enc a=encN a)(hS:∀ a q,rl a=some q->enc a=encS a q)(hc:∀ a,o=some a->Con E fr f avs (enc a))(hk:∀ a,kN a=some r->K (encN a))(hk':∀ a q,kS a q=some r->K (encS a q)):z1l E f avs K R find KR:=by
 unfold bndP at h
 split at h
 ·rename_i a
  split at h
  ·rename_i q hq
   exact .mk fr _ (hc _ rfl) (by rw [hS _ _ hq];exact hk' _ _ h)
  ·rename_i hq
   exact .mk fr _ (hc _ rfl) (by rw [hN _ hq];exact hk _ h)
 ·cases h
end
attribute [irreducible] mgv bndP frb bndM
section
variable {β V:Type}
abbrev ypl (E:Env)(nt:Nat)(L:Nat->V->Option β)(S:V->AS):Prop:=∀ {R:Exit->AS->Prop} {K:List zfk} {σ:AS} {c:Code} {r:β} {n:Nat} {v0:V} (_:L n v0=some r) (_:LeX E nt σ (S v0))
  (_:∀ m v,L (m+1) v=some r->AW E nt (zmp (fun σ'=>∃ v',L m v'=some r/\LeX E nt σ' (S v')) (AW E nt R K)) [.code c] .normal (S v)),z7z E nt (fun next σ'=>AW E nt (zmp next (AW E nt R K)) [.code c] .normal σ') σ
theorem LoopA.oT {nt:Nat}{L:Nat->V->Option β}{S:V->AS}(hz:∀ v,L 0 v=none):ypl E nt L S:=fun h hl round=>LoopA.o h hz hl round
end
section
variable {β:Type}
theorem RetX.oA {v:AV}{a r:β}{enc:β->AV}(h:some a=some r)(hs:Sub v (enc a):=by (repeat' first|exact Sub.nil _|exact Sub.refl _|refine Sub.agg ?_|refine Sub.tup ?_|refine Sub.fn ?_|exact SubL.nil|refine SubL.cons ?_ ?_|refine Sub.sl _ ?_|exact SubE.nil|refine SubE.cons ?_ ?_)<;>fail):RetX v (enc r):=RetX.o h hs
theorem LeX.a {nt:Nat}{σ τ:AS}(ps:List (Nat×Nat))(h:injB (rho ps) (τ.me.map (·.1))=true:=by rfl)(h1:LeV σ (rho ps) (τ.me.map (·.1)) τ.tm:=by (repeat' first|exact trivial|exact rfl|refine ⟨?_,?_⟩)<;>fail)(h2:LeE σ (rho ps) (τ.me.map (·.1)) τ.me:=by (repeat' first|exact trivial|exact rfl|refine ⟨?_,?_⟩)<;>fail):LeX E nt σ τ:=LeX.of ps h h1 h2
end
def arnV (s:Value)(vs:Array Value):Option (Option Nat×Value):=some (none,.agg (#[s]++vs))
variable {s:Value}{vs:Array Value}
theorem mem_arnV {b:Nat}:b∈blks (arnV s vs) ↔ zaw s=some b\/∃ j,zaw (vs.getD j undef)=some b:=by
 rw [show blks (arnV s vs)=blks (nstV s vs) from rfl]
 exact mem_nstV
theorem con1 (x:Value)(vs:Array Value)(j:Nat):(#[x]++vs).getD (j+1) undef=vs.getD j undef:=by
 rw [Array.getD_eq_getD_getElem?,Array.getD_eq_getD_getElem?,Array.getElem?_append_right (by simp)];simp
variable {γ:Gam}{id:Nat}
theorem yjl {vs':Array Value}(h:γ id=some (arnV s vs'))(hx:∀ j,j<vs.size->j<vs'.size/\vs'.getD j undef=vs.getD j undef):Turn γ id (arnV s vs) :=
 ⟨_,_,rfl,h,rfl,rfl,fun φ hφ=>by
  cases φ with
  |obj j =>
   simp only [Dv.ok,Nat.blt_eq,Array.size_append] at hφ ⊢
   have h1:j<vs.size:=by simp at hφ;omega
   obtain ⟨k1,k2⟩:=hx j h1
   exact ⟨by simp;omega,by simp only [Dv.of,con1,k2]⟩
  |oelt j k =>
   simp only [Dv.ok,Nat.blt_eq,Array.size_append] at hφ ⊢
   have h1:j<vs.size:=by simp at hφ;omega
   obtain ⟨k1,k2⟩:=hx j h1
   exact ⟨by simp;omega,by simp only [Dv.of,con1,k2]⟩
  |_=>exact ⟨rfl,by simp only [Dv.of,con0]⟩⟩
section
variable {cx:Cx} {o:Oper} {σ:AS}
variable {w:World}{idx:List (Option Nat)}{os:List NE}
theorem y53 {τ:AS}{a:Act}(hst:StG cx γ τ a w)(hl:τ.find id=some (.are ty idx os)) :
  ∃ s vs us,γ id=some (arnV s vs)/\s.oneCell'=true/\vs.size=os.length/\w.ownsRow cx.w0.heap.size ty 1 s idx.length us/\(∀ u∈us,u.oneCell'=true) /\
   (∀ k (hk:k<idx.length),(idx[k]=none->Rep w (Sg cx.S0 cx.w0.heap.size γ) G0 (.mapv []) (us.getD k undef))/\∀ j,idx[k]=some j->j<os.length/\us.getD k undef=vs.getD j undef)/\(∀ j (h:j<os.length),os[j]≠.hole/\NRep w (Sg cx.S0 cx.w0.heap.size γ) cx.w0.heap.size (vs.getD j undef) os[j])/\DisB (zaw s) vs:=by
 have hme:=hst.me id
 rw [hl] at hme
 obtain ⟨d,hd',s,vs,us,hde,r⟩:=hme
 subst hde
 exact ⟨s,vs,us,hd',r⟩
variable {v:Value}
theorem yrd {S:Nat->Prop}{φ:Dv}{g:Option Nat}(h:Rep w S γ (.der φ id) v)(hg:γ id=some (some (g,s))):φ.ok s=true/\v=φ.of s:=by
 cases h with
 |der h hv=>rw [hg] at h;injection h with h;exact hv g s h.symm
theorem yk9 {γ':Gam}{τ:AS}{a:Act}{w':World}{dst:Option Nat}{q:Nat}{d0 d1:Option (Option Nat×Value)}{e1 e:Ent}{av:AV}(hst:StG cx γ τ a w)(hd:∀ x,dst=some x->cx.E.np<=x/\x<cx.nt)(hne:id≠q)(hid:γ id=some d0)(hid':γ' id=some d1)(hturn:Turn γ' id d0)(hoth:∀ i,i≠id->i≠q->γ' i=γ i)
  (hq:∀ x,γ q=some x->γ' q=some none) (hown:∀ b,own γ' b ↔ own γ b) (hinj:∀ b d,γ' q=some d->b∈blks d->b ∉ blks d1/\(∀ i d',i≠id->i≠q->γ i=some d'->b ∉ blks d')) (hsub:∀ i d' b,i≠id->i≠q->γ i=some d'->b∈blks d'->b ∉ blks d1)
  (hz':w.heap.size<=w'.heap.size) (hwo:∀ k,k ∉ blks d0->w'.heap[k]? = w.heap[k]?) (hbel:Below cx.w0.heap.size w w') (hdr:w.drawn<=w'.drawn)
  (hn:(∀ b,Sg cx.S0 cx.w0.heap.size γ b->b<w.heap.size->w'.heap[b]? = w.heap[b]? /\ Sg cx.S0 cx.w0.heap.size γ' b)->z8s w' (Sg cx.S0 cx.w0.heap.size γ') γ' cx.w0.heap.size d1 e1)
  (he:(∀ b,Sg cx.S0 cx.w0.heap.size γ b->b<w.heap.size->w'.heap[b]? = w.heap[b]? /\ Sg cx.S0 cx.w0.heap.size γ' b)->∃ x,γ' q=some x/\z8s w' (Sg cx.S0 cx.w0.heap.size γ') γ' cx.w0.heap.size x e)
  (hv:Rep w' (Sg cx.S0 cx.w0.heap.size γ') γ' av v):St cx (τ.upd dst av [(id,e1),(q,e)]) (a.put dst v) w':=by
 have hsown:∀ b,b∈blks d0->own γ b:=fun b hb=>⟨id,_,hid,hb⟩
 have hns:∀ b,Sg cx.S0 cx.w0.heap.size γ b->b ∉ blks d0:=fun b hS e=>by
  have ho:=hsown b e
  rcases hS with ⟨_,h⟩|⟨_,h⟩
  ·have:=(hst.ge b ho).1.1;omega
  ·exact h ho
 have hSS:∀ b,Sg cx.S0 cx.w0.heap.size γ b->Sg cx.S0 cx.w0.heap.size γ' b:=fun b hb=>hb.elim Or.inl (fun ⟨h1,h2⟩=>Or.inr ⟨h1,fun ho=>h2 ((hown b).1 ho)⟩)
 have hk:∀ b,Sg cx.S0 cx.w0.heap.size γ b->b<w.heap.size->w'.heap[b]? = w.heap[b]? /\ Sg cx.S0 cx.w0.heap.size γ' b:=fun b hS _=>⟨hwo b (hns b hS),hSS b hS⟩
 refine ⟨γ',hst.step hd hz' hk (fun i x hx=>?_) (fun i hi=>?_) (fun i e0 hi=>?_) (fun i i' b d d' hi hi' m m'=>?_) (fun b hb=>?_) (hst.below.trans hbel) hv (fun b hno _=>⟨hwo b (fun e=>hno (hsown b e)),fun ho=>hno ((hown b).1 ho)⟩) (fun _=>hdr)⟩
 ·by_cases h1:i=id
  ·subst h1;rw [hid] at hx;injection hx with hx;subst hx;exact Or.inr (Or.inr hturn)
  ·by_cases h2:i=q
   ·subst h2;exact Or.inr (Or.inl (hq x hx))
   ·exact Or.inl ((hoth i h1 h2).trans hx)
 ·rw [zrs hne] at hi
  by_cases h1:i=id
  ·rw [if_pos h1] at hi;cases hi
  ·rw [if_neg h1] at hi
   by_cases h2:i=q
   ·rw [if_pos h2] at hi;cases hi
   ·exact ⟨hoth i h1 h2,fun b d hi hm=>hwo b (fun e=>h1 (hst.inj _ _ _ _ _ hi hid hm e))⟩
 ·rw [zrs hne] at hi
  by_cases h1:i=id
  ·subst h1
   rw [if_pos rfl] at hi
   injection hi with hi
   subst hi
   exact ⟨_,hid',hn hk⟩
  ·rw [if_neg h1] at hi
   by_cases h2:i=q
   ·subst h2
    rw [if_pos rfl] at hi
    injection hi with hi
    subst hi
    exact he hk
   ·rw [if_neg h2] at hi;cases hi
 ·have sym:∀ i i' d d',γ' i=some d->γ' i'=some d'->b∈blks d->b∈blks d'->i=id->i=i':=fun i i' d d' hi hi' m m' h1=>by
   subst h1
   rw [hid'] at hi
   injection hi with hi
   subst hi
   by_cases h2:i'=i
   ·exact h2.symm
   ·by_cases h3:i'=q
    ·subst h3;exact absurd m (hinj b d' hi' m').1
    ·rw [hoth i' h2 h3] at hi'
     exact absurd m (hsub i' d' b h2 h3 hi' m')
  by_cases h1:i=id
  ·exact sym i i' d d' hi hi' m m' h1
  ·by_cases h2:i'=id
   ·exact (sym i' i d' d hi' hi m' m h2).symm
   ·by_cases h3:i=q
    ·by_cases h4:i'=q
     ·rw [h3,h4]
     ·subst h3
      rw [hoth i' h2 h4] at hi'
      exact absurd m' ((hinj b d hi m).2 i' d' h2 h4 hi')
    ·by_cases h4:i'=q
     ·subst h4
      rw [hoth i h1 h3] at hi
      exact absurd m ((hinj b d' hi' m').2 i d h1 h3 hi)
     ·rw [hoth i h1 h3] at hi
      rw [hoth i' h2 h4] at hi'
      exact hst.inj _ _ _ _ _ hi hi' m m'
 ·have:=hst.ge b ((hown b).1 hb)
  exact ⟨this.1,Nat.lt_of_lt_of_le this.2 hz'⟩
theorem LeX.are {nt:Nat}{σ:AS}(r:Nat){m:Nat}(hr:σ.find r=some (.row ty 1 (replicate m (.mapv [])))):LeX E nt σ (σ.rpAll r y7l (.cont m r) (.are ty (replicate m none) [])):=by
 refine LeX.rpAll r y7l (.cont m r) _ _ hr (fun ty cs h=>by cases h) (fun cx γ a w d hst hd he=>?_)
 obtain ⟨s,us,hde,hs1,hown,hlen,hre,hone⟩:=he
 subst hde
 obtain ⟨ob1,ob2⟩:=zt5 hown
 rw [length_replicate] at hown
 have hul:us.length=m:=by have:=hown.1;omega
 have hnil:∀ k,k<m->Rep w (Sg cx.S0 cx.w0.heap.size γ) G0 (.mapv []) (us.getD k undef):=fun k hk=>by
  have:=hre k (by simpa using hk) 0 (by simp [AV.cells])
  simp only [getElem_replicate,AV.cells,getElem_cons_zero,Nat.mul_one,Nat.add_zero] at this
  exact this
 refine ⟨arnV s #[],fun b hb=>?_,fun S' hS hS2=>⟨⟨s,#[],us,rfl,hs1,rfl,by rw [length_replicate];exact hown,hone,fun k hk=>?_,fun j h=>absurd h (by simp),fun i j b hi=>?_,fun i b _ hi=>?_⟩,fun γ' x v hγ' hsrc hx hv=>?_⟩⟩
 ·rcases mem_arnV.1 hb with h|⟨j,h⟩
  ·exact (ziz ob1 ob2).2 h
  ·simp [undef,zaw] at h
 ·have hk':k<m:=by simpa using hk
  simp only [getElem_replicate]
  exact ⟨fun _=>(hnil k hk').mono (Nat.le_refl _) (fun b hb _=>⟨rfl,hS b hb⟩),fun j hj=>by cases hj⟩
 ·simp [undef,zaw] at hi
 ·simp [undef,zaw] at hi
 ·have hx':x=.row r:=by
   cases x with
   |row i=>simp only [AV.leafId,Option.some.injEq] at hx;rw [hx]
   |_=>simp [y7l] at hsrc
  subst hx'
  have hvs:v=s:=hv.row_inv hd (zhm hs1)
  subst hvs
  refine .cont hγ' (fun g s' e=>?_) ?_
  ·injection e with e
   injection e with _ e
   subst e
   simp only [Dv.of,con0]
  ·rcases hown.2 with ⟨hv0,h0⟩|⟨g,cap,cur,hv0,_⟩
   ·exact ⟨none,0,by rw [hv0,h0],fun h=>by omega⟩
   ·exact ⟨_,cap,hv0,fun _=>⟨g,0,rfl⟩⟩
variable {T j:Nat}{x:Operand}{i:TyI}
theorem yex {k:Nat}(ho:o.op=.load T x)(hd:dok cx o=true)(hxo:z0r x=true)(hx:σ.eval x=.der (.nelt k) id)(hT:lkT cx.E.tab T=some i)(ha:i.shape.agg=false)(hl:σ.find id=some (.are ty idx os))(hk:idx[k]? = some (some j)) :
  z11 cx o σ (.der (.obj j) id) [id] [] :=
 z14 hd fun τ γ a w h1 h2 hst=>by
  have ex:=hst.ev x hxo
  rw [h1 x (by simp [ho,Op.operands]),hx] at ex
  obtain ⟨s,vs,us,hg,hs1,hsz,hown,hone,hix,hnn,hdb⟩:=y53 hst (by rw [h2 id (by simp)];exact hl)
  obtain ⟨hkl,hke⟩:=List.getElem?_eq_some_iff.1 hk
  obtain ⟨q1,q2⟩:=(hix k hkl).2 j hke
  refine ⟨vs.getD j undef,?_,.der hg (fun g s' e=>?_)⟩
  ·have hown0:=hown
   rcases hown.2 with ⟨_,h0⟩|⟨g,cap,cur,hsv,_,hh,_⟩
   ·omega
   ·subst hsv
    have hv:a.eval x=.pointer (some ⟨g,0+k,none⟩):=by rw [ex.der_inv hg];simp only [Dv.of,con0]
    have hc:=zjc hown0 rfl k (by omega)
    have hrun:=zez (cx.E.ok T i hT) ha w ⟨g,0+k,none⟩ (us.getD k undef) (by rw [Nat.zero_add];exact hc)
    rw [q2] at hrun
    simp only [execOp,ho,hv,Instr.loadAt,Instr.sureAddr,Sem.run_bind,Sem.run_pure,Result.andThen_ok,hrun]
  ·injection e with e
   injection e with _ e
   subst e
   exact ⟨by simp [Dv.ok];omega,by simp only [Dv.of,con1]⟩
variable {ps:List (AV×AV)}
theorem yhv {τ:AS}{a:Act}(hg:γ id=some (arnV s vs))(hsz:vs.size=os.length)(hnn:∀ j (h:j<os.length),os[j]≠.hole/\NRep w (Sg cx.S0 cx.w0.heap.size γ) cx.w0.heap.size (vs.getD j undef) os[j])(hv:Rep w (Sg cx.S0 cx.w0.heap.size γ) γ (.der (.obj j) id) v)(ho:os[j]? = some (.mp ps)) :
  ∃ g ps0,v=.map (some g)/\vs.getD j undef=.map (some g)/\j<os.length/\ztl w (Sg cx.S0 cx.w0.heap.size γ) g ps0/\y58 ps0 ps:=by
 obtain ⟨hj,hje⟩:=List.getElem?_eq_some_iff.1 ho
 have h:=(hnn j hj).2
 rw [hje] at h
 obtain ⟨g,ps0,h1,h2,h3⟩:=h
 refine ⟨g,ps0,?_,h1,hj,h2,h3⟩
 rw [(yrd hv hg).2]
 simp only [Dv.of,con1,h1]
variable {y:Operand}
theorem y68 {kt et:Nat}{ok:Bool}{ie:TyI}{k av:AV}{r:Option Nat}(ho:o.op=.lookup T x y ok)(hd:dok cx o=true)(hxo:z0r x=true)(hyo:z0r y=true)(hx:σ.eval x=.der (.obj j) id)(hy:σ.eval y=k)(hl:σ.find id=some (.are ty idx os))(hj:os[j]? = some (.mp ps))
  (hT:lkT cx.E.tab T=some i) (hs:i.shape=.map kt et) (he:lkT cx.E.tab et=some ie) (hzo:ybu ie.zero=true) (hk:zfh cx.P kt k=true) (hf:zfz k (ps.map (·.1)) 0=some r)
  (hav:Sub (ztw (zht ie.zero) ps r) av):z11 cx o σ (y0c av r.isSome ok) [id] [] :=
 z14 hd fun τ γ a w h1 h2 hst=>by
  have ex:=hst.ev x hxo
  rw [h1 x (by simp [ho,Op.operands]),hx] at ex
  have ey:=hst.ev y hyo
  rw [h1 y (by simp [ho,Op.operands]),hy] at ey
  obtain ⟨s,vs,us,hg,hs1,hsz,hown,hone,hix,hnn,hdb⟩:=y53 hst (by rw [h2 id (by simp)];exact hl)
  obtain ⟨g,ps0,hv,_,_,hm,hp⟩:=yhv (τ:=τ) (a:=a) hg hsz hnn ex hj
  obtain ⟨r0,f1,f2,f3⟩:=zyx hp hf
  obtain ⟨v,hv1,hv2⟩:=zv7 (S:=Sg cx.S0 cx.w0.heap.size γ) (zA:=zht ie.zero) ok (zq5 (cx.E.ok T i hT) hs) hk (ey.flat (zj5 hk)) hm ((cx.E.ok et ie he).zeroV w) (zqb _ _ _ _ hzo) f1
  rw [f2] at hv2
  have hv1:Rep w (Sg cx.S0 cx.w0.heap.size γ) G0 (ztw (zht ie.zero) ps r) v:=by rw [<-f3];cases r0<;>exact hv1
  have hv1:=(hv1.open_ (γ':=γ)).sub hav
  refine ⟨(if ok then .tuple #[v,.bool r.isSome] else v),by simp only [execOp,ho,hv,Sem.run_bind,hv2,Result.andThen_ok,Sem.run_pure],?_⟩
  cases ok with
  |false=>exact hv1
  |true =>
   simp only [y0c,if_true]
   refine .tup #[v,.bool r.isSome] rfl (fun j hj=>?_)
   have hj:j<2:=hj
   rcases j with _|_|j
   ·exact hv1
   ·exact .bool _
   ·omega
def PutQ (k x:AV)(ps ps':List (AV×AV)):Prop:=∀ ps0,y58 ps0 ps->∃ r0,zfz k (ps0.map (·.1)) 0=some r0/\y58 (putK r0 k x ps0) ps'
theorem zy0 {kt et:Nat}{z:Operand}{k xv:AV}{ps':List (AV×AV)}(ho:o.op=.mapUpdate T x y z\/o.op=.insert T x y z)(hd:dok cx o=true)(hxo:z0r x=true)(hyo:z0r y=true)(hzo:z0r z=true)(hx:σ.eval x=.der (.obj j) id)(hy:σ.eval y=k)(hz:σ.eval z=xv)(hl:σ.find id=some (.are ty idx os))(hj:os[j]? = some (.mp ps))
  (hT:lkT cx.E.tab T=some i) (hs:i.shape=.map kt et) (hk:zfh cx.P kt k=true) (hcl:xv.closed=true) (hps:PutQ k xv ps ps'):z11 cx o σ (.tup []) [id] [(id,.are ty idx (os.set j (.mp ps')))]:=by
 refine ⟨fun id e he=>zhd he,fun τ h1 h2 a w Q K ⟨γ,hst⟩ hK=>zhj (fun c hc=>by rcases ho with ho|ho<;>(rw [ho] at hc;cases hc)) ?_⟩
 have hmem:x∈o.op.operands/\y∈o.op.operands/\z∈o.op.operands:=by rcases ho with ho|ho<;>simp [ho,Op.operands]
 have ex:=hst.ev x hxo
 rw [h1 x hmem.1,hx] at ex
 have ey:=hst.ev y hyo
 rw [h1 y hmem.2.1,hy] at ey
 have ez:=hst.ev z hzo
 rw [h1 z hmem.2.2,hz] at ez
 obtain ⟨s,vs,us,hgi,hs1,hsz,hown,hone,hix,hnn,hdb⟩:=y53 hst (by rw [h2 id (by simp)];exact hl)
 obtain ⟨g,ps0,hv,hvj,hjl,hm,hp⟩:=yhv (τ:=τ) (a:=a) hgi hsz hnn ex hj
 obtain ⟨r0,f1,f2⟩:=hps ps0 hp
 have hgb:g∈blks (arnV s vs):=mem_arnV.2 (Or.inr ⟨j,by rw [hvj];rfl⟩)
 have hgo:own γ g:=⟨id,_,hgi,hgb⟩
 have hgl:=hst.ge g hgo
 have hns:∀ b,Sg cx.S0 cx.w0.heap.size γ b->b≠g:=fun b hS e=>by
  subst e
  rcases hS with ⟨_,h⟩|⟨_,h⟩
  ·have:=hgl.1.1;omega
  ·exact h hgo
 obtain ⟨ob,hrun,hm'⟩:=y19 (zq5 (cx.E.ok T i hT) hs) hk (ey.flat (zj5 hk)) (ez.close hcl) hm f1 (fun hS=>hns g hS rfl)
 have hex:(execOp a.eval o).run cx.P w=.ok .skip { w with heap:=w.heap.setIfInBounds g ob }:=by
  rcases ho with ho|ho<;>simp only [execOp,ho,hv,Sem.run_bind,hrun,Result.andThen_ok,Sem.run_pure]
 unfold Oper.wp
 rw [hex]
 have hoth:∀ k,k≠g->({ w with heap:=w.heap.setIfInBounds g ob }:World).heap[k]? = w.heap[k]? := fun k hk=>by simp [Array.getElem?_setIfInBounds,Ne.symm hk]
 have hz':w.heap.size<=({ w with heap:=w.heap.setIfInBounds g ob }:World).heap.size:=by simp
 have hdr:w.drawn<=({ w with heap:=w.heap.setIfInBounds g ob }:World).drawn:=Nat.le_refl _
 have hbel:Below cx.w0.heap.size w ({ w with heap:=w.heap.setIfInBounds g ob }:World):=⟨rfl,rfl,rfl,hz',fun k hk=>hoth k (by have:=hgl.1.1;omega)⟩
 generalize ({ w with heap:=w.heap.setIfInBounds g ob }:World)=w' at *
 refine hK _ _ ⟨γ,hst.step (z9f hd) hz' (fun b hS hlt=>⟨hoth b (hns b hS),hS⟩) (fun id d h=>Or.inl h) (fun id' hid'=>⟨rfl,fun g' s hg' hmb=>hoth g' ?_⟩) (fun id' e' he'=>?_) hst.inj (fun b hbo=>⟨(hst.ge b hbo).1,Nat.lt_of_lt_of_le (hst.ge b hbo).2 hz'⟩) (hst.below.trans hbel) (.tup #[] rfl (fun j hj=>absurd hj (by simp))) (fun b hno hlt=>⟨hoth b (fun e=>hno (e▸hgo)),hno⟩) (fun _=>hdr)⟩
 ·rintro rfl
  have:=hst.inj _ _ _ _ _ hg' hgi hmb hgb
  subst this
  simp [lkE] at hid'
 ·have hid:id'=id:=by have:=zhd he';simpa using this
  subst hid
  simp only [lkE,Nat.beq_refl,Option.some.injEq] at he'
  subst he'
  refine ⟨_,hgi,s,vs,us,rfl,hs1,by rw [length_set];exact hsz,hown.moved (fun b hb=>hoth b (fun e=>hdb.2 j b hb (by rw [hvj,e];rfl))),hone,fun k hk=>⟨fun h=>((hix k hk).1 h).mono hz' (fun b hS hlt=>⟨hoth b (hns b hS),hS⟩),fun j' hj'=>by rw [length_set];exact (hix k hk).2 j' hj'⟩,fun j' h'=>?_,hdb⟩
  have h'':j' < os.length:=by simpa using h'
  simp only [getElem_set]
  by_cases hjj:j=j'
  ·subst hjj
   rw [if_pos rfl]
   exact ⟨(by intro h;cases h),g,_,hvj,hm',f2⟩
  ·rw [if_neg hjj]
   exact ⟨(hnn j' h'').1,(hnn j' h'').2.moved hz' (fun b hS hlt=>⟨hoth b (hns b hS),hS⟩) (fun b hb=>hoth b (fun e=>hjj (hdb.1 j j' b (by rw [hvj,e];rfl) hb)))⟩
theorem y9q {q k:Nat}(ho:o.op=.store T x y)(hd:dok cx o=true)(hxo:z0r x=true)(hyo:z0r y=true)(hx:σ.eval x=.der (.nelt k) id)(hy:σ.eval y=.row q)(hT:lkT cx.E.tab T=some i)(hi1:i.sz=1)(hl:σ.find id=some (.are ty idx os))(hq:σ.find q=some (.mp ps))(hk:k<idx.length)(hne:id≠q) :
  z11 cx o σ (.tup []) [id,q] [(id,.are ty (idx.set k (some os.length)) (os++[.mp ps])),(q,.dead)]:=by
 refine ⟨fun i e he=>yar he,fun τ h1 h2 a w Q K ⟨γ,hst⟩ hK=>zhj (fun c hc=>by rw [ho] at hc;cases hc) ?_⟩
 have ex:=hst.ev x hxo
 rw [h1 x (by simp [ho,Op.operands]),hx] at ex
 have ey:=hst.ev y hyo
 rw [h1 y (by simp [ho,Op.operands]),hy] at ey
 obtain ⟨s,vs,us,hg,hs1,hsz,hown,hone,hix,hnn,hdb⟩:=y53 hst (by rw [h2 id (by simp)];exact hl)
 obtain ⟨m,hγq,hev,hm⟩:=ydo (id:=q) hst (by rw [h2 q (by simp)];exact hq) ey
 have hul:us.length=idx.length*1:=hown.1
 obtain ⟨g,cap,cur,hsv,hbase,hh,hncap,hmx,hcs,htk⟩:∃ g cap cur,s=.slice (some ⟨g,0,none⟩) idx.length cap/\cx.w0.heap.size<=g/\w.heap[g]? = some (.cells cur ty (0,0))/\idx.length<=cap/\cap<=maxLen/\cur.size=cap*1/\cur.toList.take (idx.length*1)=us:=by
  rcases hown.2 with ⟨_,h0⟩|h
  ·omega
  ·exact h
 have hbs:zaw s=some g:=by rw [hsv];rfl
 have hv:a.eval x=.pointer (some ⟨g,0+k,none⟩):=by rw [ex.der_inv hg,hsv];simp only [Dv.of,con0]
 have hrun:=zkr (cx.E.ok T i hT) w g (0+k) ty cur (.map (some m)) hh (by rw [hi1];rfl) (by omega) (fun u hu=>by
  have:u=.map (some m):=by simpa [Value.cells] using hu
  rw [this];rfl)
 rw [show (Value.map (some m)).cells=#[.map (some m)] from rfl,hi1,Nat.zero_add] at hrun
 generalize hcur':(cur.toList.take k++(#[Value.map (some m)]:Array Value).toList++cur.toList.drop (k+1)).toArray=cur' at hrun
 have hex:(execOp a.eval o).run cx.P w=.ok .skip (w.setRow g cur'):=by
  rw [Nat.zero_add] at hv
  simp only [execOp,ho,hv,hev,Instr.storeAt,Instr.sureAddr,Sem.run_bind,Sem.run_pure,Result.andThen_ok,hrun]
 unfold Oper.wp
 rw [hex]
 have hblk:=setRow_heap w g cur cur' ty (0,0) hh
 have hothw:∀ q,q≠g->(w.setRow g cur').heap[q]? = w.heap[q]? := fun q hq=>setRow_other w g q _ hq
 have hzz:w.heap.size<=(w.setRow g cur').heap.size:=by simp
 have hdr:w.drawn<=(w.setRow g cur').drawn:=Nat.le_refl _
 have hgo:own γ g:=⟨id,_,hg,mem_arnV.2 (Or.inl hbs)⟩
 have hbel:Below cx.w0.heap.size w (w.setRow g cur'):=⟨rfl,rfl,rfl,hzz,fun k hk=>hothw k (by have:=(hst.ge g hgo).1.1;omega)⟩
 generalize w.setRow g cur'=w' at *
 have hgt:∀ i,(vs.push (.map (some m))).getD i undef=if i=vs.size then .map (some m) else vs.getD i undef:=fun i=>by
  simp only [Array.getD_eq_getD_getElem?,Array.getElem?_push]
  by_cases h:i=vs.size
  ·rw [if_pos h,if_pos h];rfl
  ·rw [if_neg h,if_neg h]
 have hvo:∀ j b,zaw (vs.getD j undef)=some b->j<vs.size:=fun j b h=>by
  rcases Nat.lt_or_ge j vs.size with h'|h'
  ·exact h'
  ·simp [Array.getD,Nat.not_lt.2 h',undef,zaw] at h
 have bl:∀ i d' b,i≠id->γ i=some d'->b∈blks d'->zaw s≠some b/\∀ j,zaw (vs.getD j undef)≠some b:=fun i d' b hi hγi hb =>
  ⟨fun e=>hi (hst.inj _ _ _ _ _ hγi hg hb (mem_arnV.2 (Or.inl e))),fun j hj=>hi (hst.inj _ _ _ _ _ hγi hg hb (mem_arnV.2 (Or.inr ⟨j,hj⟩)))⟩
 obtain ⟨hsm,hsm2⟩:=bl q _ m (Ne.symm hne) hγq z4e
 let γ':Gam:=fun i=>if i=id then some (arnV s (vs.push (.map (some m)))) else if i=q then some none else γ i
 have g1:γ' id=some (arnV s (vs.push (.map (some m)))):=if_pos rfl
 have g2:γ' q=some none:=by show (if q=id then _ else if q=q then _ else _)=_;rw [if_neg (Ne.symm hne),if_pos rfl]
 have g3:∀ i,i≠id->i≠q->γ' i=γ i:=fun i h1 h2=>by show (if i=id then _ else if i=q then _ else _)=_;rw [if_neg h1,if_neg h2]
 have hmb:∀ b,b∈blks (arnV s (vs.push (.map (some m)))) ↔ b∈blks (arnV s vs)\/b=m:=fun b=>by
  rw [mem_arnV,mem_arnV]
  constructor
  ·rintro (h|⟨j,h⟩)
   ·exact Or.inl (Or.inl h)
   ·rw [hgt] at h
    by_cases hj:j=vs.size
    ·rw [if_pos hj] at h;injection h with h;exact Or.inr h.symm
    ·rw [if_neg hj] at h;exact Or.inl (Or.inr ⟨j,h⟩)
  ·rintro ((h|⟨j,h⟩)|h)
   ·exact Or.inl h
   ·exact Or.inr ⟨j,by rw [hgt,if_neg (by have:=hvo j b h;omega)];exact h⟩
   ·exact Or.inr ⟨vs.size,by rw [hgt,if_pos rfl,h];rfl⟩
 refine hK _ _ (yk9 (γ':=γ') (q:=q) (w':=w') hst (z9f hd) hne hg g1 (yjl g1 (fun j hj=>⟨by simp;omega,by rw [hgt,if_neg (by omega)]⟩)) g3 (fun x hx=>g2) (fun b=>⟨fun ⟨i,x,hi,hb⟩=>?_,fun ⟨i,x,hi,hb⟩=>?_⟩) (fun b x hx hb=>?_) (fun i d' b h1 h2 hi hb hc=>?_) hzz (fun b hb=>hothw b (fun e=>hb (by rw [e];exact mem_arnV.2 (Or.inl hbs)))) hbel hdr (fun hk'=>?_) (fun hk'=>⟨_,g2,rfl⟩) (.tup #[] rfl (fun j hj=>absurd hj (by simp))))
 ·by_cases h1:i=id
  ·subst h1
   rw [g1] at hi;injection hi with hi;subst hi
   rcases (hmb b).1 hb with hb|hb
   ·exact ⟨_,_,hg,hb⟩
   ·subst hb;exact ⟨_,_,hγq,z4e⟩
  ·by_cases h2:i=q
   ·subst h2;rw [g2] at hi;injection hi with hi;subst hi;cases hb
   ·rw [g3 i h1 h2] at hi;exact ⟨i,x,hi,hb⟩
 ·by_cases h1:i=id
  ·subst h1
   rw [hg] at hi;injection hi with hi;subst hi
   exact ⟨_,_,g1,(hmb b).2 (Or.inl hb)⟩
  ·by_cases h2:i=q
   ·subst h2
    rw [hγq] at hi;injection hi with hi;subst hi
    exact ⟨_,_,g1,(hmb b).2 (Or.inr (zth rfl hb))⟩
   ·exact ⟨i,x,(g3 i h1 h2).trans hi,hb⟩
 ·rw [g2] at hx;injection hx with hx;subst hx;cases hb
 ·obtain ⟨q1,q2⟩:=bl i d' b h1 hi hb
  rcases (hmb b).1 hc with h|h
  ·rcases mem_arnV.1 h with h|⟨j,h⟩
   ·exact q1 h
   ·exact q2 j h
  ·subst h
   exact h2 (hst.inj _ _ _ _ _ hi hγq hb z4e)
 ·have hus':cur'.toList.take (idx.length*1)=us.set k (.map (some m)):=by
   rw [<-hcur',<-htk,set_eq_take_append_cons_drop,if_pos (by simp;omega)]
   have:=y2x cur.toList [Value.map (some m)] k (idx.length*1) (by simp;omega) (by simp;omega)
   simpa using this
  refine ⟨s,vs.push (.map (some m)),us.set k (.map (some m)),rfl,hs1,by simp [hsz],⟨by simp [hul],Or.inr ⟨g,cap,cur',by rw [length_set];exact hsv,hbase,hblk,by simpa using hncap,hmx,?_,by simpa using hus'⟩⟩,fun u hu=>?_,fun j hj=>?_,fun j hj=>?_,fun i j b hi hj=>?_,fun i b hb hi=>?_⟩
  ·rw [<-hcur']
   have:=zrk cur.toList [Value.map (some m)] k (by simp;omega)
   simpa [hcs] using this
  ·rcases mem_or_eq_of_mem_set hu with hu|hu
   ·exact hone u hu
   ·rw [hu];rfl
  ·have hj':j<idx.length:=by simpa using hj
   simp only [getElem_set,length_append,length_cons,length_nil]
   by_cases hjk:k=j
   ·subst hjk
    rw [if_pos rfl]
    refine ⟨fun h=>(by cases h),fun j' hj''=>?_⟩
    injection hj'' with hj''
    subst hj''
    refine ⟨by omega,?_⟩
    rw [getD_eq_getElem?_getD,getElem?_set_self (by omega),hgt,if_pos hsz.symm]
    rfl
   ·rw [if_neg hjk]
    have e:(us.set k (Value.map (some m))).getD j undef=us.getD j undef:=by rw [getD_eq_getElem?_getD,getElem?_set_ne hjk,<-getD_eq_getElem?_getD]
    rw [e]
    refine ⟨fun h=>((hix j hj').1 h).mono hzz hk',fun j' hj''=>?_⟩
    obtain ⟨q1,q2⟩:=(hix j hj').2 j' hj''
    exact ⟨by omega,by rw [q2,hgt,if_neg (by omega)]⟩
  ·simp only [length_append,length_cons,length_nil] at hj
   rw [hgt]
   by_cases hjk:j=vs.size
   ·rw [if_pos hjk]
    have e:(os++[NE.mp ps])[j]'(by simp;omega)=NE.mp ps:=by rw [getElem_append_right (by omega)];simp
    rw [e]
    exact ⟨(by intro h;cases h),m,ps,rfl,hm.move hzz hk' (hothw m (fun e=>hsm (by rw [hbs,e]))),Or.inl rfl⟩
   ·have hj':j<os.length:=by omega
    rw [if_neg hjk,getElem_append_left hj']
    exact ⟨(hnn j hj').1,(hnn j hj').2.moved hzz hk' (fun b hb=>hothw b (fun e=>hdb.2 j b (by rw [hbs,e]) hb))⟩
  ·rw [hgt] at hi hj
   by_cases h1:i=vs.size
   ·by_cases h2:j=vs.size
    ·rw [h1,h2]
    ·rw [if_pos h1] at hi;rw [if_neg h2] at hj;injection hi with hi;subst hi;exact absurd hj (hsm2 j)
   ·by_cases h2:j=vs.size
    ·rw [if_neg h1] at hi;rw [if_pos h2] at hj;injection hj with hj;subst hj;exact absurd hi (hsm2 i)
    ·rw [if_neg h1] at hi;rw [if_neg h2] at hj;exact hdb.1 i j b hi hj
  ·rw [hgt] at hi
   by_cases h1:i=vs.size
   ·rw [if_pos h1] at hi;injection hi with hi;subst hi;exact hsm hb
   ·rw [if_neg h1] at hi;exact hdb.2 i b hb hi
end
end Go.Proofs.YtidhlpjgifoneaaGreat
