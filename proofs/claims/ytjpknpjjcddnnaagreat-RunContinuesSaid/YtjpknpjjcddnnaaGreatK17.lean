/- Forms of terms: calls of closures with boxes, yields, ranges over functions. Forms of terms: a string's bytes, a string appended to a row of bytes, literals that are rows. Forms of terms: frozen maps, maps of closures that are known, results that are pointers, literals that are own rows. Short forms of what the printed proofs say often: loops, joins, results, states that are matched. Helpers over the type table: 64-bit ints, slices of known form, contracts given by hand. Plain laws of the forms of terms (G0). -/
import Derived.Test.YtjpknpjjcddnnaaGreatK12
import Derived.Test.YtjpknpjjcddnnaaGreatK15
import Derived.Test.YtjpknpjjcddnnaaGreatK16
import Derived.Test.YtjpknpjjcddnnaaGreatK14
set_option linter.unusedVariables false
set_option linter.unusedSimpArgs false
namespace Go.Proofs.YtjpknpjjcddnnaaGreat
open Go.RowKit
noncomputable def E0p (np:Nat):Env:={ E0 with np:=np }
noncomputable def E0y (l:Nat)(R:Obj)(np:Nat):Env:={ E0 with np:=np,yl:=some (l,R) }
noncomputable def E0r:Env:={ E0 with rg:=true }
theorem ConG.up {P:Program}{yl:Option (Nat×Obj)}{C:CalT}{args caps:List AV}{me me':List (Nat×Ent)}{res:AV}(h:ConG P none C args caps me res me'):ConG P yl C args caps me res me' :=
 fun cx γ w vs cs h1 h2 _=>h cx γ w vs cs h1 h2 (fun x hx=>by cases hx)
theorem Con.env {E E':Env}{fr:Bool}{f:FuncId}{avs:List AV}{res:AV}(hP:E'.P=E.P)(hd:E'.dr=false)(h:Con E fr f avs res):Con E' fr f avs res:=by
 refine ⟨by have:=h.1;unfold zde at *;rw [hP];exact this,fun S w vs ha=>?_⟩
 have:=h.2 S w vs ha
 rw [hP]
 exact this.mono fun e w' ⟨v,h1,⟨h2,_⟩,h3⟩=>⟨v,h1,⟨h2,fun hd'=>absurd (hd.symm.trans hd') (by simp)⟩,h3⟩
theorem ConT.env {E E':Env}{f:FuncId}{avs xs:List AV}{ty sz:Nat}{res:AV}(hP:E'.P=E.P)(h:ConT E f avs ty sz xs res):ConT E' f avs ty sz xs res:=by
 refine ⟨by have:=h.1;unfold zde at *;rw [hP];exact this,h.2.1,fun S w vs ha=>?_⟩
 rw [hP]
 exact h.2.2 S w vs ha
section
variable {α β:Type}
theorem z0m.oM {o:Option α}{k:α->Option β}{r:β}{E:Env}{f:FuncId}{avs:List AV}{K:AV->Prop}{R:Nat->Nat->List AV->AV->Prop}{find:Nat->Option Ent}{KR:AV->List Nat->List (Nat×Ent)->Prop}(h:bnd o k=some r)
  (ps ps':List (Nat×Nat)) (cargs:List AV) (me:List (Nat×Ent)) (meF:α->List (Nat×Ent)) (resF:α->AV) (dead:List Nat) (hc:∀ a,o=some a->ConG E.P E.yl (CalF E.P f 0) cargs [] me (resF a) (meF a)) (he:zde E f) (hdr0:E.dr=false) (hra:AV.renL (rho ps) cargs=avs) (hia:AV.inML (me.map (·.1)) cargs=true) (hle:LeF find (rho ps) (me.map (·.1)) me)
  (hn:∀ a,zhj find (rho ps) (rho ps') me (meF a) (resF a) dead) (kk:∀ a,k a=some r->KR ((resF a).ren (rho ps')) (idsG (rho ps) (rho ps') me (meF a)) (wrG (rho ps') (meF a) dead)):z0m E f avs K R find KR:=by
 cases o with
 |none=>unfold bnd at h;cases h
 |some a=>exact .memo ps ps' cargs me (meF a) (resF a) dead he hdr0 (hc a rfl) hra hia hle (hn a) (kk a (by unfold bnd at h;exact h))
theorem zbm.oM {o:Option α}{k:α->Option β}{r:β}{E:Env}{f:FuncId}{avs raw:List AV}{K:AV->Prop}{dst:Option Nat}{find:Nat->Option Ent}{KR:AV->List Nat->List (Nat×Ent)->Prop}(h:bnd o k=some r)
  (ps ps':List (Nat×Nat)) (cargs:List AV) (me:List (Nat×Ent)) (meF:α->List (Nat×Ent)) (resF:α->AV) (dead:List Nat) (hc:∀ a,o=some a->ConG E.P E.yl (CalF E.P f 0) cargs [] me (resF a) (meF a)) (he:zde E f) (hdr0:E.dr=false) (hra:AV.renL (rho ps) cargs=raw) (hia:AV.inML (me.map (·.1)) cargs=true) (hle:LeF find (rho ps) (me.map (·.1)) me)
  (hn:∀ a,zhj find (rho ps) (rho ps') me (meF a) (resF a) dead) (kk:∀ a,k a=some r->KR ((resF a).ren (rho ps')) (idsG (rho ps) (rho ps') me (meF a)) (wrG (rho ps') (meF a) dead)):zbm E f avs K raw find dst KR:=by
 cases o with
 |none=>unfold bnd at h;cases h
 |some a=>exact .memo ps ps' cargs me (meF a) (resF a) dead he hdr0 (hc a rfl) hra hia hle (hn a) (kk a (by unfold bnd at h;exact h))
theorem YldX.oM {o:Option α}{k:α->Option β}{r:β}{E:Env}{l:Nat}{T:Array Value}{raw cap:List AV}{find:Nat->Option Ent}{KR:AV->List Nat->List (Nat×Ent)->Prop}(h:bnd o k=some r)
  (ps ps':List (Nat×Nat)) (cargs ccaps:List AV) (me:List (Nat×Ent)) (meF:α->List (Nat×Ent)) (resF:α->AV) (dead:List Nat) (hc:∀ a,o=some a->ConG E.P E.yl (fun vs cs w R=>cs=T->CalY E.P l vs cs w R) cargs ccaps me (resF a) (meF a)) (hdr0:E.dr=false) (hra:AV.renL (rho ps) cargs=raw) (hrc:AV.renL (rho ps) ccaps=cap) (hia:AV.inML (me.map (·.1)) cargs=true) (hic:AV.inML (me.map (·.1)) ccaps=true) (hle:LeF find (rho ps) (me.map (·.1)) me)
  (hn:∀ a,zhj find (rho ps) (rho ps') me (meF a) (resF a) dead) (kk:∀ a,k a=some r->KR ((resF a).ren (rho ps')) (idsG (rho ps) (rho ps') me (meF a)) (wrG (rho ps') (meF a) dead)):YldX E l T raw cap find KR:=by
 cases o with
 |none=>unfold bnd at h;cases h
 |some a=>exact .mk ps ps' cargs ccaps me (meF a) (resF a) dead hdr0 (hc a rfl) hra hrc hia hic hle (hn a) (kk a (by unfold bnd at h;exact h))
theorem RngX.oM {o:Option α}{k:α->Option β}{r:β}{E:Env}{nt gf:Nat}{cap:List AV}{ps:Array Tmp}{a b:Code}{σ:AS}{K:AS->Prop}(h:bnd o k=some r)
  (pp pp':List (Nat×Nat)) (ycaps ccaps:List AV) (me:List (Nat×Ent)) (meF:α->List (Nat×Ent)) (dead:List Nat)
  (hiter:∀ x,o=some x->∀ (l D:Nat) (fn:FuncId) (T:Array Value),T.size=nt->ConG E.P (some (l,.loop (recR fn T ps a b D))) (CalF E.P gf 0) (.yld l T ycaps::ccaps) [] me (.tup []) (meF x))
  (he:zde E gf) (hrg:E.rg=true) (hdr0:E.dr=false) (hyl0:E.yl=none) (hrc:AV.renL (rho pp) ccaps=cap) (hic:AV.inML (me.map (·.1)) ccaps=true) (hy:LeY σ (rho pp) (me.map (·.1)) 0 ycaps) (hle:LeF σ.find (rho pp) (me.map (·.1)) me) (hn:∀ x,zhj σ.find (rho pp) (rho pp') me (meF x) (.tup []) dead)
  (kk:∀ x,k x=some r->K (σ.upd none (.tup []) (wrG (rho pp') (meF x) dead))):RngX E nt (.fn gf cap) ps a b σ K:=by
 cases o with
 |none=>unfold bnd at h;cases h
 |some x=>exact .mk gf cap rfl he hrg hdr0 hyl0 pp pp' ycaps ccaps me (meF x) dead hrc hic hy hle (hn x) (hiter x rfl) (kk x (by unfold bnd at h;exact h))
theorem GX.o {x r:α}{E:Env}{nt:Nat}{fn:Func}{args:List AV}{me:List (Nat×Ent)}{σ:AS}{res:α->AV}{meF:α->List (Nat×Ent)}(h:some x=some r)(k:GX E nt fn args me σ (res x) (meF x)):GX E nt fn args me σ (res r) (meF r):=by
 injection h with h;subst h;exact k
theorem BX.o {x r:α}{E:Env}{nt:Nat}{ycaps:List AV}{me:List (Nat×Ent)}{σ:AS}{meF:α->List (Nat×Ent)}(h:some x=some r)(k:BX E nt ycaps me σ (meF x)):BX E nt ycaps me σ (meF r):=by
 injection h with h;subst h;exact k
end
end Go.Proofs.YtjpknpjjcddnnaaGreat
namespace Go.Proofs.YtjpknpjjcddnnaaGreat
open Go.RowKit
section
variable {β:Type} {E:Env} {nt:Nat} {o:Oper} {σ:AS} {K:OpK}
def bld {α:Type}(l:List α)(k:List α->Option β):Option β:=k l
theorem OpX.bld {α:Type}{l:List α}{k:List α->Option β}{r:β}(enc:α->AV){T n d e esz eb:Nat}{ps:Array (Nat×Operand)}{i ie:TyI}(hF:bld l k=some r)(ho:o.op=.buildSlice T n ps)(hdst:o.dst=some d)(hd:dokN E nt o.dst=true)(hT:lkT E.tab T=some i)(hs:i.shape=.slc e esz eb)(he:lkT E.tab e=some ie)(hz:Nat.beq esz 0=false)(hn:Nat.ble (n*esz) 16777216=true)
  (hze:zii ie.zero.cells.toList=true) (hz0:Nat.blt 0 ie.zero.cells.size=true) (hok:zke σ ps=true) (hcl:AV.closedL (l.map enc)=true) (hlen:(l.map enc).length=n) (hl:(l.map enc).all (fun x=>Nat.beq x.cells.length esz)=true)
  (hf:zwx (fun j=>some (j*esz,esz)) (List.replicate (n*esz) .any) (zfj σ ps)=some ((l.map enc).flatMap AV.cells)) (hnn:σ.find d=none) (hk:∀ l',k l'=some r->K (.row d) (d::zkf (zfj σ ps)) [(d,.row e esz (l'.map enc))]):OpX E nt o σ K :=
 .mk _ _ _ (fun cx hE hnt=>zu6 ho hdst (z17 hd hE hnt) (by rw [hE];exact hT) hs (by rw [hE];exact he) (nbne hz) hn (zcw hze) hz0 hok hcl hlen hl hf hnn) (hk l hF)
def bldS {α:Type}(l:List α)(k:List α->Option β):Option β:=k l
theorem OpX.bldS {α:Type}{l:List α}{k:List α->Option β}{r:β}(enc:α->AV){T n e esz eb:Nat}{ps:Array (Nat×Operand)}{i ie:TyI}(hF:Proofs.YtjpknpjjcddnnaaGreat.bldS l k=some r)(ho:o.op=.buildSlice T n ps)(hd:dokN E nt o.dst=true)(hT:lkT E.tab T=some i)(hs:i.shape=.slc e esz eb)(he:lkT E.tab e=some ie)(hz:Nat.beq esz 0=false)(hn:Nat.ble (n*esz) 16777216=true)
  (hze:zii ie.zero.cells.toList=true) (hz0:Nat.blt 0 ie.zero.cells.size=true) (hok:zke σ ps=true) (hcl:AV.closedL (l.map enc)=true) (hlen:(l.map enc).length=n) (hl:(l.map enc).all (fun x=>Nat.beq x.cells.length esz)=true)
  (hf:zwx (fun j=>some (j*esz,esz)) (List.replicate (n*esz) .any) (zfj σ ps)=some ((l.map enc).flatMap AV.cells)) (hk:∀ l',k l'=some r->K (.sl esz (l'.map enc)) (zkf (zfj σ ps)) []):OpX E nt o σ K :=
 .mk _ _ _ (fun cx hE hnt=>r_buildSlice ho (z17 hd hE hnt) (by rw [hE];exact hT) hs (by rw [hE];exact he) (nbne hz) hn (zcw hze) hz0 hok hcl hlen hl hf) (hk l hF)
end
end Go.Proofs.YtjpknpjjcddnnaaGreat
namespace Go.Proofs.YtjpknpjjcddnnaaGreat
open Go.RowKit
noncomputable def E0b:Env:={ E0 with bl:=true }
noncomputable def E0q (np:Nat):Env:={ E0 with np:=np,bl:=true }
theorem ConC.env {E E':Env}{inp:Bool}{f:FuncId}{avs xs xs':List AV}{ty sz ty' sz':Nat}{res:AV}(hP:E'.P=E.P)(h:ConC inp E f avs ty sz xs ty' sz' xs' res):ConC inp E' f avs ty sz xs ty' sz' xs' res:=by
 refine ⟨by have:=h.1;unfold zde at *;rw [hP];exact this,h.2.1,fun S w0 w vs v us=>?_⟩
 rw [hP]
 exact h.2.2 S w0 w vs v us
section
variable {cx:Cx} {o:Oper} {σ:AS}
theorem mapv_val {γ:Gam}{w:World}{S:Nat->Prop}{ps:List (AV×AV)}{v:Value}(hv:Rep w S γ (.mapv ps) v):∃ g,v=.map (some g)/\y21 w S g ps:=by
 cases hv with
 |mapv g es clock hS hg hh hl hk hv=>exact ⟨g,rfl,es,clock,hh,hl,fun j h h'=>⟨hk j h h',hv j h h'⟩⟩
theorem r_lookup_v {T kt et:Nat}{x y:Operand}{ok:Bool}{i ie:TyI}{k av:AV}{ps:List (AV×AV)}{r:Option Nat}(ho:o.op=.lookup T x y ok)(hd:dok cx o=true)(hxo:z0u x=true)(hyo:z0u y=true)(hx:σ.eval x=.mapv ps)(hy:σ.eval y=k)
  (hT:lkT cx.E.tab T=some i) (hs:i.shape=.map kt et) (he:lkT cx.E.tab et=some ie) (hzo:aggOk ie.zero=true) (hk:zf2 cx.P kt k=true) (hf:zht k (ps.map (·.1)) 0=some r)
  (hav:Sub (lkVal (zq1 ie.zero) ps r) av):z10 cx o σ (lkRes av r.isSome ok) [] [] :=
 z16 hd fun τ γ a w h1 h2 hst=>by
  have ex:=hst.ev x hxo
  rw [h1 x (by simp [ho,Op.operands]),hx] at ex
  have ey:=hst.ev y hyo
  rw [h1 y (by simp [ho,Op.operands]),hy] at ey
  obtain ⟨g,hv,hm⟩:=mapv_val ex
  obtain ⟨v,hv1,hv2⟩:=lookup_run (S:=Sg cx.S0 cx.w0.heap.size γ) (zA:=zq1 ie.zero) ok (und_map (cx.E.ok T i hT) hs) hk (ey.flat (keyFl_flat hk)) hm ((cx.E.ok et ie he).zeroV w) (rep_const _ _ _ _ hzo) hf
  have hv1:Rep w (Sg cx.S0 cx.w0.heap.size γ) G0 (lkVal (zq1 ie.zero) ps r) v:=by cases r<;>exact hv1
  have hv1:=(hv1.open_ (γ':=γ)).sub hav
  refine ⟨(if ok then .tuple #[v,.bool r.isSome] else v),by simp only [execOp,ho,hv,Sem.run_bind,hv2,Result.andThen_ok,Sem.run_pure],?_⟩
  cases ok with
  |false=>exact hv1
  |true =>
   simp only [lkRes,if_true]
   refine .tup #[v,.bool r.isSome] rfl (fun j hj=>?_)
   have hj:j<2:=hj
   rcases j with _|_|j
   ·exact hv1
   ·exact .bool _
   ·omega
theorem r_store_row {T id q sz k t s2:Nat}{x:Operand}{i:TyI}{ty ety:TypeId}{xs ys:List AV}{el:AV}(ho:o.op=.store T x (.tmp t))(hd:dok cx o=true)(hdst:o.dst=none)(hxo:z0u x=true)(hx:σ.eval x=.elt id sz k 0)(hy:σ.get t=.row q)(hT:lkT cx.E.tab T=some i)(hi:i.sz=1)(hl:σ.find id=some (.row ty sz xs))(hq:σ.find q=some (.row ety s2 ys))(hne:id≠q)
  (he:xs[k]? = some el) (hsz:1<=sz) {el':AV} (hel:el'.cells=.sl s2 ys::el.cells.drop 1) :
  z10 cx o σ (.tup []) [id,q] [(id,.row ty sz (xs.set k el')),(q,.dead)]:=by
 refine ⟨fun id' e he=>?_,fun τ h1 h2 a w Q K hst hK=>?_⟩
 ·simp only [lkE] at he
  cases hb:Nat.beq id id' with
  |true=>simp [Nat.eq_of_beq_eq_true hb]
  |false =>
   rw [hb] at he
   simp only at he
   cases hb2:Nat.beq q id' with
   |true=>simp [Nat.eq_of_beq_eq_true hb2]
   |false=>rw [hb2] at he;cases he
 have tx:τ.eval x=.elt id sz k 0:=by rw [h1 x (by simp [ho,Op.operands]),hx]
 have ty':τ.get t=.row q:=by have:=h1 (.tmp t) (by simp [ho,Op.operands]);simpa [AS.eval,hy] using this
 have tl:τ.find id=some (.row ty sz xs):=by rw [h2 id (by simp),hl]
 have tq:τ.find q=some (.row ety s2 ys):=by rw [h2 q (by simp),hq]
 have fr:St cx (τ.freeze t q s2 ys) a w:=LeX.freeze (E:=cx.E) (nt:=cx.nt) t q ety s2 ys ty' tq cx rfl rfl a w hst
 have g1:(τ.freeze t q s2 ys).eval x=.elt id sz k 0:=by
  cases x with
  |tmp u =>
   have hu:u≠t:=fun e=>by
    subst e
    have:τ.get u=.elt id sz k 0:=tx
    rw [ty'] at this;cases this
   show (τ.freeze t q s2 ys).get u=_
   have e:(τ.freeze t q s2 ys).get u=τ.get u:=by
    unfold AS.freeze AS.get
    simp only [lkV]
    cases hb:Nat.beq t u with
    |true=>exact absurd (Nat.eq_of_beq_eq_true hb).symm hu
    |false=>rfl
   rw [e];exact tx
  |_=>exact tx
 have g2:(τ.freeze t q s2 ys).eval (.tmp t)=.sl s2 ys:=by simp [AS.eval,AS.freeze,AS.get,lkV]
 have fnd:∀ j,j≠q->(τ.freeze t q s2 ys).find j=τ.find j:=fun j hj=>by
  unfold AS.freeze AS.find
  simp only [lkE]
  cases hb:Nat.beq q j with
  |true=>exact absurd (Nat.eq_of_beq_eq_true hb).symm hj
  |false=>rfl
 have fndq:(τ.freeze t q s2 ys).find q=some .dead:=by simp [AS.freeze,AS.find,lkE]
 have g3:(τ.freeze t q s2 ys).find id=some (.row ty sz xs):=by rw [fnd id hne,tl]
 have R:=r_store_elt (cx:=cx) (o:=o) (σ:=τ.freeze t q s2 ys) (el':=el') ho hd hxo rfl g1 g2 hT g3 he (by rw [hi];rfl) (by rw [hi];omega) rfl rfl (by rw [hi];simpa [AV.cells] using hel)
 refine R.2 _ (fun _ _=>rfl) (fun _ _=>rfl) a w Q K fr (fun a' w' hst'=>hK a' w' ?_)
 obtain ⟨γ,hs⟩:=hst'
 rw [hdst] at hs ⊢
 have dq:γ q=some none:=by
  have:=hs.me q
  rw [AS.find_upd] at this
  have e:lkE [(id,Ent.row ty sz (xs.set k el'))] q=none:=by
   simp only [lkE]
   cases hb:Nat.beq id q with
   |true=>exact absurd (Nat.eq_of_beq_eq_true hb) hne
   |false=>rfl
  rw [e,Option.none_or,fndq] at this
  obtain ⟨d,hd,he⟩:=this
  have he:d=none:=he
  rw [hd,he]
 refine ⟨γ,fun u=>?_,fun j=>?_,hs.inj,hs.ge,hs.below,hs.size,hs.defers,hs.gh,hs.fr,hs.dr⟩
 ·rw [AS.get_upd,if_neg (by simp)]
  have hv:=hs.tm u
  rw [AS.get_upd,if_neg (by simp)] at hv
  by_cases hu:t=u
  ·subst hu
   rw [ty']
   exact .row dq (fun g s e _=>by cases e)
  ·have e:(τ.freeze t q s2 ys).get u=τ.get u:=by
    unfold AS.freeze AS.get
    simp only [lkV]
    cases hb:Nat.beq t u with
    |true=>exact absurd (Nat.eq_of_beq_eq_true hb) hu
    |false=>rfl
   rw [e] at hv
   exact hv
 ·have hm:=hs.me j
  rw [AS.find_upd] at hm ⊢
  simp only [lkE] at hm ⊢
  cases hb:Nat.beq id j with
  |true=>rw [hb] at hm;exact hm
  |false =>
   rw [hb] at hm
   simp only [Option.none_or] at hm ⊢
   cases hb2:Nat.beq q j with
   |true => 
    have:=Nat.eq_of_beq_eq_true hb2
    subst this
    exact ⟨none,dq,rfl⟩
   |false =>
    simp only [Option.none_or]
    rw [fnd j (fun e=>by subst e;simp at hb2)] at hm
    exact hm
theorem r_nilCheck_ref {x:Operand}{cs:List AV}(ho:o.op=.nilCheck x)(hd:dok cx o=true)(hxo:z0u x=true)(hx:σ.eval x=.ref cs):z10 cx o σ (.ref cs) [] [] :=
 z16 hd fun τ γ a w h1 h2 hst=>by
  have ex:=hst.ev x hxo
  rw [h1 x (by simp [ho,Op.operands]),hx] at ex
  obtain ⟨b,off,hv,_⟩:=ex.ref_inv
  refine ⟨a.eval x,by simp only [execOp,ho,hv,Sem.run_pure],ex⟩
theorem r_nilCheck_ptr {x:Operand}{id off ty:Nat}{cs:List AV}(ho:o.op=.nilCheck x)(hd:dok cx o=true)(hxo:z0u x=true)(hx:σ.eval x=.ptr id off)(hl:σ.find id=some (.box ty cs)):z10 cx o σ (.ptr id off) [id] [] :=
 z16 hd fun τ γ a w h1 h2 hst=>by
  have ex:=hst.ev x hxo
  rw [h1 x (by simp [ho,Op.operands]),hx] at ex
  have hme:=hst.me id
  rw [h2 id (by simp),hl] at hme
  obtain ⟨d,hd',g,vs,hde,_⟩:=hme
  subst hde
  have hv:=ex.ptr_inv hd'
  refine ⟨a.eval x,by simp only [execOp,ho,hv,Sem.run_pure],ex⟩
end
section
variable {α β κ ν:Type} {E:Env} {nt:Nat} {o:Oper} {σ:AS} {K:OpK}
theorem OpX.nckR {x:Operand}{cs:List AV}(ho:o.op=.nilCheck x)(hd:dokN E nt o.dst=true)(hxo:z0u x=true)(hx:σ.eval x=.ref cs)(hk:K (.ref cs) [] []):OpX E nt o σ K:=.mk _ _ _ (fun cx hE hnt=>r_nilCheck_ref ho (z17 hd hE hnt) hxo hx) hk
theorem OpX.nckP {x:Operand}{id off ty:Nat}{cs:List AV}(ho:o.op=.nilCheck x)(hd:dokN E nt o.dst=true)(hxo:z0u x=true)(hx:σ.eval x=.ptr id off)(hl:σ.find id=some (.box ty cs))(hk:K (.ptr id off) [id] []):OpX E nt o σ K:=.mk _ _ _ (fun cx hE hnt=>r_nilCheck_ptr ho (z17 hd hE hnt) hxo hx hl) hk
theorem OpX.str {ε:Type}(er:ε->AV){l:List (List ε)}{m:Nat}{v:List ε}{k:List (List ε)->Option β}{r:β}{T t id q ty ety sz:Nat}{x:Operand}{i:TyI}(hF:stx l m (fun _=>v) k=some r)(ho:o.op=.store T x (.tmp t))(hdst:o.dst=none)(hd:dokN E nt o.dst=true)(hxo:z0u x=true)(hx:σ.eval x=.elt id 1 m 0)(hy:σ.get t=.row q)(hT:lkT E.tab T=some i)(hi:i.sz=1)
  (hl:σ.find id=some (.row ty 1 (l.map fun q=>.sl sz (q.map er)))) (hq:σ.find q=some (.row ety sz (v.map er))) (hne:Nat.beq id q=false) (hk:∀ l',k l'=some r->K (.tup []) [id,q] [(id,.row ty 1 (l'.map fun q=>.sl sz (q.map er))),(q,.dead)]):OpX E nt o σ K:=by
 unfold stx at hF
 split at hF
 ·rename_i y hy'
  refine .mk _ _ _ (fun cx hE hnt=>?_) (hk _ hF)
  have h:=r_store_row (cx:=cx) (el':=.sl sz (v.map er)) ho (z17 hd hE hnt) hdst hxo hx hy (by rw [hE];exact hT) hi hl hq (nbne hne) (by rw [List.getElem?_map,hy'];rfl) (Nat.le_refl _) rfl
  rw [List.map_set]
  exact h
 ·cases hF
def mgv [DecidableEq κ](l:List (κ×ν))(k:κ)(z:ν)(c:ν->Bool->Option β):Option β:=c ((mlk l k).getD z) (mlk l k).isSome
theorem OpX.lkv [DecidableEq κ](ek:κ->AV)(er:ν->AV){l:List (κ×ν)}{k:κ}{z:ν}{ok:Bool}{c:ν->Bool->Option β}{r:β}{T kt et:Nat}{x y:Operand}{i ie:TyI}(hF:mgv l k z c=some r)(heq:∀ a b,eqK (ek a) (ek b)=some (decide (a=b)))(ho:o.op=.lookup T x y ok)(hd:dokN E nt o.dst=true)(hxo:z0u x=true)(hyo:z0u y=true)(hx:σ.eval x=.mapv (l.map (encM ek er)))(hy:σ.eval y=ek k)
  (hT:lkT E.tab T=some i) (hs:i.shape=.map kt et) (he:lkT E.tab et=some ie) (hzo:zii ie.zero.cells.toList=true) (hkf:zf2 E.P kt (ek k)=true) (hz:Sub (zq1 ie.zero) (er z)) (hk:∀ v b,c v b=some r->K (lkRes (er v) b ok) [] []):OpX E nt o σ K:=by
 have h:=LkX.o (P:=E.P) (kt:=kt) (zA:=zq1 ie.zero) (K:=fun av b=>K (lkRes av b ok) [] []) ek er (show mgt l k z c=some r by unfold mgv at hF;unfold mgt;exact hF) hkf heq hz (fun v b hc=>hk v b hc)
 cases h with
 |mk q av b hk' hf hb hsu hc =>
  subst hb
  exact .mk _ _ _ (fun cx hE hnt=>r_lookup_v (ok:=ok) ho (z17 hd hE hnt) hxo hyo hx hy (by rw [hE];exact hT) hs (by rw [hE];exact he) (zz0 hzo) (by rw [show cx.P=E.P by rw [<-hE]];exact hk') hf hsu) hc
theorem findK_up (k:AV):∀ (l:List AV) (i:Nat),zht k l (i+1)=(zht k l i).map (·.map (· + 1))
 |[],i=>rfl
 |a::l,i=>by
  simp only [zht]
  cases eqK k a with
  |none=>rfl
  |some b=>cases b with
   |true=>rfl
   |false=>exact findK_up k l (i+1)
def LkC (n:Int)(z:AV)(qs:List (AV×AV))(K:AV->Prop):Prop:=∃ r av,zht (.int .i64 n) (qs.map (·.1)) 0=some r/\Sub (lkVal z qs r) av/\K av
theorem LkC.cons {n:Int}{z v:AV}{k:Nat}{qs:List (AV×AV)}{K:AV->Prop}{x y:Option β}{r:β}(h:natc n k x y=some r)(h0:x=some r->K v)(h1:y=some r->LkC n z qs K):LkC n z ((.int .i64 (k:Int),v)::qs) K:=by
 rw [natc_eq] at h
 split at h
 ·rename_i e
  refine ⟨some 0,v,?_,.refl _,h0 h⟩
  simp only [List.map_cons,zht,eqK,eq1,e]
  simp
 ·rename_i e
  obtain ⟨q,av,g1,g2,g3⟩:=h1 h
  refine ⟨q.map (· + 1),av,?_,?_,g3⟩
  ·simp only [List.map_cons,zht,eqK,eq1]
   rw [decide_eq_false e]
   simp only [findK_up,g1,Option.map_some]
   rfl
  ·cases q with
   |none=>exact g2
   |some j=>exact g2
theorem OpX.lkc {qs:List (AV×AV)}{n:Int}{T kt et:Nat}{x y:Operand}{i ie:TyI}(ho:o.op=.lookup T x y false)(hx:σ.eval x=.mapv qs)(hd:dokN E nt o.dst=true)(hxo:z0u x=true)(hyo:z0u y=true)(hy:σ.eval y=.int .i64 n)
  (hT:lkT E.tab T=some i) (hs:i.shape=.map kt et) (he:lkT E.tab et=some ie) (hzo:zii ie.zero.cells.toList=true) (hkf:zf2 E.P kt (.int .i64 n)=true) (hk:LkC n (zq1 ie.zero) qs fun av=>K av [] []):OpX E nt o σ K:=by
 obtain ⟨r,av,g1,g2,g3⟩:=hk
 exact .mk _ _ _ (fun cx hE hnt=>r_lookup_v (ok:=false) ho (z17 hd hE hnt) hxo hyo hx hy (by rw [hE];exact hT) hs (by rw [hE];exact he) (zz0 hzo) (by rw [show cx.P=E.P by rw [<-hE]];exact hkf) g1 g2) g3
end
def isPtr0:AV->Bool
 |.ptr _ 0=>true
 |_=>false
def frb {β:Type}(r:Nat)(x:Option β):Option β:=x
section
variable {β:Type} {E:Env} {nt:Nat}
theorem LeX.frb {σ:AS}{ty:Nat}{cs:List AV}(r:Nat)(hr:σ.find r=some (.box ty cs))(hc:AV.closedL cs=true):LeX E nt σ (σ.rpAll r isPtr0 (.ref cs) .dead):=by
 refine LeX.rpAll r isPtr0 _ _ _ hr (fun ty cs h=>by cases h) (fun cx γ a w d hst hd he=>?_)
 obtain ⟨g,vs,hde,hb,hsz,hrr,hone⟩:=he
 subst hde
 refine ⟨none,(fun b hb=>by cases hb),fun S' hS hS2=>⟨rfl,fun γ' x v hγ' hsrc hx hv=>?_⟩⟩
 have hx':x=.ptr r 0:=by
  cases x with
  |ptr i off=>cases off with
   |zero=>simp only [AV.leafId,Option.some.injEq] at hx;rw [hx]
   |succ n=>simp [isPtr0] at hsrc
  |_=>simp [isPtr0] at hsrc
 subst hx'
 have hv':v=.pointer (some ⟨g,0,none⟩):=by
  cases hv with
  |ptr h hv=>rw [hd] at h;injection h with h;exact hv _ _ h.symm
 subst hv'
 refine .ref g 0 (fun j=>vs.getD j undef) (hS2 g z8f (fun h=>by cases h)) hb.lt (fun j hj=>by rw [Nat.zero_add];exact zkv hb j (by omega)) (fun j hj=>?_) (fun j hj=>hone j (by omega))
 exact ((hrr j hj).close (AV.closedL_at hc j hj)).mono (Nat.le_refl _) (fun b hb _=>⟨rfl,hS b hb⟩)
variable {R:Exit->AS->Prop} {K:List zf7}
theorem AW.frb0 {ty:Nat}{cs:List AV}{c:Code}{σ:AS}(r:Nat)(hr:σ.find r=some (.box ty cs))(hc:AV.closedL cs=true)(k:AW E nt R (.code c::K) .normal (σ.rpAll r isPtr0 (.ref cs) .dead)):AW E nt R (.code c::K) .normal σ:=AW.weaken (LeX.frb r hr hc) k
theorem AW.frbO {id ty:Nat}{cs:List AV}{c:Code}{σ:AS}{x:Option β}{y:β}(h:Proofs.YtjpknpjjcddnnaaGreat.frb id x=some y)(r:Nat)(hr:σ.find r=some (.box ty cs))(hc:AV.closedL cs=true)(k:x=some y->AW E nt R (.code c::K) .normal (σ.rpAll r isPtr0 (.ref cs) .dead)):AW E nt R (.code c::K) .normal σ:=AW.weaken (LeX.frb r hr hc) (k h)
end
section
variable {α β:Type} {E:Env} {nt:Nat} {o:Oper} {σ:AS} {K:OpK}
theorem OpX.bldR {l:List α}{k:List α->Option β}{r:β}(enc:α->AV){T n d e esz eb:Nat}{ps:Array (Nat×Operand)}{i ie:TyI}{fl xs:List AV}{ag:Bool}(hF:Proofs.YtjpknpjjcddnnaaGreat.bld l k=some r)(ho:o.op=.buildSlice T n ps)(hdst:o.dst=some d)(hd:dokN E nt o.dst=true)(hT:lkT E.tab T=some i)(hs:i.shape=.slc e esz eb)(he:lkT E.tab e=some ie)(hz:Nat.beq esz 0=false)(hn:Nat.ble (n*esz) 16777216=true)
  (hze:zii ie.zero.cells.toList=true) (hz0:Nat.blt 0 ie.zero.cells.size=true) (hok:zke σ ps=true) (hag:ie.shape.agg=ag) (hf:zwx (fun j=>some (j*esz,esz)) (List.replicate (n*esz) .any) (zfj σ ps)=some fl) (hxs:zu9 ag esz n fl=xs) (hc:(ag || (Nat.beq esz 1 && fl.all notAgg))=true) (hcl:AV.closedL xs=true) (hsub:SubR xs (l.map enc))
  (hnn:σ.find d=none) (hk:∀ l',k l'=some r->K (.row d) (d::zkf (zfj σ ps)) [(d,.row e esz (l'.map enc))]):OpX E nt o σ K:=by
 have hlen:=zww _ _ _ _ hf
 rw [List.length_replicate] at hlen
 simp only [Bool.or_eq_true,Bool.and_eq_true] at hc
 obtain ⟨c1,c2,c3⟩:=chunks_flat ag esz _ fl hlen (hc.imp id (fun ⟨h1,h2⟩=>⟨nbeq h1,h2⟩))
 subst hxs
 refine .mk _ _ _ (fun cx hE hnt=>z10.weak (.cons _ (.row _ _ hsub) .nil) (zu6 ho hdst (z17 hd hE hnt) (by rw [hE];exact hT) hs (by rw [hE];exact he) (nbne hz) hn (zcw hze) hz0 hok hcl c2 (by simp only [List.all_eq_true];intro x hx;rw [c3 x hx];simp) (by rw [c1];exact hf) hnn)) (hk l hF)
def bndM (t:Nat)(o:Option α)(k:α->Option β):Option β:=bnd o k
theorem zcu (t:Nat){o:Option α}{k:α->Option β}{r:β}(h:bndM t o k=some r):bnd o k=some r:=h
theorem zbq (t:Nat)(a:α)(k:α->Option β):bndM t (some a) k=k a:=by unfold bndM bnd;rfl
end
section
variable {α β γ:Type} {E:Env} {nt:Nat} {f:FuncId} {avs:List AV}
def bndP (o:Option α)(rl:α->Option γ)(kN:α->Option β)(kS:α->γ->Option β):Option β:=match o with|some a=>(match rl a with|some q=>kS a q|none=>kN a)|none=>none
theorem z0m.oP {o:Option α}{rl:α->Option γ}{kN:α->Option β}{kS:α->γ->Option β}{r:β}{fr:Bool}{K:AV->Prop}{R:Nat->Nat->List AV->AV->Prop}{find:Nat->Option Ent}{KR:AV->List Nat->List (Nat×Ent)->Prop}(h:bndP o rl kN kS=some r)(enc:α->AV)(encN:α->AV)(encS:α->γ->AV)(hN:∀ a,rl a=none->enc a=encN a)(hS:∀ a q,rl a=some q->enc a=encS a q)(hc:∀ a,o=some a->Con E fr f avs (enc a))(hk:∀ a,kN a=some r->K (encN a))(hk':∀ a q,kS a q=some r->K (encS a q)):z0m E f avs K R find KR:=by
 unfold bndP at h
 split at h
 ·rename_i a
  split at h
  ·rename_i q hq
   exact .mk fr _ (hc _ rfl) (by rw [hS _ _ hq];exact hk' _ _ h)
  ·rename_i hq
   exact .mk fr _ (hc _ rfl) (by rw [hN _ hq];exact hk _ h)
 ·cases h
end
attribute [irreducible] mgv bndP frb bndM
end Go.Proofs.YtjpknpjjcddnnaaGreat
namespace Go.Proofs.YtjpknpjjcddnnaaGreat
open Go.RowKit
section
variable {β V:Type}
abbrev z27 (E:Env)(nt:Nat)(L:Nat->V->Option β)(S:V->AS):Prop:=∀ {R:Exit->AS->Prop} {K:List zf7} {σ:AS} {c:Code} {r:β} {n:Nat} {v0:V} (_:L n v0=some r) (_:LeX E nt σ (S v0))
  (_:∀ m v,L (m+1) v=some r->AW E nt (zuz (fun σ'=>∃ v',L m v'=some r/\LeX E nt σ' (S v')) (AW E nt R K)) [.code c] .normal (S v)),LoopX E nt (fun next σ'=>AW E nt (zuz next (AW E nt R K)) [.code c] .normal σ') σ
theorem LoopA.oT {E:Env}{nt:Nat}{L:Nat->V->Option β}{S:V->AS}(hz:∀ v,L 0 v=none):z27 E nt L S:=fun h hl round=>LoopA.o h hz hl round
abbrev z3v (E:Env)(nt:Nat)(F:V->Option β)(S:V->AS):Prop:=∀ {R:Exit->AS->Prop} {K:List zf7} {i:Nat} {os:Array Oper} {d:Bool} {C:Code} {σ:AS} {x:Option β} {r:β} (_:jon F x=some r)
  (_:x=some r->AW E nt (zuz (fun σ'=>∃ v,F v=some r/\LeX E nt σ' (S v)) (AW E nt R (.code C::K))) [.code (.region i os d)] .normal σ) (_:∀ v,F v=some r->AW E nt R (.code C::K) .normal (S v)),AW E nt R (.code (.region i os d)::.code C::K) .normal σ
theorem AW.jT {E:Env}{nt:Nat}{F:V->Option β}{S:V->AS}:z3v E nt F S:=fun h h1 h2=>AW.joinO1 h h1 h2
abbrev zjn (E:Env)(nt:Nat)(F:V->Option β)(S:V->AS):Prop:=∀ {R:Exit->AS->Prop} {K:List zf7} {i:Nat} {os:Array Oper} {d:Bool} {B C:Code} {σ:AS} {x:Option β} {r:β} (_:jon F x=some r)
  (_:x=some r->AW E nt (zuz (fun σ'=>∃ v,F v=some r/\LeX E nt σ' (S v)) (AW E nt R (.code C::K))) [.code (.region i os d),.code B] .normal σ) (_:∀ v,F v=some r->AW E nt R (.code C::K) .normal (S v)),AW E nt R (.code (.region i os d)::.code B::.code C::K) .normal σ
theorem AW.jT2 {E:Env}{nt:Nat}{F:V->Option β}{S:V->AS}:zjn E nt F S:=fun h h1 h2=>AW.joinO2 h h1 h2
end
section
variable {β:Type}
theorem RetX.oA {v:AV}{a r:β}{enc:β->AV}(h:some a=some r)(hs:Sub v (enc a):=by (repeat' first|exact Sub.nil _|exact Sub.refl _|refine Sub.agg ?_|refine Sub.tup ?_|refine Sub.fn ?_|exact SubL.nil|refine SubL.cons ?_ ?_|refine Sub.sl _ ?_|exact SubE.nil|refine SubE.cons ?_ ?_)<;>fail):RetX v (enc r):=RetX.o h hs
theorem LeX.a {E:Env}{nt:Nat}{σ τ:AS}(ps:List (Nat×Nat))(h:injB (rho ps) (τ.me.map (·.1))=true:=by rfl)(h1:LeV σ (rho ps) (τ.me.map (·.1)) τ.tm:=by (repeat' first|exact trivial|exact rfl|refine ⟨?_,?_⟩)<;>fail)(h2:LeE σ (rho ps) (τ.me.map (·.1)) τ.me:=by (repeat' first|exact trivial|exact rfl|refine ⟨?_,?_⟩)<;>fail):LeX E nt σ τ:=LeX.of ps h h1 h2
end
end Go.Proofs.YtjpknpjjcddnnaaGreat
namespace Go.Proofs.YtjpknpjjcddnnaaGreat
open Go.RowKit
def aI (n:Int):AV:=.int .i64 n
theorem zdf (n:Int)(h:-9223372036854775808<=n/\n<=9223372036854775807):IntKind.i64.wrap n=n:=IntWalk.i64_in _ h
theorem getD2 {vs:Array Value}(h:vs.size=2):vs=#[vs.getD 0 undef,vs.getD 1 undef]:=by
 obtain ⟨l⟩:=vs
 match l,h with
 |[a,b],_=>rfl
theorem getD1 {vs:Array Value}(h:vs.size=1):vs=#[vs.getD 0 undef]:=by
 obtain ⟨l⟩:=vs
 match l,h with
 |[a],_=>rfl
section
variable {fr:Bool} {f:FuncId} {a b c res:AV}
theorem belE0 {w w':World}(h:Below w.heap.size w w'):BelE E0 w w':=⟨h,fun h=>Bool.noConfusion (show false=true from h)⟩
end
end Go.Proofs.YtjpknpjjcddnnaaGreat
namespace Go.Proofs.YtjpknpjjcddnnaaGreat
open Go.RowKit
section
variable {α β:Type}
theorem z80 (x y:Option β):cnd true x y=x:=by unfold cnd;rfl
theorem z8k (x y:Option β):cnd false x y=y:=by unfold cnd;rfl
theorem z0o (p:Prop)[Decidable p](x y:Option β):cnd (decide p) x y=if p then x else y:=by
 by_cases h:p<;>simp [h,z80,z8k]
theorem z0w (b:Bool)(x y:Option β):cnd (!b) x y=cnd b y x:=by cases b<;>simp [z80,z8k]
theorem z3x (b:Bool)(x y:Option β):cnd b x y=if b=true then x else y:=by cases b<;>simp [z80,z8k]
theorem z09 (a:α)(k:α->Option β):bnd (some a) k=k a:=by unfold bnd;rfl
theorem zih (a:α)(k:α->Option β):bndR (some a) k=k a:=by unfold bndR;rfl
theorem bndC_some (a:α)(k:α->Option β):bndC (some a) k=k a:=by unfold bndC;rfl
theorem z1r (x:Option β):reg x=x:=by unfold reg;rfl
theorem frz_eq (i:Nat)(x:Option β):frz i x=x:=by unfold frz;rfl
theorem z0s {l:List α}{i:Nat}(h:i<l.length)(k:α->Option β):idx l (i:Int) k=k l[i]:=by
 unfold idx
 simp [h]
theorem idx_int {l:List α}{n:Int}(h0:0<=n)(h:n.toNat<l.length)(k:α->Option β):idx l n k=k l[n.toNat]:=by
 unfold idx
 simp [h,h0]
theorem idx_zero {x:α}{l:List α}(k:α->Option β):idx (x::l) 0 k=k x:=by unfold idx;simp
theorem ze1 {i len:Nat}(h:i<len)(k:Nat->Option β):nat (i:Int) len k=k i:=by
 unfold nat
 simp [h]
theorem nat_int {n:Int}{len:Nat}(h0:0<=n)(h:n.toNat<len)(k:Nat->Option β):nat n len k=k n.toNat:=by
 unfold nat
 simp [h,h0]
theorem ltx_ok {m len:Nat}(h:m<len)(x:Option β):ltx m len x=x:=by unfold ltx;simp [h]
theorem zj7 {l:List α}{m:Nat}(h:m<l.length)(k:α->Option β):elt l m k=k l[m]:=by unfold elt;simp [h]
theorem stx_ok {l:List α}{m:Nat}(h:m<l.length)(f:α->α)(k:List α->Option β):stx l m f k=k (l.set m (f l[m])):=by unfold stx;simp [h]
theorem zau {l m:List α}{bytes:Nat}(h:l.length+m.length<=1000000000)(hb:bytes<=100000)(k:List α->Option β):app l m bytes k=k (l++m):=by
 unfold app
 have h2:=Nat.mul_le_mul h hb
 rw [if_pos ⟨by omega,by omega⟩]
theorem zwl {l:List α}{a b:Nat}(h1:a<=b)(h2:b<=l.length)(k:List α->Option β):sls l (a:Int) (b:Int) k=k ((l.take b).drop a):=by
 unfold sls
 rw [if_pos (by omega)]
 simp
theorem shx_ok {b:Int}(h:0<=b)(x:Option β):shx b x=x:=by unfold shx;simp [h]
theorem z2n (k:Nat)(h:k<=1000000000000):IntKind.wrap .i64 ((k:Int)+1)=((k+1:Nat):Int):=by rw [zdf _ (by omega)];omega
end
end Go.Proofs.YtjpknpjjcddnnaaGreat
