/- What the walk knows of the program's types. -/
import Derived.Test.YthbogefcfhmpgaaGreatProg
import Derived.KernelRfl
import Derived.Test.YthbogefcfhmpgaaGreatK09
import Derived.Laws.IdiomRangeMap
set_option linter.unusedVariables false
set_option linter.unusedSimpArgs false
namespace Go.Proofs.YthbogefcfhmpgaaGreat
open List
abbrev fd (n:Nat):Nat×Nat×Option Bool:=(n,1,some false)
def tab:List (Nat×TyI):=[(3,⟨1,8,.int .i64 0,.int .i64⟩),(4,⟨1,1,.bool false,.bool⟩),(5,⟨1,1,.int .u8 0,.int .u8⟩),(9,⟨1,16,.string ByteArray.empty,.str⟩),(22,⟨1,24,.slice none 0 0,.slc 99 2 40⟩),(23,⟨1,24,.slice none 0 0,.slc 140 1 24⟩),(24,⟨1,24,.slice none 0 0,.slc 149 17 240⟩),(26,⟨4,64,.agg #[.int .i64 0,.int .i64 0,.slice none 0 0,.slice none 0 0],.strct [fd 0,fd 1,fd 2,fd 3]⟩),(28,⟨6,96,.agg #[.slice none 0 0,.int .i64 0,.int .i64 0,.slice none 0 0,.slice none 0 0,.int .i64 0],.strct [fd 0,(1,4,some true),fd 5]⟩),(29,⟨1,24,.slice none 0 0,.slc 37 5 56⟩),(35,⟨1,24,.slice none 0 0,.slc 144 3 32⟩),(37,⟨5,56,.agg #[.int .i64 0,.int .i64 0,.int .i64 0,.int .i64 0,.slice none 0 0],.strct [fd 0,fd 1,fd 2,fd 3,fd 4]⟩),(39,⟨4,48,.agg #[.int .i64 0,.int .i64 0,.slice none 0 0,.int .i64 0],.strct [fd 0,fd 1,fd 2,fd 3]⟩),(40,⟨1,8,.int .i64 0,.int .i64⟩),(43,⟨1,24,.slice none 0 0,.slc 3 1 8⟩),(44,⟨1,24,.slice none 0 0,.slc 4 1 1⟩),(49,⟨1,24,.slice none 0 0,.slc 90 3 56⟩),(50,⟨1,24,.slice none 0 0,.slc 64 1 24⟩),(55,⟨1,24,.slice none 0 0,.slc 49 1 24⟩),(57,⟨1,24,.agg #[.slice none 0 0],.strct [fd 0]⟩),(62,⟨1,24,.slice none 0 0,.slc 93 4 32⟩),(64,⟨1,24,.agg #[.slice none 0 0],.strct [fd 0]⟩),(68,⟨1,8,.nilFunc,.other⟩),(86,⟨3,24,.agg #[.int .i64 0,.int .i64 0,.int .i64 0],.strct [fd 0,fd 1,fd 2]⟩),(88,⟨1,24,.slice none 0 0,.slc 182 2 16⟩),(90,⟨3,56,.agg #[.int .i64 0,.slice none 0 0,.slice none 0 0],.strct [fd 0,fd 1,fd 2]⟩),(93,⟨4,32,.agg #[.int .i64 0,.int .i64 0,.int .i64 0,.int .i64 0],.strct [fd 0,(1,3,some true)]⟩),(95,⟨1,8,.nilFunc,.other⟩),(97,⟨1,24,.slice none 0 0,.slc 164 2 24⟩),(99,⟨2,40,.agg #[.string ByteArray.empty,.slice none 0 0],.strct [fd 0,fd 1]⟩),(111,⟨5,88,.agg #[.slice none 0 0,.int .i64 0,.int .i64 0,.slice none 0 0,.slice none 0 0],.strct [fd 0,(1,4,some true)]⟩),(112,⟨1,8,.map none,.map 3 4⟩),(113,⟨1,8,.map none,.map 3 4⟩),(115,⟨1,8,.nilFunc,.other⟩),(119,⟨2,16,.agg #[.map none,.map none],.strct [fd 0,fd 1]⟩),(121,⟨1,24,.slice none 0 0,.slc 112 1 8⟩),(128,⟨1,8,.pointer none,.other⟩),(135,⟨1,8,.map none,.map 86 4⟩),(138,⟨1,24,.slice none 0 0,.slc 216 11 112⟩),(140,⟨1,24,.agg #[.slice none 0 0],.strct [fd 0]⟩),(142,⟨1,24,.slice none 0 0,.slc 146 8 88⟩),(144,⟨3,32,.agg #[.int .i64 0,.int .i64 0,.string ByteArray.empty],.strct [fd 0,fd 1,fd 2]⟩),(146,⟨8,88,.agg #[.int .i64 0,.slice none 0 0,.int .i64 0,.int .i64 0,.int .i64 0,.int .i64 0,.int .i64 0,.string ByteArray.empty],.strct [fd 0,fd 1,fd 2,fd 3,fd 4,(5,3,some true)]⟩),(147,⟨1,24,.slice none 0 0,.slc 230 2 16⟩),(149,⟨17,240,.agg #[.int .i64 0,.int .i64 0,.int .i64 0,.int .i64 0,.int .i64 0,.slice none 0 0,.int .i64 0,.int .i64 0,.int .i64 0,.int .i64 0,.int .i64 0,.string ByteArray.empty,.slice none 0 0,.slice none 0 0,.slice none 0 0,.slice none 0 0,.slice none 0 0],.strct [fd 0,fd 1,fd 2,fd 3,(4,8,some true),fd 12,fd 13,fd 14,fd 15,fd 16]⟩),(151,⟨1,8,.nilFunc,.other⟩),(155,⟨1,8,.nilFunc,.other⟩),(158,⟨1,8,.nilFunc,.other⟩),(159,⟨1,8,.nilFunc,.other⟩),(160,⟨1,8,.nilFunc,.other⟩),(164,⟨2,24,.agg #[.string ByteArray.empty,.int .i64 0],.strct [fd 0,fd 1]⟩),(169,⟨1,24,.slice none 0 0,.slc 44 1 24⟩),(173,⟨1,24,.slice none 0 0,.slc 43 1 24⟩),(182,⟨2,16,.agg #[.int .i64 0,.int .i64 0],.strct [fd 0,fd 1]⟩),(190,⟨1,8,.nilFunc,.other⟩),(202,⟨1,8,.map none,.map 86 37⟩),(204,⟨5,72,.agg #[.int .i64 0,.int .i64 0,.slice none 0 0,.slice none 0 0,.map none],.strct [(0,4,some true),fd 4]⟩),(206,⟨1,8,.nilFunc,.other⟩),(211,⟨1,8,.nilFunc,.other⟩),(216,⟨11,112,.agg #[.int .i64 0,.int .i64 0,.int .i64 0,.int .i64 0,.slice none 0 0,.int .i64 0,.int .i64 0,.int .i64 0,.int .i64 0,.int .i64 0,.string ByteArray.empty],.strct [fd 0,fd 1,fd 2,(3,8,some true)]⟩),(220,⟨1,8,.nilFunc,.other⟩),(230,⟨2,16,.agg #[.int .i64 0,.int .i64 0],.strct [fd 0,fd 1]⟩),(250,⟨1,8,.map none,.map 9 4⟩),(253,⟨1,8,.nilFunc,.other⟩),(254,⟨1,8,.nilFunc,.other⟩),(258,⟨1,8,.nilFunc,.other⟩),(264,⟨1,8,.map none,.map 267 4⟩),(267,⟨2,16,.agg #[.int .i64 0,.int .i64 0],.strct [fd 0,fd 1]⟩),(269,⟨1,24,.slice none 0 0,.slc 29 1 24⟩),(271,⟨1,24,.agg #[.slice none 0 0],.strct [fd 0]⟩),(278,⟨1,8,.nilFunc,.other⟩),(281,⟨1,8,.int .u64 0,.int .u64⟩),(282,⟨1,8,.nilFunc,.other⟩),(285,⟨1,8,.nilFunc,.other⟩),(291,⟨1,8,.nilFunc,.other⟩),(305,⟨1,8,.nilFunc,.other⟩),(308,⟨1,8,.int .i64 0,.int .i64⟩),(318,⟨16,16,.agg #[.bool false,.bool false,.bool false,.bool false,.bool false,.bool false,.bool false,.bool false,.bool false,.bool false,.bool false,.bool false,.bool false,.bool false,.bool false,.bool false],.arr 16 4 1 (some false)⟩),(332,⟨1,8,.nilFunc,.other⟩),(336,⟨1,8,.nilFunc,.other⟩),(344,⟨1,8,.int .u64 0,.int .u64⟩),(348,⟨1,8,.pointer none,.other⟩),(356,⟨1,8,.map none,.map 3 368⟩),(359,⟨8,96,.agg #[.slice none 0 0,.int .i64 0,.int .i64 0,.int .i64 0,.int .i64 0,.int .i64 0,.slice none 0 0,.map none],.strct [(0,1,some true),fd 1,(2,5,some true),fd 7]⟩),(367,⟨1,8,.nilFunc,.other⟩),(368,⟨1,8,.nilFunc,.other⟩),(381,⟨5,48,.agg #[.int .i64 0,.int .i64 0,.int .i64 0,.int .i64 0,.string ByteArray.empty],.strct [fd 0,fd 1,(2,3,some true)]⟩),(389,⟨1,8,.nilFunc,.other⟩),(395,⟨1,8,.nilFunc,.other⟩),(396,⟨6,48,.agg #[.nilFunc,.nilFunc,.nilFunc,.nilFunc,.nilFunc,.nilFunc],.arr 6 395 1 (some false)⟩)]
def Z3 (P:Program):List (Nat×TyI)->Prop
 |[]=>True
 |(t,i)::r=>TyOk P t i/\Z3 P r
variable {P:Program}
theorem Z3.get:∀ {l:List (Nat×TyI)},Z3 P l->∀ T i,lkT l T=some i->TyOk P T i
 |[],_,T,i,h=>by simp [lkT] at h
 |(t,j)::r,hl,T,i,h=>by
  simp only [lkT] at h
  split at h
  ·rename_i hb
   have:=Nat.eq_of_beq_eq_true hb
   subst this
   injection h with h
   subst h
   exact hl.1
  ·exact hl.2.get T i h
set_option maxRecDepth 100000 in
theorem zwg:Z3 Tryz.prog tab:=by repeat' first|exact trivial|refine ⟨⟨by kernel_rfl,by kernel_rfl,by kernel_rfl⟩,?_⟩
theorem Yx (T:Nat)(i:TyI)(h:lkT tab T=some i):TyOk Tryz.prog T i:=zwg.get T i h
noncomputable def E0:Env:=⟨Tryz.prog,tab,fun T i h=>zwg.get T i h,by kernel_rfl,false,false,none,0,false⟩
noncomputable def E0d:Env:=⟨Tryz.prog,tab,fun T i h=>zwg.get T i h,by kernel_rfl,true,false,none,0,false⟩
variable {f:FuncId}
theorem B3 {fn : Func}(hf : E0.P.funcs[f]? = some fn)(hn : (fn.name == "runtime.NumGoroutine") = false)(hb : fn.body.isNone = false) : C6 E0 f := fun args w => by
 unfold callFunc
 simp only [Sem.run_bind,run_program,Result.andThen_ok,hf,hn,hb,Bool.false_eq_true,if_false,Sem.run_pure]
open Go.RowKit
open Nat renaming eq_of_beq_eq_true->aA,le_refl->aB,beq->aG,lt_of_lt_of_le->aL,zero_add->aO,beq_refl->aP
open Option.some renaming injEq->aC
open Or renaming inl->aD,inr->aJ
open _root_.Array renaming getElem?_setIfInBounds->aE,getD_eq_getD_getElem?->aF,size_append->aU,filter->bF
open Bool renaming false_eq_true->aH
open List renaming getD_eq_getElem?_getD->aK,length_replicate->aM,length_eraseIdx_of_lt->aQ,length_eq_zero_iff->aT,getElem_replicate->aV,getElem_cons_zero->aW,replicate->aX,getElem_eraseIdx->aY,length_set->bE
open AV renaming closedL->aN,renL->bA,inML->bB,cells->bC
open Option renaming none_or->aR,map_some->aZ
open AS renaming freeze->aS
noncomputable def E0p (np:Nat):Env:={ E0 with np:=np }
variable {me:List (Nat×Ent)}{res:AV}
theorem ConG.up {yl:Option (Nat×Obj)}{C:CalT}{args caps:List AV}{me':List (Nat×Ent)}(h:ConG P none C args caps me res me'):ConG P yl C args caps me res me' :=
 fun cx γ w vs cs h1 h2 _=>h cx γ w vs cs h1 h2 (fun x hx=>by cases hx)
variable {E E':Env}{avs:List AV}
theorem Con.env {fr:Bool}(hP:E'.P=E.P)(hd:E'.dr=false)(h:Con E fr f avs res):Con E' fr f avs res:=by
 refine ⟨by have:=h.1;unfold C6 at *;rw [hP];exact this,fun S w vs ha=>?_⟩
 have:=h.2 S w vs ha
 rw [hP]
 exact this.mono fun e w' ⟨v,h1,⟨h2,_⟩,h3⟩=>⟨v,h1,⟨h2,fun hd'=>absurd (hd.symm.trans hd') (by simp)⟩,h3⟩
variable {xs:List AV}{ty sz:Nat}
theorem ConT.env (hP:E'.P=E.P)(h:ConT E f avs ty sz xs res):ConT E' f avs ty sz xs res:=by
 refine ⟨by have:=h.1;unfold C6 at *;rw [hP];exact this,h.2.1,fun S w vs ha=>?_⟩
 rw [hP]
 exact h.2.2 S w vs ha
section
variable {α β:Type}
variable {k:α->Option β}{r:β}{find:Nat->Option Ent}{KR:AV->List Nat->List (Nat×Ent)->Prop}
theorem Af.oM {o:Option α}{K:AV->Prop}{R:Nat->Nat->List AV->AV->Prop}(h:bnd o k=some r)
  (ps ps':List (Nat×Nat)) (cargs:List AV) (me:List (Nat×Ent)) (meF:α->List (Nat×Ent)) (resF:α->AV) (dead:List Nat) (hc:∀ a,o=some a->ConG E.P E.yl (CalF E.P f 0) cargs [] me (resF a) (meF a)) (he:C6 E f) (hdr0:E.dr=false) (hra:bA (rho ps) cargs=avs) (hia:bB (me.map (·.1)) cargs=true) (hle:LeF find (rho ps) (me.map (·.1)) me)
  (hn:∀ a,Ct find (rho ps) (rho ps') me (meF a) (resF a) dead) (kk:∀ a,k a=some r->KR ((resF a).ren (rho ps')) (idsG (rho ps) (rho ps') me (meF a)) (wrG (rho ps') (meF a) dead)):Af E f avs K R find KR:=by
 cases o with
 |none=>unfold bnd at h;cases h
 |some a=>exact .memo ps ps' cargs me (meF a) (resF a) dead he hdr0 (hc a rfl) hra hia hle (hn a) (kk a (by unfold bnd at h;exact h))
theorem B4.oM {o:Option α}{raw:List AV}{K:AV->Prop}{dst:Option Nat}(h:bnd o k=some r)
  (ps ps':List (Nat×Nat)) (cargs:List AV) (me:List (Nat×Ent)) (meF:α->List (Nat×Ent)) (resF:α->AV) (dead:List Nat) (hc:∀ a,o=some a->ConG E.P E.yl (CalF E.P f 0) cargs [] me (resF a) (meF a)) (he:C6 E f) (hdr0:E.dr=false) (hra:bA (rho ps) cargs=raw) (hia:bB (me.map (·.1)) cargs=true) (hle:LeF find (rho ps) (me.map (·.1)) me)
  (hn:∀ a,Ct find (rho ps) (rho ps') me (meF a) (resF a) dead) (kk:∀ a,k a=some r->KR ((resF a).ren (rho ps')) (idsG (rho ps) (rho ps') me (meF a)) (wrG (rho ps') (meF a) dead)):B4 E f avs K raw find dst KR:=by
 cases o with
 |none=>unfold bnd at h;cases h
 |some a=>exact .memo ps ps' cargs me (meF a) (resF a) dead he hdr0 (hc a rfl) hra hia hle (hn a) (kk a (by unfold bnd at h;exact h))
theorem YldX.oM {o:Option α}{l:Nat}{T:Array Value}{raw cap:List AV}(h:bnd o k=some r)
  (ps ps':List (Nat×Nat)) (cargs ccaps:List AV) (me:List (Nat×Ent)) (meF:α->List (Nat×Ent)) (resF:α->AV) (dead:List Nat) (hc:∀ a,o=some a->ConG E.P E.yl (fun vs cs w R=>cs=T->CalY E.P l vs cs w R) cargs ccaps me (resF a) (meF a)) (hdr0:E.dr=false) (hra:bA (rho ps) cargs=raw) (hrc:bA (rho ps) ccaps=cap) (hia:bB (me.map (·.1)) cargs=true) (hic:bB (me.map (·.1)) ccaps=true) (hle:LeF find (rho ps) (me.map (·.1)) me)
  (hn:∀ a,Ct find (rho ps) (rho ps') me (meF a) (resF a) dead) (kk:∀ a,k a=some r->KR ((resF a).ren (rho ps')) (idsG (rho ps) (rho ps') me (meF a)) (wrG (rho ps') (meF a) dead)):YldX E l T raw cap find KR:=by
 cases o with
 |none=>unfold bnd at h;cases h
 |some a=>exact .mk ps ps' cargs ccaps me (meF a) (resF a) dead hdr0 (hc a rfl) hra hrc hia hic hle (hn a) (kk a (by unfold bnd at h;exact h))
variable {nt:Nat}
theorem RngX.oM {o:Option α}{gf:Nat}{cap:List AV}{ps:Array Tmp}{a b:Code}{σ:AS}{K:AS->Prop}(h:bnd o k=some r)
  (pp pp':List (Nat×Nat)) (ycaps ccaps:List AV) (me:List (Nat×Ent)) (meF:α->List (Nat×Ent)) (dead:List Nat)
  (hiter:∀ x,o=some x->∀ (l D:Nat) (fn:FuncId) (T:Array Value),T.size=nt->ConG E.P (some (l,.loop (recR fn T ps a b D))) (CalF E.P gf 0) (.yld l T ycaps::ccaps) [] me (.tup []) (meF x))
  (he:C6 E gf) (hrg:E.rg=true) (hdr0:E.dr=false) (hyl0:E.yl=none) (hrc:bA (rho pp) ccaps=cap) (hic:bB (me.map (·.1)) ccaps=true) (hy:LeY σ (rho pp) (me.map (·.1)) 0 ycaps) (hle:LeF σ.find (rho pp) (me.map (·.1)) me) (hn:∀ x,Ct σ.find (rho pp) (rho pp') me (meF x) (.tup []) dead)
  (kk:∀ x,k x=some r->K (σ.upd none (.tup []) (wrG (rho pp') (meF x) dead))):RngX E nt (.fn gf cap) ps a b σ K:=by
 cases o with
 |none=>unfold bnd at h;cases h
 |some x=>exact .mk gf cap rfl he hrg hdr0 hyl0 pp pp' ycaps ccaps me (meF x) dead hrc hic hy hle (hn x) (hiter x rfl) (kk x (by unfold bnd at h;exact h))
variable {meF:α->List (Nat×Ent)}
theorem GX.o {x r:α}{fn:Func}{args:List AV}{σ:AS}{res:α->AV}(h:some x=some r)(k:GX E nt fn args me σ (res x) (meF x)):GX E nt fn args me σ (res r) (meF r):=by
 injection h with h;subst h;exact k
theorem BX.o {x r:α}{ycaps:List AV}{σ:AS}(h:some x=some r)(k:BX E nt ycaps me σ (meF x)):BX E nt ycaps me σ (meF r):=by
 injection h with h;subst h;exact k
end
section
variable {β:Type} {E:Env} {nt:Nat} {o:Oper} {σ:AS} {K:OpK}
def idb (s:ByteArray)(n:Int)(k:Int->Option β):Option β:=if 0<=n then (match S5 s n.toNat with|some b=>k b.toNat|none=>none) else none
theorem OpX.idb {s:ByteArray}{n:Int}{k:Int->Option β}{r:β}{T:Nat}{x y:Operand}{i:TyI}{kd:IntKind}(hF:idb s n k=some r)(ho:o.op=.index T x y)(hd:dokN E nt o.dst=true)(hxo:A5 x=true)(hyo:A5 y=true)(hx:σ.eval x=.str s)(hy:σ.eval y=.int kd n)(hT:lkT E.tab T=some i)
  (hs:i.shape=.str) (hk:∀ b,k b=some r->K (.int .u8 b) [] []):OpX E nt o σ K:=by
 unfold Proofs.YthbogefcfhmpgaaGreat.idb at hF
 split at hF
 ·rename_i hn
  split at hF
  ·rename_i b hb
   exact .mk _ _ _ (fun cx hE hnt=>zli (m:=n.toNat) ho (Ak hd hE hnt) hxo hyo hx hy (by rw [hE];exact hT) hs (by omega) hb) (hk _ hF)
  ·cases hF
 ·cases hF
def bld {α:Type}(l:List α)(k:List α->Option β):Option β:=k l
theorem OpX.bld {α:Type}{l:List α}{k:List α->Option β}{r:β}(enc:α->AV){T n d e esz eb:Nat}{ps:Array (Nat×Operand)}{i ie:TyI}(hF:bld l k=some r)(ho:o.op=.buildSlice T n ps)(hdst:o.dst=some d)(hd:dokN E nt o.dst=true)(hT:lkT E.tab T=some i)(hs:i.shape=.slc e esz eb)(he:lkT E.tab e=some ie)(hz:aG esz 0=false)(hn:Nat.ble (n*esz) 16777216=true)
  (hze:Dd ie.zero.cells.toList=true) (hz0:Nat.blt 0 ie.zero.cells.size=true) (hok:Gw σ ps=true) (hcl:aN (l.map enc)=true) (hlen:(l.map enc).length=n) (hl:(l.map enc).all (fun x=>aG x.cells.length esz)=true)
  (hf:Df (fun j=>some (j*esz,esz)) (aX (n*esz) .any) (Cp σ ps)=some ((l.map enc).flatMap bC)) (hnn:σ.find d=none) (hk:∀ l',k l'=some r->K (.row d) (d::Gx (Cp σ ps)) [(d,.row e esz (l'.map enc))]):OpX E nt o σ K :=
 .mk _ _ _ (fun cx hE hnt=>z5t ho hdst (Ak hd hE hnt) (by rw [hE];exact hT) hs (by rw [hE];exact he) (nbne hz) hn (Gt hze) hz0 hok hcl hlen hl hf hnn) (hk l hF)
end
noncomputable def E0q (np:Nat):Env:={ E0 with np:=np,bl:=true }
theorem ConC.env {inp:Bool}{xs':List AV}{ty' sz':Nat}(hP:E'.P=E.P)(h:ConC inp E f avs ty sz xs ty' sz' xs' res):ConC inp E' f avs ty sz xs ty' sz' xs' res:=by
 refine ⟨by have:=h.1;unfold C6 at *;rw [hP];exact this,h.2.1,fun S w0 w vs v us=>?_⟩
 rw [hP]
 exact h.2.2 S w0 w vs v us
section
variable {cx:Cx} {o:Oper} {σ:AS}
theorem zp8 {w:World}{S:Nat->Prop}{T kt et:TypeId}{k zA:AV}{vk vm z:Value}(ok:Bool)(hT:P.underlying T=some (.map kt et))(ht:Bc P kt k=true)(hk:Rep w S G0 k vk)(hm:vm=.map none)
  (hz:(zeroValue et).run P w=.ok z w) (hzR:Rep w S G0 zA z):∃ v,Rep w S G0 (F9 zA [] none) v/\(Instr.lookup T vm vk ok).run P w=.ok (if ok then .tuple #[v,.bool (none:Option Nat).isSome] else v) w:=by
 subst hm
 have f1:=(X9 (P:=P) (w:=w) ht hk [] [] none rfl (fun j h=>absurd h (by simp)) rfl).1
 refine ⟨z,hzR,?_⟩
 cases ok<;>simp [Instr.lookup,run_underlying hT,Od _ ht hk,f1,hz,Result.andThen]
variable {ps:List (AV×AV)}
theorem mapv_val {γ:Gam}{w:World}{S:Nat->Prop}{v:Value}(hv:Rep w S γ (.mapv ps) v):(∃ g ps0,v=.map (some g)/\S g/\g<w.heap.size/\D4 w S g ps0/\Fc ps0 ps)\/(v=.map none/\ps=[]):=by
 cases hv with
 |mapv ps0 hp g es clock hb hS hg hh hl hk hv=>exact aD ⟨g,ps0,rfl,hS,hg,⟨es,clock,hh,hl,hb,fun j h h'=>⟨hk j h h',hv j h h'⟩⟩,hp⟩
 |mapn=>exact aJ ⟨rfl,rfl⟩
theorem ze2 {T kt et:Nat}{x y:Operand}{ok:Bool}{i ie:TyI}{k av:AV}{r:Option Nat}(ho:o.op=.lookup T x y ok)(hd:dok cx o=true)(hxo:A5 x=true)(hyo:A5 y=true)(hx:σ.eval x=.mapv ps)(hy:σ.eval y=k)
  (hT:lkT cx.E.tab T=some i) (hs:i.shape=.map kt et) (he:lkT cx.E.tab et=some ie) (hzo:Sd ie.zero=true) (hk:Bc cx.P kt k=true) (hf:Be k (ps.map (·.1)) 0=some r)
  (hav:Sub (F9 (Ek ie.zero) ps r) av):Ag cx o σ (S8 av r.isSome ok) [] [] :=
 Ay hd fun τ γ a w h1 h2 hst=>by
  have ex:=hst.ev x hxo
  rw [h1 x (by simp [ho,Op.operands]),hx] at ex
  have ey:=hst.ev y hyo
  rw [h1 y (by simp [ho,Op.operands]),hy] at ey
  obtain ⟨v,hv1,hv2⟩:∃ v,Rep w (Sg cx.S0 cx.w0.heap.size γ) G0 (F9 (Ek ie.zero) ps r) v/\(Instr.lookup T (a.eval x) (a.eval y) ok).run cx.P w=.ok (if ok then .tuple #[v,.bool r.isSome] else v) w:=by
   rcases mapv_val ex with ⟨g,ps0,hv,_,_,hm,hp⟩|⟨hv,he0⟩
   ·obtain ⟨r0,f1,f2,f3⟩:=zmd hp hf
    obtain ⟨v,hv1,hv2⟩:=zef (S:=Sg cx.S0 cx.w0.heap.size γ) (zA:=Ek ie.zero) ok (Gv (cx.E.ok T i hT) hs) hk (ey.flat (Rm hk)) hm ((cx.E.ok et ie he).zeroV w) (Xq _ _ _ _ hzo) f1
    rw [f2] at hv2
    refine ⟨v,?_,by rw [hv];exact hv2⟩
    rw [<-f3]
    cases r0<;>exact hv1
   ·subst he0
    simp only [map_nil,Be,aC] at hf
    subst hf
    exact zp8 ok (Gv (cx.E.ok T i hT) hs) hk (ey.flat (w':=w) (S':=Sg cx.S0 cx.w0.heap.size γ) (γ':=G0) (Rm hk)) hv ((cx.E.ok et ie he).zeroV w) (Xq _ _ _ _ hzo)
  have hv1:=(hv1.open_ (γ':=γ)).sub hav
  refine ⟨(if ok then .tuple #[v,.bool r.isSome] else v),by simp only [execOp,ho,Sem.run_bind,hv2,Result.andThen_ok,Sem.run_pure],?_⟩
  cases ok with
  |false=>exact hv1
  |true =>
   simp only [S8,if_true]
   refine .tup #[v,.bool r.isSome] rfl (fun j hj=>?_)
   have hj:j<2:=hj
   rcases j with _|_|j
   ·exact hv1
   ·exact .bool _
   ·omega
theorem zl8 {T id q k t s2:Nat}{x:Operand}{i:TyI}{ty ety:TypeId}{ys:List AV}{el:AV}(ho:o.op=.store T x (.tmp t))(hd:dok cx o=true)(hdst:o.dst=none)(hxo:A5 x=true)(hx:σ.eval x=.elt id sz k 0)(hy:σ.get t=.row q)(hT:lkT cx.E.tab T=some i)(hi:i.sz=1)(hl:σ.find id=some (.row ty sz xs))(hq:σ.find q=some (.row ety s2 ys))(hne:id≠q)
  (he:xs[k]? = some el) (hsz:1<=sz) {el':AV} (hel:el'.cells=.sl s2 ys::el.cells.drop 1) :
  Ag cx o σ (.tup []) [id,q] [(id,.row ty sz (xs.set k el')),(q,.dead)]:=by
 refine ⟨fun id' e he=>?_,fun τ h1 h2 a w Q K hst hK=>?_⟩
 ·simp only [lkE] at he
  cases hb:aG id id' with
  |true=>simp [aA hb]
  |false =>
   rw [hb] at he
   simp only at he
   cases hb2:aG q id' with
   |true=>simp [aA hb2]
   |false=>rw [hb2] at he;cases he
 have tx:τ.eval x=.elt id sz k 0:=by rw [h1 x (by simp [ho,Op.operands]),hx]
 have ty':τ.get t=.row q:=by have:=h1 (.tmp t) (by simp [ho,Op.operands]);simpa [AS.eval,hy] using this
 have tl:τ.find id=some (.row ty sz xs):=by rw [h2 id (by simp),hl]
 have tq:τ.find q=some (.row ety s2 ys):=by rw [h2 q (by simp),hq]
 have fr:St cx (τ.freeze t q s2 ys) a w:=LeX.freeze (E:=cx.E) (nt:=cx.nt) t q ety s2 ys ty' tq cx rfl rfl a w hst
 have g1:(τ.freeze t q s2 ys).eval x=.elt id sz k 0:=by
  cases x with
  |tmp u =>
   have hu:u≠t:=fun e=>by
    subst e
    have:τ.get u=.elt id sz k 0:=tx
    rw [ty'] at this;cases this
   show (τ.freeze t q s2 ys).get u=_
   have e:(τ.freeze t q s2 ys).get u=τ.get u:=by
    unfold aS AS.get
    simp only [lkV]
    cases hb:aG t u with
    |true=>exact absurd (aA hb).symm hu
    |false=>rfl
   rw [e];exact tx
  |_=>exact tx
 have g2:(τ.freeze t q s2 ys).eval (.tmp t)=.sl s2 ys:=by simp [AS.eval,aS,AS.get,lkV]
 have fnd:∀ j,j≠q->(τ.freeze t q s2 ys).find j=τ.find j:=fun j hj=>by
  unfold aS AS.find
  simp only [lkE]
  cases hb:aG q j with
  |true=>exact absurd (aA hb).symm hj
  |false=>rfl
 have fndq:(τ.freeze t q s2 ys).find q=some .dead:=by simp [aS,AS.find,lkE]
 have g3:(τ.freeze t q s2 ys).find id=some (.row ty sz xs):=by rw [fnd id hne,tl]
 have R:=zb8 (cx:=cx) (o:=o) (σ:=τ.freeze t q s2 ys) (el':=el') ho hd hxo rfl g1 g2 hT g3 he (by rw [hi];rfl) (by rw [hi];omega) rfl rfl (by rw [hi];simpa [bC] using hel)
 refine R.2 _ (fun _ _=>rfl) (fun _ _=>rfl) a w Q K fr (fun a' w' hst'=>hK a' w' ?_)
 obtain ⟨γ,hs⟩:=hst'
 rw [hdst] at hs ⊢
 have dq:γ q=some none:=by
  have:=hs.me q
  rw [AS.find_upd] at this
  have e:lkE [(id,Ent.row ty sz (xs.set k el'))] q=none:=by
   simp only [lkE]
   cases hb:aG id q with
   |true=>exact absurd (aA hb) hne
   |false=>rfl
  rw [e,aR,fndq] at this
  obtain ⟨d,hd,he⟩:=this
  have he:d=none:=he
  rw [hd,he]
 refine ⟨γ,fun u=>?_,fun j=>?_,hs.inj,hs.ge,hs.below,hs.size,hs.defers,hs.gh,hs.fr,hs.dr⟩
 ·rw [AS.get_upd,if_neg (by simp)]
  have hv:=hs.tm u
  rw [AS.get_upd,if_neg (by simp)] at hv
  by_cases hu:t=u
  ·subst hu
   rw [ty']
   exact .row dq (fun g s e _=>by cases e)
  ·have e:(τ.freeze t q s2 ys).get u=τ.get u:=by
    unfold aS AS.get
    simp only [lkV]
    cases hb:aG t u with
    |true=>exact absurd (aA hb) hu
    |false=>rfl
   rw [e] at hv
   exact hv
 ·have hm:=hs.me j
  rw [AS.find_upd] at hm ⊢
  simp only [lkE] at hm ⊢
  cases hb:aG id j with
  |true=>rw [hb] at hm;exact hm
  |false =>
   rw [hb] at hm
   simp only [aR] at hm ⊢
   cases hb2:aG q j with
   |true => 
    have:=aA hb2
    subst this
    exact ⟨none,dq,rfl⟩
   |false =>
    simp only [aR]
    rw [fnd j (fun e=>by subst e;simp at hb2)] at hm
    exact hm
end
section
variable {α β κ ν:Type} {E:Env} {nt:Nat} {o:Oper} {σ:AS} {K:OpK}
variable {x:Operand}
theorem OpX.str {ε:Type}(er:ε->AV){l:List (List ε)}{m:Nat}{v:List ε}{k:List (List ε)->Option β}{r:β}{T t id q ety:Nat}{i:TyI}(hF:stx l m (fun _=>v) k=some r)(ho:o.op=.store T x (.tmp t))(hdst:o.dst=none)(hd:dokN E nt o.dst=true)(hxo:A5 x=true)(hx:σ.eval x=.elt id 1 m 0)(hy:σ.get t=.row q)(hT:lkT E.tab T=some i)(hi:i.sz=1)
  (hl:σ.find id=some (.row ty 1 (l.map fun q=>.sl sz (q.map er)))) (hq:σ.find q=some (.row ety sz (v.map er))) (hne:aG id q=false) (hk:∀ l',k l'=some r->K (.tup []) [id,q] [(id,.row ty 1 (l'.map fun q=>.sl sz (q.map er))),(q,.dead)]):OpX E nt o σ K:=by
 unfold stx at hF
 split at hF
 ·rename_i y hy'
  refine .mk _ _ _ (fun cx hE hnt=>?_) (hk _ hF)
  have h:=zl8 (cx:=cx) (el':=.sl sz (v.map er)) ho (Ak hd hE hnt) hdst hxo hx hy (by rw [hE];exact hT) hi hl hq (nbne hne) (by rw [getElem?_map,hy'];rfl) (aB _) rfl
  rw [map_set]
  exact h
 ·cases hF
def mgv [DecidableEq κ](l:List (κ×ν))(k:κ)(z:ν)(c:ν->Bool->Option β):Option β:=c ((mlk l k).getD z) (mlk l k).isSome
theorem OpX.lkv [DecidableEq κ](ek:κ->AV)(er:ν->AV){l:List (κ×ν)}{k:κ}{z:ν}{ok:Bool}{c:ν->Bool->Option β}{r:β}{T kt et:Nat}{y:Operand}{i ie:TyI}(hF:mgv l k z c=some r)(heq:∀ a b,eqK (ek a) (ek b)=some (decide (a=b)))(ho:o.op=.lookup T x y ok)(hd:dokN E nt o.dst=true)(hxo:A5 x=true)(hyo:A5 y=true)(hx:σ.eval x=.mapv (l.map (encM ek er)))(hy:σ.eval y=ek k)
  (hT:lkT E.tab T=some i) (hs:i.shape=.map kt et) (he:lkT E.tab et=some ie) (hzo:Dd ie.zero.cells.toList=true) (hkf:Bc E.P kt (ek k)=true) (hz:Sub (Ek ie.zero) (er z)) (hk:∀ v b,c v b=some r->K (S8 (er v) b ok) [] []):OpX E nt o σ K:=by
 have h:=LkX.o (P:=E.P) (kt:=kt) (zA:=Ek ie.zero) (K:=fun av b=>K (S8 av b ok) [] []) ek er (show mgt l k z c=some r by unfold mgv at hF;unfold mgt;exact hF) hkf heq hz (fun v b hc=>hk v b hc)
 cases h with
 |mk q av b hk' hf hb hsu hc =>
  subst hb
  exact .mk _ _ _ (fun cx hE hnt=>ze2 (ok:=ok) ho (Ak hd hE hnt) hxo hyo hx hy (by rw [hE];exact hT) hs (by rw [hE];exact he) (Xn hzo) (by rw [show cx.P=E.P by rw [<-hE]];exact hk') hf hsu) hc
theorem zoa (k:AV):∀ (l:List AV) (i:Nat),Be k l (i+1)=(Be k l i).map (·.map (· + 1))
 |[],i=>rfl
 |a::l,i=>by
  simp only [Be]
  cases eqK k a with
  |none=>rfl
  |some b=>cases b with
   |true=>rfl
   |false=>exact zoa k l (i+1)
def LkC (n:Int)(z:AV)(qs:List (AV×AV))(K:AV->Prop):Prop:=∃ r av,Be (.int .i64 n) (qs.map (·.1)) 0=some r/\Sub (F9 z qs r) av/\K av
variable {qs:List (AV×AV)}
theorem LkC.cons {n:Int}{z v:AV}{k:Nat}{K:AV->Prop}{x y:Option β}{r:β}(h:natc n k x y=some r)(h0:x=some r->K v)(h1:y=some r->LkC n z qs K):LkC n z ((.int .i64 (k:Int),v)::qs) K:=by
 rw [O4] at h
 split at h
 ·rename_i e
  refine ⟨some 0,v,?_,.refl _,h0 h⟩
  simp only [map_cons,Be,eqK,eq1,e]
  simp
 ·rename_i e
  obtain ⟨q,av,g1,g2,g3⟩:=h1 h
  refine ⟨q.map (· + 1),av,?_,?_,g3⟩
  ·simp only [map_cons,Be,eqK,eq1]
   rw [decide_eq_false e]
   simp only [zoa,g1,aZ]
   rfl
  ·cases q with
   |none=>exact g2
   |some j=>exact g2
theorem OpX.lkc {n:Int}{T kt et:Nat}{y:Operand}{i ie:TyI}(ho:o.op=.lookup T x y false)(hx:σ.eval x=.mapv qs)(hd:dokN E nt o.dst=true)(hxo:A5 x=true)(hyo:A5 y=true)(hy:σ.eval y=.int .i64 n)
  (hT:lkT E.tab T=some i) (hs:i.shape=.map kt et) (he:lkT E.tab et=some ie) (hzo:Dd ie.zero.cells.toList=true) (hkf:Bc E.P kt (.int .i64 n)=true) (hk:LkC n (Ek ie.zero) qs fun av=>K av [] []):OpX E nt o σ K:=by
 obtain ⟨r,av,g1,g2,g3⟩:=hk
 exact .mk _ _ _ (fun cx hE hnt=>ze2 (ok:=false) ho (Ak hd hE hnt) hxo hyo hx hy (by rw [hE];exact hT) hs (by rw [hE];exact he) (Xn hzo) (by rw [show cx.P=E.P by rw [<-hE]];exact hkf) g1 g2) g3
end
def S2:AV->Bool
 |.ptr _ 0=>true
 |_=>false
def frb {β:Type}(r:Nat)(x:Option β):Option β:=x
section
variable {β:Type} {E:Env} {nt:Nat}
variable {cs:List AV}
theorem LeX.frb {σ:AS}(r:Nat)(hr:σ.find r=some (.box ty cs))(hc:aN cs=true):LeX E nt σ (σ.rpAll r S2 (.ref cs) .dead):=by
 refine LeX.rpAll r S2 _ _ _ hr (fun ty cs h=>by cases h) (fun cx γ a w d hst hd he=>?_)
 obtain ⟨g,vs,hde,hb,hsz,hrr,hone⟩:=he
 subst hde
 refine ⟨none,(fun b hb=>by cases hb),fun S' hS hS2=>⟨rfl,fun γ' x v hγ' hsrc hx hv=>?_⟩⟩
 have hx':x=.ptr r 0:=by
  cases x with
  |ptr i off=>cases off with
   |zero=>simp only [AV.leafId,aC] at hx;rw [hx]
   |succ n=>simp [S2] at hsrc
  |_=>simp [S2] at hsrc
 subst hx'
 have hv':v=.pointer (some ⟨g,0,none⟩):=by
  cases hv with
  |ptr h hv=>rw [hd] at h;injection h with h;exact hv _ _ h.symm
 subst hv'
 refine .ref g 0 (fun j=>vs.getD j undef) (hS2 g Bh (fun h=>by cases h)) hb.lt (fun j hj=>by rw [aO];exact Nu hb j (by omega)) (fun j hj=>?_) (fun j hj=>hone j (by omega))
 exact ((hrr j hj).close (AV.closedL_at hc j hj)).mono (aB _) (fun b hb _=>⟨rfl,hS b hb⟩)
variable {R:Exit->AS->Prop} {K:List Ba}
theorem AW.frb0 {c:Code}{σ:AS}(r:Nat)(hr:σ.find r=some (.box ty cs))(hc:aN cs=true)(k:AW E nt R (.code c::K) .normal (σ.rpAll r S2 (.ref cs) .dead)):AW E nt R (.code c::K) .normal σ:=AW.weaken (LeX.frb r hr hc) k
theorem AW.frbO {id:Nat}{c:Code}{σ:AS}{x:Option β}{y:β}(h:Proofs.YthbogefcfhmpgaaGreat.frb id x=some y)(r:Nat)(hr:σ.find r=some (.box ty cs))(hc:aN cs=true)(k:x=some y->AW E nt R (.code c::K) .normal (σ.rpAll r S2 (.ref cs) .dead)):AW E nt R (.code c::K) .normal σ:=AW.weaken (LeX.frb r hr hc) (k h)
end
section
variable {α β:Type} {E:Env} {nt:Nat} {o:Oper} {σ:AS} {K:OpK}
theorem OpX.bldR {l:List α}{k:List α->Option β}{r:β}(enc:α->AV){T n d e esz eb:Nat}{ps:Array (Nat×Operand)}{i ie:TyI}{fl:List AV}{ag:Bool}(hF:Proofs.YthbogefcfhmpgaaGreat.bld l k=some r)(ho:o.op=.buildSlice T n ps)(hdst:o.dst=some d)(hd:dokN E nt o.dst=true)(hT:lkT E.tab T=some i)(hs:i.shape=.slc e esz eb)(he:lkT E.tab e=some ie)(hz:aG esz 0=false)(hn:Nat.ble (n*esz) 16777216=true)
  (hze:Dd ie.zero.cells.toList=true) (hz0:Nat.blt 0 ie.zero.cells.size=true) (hok:Gw σ ps=true) (hag:ie.shape.agg=ag) (hf:Df (fun j=>some (j*esz,esz)) (aX (n*esz) .any) (Cp σ ps)=some fl) (hxs:F5 ag esz n fl=xs) (hc:(ag || (aG esz 1 && fl.all Yr))=true) (hcl:aN xs=true) (hsub:SubR xs (l.map enc))
  (hnn:σ.find d=none) (hk:∀ l',k l'=some r->K (.row d) (d::Gx (Cp σ ps)) [(d,.row e esz (l'.map enc))]):OpX E nt o σ K:=by
 have hlen:=z6v _ _ _ _ hf
 rw [aM] at hlen
 simp only [Bool.or_eq_true,Bool.and_eq_true] at hc
 obtain ⟨c1,c2,c3⟩:=zcl ag esz _ fl hlen (hc.imp id (fun ⟨h1,h2⟩=>⟨nbeq h1,h2⟩))
 subst hxs
 refine .mk _ _ _ (fun cx hE hnt=>Ag.weak (.cons _ (.row _ _ hsub) .nil) (z5t ho hdst (Ak hd hE hnt) (by rw [hE];exact hT) hs (by rw [hE];exact he) (nbne hz) hn (Gt hze) hz0 hok hcl c2 (by simp only [all_eq_true];intro x hx;rw [c3 x hx];simp) (by rw [c1];exact hf) hnn)) (hk l hF)
def bndM (t:Nat)(o:Option α)(k:α->Option β):Option β:=bnd o k
theorem B9 (t:Nat){o:Option α}{k:α->Option β}{r:β}(h:bndM t o k=some r):bnd o k=some r:=h
theorem Cr (t:Nat)(a:α)(k:α->Option β):bndM t (some a) k=k a:=by unfold bndM bnd;rfl
end
section
variable {α β γ:Type} {E:Env} {nt:Nat} {f:FuncId} {avs:List AV}
end
attribute [irreducible] mgv  frb bndM
section
variable {β V:Type}
end
section
variable {β:Type}
theorem RetX.oA {v:AV}{a r:β}{enc:β->AV}(h:some a=some r)(hs:Sub v (enc a):=by (repeat' first|exact Sub.nil _|exact Sub.refl _|refine Sub.agg ?_|refine Sub.tup ?_|refine Sub.fn ?_|exact SubL.nil|refine SubL.cons ?_ ?_|refine Sub.sl _ ?_|exact SubE.nil|refine SubE.cons ?_ ?_)<;>fail)(hs:Sub v (enc a):=by (repeat' first|exact Sub.nil _|exact Sub.refl _|refine Sub.agg ?_|refine Sub.tup ?_|refine Sub.fn ?_|exact SubL.nil|refine SubL.cons ?_ ?_|refine Sub.sl _ ?_|exact SubE.nil|refine SubE.cons ?_ ?_)<;>fail)(hs:Sub v (enc a):=by (repeat' first|exact Sub.nil _|exact Sub.refl _|refine Sub.agg ?_|refine Sub.tup ?_|refine Sub.fn ?_|exact SubL.nil|refine SubL.cons ?_ ?_|refine Sub.sl _ ?_|exact SubE.nil|refine SubE.cons ?_ ?_)<;>fail)(hs:Sub v (enc a):=by (repeat' first|exact Sub.nil _|exact Sub.refl _|refine Sub.agg ?_|refine Sub.tup ?_|refine Sub.fn ?_|exact SubL.nil|refine SubL.cons ?_ ?_|refine Sub.sl _ ?_|exact SubE.nil|refine SubE.cons ?_ ?_)<;>fail):RetX v (enc r):=RetX.o h hs
theorem LeX.a {nt:Nat}{σ τ:AS}(ps:List (Nat×Nat))(h:injB (rho ps) (τ.me.map (·.1))=true:=by rfl)(h1:LeV σ (rho ps) (τ.me.map (·.1)) τ.tm:=by (repeat' first|exact trivial|exact rfl|refine ⟨?_,?_⟩)<;>fail)(h2:LeE σ (rho ps) (τ.me.map (·.1)) τ.me:=by (repeat' first|exact trivial|exact rfl|refine ⟨?_,?_⟩)<;>fail):LeX E nt σ τ:=LeX.of ps h h1 h2
end
def arnV (s:Value)(vs:Array Value):Option (Option Nat×Value):=some (none,.agg (#[s]++vs))
variable {s:Value}{vs:Array Value}
theorem mem_arnV {b:Nat}:b∈blks (arnV s vs) ↔ Az s=some b\/∃ j,Az (vs.getD j undef)=some b:=by
 rw [show blks (arnV s vs)=blks (nstV s vs) from rfl]
 exact zuj
theorem con1 (x:Value)(vs:Array Value)(j:Nat):(#[x]++vs).getD (j+1) undef=vs.getD j undef:=by
 rw [aF,aF,Array.getElem?_append_right (by simp)];simp
variable {γ:Gam}{id:Nat}
theorem zkl {vs':Array Value}(h:γ id=some (arnV s vs'))(hx:∀ j,j<vs.size->j<vs'.size/\vs'.getD j undef=vs.getD j undef):Turn γ id (arnV s vs) :=
 ⟨_,_,rfl,h,rfl,rfl,fun φ hφ=>by
  cases φ with
  |obj j =>
   simp only [Dv.ok,Nat.blt_eq,aU] at hφ ⊢
   have h1:j<vs.size:=by simp at hφ;omega
   obtain ⟨k1,k2⟩:=hx j h1
   exact ⟨by simp;omega,by simp only [Dv.of,con1,k2]⟩
  |oelt j k =>
   simp only [Dv.ok,Nat.blt_eq,aU] at hφ ⊢
   have h1:j<vs.size:=by simp at hφ;omega
   obtain ⟨k1,k2⟩:=hx j h1
   exact ⟨by simp;omega,by simp only [Dv.of,con1,k2]⟩
  |_=>exact ⟨rfl,by simp only [Dv.of,con0]⟩⟩
section
variable {cx:Cx} {o:Oper} {σ:AS}
variable {w:World}{idx:List (Option Nat)}{os:List NE}
theorem O6 {τ:AS}{a:Act}(hst:StG cx γ τ a w)(hl:τ.find id=some (.are ty idx os)) :
  ∃ s vs us,γ id=some (arnV s vs)/\s.oneCell'=true/\vs.size=os.length/\w.ownsRow cx.w0.heap.size ty 1 s idx.length us/\(∀ u∈us,u.oneCell'=true) /\
   (∀ k (hk:k<idx.length),(idx[k]=none->Rep w (Sg cx.S0 cx.w0.heap.size γ) G0 (.mapv []) (us.getD k undef))/\∀ j,idx[k]=some j->j<os.length/\us.getD k undef=vs.getD j undef)/\(∀ j (h:j<os.length),os[j]≠.hole/\NRep w (Sg cx.S0 cx.w0.heap.size γ) cx.w0.heap.size (vs.getD j undef) os[j])/\DisB (Az s) vs:=by
 have hme:=hst.me id
 rw [hl] at hme
 obtain ⟨d,hd',s,vs,us,hde,r⟩:=hme
 subst hde
 exact ⟨s,vs,us,hd',r⟩
variable {v:Value}
theorem Yv {S:Nat->Prop}{φ:Dv}{g:Option Nat}(h:Rep w S γ (.der φ id) v)(hg:γ id=some (some (g,s))):φ.ok s=true/\v=φ.of s:=by
 cases h with
 |der h hv=>rw [hg] at h;injection h with h;exact hv g s h.symm
theorem zn2 {γ':Gam}{τ:AS}{a:Act}{w':World}{dst:Option Nat}{q:Nat}{d0 d1:Option (Option Nat×Value)}{e1 e:Ent}{av:AV}(hst:StG cx γ τ a w)(hd:∀ x,dst=some x->cx.E.np<=x/\x<cx.nt)(hne:id≠q)(hid:γ id=some d0)(hid':γ' id=some d1)(hturn:Turn γ' id d0)(hoth:∀ i,i≠id->i≠q->γ' i=γ i)
  (hq:∀ x,γ q=some x->γ' q=some none) (hown:∀ b,own γ' b ↔ own γ b) (hinj:∀ b d,γ' q=some d->b∈blks d->b ∉ blks d1/\(∀ i d',i≠id->i≠q->γ i=some d'->b ∉ blks d')) (hsub:∀ i d' b,i≠id->i≠q->γ i=some d'->b∈blks d'->b ∉ blks d1)
  (hz':w.heap.size<=w'.heap.size) (hwo:∀ k,k ∉ blks d0->w'.heap[k]? = w.heap[k]?) (hbel:Below cx.w0.heap.size w w') (hdr:w.drawn<=w'.drawn)
  (hn:(∀ b,Sg cx.S0 cx.w0.heap.size γ b->b<w.heap.size->w'.heap[b]? = w.heap[b]? /\ Sg cx.S0 cx.w0.heap.size γ' b)->B6 w' (Sg cx.S0 cx.w0.heap.size γ') γ' cx.w0.heap.size d1 e1)
  (he:(∀ b,Sg cx.S0 cx.w0.heap.size γ b->b<w.heap.size->w'.heap[b]? = w.heap[b]? /\ Sg cx.S0 cx.w0.heap.size γ' b)->∃ x,γ' q=some x/\B6 w' (Sg cx.S0 cx.w0.heap.size γ') γ' cx.w0.heap.size x e)
  (hv:Rep w' (Sg cx.S0 cx.w0.heap.size γ') γ' av v):St cx (τ.upd dst av [(id,e1),(q,e)]) (a.put dst v) w':=by
 have hsown:∀ b,b∈blks d0->own γ b:=fun b hb=>⟨id,_,hid,hb⟩
 have hns:∀ b,Sg cx.S0 cx.w0.heap.size γ b->b ∉ blks d0:=fun b hS e=>by
  have ho:=hsown b e
  rcases hS with ⟨_,h⟩|⟨_,h⟩
  ·have:=(hst.ge b ho).1.1;omega
  ·exact h ho
 have hSS:∀ b,Sg cx.S0 cx.w0.heap.size γ b->Sg cx.S0 cx.w0.heap.size γ' b:=fun b hb=>hb.elim aD (fun ⟨h1,h2⟩=>aJ ⟨h1,fun ho=>h2 ((hown b).1 ho)⟩)
 have hk:∀ b,Sg cx.S0 cx.w0.heap.size γ b->b<w.heap.size->w'.heap[b]? = w.heap[b]? /\ Sg cx.S0 cx.w0.heap.size γ' b:=fun b hS _=>⟨hwo b (hns b hS),hSS b hS⟩
 refine ⟨γ',hst.step hd hz' hk (fun i x hx=>?_) (fun i hi=>?_) (fun i e0 hi=>?_) (fun i i' b d d' hi hi' m m'=>?_) (fun b hb=>?_) (hst.below.trans hbel) hv (fun b hno _=>⟨hwo b (fun e=>hno (hsown b e)),fun ho=>hno ((hown b).1 ho)⟩) (fun _=>hdr)⟩
 ·by_cases h1:i=id
  ·subst h1;rw [hid] at hx;injection hx with hx;subst hx;exact aJ (aJ hturn)
  ·by_cases h2:i=q
   ·subst h2;exact aJ (aD (hq x hx))
   ·exact aD ((hoth i h1 h2).trans hx)
 ·rw [zeh hne] at hi
  by_cases h1:i=id
  ·rw [if_pos h1] at hi;cases hi
  ·rw [if_neg h1] at hi
   by_cases h2:i=q
   ·rw [if_pos h2] at hi;cases hi
   ·exact ⟨hoth i h1 h2,fun b d hi hm=>hwo b (fun e=>h1 (hst.inj _ _ _ _ _ hi hid hm e))⟩
 ·rw [zeh hne] at hi
  by_cases h1:i=id
  ·subst h1
   rw [if_pos rfl] at hi
   injection hi with hi
   subst hi
   exact ⟨_,hid',hn hk⟩
  ·rw [if_neg h1] at hi
   by_cases h2:i=q
   ·subst h2
    rw [if_pos rfl] at hi
    injection hi with hi
    subst hi
    exact he hk
   ·rw [if_neg h2] at hi;cases hi
 ·have sym:∀ i i' d d',γ' i=some d->γ' i'=some d'->b∈blks d->b∈blks d'->i=id->i=i':=fun i i' d d' hi hi' m m' h1=>by
   subst h1
   rw [hid'] at hi
   injection hi with hi
   subst hi
   by_cases h2:i'=i
   ·exact h2.symm
   ·by_cases h3:i'=q
    ·subst h3;exact absurd m (hinj b d' hi' m').1
    ·rw [hoth i' h2 h3] at hi'
     exact absurd m (hsub i' d' b h2 h3 hi' m')
  by_cases h1:i=id
  ·exact sym i i' d d' hi hi' m m' h1
  ·by_cases h2:i'=id
   ·exact (sym i' i d' d hi' hi m' m h2).symm
   ·by_cases h3:i=q
    ·by_cases h4:i'=q
     ·rw [h3,h4]
     ·subst h3
      rw [hoth i' h2 h4] at hi'
      exact absurd m' ((hinj b d hi m).2 i' d' h2 h4 hi')
    ·by_cases h4:i'=q
     ·subst h4
      rw [hoth i h1 h3] at hi
      exact absurd m ((hinj b d' hi' m').2 i d h1 h3 hi)
     ·rw [hoth i h1 h3] at hi
      rw [hoth i' h2 h4] at hi'
      exact hst.inj _ _ _ _ _ hi hi' m m'
 ·have:=hst.ge b ((hown b).1 hb)
  exact ⟨this.1,aL this.2 hz'⟩
theorem LeX.are {nt:Nat}{σ:AS}(r:Nat){m:Nat}(hr:σ.find r=some (.row ty 1 (aX m (.mapv [])))):LeX E nt σ (σ.rpAll r Fa (.cont m r) (.are ty (aX m none) [])):=by
 refine LeX.rpAll r Fa (.cont m r) _ _ hr (fun ty cs h=>by cases h) (fun cx γ a w d hst hd he=>?_)
 obtain ⟨s,us,hde,hs1,hown,hlen,hre,hone⟩:=he
 subst hde
 obtain ⟨ob1,ob2⟩:=Rs hown
 rw [aM] at hown
 have hul:us.length=m:=by have:=hown.1;omega
 have hnil:∀ k,k<m->Rep w (Sg cx.S0 cx.w0.heap.size γ) G0 (.mapv []) (us.getD k undef):=fun k hk=>by
  have:=hre k (by simpa using hk) 0 (by simp [bC])
  simp only [aV,bC,aW,Nat.mul_one,Nat.add_zero] at this
  exact this
 refine ⟨arnV s #[],fun b hb=>?_,fun S' hS hS2=>⟨⟨s,#[],us,rfl,hs1,rfl,by rw [aM];exact hown,hone,fun k hk=>?_,fun j h=>absurd h (by simp),fun i j b hi=>?_,fun i b _ hi=>?_⟩,fun γ' x v hγ' hsrc hx hv=>?_⟩⟩
 ·rcases mem_arnV.1 hb with h|⟨j,h⟩
  ·exact (V4 ob1 ob2).2 h
  ·simp [undef,Az] at h
 ·have hk':k<m:=by simpa using hk
  simp only [aV]
  exact ⟨fun _=>(hnil k hk').mono (aB _) (fun b hb _=>⟨rfl,hS b hb⟩),fun j hj=>by cases hj⟩
 ·simp [undef,Az] at hi
 ·simp [undef,Az] at hi
 ·have hx':x=.row r:=by
   cases x with
   |row i=>simp only [AV.leafId,aC] at hx;rw [hx]
   |_=>simp [Fa] at hsrc
  subst hx'
  have hvs:v=s:=hv.row_inv hd (Nt hs1)
  subst hvs
  refine .cont hγ' (fun g s' e=>?_) ?_
  ·injection e with e
   injection e with _ e
   subst e
   simp only [Dv.of,con0]
  ·rcases hown.2 with ⟨hv0,h0⟩|⟨g,cap,cur,hv0,_⟩
   ·exact ⟨none,0,by rw [hv0,h0],fun h=>by omega⟩
   ·exact ⟨_,cap,hv0,fun _=>⟨g,0,rfl⟩⟩
variable {x:Operand}
theorem zow {T k j:Nat}{i:TyI}(ho:o.op=.load T x)(hd:dok cx o=true)(hxo:A5 x=true)(hx:σ.eval x=.der (.nelt k) id)(hT:lkT cx.E.tab T=some i)(ha:i.shape.agg=false)(hl:σ.find id=some (.are ty idx os))(hk:idx[k]? = some (some j)) :
  Ag cx o σ (.der (.obj j) id) [id] [] :=
 Ay hd fun τ γ a w h1 h2 hst=>by
  have ex:=hst.ev x hxo
  rw [h1 x (by simp [ho,Op.operands]),hx] at ex
  obtain ⟨s,vs,us,hg,hs1,hsz,hown,hone,hix,hnn,hdb⟩:=O6 hst (by rw [h2 id (by simp)];exact hl)
  obtain ⟨hkl,hke⟩:=List.getElem?_eq_some_iff.1 hk
  obtain ⟨q1,q2⟩:=(hix k hkl).2 j hke
  refine ⟨vs.getD j undef,?_,.der hg (fun g s' e=>?_)⟩
  ·have hown0:=hown
   rcases hown.2 with ⟨_,h0⟩|⟨g,cap,cur,hsv,_,hh,_⟩
   ·omega
   ·subst hsv
    have hv:a.eval x=.pointer (some ⟨g,0+k,none⟩):=by rw [ex.der_inv hg];simp only [Dv.of,con0]
    have hc:=Ro hown0 rfl k (by omega)
    have hrun:=Ra (cx.E.ok T i hT) ha w ⟨g,0+k,none⟩ (us.getD k undef) (by rw [aO];exact hc)
    rw [q2] at hrun
    simp only [execOp,ho,hv,Instr.loadAt,Instr.sureAddr,Sem.run_bind,Sem.run_pure,Result.andThen_ok,hrun]
  ·injection e with e
   injection e with _ e
   subst e
   exact ⟨by simp [Dv.ok];omega,by simp only [Dv.of,con1]⟩
variable {ps:List (AV×AV)}
theorem zxe {τ:AS}{a:Act}{j:Nat}(hg:γ id=some (arnV s vs))(hsz:vs.size=os.length)(hnn:∀ j (h:j<os.length),os[j]≠.hole/\NRep w (Sg cx.S0 cx.w0.heap.size γ) cx.w0.heap.size (vs.getD j undef) os[j])(hv:Rep w (Sg cx.S0 cx.w0.heap.size γ) γ (.der (.obj j) id) v)(ho:os[j]? = some (.mp ps)) :
  ∃ g ps0,v=.map (some g)/\vs.getD j undef=.map (some g)/\j<os.length/\D4 w (Sg cx.S0 cx.w0.heap.size γ) g ps0/\Fc ps0 ps:=by
 obtain ⟨hj,hje⟩:=List.getElem?_eq_some_iff.1 ho
 have h:=(hnn j hj).2
 rw [hje] at h
 obtain ⟨g,ps0,h1,h2,h3⟩:=h
 refine ⟨g,ps0,?_,h1,hj,h2,h3⟩
 rw [(Yv hv hg).2]
 simp only [Dv.of,con1,h1]
def PutQ (k x:AV)(ps ps':List (AV×AV)):Prop:=∀ ps0,Fc ps0 ps->∃ r0,Be k (ps0.map (·.1)) 0=some r0/\Fc (putK r0 k x ps0) ps'
theorem zba {T kt et j:Nat}{y z:Operand}{i:TyI}{k xv:AV}{ps':List (AV×AV)}(ho:o.op=.mapUpdate T x y z\/o.op=.insert T x y z)(hd:dok cx o=true)(hxo:A5 x=true)(hyo:A5 y=true)(hzo:A5 z=true)(hx:σ.eval x=.der (.obj j) id)(hy:σ.eval y=k)(hz:σ.eval z=xv)(hl:σ.find id=some (.are ty idx os))(hj:os[j]? = some (.mp ps))
  (hT:lkT cx.E.tab T=some i) (hs:i.shape=.map kt et) (hk:Bc cx.P kt k=true) (hcl:xv.closed=true) (hps:PutQ k xv ps ps'):Ag cx o σ (.tup []) [id] [(id,.are ty idx (os.set j (.mp ps')))]:=by
 refine ⟨fun id e he=>Co he,fun τ h1 h2 a w Q K ⟨γ,hst⟩ hK=>Bu (fun c hc=>by rcases ho with ho|ho<;>(rw [ho] at hc;cases hc)) ?_⟩
 have hmem:x∈o.op.operands/\y∈o.op.operands/\z∈o.op.operands:=by rcases ho with ho|ho<;>simp [ho,Op.operands]
 have ex:=hst.ev x hxo
 rw [h1 x hmem.1,hx] at ex
 have ey:=hst.ev y hyo
 rw [h1 y hmem.2.1,hy] at ey
 have ez:=hst.ev z hzo
 rw [h1 z hmem.2.2,hz] at ez
 obtain ⟨s,vs,us,hgi,hs1,hsz,hown,hone,hix,hnn,hdb⟩:=O6 hst (by rw [h2 id (by simp)];exact hl)
 obtain ⟨g,ps0,hv,hvj,hjl,hm,hp⟩:=zxe (τ:=τ) (a:=a) hgi hsz hnn ex hj
 obtain ⟨r0,f1,f2⟩:=hps ps0 hp
 have hgb:g∈blks (arnV s vs):=mem_arnV.2 (aJ ⟨j,by rw [hvj];rfl⟩)
 have hgo:own γ g:=⟨id,_,hgi,hgb⟩
 have hgl:=hst.ge g hgo
 have hns:∀ b,Sg cx.S0 cx.w0.heap.size γ b->b≠g:=fun b hS e=>by
  subst e
  rcases hS with ⟨_,h⟩|⟨_,h⟩
  ·have:=hgl.1.1;omega
  ·exact h hgo
 obtain ⟨ob,hrun,hm'⟩:=ze0 (Gv (cx.E.ok T i hT) hs) hk (ey.flat (Rm hk)) (ez.close hcl) hm f1 (fun hS=>hns g hS rfl)
 have hex:(execOp a.eval o).run cx.P w=.ok .skip { w with heap:=w.heap.setIfInBounds g ob }:=by
  rcases ho with ho|ho<;>simp only [execOp,ho,hv,Sem.run_bind,hrun,Result.andThen_ok,Sem.run_pure]
 unfold Oper.wp
 rw [hex]
 have hoth:∀ k,k≠g->({ w with heap:=w.heap.setIfInBounds g ob }:World).heap[k]? = w.heap[k]? := fun k hk=>by simp [aE,Ne.symm hk]
 have hz':w.heap.size<=({ w with heap:=w.heap.setIfInBounds g ob }:World).heap.size:=by simp
 have hdr:w.drawn<=({ w with heap:=w.heap.setIfInBounds g ob }:World).drawn:=aB _
 have hbel:Below cx.w0.heap.size w ({ w with heap:=w.heap.setIfInBounds g ob }:World):=⟨rfl,rfl,rfl,hz',fun k hk=>hoth k (by have:=hgl.1.1;omega)⟩
 generalize ({ w with heap:=w.heap.setIfInBounds g ob }:World)=w' at *
 refine hK _ _ ⟨γ,hst.step (Bm hd) hz' (fun b hS hlt=>⟨hoth b (hns b hS),hS⟩) (fun id d h=>aD h) (fun id' hid'=>⟨rfl,fun g' s hg' hmb=>hoth g' ?_⟩) (fun id' e' he'=>?_) hst.inj (fun b hbo=>⟨(hst.ge b hbo).1,aL (hst.ge b hbo).2 hz'⟩) (hst.below.trans hbel) (.tup #[] rfl (fun j hj=>absurd hj (by simp))) (fun b hno hlt=>⟨hoth b (fun e=>hno (e▸hgo)),hno⟩) (fun _=>hdr)⟩
 ·rintro rfl
  have:=hst.inj _ _ _ _ _ hg' hgi hmb hgb
  subst this
  simp [lkE] at hid'
 ·have hid:id'=id:=by have:=Co he';simpa using this
  subst hid
  simp only [lkE,aP,aC] at he'
  subst he'
  refine ⟨_,hgi,s,vs,us,rfl,hs1,by rw [bE];exact hsz,hown.moved (fun b hb=>hoth b (fun e=>hdb.2 j b hb (by rw [hvj,e];rfl))),hone,fun k hk=>⟨fun h=>((hix k hk).1 h).mono hz' (fun b hS hlt=>⟨hoth b (hns b hS),hS⟩),fun j' hj'=>by rw [bE];exact (hix k hk).2 j' hj'⟩,fun j' h'=>?_,hdb⟩
  have h'':j' < os.length:=by simpa using h'
  simp only [getElem_set]
  by_cases hjj:j=j'
  ·subst hjj
   rw [if_pos rfl]
   exact ⟨(by intro h;cases h),g,_,hvj,hm',f2⟩
  ·rw [if_neg hjj]
   exact ⟨(hnn j' h'').1,(hnn j' h'').2.moved hz' (fun b hS hlt=>⟨hoth b (hns b hS),hS⟩) (fun b hb=>hoth b (fun e=>hjj (hdb.1 j j' b (by rw [hvj,e];rfl) hb)))⟩
theorem zla {T q k:Nat}{y:Operand}{i:TyI}(ho:o.op=.store T x y)(hd:dok cx o=true)(hxo:A5 x=true)(hyo:A5 y=true)(hx:σ.eval x=.der (.nelt k) id)(hy:σ.eval y=.row q)(hT:lkT cx.E.tab T=some i)(hi1:i.sz=1)(hl:σ.find id=some (.are ty idx os))(hq:σ.find q=some (.mp ps))(hk:k<idx.length)(hne:id≠q) :
  Ag cx o σ (.tup []) [id,q] [(id,.are ty (idx.set k (some os.length)) (os++[.mp ps])),(q,.dead)]:=by
 refine ⟨fun i e he=>zrw he,fun τ h1 h2 a w Q K ⟨γ,hst⟩ hK=>Bu (fun c hc=>by rw [ho] at hc;cases hc) ?_⟩
 have ex:=hst.ev x hxo
 rw [h1 x (by simp [ho,Op.operands]),hx] at ex
 have ey:=hst.ev y hyo
 rw [h1 y (by simp [ho,Op.operands]),hy] at ey
 obtain ⟨s,vs,us,hg,hs1,hsz,hown,hone,hix,hnn,hdb⟩:=O6 hst (by rw [h2 id (by simp)];exact hl)
 obtain ⟨m,hγq,hev,hm⟩:=Rz (id:=q) hst (by rw [h2 q (by simp)];exact hq) ey
 have hul:us.length=idx.length*1:=hown.1
 obtain ⟨g,cap,cur,hsv,hbase,hh,hncap,hmx,hcs,htk⟩:∃ g cap cur,s=.slice (some ⟨g,0,none⟩) idx.length cap/\cx.w0.heap.size<=g/\w.heap[g]? = some (.cells cur ty (0,0))/\idx.length<=cap/\cap<=maxLen/\cur.size=cap*1/\cur.toList.take (idx.length*1)=us:=by
  rcases hown.2 with ⟨_,h0⟩|h
  ·omega
  ·exact h
 have hbs:Az s=some g:=by rw [hsv];rfl
 have hv:a.eval x=.pointer (some ⟨g,0+k,none⟩):=by rw [ex.der_inv hg,hsv];simp only [Dv.of,con0]
 have hrun:=Ue (cx.E.ok T i hT) w g (0+k) ty cur (.map (some m)) hh (by rw [hi1];rfl) (by omega) (fun u hu=>by
  have:u=.map (some m):=by simpa [Value.cells] using hu
  rw [this];rfl)
 rw [show (Value.map (some m)).cells=#[.map (some m)] from rfl,hi1,aO] at hrun
 generalize hcur':(cur.toList.take k++(#[Value.map (some m)]:Array Value).toList++cur.toList.drop (k+1)).toArray=cur' at hrun
 have hex:(execOp a.eval o).run cx.P w=.ok .skip (w.setRow g cur'):=by
  rw [aO] at hv
  simp only [execOp,ho,hv,hev,Instr.storeAt,Instr.sureAddr,Sem.run_bind,Sem.run_pure,Result.andThen_ok,hrun]
 unfold Oper.wp
 rw [hex]
 have hblk:=setRow_heap w g cur cur' ty (0,0) hh
 have hothw:∀ q,q≠g->(w.setRow g cur').heap[q]? = w.heap[q]? := fun q hq=>setRow_other w g q _ hq
 have hzz:w.heap.size<=(w.setRow g cur').heap.size:=by simp
 have hdr:w.drawn<=(w.setRow g cur').drawn:=aB _
 have hgo:own γ g:=⟨id,_,hg,mem_arnV.2 (aD hbs)⟩
 have hbel:Below cx.w0.heap.size w (w.setRow g cur'):=⟨rfl,rfl,rfl,hzz,fun k hk=>hothw k (by have:=(hst.ge g hgo).1.1;omega)⟩
 generalize w.setRow g cur'=w' at *
 have hgt:∀ i,(vs.push (.map (some m))).getD i undef=if i=vs.size then .map (some m) else vs.getD i undef:=fun i=>by
  simp only [aF,Array.getElem?_push]
  by_cases h:i=vs.size
  ·rw [if_pos h,if_pos h];rfl
  ·rw [if_neg h,if_neg h]
 have hvo:∀ j b,Az (vs.getD j undef)=some b->j<vs.size:=fun j b h=>by
  rcases Nat.lt_or_ge j vs.size with h'|h'
  ·exact h'
  ·simp [Array.getD,Nat.not_lt.2 h',undef,Az] at h
 have bl:∀ i d' b,i≠id->γ i=some d'->b∈blks d'->Az s≠some b/\∀ j,Az (vs.getD j undef)≠some b:=fun i d' b hi hγi hb =>
  ⟨fun e=>hi (hst.inj _ _ _ _ _ hγi hg hb (mem_arnV.2 (aD e))),fun j hj=>hi (hst.inj _ _ _ _ _ hγi hg hb (mem_arnV.2 (aJ ⟨j,hj⟩)))⟩
 obtain ⟨hsm,hsm2⟩:=bl q _ m (Ne.symm hne) hγq Bh
 let γ':Gam:=fun i=>if i=id then some (arnV s (vs.push (.map (some m)))) else if i=q then some none else γ i
 have g1:γ' id=some (arnV s (vs.push (.map (some m)))):=if_pos rfl
 have g2:γ' q=some none:=by show (if q=id then _ else if q=q then _ else _)=_;rw [if_neg (Ne.symm hne),if_pos rfl]
 have g3:∀ i,i≠id->i≠q->γ' i=γ i:=fun i h1 h2=>by show (if i=id then _ else if i=q then _ else _)=_;rw [if_neg h1,if_neg h2]
 have hmb:∀ b,b∈blks (arnV s (vs.push (.map (some m)))) ↔ b∈blks (arnV s vs)\/b=m:=fun b=>by
  rw [mem_arnV,mem_arnV]
  constructor
  ·rintro (h|⟨j,h⟩)
   ·exact aD (aD h)
   ·rw [hgt] at h
    by_cases hj:j=vs.size
    ·rw [if_pos hj] at h;injection h with h;exact aJ h.symm
    ·rw [if_neg hj] at h;exact aD (aJ ⟨j,h⟩)
  ·rintro ((h|⟨j,h⟩)|h)
   ·exact aD h
   ·exact aJ ⟨j,by rw [hgt,if_neg (by have:=hvo j b h;omega)];exact h⟩
   ·exact aJ ⟨vs.size,by rw [hgt,if_pos rfl,h];rfl⟩
 refine hK _ _ (zn2 (γ':=γ') (q:=q) (w':=w') hst (Bm hd) hne hg g1 (zkl g1 (fun j hj=>⟨by simp;omega,by rw [hgt,if_neg (by omega)]⟩)) g3 (fun x hx=>g2) (fun b=>⟨fun ⟨i,x,hi,hb⟩=>?_,fun ⟨i,x,hi,hb⟩=>?_⟩) (fun b x hx hb=>?_) (fun i d' b h1 h2 hi hb hc=>?_) hzz (fun b hb=>hothw b (fun e=>hb (by rw [e];exact mem_arnV.2 (aD hbs)))) hbel hdr (fun hk'=>?_) (fun hk'=>⟨_,g2,rfl⟩) (.tup #[] rfl (fun j hj=>absurd hj (by simp))))
 ·by_cases h1:i=id
  ·subst h1
   rw [g1] at hi;injection hi with hi;subst hi
   rcases (hmb b).1 hb with hb|hb
   ·exact ⟨_,_,hg,hb⟩
   ·subst hb;exact ⟨_,_,hγq,Bh⟩
  ·by_cases h2:i=q
   ·subst h2;rw [g2] at hi;injection hi with hi;subst hi;cases hb
   ·rw [g3 i h1 h2] at hi;exact ⟨i,x,hi,hb⟩
 ·by_cases h1:i=id
  ·subst h1
   rw [hg] at hi;injection hi with hi;subst hi
   exact ⟨_,_,g1,(hmb b).2 (aD hb)⟩
  ·by_cases h2:i=q
   ·subst h2
    rw [hγq] at hi;injection hi with hi;subst hi
    exact ⟨_,_,g1,(hmb b).2 (aJ (O5 rfl hb))⟩
   ·exact ⟨i,x,(g3 i h1 h2).trans hi,hb⟩
 ·rw [g2] at hx;injection hx with hx;subst hx;cases hb
 ·obtain ⟨q1,q2⟩:=bl i d' b h1 hi hb
  rcases (hmb b).1 hc with h|h
  ·rcases mem_arnV.1 h with h|⟨j,h⟩
   ·exact q1 h
   ·exact q2 j h
  ·subst h
   exact h2 (hst.inj _ _ _ _ _ hi hγq hb Bh)
 ·have hus':cur'.toList.take (idx.length*1)=us.set k (.map (some m)):=by
   rw [<-hcur',<-htk,set_eq_take_append_cons_drop,if_pos (by simp;omega)]
   have:=Y3 cur.toList [Value.map (some m)] k (idx.length*1) (by simp;omega) (by simp;omega)
   simpa using this
  refine ⟨s,vs.push (.map (some m)),us.set k (.map (some m)),rfl,hs1,by simp [hsz],⟨by simp [hul],aJ ⟨g,cap,cur',by rw [bE];exact hsv,hbase,hblk,by simpa using hncap,hmx,?_,by simpa using hus'⟩⟩,fun u hu=>?_,fun j hj=>?_,fun j hj=>?_,fun i j b hi hj=>?_,fun i b hb hi=>?_⟩
  ·rw [<-hcur']
   have:=Uq cur.toList [Value.map (some m)] k (by simp;omega)
   simpa [hcs] using this
  ·rcases mem_or_eq_of_mem_set hu with hu|hu
   ·exact hone u hu
   ·rw [hu];rfl
  ·have hj':j<idx.length:=by simpa using hj
   simp only [getElem_set,length_append,length_cons,length_nil]
   by_cases hjk:k=j
   ·subst hjk
    rw [if_pos rfl]
    refine ⟨fun h=>(by cases h),fun j' hj''=>?_⟩
    injection hj'' with hj''
    subst hj''
    refine ⟨by omega,?_⟩
    rw [aK,getElem?_set_self (by omega),hgt,if_pos hsz.symm]
    rfl
   ·rw [if_neg hjk]
    have e:(us.set k (Value.map (some m))).getD j undef=us.getD j undef:=by rw [aK,getElem?_set_ne hjk,<-aK]
    rw [e]
    refine ⟨fun h=>((hix j hj').1 h).mono hzz hk',fun j' hj''=>?_⟩
    obtain ⟨q1,q2⟩:=(hix j hj').2 j' hj''
    exact ⟨by omega,by rw [q2,hgt,if_neg (by omega)]⟩
  ·simp only [length_append,length_cons,length_nil] at hj
   rw [hgt]
   by_cases hjk:j=vs.size
   ·rw [if_pos hjk]
    have e:(os++[NE.mp ps])[j]'(by simp;omega)=NE.mp ps:=by rw [getElem_append_right (by omega)];simp
    rw [e]
    exact ⟨(by intro h;cases h),m,ps,rfl,hm.move hzz hk' (hothw m (fun e=>hsm (by rw [hbs,e]))),aD rfl⟩
   ·have hj':j<os.length:=by omega
    rw [if_neg hjk,getElem_append_left hj']
    exact ⟨(hnn j hj').1,(hnn j hj').2.moved hzz hk' (fun b hb=>hothw b (fun e=>hdb.2 j b (by rw [hbs,e]) hb))⟩
  ·rw [hgt] at hi hj
   by_cases h1:i=vs.size
   ·by_cases h2:j=vs.size
    ·rw [h1,h2]
    ·rw [if_pos h1] at hi;rw [if_neg h2] at hj;injection hi with hi;subst hi;exact absurd hj (hsm2 j)
   ·by_cases h2:j=vs.size
    ·rw [if_neg h1] at hi;rw [if_pos h2] at hj;injection hj with hj;subst hj;exact absurd hi (hsm2 i)
    ·rw [if_neg h1] at hi;rw [if_neg h2] at hj;exact hdb.1 i j b hi hj
  ·rw [hgt] at hi
   by_cases h1:i=vs.size
   ·rw [if_pos h1] at hi;injection hi with hi;subst hi;exact hsm hb
   ·rw [if_neg h1] at hi;exact hdb.2 i b hb hi
end
section
variable {P:Program} {w:World} {S:Nat->Prop}
theorem zfm (es:Array MapEntry)(seen:Array Nat):(leftOf es seen).toList=C5 es seen:=by simp [leftOf,C5]
theorem run_next_at (w:World)(ty:TypeId)(g bm since c0:Nat)(seen:Array Nat)(es:Array MapEntry)(clock:Nat)(hg:w.heap[g]? = some (.mapIter (some bm) since seen c0))(hb:w.heap[bm]? = some (.map es clock))(hold:∀ x∈es.toList,x.born<since)(hsc:since<=c0) :
  (C5 es seen=[]/\(Instr.next (.pointer (some ⟨g,0,none⟩)) false ty).run P w=.ok (.tuple #[.bool false]) w) \/
  ∃ e∈C5 es seen,∃ n,(Instr.next (.pointer (some ⟨g,0,none⟩)) false ty).run P w=.ok (.tuple #[.bool true,e.key,e.val]) { w with drawn:=w.drawn+n,heap:=w.heap.setIfInBounds g (.mapIter (some bm) since (seen.push e.born) clock) }:=by
 simp only [Instr.next,getObj,Sem.run_bind,Sem.run,hg,hb,Result.andThen,next_test_false seen es since c0 hold hsc,aH,if_false]
 rw [<-zfm]
 unfold leftOf
 have hmem:∀ x∈(bF (fun e=>!seen.contains e.born) es).toList,x.born<since:=fun x hx=>hold x (by simp at hx ⊢;exact hx.1)
 generalize bF (fun e=>!seen.contains e.born) es=L at hmem ⊢
 have e1:L.filter (fun x=>decide (x.born<since))=L:=Array.filter_eq_self.2 (fun x hx=>by simpa using hmem x (by simpa using hx))
 have e2:L.filter (fun x=>decide (x.born ≥ since))=#[]:=by
  rw [Array.filter_eq_empty_iff]
  intro x hx
  have:=hmem x (by simpa using hx)
  simp
  omega
 simp only [e1,e2,Array.append_empty]
 by_cases h0:L.size=0
 ·left
  have:L=#[]:=Array.eq_empty_of_size_eq_zero h0
  subst this
  refine ⟨rfl,?_⟩
  simp [choose,Sem.run,Question.forced]
 ·right
  have hne:L.isEmpty=false:=by simp [Array.isEmpty,h0]
  simp only [hne,aH,if_false,Array.empty_append,Array.size_map]
  have hch:∃ (j n:Nat),j<L.size/\(choose (Question.mapNext L.size)).run P w=.ok j { w with drawn:=w.drawn+n }:=by
   by_cases hf:L.size<=1
   ·exact ⟨0,0,by omega,by simp [choose,Sem.run,Question.forced,hf]⟩
   ·exact ⟨_,1,Nat.mod_lt _ (by omega),by
     simp only [choose,Sem.run,Question.forced,decide_eq_true_eq,hf,if_false,Question.cut]
     rfl⟩
  obtain ⟨j,n,hj,hrun⟩:=hch
  refine ⟨L[j],by simp,n,?_⟩
  have hset:∀ o':Obj,(setObj g o').run P { w with drawn:=w.drawn+n }=.ok () { w with drawn:=w.drawn+n,heap:=w.heap.setIfInBounds g o' }:=fun o'=>by
   simp only [setObj,Sem.run,hg]
  simp only [hrun,Array.getElem?_map,Array.getElem?_eq_getElem hj,aZ,Sem.run_bind,hset,Result.andThen]
  rfl
theorem zhs (w:World)(ty:TypeId)(g a b:Nat)(s:Array Nat)(hg:w.heap[g]? = some (.mapIter none a s b)):(Instr.next (.pointer (some ⟨g,0,none⟩)) false ty).run P w=.ok (.tuple #[.bool false]) w:=by
 simp only [Instr.next,getObj,Sem.run_bind,Sem.run,hg,Result.andThen]
 rfl
theorem zht (w:World)(g bm since:Nat)(seen:Array Nat)(es:Array MapEntry)(clock:Nat)(e:MapEntry)(hg:w.heap[g]? = some (.mapIter (some bm) since (seen.push e.born) clock))(hb:w.heap[bm]? = some (.map es clock))(he:e∈es.toList)(hn:(es.toList.map (·.born)).Nodup) :
  (Instr.entry (.pointer (some ⟨g,0,none⟩))).run P w=.ok (.tuple #[e.key,e.val]) w:=by
 have hf:es.find? (·.born == e.born)=some e:=by rw [<-Array.find?_toList];exact find_born e es.toList hn he
 simp only [Instr.entry,getObj,Sem.run_bind,Sem.run,hg,hb,Result.andThen,Array.back?_push,bne_self_eq_false,aH,if_false,hf]
 rfl
variable {ps:List (AV×AV)}
theorem RepL.len0 {L:List MapEntry}(h:RepM w S L ps):L=[] ↔ ps=[]:=by
 obtain ⟨ps0,h1,h2,_⟩:=h
 have:=h1.length_eq
 rw [<-aT,<-aT]
 omega
variable {es:Array MapEntry}{seen:Array Nat}
theorem zp9 (hn:(es.toList.map (·.born)).Nodup){i:Nat}(hi:i<(C5 es seen).length):C5 es (seen.push (C5 es seen)[i].born)=(C5 es seen).eraseIdx i:=by
 have e1:C5 es (seen.push (C5 es seen)[i].born)=(C5 es seen).filter fun e=>!(e.born == (C5 es seen)[i].born):=by
  generalize (C5 es seen)[i].born=b
  unfold C5
  rw [filter_filter]
  congr 1
  funext e
  rw [contains_push]
  cases seen.contains e.born<;>simp
 rw [e1]
 have hn':((C5 es seen).map (·.born)).Nodup:=by
  unfold C5
  exact (filter_sublist.map _).nodup hn
 generalize C5 es seen=L at *
 clear e1
 induction L generalizing i with
 |nil=>simp at hi
 |cons x r ih =>
  simp only [map_cons,nodup_cons] at hn'
  cases i with
  |zero =>
   simp only [aW,eraseIdx_cons_zero,filter_cons,beq_self_eq_true,Bool.not_true,aH,if_false]
   rw [filter_eq_self]
   intro e he
   have:e.born≠x.born:=fun h=>hn'.1 (h▸mem_map.2 ⟨e,he,rfl⟩)
   simpa using this
  |succ i =>
   have hi':i<r.length:=by simpa using hi
   simp only [getElem_cons_succ,eraseIdx_cons_succ,filter_cons]
   have:x.born≠r[i].born:=fun h=>hn'.1 (h▸mem_map.2 ⟨r[i],getElem_mem _,rfl⟩)
   have hb:(x.born == r[i].born)=false:=by simpa using this
   rw [hb]
   simp only [Bool.not_false,if_true]
   rw [ih hi' hn'.2]
theorem Nr {α:Type}:∀ {l:List α} {i:Nat} (h:i<l.length),(l[i]::l.eraseIdx i).Perm l
 |x::r,0,_=>.refl _
 |x::r,i+1,h=>(Perm.swap x _ _).trans ((Nr (l:=r) (i:=i) (by simpa using h)).cons x)
theorem ItP.split {c0 clock:Nat}(hn:(es.toList.map (·.born)).Nodup)(h:ItP w S ps es seen c0 clock):∃ j,∃ h:j<ps.length,ItC w S ps[j] (ps.eraseIdx j) es seen c0 clock:=by
 obtain ⟨hc,seen0,e,hs,he,ps0,hp,hl,hr⟩:=h
 obtain ⟨i,hi,rfl⟩:=mem_iff_getElem.1 he
 have hi0:i<ps0.length:=by omega
 have hm:ps0[i]∈ps:=hp.mem_iff.1 (getElem_mem _)
 obtain ⟨j,hj,hje⟩:=mem_iff_getElem.1 hm
 refine ⟨j,hj,hc,seen0,_,hs,(mem_filter.1 he).1,by rw [hje];exact hr i hi hi0,ps0.eraseIdx i,?_,?_⟩
 ·have p1:ps0.Perm (ps0[i]::ps0.eraseIdx i):=(Nr hi0).symm
  have p2:ps.Perm (ps[j]::ps.eraseIdx j):=(Nr hj).symm
  rw [hje] at p2
  exact Perm.cons_inv ((p1.symm.trans hp).trans p2)
 ·rw [hs,zp9 hn hi]
  refine ⟨by rw [aQ hi,aQ hi0,hl],fun k h h'=>?_⟩
  rw [aY,aY]
  split
  ·exact hr _ _ _
  ·exact hr _ _ _
end
section
variable {cx:Cx} {o:Oper} {σ:AS}
variable {x:Operand}{ps:List (AV×AV)}
theorem zwo {T kt et d:Nat}{i:TyI}(ho:o.op=.range T x)(hdst:o.dst=some d)(hd:dok cx o=true)(hxo:A5 x=true)(hx:σ.eval x=.mapv ps)(hT:lkT cx.E.tab T=some i)(hs:i.shape=.map kt et)(hn:σ.find d=none):Ag cx o σ (.ptr d 0) [d] [(d,.it ps)]:=by
 refine ⟨fun id e he=>Co he,fun τ h1 h2 a w Q K ⟨γ,hst⟩ hK=>Bu (fun c hc=>by rw [ho] at hc;cases hc) ?_⟩
 have ex:=hst.ev x hxo
 rw [h1 x (by simp [ho,Op.operands]),hx] at ex
 have hu:=Gv (cx.E.ok T i hT) hs
 have key:∀ ob:Obj,(Instr.range T (a.eval x)).run cx.P w=.ok (.pointer (some ⟨w.heap.size,0,none⟩)) (w.alloc ob)->ItIs (w.alloc ob) (Sg cx.S0 cx.w0.heap.size (γ.set d (some (some w.heap.size,.slice none 0 0)))) w.heap.size (ItL (w.alloc ob) (Sg cx.S0 cx.w0.heap.size (γ.set d (some (some w.heap.size,.slice none 0 0)))) ps)->o.wp cx.P a w K Q:=fun ob hrun hit=>by
  have hex:(execOp a.eval o).run cx.P w=.ok (.value (.pointer (some ⟨w.heap.size,0,none⟩))) (w.alloc ob):=by
   simp only [execOp,ho,Sem.run_bind,hrun,Result.andThen_ok,Sem.run_pure]
  unfold Oper.wp
  rw [hex]
  refine hK _ _ ⟨_,hst.name (id:=d) (g:=w.heap.size) (s:=.slice none 0 0) (e:=.it ps) (Bm hd) (by rw [h2 d (by simp)];exact hn) ((Below.refl _ _).alloc (aB _) _) (aB _) (by simp) ?_ ?_⟩
  ·exact ⟨w.heap.size,rfl,hit⟩
  ·exact .ptr (Gam.set_self _ _ _) (fun g s e=>by injection e with e;injection e with e _;injection e with e;rw [e])
 have hSS:∀ b,Sg cx.S0 cx.w0.heap.size γ b->b<w.heap.size->Sg cx.S0 cx.w0.heap.size (γ.set d (some (some w.heap.size,.slice none 0 0))) b:=fun b hb hlt=>hb.elim aD (fun ⟨q1,q2⟩=>aJ ⟨q1,fun ⟨i,s,hi,hm⟩=>by
  by_cases hid:i=d
  ·subst hid;rw [Gam.set_self] at hi;injection hi with hi;subst hi;have:=O5 rfl hm;omega
  ·rw [Gam.set_ne _ _ _ hid] at hi;exact q2 ⟨i,s,hi,hm⟩⟩)
 rcases mapv_val ex with ⟨g,ps0,hv,hSg,hgl,⟨es,clock,hb,hl,hbn,hr⟩,hp⟩|⟨hv,he0⟩
 ·refine key (.mapIter (some g) clock #[] clock) (by rw [hv];exact run_range_map w T kt et g es clock hu hb) (aD ⟨g,clock,#[],clock,es,clock,heap_alloc_new _ _,hSS g hSg hgl,by simp;omega,by rw [heap_alloc_old _ _ hgl];exact hb,hbn.1,hbn.2,aB _,aB _,ps0,?_,?_⟩)
  ·rcases hp with rfl|⟨hp,_⟩
   ·exact .refl _
   ·exact hp
  ·have hle:C5 es #[]=es.toList:=by simp [C5]
   have hm:∀ {av v},Rep w (Sg cx.S0 cx.w0.heap.size γ) G0 av v->Rep (w.alloc (.mapIter (some g) clock #[] clock)) (Sg cx.S0 cx.w0.heap.size (γ.set d (some (some w.heap.size,.slice none 0 0)))) G0 av v:=fun h=>h.mono (by simp) (fun b hS hlt=>⟨heap_alloc_old _ _ hlt,hSS b hS hlt⟩)
   exact ⟨by rw [hle];simpa using hl,fun j h h'=>⟨by simp only [hle];exact hm (hr j (by rw [<-hle];exact h) h').1,by simp only [hle];exact hm (hr j (by rw [<-hle];exact h) h').2⟩⟩
 ·subst he0
  refine key (.mapIter none 0 #[] 0) (by rw [hv];exact run_range_nilMap w T kt et hu) (aJ ⟨0,0,#[],heap_alloc_new _ _,[],.refl _,by simp [RepL,C5]⟩)
theorem zsb {τ:AS}{a:Act}{w:World}{e:Ent}{v:Value}(hst:StG cx γ τ a w)(hl:τ.find id=some e)(hv:Rep w (Sg cx.S0 cx.w0.heap.size γ) γ (.ptr id 0) v)(he:∀ d,B6 w (Sg cx.S0 cx.w0.heap.size γ) γ cx.w0.heap.size d e->∃ g,d=some (some g,.slice none 0 0)) :
  ∃ g,γ id=some (some (some g,.slice none 0 0))/\v=.pointer (some ⟨g,0,none⟩)/\B6 w (Sg cx.S0 cx.w0.heap.size γ) γ cx.w0.heap.size (some (some g,.slice none 0 0)) e:=by
 have hme:=hst.me id
 rw [hl] at hme
 obtain ⟨d,hd',hr⟩:=hme
 obtain ⟨g,rfl⟩:=he d hr
 exact ⟨g,hd',hv.ptr_inv hd',hr⟩
theorem zxt {τ:AS}{a:Act}{w w':World}{g:Nat}{e:Ent}{av:AV}{v:Value}{dst:Option Nat}(hst:StG cx γ τ a w)(hd:∀ x,dst=some x->cx.E.np<=x/\x<cx.nt)(hg:γ id=some (some (some g,.slice none 0 0)))(hz:w.heap.size<=w'.heap.size)(ho:∀ k,k≠g->w'.heap[k]? = w.heap[k]?)(hb:Below cx.w0.heap.size w w')(hdr:w.drawn<=w'.drawn)
  (he:(∀ b,Sg cx.S0 cx.w0.heap.size γ b->b<w.heap.size->w'.heap[b]? = w.heap[b]? /\ Sg cx.S0 cx.w0.heap.size γ b)->B6 w' (Sg cx.S0 cx.w0.heap.size γ) γ cx.w0.heap.size (some (some g,.slice none 0 0)) e) (hv:Rep w' (Sg cx.S0 cx.w0.heap.size γ) γ av v):St cx (τ.upd dst av [(id,e)]) (a.put dst v) w':=by
 have hgo:own γ g:=own.mk hg
 have hgl:=hst.ge g hgo
 have hns:∀ b,Sg cx.S0 cx.w0.heap.size γ b->b≠g:=fun b hS e=>by
  subst e
  rcases hS with ⟨_,h⟩|⟨_,h⟩
  ·have:=hgl.1.1;omega
  ·exact h hgo
 have hk:∀ b,Sg cx.S0 cx.w0.heap.size γ b->b<w.heap.size->w'.heap[b]? = w.heap[b]? /\ Sg cx.S0 cx.w0.heap.size γ b:=fun b hS _=>⟨ho b (hns b hS),hS⟩
 refine ⟨γ,hst.step hd hz hk (fun id d h=>aD h) (fun id' hid'=>⟨rfl,fun g' s hg' hmb=>ho g' ?_⟩) (fun id' e' he'=>?_) hst.inj (fun b hbo=>⟨(hst.ge b hbo).1,aL (hst.ge b hbo).2 hz⟩) (hst.below.trans hb) hv (fun b hno hlt=>⟨ho b (fun e=>hno (e▸hgo)),hno⟩) (fun _=>hdr)⟩
 ·rintro rfl
  have:=hst.inj _ _ _ _ _ hg' hg hmb Bh
  subst this
  simp [lkE] at hid'
 ·have hid:id'=id:=by have:=Co he';simpa using this
  subst hid
  simp only [lkE,aP,aC] at he'
  subst he'
  exact ⟨_,hg,he hk⟩
theorem zot (ho:o.op=.next x false)(hd:dok cx o=true)(hxo:A5 x=true)(hx:σ.eval x=.ptr id 0)(hl:σ.find id=some (.it [])):Ag cx o σ (.tup [.bool false]) [id] [] :=
 Ay hd fun τ γ a w h1 h2 hst=>by
  have ex:=hst.ev x hxo
  rw [h1 x (by simp [ho,Op.operands]),hx] at ex
  obtain ⟨g,hg,hv,g',hgg,hi⟩:=zsb hst (by rw [h2 id (by simp)];exact hl) ex (fun d h=>by obtain ⟨g,h,_⟩:=h;exact ⟨g,h⟩)
  injection hgg with hgg
  injection hgg with hgg _
  injection hgg with hgg
  subst hgg
  refine ⟨.tuple #[.bool false],?_,.tup #[.bool false] rfl (fun j hj=>by have hj:j<1:=hj;have h0:j=0:=(by omega);subst h0;exact .bool _)⟩
  have hrun:(Instr.next (a.eval x) false o.type).run cx.P w=.ok (.tuple #[.bool false]) w:=by
   rw [hv]
   rcases hi with ⟨bm,since,seen,c0,es,clock,q1,q2,q3,q4,q5,q6,q7,q8,q9⟩|⟨b,c,s,q1,q2⟩
   ·rcases run_next_at (P:=cx.P) w o.type g bm since c0 seen es clock q1 q4 q6 q7 with ⟨_,hr⟩|⟨e,he,_⟩
    ·exact hr
    ·have:=(RepL.len0 q9).2 rfl
     rw [this] at he
     cases he
   ·exact zhs w o.type g b c s q1
  simp only [execOp,ho,Sem.run_bind,hrun,Result.andThen_ok,Sem.run_pure]
theorem zz1 (ho:o.op=.next x false)(hd:dok cx o=true)(hxo:A5 x=true)(hx:σ.eval x=.ptr id 0)(hl:σ.find id=some (.it ps))(hne:ps≠[]):Ag cx o σ (.tup [.bool true,.any,.any]) [id] [(id,.itp ps)]:=by
 refine ⟨fun id e he=>Co he,fun τ h1 h2 a w Q K ⟨γ,hst⟩ hK=>Bu (fun c hc=>by rw [ho] at hc;cases hc) ?_⟩
 have ex:=hst.ev x hxo
 rw [h1 x (by simp [ho,Op.operands]),hx] at ex
 obtain ⟨g,hg,hv,g',hgg,hi⟩:=zsb hst (by rw [h2 id (by simp)];exact hl) ex (fun d h=>by obtain ⟨g,h,_⟩:=h;exact ⟨g,h⟩)
 injection hgg with hgg
 injection hgg with hgg _
 injection hgg with hgg
 subst hgg
 rcases hi with ⟨bm,since,seen,c0,es,clock,q1,q2,q3,q4,q5,q6,q7,q8,q9⟩|⟨b,c,s,q1,q2⟩
 ·rcases run_next_at (P:=cx.P) w o.type g bm since c0 seen es clock q1 q4 q6 q7 with ⟨h0,_⟩|⟨e,he,n,hr⟩
  ·exact absurd ((RepL.len0 q9).1 h0) hne
  ·have hex:(execOp a.eval o).run cx.P w=.ok (.value (.tuple #[.bool true,e.key,e.val])) { w with drawn:=w.drawn+n,heap:=w.heap.setIfInBounds g (.mapIter (some bm) since (seen.push e.born) clock) }:=by
    simp only [execOp,ho,hv,Sem.run_bind,hr,Result.andThen_ok,Sem.run_pure]
   unfold Oper.wp
   rw [hex]
   have hgl:=hst.ge g (own.mk hg)
   have hoth:∀ k,k≠g->(w.heap.setIfInBounds g (.mapIter (some bm) since (seen.push e.born) clock))[k]? = w.heap[k]? := fun k hk=>by simp [aE,Ne.symm hk]
   refine hK _ _ (zxt hst (Bm hd) hg (by simp) hoth ⟨rfl,rfl,rfl,by simp,fun k hk=>hoth k (by have:=hgl.1.1;omega)⟩ (Nat.le_add_right _ _) (fun hk'=>?_) (.tup #[.bool true,e.key,e.val] rfl (fun j hj=>?_)))
   ·refine ⟨g,rfl,aD ⟨bm,since,seen.push e.born,clock,es,clock,by simp [aE,hgl.2],q2,by simpa using q3,?_,q5,q6,q8,q8,rfl,seen,e,rfl,he,?_⟩⟩
    ·exact (hk' bm q2 q3).1.trans q4
    ·exact RepM.move q9 (by simp) (fun b hS hlt=>hk' b hS hlt)
   ·have hj:j<3:=hj
    rcases j with _|_|_|j
    ·exact .bool _
    ·exact .any _
    ·exact .any _
    ·omega
 ·exact absurd ((RepL.len0 q2).1 rfl) hne
theorem zwp {p:AV×AV}(ho:o.op=.entry x)(hd:dok cx o=true)(hxo:A5 x=true)(hx:σ.eval x=.ptr id 0)(hl:σ.find id=some (.itc p ps)):Ag cx o σ (.tup [p.1,p.2]) [id] [] :=
 Ay hd fun τ γ a w h1 h2 hst=>by
  have ex:=hst.ev x hxo
  rw [h1 x (by simp [ho,Op.operands]),hx] at ex
  obtain ⟨g,hg,hv,g',hgg,hi⟩:=zsb hst (by rw [h2 id (by simp)];exact hl) ex (fun d h=>by obtain ⟨g,h,_⟩:=h;exact ⟨g,h⟩)
  injection hgg with hgg
  injection hgg with hgg _
  injection hgg with hgg
  subst hgg
  rcases hi with ⟨bm,since,seen,c0,es,clock,q1,q2,q3,q4,q5,q6,q7,q8,hc,seen0,e,hs,he,hep,_⟩|⟨b,c,s,q1,hc,seen0,e,hs,_⟩
  ·subst hc
   subst hs
   refine ⟨.tuple #[e.key,e.val],by simp only [execOp,ho,hv,Sem.run_bind,zht w g bm since seen0 es c0 e q1 q4 he q5,Result.andThen_ok,Sem.run_pure],.tup #[e.key,e.val] rfl (fun j hj=>?_)⟩
   have hj:j<2:=hj
   rcases j with _|_|j
   ·exact hep.1.open_
   ·exact hep.2.open_
   ·omega
  ·simp at hs
end
section
variable {E:Env} {nt:Nat} {σ:AS} {R:Exit->AS->Prop} {K:List Ba}
variable {ps:List (AV×AV)}
theorem AW.itp {c:Code}(r:Nat)(hr:σ.find r=some (.itp ps))(k:∀ j (h:j<ps.length),AW E nt R (.code c::K) .normal (σ.upd none .any [(r,.itc ps[j] (ps.eraseIdx j))])):AW E nt R (.code c::K) .normal σ:=⟨fun cx hE hn a w hst=>by
 obtain ⟨γ,h⟩:=hst
 have hme:=h.me r
 rw [hr] at hme
 obtain ⟨d,hd,g,hde,hi⟩:=hme
 subst hde
 have hsplit:∃ j,∃ h:j<ps.length,ItIs w (Sg cx.S0 cx.w0.heap.size γ) g (ItC w (Sg cx.S0 cx.w0.heap.size γ) ps[j] (ps.eraseIdx j)):=by
  rcases hi with ⟨bm,since,seen,c0,es,clock,q1,q2,q3,q4,q5,q6,q7,q8,q9⟩|⟨b,c,s,q1,hc,seen0,e,hs,_⟩
  ·obtain ⟨j,hj,hc⟩:=q9.split q5
   exact ⟨j,hj,aD ⟨bm,since,seen,c0,es,clock,q1,q2,q3,q4,q5,q6,q7,q8,hc⟩⟩
  ·simp at hs
 obtain ⟨j,hj,hi'⟩:=hsplit
 refine (k j hj).out cx hE hn a w ⟨γ,h.step (dst:=none) (v:=undef) (fun x hx=>by cases hx) (aB _) (fun b hb _=>⟨rfl,hb⟩) (fun id d hd=>aD hd) (fun id _=>⟨rfl,fun _ _ _ _=>rfl⟩) (fun id e he=>?_) h.inj h.ge h.below (.any _) (fun b hb _=>⟨rfl,hb⟩) (fun _=>aB _)⟩
 have hid:id=r:=by have:=Co he;simpa using this
 subst hid
 simp only [lkE,aP,aC] at he
 subst he
 exact ⟨_,hd,g,rfl,hi'⟩⟩
theorem LeX.itc {p:AV×AV}(r:Nat)(hr:σ.find r=some (.itc p ps)):LeX E nt σ (σ.upd none .any [(r,.it ps)]):=fun cx hE hn a w ⟨γ,h⟩=>by
 have hme:=h.me r
 rw [hr] at hme
 obtain ⟨d,hd,g,hde,hi⟩:=hme
 subst hde
 refine ⟨γ,h.step (dst:=none) (v:=undef) (fun x hx=>by cases hx) (aB _) (fun b hb _=>⟨rfl,hb⟩) (fun id d hd=>aD hd) (fun id _=>⟨rfl,fun _ _ _ _=>rfl⟩) (fun id e he=>?_) h.inj h.ge h.below (.any _) (fun b hb _=>⟨rfl,hb⟩) (fun _=>aB _)⟩
 have hid:id=r:=by have:=Co he;simpa using this
 subst hid
 simp only [lkE,aP,aC] at he
 subst he
 refine ⟨_,hd,g,rfl,?_⟩
 rcases hi with ⟨bm,since,seen,c0,es,clock,q1,q2,q3,q4,q5,q6,q7,q8,hc,seen0,e,hs,he,hep,hl⟩|⟨b,c,s,q1,hc,seen0,e,hs,_⟩
 ·exact aD ⟨bm,since,seen,c0,es,clock,q1,q2,q3,q4,q5,q6,q7,q8,hl⟩
 ·simp at hs
end
def aI (n:Int):AV:=.int .i64 n
theorem Cd (n:Int)(h:-9223372036854775808<=n/\n<=9223372036854775807):IntKind.i64.wrap n=n:=IntWalk.i64_in _ h
theorem y15 (h:vs.size=1):vs=#[vs.getD 0 undef]:=by
 obtain ⟨l⟩:=vs
 match l,h with
 |[a],_=>rfl
section
variable {fr:Bool} {f:FuncId} {a b c res:AV}
theorem y19 {w w':World}(h:Below w.heap.size w w'):BelE E0 w w':=⟨h,fun h=>Bool.noConfusion (show false=true from h)⟩
end
end Go.Proofs.YthbogefcfhmpgaaGreat
