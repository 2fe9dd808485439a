/- What the walk knows of the program's types. -/
import Derived.Test.YthbogefcfhmpgaaGreatProg
import Derived.KernelRfl
import Derived.Test.YthbogefcfhmpgaaGreatK09
import Derived.Laws.IdiomRangeMap
set_option linter.unusedVariables false
set_option linter.unusedSimpArgs false
namespace Go.Proofs.YthbogefcfhmpgaaGreat
open List
abbrev fd (n:Nat):Nat×Nat×Option Bool:=(n,1,some false)
def tab:List (Nat×TyI):=[(3,⟨1,8,.int .i64 0,.int .i64⟩),(4,⟨1,1,.bool false,.bool⟩),(5,⟨1,1,.int .u8 0,.int .u8⟩),(9,⟨1,16,.string ByteArray.empty,.str⟩),(22,⟨1,24,.slice none 0 0,.slc 99 2 40⟩),(23,⟨1,24,.slice none 0 0,.slc 140 1 24⟩),(24,⟨1,24,.slice none 0 0,.slc 149 17 240⟩),(26,⟨4,64,.agg #[.int .i64 0,.int .i64 0,.slice none 0 0,.slice none 0 0],.strct [fd 0,fd 1,fd 2,fd 3]⟩),(28,⟨6,96,.agg #[.slice none 0 0,.int .i64 0,.int .i64 0,.slice none 0 0,.slice none 0 0,.int .i64 0],.strct [fd 0,(1,4,some true),fd 5]⟩),(29,⟨1,24,.slice none 0 0,.slc 37 5 56⟩),(35,⟨1,24,.slice none 0 0,.slc 144 3 32⟩),(37,⟨5,56,.agg #[.int .i64 0,.int .i64 0,.int .i64 0,.int .i64 0,.slice none 0 0],.strct [fd 0,fd 1,fd 2,fd 3,fd 4]⟩),(39,⟨4,48,.agg #[.int .i64 0,.int .i64 0,.slice none 0 0,.int .i64 0],.strct [fd 0,fd 1,fd 2,fd 3]⟩),(40,⟨1,8,.int .i64 0,.int .i64⟩),(43,⟨1,24,.slice none 0 0,.slc 3 1 8⟩),(44,⟨1,24,.slice none 0 0,.slc 4 1 1⟩),(49,⟨1,24,.slice none 0 0,.slc 90 3 56⟩),(50,⟨1,24,.slice none 0 0,.slc 64 1 24⟩),(55,⟨1,24,.slice none 0 0,.slc 49 1 24⟩),(57,⟨1,24,.agg #[.slice none 0 0],.strct [fd 0]⟩),(62,⟨1,24,.slice none 0 0,.slc 93 4 32⟩),(64,⟨1,24,.agg #[.slice none 0 0],.strct [fd 0]⟩),(68,⟨1,8,.nilFunc,.other⟩),(86,⟨3,24,.agg #[.int .i64 0,.int .i64 0,.int .i64 0],.strct [fd 0,fd 1,fd 2]⟩),(88,⟨1,24,.slice none 0 0,.slc 182 2 16⟩),(90,⟨3,56,.agg #[.int .i64 0,.slice none 0 0,.slice none 0 0],.strct [fd 0,fd 1,fd 2]⟩),(93,⟨4,32,.agg #[.int .i64 0,.int .i64 0,.int .i64 0,.int .i64 0],.strct [fd 0,(1,3,some true)]⟩),(95,⟨1,8,.nilFunc,.other⟩),(97,⟨1,24,.slice none 0 0,.slc 164 2 24⟩),(99,⟨2,40,.agg #[.string ByteArray.empty,.slice none 0 0],.strct [fd 0,fd 1]⟩),(111,⟨5,88,.agg #[.slice none 0 0,.int .i64 0,.int .i64 0,.slice none 0 0,.slice none 0 0],.strct [fd 0,(1,4,some true)]⟩),(112,⟨1,8,.map none,.map 3 4⟩),(113,⟨1,8,.map none,.map 3 4⟩),(115,⟨1,8,.nilFunc,.other⟩),(119,⟨2,16,.agg #[.map none,.map none],.strct [fd 0,fd 1]⟩),(121,⟨1,24,.slice none 0 0,.slc 112 1 8⟩),(128,⟨1,8,.pointer none,.other⟩),(135,⟨1,8,.map none,.map 86 4⟩),(138,⟨1,24,.slice none 0 0,.slc 216 11 112⟩),(140,⟨1,24,.agg #[.slice none 0 0],.strct [fd 0]⟩),(142,⟨1,24,.slice none 0 0,.slc 146 8 88⟩),(144,⟨3,32,.agg #[.int .i64 0,.int .i64 0,.string ByteArray.empty],.strct [fd 0,fd 1,fd 2]⟩),(146,⟨8,88,.agg #[.int .i64 0,.slice none 0 0,.int .i64 0,.int .i64 0,.int .i64 0,.int .i64 0,.int .i64 0,.string ByteArray.empty],.strct [fd 0,fd 1,fd 2,fd 3,fd 4,(5,3,some true)]⟩),(147,⟨1,24,.slice none 0 0,.slc 230 2 16⟩),(149,⟨17,240,.agg #[.int .i64 0,.int .i64 0,.int .i64 0,.int .i64 0,.int .i64 0,.slice none 0 0,.int .i64 0,.int .i64 0,.int .i64 0,.int .i64 0,.int .i64 0,.string ByteArray.empty,.slice none 0 0,.slice none 0 0,.slice none 0 0,.slice none 0 0,.slice none 0 0],.strct [fd 0,fd 1,fd 2,fd 3,(4,8,some true),fd 12,fd 13,fd 14,fd 15,fd 16]⟩),(151,⟨1,8,.nilFunc,.other⟩),(155,⟨1,8,.nilFunc,.other⟩),(158,⟨1,8,.nilFunc,.other⟩),(159,⟨1,8,.nilFunc,.other⟩),(160,⟨1,8,.nilFunc,.other⟩),(164,⟨2,24,.agg #[.string ByteArray.empty,.int .i64 0],.strct [fd 0,fd 1]⟩),(169,⟨1,24,.slice none 0 0,.slc 44 1 24⟩),(173,⟨1,24,.slice none 0 0,.slc 43 1 24⟩),(182,⟨2,16,.agg #[.int .i64 0,.int .i64 0],.strct [fd 0,fd 1]⟩),(190,⟨1,8,.nilFunc,.other⟩),(202,⟨1,8,.map none,.map 86 37⟩),(204,⟨5,72,.agg #[.int .i64 0,.int .i64 0,.slice none 0 0,.slice none 0 0,.map none],.strct [(0,4,some true),fd 4]⟩),(206,⟨1,8,.nilFunc,.other⟩),(211,⟨1,8,.nilFunc,.other⟩),(216,⟨11,112,.agg #[.int .i64 0,.int .i64 0,.int .i64 0,.int .i64 0,.slice none 0 0,.int .i64 0,.int .i64 0,.int .i64 0,.int .i64 0,.int .i64 0,.string ByteArray.empty],.strct [fd 0,fd 1,fd 2,(3,8,some true)]⟩),(220,⟨1,8,.nilFunc,.other⟩),(230,⟨2,16,.agg #[.int .i64 0,.int .i64 0],.strct [fd 0,fd 1]⟩),(250,⟨1,8,.map none,.map 9 4⟩),(253,⟨1,8,.nilFunc,.other⟩),(254,⟨1,8,.nilFunc,.other⟩),(258,⟨1,8,.nilFunc,.other⟩),(264,⟨1,8,.map none,.map 267 4⟩),(267,⟨2,16,.agg #[.int .i64 0,.int .i64 0],.strct [fd 0,fd 1]⟩),(269,⟨1,24,.slice none 0 0,.slc 29 1 24⟩),(271,⟨1,24,.agg #[.slice none 0 0],.strct [fd 0]⟩),(278,⟨1,8,.nilFunc,.other⟩),(281,⟨1,8,.int .u64 0,.int .u64⟩),(282,⟨1,8,.nilFunc,.other⟩),(285,⟨1,8,.nilFunc,.other⟩),(291,⟨1,8,.nilFunc,.other⟩),(305,⟨1,8,.nilFunc,.other⟩),(308,⟨1,8,.int .i64 0,.int .i64⟩),(318,⟨16,16,.agg #[.bool false,.bool false,.bool false,.bool false,.bool false,.bool false,.bool false,.bool false,.bool false,.bool false,.bool false,.bool false,.bool false,.bool false,.bool false,.bool false],.arr 16 4 1 (some false)⟩),(332,⟨1,8,.nilFunc,.other⟩),(336,⟨1,8,.nilFunc,.other⟩),(344,⟨1,8,.int .u64 0,.int .u64⟩),(348,⟨1,8,.pointer none,.other⟩),(356,⟨1,8,.map none,.map 3 368⟩),(359,⟨8,96,.agg #[.slice none 0 0,.int .i64 0,.int .i64 0,.int .i64 0,.int .i64 0,.int .i64 0,.slice none 0 0,.map none],.strct [(0,1,some true),fd 1,(2,5,some true),fd 7]⟩),(367,⟨1,8,.nilFunc,.other⟩),(368,⟨1,8,.nilFunc,.other⟩),(381,⟨5,48,.agg #[.int .i64 0,.int .i64 0,.int .i64 0,.int .i64 0,.string ByteArray.empty],.strct [fd 0,fd 1,(2,3,some true)]⟩),(389,⟨1,8,.nilFunc,.other⟩),(395,⟨1,8,.nilFunc,.other⟩),(396,⟨6,48,.agg #[.nilFunc,.nilFunc,.nilFunc,.nilFunc,.nilFunc,.nilFunc],.arr 6 395 1 (some false)⟩)]
def y0s (P:Program):List (Nat×TyI)->Prop |[]=>True |(t,i)::r=>TyOk P t i/\y0s P r
variable {P:Program}
theorem y0s.get:∀ {l:List (Nat×TyI)},y0s P l->∀ T i,lkT l T=some i->TyOk P T i
 |[],_,T,i,h=>by simp [lkT] at h
 |(t,j)::r,d,T,i,h=>by
  simp only [lkT] at h;split at h
  ·rename_i e;have:=Nat.eq_of_beq_eq_true e;subst this;injection h with h
   subst h;exact d.1
  ·exact d.2.get T i h
set_option maxRecDepth 100000 in
theorem y1u:y0s Tryz.prog tab:=by repeat' first|exact trivial|refine ⟨⟨by kernel_rfl,by kernel_rfl,by kernel_rfl⟩,?_⟩
theorem E1 (T:Nat)(i:TyI)(h:lkT tab T=some i):TyOk Tryz.prog T i:=y1u.get T i h
noncomputable def E0:Env:=⟨Tryz.prog,tab,fun T i h=>y1u.get T i h,by kernel_rfl,false,false,none,0,false⟩
noncomputable def E0d:Env:=⟨Tryz.prog,tab,fun T i h=>y1u.get T i h,by kernel_rfl,true,false,none,0,false⟩
variable {f:FuncId}
theorem B0 {fn : Func}(e : E0.P.funcs[f]? = some fn)(d : (fn.name == "runtime.NumGoroutine") = false)(g : fn.body.isNone = false) : Cc E0 f := fun args w => by
 unfold callFunc;simp only [Sem.run_bind,run_program,Result.andThen_ok,e,d,g,Bool.false_eq_true,if_false,Sem.run_pure]
open Go.RowKit
open Nat renaming eq_of_beq_eq_true->aA,le_refl->aB,beq->aF,lt_of_lt_of_le->aM,zero_add->aO,beq_refl->aP,ble->bH,blt->bI
open Option.some renaming injEq->aC
open Or renaming inl->aD,inr->aJ
open _root_.Array renaming getElem?_setIfInBounds->aE,getD_eq_getD_getElem?->aG,size_append->aW,filter->bF
open Bool renaming false_eq_true->aH
open List renaming getD_eq_getElem?_getD->aK,length_replicate->aN,length_eraseIdx_of_lt->aQ,replicate->aT,length_eq_zero_iff->aU,getElem_replicate->aX,getElem_cons_zero->aY,getElem_eraseIdx->aZ,length_set->bE
open AV renaming closedL->aL,cells->aV,renL->bB,inML->bC
open Option renaming none_or->aR,map_some->bA
open AS renaming freeze->aS
noncomputable def E0p (np:Nat):Env:={ E0 with np:=np }
noncomputable def E0y (l:Nat)(R:Obj)(np:Nat):Env:={ E0 with np:=np,yl:=some (l,R) }
noncomputable def E0r:Env:={ E0 with rg:=true }
variable {me:List (Nat×Ent)}{res:AV}
theorem ConG.up {yl:Option (Nat×Obj)}{C:CalT}{args caps:List AV}{d:List (Nat×Ent)}(h:ConG P none C args caps me res d):ConG P yl C args caps me res d :=
 fun cx γ w vs cs h1 g _=>h cx γ w vs cs h1 g (fun x e=>by cases e)
variable {E E':Env}{avs:List AV}
theorem Con.env {fr:Bool}(g:E'.P=E.P)(i:E'.dr=false)(h:Con E fr f avs res):Con E' fr f avs res:=by
 refine ⟨by have:=h.1;unfold Cc at *;rw [g];exact this,fun S w vs j=>?_⟩;have:=h.2 S w vs j;rw [g];exact this.mono fun e w' ⟨v,h1,⟨m,_⟩,l⟩=>⟨v,h1,⟨m,fun d=>absurd (i.symm.trans d) (by simp)⟩,l⟩
variable {xs:List AV}{ty sz:Nat}
theorem ConT.env (d:E'.P=E.P)(h:ConT E f avs ty sz xs res):ConT E' f avs ty sz xs res:=by
 refine ⟨by have:=h.1;unfold Cc at *;rw [d];exact this,h.2.1,fun S w vs e=>?_⟩;rw [d];exact h.2.2 S w vs e
section
variable {α β:Type}
variable {k:α->Option β}{r:β}{find:Nat->Option Ent}{KR:AV->List Nat->List (Nat×Ent)->Prop}
theorem Ab.oM {o:Option α}{K:AV->Prop}{R:Nat->Nat->List AV->AV->Prop}(h:bnd o k=some r)
  (ps ps':List (Nat×Nat)) (cargs:List AV) (me:List (Nat×Ent)) (meF:α->List (Nat×Ent)) (resF:α->AV) (dead:List Nat) (n:∀ a,o=some a->ConG E.P E.yl (CalF E.P f 0) cargs [] me (resF a) (meF a)) (m:Cc E f) (d:E.dr=false) (e:bB (rho ps) cargs=avs) (i:bC (me.map (·.1)) cargs=true) (g:LeF find (rho ps) (me.map (·.1)) me)
  (l:∀ a,D2 find (rho ps) (rho ps') me (meF a) (resF a) dead) (j:∀ a,k a=some r->KR ((resF a).ren (rho ps')) (idsG (rho ps) (rho ps') me (meF a)) (wrG (rho ps') (meF a) dead)):Ab E f avs K R find KR:=by
 cases o with
 |none=>unfold bnd at h;cases h
 |some a=>exact .memo ps ps' cargs me (meF a) (resF a) dead m d (n a rfl) e i g (l a) (j a (by unfold bnd at h;exact h))
theorem B7.oM {o:Option α}{raw:List AV}{K:AV->Prop}{dst:Option Nat}(h:bnd o k=some r)
  (ps ps':List (Nat×Nat)) (cargs:List AV) (me:List (Nat×Ent)) (meF:α->List (Nat×Ent)) (resF:α->AV) (dead:List Nat) (n:∀ a,o=some a->ConG E.P E.yl (CalF E.P f 0) cargs [] me (resF a) (meF a)) (m:Cc E f) (d:E.dr=false) (e:bB (rho ps) cargs=raw) (i:bC (me.map (·.1)) cargs=true) (g:LeF find (rho ps) (me.map (·.1)) me)
  (l:∀ a,D2 find (rho ps) (rho ps') me (meF a) (resF a) dead) (j:∀ a,k a=some r->KR ((resF a).ren (rho ps')) (idsG (rho ps) (rho ps') me (meF a)) (wrG (rho ps') (meF a) dead)):B7 E f avs K raw find dst KR:=by
 cases o with
 |none=>unfold bnd at h;cases h
 |some a=>exact .memo ps ps' cargs me (meF a) (resF a) dead m d (n a rfl) e i g (l a) (j a (by unfold bnd at h;exact h))
theorem YldX.oM {o:Option α}{l:Nat}{T:Array Value}{raw e:List AV}(h:bnd o k=some r)
  (ps ps':List (Nat×Nat)) (cargs ccaps:List AV) (me:List (Nat×Ent)) (meF:α->List (Nat×Ent)) (resF:α->AV) (dead:List Nat) (t:∀ a,o=some a->ConG E.P E.yl (fun vs cs w R=>cs=T->CalY E.P l vs cs w R) cargs ccaps me (resF a) (meF a)) (d:E.dr=false) (i:bB (rho ps) cargs=raw) (g:bB (rho ps) ccaps=e) (n:bC (me.map (·.1)) cargs=true) (m:bC (me.map (·.1)) ccaps=true) (j:LeF find (rho ps) (me.map (·.1)) me)
  (q:∀ a,D2 find (rho ps) (rho ps') me (meF a) (resF a) dead) (p:∀ a,k a=some r->KR ((resF a).ren (rho ps')) (idsG (rho ps) (rho ps') me (meF a)) (wrG (rho ps') (meF a) dead)):YldX E l T raw e find KR:=by
 cases o with
 |none=>unfold bnd at h;cases h
 |some a=>exact .mk ps ps' cargs ccaps me (meF a) (resF a) dead d (t a rfl) i g n m j (q a) (p a (by unfold bnd at h;exact h))
variable {nt:Nat}
theorem RngX.oM {o:Option α}{gf:Nat}{g:List AV}{ps:Array Tmp}{a b:Code}{σ:AS}{K:AS->Prop}(h:bnd o k=some r)
  (pp d:List (Nat×Nat)) (ycaps ccaps:List AV) (me:List (Nat×Ent)) (meF:α->List (Nat×Ent)) (dead:List Nat)
  (e:∀ x,o=some x->∀ (l D:Nat) (fn:FuncId) (T:Array Value),T.size=nt->ConG E.P (some (l,.loop (recR fn T ps a b D))) (CalF E.P gf 0) (.yld l T ycaps::ccaps) [] me (.tup []) (meF x))
  (z:Cc E gf) (m:E.rg=true) (j:E.dr=false) (i:E.yl=none) (n:bB (rho pp) ccaps=g) (q:bC (me.map (·.1)) ccaps=true) (u:LeY σ (rho pp) (me.map (·.1)) 0 ycaps) (p:LeF σ.find (rho pp) (me.map (·.1)) me) (y:∀ x,D2 σ.find (rho pp) (rho d) me (meF x) (.tup []) dead)
  (t:∀ x,k x=some r->K (σ.upd none (.tup []) (wrG (rho d) (meF x) dead))):RngX E nt (.fn gf g) ps a b σ K:=by
 cases o with
 |none=>unfold bnd at h;cases h
 |some x=>exact .mk gf g rfl z m j i pp d ycaps ccaps me (meF x) dead n q u p (y x) (e x rfl) (t x (by unfold bnd at h;exact h))
variable {meF:α->List (Nat×Ent)}
theorem GX.o {x r:α}{fn:Func}{args:List AV}{σ:AS}{res:α->AV}(h:some x=some r)(k:GX E nt fn args me σ (res x) (meF x)):GX E nt fn args me σ (res r) (meF r):=by
 injection h with h;subst h;exact k
theorem BX.o {x r:α}{ycaps:List AV}{σ:AS}(h:some x=some r)(k:BX E nt ycaps me σ (meF x)):BX E nt ycaps me σ (meF r):=by
 injection h with h;subst h;exact k
end
section
variable {β:Type} {E:Env} {nt:Nat} {o:Oper} {σ:AS} {K:OpK}
def idb (s:ByteArray)(n:Int)(k:Int->Option β):Option β:=if 0<=n then (match y1m s n.toNat with|some b=>k b.toNat|none=>none) else none
theorem OpX.idb {s:ByteArray}{n:Int}{k:Int->Option β}{r:β}{T:Nat}{x y:Operand}{i:TyI}{kd:IntKind}(d:idb s n k=some r)(q:o.op=.index T x y)(u:dokN E nt o.dst=true)(g:A4 x=true)(e:A4 y=true)(p:σ.eval x=.str s)(l:σ.eval y=.int kd n)(A:lkT E.tab T=some i)
  (hs:i.shape=.str) (t:∀ b,k b=some r->K (.int .u8 b) [] []):OpX E nt o σ K:=by
 unfold Proofs.YthbogefcfhmpgaaGreat.idb at d;split at d
 ·rename_i B;split at d
  ·rename_i b z;exact .mk _ _ _ (fun cx j h=>zps (m:=n.toNat) q (Al u j h) g e p l (by rw [j];exact A) hs (by omega) z) (t _ d)
  ·cases d
 ·cases d
variable {α:Type}
def bld (l:List α)(k:List α->Option β):Option β:=k l
variable {k:List α->Option β}{ps:Array (Nat×Operand)}
theorem OpX.bld {l:List α}{r:β}(enc:α->AV){T n d e esz eb:Nat}{i ie:TyI}(L:bld l k=some r)(B:o.op=.buildSlice T n ps)(h:o.dst=some d)(I:dokN E nt o.dst=true)(J:lkT E.tab T=some i)(hs:i.shape=.slc e esz eb)(H:lkT E.tab e=some ie)(A:aF esz 0=false)(C:bH (n*esz) 16777216=true)
  (m:D9 ie.zero.cells.toList=true) (p:bI 0 ie.zero.cells.size=true) (q:Fg σ ps=true) (y:aL (l.map enc)=true) (g:(l.map enc).length=n) (D:(l.map enc).all (fun x=>aF x.cells.length esz)=true)
  (G:Db (fun j=>some (j*esz,esz)) (aT (n*esz) .any) (Cq σ ps)=some ((l.map enc).flatMap aV)) (u:σ.find d=none) (F:∀ l',k l'=some r->K (.row d) (d::Fh (Cq σ ps)) [(d,.row e esz (l'.map enc))]):OpX E nt o σ K :=
 .mk _ _ _ (fun cx z t=>z7b B h (Al I z t) (by rw [z];exact J) hs (by rw [z];exact H) (nbne A) C (Fc m) p q y g D G u) (F l L)
def bldS (l:List α)(k:List α->Option β):Option β:=k l
theorem OpX.bldS {l:List α}{r:β}(enc:α->AV){T n e esz eb:Nat}{i ie:TyI}(H:Proofs.YthbogefcfhmpgaaGreat.bldS l k=some r)(y:o.op=.buildSlice T n ps)(F:dokN E nt o.dst=true)(G:lkT E.tab T=some i)(hs:i.shape=.slc e esz eb)(D:lkT E.tab e=some ie)(u:aF esz 0=false)(z:bH (n*esz) 16777216=true)
  (g:D9 ie.zero.cells.toList=true) (h:bI 0 ie.zero.cells.size=true) (m:Fg σ ps=true) (q:aL (l.map enc)=true) (d:(l.map enc).length=n) (A:(l.map enc).all (fun x=>aF x.cells.length esz)=true)
  (C:Db (fun j=>some (j*esz,esz)) (aT (n*esz) .any) (Cq σ ps)=some ((l.map enc).flatMap aV)) (B:∀ l',k l'=some r->K (.sl esz (l'.map enc)) (Fh (Cq σ ps)) []):OpX E nt o σ K :=
 .mk _ _ _ (fun cx t p=>zct y (Al F t p) (by rw [t];exact G) hs (by rw [t];exact D) (nbne u) z (Fc g) h m q d A C) (B l H)
end
noncomputable def E0b:Env:={ E0 with bl:=true }
noncomputable def E0q (np:Nat):Env:={ E0 with np:=np,bl:=true }
theorem ConC.env {inp:Bool}{d:List AV}{e g:Nat}(i:E'.P=E.P)(h:ConC inp E f avs ty sz xs e g d res):ConC inp E' f avs ty sz xs e g d res:=by
 refine ⟨by have:=h.1;unfold Cc at *;rw [i];exact this,h.2.1,fun S w0 w vs v us=>?_⟩;rw [i];exact h.2.2 S w0 w vs v us
section
variable {cx:Cx} {o:Oper} {σ:AS}
theorem zud {w:World}{S:Nat->Prop}{T kt et:TypeId}{k zA:AV}{vk vm z:Value}(ok:Bool)(l:P.underlying T=some (.map kt et))(e:Bs P kt k=true)(g:Rep w S G0 k vk)(hm:vm=.map none)
  (i:(zeroValue et).run P w=.ok z w) (d:Rep w S G0 zA z):∃ v,Rep w S G0 (Eu zA [] none) v/\(Instr.lookup T vm vk ok).run P w=.ok (if ok then .tuple #[v,.bool (none:Option Nat).isSome] else v) w:=by
 subst hm;have m:=(Zl (P:=P) (w:=w) e g [] [] none rfl (fun j h=>absurd h (by simp)) rfl).1;refine ⟨z,d,?_⟩;cases ok<;>simp [Instr.lookup,run_underlying l,Ni _ e g,m,i,Result.andThen]
variable {ps:List (AV×AV)}
theorem mapv_val {γ:Gam}{w:World}{S:Nat->Prop}{v:Value}(e:Rep w S γ (.mapv ps) v):(∃ g d,v=.map (some g)/\S g/\g<w.heap.size/\De w S g d/\Ex d ps)\/(v=.map none/\ps=[]):=by
 cases e with
 |mapv d l g es clock t u q p m n e=>exact aD ⟨g,d,rfl,u,q,⟨es,clock,p,m,t,fun j h i=>⟨n j h i,e j h i⟩⟩,l⟩
 |mapn=>exact aJ ⟨rfl,rfl⟩
variable {x:Operand}
theorem zhp {T kt et:Nat}{y:Operand}{ok:Bool}{i ie:TyI}{k av:AV}{r:Option Nat}(t:o.op=.lookup T x y ok)(N:dok cx o=true)(p:A4 x=true)(n:A4 y=true)(L:σ.eval x=.mapv ps)(J:σ.eval y=k)
  (F:lkT cx.E.tab T=some i) (hs:i.shape=.map kt et) (D:lkT cx.E.tab et=some ie) (h:T3 ie.zero=true) (m:Bs cx.P kt k=true) (u:Bt k (ps.map (·.1)) 0=some r)
  (A:Sub (Eu (Eb ie.zero) ps r) av):Ah cx o σ (Sy av r.isSome ok) [] [] :=
 Ba N fun τ γ a w h1 W l=>by
  have G:=l.ev x p;rw [h1 x (by simp [t,Op.operands]),L] at G;have B:=l.ev y n;rw [h1 y (by simp [t,Op.operands]),J] at B;obtain ⟨v,d,e⟩:∃ v,Rep w (Sg cx.S0 cx.w0.heap.size γ) G0 (Eu (Eb ie.zero) ps r) v/\(Instr.lookup T (a.eval x) (a.eval y) ok).run cx.P w=.ok (if ok then .tuple #[v,.bool r.isSome] else v) w:=by
   rcases mapv_val G with ⟨g,I,q,_,_,hm,M⟩|⟨q,z⟩
   ·obtain ⟨H,U,Q,O⟩:=zqs M u;obtain ⟨v,d,e⟩:=zi5 (S:=Sg cx.S0 cx.w0.heap.size γ) (zA:=Eb ie.zero) ok (Gh (cx.E.ok T i F) hs) m (B.flat (Rx m)) hm ((cx.E.ok et ie D).zeroV w) (zb3 _ _ _ _ h) U;rw [Q] at e;refine ⟨v,?_,by rw [q];exact e⟩;rw [<-O];cases H<;>exact d
   ·subst z;simp only [map_nil,Bt,aC] at u;subst u;exact zud ok (Gh (cx.E.ok T i F) hs) m (B.flat (w':=w) (S':=Sg cx.S0 cx.w0.heap.size γ) (γ':=G0) (Rx m)) q ((cx.E.ok et ie D).zeroV w) (zb3 _ _ _ _ h)
  have d:=(d.open_ (γ':=γ)).sub A;refine ⟨(if ok then .tuple #[v,.bool r.isSome] else v),by simp only [execOp,t,Sem.run_bind,e,Result.andThen_ok,Sem.run_pure],?_⟩;cases ok with
  |false=>exact d
  |true =>
   simp only [Sy,if_true];refine .tup #[v,.bool r.isSome] rfl (fun j C=>?_);have C:j<2:=C;rcases j with _|_|j
   ·exact d
   ·exact .bool _
   ·omega
theorem zpk {T id q k t h:Nat}{i:TyI}{ty ety:TypeId}{ys:List AV}{el:AV}(H:o.op=.store T x (.tmp t))(J:dok cx o=true)(B:o.dst=none)(D:A4 x=true)(N:σ.eval x=.elt id sz k 0)(M:σ.get t=.row q)(Y:lkT cx.E.tab T=some i)(hi:i.sz=1)(W:σ.find id=some (.row ty sz xs))(U:σ.find q=some (.row ety h ys))(A:id≠q)
  (m:xs[k]? = some el) (O:1<=sz) {el':AV} (I:el'.cells=.sl h ys::el.cells.drop 1) :
  Ah cx o σ (.tup []) [id,q] [(id,.row ty sz (xs.set k el')),(q,.dead)]:=by
 refine ⟨fun y e m=>?_,fun τ h1 L a w Q K G Z=>?_⟩
 ·simp only [lkE] at m;cases l:aF id y with
  |true=>simp [aA l]
  |false =>
   rw [l] at m;simp only at m;cases n:aF q y with
   |true=>simp [aA n]
   |false=>rw [n] at m;cases m
 have tx:τ.eval x=.elt id sz k 0:=by rw [h1 x (by simp [H,Op.operands]),N]
 have p:τ.get t=.row q:=by have:=h1 (.tmp t) (by simp [H,Op.operands]);simpa [AS.eval,M] using this
 have tl:τ.find id=some (.row ty sz xs):=by rw [L id (by simp),W]
 have tq:τ.find q=some (.row ety h ys):=by rw [L q (by simp),U]
 have fr:St cx (τ.freeze t q h ys) a w:=LeX.freeze (E:=cx.E) (nt:=cx.nt) t q ety h ys p tq cx rfl rfl a w G;have g1:(τ.freeze t q h ys).eval x=.elt id sz k 0:=by
  cases x with
  |tmp u =>
   have C:u≠t:=fun e=>by
    subst e;have:τ.get u=.elt id sz k 0:=tx;rw [p] at this;cases this
   show (τ.freeze t q h ys).get u=_;have e:(τ.freeze t q h ys).get u=τ.get u:=by
    unfold aS AS.get;simp only [lkV];cases l:aF t u with
    |true=>exact absurd (aA l).symm C
    |false=>rfl
   rw [e];exact tx
  |_=>exact tx
 have g2:(τ.freeze t q h ys).eval (.tmp t)=.sl h ys:=by simp [AS.eval,aS,AS.get,lkV]
 have fnd:∀ j,j≠q->(τ.freeze t q h ys).find j=τ.find j:=fun j X=>by
  unfold aS AS.find;simp only [lkE];cases l:aF q j with
  |true=>exact absurd (aA l).symm X
  |false=>rfl
 have fndq:(τ.freeze t q h ys).find q=some .dead:=by simp [aS,AS.find,lkE]
 have g3:(τ.freeze t q h ys).find id=some (.row ty sz xs):=by rw [fnd id A,tl]
 have R:=zee (cx:=cx) (o:=o) (σ:=τ.freeze t q h ys) (el':=el') H J D rfl g1 g2 Y g3 m (by rw [hi];rfl) (by rw [hi];omega) rfl rfl (by rw [hi];simpa [aV] using I);refine R.2 _ (fun _ _=>rfl) (fun _ _=>rfl) a w Q K fr (fun a' w' z=>Z a' w' ?_);obtain ⟨γ,hs⟩:=z;rw [B] at hs ⊢;have dq:γ q=some none:=by
  have:=hs.me q;rw [AS.find_upd] at this;have e:lkE [(id,Ent.row ty sz (xs.set k el'))] q=none:=by
   simp only [lkE];cases l:aF id q with
   |true=>exact absurd (aA l) A
   |false=>rfl
  rw [e,aR,fndq] at this;obtain ⟨d,J,m⟩:=this;have m:d=none:=m;rw [J,m]
 refine ⟨γ,fun u=>?_,fun j=>?_,hs.inj,hs.ge,hs.below,hs.size,hs.defers,hs.gh,hs.fr,hs.dr⟩
 ·rw [AS.get_upd,if_neg (by simp)];have F:=hs.tm u;rw [AS.get_upd,if_neg (by simp)] at F;by_cases C:t=u
  ·subst C;rw [p];exact .row dq (fun g s e _=>by cases e)
  ·have e:(τ.freeze t q h ys).get u=τ.get u:=by
    unfold aS AS.get;simp only [lkV];cases l:aF t u with
    |true=>exact absurd (aA l) C
    |false=>rfl
   rw [e] at F;exact F
 ·have hm:=hs.me j;rw [AS.find_upd] at hm ⊢;simp only [lkE] at hm ⊢;cases l:aF id j with
  |true=>rw [l] at hm;exact hm
  |false =>
   rw [l] at hm;simp only [aR] at hm ⊢;cases n:aF q j with
   |true => 
    have:=aA n;subst this;exact ⟨none,dq,rfl⟩
   |false =>
    simp only [aR];rw [fnd j (fun e=>by subst e;simp at n)] at hm;exact hm
theorem zgd {cs:List AV}(h:o.op=.nilCheck x)(l:dok cx o=true)(d:A4 x=true)(i:σ.eval x=.ref cs):Ah cx o σ (.ref cs) [] [] :=
 Ba l fun τ γ a w h1 m e=>by
  have g:=e.ev x d;rw [h1 x (by simp [h,Op.operands]),i] at g;obtain ⟨b,off,j,_⟩:=g.ref_inv;refine ⟨a.eval x,by simp only [execOp,h,j,Sem.run_pure],g⟩
theorem zge {id off:Nat}{cs:List AV}(n:o.op=.nilCheck x)(u:dok cx o=true)(i:A4 x=true)(p:σ.eval x=.ptr id off)(t:σ.find id=some (.box ty cs)):Ah cx o σ (.ptr id off) [id] [] :=
 Ba u fun τ γ a w h1 y e=>by
  have m:=e.ev x i;rw [h1 x (by simp [n,Op.operands]),p] at m;have h:=e.me id;rw [y id (by simp),t] at h;obtain ⟨d,l,g,vs,j,_⟩:=h;subst j;have q:=m.ptr_inv l;refine ⟨a.eval x,by simp only [execOp,n,q,Sem.run_pure],m⟩
end
section
variable {α β κ ν:Type} {E:Env} {nt:Nat} {o:Oper} {σ:AS} {K:OpK}
variable {x:Operand}
theorem OpX.nckR {cs:List AV}(h:o.op=.nilCheck x)(j:dokN E nt o.dst=true)(d:A4 x=true)(g:σ.eval x=.ref cs)(i:K (.ref cs) [] []):OpX E nt o σ K:=.mk _ _ _ (fun cx l e=>zgd h (Al j l e) d g) i
theorem OpX.nckP {id off:Nat}{cs:List AV}(h:o.op=.nilCheck x)(l:dokN E nt o.dst=true)(d:A4 x=true)(g:σ.eval x=.ptr id off)(i:σ.find id=some (.box ty cs))(j:K (.ptr id off) [id] []):OpX E nt o σ K:=.mk _ _ _ (fun cx m e=>zge h (Al l m e) d g i) j
theorem OpX.str {e:Type}(er:e->AV){l:List (List e)}{m:Nat}{v:List e}{k:List (List e)->Option β}{r:β}{T t id q ety:Nat}{i:TyI}(g:stx l m (fun _=>v) k=some r)(D:o.op=.store T x (.tmp t))(d:o.dst=none)(H:dokN E nt o.dst=true)(n:A4 x=true)(B:σ.eval x=.elt id 1 m 0)(A:σ.get t=.row q)(I:lkT E.tab T=some i)(hi:i.sz=1)
  (F:σ.find id=some (.row ty 1 (l.map fun q=>.sl sz (q.map er)))) (C:σ.find q=some (.row ety sz (v.map er))) (u:aF id q=false) (G:∀ l',k l'=some r->K (.tup []) [id,q] [(id,.row ty 1 (l'.map fun q=>.sl sz (q.map er))),(q,.dead)]):OpX E nt o σ K:=by
 unfold stx at g;split at g
 ·rename_i y j;refine .mk _ _ _ (fun cx z p=>?_) (G _ g);have h:=zpk (cx:=cx) (el':=.sl sz (v.map er)) D (Al H z p) d n B A (by rw [z];exact I) hi F C (nbne u) (by rw [getElem?_map,j];rfl) (aB _) rfl;rw [map_set];exact h
 ·cases g
def mgv [DecidableEq κ](l:List (κ×ν))(k:κ)(z:ν)(c:ν->Bool->Option β):Option β:=c ((mlk l k).getD z) (mlk l k).isSome
theorem OpX.lkv [DecidableEq κ](ek:κ->AV)(er:ν->AV){l:List (κ×ν)}{k:κ}{z:ν}{ok:Bool}{c:ν->Bool->Option β}{r:β}{T kt et:Nat}{y:Operand}{i ie:TyI}(A:mgv l k z c=some r)(heq:∀ a b,eqK (ek a) (ek b)=some (decide (a=b)))(F:o.op=.lookup T x y ok)(J:dokN E nt o.dst=true)(j:A4 x=true)(g:A4 y=true)(D:σ.eval x=.mapv (l.map (encM ek er)))(C:σ.eval y=ek k)
  (M:lkT E.tab T=some i) (hs:i.shape=.map kt et) (I:lkT E.tab et=some ie) (e:D9 ie.zero.cells.toList=true) (p:Bs E.P kt (ek k)=true) (B:Sub (Eb ie.zero) (er z)) (G:∀ v b,c v b=some r->K (Sy (er v) b ok) [] []):OpX E nt o σ K:=by
 have h:=LkX.o (P:=E.P) (kt:=kt) (zA:=Eb ie.zero) (K:=fun av b=>K (Sy av b ok) [] []) ek er (show mgt l k z c=some r by unfold mgv at A;unfold mgt;exact A) p heq B (fun v b u=>G v b u);cases h with
 |mk q av b t H L m u =>
  subst L;exact .mk _ _ _ (fun cx d n=>zhp (ok:=ok) F (Al J d n) j g D C (by rw [d];exact M) hs (by rw [d];exact I) (Zx e) (by rw [show cx.P=E.P by rw [<-d]];exact t) H m) u
theorem zt9 (k:AV):∀ (l:List AV) (i:Nat),Bt k l (i+1)=(Bt k l i).map (·.map (· + 1))
 |[],i=>rfl
 |a::l,i=>by
  simp only [Bt];cases eqK k a with
  |none=>rfl
  |some b=>cases b with
   |true=>rfl
   |false=>exact zt9 k l (i+1)
def LkC (n:Int)(z:AV)(qs:List (AV×AV))(K:AV->Prop):Prop:=∃ r av,Bt (.int .i64 n) (qs.map (·.1)) 0=some r/\Sub (Eu z qs r) av/\K av
variable {qs:List (AV×AV)}
theorem LkC.cons {n:Int}{z v:AV}{k:Nat}{K:AV->Prop}{x y:Option β}{r:β}(h:natc n k x y=some r)(g:x=some r->K v)(h1:y=some r->LkC n z qs K):LkC n z ((.int .i64 (k:Int),v)::qs) K:=by
 rw [N9] at h;split at h
 ·rename_i e;refine ⟨some 0,v,?_,.refl _,g h⟩;simp only [map_cons,Bt,eqK,eq1,e];simp
 ·rename_i e;obtain ⟨q,av,l,d,i⟩:=h1 h;refine ⟨q.map (· + 1),av,?_,?_,i⟩
  ·simp only [map_cons,Bt,eqK,eq1];rw [decide_eq_false e];simp only [zt9,l,bA];rfl
  ·cases q with
   |none=>exact d
   |some j=>exact d
theorem OpX.lkc {n:Int}{T kt et:Nat}{y:Operand}{i ie:TyI}(q:o.op=.lookup T x y false)(p:σ.eval x=.mapv qs)(z:dokN E nt o.dst=true)(h:A4 x=true)(g:A4 y=true)(m:σ.eval y=.int .i64 n)
  (A:lkT E.tab T=some i) (hs:i.shape=.map kt et) (u:lkT E.tab et=some ie) (e:D9 ie.zero.cells.toList=true) (l:Bs E.P kt (.int .i64 n)=true) (t:LkC n (Eb ie.zero) qs fun av=>K av [] []):OpX E nt o σ K:=by
 obtain ⟨r,av,D,C,B⟩:=t;exact .mk _ _ _ (fun cx d j=>zhp (ok:=false) q (Al z d j) h g p m (by rw [d];exact A) hs (by rw [d];exact u) (Zx e) (by rw [show cx.P=E.P by rw [<-d]];exact l) D C) B
end
def So:AV->Bool |.ptr _ 0=>true |_=>false
def frb {β:Type}(r:Nat)(x:Option β):Option β:=x
section
variable {β:Type} {E:Env} {nt:Nat}
variable {cs:List AV}
theorem LeX.frb {σ:AS}(r:Nat)(G:σ.find r=some (.box ty cs))(J:aL cs=true):LeX E nt σ (σ.rpAll r So (.ref cs) .dead):=by
 refine LeX.rpAll r So _ _ _ G (fun ty cs h=>by cases h) (fun cx γ a w d F I H=>?_);obtain ⟨g,vs,z,l,D,y,m⟩:=H;subst z;refine ⟨none,(fun b l=>by cases l),fun S' L A=>⟨rfl,fun γ' x v B e C u=>?_⟩⟩;have q:x=.ptr r 0:=by
  cases x with
  |ptr i off=>cases off with
   |zero=>simp only [AV.leafId,aC] at C;rw [C]
   |succ n=>simp [So] at e
  |_=>simp [So] at e
 subst q;have t:v=.pointer (some ⟨g,0,none⟩):=by
  cases u with
  |ptr h u=>rw [I] at h;injection h with h;exact u _ _ h.symm
 subst t;refine .ref g 0 (fun j=>vs.getD j undef) (A g Bz (fun h=>by cases h)) l.lt (fun j p=>by rw [aO];exact Mx l j (by omega)) (fun j p=>?_) (fun j p=>m j (by omega));exact ((y j p).close (AV.closedL_at J j p)).mono (aB _) (fun b l _=>⟨rfl,L b l⟩)
variable {R:Exit->AS->Prop} {K:List Bq}
theorem AW.frb0 {c:Code}{σ:AS}(r:Nat)(d:σ.find r=some (.box ty cs))(e:aL cs=true)(k:AW E nt R (.code c::K) .normal (σ.rpAll r So (.ref cs) .dead)):AW E nt R (.code c::K) .normal σ:=AW.weaken (LeX.frb r d e) k
theorem AW.frbO {id:Nat}{c:Code}{σ:AS}{x:Option β}{y:β}(h:Proofs.YthbogefcfhmpgaaGreat.frb id x=some y)(r:Nat)(d:σ.find r=some (.box ty cs))(e:aL cs=true)(k:x=some y->AW E nt R (.code c::K) .normal (σ.rpAll r So (.ref cs) .dead)):AW E nt R (.code c::K) .normal σ:=AW.weaken (LeX.frb r d e) (k h)
end
section
variable {α β:Type} {E:Env} {nt:Nat} {o:Oper} {σ:AS} {K:OpK}
theorem OpX.bldR {l:List α}{k:List α->Option β}{r:β}(enc:α->AV){T n d e esz eb:Nat}{ps:Array (Nat×Operand)}{i ie:TyI}{fl:List AV}{ag:Bool}(Q:Proofs.YthbogefcfhmpgaaGreat.bld l k=some r)(H:o.op=.buildSlice T n ps)(m:o.dst=some d)(M:dokN E nt o.dst=true)(O:lkT E.tab T=some i)(hs:i.shape=.slc e esz eb)(L:lkT E.tab e=some ie)(F:aF esz 0=false)(I:bH (n*esz) 16777216=true)
  (p:D9 ie.zero.cells.toList=true) (q:bI 0 ie.zero.cells.size=true) (u:Fg σ ps=true) (N:ie.shape.agg=ag) (C:Db (fun j=>some (j*esz,esz)) (aT (n*esz) .any) (Cq σ ps)=some fl) (t:Er ag esz n fl=xs) (D:(ag || (aF esz 1 && fl.all zss))=true) (A:aL xs=true) (h:SubR xs (l.map enc))
  (z:σ.find d=none) (J:∀ l',k l'=some r->K (.row d) (d::Fh (Cq σ ps)) [(d,.row e esz (l'.map enc))]):OpX E nt o σ K:=by
 have g:=z8t _ _ _ _ C;rw [aN] at g;simp only [Bool.or_eq_true,Bool.and_eq_true] at D;obtain ⟨Y,X,W⟩:=zfx ag esz _ fl g (D.imp id (fun ⟨h1,U⟩=>⟨nbeq h1,U⟩));subst t;refine .mk _ _ _ (fun cx B y=>Ah.weak (.cons _ (.row _ _ h) .nil) (z7b H m (Al M B y) (by rw [B];exact O) hs (by rw [B];exact L) (nbne F) I (Fc p) q u A X (by simp only [all_eq_true];intro x G;rw [W x G];simp) (by rw [Y];exact C) z)) (J l Q)
def bndM (t:Nat)(o:Option α)(k:α->Option β):Option β:=bnd o k
theorem Bg (t:Nat){o:Option α}{k:α->Option β}{r:β}(h:bndM t o k=some r):bnd o k=some r:=h
theorem Ct (t:Nat)(a:α)(k:α->Option β):bndM t (some a) k=k a:=by unfold bndM bnd;rfl
end
section
variable {α β γ:Type} {E:Env} {nt:Nat} {f:FuncId} {avs:List AV}
def bndP (o:Option α)(rl:α->Option γ)(kN:α->Option β)(kS:α->γ->Option β):Option β:=match o with|some a=>(match rl a with|some q=>kS a q|none=>kN a)|none=>none
theorem Ab.oP {o:Option α}{rl:α->Option γ}{kN:α->Option β}{kS:α->γ->Option β}{r:β}{fr:Bool}{K:AV->Prop}{R:Nat->Nat->List AV->AV->Prop}{find:Nat->Option Ent}{KR:AV->List Nat->List (Nat×Ent)->Prop}(h:bndP o rl kN kS=some r)(enc:α->AV)(encN:α->AV)(encS:α->γ->AV)(l:∀ a,rl a=none->enc a=encN a)(j:∀ a q,rl a=some q->enc a=encS a q)(g:∀ a,o=some a->Con E fr f avs (enc a))(i:∀ a,kN a=some r->K (encN a))(e:∀ a q,kS a q=some r->K (encS a q)):Ab E f avs K R find KR:=by
 unfold bndP at h;split at h
 ·rename_i a;split at h
  ·rename_i q d;exact .mk fr _ (g _ rfl) (by rw [j _ _ d];exact e _ _ h)
  ·rename_i d;exact .mk fr _ (g _ rfl) (by rw [l _ d];exact i _ h)
 ·cases h
end
attribute [irreducible] mgv bndP frb bndM
section
variable {β V:Type}
abbrev y3x (E:Env)(nt:Nat)(L:Nat->V->Option β)(S:V->AS):Prop:=∀ {R:Exit->AS->Prop} {K:List Bq} {σ:AS} {c:Code} {r:β} {n:Nat} {e:V} (_:L n e=some r) (_:LeX E nt σ (S e)) (_:∀ m v,L (m+1) v=some r->AW E nt (Cv (fun d=>∃ v',L m v'=some r/\LeX E nt d (S v')) (AW E nt R K)) [.code c] .normal (S v)),Av E nt (fun next d=>AW E nt (Cv next (AW E nt R K)) [.code c] .normal d) σ
theorem LoopA.oT {nt:Nat}{L:Nat->V->Option β}{S:V->AS}(d:∀ v,L 0 v=none):y3x E nt L S:=fun h e round=>LoopA.o h d e round
end
section
variable {β:Type}
theorem RetX.oA {v:AV}{a r:β}{enc:β->AV}(h:some a=some r)(hs:Sub v (enc a):=by (repeat' first|exact Sub.nil _|exact Sub.refl _|refine Sub.agg ?_|refine Sub.tup ?_|refine Sub.fn ?_|exact SubL.nil|refine SubL.cons ?_ ?_|refine Sub.sl _ ?_|exact SubE.nil|refine SubE.cons ?_ ?_)<;>fail)(hs:Sub v (enc a):=by (repeat' first|exact Sub.nil _|exact Sub.refl _|refine Sub.agg ?_|refine Sub.tup ?_|refine Sub.fn ?_|exact SubL.nil|refine SubL.cons ?_ ?_|refine Sub.sl _ ?_|exact SubE.nil|refine SubE.cons ?_ ?_)<;>fail):RetX v (enc r):=RetX.o h hs
theorem LeX.a {nt:Nat}{σ τ:AS}(ps:List (Nat×Nat))(h:injB (rho ps) (τ.me.map (·.1))=true:=by rfl)(h1:LeV σ (rho ps) (τ.me.map (·.1)) τ.tm:=by (repeat' first|exact trivial|exact rfl|refine ⟨?_,?_⟩)<;>fail)(d:LeE σ (rho ps) (τ.me.map (·.1)) τ.me:=by (repeat' first|exact trivial|exact rfl|refine ⟨?_,?_⟩)<;>fail):LeX E nt σ τ:=LeX.of ps h h1 d
end
def arnV (s:Value)(vs:Array Value):Option (Option Nat×Value):=some (none,.agg (#[s]++vs))
variable {s:Value}{vs:Array Value}
theorem mem_arnV {b:Nat}:b∈blks (arnV s vs) ↔ B5 s=some b\/∃ j,B5 (vs.getD j undef)=some b:=by
 rw [show blks (arnV s vs)=blks (nstV s vs) from rfl];exact mem_nstV
theorem con1 (x:Value)(vs:Array Value)(j:Nat):(#[x]++vs).getD (j+1) undef=vs.getD j undef:=by
 rw [aG,aG,Array.getElem?_append_right (by simp)];simp
variable {γ:Gam}{id:Nat}
theorem zy0 {e:Array Value}(h:γ id=some (arnV s e))(i:∀ j,j<vs.size->j<e.size/\e.getD j undef=vs.getD j undef):Turn γ id (arnV s vs) :=
 ⟨_,_,rfl,h,rfl,rfl,fun l d=>by
  cases l with
  |obj j =>
   simp only [Dv.ok,Nat.blt_eq,aW] at d ⊢;have h1:j<vs.size:=by simp at d;omega
   obtain ⟨m,g⟩:=i j h1;exact ⟨by simp;omega,by simp only [Dv.of,con1,g]⟩
  |oelt j k =>
   simp only [Dv.ok,Nat.blt_eq,aW] at d ⊢;have h1:j<vs.size:=by simp at d;omega
   obtain ⟨m,g⟩:=i j h1;exact ⟨by simp;omega,by simp only [Dv.of,con1,g]⟩
  |_=>exact ⟨rfl,by simp only [Dv.of,con0]⟩⟩
section
variable {cx:Cx} {o:Oper} {σ:AS}
variable {w:World}{idx:List (Option Nat)}{os:List NE}
theorem zrh {τ:AS}{a:Act}(g:StG cx γ τ a w)(m:τ.find id=some (.are ty idx os)) :
  ∃ s vs us,γ id=some (arnV s vs)/\s.oneCell'=true/\vs.size=os.length/\w.ownsRow cx.w0.heap.size ty 1 s idx.length us/\(∀ u∈us,u.oneCell'=true) /\
   (∀ k (n:k<idx.length),(idx[k]=none->Rep w (Sg cx.S0 cx.w0.heap.size γ) G0 (.mapv []) (us.getD k undef))/\∀ j,idx[k]=some j->j<os.length/\us.getD k undef=vs.getD j undef)/\(∀ j (h:j<os.length),os[j]≠.hole/\NRep w (Sg cx.S0 cx.w0.heap.size γ) cx.w0.heap.size (vs.getD j undef) os[j])/\DisB (B5 s) vs:=by
 have e:=g.me id;rw [m] at e;obtain ⟨d,l,s,vs,us,i,r⟩:=e;subst i;exact ⟨s,vs,us,l,r⟩
variable {v:Value}
theorem y5h {S:Nat->Prop}{d:Dv}{g:Option Nat}(h:Rep w S γ (.der d id) v)(i:γ id=some (some (g,s))):d.ok s=true/\v=d.of s:=by
 cases h with
 |der h e=>rw [i] at h;injection h with h;exact e g s h.symm
theorem zyp {γ':Gam}{τ:AS}{a:Act}{w':World}{dst:Option Nat}{q:Nat}{U X:Option (Option Nat×Value)}{e1 e:Ent}{av:AV}(t:StG cx γ τ a w)(hd:∀ x,dst=some x->cx.E.np<=x/\x<cx.nt)(O:id≠q)(G:γ id=some U)(C:γ' id=some X)(F:Turn γ' id U)(g:∀ i,i≠id->i≠q->γ' i=γ i)
  (hq:∀ x,γ q=some x->γ' q=some none) (y:∀ b,own γ' b ↔ own γ b) (z:∀ b d,γ' q=some d->b∈blks d->b ∉ blks X/\(∀ i p,i≠id->i≠q->γ i=some p->b ∉ blks p)) (M:∀ i p b,i≠id->i≠q->γ i=some p->b∈blks p->b ∉ blks X)
  (L:w.heap.size<=w'.heap.size) (D:∀ k,k ∉ blks U->w'.heap[k]? = w.heap[k]?) (Q:Below cx.w0.heap.size w w') (aa:w.drawn<=w'.drawn)
  (hn:(∀ b,Sg cx.S0 cx.w0.heap.size γ b->b<w.heap.size->w'.heap[b]? = w.heap[b]? /\ Sg cx.S0 cx.w0.heap.size γ' b)->Bj w' (Sg cx.S0 cx.w0.heap.size γ') γ' cx.w0.heap.size X e1)
  (he:(∀ b,Sg cx.S0 cx.w0.heap.size γ b->b<w.heap.size->w'.heap[b]? = w.heap[b]? /\ Sg cx.S0 cx.w0.heap.size γ' b)->∃ x,γ' q=some x/\Bj w' (Sg cx.S0 cx.w0.heap.size γ') γ' cx.w0.heap.size x e)
  (hv:Rep w' (Sg cx.S0 cx.w0.heap.size γ') γ' av v):St cx (τ.upd dst av [(id,e1),(q,e)]) (a.put dst v) w':=by
 have u:∀ b,b∈blks U->own γ b:=fun b T=>⟨id,_,G,T⟩
 have Y:∀ b,Sg cx.S0 cx.w0.heap.size γ b->b ∉ blks U:=fun b W e=>by
  have I:=u b e;rcases W with ⟨_,h⟩|⟨_,h⟩
  ·have:=(t.ge b I).1.1;omega
  ·exact h I
 have ab:∀ b,Sg cx.S0 cx.w0.heap.size γ b->Sg cx.S0 cx.w0.heap.size γ' b:=fun b T=>T.elim aD (fun ⟨h1,l⟩=>aJ ⟨h1,fun I=>l ((y b).1 I)⟩)
 have Z:∀ b,Sg cx.S0 cx.w0.heap.size γ b->b<w.heap.size->w'.heap[b]? = w.heap[b]? /\ Sg cx.S0 cx.w0.heap.size γ' b:=fun b W _=>⟨D b (Y b W),ab b W⟩
 refine ⟨γ',t.step hd L Z (fun i x H=>?_) (fun i hi=>?_) (fun i e0 hi=>?_) (fun i n b d p hi j m B=>?_) (fun b T=>?_) (t.below.trans Q) hv (fun b N _=>⟨D b (fun e=>N (u b e)),fun I=>N ((y b).1 I)⟩) (fun _=>aa)⟩
 ·by_cases h1:i=id
  ·subst h1;rw [G] at H;injection H with H;subst H;exact aJ (aJ F)
  ·by_cases l:i=q
   ·subst l;exact aJ (aD (hq x H))
   ·exact aD ((g i h1 l).trans H)
 ·rw [Zs O] at hi;by_cases h1:i=id
  ·rw [if_pos h1] at hi;cases hi
  ·rw [if_neg h1] at hi;by_cases l:i=q
   ·rw [if_pos l] at hi;cases hi
   ·exact ⟨g i h1 l,fun b d hi hm=>D b (fun e=>h1 (t.inj _ _ _ _ _ hi G hm e))⟩
 ·rw [Zs O] at hi;by_cases h1:i=id
  ·subst h1;rw [if_pos rfl] at hi;injection hi with hi
   subst hi;exact ⟨_,C,hn Z⟩
  ·rw [if_neg h1] at hi;by_cases l:i=q
   ·subst l;rw [if_pos rfl] at hi;injection hi with hi
    subst hi;exact he Z
   ·rw [if_neg l] at hi;cases hi
 ·have sym:∀ i n d p,γ' i=some d->γ' n=some p->b∈blks d->b∈blks p->i=id->i=n:=fun i n d p hi j m B h1=>by
   subst h1;rw [C] at hi;injection hi with hi
   subst hi;by_cases l:n=i
   ·exact l.symm
   ·by_cases A:n=q
    ·subst A;exact absurd m (z b p j B).1
    ·rw [g n l A] at j;exact absurd m (M n p b l A j B)
  by_cases h1:i=id
  ·exact sym i n d p hi j m B h1
  ·by_cases l:n=id
   ·exact (sym n i p d j hi B m l).symm
   ·by_cases A:i=q
    ·by_cases J:n=q
     ·rw [A,J]
     ·subst A;rw [g n l J] at j;exact absurd B ((z b d hi m).2 n p l J j)
    ·by_cases J:n=q
     ·subst J;rw [g i h1 A] at hi;exact absurd m ((z b p j B).2 i d h1 A hi)
     ·rw [g i h1 A] at hi;rw [g n l J] at j;exact t.inj _ _ _ _ _ hi j m B
 ·have:=t.ge b ((y b).1 T);exact ⟨this.1,aM this.2 L⟩
theorem LeX.are {nt:Nat}{σ:AS}(r:Nat){m:Nat}(T:σ.find r=some (.row ty 1 (aT m (.mapv [])))):LeX E nt σ (σ.rpAll r Dr (.cont m r) (.are ty (aT m none) [])):=by
 refine LeX.rpAll r Dr (.cont m r) _ _ T (fun ty cs h=>by cases h) (fun cx γ a w d Q X W=>?_);obtain ⟨s,us,H,t,l,M,D,u⟩:=W;subst H;obtain ⟨A,z⟩:=Jd l;rw [aN] at l;have O:us.length=m:=by have:=l.1;omega
 have y:∀ k,k<m->Rep w (Sg cx.S0 cx.w0.heap.size γ) G0 (.mapv []) (us.getD k undef):=fun k G=>by
  have:=D k (by simpa using G) 0 (by simp [aV]);simp only [aX,aV,aY,Nat.mul_one,Nat.add_zero] at this;exact this
 refine ⟨arnV s #[],fun b I=>?_,fun S' Z Y=>⟨⟨s,#[],us,rfl,t,rfl,by rw [aN];exact l,u,fun k G=>?_,fun j h=>absurd h (by simp),fun i j b hi=>?_,fun i b _ hi=>?_⟩,fun γ' x v p q L N=>?_⟩⟩
 ·rcases mem_arnV.1 I with h|⟨j,h⟩
  ·exact (Eo A z).2 h
  ·simp [undef,B5] at h
 ·have F:k<m:=by simpa using G
  simp only [aX];exact ⟨fun _=>(y k F).mono (aB _) (fun b I _=>⟨rfl,Z b I⟩),fun j U=>by cases U⟩
 ·simp [undef,B5] at hi
 ·simp [undef,B5] at hi
 ·have B:x=.row r:=by
   cases x with
   |row i=>simp only [AV.leafId,aC] at L;rw [L]
   |_=>simp [Dr] at q
  subst B;have C:v=s:=N.row_inv X (Gg t);subst C;refine .cont p (fun g s' e=>?_) ?_
  ·injection e with e
   injection e with _ e
   subst e;simp only [Dv.of,con0]
  ·rcases l.2 with ⟨n,h0⟩|⟨g,J,aa,n,_⟩
   ·exact ⟨none,0,by rw [n,h0],fun h=>by omega⟩
   ·exact ⟨_,J,n,fun _=>⟨g,0,rfl⟩⟩
variable {x:Operand}
theorem zu0 {T k j:Nat}{i:TyI}(z:o.op=.load T x)(N:dok cx o=true)(n:A4 x=true)(D:σ.eval x=.der (.nelt k) id)(U:lkT cx.E.tab T=some i)(Q:i.shape.agg=false)(J:σ.find id=some (.are ty idx os))(L:idx[k]? = some (some j)) :
  Ah cx o σ (.der (.obj j) id) [id] [] :=
 Ba N fun τ γ a w h1 W m=>by
  have B:=m.ev x n;rw [h1 x (by simp [z,Op.operands]),D] at B;obtain ⟨s,vs,us,A,H,G,h,y,u,I,M⟩:=zrh m (by rw [W id (by simp)];exact J);obtain ⟨q,t⟩:=List.getElem?_eq_some_iff.1 L;obtain ⟨q1,C⟩:=(u k q).2 j t;refine ⟨vs.getD j undef,?_,.der A (fun g Z e=>?_)⟩
  ·have l:=h;rcases h.2 with ⟨_,h0⟩|⟨g,Y,X,p,_,hh,_⟩
   ·omega
   ·subst p;have F:a.eval x=.pointer (some ⟨g,0+k,none⟩):=by rw [B.der_inv A];simp only [Dv.of,con0]
    have O:=Mu l rfl k (by omega);have d:=Rb (cx.E.ok T i U) Q w ⟨g,0+k,none⟩ (us.getD k undef) (by rw [aO];exact O);rw [C] at d;simp only [execOp,z,F,Instr.loadAt,Instr.sureAddr,Sem.run_bind,Sem.run_pure,Result.andThen_ok,d]
  ·injection e with e
   injection e with _ e
   subst e;exact ⟨by simp [Dv.ok];omega,by simp only [Dv.of,con1]⟩
variable {ps:List (AV×AV)}
theorem y2x {τ:AS}{a:Act}{j:Nat}(q:γ id=some (arnV s vs))(n:vs.size=os.length)(e:∀ j (h:j<os.length),os[j]≠.hole/\NRep w (Sg cx.S0 cx.w0.heap.size γ) cx.w0.heap.size (vs.getD j undef) os[j])(m:Rep w (Sg cx.S0 cx.w0.heap.size γ) γ (.der (.obj j) id) v)(p:os[j]? = some (.mp ps)) :
  ∃ g d,v=.map (some g)/\vs.getD j undef=.map (some g)/\j<os.length/\De w (Sg cx.S0 cx.w0.heap.size γ) g d/\Ex d ps:=by
 obtain ⟨l,i⟩:=List.getElem?_eq_some_iff.1 p;have h:=(e j l).2;rw [i] at h;obtain ⟨g,d,h1,u,t⟩:=h;refine ⟨g,d,?_,h1,l,u,t⟩;rw [(y5h m q).2];simp only [Dv.of,con1,h1]
def PutQ (k x:AV)(ps ps':List (AV×AV)):Prop:=∀ d,Ex d ps->∃ e,Bt k (d.map (·.1)) 0=some e/\Ex (putK e k x d) ps'
theorem zeg {T kt et j:Nat}{y z:Operand}{i:TyI}{k xv:AV}{ps':List (AV×AV)}(n:o.op=.mapUpdate T x y z\/o.op=.insert T x y z)(hd:dok cx o=true)(aj:A4 x=true)(ai:A4 y=true)(ah:A4 z=true)(hx:σ.eval x=.der (.obj j) id)(hy:σ.eval y=k)(hz:σ.eval z=xv)(hl:σ.find id=some (.are ty idx os))(hj:os[j]? = some (.mp ps))
  (hT:lkT cx.E.tab T=some i) (hs:i.shape=.map kt et) (C:Bs cx.P kt k=true) (av:xv.closed=true) (al:PutQ k xv ps ps'):Ah cx o σ (.tup []) [id] [(id,.are ty idx (os.set j (.mp ps')))]:=by
 refine ⟨fun id e he=>D6 he,fun τ h1 h2 a w Q K ⟨γ,m⟩ hK=>C6 (fun c hc=>by rcases n with n|n<;>(rw [n] at hc;cases hc)) ?_⟩;have t:x∈o.op.operands/\y∈o.op.operands/\z∈o.op.operands:=by rcases n with n|n<;>simp [n,Op.operands]
 have ex:=m.ev x aj;rw [h1 x t.1,hx] at ex;have ey:=m.ev y ai;rw [h1 y t.2.1,hy] at ey;have ez:=m.ev z ah;rw [h1 z t.2.2,hz] at ez;obtain ⟨s,vs,us,B,ak,O,W,X,Z,F,L⟩:=zrh m (by rw [h2 id (by simp)];exact hl);obtain ⟨g,ag,hv,u,aw,hm,hp⟩:=y2x (τ:=τ) (a:=a) B O F ex hj;obtain ⟨r0,f1,f2⟩:=al ag hp;have ac:g∈blks (arnV s vs):=mem_arnV.2 (aJ ⟨j,by rw [u];rfl⟩);have I:own γ g:=⟨id,_,B,ac⟩;have ab:=m.ge g I;have A:∀ b,Sg cx.S0 cx.w0.heap.size γ b->b≠g:=fun b p e=>by
  subst e;rcases p with ⟨_,h⟩|⟨_,h⟩
  ·have:=ab.1.1;omega
  ·exact h I
 obtain ⟨M,U,an⟩:=zhn (Gh (cx.E.ok T i hT) hs) C (ey.flat (Rx C)) (ez.close av) hm f1 (fun p=>A g p rfl);have ar:(execOp a.eval o).run cx.P w=.ok .skip { w with heap:=w.heap.setIfInBounds g M }:=by
  rcases n with n|n<;>simp only [execOp,n,hv,Sem.run_bind,U,Result.andThen_ok,Sem.run_pure]
 unfold Oper.wp;rw [ar];have l:∀ k,k≠g->({ w with heap:=w.heap.setIfInBounds g M }:World).heap[k]? = w.heap[k]? := fun k C=>by simp [aE,Ne.symm C]
 have q:w.heap.size<=({ w with heap:=w.heap.setIfInBounds g M }:World).heap.size:=by simp
 have au:w.drawn<=({ w with heap:=w.heap.setIfInBounds g M }:World).drawn:=aB _;have ae:Below cx.w0.heap.size w ({ w with heap:=w.heap.setIfInBounds g M }:World):=⟨rfl,rfl,rfl,q,fun k C=>l k (by have:=ab.1.1;omega)⟩;generalize ({ w with heap:=w.heap.setIfInBounds g M }:World)=w' at *;refine hK _ _ ⟨γ,m.step (C2 hd) q (fun b p G=>⟨l b (A b p),p⟩) (fun id d h=>aD h) (fun N aa=>⟨rfl,fun g' s aq am=>l g' ?_⟩) (fun N e' J=>?_) m.inj (fun b ad=>⟨(m.ge b ad).1,aM (m.ge b ad).2 q⟩) (m.below.trans ae) (.tup #[] rfl (fun j hj=>absurd hj (by simp))) (fun b Y G=>⟨l b (fun e=>Y (e▸I)),Y⟩) (fun _=>au)⟩
 ·rintro rfl;have:=m.inj _ _ _ _ _ aq B am ac;subst this;simp [lkE] at aa
 ·have ap:N=id:=by have:=D6 J;simpa using this
  subst ap;simp only [lkE,aP,aC] at J;subst J;refine ⟨_,B,s,vs,us,rfl,ak,by rw [bE];exact O,W.moved (fun b hb=>l b (fun e=>L.2 j b hb (by rw [u,e];rfl))),X,fun k C=>⟨fun h=>((Z k C).1 h).mono q (fun b p G=>⟨l b (A b p),p⟩),fun D ao=>by rw [bE];exact (Z k C).2 D ao⟩,fun D h'=>?_,L⟩;have af:D < os.length:=by simpa using h'
  simp only [getElem_set];by_cases H:j=D
  ·subst H;rw [if_pos rfl];exact ⟨(by intro h;cases h),g,_,u,an,f2⟩
  ·rw [if_neg H];exact ⟨(F D af).1,(F D af).2.moved q (fun b p G=>⟨l b (A b p),p⟩) (fun b hb=>l b (fun e=>H (L.1 j D b (by rw [u,e];rfl) hb)))⟩
theorem zpl {T q k:Nat}{y:Operand}{i:TyI}(ho:o.op=.store T x y)(hd:dok cx o=true)(ap:A4 x=true)(ao:A4 y=true)(Y:σ.eval x=.der (.nelt k) id)(hy:σ.eval y=.row q)(hT:lkT cx.E.tab T=some i)(al:i.sz=1)(hl:σ.find id=some (.are ty idx os))(hq:σ.find q=some (.mp ps))(hk:k<idx.length)(ab:id≠q) :
  Ah cx o σ (.tup []) [id,q] [(id,.are ty (idx.set k (some os.length)) (os++[.mp ps])),(q,.dead)]:=by
 refine ⟨fun i e he=>zqm he,fun τ h1 B a w Q K ⟨γ,t⟩ hK=>C6 (fun c hc=>by rw [ho] at hc;cases hc) ?_⟩;have ex:=t.ev x ap;rw [h1 x (by simp [ho,Op.operands]),Y] at ex;have ey:=t.ev y ao;rw [h1 y (by simp [ho,Op.operands]),hy] at ey;obtain ⟨s,vs,us,hg,av,ag,X,ai,ak,aj,ad⟩:=zrh t (by rw [B id (by simp)];exact hl);obtain ⟨m,D,az,hm⟩:=Sm (id:=q) t (by rw [B q (by simp)];exact hq) ey;have ar:us.length=idx.length*1:=X.1;obtain ⟨g,H,p,aa,ae,hh,ac,aw,bb,au⟩:∃ g H p,s=.slice (some ⟨g,0,none⟩) idx.length H/\cx.w0.heap.size<=g/\w.heap[g]? = some (.cells p ty (0,0))/\idx.length<=H/\H<=maxLen/\p.size=H*1/\p.toList.take (idx.length*1)=us:=by
  rcases X.2 with ⟨_,h0⟩|h
  ·omega
  ·exact h
 have O:B5 s=some g:=by rw [aa];rfl
 have hv:a.eval x=.pointer (some ⟨g,0+k,none⟩):=by rw [ex.der_inv hg,aa];simp only [Dv.of,con0]
 have J:=Zg (cx.E.ok T i hT) w g (0+k) ty p (.map (some m)) hh (by rw [al];rfl) (by omega) (fun u Z=>by
  have:u=.map (some m):=by simpa [Value.cells] using Z
  rw [this];rfl)
 rw [show (Value.map (some m)).cells=#[.map (some m)] from rfl,al,aO] at J;generalize L:(p.toList.take k++(#[Value.map (some m)]:Array Value).toList++p.toList.drop (k+1)).toArray=d at J;have ay:(execOp a.eval o).run cx.P w=.ok .skip (w.setRow g d):=by
  rw [aO] at hv;simp only [execOp,ho,hv,az,Instr.storeAt,Instr.sureAddr,Sem.run_bind,Sem.run_pure,Result.andThen_ok,J]
 unfold Oper.wp;rw [ay];have am:=setRow_heap w g p d ty (0,0) hh;have z:∀ q,q≠g->(w.setRow g d).heap[q]? = w.heap[q]? := fun q hq=>setRow_other w g q _ hq
 have I:w.heap.size<=(w.setRow g d).heap.size:=by simp
 have ba:w.drawn<=(w.setRow g d).drawn:=aB _;have ax:own γ g:=⟨id,_,hg,mem_arnV.2 (aD O)⟩;have an:Below cx.w0.heap.size w (w.setRow g d):=⟨rfl,rfl,rfl,I,fun k hk=>z k (by have:=(t.ge g ax).1.1;omega)⟩;generalize w.setRow g d=w' at *;have A:∀ i,(vs.push (.map (some m))).getD i undef=if i=vs.size then .map (some m) else vs.getD i undef:=fun i=>by
  simp only [aG,Array.getElem?_push];by_cases h:i=vs.size
  ·rw [if_pos h,if_pos h];rfl
  ·rw [if_neg h,if_neg h]
 have aq:∀ j b,B5 (vs.getD j undef)=some b->j<vs.size:=fun j b h=>by
  rcases Nat.lt_or_ge j vs.size with h'|h'
  ·exact h'
  ·simp [Array.getD,Nat.not_lt.2 h',undef,B5] at h
 have bl:∀ i d' b,i≠id->γ i=some d'->b∈blks d'->B5 s≠some b/\∀ j,B5 (vs.getD j undef)≠some b:=fun i d' b hi U l =>
  ⟨fun e=>hi (t.inj _ _ _ _ _ U hg l (mem_arnV.2 (aD e))),fun j n=>hi (t.inj _ _ _ _ _ U hg l (mem_arnV.2 (aJ ⟨j,n⟩)))⟩
 obtain ⟨ah,W⟩:=bl q _ m (Ne.symm ab) D Bz;let γ':Gam:=fun i=>if i=id then some (arnV s (vs.push (.map (some m)))) else if i=q then some none else γ i
 have g1:γ' id=some (arnV s (vs.push (.map (some m)))):=if_pos rfl;have g2:γ' q=some none:=by show (if q=id then _ else if q=q then _ else _)=_;rw [if_neg (Ne.symm ab),if_pos rfl]
 have g3:∀ i,i≠id->i≠q->γ' i=γ i:=fun i h1 B=>by show (if i=id then _ else if i=q then _ else _)=_;rw [if_neg h1,if_neg B]
 have M:∀ b,b∈blks (arnV s (vs.push (.map (some m)))) ↔ b∈blks (arnV s vs)\/b=m:=fun b=>by
  rw [mem_arnV,mem_arnV];constructor
  ·rintro (h|⟨j,h⟩)
   ·exact aD (aD h)
   ·rw [A] at h;by_cases n:j=vs.size
    ·rw [if_pos n] at h;injection h with h;exact aJ h.symm
    ·rw [if_neg n] at h;exact aD (aJ ⟨j,h⟩)
  ·rintro ((h|⟨j,h⟩)|h)
   ·exact aD h
   ·exact aJ ⟨j,by rw [A,if_neg (by have:=aq j b h;omega)];exact h⟩
   ·exact aJ ⟨vs.size,by rw [A,if_pos rfl,h];rfl⟩
 refine hK _ _ (zyp (γ':=γ') (q:=q) (w':=w') t (C2 hd) ab hg g1 (zy0 g1 (fun j n=>⟨by simp;omega,by rw [A,if_neg (by omega)]⟩)) g3 (fun x Y=>g2) (fun b=>⟨fun ⟨i,x,hi,l⟩=>?_,fun ⟨i,x,hi,l⟩=>?_⟩) (fun b x Y l=>?_) (fun i d' b h1 B hi l hc=>?_) I (fun b l=>z b (fun e=>l (by rw [e];exact mem_arnV.2 (aD O)))) an ba (fun N=>?_) (fun N=>⟨_,g2,rfl⟩) (.tup #[] rfl (fun j n=>absurd n (by simp))))
 ·by_cases h1:i=id
  ·subst h1;rw [g1] at hi;injection hi with hi;subst hi
   rcases (M b).1 l with l|l
   ·exact ⟨_,_,hg,l⟩
   ·subst l;exact ⟨_,_,D,Bz⟩
  ·by_cases B:i=q
   ·subst B;rw [g2] at hi;injection hi with hi;subst hi;cases l
   ·rw [g3 i h1 B] at hi;exact ⟨i,x,hi,l⟩
 ·by_cases h1:i=id
  ·subst h1;rw [hg] at hi;injection hi with hi;subst hi
   exact ⟨_,_,g1,(M b).2 (aD l)⟩
  ·by_cases B:i=q
   ·subst B;rw [D] at hi;injection hi with hi;subst hi
    exact ⟨_,_,g1,(M b).2 (aJ (Nc rfl l))⟩
   ·exact ⟨i,x,(g3 i h1 B).trans hi,l⟩
 ·rw [g2] at Y;injection Y with Y;subst Y;cases l
 ·obtain ⟨q1,q2⟩:=bl i d' b h1 hi l;rcases (M b).1 hc with h|h
  ·rcases mem_arnV.1 h with h|⟨j,h⟩
   ·exact q1 h
   ·exact q2 j h
  ·subst h;exact B (t.inj _ _ _ _ _ hi D l Bz)
 ·have af:d.toList.take (idx.length*1)=us.set k (.map (some m)):=by
   rw [<-L,<-au,set_eq_take_append_cons_drop,if_pos (by simp;omega)];have:=zj0 p.toList [Value.map (some m)] k (idx.length*1) (by simp;omega) (by simp;omega);simpa using this
  refine ⟨s,vs.push (.map (some m)),us.set k (.map (some m)),rfl,av,by simp [ag],⟨by simp [ar],aJ ⟨g,H,d,by rw [bE];exact aa,ae,am,by simpa using ac,aw,?_,by simpa using af⟩⟩,fun u Z=>?_,fun j n=>?_,fun j n=>?_,fun i j b hi n=>?_,fun i b l hi=>?_⟩
  ·rw [<-L];have:=Zp p.toList [Value.map (some m)] k (by simp;omega);simpa [bb] using this
  ·rcases mem_or_eq_of_mem_set Z with Z|Z
   ·exact ai u Z
   ·rw [Z];rfl
  ·have G:j<idx.length:=by simpa using n
   simp only [getElem_set,length_append,length_cons,length_nil];by_cases F:k=j
   ·subst F;rw [if_pos rfl];refine ⟨fun h=>(by cases h),fun j' C=>?_⟩;injection C with C
    subst C;refine ⟨by omega,?_⟩;rw [aK,getElem?_set_self (by omega),A,if_pos ag.symm];rfl
   ·rw [if_neg F];have e:(us.set k (Value.map (some m))).getD j undef=us.getD j undef:=by rw [aK,getElem?_set_ne F,<-aK]
    rw [e];refine ⟨fun h=>((ak j G).1 h).mono I N,fun j' C=>?_⟩;obtain ⟨q1,q2⟩:=(ak j G).2 j' C;exact ⟨by omega,by rw [q2,A,if_neg (by omega)]⟩
  ·simp only [length_append,length_cons,length_nil] at n;rw [A];by_cases F:j=vs.size
   ·rw [if_pos F];have e:(os++[NE.mp ps])[j]'(by simp;omega)=NE.mp ps:=by rw [getElem_append_right (by omega)];simp
    rw [e];exact ⟨(by intro h;cases h),m,ps,rfl,hm.move I N (z m (fun e=>ah (by rw [O,e]))),aD rfl⟩
   ·have G:j<os.length:=by omega
    rw [if_neg F,getElem_append_left G];exact ⟨(aj j G).1,(aj j G).2.moved I N (fun b l=>z b (fun e=>ad.2 j b (by rw [O,e]) l))⟩
  ·rw [A] at hi n;by_cases h1:i=vs.size
   ·by_cases B:j=vs.size
    ·rw [h1,B]
    ·rw [if_pos h1] at hi;rw [if_neg B] at n;injection hi with hi;subst hi;exact absurd n (W j)
   ·by_cases B:j=vs.size
    ·rw [if_neg h1] at hi;rw [if_pos B] at n;injection n with n;subst n;exact absurd hi (W i)
    ·rw [if_neg h1] at hi;rw [if_neg B] at n;exact ad.1 i j b hi n
  ·rw [A] at hi;by_cases h1:i=vs.size
   ·rw [if_pos h1] at hi;injection hi with hi;subst hi;exact ah l
   ·rw [if_neg h1] at hi;exact ad.2 i b l hi
end
section
variable {P:Program} {w:World} {S:Nat->Prop}
theorem zjq (es:Array MapEntry)(seen:Array Nat):(leftOf es seen).toList=Cj es seen:=by simp [leftOf,Cj]
theorem run_next_at (w:World)(ty:TypeId)(g bm since u:Nat)(seen:Array Nat)(es:Array MapEntry)(clock:Nat)(y:w.heap[g]? = some (.mapIter (some bm) since seen u))(C:w.heap[bm]? = some (.map es clock))(h:∀ x∈es.toList,x.born<since)(p:since<=u) :
  (Cj es seen=[]/\(Instr.next (.pointer (some ⟨g,0,none⟩)) false ty).run P w=.ok (.tuple #[.bool false]) w) \/
  ∃ e∈Cj es seen,∃ n,(Instr.next (.pointer (some ⟨g,0,none⟩)) false ty).run P w=.ok (.tuple #[.bool true,e.key,e.val]) { w with drawn:=w.drawn+n,heap:=w.heap.setIfInBounds g (.mapIter (some bm) since (seen.push e.born) clock) }:=by
 simp only [Instr.next,getObj,Sem.run_bind,Sem.run,y,C,Result.andThen,next_test_false seen es since u h p,aH,if_false];rw [<-zjq];unfold leftOf;have d:∀ x∈(bF (fun e=>!seen.contains e.born) es).toList,x.born<since:=fun x i=>h x (by simp at i ⊢;exact i.1)
 generalize bF (fun e=>!seen.contains e.born) es=L at d ⊢;have F:L.filter (fun x=>decide (x.born<since))=L:=Array.filter_eq_self.2 (fun x i=>by simpa using d x (by simpa using i));have D:L.filter (fun x=>decide (x.born ≥ since))=#[]:=by
  rw [Array.filter_eq_empty_iff];intro x i;have:=d x (by simpa using i);simp;omega
 simp only [F,D,Array.append_empty];by_cases A:L.size=0
 ·left;have:L=#[]:=Array.eq_empty_of_size_eq_zero A;subst this;refine ⟨rfl,?_⟩;simp [choose,Sem.run,Question.forced]
 ·right;have q:L.isEmpty=false:=by simp [Array.isEmpty,A]
  simp only [q,aH,if_false,Array.empty_append,Array.size_map];have t:∃ (j n:Nat),j<L.size/\(choose (Question.mapNext L.size)).run P w=.ok j { w with drawn:=w.drawn+n }:=by
   by_cases z:L.size<=1
   ·exact ⟨0,0,by omega,by simp [choose,Sem.run,Question.forced,z]⟩
   ·exact ⟨_,1,Nat.mod_lt _ (by omega),by
     simp only [choose,Sem.run,Question.forced,decide_eq_true_eq,z,if_false,Question.cut];rfl⟩
  obtain ⟨j,n,B,m⟩:=t;refine ⟨L[j],by simp,n,?_⟩;have l:∀ o':Obj,(setObj g o').run P { w with drawn:=w.drawn+n }=.ok () { w with drawn:=w.drawn+n,heap:=w.heap.setIfInBounds g o' }:=fun o'=>by
   simp only [setObj,Sem.run,y]
  simp only [m,Array.getElem?_map,Array.getElem?_eq_getElem B,bA,Sem.run_bind,l,Result.andThen];rfl
theorem zm2 (w:World)(ty:TypeId)(g a b:Nat)(s:Array Nat)(d:w.heap[g]? = some (.mapIter none a s b)):(Instr.next (.pointer (some ⟨g,0,none⟩)) false ty).run P w=.ok (.tuple #[.bool false]) w:=by
 simp only [Instr.next,getObj,Sem.run_bind,Sem.run,d,Result.andThen];rfl
theorem zm3 (w:World)(g bm since:Nat)(seen:Array Nat)(es:Array MapEntry)(clock:Nat)(e:MapEntry)(h:w.heap[g]? = some (.mapIter (some bm) since (seen.push e.born) clock))(l:w.heap[bm]? = some (.map es clock))(j:e∈es.toList)(d:(es.toList.map (·.born)).Nodup) :
  (Instr.entry (.pointer (some ⟨g,0,none⟩))).run P w=.ok (.tuple #[e.key,e.val]) w:=by
 have i:es.find? (·.born == e.born)=some e:=by rw [<-Array.find?_toList];exact find_born e es.toList d j
 simp only [Instr.entry,getObj,Sem.run_bind,Sem.run,h,l,Result.andThen,Array.back?_push,bne_self_eq_false,aH,if_false,i];rfl
variable {ps:List (AV×AV)}
theorem RepL.len0 {L:List MapEntry}(h:RepM w S L ps):L=[] ↔ ps=[]:=by
 obtain ⟨d,h1,e,_⟩:=h;have:=h1.length_eq;rw [<-aU,<-aU];omega
variable {es:Array MapEntry}{seen:Array Nat}
theorem zue (l:(es.toList.map (·.born)).Nodup){i:Nat}(hi:i<(Cj es seen).length):Cj es (seen.push (Cj es seen)[i].born)=(Cj es seen).eraseIdx i:=by
 have j:Cj es (seen.push (Cj es seen)[i].born)=(Cj es seen).filter fun e=>!(e.born == (Cj es seen)[i].born):=by
  generalize (Cj es seen)[i].born=b;unfold Cj;rw [filter_filter];congr 1;funext e;rw [contains_push];cases seen.contains e.born<;>simp
 rw [j];have d:((Cj es seen).map (·.born)).Nodup:=by
  unfold Cj;exact (filter_sublist.map _).nodup l
 generalize Cj es seen=L at *;clear j
 induction L generalizing i with
 |nil=>simp at hi
 |cons x r ih =>
  simp only [map_cons,nodup_cons] at d;cases i with
  |zero =>
   simp only [aY,eraseIdx_cons_zero,filter_cons,beq_self_eq_true,Bool.not_true,aH,if_false];rw [filter_eq_self];intro e m;have:e.born≠x.born:=fun h=>d.1 (h▸mem_map.2 ⟨e,m,rfl⟩)
   simpa using this
  |succ i =>
   have g:i<r.length:=by simpa using hi
   simp only [getElem_cons_succ,eraseIdx_cons_succ,filter_cons];have:x.born≠r[i].born:=fun h=>d.1 (h▸mem_map.2 ⟨r[i],getElem_mem _,rfl⟩)
   have n:(x.born == r[i].born)=false:=by simpa using this
   rw [n];simp only [Bool.not_false,if_true];rw [ih g d.2]
theorem Ry {α:Type}:∀ {l:List α} {i:Nat} (h:i<l.length),(l[i]::l.eraseIdx i).Perm l
 |x::r,0,_=>.refl _
 |x::r,i+1,h=>(Perm.swap x _ _).trans ((Ry (l:=r) (i:=i) (by simpa using h)).cons x)
theorem ItP.split {u clock:Nat}(z:(es.toList.map (·.born)).Nodup)(h:ItP w S ps es seen u clock):∃ j,∃ h:j<ps.length,ItC w S ps[j] (ps.eraseIdx j) es seen u clock:=by
 obtain ⟨B,seen0,e,hs,t,d,p,A,m⟩:=h;obtain ⟨i,hi,rfl⟩:=mem_iff_getElem.1 t;have g:i<d.length:=by omega
 have hm:d[i]∈ps:=p.mem_iff.1 (getElem_mem _);obtain ⟨j,q,l⟩:=mem_iff_getElem.1 hm;refine ⟨j,q,B,seen0,_,hs,(mem_filter.1 t).1,by rw [l];exact m i hi g,d.eraseIdx i,?_,?_⟩
 ·have y:d.Perm (d[i]::d.eraseIdx i):=(Ry g).symm;have n:ps.Perm (ps[j]::ps.eraseIdx j):=(Ry q).symm;rw [l] at n;exact Perm.cons_inv ((y.symm.trans p).trans n)
 ·rw [hs,zue z hi];refine ⟨by rw [aQ hi,aQ g,A],fun k h C=>?_⟩;rw [aZ,aZ];split
  ·exact m _ _ _
  ·exact m _ _ _
end
section
variable {cx:Cx} {o:Oper} {σ:AS}
variable {x:Operand}{ps:List (AV×AV)}
theorem y20 {T kt et d:Nat}{i:TyI}(G:o.op=.range T x)(O:o.dst=some d)(hd:dok cx o=true)(C:A4 x=true)(hx:σ.eval x=.mapv ps)(hT:lkT cx.E.tab T=some i)(hs:i.shape=.map kt et)(hn:σ.find d=none):Ah cx o σ (.ptr d 0) [d] [(d,.it ps)]:=by
 refine ⟨fun id e he=>D6 he,fun τ h1 h2 a w Q K ⟨γ,p⟩ hK=>C6 (fun c U=>by rw [G] at U;cases U) ?_⟩;have X:=p.ev x C;rw [h1 x (by simp [G,Op.operands]),hx] at X;have M:=Gh (cx.E.ok T i hT) hs;have key:∀ n:Obj,(Instr.range T (a.eval x)).run cx.P w=.ok (.pointer (some ⟨w.heap.size,0,none⟩)) (w.alloc n)->ItIs (w.alloc n) (Sg cx.S0 cx.w0.heap.size (γ.set d (some (some w.heap.size,.slice none 0 0)))) w.heap.size (ItL (w.alloc n) (Sg cx.S0 cx.w0.heap.size (γ.set d (some (some w.heap.size,.slice none 0 0)))) ps)->o.wp cx.P a w K Q:=fun n q H=>by
  have I:(execOp a.eval o).run cx.P w=.ok (.value (.pointer (some ⟨w.heap.size,0,none⟩))) (w.alloc n):=by
   simp only [execOp,G,Sem.run_bind,q,Result.andThen_ok,Sem.run_pure]
  unfold Oper.wp;rw [I];refine hK _ _ ⟨_,p.name (id:=d) (g:=w.heap.size) (s:=.slice none 0 0) (e:=.it ps) (C2 hd) (by rw [h2 d (by simp)];exact hn) ((Below.refl _ _).alloc (aB _) _) (aB _) (by simp) ?_ ?_⟩
  ·exact ⟨w.heap.size,rfl,H⟩
  ·exact .ptr (Gam.set_self _ _ _) (fun g s e=>by injection e with e;injection e with e _;injection e with e;rw [e])
 have z:∀ b,Sg cx.S0 cx.w0.heap.size γ b->b<w.heap.size->Sg cx.S0 cx.w0.heap.size (γ.set d (some (some w.heap.size,.slice none 0 0))) b:=fun b A m=>A.elim aD (fun ⟨Z,Y⟩=>aJ ⟨Z,fun ⟨i,s,hi,hm⟩=>by
  by_cases t:i=d
  ·subst t;rw [Gam.set_self] at hi;injection hi with hi;subst hi;have:=Nc rfl hm;omega
  ·rw [Gam.set_ne _ _ _ t] at hi;exact Y ⟨i,s,hi,hm⟩⟩)
 rcases mapv_val X with ⟨g,B,D,L,u,⟨es,clock,A,hl,y,N⟩,F⟩|⟨D,J⟩
 ·refine key (.mapIter (some g) clock #[] clock) (by rw [D];exact run_range_map w T kt et g es clock M A) (aD ⟨g,clock,#[],clock,es,clock,heap_alloc_new _ _,z g L u,by simp;omega,by rw [heap_alloc_old _ _ u];exact A,y.1,y.2,aB _,aB _,B,?_,?_⟩)
  ·rcases F with rfl|⟨F,_⟩
   ·exact .refl _
   ·exact F
  ·have l:Cj es #[]=es.toList:=by simp [Cj]
   have hm:∀ {av v},Rep w (Sg cx.S0 cx.w0.heap.size γ) G0 av v->Rep (w.alloc (.mapIter (some g) clock #[] clock)) (Sg cx.S0 cx.w0.heap.size (γ.set d (some (some w.heap.size,.slice none 0 0)))) G0 av v:=fun h=>h.mono (by simp) (fun b hS m=>⟨heap_alloc_old _ _ m,z b hS m⟩)
   exact ⟨by rw [l];simpa using hl,fun j h W=>⟨by simp only [l];exact hm (N j (by rw [<-l];exact h) W).1,by simp only [l];exact hm (N j (by rw [<-l];exact h) W).2⟩⟩
 ·subst J;refine key (.mapIter none 0 #[] 0) (by rw [D];exact run_range_nilMap w T kt et M) (aJ ⟨0,0,#[],heap_alloc_new _ _,[],.refl _,by simp [RepL,Cj]⟩)
theorem zx1 {τ:AS}{a:Act}{w:World}{e:Ent}{v:Value}(j:StG cx γ τ a w)(n:τ.find id=some e)(m:Rep w (Sg cx.S0 cx.w0.heap.size γ) γ (.ptr id 0) v)(p:∀ d,Bj w (Sg cx.S0 cx.w0.heap.size γ) γ cx.w0.heap.size d e->∃ g,d=some (some g,.slice none 0 0)) :
  ∃ g,γ id=some (some (some g,.slice none 0 0))/\v=.pointer (some ⟨g,0,none⟩)/\Bj w (Sg cx.S0 cx.w0.heap.size γ) γ cx.w0.heap.size (some (some g,.slice none 0 0)) e:=by
 have h:=j.me id;rw [n] at h;obtain ⟨d,i,l⟩:=h;obtain ⟨g,rfl⟩:=p d l;exact ⟨g,i,m.ptr_inv i,l⟩
theorem y38 {τ:AS}{a:Act}{w w':World}{g:Nat}{e:Ent}{av:AV}{v:Value}{dst:Option Nat}(i:StG cx γ τ a w)(M:∀ x,dst=some x->cx.E.np<=x/\x<cx.nt)(D:γ id=some (some (some g,.slice none 0 0)))(G:w.heap.size<=w'.heap.size)(u:∀ k,k≠g->w'.heap[k]? = w.heap[k]?)(N:Below cx.w0.heap.size w w')(F:w.drawn<=w'.drawn)
  (L:(∀ b,Sg cx.S0 cx.w0.heap.size γ b->b<w.heap.size->w'.heap[b]? = w.heap[b]? /\ Sg cx.S0 cx.w0.heap.size γ b)->Bj w' (Sg cx.S0 cx.w0.heap.size γ) γ cx.w0.heap.size (some (some g,.slice none 0 0)) e) (I:Rep w' (Sg cx.S0 cx.w0.heap.size γ) γ av v):St cx (τ.upd dst av [(id,e)]) (a.put dst v) w':=by
 have j:own γ g:=own.mk D;have B:=i.ge g j;have y:∀ b,Sg cx.S0 cx.w0.heap.size γ b->b≠g:=fun b t e=>by
  subst e;rcases t with ⟨_,h⟩|⟨_,h⟩
  ·have:=B.1.1;omega
  ·exact h j
 have H:∀ b,Sg cx.S0 cx.w0.heap.size γ b->b<w.heap.size->w'.heap[b]? = w.heap[b]? /\ Sg cx.S0 cx.w0.heap.size γ b:=fun b t _=>⟨u b (y b t),t⟩
 refine ⟨γ,i.step M G H (fun id d h=>aD h) (fun m p=>⟨rfl,fun O s C z=>u O ?_⟩) (fun m Q l=>?_) i.inj (fun b q=>⟨(i.ge b q).1,aM (i.ge b q).2 G⟩) (i.below.trans N) I (fun b n J=>⟨u b (fun e=>n (e▸j)),n⟩) (fun _=>F)⟩
 ·rintro rfl;have:=i.inj _ _ _ _ _ C D z Bz;subst this;simp [lkE] at p
 ·have A:m=id:=by have:=D6 l;simpa using this
  subst A;simp only [lkE,aP,aC] at l;subst l;exact ⟨_,D,L H⟩
theorem ztx (q:o.op=.next x false)(J:dok cx o=true)(p:A4 x=true)(F:σ.eval x=.ptr id 0)(I:σ.find id=some (.it [])):Ah cx o σ (.tup [.bool false]) [id] [] :=
 Ba J fun τ γ a w h1 L l=>by
  have y:=l.ev x p;rw [h1 x (by simp [q,Op.operands]),F] at y;obtain ⟨g,U,G,W,i,hi⟩:=zx1 l (by rw [L id (by simp)];exact I) y (fun d h=>by obtain ⟨g,h,_⟩:=h;exact ⟨g,h⟩);injection i with i
  injection i with i _
  injection i with i
  subst i;refine ⟨.tuple #[.bool false],?_,.tup #[.bool false] rfl (fun j t=>by have t:j<1:=t;have M:j=0:=(by omega);subst M;exact .bool _)⟩;have m:(Instr.next (a.eval x) false o.type).run cx.P w=.ok (.tuple #[.bool false]) w:=by
   rw [G];rcases hi with ⟨bm,since,seen,N,es,clock,n,D,T,C,Q,B,A,O,z⟩|⟨b,c,s,n,D⟩
   ·rcases run_next_at (P:=cx.P) w o.type g bm since N seen es clock n C B A with ⟨_,H⟩|⟨e,u,_⟩
    ·exact H
    ·have:=(RepL.len0 z).2 rfl;rw [this] at u;cases u
   ·exact zm2 w o.type g b c s n
  simp only [execOp,q,Sem.run_bind,m,Result.andThen_ok,Sem.run_pure]
theorem y47 (z:o.op=.next x false)(hd:dok cx o=true)(y:A4 x=true)(X:σ.eval x=.ptr id 0)(hl:σ.find id=some (.it ps))(p:ps≠[]):Ah cx o σ (.tup [.bool true,.any,.any]) [id] [(id,.itp ps)]:=by
 refine ⟨fun id e C=>D6 C,fun τ h1 h2 a w Q K ⟨γ,l⟩ hK=>C6 (fun c O=>by rw [z] at O;cases O) ?_⟩;have T:=l.ev x y;rw [h1 x (by simp [z,Op.operands]),X] at T;obtain ⟨g,N,Y,g',i,hi⟩:=zx1 l (by rw [h2 id (by simp)];exact hl) T (fun d h=>by obtain ⟨g,h,_⟩:=h;exact ⟨g,h⟩);injection i with i
 injection i with i _
 injection i with i
 subst i;rcases hi with ⟨bm,since,seen,c0,es,clock,J,u,I,H,W,G,U,F,D⟩|⟨b,c,s,J,u⟩
 ·rcases run_next_at (P:=cx.P) w o.type g bm since c0 seen es clock J H G U with ⟨h0,_⟩|⟨e,C,n,Z⟩
  ·exact absurd ((RepL.len0 D).1 h0) p
  ·have B:(execOp a.eval o).run cx.P w=.ok (.value (.tuple #[.bool true,e.key,e.val])) { w with drawn:=w.drawn+n,heap:=w.heap.setIfInBounds g (.mapIter (some bm) since (seen.push e.born) clock) }:=by
    simp only [execOp,z,Y,Sem.run_bind,Z,Result.andThen_ok,Sem.run_pure]
   unfold Oper.wp;rw [B];have t:=l.ge g (own.mk N);have m:∀ k,k≠g->(w.heap.setIfInBounds g (.mapIter (some bm) since (seen.push e.born) clock))[k]? = w.heap[k]? := fun k L=>by simp [aE,Ne.symm L]
   refine hK _ _ (y38 l (C2 hd) N (by simp) m ⟨rfl,rfl,rfl,by simp,fun k L=>m k (by have:=t.1.1;omega)⟩ (Nat.le_add_right _ _) (fun q=>?_) (.tup #[.bool true,e.key,e.val] rfl (fun j M=>?_)))
   ·refine ⟨g,rfl,aD ⟨bm,since,seen.push e.born,clock,es,clock,by simp [aE,t.2],u,by simpa using I,?_,W,G,F,F,rfl,seen,e,rfl,C,?_⟩⟩
    ·exact (q bm u I).1.trans H
    ·exact RepM.move D (by simp) (fun b hS A=>q b hS A)
   ·have M:j<3:=M;rcases j with _|_|_|j
    ·exact .bool _
    ·exact .any _
    ·exact .any _
    ·omega
 ·exact absurd ((RepL.len0 u).1 rfl) p
theorem y21 {p:AV×AV}(t:o.op=.entry x)(H:dok cx o=true)(n:A4 x=true)(C:σ.eval x=.ptr id 0)(F:σ.find id=some (.itc p ps)):Ah cx o σ (.tup [p.1,p.2]) [id] [] :=
 Ba H fun τ γ a w h1 I l=>by
  have z:=l.ev x n;rw [h1 x (by simp [t,Op.operands]),C] at z;obtain ⟨g,T,D,U,i,hi⟩:=zx1 l (by rw [I id (by simp)];exact F) z (fun d h=>by obtain ⟨g,h,_⟩:=h;exact ⟨g,h⟩);injection i with i
  injection i with i _
  injection i with i
  subst i;rcases hi with ⟨bm,since,seen,J,es,clock,q,Q,O,B,A,N,M,L,y,seen0,e,hs,G,m,_⟩|⟨b,c,s,q,y,seen0,e,hs,_⟩
  ·subst y;subst hs;refine ⟨.tuple #[e.key,e.val],by simp only [execOp,t,D,Sem.run_bind,zm3 w g bm since seen0 es J e q B G A,Result.andThen_ok,Sem.run_pure],.tup #[e.key,e.val] rfl (fun j u=>?_)⟩;have u:j<2:=u;rcases j with _|_|j
   ·exact m.1.open_
   ·exact m.2.open_
   ·omega
  ·simp at hs
end
section
variable {E:Env} {nt:Nat} {σ:AS} {R:Exit->AS->Prop} {K:List Bq}
variable {ps:List (AV×AV)}
theorem AW.itp {c:Code}(r:Nat)(N:σ.find r=some (.itp ps))(k:∀ j (h:j<ps.length),AW E nt R (.code c::K) .normal (σ.upd none .any [(r,.itc ps[j] (ps.eraseIdx j))])):AW E nt R (.code c::K) .normal σ:=⟨fun cx Q O a w m=>by
 obtain ⟨γ,h⟩:=m;have l:=h.me r;rw [N] at l;obtain ⟨d,y,g,u,hi⟩:=l;subst u;have i:∃ j,∃ h:j<ps.length,ItIs w (Sg cx.S0 cx.w0.heap.size γ) g (ItC w (Sg cx.S0 cx.w0.heap.size γ) ps[j] (ps.eraseIdx j)):=by
  rcases hi with ⟨bm,since,seen,T,es,clock,B,L,J,I,A,H,G,F,D⟩|⟨b,c,s,B,C,seen0,e,hs,_⟩
  ·obtain ⟨j,n,C⟩:=D.split A;exact ⟨j,n,aD ⟨bm,since,seen,T,es,clock,B,L,J,I,A,H,G,F,C⟩⟩
  ·simp at hs
 obtain ⟨j,n,q⟩:=i;refine (k j n).out cx Q O a w ⟨γ,h.step (dst:=none) (v:=undef) (fun x M=>by cases M) (aB _) (fun b z _=>⟨rfl,z⟩) (fun id d y=>aD y) (fun id _=>⟨rfl,fun _ _ _ _=>rfl⟩) (fun id e t=>?_) h.inj h.ge h.below (.any _) (fun b z _=>⟨rfl,z⟩) (fun _=>aB _)⟩;have p:id=r:=by have:=D6 t;simpa using this
 subst p;simp only [lkE,aP,aC] at t;subst t;exact ⟨_,y,g,rfl,q⟩⟩
theorem LeX.itc {p:AV×AV}(r:Nat)(G:σ.find r=some (.itc p ps)):LeX E nt σ (σ.upd none .any [(r,.it ps)]):=fun cx N M a w ⟨γ,h⟩=>by
 have i:=h.me r;rw [G] at i;obtain ⟨d,n,g,m,hi⟩:=i;subst m;refine ⟨γ,h.step (dst:=none) (v:=undef) (fun x F=>by cases F) (aB _) (fun b q _=>⟨rfl,q⟩) (fun id d n=>aD n) (fun id _=>⟨rfl,fun _ _ _ _=>rfl⟩) (fun id e j=>?_) h.inj h.ge h.below (.any _) (fun b q _=>⟨rfl,q⟩) (fun _=>aB _)⟩;have l:id=r:=by have:=D6 j;simpa using this
 subst l;simp only [lkE,aP,aC] at j;subst j;refine ⟨_,n,g,rfl,?_⟩;rcases hi with ⟨bm,since,seen,L,es,clock,t,D,C,B,A,z,y,u,J,seen0,e,hs,j,I,H⟩|⟨b,c,s,t,J,seen0,e,hs,_⟩
 ·exact aD ⟨bm,since,seen,L,es,clock,t,D,C,B,A,z,y,u,H⟩
 ·simp at hs
end
def aI (n:Int):AV:=.int .i64 n
theorem Cl (n:Int)(h:-9223372036854775808<=n/\n<=9223372036854775807):IntKind.i64.wrap n=n:=IntWalk.i64_in _ h
theorem y6f (h:vs.size=2):vs=#[vs.getD 0 undef,vs.getD 1 undef]:=by
 obtain ⟨l⟩:=vs
 match l,h with
 |[a,b],_=>rfl
theorem y6g (h:vs.size=1):vs=#[vs.getD 0 undef]:=by
 obtain ⟨l⟩:=vs
 match l,h with
 |[a],_=>rfl
section
variable {fr:Bool} {f:FuncId} {a b c res:AV}
theorem y6n {w w':World}(h:Below w.heap.size w w'):BelE E0 w w':=⟨h,fun h=>Bool.noConfusion (show false=true from h)⟩
end
end Go.Proofs.YthbogefcfhmpgaaGreat
