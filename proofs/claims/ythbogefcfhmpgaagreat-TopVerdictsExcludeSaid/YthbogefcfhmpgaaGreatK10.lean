/- What the walk knows of the program's types. -/
import Derived.Test.YthbogefcfhmpgaaGreatProg
import Derived.KernelRfl
import Derived.Test.YthbogefcfhmpgaaGreatK09
import Derived.Laws.IdiomRangeMap
set_option linter.unusedVariables false
set_option linter.unusedSimpArgs false
namespace Go.Proofs.YthbogefcfhmpgaaGreat
open List
abbrev fd (n:Nat):Nat×Nat×Option Bool:=(n,1,some false)
def tab:List (Nat×TyI):=[(3,⟨1,8,.int .i64 0,.int .i64⟩),(4,⟨1,1,.bool false,.bool⟩),(5,⟨1,1,.int .u8 0,.int .u8⟩),(9,⟨1,16,.string ByteArray.empty,.str⟩),(22,⟨1,24,.slice none 0 0,.slc 99 2 40⟩),(23,⟨1,24,.slice none 0 0,.slc 140 1 24⟩),(24,⟨1,24,.slice none 0 0,.slc 149 17 240⟩),(26,⟨4,64,.agg #[.int .i64 0,.int .i64 0,.slice none 0 0,.slice none 0 0],.strct [fd 0,fd 1,fd 2,fd 3]⟩),(28,⟨6,96,.agg #[.slice none 0 0,.int .i64 0,.int .i64 0,.slice none 0 0,.slice none 0 0,.int .i64 0],.strct [fd 0,(1,4,some true),fd 5]⟩),(29,⟨1,24,.slice none 0 0,.slc 37 5 56⟩),(35,⟨1,24,.slice none 0 0,.slc 144 3 32⟩),(37,⟨5,56,.agg #[.int .i64 0,.int .i64 0,.int .i64 0,.int .i64 0,.slice none 0 0],.strct [fd 0,fd 1,fd 2,fd 3,fd 4]⟩),(39,⟨4,48,.agg #[.int .i64 0,.int .i64 0,.slice none 0 0,.int .i64 0],.strct [fd 0,fd 1,fd 2,fd 3]⟩),(40,⟨1,8,.int .i64 0,.int .i64⟩),(43,⟨1,24,.slice none 0 0,.slc 3 1 8⟩),(44,⟨1,24,.slice none 0 0,.slc 4 1 1⟩),(49,⟨1,24,.slice none 0 0,.slc 90 3 56⟩),(50,⟨1,24,.slice none 0 0,.slc 64 1 24⟩),(55,⟨1,24,.slice none 0 0,.slc 49 1 24⟩),(57,⟨1,24,.agg #[.slice none 0 0],.strct [fd 0]⟩),(62,⟨1,24,.slice none 0 0,.slc 93 4 32⟩),(64,⟨1,24,.agg #[.slice none 0 0],.strct [fd 0]⟩),(68,⟨1,8,.nilFunc,.other⟩),(86,⟨3,24,.agg #[.int .i64 0,.int .i64 0,.int .i64 0],.strct [fd 0,fd 1,fd 2]⟩),(88,⟨1,24,.slice none 0 0,.slc 182 2 16⟩),(90,⟨3,56,.agg #[.int .i64 0,.slice none 0 0,.slice none 0 0],.strct [fd 0,fd 1,fd 2]⟩),(93,⟨4,32,.agg #[.int .i64 0,.int .i64 0,.int .i64 0,.int .i64 0],.strct [fd 0,(1,3,some true)]⟩),(95,⟨1,8,.nilFunc,.other⟩),(97,⟨1,24,.slice none 0 0,.slc 164 2 24⟩),(99,⟨2,40,.agg #[.string ByteArray.empty,.slice none 0 0],.strct [fd 0,fd 1]⟩),(111,⟨5,88,.agg #[.slice none 0 0,.int .i64 0,.int .i64 0,.slice none 0 0,.slice none 0 0],.strct [fd 0,(1,4,some true)]⟩),(112,⟨1,8,.map none,.map 3 4⟩),(113,⟨1,8,.map none,.map 3 4⟩),(115,⟨1,8,.nilFunc,.other⟩),(119,⟨2,16,.agg #[.map none,.map none],.strct [fd 0,fd 1]⟩),(121,⟨1,24,.slice none 0 0,.slc 112 1 8⟩),(128,⟨1,8,.pointer none,.other⟩),(135,⟨1,8,.map none,.map 86 4⟩),(138,⟨1,24,.slice none 0 0,.slc 216 11 112⟩),(140,⟨1,24,.agg #[.slice none 0 0],.strct [fd 0]⟩),(142,⟨1,24,.slice none 0 0,.slc 146 8 88⟩),(144,⟨3,32,.agg #[.int .i64 0,.int .i64 0,.string ByteArray.empty],.strct [fd 0,fd 1,fd 2]⟩),(146,⟨8,88,.agg #[.int .i64 0,.slice none 0 0,.int .i64 0,.int .i64 0,.int .i64 0,.int .i64 0,.int .i64 0,.string ByteArray.empty],.strct [fd 0,fd 1,fd 2,fd 3,fd 4,(5,3,some true)]⟩),(147,⟨1,24,.slice none 0 0,.slc 230 2 16⟩),(149,⟨17,240,.agg #[.int .i64 0,.int .i64 0,.int .i64 0,.int .i64 0,.int .i64 0,.slice none 0 0,.int .i64 0,.int .i64 0,.int .i64 0,.int .i64 0,.int .i64 0,.string ByteArray.empty,.slice none 0 0,.slice none 0 0,.slice none 0 0,.slice none 0 0,.slice none 0 0],.strct [fd 0,fd 1,fd 2,fd 3,(4,8,some true),fd 12,fd 13,fd 14,fd 15,fd 16]⟩),(151,⟨1,8,.nilFunc,.other⟩),(155,⟨1,8,.nilFunc,.other⟩),(158,⟨1,8,.nilFunc,.other⟩),(159,⟨1,8,.nilFunc,.other⟩),(160,⟨1,8,.nilFunc,.other⟩),(164,⟨2,24,.agg #[.string ByteArray.empty,.int .i64 0],.strct [fd 0,fd 1]⟩),(169,⟨1,24,.slice none 0 0,.slc 44 1 24⟩),(173,⟨1,24,.slice none 0 0,.slc 43 1 24⟩),(182,⟨2,16,.agg #[.int .i64 0,.int .i64 0],.strct [fd 0,fd 1]⟩),(190,⟨1,8,.nilFunc,.other⟩),(202,⟨1,8,.map none,.map 86 37⟩),(204,⟨5,72,.agg #[.int .i64 0,.int .i64 0,.slice none 0 0,.slice none 0 0,.map none],.strct [(0,4,some true),fd 4]⟩),(206,⟨1,8,.nilFunc,.other⟩),(211,⟨1,8,.nilFunc,.other⟩),(216,⟨11,112,.agg #[.int .i64 0,.int .i64 0,.int .i64 0,.int .i64 0,.slice none 0 0,.int .i64 0,.int .i64 0,.int .i64 0,.int .i64 0,.int .i64 0,.string ByteArray.empty],.strct [fd 0,fd 1,fd 2,(3,8,some true)]⟩),(220,⟨1,8,.nilFunc,.other⟩),(230,⟨2,16,.agg #[.int .i64 0,.int .i64 0],.strct [fd 0,fd 1]⟩),(250,⟨1,8,.map none,.map 9 4⟩),(253,⟨1,8,.nilFunc,.other⟩),(254,⟨1,8,.nilFunc,.other⟩),(258,⟨1,8,.nilFunc,.other⟩),(264,⟨1,8,.map none,.map 267 4⟩),(267,⟨2,16,.agg #[.int .i64 0,.int .i64 0],.strct [fd 0,fd 1]⟩),(269,⟨1,24,.slice none 0 0,.slc 29 1 24⟩),(271,⟨1,24,.agg #[.slice none 0 0],.strct [fd 0]⟩),(278,⟨1,8,.nilFunc,.other⟩),(281,⟨1,8,.int .u64 0,.int .u64⟩),(282,⟨1,8,.nilFunc,.other⟩),(285,⟨1,8,.nilFunc,.other⟩),(291,⟨1,8,.nilFunc,.other⟩),(305,⟨1,8,.nilFunc,.other⟩),(308,⟨1,8,.int .i64 0,.int .i64⟩),(318,⟨16,16,.agg #[.bool false,.bool false,.bool false,.bool false,.bool false,.bool false,.bool false,.bool false,.bool false,.bool false,.bool false,.bool false,.bool false,.bool false,.bool false,.bool false],.arr 16 4 1 (some false)⟩),(332,⟨1,8,.nilFunc,.other⟩),(336,⟨1,8,.nilFunc,.other⟩),(344,⟨1,8,.int .u64 0,.int .u64⟩),(348,⟨1,8,.pointer none,.other⟩),(356,⟨1,8,.map none,.map 3 368⟩),(359,⟨8,96,.agg #[.slice none 0 0,.int .i64 0,.int .i64 0,.int .i64 0,.int .i64 0,.int .i64 0,.slice none 0 0,.map none],.strct [(0,1,some true),fd 1,(2,5,some true),fd 7]⟩),(367,⟨1,8,.nilFunc,.other⟩),(368,⟨1,8,.nilFunc,.other⟩),(381,⟨5,48,.agg #[.int .i64 0,.int .i64 0,.int .i64 0,.int .i64 0,.string ByteArray.empty],.strct [fd 0,fd 1,(2,3,some true)]⟩),(389,⟨1,8,.nilFunc,.other⟩),(395,⟨1,8,.nilFunc,.other⟩),(396,⟨6,48,.agg #[.nilFunc,.nilFunc,.nilFunc,.nilFunc,.nilFunc,.nilFunc],.arr 6 395 1 (some false)⟩)]
def y5o (P:Program):List (Nat×TyI)->Prop |[]=>True |(t,i)::r=>TyOk P t i/\y5o P r
variable {P:Program}
theorem y5o.get:∀ {l:List (Nat×TyI)},y5o P l->∀ T i,lkT l T=some i->TyOk P T i
 |[],_,T,i,h=>by simp [lkT] at h
 |(t,j)::r,d,T,i,h=>by
  simp only [lkT] at h;split at h
  ·rename_i e;have:=Nat.eq_of_beq_eq_true e;subst this;injection h with h
   subst h;exact d.1
  ·exact d.2.get T i h
set_option maxRecDepth 100000 in
theorem y6v:y5o Tryz.prog tab:=by repeat' first|exact trivial|refine ⟨⟨by kernel_rfl,by kernel_rfl,by kernel_rfl⟩,?_⟩
theorem D7 (T:Nat)(i:TyI)(h:lkT tab T=some i):TyOk Tryz.prog T i:=y6v.get T i h
noncomputable def E0:Env:=⟨Tryz.prog,tab,fun T i h=>y6v.get T i h,by kernel_rfl,false,false,none,0,false⟩
noncomputable def E0d:Env:=⟨Tryz.prog,tab,fun T i h=>y6v.get T i h,by kernel_rfl,true,false,none,0,false⟩
variable {f:FuncId}
theorem Av {fn : Func}(e : E0.P.funcs[f]? = some fn)(d : (fn.name == "runtime.NumGoroutine") = false)(g : fn.body.isNone = false) : Cg E0 f := fun args w => by
 unfold callFunc;simp only [Sem.run_bind,run_program,Result.andThen_ok,e,d,g,Bool.false_eq_true,if_false,Sem.run_pure]
open Go.RowKit
open Nat renaming eq_of_beq_eq_true->aA,le_refl->aB,beq->aF,lt_of_lt_of_le->aM,zero_add->aO,beq_refl->aP,ble->bH,blt->bI
open Option.some renaming injEq->aC
open Or renaming inl->aD,inr->aJ
open _root_.Array renaming getElem?_setIfInBounds->aE,getD_eq_getD_getElem?->aG,size_append->aW,filter->bF
open Bool renaming false_eq_true->aH
open List renaming getD_eq_getElem?_getD->aK,length_replicate->aN,length_eraseIdx_of_lt->aQ,replicate->aT,length_eq_zero_iff->aU,getElem_replicate->aX,getElem_cons_zero->aY,getElem_eraseIdx->aZ,length_set->bE
open AV renaming closedL->aL,cells->aV,renL->bB,inML->bC
open Option renaming none_or->aR,map_some->bA
open AS renaming freeze->aS
noncomputable def E0p (np:Nat):Env:={ E0 with np:=np }
noncomputable def E0y (l:Nat)(R:Obj)(np:Nat):Env:={ E0 with np:=np,yl:=some (l,R) }
noncomputable def E0r:Env:={ E0 with rg:=true }
variable {me:List (Nat×Ent)}{res:AV}
theorem ConG.up {yl:Option (Nat×Obj)}{C:CalT}{args caps:List AV}{d:List (Nat×Ent)}(h:ConG P none C args caps me res d):ConG P yl C args caps me res d :=
 fun cx γ w vs cs h1 g _=>h cx γ w vs cs h1 g (fun x e=>by cases e)
variable {E E':Env}{avs:List AV}
theorem Con.env {fr:Bool}(g:E'.P=E.P)(l:E'.dr=false)(h:Con E fr f avs res):Con E' fr f avs res:=by
 refine ⟨by have:=h.1;unfold Cg at *;rw [g];exact this,fun S w vs m=>?_⟩;have:=h.2 S w vs m;rw [g];exact this.mono fun e w' ⟨v,h1,⟨p,_⟩,n⟩=>⟨v,h1,⟨p,fun d=>absurd (l.symm.trans d) (by simp)⟩,n⟩
variable {xs:List AV}{ty sz:Nat}
theorem ConT.env (d:E'.P=E.P)(h:ConT E f avs ty sz xs res):ConT E' f avs ty sz xs res:=by
 refine ⟨by have:=h.1;unfold Cg at *;rw [d];exact this,h.2.1,fun S w vs e=>?_⟩;rw [d];exact h.2.2 S w vs e
section
variable {α β:Type}
variable {k:α->Option β}{r:β}{find:Nat->Option Ent}{KR:AV->List Nat->List (Nat×Ent)->Prop}
theorem Ab.oM {o:Option α}{K:AV->Prop}{R:Nat->Nat->List AV->AV->Prop}(h:bnd o k=some r)
  (ps ps':List (Nat×Nat)) (cargs:List AV) (me:List (Nat×Ent)) (meF:α->List (Nat×Ent)) (resF:α->AV) (dead:List Nat) (q:∀ a,o=some a->ConG E.P E.yl (CalF E.P f 0) cargs [] me (resF a) (meF a)) (p:Cg E f) (d:E.dr=false) (e:bB (rho ps) cargs=avs) (l:bC (me.map (·.1)) cargs=true) (g:LeF find (rho ps) (me.map (·.1)) me)
  (n:∀ a,D6 find (rho ps) (rho ps') me (meF a) (resF a) dead) (m:∀ a,k a=some r->KR ((resF a).ren (rho ps')) (idsG (rho ps) (rho ps') me (meF a)) (wrG (rho ps') (meF a) dead)):Ab E f avs K R find KR:=by
 cases o with
 |none=>unfold bnd at h;cases h
 |some a=>exact .memo ps ps' cargs me (meF a) (resF a) dead p d (q a rfl) e l g (n a) (m a (by unfold bnd at h;exact h))
theorem B3.oM {o:Option α}{raw:List AV}{K:AV->Prop}{dst:Option Nat}(h:bnd o k=some r)
  (ps ps':List (Nat×Nat)) (cargs:List AV) (me:List (Nat×Ent)) (meF:α->List (Nat×Ent)) (resF:α->AV) (dead:List Nat) (q:∀ a,o=some a->ConG E.P E.yl (CalF E.P f 0) cargs [] me (resF a) (meF a)) (p:Cg E f) (d:E.dr=false) (e:bB (rho ps) cargs=raw) (l:bC (me.map (·.1)) cargs=true) (g:LeF find (rho ps) (me.map (·.1)) me)
  (n:∀ a,D6 find (rho ps) (rho ps') me (meF a) (resF a) dead) (m:∀ a,k a=some r->KR ((resF a).ren (rho ps')) (idsG (rho ps) (rho ps') me (meF a)) (wrG (rho ps') (meF a) dead)):B3 E f avs K raw find dst KR:=by
 cases o with
 |none=>unfold bnd at h;cases h
 |some a=>exact .memo ps ps' cargs me (meF a) (resF a) dead p d (q a rfl) e l g (n a) (m a (by unfold bnd at h;exact h))
theorem YldX.oM {o:Option α}{l:Nat}{T:Array Value}{raw e:List AV}(h:bnd o k=some r)
  (ps ps':List (Nat×Nat)) (cargs ccaps:List AV) (me:List (Nat×Ent)) (meF:α->List (Nat×Ent)) (resF:α->AV) (dead:List Nat) (z:∀ a,o=some a->ConG E.P E.yl (fun vs cs w R=>cs=T->CalY E.P l vs cs w R) cargs ccaps me (resF a) (meF a)) (d:E.dr=false) (m:bB (rho ps) cargs=raw) (g:bB (rho ps) ccaps=e) (q:bC (me.map (·.1)) cargs=true) (p:bC (me.map (·.1)) ccaps=true) (n:LeF find (rho ps) (me.map (·.1)) me)
  (u:∀ a,D6 find (rho ps) (rho ps') me (meF a) (resF a) dead) (t:∀ a,k a=some r->KR ((resF a).ren (rho ps')) (idsG (rho ps) (rho ps') me (meF a)) (wrG (rho ps') (meF a) dead)):YldX E l T raw e find KR:=by
 cases o with
 |none=>unfold bnd at h;cases h
 |some a=>exact .mk ps ps' cargs ccaps me (meF a) (resF a) dead d (z a rfl) m g q p n (u a) (t a (by unfold bnd at h;exact h))
variable {nt:Nat}
theorem RngX.oM {o:Option α}{gf:Nat}{g:List AV}{ps:Array Tmp}{a b:Code}{σ:AS}{K:AS->Prop}(h:bnd o k=some r)
  (pp d:List (Nat×Nat)) (ycaps ccaps:List AV) (me:List (Nat×Ent)) (meF:α->List (Nat×Ent)) (dead:List Nat)
  (e:∀ x,o=some x->∀ (l D:Nat) (fn:FuncId) (T:Array Value),T.size=nt->ConG E.P (some (l,.loop (recR fn T ps a b D))) (CalF E.P gf 0) (.yld l T ycaps::ccaps) [] me (.tup []) (meF x))
  (C:Cg E gf) (p:E.rg=true) (n:E.dr=false) (m:E.yl=none) (q:bB (rho pp) ccaps=g) (u:bC (me.map (·.1)) ccaps=true) (A:LeY σ (rho pp) (me.map (·.1)) 0 ycaps) (t:LeF σ.find (rho pp) (me.map (·.1)) me) (B:∀ x,D6 σ.find (rho pp) (rho d) me (meF x) (.tup []) dead)
  (z:∀ x,k x=some r->K (σ.upd none (.tup []) (wrG (rho d) (meF x) dead))):RngX E nt (.fn gf g) ps a b σ K:=by
 cases o with
 |none=>unfold bnd at h;cases h
 |some x=>exact .mk gf g rfl C p n m pp d ycaps ccaps me (meF x) dead q u A t (B x) (e x rfl) (z x (by unfold bnd at h;exact h))
variable {meF:α->List (Nat×Ent)}
theorem GX.o {x r:α}{fn:Func}{args:List AV}{σ:AS}{res:α->AV}(h:some x=some r)(k:GX E nt fn args me σ (res x) (meF x)):GX E nt fn args me σ (res r) (meF r):=by
 injection h with h;subst h;exact k
theorem BX.o {x r:α}{ycaps:List AV}{σ:AS}(h:some x=some r)(k:BX E nt ycaps me σ (meF x)):BX E nt ycaps me σ (meF r):=by
 injection h with h;subst h;exact k
end
section
variable {β:Type} {E:Env} {nt:Nat} {o:Oper} {σ:AS} {K:OpK}
def idb (s:ByteArray)(n:Int)(k:Int->Option β):Option β:=if 0<=n then (match y6l s n.toNat with|some b=>k b.toNat|none=>none) else none
theorem OpX.idb {s:ByteArray}{n:Int}{k:Int->Option β}{r:β}{T:Nat}{x y:Operand}{i:TyI}{kd:IntKind}(d:idb s n k=some r)(u:o.op=.index T x y)(A:dokN E nt o.dst=true)(g:A6 x=true)(e:A6 y=true)(q:σ.eval x=.str s)(p:σ.eval y=.int kd n)(C:lkT E.tab T=some i)
  (t:i.shape=.str) (z:∀ b,k b=some r->K (.int .u8 b) [] []):OpX E nt o σ K:=by
 unfold Proofs.YthbogefcfhmpgaaGreat.idb at d;split at d
 ·rename_i D;split at d
  ·rename_i b B;exact .mk _ _ _ (fun cx l h=>zt5 (m:=n.toNat) u (Al A l h) g e q p (by rw [l];exact C) t (by omega) B) (z _ d)
  ·cases d
 ·cases d
variable {α:Type}
def bld (l:List α)(k:List α->Option β):Option β:=k l
variable {k:List α->Option β}{ps:Array (Nat×Operand)}
theorem OpX.bld {l:List α}{r:β}(enc:α->AV){T n d e esz eb:Nat}{i ie:TyI}(O:bld l k=some r)(F:o.op=.buildSlice T n ps)(h:o.dst=some d)(M:dokN E nt o.dst=true)(N:lkT E.tab T=some i)(D:i.shape=.slc e esz eb)(L:lkT E.tab e=some ie)(C:aF esz 0=false)(G:bH (n*esz) 16777216=true)
  (m:D5 ie.zero.cells.toList=true) (p:bI 0 ie.zero.cells.size=true) (q:Fh σ ps=true) (z:aL (l.map enc)=true) (g:(l.map enc).length=n) (H:(l.map enc).all (fun x=>aF x.cells.length esz)=true)
  (J:De (fun j=>some (j*esz,esz)) (aT (n*esz) .any) (Ct σ ps)=some ((l.map enc).flatMap aV)) (u:σ.find d=none) (I:∀ B,k B=some r->K (.row d) (d::Fi (Ct σ ps)) [(d,.row e esz (B.map enc))]):OpX E nt o σ K :=
 .mk _ _ _ (fun cx A t=>z9e F h (Al M A t) (by rw [A];exact N) D (by rw [A];exact L) (nbne C) G (Fd m) p q z g H J u) (I l O)
def bldS (l:List α)(k:List α->Option β):Option β:=k l
theorem OpX.bldS {l:List α}{r:β}(enc:α->AV){T n e esz eb:Nat}{i ie:TyI}(L:Proofs.YthbogefcfhmpgaaGreat.bldS l k=some r)(B:o.op=.buildSlice T n ps)(I:dokN E nt o.dst=true)(J:lkT E.tab T=some i)(A:i.shape=.slc e esz eb)(H:lkT E.tab e=some ie)(z:aF esz 0=false)(C:bH (n*esz) 16777216=true)
  (g:D5 ie.zero.cells.toList=true) (h:bI 0 ie.zero.cells.size=true) (m:Fh σ ps=true) (q:aL (l.map enc)=true) (d:(l.map enc).length=n) (D:(l.map enc).all (fun x=>aF x.cells.length esz)=true)
  (G:De (fun j=>some (j*esz,esz)) (aT (n*esz) .any) (Ct σ ps)=some ((l.map enc).flatMap aV)) (F:∀ u,k u=some r->K (.sl esz (u.map enc)) (Fi (Ct σ ps)) []):OpX E nt o σ K :=
 .mk _ _ _ (fun cx t p=>zfj B (Al I t p) (by rw [t];exact J) A (by rw [t];exact H) (nbne z) C (Fd g) h m q d D G) (F l L)
end
noncomputable def E0b:Env:={ E0 with bl:=true }
noncomputable def E0q (np:Nat):Env:={ E0 with np:=np,bl:=true }
theorem ConC.env {inp:Bool}{d:List AV}{e g:Nat}(l:E'.P=E.P)(h:ConC inp E f avs ty sz xs e g d res):ConC inp E' f avs ty sz xs e g d res:=by
 refine ⟨by have:=h.1;unfold Cg at *;rw [l];exact this,h.2.1,fun S w0 w vs v us=>?_⟩;rw [l];exact h.2.2 S w0 w vs v us
section
variable {cx:Cx} {o:Oper} {σ:AS}
theorem zy7 {w:World}{S:Nat->Prop}{T kt et:TypeId}{k zA:AV}{vk vm z:Value}(ok:Bool)(m:P.underlying T=some (.map kt et))(e:Br P kt k=true)(g:Rep w S G0 k vk)(hm:vm=.map none)
  (l:(zeroValue et).run P w=.ok z w) (d:Rep w S G0 zA z):∃ v,Rep w S G0 (E3 zA [] none) v/\(Instr.lookup T vm vk ok).run P w=.ok (if ok then .tuple #[v,.bool (none:Option Nat).isSome] else v) w:=by
 subst hm;have n:=(z8q (P:=P) (w:=w) e g [] [] none rfl (fun j h=>absurd h (by simp)) rfl).1;refine ⟨z,d,?_⟩;cases ok<;>simp [Instr.lookup,run_underlying m,Nz _ e g,n,l,Result.andThen]
variable {ps:List (AV×AV)}
theorem mapv_val {γ:Gam}{w:World}{S:Nat->Prop}{v:Value}(e:Rep w S γ (.mapv ps) v):(∃ g d,v=.map (some g)/\S g/\g<w.heap.size/\Dg w S g d/\Ez d ps)\/(v=.map none/\ps=[]):=by
 cases e with
 |mapv d m g es clock u z t q n p e=>exact aD ⟨g,d,rfl,z,t,⟨es,clock,q,n,u,fun j h l=>⟨p j h l,e j h l⟩⟩,m⟩
 |mapn=>exact aJ ⟨rfl,rfl⟩
variable {x:Operand}
theorem zkc {T kt et:Nat}{y:Operand}{ok:Bool}{i ie:TyI}{k av:AV}{r:Option Nat}(t:o.op=.lookup T x y ok)(O:dok cx o=true)(p:A6 x=true)(n:A6 y=true)(M:σ.eval x=.mapv ps)(L:σ.eval y=k)
  (G:lkT cx.E.tab T=some i) (C:i.shape=.map kt et) (F:lkT cx.E.tab et=some ie) (h:O4 ie.zero=true) (m:Br cx.P kt k=true) (u:Bt k (ps.map (·.1)) 0=some r)
  (A:Sub (E3 (D4 ie.zero) ps r) av):Aj cx o σ (Gh av r.isSome ok) [] [] :=
 B8 O fun τ γ a w h1 X l=>by
  have H:=l.ev x p;rw [h1 x (by simp [t,Op.operands]),M] at H;have B:=l.ev y n;rw [h1 y (by simp [t,Op.operands]),L] at B;obtain ⟨v,d,e⟩:∃ v,Rep w (Sg cx.S0 cx.w0.heap.size γ) G0 (E3 (D4 ie.zero) ps r) v/\(Instr.lookup T (a.eval x) (a.eval y) ok).run cx.P w=.ok (if ok then .tuple #[v,.bool r.isSome] else v) w:=by
   rcases mapv_val H with ⟨g,J,q,_,_,hm,N⟩|⟨q,z⟩
   ·obtain ⟨I,W,U,Q⟩:=zhv N u;obtain ⟨v,d,e⟩:=zez (S:=Sg cx.S0 cx.w0.heap.size γ) (zA:=D4 ie.zero) ok (Fg (cx.E.ok T i G) C) m (B.flat (N8 m)) hm ((cx.E.ok et ie F).zeroV w) (X9 _ _ _ _ h) W;rw [U] at e;refine ⟨v,?_,by rw [q];exact e⟩;rw [<-Q];cases I<;>exact d
   ·subst z;simp only [map_nil,Bt,aC] at u;subst u;exact zy7 ok (Fg (cx.E.ok T i G) C) m (B.flat (w':=w) (S':=Sg cx.S0 cx.w0.heap.size γ) (γ':=G0) (N8 m)) q ((cx.E.ok et ie F).zeroV w) (X9 _ _ _ _ h)
  have d:=(d.open_ (γ':=γ)).sub A;refine ⟨(if ok then .tuple #[v,.bool r.isSome] else v),by simp only [execOp,t,Sem.run_bind,e,Result.andThen_ok,Sem.run_pure],?_⟩;cases ok with
  |false=>exact d
  |true =>
   simp only [Gh,if_true];refine .tup #[v,.bool r.isSome] rfl (fun j D=>?_);have D:j<2:=D;rcases j with _|_|j
   ·exact d
   ·exact .bool _
   ·omega
theorem zsx {T id q k t h:Nat}{i:TyI}{ty ety:TypeId}{ys:List AV}{el:AV}(J:o.op=.store T x (.tmp t))(M:dok cx o=true)(D:o.dst=none)(G:A6 x=true)(U:σ.eval x=.elt id sz k 0)(O:σ.get t=.row q)(hT:lkT cx.E.tab T=some i)(hi:i.sz=1)(Y:σ.find id=some (.row ty sz xs))(X:σ.find q=some (.row ety h ys))(C:id≠q)
  (n:xs[k]? = some el) (W:1<=sz) {el':AV} (L:el'.cells=.sl h ys::el.cells.drop 1) :
  Aj cx o σ (.tup []) [id,q] [(id,.row ty sz (xs.set k el')),(q,.dead)]:=by
 refine ⟨fun A e n=>?_,fun τ h1 N a w Q K I hK=>?_⟩
 ·simp only [lkE] at n;cases l:aF id A with
  |true=>simp [aA l]
  |false =>
   rw [l] at n;simp only at n;cases p:aF q A with
   |true=>simp [aA p]
   |false=>rw [p] at n;cases n
 have tx:τ.eval x=.elt id sz k 0:=by rw [h1 x (by simp [J,Op.operands]),U]
 have z:τ.get t=.row q:=by have:=h1 (.tmp t) (by simp [J,Op.operands]);simpa [AS.eval,O] using this
 have tl:τ.find id=some (.row ty sz xs):=by rw [N id (by simp),Y]
 have tq:τ.find q=some (.row ety h ys):=by rw [N q (by simp),X]
 have fr:St cx (τ.freeze t q h ys) a w:=LeX.freeze (E:=cx.E) (nt:=cx.nt) t q ety h ys z tq cx rfl rfl a w I;have g1:(τ.freeze t q h ys).eval x=.elt id sz k 0:=by
  cases x with
  |tmp u =>
   have F:u≠t:=fun e=>by
    subst e;have:τ.get u=.elt id sz k 0:=tx;rw [z] at this;cases this
   show (τ.freeze t q h ys).get u=_;have e:(τ.freeze t q h ys).get u=τ.get u:=by
    unfold aS AS.get;simp only [lkV];cases l:aF t u with
    |true=>exact absurd (aA l).symm F
    |false=>rfl
   rw [e];exact tx
  |_=>exact tx
 have g2:(τ.freeze t q h ys).eval (.tmp t)=.sl h ys:=by simp [AS.eval,aS,AS.get,lkV]
 have fnd:∀ j,j≠q->(τ.freeze t q h ys).find j=τ.find j:=fun j Z=>by
  unfold aS AS.find;simp only [lkE];cases l:aF q j with
  |true=>exact absurd (aA l).symm Z
  |false=>rfl
 have fndq:(τ.freeze t q h ys).find q=some .dead:=by simp [aS,AS.find,lkE]
 have g3:(τ.freeze t q h ys).find id=some (.row ty sz xs):=by rw [fnd id C,tl]
 have R:=zgz (cx:=cx) (o:=o) (σ:=τ.freeze t q h ys) (el':=el') J M G rfl g1 g2 hT g3 n (by rw [hi];rfl) (by rw [hi];omega) rfl rfl (by rw [hi];simpa [aV] using L);refine R.2 _ (fun _ _=>rfl) (fun _ _=>rfl) a w Q K fr (fun a' w' B=>hK a' w' ?_);obtain ⟨γ,m⟩:=B;rw [D] at m ⊢;have dq:γ q=some none:=by
  have:=m.me q;rw [AS.find_upd] at this;have e:lkE [(id,Ent.row ty sz (xs.set k el'))] q=none:=by
   simp only [lkE];cases l:aF id q with
   |true=>exact absurd (aA l) C
   |false=>rfl
  rw [e,aR,fndq] at this;obtain ⟨d,M,n⟩:=this;have n:d=none:=n;rw [M,n]
 refine ⟨γ,fun u=>?_,fun j=>?_,m.inj,m.ge,m.below,m.size,m.defers,m.gh,m.fr,m.dr⟩
 ·rw [AS.get_upd,if_neg (by simp)];have H:=m.tm u;rw [AS.get_upd,if_neg (by simp)] at H;by_cases F:t=u
  ·subst F;rw [z];exact .row dq (fun g s e _=>by cases e)
  ·have e:(τ.freeze t q h ys).get u=τ.get u:=by
    unfold aS AS.get;simp only [lkV];cases l:aF t u with
    |true=>exact absurd (aA l) F
    |false=>rfl
   rw [e] at H;exact H
 ·have hm:=m.me j;rw [AS.find_upd] at hm ⊢;simp only [lkE] at hm ⊢;cases l:aF id j with
  |true=>rw [l] at hm;exact hm
  |false =>
   rw [l] at hm;simp only [aR] at hm ⊢;cases p:aF q j with
   |true => 
    have:=aA p;subst this;exact ⟨none,dq,rfl⟩
   |false =>
    simp only [aR];rw [fnd j (fun e=>by subst e;simp at p)] at hm;exact hm
theorem ziy {cs:List AV}(h:o.op=.nilCheck x)(n:dok cx o=true)(d:A6 x=true)(l:σ.eval x=.ref cs):Aj cx o σ (.ref cs) [] [] :=
 B8 n fun τ γ a w h1 p e=>by
  have g:=e.ev x d;rw [h1 x (by simp [h,Op.operands]),l] at g;obtain ⟨b,off,m,_⟩:=g.ref_inv;refine ⟨a.eval x,by simp only [execOp,h,m,Sem.run_pure],g⟩
theorem ziz {id off:Nat}{cs:List AV}(q:o.op=.nilCheck x)(A:dok cx o=true)(l:A6 x=true)(t:σ.eval x=.ptr id off)(z:σ.find id=some (.box ty cs)):Aj cx o σ (.ptr id off) [id] [] :=
 B8 A fun τ γ a w h1 B e=>by
  have p:=e.ev x l;rw [h1 x (by simp [q,Op.operands]),t] at p;have h:=e.me id;rw [B id (by simp),z] at h;obtain ⟨d,n,g,vs,m,_⟩:=h;subst m;have u:=p.ptr_inv n;refine ⟨a.eval x,by simp only [execOp,q,u,Sem.run_pure],p⟩
end
section
variable {α β κ ν:Type} {E:Env} {nt:Nat} {o:Oper} {σ:AS} {K:OpK}
variable {x:Operand}
theorem OpX.nckR {cs:List AV}(h:o.op=.nilCheck x)(m:dokN E nt o.dst=true)(d:A6 x=true)(g:σ.eval x=.ref cs)(l:K (.ref cs) [] []):OpX E nt o σ K:=.mk _ _ _ (fun cx n e=>ziy h (Al m n e) d g) l
theorem OpX.nckP {id off:Nat}{cs:List AV}(h:o.op=.nilCheck x)(n:dokN E nt o.dst=true)(d:A6 x=true)(g:σ.eval x=.ptr id off)(l:σ.find id=some (.box ty cs))(m:K (.ptr id off) [id] []):OpX E nt o σ K:=.mk _ _ _ (fun cx p e=>ziz h (Al n p e) d g l) m
theorem OpX.str {e:Type}(er:e->AV){l:List (List e)}{m:Nat}{v:List e}{k:List (List e)->Option β}{r:β}{T t id q ety:Nat}{i:TyI}(g:stx l m (fun _=>v) k=some r)(G:o.op=.store T x (.tmp t))(d:o.dst=none)(J:dokN E nt o.dst=true)(p:A6 x=true)(D:σ.eval x=.elt id 1 m 0)(C:σ.get t=.row q)(L:lkT E.tab T=some i)(hi:i.sz=1)
  (H:σ.find id=some (.row ty 1 (l.map fun q=>.sl sz (q.map er)))) (F:σ.find q=some (.row ety sz (v.map er))) (z:aF id q=false) (I:∀ A,k A=some r->K (.tup []) [id,q] [(id,.row ty 1 (A.map fun q=>.sl sz (q.map er))),(q,.dead)]):OpX E nt o σ K:=by
 unfold stx at g;split at g
 ·rename_i y n;refine .mk _ _ _ (fun cx B u=>?_) (I _ g);have h:=zsx (cx:=cx) (el':=.sl sz (v.map er)) G (Al J B u) d p D C (by rw [B];exact L) hi H F (nbne z) (by rw [getElem?_map,n];rfl) (aB _) rfl;rw [map_set];exact h
 ·cases g
def mgv [DecidableEq κ](l:List (κ×ν))(k:κ)(z:ν)(c:ν->Bool->Option β):Option β:=c ((mlk l k).getD z) (mlk l k).isSome
theorem OpX.lkv [DecidableEq κ](ek:κ->AV)(er:ν->AV){l:List (κ×ν)}{k:κ}{z:ν}{ok:Bool}{c:ν->Bool->Option β}{r:β}{T kt et:Nat}{y:Operand}{i ie:TyI}(B:mgv l k z c=some r)(heq:∀ a b,eqK (ek a) (ek b)=some (decide (a=b)))(H:o.op=.lookup T x y ok)(M:dokN E nt o.dst=true)(m:A6 x=true)(g:A6 y=true)(F:σ.eval x=.mapv (l.map (encM ek er)))(D:σ.eval y=ek k)
  (O:lkT E.tab T=some i) (G:i.shape=.map kt et) (L:lkT E.tab et=some ie) (e:D5 ie.zero.cells.toList=true) (t:Br E.P kt (ek k)=true) (C:Sub (D4 ie.zero) (er z)) (I:∀ v b,c v b=some r->K (Gh (er v) b ok) [] []):OpX E nt o σ K:=by
 have h:=LkX.o (P:=E.P) (kt:=kt) (zA:=D4 ie.zero) (K:=fun av b=>K (Gh av b ok) [] []) ek er (show mgt l k z c=some r by unfold mgv at B;unfold mgt;exact B) t heq C (fun v b A=>I v b A);cases h with
 |mk q av b u J N n A =>
  subst N;exact .mk _ _ _ (fun cx d p=>zkc (ok:=ok) H (Al M d p) m g F D (by rw [d];exact O) G (by rw [d];exact L) (X4 e) (by rw [show cx.P=E.P by rw [<-d]];exact u) J n) A
theorem zwv (k:AV):∀ (l:List AV) (i:Nat),Bt k l (i+1)=(Bt k l i).map (·.map (· + 1))
 |[],i=>rfl
 |a::l,i=>by
  simp only [Bt];cases eqK k a with
  |none=>rfl
  |some b=>cases b with
   |true=>rfl
   |false=>exact zwv k l (i+1)
def LkC (n:Int)(z:AV)(qs:List (AV×AV))(K:AV->Prop):Prop:=∃ r av,Bt (.int .i64 n) (qs.map (·.1)) 0=some r/\Sub (E3 z qs r) av/\K av
variable {qs:List (AV×AV)}
theorem LkC.cons {n:Int}{z v:AV}{k:Nat}{K:AV->Prop}{x y:Option β}{r:β}(h:natc n k x y=some r)(g:x=some r->K v)(h1:y=some r->LkC n z qs K):LkC n z ((.int .i64 (k:Int),v)::qs) K:=by
 rw [Ns] at h;split at h
 ·rename_i e;refine ⟨some 0,v,?_,.refl _,g h⟩;simp only [map_cons,Bt,eqK,eq1,e];simp
 ·rename_i e;obtain ⟨q,av,m,d,l⟩:=h1 h;refine ⟨q.map (· + 1),av,?_,?_,l⟩
  ·simp only [map_cons,Bt,eqK,eq1];rw [decide_eq_false e];simp only [zwv,m,bA];rfl
  ·cases q with
   |none=>exact d
   |some j=>exact d
theorem OpX.lkc {n:Int}{T kt et:Nat}{y:Operand}{i ie:TyI}(u:o.op=.lookup T x y false)(q:σ.eval x=.mapv qs)(B:dokN E nt o.dst=true)(h:A6 x=true)(g:A6 y=true)(p:σ.eval y=.int .i64 n)
  (C:lkT E.tab T=some i) (t:i.shape=.map kt et) (A:lkT E.tab et=some ie) (e:D5 ie.zero.cells.toList=true) (m:Br E.P kt (.int .i64 n)=true) (z:LkC n (D4 ie.zero) qs fun av=>K av [] []):OpX E nt o σ K:=by
 obtain ⟨r,av,G,F,D⟩:=z;exact .mk _ _ _ (fun cx d l=>zkc (ok:=false) u (Al B d l) h g q p (by rw [d];exact C) t (by rw [d];exact A) (X4 e) (by rw [show cx.P=E.P by rw [<-d]];exact m) G F) D
end
def T7:AV->Bool |.ptr _ 0=>true |_=>false
def frb {β:Type}(r:Nat)(x:Option β):Option β:=x
section
variable {β:Type} {E:Env} {nt:Nat}
variable {cs:List AV}
theorem LeX.frb {σ:AS}(r:Nat)(H:σ.find r=some (.box ty cs))(L:aL cs=true):LeX E nt σ (σ.rpAll r T7 (.ref cs) .dead):=by
 refine LeX.rpAll r T7 _ _ _ H (fun ty cs h=>by cases h) (fun cx γ a w d G J I=>?_);obtain ⟨g,vs,A,l,F,z,m⟩:=I;subst A;refine ⟨none,(fun b l=>by cases l),fun S' M B=>⟨rfl,fun γ' x v C e D u=>?_⟩⟩;have q:x=.ptr r 0:=by
  cases x with
  |ptr i off=>cases off with
   |zero=>simp only [AV.leafId,aC] at D;rw [D]
   |succ n=>simp [T7] at e
  |_=>simp [T7] at e
 subst q;have t:v=.pointer (some ⟨g,0,none⟩):=by
  cases u with
  |ptr h u=>rw [J] at h;injection h with h;exact u _ _ h.symm
 subst t;refine .ref g 0 (fun j=>vs.getD j undef) (B g C0 (fun h=>by cases h)) l.lt (fun j p=>by rw [aO];exact Nf l j (by omega)) (fun j p=>?_) (fun j p=>m j (by omega));exact ((z j p).close (AV.closedL_at L j p)).mono (aB _) (fun b l _=>⟨rfl,M b l⟩)
variable {R:Exit->AS->Prop} {K:List Bu}
theorem AW.frb0 {c:Code}{σ:AS}(r:Nat)(d:σ.find r=some (.box ty cs))(e:aL cs=true)(k:AW E nt R (.code c::K) .normal (σ.rpAll r T7 (.ref cs) .dead)):AW E nt R (.code c::K) .normal σ:=AW.weaken (LeX.frb r d e) k
theorem AW.frbO {id:Nat}{c:Code}{σ:AS}{x:Option β}{y:β}(h:Proofs.YthbogefcfhmpgaaGreat.frb id x=some y)(r:Nat)(d:σ.find r=some (.box ty cs))(e:aL cs=true)(k:x=some y->AW E nt R (.code c::K) .normal (σ.rpAll r T7 (.ref cs) .dead)):AW E nt R (.code c::K) .normal σ:=AW.weaken (LeX.frb r d e) (k h)
end
section
variable {α β:Type} {E:Env} {nt:Nat} {o:Oper} {σ:AS} {K:OpK}
theorem OpX.bldR {l:List α}{k:List α->Option β}{r:β}(enc:α->AV){T n d e esz eb:Nat}{ps:Array (Nat×Operand)}{i ie:TyI}{fl:List AV}{ag:Bool}(X:Proofs.YthbogefcfhmpgaaGreat.bld l k=some r)(L:o.op=.buildSlice T n ps)(m:o.dst=some d)(Q:dokN E nt o.dst=true)(W:lkT E.tab T=some i)(J:i.shape=.slc e esz eb)(O:lkT E.tab e=some ie)(H:aF esz 0=false)(M:bH (n*esz) 16777216=true)
  (p:D5 ie.zero.cells.toList=true) (q:bI 0 ie.zero.cells.size=true) (u:Fh σ ps=true) (U:ie.shape.agg=ag) (F:De (fun j=>some (j*esz,esz)) (aT (n*esz) .any) (Ct σ ps)=some fl) (t:Et ag esz n fl=xs) (G:(ag || (aF esz 1 && fl.all zwf))=true) (B:aL xs=true) (h:SubR xs (l.map enc))
  (A:σ.find d=none) (N:∀ D,k D=some r->K (.row d) (d::Fi (Ct σ ps)) [(d,.row e esz (D.map enc))]):OpX E nt o σ K:=by
 have g:=zay _ _ _ _ F;rw [aN] at g;simp only [Bool.or_eq_true,Bool.and_eq_true] at G;obtain ⟨c1,c2,Z⟩:=zih ag esz _ fl g (G.imp id (fun ⟨h1,Y⟩=>⟨nbeq h1,Y⟩));subst t;refine .mk _ _ _ (fun cx C z=>Aj.weak (.cons _ (.row _ _ h) .nil) (z9e L m (Al Q C z) (by rw [C];exact W) J (by rw [C];exact O) (nbne H) M (Fd p) q u B c2 (by simp only [all_eq_true];intro x I;rw [Z x I];simp) (by rw [c1];exact F) A)) (N l X)
def bndM (t:Nat)(o:Option α)(k:α->Option β):Option β:=bnd o k
theorem Bc (t:Nat){o:Option α}{k:α->Option β}{r:β}(h:bndM t o k=some r):bnd o k=some r:=h
theorem Cn (t:Nat)(a:α)(k:α->Option β):bndM t (some a) k=k a:=by unfold bndM bnd;rfl
end
section
variable {α β γ:Type} {E:Env} {nt:Nat} {f:FuncId} {avs:List AV}
def bndP (o:Option α)(rl:α->Option γ)(kN:α->Option β)(kS:α->γ->Option β):Option β:=match o with|some a=>(match rl a with|some q=>kS a q|none=>kN a)|none=>none
theorem Ab.oP {o:Option α}{rl:α->Option γ}{kN:α->Option β}{kS:α->γ->Option β}{r:β}{fr:Bool}{K:AV->Prop}{R:Nat->Nat->List AV->AV->Prop}{find:Nat->Option Ent}{KR:AV->List Nat->List (Nat×Ent)->Prop}(h:bndP o rl kN kS=some r)(enc:α->AV)(encN:α->AV)(encS:α->γ->AV)(n:∀ a,rl a=none->enc a=encN a)(m:∀ a q,rl a=some q->enc a=encS a q)(g:∀ a,o=some a->Con E fr f avs (enc a))(l:∀ a,kN a=some r->K (encN a))(e:∀ a q,kS a q=some r->K (encS a q)):Ab E f avs K R find KR:=by
 unfold bndP at h;split at h
 ·rename_i a;split at h
  ·rename_i q d;exact .mk fr _ (g _ rfl) (by rw [m _ _ d];exact e _ _ h)
  ·rename_i d;exact .mk fr _ (g _ rfl) (by rw [n _ d];exact l _ h)
 ·cases h
end
attribute [irreducible] mgv bndP frb bndM
section
variable {β V:Type}
abbrev y8z (E:Env)(nt:Nat)(L:Nat->V->Option β)(S:V->AS):Prop:=∀ {R:Exit->AS->Prop} {K:List Bu} {σ:AS} {c:Code} {r:β} {n:Nat} {e:V} (_:L n e=some r) (_:LeX E nt σ (S e)) (_:∀ m v,L (m+1) v=some r->AW E nt (Cw (fun d=>∃ v',L m v'=some r/\LeX E nt d (S v')) (AW E nt R K)) [.code c] .normal (S v)),Ap E nt (fun next d=>AW E nt (Cw next (AW E nt R K)) [.code c] .normal d) σ
theorem LoopA.oT {nt:Nat}{L:Nat->V->Option β}{S:V->AS}(d:∀ v,L 0 v=none):y8z E nt L S:=fun h e round=>LoopA.o h d e round
end
section
variable {β:Type}
theorem RetX.oA {v:AV}{a r:β}{enc:β->AV}(h:some a=some r)(d:Sub v (enc a):=by (repeat' first|exact Sub.nil _|exact Sub.refl _|refine Sub.agg ?_|refine Sub.tup ?_|refine Sub.fn ?_|exact SubL.nil|refine SubL.cons ?_ ?_|refine Sub.sl _ ?_|exact SubE.nil|refine SubE.cons ?_ ?_)<;>fail)(d:Sub v (enc a):=by (repeat' first|exact Sub.nil _|exact Sub.refl _|refine Sub.agg ?_|refine Sub.tup ?_|refine Sub.fn ?_|exact SubL.nil|refine SubL.cons ?_ ?_|refine Sub.sl _ ?_|exact SubE.nil|refine SubE.cons ?_ ?_)<;>fail):RetX v (enc r):=RetX.o h d
theorem LeX.a {nt:Nat}{σ τ:AS}(ps:List (Nat×Nat))(h:injB (rho ps) (τ.me.map (·.1))=true:=by rfl)(h1:LeV σ (rho ps) (τ.me.map (·.1)) τ.tm:=by (repeat' first|exact trivial|exact rfl|refine ⟨?_,?_⟩)<;>fail)(d:LeE σ (rho ps) (τ.me.map (·.1)) τ.me:=by (repeat' first|exact trivial|exact rfl|refine ⟨?_,?_⟩)<;>fail):LeX E nt σ τ:=LeX.of ps h h1 d
end
def arnV (s:Value)(vs:Array Value):Option (Option Nat×Value):=some (none,.agg (#[s]++vs))
variable {s:Value}{vs:Array Value}
theorem mem_arnV {b:Nat}:b∈blks (arnV s vs) ↔ Bb s=some b\/∃ j,Bb (vs.getD j undef)=some b:=by
 rw [show blks (arnV s vs)=blks (nstV s vs) from rfl];exact mem_nstV
theorem con1 (x:Value)(vs:Array Value)(j:Nat):(#[x]++vs).getD (j+1) undef=vs.getD j undef:=by
 rw [aG,aG,Array.getElem?_append_right (by simp)];simp
variable {γ:Gam}{id:Nat}
theorem y2w {e:Array Value}(h:γ id=some (arnV s e))(l:∀ j,j<vs.size->j<e.size/\e.getD j undef=vs.getD j undef):Turn γ id (arnV s vs) :=
 ⟨_,_,rfl,h,rfl,rfl,fun m d=>by
  cases m with
  |obj j =>
   simp only [Dv.ok,Nat.blt_eq,aW] at d ⊢;have h1:j<vs.size:=by simp at d;omega
   obtain ⟨n,g⟩:=l j h1;exact ⟨by simp;omega,by simp only [Dv.of,con1,g]⟩
  |oelt j k =>
   simp only [Dv.ok,Nat.blt_eq,aW] at d ⊢;have h1:j<vs.size:=by simp at d;omega
   obtain ⟨n,g⟩:=l j h1;exact ⟨by simp;omega,by simp only [Dv.of,con1,g]⟩
  |_=>exact ⟨rfl,by simp only [Dv.of,con0]⟩⟩
section
variable {cx:Cx} {o:Oper} {σ:AS}
variable {w:World}{idx:List (Option Nat)}{os:List NE}
theorem zo2 {τ:AS}{a:Act}(g:StG cx γ τ a w)(n:τ.find id=some (.are ty idx os)) :
  ∃ s vs us,γ id=some (arnV s vs)/\s.oneCell'=true/\vs.size=os.length/\w.ownsRow cx.w0.heap.size ty 1 s idx.length us/\(∀ u∈us,u.oneCell'=true) /\
   (∀ k (p:k<idx.length),(idx[k]=none->Rep w (Sg cx.S0 cx.w0.heap.size γ) G0 (.mapv []) (us.getD k undef))/\∀ j,idx[k]=some j->j<os.length/\us.getD k undef=vs.getD j undef)/\(∀ j (h:j<os.length),os[j]≠.hole/\NRep w (Sg cx.S0 cx.w0.heap.size γ) cx.w0.heap.size (vs.getD j undef) os[j])/\DisB (Bb s) vs:=by
 have e:=g.me id;rw [n] at e;obtain ⟨d,m,s,vs,us,l,r⟩:=e;subst l;exact ⟨s,vs,us,m,r⟩
variable {v:Value}
theorem yap {S:Nat->Prop}{d:Dv}{g:Option Nat}(h:Rep w S γ (.der d id) v)(l:γ id=some (some (g,s))):d.ok s=true/\v=d.of s:=by
 cases h with
 |der h e=>rw [l] at h;injection h with h;exact e g s h.symm
theorem y3l {γ':Gam}{τ:AS}{a:Act}{w':World}{dst:Option Nat}{q:Nat}{Y d1:Option (Option Nat×Value)}{e1 e:Ent}{av:AV}(u:StG cx γ τ a w)(hd:∀ x,dst=some x->cx.E.np<=x/\x<cx.nt)(U:id≠q)(I:γ id=some Y)(F:γ' id=some d1)(H:Turn γ' id Y)(g:∀ i,i≠id->i≠q->γ' i=γ i)
  (hq:∀ x,γ q=some x->γ' q=some none) (A:∀ b,own γ' b ↔ own γ b) (B:∀ b d,γ' q=some d->b∈blks d->b ∉ blks d1/\(∀ i t,i≠id->i≠q->γ i=some t->b ∉ blks t)) (O:∀ i t b,i≠id->i≠q->γ i=some t->b∈blks t->b ∉ blks d1)
  (N:w.heap.size<=w'.heap.size) (G:∀ k,k ∉ blks Y->w'.heap[k]? = w.heap[k]?) (W:Below cx.w0.heap.size w w') (ab:w.drawn<=w'.drawn)
  (hn:(∀ b,Sg cx.S0 cx.w0.heap.size γ b->b<w.heap.size->w'.heap[b]? = w.heap[b]? /\ Sg cx.S0 cx.w0.heap.size γ' b)->Bo w' (Sg cx.S0 cx.w0.heap.size γ') γ' cx.w0.heap.size d1 e1)
  (he:(∀ b,Sg cx.S0 cx.w0.heap.size γ b->b<w.heap.size->w'.heap[b]? = w.heap[b]? /\ Sg cx.S0 cx.w0.heap.size γ' b)->∃ x,γ' q=some x/\Bo w' (Sg cx.S0 cx.w0.heap.size γ') γ' cx.w0.heap.size x e)
  (hv:Rep w' (Sg cx.S0 cx.w0.heap.size γ') γ' av v):St cx (τ.upd dst av [(id,e1),(q,e)]) (a.put dst v) w':=by
 have z:∀ b,b∈blks Y->own γ b:=fun b X=>⟨id,_,I,X⟩
 have aa:∀ b,Sg cx.S0 cx.w0.heap.size γ b->b ∉ blks Y:=fun b Z e=>by
  have L:=z b e;rcases Z with ⟨_,h⟩|⟨_,h⟩
  ·have:=(u.ge b L).1.1;omega
  ·exact h L
 have ac:∀ b,Sg cx.S0 cx.w0.heap.size γ b->Sg cx.S0 cx.w0.heap.size γ' b:=fun b X=>X.elim aD (fun ⟨h1,n⟩=>aJ ⟨h1,fun L=>n ((A b).1 L)⟩)
 have hk:∀ b,Sg cx.S0 cx.w0.heap.size γ b->b<w.heap.size->w'.heap[b]? = w.heap[b]? /\ Sg cx.S0 cx.w0.heap.size γ' b:=fun b Z _=>⟨G b (aa b Z),ac b Z⟩
 refine ⟨γ',u.step hd N hk (fun i x J=>?_) (fun i hi=>?_) (fun i e0 hi=>?_) (fun i p b d t hi l m D=>?_) (fun b X=>?_) (u.below.trans W) hv (fun b Q _=>⟨G b (fun e=>Q (z b e)),fun L=>Q ((A b).1 L)⟩) (fun _=>ab)⟩
 ·by_cases h1:i=id
  ·subst h1;rw [I] at J;injection J with J;subst J;exact aJ (aJ H)
  ·by_cases n:i=q
   ·subst n;exact aJ (aD (hq x J))
   ·exact aD ((g i h1 n).trans J)
 ·rw [zc3 U] at hi;by_cases h1:i=id
  ·rw [if_pos h1] at hi;cases hi
  ·rw [if_neg h1] at hi;by_cases n:i=q
   ·rw [if_pos n] at hi;cases hi
   ·exact ⟨g i h1 n,fun b d hi hm=>G b (fun e=>h1 (u.inj _ _ _ _ _ hi I hm e))⟩
 ·rw [zc3 U] at hi;by_cases h1:i=id
  ·subst h1;rw [if_pos rfl] at hi;injection hi with hi
   subst hi;exact ⟨_,F,hn hk⟩
  ·rw [if_neg h1] at hi;by_cases n:i=q
   ·subst n;rw [if_pos rfl] at hi;injection hi with hi
    subst hi;exact he hk
   ·rw [if_neg n] at hi;cases hi
 ·have sym:∀ i p d t,γ' i=some d->γ' p=some t->b∈blks d->b∈blks t->i=id->i=p:=fun i p d t hi l m D h1=>by
   subst h1;rw [F] at hi;injection hi with hi
   subst hi;by_cases n:p=i
   ·exact n.symm
   ·by_cases C:p=q
    ·subst C;exact absurd m (B b t l D).1
    ·rw [g p n C] at l;exact absurd m (O p t b n C l D)
  by_cases h1:i=id
  ·exact sym i p d t hi l m D h1
  ·by_cases n:p=id
   ·exact (sym p i t d l hi D m n).symm
   ·by_cases C:i=q
    ·by_cases M:p=q
     ·rw [C,M]
     ·subst C;rw [g p n M] at l;exact absurd D ((B b d hi m).2 p t n M l)
    ·by_cases M:p=q
     ·subst M;rw [g i h1 C] at hi;exact absurd m ((B b t l D).2 i d h1 C hi)
     ·rw [g i h1 C] at hi;rw [g p n M] at l;exact u.inj _ _ _ _ _ hi l m D
 ·have:=u.ge b ((A b).1 X);exact ⟨this.1,aM this.2 N⟩
theorem LeX.are {nt:Nat}{σ:AS}(r:Nat){m:Nat}(W:σ.find r=some (.row ty 1 (aT m (.mapv [])))):LeX E nt σ (σ.rpAll r Ds (.cont m r) (.are ty (aT m none) [])):=by
 refine LeX.rpAll r Ds (.cont m r) _ _ W (fun ty cs h=>by cases h) (fun cx γ a w d U Z Y=>?_);obtain ⟨s,us,I,t,l,N,F,u⟩:=Y;subst I;obtain ⟨B,A⟩:=Hj l;rw [aN] at l;have Q:us.length=m:=by have:=l.1;omega
 have z:∀ k,k<m->Rep w (Sg cx.S0 cx.w0.heap.size γ) G0 (.mapv []) (us.getD k undef):=fun k H=>by
  have:=F k (by simpa using H) 0 (by simp [aV]);simp only [aX,aV,aY,Nat.mul_one,Nat.add_zero] at this;exact this
 refine ⟨arnV s #[],fun b J=>?_,fun S' hS aa=>⟨⟨s,#[],us,rfl,t,rfl,by rw [aN];exact l,u,fun k H=>?_,fun j h=>absurd h (by simp),fun i j b hi=>?_,fun i b _ hi=>?_⟩,fun γ' x v p q M O=>?_⟩⟩
 ·rcases mem_arnV.1 J with h|⟨j,h⟩
  ·exact (En B A).2 h
  ·simp [undef,Bb] at h
 ·have G:k<m:=by simpa using H
  simp only [aX];exact ⟨fun _=>(z k G).mono (aB _) (fun b J _=>⟨rfl,hS b J⟩),fun j X=>by cases X⟩
 ·simp [undef,Bb] at hi
 ·simp [undef,Bb] at hi
 ·have C:x=.row r:=by
   cases x with
   |row i=>simp only [AV.leafId,aC] at M;rw [M]
   |_=>simp [Ds] at q
  subst C;have D:v=s:=O.row_inv Z (Gf t);subst D;refine .cont p (fun g s' e=>?_) ?_
  ·injection e with e
   injection e with _ e
   subst e;simp only [Dv.of,con0]
  ·rcases l.2 with ⟨n,h0⟩|⟨g,L,ab,n,_⟩
   ·exact ⟨none,0,by rw [n,h0],fun h=>by omega⟩
   ·exact ⟨_,L,n,fun _=>⟨g,0,rfl⟩⟩
variable {T j:Nat}{x:Operand}{i:TyI}
theorem zxs {k:Nat}(A:o.op=.load T x)(O:dok cx o=true)(n:A6 x=true)(F:σ.eval x=.der (.nelt k) id)(W:lkT cx.E.tab T=some i)(U:i.shape.agg=false)(L:σ.find id=some (.are ty idx os))(M:idx[k]? = some (some j)) :
  Aj cx o σ (.der (.obj j) id) [id] [] :=
 B8 O fun τ γ a w h1 X m=>by
  have C:=m.ev x n;rw [h1 x (by simp [A,Op.operands]),F] at C;obtain ⟨s,vs,us,B,I,H,h,z,u,J,N⟩:=zo2 m (by rw [X id (by simp)];exact L);obtain ⟨q,t⟩:=List.getElem?_eq_some_iff.1 M;obtain ⟨q1,D⟩:=(u k q).2 j t;refine ⟨vs.getD j undef,?_,.der B (fun g s' e=>?_)⟩
  ·have l:=h;rcases h.2 with ⟨_,h0⟩|⟨g,Z,Y,p,_,hh,_⟩
   ·omega
   ·subst p;have G:a.eval x=.pointer (some ⟨g,0+k,none⟩):=by rw [C.der_inv B];simp only [Dv.of,con0]
    have Q:=Nb l rfl k (by omega);have d:=S5 (cx.E.ok T i W) U w ⟨g,0+k,none⟩ (us.getD k undef) (by rw [aO];exact Q);rw [D] at d;simp only [execOp,A,G,Instr.loadAt,Instr.sureAddr,Sem.run_bind,Sem.run_pure,Result.andThen_ok,d]
  ·injection e with e
   injection e with _ e
   subst e;exact ⟨by simp [Dv.ok];omega,by simp only [Dv.of,con1]⟩
variable {ps:List (AV×AV)}
theorem y15 {τ:AS}{a:Act}(t:γ id=some (arnV s vs))(p:vs.size=os.length)(e:∀ j (h:j<os.length),os[j]≠.hole/\NRep w (Sg cx.S0 cx.w0.heap.size γ) cx.w0.heap.size (vs.getD j undef) os[j])(n:Rep w (Sg cx.S0 cx.w0.heap.size γ) γ (.der (.obj j) id) v)(q:os[j]? = some (.mp ps)) :
  ∃ g d,v=.map (some g)/\vs.getD j undef=.map (some g)/\j<os.length/\Dg w (Sg cx.S0 cx.w0.heap.size γ) g d/\Ez d ps:=by
 obtain ⟨m,l⟩:=List.getElem?_eq_some_iff.1 q;have h:=(e j m).2;rw [l] at h;obtain ⟨g,d,h1,z,u⟩:=h;refine ⟨g,d,?_,h1,m,z,u⟩;rw [(yap n t).2];simp only [Dv.of,con1,h1]
variable {y:Operand}
theorem zp6 {kt et:Nat}{ok:Bool}{ie:TyI}{k av:AV}{r:Option Nat}(t:o.op=.lookup T x y ok)(hd:dok cx o=true)(p:A6 x=true)(n:A6 y=true)(J:σ.eval x=.der (.obj j) id)(I:σ.eval y=k)(Q:σ.find id=some (.are ty idx os))(l:os[j]? = some (.mp ps))
  (hT:lkT cx.E.tab T=some i) (N:i.shape=.map kt et) (Y:lkT cx.E.tab et=some ie) (m:O4 ie.zero=true) (C:Br cx.P kt k=true) (X:Bt k (ps.map (·.1)) 0=some r)
  (z:Sub (E3 (D4 ie.zero) ps r) av):Aj cx o σ (Gh av r.isSome ok) [id] [] :=
 B8 hd fun τ γ a w h1 h2 e=>by
  have F:=e.ev x p;rw [h1 x (by simp [t,Op.operands]),J] at F;have D:=e.ev y n;rw [h1 y (by simp [t,Op.operands]),I] at D;obtain ⟨s,vs,us,W,M,q,A,B,U,u,Z⟩:=zo2 e (by rw [h2 id (by simp)];exact Q);obtain ⟨g,H,L,_,_,hm,O⟩:=y15 (τ:=τ) (a:=a) W q u F l;obtain ⟨G,f1,f2,f3⟩:=zhv O X;obtain ⟨v,d,h⟩:=zez (S:=Sg cx.S0 cx.w0.heap.size γ) (zA:=D4 ie.zero) ok (Fg (cx.E.ok T i hT) N) C (D.flat (N8 C)) hm ((cx.E.ok et ie Y).zeroV w) (X9 _ _ _ _ m) f1;rw [f2] at h;have d:Rep w (Sg cx.S0 cx.w0.heap.size γ) G0 (E3 (D4 ie.zero) ps r) v:=by rw [<-f3];cases G<;>exact d
  have d:=(d.open_ (γ':=γ)).sub z;refine ⟨(if ok then .tuple #[v,.bool r.isSome] else v),by simp only [execOp,t,L,Sem.run_bind,h,Result.andThen_ok,Sem.run_pure],?_⟩;cases ok with
  |false=>exact d
  |true =>
   simp only [Gh,if_true];refine .tup #[v,.bool r.isSome] rfl (fun j l=>?_);have l:j<2:=l;rcases j with _|_|j
   ·exact d
   ·exact .bool _
   ·omega
def PutQ (k x:AV)(ps ps':List (AV×AV)):Prop:=∀ d,Ez d ps->∃ e,Bt k (d.map (·.1)) 0=some e/\Ez (putK e k x d) ps'
theorem zh1 {kt et:Nat}{z:Operand}{k xv:AV}{ps':List (AV×AV)}(n:o.op=.mapUpdate T x y z\/o.op=.insert T x y z)(hd:dok cx o=true)(aj:A6 x=true)(ai:A6 y=true)(ah:A6 z=true)(hx:σ.eval x=.der (.obj j) id)(hy:σ.eval y=k)(hz:σ.eval z=xv)(hl:σ.find id=some (.are ty idx os))(hj:os[j]? = some (.mp ps))
  (hT:lkT cx.E.tab T=some i) (hs:i.shape=.map kt et) (C:Br cx.P kt k=true) (av:xv.closed=true) (al:PutQ k xv ps ps'):Aj cx o σ (.tup []) [id] [(id,.are ty idx (os.set j (.mp ps')))]:=by
 refine ⟨fun id e he=>Da he,fun τ h1 h2 a w Q K ⟨γ,m⟩ hK=>C9 (fun c hc=>by rcases n with n|n<;>(rw [n] at hc;cases hc)) ?_⟩;have t:x∈o.op.operands/\y∈o.op.operands/\z∈o.op.operands:=by rcases n with n|n<;>simp [n,Op.operands]
 have ex:=m.ev x aj;rw [h1 x t.1,hx] at ex;have ey:=m.ev y ai;rw [h1 y t.2.1,hy] at ey;have ez:=m.ev z ah;rw [h1 z t.2.2,hz] at ez;obtain ⟨s,vs,us,B,ak,O,W,X,Z,F,L⟩:=zo2 m (by rw [h2 id (by simp)];exact hl);obtain ⟨g,ag,hv,u,aw,hm,hp⟩:=y15 (τ:=τ) (a:=a) B O F ex hj;obtain ⟨r0,f1,f2⟩:=al ag hp;have ac:g∈blks (arnV s vs):=mem_arnV.2 (aJ ⟨j,by rw [u];rfl⟩);have I:own γ g:=⟨id,_,B,ac⟩;have ab:=m.ge g I;have A:∀ b,Sg cx.S0 cx.w0.heap.size γ b->b≠g:=fun b p e=>by
  subst e;rcases p with ⟨_,h⟩|⟨_,h⟩
  ·have:=ab.1.1;omega
  ·exact h I
 obtain ⟨M,U,an⟩:=zka (Fg (cx.E.ok T i hT) hs) C (ey.flat (N8 C)) (ez.close av) hm f1 (fun p=>A g p rfl);have ar:(execOp a.eval o).run cx.P w=.ok .skip { w with heap:=w.heap.setIfInBounds g M }:=by
  rcases n with n|n<;>simp only [execOp,n,hv,Sem.run_bind,U,Result.andThen_ok,Sem.run_pure]
 unfold Oper.wp;rw [ar];have l:∀ k,k≠g->({ w with heap:=w.heap.setIfInBounds g M }:World).heap[k]? = w.heap[k]? := fun k C=>by simp [aE,Ne.symm C]
 have q:w.heap.size<=({ w with heap:=w.heap.setIfInBounds g M }:World).heap.size:=by simp
 have au:w.drawn<=({ w with heap:=w.heap.setIfInBounds g M }:World).drawn:=aB _;have ae:Below cx.w0.heap.size w ({ w with heap:=w.heap.setIfInBounds g M }:World):=⟨rfl,rfl,rfl,q,fun k C=>l k (by have:=ab.1.1;omega)⟩;generalize ({ w with heap:=w.heap.setIfInBounds g M }:World)=w' at *;refine hK _ _ ⟨γ,m.step (C6 hd) q (fun b p G=>⟨l b (A b p),p⟩) (fun id d h=>aD h) (fun N aa=>⟨rfl,fun g' s aq am=>l g' ?_⟩) (fun N e' J=>?_) m.inj (fun b ad=>⟨(m.ge b ad).1,aM (m.ge b ad).2 q⟩) (m.below.trans ae) (.tup #[] rfl (fun j hj=>absurd hj (by simp))) (fun b Y G=>⟨l b (fun e=>Y (e▸I)),Y⟩) (fun _=>au)⟩
 ·rintro rfl;have:=m.inj _ _ _ _ _ aq B am ac;subst this;simp [lkE] at aa
 ·have ap:N=id:=by have:=Da J;simpa using this
  subst ap;simp only [lkE,aP,aC] at J;subst J;refine ⟨_,B,s,vs,us,rfl,ak,by rw [bE];exact O,W.moved (fun b hb=>l b (fun e=>L.2 j b hb (by rw [u,e];rfl))),X,fun k C=>⟨fun h=>((Z k C).1 h).mono q (fun b p G=>⟨l b (A b p),p⟩),fun D ao=>by rw [bE];exact (Z k C).2 D ao⟩,fun D h'=>?_,L⟩;have af:D < os.length:=by simpa using h'
  simp only [getElem_set];by_cases H:j=D
  ·subst H;rw [if_pos rfl];exact ⟨(by intro h;cases h),g,_,u,an,f2⟩
  ·rw [if_neg H];exact ⟨(F D af).1,(F D af).2.moved q (fun b p G=>⟨l b (A b p),p⟩) (fun b hb=>l b (fun e=>H (L.1 j D b (by rw [u,e];rfl) hb)))⟩
theorem zsy {q k:Nat}(ho:o.op=.store T x y)(hd:dok cx o=true)(ap:A6 x=true)(ao:A6 y=true)(Y:σ.eval x=.der (.nelt k) id)(hy:σ.eval y=.row q)(hT:lkT cx.E.tab T=some i)(al:i.sz=1)(hl:σ.find id=some (.are ty idx os))(hq:σ.find q=some (.mp ps))(hk:k<idx.length)(ab:id≠q) :
  Aj cx o σ (.tup []) [id,q] [(id,.are ty (idx.set k (some os.length)) (os++[.mp ps])),(q,.dead)]:=by
 refine ⟨fun i e he=>zty he,fun τ h1 B a w Q K ⟨γ,t⟩ hK=>C9 (fun c hc=>by rw [ho] at hc;cases hc) ?_⟩;have ex:=t.ev x ap;rw [h1 x (by simp [ho,Op.operands]),Y] at ex;have ey:=t.ev y ao;rw [h1 y (by simp [ho,Op.operands]),hy] at ey;obtain ⟨s,vs,us,hg,av,ag,X,ai,ak,aj,ad⟩:=zo2 t (by rw [B id (by simp)];exact hl);obtain ⟨m,D,az,hm⟩:=T5 (id:=q) t (by rw [B q (by simp)];exact hq) ey;have ar:us.length=idx.length*1:=X.1;obtain ⟨g,H,p,aa,ae,hh,ac,aw,bb,au⟩:∃ g H p,s=.slice (some ⟨g,0,none⟩) idx.length H/\cx.w0.heap.size<=g/\w.heap[g]? = some (.cells p ty (0,0))/\idx.length<=H/\H<=maxLen/\p.size=H*1/\p.toList.take (idx.length*1)=us:=by
  rcases X.2 with ⟨_,h0⟩|h
  ·omega
  ·exact h
 have O:Bb s=some g:=by rw [aa];rfl
 have hv:a.eval x=.pointer (some ⟨g,0+k,none⟩):=by rw [ex.der_inv hg,aa];simp only [Dv.of,con0]
 have J:=z51 (cx.E.ok T i hT) w g (0+k) ty p (.map (some m)) hh (by rw [al];rfl) (by omega) (fun u Z=>by
  have:u=.map (some m):=by simpa [Value.cells] using Z
  rw [this];rfl)
 rw [show (Value.map (some m)).cells=#[.map (some m)] from rfl,al,aO] at J;generalize L:(p.toList.take k++(#[Value.map (some m)]:Array Value).toList++p.toList.drop (k+1)).toArray=d at J;have ay:(execOp a.eval o).run cx.P w=.ok .skip (w.setRow g d):=by
  rw [aO] at hv;simp only [execOp,ho,hv,az,Instr.storeAt,Instr.sureAddr,Sem.run_bind,Sem.run_pure,Result.andThen_ok,J]
 unfold Oper.wp;rw [ay];have am:=setRow_heap w g p d ty (0,0) hh;have z:∀ q,q≠g->(w.setRow g d).heap[q]? = w.heap[q]? := fun q hq=>setRow_other w g q _ hq
 have I:w.heap.size<=(w.setRow g d).heap.size:=by simp
 have ba:w.drawn<=(w.setRow g d).drawn:=aB _;have ax:own γ g:=⟨id,_,hg,mem_arnV.2 (aD O)⟩;have an:Below cx.w0.heap.size w (w.setRow g d):=⟨rfl,rfl,rfl,I,fun k hk=>z k (by have:=(t.ge g ax).1.1;omega)⟩;generalize w.setRow g d=w' at *;have A:∀ i,(vs.push (.map (some m))).getD i undef=if i=vs.size then .map (some m) else vs.getD i undef:=fun i=>by
  simp only [aG,Array.getElem?_push];by_cases h:i=vs.size
  ·rw [if_pos h,if_pos h];rfl
  ·rw [if_neg h,if_neg h]
 have aq:∀ j b,Bb (vs.getD j undef)=some b->j<vs.size:=fun j b h=>by
  rcases Nat.lt_or_ge j vs.size with h'|h'
  ·exact h'
  ·simp [Array.getD,Nat.not_lt.2 h',undef,Bb] at h
 have bl:∀ i d' b,i≠id->γ i=some d'->b∈blks d'->Bb s≠some b/\∀ j,Bb (vs.getD j undef)≠some b:=fun i d' b hi U l =>
  ⟨fun e=>hi (t.inj _ _ _ _ _ U hg l (mem_arnV.2 (aD e))),fun j n=>hi (t.inj _ _ _ _ _ U hg l (mem_arnV.2 (aJ ⟨j,n⟩)))⟩
 obtain ⟨ah,W⟩:=bl q _ m (Ne.symm ab) D C0;let γ':Gam:=fun i=>if i=id then some (arnV s (vs.push (.map (some m)))) else if i=q then some none else γ i
 have g1:γ' id=some (arnV s (vs.push (.map (some m)))):=if_pos rfl;have g2:γ' q=some none:=by show (if q=id then _ else if q=q then _ else _)=_;rw [if_neg (Ne.symm ab),if_pos rfl]
 have g3:∀ i,i≠id->i≠q->γ' i=γ i:=fun i h1 B=>by show (if i=id then _ else if i=q then _ else _)=_;rw [if_neg h1,if_neg B]
 have M:∀ b,b∈blks (arnV s (vs.push (.map (some m)))) ↔ b∈blks (arnV s vs)\/b=m:=fun b=>by
  rw [mem_arnV,mem_arnV];constructor
  ·rintro (h|⟨j,h⟩)
   ·exact aD (aD h)
   ·rw [A] at h;by_cases n:j=vs.size
    ·rw [if_pos n] at h;injection h with h;exact aJ h.symm
    ·rw [if_neg n] at h;exact aD (aJ ⟨j,h⟩)
  ·rintro ((h|⟨j,h⟩)|h)
   ·exact aD h
   ·exact aJ ⟨j,by rw [A,if_neg (by have:=aq j b h;omega)];exact h⟩
   ·exact aJ ⟨vs.size,by rw [A,if_pos rfl,h];rfl⟩
 refine hK _ _ (y3l (γ':=γ') (q:=q) (w':=w') t (C6 hd) ab hg g1 (y2w g1 (fun j n=>⟨by simp;omega,by rw [A,if_neg (by omega)]⟩)) g3 (fun x Y=>g2) (fun b=>⟨fun ⟨i,x,hi,l⟩=>?_,fun ⟨i,x,hi,l⟩=>?_⟩) (fun b x Y l=>?_) (fun i d' b h1 B hi l hc=>?_) I (fun b l=>z b (fun e=>l (by rw [e];exact mem_arnV.2 (aD O)))) an ba (fun N=>?_) (fun N=>⟨_,g2,rfl⟩) (.tup #[] rfl (fun j n=>absurd n (by simp))))
 ·by_cases h1:i=id
  ·subst h1;rw [g1] at hi;injection hi with hi;subst hi
   rcases (M b).1 l with l|l
   ·exact ⟨_,_,hg,l⟩
   ·subst l;exact ⟨_,_,D,C0⟩
  ·by_cases B:i=q
   ·subst B;rw [g2] at hi;injection hi with hi;subst hi;cases l
   ·rw [g3 i h1 B] at hi;exact ⟨i,x,hi,l⟩
 ·by_cases h1:i=id
  ·subst h1;rw [hg] at hi;injection hi with hi;subst hi
   exact ⟨_,_,g1,(M b).2 (aD l)⟩
  ·by_cases B:i=q
   ·subst B;rw [D] at hi;injection hi with hi;subst hi
    exact ⟨_,_,g1,(M b).2 (aJ (Nu rfl l))⟩
   ·exact ⟨i,x,(g3 i h1 B).trans hi,l⟩
 ·rw [g2] at Y;injection Y with Y;subst Y;cases l
 ·obtain ⟨q1,q2⟩:=bl i d' b h1 hi l;rcases (M b).1 hc with h|h
  ·rcases mem_arnV.1 h with h|⟨j,h⟩
   ·exact q1 h
   ·exact q2 j h
  ·subst h;exact B (t.inj _ _ _ _ _ hi D l C0)
 ·have af:d.toList.take (idx.length*1)=us.set k (.map (some m)):=by
   rw [<-L,<-au,set_eq_take_append_cons_drop,if_pos (by simp;omega)];have:=zlu p.toList [Value.map (some m)] k (idx.length*1) (by simp;omega) (by simp;omega);simpa using this
  refine ⟨s,vs.push (.map (some m)),us.set k (.map (some m)),rfl,av,by simp [ag],⟨by simp [ar],aJ ⟨g,H,d,by rw [bE];exact aa,ae,am,by simpa using ac,aw,?_,by simpa using af⟩⟩,fun u Z=>?_,fun j n=>?_,fun j n=>?_,fun i j b hi n=>?_,fun i b l hi=>?_⟩
  ·rw [<-L];have:=zbz p.toList [Value.map (some m)] k (by simp;omega);simpa [bb] using this
  ·rcases mem_or_eq_of_mem_set Z with Z|Z
   ·exact ai u Z
   ·rw [Z];rfl
  ·have G:j<idx.length:=by simpa using n
   simp only [getElem_set,length_append,length_cons,length_nil];by_cases F:k=j
   ·subst F;rw [if_pos rfl];refine ⟨fun h=>(by cases h),fun j' C=>?_⟩;injection C with C
    subst C;refine ⟨by omega,?_⟩;rw [aK,getElem?_set_self (by omega),A,if_pos ag.symm];rfl
   ·rw [if_neg F];have e:(us.set k (Value.map (some m))).getD j undef=us.getD j undef:=by rw [aK,getElem?_set_ne F,<-aK]
    rw [e];refine ⟨fun h=>((ak j G).1 h).mono I N,fun j' C=>?_⟩;obtain ⟨q1,q2⟩:=(ak j G).2 j' C;exact ⟨by omega,by rw [q2,A,if_neg (by omega)]⟩
  ·simp only [length_append,length_cons,length_nil] at n;rw [A];by_cases F:j=vs.size
   ·rw [if_pos F];have e:(os++[NE.mp ps])[j]'(by simp;omega)=NE.mp ps:=by rw [getElem_append_right (by omega)];simp
    rw [e];exact ⟨(by intro h;cases h),m,ps,rfl,hm.move I N (z m (fun e=>ah (by rw [O,e]))),aD rfl⟩
   ·have G:j<os.length:=by omega
    rw [if_neg F,getElem_append_left G];exact ⟨(aj j G).1,(aj j G).2.moved I N (fun b l=>z b (fun e=>ad.2 j b (by rw [O,e]) l))⟩
  ·rw [A] at hi n;by_cases h1:i=vs.size
   ·by_cases B:j=vs.size
    ·rw [h1,B]
    ·rw [if_pos h1] at hi;rw [if_neg B] at n;injection hi with hi;subst hi;exact absurd n (W j)
   ·by_cases B:j=vs.size
    ·rw [if_neg h1] at hi;rw [if_pos B] at n;injection n with n;subst n;exact absurd hi (W i)
    ·rw [if_neg h1] at hi;rw [if_neg B] at n;exact ad.1 i j b hi n
  ·rw [A] at hi;by_cases h1:i=vs.size
   ·rw [if_pos h1] at hi;injection hi with hi;subst hi;exact ah l
   ·rw [if_neg h1] at hi;exact ad.2 i b l hi
end
section
variable {P:Program} {w:World} {S:Nat->Prop}
theorem zmj (es:Array MapEntry)(seen:Array Nat):(leftOf es seen).toList=Cm es seen:=by simp [leftOf,Cm]
theorem run_next_at (w:World)(ty:TypeId)(g bm since z:Nat)(seen:Array Nat)(es:Array MapEntry)(clock:Nat)(A:w.heap[g]? = some (.mapIter (some bm) since seen z))(F:w.heap[bm]? = some (.map es clock))(h:∀ x∈es.toList,x.born<since)(q:since<=z) :
  (Cm es seen=[]/\(Instr.next (.pointer (some ⟨g,0,none⟩)) false ty).run P w=.ok (.tuple #[.bool false]) w) \/
  ∃ e∈Cm es seen,∃ n,(Instr.next (.pointer (some ⟨g,0,none⟩)) false ty).run P w=.ok (.tuple #[.bool true,e.key,e.val]) { w with drawn:=w.drawn+n,heap:=w.heap.setIfInBounds g (.mapIter (some bm) since (seen.push e.born) clock) }:=by
 simp only [Instr.next,getObj,Sem.run_bind,Sem.run,A,F,Result.andThen,next_test_false seen es since z h q,aH,if_false];rw [<-zmj];unfold leftOf;have d:∀ x∈(bF (fun e=>!seen.contains e.born) es).toList,x.born<since:=fun x l=>h x (by simp at l ⊢;exact l.1)
 generalize bF (fun e=>!seen.contains e.born) es=L at d ⊢;have H:L.filter (fun x=>decide (x.born<since))=L:=Array.filter_eq_self.2 (fun x l=>by simpa using d x (by simpa using l));have G:L.filter (fun x=>decide (x.born ≥ since))=#[]:=by
  rw [Array.filter_eq_empty_iff];intro x l;have:=d x (by simpa using l);simp;omega
 simp only [H,G,Array.append_empty];by_cases C:L.size=0
 ·left;have:L=#[]:=Array.eq_empty_of_size_eq_zero C;subst this;refine ⟨rfl,?_⟩;simp [choose,Sem.run,Question.forced]
 ·right;have t:L.isEmpty=false:=by simp [Array.isEmpty,C]
  simp only [t,aH,if_false,Array.empty_append,Array.size_map];have u:∃ (j n:Nat),j<L.size/\(choose (Question.mapNext L.size)).run P w=.ok j { w with drawn:=w.drawn+n }:=by
   by_cases B:L.size<=1
   ·exact ⟨0,0,by omega,by simp [choose,Sem.run,Question.forced,B]⟩
   ·exact ⟨_,1,Nat.mod_lt _ (by omega),by
     simp only [choose,Sem.run,Question.forced,decide_eq_true_eq,B,if_false,Question.cut];rfl⟩
  obtain ⟨j,n,D,p⟩:=u;refine ⟨L[j],by simp,n,?_⟩;have m:∀ o':Obj,(setObj g o').run P { w with drawn:=w.drawn+n }=.ok () { w with drawn:=w.drawn+n,heap:=w.heap.setIfInBounds g o' }:=fun o'=>by
   simp only [setObj,Sem.run,A]
  simp only [p,Array.getElem?_map,Array.getElem?_eq_getElem D,bA,Sem.run_bind,m,Result.andThen];rfl
theorem zoz (w:World)(ty:TypeId)(g a b:Nat)(s:Array Nat)(d:w.heap[g]? = some (.mapIter none a s b)):(Instr.next (.pointer (some ⟨g,0,none⟩)) false ty).run P w=.ok (.tuple #[.bool false]) w:=by
 simp only [Instr.next,getObj,Sem.run_bind,Sem.run,d,Result.andThen];rfl
theorem zp0 (w:World)(g bm since:Nat)(seen:Array Nat)(es:Array MapEntry)(clock:Nat)(e:MapEntry)(h:w.heap[g]? = some (.mapIter (some bm) since (seen.push e.born) clock))(n:w.heap[bm]? = some (.map es clock))(m:e∈es.toList)(d:(es.toList.map (·.born)).Nodup) :
  (Instr.entry (.pointer (some ⟨g,0,none⟩))).run P w=.ok (.tuple #[e.key,e.val]) w:=by
 have l:es.find? (·.born == e.born)=some e:=by rw [<-Array.find?_toList];exact find_born e es.toList d m
 simp only [Instr.entry,getObj,Sem.run_bind,Sem.run,h,n,Result.andThen,Array.back?_push,bne_self_eq_false,aH,if_false,l];rfl
variable {ps:List (AV×AV)}
theorem RepL.len0 {L:List MapEntry}(h:RepM w S L ps):L=[] ↔ ps=[]:=by
 obtain ⟨d,h1,e,_⟩:=h;have:=h1.length_eq;rw [<-aU,<-aU];omega
variable {es:Array MapEntry}{seen:Array Nat}
theorem zy8 (m:(es.toList.map (·.born)).Nodup){i:Nat}(hi:i<(Cm es seen).length):Cm es (seen.push (Cm es seen)[i].born)=(Cm es seen).eraseIdx i:=by
 have l:Cm es (seen.push (Cm es seen)[i].born)=(Cm es seen).filter fun e=>!(e.born == (Cm es seen)[i].born):=by
  generalize (Cm es seen)[i].born=b;unfold Cm;rw [filter_filter];congr 1;funext e;rw [contains_push];cases seen.contains e.born<;>simp
 rw [l];have d:((Cm es seen).map (·.born)).Nodup:=by
  unfold Cm;exact (filter_sublist.map _).nodup m
 generalize Cm es seen=L at *;clear l
 induction L generalizing i with
 |nil=>simp at hi
 |cons x r ih =>
  simp only [map_cons,nodup_cons] at d;cases i with
  |zero =>
   simp only [aY,eraseIdx_cons_zero,filter_cons,beq_self_eq_true,Bool.not_true,aH,if_false];rw [filter_eq_self];intro e n;have:e.born≠x.born:=fun h=>d.1 (h▸mem_map.2 ⟨e,n,rfl⟩)
   simpa using this
  |succ i =>
   have g:i<r.length:=by simpa using hi
   simp only [getElem_cons_succ,eraseIdx_cons_succ,filter_cons];have:x.born≠r[i].born:=fun h=>d.1 (h▸mem_map.2 ⟨r[i],getElem_mem _,rfl⟩)
   have p:(x.born == r[i].born)=false:=by simpa using this
   rw [p];simp only [Bool.not_false,if_true];rw [ih g d.2]
theorem zc5 {α:Type}:∀ {l:List α} {i:Nat} (h:i<l.length),(l[i]::l.eraseIdx i).Perm l
 |x::r,0,_=>.refl _
 |x::r,i+1,h=>(Perm.swap x _ _).trans ((zc5 (l:=r) (i:=i) (by simpa using h)).cons x)
theorem ItP.split {z clock:Nat}(B:(es.toList.map (·.born)).Nodup)(h:ItP w S ps es seen z clock):∃ j,∃ h:j<ps.length,ItC w S ps[j] (ps.eraseIdx j) es seen z clock:=by
 obtain ⟨D,seen0,e,p,u,d,q,C,m⟩:=h;obtain ⟨i,hi,rfl⟩:=mem_iff_getElem.1 u;have g:i<d.length:=by omega
 have hm:d[i]∈ps:=q.mem_iff.1 (getElem_mem _);obtain ⟨j,t,l⟩:=mem_iff_getElem.1 hm;refine ⟨j,t,D,seen0,_,p,(mem_filter.1 u).1,by rw [l];exact m i hi g,d.eraseIdx i,?_,?_⟩
 ·have A:d.Perm (d[i]::d.eraseIdx i):=(zc5 g).symm;have n:ps.Perm (ps[j]::ps.eraseIdx j):=(zc5 t).symm;rw [l] at n;exact Perm.cons_inv ((A.symm.trans q).trans n)
 ·rw [p,zy8 B hi];refine ⟨by rw [aQ hi,aQ g,C],fun k h F=>?_⟩;rw [aZ,aZ];split
  ·exact m _ _ _
  ·exact m _ _ _
end
section
variable {cx:Cx} {o:Oper} {σ:AS}
variable {x:Operand}{ps:List (AV×AV)}
theorem y70 {T kt et d:Nat}{i:TyI}(H:o.op=.range T x)(U:o.dst=some d)(hd:dok cx o=true)(D:A6 x=true)(hx:σ.eval x=.mapv ps)(hT:lkT cx.E.tab T=some i)(hs:i.shape=.map kt et)(hn:σ.find d=none):Aj cx o σ (.ptr d 0) [d] [(d,.it ps)]:=by
 refine ⟨fun id e he=>Da he,fun τ h1 h2 a w Q K ⟨γ,p⟩ hK=>C9 (fun c W=>by rw [H] at W;cases W) ?_⟩;have Y:=p.ev x D;rw [h1 x (by simp [H,Op.operands]),hx] at Y;have N:=Fg (cx.E.ok T i hT) hs;have key:∀ n:Obj,(Instr.range T (a.eval x)).run cx.P w=.ok (.pointer (some ⟨w.heap.size,0,none⟩)) (w.alloc n)->ItIs (w.alloc n) (Sg cx.S0 cx.w0.heap.size (γ.set d (some (some w.heap.size,.slice none 0 0)))) w.heap.size (ItL (w.alloc n) (Sg cx.S0 cx.w0.heap.size (γ.set d (some (some w.heap.size,.slice none 0 0)))) ps)->o.wp cx.P a w K Q:=fun n q I=>by
  have J:(execOp a.eval o).run cx.P w=.ok (.value (.pointer (some ⟨w.heap.size,0,none⟩))) (w.alloc n):=by
   simp only [execOp,H,Sem.run_bind,q,Result.andThen_ok,Sem.run_pure]
  unfold Oper.wp;rw [J];refine hK _ _ ⟨_,p.name (id:=d) (g:=w.heap.size) (s:=.slice none 0 0) (e:=.it ps) (C6 hd) (by rw [h2 d (by simp)];exact hn) ((Below.refl _ _).alloc (aB _) _) (aB _) (by simp) ?_ ?_⟩
  ·exact ⟨w.heap.size,rfl,I⟩
  ·exact .ptr (Gam.set_self _ _ _) (fun g s e=>by injection e with e;injection e with e _;injection e with e;rw [e])
 have A:∀ b,Sg cx.S0 cx.w0.heap.size γ b->b<w.heap.size->Sg cx.S0 cx.w0.heap.size (γ.set d (some (some w.heap.size,.slice none 0 0))) b:=fun b B m=>B.elim aD (fun ⟨q1,Z⟩=>aJ ⟨q1,fun ⟨i,s,hi,hm⟩=>by
  by_cases t:i=d
  ·subst t;rw [Gam.set_self] at hi;injection hi with hi;subst hi;have:=Nu rfl hm;omega
  ·rw [Gam.set_ne _ _ _ t] at hi;exact Z ⟨i,s,hi,hm⟩⟩)
 rcases mapv_val Y with ⟨g,C,F,M,u,⟨es,clock,B,hl,z,O⟩,G⟩|⟨F,L⟩
 ·refine key (.mapIter (some g) clock #[] clock) (by rw [F];exact run_range_map w T kt et g es clock N B) (aD ⟨g,clock,#[],clock,es,clock,heap_alloc_new _ _,A g M u,by simp;omega,by rw [heap_alloc_old _ _ u];exact B,z.1,z.2,aB _,aB _,C,?_,?_⟩)
  ·rcases G with rfl|⟨G,_⟩
   ·exact .refl _
   ·exact G
  ·have l:Cm es #[]=es.toList:=by simp [Cm]
   have hm:∀ {av v},Rep w (Sg cx.S0 cx.w0.heap.size γ) G0 av v->Rep (w.alloc (.mapIter (some g) clock #[] clock)) (Sg cx.S0 cx.w0.heap.size (γ.set d (some (some w.heap.size,.slice none 0 0)))) G0 av v:=fun h=>h.mono (by simp) (fun b hS m=>⟨heap_alloc_old _ _ m,A b hS m⟩)
   exact ⟨by rw [l];simpa using hl,fun j h X=>⟨by simp only [l];exact hm (O j (by rw [<-l];exact h) X).1,by simp only [l];exact hm (O j (by rw [<-l];exact h) X).2⟩⟩
 ·subst L;refine key (.mapIter none 0 #[] 0) (by rw [F];exact run_range_nilMap w T kt et N) (aJ ⟨0,0,#[],heap_alloc_new _ _,[],.refl _,by simp [RepL,Cm]⟩)
theorem y1o {τ:AS}{a:Act}{w:World}{e:Ent}{v:Value}(m:StG cx γ τ a w)(q:τ.find id=some e)(p:Rep w (Sg cx.S0 cx.w0.heap.size γ) γ (.ptr id 0) v)(t:∀ d,Bo w (Sg cx.S0 cx.w0.heap.size γ) γ cx.w0.heap.size d e->∃ g,d=some (some g,.slice none 0 0)) :
  ∃ g,γ id=some (some (some g,.slice none 0 0))/\v=.pointer (some ⟨g,0,none⟩)/\Bo w (Sg cx.S0 cx.w0.heap.size γ) γ cx.w0.heap.size (some (some g,.slice none 0 0)) e:=by
 have h:=m.me id;rw [q] at h;obtain ⟨d,l,n⟩:=h;obtain ⟨g,rfl⟩:=t d n;exact ⟨g,l,p.ptr_inv l,n⟩
theorem y83 {τ:AS}{a:Act}{w w':World}{g:Nat}{e:Ent}{av:AV}{v:Value}{dst:Option Nat}(l:StG cx γ τ a w)(Q:∀ x,dst=some x->cx.E.np<=x/\x<cx.nt)(H:γ id=some (some (some g,.slice none 0 0)))(J:w.heap.size<=w'.heap.size)(A:∀ k,k≠g->w'.heap[k]? = w.heap[k]?)(U:Below cx.w0.heap.size w w')(I:w.drawn<=w'.drawn)
  (O:(∀ b,Sg cx.S0 cx.w0.heap.size γ b->b<w.heap.size->w'.heap[b]? = w.heap[b]? /\ Sg cx.S0 cx.w0.heap.size γ b)->Bo w' (Sg cx.S0 cx.w0.heap.size γ) γ cx.w0.heap.size (some (some g,.slice none 0 0)) e) (M:Rep w' (Sg cx.S0 cx.w0.heap.size γ) γ av v):St cx (τ.upd dst av [(id,e)]) (a.put dst v) w':=by
 have m:own γ g:=own.mk H;have F:=l.ge g m;have B:∀ b,Sg cx.S0 cx.w0.heap.size γ b->b≠g:=fun b z e=>by
  subst e;rcases z with ⟨_,h⟩|⟨_,h⟩
  ·have:=F.1.1;omega
  ·exact h m
 have L:∀ b,Sg cx.S0 cx.w0.heap.size γ b->b<w.heap.size->w'.heap[b]? = w.heap[b]? /\ Sg cx.S0 cx.w0.heap.size γ b:=fun b z _=>⟨A b (B b z),z⟩
 refine ⟨γ,l.step Q J L (fun id d h=>aD h) (fun p t=>⟨rfl,fun W s G C=>A W ?_⟩) (fun p X n=>?_) l.inj (fun b u=>⟨(l.ge b u).1,aM (l.ge b u).2 J⟩) (l.below.trans U) M (fun b q N=>⟨A b (fun e=>q (e▸m)),q⟩) (fun _=>I)⟩
 ·rintro rfl;have:=l.inj _ _ _ _ _ G H C C0;subst this;simp [lkE] at t
 ·have D:p=id:=by have:=Da n;simpa using this
  subst D;simp only [lkE,aP,aC] at n;subst n;exact ⟨_,H,O L⟩
theorem zxp (t:o.op=.next x false)(M:dok cx o=true)(q:A6 x=true)(H:σ.eval x=.ptr id 0)(L:σ.find id=some (.it [])):Aj cx o σ (.tup [.bool false]) [id] [] :=
 B8 M fun τ γ a w h1 N m=>by
  have A:=m.ev x q;rw [h1 x (by simp [t,Op.operands]),H] at A;obtain ⟨g,Y,I,Z,l,hi⟩:=y1o m (by rw [N id (by simp)];exact L) A (fun d h=>by obtain ⟨g,h,_⟩:=h;exact ⟨g,h⟩);injection l with l
  injection l with l _
  injection l with l
  subst l;refine ⟨.tuple #[.bool false],?_,.tup #[.bool false] rfl (fun j u=>by have u:j<1:=u;have O:j=0:=(by omega);subst O;exact .bool _)⟩;have n:(Instr.next (a.eval x) false o.type).run cx.P w=.ok (.tuple #[.bool false]) w:=by
   rw [I];rcases hi with ⟨bm,since,seen,Q,es,clock,p,G,X,F,W,D,C,U,B⟩|⟨b,c,s,p,G⟩
   ·rcases run_next_at (P:=cx.P) w o.type g bm since Q seen es clock p F D C with ⟨_,J⟩|⟨e,z,_⟩
    ·exact J
    ·have:=(RepL.len0 B).2 rfl;rw [this] at z;cases z
   ·exact zoz w o.type g b c s p
  simp only [execOp,t,Sem.run_bind,n,Result.andThen_ok,Sem.run_pure]
theorem y9c (B:o.op=.next x false)(hd:dok cx o=true)(A:A6 x=true)(hx:σ.eval x=.ptr id 0)(hl:σ.find id=some (.it ps))(q:ps≠[]):Aj cx o σ (.tup [.bool true,.any,.any]) [id] [(id,.itp ps)]:=by
 refine ⟨fun id e F=>Da F,fun τ h1 h2 a w Q K ⟨γ,m⟩ hK=>C9 (fun c W=>by rw [B] at W;cases W) ?_⟩;have X:=m.ev x A;rw [h1 x (by simp [B,Op.operands]),hx] at X;obtain ⟨g,U,hv,g',l,hi⟩:=y1o m (by rw [h2 id (by simp)];exact hl) X (fun d h=>by obtain ⟨g,h,_⟩:=h;exact ⟨g,h⟩);injection l with l
 injection l with l _
 injection l with l
 subst l;rcases hi with ⟨bm,since,seen,c0,es,clock,M,z,L,J,Z,I,Y,H,G⟩|⟨b,c,s,M,z⟩
 ·rcases run_next_at (P:=cx.P) w o.type g bm since c0 seen es clock M J I Y with ⟨h0,_⟩|⟨e,F,n,hr⟩
  ·exact absurd ((RepL.len0 G).1 h0) q
  ·have D:(execOp a.eval o).run cx.P w=.ok (.value (.tuple #[.bool true,e.key,e.val])) { w with drawn:=w.drawn+n,heap:=w.heap.setIfInBounds g (.mapIter (some bm) since (seen.push e.born) clock) }:=by
    simp only [execOp,B,hv,Sem.run_bind,hr,Result.andThen_ok,Sem.run_pure]
   unfold Oper.wp;rw [D];have u:=m.ge g (own.mk U);have p:∀ k,k≠g->(w.heap.setIfInBounds g (.mapIter (some bm) since (seen.push e.born) clock))[k]? = w.heap[k]? := fun k N=>by simp [aE,Ne.symm N]
   refine hK _ _ (y83 m (C6 hd) U (by simp) p ⟨rfl,rfl,rfl,by simp,fun k N=>p k (by have:=u.1.1;omega)⟩ (Nat.le_add_right _ _) (fun t=>?_) (.tup #[.bool true,e.key,e.val] rfl (fun j O=>?_)))
   ·refine ⟨g,rfl,aD ⟨bm,since,seen.push e.born,clock,es,clock,by simp [aE,u.2],z,by simpa using L,?_,Z,I,H,H,rfl,seen,e,rfl,F,?_⟩⟩
    ·exact (t bm z L).1.trans J
    ·exact RepM.move G (by simp) (fun b hS C=>t b hS C)
   ·have O:j<3:=O;rcases j with _|_|_|j
    ·exact .bool _
    ·exact .any _
    ·exact .any _
    ·omega
 ·exact absurd ((RepL.len0 z).1 rfl) q
theorem y71 {p:AV×AV}(z:o.op=.entry x)(L:dok cx o=true)(q:A6 x=true)(G:σ.eval x=.ptr id 0)(I:σ.find id=some (.itc p ps)):Aj cx o σ (.tup [p.1,p.2]) [id] [] :=
 B8 L fun τ γ a w h1 M m=>by
  have C:=m.ev x q;rw [h1 x (by simp [z,Op.operands]),G] at C;obtain ⟨g,Y,H,Z,l,hi⟩:=y1o m (by rw [M id (by simp)];exact I) C (fun d h=>by obtain ⟨g,h,_⟩:=h;exact ⟨g,h⟩);injection l with l
  injection l with l _
  injection l with l
  subst l;rcases hi with ⟨bm,since,seen,N,es,clock,u,X,W,F,D,U,Q,O,B,seen0,e,t,J,n,_⟩|⟨b,c,s,u,B,seen0,e,t,_⟩
  ·subst B;subst t;refine ⟨.tuple #[e.key,e.val],by simp only [execOp,z,H,Sem.run_bind,zp0 w g bm since seen0 es N e u F J D,Result.andThen_ok,Sem.run_pure],.tup #[e.key,e.val] rfl (fun j A=>?_)⟩;have A:j<2:=A;rcases j with _|_|j
   ·exact n.1.open_
   ·exact n.2.open_
   ·omega
  ·simp at t
end
section
variable {E:Env} {nt:Nat} {σ:AS} {R:Exit->AS->Prop} {K:List Bu}
variable {ps:List (AV×AV)}
theorem AW.itp {c:Code}(r:Nat)(U:σ.find r=some (.itp ps))(k:∀ j (h:j<ps.length),AW E nt R (.code c::K) .normal (σ.upd none .any [(r,.itc ps[j] (ps.eraseIdx j))])):AW E nt R (.code c::K) .normal σ:=⟨fun cx X W a w n=>by
 obtain ⟨γ,h⟩:=n;have m:=h.me r;rw [U] at m;obtain ⟨d,A,g,z,hi⟩:=m;subst z;have l:∃ j,∃ h:j<ps.length,ItIs w (Sg cx.S0 cx.w0.heap.size γ) g (ItC w (Sg cx.S0 cx.w0.heap.size γ) ps[j] (ps.eraseIdx j)):=by
  rcases hi with ⟨bm,since,seen,Y,es,clock,D,N,M,L,C,J,I,H,G⟩|⟨b,c,s,D,F,seen0,e,Q,_⟩
  ·obtain ⟨j,p,F⟩:=G.split C;exact ⟨j,p,aD ⟨bm,since,seen,Y,es,clock,D,N,M,L,C,J,I,H,F⟩⟩
  ·simp at Q
 obtain ⟨j,p,t⟩:=l;refine (k j p).out cx X W a w ⟨γ,h.step (dst:=none) (v:=undef) (fun x O=>by cases O) (aB _) (fun b B _=>⟨rfl,B⟩) (fun id d A=>aD A) (fun id _=>⟨rfl,fun _ _ _ _=>rfl⟩) (fun id e u=>?_) h.inj h.ge h.below (.any _) (fun b B _=>⟨rfl,B⟩) (fun _=>aB _)⟩;have q:id=r:=by have:=Da u;simpa using this
 subst q;simp only [lkE,aP,aC] at u;subst u;exact ⟨_,A,g,rfl,t⟩⟩
theorem LeX.itc {p:AV×AV}(r:Nat)(L:σ.find r=some (.itc p ps)):LeX E nt σ (σ.upd none .any [(r,.it ps)]):=fun cx W U a w ⟨γ,h⟩=>by
 have l:=h.me r;rw [L] at l;obtain ⟨d,t,g,q,hi⟩:=l;subst q;refine ⟨γ,h.step (dst:=none) (v:=undef) (fun x J=>by cases J) (aB _) (fun b u _=>⟨rfl,u⟩) (fun id d t=>aD t) (fun id _=>⟨rfl,fun _ _ _ _=>rfl⟩) (fun id e m=>?_) h.inj h.ge h.below (.any _) (fun b u _=>⟨rfl,u⟩) (fun _=>aB _)⟩;have n:id=r:=by have:=Da m;simpa using this
 subst n;simp only [lkE,aP,aC] at m;subst m;refine ⟨_,t,g,rfl,?_⟩;rcases hi with ⟨bm,since,seen,Q,es,clock,z,I,H,G,F,D,C,B,O,seen0,e,A,m,N,M⟩|⟨b,c,s,z,O,seen0,e,A,_⟩
 ·exact aD ⟨bm,since,seen,Q,es,clock,z,I,H,G,F,D,C,B,M⟩
 ·simp at A
end
def aI (n:Int):AV:=.int .i64 n
theorem Cq (n:Int)(h:-9223372036854775808<=n/\n<=9223372036854775807):IntKind.i64.wrap n=n:=IntWalk.i64_in _ h
theorem ybv (h:vs.size=2):vs=#[vs.getD 0 undef,vs.getD 1 undef]:=by
 obtain ⟨l⟩:=vs
 match l,h with
 |[a,b],_=>rfl
theorem ybw (h:vs.size=1):vs=#[vs.getD 0 undef]:=by
 obtain ⟨l⟩:=vs
 match l,h with
 |[a],_=>rfl
section
variable {fr:Bool} {f:FuncId} {a b c res:AV}
theorem yc2 {w w':World}(h:Below w.heap.size w w'):BelE E0 w w':=⟨h,fun h=>Bool.noConfusion (show false=true from h)⟩
end
end Go.Proofs.YthbogefcfhmpgaaGreat
