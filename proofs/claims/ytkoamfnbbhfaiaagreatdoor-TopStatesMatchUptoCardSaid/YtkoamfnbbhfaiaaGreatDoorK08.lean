/- What the walk knows of the program's types. -/
import Derived.Test.YtkoamfnbbhfaiaaGreatDoorK07
import Derived.Test.YtkoamfnbbhfaiaaGreatDoorProg
import Derived.KernelRfl
import Derived.Test.YtkoamfnbbhfaiaaGreatDoorRows
import Derived.ProofKit
import Derived.Lib.SmallJoins
import Derived.Deep.Slices
import Derived.Below
import Derived.OpenShut
import Derived.JoinedCond
import Derived.Lib.AppendStr
import GoSem.Instr.MapEntry
set_option linter.unusedVariables false
set_option linter.unusedSimpArgs false
namespace Go.Proofs.YtkoamfnbbhfaiaaGreatDoor
open List
abbrev fd (n:Nat):Nat×Nat×Option Bool:=(n,1,some false)
def tab:List (Nat×TyI):=[(2,⟨1,8,.int .i64 0,.int .i64⟩),(3,⟨1,8,.int .i64 0,.int .i64⟩),(4,⟨1,1,.bool false,.bool⟩),(5,⟨1,1,.int .u8 0,.int .u8⟩),(9,⟨1,16,.string ByteArray.empty,.str⟩),(22,⟨1,24,.slice none 0 0,.slc 34 1 24⟩),(23,⟨1,24,.slice none 0 0,.slc 46 17 240⟩),(25,⟨4,64,.agg #[.int .i64 0,.int .i64 0,.slice none 0 0,.slice none 0 0],.strct [fd 0,fd 1,fd 2,fd 3]⟩),(26,⟨1,24,.slice none 0 0,.slc 59 5 56⟩),(32,⟨1,24,.slice none 0 0,.slc 105 11 112⟩),(34,⟨1,24,.agg #[.slice none 0 0],.strct [fd 0]⟩),(35,⟨1,8,.int .i64 0,.int .i64⟩),(38,⟨1,24,.slice none 0 0,.slc 42 8 88⟩),(40,⟨3,32,.agg #[.int .i64 0,.int .i64 0,.string ByteArray.empty],.strct [fd 0,fd 1,fd 2]⟩),(42,⟨8,88,.agg #[.int .i64 0,.slice none 0 0,.int .i64 0,.int .i64 0,.int .i64 0,.int .i64 0,.int .i64 0,.string ByteArray.empty],.strct [fd 0,fd 1,fd 2,fd 3,fd 4,(5,3,some true)]⟩),(43,⟨1,24,.slice none 0 0,.slc 3 1 8⟩),(44,⟨1,24,.slice none 0 0,.slc 115 2 16⟩),(46,⟨17,240,.agg #[.int .i64 0,.int .i64 0,.int .i64 0,.int .i64 0,.int .i64 0,.slice none 0 0,.int .i64 0,.int .i64 0,.int .i64 0,.int .i64 0,.int .i64 0,.string ByteArray.empty,.slice none 0 0,.slice none 0 0,.slice none 0 0,.slice none 0 0,.slice none 0 0],.strct [fd 0,fd 1,fd 2,fd 3,(4,8,some true),fd 12,fd 13,fd 14,fd 15,fd 16]⟩),(49,⟨1,24,.slice none 0 0,.slc 91 1 24⟩),(54,⟨1,24,.slice none 0 0,.slc 56 14 152⟩),(56,⟨14,152,.agg #[.int .i64 0,.slice none 0 0,.int .i64 0,.int .i64 0,.int .i64 0,.int .i64 0,.int .i64 0,.slice none 0 0,.int .i64 0,.int .i64 0,.int .i64 0,.int .i64 0,.int .i64 0,.string ByteArray.empty],.strct [fd 0,fd 1,fd 2,fd 3,fd 4,fd 5,(6,8,some true)]⟩),(57,⟨1,24,.slice none 0 0,.slc 40 3 32⟩),(59,⟨5,56,.agg #[.int .i64 0,.int .i64 0,.int .i64 0,.int .i64 0,.slice none 0 0],.strct [fd 0,fd 1,fd 2,fd 3,fd 4]⟩),(66,⟨1,24,.slice none 0 0,.slc 99 3 56⟩),(75,⟨3,24,.agg #[.int .i64 0,.int .i64 0,.int .i64 0],.strct [fd 0,fd 1,fd 2]⟩),(81,⟨1,24,.slice none 0 0,.slc 25 4 64⟩),(82,⟨1,8,.pointer none,.other⟩),(85,⟨10,176,.agg #[.int .i64 0,.int .i64 0,.slice none 0 0,.slice none 0 0,.int .i64 0,.int .i64 0,.slice none 0 0,.slice none 0 0,.slice none 0 0,.slice none 0 0],.strct [(0,4,some true),(4,4,some true),fd 8,fd 9]⟩),(88,⟨1,8,.nilFunc,.other⟩),(89,⟨1,24,.slice none 0 0,.slc 128 4 32⟩),(91,⟨1,24,.agg #[.slice none 0 0],.strct [fd 0]⟩),(97,⟨1,24,.slice none 0 0,.slc 232 2 16⟩),(99,⟨3,56,.agg #[.int .i64 0,.slice none 0 0,.slice none 0 0],.strct [fd 0,fd 1,fd 2]⟩),(105,⟨11,112,.agg #[.int .i64 0,.int .i64 0,.int .i64 0,.int .i64 0,.slice none 0 0,.int .i64 0,.int .i64 0,.int .i64 0,.int .i64 0,.int .i64 0,.string ByteArray.empty],.strct [fd 0,fd 1,fd 2,(3,8,some true)]⟩),(115,⟨2,16,.agg #[.int .i64 0,.int .i64 0],.strct [fd 0,fd 1]⟩),(116,⟨1,8,.int .u64 0,.int .u64⟩),(121,⟨1,8,.pointer none,.other⟩),(126,⟨1,8,.nilFunc,.other⟩),(128,⟨4,32,.agg #[.int .i64 0,.int .i64 0,.int .i64 0,.int .i64 0],.strct [fd 0,(1,3,some true)]⟩),(134,⟨1,8,.nilFunc,.other⟩),(140,⟨1,8,.pointer none,.other⟩),(142,⟨2,32,.agg #[.slice none 0 0,.bool false],.strct [fd 0,fd 1]⟩),(143,⟨1,24,.slice none 0 0,.slc 146 1 24⟩),(145,⟨1,24,.slice none 0 0,.slc 148 2 16⟩),(146,⟨1,24,.slice none 0 0,.slc 148 2 16⟩),(148,⟨2,16,.agg #[.int .i64 0,.int .i64 0],.strct [fd 0,fd 1]⟩),(153,⟨1,24,.slice none 0 0,.slc 43 1 24⟩),(156,⟨1,8,.nilFunc,.other⟩),(157,⟨1,8,.nilFunc,.other⟩),(161,⟨1,8,.nilFunc,.other⟩),(162,⟨1,4,.int .u32 0,.int .u32⟩),(165,⟨1,8,.int .u64 0,.int .u64⟩),(169,⟨1,8,.nilFunc,.other⟩),(170,⟨1,8,.nilFunc,.other⟩),(174,⟨1,8,.map none,.map 75 59⟩),(176,⟨5,72,.agg #[.int .i64 0,.int .i64 0,.slice none 0 0,.slice none 0 0,.map none],.strct [(0,4,some true),fd 4]⟩),(178,⟨1,8,.nilFunc,.other⟩),(181,⟨1,8,.nilFunc,.other⟩),(183,⟨1,8,.nilFunc,.other⟩),(192,⟨1,8,.nilFunc,.other⟩),(195,⟨1,8,.map none,.map 198 4⟩),(198,⟨2,16,.agg #[.int .i64 0,.int .i64 0],.strct [fd 0,fd 1]⟩),(200,⟨1,8,.map none,.map 9 4⟩),(202,⟨1,8,.nilFunc,.other⟩),(203,⟨8,64,.agg #[.nilFunc,.nilFunc,.nilFunc,.nilFunc,.nilFunc,.nilFunc,.nilFunc,.nilFunc],.arr 8 202 1 (some false)⟩),(206,⟨1,8,.nilFunc,.other⟩),(220,⟨1,8,.nilFunc,.other⟩),(221,⟨1,24,.slice none 0 0,.slc 26 1 24⟩),(223,⟨1,24,.agg #[.slice none 0 0],.strct [fd 0]⟩),(229,⟨1,8,.nilFunc,.other⟩),(232,⟨2,16,.agg #[.int .i64 0,.int .i64 0],.strct [fd 0,fd 1]⟩),(233,⟨1,8,.nilFunc,.other⟩),(236,⟨1,8,.nilFunc,.other⟩),(239,⟨15,160,.agg #[.bool false,.int .i64 0,.slice none 0 0,.int .i64 0,.int .i64 0,.int .i64 0,.int .i64 0,.int .i64 0,.slice none 0 0,.int .i64 0,.int .i64 0,.int .i64 0,.int .i64 0,.int .i64 0,.string ByteArray.empty],.strct [fd 0,(1,14,some true)]⟩),(241,⟨1,8,.nilFunc,.other⟩),(243,⟨1,8,.nilFunc,.other⟩),(244,⟨1,8,.nilFunc,.other⟩),(246,⟨1,8,.nilFunc,.other⟩),(249,⟨6,24,.agg #[.int .i64 0,.int .i64 0,.bool false,.bool false,.bool false,.bool false],.strct [fd 0,fd 1,fd 2,fd 3,fd 4,fd 5]⟩),(250,⟨66,264,.agg #[.int .i64 0,.int .i64 0,.bool false,.bool false,.bool false,.bool false,.int .i64 0,.int .i64 0,.bool false,.bool false,.bool false,.bool false,.int .i64 0,.int .i64 0,.bool false,.bool false,.bool false,.bool false,.int .i64 0,.int .i64 0,.bool false,.bool false,.bool false,.bool false,.int .i64 0,.int .i64 0,.bool false,.bool false,.bool false,.bool false,.int .i64 0,.int .i64 0,.bool false,.bool false,.bool false,.bool false,.int .i64 0,.int .i64 0,.bool false,.bool false,.bool false,.bool false,.int .i64 0,.int .i64 0,.bool false,.bool false,.bool false,.bool false,.int .i64 0,.int .i64 0,.bool false,.bool false,.bool false,.bool false,.int .i64 0,.int .i64 0,.bool false,.bool false,.bool false,.bool false,.int .i64 0,.int .i64 0,.bool false,.bool false,.bool false,.bool false],.arr 11 249 6 (some true)⟩),(253,⟨1,24,.slice none 0 0,.slc 5 1 1⟩),(256,⟨1,8,.int .i64 0,.int .i64⟩),(280,⟨1,8,.nilFunc,.other⟩),(283,⟨1,8,.nilFunc,.other⟩),(290,⟨1,8,.nilFunc,.other⟩),(294,⟨1,8,.nilFunc,.other⟩),(295,⟨1,24,.slice none 0 0,.slc 143 1 24⟩),(298,⟨1,8,.int .u64 0,.int .u64⟩),(302,⟨1,8,.pointer none,.other⟩),(312,⟨1,8,.nilFunc,.other⟩),(334,⟨1,8,.map none,.map 3 363⟩),(337,⟨8,96,.agg #[.slice none 0 0,.int .i64 0,.int .i64 0,.int .i64 0,.int .i64 0,.int .i64 0,.slice none 0 0,.map none],.strct [(0,1,some true),fd 1,(2,5,some true),fd 7]⟩),(347,⟨1,24,.slice none 0 0,.slc 38 1 24⟩),(352,⟨1,8,.nilFunc,.other⟩),(354,⟨1,8,.nilFunc,.other⟩),(356,⟨24,24,.agg #[.int .u8 0,.int .u8 0,.int .u8 0,.int .u8 0,.int .u8 0,.int .u8 0,.int .u8 0,.int .u8 0,.int .u8 0,.int .u8 0,.int .u8 0,.int .u8 0,.int .u8 0,.int .u8 0,.int .u8 0,.int .u8 0,.int .u8 0,.int .u8 0,.int .u8 0,.int .u8 0,.int .u8 0,.int .u8 0,.int .u8 0,.int .u8 0],.arr 24 5 1 (some false)⟩),(362,⟨1,8,.nilFunc,.other⟩),(363,⟨1,8,.nilFunc,.other⟩),(368,⟨1,24,.slice none 0 0,.slc 44 1 24⟩),(373,⟨20,160,.agg #[.int .u64 0,.int .u64 0,.int .u64 0,.int .u64 0,.int .u64 0,.int .u64 0,.int .u64 0,.int .u64 0,.int .u64 0,.int .u64 0,.int .u64 0,.int .u64 0,.int .u64 0,.int .u64 0,.int .u64 0,.int .u64 0,.int .u64 0,.int .u64 0,.int .u64 0,.int .u64 0],.arr 20 165 1 (some false)⟩),(374,⟨65,65,.agg #[.int .u8 0,.int .u8 0,.int .u8 0,.int .u8 0,.int .u8 0,.int .u8 0,.int .u8 0,.int .u8 0,.int .u8 0,.int .u8 0,.int .u8 0,.int .u8 0,.int .u8 0,.int .u8 0,.int .u8 0,.int .u8 0,.int .u8 0,.int .u8 0,.int .u8 0,.int .u8 0,.int .u8 0,.int .u8 0,.int .u8 0,.int .u8 0,.int .u8 0,.int .u8 0,.int .u8 0,.int .u8 0,.int .u8 0,.int .u8 0,.int .u8 0,.int .u8 0,.int .u8 0,.int .u8 0,.int .u8 0,.int .u8 0,.int .u8 0,.int .u8 0,.int .u8 0,.int .u8 0,.int .u8 0,.int .u8 0,.int .u8 0,.int .u8 0,.int .u8 0,.int .u8 0,.int .u8 0,.int .u8 0,.int .u8 0,.int .u8 0,.int .u8 0,.int .u8 0,.int .u8 0,.int .u8 0,.int .u8 0,.int .u8 0,.int .u8 0,.int .u8 0,.int .u8 0,.int .u8 0,.int .u8 0,.int .u8 0,.int .u8 0,.int .u8 0,.int .u8 0],.arr 65 5 1 (some false)⟩),(387,⟨5,48,.agg #[.int .i64 0,.int .i64 0,.int .i64 0,.int .i64 0,.string ByteArray.empty],.strct [fd 0,fd 1,(2,3,some true)]⟩),(395,⟨32,32,.agg #[.int .u8 0,.int .u8 0,.int .u8 0,.int .u8 0,.int .u8 0,.int .u8 0,.int .u8 0,.int .u8 0,.int .u8 0,.int .u8 0,.int .u8 0,.int .u8 0,.int .u8 0,.int .u8 0,.int .u8 0,.int .u8 0,.int .u8 0,.int .u8 0,.int .u8 0,.int .u8 0,.int .u8 0,.int .u8 0,.int .u8 0,.int .u8 0,.int .u8 0,.int .u8 0,.int .u8 0,.int .u8 0,.int .u8 0,.int .u8 0,.int .u8 0,.int .u8 0],.arr 32 5 1 (some false)⟩),(396,⟨64,64,.agg #[.int .u8 0,.int .u8 0,.int .u8 0,.int .u8 0,.int .u8 0,.int .u8 0,.int .u8 0,.int .u8 0,.int .u8 0,.int .u8 0,.int .u8 0,.int .u8 0,.int .u8 0,.int .u8 0,.int .u8 0,.int .u8 0,.int .u8 0,.int .u8 0,.int .u8 0,.int .u8 0,.int .u8 0,.int .u8 0,.int .u8 0,.int .u8 0,.int .u8 0,.int .u8 0,.int .u8 0,.int .u8 0,.int .u8 0,.int .u8 0,.int .u8 0,.int .u8 0,.int .u8 0,.int .u8 0,.int .u8 0,.int .u8 0,.int .u8 0,.int .u8 0,.int .u8 0,.int .u8 0,.int .u8 0,.int .u8 0,.int .u8 0,.int .u8 0,.int .u8 0,.int .u8 0,.int .u8 0,.int .u8 0,.int .u8 0,.int .u8 0,.int .u8 0,.int .u8 0,.int .u8 0,.int .u8 0,.int .u8 0,.int .u8 0,.int .u8 0,.int .u8 0,.int .u8 0,.int .u8 0,.int .u8 0,.int .u8 0,.int .u8 0,.int .u8 0],.arr 64 5 1 (some false)⟩),(404,⟨1,8,.nilFunc,.other⟩),(408,⟨1,8,.nilFunc,.other⟩),(409,⟨6,48,.agg #[.nilFunc,.nilFunc,.nilFunc,.nilFunc,.nilFunc,.nilFunc],.arr 6 408 1 (some false)⟩)]
def Yp (P:Program):List (Nat×TyI)->Prop |[]=>True |(t,i)::r=>TyOk P t i/\Yp P r
theorem Yp.get {P:Program}:∀ {l:List (Nat×TyI)},Yp P l->∀ T i,lkT l T=some i->TyOk P T i
 |[],_,T,i,h=>by simp [lkT] at h
 |(t,j)::r,d,T,i,h=>by
  simp only [lkT] at h;split at h
  ·rename_i g;have:=Nat.eq_of_beq_eq_true g;subst this;injection h with h
   subst h;exact d.1
  ·exact d.2.get T i h
set_option maxRecDepth 100000 in
theorem zur:Yp Tryz.prog tab:=by repeat' first|exact trivial|refine ⟨⟨by kernel_rfl,by kernel_rfl,by kernel_rfl⟩,?_⟩
theorem Ee (T:Nat)(i:TyI)(h:lkT tab T=some i):TyOk Tryz.prog T i:=zur.get T i h
noncomputable def E0:Env:=⟨Tryz.prog,tab,fun T i h=>zur.get T i h,by kernel_rfl,false,false,none,0,false,false⟩
noncomputable def E0d:Env:=⟨Tryz.prog,tab,fun T i h=>zur.get T i h,by kernel_rfl,true,false,none,0,false,false⟩
theorem B7 {f : FuncId}{fn : Func}(g : E0.P.funcs[f]? = some fn)(d : (fn.name == "runtime.NumGoroutine") = false)(h : fn.body.isNone = false) : Bh E0 f := fun args w => by
 unfold callFunc;simp only [Sem.run_bind,run_program,Result.andThen_ok,g,d,h,Bool.false_eq_true,if_false,Sem.run_pure]
open Go.RowKit
open Nat renaming eq_of_beq_eq_true->aA,le_refl->aD,mul_le_mul_right->aF,beq->aH,le_of_ble_eq_true->aJ,succ_mul->aR,sub_self->bE
open _root_.Array renaming getD_eq_getD_getElem?->aB,length_toList->aK,toList_map->aW,range->bF,getD->bG
open Gam renaming set_self->aC,set_ne->aG
open List renaming getD_eq_getElem?_getD->aE,getElem_replicate->aL,all_eq_true->aO,getElem_map->aP,getElem_append->aQ,map_cons->aT,take_of_length_le->aU,mem_append_right->aX,map_toArray->aY,replicate->bC
open Or renaming inl->aM,inr->aN
open Option renaming map_none->aZ,map_some->bA
def aI (n:Int):AV:=.int .i64 n
theorem Cu (n:Int)(h:-9223372036854775808<=n/\n<=9223372036854775807):IntKind.i64.wrap n=n:=IntWalk.i64_in _ h
variable {vs:Array Value}
theorem zz5 (h:vs.size=2):vs=#[vs.getD 0 undef,vs.getD 1 undef]:=by
 obtain ⟨l⟩:=vs
 match l,h with
 |[a,b],_=>rfl
theorem zz6 (h:vs.size=1):vs=#[vs.getD 0 undef]:=by
 obtain ⟨l⟩:=vs
 match l,h with
 |[a],_=>rfl
section
variable {fr:Bool} {f:FuncId} {a b c res:AV}
theorem zzb {w w':World}(h:Below w.heap.size w w'):BelE E0 w w':=⟨h,fun h=>Bool.noConfusion (show false=true from h)⟩
end
open Go.ChangeShapes Go.WideShapes Go.ChangeAt
variable {w:World}
theorem zte {S:Nat->Prop}{a b:AV}{x y:Value}(h:Rep w S G0 a x)(g:Rep w S G0 b y):Args w S [a,b] #[x,y] :=
 ⟨rfl,fun i hi=>by
  have d:i<2:=hi;rcases i with _|_|i
  ·exact h
  ·exact g
  ·omega⟩
theorem zsc:ownKnob Tryz.prog.godebug=none:=by kernel_rfl
theorem zsk:laidOutB Tryz.prog=true:=by kernel_rfl
section
variable {H:Type} {enc:TypeId×Value->H}
theorem z7h {W W':World}{sp':Nat->Bool}(u:Below W.heap.size W W')(j:List TypeId):∀ (vs:List Value) (ds:List (DataW H)) (p:List MemPlace),j.all (fun t=>Tryz.prog.readableRec t && decide (t<Tryz.prog.types.size))=true ->
  DataW.TrodAll enc Tryz.prog W 0 (fun _=>true) true j vs ds p->(∀ x∈p,x.block<W.heap.size)->(∀ x∈p,sp' x.block=true)->DataW.TrodAll enc Tryz.prog W' 0 sp' true j vs ds p:=by
 induction j with
 |nil =>
  intro vs ds p _ h _ _
  match vs,ds,h with
  |[],[],h=>exact h
  |_::_,_,h=>exact h.elim
  |[],_::_,h=>exact h.elim
 |cons t j ih =>
  intro vs ds p s h l n
  match vs,ds,h with
  |v::vs,d::ds,h =>
   obtain ⟨q,r,h1,y,rfl⟩:=h;have k:Tryz.prog.readableRec t=true/\t<Tryz.prog.types.size:=by
    have:=aO.mp s t (mem_cons_self ..);rw [Bool.and_eq_true,decide_eq_true_eq] at this;exact this
   have m:j.all (fun t=>Tryz.prog.readableRec t && decide (t<Tryz.prog.types.size))=true :=
    aO.mpr fun x g=>aO.mp s x (mem_cons_of_mem _ g)
   exact ⟨q,r,WideElems.Trod_stays zsk k.1 k.2 h1 (fun x g=>u.same (l x (mem_append_left _ g))) (fun x g=>n x (mem_append_left _ g)),
    ih vs ds r m y (fun x g=>l x (aX _ g)) (fun x g=>n x (aX _ g)),rfl⟩
  |[],_,h=>exact h.elim
  |_::_,[],h=>exact h.elim
theorem zjb {W:World}{b:Nat}{sp:Nat->Bool}(g:List TypeId):∀ (vs:List Value) (ds:List (DataW H)) (p:List MemPlace),DataW.TrodAll enc Tryz.prog W b sp true g vs ds p->ds.length=g.length:=by
 induction g with
 |nil =>
  intro vs ds p h
  match vs,ds,h with
  |[],[],h=>rfl
  |_::_,_,h=>exact h.elim
  |[],_::_,h=>exact h.elim
 |cons t g j =>
  intro vs ds p h
  match vs,ds,h with
  |v::vs,d::ds,h =>
   obtain ⟨q,r,h1,k,rfl⟩:=h;simp only [length_cons];rw [j vs ds r k]
  |[],_,h=>exact h.elim
  |_::_,[],h=>exact h.elim
end
section
variable {H:Type} {enc:TypeId×Value->H}
end
def AS.freeze (σ:AS)(t r sz:Nat)(xs:List AV):AS:=⟨(t,.sl sz xs)::σ.tm,(r,.dead)::σ.me⟩
variable {σ:AS}
theorem Le.freeze {cx:Cx}(t r ty sz:Nat)(xs:List AV)(M:σ.get t=.row r)(O:σ.find r=some (.row ty sz xs)):Le cx σ (σ.freeze t r sz xs):=fun a w ⟨γ,h⟩=>by
 have y:=h.me r;rw [O] at y;obtain ⟨d,G,F⟩:=y;have k:∀ b,own (γ.set r none) b->own γ b/\∀ s,γ r≠some (some (some b,s)):=fun b ⟨i,s,hi,hm⟩=>by
  by_cases l:i=r
  ·subst l;rw [aC] at hi;injection hi with hi;subst hi;simp [blks] at hm
  ·rw [aG _ _ _ l] at hi;exact ⟨⟨i,s,hi,hm⟩,fun L B=>l (h.inj _ _ _ _ _ hi B hm Bc)⟩
 have I:∀ b,Sg cx.S0 cx.w0.heap.size γ b->Sg cx.S0 cx.w0.heap.size (γ.set r none) b:=fun b m=>m.elim aM (fun ⟨h1,Q⟩=>aN ⟨h1,fun q=>Q (k b q).1⟩)
 have p:∀ i x,γ i=some x->γ.set r none i=some x\/γ.set r none i=some none\/Turn (γ.set r none) i x:=fun i x A=>by
  by_cases l:i=r
  ·subst l;exact aN (aM (aC _ _ _))
  ·exact aM (by rw [aG _ _ _ l];exact A)
 have mv:∀ {av v},Rep w (Sg cx.S0 cx.w0.heap.size γ) γ av v->Rep w (Sg cx.S0 cx.w0.heap.size (γ.set r none)) (γ.set r none) av v:=fun z=>(z.mono (aD _) (fun b m _=>⟨rfl,I b m⟩)).gam p
 refine ⟨γ.set r none,fun u=>?_,fun i=>?_,fun i j b s L hi n mi mj=>?_,fun b m=>h.ge b (k b m).1,h.below,h.size,h.defers.gamE (fun b m=>(k b m).1) p,h.gh,fun b m=>by obtain ⟨W,V,U⟩:=h.fr b m;exact ⟨fun q=>W (k b q).1,V,U⟩,h.dr⟩
 ·by_cases J:t=u
  ·subst J;have e:(σ.freeze t r sz xs).get t=.sl sz xs:=by simp [AS.freeze,AS.get,lkV]
   rw [e];have z:=h.tm t;rw [M] at z;obtain ⟨s,N,C⟩:=Gn (S':=Sg cx.S0 cx.w0.heap.size (γ.set r none)) F (fun b m _=>I b m) (fun s g p=>aN ⟨(h.ge g (own.mk (id:=r) (s:=s) (by rw [G,p]))).1,fun q=>(k g q).2 s (by rw [G,p])⟩) (γ.set r none);subst N;rw [z.row_inv G];exact C
  ·have e:(σ.freeze t r sz xs).get u=σ.get u:=by
    unfold AS.freeze AS.get;simp only [lkV];cases m:aH t u with
    |true=>exact absurd (aA m) J
    |false=>rfl
   rw [e];exact mv (h.tm u)
 ·by_cases hi:r=i
  ·subst hi;have e:(σ.freeze t r sz xs).find r=some .dead:=by simp [AS.freeze,AS.find,lkE]
   rw [e];exact ⟨none,aC _ _ _,rfl⟩
  ·have e:(σ.freeze t r sz xs).find i=σ.find i:=by
    unfold AS.freeze AS.find;simp only [lkE];cases m:aH r i with
    |true=>exact absurd (aA m) hi
    |false=>rfl
   rw [e,aG _ _ _ (Ne.symm hi)];have:=h.me i;cases K:σ.find i with
   |none=>rw [K] at this;exact this
   |some en =>
    rw [K] at this;obtain ⟨x,A,F⟩:=this;exact ⟨x,A,F.move (aD _) (fun b m _=>⟨rfl,I b m⟩) p (fun _ _=>rfl)⟩
 ·have l:i≠r:=fun e=>by subst e;rw [aC] at hi;injection hi with hi;subst hi;simp [blks] at mi
  have D:j≠r:=fun e=>by subst e;rw [aC] at n;injection n with n;subst n;simp [blks] at mj
  rw [aG _ _ _ l] at hi;rw [aG _ _ _ D] at n;exact h.inj _ _ _ _ _ hi n mi mj
section
variable {E:Env} {nt:Nat} {R:Exit->AS->Prop}
theorem LeX.freeze {E:Env}{nt:Nat}(t r ty sz:Nat)(xs:List AV)(d:σ.get t=.row r)(g:σ.find r=some (.row ty sz xs)):LeX E nt σ (σ.freeze t r sz xs):=fun _ _ _ _=>Le.freeze t r ty sz xs d g
theorem AW.weaken {c:Code}{K:List Bi}{τ:AS}(k:LeX E nt σ τ)(h:AW E nt R (.code c::K) .normal τ):AW E nt R (.code c::K) .normal σ:=⟨fun cx j g d=>WP.weaken (k cx j g d) (h.out cx j g d)⟩
end
def Ent.frz (r sz:Nat)(xs:List AV):Ent->Ent |.box ty cs=>.box ty (AV.frzL r sz xs cs) |e=>e
def AS.frzAll (σ:AS)(r sz:Nat)(xs:List AV):AS:=⟨σ.tm.map fun p=>(p.1,p.2.frz r sz xs),(r,.dead)::σ.me.map fun p=>(p.1,p.2.frz r sz xs)⟩
theorem zq2 (g:AV->AV)(h:g .any=.any)(l:List (Nat×AV))(t:Nat):lkV (l.map fun p=>(p.1,g p.2)) t=g (lkV l t):=by
 induction l with
 |nil=>simp [lkV,h]
 |cons p l d =>
  obtain ⟨u,x⟩:=p;simp only [aT,lkV];cases aH u t<;>simp [d]
theorem zq5 (g:Ent->Ent)(l:List (Nat×Ent))(t:Nat):lkE (l.map fun p=>(p.1,g p.2)) t=(lkE l t).map g:=by
 induction l with
 |nil=>simp [lkE]
 |cons p l d =>
  obtain ⟨u,x⟩:=p;simp only [aT,lkE];cases aH u t<;>simp [d]
theorem LeX.frzAll {E:Env}{nt:Nat}(r ty sz:Nat)(xs:List AV)(N:σ.find r=some (.row ty sz xs)):LeX E nt σ (σ.frzAll r sz xs):=fun cx Z Y t a w ⟨γ,h⟩=>by
 have A:=h.me r;rw [N] at A;obtain ⟨d,G,C⟩:=A;have k:∀ b,own (γ.set r none) b->own γ b/\∀ s,γ r≠some (some (some b,s)):=fun b ⟨i,s,hi,hm⟩=>by
  by_cases l:i=r
  ·subst l;rw [aC] at hi;injection hi with hi;subst hi;simp [blks] at hm
  ·rw [aG _ _ _ l] at hi;exact ⟨⟨i,s,hi,hm⟩,fun L D=>l (h.inj _ _ _ _ _ hi D hm Bc)⟩
 have I:∀ b,Sg cx.S0 cx.w0.heap.size γ b->Sg cx.S0 cx.w0.heap.size (γ.set r none) b:=fun b m=>m.elim aM (fun ⟨h1,J⟩=>aN ⟨h1,fun z=>J (k b z).1⟩)
 have B:∀ i x,γ i=some x->γ.set r none i=some x\/γ.set r none i=some none\/Turn (γ.set r none) i x:=fun i x p=>by
  by_cases l:i=r
  ·subst l;exact aN (aM (aC _ _ _))
  ·exact aM (by rw [aG _ _ _ l];exact p)
 obtain ⟨s,M,y⟩:=Gn (S':=Sg cx.S0 cx.w0.heap.size (γ.set r none)) C (fun b m _=>I b m) (fun s g B=>aN ⟨(h.ge g (own.mk (id:=r) (s:=s) (by rw [G,B]))).1,fun z=>(k g z).2 s (by rw [G,B])⟩) (γ.set r none);have mv:∀ {av v},Rep w (Sg cx.S0 cx.w0.heap.size γ) γ av v->Rep w (Sg cx.S0 cx.w0.heap.size (γ.set r none)) (γ.set r none) (av.frz r sz xs) v:=fun t =>
  (t.mono (aD _) (fun b m _=>⟨rfl,I b m⟩)).frz (fun i x hi p=>by rw [aG _ _ _ hi];exact p) G (aC _ _ _) (fun v t=>by rw [t _ _ M y.sl_tup];exact y)
 refine ⟨γ.set r none,fun u=>?_,fun i=>?_,fun i j b s L hi q mi mj=>?_,fun b m=>h.ge b (k b m).1,h.below,h.size,h.defers.gam (fun b m=>(k b m).1) t,h.gh,fun b m=>by obtain ⟨X,W,V⟩:=h.fr b m;exact ⟨fun z=>X (k b z).1,W,V⟩,h.dr⟩
 ·have e:(σ.frzAll r sz xs).get u=(σ.get u).frz r sz xs:=zq2 _ rfl _ _;rw [e];exact mv (h.tm u)
 ·by_cases hi:r=i
  ·subst hi;have e:(σ.frzAll r sz xs).find r=some .dead:=by simp [AS.frzAll,AS.find,lkE]
   rw [e];exact ⟨none,aC _ _ _,rfl⟩
  ·have e:(σ.frzAll r sz xs).find i=(σ.find i).map (Ent.frz r sz xs):=by
    unfold AS.frzAll AS.find;simp only [lkE];cases m:aH r i with
    |true=>exact absurd (aA m) hi
    |false=>exact zq5 _ _ _
   rw [e,aG _ _ _ (Ne.symm hi)];have:=h.me i;cases K:σ.find i with
   |none=>rw [K] at this;exact this
   |some en =>
    rw [K] at this;obtain ⟨x,p,C⟩:=this;cases en with
    |box ty cs =>
     obtain ⟨g,vs,h1,J,U,Q,O⟩:=C;exact ⟨x,p,g,vs,h1,J,by rw [U,AV.frzL_length],fun i hi=>by
      have n:=hi;rw [AV.frzL_length] at n;rw [AV.frzL_at r sz xs _ i n];exact mv (Q i n),O⟩
    |_=>exact ⟨x,p,C.move (aD _) (fun b m _=>⟨rfl,I b m⟩) B (fun _ _=>rfl)⟩
 ·have l:i≠r:=fun e=>by subst e;rw [aC] at hi;injection hi with hi;subst hi;simp [blks] at mi
  have F:j≠r:=fun e=>by subst e;rw [aC] at q;injection q with q;subst q;simp [blks] at mj
  rw [aG _ _ _ l] at hi;rw [aG _ _ _ F] at q;exact h.inj _ _ _ _ _ hi q mi mj
def Xz (σ:AS)(i:Nat):AV->AV
 |.row j=>match aH j i with
  |true=>.row j
  |false=>match σ.find j with|some (.row _ sz xs)=>.sl sz xs|_=>.any
 |x=>match x.closed with|true=>x|false=>.any
def Xy (σ:AS)(i:Nat):AV->AV |.agg cs=>.agg (cs.map (Xz σ i)) |x=>Xz σ i x
def zqq (σ:AS)(i:Nat):AV->AV |.tup cs=>.tup (cs.map (Xy σ i)) |x=>Xy σ i x
section
variable {cx:Cx} {σ:AS} {γ γ':Gam} {a:Act} {w:World} {S':Nat->Prop} {i:Nat} {x:Option (Option Nat×Value)}
variable {v:Value}
theorem za4 (m:StG cx γ σ a w)(hi:γ i=some x)(q:γ' i=some x)(t:∀ b,Sg cx.S0 cx.w0.heap.size γ b->S' b)(z:∀ j b s,j≠i->γ j=some (some (some b,s))->S' b){av:AV}(h:Rep w (Sg cx.S0 cx.w0.heap.size γ) γ av v):Rep w S' γ' (Xz σ i av) v:=by
 have cl:∀ av v,Rep w (Sg cx.S0 cx.w0.heap.size γ) γ av v->Rep w S' γ' (match av.closed with|true=>av|false=>.any) v:=fun av v h=>by
  cases D:av.closed with
  |true=>exact (h.close D).mono (aD _) (fun b k _=>⟨rfl,t b k⟩)
  |false=>exact .any _
 cases av with
 |row j =>
  simp only [Xz];cases k:aH j i with
  |true =>
   have:=aA k;subst this;cases h with
   |row h u=>rw [hi] at h;injection h with h;subst h;exact .row q u
  |false =>
   have p:=Nat.ne_of_beq_eq_false k;simp only;have l:=m.me j;cases B:σ.find j with
   |none=>exact .any _
   |some e =>
    cases e with
    |row ty sz xs =>
     rw [B] at l;obtain ⟨d,r,C⟩:=l;obtain ⟨s,y,n⟩:=Gn (S':=S') C (fun b k _=>t b k) (fun s g A=>z j g s p (by rw [r,A])) γ';subst y;rw [h.row_inv r];exact n
    |_=>exact .any _
 |_=>exact cl _ _ h
theorem za3 (d:StG cx γ σ a w)(hi:γ i=some x)(g:γ' i=some x)(n:∀ b,Sg cx.S0 cx.w0.heap.size γ b->S' b)(m:∀ j b s,j≠i->γ j=some (some (some b,s))->S' b){av:AV}(h:Rep w (Sg cx.S0 cx.w0.heap.size γ) γ av v):Rep w S' γ' (Xy σ i av) v:=by
 cases av with
 |agg cs =>
  obtain ⟨vs,rfl,q,p,h1⟩:=h.agg_inv;simp only [Xy];refine .agg vs (by simpa using q) (fun k r=>?_) h1;have l:k<cs.length:=by simpa using r
  simp only [aP];exact za4 d hi g n m (p k l)
 |_=>exact za4 d hi g n m h
theorem znz (d:StG cx γ σ a w)(hi:γ i=some x)(g:γ' i=some x)(n:∀ b,Sg cx.S0 cx.w0.heap.size γ b->S' b)(m:∀ j b s,j≠i->γ j=some (some (some b,s))->S' b){av:AV}(h:Rep w (Sg cx.S0 cx.w0.heap.size γ) γ av v):Rep w S' γ' (zqq σ i av) v:=by
 cases av with
 |tup cs =>
  obtain ⟨vs,rfl,q,p⟩:=h.tup_inv;simp only [zqq];refine .tup vs (by simpa using q) (fun k r=>?_);have l:k<cs.length:=by simpa using r
  simp only [aP];exact za3 d hi g n m (p k l)
 |_=>exact za3 d hi g n m h
end
inductive TX (E:Env) (nt:Nat) (fn:Func) (σ:AS) (ty sz:Nat) (xs:List AV) (res:AV):Prop
 |mk (τ:AS) (i:Nat) (hl:LeX E nt σ τ) (avs:List AV) (h1:retA E.tab τ fn.results.toList=some avs) (h2:τ.find i=some (.row ty sz xs)) (h3:Sub (zqq τ i (Fd avs)) (res.ren fun _=>i))
def EndT (E:Env)(nt:Nat)(fn:Func)(ty sz:Nat)(xs:List AV)(res:AV):Exit->AS->Prop |.normal,σ=>TX E nt fn σ ty sz xs res |.ret,σ=>TX E nt fn σ ty sz xs res |_,_=>False
variable {xs:List AV}{ty sz:Nat}
theorem ConT.walk {E:Env}{f:FuncId}{fn:Func}{args:List AV}{res:AV}(c:Code)(Z:E.P.funcs[f]? = some fn)(l:fn.body=some c)(he:Bh E f)(X:Nat.ble args.length fn.ntmps=true)(m:res.inM [0]=true)
  (h:AW E fn.ntmps (EndT E fn.ntmps fn ty sz xs res) [.code c] .normal (Di args)) (y:E.rg=false:=by rfl) (r:E.yl=none:=by rfl) (A:E.np=0:=by rfl) (D:E.ld=false:=by rfl)(y:E.rg=false:=by rfl) (r:E.yl=none:=by rfl) (A:E.np=0:=by rfl) (D:E.ld=false:=by rfl):ConT E f args ty sz xs res:=by
 refine ⟨he,m,fun S w vs ha=>callsIn_wide.1 (callsIn_of_wp (F:=Fence.wide) (n:=0) Z l trivial ?_)⟩;have h0:WP (Cx.call E S w fn.ntmps) c (EndT E fn.ntmps fn ty sz xs res) (Di args):=WP.mono (h.out (Cx.call E S w fn.ntmps) rfl rfl rfl) fun e σ G=>by cases e<;>exact G
 refine wpIn_mono (h0 _ _ (Qj r A D ha (aJ X))) (fun e a w' ⟨σ,L,t⟩=>?_);have key:TX E fn.ntmps fn σ ty sz xs res->bodyPost E.P fn (fun e w'=>∃ u v us,e=.returned u/\Below w.heap.size w w'/\w'.ownsRow w.heap.size ty sz v xs.length us /\
  (∀ k (G:k<xs.length),(xs[k]).cells.length=sz)/\(∀ k (G:k<xs.length) j (J:j<(xs[k]).cells.length),Rep w' (fun b=>(S b\/w.heap.size<=b)/\v.ownBlock≠some b) G0 ((xs[k]).cells[j]) (us.getD (k*sz+j) undef))/\(∀ u∈us,u.oneCell'=true) /\
  ∀ γ':Gam,γ' 0=some (some (v.ownBlock,v))->Rep w' (fun b=>(S b\/w.heap.size<=b)/\v.ownBlock≠some b) γ' res u) .ret a w':=by
  rintro ⟨τ,i,Y,avs,h1,h2,h3⟩;obtain ⟨γ,g⟩:=Y (Cx.call E S w fn.ntmps) rfl rfl rfl a w' t;obtain ⟨u,V,W⟩:=J4 g h1;have B:=g.me i;rw [h2] at B;obtain ⟨d,I,s,us,N,O,z,C,K,p⟩:=B;subst N;have U:∀ b,Sg (fun b=>S b/\b<w.heap.size) w.heap.size γ b->(S b\/w.heap.size<=b)/\s.ownBlock≠some b:=fun b l=>by
   refine ⟨?_,fun e=>?_⟩
   ·rcases l with ⟨l,_⟩|⟨l,_⟩
    ·exact aM l.1
    ·exact aN l.1
   ·have Q:own γ b:=own.mk (id:=i) (s:=s) (by rw [I,e]);rcases l with ⟨_,l⟩|⟨_,l⟩
    ·have:=(g.ge b Q).1.1;exact absurd l (by show ¬b<w.heap.size;exact Nat.not_lt.2 this)
    ·exact l Q
  refine ⟨g.defers.d0 y,u,V,u,s,us,rfl,g.below,z,C,fun k G j J=>(K k G j J).mono (aD _) (fun b l _=>⟨rfl,U b l⟩),p,fun γ' q=>?_⟩;have hc:=znz (S':=fun b=>(S b\/w.heap.size<=b)/\s.ownBlock≠some b) (γ':=fun j=>if j=i then γ i else none) g I (by simp [I]) U (fun j b s' J l=>⟨aN (g.ge b (own.mk l)).1.1,fun e=>J (g.inj _ _ _ _ _ l I Bc (by rw [e];exact Bc))⟩) W;exact (hc.sub h3).ren (ids:=[0]) (ρ:=fun _=>i) (fun id M=>by
   have:id=0:=by simpa using M
   subst this;rw [q];simp [I]) res rfl m
 cases e with
 |normal=>exact key L
 |ret=>exact key L
 |_=>exact L.elim
def zuf (s:ByteArray)(m:Nat):Option UInt8:=s.data[m]?
def D4 (s:ByteArray):List AV:=s.data.toList.map fun b=>AV.int .u8 b.toNat
section
variable {P:Program}
theorem z8p (w:World){base t u e:Nat}{i:TypeInfo}(z:P.underlying t=some (.slice e))(y:P.underlying u=some .string)(hi:P.info? e=some i)(I:i.zero=some (.int .u8 0))(h:i.size=1)(q:i.bytes=1)
  {v v':Value} {w':World} {n:Nat} {xs:List Value} (k:w.ownsRow base e 1 v n xs) (s:ByteArray) (G:n+s.size<=maxLen) (B:n+s.size<=140737488355328) (d:(Builtin.append_ #[t,u] ty #[v,.string s]).run P w=.ok v' w') :
  v'.ownBlock=v.ownBlock\/v'.ownBlock=some w.heap.size:=by
 have A:n+s.size<=9223372036854775807:=by simp only [maxLen] at G;omega
 have C:xs.length=n:=by simpa using k.1
 rcases k.2 with ⟨rfl,rfl⟩|⟨g,cap,r,rfl,Q,N,M,O,F,D⟩
 ·by_cases hm:s.size=0
  ·left;have J:=Lib.run_firstCells_string (P:=P) w 1 s;rw [hm] at J;simp [Builtin.append_,run_underlying z,run_underlying y,sizeOf,typeInfo,hi,h,Builtin.lenOf,hm,J] at d;rw [<-d.1]
  ·right;have p:=run_append_nil_string (P:=P) w t u ty e i (.int .u8 0) z y hi I s (by omega) (by omega) (by rw [q];omega);rw [p] at d;injection d with h1 L
   rw [<-h1];rfl
 ·by_cases l:n+s.size<=cap
  ·left;have K:r.size=cap:=by simpa using F
   have p:=Lib.run_append_room_string (P:=P) w t u ty e i z y hi h g n cap r N s l (by omega);rw [p] at d;injection d with h1 L
   rw [<-h1];rfl
  ·right;have m:∀ j u,xs[j]? = some u->w.cell? ((⟨g,0,none⟩:Addr).add j)=some u:=k.cells (g:=g) rfl;have p:=Lib.run_append_grow_string (P:=P) w t u ty e i (.int .u8 0) z y hi I ⟨g,0,none⟩ n cap xs (by rw [h];simpa using C) m s (by omega) (by omega) (by rw [q];exact growslice_fits (by omega) (by omega));rw [p] at d;injection d with h1 L
   rw [<-h1];rfl
end
section
variable {cx:Cx} {o:Oper} {σ:AS}
theorem zj9 {P:Program}{T:Nat}{i:TyI}(h:TyOk P T i)(j:i.shape=.str):P.underlying T=some .string:=by
 obtain ⟨dd,g,d⟩:=h.und;rw [j] at d;cases dd<;>simp only [E1,reduceCtorEq] at d;exact g
theorem zjm {T:Nat}{x y:Operand}{i:TyI}{s:ByteArray}{k:IntKind}{n:Int}{m:Nat}{b:UInt8}(q:o.op=.index T x y)(D:dok cx o=true)(p:A0 x=true)(l:A0 y=true)(A:σ.eval x=.str s)(z:σ.eval y=.int k n)(G:lkT cx.E.tab T=some i)
  (B:i.shape=.str) (hm:n=(m:Int)) (F:zuf s m=some b):A9 cx o σ (.int .u8 b.toNat) [] [] :=
 Ay D fun τ γ a w h1 I g=>by
  have j:=g.ev x p;rw [h1 x (by simp [q,Op.operands]),A] at j;have d:=g.ev y l;rw [h1 y (by simp [q,Op.operands]),z] at d;have t:=zj9 (cx.E.ok T i G) B;obtain ⟨r,u⟩:=Array.getElem?_eq_some_iff.1 F;have h:m<s.size:=r;have C:s[m]? = some b:=by
   rw [getElem?_pos s m h];exact congrArg some u
  subst hm;refine ⟨.int .u8 b.toNat,?_,.int _ _⟩;simp [execOp,q,j.str_inv,d.int_inv,Instr.index,asIntOf,run_underlying t,C,pure]
theorem z4k {T n d:Nat}{ps:Array (Nat×Operand)}{i ie:TyI}{e esz eb:Nat}(X:o.op=.buildSlice T n ps)(y:o.dst=some d)(hd:dok cx o=true)(hT:lkT cx.E.tab T=some i)(hs:i.shape=.slc e esz eb)(he:lkT cx.E.tab e=some ie)(hz:esz≠0)(hn:Nat.ble (n*esz) 16777216=true)
  (O:ie.zero.cells.all (·.oneCell')=true) (U:Nat.blt 0 ie.zero.cells.size=true) (W:Dq σ ps=true) (ac:AV.closedL xs=true) (m:xs.length=n) (hl:xs.all (fun x=>aH x.cells.length esz)=true)
  (hf:Cr (fun j=>some (j*esz,esz)) (bC (n*esz) .any) (Cd σ ps)=some (xs.flatMap AV.cells)) (Y:σ.find d=none):A9 cx o σ (.row d) (d::E2 (Cd σ ps)) [(d,.row e esz xs)]:=by
 refine ⟨fun id e he=>?_,fun τ h1 h2 a w Q K ⟨γ,J⟩ hK=>Br (fun c hc=>by rw [X] at hc;cases hc) ?_⟩
 ·have:=Es he;simp at this;simp [this]
 have M:=Ug J W (fun p hp=>h1 p.2 (by simp only [X,Op.operands,mem_toArray,mem_map];exact ⟨p,hp,rfl⟩)) (fun id aa=>h2 id (mem_cons_of_mem _ aa));have D:∀ j,(ie.zero.cells[j % ie.zero.cells.size]!).oneCell'=true:=zdk O (by simpa using U);have G:CRel w (Sg cx.S0 cx.w0.heap.size γ) γ ((bF (n*esz)).map (ie.zero.cells[· % ie.zero.cells.size]!)) (bC (n*esz) .any):=by
  refine ⟨by simp,fun j A=>by simp only [aL];exact .any _,fun j A=>?_⟩;have z:j<n*esz:=by simpa using A
  have:((bF (n*esz)).map (ie.zero.cells[· % ie.zero.cells.size]!)).getD j undef=ie.zero.cells[j % ie.zero.cells.size]! := by
   rw [aB,Array.getElem?_map,Array.getElem?_range,if_pos z];rfl
  rw [this];exact D j
 obtain ⟨cells',B,af,ae,ad⟩:=Qp (f:=a.eval) (g:=σ.eval) ps.toList _ _ _ M G hf;have L:=Wc (parts:=ps.map fun p=>(p.1,a.eval p.2)) (cx.E.ok T i hT) hs (cx.E.ok e ie he) hz (aJ hn) (by rw [aW];exact B) w;have F:Below w.heap.size w (w.alloc (.cells cells' e)):=(Below.refl _ _).alloc (aD _) _;have l:∀ k (t:k<xs.length),(xs[k]).cells.length=esz:=fun k t=>by
  simp only [aO] at hl;exact aA (hl _ (getElem_mem t))
 obtain ⟨g1,g2⟩:=zke l;have Z:∀ k j,k<xs.length->j<esz->k*esz+j<xs.length*esz:=fun k j t A=>by
  have:(k+1)*esz<=xs.length*esz:=aF _ t;rw [aR] at this;omega
 have C:cells'.size=n*esz:=by rw [af,g1,m]
 have ag:n<=16777216:=by
  have h:=aJ hn;have:n*1<=n*esz:=Nat.mul_le_mul_left _ (by omega);omega
 unfold Oper.wp;have ab:(execOp a.eval o).run cx.P w=.ok (.value (.slice (some ⟨w.heap.size,0,none⟩) n n)) (w.alloc (.cells cells' e)):=by
  have e':(ps.map fun x=>match x with|(i,x)=>(i,a.eval x))=ps.map fun p=>(p.1,a.eval p.2):=rfl
  simp only [execOp,X,e',Sem.run_bind,Sem.run_pure,Result.andThen_ok,L]
 rw [ab];refine hK _ _ ?_;rw [y];refine Uu (v:=.slice (some ⟨w.heap.size,0,none⟩) n n) (us:=cells'.toList) J (fun _=>aD _) (by rw [h2 d (by simp),Y]) (fun x V=>by injection V with V;subst V;exact Bj hd _ y) F
  ⟨by rw [aK,C,m],aN ⟨w.heap.size,n,cells',by rw [m],aD _,Blk.new w _ _,by omega,by unfold maxLen;omega,C,?_⟩⟩ l (fun k t j A=>?_) (fun u hu=>?_)
  (fun hS=>.row (aC _ _ _) (fun g s e _=>by injection e with e;injection e with _ e))
 ·rw [aU (by rw [aK,C,m];exact aD _)]
 ·have z:j<esz:=by rw [<-l k t];exact A
  have r:k*esz+j<(xs.flatMap AV.cells).length:=by rw [g1];exact Z k j t z
  have:=ae (k*esz+j) r;have I:=g2 k t j A;rw [getElem?_eq_getElem r] at I;injection I with I
  rw [I] at this;have e2:cells'.toList.getD (k*esz+j) undef=cells'.getD (k*esz+j) undef:=by
   rw [aE,aB,Array.getElem?_toList]
  rw [e2];refine (this.mono F.size (fun b hS r=>⟨F.block b r,aM hS,fun e=>?_⟩)).close (Z4 (AV.closedL_at ac k t) j A);simp only [Value.ownBlock,Option.some.injEq] at e;omega
 ·obtain ⟨q,I,rfl⟩:=mem_iff_getElem.1 hu;have N:q<cells'.size:=by simpa using I
  have:=ad q N;rw [aB,Array.getElem?_eq_getElem N] at this;simpa using this
end
section
variable {cx:Cx} {o:Oper} {σ:AS}
variable {id:Nat}
theorem Qv {γ:Gam}{τ:AS}{a:Act}(n:StG cx γ τ a w)(t:τ.find id=some (.row ty sz xs)) :
  ∃ s vs,γ id=some (some (s.ownBlock,s))/\s.oneCell'=true/\w.ownsRow cx.w0.heap.size ty sz s xs.length vs/\(∀ k (y:k<xs.length),(xs[k]).cells.length=sz) /\
   (∀ k (y:k<xs.length) j (z:j<(xs[k]).cells.length),Rep w (Sg cx.S0 cx.w0.heap.size γ) G0 ((xs[k]).cells[j]) (vs.getD (k*sz+j) undef))/\∀ u∈vs,u.oneCell'=true:=by
 have l:=n.me id;rw [t] at l;obtain ⟨d,q,s,vs,p,h1,g,m,r,h⟩:=l;subst p;exact ⟨s,vs,q,h1,g,m,r,h⟩
variable {T e esz eb lo:Nat}{x:Operand}{i:TyI}
theorem zji {y:Operand}{k:IntKind}(G:o.op=.slice T x (some y) none none)(Y:dok cx o=true)(B:A0 x=true)(A:A0 y=true)(U:σ.eval x=.row id)(Q:σ.eval y=.int k (lo:Int))(hT:lkT cx.E.tab T=some i)(V:i.shape=.slc e esz eb)(q:esz≠0)
  (X:σ.find id=some (.row ty esz xs)) (J:lo<=xs.length):A9 cx o σ (.der (.sub esz lo) id) [id] [] :=
 Ay Y fun τ γ a w u K j=>by
  obtain ⟨O,N,m3⟩:=X1 G;have m:=j.ev x B;rw [u x O,U] at m;obtain ⟨M,L,_⟩:=C5 (cx.E.ok T i hT) V;have r:=Dp L q w;obtain ⟨s,us,d,F,t,_⟩:=Qv (id:=id) j (by rw [K id (by simp)];exact X);have p:∀ c,xs.length<=c->(Instr.sliceBounds true xs.length c (some (a.eval y)) none none).run cx.P w=.ok (lo,xs.length,c) w:=fun c Z =>
   Uc (σ:=σ) (l:=lo) (h:=xs.length) (c:=c) (n:=xs.length) (lo:=some y) (hi:=none) j A rfl (fun z q=>u z (N z q)) (fun z q=>by cases q) (by simp [bndA,Q]) (by simp [bndA]) J Z
  rcases t.2 with ⟨D,h0⟩|⟨g,cap,aa,D,_,_,I,_⟩
  ·have C:xs.length=0:=h0;have W:lo=0:=by omega
   have p:=p 0 (by omega);rw [C] at p;subst D;refine ⟨.slice none 0 0,?_,.der d (fun g s e=>by injection e with e;injection e with _ e;subst e;exact ⟨rfl,rfl⟩)⟩;simp only [execOp,G,m.row_inv d,aZ,bA,Sem.run_bind,Sem.run_pure,Result.andThen_ok];simp [Instr.sliceAt,Instr.slice,run_underlying M,p,r,pure]
  ·have p:=p cap I;subst D;refine ⟨.slice (some (if cap=lo then ⟨g,0,none⟩ else ⟨g,0+lo*esz,none⟩)) (xs.length-lo) (cap-lo),?_,.der d (fun g s e=>by injection e with e;injection e with _ e;subst e;exact ⟨rfl,rfl⟩)⟩;simp only [execOp,G,m.row_inv d,aZ,bA,Sem.run_bind,Sem.run_pure,Result.andThen_ok];simp [Instr.sliceAt,Instr.slice,run_underlying M,p,r,pure,Addr.add_lit];split<;>rfl
theorem zol {γ:Gam}{τ:AS}{a:Act}{v:Value}(r:StG cx γ τ a w)(F:τ.find id=some (.row ty sz xs))(B:Rep w (Sg cx.S0 cx.w0.heap.size γ) γ (.der (.sub sz lo) id) v)(D:lo<xs.length) :
  ∃ g cap d us,γ id=some (some (some g,.slice (some ⟨g,0,none⟩) xs.length cap))/\v=.slice (some ⟨g,lo*sz,none⟩) (xs.length-lo) (cap-lo)/\xs.length<=cap/\w.ownsRow cx.w0.heap.size ty sz (.slice (some ⟨g,0,none⟩) xs.length cap) xs.length us/\w.heap[g]? = some (.cells d ty (0,0))/\d.size=cap*sz/\d.toList.take (xs.length*sz)=us/\(∀ k (G:k<xs.length),(xs[k]).cells.length=sz) /\
   (∀ k (G:k<xs.length) j (J:j<(xs[k]).cells.length),Rep w (Sg cx.S0 cx.w0.heap.size γ) G0 ((xs[k]).cells[j]) (us.getD (k*sz+j) undef))/\∀ u∈us,u.oneCell'=true:=by
 obtain ⟨s,us,p,t,h,n,C,m⟩:=Qv r F;have l:=h;rcases h.2 with ⟨A,K⟩|⟨g,cap,d,A,_,I,y,_,z,q⟩
 ·omega
 ·subst A;refine ⟨g,cap,d,us,p,?_,y,l,I,z,q,n,C,m⟩;rw [B.der_inv p];have:¬cap=lo:=by omega
  simp [Dv.of,this]
theorem zp2 {ty:TypeId}(r:o.op=.call { callee:=.builtin .len,args:=#[x],argTypes:=#[T] })(C:dok cx o=true)(l:A0 x=true)(t:σ.eval x=.der (.sub sz lo) id)(B:σ.find id=some (.row ty sz xs))(D:lkT cx.E.tab T=some i)(y:i.shape=.slc e esz eb)(z:lo<=xs.length):A9 cx o σ (.int .i64 ((xs.length-lo:Nat):Int)) [id] [] :=
 Ay C fun τ γ a w h1 F h=>by
  have k:=h.ev x l;rw [h1 x (by simp [r,Op.operands,Call.operands]),t] at k;obtain ⟨u,_,_⟩:=C5 (cx.E.ok T i D) y;obtain ⟨s,us,q,p,j,_⟩:=Qv (id:=id) h (by rw [F id (by simp)];exact B);have d:∃ A c,a.eval x=.slice A (xs.length-lo) c:=by
   rw [k.der_inv q];rcases j.2 with ⟨n,G⟩|⟨g,cap,I,n,_⟩
   ·have m:xs.length=0:=G;subst n;exact ⟨none,0,by rw [m,Nat.zero_sub];rfl⟩
   ·subst n;exact ⟨_,_,rfl⟩
  obtain ⟨A,c,d⟩:=d;refine ⟨.int .i64 ((xs.length-lo:Nat):Int),?_,.int _ _⟩;simp only [execOp,r,resolve,invoke,builtin,Builtin.len_,Array.map_push,aY,aT,map_nil,d];simp [run_underlying u,goInt,pure]
theorem z98 {y:Operand}{ty:TypeId}{k:IntKind}{n:Int}{m:Nat}(q:o.op=.indexAddr T x y)(J:dok cx o=true)(p:A0 x=true)(l:A0 y=true)(C:σ.eval x=.der (.sub sz lo) id)(B:σ.eval y=.int k n)
  (I:σ.find id=some (.row ty sz xs)) (K:lkT cx.E.tab T=some i) (F:i.shape=.slc e sz eb) (A:sz≠0) (G:n=(m:Int)) (hm:lo+m<xs.length):A9 cx o σ (.elt id sz (lo+m) 0) [id] [] :=
 Ay J fun τ γ a w h1 L h=>by
  have j:=h.ev x p;rw [h1 x (by simp [q,Op.operands]),C] at j;have d:=h.ev y l;rw [h1 y (by simp [q,Op.operands]),B] at d;obtain ⟨D,u,_⟩:=C5 (cx.E.ok T i K) F;obtain ⟨g,cap,N,us,t,M,z,_⟩:=zol (id:=id) h (by rw [L id (by simp)];exact I) j (by omega);refine ⟨.pointer (some ⟨g,(lo+m)*sz,none⟩),?_,.elt t (fun O s e=>by injection e with e;injection e with e _;simp only [Option.some.injEq] at e;rw [<-e];rfl)⟩;subst G;have r:m<xs.length-lo:=by omega
  simp [execOp,q,M,d.int_inv,Instr.indexAt,asIntOf,run_underlying D,Dp u A,r,pure,Addr.add_lit,Nat.add_mul]
theorem zcz (z:Array Value)(n q j:Nat)(k:q<n)(h:j<z.size):(Builtin.zeroCells z n).toList.getD (q*z.size+j) undef=z.getD j undef:=by
 have g:q*z.size+j<n*z.size:=by
  have:(q+1)*z.size<=n*z.size:=aF _ k;rw [aR] at this;omega
 have d:(q*z.size+j) % z.size=j:=by rw [Nat.mul_comm,Nat.mul_add_mod,Nat.mod_eq_of_lt h]
 rw [aE];simp [Builtin.zeroCells,g,d,bG,h]
variable {α:Type}
def clrL (l:List α)(lo:Nat)(z:α):List α:=l.take lo++bC (l.length-lo) z
theorem zl1 (l:List α)(lo:Nat)(z:α)(h:lo<=l.length):(clrL l lo z).length=l.length:=by simp [clrL];omega
theorem zta {d:Type}(f:α->d)(l:List α)(lo:Nat)(z:α):clrL (l.map f) lo (f z)=(clrL l lo z).map f:=by simp [clrL]
theorem zjn {ie:TyI}(ho:o.op=.call { callee:=.builtin .clear,args:=#[x],argTypes:=#[T] })(hd:dok cx o=true)(ay:A0 x=true)(hx:σ.eval x=.der (.sub esz lo) id)(hl:σ.find id=some (.row e esz xs))(hT:lkT cx.E.tab T=some i)(hs:i.shape=.slc e esz eb)(he:lkT cx.E.tab e=some ie)(hz:esz≠0)
  (ax:Gl ie=true) (D:ie.zero.cells.all (·.oneCell')=true) (bf:lo<=xs.length):A9 cx o σ (.tup []) [id] [(id,.row e esz (clrL xs lo (Cw ie)))]:=by
 refine ⟨fun id e he=>Es he,fun τ h1 h2 a w Q K ⟨γ,p⟩ hK=>Br (fun c hc=>by rw [ho] at hc;cases hc) ?_⟩;have af:=p.ev x ay;rw [h1 x (by simp [ho,Op.operands,Call.operands]),hx] at af;obtain ⟨V,bm,_⟩:=C5 (cx.E.ok T i hT) hs;have ak:=cx.E.ok e ie he;have bc:ie.sz=esz:=ak.cells.symm.trans bm;obtain ⟨ah,aw⟩:=Wm ax;have C:ie.zero.cells.size=esz:=aw.trans bc;have ar:(Cw ie).cells.length=esz:=by rw [ah,length_map,aK,C]
 have av:∀ v∈ie.zero.cells,v.oneCell'=true:=by
  rw [Array.all_eq_true_iff_forall_mem] at D;exact D
 have hf:τ.find id=some (.row e esz xs):=by rw [h2 id (by simp)];exact hl
 have l:=zl1 xs lo (Cw ie) bf;unfold Oper.wp;by_cases aq:lo<xs.length
 ·obtain ⟨g,cap,B,us,t,ex,X,n,hh,bt,bb,z,hr,F⟩:=zol (id:=id) p hf af aq;have ab:=n;obtain ⟨br,_⟩:=n;have r:(Builtin.zeroCells ie.zero.cells (xs.length-lo)).toList.length=(xs.length-lo)*esz:=by simp [Builtin.zeroCells,C]
  have bp:lo*esz+(xs.length-lo)*esz=xs.length*esz:=by rw [<-Nat.add_mul];congr 1;omega
  have bn:xs.length*esz<=cap*esz:=aF _ X;have Y:∀ v∈(Builtin.zeroCells ie.zero.cells (xs.length-lo)).toList,v.oneCell'=true:=fun v hv=>by
   obtain ⟨q,hq,rfl⟩:=mem_iff_getElem.1 hv;rw [r] at hq;have aj:0<ie.zero.cells.size:=by omega
   have am:=Nat.mod_lt q aj;simp only [Builtin.zeroCells,aW,aP,Array.getElem_toList,Array.getElem_range];rw [getElem!_pos ie.zero.cells _ am];exact av _ (Array.getElem_mem _)
  have y:=run_storeCells_at cx.P g (lo*esz) e (Builtin.zeroCells ie.zero.cells (xs.length-lo)).toList 0 B w hh (by rw [r];omega) Y;simp only [Nat.add_zero,r] at y;generalize ad:(Builtin.zeroCells ie.zero.cells (xs.length-lo)).toList=news at y r Y;generalize L:(B.toList.take (lo*esz)++news++B.toList.drop (lo*esz+(xs.length-lo)*esz)).toArray=d at y;have al:xs.length-lo≠0:=by omega
  have aa:(Builtin.clear_ #[T] 0 #[a.eval x]).run cx.P w=.ok (.tuple #[]) (w.setRow g d):=by
   obtain ⟨m,hm⟩:∃ m,xs.length-lo=m+1:=⟨xs.length-lo-1,by omega⟩;rw [hm] at ad ex;simp only [Builtin.clear_,ex];simp [run_underlying V,ak.zeroV w,ad,y,pure]
  have ba:∀ ty,(Builtin.clear_ #[T] ty #[a.eval x])=(Builtin.clear_ #[T] 0 #[a.eval x]):=fun ty=>rfl
  have ae:(execOp a.eval o).run cx.P w=.ok (.value (.tuple #[])) (w.setRow g d):=by
   simp only [execOp,ho,resolve,invoke,builtin,aY,aT,map_nil,ba,Sem.run_bind,aa,Result.andThen_ok,Sem.run_pure]
  rw [ae];have au:=setRow_heap w g B d e (0,0) hh;have W:∀ q,q≠g->(w.setRow g d).heap[q]? = w.heap[q]? := fun q hq=>setRow_other w g q _ hq
  have ag:w.heap.size<=(w.setRow g d).heap.size:=by simp
  have bk:w.grownBy (w.setRow g d) (some g):=⟨rfl,rfl,rfl,ag,fun k M al=>W k (fun e=>al (by rw [e]))⟩;have bl:w.drawn<=(w.setRow g d).drawn:=aD _;have I:own γ g:=own.mk t;have O:∀ b,Sg cx.S0 cx.w0.heap.size γ b->b≠g:=fun b N e=>by
   subst e;rcases N with ⟨_,h⟩|⟨_,h⟩
   ·have:=(p.ge b I).1.1;omega
   ·exact h I
  generalize w.setRow g d=w' at *;have ai:d.toList.take (xs.length*esz)=us.take (lo*esz)++news:=by
   rw [<-L];simp only [<-bb];rw [toList_toArray,take_append,aU (by simp;omega)];have:(List.take (lo*esz) B.toList++news).length=xs.length*esz:=by simp [r];omega
   rw [this,bE,take_zero,append_nil,take_take,Nat.min_eq_left (by omega)]
  refine hK _ _ (Zg (v:=.slice (some ⟨g,0,none⟩) xs.length cap) (us':=us.take (lo*esz)++news) p (fun _=>bl) t (Bj hd) bk ?_ (fun k M=>?_) (fun k M j G=>?_) (fun u V=>?_) (.tup #[] rfl (fun j G=>absurd G (by simp))))
  ·rw [l];rcases ab.2 with ⟨h,_⟩|⟨g',bq,cu,az,bo,_,_,bd,_,_⟩
   ·cases h
   ·injection az with U e2 e3
    injection U with U
    injection U with U _ _
    subst U;subst e3;refine ⟨by simp [r];omega,aN ⟨g,cap,d,rfl,bo,au,X,bd,?_,ai⟩⟩;rw [<-L];simp [r];omega
  ·rw [l] at M;simp only [clrL,aQ];split
   ·rw [getElem_take];exact z k _
   ·rw [aL];exact ar
  ·rw [l] at M;have ap:(us.take (lo*esz)).length=lo*esz:=by simp;omega
   by_cases bg:k<lo
   ·have J:(clrL xs lo (Cw ie))[k]'(by rw [l];exact M)=xs[k]:=by
     simp only [clrL,aQ];rw [dif_pos (by simp;omega),getElem_take]
    rw [J] at G;have bi:j<esz:=by rw [<-z k M];exact G
    have ao:k*esz+j<lo*esz:=by
     have:(k+1)*esz<=lo*esz:=aF _ bg;rw [aR] at this;omega
    have U:(us.take (lo*esz)++news).getD (k*esz+j) undef=us.getD (k*esz+j) undef:=by
     rw [aE,getElem?_append_left (by omega),getElem?_take_of_lt ao,<-aE]
    rw [U];simp only [J];exact (hr k M j G).mono ag (fun b N aq=>⟨W b (O b N),aM N,fun e=>O b N (by injection e with e;exact e.symm)⟩)
   ·have J:(clrL xs lo (Cw ie))[k]'(by rw [l];exact M)=Cw ie:=by
     simp only [clrL,aQ];rw [dif_neg (by simp;omega),aL]
    rw [J] at G;have bi:j<esz:=by rw [<-ar];exact G
    have bs:lo*esz<=k*esz:=aF _ (by omega);have U:(us.take (lo*esz)++news).getD (k*esz+j) undef=ie.zero.cells.getD j undef:=by
     rw [aE,getElem?_append_right (by omega),ap,<-aE,<-ad];have:=zcz ie.zero.cells (xs.length-lo) (k-lo) j (by omega) (by omega);rw [<-this,C,Nat.sub_mul];congr 1;omega
    rw [U];simp only [J,ah,aP];have bh:j<ie.zero.cells.size:=by omega
    have:ie.zero.cells.getD j undef=ie.zero.cells[j]:=by simp [bG,bh]
    rw [this];simpa using Gk _ _ _ (ie.zero.cells[j])
  ·rcases mem_append.1 V with V|V
   ·exact F u (mem_of_mem_take V)
   ·exact Y u V
 ·have an:lo=xs.length:=by omega
  have ae:(execOp a.eval o).run cx.P w=.ok (.value (.tuple #[])) w:=by
   obtain ⟨s,us,t,ac,n,_⟩:=Qv (id:=id) p hf;have Z:∃ A c,a.eval x=.slice A 0 c:=by
    rw [af.der_inv t];rcases n.2 with ⟨hv,h0⟩|⟨g,cap,B,hv,_⟩
    ·subst hv;exact ⟨none,0,rfl⟩
    ·subst hv;exact ⟨_,_,by show Value.slice _ (xs.length-lo) _=_;rw [an,bE]⟩
   obtain ⟨A,c,Z⟩:=Z;simp only [execOp,ho,resolve,invoke,builtin,aY,aT,map_nil,Builtin.clear_,Z];cases A<;>simp [run_underlying V,pure]
  rw [ae];have bj:clrL xs lo (Cw ie)=xs:=by simp [clrL,an]
  rw [bj] at hK;obtain ⟨s,us,t,ac,n,z,hr,F⟩:=Qv (id:=id) p hf;have O:∀ b,Sg cx.S0 cx.w0.heap.size γ b->s.ownBlock≠some b:=fun b N e=>by
   have I:own γ b:=own.mk (by rw [t,e]);rcases N with ⟨_,h⟩|⟨_,h⟩
   ·have:=(p.ge b I).1.1;omega
   ·exact h I
  exact hK _ _ (Zg (v:=s) (us':=us) p (fun _=>aD _) t (Bj hd) (World.grownBy.refl _ _) n z (fun k M j G=>(hr k M j G).mono (aD _) (fun b N _=>⟨rfl,aM N,O b N⟩)) F (.tup #[] rfl (fun j G=>absurd G (by simp))))
end
section
variable {P:Program} {w:World} {S:Nat->Prop}
end
theorem con0 (x:Value)(vs:Array Value):(#[x]++vs).getD 0 undef=x:=by
 rw [aB,Array.getElem?_append_left (by simp)];rfl
theorem Mk {B n:Nat}{s:Value}{vs:List Value}(h:w.ownsRow B ty sz s n vs):s.ownBlock=B4 s/\Cm s=[]:=by
 rcases h.2 with ⟨rfl,_⟩|⟨g,cap,d,rfl,_⟩<;>exact ⟨rfl,rfl⟩
theorem Gj {s:Value}{b:Nat}(h:s.ownBlock=B4 s)(d:Cm s=[]):b∈blks (some (s.ownBlock,s)) ↔ B4 s=some b:=by
 simp [blks,d,h]
section
variable {cx:Cx} {o:Oper} {σ:AS}
theorem zq3 {d k id:Nat}{e m j:Ent}(h:lkE [(d,e),(k,m)] id=some j):id∈[d,k]:=by
 simp only [lkE] at h;cases l:aH d id with
 |true=>simp [aA l]
 |false =>
  rw [l] at h;cases g:aH k id with
  |true=>simp [aA g]
  |false=>rw [g] at h;cases h
theorem zc9 {d g:Nat}{e k:Ent}(l:d≠g)(i:Nat):lkE [(d,e),(g,k)] i=if i=d then some e else if i=g then some k else none:=by
 simp only [lkE];by_cases h1:i=d
 ·subst h1;simp
 ·rw [if_neg h1];have:aH d i=false:=by cases h:aH d i with|true=>exact absurd (aA h).symm h1|false=>rfl
  rw [this];by_cases j:i=g
  ·subst j;simp
  ·rw [if_neg j];have:aH g i=false:=by cases h:aH g i with|true=>exact absurd (aA h).symm j|false=>rfl
   rw [this]
theorem zh5 (vs:Array Value)(x:Value)(p j:Nat)(d:p<vs.size):(vs.setIfInBounds p x).getD j undef=if j=p then x else vs.getD j undef:=by
 simp only [aB,Array.getElem?_setIfInBounds];by_cases h:j=p
 ·subst h;rw [if_pos rfl,if_pos d,if_pos rfl];rfl
 ·rw [if_neg h,if_neg (fun e=>h e.symm)]
theorem zsd {S:Nat->Prop}{B:Nat}{v:Value}(h:NRep w S B v (.row ty sz xs)):∃ us,w.ownsRow B ty sz v xs.length us:=by
 obtain ⟨_,us,h,_⟩:=h;exact ⟨us,h⟩
end
end Go.Proofs.YtkoamfnbbhfaiaaGreatDoor
