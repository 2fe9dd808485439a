/- The abstract walk, before its evaluator. -/
import Derived.Test.YtkoamfnbbhfaiaaGreatDoorK04
import Derived.Laws.OwnMore
import Derived.MapKept
import Derived.Carry
set_option linter.unusedVariables false
set_option linter.unusedSimpArgs false
namespace Go.Proofs.YtkoamfnbbhfaiaaGreatDoor
open Go.RowKit List
open Nat renaming eq_of_beq_eq_true->aA,le_refl->aD,beq->aG,mul_le_mul_right->aK,lt_of_lt_of_le->aN,add_assoc->bL,succ_mul->bN,le_trans->bO
open Option.some renaming injEq->aB
open Bool renaming and_eq_true->aC,false_eq_true->aE,not_eq_true'->aO
open AV renaming renL_length->aF,renL_at->aT,inML_at->aU,renL->bP,ofV->bQ,inM->bR
open _root_.Array renaming getElem?_setIfInBounds->aH,getD_eq_getD_getElem?->aL,getD->aM,toList_push->aP,length_toList->bB,toList_modify->bC
open List renaming getD_eq_getElem?_getD->aJ,getElem_replicate->aQ,getElem_take->aV,getElem_map->aX,length_take->aY,length_drop->aZ,getElem_append_right->bA,getElem?_eq_getElem->bD,getElem_append_left->bE,length_cons->bH,map_nil->bJ,map_cons->bK,replicate->bM
open Or renaming inl->aR,inr->aS
open Option renaming map_some->aW,isSome_none->bF,map_none->bI
theorem SubL.refl:∀ l:List AV,SubL l l
 |[]=>.nil
 |x::l=>.cons (.refl x) (SubL.refl l)
inductive SubR:List AV->List AV->Prop
 |nil:SubR [] []
 |cons {x y:AV} {r s:List AV} (h:SubL x.cells y.cells) (hr:SubR r s):SubR (x::r) (y::s)
theorem SubR.refl:∀ l:List AV,SubR l l
 |[]=>.nil
 |x::l=>.cons (.refl _) (SubR.refl l)
variable {a b:List AV}
theorem SubR.append {c d:List AV}(h:SubR a b)(k:SubR c d):SubR (a++c) (b++d):=by
 induction h with
 |nil=>exact k
 |cons h _ ih=>exact .cons h ih
theorem SubR.len (h:SubR a b):a.length=b.length:=by
 induction h with
 |nil=>rfl
 |cons h _ ih=>simp [ih]
theorem SubR.at (h:SubR a b)(i:Nat)(hi:i<a.length)(c:i<b.length):SubL a[i].cells b[i].cells:=by
 induction h generalizing i with
 |nil=>simp at hi
 |cons h _ ih =>
  cases i with
  |zero=>exact h
  |succ i=>exact ih i (by simpa using hi) (by simpa using c)
variable {x:AV}
theorem SubR.replicate {y:AV}(h:SubL x.cells y.cells)(n:Nat):SubR (bM n x) (bM n y):=by
 induction n with
 |zero=>exact .nil
 |succ n ih=>exact .cons h ih
theorem SubR.set {y:AV}(h:SubL x.cells y.cells):∀ (l:List AV) (n:Nat),SubR (l.set n x) (l.set n y)
 |[],_=>.nil
 |z::l,0=>.cons h (.refl l)
 |z::l,n+1=>.cons (.refl _) (SubR.set h l n)
inductive SubM:List (AV×AV)->List (AV×AV)->Prop
 |nil:SubM [] []
 |cons (k:AV) {x y:AV} {r s:List (AV×AV)} (h:Sub x y) (hr:SubM r s):SubM ((k,x)::r) ((k,y)::s)
theorem SubM.refl:∀ l:List (AV×AV),SubM l l
 |[]=>.nil
 |(k,x)::l=>.cons k (.refl x) (SubM.refl l)
theorem SubM.append {a b c d:List (AV×AV)}(h:SubM a b)(k:SubM c d):SubM (a++c) (b++d):=by
 induction h with
 |nil=>exact k
 |cons k h _ ih=>exact .cons k h ih
variable {k:AV}
theorem SubM.set {y:AV}(h:Sub x y):∀ (l:List (AV×AV)) (n:Nat),SubM (l.set n (k,x)) (l.set n (k,y))
 |[],_=>.nil
 |_::l,0=>.cons k h (.refl l)
 |(c,z)::l,n+1=>.cons c (.refl _) (SubM.set h l n)
theorem SubM.at {a b:List (AV×AV)}(h:SubM a b):a.length=b.length/\∀ (i:Nat) (hi:i<a.length) (c:i<b.length),a[i].1=b[i].1/\Sub a[i].2 b[i].2:=by
 induction h with
 |nil=>exact ⟨rfl,fun i hi=>absurd hi (by simp)⟩
 |cons k h _ ih =>
  refine ⟨by simp [ih.1],fun i hi c=>?_⟩;cases i with
  |zero=>exact ⟨rfl,h⟩
  |succ i=>exact ih.2 i (by simpa using hi) (by simpa using c)
variable {w:World}{S:Nat->Prop}{g:Nat}{ps:List (AV×AV)}
theorem Eh.sub {d:List (AV×AV)}(h:Eh w S g ps)(y:SubM ps d):Eh w S g d:=by
 obtain ⟨es,clock,h1,A,c,z⟩:=h;obtain ⟨m,l⟩:=y.at;refine ⟨es,clock,h1,A.trans m,c,fun j q u=>?_⟩;have f:j<ps.length:=by omega
 obtain ⟨C,B⟩:=l j f u;obtain ⟨p,n⟩:=z j q f;exact ⟨C▸p,n.sub B⟩
inductive Js:Ent->Ent->Prop
 |refl (e:Ent):Js e e
 |box (ty:Nat) {cs ds:List AV} (h:SubL cs ds):Js (.box ty cs) (.box ty ds)
 |row (ty sz:Nat) {xs ys:List AV} (h:SubR xs ys):Js (.row ty sz xs) (.row ty sz ys)
 |mp {ps qs:List (AV×AV)} (h:SubM ps qs):Js (.mp ps) (.mp qs)
variable {γ:Gam}
theorem Js.rep {B:Nat}{d:Option (Option Nat×Value)}{e A:Ent}(h:B8 w S γ B d e)(f:Js e A):B8 w S γ B d A:=by
 cases f with
 |refl=>exact h
 |mp f =>
  obtain ⟨g,h1,n⟩:=h;exact ⟨g,h1,n.sub f⟩
 |box ty f =>
  obtain ⟨g,vs,h1,n,u,q,p⟩:=h;exact ⟨g,vs,h1,n,by rw [u,f.len],fun i hi=>(q i (by rw [f.len];exact hi)).sub (f.at i _ hi),p⟩
 |row ty sz f =>
  obtain ⟨s,vs,h1,n,u,q,p,C⟩:=h;refine ⟨s,vs,h1,n,by rw [<-f.len];exact u,fun k m=>?_,fun k m j y=>?_,C⟩
  ·have c:=m;rw [<-f.len] at c;rw [<-(f.at k c m).len];exact q k c
  ·have c:=m;rw [<-f.len] at c;have z:=f.at k c m;have l:=y;rw [<-z.len] at l;exact (p k c j l).sub (z.at j l y)
inductive My:List (Nat×Ent)->List (Nat×Ent)->Prop
 |nil:My [] []
 |cons (i:Nat) {e e':Ent} {r s:List (Nat×Ent)} (h:Js e e') (hr:My r s):My ((i,e)::r) ((i,e')::s)
variable {r s:List (Nat×Ent)}
theorem My.lk (h:My r s)(i:Nat):(lkE r i=none/\lkE s i=none)\/∃ e c,lkE r i=some e/\lkE s i=some c/\Js e c:=by
 induction h with
 |nil=>exact aR ⟨rfl,rfl⟩
 |cons j h _ ih =>
  simp only [lkE];cases aG j i with
  |true=>exact aS ⟨_,_,rfl,rfl,h⟩
  |false=>exact ih
variable {τ:AS}{dst:Option Nat}{av:AV}
theorem St.subW {cx:Cx}{a:Act}(h:My r s)(k:St cx (τ.upd dst av r) a w):St cx (τ.upd dst av s) a w:=by
 obtain ⟨γ,k⟩:=k;refine ⟨γ,fun t=>?_,fun i=>?_,k.inj,k.ge,k.below,k.size,k.defers,k.gh,k.fr,k.dr⟩
 ·have:=k.tm t;rw [AS.get_upd] at this ⊢;exact this
 ·have:=k.me i;rw [AS.find_upd] at this ⊢;rcases h.lk i with ⟨h1,c⟩|⟨e,m,h1,c,l⟩
  ·rw [h1] at this;rw [c];exact this
  ·rw [h1] at this;rw [c];obtain ⟨d,j,f⟩:=this;exact ⟨d,j,l.rep f⟩
theorem A9.weak {cx:Cx}{o:Oper}{σ:AS}{ids:List Nat}(h:My r s)(k:A9 cx o σ av ids r):A9 cx o σ av ids s:=by
 refine ⟨fun id e j=>?_,fun τ h1 f a w Q K d l=>k.2 τ h1 f a w Q K d (fun m w' c=>l m w' (c.subW h))⟩;rcases h.lk id with ⟨_,f⟩|⟨e,n,h1,_,_⟩
 ·rw [f] at j;cases j
 ·exact k.1 id e h1
def scA:AV->Bool |.agg _=>false |_=>true
def Cw (ie:TyI):AV:=match ie.shape.agg with
 |true=>.agg (ie.zero.cells.toList.map bQ)
 |false=>(ie.zero.cells.toList.map bQ).headD .any
def Gl (ie:TyI):Bool:=aG ie.zero.cells.size ie.sz && (ie.shape.agg || (aG ie.sz 1 && scA (Cw ie)))
variable {ie:TyI}
theorem Wm (h:Gl ie=true):(Cw ie).cells=ie.zero.cells.toList.map bQ/\ie.zero.cells.size=ie.sz:=by
 unfold Gl at h;simp only [aC,Bool.or_eq_true] at h;obtain ⟨h1,c⟩:=h;have h1:=aA h1;refine ⟨?_,h1⟩;unfold Cw at *;cases m:ie.shape.agg with
 |true=>rfl
 |false =>
  rw [m] at c;simp only [aE,false_or] at c;have n:=aA c.1;have d:=c.2;generalize f:ie.zero.cells.toList=z at *;have l:z.length=1:=by rw [<-f];simp;omega
  match z,l with
  |[x],_ =>
   simp only [bK,bJ,headD_cons] at d ⊢;cases j:bQ x<;>first|rfl|(rw [j] at d;simp [scA] at d)
section
variable {cx:Cx} {σ:AS} {o:Oper}
theorem zjk {T d e esz eb:Nat}{x y:Operand}{i:TyI}{k k':IntKind}{n:Int}{m:Nat}(U:o.op=.makeSlice T x y)(p:o.dst=some d)(hd:dok cx o=true)(X:A0 x=true)(W:A0 y=true)(F:σ.eval x=.int k n)(hy:σ.eval y=.int k' n)
  (hT:lkT cx.E.tab T=some i) (hs:i.shape=.slc e esz eb) (N:lkT cx.E.tab e=some ie) (hz:esz≠0) (V:Gl ie=true) (l:ie.zero.cells.all (·.oneCell')=true) (hn:σ.find d=none) (hm:n=(m:Int)) (h1:m<=1099511627776) (h2:ie.bytes*m<=281474976710656)
  (O:cx.E.dr=false):A9 cx o σ (.row d) [d] [(d,.row e esz (bM m (Cw ie)))]:=by
 refine ⟨fun id e N=>?_,fun τ q1 q2 a w Q K ⟨γ,A⟩ hK=>Br (fun c hc=>by rw [U] at hc;cases hc) ?_⟩
 ·simp only [lkE] at N;cases hb:aG d id with
  |true=>simp [aA hb]
  |false=>rw [hb] at N;cases N
 have ex:=A.ev x X;rw [q1 x (by simp [U,Op.operands]),F] at ex;have ey:=A.ev y W;rw [q1 y (by simp [U,Op.operands]),hy] at ey;obtain ⟨Y,ah,_⟩:=C5 (cx.E.ok T i hT) hs;have L:=cx.E.ok e ie N;obtain ⟨info,hi,ad,ac,ab⟩:=L.both;have z:ie.sz=esz:=L.cells.symm.trans ah;obtain ⟨E,D⟩:=Wm V;subst hm;obtain ⟨w',G,J,ae⟩:=run_make_full (P:=cx.P) w w.heap.size T e info ie.zero esz Y hi ab (ad.trans z) k k' m (by rw [ac];exact h2) (by unfold maxLen;omega) (aD _);unfold Oper.wp;have af:(execOp a.eval o).run cx.P w=.ok (.value (.slice (some ⟨w.heap.size,0,none⟩) m m)) w':=by
  simp only [execOp,U,ex.int_inv,ey.int_inv,Sem.run_bind,G,Result.andThen_ok,Sem.run_pure]
 rw [af];refine hK _ _ ?_;rw [p];have ag:(Cw ie).cells.length=esz:=by rw [E,length_map,bB,D,z]
 have M:∀ q j,q<m->j<esz->(madeCells ie.zero.cells (m*esz)).toList.getD (q*esz+j) undef=ie.zero.cells.getD j undef:=fun q j C hj=>by
  have Z:q*esz+j<m*esz:=by
   have:(q+1)*esz<=m*esz:=aK _ C;rw [bN] at this;omega
  have f:(q*esz+j) % ie.zero.cells.size=j:=by
   rw [D,z,Nat.mul_comm,Nat.mul_add_mod,Nat.mod_eq_of_lt hj]
  rw [aJ];have B:j<ie.zero.cells.size:=by omega
  simp [madeCells,Z,f,aM,B]
 have R:∀ v∈ie.zero.cells,v.oneCell'=true:=by
  rw [Array.all_eq_true_iff_forall_mem] at l;exact l
 refine Uu (v:=.slice (some ⟨w.heap.size,0,none⟩) m m) (us:=(madeCells ie.zero.cells (m*esz)).toList) A (fun h=>absurd (O.symm.trans h) (by simp)) (by rw [q2 d (by simp),hn]) (fun x F=>by injection F with F;subst F;exact Bj hd _ p) ((Below.refl _ _).grown ae (aD _) (fun k h=>by cases h))
  (by rw [length_replicate];exact J) (fun q C=>by rw [aQ];exact ag) (fun q C j hj=>?_) (fun u Y=>?_)
  (fun hS=>.row (Gam.set_self _ _ _) (fun g s e _=>by injection e with e;injection e with _ e))
 ·have H:q<m:=by simpa using C
  rw [aQ] at hj;have B:j<esz:=by omega
  rw [M q j H B];simp only [aQ,E,aX];have aa:j<ie.zero.cells.size:=by omega
  have:ie.zero.cells.getD j undef=ie.zero.cells[j]:=by simp [aM,aa]
  rw [this];simpa using Gk _ _ _ (ie.zero.cells[j])
 ·obtain ⟨q,C,rfl⟩:=mem_iff_getElem.1 Y;have H:q<m*esz:=by simpa [size_madeCells] using C
  have I:0<ie.zero.cells.size:=by omega
  have f:=Nat.mod_lt q I;simp only [madeCells,Array.toList_map,aX,Array.getElem_toList,Array.getElem_range];rw [getElem!_pos ie.zero.cells _ f];exact R _ (Array.getElem_mem _)
end
inductive FK
 |int
 |bool
 |str
 |no
def fkA:AV->FK |.int _ _=>.int |.bool _=>.bool |.str _=>.str |_=>.no
def fkT:FK->Option TypeDesc->Bool |.int,some (.int _)=>true |.bool,some .bool=>true |.str,some .string=>true |_,_=>false
def eq1:AV->AV->Option Bool
 |.int k a,.int c b=>match decide (k=c) with
  |true=>some (decide (a=b))
  |false=>none
 |.bool a,.bool b=>some (a == b)
 |.str a,.str b=>some (a.toList == b.toList)
 |_,_=>none
def eqL:List AV->List AV->Option Bool
 |[],[]=>some true
 |a::r,b::s=>match eq1 a b,eqL r s with
  |some c,some d=>some (c && d)
  |_,_=>none
 |_,_=>none
def Dg (P:Program):Nat->List AV->List Field->Bool |_,[],[]=>true | n, a :: cs, f :: r=>decide (f.name ≠ "_") && (aG f.offset n && (fkT (fkA a) (P.underlying f.type) && Dg P (n + 1) cs r)) |_,_,_=>false
def R9 (P:Program)(t:TypeId)(cs:List AV):Option Nat:=match P.underlying t,P.info? t with
 |some (.struct gs),some i=>if (aG i.size gs.size && (!P.stoodInHeld t && (Nat.ble gs.size cs.length && Dg P 0 (cs.take gs.size) gs.toList)))=true then some gs.size else none
 |_,_=>none
def hdB (P:Program)(t:TypeId)(k:List AV->Bool):List AV->Bool |a::cs=>fkT (fkA a) (P.underlying t) && k cs |[]=>false
def Mm (P:Program):Nat->List AV->List Field->Bool
 |_,[],[]=>true
 |_,_::_,[]=>false
 | n, cs, f :: r => decide (f.name ≠ "_") && (aG f.offset n && (match R9 P f.type cs with
    |some k=>Mm P (n+k) (cs.drop k) r
    |none=>hdB P f.type (fun cs=>Mm P (n+1) cs r) cs))
def V2 (P:Program)(t:TypeId)(cs:List AV):Bool:=!P.stoodInHeld t && (!P.eqGuardType P.depth t && (match P.underlying t with|some (.struct fs)=>Mm P 0 cs fs.toList|_=>false))
section
variable {P:Program} {w0:World} {S:Nat->Prop} {γ:Gam}
variable {t:TypeId}
theorem Qy {a:AV}(h:fkT (fkA a) (P.underlying t)=true):∃ d,P.underlying t=some d/\((∃ k n f,a=.int k n/\d=.int f)\/(∃ b,a=.bool b/\d=.bool)\/∃ s,a=.str s/\d=.string):=by
 cases c:P.underlying t with
 |none=>rw [c] at h;cases j:fkA a<;>rw [j] at h<;>cases h
 |some d =>
  rw [c] at h;refine ⟨d,rfl,?_⟩;cases a<;>simp only [fkA] at h<;>cases d<;>simp [fkT] at h<;>simp
variable {xs:Array Value}
theorem We {a:AV}{off:Nat}(j:fkT (fkA a) (P.underlying t)=true)(h:off<xs.size):(part t xs off).run P w=.ok (xs.getD off undef) w:=by
 have c:xs[off]? = some (xs.getD off undef):=by simp [aM,h]
 generalize xs.getD off undef=v at *;obtain ⟨d,f,l⟩:=Qy j;rcases l with ⟨_,_,_,_,rfl⟩|⟨_,_,rfl⟩|⟨_,_,rfl⟩<;>simp [part,isAgg,run_underlying f,c]
theorem Ux (d:Nat){a b:AV}{va vb:Value}{c:Bool}(q:fkT (fkA a) (P.underlying t)=true)(f:eq1 a b=some c)(m:Rep w0 S γ a va)(l:Rep w0 S γ b vb):(Op.equalIn (d+1) t va vb).run P w=.ok c w:=by
 obtain ⟨dd,h,u⟩:=Qy q;rcases u with ⟨k,n,p,rfl,rfl⟩|⟨x,rfl,rfl⟩|⟨x,rfl,rfl⟩
 ·cases b<;>simp only [eq1,reduceCtorEq] at f;split at f
  ·rename_i j;injection f with f
   have j:=of_decide_eq_true j;subst j;rw [m.int_inv,l.int_inv,run_equalIn_int w d t _ p _ _ h,<-f];rfl
  ·cases f
 ·cases b<;>simp only [eq1,reduceCtorEq] at f;injection f with f
  rw [m.bool_inv,l.bool_inv,run_equalIn_bool' w d t _ _ h,<-f]
 ·cases b<;>simp only [eq1,reduceCtorEq] at f;injection f with f
  rw [m.str_inv,l.str_inv,run_equalIn_string w d t _ _ h,<-f]
theorem Z3 {w:World}(d:Nat)(xs ys:Array Value):∀ (fs:List Field) (cs ds:List AV) (n:Nat) (c:Bool),Dg P n cs fs=true->eqL cs ds=some c->n+cs.length<=xs.size->n+ds.length<=ys.size ->
  (∀ i (hi:i<cs.length),Rep w0 S γ cs[i] (xs.getD (n+i) undef))->(∀ i (hi:i<ds.length),Rep w0 S γ ds[i] (ys.getD (n+i) undef))->(Op.eqFields (d+1) xs ys fs).run P w=.ok c w
 |[],[],ds,n,c,_,h,_,_,_,_=>by
  cases ds with
  |nil=>simp only [eqL,aB] at h;subst h;simp [Op.eqFields]
  |cons=>simp [eqL] at h
 |f::fs,[],ds,n,c,j,_,_,_,_,_=>by simp [Dg] at j
 |[],a::cs,ds,n,c,j,_,_,_,_,_=>by simp [Dg] at j
 |f::fs,a::cs,[],n,c,j,h,_,_,_,_=>by simp [eqL] at h
 |f::fs,a::cs,b::ds,n,c,j,h,H,G,u,q=>by
  simp only [Dg,aC,decide_eq_true_eq] at j;obtain ⟨J,p,m,I⟩:=j;have p:=aA p;simp only [bH] at H G;have F:Rep w0 S γ a (xs.getD n undef):=u 0 (by simp);have E:Rep w0 S γ b (ys.getD n undef):=q 0 (by simp);unfold eqL at h;split at h
  ·rename_i r K A D;injection h with h
   have y:=Z3 (w:=w) d xs ys fs cs ds (n+1) K I D (by omega) (by omega)
    (fun i hi=>by have:=u (i+1) (by simpa using hi);rw [show n+1+i=n+(i+1) by omega];simpa using this)
    (fun i hi=>by have:=q (i+1) (by simpa using hi);rw [show n+1+i=n+(i+1) by omega];simpa using this)
   have B : f.name ≠ "_" := by simpa using J
   have fb:(part f.type ys n).run P w=.ok (ys.getD n undef) w:=by
    obtain ⟨dd,z,C⟩:=Qy m;have l:ys[n]? = some (ys.getD n undef):=by simp [aM,show n<ys.size by omega]
    generalize ys.getD n undef=v at *;rcases C with ⟨_,_,_,_,rfl⟩|⟨_,_,rfl⟩|⟨_,_,rfl⟩<;>simp [part,isAgg,run_underlying z,l]
   unfold Op.eqFields;rw [if_pos B,p];rw [Sem.run_bind,We m (show n<xs.size by omega),Result.andThen_ok,Sem.run_bind,fb,Result.andThen_ok,Sem.run_bind,Ux d m A F E,Result.andThen_ok];subst h;cases r
   ·rfl
   ·simpa using y
  ·cases h
theorem zha:∀ (k:Nat) {cs ds:List AV} {c:Bool},eqL cs ds=some c->k<=cs.length->∃ j f,eqL (cs.take k) (ds.take k)=some j/\eqL (cs.drop k) (ds.drop k)=some f/\c=(j && f)/\k<=ds.length
 |0,cs,ds,c,h,_=>⟨true,c,by simp [eqL],by simpa using h,by simp,Nat.zero_le _⟩
 |k+1,[],ds,c,h,d=>by simp at d
 |k+1,a::cs,[],c,h,d=>by simp [eqL] at h
 |k+1,a::cs,b::ds,c,h,d=>by
  unfold eqL at h;split at h
  ·rename_i r y l m;injection h with h
   obtain ⟨j,f,u,q,p,n⟩:=zha k m (by simpa using d);refine ⟨r && j,f,?_,by simpa using q,by rw [<-h,p,Bool.and_assoc],by simpa using n⟩;simp only [take_succ_cons];unfold eqL;rw [l,u]
  ·cases h
theorem zvq (d:Nat){ys:Array Value}{n k:Nat}{cs ds:List AV}{c:Bool}(h:R9 P t cs=some k)(D:eqL (cs.take k) (ds.take k)=some c)(F:n+k<=xs.size)(E:n+k<=ys.size)(C:k<=cs.length)(B:k<=ds.length)
  (A:∀ i (hi:i<cs.length),Rep w0 S γ cs[i] (xs.getD (n+i) undef)) (z:∀ i (hi:i<ds.length),Rep w0 S γ ds[i] (ys.getD (n+i) undef)) :
  (part t xs n).run P w=.ok (.agg (xs.extract n (n+k))) w/\(part t ys n).run P w=.ok (.agg (ys.extract n (n+k))) w/\(Op.equalIn (d+2) t (.agg (xs.extract n (n+k))) (.agg (ys.extract n (n+k)))).run P w=.ok c w:=by
 unfold R9 at h;split at h;rotate_left
 ·cases h
 rename_i gs i l hi;split at h;rotate_left
 ·cases h
 rename_i y;injection h with h
 subst h;simp only [aC,aO] at y;obtain ⟨q,H,J,G⟩:=y;have q:=aA q;have m:(sizeOf t).run P w=.ok gs.size w:=by simp [sizeOf,typeInfo,hi,q]
 have p:(isAgg t).run P w=.ok true w:=by simp [isAgg,run_underlying l]
 have u:∀ f:Array Value,(part t f n).run P w=.ok (.agg (f.extract n (n+gs.size))) w:=fun f=>by
  unfold part;rw [Sem.run_bind,p,Result.andThen_ok,if_pos rfl,Sem.run_bind,m,Result.andThen_ok];rfl
 have j:P.fieldsOf t=gs:=by simp [Program.fieldsOf,l]
 refine ⟨u xs,u ys,?_⟩;rw [show d+2=(d+1)+1 from rfl,run_equalIn_agg w (d+1) t _ _ (by rw [j];exact l) H,j];have gd:∀ (f:Array Value),n+gs.size<=f.size->∀ i,i<gs.size->(f.extract n (n+gs.size)).getD (0+i) undef=f.getD (n+i) undef:=fun f I i hi=>by
  rw [aL,aL,Array.getElem?_extract,Nat.zero_add];rw [if_pos (by omega)]
 refine Z3 (w0:=w0) (S:=S) (γ:=γ) d _ _ gs.toList (cs.take gs.size) (ds.take gs.size) 0 c G D (by simp;omega) (by simp;omega) (fun i hi=>?_) (fun i hi=>?_)
 ·rw [aY] at hi;rw [gd xs F i (by omega),aV];exact A i (by omega)
 ·rw [aY] at hi;rw [gd ys E i (by omega),aV];exact z i (by omega)
theorem Yz {w:World}(d:Nat)(xs ys:Array Value):∀ (fs:List Field) (cs ds:List AV) (n:Nat) (c:Bool),Mm P n cs fs=true->eqL cs ds=some c->n+cs.length<=xs.size->n+ds.length<=ys.size ->
  (∀ i (hi:i<cs.length),Rep w0 S γ cs[i] (xs.getD (n+i) undef))->(∀ i (hi:i<ds.length),Rep w0 S γ ds[i] (ys.getD (n+i) undef))->(Op.eqFields (d+2) xs ys fs).run P w=.ok c w
 |[],cs,ds,n,c,l,h,_,_,_,_=>by
  cases cs with
  |cons a cs=>simp [Mm] at l
  |nil =>
   cases ds with
   |nil=>simp only [eqL,aB] at h;subst h;simp [Op.eqFields]
   |cons=>simp [eqL] at h
 |f::fs,cs,ds,n,c,l,h,K,J,q,p=>by
  have l : (decide (f.name ≠ "_") && (aG f.offset n && (match R9 P f.type cs with
   |some k=>Mm P (n+k) (cs.drop k) fs
   |none=>hdB P f.type (fun cs=>Mm P (n+1) cs fs) cs)))=true:=by
   cases cs<;>exact l
  simp only [aC,decide_eq_true_eq] at l;obtain ⟨M,z,j⟩:=l;have z:=aA z;have C : f.name ≠ "_" := by simpa using M
  cases u:R9 P f.type cs with
  |some k =>
   rw [u] at j;simp only at j;have m:k<=cs.length:=by
    have:=u;unfold R9 at this;split at this
    ·split at this
     ·rename_i y;injection this with this
      subst this;simp only [aC] at y;exact Nat.le_of_ble_eq_true y.2.2.1
     ·cases this
    ·cases this
   obtain ⟨U,R,Q,O,N,B⟩:=zha k h m;obtain ⟨F,E,D⟩:=zvq (w0:=w0) (w:=w) d (n:=n) u Q (by omega) (by omega) m B q p;have A:=Yz (w:=w) d xs ys fs (cs.drop k) (ds.drop k) (n+k) R j O (by rw [aZ];omega) (by rw [aZ];omega)
    (fun i hi=>by rw [aZ] at hi;rw [getElem_drop,bL];exact q (k+i) (by omega))
    (fun i hi=>by rw [aZ] at hi;rw [getElem_drop,bL];exact p (k+i) (by omega))
   unfold Op.eqFields;rw [if_pos C,z];rw [Sem.run_bind,F,Result.andThen_ok,Sem.run_bind,E,Result.andThen_ok,Sem.run_bind,D,Result.andThen_ok];subst N;cases U
   ·rfl
   ·simpa using A
  |none =>
   rw [u] at j;cases cs with
   |nil=>cases j
   |cons a cs =>
    simp only [hdB,aC] at j;obtain ⟨j,L⟩:=j;cases ds with
    |nil=>simp [eqL] at h
    |cons b ds =>
     simp only [bH] at K J;have I:Rep w0 S γ a (xs.getD n undef):=q 0 (by simp);have y:Rep w0 S γ b (ys.getD n undef):=p 0 (by simp);unfold eqL at h;split at h
     ·rename_i r V G H;injection h with h
      have A:=Yz (w:=w) d xs ys fs cs ds (n+1) V L H (by omega) (by omega)
       (fun i hi=>by have:=q (i+1) (by simpa using hi);rw [show n+1+i=n+(i+1) by omega];simpa using this)
       (fun i hi=>by have:=p (i+1) (by simpa using hi);rw [show n+1+i=n+(i+1) by omega];simpa using this)
      unfold Op.eqFields;rw [if_pos C,z];rw [Sem.run_bind,We j (show n<xs.size by omega),Result.andThen_ok,Sem.run_bind,We j (show n<ys.size by omega),Result.andThen_ok,Sem.run_bind,Ux (d+1) j G I y,Result.andThen_ok];subst h;cases r
      ·rfl
      ·simpa using A
     ·cases h
end
section
variable {cx:Cx} {σ:AS} {o:Oper}
theorem Yh {op:BinOp}{x y:Operand}{t D:TypeId}{cs ds:List AV}{c:Bool}(u:op=.eql\/op=.neq)(m:o.op=.binOp op t x y D)(I:dok cx o=true)(p:A0 x=true)(n:A0 y=true)(F:σ.eval x=.agg cs)(E:σ.eval y=.agg ds)
  (z:V2 cx.P t cs=true) (J:eqL cs ds=some c):A9 cx o σ (.bool (match op with|.eql=>c|_=>!c)) [] [] :=
 Ay I fun τ γ ac w h1 _ f=>by
  have C:=f.ev x p;rw [h1 x (by simp [m,Op.operands]),F] at C;have B:=f.ev y n;rw [h1 y (by simp [m,Op.operands]),E] at B;obtain ⟨vs,ev,L,G,_⟩:=C.agg_inv;obtain ⟨us,eu,H,q,_⟩:=B.agg_inv;unfold V2 at z;simp only [aC,aO] at z;obtain ⟨K,A,j⟩:=z;cases l:cx.P.underlying t with
  |none=>rw [l] at j;cases j
  |some dd =>
   rw [l] at j;cases dd<;>simp only [aE] at j;rename_i fs;have h:cx.P.fieldsOf t=fs:=by simp [Program.fieldsOf,l]
   have d:(Op.equalIn 10000 t (.agg vs) (.agg us)).run cx.P w=.ok c w:=by
    rw [show (10000:Nat)=9999+1 from rfl,run_equalIn_agg w 9999 t vs us (by rw [h];exact l) K,h];exact Yz (w0:=w) 9997 vs us fs.toList cs ds 0 c j J (by omega) (by omega) (fun i hi=>by simpa using G i hi) (fun i hi=>by simpa using q i hi)
   rcases u with rfl|rfl
   ·refine ⟨.bool c,?_,.bool _⟩;simp only [execOp,m,ev,eu,Sem.run_bind,run_eqGuard_agg (hm:=A),Result.andThen_ok,run_eql_struct,d,Sem.run_pure]
   ·refine ⟨.bool (!c),?_,.bool _⟩;simp only [execOp,m,ev,eu,Sem.run_bind,run_eqGuard_agg (hm:=A),Result.andThen_ok,run_neq_struct,d,Sem.run_pure]
def binS:BinOp->ByteArray->ByteArray->Option Bool |.eql,a,b=>some (a.toList == b.toList) |.neq,a,b=>some (!(a.toList == b.toList)) |.lss,a,b=>some (Op.bytesLess a.toList b.toList) |.leq,a,b=>some (Op.bytesLess a.toList b.toList || a.toList == b.toList) |.gtr,a,b=>some (!(Op.bytesLess a.toList b.toList || a.toList == b.toList)) |.geq,a,b=>some (!Op.bytesLess a.toList b.toList) |_,_,_=>none
theorem ztq {op:BinOp}{x y:Operand}{t p:TypeId}{a b:ByteArray}{c:Bool}(j:o.op=.binOp op t x y p)(z:dok cx o=true)(h:A0 x=true)(f:A0 y=true)(u:σ.eval x=.str a)(q:σ.eval y=.str b)(l:binS op a b=some c):A9 cx o σ (.bool c) [] [] :=
 Ay z fun τ γ ac w h1 _ d=>by
  have n:=d.ev x h;rw [h1 x (by simp [j,Op.operands]),u] at n;have m:=d.ev y f;rw [h1 y (by simp [j,Op.operands]),q] at m;refine ⟨.bool c,?_,.bool _⟩;cases op<;>simp only [binS,aB,reduceCtorEq] at l<;>subst l<;>simp [execOp,j,n.str_inv,m.str_inv,eqGuard,binOp,Op.stringOp,pure]
end
section
variable {cx:Cx} {σ:AS} {o:Oper}
def shI:BinOp->IntKind->Int->Int->Option AV |.shl,k,a,b=>some (.int k (k.wrap (a*2 ^ min b.toNat k.bits))) |.shr,k,a,b=>some (.int k (a.fdiv (2 ^ min b.toNat k.bits))) |_,_,_,_=>none
def bitI:BinOp->IntKind->Int->Int->Option AV |.and,k,a,b=>some (.int k (k.wrap ((BitVec.ofInt k.bits a &&& BitVec.ofInt k.bits b).toNat:Int))) |.or,k,a,b=>some (.int k (k.wrap ((BitVec.ofInt k.bits a ||| BitVec.ofInt k.bits b).toNat:Int))) |.xor,k,a,b=>some (.int k (k.wrap ((BitVec.ofInt k.bits a ^^^ BitVec.ofInt k.bits b).toNat:Int))) |.andNot,k,a,b=>some (.int k (k.wrap ((BitVec.ofInt k.bits a &&& ~~~(BitVec.ofInt k.bits b)).toNat:Int))) |_,_,_,_=>none
theorem zx8 {op:BinOp}{x y:Operand}{t p:TypeId}{k q:IntKind}{a b:Int}(h:o.op=.binOp op t x y p)(A:dok cx o=true)(f:A0 x=true)(d:A0 y=true)(z:σ.eval x=.int k a)(u:σ.eval y=.int q b)(B:0<=b)(l:shI op k a b=some av):A9 cx o σ av [] [] :=
 Ay A fun τ γ ac w h1 _ c=>by
  have n:=c.ev x f;rw [h1 x (by simp [h,Op.operands]),z] at n;have m:=c.ev y d;rw [h1 y (by simp [h,Op.operands]),u] at m;have j:¬b<0:=by omega
  cases op<;>simp only [shI,aB,reduceCtorEq] at l<;>subst l;all_goals
   refine ⟨_,?_,.int _ _⟩;simp [execOp,h,n.int_inv,m.int_inv,eqGuard,binOp,Op.shift,j,pure]
theorem ztp {op:BinOp}{x y:Operand}{t n:TypeId}{k:IntKind}{a b:Int}(h:o.op=.binOp op t x y n)(u:dok cx o=true)(f:A0 x=true)(d:A0 y=true)(q:σ.eval x=.int k a)(p:σ.eval y=.int k b)(j:bitI op k a b=some av):A9 cx o σ av [] [] :=
 Ay u fun τ γ ac w h1 _ c=>by
  have m:=c.ev x f;rw [h1 x (by simp [h,Op.operands]),q] at m;have l:=c.ev y d;rw [h1 y (by simp [h,Op.operands]),p] at l;cases op<;>simp only [bitI,aB,reduceCtorEq] at j<;>subst j;all_goals
   refine ⟨_,?_,.int _ _⟩;simp only [execOp,h,m.int_inv,l.int_inv,eqGuard,binOp,Op.intBits,Sem.run_bind,Sem.run_pure,Result.andThen_ok,pure,ne_eq,not_true_eq_false,if_false];rfl
end
variable {v:Value}
theorem Rep.renF {γ':Gam}{ids:List Nat}{ρ:Nat->Nat}(f:∀ id,id∈ids->γ' (ρ id)=γ id)(h:Rep w S γ av v)(hi:av.inM ids=true):Rep w S γ' (av.ren ρ) v:=by
 induction h with
 |any=>exact .any _
 |int=>exact .int _ _
 |bool=>exact .bool _
 |str=>exact .str _
 |nilp=>exact .nilp
 |nils=>exact .nils
 |nilf=>exact .nilf
 |ptr h l=>exact .ptr ((f _ ((Ct _ _).1 hi)).trans h) l
 |elt h l=>exact .elt ((f _ ((Ct _ _).1 hi)).trans h) l
 |der h l=>exact .der ((f _ ((Ct _ _).1 hi)).trans h) l
 |cont h l p=>exact .cont ((f _ ((Ct _ _).1 hi)).trans h) l p
 |mapv z F g es clock y C I H p G l E D=>exact .mapv z F g es clock y C I H p G l
 |mapn=>exact .mapn
 |slen A n c=>exact .slen A n c
 |row h l=>exact .row ((f _ ((Ct _ _).1 hi)).trans h) l
 |sl A c cell B u y q h1 m=>exact .sl A c cell B u y q h1
 |ref b off cell C y B q h1 m=>exact .ref b off cell C y B q h1
 |fn vs p q m =>
  simp only [bR] at hi;exact .fn vs (by rw [p,aF]) (fun i j=>by
   have d:=j;rw [aF] at d;rw [aT ρ _ i d];exact m i d f (aU hi i d))
 |yld q m =>
  simp only [bR] at hi;exact .yld (fun i j=>by
   have d:=j;rw [aF] at d;rw [aT ρ _ i d];exact m i d f (aU hi i d))
 |agg vs p q h1 m =>
  simp only [bR] at hi;exact .agg vs (by rw [p,aF]) (fun i j=>by
   have d:=j;rw [aF] at d;rw [aT ρ _ i d];exact m i d f (aU hi i d)) h1
 |tup vs p q m =>
  simp only [bR] at hi;exact .tup vs (by rw [p,aF]) (fun i j=>by
   have d:=j;rw [aF] at d;rw [aT ρ _ i d];exact m i d f (aU hi i d))
def ConT (E:Env)(f:FuncId)(args:List AV)(ty sz:Nat)(xs:List AV)(res:AV):Prop:=Bh E f/\res.inM [0]=true/\∀ (S:Nat->Prop) (w:World) (vs:Array Value),Args w S args vs->Calls E.P f vs w fun e w'=>∃ u v us,e=.returned u/\Below w.heap.size w w'/\w'.ownsRow w.heap.size ty sz v xs.length us /\ (∀ k (c:k<xs.length),(xs[k]).cells.length=sz)/\(∀ k (c:k<xs.length) j (d:j<(xs[k]).cells.length),Rep w' (fun b=>(S b\/w.heap.size<=b)/\v.ownBlock≠some b) G0 ((xs[k]).cells[j]) (us.getD (k*sz+j) undef))/\(∀ u∈us,u.oneCell'=true) /\ ∀ γ':Gam,γ' 0=some (some (v.ownBlock,v))->Rep w' (fun b=>(S b\/w.heap.size<=b)/\v.ownBlock≠some b) γ' res u
variable {xs:List AV}{ty sz:Nat}
theorem ConT.ofRow {E:Env}{f:FuncId}{args:List AV}(h:E4 E f args ty sz xs):ConT E f args ty sz xs (.row 0) :=
 ⟨h.1,rfl,fun S w vs d=>(h.2 S w vs d).mono fun e w' ⟨v,us,h1,p,n,m,l,j⟩=>⟨v,v,us,h1,p,n,m,l,j,fun γ' c=>.row c (fun g s e _=>by injection e with e;injection e with _ e)⟩⟩
section
variable {cx:Cx} {σ:AS} {o:Oper}
theorem zjo {x:Operand}{args:Array Operand}{tys:Array TypeId}{f d:Nat}{cap avs:List AV}{res:AV}(G:o.op=.call { callee:=.value x,args:=args,argTypes:=tys })(j:o.dst=some d)(U:dok cx o=true)(D:A0 x=true)(F:args.toList.all A0=true)(n:σ.eval x=.fn f cap)
  (V:Bw σ args cap=avs) (J:AV.closedL avs=true) (O:σ.find d=none) (l:ConT cx.E f avs ty sz xs res) (C:cx.E.dr=false):A9 cx o σ (res.ren fun _=>d) [d] [(d,.row ty sz xs)]:=by
 refine ⟨fun id e H=>?_,fun τ h1 Y a w Q K ⟨γ,p⟩ X=>Br (fun c l=>by rw [G] at l;cases l) ?_⟩
 ·simp only [lkE] at H;cases m:aG d id with
  |true=>simp [aA m]
  |false=>rw [m] at H;cases H
 have z:o.op.operands=#[x]++args:=by simp [G,Op.operands,Call.operands]
 obtain ⟨caps,I,R,N⟩:=Jd p F D (fun y L=>h1 y (by rw [z];simp at L ⊢;exact aS L)) (h1 x (by rw [z];simp)) n;subst V;unfold Oper.wp;rw [J7 G I l.1];show Calls _ _ _ _ _;refine (l.2.2 (Sg cx.S0 cx.w0.heap.size γ) w _ ⟨R,fun i hi=>(N i hi).close (AV.closedL_at J i hi)⟩).mono ?_;rintro e w' ⟨u,v,us,rfl,m,q,B,E,A,M⟩;refine X _ _ ?_;rw [j];refine Uu (v:=v) (us:=us) p (fun h=>absurd (C.symm.trans h) (by simp)) (by rw [Y d (by simp),O]) (fun x n=>by injection n with n;subst n;exact Bj U _ j) m q B E A (fun W=>?_);have Z:=M (fun _=>some (some (v.ownBlock,v))) rfl;refine (Z.renF (γ':=γ.set d (some (v.ownBlock,v))) (ids:=[0]) (fun id _=>Gam.set_self _ _ _) l.2.1).mono (aD _) (fun b m _=>⟨rfl,W b m⟩)
end
def ConC (inp:Bool)(E:Env)(f:FuncId)(args:List AV)(ty sz:Nat)(xs:List AV)(ty' sz':Nat)(xs':List AV)(res:AV):Prop:=Bh E f/\res.inM [0]=true/\∀ (S:Nat->Prop) (w0 w:World) (vs:Array Value) (v:Value) (us:List Value),Below w0.heap.size w0 w->w.ownsRow w0.heap.size ty sz v xs.length us->(∀ k (c:k<xs.length),(xs[k]).cells.length=sz) -> (∀ k (c:k<xs.length) j (d:j<(xs[k]).cells.length),Rep w S G0 ((xs[k]).cells[j]) (us.getD (k*sz+j) undef))->(∀ u∈us,u.oneCell'=true)->(∀ b,v.ownBlock=some b->¬S b)->vs.size=args.length -> (∀ γ:Gam,γ 0=some (some (v.ownBlock,v))->∀ i (hi:i<args.length),Rep w S γ args[i] (vs.getD i undef)) -> Calls E.P f vs w fun e w'=>∃ u v' us',e=.returned u/\w.grownBy w' v.ownBlock/\w'.ownsRow w0.heap.size ty' sz' v' xs'.length us'/\(inp=true->v'=v)/\(∀ b,v'.ownBlock=some b->v.ownBlock=some b\/w.heap.size<=b)/\(∀ k (c:k<xs'.length),(xs'[k]).cells.length=sz') /\ (∀ k (c:k<xs'.length) j (d:j<(xs'[k]).cells.length),Rep w' (fun b=>(S b\/w.heap.size<=b)/\v'.ownBlock≠some b) G0 ((xs'[k]).cells[j]) (us'.getD (k*sz' + j) undef))/\(∀ u∈us',u.oneCell'=true) /\ ∀ γ':Gam,γ' 0=some (some (v'.ownBlock,v'))->Rep w' (fun b=>(S b\/w.heap.size<=b)/\v'.ownBlock≠some b) γ' res u
section
variable {cx:Cx} {σ:AS} {o:Oper}
theorem zdi {base e n:Nat}{vs:List Value}(h:w.ownsRow base e sz v n vs)(b:Nat)(c:v.ownBlock=some b):base<=b/\b<w.heap.size:=by
 rcases h.2 with ⟨d,_⟩|⟨g,cap,l,d,f,j,_⟩
 ·rw [d] at c;simp [Value.ownBlock] at c
 ·rw [d] at c;simp only [Value.ownBlock,aB] at c;subst c;exact ⟨f,(Array.getElem?_eq_some_iff.1 j).1⟩
variable {id ty' sz':Nat}{xs':List AV}{us':List Value}
theorem zot {a:Act}{w':World}{d:Nat}{v' u:Value}(c:StG cx γ τ a w)(ad:cx.E.dr=true->w.drawn<=w'.drawn)(G:γ id=some (some (v.ownBlock,v)))(Q:γ d=none)(ac:id≠d)(hd:∀ x,dst=some x->cx.E.np<=x/\x<cx.nt)(H:w.grownBy w' v.ownBlock)
  (q:w'.ownsRow cx.w0.heap.size ty' sz' v' xs'.length us') (F:∀ b,v'.ownBlock=some b->v.ownBlock=some b\/w.heap.size<=b) (W:∀ k (Z:k<xs'.length),(xs'[k]).cells.length=sz')
  (ab:∀ k (Z:k<xs'.length) j (n:j<(xs'[k]).cells.length),Rep w' (fun b=>(Sg cx.S0 cx.w0.heap.size γ b\/w.heap.size<=b)/\v'.ownBlock≠some b) G0 ((xs'[k]).cells[j]) (us'.getD (k*sz' + j) undef)) (U:∀ u∈us',u.oneCell'=true)
  (hu:∀ γ':Gam,γ' d=some (some (v'.ownBlock,v'))->Rep w' (fun b=>(Sg cx.S0 cx.w0.heap.size γ b\/w.heap.size<=b)/\v'.ownBlock≠some b) γ' av u):St cx (τ.upd dst av [(d,.row ty' sz' xs'),(id,.dead)]) (a.put dst u) w':=by
 have aa:=c.below.size;let γ':Gam:=fun i=>if d=i then some (some (v'.ownBlock,v')) else if id=i then some none else γ i
 have m:γ' d=some (some (v'.ownBlock,v')):=if_pos rfl;have l:∀ i,d≠i->id≠i->γ' i=γ i:=fun i h1 D=>by show (if d=i then _ else if id=i then _ else γ i)=γ i;rw [if_neg h1,if_neg D]
 have f:γ' id=some none:=by show (if d=id then _ else if id=id then _ else γ id)=some none;rw [if_neg (Ne.symm ac),if_pos rfl]
 have y:∀ b,own γ' b->v'.ownBlock=some b\/own γ b:=fun b ⟨i,s,hi,hm⟩=>by
  by_cases h:d=i
  ·subst h;rw [m] at hi;injection hi with hi;subst hi;exact aR (D9 (D8 (Cg q)) hm)
  ·by_cases z:id=i
   ·subst z;rw [f] at hi;injection hi with hi;subst hi;simp [blks] at hm
   ·rw [l i h z] at hi;exact aS ⟨i,s,hi,hm⟩
 have E:∀ b,v.ownBlock=some b->own γ b:=fun b C=>own.mk (id:=id) (s:=v) (by rw [G,C])
 have J:∀ b,¬own γ b->b<w.heap.size->¬own γ' b:=fun b p A I=>by
  rcases y b I with h|h
  ·rcases F b h with h|h
   ·exact p (E b h)
   ·omega
  ·exact p h
 have K:∀ b,¬own γ b->b<w.heap.size->w'.heap[b]? = w.heap[b]? := fun b p A=>H.block b A (fun e=>p (E b e.symm))
 have B:∀ b,Sg cx.S0 cx.w0.heap.size γ b->¬own γ b:=fun b N I=>by
  rcases N with ⟨_,h⟩|⟨_,h⟩
  ·have:=(c.ge b I).1.1;omega
  ·exact h I
 have Y:∀ b,(Sg cx.S0 cx.w0.heap.size γ b\/w.heap.size<=b)/\v'.ownBlock≠some b->Sg cx.S0 cx.w0.heap.size γ' b:=fun b ⟨h1,D⟩=>by
  rcases h1 with h1|h1
  ·have p:=B b h1;rcases h1 with h1|⟨h1,L⟩
   ·exact aR h1
   ·refine aS ⟨h1,fun I=>?_⟩;rcases y b I with h|h
    ·exact D h
    ·exact L h
  ·refine aS ⟨⟨bO aa h1,fun h0=>by have:=c.gh _ h0;omega⟩,fun I=>?_⟩;rcases y b I with h|h
   ·exact D h
   ·have:=(c.ge b h).2;omega
 have R:∀ i,lkE [(d,Ent.row ty' sz' xs'),(id,.dead)] i=if d=i then some (.row ty' sz' xs') else if id=i then some .dead else none:=fun i=>by
  simp only [lkE];by_cases h:d=i
  ·subst h;simp
  ·rw [if_neg h];have:aG d i=false:=by cases C:aG d i with|true=>exact absurd (aA C) h|false=>rfl
   rw [this];by_cases z:id=i
   ·subst z;simp
   ·rw [if_neg z];have:aG id i=false:=by cases C:aG id i with|true=>exact absurd (aA C) z|false=>rfl
    rw [this]
 refine ⟨γ',c.step (γ':=γ') hd H.size (fun b N A=>⟨K b (B b N) A,?_⟩) (fun i x hx=>?_) (fun i hi=>?_) (fun i e hi=>?_) (fun i j b s s' hi n mi mj=>?_) (fun b C=>?_) ?_ ((hu γ' m).mono (aD _) (fun b C _=>⟨rfl,Y b C⟩)) (fun b p A=>⟨K b p A,J b p A⟩) ad⟩
 ·have p:=J b (B b N) A;rcases N with N|⟨h1,_⟩
  ·exact aR N
  ·exact aS ⟨h1,p⟩
 ·by_cases h:d=i
  ·subst h;rw [Q] at hx;cases hx
  ·by_cases z:id=i
   ·subst z;exact aS (aR f)
   ·exact aR (by rw [l i h z];exact hx)
 ·rw [R] at hi;by_cases h:d=i
  ·rw [if_pos h] at hi;cases hi
  ·rw [if_neg h] at hi;by_cases z:id=i
   ·rw [if_pos z] at hi;cases hi
   ·refine ⟨l i h z,fun g s X V=>H.block g (c.ge g ⟨i,s,X,V⟩).2 (fun e=>z ?_)⟩;exact c.inj _ _ _ _ _ G X (by rw [<-e];exact Bc) V
 ·rw [R] at hi;by_cases h:d=i
  ·subst h;rw [if_pos rfl] at hi;injection hi with hi
   subst hi;exact ⟨_,m,v',us',rfl,Cg q,q,W,fun k Z j n=>(ab k Z j n).mono (aD _) (fun b C _=>⟨rfl,Y b C⟩),U⟩
  ·rw [if_neg h] at hi;by_cases z:id=i
   ·subst z;rw [if_pos rfl] at hi;injection hi with hi
    subst hi;exact ⟨none,f,rfl⟩
   ·rw [if_neg z] at hi;cases hi
 ·by_cases h1:d=i
  ·by_cases D:d=j
   ·rw [<-h1,<-D]
   ·subst h1;rw [m] at hi;injection hi with hi
    subst hi;have hi:=D9 (D8 (Cg q)) mi;by_cases L:id=j
    ·subst L;rw [f] at n;injection n with n;subst n;simp [blks] at mj
    ·rw [l j D L] at n;rcases F b hi with h|h
     ·exact absurd (c.inj _ _ _ _ _ G n (by rw [h];exact Bc) mj) L
     ·have:=(c.ge b ⟨j,s',n,mj⟩).2;omega
  ·by_cases O:id=i
   ·subst O;rw [f] at hi;injection hi with hi;subst hi;simp [blks] at mi
   ·rw [l i h1 O] at hi;by_cases D:d=j
    ·subst D;rw [m] at n;injection n with n
     subst n;have n:=D9 (D8 (Cg q)) mj;rcases F b n with h|h
     ·exact absurd (c.inj _ _ _ _ _ G hi (by rw [h];exact Bc) mi) O
     ·have:=(c.ge b ⟨i,s,hi,mi⟩).2;omega
    ·by_cases L:id=j
     ·subst L;rw [f] at n;injection n with n;subst n;simp [blks] at mj
     ·rw [l j D L] at n;exact c.inj _ _ _ _ _ hi n mi mj
 ·rcases y b C with h|h
  ·have M:=zdi q b h;rcases F b h with z|z
   ·exact ⟨(c.ge b (E b z)).1,M.2⟩
   ·exact ⟨⟨M.1,fun h0=>by have:=c.gh _ h0;omega⟩,M.2⟩
  ·exact ⟨(c.ge b h).1,aN (c.ge b h).2 H.size⟩
 ·refine c.below.trans ⟨H.os,H.tape,H.output,H.size,fun k Z=>H.block k (by omega) (fun e=>?_)⟩;have:=(c.ge k (E k e.symm)).1.1;omega
theorem Zg {a:Act}{w':World}{u:Value}(c:StG cx γ τ a w)(M:cx.E.dr=true->w.drawn<=w'.drawn)(y:γ id=some (some (v.ownBlock,v)))(R:∀ x,dst=some x->cx.E.np<=x/\x<cx.nt)(m:w.grownBy w' v.ownBlock)
  (p:w'.ownsRow cx.w0.heap.size ty sz v xs'.length us') (E:∀ k (I:k<xs'.length),(xs'[k]).cells.length=sz)
  (L:∀ k (I:k<xs'.length) j (N:j<(xs'[k]).cells.length),Rep w' (fun b=>(Sg cx.S0 cx.w0.heap.size γ b\/w.heap.size<=b)/\v.ownBlock≠some b) G0 ((xs'[k]).cells[j]) (us'.getD (k*sz+j) undef)) (B:∀ u∈us',u.oneCell'=true)
  (Q:Rep w' (fun b=>(Sg cx.S0 cx.w0.heap.size γ b\/w.heap.size<=b)/\v.ownBlock≠some b) γ av u):St cx (τ.upd dst av [(id,.row ty sz xs')]) (a.put dst u) w':=by
 have K:=c.below.size;have A:∀ b,v.ownBlock=some b->own γ b:=fun b f=>own.mk (id:=id) (s:=v) (by rw [y,f])
 have q:∀ b,¬own γ b->b<w.heap.size->w'.heap[b]? = w.heap[b]? := fun b l d=>m.block b d (fun e=>l (A b e.symm))
 have C:∀ b,Sg cx.S0 cx.w0.heap.size γ b->¬own γ b:=fun b J H=>by
  rcases J with ⟨_,h⟩|⟨_,h⟩
  ·have:=(c.ge b H).1.1;omega
  ·exact h H
 have G:∀ b,(Sg cx.S0 cx.w0.heap.size γ b\/w.heap.size<=b)/\v.ownBlock≠some b->Sg cx.S0 cx.w0.heap.size γ b:=fun b ⟨h1,V⟩=>by
  rcases h1 with h1|h1
  ·exact h1
  ·exact aS ⟨⟨bO K h1,fun U=>by have:=c.gh _ U;omega⟩,fun H=>by have:=(c.ge b H).2;omega⟩
 have z:∀ i,lkE [(id,Ent.row ty sz xs')] i=if id=i then some (.row ty sz xs') else none:=fun i=>by
  simp only [lkE];by_cases n:id=i
  ·subst n;simp
  ·rw [if_neg n];have:aG id i=false:=by cases f:aG id i with|true=>exact absurd (aA f) n|false=>rfl
   rw [this]
 refine ⟨γ,c.step (γ':=γ) R m.size (fun b J d=>⟨q b (C b J) d,J⟩) (fun i x O=>aR O) (fun i hi=>?_) (fun i e hi=>?_) c.inj (fun b f=>⟨(c.ge b f).1,aN (c.ge b f).2 m.size⟩) ?_ (Q.mono (aD _) (fun b f _=>⟨rfl,G b f⟩)) (fun b l d=>⟨q b l d,l⟩) M⟩
 ·rw [z] at hi;by_cases n:id=i
  ·rw [if_pos n] at hi;cases hi
  ·refine ⟨rfl,fun g s F D=>m.block g (c.ge g ⟨i,s,F,D⟩).2 (fun e=>n ?_)⟩;exact c.inj _ _ _ _ _ y F (by rw [<-e];exact Bc) D
 ·rw [z] at hi;by_cases n:id=i
  ·subst n;rw [if_pos rfl] at hi;injection hi with hi
   subst hi;exact ⟨_,y,v,us',rfl,Cg p,p,E,fun k I j N=>(L k I j N).mono (aD _) (fun b f _=>⟨rfl,G b f⟩),B⟩
  ·rw [if_neg n] at hi;cases hi
 ·refine c.below.trans ⟨m.os,m.tape,m.output,m.size,fun k I=>m.block k (by omega) (fun e=>?_)⟩;have:=(c.ge k (A k e.symm)).1.1;omega
variable {args:Array Operand}{tys:Array TypeId}{cap cargs:List AV}{res:AV}
theorem zih {x:Operand}{f:Nat}{inp:Bool}(O:o.op=.call { callee:=.value x,args:=args,argTypes:=tys })(C:A0 x=true)(E:args.toList.all A0=true)(hx:σ.eval x=.fn f cap)
  (N:bP (fun _=>id) cargs=Bw σ args cap) (H:AV.inML [0] cargs=true) (hl:σ.find id=some (.row ty sz xs)) (U:ConC inp cx.E f cargs ty sz xs ty' sz' xs' res)
    {a:Act}  (h1:∀ x∈o.op.operands,τ.eval x=σ.eval x) (h2:τ.find id=σ.find id) (c:StG cx γ τ a w) {Q:Exit->Act->World->Prop} {K:Act->World->Prop}
  (k:∀ u v v' us' w',γ id=some (some (v.ownBlock,v))->w.grownBy w' v.ownBlock->w'.ownsRow cx.w0.heap.size ty' sz' v' xs'.length us'->(inp=true->v'=v)->(∀ b,v'.ownBlock=some b->v.ownBlock=some b\/w.heap.size<=b)->(∀ k (hk:k<xs'.length),(xs'[k]).cells.length=sz') ->
    (∀ k (hk:k<xs'.length) j (R:j<(xs'[k]).cells.length),Rep w' (fun b=>(Sg cx.S0 cx.w0.heap.size γ b\/w.heap.size<=b)/\v'.ownBlock≠some b) G0 ((xs'[k]).cells[j]) (us'.getD (k*sz' + j) undef))->(∀ u∈us',u.oneCell'=true) ->
    (∀ γ':Gam,γ' 0=some (some (v'.ownBlock,v'))->Rep w' (fun b=>(Sg cx.S0 cx.w0.heap.size γ b\/w.heap.size<=b)/\v'.ownBlock≠some b) γ' res u)->K (a.put o.dst u) w'):o.wp cx.P a w K Q:=by
 have p:o.op.operands=#[x]++args:=by simp [O,Op.operands,Call.operands]
 obtain ⟨caps,L,G,m⟩:=Jd c E C (fun y M=>h1 y (by rw [p];simp at M ⊢;exact aS M)) (h1 x (by rw [p];simp)) hx;have A:=c.me id;rw [h2,hl] at A;obtain ⟨dd,d,s,us,J,_,n,B,D,q⟩:=A;subst J;unfold Oper.wp;rw [J7 O L U.1];show Calls _ _ _ _ _;have F:cargs.length=(Bw σ args cap).length:=by rw [<-N,aF]
 refine (U.2.2 (Sg cx.S0 cx.w0.heap.size γ) cx.w0 w _ s us c.below n B D q (fun b hb hS=>?_) (by rw [G,F]) (fun γc l i hi=>?_)).mono ?_
 ·have z:own γ b:=own.mk (id:=id) (s:=s) (by rw [d,hb]);rcases hS with ⟨_,h⟩|⟨_,h⟩
  ·have:=(c.ge b z).1.1;omega
  ·exact h z
 ·have I:i<(Bw σ args cap).length:=by omega
  have h:=m i I;have e:(Bw σ args cap)[i]=cargs[i].ren (fun _=>id):=by
   have:(bP (fun _=>id) cargs)[i]'(by rw [aF];exact hi)=(Bw σ args cap)[i]:=by simp only [N]
   rw [<-this,aT]
  rw [e] at h;exact h.ren (ids:=[0]) (ρ:=fun _=>id) (fun j R=>by
   have:j=0:=by simpa using R
   subst this;rw [l,d]) cargs[i] rfl (aU H i hi)
 ·rintro e w' ⟨u,v',us',rfl,q1,q2,q3,Z,Y,X,W,V⟩;exact k u s v' us' w' d q1 q2 q3 Z Y X W V
theorem zrv {x:Operand}{f d:Nat}(D:o.op=.call { callee:=.value x,args:=args,argTypes:=tys })(E:o.dst=some d)(Y:dok cx o=true)(z:A0 x=true)(A:args.toList.all A0=true)(U:σ.eval x=.fn f cap)
  (V:bP (fun _=>id) cargs=Bw σ args cap) (C:AV.inML [0] cargs=true) (X:σ.find id=some (.row ty sz xs)) (B:id≠d) (W:σ.find d=none) (p:ConC false cx.E f cargs ty sz xs ty' sz' xs' res) (n:cx.E.dr=false):A9 cx o σ (res.ren fun _=>d) [d,id] [(d,.row ty' sz' xs'),(id,.dead)]:=by
 refine ⟨fun i e y=>?_,fun τ h1 G a w Q K ⟨γ,j⟩ Z=>Br (fun c p=>by rw [D] at p;cases p) ?_⟩
 ·simp only [lkE] at y;cases F:aG d i with
  |true=>simp [aA F]
  |false =>
   rw [F] at y;cases q:aG id i with
   |true=>simp [aA q]
   |false=>rw [q] at y;cases y
 refine zih D z A U V C X p h1 (G id (by simp)) j (fun u v v' us' w' R O N q3 M L J I H=>Z _ _ ?_);have l:γ d=none:=by have:=j.me d;rw [G d (by simp),W] at this;exact this
 refine zot j (fun h=>absurd (n.symm.trans h) (by simp)) R l B (Bj Y) O N M L J I (fun γ' m=>?_);exact (H (fun _=>some (some (v'.ownBlock,v'))) rfl).renF (ids:=[0]) (fun i _=>m) p.2.1
theorem zru {x:Operand}{f:Nat}(z:o.op=.call { callee:=.value x,args:=args,argTypes:=tys })(N:dok cx o=true)(m:A0 x=true)(n:args.toList.all A0=true)(I:σ.eval x=.fn f cap)
  (L:bP (fun _=>id) cargs=Bw σ args cap) (p:AV.inML [0] cargs=true) (M:σ.find id=some (.row ty sz xs)) (l:ConC true cx.E f cargs ty sz xs ty sz xs' res) (j:cx.E.dr=false):A9 cx o σ (res.ren fun _=>id) [id] [(id,.row ty sz xs')]:=by
 refine ⟨fun i e q=>?_,fun τ h1 R a w Q K ⟨γ,d⟩ O=>Br (fun c l=>by rw [z] at l;cases l) ?_⟩
 ·simp only [lkE] at q;cases A:aG id i with
  |true=>simp [aA A]
  |false=>rw [A] at q;cases q
 refine zih z m n I L p M l h1 (R id (by simp)) d (fun u v v' us' w' y H G F U E D C B=>O _ _ ?_);have J:=F rfl;subst J;exact Zg d (fun h=>absurd (j.symm.trans h) (by simp)) y (Bj N) H G E D C ((B (fun _=>some (some (v'.ownBlock,v'))) rfl).renF (ids:=[0]) (fun i _=>y) l.2.1)
end
def eqK:AV->AV->Option Bool |.agg cs,.agg ds=>eqL cs ds |a,b=>eq1 a b
def Bq (k:AV):List AV->Nat->Option (Option Nat)
 |[],_=>some none
 |a::r,i=>match eqK k a with
  |some true=>some (some i)
  |some false=>Bq k r (i+1)
  |none=>none
def Bp (P:Program)(t:TypeId)(a:AV):Bool:=match a with
 |.agg cs=>!P.stoodInHeld t && (match P.underlying t with|some (.struct fs)=>Dg P 0 cs fs.toList|_=>false)
 |a=>fkT (fkA a) (P.underlying t)
section
variable {P:Program} {w:World} {S:Nat->Prop}
theorem zwi {t:TypeId}{a b:AV}{va vb:Value}{c:Bool}(d:Bp P t a=true)(h:eqK a b=some c)(p:Rep w S G0 a va)(m:Rep w S G0 b vb):(Op.equal t va vb).run P w=.ok c w:=by
 unfold Op.equal;rw [show Op.maxDepth=9999+1 from rfl];cases a with
 |agg cs =>
  cases b with
  |agg ds =>
   obtain ⟨vs,ev,A,u,_⟩:=p.agg_inv;obtain ⟨us,eu,y,q,_⟩:=m.agg_inv;simp only [Bp,aC,aO] at d;obtain ⟨z,j⟩:=d;cases l:P.underlying t with
   |none=>rw [l] at j;cases j
   |some dd =>
    rw [l] at j;cases dd<;>simp only [aE] at j;rename_i fs;have f:P.fieldsOf t=fs:=by simp [Program.fieldsOf,l]
    rw [ev,eu,run_equalIn_agg w 9999 t vs us (by rw [f];exact l) z,f];exact Z3 (w0:=w) 9998 vs us fs.toList cs ds 0 c j h (by omega) (by omega) (fun i hi=>by simpa using u i hi) (fun i hi=>by simpa using q i hi)
  |_=>simp [eqK,eq1] at h
 |int k n=>exact Ux 9999 (by simpa [Bp] using d) (by cases b<;>simpa [eqK] using h) p m
 |bool x=>exact Ux 9999 (by simpa [Bp] using d) (by cases b<;>simpa [eqK] using h) p m
 |str x=>exact Ux 9999 (by simpa [Bp] using d) (by cases b<;>simpa [eqK] using h) p m
 |_=>simp [Bp,fkA,fkT] at d
theorem z75 {t:TypeId}{vk:Value}(m:Bp P t k=true)(u:Rep w S G0 k vk):∀ (es:List MapEntry) (ps:List (AV×AV)) (i:Nat) (r:Option Nat),es.length=ps.length->(∀ j (h:j<es.length) (y:j<ps.length),Ju w S es[j] ps[j]) ->
  Bq k (ps.map (·.1)) i=some r->(Instr.findAsking t vk es i).run P w=.ok (r.map fun j=>(j,(es.getD (j-i) default).val)) w/\∀ j,r=some j->i<=j/\j-i<es.length
 |[],[],i,r,q,d,h=>by
  simp only [bJ,Bq,aB] at h;subst h;exact ⟨by simp [Instr.findAsking],fun j h=>by cases h⟩
 |e::es,p::ps,i,r,q,d,h=>by
  have B:Ju w S e p:=d 0 (by simp) (by simp);simp only [bK,Bq] at h;cases f:eqK k p.1 with
  |none=>rw [f] at h;cases h
  |some c =>
   have n:=zwi m f u B.1;rw [f] at h;cases c with
   |true =>
    simp only [aB] at h;subst h;refine ⟨?_,fun j h=>by cases h;exact ⟨aD _,by simp⟩⟩;unfold Instr.findAsking;rw [Sem.run_bind,n,Result.andThen_ok];simp
   |false =>
    obtain ⟨z,l⟩:=z75 m u es ps (i+1) r (by simpa using q) (fun j h y=>d (j+1) (by simpa using h) (by simpa using y)) h;refine ⟨?_,fun j A=>by obtain ⟨a,b⟩:=l j A;exact ⟨by omega,by simp;omega⟩⟩;unfold Instr.findAsking;rw [Sem.run_bind,n,Result.andThen_ok];simp only [aE,if_false];rw [z];cases r with
    |none=>rfl
    |some j =>
     obtain ⟨a,b⟩:=l j rfl;simp only [aW];rw [show j-i=(j-(i+1))+1 by omega,getD_cons_succ]
end
section
variable {P:Program} {w:World} {S:Nat->Prop}
variable {t:TypeId}
theorem Yb {a:AV}(n:Nat)(em:Bool)(h:fkT (fkA a) (P.underlying t)=true)(f:Rep w S G0 a v):(Instr.checkKey em (n+1) t v).run P w=.ok () w:=by
 obtain ⟨d,c,j⟩:=Qy h;rcases j with ⟨_,_,_,rfl,rfl⟩|⟨_,rfl,rfl⟩|⟨_,rfl,rfl⟩
 ·rw [f.int_inv];simp [Instr.checkKey,run_underlying c]
 ·rw [f.bool_inv];simp [Instr.checkKey,run_underlying c]
 ·rw [f.str_inv];simp [Instr.checkKey,run_underlying c]
theorem z8h (n:Nat)(em:Bool)(xs:Array Value):∀ (fs:List Field) (cs:List AV) (k:Nat),Dg P k cs fs=true->k+cs.length<=xs.size->(∀ i (hi:i<cs.length),Rep w S G0 cs[i] (xs.getD (k+i) undef)) ->
  (forIn fs PUnit.unit (fun f _ => if f.name ≠ "_" then do
    let l <-part f.type xs f.offset
    Instr.checkKey em (n+1) f.type l
    pure (ForInStep.yield PUnit.unit) else pure (ForInStep.yield PUnit.unit):Field->PUnit->Sem (ForInStep PUnit))).run P w=.ok PUnit.unit w
 |[],cs,k,c,_,_=>by simp
 |f::fs,[],k,c,_,_=>by simp [Dg] at c
 |f::fs,a::cs,k,c,u,h=>by
  simp only [Dg,aC,decide_eq_true_eq] at c;obtain ⟨z,d,j,y⟩:=c;have d:=aA d;simp only [bH] at u;have q:Rep w S G0 a (xs.getD k undef):=h 0 (by simp);have m:=z8h n em xs fs cs (k+1) y (by omega) (fun i hi=>by have:=h (i+1) (by simpa using hi);rw [show k+1+i=k+(i+1) by omega];simpa using this);have p : f.name ≠ "_" := by simpa using z
  rw [forIn_cons];simp only [if_pos p,d,Sem.run_bind,We j (show k<xs.size by omega),Result.andThen_ok,Yb n em j q,Sem.run_pure];exact m
theorem Ye {a:AV}(n:Nat)(f:fkA a≠.no)(c:Rep w S G0 a v):Instr.sameBits n v v=true:=by
 cases a<;>simp [fkA] at f
 ·rw [c.int_inv];cases n<;>simp [Instr.sameBits]
 ·rw [c.bool_inv];cases n<;>simp [Instr.sameBits]
 ·rename_i s;have d:(s == s)=true:=by
   cases s;first|exact beq_self_eq_true _|(show (_ == _)=true;exact beq_self_eq_true (α:=Array UInt8) _)|simp [BEq.beq,instBEqByteArray]|decide
  rw [c.str_inv];cases n<;>simp [Instr.sameBits,d]
theorem X5 {cs:List AV}(f:Bp P t (.agg cs)=true):∃ fs:Array Field,P.underlying t=some (.struct fs)/\Dg P 0 cs fs.toList=true:=by
 simp only [Bp,aC] at f;obtain ⟨_,c⟩:=f;cases d:P.underlying t with
 |none=>rw [d] at c;cases c
 |some dd =>
  rw [d] at c;cases dd<;>simp only [aE] at c;exact ⟨_,rfl,c⟩
theorem V3 {a:AV}(em:Bool)(c:Bp P t a=true)(d:Rep w S G0 a v):(Instr.checkKey em 10000 t v).run P w=.ok () w:=by
 cases a with
 |agg cs =>
  obtain ⟨fs,f,j⟩:=X5 c;obtain ⟨vs,ev,l,h,_⟩:=d.agg_inv;have:=z8h (w:=w) (S:=S) 9998 em vs fs.toList cs 0 j (by omega) (fun i hi=>by simpa using h i hi);rw [ev,show (10000:Nat)=9999+1 from rfl];unfold Instr.checkKey;rw [Sem.run_bind,run_underlying f,Result.andThen_ok];simp only [<-Array.forIn_toList,Sem.run_bind];rw [this,Result.andThen_ok];simp
 |int k n=>exact Yb 9999 em (by simpa [Bp] using c) d
 |bool x=>exact Yb 9999 em (by simpa [Bp] using c) d
 |str x=>exact Yb 9999 em (by simpa [Bp] using c) d
 |_=>simp [Bp,fkA,fkT] at c
theorem zw8 {fs:List Field}:∀ {cs:List AV} {k:Nat},Dg P k cs fs=true->∀ i (hi:i<cs.length),fkA cs[i]≠.no:=by
 induction fs with
 |nil=>intro cs k h i hi;cases cs with
  |nil=>simp at hi
  |cons=>simp [Dg] at h
 |cons f fs ih =>
  intro cs k h i hi;cases cs with
  |nil=>simp at hi
  |cons a cs =>
   simp only [Dg,aC] at h;cases i with
   |zero=>intro c;have d:=h.2.2.1;simp only [getElem_cons_zero] at c;rw [c] at d;simp [fkT] at d
   |succ i=>exact ih h.2.2.2 i (by simpa using hi)
theorem zyt {a:AV}(d:Bp P t a=true)(c:Rep w S G0 a v):(Instr.keyThatStays v v).run P w=.ok v w:=by
 have:Instr.sameBits 10000 v v=true:=by
  cases a with
  |agg cs =>
   obtain ⟨fs,l,j⟩:=X5 d;obtain ⟨vs,ev,m,f,_⟩:=c.agg_inv;rw [ev,show (10000:Nat)=9999+1 from rfl];simp only [Instr.sameBits,beq_self_eq_true,Bool.true_and,all_eq_true];intro p h;obtain ⟨i,hi,rfl⟩:=mem_iff_getElem.1 h;simp only [length_zip,bB,Nat.min_self] at hi;have h1:=Ye 9999 (zw8 j i (by omega)) (f i (by omega));simp only [getElem_zip];simpa [aM,hi] using h1
  |int k n=>exact Ye _ (by simp [fkA]) c
  |bool x=>exact Ye _ (by simp [fkA]) c
  |str x=>exact Ye _ (by simp [fkA]) c
  |_=>simp [Bp,fkA,fkT] at d
 simp [Instr.keyThatStays,this]
end
section
variable {P:Program} {w:World} {S:Nat->Prop}
theorem za7 (a b:ByteArray):(a == b)=(a.toList == b.toList):=by
 simp [beq_toListBytes]
variable {t:TypeId}{vk:Value}
theorem zrt {d:TypeDesc}{a:AV}{va:Value}{c:Bool}(p:P.underlying t=some d)(u:fkT (fkA k) (P.underlying t)=true)(l:Rep w S G0 k vk)(m:Rep w S G0 a va)(h:eqK k a=some c):Instr.sameNow d vk va=some c:=by
 obtain ⟨A,f,y⟩:=Qy u;rw [p] at f;injection f with f
 subst f;rcases y with ⟨q,n,z,rfl,rfl⟩|⟨x,rfl,rfl⟩|⟨x,rfl,rfl⟩
 ·cases a<;>simp only [eqK,eq1,reduceCtorEq] at h;split at h
  ·rename_i j;have j:=of_decide_eq_true j;subst j;rw [l.int_inv,m.int_inv,<-h];simp [Instr.sameNow];rfl
  ·cases h
 ·cases a<;>simp only [eqK,eq1,reduceCtorEq] at h;rw [l.bool_inv,m.bool_inv,<-h];simp [Instr.sameNow]
 ·cases a<;>simp only [eqK,eq1,reduceCtorEq] at h;rw [l.str_inv,m.str_inv,<-h];simp [Instr.sameNow,za7]
theorem zmm {d:TypeDesc}(n:P.underlying t=some d)(q:fkT (fkA k) (P.underlying t)=true)(y:Rep w S G0 k vk):∀ (es:List MapEntry) (ps:List (AV×AV)) (i:Nat) (r:Option Nat),es.length=ps.length->(∀ j (h:j<es.length) (z:j<ps.length),Ju w S es[j] ps[j]) ->
  Bq k (ps.map (·.1)) i=some r->Instr.findNow d vk es i=some (r.map fun j=>(j,(es.getD (j-i) default).val))/\∀ j,r=some j->i<=j/\j-i<es.length
 |[],[],i,r,u,f,h=>by
  simp only [bJ,Bq,aB] at h;subst h;exact ⟨rfl,fun j h=>by cases h⟩
 |e::es,p::ps,i,r,u,f,h=>by
  have D:Ju w S e p:=f 0 (by simp) (by simp);simp only [bK,Bq] at h;cases l:eqK k p.1 with
  |none=>rw [l] at h;cases h
  |some c =>
   have B:=zrt n q y D.1 l;rw [l] at h;unfold Instr.findNow;rw [B];cases c with
   |true =>
    simp only [aB] at h;subst h;exact ⟨by simp,fun j h=>by cases h;exact ⟨aD _,by simp⟩⟩
   |false =>
    obtain ⟨A,m⟩:=zmm n q y es ps (i+1) r (by simpa using u) (fun j h z=>f (j+1) (by simpa using h) (by simpa using z)) h;refine ⟨?_,fun j C=>by obtain ⟨a,b⟩:=m j C;exact ⟨by omega,by simp;omega⟩⟩;simp only;rw [A];cases r with
    |none=>rfl
    |some j =>
     obtain ⟨a,b⟩:=m j rfl;simp only [aW];rw [show j-i=(j-(i+1))+1 by omega,getD_cons_succ]
theorem zas {fs:Array Field}:∀ es:List MapEntry,∀ i,Instr.findNow (.struct fs) vk es i=if es=[] then some none else none
 |[],i=>rfl
 |e::es,i=>by
  unfold Instr.findNow;have:Instr.sameNow (.struct fs) vk e.key=none:=by unfold Instr.sameNow;rfl
  rw [this];simp
theorem Zc (c:Bp P t k=true)(y:Rep w S G0 k vk)(es:List MapEntry)(ps:List (AV×AV))(r:Option Nat)(l:es.length=ps.length)(z:∀ j (h:j<es.length) (C:j<ps.length),Ju w S es[j] ps[j])
  (h:Bq k (ps.map (·.1)) 0=some r):(Instr.findKey t vk es).run P w=.ok (r.map fun j=>(j,(es.getD j default).val)) w/\∀ j,r=some j->j<es.length:=by
 have one:fkT (fkA k) (P.underlying t)=true->(Instr.findKey t vk es).run P w=.ok (r.map fun j=>(j,(es.getD j default).val)) w/\∀ j,r=some j->j<es.length:=fun h1=>by
  obtain ⟨d,f,_⟩:=Qy h1;obtain ⟨u,p⟩:=zmm f h1 y es ps 0 r l z h;exact ⟨MapKept.run_findKey f (by simpa using u),fun j m=>by simpa using (p j m).2⟩
 cases k with
 |agg cs =>
  obtain ⟨fs,f,B⟩:=X5 c;obtain ⟨u,p⟩:=z75 c y es ps 0 r l z h;refine ⟨?_,fun j m=>by simpa using (p j m).2⟩;by_cases A:es=[]
  ·subst A;cases ps with
   |nil =>
    simp only [bJ,Bq,aB] at h;subst h;exact MapKept.run_findKey f rfl
   |cons=>simp at l
  ·unfold Instr.findKey;rw [Sem.run_bind,run_underlying f,Result.andThen_ok,zas,if_neg A];simpa using u
 |int q n=>exact one (by simpa [Bp] using c)
 |bool x=>exact one (by simpa [Bp] using c)
 |str x=>exact one (by simpa [Bp] using c)
 |_=>simp [Bp,fkA,fkT] at c
end
section
variable {P:Program} {w:World} {S:Nat->Prop}
theorem zc7 {T kt et:TypeId}{zA:AV}{vk z:Value}{r:Option Nat}(ok:Bool)(p:P.underlying T=some (.map kt et))(f:Bp P kt k=true)(h:Rep w S G0 k vk)(hm:Eh w S g ps)
  (u:(zeroValue et).run P w=.ok z w) (d:Rep w S G0 zA z) (A:Bq k (ps.map (·.1)) 0=some r) :
  ∃ v,Rep w S G0 (match r with|some j=>(ps.getD j default).2|none=>zA) v/\(Instr.lookup T (.map (some g)) vk ok).run P w=.ok (if ok then .tuple #[v,.bool r.isSome] else v) w:=by
 obtain ⟨es,clock,n,y,_,m⟩:=hm;obtain ⟨q,B⟩:=Zc f h es.toList ps r (by simpa using y) m A;cases r with
 |none =>
  refine ⟨z,d,?_⟩;cases ok<;>simp [Instr.lookup,run_underlying p,MapKept.run_getObj_map n,V3 _ f h,q,u,Result.andThen]
 |some j =>
  have l:=B j rfl;have c:j<ps.length:=by simp at l;omega
  have:=(m j l c).2;refine ⟨(es.toList.getD j default).val,?_,?_⟩
  ·simp only [aJ,bD c,bD l,Option.getD_some];exact this
  ·cases ok<;>simp [Instr.lookup,run_underlying p,MapKept.run_getObj_map n,V3 _ f h,q,Result.andThen]
end
section
variable {P:Program} {w:World} {S:Nat->Prop}
theorem zqh {a b:AV}{va vb:Value}(h:eq1 a b=some true)(f:Rep w S G0 a va)(d:Rep w S G0 b vb):va=vb:=by
 cases a<;>cases b<;>simp only [eq1,reduceCtorEq] at h
 ·split at h
  ·rename_i c;have c:=of_decide_eq_true c;injection h with h
   have h:=of_decide_eq_true h;subst c;subst h;rw [f.int_inv,d.int_inv]
  ·cases h
 ·injection h with h
  have h:=eq_of_beq h;subst h;rw [f.bool_inv,d.bool_inv]
 ·injection h with h
  rename_i s j;have e:s=j:=(MapKept.bytes_beq s j).1 (by rw [za7];exact h);rw [f.str_inv,d.str_inv,e]
theorem zua:∀ {cs ds:List AV},eqL cs ds=some true->cs.length=ds.length/\∀ i (h:i<cs.length) (m:i<ds.length),eq1 cs[i] ds[i]=some true
 |[],[],_=>⟨rfl,fun i h=>absurd h (by simp)⟩
 |[],_::_,h=>by simp [eqL] at h
 |_::_,[],h=>by simp [eqL] at h
 |a::cs,b::ds,h=>by
  unfold eqL at h;split at h
  ·rename_i c n h1 l;injection h with h
   simp only [aC] at h;obtain ⟨rfl,rfl⟩:=h;obtain ⟨j,f⟩:=zua l;refine ⟨by simp [j],fun i hi d=>?_⟩;cases i with
   |zero=>exact h1
   |succ i=>exact f i (by simpa using hi) (by simpa using d)
  ·cases h
theorem zwh {a b:AV}{va vb:Value}(h:eqK a b=some true)(j:Rep w S G0 a va)(f:Rep w S G0 b vb):va=vb:=by
 by_cases c:∃ cs ds,a=.agg cs/\b=.agg ds
 ·obtain ⟨cs,ds,rfl,rfl⟩:=c;obtain ⟨vs,ev,q,l,_⟩:=j.agg_inv;obtain ⟨us,eu,m,d,_⟩:=f.agg_inv;obtain ⟨u,p⟩:=zua h;rw [ev,eu];congr 1;apply Array.ext (by omega);intro i h1 n;have:=zqh (p i (by omega) (by omega)) (l i (by omega)) (d i (by omega));simpa [aM,h1,n] using this
 ·have:eqK a b=eq1 a b:=by
   cases a<;>cases b<;>first|rfl|exact absurd ⟨_,_,rfl,rfl⟩ c
  exact zqh (this▸h) j f
theorem zmo:∀ {l:List AV} {i j:Nat},Bq k l i=some (some j)->i<=j/\∃ h:j-i<l.length,eqK k l[j-i]=some true
 |[],i,j,h=>by simp [Bq] at h
 |a::r,i,j,h=>by
  simp only [Bq] at h;cases d:eqK k a with
  |none=>rw [d] at h;cases h
  |some c =>
   rw [d] at h;cases c with
   |true =>
    simp only [aB] at h;subst h;exact ⟨aD _,by simp,by simpa using d⟩
   |false =>
    obtain ⟨h1,m,f⟩:=zmo h;have e:j-i=(j-(i+1))+1:=by omega
    refine ⟨by omega,by simp;omega,?_⟩;simp only [e,getElem_cons_succ];exact f
variable {es:Array MapEntry}
theorem Born.push {clock:Nat}(h:Born es clock)(k v:Value):Born (es.push ⟨k,v,clock⟩) (clock+1):=by
 obtain ⟨h1,d⟩:=h;refine ⟨?_,fun e c=>?_⟩
 ·simp only [aP,map_append,bK,bJ];rw [nodup_append];refine ⟨h1,by simp,fun a j b f=>?_⟩;obtain ⟨e,c,rfl⟩:=mem_map.1 j;have:=d e c;simp at f;omega
 ·simp only [aP,mem_append,mem_singleton] at c;rcases c with c|c
  ·have:=d e c;omega
  ·subst c;simp
theorem Born.mod {clock:Nat}(h:Born es clock)(j:Nat)(f:MapEntry->MapEntry)(m:∀ e,(f e).born=e.born):Born (es.modify j f) clock:=by
 obtain ⟨h1,n⟩:=h;have e:(es.modify j f).toList.map (·.born)=es.toList.map (·.born):=by
  apply ext_getElem
  ·simp
  ·intro i q p;simp only [aX,bC,getElem_modify];split<;>simp [m]
 refine ⟨by rw [e];exact h1,fun x l=>?_⟩;have:x.born∈es.toList.map (·.born):=by rw [<-e];exact mem_map.2 ⟨x,l,rfl⟩
 obtain ⟨y,d,c⟩:=mem_map.1 this;rw [<-c];exact n y d
def putK (r:Option Nat)(k x:AV)(ps:List (AV×AV)):List (AV×AV):=match r with|some j=>ps.set j (k,x)|none=>ps++[(k,x)]
theorem zn9 {T kt et:TypeId}{vk vx:Value}{r:Option Nat}(D:P.underlying T=some (.map kt et))(y:Bp P kt k=true)(l:Rep w S G0 k vk)(B:Rep w S G0 x vx)(hm:Eh w S g ps)
  (C:Bq k (ps.map (·.1)) 0=some r) (J:¬S g):∃ o,(Instr.mapUpdate T (.map (some g)) vk vx).run P w=.ok () { w with heap:=w.heap.setIfInBounds g o }/\Eh { w with heap:=w.heap.setIfInBounds g o } S g (putK r k x ps):=by
 obtain ⟨es,clock,m,z,q,n⟩:=hm;have p:g<w.heap.size:=by
  rcases Nat.lt_or_ge g w.heap.size with h|h
  ·exact h
  ·rw [Array.getElem?_eq_none h] at m;cases m
 obtain ⟨G,K⟩:=Zc y l es.toList ps r (by simpa using z) n C;have mv:∀ (o:Obj) {a:AV} {v:Value},Rep w S G0 a v->Rep { w with heap:=w.heap.setIfInBounds g o } S G0 a v:=fun o a v h =>
  h.mono (by simp) (fun b E m=>⟨by
   have:b≠g:=fun e=>J (e▸E)
   simp [aH,Ne.symm this],E⟩)
 cases r with
 |none =>
  refine ⟨.map (es.push ⟨vk,vx,clock⟩) (clock+1),?_,?_⟩
  ·simp [Instr.mapUpdate,run_underlying D,MapKept.run_getObj_map m,V3 _ y l,G,MapKept.run_setObj_map _ m,Result.andThen]
  ·refine ⟨es.push ⟨vk,vx,clock⟩,clock+1,by simp [aH,p],by simp [putK,z],q.push _ _,fun j h u=>?_⟩;simp only [aP,putK] at h u ⊢;by_cases d:j<es.toList.length
   ·have c:j<ps.length:=by simp at d;omega
    rw [bE d,bE c];exact ⟨mv _ (n j d c).1,mv _ (n j d c).2⟩
   ·have H:j=es.toList.length:=by simp at h d ⊢;omega
    have M:j=ps.length:=by simp at H;omega
    rw [bA (by omega),bA (by omega)];simp only [H,Nat.sub_self,getElem_singleton];exact ⟨mv _ l,mv _ B⟩
 |some j =>
  have d:=K j rfl;have c:j<ps.length:=by simp at d;omega
  obtain ⟨_,L,F⟩:=zmo C;simp only [Nat.sub_zero,aX] at F;have A:j<es.size:=by simpa using d
  have I:es[j].key=vk:=by
   have:=(n j d c).1;exact (zwh F l (by simpa using this)).symm
  refine ⟨.map (es.modify j fun e=>{ e with key:=vk,val:=vx }) clock,?_,?_⟩
  ·simp [Instr.mapUpdate,run_underlying D,MapKept.run_getObj_map m,V3 _ y l,G,MapKept.run_setObj_map _ m,Result.andThen,A,I,zyt y l]
  ·refine ⟨es.modify j fun e=>{ e with key:=vk,val:=vx },clock,by simp [aH,p],by simp [putK,z],q.mod _ _ (fun _=>rfl),fun i h u=>?_⟩;simp only [putK,length_set] at u;have hi:i<es.toList.length:=by simp;omega
   simp only [bC,putK,getElem_set,getElem_modify];by_cases f:j=i
   ·rw [if_pos f,if_pos f];exact ⟨mv _ l,mv _ B⟩
   ·rw [if_neg f,if_neg f];exact ⟨mv _ (n i hi u).1,mv _ (n i hi u).2⟩
end
variable {P:Program}
theorem zkg {fs:List Field}:∀ {cs:List AV} {k:Nat},Dg P k cs fs=true->AV.flatL cs=true:=by
 induction fs with
 |nil=>intro cs k h;cases cs with
  |nil=>rfl
  |cons=>simp [Dg] at h
 |cons f fs c =>
  intro cs k h;cases cs with
  |nil=>rfl
  |cons a cs =>
   simp only [Dg,aC] at h;have h1:=h.2.2.1;simp only [AV.flatL,aC];refine ⟨?_,c h.2.2.2⟩;cases a<;>first|rfl|simp [fkA,fkT] at h1
theorem Wv {t:TypeId}(h:Bp P t k=true):k.flat=true:=by
 cases k with
 |agg cs =>
  obtain ⟨fs,_,c⟩:=X5 h;exact zkg c
 |int=>rfl
 |bool=>rfl
 |str=>rfl
 |_=>simp [Bp,fkA,fkT] at h
variable {i:TyI}{e:Nat}
theorem Qt {T:TypeId}{k:Nat}(h:TyOk P T i)(f:i.shape=.map k e):P.underlying T=some (.map k e):=by
 obtain ⟨d,j,c⟩:=h.und;rw [f] at c;cases d<;>simp only [E1,reduceCtorEq,Eg.map.injEq] at c;obtain ⟨rfl,rfl⟩:=c;exact j
section
variable {cx:Cx} {o:Oper} {σ:AS}
variable {id:Nat}
theorem Es {d:Nat}{e h:Ent}(c:lkE [(d,e)] id=some h):id∈[d]:=by
 simp only [lkE] at c;cases f:aG d id with
 |true=>simp [aA f]
 |false=>rw [f] at c;cases c
variable {T:Nat}
theorem zp1 {d:Nat}(m:o.op=.makeMap T none)(n:o.dst=some d)(y:dok cx o=true)(q:σ.find d=none):A9 cx o σ (.row d) [d] [(d,.mp [])]:=by
 refine ⟨fun id e u=>Es u,fun τ h1 A a w Q K ⟨γ,l⟩ z=>Br (fun c p=>by rw [m] at p;cases p) ?_⟩;have f:(execOp a.eval o).run cx.P w=.ok (.value (.map (some w.heap.size))) (w.alloc (.map #[] 0)):=by
  simp only [execOp,m,bI,Sem.run_bind,run_makeMap,Result.andThen_ok,Sem.run_pure]
 unfold Oper.wp;rw [f];refine z _ _ ⟨_,l.name (id:=d) (g:=w.heap.size) (s:=.map (some w.heap.size)) (e:=.mp []) (Bj y) (by rw [A d (by simp)];exact q) ((Below.refl _ _).alloc (aD _) _) (aD _) (by simp) ?_ ?_⟩
 ·exact ⟨w.heap.size,rfl,#[],0,(MapKept.heap_alloc w _).1,rfl,⟨by simp,fun e h=>by simp at h⟩,fun j h=>absurd h (by simp)⟩
 ·exact .row (Gam.set_self _ _ _) (fun g s e _=>by injection e with e;injection e with _ e)
theorem Y6 {a:Act}(h:StG cx γ τ a w)(m:τ.find id=some (.mp ps))(l:Rep w (Sg cx.S0 cx.w0.heap.size γ) γ (.row id) v) :
  ∃ g,γ id=some (some (some g,.map (some g)))/\v=.map (some g)/\Eh w (Sg cx.S0 cx.w0.heap.size γ) g ps:=by
 have c:=h.me id;rw [m] at c;obtain ⟨d,f,g,j,hm⟩:=c;subst j;exact ⟨g,f,l.row_inv f,hm⟩
def Ey (z:AV)(ps:List (AV×AV)):Option Nat->AV |some j=>(ps.getD j default).2 |none=>z
def Mt (av:AV)(b:Bool):Bool->AV |true=>.tup [av,.bool b] |false=>av
variable {kt et:Nat}
theorem zd7 {x y:Operand}{ok:Bool}{r:Option Nat}(n:o.op=.lookup T x y ok)(I:dok cx o=true)(l:A0 x=true)(h:A0 y=true)(C:σ.eval x=.row id)(B:σ.eval y=k)(F:σ.find id=some (.mp ps))
  (J:lkT cx.E.tab T=some i) (E:i.shape=.map kt et) (H:lkT cx.E.tab et=some ie) (f:Rg ie.zero=true) (q:Bp cx.P kt k=true) (G:Bq k (ps.map (·.1)) 0=some r)
  (p:Sub (Ey (E3 ie.zero) ps r) av):A9 cx o σ (Mt av r.isSome ok) [id] [] :=
 Ay I fun τ γ a w h1 K d=>by
  have A:=d.ev x l;rw [h1 x (by simp [n,Op.operands]),C] at A;have z:=d.ev y h;rw [h1 y (by simp [n,Op.operands]),B] at z;obtain ⟨g,L,D,hm⟩:=Y6 d (by rw [K id (by simp)];exact F) A;obtain ⟨v,c,m⟩:=zc7 (S:=Sg cx.S0 cx.w0.heap.size γ) (zA:=E3 ie.zero) ok (Qt (cx.E.ok T i J) E) q (z.flat (Wv q)) hm ((cx.E.ok et ie H).zeroV w) (X3 _ _ _ _ f) G;have c:Rep w (Sg cx.S0 cx.w0.heap.size γ) G0 (Ey (E3 ie.zero) ps r) v:=by cases r<;>exact c
  have c:=(c.open_ (γ':=γ)).sub p;refine ⟨(if ok then .tuple #[v,.bool r.isSome] else v),by simp only [execOp,n,D,Sem.run_bind,m,Result.andThen_ok,Sem.run_pure],?_⟩;cases ok with
  |false=>exact c
  |true =>
   simp only [Mt,if_true];refine .tup #[v,.bool r.isSome] rfl (fun j u=>?_);have u:j<2:=u;rcases j with _|_|j
   ·exact c
   ·exact .bool _
   ·omega
theorem z92 {x y z:Operand}{xv:AV}{C:List (AV×AV)}{r:Option Nat}(m:o.op=.mapUpdate T x y z\/o.op=.insert T x y z)(hd:dok cx o=true)(R:A0 x=true)(O:A0 y=true)(N:A0 z=true)(hx:σ.eval x=.row id)(hy:σ.eval y=k)(hz:σ.eval z=xv)(hl:σ.find id=some (.mp ps))
  (hT:lkT cx.E.tab T=some i) (hs:i.shape=.map kt et) (H:Bp cx.P kt k=true) (ac:xv.closed=true) (hf:Bq k (ps.map (·.1)) 0=some r) (U:SubM (putK r k xv ps) C):A9 cx o σ (.tup []) [id] [(id,.mp C)]:=by
 refine ⟨fun id e he=>Es he,fun τ h1 h2 a w Q K ⟨γ,f⟩ hK=>Br (fun c hc=>by rcases m with m|m<;>(rw [m] at hc;cases hc)) ?_⟩;have n:x∈o.op.operands/\y∈o.op.operands/\z∈o.op.operands:=by rcases m with m|m<;>simp [m,Op.operands]
 have ex:=f.ev x R;rw [h1 x n.1,hx] at ex;have ey:=f.ev y O;rw [h1 y n.2.1,hy] at ey;have ez:=f.ev z N;rw [h1 z n.2.2,hz] at ez;obtain ⟨g,hg,hv,hm⟩:=Y6 f (by rw [h2 id (by simp)];exact hl) ex;have q:own γ g:=own.mk hg;have J:=f.ge g q;have F:∀ b,Sg cx.S0 cx.w0.heap.size γ b->b≠g:=fun b B e=>by
  subst e;rcases B with ⟨_,h⟩|⟨_,h⟩
  ·have:=J.1.1;omega
  ·exact h q
 obtain ⟨A,E,W⟩:=zn9 (Qt (cx.E.ok T i hT) hs) H (ey.flat (Wv H)) (ez.close ac) hm hf (fun B=>F g B rfl);have aa:(execOp a.eval o).run cx.P w=.ok .skip { w with heap:=w.heap.setIfInBounds g A }:=by
  rcases m with m|m<;>simp only [execOp,m,hv,Sem.run_bind,E,Result.andThen_ok,Sem.run_pure]
 unfold Oper.wp;rw [aa];have l:∀ k,k≠g->({ w with heap:=w.heap.setIfInBounds g A }:World).heap[k]? = w.heap[k]? := fun k H=>by simp [aH,Ne.symm H]
 have p:w.heap.size<=({ w with heap:=w.heap.setIfInBounds g A }:World).heap.size:=by simp
 have ab:w.drawn<=({ w with heap:=w.heap.setIfInBounds g A }:World).drawn:=aD _;have M:Below cx.w0.heap.size w ({ w with heap:=w.heap.setIfInBounds g A }:World):=⟨rfl,rfl,rfl,p,fun k H=>l k (by have:=J.1.1;omega)⟩;generalize ({ w with heap:=w.heap.setIfInBounds g A }:World)=w' at *;refine hK _ _ ⟨γ,f.step (Bj hd) p (fun b B X=>⟨l b (F b B),B⟩) (fun id d h=>aR h) (fun D I=>⟨rfl,fun g' s Z V=>l g' ?_⟩) (fun D e' u=>?_) f.inj (fun b L=>⟨(f.ge b L).1,aN (f.ge b L).2 p⟩) (f.below.trans M) (.tup #[] rfl (fun j hj=>absurd hj (by simp))) (fun b G X=>⟨l b (fun e=>G (e▸q)),G⟩) (fun _=>ab)⟩
 ·rintro rfl;have:=f.inj _ _ _ _ _ Z hg V Bc;subst this;simp [lkE] at I
 ·have Y:D=id:=by have:=Es u;simpa using this
  subst Y;simp only [lkE,Nat.beq_refl,aB] at u;subst u;exact ⟨_,hg,g,rfl,W.sub U⟩
theorem zfx {x:Operand}(h:o.op=.call { callee:=.builtin .len,args:=#[x],argTypes:=#[T] })(q:dok cx o=true)(d:A0 x=true)(l:σ.eval x=.row id)(p:σ.find id=some (.mp ps))(y:lkT cx.E.tab T=some i)(n:i.shape=.map kt et):A9 cx o σ (.int .i64 (ps.length:Int)) [id] [] :=
 Ay q fun τ γ a w h1 z c=>by
  have j:=c.ev x d;rw [h1 x (by simp [h,Op.operands,Call.operands]),l] at j;obtain ⟨g,A,m,es,clock,u,f,_⟩:=Y6 c (by rw [z id (by simp)];exact p) j;refine ⟨.int .i64 (ps.length:Int),?_,.int _ _⟩;rw [<-f];simp [execOp,h,resolve,invoke,builtin,Builtin.len_,m,run_underlying (Qt (cx.E.ok T i y) n),MapKept.run_getObj_map u,goInt,pure,Result.andThen]
end
theorem zk0 {base n h:Nat}{cap:Nat}{vs:List Value}(d:w.ownsRow base e sz (.slice (some ⟨g,0,none⟩) n cap) n vs)(u:h<=n):w.ownsRow base e sz (.slice (some ⟨g,0,none⟩) h cap) h (vs.take (h*sz)):=by
 obtain ⟨h1,A⟩:=d;have j:h*sz<=n*sz:=aK _ u;refine ⟨by rw [aY];omega,?_⟩;rcases A with ⟨c,_⟩|⟨C,m,l,c,z,y,B,hm,q,p⟩
 ·cases c
 ·injection c with c _ f
  injection c with c
  injection c with c
  subst c;subst f;refine aS ⟨g,cap,l,rfl,z,y,by omega,hm,q,?_⟩;rw [<-p,take_take,Nat.min_eq_left j]
section
variable {cx:Cx} {o:Oper} {σ:AS}
variable {hi:Option Operand}
theorem zii {σ:AS}{a:Act}{n m:Nat}(f:StG cx γ τ a w)(h:opdO hi=true)(h1:∀ y,hi=some y->τ.eval y=σ.eval y)(d:bndA σ n hi=some (m:Int))(c:Nat)(code:BoundsCode)(p:m<=c) :
  (match hi.map a.eval with|some v=>Instr.sliceBound v c code|none=>pure n:Sem Nat).run cx.P w=.ok m w:=by
 cases hi with
 |none=>simp only [bndA,aB] at d;have:n=m:=by omega
        simp [this]
 |some y =>
  have j:=f.ev y h;rw [h1 y rfl] at j;simp only [bndA] at d;cases l:σ.eval y with
  |int k q =>
   rw [l] at j d;simp only [aB] at d;subst d;simp only [aW,j.int_inv];exact Uf k m c _ p
  |_=>rw [l] at d;simp at d
variable {lo:Option Operand}
theorem Uc {σ:AS}{a:Act}{n l h c:Nat}(m:StG cx γ τ a w)(p:opdO lo=true)(u:opdO hi=true)(D:∀ y,lo=some y->τ.eval y=σ.eval y)(C:∀ y,hi=some y->τ.eval y=σ.eval y)
  (h1:bndA σ 0 lo=some (l:Int)) (B:bndA σ n hi=some (h:Int)) (q:l<=h) (A:h<=c):(Instr.sliceBounds true n c (lo.map a.eval) (hi.map a.eval) none).run cx.P w=.ok (l,h,c) w:=by
 have j:=zii m u C B c .sliceAcap A;have f:=zii m p D h1 h .sliceB q;unfold Instr.sliceBounds;cases z:hi.map a.eval with
 |none =>
  rw [z] at j;simp only [Sem.run_pure,Result.ok.injEq,and_true] at j;subst j;cases d:lo.map a.eval with
  |none=>rw [d] at f;simp only [Sem.run_pure,Result.ok.injEq,and_true] at f ⊢;simp [f]
  |some v=>rw [d] at f;simp only [bF,aE,if_false,Sem.run_bind,Sem.run_pure,f,Result.andThen_ok]
 |some v =>
  rw [z] at j;simp only [if_true,Sem.run_bind,Sem.run_pure,Result.andThen_ok,j] at j ⊢;cases d:lo.map a.eval with
  |none=>rw [d] at f;simp only [Sem.run_pure,Result.ok.injEq,and_true] at f ⊢;simp [f]
  |some v=>rw [d] at f;simp only [bF,aE,if_false,Sem.run_bind,Sem.run_pure,f,Result.andThen_ok]
variable {T:Nat}
theorem X1 {x:Operand}(d:o.op=.slice T x lo hi none):x∈o.op.operands/\(∀ y,lo=some y->y∈o.op.operands)/\∀ y,hi=some y->y∈o.op.operands:=by
 refine ⟨by simp [d,Op.operands],fun y c=>?_,fun y c=>?_⟩<;>subst c<;>simp [d,Op.operands]
variable {esz eb:Nat}
theorem z86 {x:Operand}(B:o.op=.slice T x lo hi none)(K:dok cx o=true)(p:A0 x=true)(u:opdO lo=true)(z:opdO hi=true)(G:σ.eval x=.nils)(L:lkT cx.E.tab T=some i)(I:i.shape=.slc e esz eb)(F:esz≠0)
  (h1:bndA σ 0 lo=some 0) (N:bndA σ 0 hi=some 0):A9 cx o σ .nils [] [] :=
 Ay K fun τ γ a w d J f=>by
  obtain ⟨E,D,C⟩:=X1 B;have j:=f.ev x p;rw [d x E,G] at j;obtain ⟨H,A,_⟩:=C5 (cx.E.ok T i L) I;have q:=Dp A F w;have M:=Uc (σ:=σ) (l:=0) (h:=0) (c:=0) (n:=0) f u z (fun y m=>d y (D y m)) (fun y m=>d y (C y m)) h1 N (aD _) (aD _);refine ⟨.slice none 0 0,?_,.nils⟩;simp [execOp,B,j.nils_inv,Instr.sliceAt,Instr.slice,run_underlying H,M,q,pure]
theorem zbr {x:Operand}(h:o.op=.call { callee:=.builtin .cap,args:=#[x],argTypes:=#[T] })(n:dok cx o=true)(d:A0 x=true)(j:σ.eval x=.nils)(p:lkT cx.E.tab T=some i)(m:i.shape=.slc e esz eb):A9 cx o σ (.int .i64 0) [] [] :=
 Ay n fun τ γ a w h1 q f=>by
  have c:=f.ev x d;rw [h1 x (by simp [h,Op.operands,Call.operands]),j] at c;obtain ⟨l,_,_⟩:=C5 (cx.E.ok T i p) m;exact ⟨.int .i64 0,by simp [execOp,h,resolve,invoke,builtin,Builtin.cap_,c.nils_inv,run_underlying l,goInt,pure],.int _ _⟩
theorem zjj {id d h:Nat}{x:Operand}(ho:o.op=.slice T x lo hi none)(am:o.dst=some d)(hd:dok cx o=true)(aa:A0 x=true)(U:opdO lo=true)(W:opdO hi=true)(hx:σ.eval x=.row id)(hT:lkT cx.E.tab T=some i)(hs:i.shape=.slc e esz eb)(hz:esz≠0)
  (hl:σ.find id=some (.row ty esz xs)) (hn:σ.find d=none) (ae:id≠d) (h1:bndA σ 0 lo=some 0) (h2:bndA σ xs.length hi=some (h:Int)) (hh:h<=xs.length):A9 cx o σ (.row d) [d,id] [(d,.row ty esz (xs.take h)),(id,.dead)]:=by
 refine ⟨fun i e he=>?_,fun τ q X a w Q K ⟨γ,m⟩ hK=>Br (fun c hc=>by rw [ho] at hc;cases hc) ?_⟩
 ·simp only [lkE] at he;cases p:aG d i with
  |true=>simp [aA p]
  |false =>
   rw [p] at he;cases Z:aG id i with
   |true=>simp [aA Z]
   |false=>rw [Z] at he;cases he
 obtain ⟨m1,m2,m3⟩:=X1 ho;have Y:=m.ev x aa;rw [q x m1,hx] at Y;obtain ⟨I,al,_⟩:=C5 (cx.E.ok T i hT) hs;have J:=Dp al hz w;have O:=m.me id;rw [X id (by simp),hl] at O;obtain ⟨dd,C,s,us,ak,ad,z,A,ac,M⟩:=O;subst ak;have E:γ d=none:=by have:=m.me d;rw [X d (by simp),hn] at this;exact this
 have af:∀ b,Sg cx.S0 cx.w0.heap.size γ b->s.ownBlock≠some b:=fun b p e=>by
  have N:own γ b:=⟨id,_,C,by rw [e];exact Bc⟩;rcases p with ⟨_,p⟩|⟨_,p⟩
  ·have:=(m.ge b N).1.1;omega
  ·exact p N
 have ag:(xs.take h).length=h:=by rw [aY];omega
 -- the slice's form
 have key:∃ v' us',(Instr.sliceAt T s (lo.map a.eval) (hi.map a.eval) none).run cx.P w=.ok v' w/\w.ownsRow cx.w0.heap.size ty esz v' h us'/\v'.ownBlock=s.ownBlock/\us'=us.take (h*esz):=by
  rcases z.2 with ⟨D,h0⟩|⟨g,cap,ap,D,_,_,an,_⟩
  ·have ab:xs.length=0:=h0;have ai:h=0:=by omega
   subst ai;have hB:=Uc (σ:=σ) (l:=0) (h:=0) (c:=0) (n:=0) m U W (fun y B=>q y (m2 y B)) (fun y B=>q y (m3 y B)) h1 (by rw [ab] at h2;exact h2) (aD _) (aD _);refine ⟨.slice none 0 0,us.take (0*esz),?_,by rw [Nat.zero_mul,take_zero];exact World.ownsRow_nil w _ _ _,by rw [D],rfl⟩;rw [D];simp [Instr.sliceAt,Instr.slice,run_underlying I,hB,J,pure]
  ·have hB:=Uc (σ:=σ) (l:=0) (h:=h) (c:=cap) (n:=xs.length) m U W (fun y B=>q y (m2 y B)) (fun y B=>q y (m3 y B)) h1 h2 (Nat.zero_le _) (by omega);have f:=z;rw [D] at f;refine ⟨.slice (some ⟨g,0,none⟩) h cap,_,?_,zk0 f hh,by rw [D];rfl,rfl⟩;rw [D];simp [Instr.sliceAt,Instr.slice,run_underlying I,hB,J,pure,Addr.add_lit]
 obtain ⟨v',us',L,f,G,H⟩:=key;have aj:(execOp a.eval o).run cx.P w=.ok (.value v') w:=by
  simp only [execOp,ho,Y.row_inv C,bI,Sem.run_bind,L,Result.andThen_ok,Sem.run_pure]
 unfold Oper.wp;rw [aj];refine hK _ _ (zot (v':=v') (us':=us') m (fun _=>aD _) C E ae (Bj hd) (World.grownBy.refl _ _) (by rw [ag];exact f) (fun b p=>aR (G▸p)) (fun k hk=>?_) (fun k hk j hj=>?_) (fun u I=>?_) (fun γ' F=>?_))
 ·rw [aV];exact A k _
 ·have ah:k<h:=by omega
  have V:k<xs.length:=by omega
  simp only [aV] at hj ⊢;have ao:j<esz:=by rw [<-A k V];exact hj
  have R:k*esz+j<h*esz:=by
   have:(k+1)*esz<=h*esz:=aK _ ah;rw [bN] at this;omega
  rw [H,aJ,getElem?_take_of_lt R,<-aJ];exact (ac k V j hj).mono (aD _) (fun b p _=>⟨rfl,aR p,by rw [G];exact af b p⟩)
 ·rw [H] at I;exact M u (mem_of_mem_take I)
 ·exact .row F (fun g s e _=>by injection e with e;injection e with _ e)
end
end Go.Proofs.YtkoamfnbbhfaiaaGreatDoor
