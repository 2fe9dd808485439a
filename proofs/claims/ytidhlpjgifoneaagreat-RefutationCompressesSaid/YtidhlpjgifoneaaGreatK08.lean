/- The abstract walk, before its evaluator. -/
import Derived.Test.YtidhlpjgifoneaaGreatK07
import Derived.Laws.OwnMore
set_option linter.unusedVariables false
set_option linter.unusedSimpArgs false
namespace Go.Proofs.YtidhlpjgifoneaaGreat
open Go.RowKit List
open Nat renaming eq_of_beq_eq_true->aA,beq->aE,le_refl->aF,lt_of_lt_of_le->aQ,add_assoc->aS,le_trans->aV
open Option.some renaming injEq->aB
open Bool renaming and_eq_true->aC,false_eq_true->aG,not_eq_true'->aJ
open AV renaming renL_length->aD,renL_at->aL,inML_at->aM,renL->aW,ofV->aX,inM->aY
open _root_.Array renaming getD_eq_getD_getElem?->aH,getD->aP
open List renaming getElem_replicate->aK,length_drop->aO,replicate->aT
open Or renaming inr->aN,inl->aR
theorem SubL.refl:∀ l:List AV,SubL l l
 |[]=>.nil
 |x::l=>.cons (.refl x) (SubL.refl l)
inductive SubR:List AV->List AV->Prop
 |nil:SubR [] []
 |cons {x y:AV} {r s:List AV} (h:SubL x.cells y.cells) (hr:SubR r s):SubR (x::r) (y::s)
theorem SubR.refl:∀ l:List AV,SubR l l
 |[]=>.nil
 |x::l=>.cons (.refl _) (SubR.refl l)
variable {a b:List AV}
theorem SubR.append {c d:List AV}(h:SubR a b)(k:SubR c d):SubR (a++c) (b++d):=by
 induction h with
 |nil=>exact k
 |cons h _ ih=>exact .cons h ih
theorem SubR.len (h:SubR a b):a.length=b.length:=by
 induction h with
 |nil=>rfl
 |cons h _ ih=>simp [ih]
theorem SubR.at (h:SubR a b)(i:Nat)(hi:i<a.length)(c:i<b.length):SubL a[i].cells b[i].cells:=by
 induction h generalizing i with
 |nil=>simp at hi
 |cons h _ ih =>
  cases i with
  |zero=>exact h
  |succ i=>exact ih i (by simpa using hi) (by simpa using c)
theorem SubR.replicate {x y:AV}(h:SubL x.cells y.cells)(n:Nat):SubR (aT n x) (aT n y):=by
 induction n with
 |zero=>exact .nil
 |succ n ih=>exact .cons h ih
theorem SubR.set {x y:AV}(h:SubL x.cells y.cells):∀ (l:List AV) (n:Nat),SubR (l.set n x) (l.set n y)
 |[],_=>.nil
 |z::l,0=>.cons h (.refl l)
 |z::l,n+1=>.cons (.refl _) (SubR.set h l n)
inductive SubM:List (AV×AV)->List (AV×AV)->Prop
 |nil:SubM [] []
 |cons (k:AV) {x y:AV} {r s:List (AV×AV)} (h:Sub x y) (hr:SubM r s):SubM ((k,x)::r) ((k,y)::s)
theorem SubM.refl:∀ l:List (AV×AV),SubM l l
 |[]=>.nil
 |(k,x)::l=>.cons k (.refl x) (SubM.refl l)
theorem SubM.append {a b c d:List (AV×AV)}(h:SubM a b)(k:SubM c d):SubM (a++c) (b++d):=by
 induction h with
 |nil=>exact k
 |cons k h _ ih=>exact .cons k h ih
theorem SubM.set {k x y:AV}(h:Sub x y):∀ (l:List (AV×AV)) (n:Nat),SubM (l.set n (k,x)) (l.set n (k,y))
 |[],_=>.nil
 |_::l,0=>.cons k h (.refl l)
 |(c,z)::l,n+1=>.cons c (.refl _) (SubM.set h l n)
theorem SubM.at {a b:List (AV×AV)}(h:SubM a b):a.length=b.length/\∀ (i:Nat) (hi:i<a.length) (c:i<b.length),a[i].1=b[i].1/\Sub a[i].2 b[i].2:=by
 induction h with
 |nil=>exact ⟨rfl,fun i hi=>absurd hi (by simp)⟩
 |cons k h _ ih =>
  refine ⟨by simp [ih.1],fun i hi c=>?_⟩;cases i with
  |zero=>exact ⟨rfl,h⟩
  |succ i=>exact ih.2 i (by simpa using hi) (by simpa using c)
variable {w:World}{S:Nat->Prop}
theorem Dq.sub {g:Nat}{c qs:List (AV×AV)}(h:Dq w S g c)(n:SubM c qs):Dq w S g qs:=by
 obtain ⟨es,clock,h1,u,d,p⟩:=h;obtain ⟨i,f⟩:=n.at;refine ⟨es,clock,h1,u.trans i,d,fun j q m=>?_⟩;have e:j<c.length:=by omega
 obtain ⟨z,y⟩:=f j e m;obtain ⟨l,k⟩:=p j q e;exact ⟨z▸l,k.sub y⟩
inductive K3:Ent->Ent->Prop
 |refl (e:Ent):K3 e e
 |box (ty:Nat) {cs ds:List AV} (h:SubL cs ds):K3 (.box ty cs) (.box ty ds)
 |row (ty sz:Nat) {xs ys:List AV} (h:SubR xs ys):K3 (.row ty sz xs) (.row ty sz ys)
 |mp {ps qs:List (AV×AV)} (h:SubM ps qs):K3 (.mp ps) (.mp qs)
variable {γ:Gam}
theorem K3.rep {B:Nat}{d:Option (Option Nat×Value)}{e A:Ent}(h:Bq w S γ B d e)(f:K3 e A):Bq w S γ B d A:=by
 cases f with
 |refl=>exact h
 |mp f =>
  obtain ⟨g,h1,n⟩:=h;exact ⟨g,h1,n.sub f⟩
 |box ty f =>
  obtain ⟨g,vs,h1,n,u,q,p⟩:=h;exact ⟨g,vs,h1,n,by rw [u,f.len],fun i hi=>(q i (by rw [f.len];exact hi)).sub (f.at i _ hi),p⟩
 |row ty sz f =>
  obtain ⟨s,vs,h1,n,u,q,p,C⟩:=h;refine ⟨s,vs,h1,n,by rw [<-f.len];exact u,fun k m=>?_,fun k m j y=>?_,C⟩
  ·have c:=m;rw [<-f.len] at c;rw [<-(f.at k c m).len];exact q k c
  ·have c:=m;rw [<-f.len] at c;have z:=f.at k c m;have l:=y;rw [<-z.len] at l;exact (p k c j l).sub (z.at j l y)
inductive Oo:List (Nat×Ent)->List (Nat×Ent)->Prop
 |nil:Oo [] []
 |cons (i:Nat) {e e':Ent} {r s:List (Nat×Ent)} (h:K3 e e') (hr:Oo r s):Oo ((i,e)::r) ((i,e')::s)
variable {r s:List (Nat×Ent)}
theorem Oo.lk (h:Oo r s)(i:Nat):(lkE r i=none/\lkE s i=none)\/∃ e c,lkE r i=some e/\lkE s i=some c/\K3 e c:=by
 induction h with
 |nil=>exact aR ⟨rfl,rfl⟩
 |cons j h _ ih =>
  simp only [lkE];cases aE j i with
  |true=>exact aN ⟨_,_,rfl,rfl,h⟩
  |false=>exact ih
variable {τ:AS}{dst:Option Nat}{av:AV}
theorem St.subW {cx:Cx}{a:Act}(h:Oo r s)(k:St cx (τ.upd dst av r) a w):St cx (τ.upd dst av s) a w:=by
 obtain ⟨γ,k⟩:=k;refine ⟨γ,fun t=>?_,fun i=>?_,k.inj,k.ge,k.below,k.size,k.defers,k.gh,k.fr,k.dr⟩
 ·have:=k.tm t;rw [AS.get_upd] at this ⊢;exact this
 ·have:=k.me i;rw [AS.find_upd] at this ⊢;rcases h.lk i with ⟨h1,c⟩|⟨e,l,h1,c,j⟩
  ·rw [h1] at this;rw [c];exact this
  ·rw [h1] at this;rw [c];obtain ⟨d,g,f⟩:=this;exact ⟨d,g,j.rep f⟩
theorem Aj.weak {cx:Cx}{o:Oper}{σ:AS}{ids:List Nat}(h:Oo r s)(k:Aj cx o σ av ids r):Aj cx o σ av ids s:=by
 refine ⟨fun id e g=>?_,fun τ h1 f a w Q K d i=>k.2 τ h1 f a w Q K d (fun j w' c=>i j w' (c.subW h))⟩;rcases h.lk id with ⟨_,f⟩|⟨e,l,h1,_,_⟩
 ·rw [f] at g;cases g
 ·exact k.1 id e h1
def scA:AV->Bool |.agg _=>false |_=>true
def D8 (ie:TyI):AV:=match ie.shape.agg with
 |true=>.agg (ie.zero.cells.toList.map aX)
 |false=>(ie.zero.cells.toList.map aX).headD .any
def Jy (ie:TyI):Bool:=aE ie.zero.cells.size ie.sz && (ie.shape.agg || (aE ie.sz 1 && scA (D8 ie)))
theorem zaf {ie:TyI}(h:Jy ie=true):(D8 ie).cells=ie.zero.cells.toList.map aX/\ie.zero.cells.size=ie.sz:=by
 unfold Jy at h;simp only [aC,Bool.or_eq_true] at h;obtain ⟨h1,c⟩:=h;have h1:=aA h1;refine ⟨?_,h1⟩;unfold D8 at *;cases i:ie.shape.agg with
 |true=>rfl
 |false =>
  rw [i] at c;simp only [aG,false_or] at c;have j:=aA c.1;have d:=c.2;generalize e:ie.zero.cells.toList=z at *;have g:z.length=1:=by rw [<-e];simp;omega
  match z,g with
  |[x],_ =>
   simp only [map_cons,map_nil,headD_cons] at d ⊢;cases f:aX x<;>first|rfl|(rw [f] at d;simp [scA] at d)
section
variable {cx:Cx} {σ:AS} {o:Oper}
theorem zpk {T d e esz eb:Nat}{x y:Operand}{i ie:TyI}{k k':IntKind}{n:Int}{m:Nat}(U:o.op=.makeSlice T x y)(p:o.dst=some d)(hd:dok cx o=true)(X:A7 x=true)(W:A7 y=true)(F:σ.eval x=.int k n)(hy:σ.eval y=.int k' n)
  (hT:lkT cx.E.tab T=some i) (hs:i.shape=.slc e esz eb) (N:lkT cx.E.tab e=some ie) (hz:esz≠0) (V:Jy ie=true) (l:ie.zero.cells.all (·.oneCell')=true) (hn:σ.find d=none) (hm:n=(m:Int)) (h1:m<=1099511627776) (h2:ie.bytes*m<=281474976710656)
  (O:cx.E.dr=false):Aj cx o σ (.row d) [d] [(d,.row e esz (aT m (D8 ie)))]:=by
 refine ⟨fun id e N=>?_,fun τ q1 q2 a w Q K ⟨γ,A⟩ hK=>C5 (fun c hc=>by rw [U] at hc;cases hc) ?_⟩
 ·simp only [lkE] at N;cases hb:aE d id with
  |true=>simp [aA hb]
  |false=>rw [hb] at N;cases N
 have ex:=A.ev x X;rw [q1 x (by simp [U,Op.operands]),F] at ex;have ey:=A.ev y W;rw [q1 y (by simp [U,Op.operands]),hy] at ey;obtain ⟨Y,ah,_⟩:=Cn (cx.E.ok T i hT) hs;have L:=cx.E.ok e ie N;obtain ⟨info,hi,ad,ac,ab⟩:=L.both;have z:ie.sz=esz:=L.cells.symm.trans ah;obtain ⟨E,D⟩:=zaf V;subst hm;obtain ⟨w',G,J,ae⟩:=run_make_full (P:=cx.P) w w.heap.size T e info ie.zero esz Y hi ab (ad.trans z) k k' m (by rw [ac];exact h2) (by unfold maxLen;omega) (aF _);unfold Oper.wp;have af:(execOp a.eval o).run cx.P w=.ok (.value (.slice (some ⟨w.heap.size,0,none⟩) m m)) w':=by
  simp only [execOp,U,ex.int_inv,ey.int_inv,Sem.run_bind,G,Result.andThen_ok,Sem.run_pure]
 rw [af];refine hK _ _ ?_;rw [p];have ag:(D8 ie).cells.length=esz:=by rw [E,length_map,Array.length_toList,D,z]
 have M:∀ q j,q<m->j<esz->(madeCells ie.zero.cells (m*esz)).toList.getD (q*esz+j) undef=ie.zero.cells.getD j undef:=fun q j C hj=>by
  have Z:q*esz+j<m*esz:=by
   have:(q+1)*esz<=m*esz:=Nat.mul_le_mul_right _ C;rw [Nat.succ_mul] at this;omega
  have f:(q*esz+j) % ie.zero.cells.size=j:=by
   rw [D,z,Nat.mul_comm,Nat.mul_add_mod,Nat.mod_eq_of_lt hj]
  rw [getD_eq_getElem?_getD];have B:j<ie.zero.cells.size:=by omega
  simp [madeCells,Z,f,aP,B]
 have R:∀ v∈ie.zero.cells,v.oneCell'=true:=by
  rw [Array.all_eq_true_iff_forall_mem] at l;exact l
 refine Xi (v:=.slice (some ⟨w.heap.size,0,none⟩) m m) (us:=(madeCells ie.zero.cells (m*esz)).toList) A (fun h=>absurd (O.symm.trans h) (by simp)) (by rw [q2 d (by simp),hn]) (fun x F=>by injection F with F;subst F;exact C0 hd _ p) ((Below.refl _ _).grown ae (aF _) (fun k h=>by cases h))
  (by rw [length_replicate];exact J) (fun q C=>by rw [aK];exact ag) (fun q C j hj=>?_) (fun u Y=>?_)
  (fun hS=>.row (Gam.set_self _ _ _) (fun g s e _=>by injection e with e;injection e with _ e))
 ·have H:q<m:=by simpa using C
  rw [aK] at hj;have B:j<esz:=by omega
  rw [M q j H B];simp only [aK,E,getElem_map];have aa:j<ie.zero.cells.size:=by omega
  have:ie.zero.cells.getD j undef=ie.zero.cells[j]:=by simp [aP,aa]
  rw [this];simpa using O9 _ _ _ (ie.zero.cells[j])
 ·obtain ⟨q,C,rfl⟩:=mem_iff_getElem.1 Y;have H:q<m*esz:=by simpa [size_madeCells] using C
  have I:0<ie.zero.cells.size:=by omega
  have f:=Nat.mod_lt q I;simp only [madeCells,Array.toList_map,getElem_map,Array.getElem_toList,Array.getElem_range];rw [getElem!_pos ie.zero.cells _ f];exact R _ (Array.getElem_mem _)
end
inductive FK
 |int
 |bool
 |str
 |no
def fkA:AV->FK |.int _ _=>.int |.bool _=>.bool |.str _=>.str |_=>.no
def fkT:FK->Option TypeDesc->Bool |.int,some (.int _)=>true |.bool,some .bool=>true |.str,some .string=>true |_,_=>false
def eq1:AV->AV->Option Bool
 |.int k a,.int c b=>match decide (k=c) with
  |true=>some (decide (a=b))
  |false=>none
 |.bool a,.bool b=>some (a == b)
 |.str a,.str b=>some (a.toList == b.toList)
 |_,_=>none
def eqL:List AV->List AV->Option Bool
 |[],[]=>some true
 |a::r,b::s=>match eq1 a b,eqL r s with
  |some c,some d=>some (c && d)
  |_,_=>none
 |_,_=>none
def D6 (P:Program):Nat->List AV->List Field->Bool |_,[],[]=>true | n, a :: cs, f :: r=>decide (f.name ≠ "_") && (aE f.offset n && (fkT (fkA a) (P.underlying f.type) && D6 P (n + 1) cs r)) |_,_,_=>false
def Tn (P:Program)(t:TypeId)(cs:List AV):Option Nat:=match P.underlying t,P.info? t with
 |some (.struct gs),some i=>if (aE i.size gs.size && (!P.stoodInHeld t && (Nat.ble gs.size cs.length && D6 P 0 (cs.take gs.size) gs.toList)))=true then some gs.size else none
 |_,_=>none
def hdB (P:Program)(t:TypeId)(k:List AV->Bool):List AV->Bool |a::cs=>fkT (fkA a) (P.underlying t) && k cs |[]=>false
def Oe (P:Program):Nat->List AV->List Field->Bool
 |_,[],[]=>true
 |_,_::_,[]=>false
 | n, cs, f :: r => decide (f.name ≠ "_") && (aE f.offset n && (match Tn P f.type cs with
    |some k=>Oe P (n+k) (cs.drop k) r
    |none=>hdB P f.type (fun cs=>Oe P (n+1) cs r) cs))
def zto (P:Program)(t:TypeId)(cs:List AV):Bool:=!P.stoodInHeld t && (!P.eqGuardType P.depth t && (match P.underlying t with|some (.struct fs)=>Oe P 0 cs fs.toList|_=>false))
section
variable {P:Program} {w0:World} {S:Nat->Prop} {γ:Gam}
variable {t:TypeId}
theorem Tb {a:AV}(h:fkT (fkA a) (P.underlying t)=true):∃ d,P.underlying t=some d/\((∃ k n e,a=.int k n/\d=.int e)\/(∃ b,a=.bool b/\d=.bool)\/∃ s,a=.str s/\d=.string):=by
 cases c:P.underlying t with
 |none=>rw [c] at h;cases f:fkA a<;>rw [f] at h<;>cases h
 |some d =>
  rw [c] at h;refine ⟨d,rfl,?_⟩;cases a<;>simp only [fkA] at h<;>cases d<;>simp [fkT] at h<;>simp
variable {xs:Array Value}
theorem Z7 {a:AV}{off:Nat}(f:fkT (fkA a) (P.underlying t)=true)(h:off<xs.size):(part t xs off).run P w=.ok (xs.getD off undef) w:=by
 have c:xs[off]? = some (xs.getD off undef):=by simp [aP,h]
 generalize xs.getD off undef=v at *;obtain ⟨d,e,g⟩:=Tb f;rcases g with ⟨_,_,_,_,rfl⟩|⟨_,_,rfl⟩|⟨_,_,rfl⟩<;>simp [part,isAgg,run_underlying e,c]
theorem Xj (d:Nat){a b:AV}{va vb:Value}{c:Bool}(l:fkT (fkA a) (P.underlying t)=true)(e:eq1 a b=some c)(i:Rep w0 S γ a va)(h:Rep w0 S γ b vb):(Op.equalIn (d+1) t va vb).run P w=.ok c w:=by
 obtain ⟨dd,f,m⟩:=Tb l;rcases m with ⟨k,n,j,rfl,rfl⟩|⟨x,rfl,rfl⟩|⟨x,rfl,rfl⟩
 ·cases b<;>simp only [eq1,reduceCtorEq] at e;split at e
  ·rename_i g;injection e with e
   have g:=of_decide_eq_true g;subst g;rw [i.int_inv,h.int_inv,run_equalIn_int w d t _ j _ _ f,<-e];rfl
  ·cases e
 ·cases b<;>simp only [eq1,reduceCtorEq] at e;injection e with e
  rw [i.bool_inv,h.bool_inv,run_equalIn_bool' w d t _ _ f,<-e]
 ·cases b<;>simp only [eq1,reduceCtorEq] at e;injection e with e
  rw [i.str_inv,h.str_inv,run_equalIn_string w d t _ _ f,<-e]
theorem z8r {w:World}(d:Nat)(xs ys:Array Value):∀ (fs:List Field) (cs ds:List AV) (n:Nat) (c:Bool),D6 P n cs fs=true->eqL cs ds=some c->n+cs.length<=xs.size->n+ds.length<=ys.size ->
  (∀ i (hi:i<cs.length),Rep w0 S γ cs[i] (xs.getD (n+i) undef))->(∀ i (hi:i<ds.length),Rep w0 S γ ds[i] (ys.getD (n+i) undef))->(Op.eqFields (d+1) xs ys fs).run P w=.ok c w
 |[],[],ds,n,c,_,e,_,_,_,_=>by
  cases ds with
  |nil=>simp only [eqL,aB] at e;subst e;simp [Op.eqFields]
  |cons=>simp [eqL] at e
 |f::fs,[],ds,n,c,g,_,_,_,_,_=>by simp [D6] at g
 |[],a::cs,ds,n,c,g,_,_,_,_,_=>by simp [D6] at g
 |f::fs,a::cs,[],n,c,g,e,_,_,_,_=>by simp [eqL] at e
 |f::fs,a::cs,b::ds,n,c,g,e,E,D,m,l=>by
  simp only [D6,aC,decide_eq_true_eq] at g;obtain ⟨G,k,j,F⟩:=g;have k:=aA k;simp only [length_cons] at E D;have C:Rep w0 S γ a (xs.getD n undef):=m 0 (by simp);have B:Rep w0 S γ b (ys.getD n undef):=l 0 (by simp);unfold eqL at e;split at e
  ·rename_i r H u A;injection e with e
   have p:=z8r (w:=w) d xs ys fs cs ds (n+1) H F A (by omega) (by omega)
    (fun i hi=>by have:=m (i+1) (by simpa using hi);rw [show n+1+i=n+(i+1) by omega];simpa using this)
    (fun i hi=>by have:=l (i+1) (by simpa using hi);rw [show n+1+i=n+(i+1) by omega];simpa using this)
   have y : f.name ≠ "_" := by simpa using G
   have fb:(part f.type ys n).run P w=.ok (ys.getD n undef) w:=by
    obtain ⟨dd,q,z⟩:=Tb j;have h:ys[n]? = some (ys.getD n undef):=by simp [aP,show n<ys.size by omega]
    generalize ys.getD n undef=v at *;rcases z with ⟨_,_,_,_,rfl⟩|⟨_,_,rfl⟩|⟨_,_,rfl⟩<;>simp [part,isAgg,run_underlying q,h]
   unfold Op.eqFields;rw [if_pos y,k];rw [Sem.run_bind,Z7 j (show n<xs.size by omega),Result.andThen_ok,Sem.run_bind,fb,Result.andThen_ok,Sem.run_bind,Xj d j u C B,Result.andThen_ok];subst e;cases r
   ·rfl
   ·simpa using p
  ·cases e
theorem znh:∀ (k:Nat) {cs ds:List AV} {c:Bool},eqL cs ds=some c->k<=cs.length->∃ f e,eqL (cs.take k) (ds.take k)=some f/\eqL (cs.drop k) (ds.drop k)=some e/\c=(f && e)/\k<=ds.length
 |0,cs,ds,c,h,_=>⟨true,c,by simp [eqL],by simpa using h,by simp,Nat.zero_le _⟩
 |k+1,[],ds,c,h,d=>by simp at d
 |k+1,a::cs,[],c,h,d=>by simp [eqL] at h
 |k+1,a::cs,b::ds,c,h,d=>by
  unfold eqL at h;split at h
  ·rename_i r p g i;injection h with h
   obtain ⟨f,e,n,m,l,j⟩:=znh k i (by simpa using d);refine ⟨r && f,e,?_,by simpa using m,by rw [<-h,l,Bool.and_assoc],by simpa using j⟩;simp only [take_succ_cons];unfold eqL;rw [g,n]
  ·cases h
theorem y4q (d:Nat){ys:Array Value}{n k:Nat}{cs ds:List AV}{c:Bool}(f:Tn P t cs=some k)(B:eqL (cs.take k) (ds.take k)=some c)(D:n+k<=xs.size)(C:n+k<=ys.size)(A:k<=cs.length)(z:k<=ds.length)
  (y:∀ i (hi:i<cs.length),Rep w0 S γ cs[i] (xs.getD (n+i) undef)) (u:∀ i (hi:i<ds.length),Rep w0 S γ ds[i] (ys.getD (n+i) undef)) :
  (part t xs n).run P w=.ok (.agg (xs.extract n (n+k))) w/\(part t ys n).run P w=.ok (.agg (ys.extract n (n+k))) w/\(Op.equalIn (d+2) t (.agg (xs.extract n (n+k))) (.agg (ys.extract n (n+k)))).run P w=.ok c w:=by
 unfold Tn at f;split at f;rotate_left
 ·cases f
 rename_i gs i h hi;split at f;rotate_left
 ·cases f
 rename_i q;injection f with f
 subst f;simp only [aC,aJ] at q;obtain ⟨m,F,H,E⟩:=q;have m:=aA m;have j:(sizeOf t).run P w=.ok gs.size w:=by simp [sizeOf,typeInfo,hi,m]
 have l:(isAgg t).run P w=.ok true w:=by simp [isAgg,run_underlying h]
 have p:∀ e:Array Value,(part t e n).run P w=.ok (.agg (e.extract n (n+gs.size))) w:=fun e=>by
  unfold part;rw [Sem.run_bind,l,Result.andThen_ok,if_pos rfl,Sem.run_bind,j,Result.andThen_ok];rfl
 have g:P.fieldsOf t=gs:=by simp [Program.fieldsOf,h]
 refine ⟨p xs,p ys,?_⟩;rw [show d+2=(d+1)+1 from rfl,run_equalIn_agg w (d+1) t _ _ (by rw [g];exact h) F,g];have gd:∀ (e:Array Value),n+gs.size<=e.size->∀ i,i<gs.size->(e.extract n (n+gs.size)).getD (0+i) undef=e.getD (n+i) undef:=fun e G i hi=>by
  rw [aH,aH,Array.getElem?_extract,Nat.zero_add];rw [if_pos (by omega)]
 refine z8r (w0:=w0) (S:=S) (γ:=γ) d _ _ gs.toList (cs.take gs.size) (ds.take gs.size) 0 c E B (by simp;omega) (by simp;omega) (fun i hi=>?_) (fun i hi=>?_)
 ·rw [length_take] at hi;rw [gd xs D i (by omega),getElem_take];exact y i (by omega)
 ·rw [length_take] at hi;rw [gd ys C i (by omega),getElem_take];exact u i (by omega)
theorem z6j {w:World}(d:Nat)(xs ys:Array Value):∀ (fs:List Field) (cs ds:List AV) (n:Nat) (c:Bool),Oe P n cs fs=true->eqL cs ds=some c->n+cs.length<=xs.size->n+ds.length<=ys.size ->
  (∀ i (hi:i<cs.length),Rep w0 S γ cs[i] (xs.getD (n+i) undef))->(∀ i (hi:i<ds.length),Rep w0 S γ ds[i] (ys.getD (n+i) undef))->(Op.eqFields (d+2) xs ys fs).run P w=.ok c w
 |[],cs,ds,n,c,h,e,_,_,_,_=>by
  cases cs with
  |cons a cs=>simp [Oe] at h
  |nil =>
   cases ds with
   |nil=>simp only [eqL,aB] at e;subst e;simp [Op.eqFields]
   |cons=>simp [eqL] at e
 |f::fs,cs,ds,n,c,h,e,I,H,m,l=>by
  have h : (decide (f.name ≠ "_") && (aE f.offset n && (match Tn P f.type cs with
   |some k=>Oe P (n+k) (cs.drop k) fs
   |none=>hdB P f.type (fun cs=>Oe P (n+1) cs fs) cs)))=true:=by
   cases cs<;>exact h
  simp only [aC,decide_eq_true_eq] at h;obtain ⟨K,u,g⟩:=h;have u:=aA u;have A : f.name ≠ "_" := by simpa using K
  cases p:Tn P f.type cs with
  |some k =>
   rw [p] at g;simp only at g;have j:k<=cs.length:=by
    have:=p;unfold Tn at this;split at this
    ·split at this
     ·rename_i q;injection this with this
      subst this;simp only [aC] at q;exact Nat.le_of_ble_eq_true q.2.2.1
     ·cases this
    ·cases this
   obtain ⟨Q,O,N,M,L,z⟩:=znh k e j;obtain ⟨D,C,B⟩:=y4q (w0:=w0) (w:=w) d (n:=n) p N (by omega) (by omega) j z m l;have y:=z6j (w:=w) d xs ys fs (cs.drop k) (ds.drop k) (n+k) O g M (by rw [aO];omega) (by rw [aO];omega)
    (fun i hi=>by rw [aO] at hi;rw [getElem_drop,aS];exact m (k+i) (by omega))
    (fun i hi=>by rw [aO] at hi;rw [getElem_drop,aS];exact l (k+i) (by omega))
   unfold Op.eqFields;rw [if_pos A,u];rw [Sem.run_bind,D,Result.andThen_ok,Sem.run_bind,C,Result.andThen_ok,Sem.run_bind,B,Result.andThen_ok];subst L;cases Q
   ·rfl
   ·simpa using y
  |none =>
   rw [p] at g;cases cs with
   |nil=>cases g
   |cons a cs =>
    simp only [hdB,aC] at g;obtain ⟨g,J⟩:=g;cases ds with
    |nil=>simp [eqL] at e
    |cons b ds =>
     simp only [length_cons] at I H;have G:Rep w0 S γ a (xs.getD n undef):=m 0 (by simp);have q:Rep w0 S γ b (ys.getD n undef):=l 0 (by simp);unfold eqL at e;split at e
     ·rename_i r R E F;injection e with e
      have y:=z6j (w:=w) d xs ys fs cs ds (n+1) R J F (by omega) (by omega)
       (fun i hi=>by have:=m (i+1) (by simpa using hi);rw [show n+1+i=n+(i+1) by omega];simpa using this)
       (fun i hi=>by have:=l (i+1) (by simpa using hi);rw [show n+1+i=n+(i+1) by omega];simpa using this)
      unfold Op.eqFields;rw [if_pos A,u];rw [Sem.run_bind,Z7 g (show n<xs.size by omega),Result.andThen_ok,Sem.run_bind,Z7 g (show n<ys.size by omega),Result.andThen_ok,Sem.run_bind,Xj (d+1) g E G q,Result.andThen_ok];subst e;cases r
      ·rfl
      ·simpa using y
     ·cases e
end
section
variable {cx:Cx} {σ:AS} {o:Oper}
theorem y6a {op:BinOp}{x y:Operand}{t A:TypeId}{cs ds:List AV}{c:Bool}(n:op=.eql\/op=.neq)(j:o.op=.binOp op t x y A)(F:dok cx o=true)(l:A7 x=true)(k:A7 y=true)(C:σ.eval x=.agg cs)(B:σ.eval y=.agg ds)
  (p:zto cx.P t cs=true) (G:eqL cs ds=some c):Aj cx o σ (.bool (match op with|.eql=>c|_=>!c)) [] [] :=
 B8 F fun τ γ ac w h1 _ e=>by
  have z:=e.ev x l;rw [h1 x (by simp [j,Op.operands]),C] at z;have u:=e.ev y k;rw [h1 y (by simp [j,Op.operands]),B] at u;obtain ⟨vs,ev,I,D,_⟩:=z.agg_inv;obtain ⟨us,eu,E,m,_⟩:=u.agg_inv;unfold zto at p;simp only [aC,aJ] at p;obtain ⟨H,q,g⟩:=p;cases h:cx.P.underlying t with
  |none=>rw [h] at g;cases g
  |some dd =>
   rw [h] at g;cases dd<;>simp only [aG] at g;rename_i fs;have f:cx.P.fieldsOf t=fs:=by simp [Program.fieldsOf,h]
   have d:(Op.equalIn 10000 t (.agg vs) (.agg us)).run cx.P w=.ok c w:=by
    rw [show (10000:Nat)=9999+1 from rfl,run_equalIn_agg w 9999 t vs us (by rw [f];exact h) H,f];exact z6j (w0:=w) 9997 vs us fs.toList cs ds 0 c g G (by omega) (by omega) (fun i hi=>by simpa using D i hi) (fun i hi=>by simpa using m i hi)
   rcases n with rfl|rfl
   ·refine ⟨.bool c,?_,.bool _⟩;simp only [execOp,j,ev,eu,Sem.run_bind,run_eqGuard_agg (hm:=q),Result.andThen_ok,run_eql_struct,d,Sem.run_pure]
   ·refine ⟨.bool (!c),?_,.bool _⟩;simp only [execOp,j,ev,eu,Sem.run_bind,run_eqGuard_agg (hm:=q),Result.andThen_ok,run_neq_struct,d,Sem.run_pure]
def binS:BinOp->ByteArray->ByteArray->Option Bool |.eql,a,b=>some (a.toList == b.toList) |.neq,a,b=>some (!(a.toList == b.toList)) |.lss,a,b=>some (Op.bytesLess a.toList b.toList) |.leq,a,b=>some (Op.bytesLess a.toList b.toList || a.toList == b.toList) |.gtr,a,b=>some (!(Op.bytesLess a.toList b.toList || a.toList == b.toList)) |.geq,a,b=>some (!Op.bytesLess a.toList b.toList) |_,_,_=>none
theorem y6e {op:BinOp}{x y:Operand}{t k:TypeId}{a b:ByteArray}{c:Bool}(g:o.op=.binOp op t x y k)(n:dok cx o=true)(f:A7 x=true)(e:A7 y=true)(m:σ.eval x=.str a)(l:σ.eval y=.str b)(h:binS op a b=some c):Aj cx o σ (.bool c) [] [] :=
 B8 n fun τ γ ac w h1 _ d=>by
  have j:=d.ev x f;rw [h1 x (by simp [g,Op.operands]),m] at j;have i:=d.ev y e;rw [h1 y (by simp [g,Op.operands]),l] at i;refine ⟨.bool c,?_,.bool _⟩;cases op<;>simp only [binS,aB,reduceCtorEq] at h<;>subst h<;>simp [execOp,g,j.str_inv,i.str_inv,eqGuard,binOp,Op.stringOp,pure]
end
section
variable {cx:Cx} {σ:AS} {o:Oper}
def shI:BinOp->IntKind->Int->Int->Option AV |.shl,k,a,b=>some (.int k (k.wrap (a*2 ^ min b.toNat k.bits))) |.shr,k,a,b=>some (.int k (a.fdiv (2 ^ min b.toNat k.bits))) |_,_,_,_=>none
def bitI:BinOp->IntKind->Int->Int->Option AV |.and,k,a,b=>some (.int k (k.wrap ((BitVec.ofInt k.bits a &&& BitVec.ofInt k.bits b).toNat:Int))) |.or,k,a,b=>some (.int k (k.wrap ((BitVec.ofInt k.bits a ||| BitVec.ofInt k.bits b).toNat:Int))) |.xor,k,a,b=>some (.int k (k.wrap ((BitVec.ofInt k.bits a ^^^ BitVec.ofInt k.bits b).toNat:Int))) |.andNot,k,a,b=>some (.int k (k.wrap ((BitVec.ofInt k.bits a &&& ~~~(BitVec.ofInt k.bits b)).toNat:Int))) |_,_,_,_=>none
theorem y85 {op:BinOp}{x y:Operand}{t l:TypeId}{k m:IntKind}{a b:Int}(f:o.op=.binOp op t x y l)(q:dok cx o=true)(e:A7 x=true)(d:A7 y=true)(p:σ.eval x=.int k a)(n:σ.eval y=.int m b)(u:0<=b)(h:shI op k a b=some av):Aj cx o σ av [] [] :=
 B8 q fun τ γ ac w h1 _ c=>by
  have j:=c.ev x e;rw [h1 x (by simp [f,Op.operands]),p] at j;have i:=c.ev y d;rw [h1 y (by simp [f,Op.operands]),n] at i;have g:¬b<0:=by omega
  cases op<;>simp only [shI,aB,reduceCtorEq] at h<;>subst h;all_goals
   refine ⟨_,?_,.int _ _⟩;simp [execOp,f,j.int_inv,i.int_inv,eqGuard,binOp,Op.shift,g,pure]
theorem y6d {op:BinOp}{x y:Operand}{t j:TypeId}{k:IntKind}{a b:Int}(f:o.op=.binOp op t x y j)(n:dok cx o=true)(e:A7 x=true)(d:A7 y=true)(m:σ.eval x=.int k a)(l:σ.eval y=.int k b)(g:bitI op k a b=some av):Aj cx o σ av [] [] :=
 B8 n fun τ γ ac w h1 _ c=>by
  have i:=c.ev x e;rw [h1 x (by simp [f,Op.operands]),m] at i;have h:=c.ev y d;rw [h1 y (by simp [f,Op.operands]),l] at h;cases op<;>simp only [bitI,aB,reduceCtorEq] at g<;>subst g;all_goals
   refine ⟨_,?_,.int _ _⟩;simp only [execOp,f,i.int_inv,h.int_inv,eqGuard,binOp,Op.intBits,Sem.run_bind,Sem.run_pure,Result.andThen_ok,pure,ne_eq,not_true_eq_false,if_false];rfl
end
variable {v:Value}
theorem Rep.renF {γ':Gam}{ids:List Nat}{ρ:Nat->Nat}(e:∀ id,id∈ids->γ' (ρ id)=γ id)(h:Rep w S γ av v)(hi:av.inM ids=true):Rep w S γ' (av.ren ρ) v:=by
 induction h with
 |any=>exact .any _
 |int=>exact .int _ _
 |bool=>exact .bool _
 |str=>exact .str _
 |nilp=>exact .nilp
 |nils=>exact .nils
 |nilf=>exact .nilf
 |ptr h j=>exact .ptr ((e _ ((Db _ _).1 hi)).trans h) j
 |elt h j=>exact .elt ((e _ ((Db _ _).1 hi)).trans h) j
 |der h j=>exact .der ((e _ ((Db _ _).1 hi)).trans h) j
 |cont h j l=>exact .cont ((e _ ((Db _ _).1 hi)).trans h) j l
 |mapv u D g es clock q z G F l E j C B=>exact .mapv u D g es clock q z G F l E j
 |mapn=>exact .mapn
 |slen A n c=>exact .slen A n c
 |row h j=>exact .row ((e _ ((Db _ _).1 hi)).trans h) j
 |sl A c cell y p q m h1 k=>exact .sl A c cell y p q m h1
 |ref b off cell z q y m h1 k=>exact .ref b off cell z q y m h1
 |fn vs l m k =>
  simp only [aY] at hi;exact .fn vs (by rw [l,aD]) (fun i f=>by
   have d:=f;rw [aD] at d;rw [aL ρ _ i d];exact k i d e (aM hi i d))
 |yld m k =>
  simp only [aY] at hi;exact .yld (fun i f=>by
   have d:=f;rw [aD] at d;rw [aL ρ _ i d];exact k i d e (aM hi i d))
 |agg vs l m h1 k =>
  simp only [aY] at hi;exact .agg vs (by rw [l,aD]) (fun i f=>by
   have d:=f;rw [aD] at d;rw [aL ρ _ i d];exact k i d e (aM hi i d)) h1
 |tup vs l m k =>
  simp only [aY] at hi;exact .tup vs (by rw [l,aD]) (fun i f=>by
   have d:=f;rw [aD] at d;rw [aL ρ _ i d];exact k i d e (aM hi i d))
def ConT (E:Env)(f:FuncId)(args:List AV)(ty sz:Nat)(xs:List AV)(res:AV):Prop:=Ci E f/\res.inM [0]=true/\∀ (S:Nat->Prop) (w:World) (vs:Array Value),Args w S args vs->Calls E.P f vs w fun e w'=>∃ u v us,e=.returned u/\Below w.heap.size w w'/\w'.ownsRow w.heap.size ty sz v xs.length us /\ (∀ k (c:k<xs.length),(xs[k]).cells.length=sz)/\(∀ k (c:k<xs.length) j (d:j<(xs[k]).cells.length),Rep w' (fun b=>(S b\/w.heap.size<=b)/\v.ownBlock≠some b) G0 ((xs[k]).cells[j]) (us.getD (k*sz+j) undef))/\(∀ u∈us,u.oneCell'=true) /\ ∀ γ':Gam,γ' 0=some (some (v.ownBlock,v))->Rep w' (fun b=>(S b\/w.heap.size<=b)/\v.ownBlock≠some b) γ' res u
variable {xs:List AV}{ty sz:Nat}
theorem ConT.ofRow {E:Env}{f:FuncId}{args:List AV}(h:Fi E f args ty sz xs):ConT E f args ty sz xs (.row 0) :=
 ⟨h.1,rfl,fun S w vs d=>(h.2 S w vs d).mono fun e w' ⟨v,us,h1,m,l,k,j,i⟩=>⟨v,v,us,h1,m,l,k,j,i,fun γ' c=>.row c (fun g s e _=>by injection e with e;injection e with _ e)⟩⟩
section
variable {cx:Cx} {σ:AS} {o:Oper}
theorem zpt {x:Operand}{args:Array Operand}{tys:Array TypeId}{f d:Nat}{cap avs:List AV}{res:AV}(E:o.op=.call { callee:=.value x,args:=args,argTypes:=tys })(g:o.dst=some d)(O:dok cx o=true)(B:A7 x=true)(D:args.toList.all A7=true)(l:σ.eval x=.fn f cap)
  (R:C9 σ args cap=avs) (H:AV.closedL avs=true) (M:σ.find d=none) (j:ConT cx.E f avs ty sz xs res) (A:cx.E.dr=false):Aj cx o σ (res.ren fun _=>d) [d] [(d,.row ty sz xs)]:=by
 refine ⟨fun id e F=>?_,fun τ h1 V a w Q K ⟨γ,m⟩ U=>C5 (fun c j=>by rw [E] at j;cases j) ?_⟩
 ·simp only [lkE] at F;cases k:aE d id with
  |true=>simp [aA k]
  |false=>rw [k] at F;cases F
 have p:o.op.operands=#[x]++args:=by simp [E,Op.operands,Call.operands]
 obtain ⟨caps,G,N,L⟩:=O8 m D B (fun y I=>h1 y (by rw [p];simp at I ⊢;exact aN I)) (h1 x (by rw [p];simp)) l;subst R;unfold Oper.wp;rw [O1 E G j.1];show Calls _ _ _ _ _;refine (j.2.2 (Sg cx.S0 cx.w0.heap.size γ) w _ ⟨N,fun i hi=>(L i hi).close (AV.closedL_at H i hi)⟩).mono ?_;rintro e w' ⟨u,v,us,rfl,k,n,z,C,q,J⟩;refine U _ _ ?_;rw [g];refine Xi (v:=v) (us:=us) m (fun h=>absurd (A.symm.trans h) (by simp)) (by rw [V d (by simp),M]) (fun x l=>by injection l with l;subst l;exact C0 O _ g) k n z C q (fun T=>?_);have W:=J (fun _=>some (some (v.ownBlock,v))) rfl;refine (W.renF (γ':=γ.set d (some (v.ownBlock,v))) (ids:=[0]) (fun id _=>Gam.set_self _ _ _) j.2.1).mono (aF _) (fun b k _=>⟨rfl,T b k⟩)
end
def ConC (inp:Bool)(E:Env)(f:FuncId)(args:List AV)(ty sz:Nat)(xs:List AV)(ty' sz':Nat)(xs':List AV)(res:AV):Prop:=Ci E f/\res.inM [0]=true/\∀ (S:Nat->Prop) (w0 w:World) (vs:Array Value) (v:Value) (us:List Value),Below w0.heap.size w0 w->w.ownsRow w0.heap.size ty sz v xs.length us->(∀ k (c:k<xs.length),(xs[k]).cells.length=sz) -> (∀ k (c:k<xs.length) j (d:j<(xs[k]).cells.length),Rep w S G0 ((xs[k]).cells[j]) (us.getD (k*sz+j) undef))->(∀ u∈us,u.oneCell'=true)->(∀ b,v.ownBlock=some b->¬S b)->vs.size=args.length -> (∀ γ:Gam,γ 0=some (some (v.ownBlock,v))->∀ i (hi:i<args.length),Rep w S γ args[i] (vs.getD i undef)) -> Calls E.P f vs w fun e w'=>∃ u v' us',e=.returned u/\w.grownBy w' v.ownBlock/\w'.ownsRow w0.heap.size ty' sz' v' xs'.length us'/\(inp=true->v'=v)/\(∀ b,v'.ownBlock=some b->v.ownBlock=some b\/w.heap.size<=b)/\(∀ k (c:k<xs'.length),(xs'[k]).cells.length=sz') /\ (∀ k (c:k<xs'.length) j (d:j<(xs'[k]).cells.length),Rep w' (fun b=>(S b\/w.heap.size<=b)/\v'.ownBlock≠some b) G0 ((xs'[k]).cells[j]) (us'.getD (k*sz' + j) undef))/\(∀ u∈us',u.oneCell'=true) /\ ∀ γ':Gam,γ' 0=some (some (v'.ownBlock,v'))->Rep w' (fun b=>(S b\/w.heap.size<=b)/\v'.ownBlock≠some b) γ' res u
section
variable {cx:Cx} {σ:AS} {o:Oper}
theorem ziv {base e n:Nat}{vs:List Value}(h:w.ownsRow base e sz v n vs)(b:Nat)(c:v.ownBlock=some b):base<=b/\b<w.heap.size:=by
 rcases h.2 with ⟨d,_⟩|⟨g,cap,j,d,f,i,_⟩
 ·rw [d] at c;simp [Value.ownBlock] at c
 ·rw [d] at c;simp only [Value.ownBlock,aB] at c;subst c;exact ⟨f,(Array.getElem?_eq_some_iff.1 i).1⟩
variable {id ty' sz':Nat}{xs':List AV}{us':List Value}
theorem zwa {a:Act}{w':World}{d:Nat}{v' u:Value}(c:StG cx γ τ a w)(ad:cx.E.dr=true->w.drawn<=w'.drawn)(G:γ id=some (some (v.ownBlock,v)))(Q:γ d=none)(ac:id≠d)(hd:∀ x,dst=some x->cx.E.np<=x/\x<cx.nt)(H:w.grownBy w' v.ownBlock)
  (q:w'.ownsRow cx.w0.heap.size ty' sz' v' xs'.length us') (F:∀ b,v'.ownBlock=some b->v.ownBlock=some b\/w.heap.size<=b) (V:∀ k (Y:k<xs'.length),(xs'[k]).cells.length=sz')
  (ab:∀ k (Y:k<xs'.length) j (n:j<(xs'[k]).cells.length),Rep w' (fun b=>(Sg cx.S0 cx.w0.heap.size γ b\/w.heap.size<=b)/\v'.ownBlock≠some b) G0 ((xs'[k]).cells[j]) (us'.getD (k*sz' + j) undef)) (T:∀ u∈us',u.oneCell'=true)
  (hu:∀ γ':Gam,γ' d=some (some (v'.ownBlock,v'))->Rep w' (fun b=>(Sg cx.S0 cx.w0.heap.size γ b\/w.heap.size<=b)/\v'.ownBlock≠some b) γ' av u):St cx (τ.upd dst av [(d,.row ty' sz' xs'),(id,.dead)]) (a.put dst u) w':=by
 have aa:=c.below.size;let γ':Gam:=fun i=>if d=i then some (some (v'.ownBlock,v')) else if id=i then some none else γ i
 have m:γ' d=some (some (v'.ownBlock,v')):=if_pos rfl;have l:∀ i,d≠i->id≠i->γ' i=γ i:=fun i h1 D=>by show (if d=i then _ else if id=i then _ else γ i)=γ i;rw [if_neg h1,if_neg D]
 have f:γ' id=some none:=by show (if d=id then _ else if id=id then _ else γ id)=some none;rw [if_neg (Ne.symm ac),if_pos rfl]
 have y:∀ b,own γ' b->v'.ownBlock=some b\/own γ b:=fun b ⟨i,s,hi,hm⟩=>by
  by_cases h:d=i
  ·subst h;rw [m] at hi;injection hi with hi;subst hi;exact aR (Fe (Fd (Cw q)) hm)
  ·by_cases z:id=i
   ·subst z;rw [f] at hi;injection hi with hi;subst hi;simp [blks] at hm
   ·rw [l i h z] at hi;exact aN ⟨i,s,hi,hm⟩
 have E:∀ b,v.ownBlock=some b->own γ b:=fun b C=>own.mk (id:=id) (s:=v) (by rw [G,C])
 have J:∀ b,¬own γ b->b<w.heap.size->¬own γ' b:=fun b p A I=>by
  rcases y b I with h|h
  ·rcases F b h with h|h
   ·exact p (E b h)
   ·omega
  ·exact p h
 have K:∀ b,¬own γ b->b<w.heap.size->w'.heap[b]? = w.heap[b]? := fun b p A=>H.block b A (fun e=>p (E b e.symm))
 have B:∀ b,Sg cx.S0 cx.w0.heap.size γ b->¬own γ b:=fun b N I=>by
  rcases N with ⟨_,h⟩|⟨_,h⟩
  ·have:=(c.ge b I).1.1;omega
  ·exact h I
 have X:∀ b,(Sg cx.S0 cx.w0.heap.size γ b\/w.heap.size<=b)/\v'.ownBlock≠some b->Sg cx.S0 cx.w0.heap.size γ' b:=fun b ⟨h1,D⟩=>by
  rcases h1 with h1|h1
  ·have p:=B b h1;rcases h1 with h1|⟨h1,L⟩
   ·exact aR h1
   ·refine aN ⟨h1,fun I=>?_⟩;rcases y b I with h|h
    ·exact D h
    ·exact L h
  ·refine aN ⟨⟨aV aa h1,fun h0=>by have:=c.gh _ h0;omega⟩,fun I=>?_⟩;rcases y b I with h|h
   ·exact D h
   ·have:=(c.ge b h).2;omega
 have R:∀ i,lkE [(d,Ent.row ty' sz' xs'),(id,.dead)] i=if d=i then some (.row ty' sz' xs') else if id=i then some .dead else none:=fun i=>by
  simp only [lkE];by_cases h:d=i
  ·subst h;simp
  ·rw [if_neg h];have:aE d i=false:=by cases C:aE d i with|true=>exact absurd (aA C) h|false=>rfl
   rw [this];by_cases z:id=i
   ·subst z;simp
   ·rw [if_neg z];have:aE id i=false:=by cases C:aE id i with|true=>exact absurd (aA C) z|false=>rfl
    rw [this]
 refine ⟨γ',c.step (γ':=γ') hd H.size (fun b N A=>⟨K b (B b N) A,?_⟩) (fun i x Z=>?_) (fun i hi=>?_) (fun i e hi=>?_) (fun i j b s s' hi n mi mj=>?_) (fun b C=>?_) ?_ ((hu γ' m).mono (aF _) (fun b C _=>⟨rfl,X b C⟩)) (fun b p A=>⟨K b p A,J b p A⟩) ad⟩
 ·have p:=J b (B b N) A;rcases N with N|⟨h1,_⟩
  ·exact aR N
  ·exact aN ⟨h1,p⟩
 ·by_cases h:d=i
  ·subst h;rw [Q] at Z;cases Z
  ·by_cases z:id=i
   ·subst z;exact aN (aR f)
   ·exact aR (by rw [l i h z];exact Z)
 ·rw [R] at hi;by_cases h:d=i
  ·rw [if_pos h] at hi;cases hi
  ·rw [if_neg h] at hi;by_cases z:id=i
   ·rw [if_pos z] at hi;cases hi
   ·refine ⟨l i h z,fun g s W U=>H.block g (c.ge g ⟨i,s,W,U⟩).2 (fun e=>z ?_)⟩;exact c.inj _ _ _ _ _ G W (by rw [<-e];exact C1) U
 ·rw [R] at hi;by_cases h:d=i
  ·subst h;rw [if_pos rfl] at hi;injection hi with hi
   subst hi;exact ⟨_,m,v',us',rfl,Cw q,q,V,fun k Y j n=>(ab k Y j n).mono (aF _) (fun b C _=>⟨rfl,X b C⟩),T⟩
  ·rw [if_neg h] at hi;by_cases z:id=i
   ·subst z;rw [if_pos rfl] at hi;injection hi with hi
    subst hi;exact ⟨none,f,rfl⟩
   ·rw [if_neg z] at hi;cases hi
 ·by_cases h1:d=i
  ·by_cases D:d=j
   ·rw [<-h1,<-D]
   ·subst h1;rw [m] at hi;injection hi with hi
    subst hi;have hi:=Fe (Fd (Cw q)) mi;by_cases L:id=j
    ·subst L;rw [f] at n;injection n with n;subst n;simp [blks] at mj
    ·rw [l j D L] at n;rcases F b hi with h|h
     ·exact absurd (c.inj _ _ _ _ _ G n (by rw [h];exact C1) mj) L
     ·have:=(c.ge b ⟨j,s',n,mj⟩).2;omega
  ·by_cases O:id=i
   ·subst O;rw [f] at hi;injection hi with hi;subst hi;simp [blks] at mi
   ·rw [l i h1 O] at hi;by_cases D:d=j
    ·subst D;rw [m] at n;injection n with n
     subst n;have n:=Fe (Fd (Cw q)) mj;rcases F b n with h|h
     ·exact absurd (c.inj _ _ _ _ _ G hi (by rw [h];exact C1) mi) O
     ·have:=(c.ge b ⟨i,s,hi,mi⟩).2;omega
    ·by_cases L:id=j
     ·subst L;rw [f] at n;injection n with n;subst n;simp [blks] at mj
     ·rw [l j D L] at n;exact c.inj _ _ _ _ _ hi n mi mj
 ·rcases y b C with h|h
  ·have M:=ziv q b h;rcases F b h with z|z
   ·exact ⟨(c.ge b (E b z)).1,M.2⟩
   ·exact ⟨⟨M.1,fun h0=>by have:=c.gh _ h0;omega⟩,M.2⟩
  ·exact ⟨(c.ge b h).1,aQ (c.ge b h).2 H.size⟩
 ·refine c.below.trans ⟨H.os,H.tape,H.output,H.size,fun k Y=>H.block k (by omega) (fun e=>?_)⟩;have:=(c.ge k (E k e.symm)).1.1;omega
theorem zbl {a:Act}{w':World}{u:Value}(c:StG cx γ τ a w)(M:cx.E.dr=true->w.drawn<=w'.drawn)(y:γ id=some (some (v.ownBlock,v)))(R:∀ x,dst=some x->cx.E.np<=x/\x<cx.nt)(m:w.grownBy w' v.ownBlock)
  (p:w'.ownsRow cx.w0.heap.size ty sz v xs'.length us') (E:∀ k (I:k<xs'.length),(xs'[k]).cells.length=sz)
  (L:∀ k (I:k<xs'.length) j (N:j<(xs'[k]).cells.length),Rep w' (fun b=>(Sg cx.S0 cx.w0.heap.size γ b\/w.heap.size<=b)/\v.ownBlock≠some b) G0 ((xs'[k]).cells[j]) (us'.getD (k*sz+j) undef)) (B:∀ u∈us',u.oneCell'=true)
  (Q:Rep w' (fun b=>(Sg cx.S0 cx.w0.heap.size γ b\/w.heap.size<=b)/\v.ownBlock≠some b) γ av u):St cx (τ.upd dst av [(id,.row ty sz xs')]) (a.put dst u) w':=by
 have K:=c.below.size;have A:∀ b,v.ownBlock=some b->own γ b:=fun b f=>own.mk (id:=id) (s:=v) (by rw [y,f])
 have q:∀ b,¬own γ b->b<w.heap.size->w'.heap[b]? = w.heap[b]? := fun b l d=>m.block b d (fun e=>l (A b e.symm))
 have C:∀ b,Sg cx.S0 cx.w0.heap.size γ b->¬own γ b:=fun b J H=>by
  rcases J with ⟨_,h⟩|⟨_,h⟩
  ·have:=(c.ge b H).1.1;omega
  ·exact h H
 have G:∀ b,(Sg cx.S0 cx.w0.heap.size γ b\/w.heap.size<=b)/\v.ownBlock≠some b->Sg cx.S0 cx.w0.heap.size γ b:=fun b ⟨h1,U⟩=>by
  rcases h1 with h1|h1
  ·exact h1
  ·exact aN ⟨⟨aV K h1,fun T=>by have:=c.gh _ T;omega⟩,fun H=>by have:=(c.ge b H).2;omega⟩
 have z:∀ i,lkE [(id,Ent.row ty sz xs')] i=if id=i then some (.row ty sz xs') else none:=fun i=>by
  simp only [lkE];by_cases n:id=i
  ·subst n;simp
  ·rw [if_neg n];have:aE id i=false:=by cases f:aE id i with|true=>exact absurd (aA f) n|false=>rfl
   rw [this]
 refine ⟨γ,c.step (γ':=γ) R m.size (fun b J d=>⟨q b (C b J) d,J⟩) (fun i x O=>aR O) (fun i hi=>?_) (fun i e hi=>?_) c.inj (fun b f=>⟨(c.ge b f).1,aQ (c.ge b f).2 m.size⟩) ?_ (Q.mono (aF _) (fun b f _=>⟨rfl,G b f⟩)) (fun b l d=>⟨q b l d,l⟩) M⟩
 ·rw [z] at hi;by_cases n:id=i
  ·rw [if_pos n] at hi;cases hi
  ·refine ⟨rfl,fun g s F D=>m.block g (c.ge g ⟨i,s,F,D⟩).2 (fun e=>n ?_)⟩;exact c.inj _ _ _ _ _ y F (by rw [<-e];exact C1) D
 ·rw [z] at hi;by_cases n:id=i
  ·subst n;rw [if_pos rfl] at hi;injection hi with hi
   subst hi;exact ⟨_,y,v,us',rfl,Cw p,p,E,fun k I j N=>(L k I j N).mono (aF _) (fun b f _=>⟨rfl,G b f⟩),B⟩
  ·rw [if_neg n] at hi;cases hi
 ·refine c.below.trans ⟨m.os,m.tape,m.output,m.size,fun k I=>m.block k (by omega) (fun e=>?_)⟩;have:=(c.ge k (A k e.symm)).1.1;omega
variable {x:Operand}{args:Array Operand}{tys:Array TypeId}{cap cargs:List AV}{res:AV}
theorem zom {f:Nat}{inp:Bool}(N:o.op=.call { callee:=.value x,args:=args,argTypes:=tys })(B:A7 x=true)(D:args.toList.all A7=true)(hx:σ.eval x=.fn f cap)
  (M:aW (fun _=>id) cargs=C9 σ args cap) (G:AV.inML [0] cargs=true) (hl:σ.find id=some (.row ty sz xs)) (R:ConC inp cx.E f cargs ty sz xs ty' sz' xs' res)
    {a:Act}  (h1:∀ x∈o.op.operands,τ.eval x=σ.eval x) (h2:τ.find id=σ.find id) (c:StG cx γ τ a w) {Q:Exit->Act->World->Prop} {K:Act->World->Prop}
  (k:∀ u v v' us' w',γ id=some (some (v.ownBlock,v))->w.grownBy w' v.ownBlock->w'.ownsRow cx.w0.heap.size ty' sz' v' xs'.length us'->(inp=true->v'=v)->(∀ b,v'.ownBlock=some b->v.ownBlock=some b\/w.heap.size<=b)->(∀ k (hk:k<xs'.length),(xs'[k]).cells.length=sz') ->
    (∀ k (hk:k<xs'.length) j (O:j<(xs'[k]).cells.length),Rep w' (fun b=>(Sg cx.S0 cx.w0.heap.size γ b\/w.heap.size<=b)/\v'.ownBlock≠some b) G0 ((xs'[k]).cells[j]) (us'.getD (k*sz' + j) undef))->(∀ u∈us',u.oneCell'=true) ->
    (∀ γ':Gam,γ' 0=some (some (v'.ownBlock,v'))->Rep w' (fun b=>(Sg cx.S0 cx.w0.heap.size γ b\/w.heap.size<=b)/\v'.ownBlock≠some b) γ' res u)->K (a.put o.dst u) w'):o.wp cx.P a w K Q:=by
 have n:o.op.operands=#[x]++args:=by simp [N,Op.operands,Call.operands]
 obtain ⟨caps,J,F,l⟩:=O8 c D B (fun y L=>h1 y (by rw [n];simp at L ⊢;exact aN L)) (h1 x (by rw [n];simp)) hx;have z:=c.me id;rw [h2,hl] at z;obtain ⟨dd,d,s,us,I,_,m,A,C,p⟩:=z;subst I;unfold Oper.wp;rw [O1 N J R.1];show Calls _ _ _ _ _;have E:cargs.length=(C9 σ args cap).length:=by rw [<-M,aD]
 refine (R.2.2 (Sg cx.S0 cx.w0.heap.size γ) cx.w0 w _ s us c.below m A C p (fun b hb hS=>?_) (by rw [F,E]) (fun γc g i hi=>?_)).mono ?_
 ·have q:own γ b:=own.mk (id:=id) (s:=s) (by rw [d,hb]);rcases hS with ⟨_,h⟩|⟨_,h⟩
  ·have:=(c.ge b q).1.1;omega
  ·exact h q
 ·have H:i<(C9 σ args cap).length:=by omega
  have h:=l i H;have e:(C9 σ args cap)[i]=cargs[i].ren (fun _=>id):=by
   have:(aW (fun _=>id) cargs)[i]'(by rw [aD];exact hi)=(C9 σ args cap)[i]:=by simp only [M]
   rw [<-this,aL]
  rw [e] at h;exact h.ren (ids:=[0]) (ρ:=fun _=>id) (fun j O=>by
   have:j=0:=by simpa using O
   subst this;rw [g,d]) cargs[i] rfl (aM G i hi)
 ·rintro e w' ⟨u,v',us',rfl,q1,Z,Y,X,W,V,U,T⟩;exact k u s v' us' w' d q1 Z Y X W V U T
theorem y0n {f d:Nat}(B:o.op=.call { callee:=.value x,args:=args,argTypes:=tys })(C:o.dst=some d)(V:dok cx o=true)(q:A7 x=true)(y:args.toList.all A7=true)(O:σ.eval x=.fn f cap)
  (R:aW (fun _=>id) cargs=C9 σ args cap) (A:AV.inML [0] cargs=true) (U:σ.find id=some (.row ty sz xs)) (z:id≠d) (T:σ.find d=none) (m:ConC false cx.E f cargs ty sz xs ty' sz' xs' res) (l:cx.E.dr=false):Aj cx o σ (res.ren fun _=>d) [d,id] [(d,.row ty' sz' xs'),(id,.dead)]:=by
 refine ⟨fun i e p=>?_,fun τ h1 E a w Q K ⟨γ,g⟩ W=>C5 (fun c m=>by rw [B] at m;cases m) ?_⟩
 ·simp only [lkE] at p;cases D:aE d i with
  |true=>simp [aA D]
  |false =>
   rw [D] at p;cases n:aE id i with
   |true=>simp [aA n]
   |false=>rw [n] at p;cases p
 refine zom B q y O R A U m h1 (E id (by simp)) g (fun u v v' us' w' N M L X J I H G F=>W _ _ ?_);have j:γ d=none:=by have:=g.me d;rw [E d (by simp),T] at this;exact this
 refine zwa g (fun h=>absurd (l.symm.trans h) (by simp)) N j z (C0 V) M L J I H G (fun γ' k=>?_);exact (F (fun _=>some (some (v'.ownBlock,v'))) rfl).renF (ids:=[0]) (fun i _=>k) m.2.1
theorem y0m {f:Nat}(q:o.op=.call { callee:=.value x,args:=args,argTypes:=tys })(L:dok cx o=true)(k:A7 x=true)(l:args.toList.all A7=true)(G:σ.eval x=.fn f cap)
  (I:aW (fun _=>id) cargs=C9 σ args cap) (m:AV.inML [0] cargs=true) (J:σ.find id=some (.row ty sz xs)) (j:ConC true cx.E f cargs ty sz xs ty sz xs' res) (g:cx.E.dr=false):Aj cx o σ (res.ren fun _=>id) [id] [(id,.row ty sz xs')]:=by
 refine ⟨fun i e n=>?_,fun τ h1 N a w Q K ⟨γ,d⟩ M=>C5 (fun c j=>by rw [q] at j;cases j) ?_⟩
 ·simp only [lkE] at n;cases y:aE id i with
  |true=>simp [aA y]
  |false=>rw [y] at n;cases n
 refine zom q k l G I m J j h1 (N id (by simp)) d (fun u v v' us' w' p F E D O C B A z=>M _ _ ?_);have H:=D rfl;subst H;exact zbl d (fun h=>absurd (g.symm.trans h) (by simp)) p (C0 L) F E C B A ((z (fun _=>some (some (v'.ownBlock,v'))) rfl).renF (ids:=[0]) (fun i _=>p) j.2.1)
end
def eqK:AV->AV->Option Bool |.agg cs,.agg ds=>eqL cs ds |a,b=>eq1 a b
def Bz (k:AV):List AV->Nat->Option (Option Nat)
 |[],_=>some none
 |a::r,i=>match eqK k a with
  |some true=>some (some i)
  |some false=>Bz k r (i+1)
  |none=>none
def Bv (P:Program)(t:TypeId)(a:AV):Bool:=match a with
 |.agg cs=>!P.stoodInHeld t && (match P.underlying t with|some (.struct fs)=>D6 P 0 cs fs.toList|_=>false)
 |a=>fkT (fkA a) (P.underlying t)
section
variable {P:Program} {w:World} {S:Nat->Prop}
theorem y5f {t:TypeId}{a b:AV}{va vb:Value}{c:Bool}(d:Bv P t a=true)(f:eqK a b=some c)(l:Rep w S G0 a va)(j:Rep w S G0 b vb):(Op.equal t va vb).run P w=.ok c w:=by
 unfold Op.equal;rw [show Op.maxDepth=9999+1 from rfl];cases a with
 |agg cs =>
  cases b with
  |agg ds =>
   obtain ⟨vs,ev,y,p,_⟩:=l.agg_inv;obtain ⟨us,eu,q,m,_⟩:=j.agg_inv;simp only [Bv,aC,aJ] at d;obtain ⟨u,g⟩:=d;cases h:P.underlying t with
   |none=>rw [h] at g;cases g
   |some dd =>
    rw [h] at g;cases dd<;>simp only [aG] at g;rename_i fs;have e:P.fieldsOf t=fs:=by simp [Program.fieldsOf,h]
    rw [ev,eu,run_equalIn_agg w 9999 t vs us (by rw [e];exact h) u,e];exact z8r (w0:=w) 9998 vs us fs.toList cs ds 0 c g f (by omega) (by omega) (fun i hi=>by simpa using p i hi) (fun i hi=>by simpa using m i hi)
  |_=>simp [eqK,eq1] at f
 |int k n=>exact Xj 9999 (by simpa [Bv] using d) (by cases b<;>simpa [eqK] using f) l j
 |bool x=>exact Xj 9999 (by simpa [Bv] using d) (by cases b<;>simpa [eqK] using f) l j
 |str x=>exact Xj 9999 (by simpa [Bv] using d) (by cases b<;>simpa [eqK] using f) l j
 |_=>simp [Bv,fkA,fkT] at d
theorem zac {t:TypeId}{k:AV}{vk:Value}(m:Bv P t k=true)(u:Rep w S G0 k vk):∀ (es:List MapEntry) (d:List (AV×AV)) (i:Nat) (r:Option Nat),es.length=d.length->(∀ j (h:j<es.length) (y:j<d.length),K5 w S es[j] d[j]) ->
  Bz k (d.map (·.1)) i=some r->(Instr.findAsking t vk es i).run P w=.ok (r.map fun j=>(j,(es.getD (j-i) default).val)) w/\∀ j,r=some j->i<=j/\j-i<es.length
 |[],[],i,r,q,f,h=>by
  simp only [map_nil,Bz,aB] at h;subst h;exact ⟨by simp [Instr.findAsking],fun j h=>by cases h⟩
 |e::es,p::d,i,r,q,f,h=>by
  have B:K5 w S e p:=f 0 (by simp) (by simp);simp only [map_cons,Bz] at h;cases g:eqK k p.1 with
  |none=>rw [g] at h;cases h
  |some c =>
   have n:=y5f m g u B.1;rw [g] at h;cases c with
   |true =>
    simp only [aB] at h;subst h;refine ⟨?_,fun j h=>by cases h;exact ⟨aF _,by simp⟩⟩;unfold Instr.findAsking;rw [Sem.run_bind,n,Result.andThen_ok];simp
   |false =>
    obtain ⟨z,l⟩:=zac m u es d (i+1) r (by simpa using q) (fun j h y=>f (j+1) (by simpa using h) (by simpa using y)) h;refine ⟨?_,fun j A=>by obtain ⟨a,b⟩:=l j A;exact ⟨by omega,by simp;omega⟩⟩;unfold Instr.findAsking;rw [Sem.run_bind,n,Result.andThen_ok];simp only [aG,if_false];rw [z];cases r with
    |none=>rfl
    |some j =>
     obtain ⟨a,b⟩:=l j rfl;simp only [Option.map_some];rw [show j-i=(j-(i+1))+1 by omega,getD_cons_succ]
end
end Go.Proofs.YtidhlpjgifoneaaGreat
