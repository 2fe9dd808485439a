/- The abstract walk, before its evaluator. -/
import Derived.Test.YthbogefcfhmpgaaGreatK04
import Derived.Laws.OwnMore
import Derived.MapKept
import Derived.Carry
set_option linter.unusedVariables false
set_option linter.unusedSimpArgs false
namespace Go.Proofs.YthbogefcfhmpgaaGreat
open Go.RowKit List
open Nat renaming eq_of_beq_eq_true->aA,le_refl->aD,beq->aG,mul_le_mul_right->aK,lt_of_lt_of_le->aN,add_assoc->bL,succ_mul->bN,le_trans->bO
open Option.some renaming injEq->aB
open Bool renaming and_eq_true->aC,false_eq_true->aE,not_eq_true'->aO
open AV renaming renL_length->aF,renL_at->aT,inML_at->aU,renL->bP,ofV->bQ,inM->bR
open _root_.Array renaming getElem?_setIfInBounds->aH,getD_eq_getD_getElem?->aL,getD->aM,toList_push->aP,length_toList->bB,toList_modify->bC
open List renaming getD_eq_getElem?_getD->aJ,getElem_replicate->aQ,getElem_take->aV,getElem_map->aX,length_take->aY,length_drop->aZ,getElem_append_right->bA,getElem?_eq_getElem->bD,getElem_append_left->bE,length_cons->bH,map_nil->bJ,map_cons->bK,replicate->bM
open Or renaming inl->aR,inr->aS
open Option renaming map_some->aW,isSome_none->bF,map_none->bI
theorem SubL.refl:∀ l:List AV,SubL l l
 |[]=>.nil
 |x::l=>.cons (.refl x) (SubL.refl l)
inductive SubR:List AV->List AV->Prop
 |nil:SubR [] []
 |cons {x y:AV} {r s:List AV} (h:SubL x.cells y.cells) (hr:SubR r s):SubR (x::r) (y::s)
theorem SubR.refl:∀ l:List AV,SubR l l
 |[]=>.nil
 |x::l=>.cons (.refl _) (SubR.refl l)
variable {a b:List AV}
theorem SubR.append {c d:List AV}(h:SubR a b)(k:SubR c d):SubR (a++c) (b++d):=by
 induction h with
 |nil=>exact k
 |cons h _ ih=>exact .cons h ih
theorem SubR.len (h:SubR a b):a.length=b.length:=by
 induction h with
 |nil=>rfl
 |cons h _ ih=>simp [ih]
theorem SubR.at (h:SubR a b)(i:Nat)(hi:i<a.length)(hi':i<b.length):SubL a[i].cells b[i].cells:=by
 induction h generalizing i with
 |nil=>simp at hi
 |cons h _ ih =>
  cases i with
  |zero=>exact h
  |succ i=>exact ih i (by simpa using hi) (by simpa using hi')
variable {x:AV}
theorem SubR.replicate {y:AV}(h:SubL x.cells y.cells)(n:Nat):SubR (bM n x) (bM n y):=by
 induction n with
 |zero=>exact .nil
 |succ n ih=>exact .cons h ih
theorem SubR.set {y:AV}(h:SubL x.cells y.cells):∀ (l:List AV) (n:Nat),SubR (l.set n x) (l.set n y)
 |[],_=>.nil
 |z::l,0=>.cons h (.refl l)
 |z::l,n+1=>.cons (.refl _) (SubR.set h l n)
inductive SubM:List (AV×AV)->List (AV×AV)->Prop
 |nil:SubM [] []
 |cons (k:AV) {x y:AV} {r s:List (AV×AV)} (h:Sub x y) (hr:SubM r s):SubM ((k,x)::r) ((k,y)::s)
theorem SubM.refl:∀ l:List (AV×AV),SubM l l
 |[]=>.nil
 |(k,x)::l=>.cons k (.refl x) (SubM.refl l)
theorem SubM.append {a b c d:List (AV×AV)}(h:SubM a b)(k:SubM c d):SubM (a++c) (b++d):=by
 induction h with
 |nil=>exact k
 |cons k h _ ih=>exact .cons k h ih
variable {k:AV}
theorem SubM.set {y:AV}(h:Sub x y):∀ (l:List (AV×AV)) (n:Nat),SubM (l.set n (k,x)) (l.set n (k,y))
 |[],_=>.nil
 |_::l,0=>.cons k h (.refl l)
 |(k',z)::l,n+1=>.cons k' (.refl _) (SubM.set h l n)
theorem SubM.at {a b:List (AV×AV)}(h:SubM a b):a.length=b.length/\∀ (i:Nat) (hi:i<a.length) (hi':i<b.length),a[i].1=b[i].1/\Sub a[i].2 b[i].2:=by
 induction h with
 |nil=>exact ⟨rfl,fun i hi=>absurd hi (by simp)⟩
 |cons k h _ ih =>
  refine ⟨by simp [ih.1],fun i hi hi'=>?_⟩
  cases i with
  |zero=>exact ⟨rfl,h⟩
  |succ i=>exact ih.2 i (by simpa using hi) (by simpa using hi')
variable {w:World}{S:Nat->Prop}{g:Nat}{ps:List (AV×AV)}
theorem D4.sub {qs:List (AV×AV)}(h:D4 w S g ps)(hs:SubM ps qs):D4 w S g qs:=by
 obtain ⟨es,clock,h1,h2,hbn,h3⟩:=h
 obtain ⟨s1,s2⟩:=hs.at
 refine ⟨es,clock,h1,h2.trans s1,hbn,fun j q q'=>?_⟩
 have q0:j<ps.length:=by omega
 obtain ⟨e1,e2⟩:=s2 j q0 q'
 obtain ⟨r1,r2⟩:=h3 j q q0
 exact ⟨e1▸r1,r2.sub e2⟩
inductive Kv:Ent->Ent->Prop
 |refl (e:Ent):Kv e e
 |box (ty:Nat) {cs ds:List AV} (h:SubL cs ds):Kv (.box ty cs) (.box ty ds)
 |row (ty sz:Nat) {xs ys:List AV} (h:SubR xs ys):Kv (.row ty sz xs) (.row ty sz ys)
 |mp {ps qs:List (AV×AV)} (h:SubM ps qs):Kv (.mp ps) (.mp qs)
variable {γ:Gam}
theorem Kv.rep {B:Nat}{d:Option (Option Nat×Value)}{e e':Ent}(h:B6 w S γ B d e)(hs:Kv e e'):B6 w S γ B d e':=by
 cases hs with
 |refl=>exact h
 |mp hs =>
  obtain ⟨g,h1,h2⟩:=h
  exact ⟨g,h1,h2.sub hs⟩
 |box ty hs =>
  obtain ⟨g,vs,h1,h2,h3,h4,h5⟩:=h
  exact ⟨g,vs,h1,h2,by rw [h3,hs.len],fun i hi=>(h4 i (by rw [hs.len];exact hi)).sub (hs.at i _ hi),h5⟩
 |row ty sz hs =>
  obtain ⟨s,vs,h1,h2,h3,h4,h5,h6⟩:=h
  refine ⟨s,vs,h1,h2,by rw [<-hs.len];exact h3,fun k hk=>?_,fun k hk j hj=>?_,h6⟩
  ·have hk':=hk
   rw [<-hs.len] at hk'
   rw [<-(hs.at k hk' hk).len]
   exact h4 k hk'
  ·have hk':=hk
   rw [<-hs.len] at hk'
   have hc:=hs.at k hk' hk
   have hj':=hj
   rw [<-hc.len] at hj'
   exact (h5 k hk' j hj').sub (hc.at j hj' hj)
inductive Oj:List (Nat×Ent)->List (Nat×Ent)->Prop
 |nil:Oj [] []
 |cons (i:Nat) {e e':Ent} {r s:List (Nat×Ent)} (h:Kv e e') (hr:Oj r s):Oj ((i,e)::r) ((i,e')::s)
variable {r s:List (Nat×Ent)}
theorem Oj.lk (h:Oj r s)(i:Nat):(lkE r i=none/\lkE s i=none)\/∃ e e',lkE r i=some e/\lkE s i=some e'/\Kv e e':=by
 induction h with
 |nil=>exact aR ⟨rfl,rfl⟩
 |cons j h _ ih =>
  simp only [lkE]
  cases aG j i with
  |true=>exact aS ⟨_,_,rfl,rfl,h⟩
  |false=>exact ih
variable {τ:AS}{dst:Option Nat}{av:AV}
theorem St.subW {cx:Cx}{a:Act}(h:Oj r s)(k:St cx (τ.upd dst av r) a w):St cx (τ.upd dst av s) a w:=by
 obtain ⟨γ,k⟩:=k
 refine ⟨γ,fun t=>?_,fun i=>?_,k.inj,k.ge,k.below,k.size,k.defers,k.gh,k.fr,k.dr⟩
 ·have:=k.tm t
  rw [AS.get_upd] at this ⊢
  exact this
 ·have:=k.me i
  rw [AS.find_upd] at this ⊢
  rcases h.lk i with ⟨h1,h2⟩|⟨e,e',h1,h2,h3⟩
  ·rw [h1] at this;rw [h2];exact this
  ·rw [h1] at this
   rw [h2]
   obtain ⟨d,hd,he⟩:=this
   exact ⟨d,hd,h3.rep he⟩
theorem Ag.weak {cx:Cx}{o:Oper}{σ:AS}{ids:List Nat}(h:Oj r s)(k:Ag cx o σ av ids r):Ag cx o σ av ids s:=by
 refine ⟨fun id e he=>?_,fun τ h1 h2 a w Q K hst hK=>k.2 τ h1 h2 a w Q K hst (fun a' w' hst'=>hK a' w' (hst'.subW h))⟩
 rcases h.lk id with ⟨_,h2⟩|⟨e,e',h1,_,_⟩
 ·rw [h2] at he;cases he
 ·exact k.1 id e h1
def scA:AV->Bool
 |.agg _=>false
 |_=>true
def D1 (ie:TyI):AV:=match ie.shape.agg with
 |true=>.agg (ie.zero.cells.toList.map bQ)
 |false=>(ie.zero.cells.toList.map bQ).headD .any
def Kr (ie:TyI):Bool:=aG ie.zero.cells.size ie.sz && (ie.shape.agg || (aG ie.sz 1 && scA (D1 ie)))
variable {ie:TyI}
theorem z89 (h:Kr ie=true):(D1 ie).cells=ie.zero.cells.toList.map bQ/\ie.zero.cells.size=ie.sz:=by
 unfold Kr at h
 simp only [aC,Bool.or_eq_true] at h
 obtain ⟨h1,h2⟩:=h
 have h1:=aA h1
 refine ⟨?_,h1⟩
 unfold D1 at *
 cases ha:ie.shape.agg with
 |true=>rfl
 |false =>
  rw [ha] at h2
  simp only [aE,false_or] at h2
  have h3:=aA h2.1
  have h4:=h2.2
  generalize hz:ie.zero.cells.toList=z at *
  have hl:z.length=1:=by rw [<-hz];simp;omega
  match z,hl with
  |[x],_ =>
   simp only [bK,bJ,headD_cons] at h4 ⊢
   cases hx:bQ x<;>first|rfl|(rw [hx] at h4;simp [scA] at h4)
section
variable {cx:Cx} {σ:AS} {o:Oper}
theorem zlg {T d e esz eb:Nat}{x y:Operand}{i:TyI}{k k':IntKind}{n:Int}{m:Nat}(ho:o.op=.makeSlice T x y)(hdst:o.dst=some d)(hd:dok cx o=true)(hxo:A5 x=true)(hyo:A5 y=true)(hx:σ.eval x=.int k n)(hy:σ.eval y=.int k' n)
  (hT:lkT cx.E.tab T=some i) (hs:i.shape=.slc e esz eb) (he:lkT cx.E.tab e=some ie) (hz:esz≠0) (hzo:Kr ie=true) (hone:ie.zero.cells.all (·.oneCell')=true) (hn:σ.find d=none) (hm:n=(m:Int)) (h1:m<=1099511627776) (h2:ie.bytes*m<=281474976710656)
  (hdr0:cx.E.dr=false):Ag cx o σ (.row d) [d] [(d,.row e esz (bM m (D1 ie)))]:=by
 refine ⟨fun id e he=>?_,fun τ q1 q2 a w Q K ⟨γ,hst⟩ hK=>Bu (fun c hc=>by rw [ho] at hc;cases hc) ?_⟩
 ·simp only [lkE] at he
  cases hb:aG d id with
  |true=>simp [aA hb]
  |false=>rw [hb] at he;cases he
 have ex:=hst.ev x hxo
 rw [q1 x (by simp [ho,Op.operands]),hx] at ex
 have ey:=hst.ev y hyo
 rw [q1 y (by simp [ho,Op.operands]),hy] at ey
 obtain ⟨hu,hce,_⟩:=Ce (cx.E.ok T i hT) hs
 have hok:=cx.E.ok e ie he
 obtain ⟨info,hi,hi1,hi2,hi3⟩:=hok.both
 have hsz:ie.sz=esz:=hok.cells.symm.trans hce
 obtain ⟨hzc,hzs⟩:=z89 hzo
 subst hm
 obtain ⟨w',hrun,hown,hgr⟩:=run_make_full (P:=cx.P) w w.heap.size T e info ie.zero esz hu hi hi3 (hi1.trans hsz) k k' m (by rw [hi2];exact h2) (by unfold maxLen;omega) (aD _)
 unfold Oper.wp
 have hex:(execOp a.eval o).run cx.P w=.ok (.value (.slice (some ⟨w.heap.size,0,none⟩) m m)) w':=by
  simp only [execOp,ho,ex.int_inv,ey.int_inv,Sem.run_bind,hrun,Result.andThen_ok,Sem.run_pure]
 rw [hex]
 refine hK _ _ ?_
 rw [hdst]
 have hcl:(D1 ie).cells.length=esz:=by rw [hzc,length_map,bB,hzs,hsz]
 have hget:∀ q j,q<m->j<esz->(madeCells ie.zero.cells (m*esz)).toList.getD (q*esz+j) undef=ie.zero.cells.getD j undef:=fun q j hq hj=>by
  have hlt:q*esz+j<m*esz:=by
   have:(q+1)*esz<=m*esz:=aK _ hq
   rw [bN] at this
   omega
  have hmod:(q*esz+j) % ie.zero.cells.size=j:=by
   rw [hzs,hsz,Nat.mul_comm,Nat.mul_add_mod,Nat.mod_eq_of_lt hj]
  rw [aJ]
  have hj':j<ie.zero.cells.size:=by omega
  simp [madeCells,hlt,hmod,aM,hj']
 have hall:∀ v∈ie.zero.cells,v.oneCell'=true:=by
  rw [Array.all_eq_true_iff_forall_mem] at hone
  exact hone
 refine V6 (v:=.slice (some ⟨w.heap.size,0,none⟩) m m) (us:=(madeCells ie.zero.cells (m*esz)).toList) hst (fun h=>absurd (hdr0.symm.trans h) (by simp)) (by rw [q2 d (by simp),hn]) (fun x hx=>by injection hx with hx;subst hx;exact Bm hd _ hdst) ((Below.refl _ _).grown hgr (aD _) (fun k h=>by cases h))
  (by rw [length_replicate];exact hown) (fun q hq=>by rw [aQ];exact hcl) (fun q hq j hj=>?_) (fun u hu=>?_)
  (fun hS=>.row (Gam.set_self _ _ _) (fun g s e _=>by injection e with e;injection e with _ e))
 ·have hq':q<m:=by simpa using hq
  rw [aQ] at hj
  have hj':j<esz:=by omega
  rw [hget q j hq' hj']
  simp only [aQ,hzc,aX]
  have hj2:j<ie.zero.cells.size:=by omega
  have:ie.zero.cells.getD j undef=ie.zero.cells[j]:=by simp [aM,hj2]
  rw [this]
  simpa using O3 _ _ _ (ie.zero.cells[j])
 ·obtain ⟨q,hq,rfl⟩:=mem_iff_getElem.1 hu
  have hq':q<m*esz:=by simpa [size_madeCells] using hq
  have hpos:0<ie.zero.cells.size:=by omega
  have hmod:=Nat.mod_lt q hpos
  simp only [madeCells,Array.toList_map,aX,Array.getElem_toList,Array.getElem_range]
  rw [getElem!_pos ie.zero.cells _ hmod]
  exact hall _ (Array.getElem_mem _)
end
inductive FK
 |int
 |bool
 |str
 |no
def fkA:AV->FK
 |.int _ _=>.int
 |.bool _=>.bool
 |.str _=>.str
 |_=>.no
def fkT:FK->Option TypeDesc->Bool
 |.int,some (.int _)=>true
 |.bool,some .bool=>true
 |.str,some .string=>true
 |_,_=>false
def eq1:AV->AV->Option Bool
 |.int k a,.int k' b=>match decide (k=k') with
  |true=>some (decide (a=b))
  |false=>none
 |.bool a,.bool b=>some (a == b)
 |.str a,.str b=>some (a.toList == b.toList)
 |_,_=>none
def eqL:List AV->List AV->Option Bool
 |[],[]=>some true
 |a::r,b::s=>match eq1 a b,eqL r s with
  |some c,some c'=>some (c && c')
  |_,_=>none
 |_,_=>none
def D0 (P:Program):Nat->List AV->List Field->Bool
 |_,[],[]=>true
 | n, a :: cs, f :: r => decide (f.name ≠ "_") && (aG f.offset n && (fkT (fkA a) (P.underlying f.type) && D0 P (n + 1) cs r))
 |_,_,_=>false
def S6 (P:Program)(t:TypeId)(cs:List AV):Option Nat:=match P.underlying t,P.info? t with
 |some (.struct gs),some i=>if (aG i.size gs.size && (!P.stoodInHeld t && (Nat.ble gs.size cs.length && D0 P 0 (cs.take gs.size) gs.toList)))=true then some gs.size else none
 |_,_=>none
def hdB (P:Program)(t:TypeId)(k:List AV->Bool):List AV->Bool
 |a::cs=>fkT (fkA a) (P.underlying t) && k cs
 |[]=>false
def Oa (P:Program):Nat->List AV->List Field->Bool
 |_,[],[]=>true
 |_,_::_,[]=>false
 | n, cs, f :: r => decide (f.name ≠ "_") && (aG f.offset n && (match S6 P f.type cs with
    |some k=>Oa P (n+k) (cs.drop k) r
    |none=>hdB P f.type (fun cs=>Oa P (n+1) cs r) cs))
def Yu (P:Program)(t:TypeId)(cs:List AV):Bool:=!P.stoodInHeld t && (!P.eqGuardType P.depth t && (match P.underlying t with|some (.struct fs)=>Oa P 0 cs fs.toList|_=>false))
section
variable {P:Program} {w0:World} {S:Nat->Prop} {γ:Gam}
variable {t:TypeId}
theorem Rw {a:AV}(h:fkT (fkA a) (P.underlying t)=true):∃ d,P.underlying t=some d/\((∃ k n k',a=.int k n/\d=.int k')\/(∃ b,a=.bool b/\d=.bool)\/∃ s,a=.str s/\d=.string):=by
 cases hu:P.underlying t with
 |none=>rw [hu] at h;cases ha:fkA a<;>rw [ha] at h<;>cases h
 |some d =>
  rw [hu] at h
  refine ⟨d,rfl,?_⟩
  cases a<;>simp only [fkA] at h<;>cases d<;>simp [fkT] at h<;>simp
variable {xs:Array Value}
theorem X2 {a:AV}{off:Nat}(ht:fkT (fkA a) (P.underlying t)=true)(h:off<xs.size):(part t xs off).run P w=.ok (xs.getD off undef) w:=by
 have hx:xs[off]? = some (xs.getD off undef):=by simp [aM,h]
 generalize xs.getD off undef=v at *
 obtain ⟨d,hu,hd⟩:=Rw ht
 rcases hd with ⟨_,_,_,_,rfl⟩|⟨_,_,rfl⟩|⟨_,_,rfl⟩<;>simp [part,isAgg,run_underlying hu,hx]
theorem V7 (d:Nat){a b:AV}{va vb:Value}{c:Bool}(ht:fkT (fkA a) (P.underlying t)=true)(he:eq1 a b=some c)(ha:Rep w0 S γ a va)(hb:Rep w0 S γ b vb):(Op.equalIn (d+1) t va vb).run P w=.ok c w:=by
 obtain ⟨dd,hu,hd⟩:=Rw ht
 rcases hd with ⟨k,n,k',rfl,rfl⟩|⟨x,rfl,rfl⟩|⟨x,rfl,rfl⟩
 ·cases b<;>simp only [eq1,reduceCtorEq] at he
  split at he
  ·rename_i hk
   injection he with he
   have hk:=of_decide_eq_true hk
   subst hk
   rw [ha.int_inv,hb.int_inv,run_equalIn_int w d t _ k' _ _ hu,<-he]
   rfl
  ·cases he
 ·cases b<;>simp only [eq1,reduceCtorEq] at he
  injection he with he
  rw [ha.bool_inv,hb.bool_inv,run_equalIn_bool' w d t _ _ hu,<-he]
 ·cases b<;>simp only [eq1,reduceCtorEq] at he
  injection he with he
  rw [ha.str_inv,hb.str_inv,run_equalIn_string w d t _ _ hu,<-he]
theorem z6w {w:World}(d:Nat)(xs ys:Array Value):∀ (fs:List Field) (cs ds:List AV) (n:Nat) (c:Bool),D0 P n cs fs=true->eqL cs ds=some c->n+cs.length<=xs.size->n+ds.length<=ys.size ->
  (∀ i (hi:i<cs.length),Rep w0 S γ cs[i] (xs.getD (n+i) undef))->(∀ i (hi:i<ds.length),Rep w0 S γ ds[i] (ys.getD (n+i) undef))->(Op.eqFields (d+1) xs ys fs).run P w=.ok c w
 |[],[],ds,n,c,_,he,_,_,_,_=>by
  cases ds with
  |nil=>simp only [eqL,aB] at he;subst he;simp [Op.eqFields]
  |cons=>simp [eqL] at he
 |f::fs,[],ds,n,c,hf,_,_,_,_,_=>by simp [D0] at hf
 |[],a::cs,ds,n,c,hf,_,_,_,_,_=>by simp [D0] at hf
 |f::fs,a::cs,[],n,c,hf,he,_,_,_,_=>by simp [eqL] at he
 |f::fs,a::cs,b::ds,n,c,hf,he,h3,h4,hx,hy=>by
  simp only [D0,aC,decide_eq_true_eq] at hf
  obtain ⟨f1,f2,f3,f4⟩:=hf
  have f2:=aA f2
  simp only [bH] at h3 h4
  have ha:Rep w0 S γ a (xs.getD n undef):=hx 0 (by simp)
  have hb:Rep w0 S γ b (ys.getD n undef):=hy 0 (by simp)
  unfold eqL at he
  split at he
  ·rename_i r c' hr hc
   injection he with he
   have ih:=z6w (w:=w) d xs ys fs cs ds (n+1) c' f4 hc (by omega) (by omega)
    (fun i hi=>by have:=hx (i+1) (by simpa using hi);rw [show n+1+i=n+(i+1) by omega];simpa using this)
    (fun i hi=>by have:=hy (i+1) (by simpa using hi);rw [show n+1+i=n+(i+1) by omega];simpa using this)
   have hp : f.name ≠ "_" := by simpa using f1
   have fb:(part f.type ys n).run P w=.ok (ys.getD n undef) w:=by
    obtain ⟨dd,hu,hd⟩:=Rw f3
    have hy':ys[n]? = some (ys.getD n undef):=by simp [aM,show n<ys.size by omega]
    generalize ys.getD n undef=v at *
    rcases hd with ⟨_,_,_,_,rfl⟩|⟨_,_,rfl⟩|⟨_,_,rfl⟩<;>simp [part,isAgg,run_underlying hu,hy']
   unfold Op.eqFields
   rw [if_pos hp,f2]
   rw [Sem.run_bind,X2 f3 (show n<xs.size by omega),Result.andThen_ok,Sem.run_bind,fb,Result.andThen_ok,Sem.run_bind,V7 d f3 hr ha hb,Result.andThen_ok]
   subst he
   cases r
   ·rfl
   ·simpa using ih
  ·cases he
theorem zjg:∀ (k:Nat) {cs ds:List AV} {c:Bool},eqL cs ds=some c->k<=cs.length->∃ c1 c2,eqL (cs.take k) (ds.take k)=some c1/\eqL (cs.drop k) (ds.drop k)=some c2/\c=(c1 && c2)/\k<=ds.length
 |0,cs,ds,c,h,_=>⟨true,c,by simp [eqL],by simpa using h,by simp,Nat.zero_le _⟩
 |k+1,[],ds,c,h,hk=>by simp at hk
 |k+1,a::cs,[],c,h,hk=>by simp [eqL] at h
 |k+1,a::cs,b::ds,c,h,hk=>by
  unfold eqL at h
  split at h
  ·rename_i r c' hr hc
   injection h with h
   obtain ⟨c1,c2,e1,e2,e3,e4⟩:=zjg k hc (by simpa using hk)
   refine ⟨r && c1,c2,?_,by simpa using e2,by rw [<-h,e3,Bool.and_assoc],by simpa using e4⟩
   simp only [take_succ_cons]
   unfold eqL
   rw [hr,e1]
  ·cases h
theorem zxf (d:Nat){ys:Array Value}{n k:Nat}{cs ds:List AV}{c:Bool}(hk:S6 P t cs=some k)(he:eqL (cs.take k) (ds.take k)=some c)(h3:n+k<=xs.size)(h4:n+k<=ys.size)(hkc:k<=cs.length)(hkd:k<=ds.length)
  (hx:∀ i (hi:i<cs.length),Rep w0 S γ cs[i] (xs.getD (n+i) undef)) (hy:∀ i (hi:i<ds.length),Rep w0 S γ ds[i] (ys.getD (n+i) undef)) :
  (part t xs n).run P w=.ok (.agg (xs.extract n (n+k))) w/\(part t ys n).run P w=.ok (.agg (ys.extract n (n+k))) w/\(Op.equalIn (d+2) t (.agg (xs.extract n (n+k))) (.agg (ys.extract n (n+k)))).run P w=.ok c w:=by
 unfold S6 at hk
 split at hk
 rotate_left
 ·cases hk
 rename_i gs i hu hi
 split at hk
 rotate_left
 ·cases hk
 rename_i hb
 injection hk with hk
 subst hk
 simp only [aC,aO] at hb
 obtain ⟨b1,b2,b3,b4⟩:=hb
 have b1:=aA b1
 have hsz:(sizeOf t).run P w=.ok gs.size w:=by simp [sizeOf,typeInfo,hi,b1]
 have hag:(isAgg t).run P w=.ok true w:=by simp [isAgg,run_underlying hu]
 have hp:∀ zs:Array Value,(part t zs n).run P w=.ok (.agg (zs.extract n (n+gs.size))) w:=fun zs=>by
  unfold part
  rw [Sem.run_bind,hag,Result.andThen_ok,if_pos rfl,Sem.run_bind,hsz,Result.andThen_ok]
  rfl
 have hfs:P.fieldsOf t=gs:=by simp [Program.fieldsOf,hu]
 refine ⟨hp xs,hp ys,?_⟩
 rw [show d+2=(d+1)+1 from rfl,run_equalIn_agg w (d+1) t _ _ (by rw [hfs];exact hu) b2,hfs]
 have gd:∀ (zs:Array Value),n+gs.size<=zs.size->∀ i,i<gs.size->(zs.extract n (n+gs.size)).getD (0+i) undef=zs.getD (n+i) undef:=fun zs hz i hi=>by
  rw [aL,aL,Array.getElem?_extract,Nat.zero_add]
  rw [if_pos (by omega)]
 refine z6w (w0:=w0) (S:=S) (γ:=γ) d _ _ gs.toList (cs.take gs.size) (ds.take gs.size) 0 c b4 he (by simp;omega) (by simp;omega) (fun i hi=>?_) (fun i hi=>?_)
 ·rw [aY] at hi
  rw [gd xs h3 i (by omega),aV]
  exact hx i (by omega)
 ·rw [aY] at hi
  rw [gd ys h4 i (by omega),aV]
  exact hy i (by omega)
theorem Zt {w:World}(d:Nat)(xs ys:Array Value):∀ (fs:List Field) (cs ds:List AV) (n:Nat) (c:Bool),Oa P n cs fs=true->eqL cs ds=some c->n+cs.length<=xs.size->n+ds.length<=ys.size ->
  (∀ i (hi:i<cs.length),Rep w0 S γ cs[i] (xs.getD (n+i) undef))->(∀ i (hi:i<ds.length),Rep w0 S γ ds[i] (ys.getD (n+i) undef))->(Op.eqFields (d+2) xs ys fs).run P w=.ok c w
 |[],cs,ds,n,c,hf,he,_,_,_,_=>by
  cases cs with
  |cons a cs=>simp [Oa] at hf
  |nil =>
   cases ds with
   |nil=>simp only [eqL,aB] at he;subst he;simp [Op.eqFields]
   |cons=>simp [eqL] at he
 |f::fs,cs,ds,n,c,hf,he,h3,h4,hx,hy=>by
  have hf : (decide (f.name ≠ "_") && (aG f.offset n && (match S6 P f.type cs with
   |some k=>Oa P (n+k) (cs.drop k) fs
   |none=>hdB P f.type (fun cs=>Oa P (n+1) cs fs) cs)))=true:=by
   cases cs<;>exact hf
  simp only [aC,decide_eq_true_eq] at hf
  obtain ⟨f1,f2,f3⟩:=hf
  have f2:=aA f2
  have hp : f.name ≠ "_" := by simpa using f1
  cases hk:S6 P f.type cs with
  |some k =>
   rw [hk] at f3
   simp only at f3
   have hkc:k<=cs.length:=by
    have:=hk
    unfold S6 at this
    split at this
    ·split at this
     ·rename_i hb
      injection this with this
      subst this
      simp only [aC] at hb
      exact Nat.le_of_ble_eq_true hb.2.2.1
     ·cases this
    ·cases this
   obtain ⟨c1,c2,e1,e2,e3,hkd⟩:=zjg k he hkc
   obtain ⟨r1,r2,r3⟩:=zxf (w0:=w0) (w:=w) d (n:=n) hk e1 (by omega) (by omega) hkc hkd hx hy
   have ih:=Zt (w:=w) d xs ys fs (cs.drop k) (ds.drop k) (n+k) c2 f3 e2 (by rw [aZ];omega) (by rw [aZ];omega)
    (fun i hi=>by rw [aZ] at hi;rw [getElem_drop,bL];exact hx (k+i) (by omega))
    (fun i hi=>by rw [aZ] at hi;rw [getElem_drop,bL];exact hy (k+i) (by omega))
   unfold Op.eqFields
   rw [if_pos hp,f2]
   rw [Sem.run_bind,r1,Result.andThen_ok,Sem.run_bind,r2,Result.andThen_ok,Sem.run_bind,r3,Result.andThen_ok]
   subst e3
   cases c1
   ·rfl
   ·simpa using ih
  |none =>
   rw [hk] at f3
   cases cs with
   |nil=>cases f3
   |cons a cs =>
    simp only [hdB,aC] at f3
    obtain ⟨f3,f4⟩:=f3
    cases ds with
    |nil=>simp [eqL] at he
    |cons b ds =>
     simp only [bH] at h3 h4
     have ha:Rep w0 S γ a (xs.getD n undef):=hx 0 (by simp)
     have hb:Rep w0 S γ b (ys.getD n undef):=hy 0 (by simp)
     unfold eqL at he
     split at he
     ·rename_i r c' hr hc
      injection he with he
      have ih:=Zt (w:=w) d xs ys fs cs ds (n+1) c' f4 hc (by omega) (by omega)
       (fun i hi=>by have:=hx (i+1) (by simpa using hi);rw [show n+1+i=n+(i+1) by omega];simpa using this)
       (fun i hi=>by have:=hy (i+1) (by simpa using hi);rw [show n+1+i=n+(i+1) by omega];simpa using this)
      unfold Op.eqFields
      rw [if_pos hp,f2]
      rw [Sem.run_bind,X2 f3 (show n<xs.size by omega),Result.andThen_ok,Sem.run_bind,X2 f3 (show n<ys.size by omega),Result.andThen_ok,Sem.run_bind,V7 (d+1) f3 hr ha hb,Result.andThen_ok]
      subst he
      cases r
      ·rfl
      ·simpa using ih
     ·cases he
end
section
variable {cx:Cx} {σ:AS} {o:Oper}
theorem zz3 {op:BinOp}{x y:Operand}{t t2:TypeId}{cs ds:List AV}{c:Bool}(hop:op=.eql\/op=.neq)(ho:o.op=.binOp op t x y t2)(hd:dok cx o=true)(hxo:A5 x=true)(hyo:A5 y=true)(hx:σ.eval x=.agg cs)(hy:σ.eval y=.agg ds)
  (hf:Yu cx.P t cs=true) (hc:eqL cs ds=some c):Ag cx o σ (.bool (match op with|.eql=>c|_=>!c)) [] [] :=
 Ay hd fun τ γ ac w h1 _ hst=>by
  have e1:=hst.ev x hxo
  rw [h1 x (by simp [ho,Op.operands]),hx] at e1
  have e2:=hst.ev y hyo
  rw [h1 y (by simp [ho,Op.operands]),hy] at e2
  obtain ⟨vs,ev,hl,hr,_⟩:=e1.agg_inv
  obtain ⟨us,eu,hl',hr',_⟩:=e2.agg_inv
  unfold Yu at hf
  simp only [aC,aO] at hf
  obtain ⟨g1,g2,g3⟩:=hf
  cases hu:cx.P.underlying t with
  |none=>rw [hu] at g3;cases g3
  |some dd =>
   rw [hu] at g3
   cases dd<;>simp only [aE] at g3
   rename_i fs
   have hfs:cx.P.fieldsOf t=fs:=by simp [Program.fieldsOf,hu]
   have hrun:(Op.equalIn 10000 t (.agg vs) (.agg us)).run cx.P w=.ok c w:=by
    rw [show (10000:Nat)=9999+1 from rfl,run_equalIn_agg w 9999 t vs us (by rw [hfs];exact hu) g1,hfs]
    exact Zt (w0:=w) 9997 vs us fs.toList cs ds 0 c g3 hc (by omega) (by omega) (fun i hi=>by simpa using hr i hi) (fun i hi=>by simpa using hr' i hi)
   rcases hop with rfl|rfl
   ·refine ⟨.bool c,?_,.bool _⟩
    simp only [execOp,ho,ev,eu,Sem.run_bind,run_eqGuard_agg (hm:=g2),Result.andThen_ok,run_eql_struct,hrun,Sem.run_pure]
   ·refine ⟨.bool (!c),?_,.bool _⟩
    simp only [execOp,ho,ev,eu,Sem.run_bind,run_eqGuard_agg (hm:=g2),Result.andThen_ok,run_neq_struct,hrun,Sem.run_pure]
def binS:BinOp->ByteArray->ByteArray->Option Bool
 |.eql,a,b=>some (a.toList == b.toList)
 |.neq,a,b=>some (!(a.toList == b.toList))
 |.lss,a,b=>some (Op.bytesLess a.toList b.toList)
 |.leq,a,b=>some (Op.bytesLess a.toList b.toList || a.toList == b.toList)
 |.gtr,a,b=>some (!(Op.bytesLess a.toList b.toList || a.toList == b.toList))
 |.geq,a,b=>some (!Op.bytesLess a.toList b.toList)
 |_,_,_=>none
theorem zz6 {op:BinOp}{x y:Operand}{t t2:TypeId}{a b:ByteArray}{c:Bool}(ho:o.op=.binOp op t x y t2)(hd:dok cx o=true)(hxo:A5 x=true)(hyo:A5 y=true)(hx:σ.eval x=.str a)(hy:σ.eval y=.str b)(hc:binS op a b=some c):Ag cx o σ (.bool c) [] [] :=
 Ay hd fun τ γ ac w h1 _ hst=>by
  have e1:=hst.ev x hxo
  rw [h1 x (by simp [ho,Op.operands]),hx] at e1
  have e2:=hst.ev y hyo
  rw [h1 y (by simp [ho,Op.operands]),hy] at e2
  refine ⟨.bool c,?_,.bool _⟩
  cases op<;>simp only [binS,aB,reduceCtorEq] at hc<;>subst hc<;>simp [execOp,ho,e1.str_inv,e2.str_inv,eqGuard,binOp,Op.stringOp,pure]
end
section
variable {cx:Cx} {σ:AS} {o:Oper}
def shI:BinOp->IntKind->Int->Int->Option AV
 |.shl,k,a,b=>some (.int k (k.wrap (a*2 ^ min b.toNat k.bits)))
 |.shr,k,a,b=>some (.int k (a.fdiv (2 ^ min b.toNat k.bits)))
 |_,_,_,_=>none
def bitI:BinOp->IntKind->Int->Int->Option AV
 |.and,k,a,b=>some (.int k (k.wrap ((BitVec.ofInt k.bits a &&& BitVec.ofInt k.bits b).toNat:Int)))
 |.or,k,a,b=>some (.int k (k.wrap ((BitVec.ofInt k.bits a ||| BitVec.ofInt k.bits b).toNat:Int)))
 |.xor,k,a,b=>some (.int k (k.wrap ((BitVec.ofInt k.bits a ^^^ BitVec.ofInt k.bits b).toNat:Int)))
 |.andNot,k,a,b=>some (.int k (k.wrap ((BitVec.ofInt k.bits a &&& ~~~(BitVec.ofInt k.bits b)).toNat:Int)))
 |_,_,_,_=>none
theorem y0p {op:BinOp}{x y:Operand}{t t2:TypeId}{k k':IntKind}{a b:Int}(ho:o.op=.binOp op t x y t2)(hd:dok cx o=true)(hxo:A5 x=true)(hyo:A5 y=true)(hx:σ.eval x=.int k a)(hy:σ.eval y=.int k' b)(hb:0<=b)(hc:shI op k a b=some av):Ag cx o σ av [] [] :=
 Ay hd fun τ γ ac w h1 _ hst=>by
  have e1:=hst.ev x hxo
  rw [h1 x (by simp [ho,Op.operands]),hx] at e1
  have e2:=hst.ev y hyo
  rw [h1 y (by simp [ho,Op.operands]),hy] at e2
  have hb':¬b<0:=by omega
  cases op<;>simp only [shI,aB,reduceCtorEq] at hc<;>subst hc
  all_goals
   refine ⟨_,?_,.int _ _⟩
   simp [execOp,ho,e1.int_inv,e2.int_inv,eqGuard,binOp,Op.shift,hb',pure]
theorem zz5 {op:BinOp}{x y:Operand}{t t2:TypeId}{k:IntKind}{a b:Int}(ho:o.op=.binOp op t x y t2)(hd:dok cx o=true)(hxo:A5 x=true)(hyo:A5 y=true)(hx:σ.eval x=.int k a)(hy:σ.eval y=.int k b)(hc:bitI op k a b=some av):Ag cx o σ av [] [] :=
 Ay hd fun τ γ ac w h1 _ hst=>by
  have e1:=hst.ev x hxo
  rw [h1 x (by simp [ho,Op.operands]),hx] at e1
  have e2:=hst.ev y hyo
  rw [h1 y (by simp [ho,Op.operands]),hy] at e2
  cases op<;>simp only [bitI,aB,reduceCtorEq] at hc<;>subst hc
  all_goals
   refine ⟨_,?_,.int _ _⟩
   simp only [execOp,ho,e1.int_inv,e2.int_inv,eqGuard,binOp,Op.intBits,Sem.run_bind,Sem.run_pure,Result.andThen_ok,pure,ne_eq,not_true_eq_false,if_false]
   rfl
end
variable {v:Value}
theorem Rep.renF {γ':Gam}{ids:List Nat}{ρ:Nat->Nat}(hγ:∀ id,id∈ids->γ' (ρ id)=γ id)(h:Rep w S γ av v)(hi:av.inM ids=true):Rep w S γ' (av.ren ρ) v:=by
 induction h with
 |any=>exact .any _
 |int=>exact .int _ _
 |bool=>exact .bool _
 |str=>exact .str _
 |nilp=>exact .nilp
 |nils=>exact .nils
 |nilf=>exact .nilf
 |ptr h hv=>exact .ptr ((hγ _ ((Dc _ _).1 hi)).trans h) hv
 |elt h hv=>exact .elt ((hγ _ ((Dc _ _).1 hi)).trans h) hv
 |der h hv=>exact .der ((hγ _ ((Dc _ _).1 hi)).trans h) hv
 |cont h hv hl=>exact .cont ((hγ _ ((Dc _ _).1 hi)).trans h) hv hl
 |mapv ps0 hp g es clock hb hS hg hh hl hk hv ih1 ih2=>exact .mapv ps0 hp g es clock hb hS hg hh hl hk hv
 |mapn=>exact .mapn
 |slen A n c=>exact .slen A n c
 |row h hv=>exact .row ((hγ _ ((Dc _ _).1 hi)).trans h) hv
 |sl A c cell hc hlen hb hr h1 ih=>exact .sl A c cell hc hlen hb hr h1
 |ref b off cell hS hb hc hr h1 ih=>exact .ref b off cell hS hb hc hr h1
 |fn vs hl hr ih =>
  simp only [bR] at hi
  exact .fn vs (by rw [hl,aF]) (fun i hi'=>by
   have hi2:=hi'
   rw [aF] at hi2
   rw [aT ρ _ i hi2]
   exact ih i hi2 hγ (aU hi i hi2))
 |yld hr ih =>
  simp only [bR] at hi
  exact .yld (fun i hi'=>by
   have hi2:=hi'
   rw [aF] at hi2
   rw [aT ρ _ i hi2]
   exact ih i hi2 hγ (aU hi i hi2))
 |agg vs hl hr h1 ih =>
  simp only [bR] at hi
  exact .agg vs (by rw [hl,aF]) (fun i hi'=>by
   have hi2:=hi'
   rw [aF] at hi2
   rw [aT ρ _ i hi2]
   exact ih i hi2 hγ (aU hi i hi2)) h1
 |tup vs hl hr ih =>
  simp only [bR] at hi
  exact .tup vs (by rw [hl,aF]) (fun i hi'=>by
   have hi2:=hi'
   rw [aF] at hi2
   rw [aT ρ _ i hi2]
   exact ih i hi2 hγ (aU hi i hi2))
def ConT (E:Env)(f:FuncId)(args:List AV)(ty sz:Nat)(xs:List AV)(res:AV):Prop :=
 C6 E f/\res.inM [0]=true/\∀ (S:Nat->Prop) (w:World) (vs:Array Value),Args w S args vs->Calls E.P f vs w fun e w'=>∃ u v us,e=.returned u/\Below w.heap.size w w'/\w'.ownsRow w.heap.size ty sz v xs.length us /\
  (∀ k (hk:k<xs.length),(xs[k]).cells.length=sz)/\(∀ k (hk:k<xs.length) j (hj:j<(xs[k]).cells.length),Rep w' (fun b=>(S b\/w.heap.size<=b)/\v.ownBlock≠some b) G0 ((xs[k]).cells[j]) (us.getD (k*sz+j) undef))/\(∀ u∈us,u.oneCell'=true) /\
  ∀ γ':Gam,γ' 0=some (some (v.ownBlock,v))->Rep w' (fun b=>(S b\/w.heap.size<=b)/\v.ownBlock≠some b) γ' res u
variable {xs:List AV}{ty sz:Nat}
theorem ConT.ofRow {E:Env}{f:FuncId}{args:List AV}(h:Fu E f args ty sz xs):ConT E f args ty sz xs (.row 0) :=
 ⟨h.1,rfl,fun S w vs ha=>(h.2 S w vs ha).mono fun e w' ⟨v,us,h1,h2,h3,h4,h5,h6⟩=>⟨v,v,us,h1,h2,h3,h4,h5,h6,fun γ' hγ=>.row hγ (fun g s e _=>by injection e with e;injection e with _ e)⟩⟩
section
variable {cx:Cx} {σ:AS} {o:Oper}
theorem zlp {x:Operand}{args:Array Operand}{tys:Array TypeId}{f d:Nat}{cap avs:List AV}{res:AV}(ho:o.op=.call { callee:=.value x,args:=args,argTypes:=tys })(hdst:o.dst=some d)(hd:dok cx o=true)(hxo:A5 x=true)(hok:args.toList.all A5=true)(hx:σ.eval x=.fn f cap)
  (ha:Bw σ args cap=avs) (hcl:AV.closedL avs=true) (hn:σ.find d=none) (hc:ConT cx.E f avs ty sz xs res) (hdr0:cx.E.dr=false):Ag cx o σ (res.ren fun _=>d) [d] [(d,.row ty sz xs)]:=by
 refine ⟨fun id e he=>?_,fun τ h1 h2 a w Q K ⟨γ,hst⟩ hK=>Bu (fun c hc=>by rw [ho] at hc;cases hc) ?_⟩
 ·simp only [lkE] at he
  cases hb:aG d id with
  |true=>simp [aA hb]
  |false=>rw [hb] at he;cases he
 have hop:o.op.operands=#[x]++args:=by simp [ho,Op.operands,Call.operands]
 obtain ⟨caps,hcx,hl,hr⟩:=O0 hst hok hxo (fun y hy=>h1 y (by rw [hop];simp at hy ⊢;exact aS hy)) (h1 x (by rw [hop];simp)) hx
 subst ha
 unfold Oper.wp
 rw [Nx ho hcx hc.1]
 show Calls _ _ _ _ _
 refine (hc.2.2 (Sg cx.S0 cx.w0.heap.size γ) w _ ⟨hl,fun i hi=>(hr i hi).close (AV.closedL_at hcl i hi)⟩).mono ?_
 rintro e w' ⟨u,v,us,rfl,hb,hown,hlen,hre,hone,hu⟩
 refine hK _ _ ?_
 rw [hdst]
 refine V6 (v:=v) (us:=us) hst (fun h=>absurd (hdr0.symm.trans h) (by simp)) (by rw [h2 d (by simp),hn]) (fun x hx=>by injection hx with hx;subst hx;exact Bm hd _ hdst) hb hown hlen hre hone (fun hS=>?_)
 have h0:=hu (fun _=>some (some (v.ownBlock,v))) rfl
 refine (h0.renF (γ':=γ.set d (some (v.ownBlock,v))) (ids:=[0]) (fun id _=>Gam.set_self _ _ _) hc.2.1).mono (aD _) (fun b hb _=>⟨rfl,hS b hb⟩)
end
def ConC (inp:Bool)(E:Env)(f:FuncId)(args:List AV)(ty sz:Nat)(xs:List AV)(ty' sz':Nat)(xs':List AV)(res:AV):Prop :=
 C6 E f/\res.inM [0]=true/\∀ (S:Nat->Prop) (w0 w:World) (vs:Array Value) (v:Value) (us:List Value),Below w0.heap.size w0 w->w.ownsRow w0.heap.size ty sz v xs.length us->(∀ k (hk:k<xs.length),(xs[k]).cells.length=sz) ->
  (∀ k (hk:k<xs.length) j (hj:j<(xs[k]).cells.length),Rep w S G0 ((xs[k]).cells[j]) (us.getD (k*sz+j) undef))->(∀ u∈us,u.oneCell'=true)->(∀ b,v.ownBlock=some b->¬S b)->vs.size=args.length ->
  (∀ γ:Gam,γ 0=some (some (v.ownBlock,v))->∀ i (hi:i<args.length),Rep w S γ args[i] (vs.getD i undef)) ->
  Calls E.P f vs w fun e w'=>∃ u v' us',e=.returned u/\w.grownBy w' v.ownBlock/\w'.ownsRow w0.heap.size ty' sz' v' xs'.length us'/\(inp=true->v'=v)/\(∀ b,v'.ownBlock=some b->v.ownBlock=some b\/w.heap.size<=b)/\(∀ k (hk:k<xs'.length),(xs'[k]).cells.length=sz') /\
   (∀ k (hk:k<xs'.length) j (hj:j<(xs'[k]).cells.length),Rep w' (fun b=>(S b\/w.heap.size<=b)/\v'.ownBlock≠some b) G0 ((xs'[k]).cells[j]) (us'.getD (k*sz' + j) undef))/\(∀ u∈us',u.oneCell'=true) /\
   ∀ γ':Gam,γ' 0=some (some (v'.ownBlock,v'))->Rep w' (fun b=>(S b\/w.heap.size<=b)/\v'.ownBlock≠some b) γ' res u
section
variable {cx:Cx} {σ:AS} {o:Oper}
theorem zfj {base e n:Nat}{vs:List Value}(h:w.ownsRow base e sz v n vs)(b:Nat)(hb:v.ownBlock=some b):base<=b/\b<w.heap.size:=by
 rcases h.2 with ⟨hv,_⟩|⟨g,cap,cur,hv,hbg,hh,_⟩
 ·rw [hv] at hb;simp [Value.ownBlock] at hb
 ·rw [hv] at hb;simp only [Value.ownBlock,aB] at hb;subst hb
  exact ⟨hbg,(Array.getElem?_eq_some_iff.1 hh).1⟩
variable {id ty' sz':Nat}{xs':List AV}{us':List Value}
theorem zqd {a:Act}{w':World}{d:Nat}{v' u:Value}(hst:StG cx γ τ a w)(hdr:cx.E.dr=true->w.drawn<=w'.drawn)(hid:γ id=some (some (v.ownBlock,v)))(hγd:γ d=none)(hne:id≠d)(hd:∀ x,dst=some x->cx.E.np<=x/\x<cx.nt)(hg:w.grownBy w' v.ownBlock)
  (hown:w'.ownsRow cx.w0.heap.size ty' sz' v' xs'.length us') (hvb:∀ b,v'.ownBlock=some b->v.ownBlock=some b\/w.heap.size<=b) (hlen:∀ k (hk:k<xs'.length),(xs'[k]).cells.length=sz')
  (hre:∀ k (hk:k<xs'.length) j (hj:j<(xs'[k]).cells.length),Rep w' (fun b=>(Sg cx.S0 cx.w0.heap.size γ b\/w.heap.size<=b)/\v'.ownBlock≠some b) G0 ((xs'[k]).cells[j]) (us'.getD (k*sz' + j) undef)) (hone:∀ u∈us',u.oneCell'=true)
  (hu:∀ γ':Gam,γ' d=some (some (v'.ownBlock,v'))->Rep w' (fun b=>(Sg cx.S0 cx.w0.heap.size γ b\/w.heap.size<=b)/\v'.ownBlock≠some b) γ' av u):St cx (τ.upd dst av [(d,.row ty' sz' xs'),(id,.dead)]) (a.put dst u) w':=by
 have hsz:=hst.below.size
 let γ':Gam:=fun i=>if d=i then some (some (v'.ownBlock,v')) else if id=i then some none else γ i
 have hγ'd:γ' d=some (some (v'.ownBlock,v')):=if_pos rfl
 have hγ'o:∀ i,d≠i->id≠i->γ' i=γ i:=fun i h1 h2=>by show (if d=i then _ else if id=i then _ else γ i)=γ i;rw [if_neg h1,if_neg h2]
 have hγ'x:γ' id=some none:=by show (if d=id then _ else if id=id then _ else γ id)=some none;rw [if_neg (Ne.symm hne),if_pos rfl]
 have hown':∀ b,own γ' b->v'.ownBlock=some b\/own γ b:=fun b ⟨i,s,hi,hm⟩=>by
  by_cases h:d=i
  ·subst h;rw [hγ'd] at hi;injection hi with hi;subst hi;exact aR (Fq (Fp (Db hown)) hm)
  ·by_cases h':id=i
   ·subst h';rw [hγ'x] at hi;injection hi with hi;subst hi;simp [blks] at hm
   ·rw [hγ'o i h h'] at hi;exact aS ⟨i,s,hi,hm⟩
 have hvo:∀ b,v.ownBlock=some b->own γ b:=fun b hb=>own.mk (id:=id) (s:=v) (by rw [hid,hb])
 have hno':∀ b,¬own γ b->b<w.heap.size->¬own γ' b:=fun b hno hlt ho=>by
  rcases hown' b ho with h|h
  ·rcases hvb b h with h|h
   ·exact hno (hvo b h)
   ·omega
  ·exact hno h
 have hblk:∀ b,¬own γ b->b<w.heap.size->w'.heap[b]? = w.heap[b]? := fun b hno hlt=>hg.block b hlt (fun e=>hno (hvo b e.symm))
 have hnoS:∀ b,Sg cx.S0 cx.w0.heap.size γ b->¬own γ b:=fun b hS ho=>by
  rcases hS with ⟨_,h⟩|⟨_,h⟩
  ·have:=(hst.ge b ho).1.1;omega
  ·exact h ho
 have hS':∀ b,(Sg cx.S0 cx.w0.heap.size γ b\/w.heap.size<=b)/\v'.ownBlock≠some b->Sg cx.S0 cx.w0.heap.size γ' b:=fun b ⟨h1,h2⟩=>by
  rcases h1 with h1|h1
  ·have hno:=hnoS b h1
   rcases h1 with h1|⟨h1,h3⟩
   ·exact aR h1
   ·refine aS ⟨h1,fun ho=>?_⟩
    rcases hown' b ho with h|h
    ·exact h2 h
    ·exact h3 h
  ·refine aS ⟨⟨bO hsz h1,fun h0=>by have:=hst.gh _ h0;omega⟩,fun ho=>?_⟩
   rcases hown' b ho with h|h
   ·exact h2 h
   ·have:=(hst.ge b h).2;omega
 have hwr:∀ i,lkE [(d,Ent.row ty' sz' xs'),(id,.dead)] i=if d=i then some (.row ty' sz' xs') else if id=i then some .dead else none:=fun i=>by
  simp only [lkE]
  by_cases h:d=i
  ·subst h;simp
  ·rw [if_neg h]
   have:aG d i=false:=by cases hb:aG d i with|true=>exact absurd (aA hb) h|false=>rfl
   rw [this]
   by_cases h':id=i
   ·subst h';simp
   ·rw [if_neg h']
    have:aG id i=false:=by cases hb:aG id i with|true=>exact absurd (aA hb) h'|false=>rfl
    rw [this]
 refine ⟨γ',hst.step (γ':=γ') hd hg.size (fun b hS hlt=>⟨hblk b (hnoS b hS) hlt,?_⟩) (fun i x hx=>?_) (fun i hi=>?_) (fun i e hi=>?_) (fun i j b s s' hi hj mi mj=>?_) (fun b hb=>?_) ?_ ((hu γ' hγ'd).mono (aD _) (fun b hb _=>⟨rfl,hS' b hb⟩)) (fun b hno hlt=>⟨hblk b hno hlt,hno' b hno hlt⟩) hdr⟩
 ·have hno:=hno' b (hnoS b hS) hlt
  rcases hS with hS|⟨h1,_⟩
  ·exact aR hS
  ·exact aS ⟨h1,hno⟩
 ·by_cases h:d=i
  ·subst h;rw [hγd] at hx;cases hx
  ·by_cases h':id=i
   ·subst h';exact aS (aR hγ'x)
   ·exact aR (by rw [hγ'o i h h'];exact hx)
 ·rw [hwr] at hi
  by_cases h:d=i
  ·rw [if_pos h] at hi;cases hi
  ·rw [if_neg h] at hi
   by_cases h':id=i
   ·rw [if_pos h'] at hi;cases hi
   ·refine ⟨hγ'o i h h',fun g s hgi hmi=>hg.block g (hst.ge g ⟨i,s,hgi,hmi⟩).2 (fun e=>h' ?_)⟩
    exact hst.inj _ _ _ _ _ hid hgi (by rw [<-e];exact Bh) hmi
 ·rw [hwr] at hi
  by_cases h:d=i
  ·subst h
   rw [if_pos rfl] at hi
   injection hi with hi
   subst hi
   exact ⟨_,hγ'd,v',us',rfl,Db hown,hown,hlen,fun k hk j hj=>(hre k hk j hj).mono (aD _) (fun b hb _=>⟨rfl,hS' b hb⟩),hone⟩
  ·rw [if_neg h] at hi
   by_cases h':id=i
   ·subst h'
    rw [if_pos rfl] at hi
    injection hi with hi
    subst hi
    exact ⟨none,hγ'x,rfl⟩
   ·rw [if_neg h'] at hi;cases hi
 ·by_cases h1:d=i
  ·by_cases h2:d=j
   ·rw [<-h1,<-h2]
   ·subst h1
    rw [hγ'd] at hi
    injection hi with hi
    subst hi
    have hi:=Fq (Fp (Db hown)) mi
    by_cases h3:id=j
    ·subst h3;rw [hγ'x] at hj;injection hj with hj;subst hj;simp [blks] at mj
    ·rw [hγ'o j h2 h3] at hj
     rcases hvb b hi with h|h
     ·exact absurd (hst.inj _ _ _ _ _ hid hj (by rw [h];exact Bh) mj) h3
     ·have:=(hst.ge b ⟨j,s',hj,mj⟩).2;omega
  ·by_cases h1':id=i
   ·subst h1';rw [hγ'x] at hi;injection hi with hi;subst hi;simp [blks] at mi
   ·rw [hγ'o i h1 h1'] at hi
    by_cases h2:d=j
    ·subst h2
     rw [hγ'd] at hj
     injection hj with hj
     subst hj
     have hj:=Fq (Fp (Db hown)) mj
     rcases hvb b hj with h|h
     ·exact absurd (hst.inj _ _ _ _ _ hid hi (by rw [h];exact Bh) mi) h1'
     ·have:=(hst.ge b ⟨i,s,hi,mi⟩).2;omega
    ·by_cases h3:id=j
     ·subst h3;rw [hγ'x] at hj;injection hj with hj;subst hj;simp [blks] at mj
     ·rw [hγ'o j h2 h3] at hj
      exact hst.inj _ _ _ _ _ hi hj mi mj
 ·rcases hown' b hb with h|h
  ·have hb2:=zfj hown b h
   rcases hvb b h with h'|h'
   ·exact ⟨(hst.ge b (hvo b h')).1,hb2.2⟩
   ·exact ⟨⟨hb2.1,fun h0=>by have:=hst.gh _ h0;omega⟩,hb2.2⟩
  ·exact ⟨(hst.ge b h).1,aN (hst.ge b h).2 hg.size⟩
 ·refine hst.below.trans ⟨hg.os,hg.tape,hg.output,hg.size,fun k hk=>hg.block k (by omega) (fun e=>?_)⟩
  have:=(hst.ge k (hvo k e.symm)).1.1
  omega
theorem z9l {a:Act}{w':World}{u:Value}(hst:StG cx γ τ a w)(hdr:cx.E.dr=true->w.drawn<=w'.drawn)(hid:γ id=some (some (v.ownBlock,v)))(hd:∀ x,dst=some x->cx.E.np<=x/\x<cx.nt)(hg:w.grownBy w' v.ownBlock)
  (hown:w'.ownsRow cx.w0.heap.size ty sz v xs'.length us') (hlen:∀ k (hk:k<xs'.length),(xs'[k]).cells.length=sz)
  (hre:∀ k (hk:k<xs'.length) j (hj:j<(xs'[k]).cells.length),Rep w' (fun b=>(Sg cx.S0 cx.w0.heap.size γ b\/w.heap.size<=b)/\v.ownBlock≠some b) G0 ((xs'[k]).cells[j]) (us'.getD (k*sz+j) undef)) (hone:∀ u∈us',u.oneCell'=true)
  (hu:Rep w' (fun b=>(Sg cx.S0 cx.w0.heap.size γ b\/w.heap.size<=b)/\v.ownBlock≠some b) γ av u):St cx (τ.upd dst av [(id,.row ty sz xs')]) (a.put dst u) w':=by
 have hsz:=hst.below.size
 have hvo:∀ b,v.ownBlock=some b->own γ b:=fun b hb=>own.mk (id:=id) (s:=v) (by rw [hid,hb])
 have hblk:∀ b,¬own γ b->b<w.heap.size->w'.heap[b]? = w.heap[b]? := fun b hno hlt=>hg.block b hlt (fun e=>hno (hvo b e.symm))
 have hnoS:∀ b,Sg cx.S0 cx.w0.heap.size γ b->¬own γ b:=fun b hS ho=>by
  rcases hS with ⟨_,h⟩|⟨_,h⟩
  ·have:=(hst.ge b ho).1.1;omega
  ·exact h ho
 have hS':∀ b,(Sg cx.S0 cx.w0.heap.size γ b\/w.heap.size<=b)/\v.ownBlock≠some b->Sg cx.S0 cx.w0.heap.size γ b:=fun b ⟨h1,h2⟩=>by
  rcases h1 with h1|h1
  ·exact h1
  ·exact aS ⟨⟨bO hsz h1,fun h0=>by have:=hst.gh _ h0;omega⟩,fun ho=>by have:=(hst.ge b ho).2;omega⟩
 have hwr:∀ i,lkE [(id,Ent.row ty sz xs')] i=if id=i then some (.row ty sz xs') else none:=fun i=>by
  simp only [lkE]
  by_cases h':id=i
  ·subst h';simp
  ·rw [if_neg h']
   have:aG id i=false:=by cases hb:aG id i with|true=>exact absurd (aA hb) h'|false=>rfl
   rw [this]
 refine ⟨γ,hst.step (γ':=γ) hd hg.size (fun b hS hlt=>⟨hblk b (hnoS b hS) hlt,hS⟩) (fun i x hx=>aR hx) (fun i hi=>?_) (fun i e hi=>?_) hst.inj (fun b hb=>⟨(hst.ge b hb).1,aN (hst.ge b hb).2 hg.size⟩) ?_ (hu.mono (aD _) (fun b hb _=>⟨rfl,hS' b hb⟩)) (fun b hno hlt=>⟨hblk b hno hlt,hno⟩) hdr⟩
 ·rw [hwr] at hi
  by_cases h':id=i
  ·rw [if_pos h'] at hi;cases hi
  ·refine ⟨rfl,fun g s hgi hmi=>hg.block g (hst.ge g ⟨i,s,hgi,hmi⟩).2 (fun e=>h' ?_)⟩
   exact hst.inj _ _ _ _ _ hid hgi (by rw [<-e];exact Bh) hmi
 ·rw [hwr] at hi
  by_cases h':id=i
  ·subst h'
   rw [if_pos rfl] at hi
   injection hi with hi
   subst hi
   exact ⟨_,hid,v,us',rfl,Db hown,hown,hlen,fun k hk j hj=>(hre k hk j hj).mono (aD _) (fun b hb _=>⟨rfl,hS' b hb⟩),hone⟩
  ·rw [if_neg h'] at hi;cases hi
 ·refine hst.below.trans ⟨hg.os,hg.tape,hg.output,hg.size,fun k hk=>hg.block k (by omega) (fun e=>?_)⟩
  have:=(hst.ge k (hvo k e.symm)).1.1
  omega
variable {args:Array Operand}{tys:Array TypeId}{cap cargs:List AV}{res:AV}
theorem zkh {x:Operand}{f:Nat}{inp:Bool}(ho:o.op=.call { callee:=.value x,args:=args,argTypes:=tys })(hxo:A5 x=true)(hok:args.toList.all A5=true)(hx:σ.eval x=.fn f cap)
  (hr:bP (fun _=>id) cargs=Bw σ args cap) (hin:AV.inML [0] cargs=true) (hl:σ.find id=some (.row ty sz xs)) (hc:ConC inp cx.E f cargs ty sz xs ty' sz' xs' res)
    {a:Act}  (h1:∀ x∈o.op.operands,τ.eval x=σ.eval x) (h2:τ.find id=σ.find id) (hst:StG cx γ τ a w) {Q:Exit->Act->World->Prop} {K:Act->World->Prop}
  (k:∀ u v v' us' w',γ id=some (some (v.ownBlock,v))->w.grownBy w' v.ownBlock->w'.ownsRow cx.w0.heap.size ty' sz' v' xs'.length us'->(inp=true->v'=v)->(∀ b,v'.ownBlock=some b->v.ownBlock=some b\/w.heap.size<=b)->(∀ k (hk:k<xs'.length),(xs'[k]).cells.length=sz') ->
    (∀ k (hk:k<xs'.length) j (hj:j<(xs'[k]).cells.length),Rep w' (fun b=>(Sg cx.S0 cx.w0.heap.size γ b\/w.heap.size<=b)/\v'.ownBlock≠some b) G0 ((xs'[k]).cells[j]) (us'.getD (k*sz' + j) undef))->(∀ u∈us',u.oneCell'=true) ->
    (∀ γ':Gam,γ' 0=some (some (v'.ownBlock,v'))->Rep w' (fun b=>(Sg cx.S0 cx.w0.heap.size γ b\/w.heap.size<=b)/\v'.ownBlock≠some b) γ' res u)->K (a.put o.dst u) w'):o.wp cx.P a w K Q:=by
 have hop:o.op.operands=#[x]++args:=by simp [ho,Op.operands,Call.operands]
 obtain ⟨caps,hcx,hl',hrep⟩:=O0 hst hok hxo (fun y hy=>h1 y (by rw [hop];simp at hy ⊢;exact aS hy)) (h1 x (by rw [hop];simp)) hx
 have hme:=hst.me id
 rw [h2,hl] at hme
 obtain ⟨dd,hd',s,us,hde,_,hown,hlen,hre,hone⟩:=hme
 subst hde
 unfold Oper.wp
 rw [Nx ho hcx hc.1]
 show Calls _ _ _ _ _
 have hlc:cargs.length=(Bw σ args cap).length:=by rw [<-hr,aF]
 refine (hc.2.2 (Sg cx.S0 cx.w0.heap.size γ) cx.w0 w _ s us hst.below hown hlen hre hone (fun b hb hS=>?_) (by rw [hl',hlc]) (fun γc hγc i hi=>?_)).mono ?_
 ·have ho':own γ b:=own.mk (id:=id) (s:=s) (by rw [hd',hb])
  rcases hS with ⟨_,h⟩|⟨_,h⟩
  ·have:=(hst.ge b ho').1.1;omega
  ·exact h ho'
 ·have hi':i<(Bw σ args cap).length:=by omega
  have h:=hrep i hi'
  have e:(Bw σ args cap)[i]=cargs[i].ren (fun _=>id):=by
   have:(bP (fun _=>id) cargs)[i]'(by rw [aF];exact hi)=(Bw σ args cap)[i]:=by simp only [hr]
   rw [<-this,aT]
  rw [e] at h
  exact h.ren (ids:=[0]) (ρ:=fun _=>id) (fun j hj=>by
   have:j=0:=by simpa using hj
   subst this
   rw [hγc,hd']) cargs[i] rfl (aU hin i hi)
 ·rintro e w' ⟨u,v',us',rfl,q1,q2,q3,q4,q5,q6,q7,q8⟩
  exact k u s v' us' w' hd' q1 q2 q3 q4 q5 q6 q7 q8
theorem ztz {x:Operand}{f d:Nat}(ho:o.op=.call { callee:=.value x,args:=args,argTypes:=tys })(hdst:o.dst=some d)(hd:dok cx o=true)(hxo:A5 x=true)(hok:args.toList.all A5=true)(hx:σ.eval x=.fn f cap)
  (hr:bP (fun _=>id) cargs=Bw σ args cap) (hin:AV.inML [0] cargs=true) (hl:σ.find id=some (.row ty sz xs)) (hne:id≠d) (hn:σ.find d=none) (hc:ConC false cx.E f cargs ty sz xs ty' sz' xs' res) (hdr0:cx.E.dr=false):Ag cx o σ (res.ren fun _=>d) [d,id] [(d,.row ty' sz' xs'),(id,.dead)]:=by
 refine ⟨fun i e he=>?_,fun τ h1 h2 a w Q K ⟨γ,hst⟩ hK=>Bu (fun c hc=>by rw [ho] at hc;cases hc) ?_⟩
 ·simp only [lkE] at he
  cases hb:aG d i with
  |true=>simp [aA hb]
  |false =>
   rw [hb] at he
   cases hb2:aG id i with
   |true=>simp [aA hb2]
   |false=>rw [hb2] at he;cases he
 refine zkh ho hxo hok hx hr hin hl hc h1 (h2 id (by simp)) hst (fun u v v' us' w' q0 q1 q2 q3 q4 q5 q6 q7 q8=>hK _ _ ?_)
 have hγd:γ d=none:=by have:=hst.me d;rw [h2 d (by simp),hn] at this;exact this
 refine zqd hst (fun h=>absurd (hdr0.symm.trans h) (by simp)) q0 hγd hne (Bm hd) q1 q2 q4 q5 q6 q7 (fun γ' hγ'=>?_)
 exact (q8 (fun _=>some (some (v'.ownBlock,v'))) rfl).renF (ids:=[0]) (fun i _=>hγ') hc.2.1
theorem zty {x:Operand}{f:Nat}(ho:o.op=.call { callee:=.value x,args:=args,argTypes:=tys })(hd:dok cx o=true)(hxo:A5 x=true)(hok:args.toList.all A5=true)(hx:σ.eval x=.fn f cap)
  (hr:bP (fun _=>id) cargs=Bw σ args cap) (hin:AV.inML [0] cargs=true) (hl:σ.find id=some (.row ty sz xs)) (hc:ConC true cx.E f cargs ty sz xs ty sz xs' res) (hdr0:cx.E.dr=false):Ag cx o σ (res.ren fun _=>id) [id] [(id,.row ty sz xs')]:=by
 refine ⟨fun i e he=>?_,fun τ h1 h2 a w Q K ⟨γ,hst⟩ hK=>Bu (fun c hc=>by rw [ho] at hc;cases hc) ?_⟩
 ·simp only [lkE] at he
  cases hb:aG id i with
  |true=>simp [aA hb]
  |false=>rw [hb] at he;cases he
 refine zkh ho hxo hok hx hr hin hl hc h1 (h2 id (by simp)) hst (fun u v v' us' w' q0 q1 q2 q3 q4 q5 q6 q7 q8=>hK _ _ ?_)
 have hv:=q3 rfl
 subst hv
 exact z9l hst (fun h=>absurd (hdr0.symm.trans h) (by simp)) q0 (Bm hd) q1 q2 q5 q6 q7 ((q8 (fun _=>some (some (v'.ownBlock,v'))) rfl).renF (ids:=[0]) (fun i _=>q0) hc.2.1)
end
def eqK:AV->AV->Option Bool
 |.agg cs,.agg ds=>eqL cs ds
 |a,b=>eq1 a b
def Be (k:AV):List AV->Nat->Option (Option Nat)
 |[],_=>some none
 |a::r,i=>match eqK k a with
  |some true=>some (some i)
  |some false=>Be k r (i+1)
  |none=>none
def Bc (P:Program)(t:TypeId)(a:AV):Bool:=match a with
 |.agg cs=>!P.stoodInHeld t && (match P.underlying t with|some (.struct fs)=>D0 P 0 cs fs.toList|_=>false)
 |a=>fkT (fkA a) (P.underlying t)
section
variable {P:Program} {w:World} {S:Nat->Prop}
theorem zya {t:TypeId}{a b:AV}{va vb:Value}{c:Bool}(ht:Bc P t a=true)(he:eqK a b=some c)(ha:Rep w S G0 a va)(hb:Rep w S G0 b vb):(Op.equal t va vb).run P w=.ok c w:=by
 unfold Op.equal
 rw [show Op.maxDepth=9999+1 from rfl]
 cases a with
 |agg cs =>
  cases b with
  |agg ds =>
   obtain ⟨vs,ev,hl,hr,_⟩:=ha.agg_inv
   obtain ⟨us,eu,hl',hr',_⟩:=hb.agg_inv
   simp only [Bc,aC,aO] at ht
   obtain ⟨g1,g3⟩:=ht
   cases hu:P.underlying t with
   |none=>rw [hu] at g3;cases g3
   |some dd =>
    rw [hu] at g3
    cases dd<;>simp only [aE] at g3
    rename_i fs
    have hfs:P.fieldsOf t=fs:=by simp [Program.fieldsOf,hu]
    rw [ev,eu,run_equalIn_agg w 9999 t vs us (by rw [hfs];exact hu) g1,hfs]
    exact z6w (w0:=w) 9998 vs us fs.toList cs ds 0 c g3 he (by omega) (by omega) (fun i hi=>by simpa using hr i hi) (fun i hi=>by simpa using hr' i hi)
  |_=>simp [eqK,eq1] at he
 |int k n=>exact V7 9999 (by simpa [Bc] using ht) (by cases b<;>simpa [eqK] using he) ha hb
 |bool x=>exact V7 9999 (by simpa [Bc] using ht) (by cases b<;>simpa [eqK] using he) ha hb
 |str x=>exact V7 9999 (by simpa [Bc] using ht) (by cases b<;>simpa [eqK] using he) ha hb
 |_=>simp [Bc,fkA,fkT] at ht
theorem z88 {t:TypeId}{vk:Value}(ht:Bc P t k=true)(hk:Rep w S G0 k vk):∀ (es:List MapEntry) (ps:List (AV×AV)) (i:Nat) (r:Option Nat),es.length=ps.length->(∀ j (h:j<es.length) (h':j<ps.length),Kw w S es[j] ps[j]) ->
  Be k (ps.map (·.1)) i=some r->(Instr.findAsking t vk es i).run P w=.ok (r.map fun j=>(j,(es.getD (j-i) default).val)) w/\∀ j,r=some j->i<=j/\j-i<es.length
 |[],[],i,r,hl,he,h=>by
  simp only [bJ,Be,aB] at h
  subst h
  exact ⟨by simp [Instr.findAsking],fun j h=>by cases h⟩
 |e::es,p::ps,i,r,hl,he,h=>by
  have h0:Kw w S e p:=he 0 (by simp) (by simp)
  simp only [bK,Be] at h
  cases hc:eqK k p.1 with
  |none=>rw [hc] at h;cases h
  |some c =>
   have hr:=zya ht hc hk h0.1
   rw [hc] at h
   cases c with
   |true =>
    simp only [aB] at h
    subst h
    refine ⟨?_,fun j h=>by cases h;exact ⟨aD _,by simp⟩⟩
    unfold Instr.findAsking
    rw [Sem.run_bind,hr,Result.andThen_ok]
    simp
   |false =>
    obtain ⟨i1,i2⟩:=z88 ht hk es ps (i+1) r (by simpa using hl) (fun j h h'=>he (j+1) (by simpa using h) (by simpa using h')) h
    refine ⟨?_,fun j hj=>by obtain ⟨a,b⟩:=i2 j hj;exact ⟨by omega,by simp;omega⟩⟩
    unfold Instr.findAsking
    rw [Sem.run_bind,hr,Result.andThen_ok]
    simp only [aE,if_false]
    rw [i1]
    cases r with
    |none=>rfl
    |some j =>
     obtain ⟨a,b⟩:=i2 j rfl
     simp only [aW]
     rw [show j-i=(j-(i+1))+1 by omega,getD_cons_succ]
end
section
variable {P:Program} {w:World} {S:Nat->Prop}
variable {t:TypeId}
theorem Yw {a:AV}(n:Nat)(em:Bool)(ht:fkT (fkA a) (P.underlying t)=true)(ha:Rep w S G0 a v):(Instr.checkKey em (n+1) t v).run P w=.ok () w:=by
 obtain ⟨d,hu,hd⟩:=Rw ht
 rcases hd with ⟨_,_,_,rfl,rfl⟩|⟨_,rfl,rfl⟩|⟨_,rfl,rfl⟩
 ·rw [ha.int_inv];simp [Instr.checkKey,run_underlying hu]
 ·rw [ha.bool_inv];simp [Instr.checkKey,run_underlying hu]
 ·rw [ha.str_inv];simp [Instr.checkKey,run_underlying hu]
theorem zao (n:Nat)(em:Bool)(xs:Array Value):∀ (fs:List Field) (cs:List AV) (k:Nat),D0 P k cs fs=true->k+cs.length<=xs.size->(∀ i (hi:i<cs.length),Rep w S G0 cs[i] (xs.getD (k+i) undef)) ->
  (forIn fs PUnit.unit (fun f _ => if f.name ≠ "_" then do
    let l <-part f.type xs f.offset
    Instr.checkKey em (n+1) f.type l
    pure (ForInStep.yield PUnit.unit) else pure (ForInStep.yield PUnit.unit):Field->PUnit->Sem (ForInStep PUnit))).run P w=.ok PUnit.unit w
 |[],cs,k,hf,_,_=>by simp
 |f::fs,[],k,hf,_,_=>by simp [D0] at hf
 |f::fs,a::cs,k,hf,h3,hx=>by
  simp only [D0,aC,decide_eq_true_eq] at hf
  obtain ⟨f1,f2,f3,f4⟩:=hf
  have f2:=aA f2
  simp only [bH] at h3
  have ha:Rep w S G0 a (xs.getD k undef):=hx 0 (by simp)
  have ih:=zao n em xs fs cs (k+1) f4 (by omega) (fun i hi=>by have:=hx (i+1) (by simpa using hi);rw [show k+1+i=k+(i+1) by omega];simpa using this)
  have hp : f.name ≠ "_" := by simpa using f1
  rw [forIn_cons]
  simp only [if_pos hp,f2,Sem.run_bind,X2 f3 (show k<xs.size by omega),Result.andThen_ok,Yw n em f3 ha,Sem.run_pure]
  exact ih
theorem Yy {a:AV}(n:Nat)(hk:fkA a≠.no)(ha:Rep w S G0 a v):Instr.sameBits n v v=true:=by
 cases a<;>simp [fkA] at hk
 ·rw [ha.int_inv];cases n<;>simp [Instr.sameBits]
 ·rw [ha.bool_inv];cases n<;>simp [Instr.sameBits]
 ·rename_i s
  have hs:(s == s)=true:=by
   cases s
   first|exact beq_self_eq_true _|(show (_ == _)=true;exact beq_self_eq_true (α:=Array UInt8) _)|simp [BEq.beq,instBEqByteArray]|decide
  rw [ha.str_inv];cases n<;>simp [Instr.sameBits,hs]
theorem Xw {cs:List AV}(ht:Bc P t (.agg cs)=true):∃ fs:Array Field,P.underlying t=some (.struct fs)/\D0 P 0 cs fs.toList=true:=by
 simp only [Bc,aC] at ht
 obtain ⟨_,g3⟩:=ht
 cases hu:P.underlying t with
 |none=>rw [hu] at g3;cases g3
 |some dd =>
  rw [hu] at g3
  cases dd<;>simp only [aE] at g3
  exact ⟨_,rfl,g3⟩
theorem Od {a:AV}(em:Bool)(ht:Bc P t a=true)(ha:Rep w S G0 a v):(Instr.checkKey em 10000 t v).run P w=.ok () w:=by
 cases a with
 |agg cs =>
  obtain ⟨fs,hu,hf⟩:=Xw ht
  obtain ⟨vs,ev,hl,hr,_⟩:=ha.agg_inv
  have:=zao (w:=w) (S:=S) 9998 em vs fs.toList cs 0 hf (by omega) (fun i hi=>by simpa using hr i hi)
  rw [ev,show (10000:Nat)=9999+1 from rfl]
  unfold Instr.checkKey
  rw [Sem.run_bind,run_underlying hu,Result.andThen_ok]
  simp only [<-Array.forIn_toList,Sem.run_bind]
  rw [this,Result.andThen_ok]
  simp
 |int k n=>exact Yw 9999 em (by simpa [Bc] using ht) ha
 |bool x=>exact Yw 9999 em (by simpa [Bc] using ht) ha
 |str x=>exact Yw 9999 em (by simpa [Bc] using ht) ha
 |_=>simp [Bc,fkA,fkT] at ht
theorem zy4 {fs:List Field}:∀ {cs:List AV} {k:Nat},D0 P k cs fs=true->∀ i (hi:i<cs.length),fkA cs[i]≠.no:=by
 induction fs with
 |nil=>intro cs k h i hi;cases cs with
  |nil=>simp at hi
  |cons=>simp [D0] at h
 |cons f fs ih =>
  intro cs k h i hi
  cases cs with
  |nil=>simp at hi
  |cons a cs =>
   simp only [D0,aC] at h
   cases i with
   |zero=>intro hk;have h3:=h.2.2.1;simp only [getElem_cons_zero] at hk;rw [hk] at h3;simp [fkT] at h3
   |succ i=>exact ih h.2.2.2 i (by simpa using hi)
theorem y0o {a:AV}(ht:Bc P t a=true)(ha:Rep w S G0 a v):(Instr.keyThatStays v v).run P w=.ok v w:=by
 have:Instr.sameBits 10000 v v=true:=by
  cases a with
  |agg cs =>
   obtain ⟨fs,hu,hf⟩:=Xw ht
   obtain ⟨vs,ev,hl,hr,_⟩:=ha.agg_inv
   rw [ev,show (10000:Nat)=9999+1 from rfl]
   simp only [Instr.sameBits,beq_self_eq_true,Bool.true_and,all_eq_true]
   intro p hp
   obtain ⟨i,hi,rfl⟩:=mem_iff_getElem.1 hp
   simp only [length_zip,bB,Nat.min_self] at hi
   have h1:=Yy 9999 (zy4 hf i (by omega)) (hr i (by omega))
   simp only [getElem_zip]
   simpa [aM,hi] using h1
  |int k n=>exact Yy _ (by simp [fkA]) ha
  |bool x=>exact Yy _ (by simp [fkA]) ha
  |str x=>exact Yy _ (by simp [fkA]) ha
  |_=>simp [Bc,fkA,fkT] at ht
 simp [Instr.keyThatStays,this]
end
section
variable {P:Program} {w:World} {S:Nat->Prop}
theorem zcn (a b:ByteArray):(a == b)=(a.toList == b.toList):=by
 simp [beq_toListBytes]
variable {t:TypeId}{vk:Value}
theorem zts {d:TypeDesc}{a:AV}{va:Value}{c:Bool}(hu:P.underlying t=some d)(ht:fkT (fkA k) (P.underlying t)=true)(hk:Rep w S G0 k vk)(ha:Rep w S G0 a va)(he:eqK k a=some c):Instr.sameNow d vk va=some c:=by
 obtain ⟨d',hu',hd⟩:=Rw ht
 rw [hu] at hu'
 injection hu' with hu'
 subst hu'
 rcases hd with ⟨q,n,q',rfl,rfl⟩|⟨x,rfl,rfl⟩|⟨x,rfl,rfl⟩
 ·cases a<;>simp only [eqK,eq1,reduceCtorEq] at he
  split at he
  ·rename_i hq
   have hq:=of_decide_eq_true hq
   subst hq
   rw [hk.int_inv,ha.int_inv,<-he]
   simp [Instr.sameNow]
   rfl
  ·cases he
 ·cases a<;>simp only [eqK,eq1,reduceCtorEq] at he
  rw [hk.bool_inv,ha.bool_inv,<-he]
  simp [Instr.sameNow]
 ·cases a<;>simp only [eqK,eq1,reduceCtorEq] at he
  rw [hk.str_inv,ha.str_inv,<-he]
  simp [Instr.sameNow,zcn]
theorem zo9 {d:TypeDesc}(hu:P.underlying t=some d)(ht:fkT (fkA k) (P.underlying t)=true)(hk:Rep w S G0 k vk):∀ (es:List MapEntry) (ps:List (AV×AV)) (i:Nat) (r:Option Nat),es.length=ps.length->(∀ j (h:j<es.length) (h':j<ps.length),Kw w S es[j] ps[j]) ->
  Be k (ps.map (·.1)) i=some r->Instr.findNow d vk es i=some (r.map fun j=>(j,(es.getD (j-i) default).val))/\∀ j,r=some j->i<=j/\j-i<es.length
 |[],[],i,r,hl,he,h=>by
  simp only [bJ,Be,aB] at h
  subst h
  exact ⟨rfl,fun j h=>by cases h⟩
 |e::es,p::ps,i,r,hl,he,h=>by
  have h0:Kw w S e p:=he 0 (by simp) (by simp)
  simp only [bK,Be] at h
  cases hc:eqK k p.1 with
  |none=>rw [hc] at h;cases h
  |some c =>
   have hr:=zts hu ht hk h0.1 hc
   rw [hc] at h
   unfold Instr.findNow
   rw [hr]
   cases c with
   |true =>
    simp only [aB] at h
    subst h
    exact ⟨by simp,fun j h=>by cases h;exact ⟨aD _,by simp⟩⟩
   |false =>
    obtain ⟨i1,i2⟩:=zo9 hu ht hk es ps (i+1) r (by simpa using hl) (fun j h h'=>he (j+1) (by simpa using h) (by simpa using h')) h
    refine ⟨?_,fun j hj=>by obtain ⟨a,b⟩:=i2 j hj;exact ⟨by omega,by simp;omega⟩⟩
    simp only
    rw [i1]
    cases r with
    |none=>rfl
    |some j =>
     obtain ⟨a,b⟩:=i2 j rfl
     simp only [aW]
     rw [show j-i=(j-(i+1))+1 by omega,getD_cons_succ]
theorem zda {fs:Array Field}:∀ es:List MapEntry,∀ i,Instr.findNow (.struct fs) vk es i=if es=[] then some none else none
 |[],i=>rfl
 |e::es,i=>by
  unfold Instr.findNow
  have:Instr.sameNow (.struct fs) vk e.key=none:=by unfold Instr.sameNow;rfl
  rw [this];simp
theorem X9 (ht:Bc P t k=true)(hk:Rep w S G0 k vk)(es:List MapEntry)(ps:List (AV×AV))(r:Option Nat)(hl:es.length=ps.length)(he:∀ j (h:j<es.length) (h':j<ps.length),Kw w S es[j] ps[j])
  (h:Be k (ps.map (·.1)) 0=some r):(Instr.findKey t vk es).run P w=.ok (r.map fun j=>(j,(es.getD j default).val)) w/\∀ j,r=some j->j<es.length:=by
 have one:fkT (fkA k) (P.underlying t)=true->(Instr.findKey t vk es).run P w=.ok (r.map fun j=>(j,(es.getD j default).val)) w/\∀ j,r=some j->j<es.length:=fun h1=>by
  obtain ⟨d,hu,_⟩:=Rw h1
  obtain ⟨f1,f2⟩:=zo9 hu h1 hk es ps 0 r hl he h
  exact ⟨MapKept.run_findKey hu (by simpa using f1),fun j hj=>by simpa using (f2 j hj).2⟩
 cases k with
 |agg cs =>
  obtain ⟨fs,hu,hf⟩:=Xw ht
  obtain ⟨f1,f2⟩:=z88 ht hk es ps 0 r hl he h
  refine ⟨?_,fun j hj=>by simpa using (f2 j hj).2⟩
  by_cases h0:es=[]
  ·subst h0
   cases ps with
   |nil =>
    simp only [bJ,Be,aB] at h
    subst h
    exact MapKept.run_findKey hu rfl
   |cons=>simp at hl
  ·unfold Instr.findKey
   rw [Sem.run_bind,run_underlying hu,Result.andThen_ok,zda,if_neg h0]
   simpa using f1
 |int q n=>exact one (by simpa [Bc] using ht)
 |bool x=>exact one (by simpa [Bc] using ht)
 |str x=>exact one (by simpa [Bc] using ht)
 |_=>simp [Bc,fkA,fkT] at ht
end
section
variable {P:Program} {w:World} {S:Nat->Prop}
theorem zef {T kt et:TypeId}{zA:AV}{vk z:Value}{r:Option Nat}(ok:Bool)(hT:P.underlying T=some (.map kt et))(ht:Bc P kt k=true)(hk:Rep w S G0 k vk)(hm:D4 w S g ps)
  (hz:(zeroValue et).run P w=.ok z w) (hzR:Rep w S G0 zA z) (hf:Be k (ps.map (·.1)) 0=some r) :
  ∃ v,Rep w S G0 (match r with|some j=>(ps.getD j default).2|none=>zA) v/\(Instr.lookup T (.map (some g)) vk ok).run P w=.ok (if ok then .tuple #[v,.bool r.isSome] else v) w:=by
 obtain ⟨es,clock,hb,hl,_,he⟩:=hm
 obtain ⟨f1,f2⟩:=X9 ht hk es.toList ps r (by simpa using hl) he hf
 cases r with
 |none =>
  refine ⟨z,hzR,?_⟩
  cases ok<;>simp [Instr.lookup,run_underlying hT,MapKept.run_getObj_map hb,Od _ ht hk,f1,hz,Result.andThen]
 |some j =>
  have hj:=f2 j rfl
  have hj':j<ps.length:=by simp at hj;omega
  have:=(he j hj hj').2
  refine ⟨(es.toList.getD j default).val,?_,?_⟩
  ·simp only [aJ,bD hj',bD hj,Option.getD_some]
   exact this
  ·cases ok<;>simp [Instr.lookup,run_underlying hT,MapKept.run_getObj_map hb,Od _ ht hk,f1,Result.andThen]
end
section
variable {P:Program} {w:World} {S:Nat->Prop}
theorem zsp {a b:AV}{va vb:Value}(h:eq1 a b=some true)(ha:Rep w S G0 a va)(hb:Rep w S G0 b vb):va=vb:=by
 cases a<;>cases b<;>simp only [eq1,reduceCtorEq] at h
 ·split at h
  ·rename_i hk
   have hk:=of_decide_eq_true hk
   injection h with h
   have h:=of_decide_eq_true h
   subst hk;subst h
   rw [ha.int_inv,hb.int_inv]
  ·cases h
 ·injection h with h
  have h:=eq_of_beq h
  subst h
  rw [ha.bool_inv,hb.bool_inv]
 ·injection h with h
  rename_i s s'
  have e:s=s':=(MapKept.bytes_beq s s').1 (by rw [zcn];exact h)
  rw [ha.str_inv,hb.str_inv,e]
theorem zw7:∀ {cs ds:List AV},eqL cs ds=some true->cs.length=ds.length/\∀ i (h:i<cs.length) (h':i<ds.length),eq1 cs[i] ds[i]=some true
 |[],[],_=>⟨rfl,fun i h=>absurd h (by simp)⟩
 |[],_::_,h=>by simp [eqL] at h
 |_::_,[],h=>by simp [eqL] at h
 |a::cs,b::ds,h=>by
  unfold eqL at h
  split at h
  ·rename_i c c' h1 h2
   injection h with h
   simp only [aC] at h
   obtain ⟨rfl,rfl⟩:=h
   obtain ⟨i1,i2⟩:=zw7 h2
   refine ⟨by simp [i1],fun i hi hi'=>?_⟩
   cases i with
   |zero=>exact h1
   |succ i=>exact i2 i (by simpa using hi) (by simpa using hi')
  ·cases h
theorem zy9 {a b:AV}{va vb:Value}(h:eqK a b=some true)(ha:Rep w S G0 a va)(hb:Rep w S G0 b vb):va=vb:=by
 by_cases hag:∃ cs ds,a=.agg cs/\b=.agg ds
 ·obtain ⟨cs,ds,rfl,rfl⟩:=hag
  obtain ⟨vs,ev,hl,hr,_⟩:=ha.agg_inv
  obtain ⟨us,eu,hl',hr',_⟩:=hb.agg_inv
  obtain ⟨e1,e2⟩:=zw7 h
  rw [ev,eu]
  congr 1
  apply Array.ext (by omega)
  intro i h1 h2
  have:=zsp (e2 i (by omega) (by omega)) (hr i (by omega)) (hr' i (by omega))
  simpa [aM,h1,h2] using this
 ·have:eqK a b=eq1 a b:=by
   cases a<;>cases b<;>first|rfl|exact absurd ⟨_,_,rfl,rfl⟩ hag
  exact zsp (this▸h) ha hb
theorem zob:∀ {l:List AV} {i j:Nat},Be k l i=some (some j)->i<=j/\∃ h:j-i<l.length,eqK k l[j-i]=some true
 |[],i,j,h=>by simp [Be] at h
 |a::r,i,j,h=>by
  simp only [Be] at h
  cases hc:eqK k a with
  |none=>rw [hc] at h;cases h
  |some c =>
   rw [hc] at h
   cases c with
   |true =>
    simp only [aB] at h
    subst h
    exact ⟨aD _,by simp,by simpa using hc⟩
   |false =>
    obtain ⟨h1,h2,h3⟩:=zob h
    have e:j-i=(j-(i+1))+1:=by omega
    refine ⟨by omega,by simp;omega,?_⟩
    simp only [e,getElem_cons_succ]
    exact h3
variable {es:Array MapEntry}
theorem Born.push {clock:Nat}(h:Born es clock)(k v:Value):Born (es.push ⟨k,v,clock⟩) (clock+1):=by
 obtain ⟨h1,h2⟩:=h
 refine ⟨?_,fun e he=>?_⟩
 ·simp only [aP,map_append,bK,bJ]
  rw [nodup_append]
  refine ⟨h1,by simp,fun a ha b hb=>?_⟩
  obtain ⟨e,he,rfl⟩:=mem_map.1 ha
  have:=h2 e he
  simp at hb
  omega
 ·simp only [aP,mem_append,mem_singleton] at he
  rcases he with he|he
  ·have:=h2 e he;omega
  ·subst he;simp
theorem Born.mod {clock:Nat}(h:Born es clock)(j:Nat)(f:MapEntry->MapEntry)(hf:∀ e,(f e).born=e.born):Born (es.modify j f) clock:=by
 obtain ⟨h1,h2⟩:=h
 have e:(es.modify j f).toList.map (·.born)=es.toList.map (·.born):=by
  apply ext_getElem
  ·simp
  ·intro i h3 h4
   simp only [aX,bC,getElem_modify]
   split<;>simp [hf]
 refine ⟨by rw [e];exact h1,fun x hx=>?_⟩
 have:x.born∈es.toList.map (·.born):=by rw [<-e];exact mem_map.2 ⟨x,hx,rfl⟩
 obtain ⟨y,hy,hyb⟩:=mem_map.1 this
 rw [<-hyb]
 exact h2 y hy
def putK (r:Option Nat)(k x:AV)(ps:List (AV×AV)):List (AV×AV):=match r with|some j=>ps.set j (k,x)|none=>ps++[(k,x)]
theorem ze0 {T kt et:TypeId}{vk vx:Value}{r:Option Nat}(hT:P.underlying T=some (.map kt et))(ht:Bc P kt k=true)(hk:Rep w S G0 k vk)(hx:Rep w S G0 x vx)(hm:D4 w S g ps)
  (hf:Be k (ps.map (·.1)) 0=some r) (hg:¬S g):∃ o,(Instr.mapUpdate T (.map (some g)) vk vx).run P w=.ok () { w with heap:=w.heap.setIfInBounds g o }/\D4 { w with heap:=w.heap.setIfInBounds g o } S g (putK r k x ps):=by
 obtain ⟨es,clock,hb,hl,hbn,he⟩:=hm
 have hlt:g<w.heap.size:=by
  rcases Nat.lt_or_ge g w.heap.size with h|h
  ·exact h
  ·rw [Array.getElem?_eq_none h] at hb;cases hb
 obtain ⟨f1,f2⟩:=X9 ht hk es.toList ps r (by simpa using hl) he hf
 have mv:∀ (o:Obj) {a:AV} {v:Value},Rep w S G0 a v->Rep { w with heap:=w.heap.setIfInBounds g o } S G0 a v:=fun o a v h =>
  h.mono (by simp) (fun b hS hb=>⟨by
   have:b≠g:=fun e=>hg (e▸hS)
   simp [aH,Ne.symm this],hS⟩)
 cases r with
 |none =>
  refine ⟨.map (es.push ⟨vk,vx,clock⟩) (clock+1),?_,?_⟩
  ·simp [Instr.mapUpdate,run_underlying hT,MapKept.run_getObj_map hb,Od _ ht hk,f1,MapKept.run_setObj_map _ hb,Result.andThen]
  ·refine ⟨es.push ⟨vk,vx,clock⟩,clock+1,by simp [aH,hlt],by simp [putK,hl],hbn.push _ _,fun j h h'=>?_⟩
   simp only [aP,putK] at h h' ⊢
   by_cases hj:j<es.toList.length
   ·have hj':j<ps.length:=by simp at hj;omega
    rw [bE hj,bE hj']
    exact ⟨mv _ (he j hj hj').1,mv _ (he j hj hj').2⟩
   ·have e1:j=es.toList.length:=by simp at h hj ⊢;omega
    have e2:j=ps.length:=by simp at e1;omega
    rw [bA (by omega),bA (by omega)]
    simp only [e1,Nat.sub_self,getElem_singleton]
    exact ⟨mv _ hk,mv _ hx⟩
 |some j =>
  have hj:=f2 j rfl
  have hj':j<ps.length:=by simp at hj;omega
  obtain ⟨_,h2,h3⟩:=zob hf
  simp only [Nat.sub_zero,aX] at h3
  have hje:j<es.size:=by simpa using hj
  have hv:es[j].key=vk:=by
   have:=(he j hj hj').1
   exact (zy9 h3 hk (by simpa using this)).symm
  refine ⟨.map (es.modify j fun e=>{ e with key:=vk,val:=vx }) clock,?_,?_⟩
  ·simp [Instr.mapUpdate,run_underlying hT,MapKept.run_getObj_map hb,Od _ ht hk,f1,MapKept.run_setObj_map _ hb,Result.andThen,hje,hv,y0o ht hk]
  ·refine ⟨es.modify j fun e=>{ e with key:=vk,val:=vx },clock,by simp [aH,hlt],by simp [putK,hl],hbn.mod _ _ (fun _=>rfl),fun i h h'=>?_⟩
   simp only [putK,length_set] at h'
   have hi:i<es.toList.length:=by simp;omega
   simp only [bC,putK,getElem_set,getElem_modify]
   by_cases hij:j=i
   ·rw [if_pos hij,if_pos hij]
    exact ⟨mv _ hk,mv _ hx⟩
   ·rw [if_neg hij,if_neg hij]
    exact ⟨mv _ (he i hi h').1,mv _ (he i hi h').2⟩
end
variable {P:Program}
theorem zmc {fs:List Field}:∀ {cs:List AV} {k:Nat},D0 P k cs fs=true->AV.flatL cs=true:=by
 induction fs with
 |nil=>intro cs k h;cases cs with
  |nil=>rfl
  |cons=>simp [D0] at h
 |cons f fs ih =>
  intro cs k h
  cases cs with
  |nil=>rfl
  |cons a cs =>
   simp only [D0,aC] at h
   have h1:=h.2.2.1
   simp only [AV.flatL,aC]
   refine ⟨?_,ih h.2.2.2⟩
   cases a<;>first|rfl|simp [fkA,fkT] at h1
theorem Rm {t:TypeId}(h:Bc P t k=true):k.flat=true:=by
 cases k with
 |agg cs =>
  obtain ⟨fs,_,hf⟩:=Xw h
  exact zmc hf
 |int=>rfl
 |bool=>rfl
 |str=>rfl
 |_=>simp [Bc,fkA,fkT] at h
variable {i:TyI}{e:Nat}
theorem Gv {T:TypeId}{k:Nat}(h:TyOk P T i)(hs:i.shape=.map k e):P.underlying T=some (.map k e):=by
 obtain ⟨d,hd,he⟩:=h.und
 rw [hs] at he
 cases d<;>simp only [Dk,reduceCtorEq,E3.map.injEq] at he
 obtain ⟨rfl,rfl⟩:=he
 exact hd
section
variable {cx:Cx} {o:Oper} {σ:AS}
variable {id:Nat}
theorem Co {d:Nat}{e e':Ent}(he:lkE [(d,e)] id=some e'):id∈[d]:=by
 simp only [lkE] at he
 cases hb:aG d id with
 |true=>simp [aA hb]
 |false=>rw [hb] at he;cases he
variable {T:Nat}
theorem zqj {d:Nat}(ho:o.op=.makeMap T none)(hdst:o.dst=some d)(hd:dok cx o=true)(hn:σ.find d=none):Ag cx o σ (.row d) [d] [(d,.mp [])]:=by
 refine ⟨fun id e he=>Co he,fun τ h1 h2 a w Q K ⟨γ,hst⟩ hK=>Bu (fun c hc=>by rw [ho] at hc;cases hc) ?_⟩
 have hrun:(execOp a.eval o).run cx.P w=.ok (.value (.map (some w.heap.size))) (w.alloc (.map #[] 0)):=by
  simp only [execOp,ho,bI,Sem.run_bind,run_makeMap,Result.andThen_ok,Sem.run_pure]
 unfold Oper.wp
 rw [hrun]
 refine hK _ _ ⟨_,hst.name (id:=d) (g:=w.heap.size) (s:=.map (some w.heap.size)) (e:=.mp []) (Bm hd) (by rw [h2 d (by simp)];exact hn) ((Below.refl _ _).alloc (aD _) _) (aD _) (by simp) ?_ ?_⟩
 ·exact ⟨w.heap.size,rfl,#[],0,(MapKept.heap_alloc w _).1,rfl,⟨by simp,fun e h=>by simp at h⟩,fun j h=>absurd h (by simp)⟩
 ·exact .row (Gam.set_self _ _ _) (fun g s e _=>by injection e with e;injection e with _ e)
theorem Rz {a:Act}(hst:StG cx γ τ a w)(hl:τ.find id=some (.mp ps))(hv:Rep w (Sg cx.S0 cx.w0.heap.size γ) γ (.row id) v) :
  ∃ g,γ id=some (some (some g,.map (some g)))/\v=.map (some g)/\D4 w (Sg cx.S0 cx.w0.heap.size γ) g ps:=by
 have hme:=hst.me id
 rw [hl] at hme
 obtain ⟨d,hd',g,hde,hm⟩:=hme
 subst hde
 exact ⟨g,hd',hv.row_inv hd',hm⟩
def F9 (z:AV)(ps:List (AV×AV)):Option Nat->AV
 |some j=>(ps.getD j default).2
 |none=>z
def S8 (av:AV)(b:Bool):Bool->AV
 |true=>.tup [av,.bool b]
 |false=>av
variable {kt et:Nat}
theorem zna {x y:Operand}{ok:Bool}{r:Option Nat}(ho:o.op=.lookup T x y ok)(hd:dok cx o=true)(hxo:A5 x=true)(hyo:A5 y=true)(hx:σ.eval x=.row id)(hy:σ.eval y=k)(hl:σ.find id=some (.mp ps))
  (hT:lkT cx.E.tab T=some i) (hs:i.shape=.map kt et) (he:lkT cx.E.tab et=some ie) (hzo:Sd ie.zero=true) (hk:Bc cx.P kt k=true) (hf:Be k (ps.map (·.1)) 0=some r)
  (hav:Sub (F9 (Ek ie.zero) ps r) av):Ag cx o σ (S8 av r.isSome ok) [id] [] :=
 Ay hd fun τ γ a w h1 h2 hst=>by
  have ex:=hst.ev x hxo
  rw [h1 x (by simp [ho,Op.operands]),hx] at ex
  have ey:=hst.ev y hyo
  rw [h1 y (by simp [ho,Op.operands]),hy] at ey
  obtain ⟨g,hg,hv,hm⟩:=Rz hst (by rw [h2 id (by simp)];exact hl) ex
  obtain ⟨v,hv1,hv2⟩:=zef (S:=Sg cx.S0 cx.w0.heap.size γ) (zA:=Ek ie.zero) ok (Gv (cx.E.ok T i hT) hs) hk (ey.flat (Rm hk)) hm ((cx.E.ok et ie he).zeroV w) (Xq _ _ _ _ hzo) hf
  have hv1:Rep w (Sg cx.S0 cx.w0.heap.size γ) G0 (F9 (Ek ie.zero) ps r) v:=by cases r<;>exact hv1
  have hv1:=(hv1.open_ (γ':=γ)).sub hav
  refine ⟨(if ok then .tuple #[v,.bool r.isSome] else v),by simp only [execOp,ho,hv,Sem.run_bind,hv2,Result.andThen_ok,Sem.run_pure],?_⟩
  cases ok with
  |false=>exact hv1
  |true =>
   simp only [S8,if_true]
   refine .tup #[v,.bool r.isSome] rfl (fun j hj=>?_)
   have hj:j<2:=hj
   rcases j with _|_|j
   ·exact hv1
   ·exact .bool _
   ·omega
theorem zlf {x y z:Operand}{xv:AV}{ps':List (AV×AV)}{r:Option Nat}(ho:o.op=.mapUpdate T x y z\/o.op=.insert T x y z)(hd:dok cx o=true)(hxo:A5 x=true)(hyo:A5 y=true)(hzo:A5 z=true)(hx:σ.eval x=.row id)(hy:σ.eval y=k)(hz:σ.eval z=xv)(hl:σ.find id=some (.mp ps))
  (hT:lkT cx.E.tab T=some i) (hs:i.shape=.map kt et) (hk:Bc cx.P kt k=true) (hcl:xv.closed=true) (hf:Be k (ps.map (·.1)) 0=some r) (hps:SubM (putK r k xv ps) ps'):Ag cx o σ (.tup []) [id] [(id,.mp ps')]:=by
 refine ⟨fun id e he=>Co he,fun τ h1 h2 a w Q K ⟨γ,hst⟩ hK=>Bu (fun c hc=>by rcases ho with ho|ho<;>(rw [ho] at hc;cases hc)) ?_⟩
 have hmem:x∈o.op.operands/\y∈o.op.operands/\z∈o.op.operands:=by rcases ho with ho|ho<;>simp [ho,Op.operands]
 have ex:=hst.ev x hxo
 rw [h1 x hmem.1,hx] at ex
 have ey:=hst.ev y hyo
 rw [h1 y hmem.2.1,hy] at ey
 have ez:=hst.ev z hzo
 rw [h1 z hmem.2.2,hz] at ez
 obtain ⟨g,hg,hv,hm⟩:=Rz hst (by rw [h2 id (by simp)];exact hl) ex
 have hgo:own γ g:=own.mk hg
 have hgl:=hst.ge g hgo
 have hns:∀ b,Sg cx.S0 cx.w0.heap.size γ b->b≠g:=fun b hS e=>by
  subst e
  rcases hS with ⟨_,h⟩|⟨_,h⟩
  ·have:=hgl.1.1;omega
  ·exact h hgo
 obtain ⟨ob,hrun,hm'⟩:=ze0 (Gv (cx.E.ok T i hT) hs) hk (ey.flat (Rm hk)) (ez.close hcl) hm hf (fun hS=>hns g hS rfl)
 have hex:(execOp a.eval o).run cx.P w=.ok .skip { w with heap:=w.heap.setIfInBounds g ob }:=by
  rcases ho with ho|ho<;>simp only [execOp,ho,hv,Sem.run_bind,hrun,Result.andThen_ok,Sem.run_pure]
 unfold Oper.wp
 rw [hex]
 have hoth:∀ k,k≠g->({ w with heap:=w.heap.setIfInBounds g ob }:World).heap[k]? = w.heap[k]? := fun k hk=>by simp [aH,Ne.symm hk]
 have hz':w.heap.size<=({ w with heap:=w.heap.setIfInBounds g ob }:World).heap.size:=by simp
 have hdr:w.drawn<=({ w with heap:=w.heap.setIfInBounds g ob }:World).drawn:=aD _
 have hbel:Below cx.w0.heap.size w ({ w with heap:=w.heap.setIfInBounds g ob }:World):=⟨rfl,rfl,rfl,hz',fun k hk=>hoth k (by have:=hgl.1.1;omega)⟩
 generalize ({ w with heap:=w.heap.setIfInBounds g ob }:World)=w' at *
 refine hK _ _ ⟨γ,hst.step (Bm hd) hz' (fun b hS hlt=>⟨hoth b (hns b hS),hS⟩) (fun id d h=>aR h) (fun id' hid'=>⟨rfl,fun g' s hg' hmb=>hoth g' ?_⟩) (fun id' e' he'=>?_) hst.inj (fun b hbo=>⟨(hst.ge b hbo).1,aN (hst.ge b hbo).2 hz'⟩) (hst.below.trans hbel) (.tup #[] rfl (fun j hj=>absurd hj (by simp))) (fun b hno hlt=>⟨hoth b (fun e=>hno (e▸hgo)),hno⟩) (fun _=>hdr)⟩
 ·rintro rfl
  have:=hst.inj _ _ _ _ _ hg' hg hmb Bh
  subst this
  simp [lkE] at hid'
 ·have hid:id'=id:=by have:=Co he';simpa using this
  subst hid
  simp only [lkE,Nat.beq_refl,aB] at he'
  subst he'
  exact ⟨_,hg,g,rfl,hm'.sub hps⟩
theorem zqm {x:Operand}(ho:o.op=.call { callee:=.builtin .len,args:=#[x],argTypes:=#[T] })(hd:dok cx o=true)(hxo:A5 x=true)(hx:σ.eval x=.row id)(hl:σ.find id=some (.mp ps))(hT:lkT cx.E.tab T=some i)(hs:i.shape=.map kt et):Ag cx o σ (.int .i64 (ps.length:Int)) [id] [] :=
 Ay hd fun τ γ a w h1 h2 hst=>by
  have ex:=hst.ev x hxo
  rw [h1 x (by simp [ho,Op.operands,Call.operands]),hx] at ex
  obtain ⟨g,hg,hv,es,clock,hb,hl',_⟩:=Rz hst (by rw [h2 id (by simp)];exact hl) ex
  refine ⟨.int .i64 (ps.length:Int),?_,.int _ _⟩
  rw [<-hl']
  simp [execOp,ho,resolve,invoke,builtin,Builtin.len_,hv,run_underlying (Gv (cx.E.ok T i hT) hs),MapKept.run_getObj_map hb,goInt,pure,Result.andThen]
end
theorem zm0 {base n h:Nat}{cap:Nat}{vs:List Value}(hown:w.ownsRow base e sz (.slice (some ⟨g,0,none⟩) n cap) n vs)(hh:h<=n):w.ownsRow base e sz (.slice (some ⟨g,0,none⟩) h cap) h (vs.take (h*sz)):=by
 obtain ⟨h1,h2⟩:=hown
 have hle:h*sz<=n*sz:=aK _ hh
 refine ⟨by rw [aY];omega,?_⟩
 rcases h2 with ⟨hv,_⟩|⟨g',cap',cur,hv,hb,hc,hn,hm,hs,ht⟩
 ·cases hv
 ·injection hv with hv _ hcap
  injection hv with hv
  injection hv with hv
  subst hv
  subst hcap
  refine aS ⟨g,cap,cur,rfl,hb,hc,by omega,hm,hs,?_⟩
  rw [<-ht,take_take,Nat.min_eq_left hle]
section
variable {cx:Cx} {o:Oper} {σ:AS}
variable {hi:Option Operand}
theorem zkk {σ:AS}{a:Act}{n m:Nat}(hst:StG cx γ τ a w)(hhi:opdO hi=true)(h1:∀ y,hi=some y->τ.eval y=σ.eval y)(h2:bndA σ n hi=some (m:Int))(c:Nat)(code:BoundsCode)(hc:m<=c) :
  (match hi.map a.eval with|some v=>Instr.sliceBound v c code|none=>pure n:Sem Nat).run cx.P w=.ok m w:=by
 cases hi with
 |none=>simp only [bndA,aB] at h2;have:n=m:=by omega
        simp [this]
 |some y =>
  have he:=hst.ev y hhi
  rw [h1 y rfl] at he
  simp only [bndA] at h2
  cases hy:σ.eval y with
  |int k q =>
   rw [hy] at he h2
   simp only [aB] at h2
   subst h2
   simp only [aW,he.int_inv]
   exact Uw k m c _ hc
  |_=>rw [hy] at h2;simp at h2
variable {lo:Option Operand}
theorem Xm {σ:AS}{a:Act}{n l h c:Nat}(hst:StG cx γ τ a w)(hlo:opdO lo=true)(hhi:opdO hi=true)(e1:∀ y,lo=some y->τ.eval y=σ.eval y)(e2:∀ y,hi=some y->τ.eval y=σ.eval y)
  (h1:bndA σ 0 lo=some (l:Int)) (h2:bndA σ n hi=some (h:Int)) (hlh:l<=h) (hh:h<=c):(Instr.sliceBounds true n c (lo.map a.eval) (hi.map a.eval) none).run cx.P w=.ok (l,h,c) w:=by
 have b1:=zkk hst hhi e2 h2 c .sliceAcap hh
 have b2:=zkk hst hlo e1 h1 h .sliceB hlh
 unfold Instr.sliceBounds
 cases hq:hi.map a.eval with
 |none =>
  rw [hq] at b1
  simp only [Sem.run_pure,Result.ok.injEq,and_true] at b1
  subst b1
  cases hlo':lo.map a.eval with
  |none=>rw [hlo'] at b2;simp only [Sem.run_pure,Result.ok.injEq,and_true] at b2 ⊢;simp [b2]
  |some v=>rw [hlo'] at b2;simp only [bF,aE,if_false,Sem.run_bind,Sem.run_pure,b2,Result.andThen_ok]
 |some v =>
  rw [hq] at b1
  simp only [if_true,Sem.run_bind,Sem.run_pure,Result.andThen_ok,b1] at b1 ⊢
  cases hlo':lo.map a.eval with
  |none=>rw [hlo'] at b2;simp only [Sem.run_pure,Result.ok.injEq,and_true] at b2 ⊢;simp [b2]
  |some v=>rw [hlo'] at b2;simp only [bF,aE,if_false,Sem.run_bind,Sem.run_pure,b2,Result.andThen_ok]
variable {T:Nat}
theorem zb5 {x:Operand}(ho:o.op=.slice T x lo hi none):x∈o.op.operands/\(∀ y,lo=some y->y∈o.op.operands)/\∀ y,hi=some y->y∈o.op.operands:=by
 refine ⟨by simp [ho,Op.operands],fun y hy=>?_,fun y hy=>?_⟩<;>subst hy<;>simp [ho,Op.operands]
variable {esz eb:Nat}
theorem zhw {x:Operand}(ho:o.op=.slice T x lo hi none)(hd:dok cx o=true)(hxo:A5 x=true)(hlo:opdO lo=true)(hhi:opdO hi=true)(hx:σ.eval x=.nils)(hT:lkT cx.E.tab T=some i)(hs:i.shape=.slc e esz eb)(hz:esz≠0)
  (h1:bndA σ 0 lo=some 0) (h2:bndA σ 0 hi=some 0):Ag cx o σ .nils [] [] :=
 Ay hd fun τ γ a w hh1 hh2 hst=>by
  obtain ⟨m1,m2,m3⟩:=zb5 ho
  have hev:=hst.ev x hxo
  rw [hh1 x m1,hx] at hev
  obtain ⟨hu,hce,_⟩:=Ce (cx.E.ok T i hT) hs
  have hsz:=Ei hce hz w
  have hB:=Xm (σ:=σ) (l:=0) (h:=0) (c:=0) (n:=0) hst hlo hhi (fun y hy=>hh1 y (m2 y hy)) (fun y hy=>hh1 y (m3 y hy)) h1 h2 (aD _) (aD _)
  refine ⟨.slice none 0 0,?_,.nils⟩
  simp [execOp,ho,hev.nils_inv,Instr.sliceAt,Instr.slice,run_underlying hu,hB,hsz,pure]
theorem zp1 {x:Operand}(ho:o.op=.call { callee:=.builtin .cap,args:=#[x],argTypes:=#[T] })(hd:dok cx o=true)(hxo:A5 x=true)(hx:σ.eval x=.nils)(hT:lkT cx.E.tab T=some i)(hs:i.shape=.slc e esz eb):Ag cx o σ (.int .i64 0) [] [] :=
 Ay hd fun τ γ a w h1 h2 hst=>by
  have hev:=hst.ev x hxo
  rw [h1 x (by simp [ho,Op.operands,Call.operands]),hx] at hev
  obtain ⟨hu,_,_⟩:=Ce (cx.E.ok T i hT) hs
  exact ⟨.int .i64 0,by simp [execOp,ho,resolve,invoke,builtin,Builtin.cap_,hev.nils_inv,run_underlying hu,goInt,pure],.int _ _⟩
theorem zle {id d h:Nat}{x:Operand}(ho:o.op=.slice T x lo hi none)(hdst:o.dst=some d)(hd:dok cx o=true)(hxo:A5 x=true)(hlo:opdO lo=true)(hhi:opdO hi=true)(hx:σ.eval x=.row id)(hT:lkT cx.E.tab T=some i)(hs:i.shape=.slc e esz eb)(hz:esz≠0)
  (hl:σ.find id=some (.row ty esz xs)) (hn:σ.find d=none) (hne:id≠d) (h1:bndA σ 0 lo=some 0) (h2:bndA σ xs.length hi=some (h:Int)) (hh:h<=xs.length):Ag cx o σ (.row d) [d,id] [(d,.row ty esz (xs.take h)),(id,.dead)]:=by
 refine ⟨fun i e he=>?_,fun τ hh1 hh2 a w Q K ⟨γ,hst⟩ hK=>Bu (fun c hc=>by rw [ho] at hc;cases hc) ?_⟩
 ·simp only [lkE] at he
  cases hb:aG d i with
  |true=>simp [aA hb]
  |false =>
   rw [hb] at he
   cases hb2:aG id i with
   |true=>simp [aA hb2]
   |false=>rw [hb2] at he;cases he
 obtain ⟨m1,m2,m3⟩:=zb5 ho
 have hev:=hst.ev x hxo
 rw [hh1 x m1,hx] at hev
 obtain ⟨hu,hce,_⟩:=Ce (cx.E.ok T i hT) hs
 have hsz:=Ei hce hz w
 have hme:=hst.me id
 rw [hh2 id (by simp),hl] at hme
 obtain ⟨dd,hd',s,us,hde,hone1,hown,hlen,hre,hone⟩:=hme
 subst hde
 have hγd:γ d=none:=by have:=hst.me d;rw [hh2 d (by simp),hn] at this;exact this
 have hnS:∀ b,Sg cx.S0 cx.w0.heap.size γ b->s.ownBlock≠some b:=fun b hb e=>by
  have ho':own γ b:=⟨id,_,hd',by rw [e];exact Bh⟩
  rcases hb with ⟨_,hb⟩|⟨_,hb⟩
  ·have:=(hst.ge b ho').1.1;omega
  ·exact hb ho'
 have hlt:(xs.take h).length=h:=by rw [aY];omega
 -- the slice's form
 have key:∃ v' us',(Instr.sliceAt T s (lo.map a.eval) (hi.map a.eval) none).run cx.P w=.ok v' w/\w.ownsRow cx.w0.heap.size ty esz v' h us'/\v'.ownBlock=s.ownBlock/\us'=us.take (h*esz):=by
  rcases hown.2 with ⟨hv,h0⟩|⟨g,cap,cur,hv,_,_,hn2,_⟩
  ·have hx0:xs.length=0:=h0
   have hh0:h=0:=by omega
   subst hh0
   have hB:=Xm (σ:=σ) (l:=0) (h:=0) (c:=0) (n:=0) hst hlo hhi (fun y hy=>hh1 y (m2 y hy)) (fun y hy=>hh1 y (m3 y hy)) h1 (by rw [hx0] at h2;exact h2) (aD _) (aD _)
   refine ⟨.slice none 0 0,us.take (0*esz),?_,by rw [Nat.zero_mul,take_zero];exact World.ownsRow_nil w _ _ _,by rw [hv],rfl⟩
   rw [hv]
   simp [Instr.sliceAt,Instr.slice,run_underlying hu,hB,hsz,pure]
  ·have hB:=Xm (σ:=σ) (l:=0) (h:=h) (c:=cap) (n:=xs.length) hst hlo hhi (fun y hy=>hh1 y (m2 y hy)) (fun y hy=>hh1 y (m3 y hy)) h1 h2 (Nat.zero_le _) (by omega)
   have hown':=hown
   rw [hv] at hown'
   refine ⟨.slice (some ⟨g,0,none⟩) h cap,_,?_,zm0 hown' hh,by rw [hv];rfl,rfl⟩
   rw [hv]
   simp [Instr.sliceAt,Instr.slice,run_underlying hu,hB,hsz,pure,Addr.add_lit]
 obtain ⟨v',us',hrun,hown',hvb,hus⟩:=key
 have hex:(execOp a.eval o).run cx.P w=.ok (.value v') w:=by
  simp only [execOp,ho,hev.row_inv hd',bI,Sem.run_bind,hrun,Result.andThen_ok,Sem.run_pure]
 unfold Oper.wp
 rw [hex]
 refine hK _ _ (zqd (v':=v') (us':=us') hst (fun _=>aD _) hd' hγd hne (Bm hd) (World.grownBy.refl _ _) (by rw [hlt];exact hown') (fun b hb=>aR (hvb▸hb)) (fun k hk=>?_) (fun k hk j hj=>?_) (fun u hu=>?_) (fun γ' hγ'=>?_))
 ·rw [aV];exact hlen k _
 ·have hk':k<h:=by omega
  have hk2:k<xs.length:=by omega
  simp only [aV] at hj ⊢
  have hj':j<esz:=by rw [<-hlen k hk2];exact hj
  have hlt2:k*esz+j<h*esz:=by
   have:(k+1)*esz<=h*esz:=aK _ hk'
   rw [bN] at this
   omega
  rw [hus,aJ,getElem?_take_of_lt hlt2,<-aJ]
  exact (hre k hk2 j hj).mono (aD _) (fun b hb _=>⟨rfl,aR hb,by rw [hvb];exact hnS b hb⟩)
 ·rw [hus] at hu;exact hone u (mem_of_mem_take hu)
 ·exact .row hγ' (fun g s e _=>by injection e with e;injection e with _ e)
end
end Go.Proofs.YthbogefcfhmpgaaGreat
