/- The abstract walk, before its evaluator. -/
import Derived.Test.YtidhlpjgifoneaaGreatK07
import Derived.Laws.OwnMore
set_option linter.unusedVariables false
set_option linter.unusedSimpArgs false
namespace Go.Proofs.YtidhlpjgifoneaaGreat
open Go.RowKit List
theorem SubL.refl:∀ l:List AV,SubL l l
 |[]=>.nil
 |x::l=>.cons (.refl x) (SubL.refl l)
inductive SubR:List AV->List AV->Prop
 |nil:SubR [] []
 |cons {x y:AV} {r s:List AV} (h:SubL x.cells y.cells) (hr:SubR r s):SubR (x::r) (y::s)
theorem SubR.refl:∀ l:List AV,SubR l l
 |[]=>.nil
 |x::l=>.cons (.refl _) (SubR.refl l)
variable {a b:List AV}
theorem SubR.append {c d:List AV}(h:SubR a b)(k:SubR c d):SubR (a++c) (b++d):=by
 induction h with
 |nil=>exact k
 |cons h _ ih=>exact .cons h ih
theorem SubR.len (h:SubR a b):a.length=b.length:=by
 induction h with
 |nil=>rfl
 |cons h _ ih=>simp [ih]
theorem SubR.at (h:SubR a b)(i:Nat)(hi:i<a.length)(hi':i<b.length):SubL a[i].cells b[i].cells:=by
 induction h generalizing i with
 |nil=>simp at hi
 |cons h _ ih =>
  cases i with
  |zero=>exact h
  |succ i=>exact ih i (by simpa using hi) (by simpa using hi')
theorem SubR.replicate {x y:AV}(h:SubL x.cells y.cells)(n:Nat):SubR (replicate n x) (replicate n y):=by
 induction n with
 |zero=>exact .nil
 |succ n ih=>exact .cons h ih
theorem SubR.set {x y:AV}(h:SubL x.cells y.cells):∀ (l:List AV) (n:Nat),SubR (l.set n x) (l.set n y)
 |[],_=>.nil
 |z::l,0=>.cons h (.refl l)
 |z::l,n+1=>.cons (.refl _) (SubR.set h l n)
inductive SubM:List (AV×AV)->List (AV×AV)->Prop
 |nil:SubM [] []
 |cons (k:AV) {x y:AV} {r s:List (AV×AV)} (h:Sub x y) (hr:SubM r s):SubM ((k,x)::r) ((k,y)::s)
theorem SubM.refl:∀ l:List (AV×AV),SubM l l
 |[]=>.nil
 |(k,x)::l=>.cons k (.refl x) (SubM.refl l)
theorem SubM.append {a b c d:List (AV×AV)}(h:SubM a b)(k:SubM c d):SubM (a++c) (b++d):=by
 induction h with
 |nil=>exact k
 |cons k h _ ih=>exact .cons k h ih
theorem SubM.set {k x y:AV}(h:Sub x y):∀ (l:List (AV×AV)) (n:Nat),SubM (l.set n (k,x)) (l.set n (k,y))
 |[],_=>.nil
 |_::l,0=>.cons k h (.refl l)
 |(k',z)::l,n+1=>.cons k' (.refl _) (SubM.set h l n)
theorem SubM.at {a b:List (AV×AV)}(h:SubM a b):a.length=b.length/\∀ (i:Nat) (hi:i<a.length) (hi':i<b.length),a[i].1=b[i].1/\Sub a[i].2 b[i].2:=by
 induction h with
 |nil=>exact ⟨rfl,fun i hi=>absurd hi (by simp)⟩
 |cons k h _ ih =>
  refine ⟨by simp [ih.1],fun i hi hi'=>?_⟩
  cases i with
  |zero=>exact ⟨rfl,h⟩
  |succ i=>exact ih.2 i (by simpa using hi) (by simpa using hi')
variable {w:World}{S:Nat->Prop}
theorem ztl.sub {g:Nat}{ps qs:List (AV×AV)}(h:ztl w S g ps)(hs:SubM ps qs):ztl w S g qs:=by
 obtain ⟨es,clock,h1,h2,hbn,h3⟩:=h
 obtain ⟨s1,s2⟩:=hs.at
 refine ⟨es,clock,h1,h2.trans s1,hbn,fun j q q'=>?_⟩
 have q0:j<ps.length:=by omega
 obtain ⟨e1,e2⟩:=s2 j q0 q'
 obtain ⟨r1,r2⟩:=h3 j q q0
 exact ⟨e1▸r1,r2.sub e2⟩
inductive zwf:Ent->Ent->Prop
 |refl (e:Ent):zwf e e
 |box (ty:Nat) {cs ds:List AV} (h:SubL cs ds):zwf (.box ty cs) (.box ty ds)
 |row (ty sz:Nat) {xs ys:List AV} (h:SubR xs ys):zwf (.row ty sz xs) (.row ty sz ys)
 |mp {ps qs:List (AV×AV)} (h:SubM ps qs):zwf (.mp ps) (.mp qs)
variable {γ:Gam}
theorem zwf.rep {B:Nat}{d:Option (Option Nat×Value)}{e e':Ent}(h:z8s w S γ B d e)(hs:zwf e e'):z8s w S γ B d e':=by
 cases hs with
 |refl=>exact h
 |mp hs =>
  obtain ⟨g,h1,h2⟩:=h
  exact ⟨g,h1,h2.sub hs⟩
 |box ty hs =>
  obtain ⟨g,vs,h1,h2,h3,h4,h5⟩:=h
  exact ⟨g,vs,h1,h2,by rw [h3,hs.len],fun i hi=>(h4 i (by rw [hs.len];exact hi)).sub (hs.at i _ hi),h5⟩
 |row ty sz hs =>
  obtain ⟨s,vs,h1,h2,h3,h4,h5,h6⟩:=h
  refine ⟨s,vs,h1,h2,by rw [<-hs.len];exact h3,fun k hk=>?_,fun k hk j hj=>?_,h6⟩
  ·have hk':=hk
   rw [<-hs.len] at hk'
   rw [<-(hs.at k hk' hk).len]
   exact h4 k hk'
  ·have hk':=hk
   rw [<-hs.len] at hk'
   have hc:=hs.at k hk' hk
   have hj':=hj
   rw [<-hc.len] at hj'
   exact (h5 k hk' j hj').sub (hc.at j hj' hj)
inductive yc0:List (Nat×Ent)->List (Nat×Ent)->Prop
 |nil:yc0 [] []
 |cons (i:Nat) {e e':Ent} {r s:List (Nat×Ent)} (h:zwf e e') (hr:yc0 r s):yc0 ((i,e)::r) ((i,e')::s)
variable {r s:List (Nat×Ent)}
theorem yc0.lk (h:yc0 r s)(i:Nat):(lkE r i=none/\lkE s i=none)\/∃ e e',lkE r i=some e/\lkE s i=some e'/\zwf e e':=by
 induction h with
 |nil=>exact Or.inl ⟨rfl,rfl⟩
 |cons j h _ ih =>
  simp only [lkE]
  cases Nat.beq j i with
  |true=>exact Or.inr ⟨_,_,rfl,rfl,h⟩
  |false=>exact ih
variable {τ:AS}{dst:Option Nat}{av:AV}
theorem St.subW {cx:Cx}{a:Act}(h:yc0 r s)(k:St cx (τ.upd dst av r) a w):St cx (τ.upd dst av s) a w:=by
 obtain ⟨γ,k⟩:=k
 refine ⟨γ,fun t=>?_,fun i=>?_,k.inj,k.ge,k.below,k.size,k.defers,k.gh,k.fr,k.dr⟩
 ·have:=k.tm t
  rw [AS.get_upd] at this ⊢
  exact this
 ·have:=k.me i
  rw [AS.find_upd] at this ⊢
  rcases h.lk i with ⟨h1,h2⟩|⟨e,e',h1,h2,h3⟩
  ·rw [h1] at this;rw [h2];exact this
  ·rw [h1] at this
   rw [h2]
   obtain ⟨d,hd,he⟩:=this
   exact ⟨d,hd,h3.rep he⟩
theorem z11.weak {cx:Cx}{o:Oper}{σ:AS}{ids:List Nat}(h:yc0 r s)(k:z11 cx o σ av ids r):z11 cx o σ av ids s:=by
 refine ⟨fun id e he=>?_,fun τ h1 h2 a w Q K hst hK=>k.2 τ h1 h2 a w Q K hst (fun a' w' hst'=>hK a' w' (hst'.subW h))⟩
 rcases h.lk id with ⟨_,h2⟩|⟨e,e',h1,_,_⟩
 ·rw [h2] at he;cases he
 ·exact k.1 id e h1
def scA:AV->Bool
 |.agg _=>false
 |_=>true
def zq2 (ie:TyI):AV:=match ie.shape.agg with
 |true=>.agg (ie.zero.cells.toList.map AV.ofV)
 |false=>(ie.zero.cells.toList.map AV.ofV).headD .any
def zvq (ie:TyI):Bool:=Nat.beq ie.zero.cells.size ie.sz && (ie.shape.agg || (Nat.beq ie.sz 1 && scA (zq2 ie)))
theorem zsx {ie:TyI}(h:zvq ie=true):(zq2 ie).cells=ie.zero.cells.toList.map AV.ofV/\ie.zero.cells.size=ie.sz:=by
 unfold zvq at h
 simp only [Bool.and_eq_true,Bool.or_eq_true] at h
 obtain ⟨h1,h2⟩:=h
 have h1:=Nat.eq_of_beq_eq_true h1
 refine ⟨?_,h1⟩
 unfold zq2 at *
 cases ha:ie.shape.agg with
 |true=>rfl
 |false =>
  rw [ha] at h2
  simp only [Bool.false_eq_true,false_or] at h2
  have h3:=Nat.eq_of_beq_eq_true h2.1
  have h4:=h2.2
  generalize hz:ie.zero.cells.toList=z at *
  have hl:z.length=1:=by rw [<-hz];simp;omega
  match z,hl with
  |[x],_ =>
   simp only [map_cons,map_nil,headD_cons] at h4 ⊢
   cases hx:AV.ofV x<;>first|rfl|(rw [hx] at h4;simp [scA] at h4)
section
variable {cx:Cx} {σ:AS} {o:Oper}
theorem y9v {T d e esz eb:Nat}{x y:Operand}{i ie:TyI}{k k':IntKind}{n:Int}{m:Nat}(ho:o.op=.makeSlice T x y)(hdst:o.dst=some d)(hd:dok cx o=true)(hxo:z0r x=true)(hyo:z0r y=true)(hx:σ.eval x=.int k n)(hy:σ.eval y=.int k' n)
  (hT:lkT cx.E.tab T=some i) (hs:i.shape=.slc e esz eb) (he:lkT cx.E.tab e=some ie) (hz:esz≠0) (hzo:zvq ie=true) (hone:ie.zero.cells.all (·.oneCell')=true) (hn:σ.find d=none) (hm:n=(m:Int)) (h1:m<=1099511627776) (h2:ie.bytes*m<=281474976710656)
  (hdr0:cx.E.dr=false):z11 cx o σ (.row d) [d] [(d,.row e esz (replicate m (zq2 ie)))]:=by
 refine ⟨fun id e he=>?_,fun τ q1 q2 a w Q K ⟨γ,hst⟩ hK=>zhj (fun c hc=>by rw [ho] at hc;cases hc) ?_⟩
 ·simp only [lkE] at he
  cases hb:Nat.beq d id with
  |true=>simp [Nat.eq_of_beq_eq_true hb]
  |false=>rw [hb] at he;cases he
 have ex:=hst.ev x hxo
 rw [q1 x (by simp [ho,Op.operands]),hx] at ex
 have ey:=hst.ev y hyo
 rw [q1 y (by simp [ho,Op.operands]),hy] at ey
 obtain ⟨hu,hce,_⟩:=zey (cx.E.ok T i hT) hs
 have hok:=cx.E.ok e ie he
 obtain ⟨info,hi,hi1,hi2,hi3⟩:=hok.both
 have hsz:ie.sz=esz:=hok.cells.symm.trans hce
 obtain ⟨hzc,hzs⟩:=zsx hzo
 subst hm
 obtain ⟨w',hrun,hown,hgr⟩:=run_make_full (P:=cx.P) w w.heap.size T e info ie.zero esz hu hi hi3 (hi1.trans hsz) k k' m (by rw [hi2];exact h2) (by unfold maxLen;omega) (Nat.le_refl _)
 unfold Oper.wp
 have hex:(execOp a.eval o).run cx.P w=.ok (.value (.slice (some ⟨w.heap.size,0,none⟩) m m)) w':=by
  simp only [execOp,ho,ex.int_inv,ey.int_inv,Sem.run_bind,hrun,Result.andThen_ok,Sem.run_pure]
 rw [hex]
 refine hK _ _ ?_
 rw [hdst]
 have hcl:(zq2 ie).cells.length=esz:=by rw [hzc,length_map,Array.length_toList,hzs,hsz]
 have hget:∀ q j,q<m->j<esz->(madeCells ie.zero.cells (m*esz)).toList.getD (q*esz+j) undef=ie.zero.cells.getD j undef:=fun q j hq hj=>by
  have hlt:q*esz+j<m*esz:=by
   have:(q+1)*esz<=m*esz:=Nat.mul_le_mul_right _ hq
   rw [Nat.succ_mul] at this
   omega
  have hmod:(q*esz+j) % ie.zero.cells.size=j:=by
   rw [hzs,hsz,Nat.mul_comm,Nat.mul_add_mod,Nat.mod_eq_of_lt hj]
  rw [getD_eq_getElem?_getD]
  have hj':j<ie.zero.cells.size:=by omega
  simp [madeCells,hlt,hmod,Array.getD,hj']
 have hall:∀ v∈ie.zero.cells,v.oneCell'=true:=by
  rw [Array.all_eq_true_iff_forall_mem] at hone
  exact hone
 refine zyo (v:=.slice (some ⟨w.heap.size,0,none⟩) m m) (us:=(madeCells ie.zero.cells (m*esz)).toList) hst (fun h=>absurd (hdr0.symm.trans h) (by simp)) (by rw [q2 d (by simp),hn]) (fun x hx=>by injection hx with hx;subst hx;exact z9f hd _ hdst) ((Below.refl _ _).grown hgr (Nat.le_refl _) (fun k h=>by cases h))
  (by rw [length_replicate];exact hown) (fun q hq=>by rw [getElem_replicate];exact hcl) (fun q hq j hj=>?_) (fun u hu=>?_)
  (fun hS=>.row (Gam.set_self _ _ _) (fun g s e _=>by injection e with e;injection e with _ e))
 ·have hq':q<m:=by simpa using hq
  rw [getElem_replicate] at hj
  have hj':j<esz:=by omega
  rw [hget q j hq' hj']
  simp only [getElem_replicate,hzc,getElem_map]
  have hj2:j<ie.zero.cells.size:=by omega
  have:ie.zero.cells.getD j undef=ie.zero.cells[j]:=by simp [Array.getD,hj2]
  rw [this]
  simpa using zt2 _ _ _ (ie.zero.cells[j])
 ·obtain ⟨q,hq,rfl⟩:=mem_iff_getElem.1 hu
  have hq':q<m*esz:=by simpa [size_madeCells] using hq
  have hpos:0<ie.zero.cells.size:=by omega
  have hmod:=Nat.mod_lt q hpos
  simp only [madeCells,Array.toList_map,getElem_map,Array.getElem_toList,Array.getElem_range]
  rw [getElem!_pos ie.zero.cells _ hmod]
  exact hall _ (Array.getElem_mem _)
end
inductive FK
 |int
 |bool
 |str
 |no
def fkA:AV->FK
 |.int _ _=>.int
 |.bool _=>.bool
 |.str _=>.str
 |_=>.no
def fkT:FK->Option TypeDesc->Bool
 |.int,some (.int _)=>true
 |.bool,some .bool=>true
 |.str,some .string=>true
 |_,_=>false
def eq1:AV->AV->Option Bool
 |.int k a,.int k' b=>match decide (k=k') with
  |true=>some (decide (a=b))
  |false=>none
 |.bool a,.bool b=>some (a == b)
 |.str a,.str b=>some (a.toList == b.toList)
 |_,_=>none
def eqL:List AV->List AV->Option Bool
 |[],[]=>some true
 |a::r,b::s=>match eq1 a b,eqL r s with
  |some c,some c'=>some (c && c')
  |_,_=>none
 |_,_=>none
def zib (P:Program):Nat->List AV->List Field->Bool
 |_,[],[]=>true
 | n, a :: cs, f :: r => decide (f.name ≠ "_") && (Nat.beq f.offset n && (fkT (fkA a) (P.underlying f.type) && zib P (n + 1) cs r))
 |_,_,_=>false
def yfd (P:Program)(t:TypeId)(cs:List AV):Option Nat:=match P.underlying t,P.info? t with
 |some (.struct gs),some i=>if (Nat.beq i.size gs.size && (!P.stoodInHeld t && (Nat.ble gs.size cs.length && zib P 0 (cs.take gs.size) gs.toList)))=true then some gs.size else none
 |_,_=>none
def hdB (P:Program)(t:TypeId)(k:List AV->Bool):List AV->Bool
 |a::cs=>fkT (fkA a) (P.underlying t) && k cs
 |[]=>false
def zyw (P:Program):Nat->List AV->List Field->Bool
 |_,[],[]=>true
 |_,_::_,[]=>false
 | n, cs, f :: r => decide (f.name ≠ "_") && (Nat.beq f.offset n && (match yfd P f.type cs with
    |some k=>zyw P (n+k) (cs.drop k) r
    |none=>hdB P f.type (fun cs=>zyw P (n+1) cs r) cs))
def ye4 (P:Program)(t:TypeId)(cs:List AV):Bool:=!P.stoodInHeld t && (!P.eqGuardType P.depth t && (match P.underlying t with|some (.struct fs)=>zyw P 0 cs fs.toList|_=>false))
section
variable {P:Program} {w0:World} {S:Nat->Prop} {γ:Gam}
variable {t:TypeId}
theorem zva {a:AV}(h:fkT (fkA a) (P.underlying t)=true):∃ d,P.underlying t=some d/\((∃ k n k',a=.int k n/\d=.int k')\/(∃ b,a=.bool b/\d=.bool)\/∃ s,a=.str s/\d=.string):=by
 cases hu:P.underlying t with
 |none=>rw [hu] at h;cases ha:fkA a<;>rw [ha] at h<;>cases h
 |some d =>
  rw [hu] at h
  refine ⟨d,rfl,?_⟩
  cases a<;>simp only [fkA] at h<;>cases d<;>simp [fkT] at h<;>simp
variable {xs:Array Value}
theorem ziv {a:AV}{off:Nat}(ht:fkT (fkA a) (P.underlying t)=true)(h:off<xs.size):(part t xs off).run P w=.ok (xs.getD off undef) w:=by
 have hx:xs[off]? = some (xs.getD off undef):=by simp [Array.getD,h]
 generalize xs.getD off undef=v at *
 obtain ⟨d,hu,hd⟩:=zva ht
 rcases hd with ⟨_,_,_,_,rfl⟩|⟨_,_,rfl⟩|⟨_,_,rfl⟩<;>simp [part,isAgg,run_underlying hu,hx]
theorem zz6 (d:Nat){a b:AV}{va vb:Value}{c:Bool}(ht:fkT (fkA a) (P.underlying t)=true)(he:eq1 a b=some c)(ha:Rep w0 S γ a va)(hb:Rep w0 S γ b vb):(Op.equalIn (d+1) t va vb).run P w=.ok c w:=by
 obtain ⟨dd,hu,hd⟩:=zva ht
 rcases hd with ⟨k,n,k',rfl,rfl⟩|⟨x,rfl,rfl⟩|⟨x,rfl,rfl⟩
 ·cases b<;>simp only [eq1,reduceCtorEq] at he
  split at he
  ·rename_i hk
   injection he with he
   have hk:=of_decide_eq_true hk
   subst hk
   rw [ha.int_inv,hb.int_inv,run_equalIn_int w d t _ k' _ _ hu,<-he]
   rfl
  ·cases he
 ·cases b<;>simp only [eq1,reduceCtorEq] at he
  injection he with he
  rw [ha.bool_inv,hb.bool_inv,run_equalIn_bool' w d t _ _ hu,<-he]
 ·cases b<;>simp only [eq1,reduceCtorEq] at he
  injection he with he
  rw [ha.str_inv,hb.str_inv,run_equalIn_string w d t _ _ hu,<-he]
theorem zqj {w:World}(d:Nat)(xs ys:Array Value):∀ (fs:List Field) (cs ds:List AV) (n:Nat) (c:Bool),zib P n cs fs=true->eqL cs ds=some c->n+cs.length<=xs.size->n+ds.length<=ys.size ->
  (∀ i (hi:i<cs.length),Rep w0 S γ cs[i] (xs.getD (n+i) undef))->(∀ i (hi:i<ds.length),Rep w0 S γ ds[i] (ys.getD (n+i) undef))->(Op.eqFields (d+1) xs ys fs).run P w=.ok c w
 |[],[],ds,n,c,_,he,_,_,_,_=>by
  cases ds with
  |nil=>simp only [eqL,Option.some.injEq] at he;subst he;simp [Op.eqFields]
  |cons=>simp [eqL] at he
 |f::fs,[],ds,n,c,hf,_,_,_,_,_=>by simp [zib] at hf
 |[],a::cs,ds,n,c,hf,_,_,_,_,_=>by simp [zib] at hf
 |f::fs,a::cs,[],n,c,hf,he,_,_,_,_=>by simp [eqL] at he
 |f::fs,a::cs,b::ds,n,c,hf,he,h3,h4,hx,hy=>by
  simp only [zib,Bool.and_eq_true,decide_eq_true_eq] at hf
  obtain ⟨f1,f2,f3,f4⟩:=hf
  have f2:=Nat.eq_of_beq_eq_true f2
  simp only [length_cons] at h3 h4
  have ha:Rep w0 S γ a (xs.getD n undef):=hx 0 (by simp)
  have hb:Rep w0 S γ b (ys.getD n undef):=hy 0 (by simp)
  unfold eqL at he
  split at he
  ·rename_i r c' hr hc
   injection he with he
   have ih:=zqj (w:=w) d xs ys fs cs ds (n+1) c' f4 hc (by omega) (by omega)
    (fun i hi=>by have:=hx (i+1) (by simpa using hi);rw [show n+1+i=n+(i+1) by omega];simpa using this)
    (fun i hi=>by have:=hy (i+1) (by simpa using hi);rw [show n+1+i=n+(i+1) by omega];simpa using this)
   have hp : f.name ≠ "_" := by simpa using f1
   have fb:(part f.type ys n).run P w=.ok (ys.getD n undef) w:=by
    obtain ⟨dd,hu,hd⟩:=zva f3
    have hy':ys[n]? = some (ys.getD n undef):=by simp [Array.getD,show n<ys.size by omega]
    generalize ys.getD n undef=v at *
    rcases hd with ⟨_,_,_,_,rfl⟩|⟨_,_,rfl⟩|⟨_,_,rfl⟩<;>simp [part,isAgg,run_underlying hu,hy']
   unfold Op.eqFields
   rw [if_pos hp,f2]
   rw [Sem.run_bind,ziv f3 (show n<xs.size by omega),Result.andThen_ok,Sem.run_bind,fb,Result.andThen_ok,Sem.run_bind,zz6 d f3 hr ha hb,Result.andThen_ok]
   subst he
   cases r
   ·rfl
   ·simpa using ih
  ·cases he
theorem y7s:∀ (k:Nat) {cs ds:List AV} {c:Bool},eqL cs ds=some c->k<=cs.length->∃ c1 c2,eqL (cs.take k) (ds.take k)=some c1/\eqL (cs.drop k) (ds.drop k)=some c2/\c=(c1 && c2)/\k<=ds.length
 |0,cs,ds,c,h,_=>⟨true,c,by simp [eqL],by simpa using h,by simp,Nat.zero_le _⟩
 |k+1,[],ds,c,h,hk=>by simp at hk
 |k+1,a::cs,[],c,h,hk=>by simp [eqL] at h
 |k+1,a::cs,b::ds,c,h,hk=>by
  unfold eqL at h
  split at h
  ·rename_i r c' hr hc
   injection h with h
   obtain ⟨c1,c2,e1,e2,e3,e4⟩:=y7s k hc (by simpa using hk)
   refine ⟨r && c1,c2,?_,by simpa using e2,by rw [<-h,e3,Bool.and_assoc],by simpa using e4⟩
   simp only [take_succ_cons]
   unfold eqL
   rw [hr,e1]
  ·cases h
theorem yoh (d:Nat){ys:Array Value}{n k:Nat}{cs ds:List AV}{c:Bool}(hk:yfd P t cs=some k)(he:eqL (cs.take k) (ds.take k)=some c)(h3:n+k<=xs.size)(h4:n+k<=ys.size)(hkc:k<=cs.length)(hkd:k<=ds.length)
  (hx:∀ i (hi:i<cs.length),Rep w0 S γ cs[i] (xs.getD (n+i) undef)) (hy:∀ i (hi:i<ds.length),Rep w0 S γ ds[i] (ys.getD (n+i) undef)) :
  (part t xs n).run P w=.ok (.agg (xs.extract n (n+k))) w/\(part t ys n).run P w=.ok (.agg (ys.extract n (n+k))) w/\(Op.equalIn (d+2) t (.agg (xs.extract n (n+k))) (.agg (ys.extract n (n+k)))).run P w=.ok c w:=by
 unfold yfd at hk
 split at hk
 rotate_left
 ·cases hk
 rename_i gs i hu hi
 split at hk
 rotate_left
 ·cases hk
 rename_i hb
 injection hk with hk
 subst hk
 simp only [Bool.and_eq_true,Bool.not_eq_true'] at hb
 obtain ⟨b1,b2,b3,b4⟩:=hb
 have b1:=Nat.eq_of_beq_eq_true b1
 have hsz:(sizeOf t).run P w=.ok gs.size w:=by simp [sizeOf,typeInfo,hi,b1]
 have hag:(isAgg t).run P w=.ok true w:=by simp [isAgg,run_underlying hu]
 have hp:∀ zs:Array Value,(part t zs n).run P w=.ok (.agg (zs.extract n (n+gs.size))) w:=fun zs=>by
  unfold part
  rw [Sem.run_bind,hag,Result.andThen_ok,if_pos rfl,Sem.run_bind,hsz,Result.andThen_ok]
  rfl
 have hfs:P.fieldsOf t=gs:=by simp [Program.fieldsOf,hu]
 refine ⟨hp xs,hp ys,?_⟩
 rw [show d+2=(d+1)+1 from rfl,run_equalIn_agg w (d+1) t _ _ (by rw [hfs];exact hu) b2,hfs]
 have gd:∀ (zs:Array Value),n+gs.size<=zs.size->∀ i,i<gs.size->(zs.extract n (n+gs.size)).getD (0+i) undef=zs.getD (n+i) undef:=fun zs hz i hi=>by
  rw [Array.getD_eq_getD_getElem?,Array.getD_eq_getD_getElem?,Array.getElem?_extract,Nat.zero_add]
  rw [if_pos (by omega)]
 refine zqj (w0:=w0) (S:=S) (γ:=γ) d _ _ gs.toList (cs.take gs.size) (ds.take gs.size) 0 c b4 he (by simp;omega) (by simp;omega) (fun i hi=>?_) (fun i hi=>?_)
 ·rw [length_take] at hi
  rw [gd xs h3 i (by omega),getElem_take]
  exact hx i (by omega)
 ·rw [length_take] at hi
  rw [gd ys h4 i (by omega),getElem_take]
  exact hy i (by omega)
theorem zoh {w:World}(d:Nat)(xs ys:Array Value):∀ (fs:List Field) (cs ds:List AV) (n:Nat) (c:Bool),zyw P n cs fs=true->eqL cs ds=some c->n+cs.length<=xs.size->n+ds.length<=ys.size ->
  (∀ i (hi:i<cs.length),Rep w0 S γ cs[i] (xs.getD (n+i) undef))->(∀ i (hi:i<ds.length),Rep w0 S γ ds[i] (ys.getD (n+i) undef))->(Op.eqFields (d+2) xs ys fs).run P w=.ok c w
 |[],cs,ds,n,c,hf,he,_,_,_,_=>by
  cases cs with
  |cons a cs=>simp [zyw] at hf
  |nil =>
   cases ds with
   |nil=>simp only [eqL,Option.some.injEq] at he;subst he;simp [Op.eqFields]
   |cons=>simp [eqL] at he
 |f::fs,cs,ds,n,c,hf,he,h3,h4,hx,hy=>by
  have hf : (decide (f.name ≠ "_") && (Nat.beq f.offset n && (match yfd P f.type cs with
   |some k=>zyw P (n+k) (cs.drop k) fs
   |none=>hdB P f.type (fun cs=>zyw P (n+1) cs fs) cs)))=true:=by
   cases cs<;>exact hf
  simp only [Bool.and_eq_true,decide_eq_true_eq] at hf
  obtain ⟨f1,f2,f3⟩:=hf
  have f2:=Nat.eq_of_beq_eq_true f2
  have hp : f.name ≠ "_" := by simpa using f1
  cases hk:yfd P f.type cs with
  |some k =>
   rw [hk] at f3
   simp only at f3
   have hkc:k<=cs.length:=by
    have:=hk
    unfold yfd at this
    split at this
    ·split at this
     ·rename_i hb
      injection this with this
      subst this
      simp only [Bool.and_eq_true] at hb
      exact Nat.le_of_ble_eq_true hb.2.2.1
     ·cases this
    ·cases this
   obtain ⟨c1,c2,e1,e2,e3,hkd⟩:=y7s k he hkc
   obtain ⟨r1,r2,r3⟩:=yoh (w0:=w0) (w:=w) d (n:=n) hk e1 (by omega) (by omega) hkc hkd hx hy
   have ih:=zoh (w:=w) d xs ys fs (cs.drop k) (ds.drop k) (n+k) c2 f3 e2 (by rw [length_drop];omega) (by rw [length_drop];omega)
    (fun i hi=>by rw [length_drop] at hi;rw [getElem_drop,Nat.add_assoc];exact hx (k+i) (by omega))
    (fun i hi=>by rw [length_drop] at hi;rw [getElem_drop,Nat.add_assoc];exact hy (k+i) (by omega))
   unfold Op.eqFields
   rw [if_pos hp,f2]
   rw [Sem.run_bind,r1,Result.andThen_ok,Sem.run_bind,r2,Result.andThen_ok,Sem.run_bind,r3,Result.andThen_ok]
   subst e3
   cases c1
   ·rfl
   ·simpa using ih
  |none =>
   rw [hk] at f3
   cases cs with
   |nil=>cases f3
   |cons a cs =>
    simp only [hdB,Bool.and_eq_true] at f3
    obtain ⟨f3,f4⟩:=f3
    cases ds with
    |nil=>simp [eqL] at he
    |cons b ds =>
     simp only [length_cons] at h3 h4
     have ha:Rep w0 S γ a (xs.getD n undef):=hx 0 (by simp)
     have hb:Rep w0 S γ b (ys.getD n undef):=hy 0 (by simp)
     unfold eqL at he
     split at he
     ·rename_i r c' hr hc
      injection he with he
      have ih:=zoh (w:=w) d xs ys fs cs ds (n+1) c' f4 hc (by omega) (by omega)
       (fun i hi=>by have:=hx (i+1) (by simpa using hi);rw [show n+1+i=n+(i+1) by omega];simpa using this)
       (fun i hi=>by have:=hy (i+1) (by simpa using hi);rw [show n+1+i=n+(i+1) by omega];simpa using this)
      unfold Op.eqFields
      rw [if_pos hp,f2]
      rw [Sem.run_bind,ziv f3 (show n<xs.size by omega),Result.andThen_ok,Sem.run_bind,ziv f3 (show n<ys.size by omega),Result.andThen_ok,Sem.run_bind,zz6 (d+1) f3 hr ha hb,Result.andThen_ok]
      subst he
      cases r
      ·rfl
      ·simpa using ih
     ·cases he
end
section
variable {cx:Cx} {σ:AS} {o:Oper}
theorem yq2 {op:BinOp}{x y:Operand}{t t2:TypeId}{cs ds:List AV}{c:Bool}(hop:op=.eql\/op=.neq)(ho:o.op=.binOp op t x y t2)(hd:dok cx o=true)(hxo:z0r x=true)(hyo:z0r y=true)(hx:σ.eval x=.agg cs)(hy:σ.eval y=.agg ds)
  (hf:ye4 cx.P t cs=true) (hc:eqL cs ds=some c):z11 cx o σ (.bool (match op with|.eql=>c|_=>!c)) [] [] :=
 z14 hd fun τ γ ac w h1 _ hst=>by
  have e1:=hst.ev x hxo
  rw [h1 x (by simp [ho,Op.operands]),hx] at e1
  have e2:=hst.ev y hyo
  rw [h1 y (by simp [ho,Op.operands]),hy] at e2
  obtain ⟨vs,ev,hl,hr,_⟩:=e1.agg_inv
  obtain ⟨us,eu,hl',hr',_⟩:=e2.agg_inv
  unfold ye4 at hf
  simp only [Bool.and_eq_true,Bool.not_eq_true'] at hf
  obtain ⟨g1,g2,g3⟩:=hf
  cases hu:cx.P.underlying t with
  |none=>rw [hu] at g3;cases g3
  |some dd =>
   rw [hu] at g3
   cases dd<;>simp only [Bool.false_eq_true] at g3
   rename_i fs
   have hfs:cx.P.fieldsOf t=fs:=by simp [Program.fieldsOf,hu]
   have hrun:(Op.equalIn 10000 t (.agg vs) (.agg us)).run cx.P w=.ok c w:=by
    rw [show (10000:Nat)=9999+1 from rfl,run_equalIn_agg w 9999 t vs us (by rw [hfs];exact hu) g1,hfs]
    exact zoh (w0:=w) 9997 vs us fs.toList cs ds 0 c g3 hc (by omega) (by omega) (fun i hi=>by simpa using hr i hi) (fun i hi=>by simpa using hr' i hi)
   rcases hop with rfl|rfl
   ·refine ⟨.bool c,?_,.bool _⟩
    simp only [execOp,ho,ev,eu,Sem.run_bind,run_eqGuard_agg (hm:=g2),Result.andThen_ok,run_eql_struct,hrun,Sem.run_pure]
   ·refine ⟨.bool (!c),?_,.bool _⟩
    simp only [execOp,ho,ev,eu,Sem.run_bind,run_eqGuard_agg (hm:=g2),Result.andThen_ok,run_neq_struct,hrun,Sem.run_pure]
def binS:BinOp->ByteArray->ByteArray->Option Bool
 |.eql,a,b=>some (a.toList == b.toList)
 |.neq,a,b=>some (!(a.toList == b.toList))
 |.lss,a,b=>some (Op.bytesLess a.toList b.toList)
 |.leq,a,b=>some (Op.bytesLess a.toList b.toList || a.toList == b.toList)
 |.gtr,a,b=>some (!(Op.bytesLess a.toList b.toList || a.toList == b.toList))
 |.geq,a,b=>some (!Op.bytesLess a.toList b.toList)
 |_,_,_=>none
theorem yq5 {op:BinOp}{x y:Operand}{t t2:TypeId}{a b:ByteArray}{c:Bool}(ho:o.op=.binOp op t x y t2)(hd:dok cx o=true)(hxo:z0r x=true)(hyo:z0r y=true)(hx:σ.eval x=.str a)(hy:σ.eval y=.str b)(hc:binS op a b=some c):z11 cx o σ (.bool c) [] [] :=
 z14 hd fun τ γ ac w h1 _ hst=>by
  have e1:=hst.ev x hxo
  rw [h1 x (by simp [ho,Op.operands]),hx] at e1
  have e2:=hst.ev y hyo
  rw [h1 y (by simp [ho,Op.operands]),hy] at e2
  refine ⟨.bool c,?_,.bool _⟩
  cases op<;>simp only [binS,Option.some.injEq,reduceCtorEq] at hc<;>subst hc<;>simp [execOp,ho,e1.str_inv,e2.str_inv,eqGuard,binOp,Op.stringOp,pure]
end
section
variable {cx:Cx} {σ:AS} {o:Oper}
def shI:BinOp->IntKind->Int->Int->Option AV
 |.shl,k,a,b=>some (.int k (k.wrap (a*2 ^ min b.toNat k.bits)))
 |.shr,k,a,b=>some (.int k (a.fdiv (2 ^ min b.toNat k.bits)))
 |_,_,_,_=>none
def bitI:BinOp->IntKind->Int->Int->Option AV
 |.and,k,a,b=>some (.int k (k.wrap ((BitVec.ofInt k.bits a &&& BitVec.ofInt k.bits b).toNat:Int)))
 |.or,k,a,b=>some (.int k (k.wrap ((BitVec.ofInt k.bits a ||| BitVec.ofInt k.bits b).toNat:Int)))
 |.xor,k,a,b=>some (.int k (k.wrap ((BitVec.ofInt k.bits a ^^^ BitVec.ofInt k.bits b).toNat:Int)))
 |.andNot,k,a,b=>some (.int k (k.wrap ((BitVec.ofInt k.bits a &&& ~~~(BitVec.ofInt k.bits b)).toNat:Int)))
 |_,_,_,_=>none
theorem yrw {op:BinOp}{x y:Operand}{t t2:TypeId}{k k':IntKind}{a b:Int}(ho:o.op=.binOp op t x y t2)(hd:dok cx o=true)(hxo:z0r x=true)(hyo:z0r y=true)(hx:σ.eval x=.int k a)(hy:σ.eval y=.int k' b)(hb:0<=b)(hc:shI op k a b=some av):z11 cx o σ av [] [] :=
 z14 hd fun τ γ ac w h1 _ hst=>by
  have e1:=hst.ev x hxo
  rw [h1 x (by simp [ho,Op.operands]),hx] at e1
  have e2:=hst.ev y hyo
  rw [h1 y (by simp [ho,Op.operands]),hy] at e2
  have hb':¬b<0:=by omega
  cases op<;>simp only [shI,Option.some.injEq,reduceCtorEq] at hc<;>subst hc
  all_goals
   refine ⟨_,?_,.int _ _⟩
   simp [execOp,ho,e1.int_inv,e2.int_inv,eqGuard,binOp,Op.shift,hb',pure]
theorem yq4 {op:BinOp}{x y:Operand}{t t2:TypeId}{k:IntKind}{a b:Int}(ho:o.op=.binOp op t x y t2)(hd:dok cx o=true)(hxo:z0r x=true)(hyo:z0r y=true)(hx:σ.eval x=.int k a)(hy:σ.eval y=.int k b)(hc:bitI op k a b=some av):z11 cx o σ av [] [] :=
 z14 hd fun τ γ ac w h1 _ hst=>by
  have e1:=hst.ev x hxo
  rw [h1 x (by simp [ho,Op.operands]),hx] at e1
  have e2:=hst.ev y hyo
  rw [h1 y (by simp [ho,Op.operands]),hy] at e2
  cases op<;>simp only [bitI,Option.some.injEq,reduceCtorEq] at hc<;>subst hc
  all_goals
   refine ⟨_,?_,.int _ _⟩
   simp only [execOp,ho,e1.int_inv,e2.int_inv,eqGuard,binOp,Op.intBits,Sem.run_bind,Sem.run_pure,Result.andThen_ok,pure,ne_eq,not_true_eq_false,if_false]
   rfl
end
variable {v:Value}
theorem Rep.renF {γ':Gam}{ids:List Nat}{ρ:Nat->Nat}(hγ:∀ id,id∈ids->γ' (ρ id)=γ id)(h:Rep w S γ av v)(hi:av.inM ids=true):Rep w S γ' (av.ren ρ) v:=by
 induction h with
 |any=>exact .any _
 |int=>exact .int _ _
 |bool=>exact .bool _
 |str=>exact .str _
 |nilp=>exact .nilp
 |nils=>exact .nils
 |nilf=>exact .nilf
 |ptr h hv=>exact .ptr ((hγ _ ((zet _ _).1 hi)).trans h) hv
 |elt h hv=>exact .elt ((hγ _ ((zet _ _).1 hi)).trans h) hv
 |der h hv=>exact .der ((hγ _ ((zet _ _).1 hi)).trans h) hv
 |cont h hv hl=>exact .cont ((hγ _ ((zet _ _).1 hi)).trans h) hv hl
 |mapv ps0 hp g es clock hb hS hg hh hl hk hv ih1 ih2=>exact .mapv ps0 hp g es clock hb hS hg hh hl hk hv
 |mapn=>exact .mapn
 |slen A n c=>exact .slen A n c
 |row h hv=>exact .row ((hγ _ ((zet _ _).1 hi)).trans h) hv
 |sl A c cell hc hlen hb hr h1 ih=>exact .sl A c cell hc hlen hb hr h1
 |ref b off cell hS hb hc hr h1 ih=>exact .ref b off cell hS hb hc hr h1
 |fn vs hl hr ih =>
  simp only [AV.inM] at hi
  exact .fn vs (by rw [hl,AV.renL_length]) (fun i hi'=>by
   have hi2:=hi'
   rw [AV.renL_length] at hi2
   rw [AV.renL_at ρ _ i hi2]
   exact ih i hi2 hγ (AV.inML_at hi i hi2))
 |yld hr ih =>
  simp only [AV.inM] at hi
  exact .yld (fun i hi'=>by
   have hi2:=hi'
   rw [AV.renL_length] at hi2
   rw [AV.renL_at ρ _ i hi2]
   exact ih i hi2 hγ (AV.inML_at hi i hi2))
 |agg vs hl hr h1 ih =>
  simp only [AV.inM] at hi
  exact .agg vs (by rw [hl,AV.renL_length]) (fun i hi'=>by
   have hi2:=hi'
   rw [AV.renL_length] at hi2
   rw [AV.renL_at ρ _ i hi2]
   exact ih i hi2 hγ (AV.inML_at hi i hi2)) h1
 |tup vs hl hr ih =>
  simp only [AV.inM] at hi
  exact .tup vs (by rw [hl,AV.renL_length]) (fun i hi'=>by
   have hi2:=hi'
   rw [AV.renL_length] at hi2
   rw [AV.renL_at ρ _ i hi2]
   exact ih i hi2 hγ (AV.inML_at hi i hi2))
def ConT (E:Env)(f:FuncId)(args:List AV)(ty sz:Nat)(xs:List AV)(res:AV):Prop :=
 zfg E f/\res.inM [0]=true/\∀ (S:Nat->Prop) (w:World) (vs:Array Value),Args w S args vs->Calls E.P f vs w fun e w'=>∃ u v us,e=.returned u/\Below w.heap.size w w'/\w'.ownsRow w.heap.size ty sz v xs.length us /\
  (∀ k (hk:k<xs.length),(xs[k]).cells.length=sz)/\(∀ k (hk:k<xs.length) j (hj:j<(xs[k]).cells.length),Rep w' (fun b=>(S b\/w.heap.size<=b)/\v.ownBlock≠some b) G0 ((xs[k]).cells[j]) (us.getD (k*sz+j) undef))/\(∀ u∈us,u.oneCell'=true) /\
  ∀ γ':Gam,γ' 0=some (some (v.ownBlock,v))->Rep w' (fun b=>(S b\/w.heap.size<=b)/\v.ownBlock≠some b) γ' res u
variable {xs:List AV}{ty sz:Nat}
theorem ConT.ofRow {E:Env}{f:FuncId}{args:List AV}(h:zrj E f args ty sz xs):ConT E f args ty sz xs (.row 0) :=
 ⟨h.1,rfl,fun S w vs ha=>(h.2 S w vs ha).mono fun e w' ⟨v,us,h1,h2,h3,h4,h5,h6⟩=>⟨v,v,us,h1,h2,h3,h4,h5,h6,fun γ' hγ=>.row hγ (fun g s e _=>by injection e with e;injection e with _ e)⟩⟩
section
variable {cx:Cx} {σ:AS} {o:Oper}
theorem ya5 {x:Operand}{args:Array Operand}{tys:Array TypeId}{f d:Nat}{cap avs:List AV}{res:AV}(ho:o.op=.call { callee:=.value x,args:=args,argTypes:=tys })(hdst:o.dst=some d)(hd:dok cx o=true)(hxo:z0r x=true)(hok:args.toList.all z0r=true)(hx:σ.eval x=.fn f cap)
  (ha:zho σ args cap=avs) (hcl:AV.closedL avs=true) (hn:σ.find d=none) (hc:ConT cx.E f avs ty sz xs res) (hdr0:cx.E.dr=false):z11 cx o σ (res.ren fun _=>d) [d] [(d,.row ty sz xs)]:=by
 refine ⟨fun id e he=>?_,fun τ h1 h2 a w Q K ⟨γ,hst⟩ hK=>zhj (fun c hc=>by rw [ho] at hc;cases hc) ?_⟩
 ·simp only [lkE] at he
  cases hb:Nat.beq d id with
  |true=>simp [Nat.eq_of_beq_eq_true hb]
  |false=>rw [hb] at he;cases he
 have hop:o.op.operands=#[x]++args:=by simp [ho,Op.operands,Call.operands]
 obtain ⟨caps,hcx,hl,hr⟩:=zor hst hok hxo (fun y hy=>h1 y (by rw [hop];simp at hy ⊢;exact Or.inr hy)) (h1 x (by rw [hop];simp)) hx
 subst ha
 unfold Oper.wp
 rw [zo8 ho hcx hc.1]
 show Calls _ _ _ _ _
 refine (hc.2.2 (Sg cx.S0 cx.w0.heap.size γ) w _ ⟨hl,fun i hi=>(hr i hi).close (AV.closedL_at hcl i hi)⟩).mono ?_
 rintro e w' ⟨u,v,us,rfl,hb,hown,hlen,hre,hone,hu⟩
 refine hK _ _ ?_
 rw [hdst]
 refine zyo (v:=v) (us:=us) hst (fun h=>absurd (hdr0.symm.trans h) (by simp)) (by rw [h2 d (by simp),hn]) (fun x hx=>by injection hx with hx;subst hx;exact z9f hd _ hdst) hb hown hlen hre hone (fun hS=>?_)
 have h0:=hu (fun _=>some (some (v.ownBlock,v))) rfl
 refine (h0.renF (γ':=γ.set d (some (v.ownBlock,v))) (ids:=[0]) (fun id _=>Gam.set_self _ _ _) hc.2.1).mono (Nat.le_refl _) (fun b hb _=>⟨rfl,hS b hb⟩)
end
def ConC (inp:Bool)(E:Env)(f:FuncId)(args:List AV)(ty sz:Nat)(xs:List AV)(ty' sz':Nat)(xs':List AV)(res:AV):Prop :=
 zfg E f/\res.inM [0]=true/\∀ (S:Nat->Prop) (w0 w:World) (vs:Array Value) (v:Value) (us:List Value),Below w0.heap.size w0 w->w.ownsRow w0.heap.size ty sz v xs.length us->(∀ k (hk:k<xs.length),(xs[k]).cells.length=sz) ->
  (∀ k (hk:k<xs.length) j (hj:j<(xs[k]).cells.length),Rep w S G0 ((xs[k]).cells[j]) (us.getD (k*sz+j) undef))->(∀ u∈us,u.oneCell'=true)->(∀ b,v.ownBlock=some b->¬S b)->vs.size=args.length ->
  (∀ γ:Gam,γ 0=some (some (v.ownBlock,v))->∀ i (hi:i<args.length),Rep w S γ args[i] (vs.getD i undef)) ->
  Calls E.P f vs w fun e w'=>∃ u v' us',e=.returned u/\w.grownBy w' v.ownBlock/\w'.ownsRow w0.heap.size ty' sz' v' xs'.length us'/\(inp=true->v'=v)/\(∀ b,v'.ownBlock=some b->v.ownBlock=some b\/w.heap.size<=b)/\(∀ k (hk:k<xs'.length),(xs'[k]).cells.length=sz') /\
   (∀ k (hk:k<xs'.length) j (hj:j<(xs'[k]).cells.length),Rep w' (fun b=>(S b\/w.heap.size<=b)/\v'.ownBlock≠some b) G0 ((xs'[k]).cells[j]) (us'.getD (k*sz' + j) undef))/\(∀ u∈us',u.oneCell'=true) /\
   ∀ γ':Gam,γ' 0=some (some (v'.ownBlock,v'))->Rep w' (fun b=>(S b\/w.heap.size<=b)/\v'.ownBlock≠some b) γ' res u
section
variable {cx:Cx} {σ:AS} {o:Oper}
theorem y3c {base e n:Nat}{vs:List Value}(h:w.ownsRow base e sz v n vs)(b:Nat)(hb:v.ownBlock=some b):base<=b/\b<w.heap.size:=by
 rcases h.2 with ⟨hv,_⟩|⟨g,cap,cur,hv,hbg,hh,_⟩
 ·rw [hv] at hb;simp [Value.ownBlock] at hb
 ·rw [hv] at hb;simp only [Value.ownBlock,Option.some.injEq] at hb;subst hb
  exact ⟨hbg,(Array.getElem?_eq_some_iff.1 hh).1⟩
variable {id ty' sz':Nat}{xs':List AV}{us':List Value}
theorem ygi {a:Act}{w':World}{d:Nat}{v' u:Value}(hst:StG cx γ τ a w)(hdr:cx.E.dr=true->w.drawn<=w'.drawn)(hid:γ id=some (some (v.ownBlock,v)))(hγd:γ d=none)(hne:id≠d)(hd:∀ x,dst=some x->cx.E.np<=x/\x<cx.nt)(hg:w.grownBy w' v.ownBlock)
  (hown:w'.ownsRow cx.w0.heap.size ty' sz' v' xs'.length us') (hvb:∀ b,v'.ownBlock=some b->v.ownBlock=some b\/w.heap.size<=b) (hlen:∀ k (hk:k<xs'.length),(xs'[k]).cells.length=sz')
  (hre:∀ k (hk:k<xs'.length) j (hj:j<(xs'[k]).cells.length),Rep w' (fun b=>(Sg cx.S0 cx.w0.heap.size γ b\/w.heap.size<=b)/\v'.ownBlock≠some b) G0 ((xs'[k]).cells[j]) (us'.getD (k*sz' + j) undef)) (hone:∀ u∈us',u.oneCell'=true)
  (hu:∀ γ':Gam,γ' d=some (some (v'.ownBlock,v'))->Rep w' (fun b=>(Sg cx.S0 cx.w0.heap.size γ b\/w.heap.size<=b)/\v'.ownBlock≠some b) γ' av u):St cx (τ.upd dst av [(d,.row ty' sz' xs'),(id,.dead)]) (a.put dst u) w':=by
 have hsz:=hst.below.size
 let γ':Gam:=fun i=>if d=i then some (some (v'.ownBlock,v')) else if id=i then some none else γ i
 have hγ'd:γ' d=some (some (v'.ownBlock,v')):=if_pos rfl
 have hγ'o:∀ i,d≠i->id≠i->γ' i=γ i:=fun i h1 h2=>by show (if d=i then _ else if id=i then _ else γ i)=γ i;rw [if_neg h1,if_neg h2]
 have hγ'x:γ' id=some none:=by show (if d=id then _ else if id=id then _ else γ id)=some none;rw [if_neg (Ne.symm hne),if_pos rfl]
 have hown':∀ b,own γ' b->v'.ownBlock=some b\/own γ b:=fun b ⟨i,s,hi,hm⟩=>by
  by_cases h:d=i
  ·subst h;rw [hγ'd] at hi;injection hi with hi;subst hi;exact Or.inl (zhn (zhl (zb0 hown)) hm)
  ·by_cases h':id=i
   ·subst h';rw [hγ'x] at hi;injection hi with hi;subst hi;simp [blks] at hm
   ·rw [hγ'o i h h'] at hi;exact Or.inr ⟨i,s,hi,hm⟩
 have hvo:∀ b,v.ownBlock=some b->own γ b:=fun b hb=>own.mk (id:=id) (s:=v) (by rw [hid,hb])
 have hno':∀ b,¬own γ b->b<w.heap.size->¬own γ' b:=fun b hno hlt ho=>by
  rcases hown' b ho with h|h
  ·rcases hvb b h with h|h
   ·exact hno (hvo b h)
   ·omega
  ·exact hno h
 have hblk:∀ b,¬own γ b->b<w.heap.size->w'.heap[b]? = w.heap[b]? := fun b hno hlt=>hg.block b hlt (fun e=>hno (hvo b e.symm))
 have hnoS:∀ b,Sg cx.S0 cx.w0.heap.size γ b->¬own γ b:=fun b hS ho=>by
  rcases hS with ⟨_,h⟩|⟨_,h⟩
  ·have:=(hst.ge b ho).1.1;omega
  ·exact h ho
 have hS':∀ b,(Sg cx.S0 cx.w0.heap.size γ b\/w.heap.size<=b)/\v'.ownBlock≠some b->Sg cx.S0 cx.w0.heap.size γ' b:=fun b ⟨h1,h2⟩=>by
  rcases h1 with h1|h1
  ·have hno:=hnoS b h1
   rcases h1 with h1|⟨h1,h3⟩
   ·exact Or.inl h1
   ·refine Or.inr ⟨h1,fun ho=>?_⟩
    rcases hown' b ho with h|h
    ·exact h2 h
    ·exact h3 h
  ·refine Or.inr ⟨⟨Nat.le_trans hsz h1,fun h0=>by have:=hst.gh _ h0;omega⟩,fun ho=>?_⟩
   rcases hown' b ho with h|h
   ·exact h2 h
   ·have:=(hst.ge b h).2;omega
 have hwr:∀ i,lkE [(d,Ent.row ty' sz' xs'),(id,.dead)] i=if d=i then some (.row ty' sz' xs') else if id=i then some .dead else none:=fun i=>by
  simp only [lkE]
  by_cases h:d=i
  ·subst h;simp
  ·rw [if_neg h]
   have:Nat.beq d i=false:=by cases hb:Nat.beq d i with|true=>exact absurd (Nat.eq_of_beq_eq_true hb) h|false=>rfl
   rw [this]
   by_cases h':id=i
   ·subst h';simp
   ·rw [if_neg h']
    have:Nat.beq id i=false:=by cases hb:Nat.beq id i with|true=>exact absurd (Nat.eq_of_beq_eq_true hb) h'|false=>rfl
    rw [this]
 refine ⟨γ',hst.step (γ':=γ') hd hg.size (fun b hS hlt=>⟨hblk b (hnoS b hS) hlt,?_⟩) (fun i x hx=>?_) (fun i hi=>?_) (fun i e hi=>?_) (fun i j b s s' hi hj mi mj=>?_) (fun b hb=>?_) ?_ ((hu γ' hγ'd).mono (Nat.le_refl _) (fun b hb _=>⟨rfl,hS' b hb⟩)) (fun b hno hlt=>⟨hblk b hno hlt,hno' b hno hlt⟩) hdr⟩
 ·have hno:=hno' b (hnoS b hS) hlt
  rcases hS with hS|⟨h1,_⟩
  ·exact Or.inl hS
  ·exact Or.inr ⟨h1,hno⟩
 ·by_cases h:d=i
  ·subst h;rw [hγd] at hx;cases hx
  ·by_cases h':id=i
   ·subst h';exact Or.inr (Or.inl hγ'x)
   ·exact Or.inl (by rw [hγ'o i h h'];exact hx)
 ·rw [hwr] at hi
  by_cases h:d=i
  ·rw [if_pos h] at hi;cases hi
  ·rw [if_neg h] at hi
   by_cases h':id=i
   ·rw [if_pos h'] at hi;cases hi
   ·refine ⟨hγ'o i h h',fun g s hgi hmi=>hg.block g (hst.ge g ⟨i,s,hgi,hmi⟩).2 (fun e=>h' ?_)⟩
    exact hst.inj _ _ _ _ _ hid hgi (by rw [<-e];exact z4e) hmi
 ·rw [hwr] at hi
  by_cases h:d=i
  ·subst h
   rw [if_pos rfl] at hi
   injection hi with hi
   subst hi
   exact ⟨_,hγ'd,v',us',rfl,zb0 hown,hown,hlen,fun k hk j hj=>(hre k hk j hj).mono (Nat.le_refl _) (fun b hb _=>⟨rfl,hS' b hb⟩),hone⟩
  ·rw [if_neg h] at hi
   by_cases h':id=i
   ·subst h'
    rw [if_pos rfl] at hi
    injection hi with hi
    subst hi
    exact ⟨none,hγ'x,rfl⟩
   ·rw [if_neg h'] at hi;cases hi
 ·by_cases h1:d=i
  ·by_cases h2:d=j
   ·rw [<-h1,<-h2]
   ·subst h1
    rw [hγ'd] at hi
    injection hi with hi
    subst hi
    have hi:=zhn (zhl (zb0 hown)) mi
    by_cases h3:id=j
    ·subst h3;rw [hγ'x] at hj;injection hj with hj;subst hj;simp [blks] at mj
    ·rw [hγ'o j h2 h3] at hj
     rcases hvb b hi with h|h
     ·exact absurd (hst.inj _ _ _ _ _ hid hj (by rw [h];exact z4e) mj) h3
     ·have:=(hst.ge b ⟨j,s',hj,mj⟩).2;omega
  ·by_cases h1':id=i
   ·subst h1';rw [hγ'x] at hi;injection hi with hi;subst hi;simp [blks] at mi
   ·rw [hγ'o i h1 h1'] at hi
    by_cases h2:d=j
    ·subst h2
     rw [hγ'd] at hj
     injection hj with hj
     subst hj
     have hj:=zhn (zhl (zb0 hown)) mj
     rcases hvb b hj with h|h
     ·exact absurd (hst.inj _ _ _ _ _ hid hi (by rw [h];exact z4e) mi) h1'
     ·have:=(hst.ge b ⟨i,s,hi,mi⟩).2;omega
    ·by_cases h3:id=j
     ·subst h3;rw [hγ'x] at hj;injection hj with hj;subst hj;simp [blks] at mj
     ·rw [hγ'o j h2 h3] at hj
      exact hst.inj _ _ _ _ _ hi hj mi mj
 ·rcases hown' b hb with h|h
  ·have hb2:=y3c hown b h
   rcases hvb b h with h'|h'
   ·exact ⟨(hst.ge b (hvo b h')).1,hb2.2⟩
   ·exact ⟨⟨hb2.1,fun h0=>by have:=hst.gh _ h0;omega⟩,hb2.2⟩
  ·exact ⟨(hst.ge b h).1,Nat.lt_of_lt_of_le (hst.ge b h).2 hg.size⟩
 ·refine hst.below.trans ⟨hg.os,hg.tape,hg.output,hg.size,fun k hk=>hg.block k (by omega) (fun e=>?_)⟩
  have:=(hst.ge k (hvo k e.symm)).1.1
  omega
theorem zv2 {a:Act}{w':World}{u:Value}(hst:StG cx γ τ a w)(hdr:cx.E.dr=true->w.drawn<=w'.drawn)(hid:γ id=some (some (v.ownBlock,v)))(hd:∀ x,dst=some x->cx.E.np<=x/\x<cx.nt)(hg:w.grownBy w' v.ownBlock)
  (hown:w'.ownsRow cx.w0.heap.size ty sz v xs'.length us') (hlen:∀ k (hk:k<xs'.length),(xs'[k]).cells.length=sz)
  (hre:∀ k (hk:k<xs'.length) j (hj:j<(xs'[k]).cells.length),Rep w' (fun b=>(Sg cx.S0 cx.w0.heap.size γ b\/w.heap.size<=b)/\v.ownBlock≠some b) G0 ((xs'[k]).cells[j]) (us'.getD (k*sz+j) undef)) (hone:∀ u∈us',u.oneCell'=true)
  (hu:Rep w' (fun b=>(Sg cx.S0 cx.w0.heap.size γ b\/w.heap.size<=b)/\v.ownBlock≠some b) γ av u):St cx (τ.upd dst av [(id,.row ty sz xs')]) (a.put dst u) w':=by
 have hsz:=hst.below.size
 have hvo:∀ b,v.ownBlock=some b->own γ b:=fun b hb=>own.mk (id:=id) (s:=v) (by rw [hid,hb])
 have hblk:∀ b,¬own γ b->b<w.heap.size->w'.heap[b]? = w.heap[b]? := fun b hno hlt=>hg.block b hlt (fun e=>hno (hvo b e.symm))
 have hnoS:∀ b,Sg cx.S0 cx.w0.heap.size γ b->¬own γ b:=fun b hS ho=>by
  rcases hS with ⟨_,h⟩|⟨_,h⟩
  ·have:=(hst.ge b ho).1.1;omega
  ·exact h ho
 have hS':∀ b,(Sg cx.S0 cx.w0.heap.size γ b\/w.heap.size<=b)/\v.ownBlock≠some b->Sg cx.S0 cx.w0.heap.size γ b:=fun b ⟨h1,h2⟩=>by
  rcases h1 with h1|h1
  ·exact h1
  ·exact Or.inr ⟨⟨Nat.le_trans hsz h1,fun h0=>by have:=hst.gh _ h0;omega⟩,fun ho=>by have:=(hst.ge b ho).2;omega⟩
 have hwr:∀ i,lkE [(id,Ent.row ty sz xs')] i=if id=i then some (.row ty sz xs') else none:=fun i=>by
  simp only [lkE]
  by_cases h':id=i
  ·subst h';simp
  ·rw [if_neg h']
   have:Nat.beq id i=false:=by cases hb:Nat.beq id i with|true=>exact absurd (Nat.eq_of_beq_eq_true hb) h'|false=>rfl
   rw [this]
 refine ⟨γ,hst.step (γ':=γ) hd hg.size (fun b hS hlt=>⟨hblk b (hnoS b hS) hlt,hS⟩) (fun i x hx=>Or.inl hx) (fun i hi=>?_) (fun i e hi=>?_) hst.inj (fun b hb=>⟨(hst.ge b hb).1,Nat.lt_of_lt_of_le (hst.ge b hb).2 hg.size⟩) ?_ (hu.mono (Nat.le_refl _) (fun b hb _=>⟨rfl,hS' b hb⟩)) (fun b hno hlt=>⟨hblk b hno hlt,hno⟩) hdr⟩
 ·rw [hwr] at hi
  by_cases h':id=i
  ·rw [if_pos h'] at hi;cases hi
  ·refine ⟨rfl,fun g s hgi hmi=>hg.block g (hst.ge g ⟨i,s,hgi,hmi⟩).2 (fun e=>h' ?_)⟩
   exact hst.inj _ _ _ _ _ hid hgi (by rw [<-e];exact z4e) hmi
 ·rw [hwr] at hi
  by_cases h':id=i
  ·subst h'
   rw [if_pos rfl] at hi
   injection hi with hi
   subst hi
   exact ⟨_,hid,v,us',rfl,zb0 hown,hown,hlen,fun k hk j hj=>(hre k hk j hj).mono (Nat.le_refl _) (fun b hb _=>⟨rfl,hS' b hb⟩),hone⟩
  ·rw [if_neg h'] at hi;cases hi
 ·refine hst.below.trans ⟨hg.os,hg.tape,hg.output,hg.size,fun k hk=>hg.block k (by omega) (fun e=>?_)⟩
  have:=(hst.ge k (hvo k e.symm)).1.1
  omega
variable {x:Operand}{args:Array Operand}{tys:Array TypeId}{cap cargs:List AV}{res:AV}
theorem y8w {f:Nat}{inp:Bool}(ho:o.op=.call { callee:=.value x,args:=args,argTypes:=tys })(hxo:z0r x=true)(hok:args.toList.all z0r=true)(hx:σ.eval x=.fn f cap)
  (hr:AV.renL (fun _=>id) cargs=zho σ args cap) (hin:AV.inML [0] cargs=true) (hl:σ.find id=some (.row ty sz xs)) (hc:ConC inp cx.E f cargs ty sz xs ty' sz' xs' res)
    {a:Act}  (h1:∀ x∈o.op.operands,τ.eval x=σ.eval x) (h2:τ.find id=σ.find id) (hst:StG cx γ τ a w) {Q:Exit->Act->World->Prop} {K:Act->World->Prop}
  (k:∀ u v v' us' w',γ id=some (some (v.ownBlock,v))->w.grownBy w' v.ownBlock->w'.ownsRow cx.w0.heap.size ty' sz' v' xs'.length us'->(inp=true->v'=v)->(∀ b,v'.ownBlock=some b->v.ownBlock=some b\/w.heap.size<=b)->(∀ k (hk:k<xs'.length),(xs'[k]).cells.length=sz') ->
    (∀ k (hk:k<xs'.length) j (hj:j<(xs'[k]).cells.length),Rep w' (fun b=>(Sg cx.S0 cx.w0.heap.size γ b\/w.heap.size<=b)/\v'.ownBlock≠some b) G0 ((xs'[k]).cells[j]) (us'.getD (k*sz' + j) undef))->(∀ u∈us',u.oneCell'=true) ->
    (∀ γ':Gam,γ' 0=some (some (v'.ownBlock,v'))->Rep w' (fun b=>(Sg cx.S0 cx.w0.heap.size γ b\/w.heap.size<=b)/\v'.ownBlock≠some b) γ' res u)->K (a.put o.dst u) w'):o.wp cx.P a w K Q:=by
 have hop:o.op.operands=#[x]++args:=by simp [ho,Op.operands,Call.operands]
 obtain ⟨caps,hcx,hl',hrep⟩:=zor hst hok hxo (fun y hy=>h1 y (by rw [hop];simp at hy ⊢;exact Or.inr hy)) (h1 x (by rw [hop];simp)) hx
 have hme:=hst.me id
 rw [h2,hl] at hme
 obtain ⟨dd,hd',s,us,hde,_,hown,hlen,hre,hone⟩:=hme
 subst hde
 unfold Oper.wp
 rw [zo8 ho hcx hc.1]
 show Calls _ _ _ _ _
 have hlc:cargs.length=(zho σ args cap).length:=by rw [<-hr,AV.renL_length]
 refine (hc.2.2 (Sg cx.S0 cx.w0.heap.size γ) cx.w0 w _ s us hst.below hown hlen hre hone (fun b hb hS=>?_) (by rw [hl',hlc]) (fun γc hγc i hi=>?_)).mono ?_
 ·have ho':own γ b:=own.mk (id:=id) (s:=s) (by rw [hd',hb])
  rcases hS with ⟨_,h⟩|⟨_,h⟩
  ·have:=(hst.ge b ho').1.1;omega
  ·exact h ho'
 ·have hi':i<(zho σ args cap).length:=by omega
  have h:=hrep i hi'
  have e:(zho σ args cap)[i]=cargs[i].ren (fun _=>id):=by
   have:(AV.renL (fun _=>id) cargs)[i]'(by rw [AV.renL_length];exact hi)=(zho σ args cap)[i]:=by simp only [hr]
   rw [<-this,AV.renL_at]
  rw [e] at h
  exact h.ren (ids:=[0]) (ρ:=fun _=>id) (fun j hj=>by
   have:j=0:=by simpa using hj
   subst this
   rw [hγc,hd']) cargs[i] rfl (AV.inML_at hin i hi)
 ·rintro e w' ⟨u,v',us',rfl,q1,q2,q3,q4,q5,q6,q7,q8⟩
  exact k u s v' us' w' hd' q1 q2 q3 q4 q5 q6 q7 q8
theorem ykk {f d:Nat}(ho:o.op=.call { callee:=.value x,args:=args,argTypes:=tys })(hdst:o.dst=some d)(hd:dok cx o=true)(hxo:z0r x=true)(hok:args.toList.all z0r=true)(hx:σ.eval x=.fn f cap)
  (hr:AV.renL (fun _=>id) cargs=zho σ args cap) (hin:AV.inML [0] cargs=true) (hl:σ.find id=some (.row ty sz xs)) (hne:id≠d) (hn:σ.find d=none) (hc:ConC false cx.E f cargs ty sz xs ty' sz' xs' res) (hdr0:cx.E.dr=false):z11 cx o σ (res.ren fun _=>d) [d,id] [(d,.row ty' sz' xs'),(id,.dead)]:=by
 refine ⟨fun i e he=>?_,fun τ h1 h2 a w Q K ⟨γ,hst⟩ hK=>zhj (fun c hc=>by rw [ho] at hc;cases hc) ?_⟩
 ·simp only [lkE] at he
  cases hb:Nat.beq d i with
  |true=>simp [Nat.eq_of_beq_eq_true hb]
  |false =>
   rw [hb] at he
   cases hb2:Nat.beq id i with
   |true=>simp [Nat.eq_of_beq_eq_true hb2]
   |false=>rw [hb2] at he;cases he
 refine y8w ho hxo hok hx hr hin hl hc h1 (h2 id (by simp)) hst (fun u v v' us' w' q0 q1 q2 q3 q4 q5 q6 q7 q8=>hK _ _ ?_)
 have hγd:γ d=none:=by have:=hst.me d;rw [h2 d (by simp),hn] at this;exact this
 refine ygi hst (fun h=>absurd (hdr0.symm.trans h) (by simp)) q0 hγd hne (z9f hd) q1 q2 q4 q5 q6 q7 (fun γ' hγ'=>?_)
 exact (q8 (fun _=>some (some (v'.ownBlock,v'))) rfl).renF (ids:=[0]) (fun i _=>hγ') hc.2.1
theorem ykj {f:Nat}(ho:o.op=.call { callee:=.value x,args:=args,argTypes:=tys })(hd:dok cx o=true)(hxo:z0r x=true)(hok:args.toList.all z0r=true)(hx:σ.eval x=.fn f cap)
  (hr:AV.renL (fun _=>id) cargs=zho σ args cap) (hin:AV.inML [0] cargs=true) (hl:σ.find id=some (.row ty sz xs)) (hc:ConC true cx.E f cargs ty sz xs ty sz xs' res) (hdr0:cx.E.dr=false):z11 cx o σ (res.ren fun _=>id) [id] [(id,.row ty sz xs')]:=by
 refine ⟨fun i e he=>?_,fun τ h1 h2 a w Q K ⟨γ,hst⟩ hK=>zhj (fun c hc=>by rw [ho] at hc;cases hc) ?_⟩
 ·simp only [lkE] at he
  cases hb:Nat.beq id i with
  |true=>simp [Nat.eq_of_beq_eq_true hb]
  |false=>rw [hb] at he;cases he
 refine y8w ho hxo hok hx hr hin hl hc h1 (h2 id (by simp)) hst (fun u v v' us' w' q0 q1 q2 q3 q4 q5 q6 q7 q8=>hK _ _ ?_)
 have hv:=q3 rfl
 subst hv
 exact zv2 hst (fun h=>absurd (hdr0.symm.trans h) (by simp)) q0 (z9f hd) q1 q2 q5 q6 q7 ((q8 (fun _=>some (some (v'.ownBlock,v'))) rfl).renF (ids:=[0]) (fun i _=>q0) hc.2.1)
end
def eqK:AV->AV->Option Bool
 |.agg cs,.agg ds=>eqL cs ds
 |a,b=>eq1 a b
def zfz (k:AV):List AV->Nat->Option (Option Nat)
 |[],_=>some none
 |a::r,i=>match eqK k a with
  |some true=>some (some i)
  |some false=>zfz k r (i+1)
  |none=>none
def zfh (P:Program)(t:TypeId)(a:AV):Bool:=match a with
 |.agg cs=>!P.stoodInHeld t && (match P.underlying t with|some (.struct fs)=>zib P 0 cs fs.toList|_=>false)
 |a=>fkT (fkA a) (P.underlying t)
section
variable {P:Program} {w:World} {S:Nat->Prop}
theorem yp8 {t:TypeId}{a b:AV}{va vb:Value}{c:Bool}(ht:zfh P t a=true)(he:eqK a b=some c)(ha:Rep w S G0 a va)(hb:Rep w S G0 b vb):(Op.equal t va vb).run P w=.ok c w:=by
 unfold Op.equal
 rw [show Op.maxDepth=9999+1 from rfl]
 cases a with
 |agg cs =>
  cases b with
  |agg ds =>
   obtain ⟨vs,ev,hl,hr,_⟩:=ha.agg_inv
   obtain ⟨us,eu,hl',hr',_⟩:=hb.agg_inv
   simp only [zfh,Bool.and_eq_true,Bool.not_eq_true'] at ht
   obtain ⟨g1,g3⟩:=ht
   cases hu:P.underlying t with
   |none=>rw [hu] at g3;cases g3
   |some dd =>
    rw [hu] at g3
    cases dd<;>simp only [Bool.false_eq_true] at g3
    rename_i fs
    have hfs:P.fieldsOf t=fs:=by simp [Program.fieldsOf,hu]
    rw [ev,eu,run_equalIn_agg w 9999 t vs us (by rw [hfs];exact hu) g1,hfs]
    exact zqj (w0:=w) 9998 vs us fs.toList cs ds 0 c g3 he (by omega) (by omega) (fun i hi=>by simpa using hr i hi) (fun i hi=>by simpa using hr' i hi)
  |_=>simp [eqK,eq1] at he
 |int k n=>exact zz6 9999 (by simpa [zfh] using ht) (by cases b<;>simpa [eqK] using he) ha hb
 |bool x=>exact zz6 9999 (by simpa [zfh] using ht) (by cases b<;>simpa [eqK] using he) ha hb
 |str x=>exact zz6 9999 (by simpa [zfh] using ht) (by cases b<;>simpa [eqK] using he) ha hb
 |_=>simp [zfh,fkA,fkT] at ht
theorem zsu {t:TypeId}{k:AV}{vk:Value}(ht:zfh P t k=true)(hk:Rep w S G0 k vk):∀ (es:List MapEntry) (ps:List (AV×AV)) (i:Nat) (r:Option Nat),es.length=ps.length->(∀ j (h:j<es.length) (h':j<ps.length),y98 w S es[j] ps[j]) ->
  zfz k (ps.map (·.1)) i=some r->(Instr.findAsking t vk es i).run P w=.ok (r.map fun j=>(j,(es.getD (j-i) default).val)) w/\∀ j,r=some j->i<=j/\j-i<es.length
 |[],[],i,r,hl,he,h=>by
  simp only [map_nil,zfz,Option.some.injEq] at h
  subst h
  exact ⟨by simp [Instr.findAsking],fun j h=>by cases h⟩
 |e::es,p::ps,i,r,hl,he,h=>by
  have h0:y98 w S e p:=he 0 (by simp) (by simp)
  simp only [map_cons,zfz] at h
  cases hc:eqK k p.1 with
  |none=>rw [hc] at h;cases h
  |some c =>
   have hr:=yp8 ht hc hk h0.1
   rw [hc] at h
   cases c with
   |true =>
    simp only [Option.some.injEq] at h
    subst h
    refine ⟨?_,fun j h=>by cases h;exact ⟨Nat.le_refl _,by simp⟩⟩
    unfold Instr.findAsking
    rw [Sem.run_bind,hr,Result.andThen_ok]
    simp
   |false =>
    obtain ⟨i1,i2⟩:=zsu ht hk es ps (i+1) r (by simpa using hl) (fun j h h'=>he (j+1) (by simpa using h) (by simpa using h')) h
    refine ⟨?_,fun j hj=>by obtain ⟨a,b⟩:=i2 j hj;exact ⟨by omega,by simp;omega⟩⟩
    unfold Instr.findAsking
    rw [Sem.run_bind,hr,Result.andThen_ok]
    simp only [Bool.false_eq_true,if_false]
    rw [i1]
    cases r with
    |none=>rfl
    |some j =>
     obtain ⟨a,b⟩:=i2 j rfl
     simp only [Option.map_some]
     rw [show j-i=(j-(i+1))+1 by omega,getD_cons_succ]
end
end Go.Proofs.YtidhlpjgifoneaaGreat
