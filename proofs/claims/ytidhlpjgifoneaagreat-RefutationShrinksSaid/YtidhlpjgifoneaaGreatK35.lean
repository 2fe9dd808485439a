/- Layer 57, plainly. -/
import Derived.Test.YtidhlpjgifoneaaGreatK34
import Derived.Test.YtidhlpjgifoneaaGreatRows
import Derived.ProofKit
import Derived.Lib.SmallJoins
import Derived.Deep.Slices
import Derived.Below
import Derived.OpenShut
import Derived.JoinedCond
set_option linter.unusedVariables false
set_option linter.unusedSimpArgs false
namespace Go.Proofs.YtidhlpjgifoneaaGreat
open Go.RowKit List
variable {a:Aut}{l:List Ev}{S:List (List Cf)}
theorem ypw (h:GS a l):∀ (n i:Nat),i+n=l.length->S.drop i=xsI a l i::tS id a l (l.drop i) (xsI a l i)->∀ j (hj:j<S.length),i<=j->S[j]=xsI a l j
 |0,i,h1,h3,j,hj,hij=>by
  have hl:(S.drop i).length=1:=by rw [h3,length_cons,zxk,length_drop];omega
  rw [length_drop] at hl
  obtain rfl:j=i:=by omega
  rw [drop_eq_getElem_cons hj] at h3
  exact (List.cons.inj h3).1
 |n+1,i,h1,h3,j,hj,hij=>by
  have hi:i<l.length:=by omega
  have hiS:i<S.length:=by
   have:(S.drop i).length=l.length-i+1:=by rw [h3,length_cons,zxk,length_drop]
   rw [length_drop] at this
   omega
  rw [drop_eq_getElem_cons hiS] at h3
  obtain ⟨e1,e2⟩:=List.cons.inj h3
  by_cases e:j=i
  ·subst e
   exact e1
  ·rw [drop_eq_getElem_cons hi,zxl] at e2
   have e4:id (cfN a l (xsI a l i) l[i])=xsI a l (i+1):=(zkx h hi).1.symm
   rw [e4] at e2
   exact ypw h n (i+1) (by omega) e2 j hj (by omega)
theorem ymb (h:GS a l):∀ i (hi:i<(refS id a l).length),(refS id a l)[i]=xsI a l i:=fun i hi =>
 ypw h l.length 0 (by omega) (by rw [drop_zero,drop_zero,(zq3 a l).1];rfl) i hi (Nat.zero_le _)
noncomputable def redS (a:Aut)(l:List Ev):List (List Cf):=(refS id a l).map (redP (zg7 a))
theorem zro (a:Aut)(l:List Ev):(redS a l).length=l.length+1:=by unfold redS refS;rw [length_map,length_cons,zxk]
theorem zwz (h:GS a l)(i:Nat)(hi:i<(redS a l).length):(redS a l)[i]=redP (zg7 a) (xsI a l i):=by
 unfold redS at hi ⊢
 rw [getElem_map,ymb h]
theorem y9o (h:GS a l)(i:Nat)(hi:i<(redS a l).length):Sb a l i (redS a l)[i]:=by
 rw [zwz h]
 exact Sb.red ⟨fun c hc=>hc,ypo h (by have:=zro a l;omega)⟩ _
theorem ygl (h:GS a l):zku a l (redS a l) :=
 ⟨zro a l,fun i hi=>by have:=(y9o h i hi).len h (by have:=zro a l;omega);omega,fun i hi=>(y9o h i hi).gd h (by have:=zro a l;omega)⟩
theorem ycd (h:GS a l)(hn:NM a l 0):∀ (n i:Nat),i+n=l.length->vOk a l (redS a l) (l.drop i) i=true
 |0,i,h1=>by rw [drop_eq_nil_of_le (by omega)];rfl
 |n+1,i,h1=>by
  have hi:i<l.length:=by omega
  have hl:=zro a l
  have g:∀ j,(hj:j<l.length+1)->(redS a l).getD j []=redP (zg7 a) (xsI a l j):=fun j hj=>by
   rw [getD_eq_getElem?_getD,getElem?_eq_getElem (by omega),Option.getD_some,zwz h]
  rw [drop_eq_getElem_cons hi,y2v,ycd h hn n (i+1) (by omega),Bool.and_true,g i (by omega),all_eq_true]
  intro c hc
  have hs:∀ d∈[c],d∈xsI a l i:=fun d hd=>by rw [mem_singleton.1 hd];exact (zoa _ _).subset hc
  unfold okC
  rw [g (i+1) (by omega),Bool.and_eq_true,isEmpty_iff,all_eq_true]
  refine ⟨yao (zx7 hs _) (hn i (Nat.zero_le _) hi),fun d hd=>?_⟩
  have:=y50 hs _ d hd
  rw [<-(zkx h hi).1] at this
  exact (yn2 a l).cov _ d this
theorem yce (h:GS a l)(hn:NM a l 0):z3a N0 a l ⟨redS a l⟩=some 0:=by
 have h1:=ygl h
 have hl:=zro a l
 rw [yck h h1 (yml h h1 (fun i hi=>(y9o h i hi).str))]
 have hv:=ycd h hn l.length 0 (by omega)
 rw [drop_zero] at hv
 have g:(redS a l).getD 0 []=redP (zg7 a) (xsI a l 0):=by rw [getD_eq_getElem?_getD,getElem?_eq_getElem (by omega),Option.getD_some,zwz h]
 have hc:covd (zg7 a) ((redS a l).getD 0 []) cf0=true:=by
  rw [g]
  exact (yn2 a l).cov _ cf0 (by rw [(zq3 a l).1];simp)
 rw [hv,hc]
 rfl
theorem y7c (h:GS a l)(hS:zku a l S):∀ (m i:Nat) (out:List (List Cf)),i<=S.length->S.length<m+i->out.length<=i->z7x N0 ⟨S⟩ (zg7 a) (fun y=>some (⟨y⟩,0)) m ((i:Int),out)=some (⟨out++(S.drop i).map (redP (zg7 a))⟩,0)
 |0,i,out,h1,h2,_=>by omega
 |m+1,i,out,h1,h2,h3=>by
  have hln:=h.len
  have hsn:=hS.ln
  unfold z7x
  simp only [length_map,z0c,z1d]
  by_cases hi:i<S.length
  ·have hf:=hS.few i hi
   have hcs:=hS.cs h hi
   have hrl:=(zoa (zg7 a) S[i]).length_le
   rw [if_pos (by omega),z0j hi,ys8 (by omega) hcs,z04,yqe (by omega) (fun c hc=>by have:=hcs c ((zoa _ _).subset hc);exact ⟨this.lb,this.ls⟩),z04,zbi (by simp;omega) (by omega),z1o i (by omega),y7c h hS m (i+1) _ (by omega) (by omega) (by simp;omega),drop_eq_getElem_cons hi,map_cons,append_assoc]
   rfl
  ·rw [if_neg (by omega),drop_eq_nil_of_le (by omega)]
   simp
theorem ymm (h:GS a l)(hS:zku a l S)(hv:z3a N0 a l ⟨S⟩=some 0):z85 N0 a l ⟨S⟩=some (⟨S.map (redP (zg7 a))⟩,0):=by
 unfold z85
 rw [hv,z04,z0y,z0c,if_pos rfl,yo2 h,z8n]
 have:=y7c h hS N0 0 [] (Nat.zero_le _) (by have:=hS.ln;have:=h.len;unfold N0;omega) (by simp)
 simpa using this
def szS:List (List Cf)->Nat
 |[]=>0
 |x::r=>x.length+szS r
theorem zyc (hS:S.length<=1000)(hf:∀ x∈S,x.length<=4096):∀ (m i acc:Nat),i<=S.length->S.length<m+i->acc<=4096*i->z8j N0 ⟨S⟩ (fun y=>some y) m ((acc:Int),(i:Int))=some ((acc+szS (S.drop i):Nat):Int)
 |0,i,acc,h1,h2,_=>by omega
 |m+1,i,acc,h1,h2,h3=>by
  unfold z8j
  simp only [length_map,z0c]
  by_cases hi:i<S.length
  ·have hfi:=hf _ (getElem_mem hi)
   have e:IntKind.wrap .i64 ((acc:Int)+(S[i].length:Int))=((acc+S[i].length:Nat):Int):=by rw [zex _ (by omega)];omega
   rw [if_pos (by omega),z0j hi,e,z1o i (by omega),zyc hS hf m (i+1) _ (by omega) (by omega) (by omega),drop_eq_getElem_cons hi]
   have e2:szS (S[i]::S.drop (i+1))=S[i].length+szS (S.drop (i+1)):=rfl
   rw [e2,Nat.add_assoc]
  ·rw [if_neg (by omega),drop_eq_nil_of_le (by omega)]
   rfl
theorem yco (hS:S.length<=1000)(hf:∀ x∈S,x.length<=4096):zao N0 ⟨S⟩=some ((szS S:Nat):Int):=by
 unfold zao
 have:=zyc hS hf N0 0 0 (Nat.zero_le _) (by unfold N0;omega) (by omega)
 simpa using this
theorem ym9 (R:List Mp):∀ S:List (List Cf),szS (S.map (redP R))<=szS S
 |[]=>Nat.le_refl _
 |x::r=>by
  have h1:=(zoa R x).length_le
  have h2:=ym9 R r
  rw [map_cons]
  unfold szS
  omega
theorem yc9 (hS:zku a l S):∀ x∈S,x.length<=4096:=fun x hx=>by
 obtain ⟨i,hi,rfl⟩:=mem_iff_getElem.1 hx
 exact hS.few i hi
theorem yhh {l:List Cf}{c:Cf}(hl:l.length<=1000000)(hok:∀ d∈l,cfOk d=true)(hc:cfOk c=true)(hcl:c.fBindings.length<=1000000/\c.fStarts.length<=1000000):∀ (m k:Nat),k<=l.length->l.length<m+k->c∈l.drop k->∃ y:Int,z3l N0 c l (some (-1)) m (k:Int)=some y/\0<=y
 |0,k,h1,h2,h3=>by omega
 |m+1,k,h1,h2,h3=>by
  unfold z3l z62
  simp only [length_map,z0c]
  by_cases h:k<l.length
  ·rw [if_pos (by omega),z0j h,ykv N0 c l[k] hc (hok _ (getElem_mem h)) (by unfold N0;omega) (by unfold N0;omega),z04,z04,z0c,z1o k (by omega)]
   by_cases e:zbk c l[k]=0
   ·rw [if_pos e]
    exact ⟨k,rfl,by omega⟩
   ·rw [if_neg e]
    rw [drop_eq_getElem_cons h] at h3
    rcases mem_cons.1 h3 with h4|h4
    ·exact absurd ((cfCmp_to.zero _ _).2 h4) e
    ·exact yhh hl hok hc hcl m (k+1) (by omega) (by omega) h4
  ·rw [drop_eq_nil_of_le (by omega)] at h3
   simp at h3
theorem yhn {l:List Cf}{c:Cf}(hl:l.length<=1000000)(hok:∀ d∈l,cfOk d=true)(hc:cfOk c=true)(hcl:c.fBindings.length<=1000000/\c.fStarts.length<=1000000)(hm:c∈l):z8o N0 l c=some true:=by
 obtain ⟨y,y1,y2⟩:=yhh hl hok hc hcl N0 0 (Nat.zero_le _) (by unfold N0;omega) (by rw [drop_zero];exact hm)
 have y1':z3l N0 c l (some (-1)) N0 0=some y:=by simpa using y1
 unfold z8o zcj
 rw [y1',z04,decide_eq_true y2]
variable {R:List (List Cf)}
theorem ycp {i:Nat}(hi:i<R.length)(hl:R[i].length<=1000000)(hok:∀ d∈R[i],cfOk d=true/\d.fBindings.length<=1000000/\d.fStarts.length<=1000000){x:List Cf}(hx:x.length<=1000000)(hsub:∀ c∈x,c∈R[i])(q:Int)(K:Option Bool):∀ (m k:Nat),k<=x.length->x.length<m+k->z1x N0 (S,q,(i:Int),R) x K m (k:Int)=K
 |0,k,h1,h2=>by omega
 |m+1,k,h1,h2=>by
  unfold z1x
  simp only [length_map,z0c]
  by_cases h:k<x.length
  ·have hm:=hsub _ (getElem_mem h)
   have ho:=hok _ hm
   rw [if_pos (by omega),z0j h,z0j hi,yhn hl (fun d hd=>(hok d hd).1) ho.1 ho.2 hm,z04,show (!true)=false from rfl,z6e,z1o k (by omega),ycp hi hl hok hx hsub q K m (k+1) (by omega) (by omega)]
  ·rw [if_neg (by omega)]
theorem ycq (hlen:S.length=R.length)(hl:R.length<=1000)(hok:∀ i (hi:i<R.length),R[i].length<=1000000/\∀ d∈R[i],cfOk d=true/\d.fBindings.length<=1000000/\d.fStarts.length<=1000000)(hx:∀ i (hi:i<S.length) (hi':i<R.length),S[i].length<=1000000/\∀ c∈S[i],c∈R[i])(K:Option Bool):∀ (m i:Nat),i<=S.length->S.length<m+i->z1i N0 K m (S,((S.length:Nat):Int),(i:Int),R)=K
 |0,i,h1,h2=>by omega
 |m+1,i,h1,h2=>by
  unfold z1i
  simp only [z0c]
  by_cases h:i<S.length
  ·have hi':i<R.length:=by omega
   obtain ⟨x1,x2⟩:=hx i h hi'
   obtain ⟨o1,o2⟩:=hok i hi'
   rw [if_pos (by omega),z0j h,z1o i (by omega),ycq hlen hl hok hx K m (i+1) (by omega) (by omega)]
   have:=ycp (S:=S) hi' o1 o2 x1 x2 ((S.length:Nat):Int) K N0 0 (Nat.zero_le _) (by unfold N0;omega)
   simpa using this
  ·rw [if_neg (by omega)]
theorem y3l (a:Aut)(hw:WfA a)(l:List Ev):z7c N0 a l=some true:=by
 have hawk:z83 N0=some true:=yfq
 obtain ⟨g,hg,hgs⟩:=yil hw l
 unfold z7c
 rw [hg,z04,z0y]
 cases g with
 |false=>rw [z6e,hawk,z04]
 |true =>
  have h:=hgs rfl
  have hln:=h.len
  rw [z6c,yo8 h,z04]
  cases hm:msI a l l.length with
  |cons m r =>
   simp only [z2k,z1d,z1j,z0y,z0c]
   rw [if_neg (by decide),if_pos trivial,hawk,z04]
  |nil =>
   have hn:=(yi2 h).1 hm
   have o:=(ygk h (ym2 a l)).1
   have osb:=(ygk h (ym2 a l)).2
   have o':=ygl h
   have hl1:=o.ln
   have hl2:=o'.ln
   have hc1:=ymm h o (ync h (ym2 a l) hn)
   have hc2:=ymm h o' (yce h hn)
   have e2:(redS a l).map (redP (zg7 a))=redS a l:=by
    unfold redS
    rw [map_map]
    refine map_congr_left (fun x _=>ynd _ _)
   rw [e2] at hc2
   have hc1':z85 N0 a l ⟨refS id a l⟩=some (⟨redS a l⟩,0):=hc1
   have hz:=ym9 (zg7 a) (refS id a l)
   have hz':szS (redS a l)<=szS (refS id a l):=hz
   have hsame:=yqb (A:=redS a l) (by omega) (ygd h o')
   have hs1:=yco (S:=redS a l) (by omega) (yc9 o')
   have hs2:=yco (S:=refS id a l) (by omega) (yc9 o)
   have l1:=fun K=>ycq (S:=redS a l) (R:=refS id a l) (by omega) (by omega) (fun i hi=>⟨by have:=o.few i hi;omega,fun d hd=>by
     have hd':=(o.gd i hi d hd).cs h (by omega)
     exact ⟨(o.gd i hi d hd).ok h (by omega),hd'.lb,hd'.ls⟩⟩) (fun i hi hi'=>⟨by have:=o'.few i hi;omega,fun c hc=>by
     rw [zwz h] at hc
     rw [ymb h]
     exact (zoa _ _).subset hc⟩) K N0 0 (Nat.zero_le _) (by unfold N0;omega)
   have l1':∀ K,z1i N0 K N0 (redS a l,((redS a l).length:Int),0,refS id a l)=K:=fun K=>by have:=l1 K;simpa using this
   simp only [z2k,z1d,z0z,z0y,z0c,length_map,hc1',hc2,z04,yce h hn,hsame,hs1,hs2,z6c,l1',hawk]
   simp only [if_pos trivial]
   rw [if_neg (by omega),if_pos (by omega)]
theorem y30 (a:z07)(hw:WfA a)(l:List z03):Con E0 true 10 [z0o a,.sl 5 (l.map z02)] (.bool true):=zhe (y3l a hw l)
open Go.ChangeShapes Go.WideShapes Go.ChangeAt
theorem ym3 {w:World}{S:Nat->Prop}{a b:AV}{x y:Value}(ha:Rep w S G0 a x)(hb:Rep w S G0 b y):Args w S [a,b] #[x,y] :=
 ⟨rfl,fun i hi=>by
  have hi':i<2:=hi
  rcases i with _|_|i
  ·exact ha
  ·exact hb
  ·omega⟩
theorem yl6:ownKnob Tryz.prog.godebug=none:=by kernel_rfl
theorem ylb:laidOutB Tryz.prog=true:=by kernel_rfl
section
variable {H:Type} {enc:TypeId×Value->H}
theorem zto {W W':World}{sp':Nat->Bool}(hb:Below W.heap.size W W')(ts:List TypeId):∀ (vs:List Value) (ds:List (DataW H)) (p:List MemPlace),ts.all (fun t=>Tryz.prog.readableRec t && decide (t<Tryz.prog.types.size))=true ->
  DataW.TrodAll enc Tryz.prog W 0 (fun _=>true) true ts vs ds p->(∀ x∈p,x.block<W.heap.size)->(∀ x∈p,sp' x.block=true)->DataW.TrodAll enc Tryz.prog W' 0 sp' true ts vs ds p:=by
 induction ts with
 |nil =>
  intro vs ds p _ h _ _
  match vs,ds,h with
  |[],[],h=>exact h
  |_::_,_,h=>exact h.elim
  |[],_::_,h=>exact h.elim
 |cons t ts ih =>
  intro vs ds p hr h hlt hs
  match vs,ds,h with
  |v::vs,d::ds,h =>
   obtain ⟨q,r,h1,h2,rfl⟩:=h
   have hr1:Tryz.prog.readableRec t=true/\t<Tryz.prog.types.size:=by
    have:=all_eq_true.mp hr t (mem_cons_self ..)
    rw [Bool.and_eq_true,decide_eq_true_eq] at this;exact this
   have hr2:ts.all (fun t=>Tryz.prog.readableRec t && decide (t<Tryz.prog.types.size))=true :=
    all_eq_true.mpr fun x hx=>all_eq_true.mp hr x (mem_cons_of_mem _ hx)
   exact ⟨q,r,WideElems.Trod_stays ylb hr1.1 hr1.2 h1 (fun x hx=>hb.same (hlt x (mem_append_left _ hx))) (fun x hx=>hs x (mem_append_left _ hx)),
    ih vs ds r hr2 h2 (fun x hx=>hlt x (mem_append_right _ hx)) (fun x hx=>hs x (mem_append_right _ hx)),rfl⟩
  |[],_,h=>exact h.elim
  |_::_,[],h=>exact h.elim
theorem y9m {W:World}{b:Nat}{sp:Nat->Bool}(ts:List TypeId):∀ (vs:List Value) (ds:List (DataW H)) (p:List MemPlace),DataW.TrodAll enc Tryz.prog W b sp true ts vs ds p->ds.length=ts.length:=by
 induction ts with
 |nil =>
  intro vs ds p h
  match vs,ds,h with
  |[],[],h=>rfl
  |_::_,_,h=>exact h.elim
  |[],_::_,h=>exact h.elim
 |cons t ts ih =>
  intro vs ds p h
  match vs,ds,h with
  |v::vs,d::ds,h =>
   obtain ⟨q,r,h1,h2,rfl⟩:=h
   simp only [length_cons]
   rw [ih vs ds r h2]
  |[],_,h=>exact h.elim
  |_::_,[],h=>exact h.elim
end
section
variable {H:Type} {enc:TypeId×Value->H}
set_option maxRecDepth 100000 in
theorem yas (F:Stop.Interp)(os:Os)(started:os.Started){f:FuncId}{fn:Func}{s:ChangeSpec}{fr:Bool}(hf:Tryz.prog.funcs[f]? = some fn)(hni:Tryz.prog.inits.idxOf? f=none)
  (hw:∃ (w:World) (tape:Tape) (i:Input),w.os=os/\(w.forCall tape i).Shaped Tryz.checked.prog/\i.vars=[]/\Input.okWide Tryz.checked.prog (w.forCall tape i) .any w.heap.size f i /\
    (Rows.OpenSpec.upto s).pre6 enc Tryz.checked.prog fn [] false (w.forCall tape i).memory i.args/\Assume.holds {} Tryz.checked.prog (lone (Frame.enter Tryz.checked.prog f i.args .normal) [] (w.forCall tape i)))
  (hvars:s.vars=[]) (hres:fn.resultTypes=#[4]) (hread:fn.params.toList.all (fun t=>Tryz.prog.readableRec t && decide (t<Tryz.prog.types.size))=true)
  (hspec:∀ ds:List (DataW H),ds.length=fn.params.size->s.fn H ds={ results:=[.lit (.bool true)],args:=ds })
  (hopen:∀ (W:World) (base:Nat) (args:Array Value) (ds:List (DataW H)) (p:List MemPlace),(∀ (j:Nat) t v,fn.params[j]? = some t->args[j]? = some v->Value.okWide Tryz.prog W .any base t v) ->
    DataW.TrodAll enc Tryz.prog W 0 (fun _=>true) true fn.params.toList args.toList ds p->Rows.uptoBulkAll ds<=1048576->∃ avs,Args W (fun _=>True) avs args/\Con E0 fr f avs (.bool true)) :
  ReturnsInHanded {} Tryz.checked os f .any ((Rows.OpenSpec.upto s).pre6 enc Tryz.prog fn [] false) (((Rows.OpenSpec.upto s).at F).post enc Tryz.prog fn false true false false):=by
 refine returnsInHanded_of_cond (C:=Tryz.checked) (s:=Rows.OpenSpec.upto s) (k:=Rows.uptoSmall) rfl yl6 started hni hf hw ?_
 intro W base args ds gs before hval hW hcnd hk _
 show Calls Tryz.checked.prog f args W fun e W'=>∃ v,e=.returned v/\s.post enc Tryz.prog fn false true false false W args v W'
 have hW':=hW
 obtain ⟨p,q,hA,hV,rfl,hfz,hnd⟩:=hW
 have hlt:∀ x∈p++q,x.block<W.heap.size:=fun x hx=>DataW.Whole.lt hW' x hx
 rw [show (Rows.OpenSpec.upto s).vars=s.vars from rfl,hvars] at hV
 obtain ⟨rfl,rfl⟩:=trodVars_none hV
 have hbk:Rows.uptoBulkAll ds<=1048576:=by
  have:=of_decide_eq_true hk
  rwa [append_nil] at this
 obtain ⟨avs,hargs,hcon⟩:=hopen W base args ds p hval hA hbk
 refine (hcon.2 (fun _=>True) W args hargs).mono fun e W' ⟨v,he,⟨hb,_⟩,hv⟩=>?_
 have hv:=hv.bool_inv
 subst hv
 subst he
 have hdl:ds.length=fn.params.size:=(y9m _ _ _ _ hA).trans (by simp)
 have hsp:s.fn H (ds++[])={ results:=[.lit (.bool true)],args:=ds }:=by rw [append_nil];exact hspec ds hdl
 have hltp:∀ x∈p,x.block<W.heap.size:=fun x hx=>hlt x (by simp [hx])
 have k0:=zto (sp':=fun b=>decide (b<W.heap.size)) hb _ _ _ _ hread hA hltp (fun x hx=>by simpa using hltp x hx)
 have k1:=zto (sp':=fun _=>true) hb _ _ _ _ hread hA hltp (fun x hx=>rfl)
 have hrl:(Value.bool true).resultList fn.resultTypes.size=[.bool true]:=by rw [hres];rfl
 have hrt:fn.resultTypes.toList=[4]:=by rw [hres]
 refine ⟨_,rfl,ds,[],_,[],p,[],hW',?_,?_,?_,World.keptBut_mono (fun x hx=>⟨hx,?_⟩) (hb.frame (·∈p++[])),fun h=>?_⟩
 ·rw [hsp,hrt,hrl];exact trodAll_mk1 (shut_bool Tryz.underlying4 true)
 ·rw [hsp];exact k0
 ·rw [hsp,hvars];exact rfl
 ·exact Or.inr (Or.inl (by simpa using hx))
 ·rw [hrt,hrl,hvars]
  refine ⟨?_,[.lit (.bool true)]++ds,[],p,⟨p,[],?_,rfl,by simp,?_,fun h=>by simp at h⟩,?_⟩
  ·rw [hres];intro j t r ht hr
   match j with
   |0 =>
    obtain rfl:4=t:=Option.some.inj ht
    obtain rfl:Value.bool true=r:=Option.some.inj hr
    exact okWide_bool_mk Tryz.underlying4 true
   |j+1=>exact absurd hr (by simp)
  ·exact trodAll_append k1 (trodAll_mk1 (shut_bool Tryz.underlying4 true))
  ·intro b off hp
   have hin:MemPlace.cell b off∈p++[]:=by simpa using hp
   rw [hb.frozen (hlt _ hin)]
   exact hfz b off hin
  ·intro x hx _
   simpa using hx
end
open Go.Joins Go.Deep
section
variable {H:Type} {enc:TypeId×Value->H} {W:World} {base:Nat} {v:Value} {d:DataW H} {p:List MemPlace}
variable {u:Value}
theorem y5w {a:Addr}(h:W.cell? a=some u):a.spot=none/\a.block<W.heap.size:=by
 unfold World.cell? at h
 split at h
 ·rename_i c _ _ hg
  split at h
  ·cases h
  ·rename_i hs
   refine ⟨by cases hh:a.spot with|none=>rfl|some _=>simp [hh] at hs,?_⟩
   rcases Nat.lt_or_ge a.block W.heap.size with hlt|hge
   ·exact hlt
   ·rw [Array.getElem?_eq_none hge] at hg;cases hg
 ·cases h
theorem zwd (b off k:Nat):(⟨b,off,none⟩:Addr).add k=⟨b,off+k,none⟩:=by
 by_cases h:k=0<;>simp [Addr.add,h]
variable {α:Type}
theorem y7h {β:Type}{f:α->Option β}:∀ {l:List α} {r:List β},l.mapM f=some r->r.length=l.length/\∀ k (hk:k<l.length) (hr:k<r.length),f l[k]=some r[k]
 |[],r,h=>by simp at h;subst h;exact ⟨rfl,fun k hk=>absurd hk (by simp)⟩
 |a::l,r,h=>by
  simp only [mapM_cons] at h
  cases ha:f a with
  |none=>rw [ha] at h;simp at h
  |some b =>
   rw [ha] at h
   cases hl:l.mapM f with
   |none=>rw [hl] at h;simp at h
   |some s =>
    rw [hl] at h
    simp at h
    subst h
    obtain ⟨i1,i2⟩:=y7h hl
    refine ⟨by simp [i1],fun k hk hr=>?_⟩
    cases k with
    |zero=>exact ha
    |succ k=>exact i2 k (by simpa using hk) (by simpa using hr)
theorem zry {a:Addr}{n:Nat}{cs:List Value}(h:W.cells? 0 a n=some cs):cs.length=n/\∀ j,j<n->W.cell? (a.add j)=some (cs.getD j undef):=by
 unfold World.cells? at h
 rw [if_pos (Nat.zero_le _)] at h
 obtain ⟨i1,i2⟩:=y7h h
 have hl:cs.length=n:=by simpa using i1
 refine ⟨hl,fun j hj=>?_⟩
 have:=i2 j (by simpa using hj) (by omega)
 rw [getElem_range] at this
 rw [this]
 simp [getElem?_eq_getElem (show j<cs.length by omega)]
set_option maxRecDepth 100000
def zvp (W:World)(a:α->AV)(m:α)(cs:List Value):Prop :=
 cs.length=(a m).cells.length/\∀ j (hj:j<(a m).cells.length),Rep W (fun _=>True) G0 ((a m).cells[j]) (cs.getD j undef)/\(cs.getD j undef).oneCell'=true
variable {sz:Nat}
theorem ygc {a:α->AV}{t e:TypeId}(ht:Tryz.prog.underlying t=some (.slice e))(hsz:Tryz.prog.cellsOf e=sz)(h0:0<sz)(i0:Inhabited α)(hlen:∀ m,(a m).cells.length=sz)
  (each:∀ (n:Nat) (cs:List Value) (x:DataW H×List MemPlace),cs.length=sz->DataW.trod enc Tryz.prog W 0 (fun _=>true) true n e cs=some x->∃ m:α,zvp W a m cs)
  {n:Nat}  {x:DataW H×List MemPlace} (h:DataW.trod enc Tryz.prog W 0 (fun _=>true) true n t [u]=some x):∃ l:List α,Rep W (fun _=>True) G0 (.sl sz (l.map a)) u:=by
 rcases open_slice ht h with ⟨h1,_⟩|⟨A,len,cap,m,n',D,Pl,h1,_,hlc,hm,hmm,_,hc⟩
 ·simp only [List.cons.injEq,and_true] at h1
  subst h1
  exact ⟨[],.sl none 0 (fun _ _=>.bool true) (by simp) (fun k hk=>absurd hk (by simp)) (fun h=>absurd h (by simp)) (fun k hk=>absurd hk (by simp)) (fun _ _=>rfl)⟩
 ·simp only [List.cons.injEq,and_true] at h1
  subst h1
  simp only [if_true] at hmm
  subst hmm
  rw [hsz] at hc
  have every:∀ i,∃ q:α×List Value,i<len->W.cells? 0 (A.add (i*sz)) sz=some q.2/\zvp W a q.1 q.2:=fun i=>by
   by_cases hi:i<len
   ·obtain ⟨cs,c1,c2⟩:=hc i (by omega)
    obtain ⟨k,hk⟩:=each n' cs _ (zry c1).1 c2
    exact ⟨(k,cs),fun _=>⟨c1,hk⟩⟩
   ·exact ⟨(i0.default,[]),fun h=>absurd h hi⟩
  obtain ⟨f,hf⟩:=Classical.axiomOfChoice every
  have hl:((range len).map fun i=>(f i).1).length=len:=by simp
  refine ⟨(range len).map fun i=>(f i).1,?_⟩
  have e:len=(((range len).map fun i=>(f i).1).map a).length:=by simp
  have hcell:∀ k j,k<len->j<sz->W.cell? ((A.add (k*sz)).add j)=some ((f k).2.getD j undef):=fun k j hk hj=>(zry (hf k hk).1).2 j hj
  have:Rep W (fun _=>True) G0 (.sl sz (((range len).map fun i=>(f i).1).map a)) (.slice (some A) (((range len).map fun i=>(f i).1).map a).length m):=by
   refine .sl (some A) m (fun k j=>if k<len/\j<sz then (f k).2.getD j undef else .bool true) (by simpa using hlc) (fun k hk=>?_) (fun h0'=>?_) (fun k hk j hj=>?_) (fun k j=>?_)
   ·simp only [getElem_map];exact hlen _
   ·have hlp:0<len:=by simpa using h0'
    have c0:=y5w (hcell 0 0 hlp h0)
    obtain ⟨b,off,sp⟩:=A
    have e1:sp=none:=by simpa [Addr.add] using c0.1
    subst e1
    rw [zwd,zwd] at c0
    refine ⟨b,off,rfl,trivial,c0.2,fun k j hk hj=>?_⟩
    have hk':k<len:=by simpa using hk
    have:=hcell k j hk' hj
    rw [zwd,zwd] at this
    rw [if_pos ⟨hk',hj⟩,<-this]
    congr 2
    omega
   ·have hk':k<len:=by simpa using hk
    simp only [getElem_map,getElem_range] at hj ⊢
    have hj':j<sz:=by rw [hlen] at hj;exact hj
    rw [if_pos ⟨hk',hj'⟩]
    exact ((hf k hk').2.2 j hj).1
   ·by_cases hkj:k<len/\j<sz
    ·rw [if_pos hkj]
     exact ((hf k hkj.1).2.2 j (by rw [hlen];exact hkj.2)).2
    ·rw [if_neg hkj];rfl
  rw [<-e] at this
  exact this
theorem Rep.one_sl {xs:List AV}(h:Rep W (fun _=>True) G0 (.sl sz xs) u):u.oneCell'=true:=by
 cases h;rfl
theorem yeq {a:α->AV}{t e:TypeId}(ht:Tryz.prog.underlying t=some (.slice e))(hsz:Tryz.prog.cellsOf e=sz)(h0:0<sz)(i0:Inhabited α)(hlen:∀ m,(a m).cells.length=sz)
  (each:∀ (n:Nat) (cs:List Value) (x:DataW H×List MemPlace),cs.length=sz->DataW.trod enc Tryz.prog W 0 (fun _=>true) true n e cs=some x->∃ m:α,zvp W a m cs)
  (hv:Value.okWide Tryz.prog W .any base t v) (h:DataW.Trod enc Tryz.prog W 0 (fun _=>true) true t v d p):∃ l:List α,Rep W (fun _=>True) G0 (.sl sz (l.map a)) v:=by
 obtain ⟨A,len,cap,rfl⟩:=okWide_slice ht hv
 obtain ⟨fuel,hf⟩:=h
 exact ygc ht hsz h0 i0 hlen each hf
theorem yrr {a:α->AV}{m:α}{cs:Array Value}{xs:List AV}(hm:a m=.agg xs)(h:zvp W a m cs.toList):Rep W (fun _=>True) G0 (a m) (.agg cs):=by
 obtain ⟨h1,h2⟩:=h
 rw [hm] at h1 h2 ⊢
 have hl:cs.size=xs.length:=by simpa [AV.cells] using h1
 have g:∀ i,cs.toList.getD i undef=cs.getD i undef:=fun i=>by
  by_cases hi:i<cs.size
  ·simp [Array.getD,hi]
  ·simp [Array.getD,hi]
 refine .agg _ hl (fun i hi=>?_) (fun i hi=>?_)
 ·have:=(h2 i hi).1
  rw [g] at this
  exact this
 ·have:=(h2 i (show i<xs.length by rw [<-hl];exact hi)).2
  rw [g] at this
  exact this
end
section
variable {H:Type} {enc:TypeId×Value->H} {W:World} {base:Nat} {v:Value} {d:DataW H} {p:List MemPlace}
set_option maxRecDepth 100000
def zcq (W:World)(xs:List AV)(cs:List Value):Prop :=
 cs.length=xs.length/\∀ j (hj:j<xs.length),Rep W (fun _=>True) G0 (xs[j]) (cs.getD j undef)/\(cs.getD j undef).oneCell'=true
theorem zcq.one {a:AV}{c:Value}(h:Rep W (fun _=>True) G0 a c)(h1:c.oneCell'=true):zcq W [a] [c]:=by
 refine ⟨rfl,fun j hj=>?_⟩
 have hj':j<1:=hj
 rcases j with _|j
 ·exact ⟨h,h1⟩
 ·omega
variable {cs:List Value}
theorem zcq.append {xs ys:List AV}{ds:List Value}(h1:zcq W xs cs)(h2:zcq W ys ds):zcq W (xs++ys) (cs++ds):=by
 refine ⟨by rw [length_append,length_append,h1.1,h2.1],fun j hj=>?_⟩
 by_cases h:j<xs.length
 ·have:=h1.2 j h
  rw [getElem_append_left h]
  have e:(cs++ds).getD j undef=cs.getD j undef:=by
   simp only [getD_eq_getElem?_getD]
   rw [getElem?_append_left (by rw [h1.1];exact h)]
  rw [e];exact this
 ·have hj':j-xs.length<ys.length:=by rw [length_append] at hj;omega
  have:=h2.2 (j-xs.length) hj'
  rw [getElem_append_right (by omega)]
  have e:(cs++ds).getD j undef=ds.getD (j-xs.length) undef:=by
   simp only [getD_eq_getElem?_getD]
   rw [getElem?_append_right (by rw [h1.1];omega),h1.1]
  rw [e];exact this
theorem zcq.cut {o s:Nat}{xs ys:List AV}(h1:zcq W xs ((cs.drop o).take s))(h2:zcq W ys (cs.drop (o+s))):zcq W (xs++ys) (cs.drop o):=by
 have:cs.drop o=(cs.drop o).take s++cs.drop (o+s):=by rw [<-drop_drop,take_append_drop]
 rw [this]
 exact h1.append h2
theorem zcq.done {o:Nat}(h:cs.length<=o):zcq W [] (cs.drop o):=by
 rw [drop_eq_nil_of_le h]
 exact ⟨rfl,fun j hj=>absurd hj (by simp)⟩
theorem z80 {o s:Nat}(h:o+s<=cs.length):((cs.drop o).take s).length=s:=by rw [length_take,length_drop];omega
abbrev FO (enc:TypeId×Value->H)(W:World)(t:TypeId)(sz:Nat){α:Type}(e:α->List AV):Prop :=
 ∀ (n:Nat) (cs:List Value) (x:DataW H×List MemPlace),cs.length=sz->DataW.trod enc Tryz.prog W 0 (fun _=>true) true n t cs=some x->∃ m:α,zcq W (e m) cs
variable {t:TypeId}
theorem zgu (ht:Tryz.prog.underlying t=some (.int .i64)):FO enc W t 1 (fun z:Int=>[aI z]):=fun n cs x hl h=>by
 obtain ⟨z,rfl,_⟩:=DataW.trod_int (k:=.i64) ht h
 exact ⟨z,.one (.int _ _) rfl⟩
theorem yr5 (ht:Tryz.prog.underlying t=some .string):FO enc W t 1 (fun z:ByteArray=>[AV.str z]):=fun n cs x hl h=>by
 obtain ⟨z,rfl,_⟩:=DataW.trod_string ht h
 exact ⟨z,.one (.str _) rfl⟩
theorem ysk {e:TypeId}{sz:Nat}{α:Type}{a:α->AV}(ht:Tryz.prog.underlying t=some (.slice e))(hsz:Tryz.prog.cellsOf e=sz)(h0:0<sz)(i0:Inhabited α)(hlen:∀ m,(a m).cells.length=sz)
  (each:FO enc W e sz (fun m:α=>(a m).cells)):FO enc W t 1 (fun l:List α=>[AV.sl sz (l.map a)]):=fun n cs x hl h=>by
 match cs,hl with
 |[c],_ =>
  obtain ⟨l,hl⟩:=ygc (a:=a) ht hsz h0 i0 hlen each h
  exact ⟨l,.one hl hl.one_sl⟩
theorem yoy (ht:Tryz.prog.underlying t=some (.int .i64)):FO enc W t 1 (fun z:Int=>(aI z).cells):=zgu ht
theorem yjm {α:Type}{a:α->AV}{e:TypeId}{sz:Nat}(ht:Tryz.prog.underlying t=some (.slice e))(hsz:Tryz.prog.cellsOf e=sz)(h0:0<sz)(i0:Inhabited α)(hlen:∀ m,(a m).cells.length=sz)
  (each:FO enc W e sz (fun m:α=>(a m).cells)) (hv:Value.okWide Tryz.prog W .any base t v) (h:DataW.Trod enc Tryz.prog W 0 (fun _=>true) true t v d p):∃ l:List α,Rep W (fun _=>True) G0 (.sl sz (l.map a)) v :=
 yeq ht hsz h0 i0 hlen each hv h
end
end Go.Proofs.YtidhlpjgifoneaaGreat
