/- Layer 57, plainly. -/
import Derived.Test.YtidhlpjgifoneaaGreatK34
import Derived.Test.YtidhlpjgifoneaaGreatRows
import Derived.ProofKit
import Derived.Lib.SmallJoins
import Derived.Deep.Slices
import Derived.Below
import Derived.OpenShut
import Derived.JoinedCond
set_option linter.unusedVariables false
set_option linter.unusedSimpArgs false
namespace Go.Proofs.YtidhlpjgifoneaaGreat
open Go.RowKit List
variable {l:List Ev}
theorem ymf (k:Nat):∀ x∈l.take k,x∈l:=fun x hx=>mem_of_mem_take hx
variable {a:Aut}
theorem yqa (h:GS a l)(k:Nat)(p:List Ev)(hp:∀ e∈p,e∈l.take k):wiP 150 a (l.take k) p [cf0] []=wiP 150 a l p [cf0] [] :=
 ybf (h.cxp k) (znl (h.pre k)).st h.so.st (ymf k) p 0 [cf0] [] hp (fun c hc=>by rw [mem_singleton.1 hc];exact cb0 h.ok)
theorem yo2 (h:GS a l)(k:Nat):GS a (l.take k) :=
 ⟨h.wf,h.few,h.ok,h.chk,h.acheck,h.pre k,by have:=h.len;rw [length_take];omega,by rw [yqa h k _ (fun e he=>he),yjf h k]⟩
variable {k:Nat}
theorem ymc (h:GS a l){i:Nat}(hk:i<=k):xsI a (l.take k) i=xsI a l i/\msI a (l.take k) i=msI a l i:=by
 have e:(l.take k).take i=l.take i:=by rw [take_take,Nat.min_eq_left hk]
 unfold xsI msI
 rw [e,yqa h k _ (fun x hx=>by grind)]
 exact ⟨rfl,rfl⟩
theorem ylt (h:GS a l)(hn:NM a l 0):∀ i,i<=l.length->msI a l i=[]
 |0,_=>(zwz a l).2
 |i+1,hi=>by
  rw [(zsd h (by omega)).2.1,ylt h hn i (by omega),hn i (Nat.zero_le _) (by omega)]
  rfl
theorem yol (h:GS a l){i:Nat}(hik:i<=k){cs:List Cf}(hc:∀ c∈cs,Gd57 a l i c)(e:Ev):cfN a (l.take k) cs e=cfN a l cs e:=by
 have h1:=Gd57.lk h hc
 have h2:=yon (znl (h.pre k)).st (l:=l.take i) (more:=l.take k) (fun y hy=>by rw [<-Nat.min_eq_left hik,<-take_take] at hy;exact mem_of_mem_take hy) (fun c hc'=>(hc c hc').held h)
 exact zty (fun c hc b hb=>by grind) e
variable {f:List Cf->List Cf}
theorem yfi (h:GS a l)(hf:Ch a l f)(hk:k<=l.length):∀ (n i:Nat) (cs:List Cf),i+n=k->Sb a l i cs->tS f a (l.take k) ((l.drop i).take n) cs=(tS f a l (l.drop i) cs).take n
 |0,i,cs,h1,h2=>by rw [take_zero,take_zero];rfl
 |n+1,i,cs,h1,h2=>by
  have hi:i<l.length:=by omega
  rw [drop_eq_getElem_cons hi,take_succ_cons,zu7,zu7,take_succ_cons,yol h (by omega) (h2.gd h (by omega)),yfi h hf hk n (i+1) _ (by omega) (hf.sub _ _ (h2.next h hi))]
theorem yjq (h:GS a l)(hf:Ch a l f)(hk:k<=l.length):refS f a (l.take k)=(refS f a l).take (k+1):=by
 unfold refS
 have:=yfi h hf hk k 0 [cf0] (by omega) (sb0 a l)
 simp_all
variable {A:List (List Cf)}
theorem y5u {B:List (List Cf)}(hl:A.length=B.length)(hA:A.length<=1000000)(hok:∀ x∈A,x.length<=1000000/\∀ c∈x,cfOk c=true)(hokB:∀ x∈B,∀ c∈x,cfOk c=true):∀ (m k:Nat),k<=A.length->A.length<m+k->z88 N0 ⟨B⟩ ⟨A⟩ (some true) m (k:Int)=some (decide (A.drop k=B.drop k))
 |0,k,h1,h2=>by omega
 |m+1,k,h1,h2=>by
  unfold z88
  simp only [length_map,z0c]
  by_cases h:k<A.length
  ·have h':k<B.length:=by omega
   have hk:=hok _ (getElem_mem h)
   rw [if_pos (by omega),z0k h,z0k h',ymv N0 (by decide) _ _ hk.2 (hokB _ (getElem_mem h')) hk.1,z04,drop_eq_getElem_cons h,drop_eq_getElem_cons h',z1m k (by omega)]
   have ih:=y5u hl hA hok hokB m (k+1) (by omega) (by omega)
   rw [z0x,z0c]
   by_cases e:A[k]=B[k]
   ·have q:(A[k]::A.drop (k+1)=B[k]::B.drop (k+1)) ↔ A.drop (k+1)=B.drop (k+1):=⟨fun h=>(List.cons.inj h).2,fun h=>by rw [e,h]⟩
    simp_all
   ·have q:¬(A[k]::A.drop (k+1)=B[k]::B.drop (k+1)):=fun h=>e (List.cons.inj h).1
    rw [if_neg e,decide_eq_false q]
  grind
theorem yph (hA:A.length<=1000000)(hok:∀ x∈A,x.length<=1000000/\∀ c∈x,cfOk c=true):zbv N0 ⟨A⟩ ⟨A⟩=some true:=by
 unfold zbv
 simp only [length_map,z0x,z0c]
 rw [if_pos trivial]
 have:=y5u (A:=A) (B:=A) rfl hA hok (fun x hx=>(hok x hx).2) N0 0 (Nat.zero_le _) (by unfold N0;omega)
 simpa using this
theorem yfp (h:GS a l){S:List (List Cf)}(hS:zs9 a l S):∀ x∈S,x.length<=1000000/\∀ c∈x,cfOk c=true:=fun x hx=>by
 obtain ⟨i,hi,rfl⟩:=mem_iff_getElem.1 hx
 have h1:=hS.few i hi
 have h2:=hS.ln
 have h3:=h.len
 exact ⟨by omega,fun c hc=>(hS.gd i hi c hc).ok h (by omega)⟩
theorem yhu (hw:WfA a)(l:List Ev):∃ g:Bool,zc2 N0 a l=some g/\(g=true->GS a l):=by
 obtain ⟨b,b1,b2⟩:=ygb a hw l
 unfold zc2
 simp only [z2i,z1e,z5w]
 rw [b1,z04]
 cases b with
 |false=>exact ⟨false,z65 _ _,fun h=>by cases h⟩
 |true =>
  obtain ⟨hf,hl,q,hb,hs⟩:=b2 rfl
  have e:z2o N0 a l=z6j N0 a l:=by unfold z2o z6j;rfl
  rw [z52,<-e,hb,z04]
  refine ⟨_,rfl,fun hq=>GS.of hw b1 ?_⟩
  simp_all
theorem y6y (a:Aut)(hw:WfA a)(l:List Ev)(z:Int)(hz:0<=z/\z<=255):z7r N0 a l z=some true:=by
 have hawk:z7y N0=some true:=yez
 obtain ⟨g,hg,hgs⟩:=yhu hw l
 unfold z7r
 rw [hg,z04,z0x]
 cases g with
 |false=>rw [z65,hawk,z04]
 |true =>
  have h:=hgs rfl
  have hln:=h.len
  obtain ⟨n,rfl⟩:∃ n:Nat,z=(n:Int):=⟨z.toNat,by omega⟩
  have e1:IntKind.wrap .i64 (((l.map z02).length:Int)+1)=((l.length+1:Nat):Int):=by rw [length_map,z1m _ (by omega)]
  have e2:IntKind.wrap .i64 (n:Int)=(n:Int):=zee _ (by omega)
  have e3:((n:Int)).tmod ((l.length+1:Nat):Int)=((n % (l.length+1):Nat):Int):=by rw [Int.tmod_eq_emod_of_nonneg (by omega)];rfl
  generalize hk:n % (l.length+1)=k at e3
  have hkl:k<=l.length:=by have:=Nat.mod_lt n (y:=l.length+1) (by omega);omega
  have hsl:∀ (K:List Ev->Option Bool),sls l 0 (k:Int) K=K (l.take k):=fun K=>by
   have:=ziz (l:=l) (a:=0) (b:=k) (Nat.zero_le _) hkl K
   simpa using this
  have h':=yo2 h k
  rw [z52,e1,e2,e3,yq4 (by omega),ycg h,z04,hsl,ycg h',z04]
  simp only [z2i,z1e,z11,z1b,e1,e2,e3]
  cases hm:msI a l l.length with
  |cons m r =>
   cases hm':msI a (l.take k) (l.take k).length with
   |cons m' r'=>simp [z65,z52,hawk,z04]
   |nil=>simp [z65,z52,hawk,z04]
  |nil =>
   have hn:=(yhc h).1 hm
   have hlk:(l.take k).length=k:=by rw [length_take];omega
   have hm':msI a (l.take k) (l.take k).length=[]:=by rw [hlk,(ymc h (Nat.le_refl k)).2];exact ylt h hn k hkl
   have hn':=(yhc h').1 hm'
   obtain ⟨o1,o2⟩:=ylh h' (ydn a (l.take k))
   have hr:=yjq h (ydn a l) hkl
   have hlen:(refS (redP (zfx a)) a l).length=l.length+1:=by unfold refS;rw [length_cons,y57]
   have hsS:∀ (K:List (List Cf)->Option Bool),sls (refS (redP (zfx a)) a l) 0 ((k+1:Nat):Int) K=K (refS (redP (zfx a)) a (l.take k)):=fun K=>by
    have:=ziz (l:=refS (redP (zfx a)) a l) (a:=0) (b:=k+1) (Nat.zero_le _) (by omega) K
    rw [hr]
    simpa using this
   have hsame:=yph (A:=refS (redP (zfx a)) a (l.take k)) (by rw [o1.ln,hlk];omega) (yfp h' o1)
   have hver:=ymi h' (ydn a (l.take k)) hn'
   rw [hm']
   simp only [z0x,z0c,length_map,hlen,z1m k (by omega:k<=1000000000000),hsS,hsame,z04,hsl,hver,hawk]
   simp [z65,z52]
theorem y8d (a:z07)(hw:WfA a)(l:List z03)(n:Nat)(hn:n<=255):Con E0 true 8 [z0n a,.sl 5 (l.map z02),.int .u8 (n:Int)] (.bool true):=zh2 (y6y a hw l (n:Int) (by omega))
open Go.ChangeShapes Go.WideShapes Go.ChangeAt
theorem yf0 {w:World}{S:Nat->Prop}{a b c:AV}{x y z:Value}(ha:Rep w S G0 a x)(hb:Rep w S G0 b y)(hc:Rep w S G0 c z):Args w S [a,b,c] #[x,y,z] :=
 ⟨rfl,fun i hi=>by
  have hi':i<3:=hi
  rcases i with _|_|_|i
  ·exact ha
  ·exact hb
  ·exact hc
  ·omega⟩
theorem ykg:ownKnob Tryz.prog.godebug=none:=by kernel_rfl
theorem ykl:laidOutB Tryz.prog=true:=by kernel_rfl
section
variable {H:Type} {enc:TypeId×Value->H}
theorem zt6 {W W':World}{sp':Nat->Bool}(hb:Below W.heap.size W W')(ts:List TypeId):∀ (vs:List Value) (ds:List (DataW H)) (p:List MemPlace),ts.all (fun t=>Tryz.prog.readableRec t && decide (t<Tryz.prog.types.size))=true ->
  DataW.TrodAll enc Tryz.prog W 0 (fun _=>true) true ts vs ds p->(∀ x∈p,x.block<W.heap.size)->(∀ x∈p,sp' x.block=true)->DataW.TrodAll enc Tryz.prog W' 0 sp' true ts vs ds p:=by
 induction ts with
 |nil =>
  intro vs ds p _ h _ _
  match vs,ds,h with
  |[],[],h=>exact h
  |_::_,_,h=>exact h.elim
  |[],_::_,h=>exact h.elim
 |cons t ts ih =>
  intro vs ds p hr h hlt hs
  match vs,ds,h with
  |v::vs,d::ds,h =>
   obtain ⟨q,r,h1,h2,rfl⟩:=h
   have hr1:Tryz.prog.readableRec t=true/\t<Tryz.prog.types.size:=by
    have:=all_eq_true.mp hr t (mem_cons_self ..)
    rw [Bool.and_eq_true,decide_eq_true_eq] at this;exact this
   have hr2:ts.all (fun t=>Tryz.prog.readableRec t && decide (t<Tryz.prog.types.size))=true :=
    all_eq_true.mpr fun x hx=>all_eq_true.mp hr x (mem_cons_of_mem _ hx)
   exact ⟨q,r,WideElems.Trod_stays ykl hr1.1 hr1.2 h1 (fun x hx=>hb.same (hlt x (mem_append_left _ hx))) (fun x hx=>hs x (mem_append_left _ hx)),
    ih vs ds r hr2 h2 (fun x hx=>hlt x (mem_append_right _ hx)) (fun x hx=>hs x (mem_append_right _ hx)),rfl⟩
  |[],_,h=>exact h.elim
  |_::_,[],h=>exact h.elim
theorem y92 {W:World}{b:Nat}{sp:Nat->Bool}(ts:List TypeId):∀ (vs:List Value) (ds:List (DataW H)) (p:List MemPlace),DataW.TrodAll enc Tryz.prog W b sp true ts vs ds p->ds.length=ts.length:=by
 induction ts with
 |nil =>
  intro vs ds p h
  match vs,ds,h with
  |[],[],h=>rfl
  |_::_,_,h=>exact h.elim
  |[],_::_,h=>exact h.elim
 |cons t ts ih =>
  intro vs ds p h
  match vs,ds,h with
  |v::vs,d::ds,h =>
   obtain ⟨q,r,h1,h2,rfl⟩:=h
   simp only [length_cons]
   rw [ih vs ds r h2]
  |[],_,h=>exact h.elim
  |_::_,[],h=>exact h.elim
end
section
variable {H:Type} {enc:TypeId×Value->H}
set_option maxRecDepth 100000 in
theorem ya4 (F:Stop.Interp)(os:Os)(started:os.Started){f:FuncId}{fn:Func}{s:ChangeSpec}{fr:Bool}(hf:Tryz.prog.funcs[f]? = some fn)(hni:Tryz.prog.inits.idxOf? f=none)
  (hw:∃ (w:World) (tape:Tape) (i:Input),w.os=os/\(w.forCall tape i).Shaped Tryz.checked.prog/\i.vars=[]/\Input.okWide Tryz.checked.prog (w.forCall tape i) .any w.heap.size f i /\
    (Rows.OpenSpec.upto s).pre6 enc Tryz.checked.prog fn [] false (w.forCall tape i).memory i.args/\Assume.holds {} Tryz.checked.prog (lone (Frame.enter Tryz.checked.prog f i.args .normal) [] (w.forCall tape i)))
  (hvars:s.vars=[]) (hres:fn.resultTypes=#[4]) (hread:fn.params.toList.all (fun t=>Tryz.prog.readableRec t && decide (t<Tryz.prog.types.size))=true)
  (hspec:∀ ds:List (DataW H),ds.length=fn.params.size->s.fn H ds={ results:=[.lit (.bool true)],args:=ds })
  (hopen:∀ (W:World) (base:Nat) (args:Array Value) (ds:List (DataW H)) (p:List MemPlace),(∀ (j:Nat) t v,fn.params[j]? = some t->args[j]? = some v->Value.okWide Tryz.prog W .any base t v) ->
    DataW.TrodAll enc Tryz.prog W 0 (fun _=>true) true fn.params.toList args.toList ds p->Rows.uptoBulkAll ds<=1048576->∃ avs,Args W (fun _=>True) avs args/\Con E0 fr f avs (.bool true)) :
  ReturnsInHanded {} Tryz.checked os f .any ((Rows.OpenSpec.upto s).pre6 enc Tryz.prog fn [] false) (((Rows.OpenSpec.upto s).at F).post enc Tryz.prog fn false true false false):=by
 refine returnsInHanded_of_cond (C:=Tryz.checked) (s:=Rows.OpenSpec.upto s) (k:=Rows.uptoSmall) rfl ykg started hni hf hw ?_
 intro W base args ds gs before hval hW hcnd hk _
 show Calls Tryz.checked.prog f args W fun e W'=>∃ v,e=.returned v/\s.post enc Tryz.prog fn false true false false W args v W'
 have hW':=hW
 obtain ⟨p,q,hA,hV,rfl,hfz,hnd⟩:=hW
 have hlt:∀ x∈p++q,x.block<W.heap.size:=fun x hx=>DataW.Whole.lt hW' x hx
 rw [show (Rows.OpenSpec.upto s).vars=s.vars from rfl,hvars] at hV
 obtain ⟨rfl,rfl⟩:=trodVars_none hV
 have hbk:Rows.uptoBulkAll ds<=1048576:=by
  have:=of_decide_eq_true hk
  rwa [append_nil] at this
 obtain ⟨avs,hargs,hcon⟩:=hopen W base args ds p hval hA hbk
 refine (hcon.2 (fun _=>True) W args hargs).mono fun e W' ⟨v,he,⟨hb,_⟩,hv⟩=>?_
 have hv:=hv.bool_inv
 subst hv
 subst he
 have hdl:ds.length=fn.params.size:=(y92 _ _ _ _ hA).trans (by simp)
 have hsp:s.fn H (ds++[])={ results:=[.lit (.bool true)],args:=ds }:=by rw [append_nil];exact hspec ds hdl
 have hltp:∀ x∈p,x.block<W.heap.size:=fun x hx=>hlt x (by simp [hx])
 have k0:=zt6 (sp':=fun b=>decide (b<W.heap.size)) hb _ _ _ _ hread hA hltp (fun x hx=>by simpa using hltp x hx)
 have k1:=zt6 (sp':=fun _=>true) hb _ _ _ _ hread hA hltp (fun x hx=>rfl)
 have hrl:(Value.bool true).resultList fn.resultTypes.size=[.bool true]:=by rw [hres];rfl
 have hrt:fn.resultTypes.toList=[4]:=by rw [hres]
 refine ⟨_,rfl,ds,[],_,[],p,[],hW',?_,?_,?_,World.keptBut_mono (fun x hx=>⟨hx,?_⟩) (hb.frame (·∈p++[])),fun h=>?_⟩
 ·rw [hsp,hrt,hrl];exact trodAll_mk1 (shut_bool Tryz.underlying4 true)
 ·rw [hsp];exact k0
 ·rw [hsp,hvars];exact rfl
 ·exact Or.inr (Or.inl (by simpa using hx))
 ·rw [hrt,hrl,hvars]
  refine ⟨?_,[.lit (.bool true)]++ds,[],p,⟨p,[],?_,rfl,by simp,?_,fun h=>by simp at h⟩,?_⟩
  ·rw [hres];intro j t r ht hr
   match j with
   |0 =>
    obtain rfl:4=t:=Option.some.inj ht
    obtain rfl:Value.bool true=r:=Option.some.inj hr
    exact okWide_bool_mk Tryz.underlying4 true
   |j+1=>exact absurd hr (by simp)
  ·exact trodAll_append k1 (trodAll_mk1 (shut_bool Tryz.underlying4 true))
  ·intro b off hp
   have hin:MemPlace.cell b off∈p++[]:=by simpa using hp
   rw [hb.frozen (hlt _ hin)]
   exact hfz b off hin
  ·intro x hx _
   simpa using hx
end
open Go.Joins Go.Deep
section
variable {H:Type} {enc:TypeId×Value->H} {W:World} {base:Nat} {v:Value} {d:DataW H} {p:List MemPlace}
variable {u:Value}
theorem y58 {a:Addr}(h:W.cell? a=some u):a.spot=none/\a.block<W.heap.size:=by
 unfold World.cell? at h
 split at h
 ·rename_i c _ _ hg
  split at h
  ·cases h
  ·rename_i hs
   refine ⟨by cases hh:a.spot with|none=>rfl|some _=>simp [hh] at hs,?_⟩
   rcases Nat.lt_or_ge a.block W.heap.size with hlt|hge
   ·exact hlt
   ·rw [Array.getElem?_eq_none hge] at hg;cases hg
 ·cases h
theorem zvr (b off k:Nat):(⟨b,off,none⟩:Addr).add k=⟨b,off+k,none⟩:=by
 by_cases h:k=0<;>simp [Addr.add,h]
variable {α:Type}
theorem y6t {β:Type}{f:α->Option β}:∀ {l:List α} {r:List β},l.mapM f=some r->r.length=l.length/\∀ k (hk:k<l.length) (hr:k<r.length),f l[k]=some r[k]
 |[],r,h=>by simp at h;subst h;exact ⟨rfl,fun k hk=>absurd hk (by simp)⟩
 |a::l,r,h=>by
  simp only [mapM_cons] at h
  cases ha:f a with
  |none=>rw [ha] at h;simp at h
  |some b =>
   rw [ha] at h
   cases hl:l.mapM f with
   |none=>rw [hl] at h;simp at h
   |some s =>
    rw [hl] at h
    simp at h
    subst h
    obtain ⟨i1,i2⟩:=y6t hl
    refine ⟨by simp [i1],fun k hk hr=>?_⟩
    cases k with
    |zero=>exact ha
    |succ k=>exact i2 k (by simpa using hk) (by simpa using hr)
theorem zrd {a:Addr}{n:Nat}{cs:List Value}(h:W.cells? 0 a n=some cs):cs.length=n/\∀ j,j<n->W.cell? (a.add j)=some (cs.getD j undef):=by
 unfold World.cells? at h
 rw [if_pos (Nat.zero_le _)] at h
 obtain ⟨i1,i2⟩:=y6t h
 have hl:cs.length=n:=by simpa using i1
 refine ⟨hl,fun j hj=>?_⟩
 have:=i2 j (by simpa using hj) (by omega)
 rw [getElem_range] at this
 rw [this]
 simp [getElem?_eq_getElem (show j<cs.length by omega)]
set_option maxRecDepth 100000
def zv7 (W:World)(a:α->AV)(m:α)(cs:List Value):Prop :=
 cs.length=(a m).cells.length/\∀ j (hj:j<(a m).cells.length),Rep W (fun _=>True) G0 ((a m).cells[j]) (cs.getD j undef)/\(cs.getD j undef).oneCell'=true
variable {sz:Nat}
theorem yfn {a:α->AV}{t e:TypeId}(ht:Tryz.prog.underlying t=some (.slice e))(hsz:Tryz.prog.cellsOf e=sz)(h0:0<sz)(i0:Inhabited α)(hlen:∀ m,(a m).cells.length=sz)
  (each:∀ (n:Nat) (cs:List Value) (x:DataW H×List MemPlace),cs.length=sz->DataW.trod enc Tryz.prog W 0 (fun _=>true) true n e cs=some x->∃ m:α,zv7 W a m cs)
  {n:Nat}  {x:DataW H×List MemPlace} (h:DataW.trod enc Tryz.prog W 0 (fun _=>true) true n t [u]=some x):∃ l:List α,Rep W (fun _=>True) G0 (.sl sz (l.map a)) u:=by
 rcases open_slice ht h with ⟨h1,_⟩|⟨A,len,cap,m,n',D,Pl,h1,_,hlc,hm,hmm,_,hc⟩
 ·simp only [List.cons.injEq,and_true] at h1
  subst h1
  exact ⟨[],.sl none 0 (fun _ _=>.bool true) (by simp) (fun k hk=>absurd hk (by simp)) (fun h=>absurd h (by simp)) (fun k hk=>absurd hk (by simp)) (fun _ _=>rfl)⟩
 ·simp only [List.cons.injEq,and_true] at h1
  subst h1
  simp only [if_true] at hmm
  subst hmm
  rw [hsz] at hc
  have every:∀ i,∃ q:α×List Value,i<len->W.cells? 0 (A.add (i*sz)) sz=some q.2/\zv7 W a q.1 q.2:=fun i=>by
   by_cases hi:i<len
   ·obtain ⟨cs,c1,c2⟩:=hc i (by omega)
    obtain ⟨k,hk⟩:=each n' cs _ (zrd c1).1 c2
    exact ⟨(k,cs),fun _=>⟨c1,hk⟩⟩
   ·exact ⟨(i0.default,[]),fun h=>absurd h hi⟩
  obtain ⟨f,hf⟩:=Classical.axiomOfChoice every
  have hl:((range len).map fun i=>(f i).1).length=len:=by simp
  refine ⟨(range len).map fun i=>(f i).1,?_⟩
  have e:len=(((range len).map fun i=>(f i).1).map a).length:=by simp
  have hcell:∀ k j,k<len->j<sz->W.cell? ((A.add (k*sz)).add j)=some ((f k).2.getD j undef):=fun k j hk hj=>(zrd (hf k hk).1).2 j hj
  have:Rep W (fun _=>True) G0 (.sl sz (((range len).map fun i=>(f i).1).map a)) (.slice (some A) (((range len).map fun i=>(f i).1).map a).length m):=by
   refine .sl (some A) m (fun k j=>if k<len/\j<sz then (f k).2.getD j undef else .bool true) (by simpa using hlc) (fun k hk=>?_) (fun h0'=>?_) (fun k hk j hj=>?_) (fun k j=>?_)
   ·simp only [getElem_map];exact hlen _
   ·have hlp:0<len:=by simpa using h0'
    have c0:=y58 (hcell 0 0 hlp h0)
    obtain ⟨b,off,sp⟩:=A
    have e1:sp=none:=by simpa [Addr.add] using c0.1
    subst e1
    rw [zvr,zvr] at c0
    refine ⟨b,off,rfl,trivial,c0.2,fun k j hk hj=>?_⟩
    have hk':k<len:=by simpa using hk
    have:=hcell k j hk' hj
    rw [zvr,zvr] at this
    rw [if_pos ⟨hk',hj⟩,<-this]
    congr 2
    omega
   ·have hk':k<len:=by simpa using hk
    simp only [getElem_map,getElem_range] at hj ⊢
    have hj':j<sz:=by rw [hlen] at hj;exact hj
    rw [if_pos ⟨hk',hj'⟩]
    exact ((hf k hk').2.2 j hj).1
   ·by_cases hkj:k<len/\j<sz
    ·rw [if_pos hkj]
     exact ((hf k hkj.1).2.2 j (by rw [hlen];exact hkj.2)).2
    ·rw [if_neg hkj];rfl
  rw [<-e] at this
  exact this
theorem Rep.one_sl {xs:List AV}(h:Rep W (fun _=>True) G0 (.sl sz xs) u):u.oneCell'=true:=by
 cases h;rfl
theorem ye1 {a:α->AV}{t e:TypeId}(ht:Tryz.prog.underlying t=some (.slice e))(hsz:Tryz.prog.cellsOf e=sz)(h0:0<sz)(i0:Inhabited α)(hlen:∀ m,(a m).cells.length=sz)
  (each:∀ (n:Nat) (cs:List Value) (x:DataW H×List MemPlace),cs.length=sz->DataW.trod enc Tryz.prog W 0 (fun _=>true) true n e cs=some x->∃ m:α,zv7 W a m cs)
  (hv:Value.okWide Tryz.prog W .any base t v) (h:DataW.Trod enc Tryz.prog W 0 (fun _=>true) true t v d p):∃ l:List α,Rep W (fun _=>True) G0 (.sl sz (l.map a)) v:=by
 obtain ⟨A,len,cap,rfl⟩:=okWide_slice ht hv
 obtain ⟨fuel,hf⟩:=h
 exact yfn ht hsz h0 i0 hlen each hf
theorem yqy {a:α->AV}{m:α}{cs:Array Value}{xs:List AV}(hm:a m=.agg xs)(h:zv7 W a m cs.toList):Rep W (fun _=>True) G0 (a m) (.agg cs):=by
 obtain ⟨h1,h2⟩:=h
 rw [hm] at h1 h2 ⊢
 have hl:cs.size=xs.length:=by simpa [AV.cells] using h1
 have g:∀ i,cs.toList.getD i undef=cs.getD i undef:=fun i=>by
  by_cases hi:i<cs.size
  ·simp [Array.getD,hi]
  ·simp [Array.getD,hi]
 refine .agg _ hl (fun i hi=>?_) (fun i hi=>?_)
 ·have:=(h2 i hi).1
  rw [g] at this
  exact this
 ·have:=(h2 i (show i<xs.length by rw [<-hl];exact hi)).2
  rw [g] at this
  exact this
end
section
variable {H:Type} {enc:TypeId×Value->H} {W:World} {base:Nat} {v:Value} {d:DataW H} {p:List MemPlace}
set_option maxRecDepth 100000
def zch (W:World)(xs:List AV)(cs:List Value):Prop :=
 cs.length=xs.length/\∀ j (hj:j<xs.length),Rep W (fun _=>True) G0 (xs[j]) (cs.getD j undef)/\(cs.getD j undef).oneCell'=true
theorem zch.one {a:AV}{c:Value}(h:Rep W (fun _=>True) G0 a c)(h1:c.oneCell'=true):zch W [a] [c]:=by
 refine ⟨rfl,fun j hj=>?_⟩
 have hj':j<1:=hj
 rcases j with _|j
 ·exact ⟨h,h1⟩
 ·omega
variable {cs:List Value}
theorem zch.append {xs ys:List AV}{ds:List Value}(h1:zch W xs cs)(h2:zch W ys ds):zch W (xs++ys) (cs++ds):=by
 refine ⟨by rw [length_append,length_append,h1.1,h2.1],fun j hj=>?_⟩
 by_cases h:j<xs.length
 ·have:=h1.2 j h
  rw [getElem_append_left h]
  have e:(cs++ds).getD j undef=cs.getD j undef:=by
   simp only [getD_eq_getElem?_getD]
   rw [getElem?_append_left (by rw [h1.1];exact h)]
  rw [e];exact this
 ·have hj':j-xs.length<ys.length:=by rw [length_append] at hj;omega
  have:=h2.2 (j-xs.length) hj'
  rw [getElem_append_right (by omega)]
  have e:(cs++ds).getD j undef=ds.getD (j-xs.length) undef:=by
   simp only [getD_eq_getElem?_getD]
   rw [getElem?_append_right (by rw [h1.1];omega),h1.1]
  rw [e];exact this
theorem zch.cut {o s:Nat}{xs ys:List AV}(h1:zch W xs ((cs.drop o).take s))(h2:zch W ys (cs.drop (o+s))):zch W (xs++ys) (cs.drop o):=by
 have:cs.drop o=(cs.drop o).take s++cs.drop (o+s):=by rw [<-drop_drop,take_append_drop]
 rw [this]
 exact h1.append h2
theorem zch.done {o:Nat}(h:cs.length<=o):zch W [] (cs.drop o):=by
 rw [drop_eq_nil_of_le h]
 exact ⟨rfl,fun j hj=>absurd hj (by simp)⟩
theorem z7t {o s:Nat}(h:o+s<=cs.length):((cs.drop o).take s).length=s:=by rw [length_take,length_drop];omega
abbrev FO (enc:TypeId×Value->H)(W:World)(t:TypeId)(sz:Nat){α:Type}(e:α->List AV):Prop :=
 ∀ (n:Nat) (cs:List Value) (x:DataW H×List MemPlace),cs.length=sz->DataW.trod enc Tryz.prog W 0 (fun _=>true) true n t cs=some x->∃ m:α,zch W (e m) cs
variable {t:TypeId}
theorem zgi (ht:Tryz.prog.underlying t=some (.int .i64)):FO enc W t 1 (fun z:Int=>[aI z]):=fun n cs x hl h=>by
 obtain ⟨z,rfl,_⟩:=DataW.trod_int (k:=.i64) ht h
 exact ⟨z,.one (.int _ _) rfl⟩
theorem yqd (ht:Tryz.prog.underlying t=some .string):FO enc W t 1 (fun z:ByteArray=>[AV.str z]):=fun n cs x hl h=>by
 obtain ⟨z,rfl,_⟩:=DataW.trod_string ht h
 exact ⟨z,.one (.str _) rfl⟩
theorem yrt {e:TypeId}{sz:Nat}{α:Type}{a:α->AV}(ht:Tryz.prog.underlying t=some (.slice e))(hsz:Tryz.prog.cellsOf e=sz)(h0:0<sz)(i0:Inhabited α)(hlen:∀ m,(a m).cells.length=sz)
  (each:FO enc W e sz (fun m:α=>(a m).cells)):FO enc W t 1 (fun l:List α=>[AV.sl sz (l.map a)]):=fun n cs x hl h=>by
 match cs,hl with
 |[c],_ =>
  obtain ⟨l,hl⟩:=yfn (a:=a) ht hsz h0 i0 hlen each h
  exact ⟨l,.one hl hl.one_sl⟩
theorem yo4 (ht:Tryz.prog.underlying t=some (.int .i64)):FO enc W t 1 (fun z:Int=>(aI z).cells):=zgi ht
theorem yit {α:Type}{a:α->AV}{e:TypeId}{sz:Nat}(ht:Tryz.prog.underlying t=some (.slice e))(hsz:Tryz.prog.cellsOf e=sz)(h0:0<sz)(i0:Inhabited α)(hlen:∀ m,(a m).cells.length=sz)
  (each:FO enc W e sz (fun m:α=>(a m).cells)) (hv:Value.okWide Tryz.prog W .any base t v) (h:DataW.Trod enc Tryz.prog W 0 (fun _=>true) true t v d p):∃ l:List α,Rep W (fun _=>True) G0 (.sl sz (l.map a)) v :=
 ye1 ht hsz h0 i0 hlen each hv h
end
theorem yqu {H:Type}(d:DataW H):1<=Rows.uptoBulk d:=by
 cases d with
 |lit l=>cases l<;>simp [Rows.uptoBulk]
 |nil=>simp [Rows.uptoBulk]
 |ptr d=>simp [Rows.uptoBulk]
 |slice elems spare=>simp [Rows.uptoBulk]
 |agg parts=>simp [Rows.uptoBulk]
 |iface t d=>simp [Rows.uptoBulk]
 |map entries=>simp [Rows.uptoBulk]
 |held h=>simp [Rows.uptoBulk]
theorem yqv {H:Type}{d:DataW H}{l:List (DataW H)}(h:d∈l):Rows.uptoBulk d<=Rows.uptoBulkAll l:=by
 induction l with
 |nil=>cases h
 |cons x r ih =>
  simp only [Rows.uptoBulkAll]
  rcases mem_cons.1 h with e|e
  ·subst e;omega
  ·have:=ih e;omega
variable {α:Type}
def SlQ (Q:Nat->α->Prop)(b:Nat)(l:List α):Prop:=∃ ps:List (Nat×α),ps.map (·.2)=l/\(∀ p∈ps,1<=p.1/\Q p.1 p.2)/\(ps.map (·.1)).sum<b
variable {Q:Nat->α->Prop}{b:Nat}
theorem SlQ.len {l:List α}(h:SlQ Q b l):l.length<b:=by
 obtain ⟨ps,rfl,h2,h3⟩:=h
 rw [length_map]
 refine Nat.lt_of_le_of_lt ?_ h3
 clear h3
 induction ps with
 |nil=>simp
 |cons p ps ih =>
  have:=(h2 p (by simp)).1
  have:=ih (fun q hq=>h2 q (mem_cons_of_mem _ hq))
  simp only [map_cons,sum_cons,length_cons];omega
theorem SlQ.mem {l:List α}(h:SlQ Q b l):∀ m∈l,∃ b',b' < b/\Q b' m:=fun m hm=>by
 obtain ⟨ps,rfl,h2,h3⟩:=h
 obtain ⟨p,hp,rfl⟩:=mem_map.1 hm
 refine ⟨p.1,?_,(h2 p hp).2⟩
 have:p.1<=(ps.map (·.1)).sum:=by
  clear h2 h3 hm
  induction ps with
  |nil=>cases hp
  |cons x ps ih =>
   simp only [map_cons,sum_cons]
   rcases mem_cons.1 hp with e|e
   ·subst e;omega
   ·have:=ih e;omega
 omega
section
variable {H:Type} {enc:TypeId×Value->H} {W:World} {base:Nat} {v:Value} {d:DataW H} {p:List MemPlace}
set_option maxRecDepth 100000
variable {t:TypeId}{sz:Nat}
theorem yjo {a:α->AV}{e:TypeId}(ht:Tryz.prog.underlying t=some (.slice e))(hsz:Tryz.prog.cellsOf e=sz)(h0:0<sz)(i0:Inhabited α)(hlen:∀ m,(a m).cells.length=sz)
   {n:Nat} {u:Value} {x:DataW H×List MemPlace} (each:∀ (n:Nat) (cs:List Value) (y:DataW H×List MemPlace),Rows.uptoBulk y.1<Rows.uptoBulk x.1->cs.length=sz->DataW.trod enc Tryz.prog W 0 (fun _=>true) true n e cs=some y->∃ m:α,zv7 W a m cs/\Q (Rows.uptoBulk y.1) m)
  (h:DataW.trod enc Tryz.prog W 0 (fun _=>true) true n t [u]=some x):∃ l:List α,Rep W (fun _=>True) G0 (.sl sz (l.map a)) u/\SlQ Q (Rows.uptoBulk x.1) l:=by
 rcases open_slice ht h with ⟨h1,hx⟩|⟨A,len,cap,m,n',D,Pl,h1,_,hlc,hm,hmm,hx,hc⟩
 ·simp only [List.cons.injEq,and_true] at h1
  subst h1
  exact ⟨[],.sl none 0 (fun _ _=>.bool true) (by simp) (fun k hk=>absurd hk (by simp)) (fun h=>absurd h (by simp)) (fun k hk=>absurd hk (by simp)) (fun _ _=>rfl),[],rfl,by simp,by rw [hx];simp [Rows.uptoBulk]⟩
 ·simp only [List.cons.injEq,and_true] at h1
  subst h1
  simp only [if_true] at hmm
  subst hmm
  rw [hsz] at hc
  have hbx:Rows.uptoBulkAll ((range len).map D)<Rows.uptoBulk x.1:=by
   rw [hx]
   simp only [Rows.uptoBulk]
   omega
  have every:∀ i,∃ q:α×List Value,i<len->W.cells? 0 (A.add (i*sz)) sz=some q.2/\zv7 W a q.1 q.2/\Q (Rows.uptoBulk (D i)) q.1:=fun i=>by
   by_cases hi:i<len
   ·obtain ⟨cs,c1,c2⟩:=hc i (by omega)
    have hlt:Rows.uptoBulk (D i)<Rows.uptoBulk x.1:=by
     have:=yqv (l:=(range len).map D) (mem_map.2 ⟨i,mem_range.2 hi,rfl⟩)
     omega
    obtain ⟨k,hk,hq⟩:=each n' cs _ hlt (zrd c1).1 c2
    exact ⟨(k,cs),fun _=>⟨c1,hk,hq⟩⟩
   ·exact ⟨(i0.default,[]),fun h=>absurd h hi⟩
  obtain ⟨f,hf⟩:=Classical.axiomOfChoice every
  have hl:((range len).map fun i=>(f i).1).length=len:=by simp
  refine ⟨(range len).map fun i=>(f i).1,?_,(range len).map (fun i=>(Rows.uptoBulk (D i),(f i).1)),by simp,?_,?_⟩
  rotate_left
  ·intro p hp
   obtain ⟨i,hi,rfl⟩:=mem_map.1 hp
   exact ⟨yqu _,(hf i (mem_range.1 hi)).2.2⟩
  ·rw [map_map]
   have:∀ l:List Nat,(l.map ((fun p:Nat×α=>p.1) ∘ fun i=>(Rows.uptoBulk (D i),(f i).1))).sum=Rows.uptoBulkAll (l.map D):=fun l=>by
    induction l with
    |nil=>simp [Rows.uptoBulkAll]
    |cons i l ih=>simp only [map_cons,sum_cons,ih,Rows.uptoBulkAll,Function.comp]
   rw [this]
   exact hbx
  have e:len=(((range len).map fun i=>(f i).1).map a).length:=by simp
  have hcell:∀ k j,k<len->j<sz->W.cell? ((A.add (k*sz)).add j)=some ((f k).2.getD j undef):=fun k j hk hj=>(zrd (hf k hk).1).2 j hj
  have:Rep W (fun _=>True) G0 (.sl sz (((range len).map fun i=>(f i).1).map a)) (.slice (some A) (((range len).map fun i=>(f i).1).map a).length m):=by
   refine .sl (some A) m (fun k j=>if k<len/\j<sz then (f k).2.getD j undef else .bool true) (by simpa using hlc) (fun k hk=>?_) (fun h0'=>?_) (fun k hk j hj=>?_) (fun k j=>?_)
   ·simp only [getElem_map];exact hlen _
   ·have hlp:0<len:=by simpa using h0'
    have c0:=y58 (hcell 0 0 hlp h0)
    obtain ⟨b,off,sp⟩:=A
    have e1:sp=none:=by simpa [Addr.add] using c0.1
    subst e1
    rw [zvr,zvr] at c0
    refine ⟨b,off,rfl,trivial,c0.2,fun k j hk hj=>?_⟩
    have hk':k<len:=by simpa using hk
    have:=hcell k j hk' hj
    rw [zvr,zvr] at this
    rw [if_pos ⟨hk',hj⟩,<-this]
    congr 2
    omega
   ·have hk':k<len:=by simpa using hk
    simp only [getElem_map,getElem_range] at hj ⊢
    have hj':j<sz:=by rw [hlen] at hj;exact hj
    rw [if_pos ⟨hk',hj'⟩]
    exact ((hf k hk').2.1.2 j hj).1
   ·by_cases hkj:k<len/\j<sz
    ·rw [if_pos hkj]
     exact ((hf k hkj.1).2.1.2 j (by rw [hlen];exact hkj.2)).2
    ·rw [if_neg hkj];rfl
  rw [<-e] at this
  exact this
abbrev FQ (enc:TypeId×Value->H)(W:World)(t:TypeId)(sz:Nat){α:Type}(e:α->List AV)(Q:Nat->α->Prop)(B:Nat):Prop :=
 ∀ (n:Nat) (cs:List Value) (x:DataW H×List MemPlace),Rows.uptoBulk x.1<B->cs.length=sz->DataW.trod enc Tryz.prog W 0 (fun _=>true) true n t cs=some x->∃ m:α,zch W (e m) cs/\Q (Rows.uptoBulk x.1) m
theorem zpe {B:Nat}{e:α->List AV}(h:FO enc W t sz e):FQ enc W t sz e (fun _ _=>True) B:=fun n cs x _ hl ht=>by
 obtain ⟨m,hm⟩:=h n cs x hl ht
 exact ⟨m,hm,trivial⟩
theorem y32 {e:TypeId}{B:Nat}{a:α->AV}(ht:Tryz.prog.underlying t=some (.slice e))(hsz:Tryz.prog.cellsOf e=sz)(h0:0<sz)(i0:Inhabited α)(hlen:∀ m,(a m).cells.length=sz)
  (each:FQ enc W e sz (fun m:α=>(a m).cells) Q B):FQ enc W t 1 (fun l:List α=>[AV.sl sz (l.map a)]) (SlQ Q) B:=fun n cs x hb hl h=>by
 match cs,hl with
 |[c],_ =>
  obtain ⟨l,hl,hq⟩:=yjo (a:=a) ht hsz h0 i0 hlen (fun n cs y hy hl h=>each n cs y (by omega) hl h) h
  exact ⟨l,.one hl hl.one_sl,hq⟩
theorem yb6 {fs:Array Field}{a:α->AV}(ht:Tryz.prog.underlying t=some (.struct fs))(hsz:Tryz.prog.cellsOf t=sz)(ha:∀ m,∃ xs,a m=.agg xs)(each:∀ B,FQ enc W t sz (fun m:α=>(a m).cells) Q B)
  (hv:Value.okWide Tryz.prog W .any base t v) (h:DataW.Trod enc Tryz.prog W 0 (fun _=>true) true t v d p):∃ m:α,Rep W (fun _=>True) G0 (a m) v/\Q (Rows.uptoBulk d) m:=by
 obtain ⟨cs,rfl,hz⟩:=okWide_struct ht hv
 obtain ⟨fuel,hf⟩:=h
 obtain ⟨m,hm,hq⟩:=each (Rows.uptoBulk d+1) fuel cs.toList _ (by show Rows.uptoBulk d<Rows.uptoBulk d+1;omega) (by simpa using hz.trans hsz) hf
 obtain ⟨xs,hx⟩:=ha m
 exact ⟨m,yqy hx hm,hq⟩
def QE (b:Nat)(m:Exn):Prop:=∃ z,z<=b/\ETr z m
def QG (b:Nat)(g:Gd):Prop:=∃ b',b' < b/\QE b' g.fCond
def QS (b:Nat)(s:Stt):Prop:=∃ b',b' < b/\SlQ QG b' s.fGuards
abbrev QT {α:Type}(_:Nat)(_:α):Prop:=True
def QX (b:Nat)(x:Ed):Prop:=(∃ b',b' < b/\QE b' x.fCond)/\(∃ b',b' < b/\SlQ QT b' x.fOpens)/\(∃ b',b' < b/\SlQ QT b' x.fCloses)/\(∃ b',b' < b/\∃ l:List Exn,x.fChecks=l.map z0l/\SlQ QE b' l)/\(∃ b',b' < b/\SlQ QT b' x.fLimits)/\(∃ b',b' < b/\SlQ QT b' x.fInside)
def QA (b:Nat)(a:Aut):Prop:=(∃ b',b' < b/\SlQ QS b' a.fStates)/\(∃ b',b' < b/\SlQ QX b' a.fEdges)
theorem yqi {l:List Exn}(h:SlQ QE b l):∃ qs:List (Nat×Exn),qs.map (·.2)=l/\(∀ q∈qs,ETr q.1 q.2)/\(qs.map (·.1)).sum<b:=by
 obtain ⟨ps,rfl,h2,h3⟩:=h
 have:∃ qs:List (Nat×Exn),qs.map (·.2)=ps.map (·.2)/\(∀ q∈qs,ETr q.1 q.2)/\(qs.map (·.1)).sum<=(ps.map (·.1)).sum:=by
  clear h3
  induction ps with
  |nil=>exact ⟨[],rfl,by simp,by simp⟩
  |cons p ps ih =>
   obtain ⟨qs,q1,q2,q3⟩:=ih (fun q hq=>h2 q (mem_cons_of_mem _ hq))
   obtain ⟨z,hz,ht⟩:=(h2 p (by simp)).2
   refine ⟨(z,p.2)::qs,by simp [q1],fun q hq=>?_,by simp only [map_cons,sum_cons];omega⟩
   rcases mem_cons.1 hq with e|e
   ·rw [e];exact ht
   ·exact q2 q e
 obtain ⟨qs,q1,q2,q3⟩:=this
 exact ⟨qs,q1,q2,by omega⟩
theorem yff {e:Exn}(h:QE b e)(hb:b<=1048576):WfE e:=by
 obtain ⟨z,hz,ht⟩:=h
 exact ⟨z,by omega,ht⟩
theorem yoz (h:QA b a)(hb:b<=1048576):WfA a:=by
 obtain ⟨⟨b1,h1,s1⟩,⟨b2,h2,s2⟩⟩:=h
 refine ⟨by have:=s1.len;omega,by have:=s2.len;omega,fun s hs=>?_,fun x hx=>?_⟩
 ·obtain ⟨b3,h3,b4,h4,s4⟩:=s1.mem s hs
  refine ⟨by have:=s4.len;omega,fun g hg=>?_⟩
  obtain ⟨b5,h5,b6,h6,q6⟩:=s4.mem g hg
  exact yff q6 (by omega)
 ·obtain ⟨b3,h3,⟨c1,d1,q1⟩,⟨c2,d2,q2⟩,⟨c3,d3,q3⟩,⟨c4,d4,l,hl,q4⟩,⟨c5,d5,q5⟩,⟨c6,d6,q6⟩⟩:=s2.mem x hx
  refine ⟨yff q1 (by omega),⟨l,hl,fun y hy=>?_⟩,?_,?_,?_,?_,?_⟩
  ·obtain ⟨b7,h7,q7⟩:=q4.mem y hy
   exact yff q7 (by omega)
  ·rw [hl,length_map];have:=q4.len;omega
  ·have:=q2.len;omega
  ·have:=q3.len;omega
  ·have:=q6.len;omega
  ·have:=q5.len;omega
theorem yd6:FO enc W 109 3 (fun m:z05=>(z08 m).cells):=fun n cs x hl h=>by
 obtain ⟨xs,n',_,hx,_,hlen,hf⟩:=DataW.trod_struct Tryz.underlying109 h
 match xs,hlen with
 |[y0,y1,y2],_ =>
  have c0:Tryz.prog.cellsOf 3=1:=by kernel_rfl
  have g0:DataW.trod enc Tryz.prog W 0 (fun _=>true) true n' 3 ((cs.drop 0).take (Tryz.prog.cellsOf 3))=some y0:=hf 0 _ rfl
  rw [c0] at g0
  obtain ⟨m0,h0⟩:=(zgi Tryz.underlying3) n' _ _ (z7t (by omega)) g0
  have c1:Tryz.prog.cellsOf 3=1:=by kernel_rfl
  have g1:DataW.trod enc Tryz.prog W 0 (fun _=>true) true n' 3 ((cs.drop 1).take (Tryz.prog.cellsOf 3))=some y1:=hf 1 _ rfl
  rw [c1] at g1
  obtain ⟨m1,h1⟩:=(zgi Tryz.underlying3) n' _ _ (z7t (by omega)) g1
  have c2:Tryz.prog.cellsOf 9=1:=by kernel_rfl
  have g2:DataW.trod enc Tryz.prog W 0 (fun _=>true) true n' 9 ((cs.drop 2).take (Tryz.prog.cellsOf 9))=some y2:=hf 2 _ rfl
  rw [c2] at g2
  obtain ⟨m2,h2⟩:=(yqd Tryz.underlying9) n' _ _ (z7t (by omega)) g2
  have r:=(show zch W _ (cs.drop 0) from (.cut h0 (.cut h1 (.cut h2 (zch.done (by omega))))))
  exact ⟨⟨m0,m1,m2⟩,r⟩
theorem y33:∀ B,FQ enc W 111 8 (fun m:Exn=>(z0l m).cells) QE B
 |0=>fun n cs x hb hl h=>absurd hb (Nat.not_lt_zero _)
 |B+1=>fun n cs x hb hl h=>by
  obtain ⟨xs,n',_,hx,_,hlen,hf⟩:=DataW.trod_struct Tryz.underlying111 h
  match xs,hlen with
  |[y0,y1,y2,y3,y4,y5],_ =>
   have hk:Rows.uptoBulk x.1=Rows.uptoBulk y0.1+Rows.uptoBulk y1.1+Rows.uptoBulk y2.1+Rows.uptoBulk y3.1+Rows.uptoBulk y4.1+Rows.uptoBulk y5.1+1:=by rw [hx];simp only [Rows.uptoBulk,Rows.uptoBulkAll,map_cons,map_nil]<;>omega
   have c0:Tryz.prog.cellsOf 3=1:=by kernel_rfl
   have g0:DataW.trod enc Tryz.prog W 0 (fun _=>true) true n' 3 ((cs.drop 0).take (Tryz.prog.cellsOf 3))=some y0:=hf 0 _ rfl
   rw [c0] at g0
   obtain ⟨m0,h0,q0⟩:=(zpe (zgi Tryz.underlying3)) n' _ _ (show Rows.uptoBulk y0.1<B by omega) (z7t (by omega)) g0
   have c1:Tryz.prog.cellsOf 107=1:=by kernel_rfl
   have g1:DataW.trod enc Tryz.prog W 0 (fun _=>true) true n' 107 ((cs.drop 1).take (Tryz.prog.cellsOf 107))=some y1:=hf 1 _ rfl
   rw [c1] at g1
   obtain ⟨m1,h1,q1⟩:=(y32 (sz:=8) (a:=z0l) Tryz.underlying107 (by kernel_rfl) (by omega) inferInstance (fun _=>rfl) (y33 B)) n' _ _ (show Rows.uptoBulk y1.1<B by omega) (z7t (by omega)) g1
   have c2:Tryz.prog.cellsOf 3=1:=by kernel_rfl
   have g2:DataW.trod enc Tryz.prog W 0 (fun _=>true) true n' 3 ((cs.drop 2).take (Tryz.prog.cellsOf 3))=some y2:=hf 2 _ rfl
   rw [c2] at g2
   obtain ⟨m2,h2,q2⟩:=(zpe (zgi Tryz.underlying3)) n' _ _ (show Rows.uptoBulk y2.1<B by omega) (z7t (by omega)) g2
   have c3:Tryz.prog.cellsOf 3=1:=by kernel_rfl
   have g3:DataW.trod enc Tryz.prog W 0 (fun _=>true) true n' 3 ((cs.drop 3).take (Tryz.prog.cellsOf 3))=some y3:=hf 3 _ rfl
   rw [c3] at g3
   obtain ⟨m3,h3,q3⟩:=(zpe (zgi Tryz.underlying3)) n' _ _ (show Rows.uptoBulk y3.1<B by omega) (z7t (by omega)) g3
   have c4:Tryz.prog.cellsOf 3=1:=by kernel_rfl
   have g4:DataW.trod enc Tryz.prog W 0 (fun _=>true) true n' 3 ((cs.drop 4).take (Tryz.prog.cellsOf 3))=some y4:=hf 4 _ rfl
   rw [c4] at g4
   obtain ⟨m4,h4,q4⟩:=(zpe (zgi Tryz.underlying3)) n' _ _ (show Rows.uptoBulk y4.1<B by omega) (z7t (by omega)) g4
   have c5:Tryz.prog.cellsOf 109=3:=by kernel_rfl
   have g5:DataW.trod enc Tryz.prog W 0 (fun _=>true) true n' 109 ((cs.drop 5).take (Tryz.prog.cellsOf 109))=some y5:=hf 5 _ rfl
   rw [c5] at g5
   obtain ⟨m5,h5,q5⟩:=(zpe yd6) n' _ _ (show Rows.uptoBulk y5.1<B by omega) (z7t (by omega)) g5
   have h1:zch W [AV.sl 8 (List.map idA (List.map z0l m1))] ((cs.drop 1).take 1):=by rw [zuk];exact h1
   have r:=(show zch W _ (cs.drop 0) from (.cut h0 (.cut h1 (.cut h2 (.cut h3 (.cut h4 (.cut h5 (zch.done (by omega)))))))))
   obtain ⟨qs,r1,r2,r3⟩:=yqi q1
   refine ⟨⟨m0,m1.map z0l,m2,m3,m4,m5⟩,r,1+(qs.map (·.1)).sum,by omega,.mk qs _ r2 ?_⟩
   show m1.map z0l=_
   rw [<-r1,map_map]
   rfl
theorem ykq (B:Nat):FQ enc W 154 11 (fun m:Gd=>(z0u m).cells) QG B:=fun n cs x hb hl h=>by
 obtain ⟨xs,n',_,hx,_,hlen,hf⟩:=DataW.trod_struct Tryz.underlying154 h
 match xs,hlen with
 |[y0,y1,y2,y3],_ =>
  have hk:Rows.uptoBulk x.1=Rows.uptoBulk y0.1+Rows.uptoBulk y1.1+Rows.uptoBulk y2.1+Rows.uptoBulk y3.1+1:=by rw [hx];simp only [Rows.uptoBulk,Rows.uptoBulkAll,map_cons,map_nil]<;>omega
  have c0:Tryz.prog.cellsOf 3=1:=by kernel_rfl
  have g0:DataW.trod enc Tryz.prog W 0 (fun _=>true) true n' 3 ((cs.drop 0).take (Tryz.prog.cellsOf 3))=some y0:=hf 0 _ rfl
  rw [c0] at g0
  obtain ⟨m0,h0,q0⟩:=(zpe (zgi Tryz.underlying3)) n' _ _ (show Rows.uptoBulk y0.1<B by omega) (z7t (by omega)) g0
  have c1:Tryz.prog.cellsOf 3=1:=by kernel_rfl
  have g1:DataW.trod enc Tryz.prog W 0 (fun _=>true) true n' 3 ((cs.drop 1).take (Tryz.prog.cellsOf 3))=some y1:=hf 1 _ rfl
  rw [c1] at g1
  obtain ⟨m1,h1,q1⟩:=(zpe (zgi Tryz.underlying3)) n' _ _ (show Rows.uptoBulk y1.1<B by omega) (z7t (by omega)) g1
  have c2:Tryz.prog.cellsOf 3=1:=by kernel_rfl
  have g2:DataW.trod enc Tryz.prog W 0 (fun _=>true) true n' 3 ((cs.drop 2).take (Tryz.prog.cellsOf 3))=some y2:=hf 2 _ rfl
  rw [c2] at g2
  obtain ⟨m2,h2,q2⟩:=(zpe (zgi Tryz.underlying3)) n' _ _ (show Rows.uptoBulk y2.1<B by omega) (z7t (by omega)) g2
  have c3:Tryz.prog.cellsOf 111=8:=by kernel_rfl
  have g3:DataW.trod enc Tryz.prog W 0 (fun _=>true) true n' 111 ((cs.drop 3).take (Tryz.prog.cellsOf 111))=some y3:=hf 3 _ rfl
  rw [c3] at g3
  obtain ⟨m3,h3,q3⟩:=(y33 B) n' _ _ (show Rows.uptoBulk y3.1<B by omega) (z7t (by omega)) g3
  have r:=(show zch W _ (cs.drop 0) from (.cut h0 (.cut h1 (.cut h2 (.cut h3 (zch.done (by omega)))))))
  exact ⟨⟨m0,m1,m2,m3⟩,r,_,(show Rows.uptoBulk y3.1<_ by omega),q3⟩
theorem ykp (B:Nat):FQ enc W 105 1 (fun m:Stt=>(z0p m).cells) QS B:=fun n cs x hb hl h=>by
 obtain ⟨xs,n',_,hx,_,hlen,hf⟩:=DataW.trod_struct Tryz.underlying105 h
 match xs,hlen with
 |[y0],_ =>
  have hk:Rows.uptoBulk x.1=Rows.uptoBulk y0.1+1:=by rw [hx];simp only [Rows.uptoBulk,Rows.uptoBulkAll,map_cons,map_nil]<;>omega
  have c0:Tryz.prog.cellsOf 103=1:=by kernel_rfl
  have g0:DataW.trod enc Tryz.prog W 0 (fun _=>true) true n' 103 ((cs.drop 0).take (Tryz.prog.cellsOf 103))=some y0:=hf 0 _ rfl
  rw [c0] at g0
  obtain ⟨m0,h0,q0⟩:=(y32 (sz:=11) (a:=z0u) Tryz.underlying103 (by kernel_rfl) (by omega) inferInstance (fun _=>rfl) (ykq B)) n' _ _ (show Rows.uptoBulk y0.1<B by omega) (z7t (by omega)) g0
  have r:=(show zch W _ (cs.drop 0) from (.cut h0 (zch.done (by omega))))
  exact ⟨⟨m0⟩,r,_,(show Rows.uptoBulk y0.1<_ by omega),q0⟩
theorem ykr:FO enc W 209 2 (fun m:z1h=>(z24 m).cells):=fun n cs x hl h=>by
 obtain ⟨xs,n',_,hx,_,hlen,hf⟩:=DataW.trod_struct Tryz.underlying209 h
 match xs,hlen with
 |[y0,y1],_ =>
  have c0:Tryz.prog.cellsOf 3=1:=by kernel_rfl
  have g0:DataW.trod enc Tryz.prog W 0 (fun _=>true) true n' 3 ((cs.drop 0).take (Tryz.prog.cellsOf 3))=some y0:=hf 0 _ rfl
  rw [c0] at g0
  obtain ⟨m0,h0⟩:=(zgi Tryz.underlying3) n' _ _ (z7t (by omega)) g0
  have c1:Tryz.prog.cellsOf 3=1:=by kernel_rfl
  have g1:DataW.trod enc Tryz.prog W 0 (fun _=>true) true n' 3 ((cs.drop 1).take (Tryz.prog.cellsOf 3))=some y1:=hf 1 _ rfl
  rw [c1] at g1
  obtain ⟨m1,h1⟩:=(zgi Tryz.underlying3) n' _ _ (z7t (by omega)) g1
  have r:=(show zch W _ (cs.drop 0) from (.cut h0 (.cut h1 (zch.done (by omega)))))
  exact ⟨⟨m0,m1⟩,r⟩
theorem yo3 (B:Nat):FQ enc W 115 17 (fun m:Ed=>(z0w m).cells) QX B:=fun n cs x hb hl h=>by
 obtain ⟨xs,n',_,hx,_,hlen,hf⟩:=DataW.trod_struct Tryz.underlying115 h
 match xs,hlen with
 |[y0,y1,y2,y3,y4,y5,y6,y7,y8,y9],_ =>
  have hk:Rows.uptoBulk x.1=Rows.uptoBulk y0.1+Rows.uptoBulk y1.1+Rows.uptoBulk y2.1+Rows.uptoBulk y3.1+Rows.uptoBulk y4.1+Rows.uptoBulk y5.1+Rows.uptoBulk y6.1+Rows.uptoBulk y7.1+Rows.uptoBulk y8.1+Rows.uptoBulk y9.1+1:=by rw [hx];simp only [Rows.uptoBulk,Rows.uptoBulkAll,map_cons,map_nil]<;>omega
  have c0:Tryz.prog.cellsOf 3=1:=by kernel_rfl
  have g0:DataW.trod enc Tryz.prog W 0 (fun _=>true) true n' 3 ((cs.drop 0).take (Tryz.prog.cellsOf 3))=some y0:=hf 0 _ rfl
  rw [c0] at g0
  obtain ⟨m0,h0,q0⟩:=(zpe (zgi Tryz.underlying3)) n' _ _ (show Rows.uptoBulk y0.1<B by omega) (z7t (by omega)) g0
  have c1:Tryz.prog.cellsOf 3=1:=by kernel_rfl
  have g1:DataW.trod enc Tryz.prog W 0 (fun _=>true) true n' 3 ((cs.drop 1).take (Tryz.prog.cellsOf 3))=some y1:=hf 1 _ rfl
  rw [c1] at g1
  obtain ⟨m1,h1,q1⟩:=(zpe (zgi Tryz.underlying3)) n' _ _ (show Rows.uptoBulk y1.1<B by omega) (z7t (by omega)) g1
  have c2:Tryz.prog.cellsOf 3=1:=by kernel_rfl
  have g2:DataW.trod enc Tryz.prog W 0 (fun _=>true) true n' 3 ((cs.drop 2).take (Tryz.prog.cellsOf 3))=some y2:=hf 2 _ rfl
  rw [c2] at g2
  obtain ⟨m2,h2,q2⟩:=(zpe (zgi Tryz.underlying3)) n' _ _ (show Rows.uptoBulk y2.1<B by omega) (z7t (by omega)) g2
  have c3:Tryz.prog.cellsOf 3=1:=by kernel_rfl
  have g3:DataW.trod enc Tryz.prog W 0 (fun _=>true) true n' 3 ((cs.drop 3).take (Tryz.prog.cellsOf 3))=some y3:=hf 3 _ rfl
  rw [c3] at g3
  obtain ⟨m3,h3,q3⟩:=(zpe (zgi Tryz.underlying3)) n' _ _ (show Rows.uptoBulk y3.1<B by omega) (z7t (by omega)) g3
  have c4:Tryz.prog.cellsOf 111=8:=by kernel_rfl
  have g4:DataW.trod enc Tryz.prog W 0 (fun _=>true) true n' 111 ((cs.drop 4).take (Tryz.prog.cellsOf 111))=some y4:=hf 4 _ rfl
  rw [c4] at g4
  obtain ⟨m4,h4,q4⟩:=(y33 B) n' _ _ (show Rows.uptoBulk y4.1<B by omega) (z7t (by omega)) g4
  have c5:Tryz.prog.cellsOf 112=1:=by kernel_rfl
  have g5:DataW.trod enc Tryz.prog W 0 (fun _=>true) true n' 112 ((cs.drop 12).take (Tryz.prog.cellsOf 112))=some y5:=hf 5 _ rfl
  rw [c5] at g5
  obtain ⟨m5,h5,q5⟩:=(y32 (sz:=1) (a:=aI) Tryz.underlying112 (by kernel_rfl) (by omega) inferInstance (fun _=>rfl) (zpe (yo4 Tryz.underlying3))) n' _ _ (show Rows.uptoBulk y5.1<B by omega) (z7t (by omega)) g5
  have c6:Tryz.prog.cellsOf 112=1:=by kernel_rfl
  have g6:DataW.trod enc Tryz.prog W 0 (fun _=>true) true n' 112 ((cs.drop 13).take (Tryz.prog.cellsOf 112))=some y6:=hf 6 _ rfl
  rw [c6] at g6
  obtain ⟨m6,h6,q6⟩:=(y32 (sz:=1) (a:=aI) Tryz.underlying112 (by kernel_rfl) (by omega) inferInstance (fun _=>rfl) (zpe (yo4 Tryz.underlying3))) n' _ _ (show Rows.uptoBulk y6.1<B by omega) (z7t (by omega)) g6
  have c7:Tryz.prog.cellsOf 107=1:=by kernel_rfl
  have g7:DataW.trod enc Tryz.prog W 0 (fun _=>true) true n' 107 ((cs.drop 14).take (Tryz.prog.cellsOf 107))=some y7:=hf 7 _ rfl
  rw [c7] at g7
  obtain ⟨m7,h7,q7⟩:=(y32 (sz:=8) (a:=z0l) Tryz.underlying107 (by kernel_rfl) (by omega) inferInstance (fun _=>rfl) (y33 B)) n' _ _ (show Rows.uptoBulk y7.1<B by omega) (z7t (by omega)) g7
  have c8:Tryz.prog.cellsOf 113=1:=by kernel_rfl
  have g8:DataW.trod enc Tryz.prog W 0 (fun _=>true) true n' 113 ((cs.drop 15).take (Tryz.prog.cellsOf 113))=some y8:=hf 8 _ rfl
  rw [c8] at g8
  obtain ⟨m8,h8,q8⟩:=(y32 (sz:=2) (a:=z24) Tryz.underlying113 (by kernel_rfl) (by omega) inferInstance (fun _=>rfl) (zpe ykr)) n' _ _ (show Rows.uptoBulk y8.1<B by omega) (z7t (by omega)) g8
  have c9:Tryz.prog.cellsOf 112=1:=by kernel_rfl
  have g9:DataW.trod enc Tryz.prog W 0 (fun _=>true) true n' 112 ((cs.drop 16).take (Tryz.prog.cellsOf 112))=some y9:=hf 9 _ rfl
  rw [c9] at g9
  obtain ⟨m9,h9,q9⟩:=(y32 (sz:=1) (a:=aI) Tryz.underlying112 (by kernel_rfl) (by omega) inferInstance (fun _=>rfl) (zpe (yo4 Tryz.underlying3))) n' _ _ (show Rows.uptoBulk y9.1<B by omega) (z7t (by omega)) g9
  have h7:zch W [AV.sl 8 (List.map idA (List.map z0l m7))] ((cs.drop 14).take 1):=by rw [zuk];exact h7
  have r:=(show zch W _ (cs.drop 0) from (.cut h0 (.cut h1 (.cut h2 (.cut h3 (.cut h4 (.cut h5 (.cut h6 (.cut h7 (.cut h8 (.cut h9 (zch.done (by omega)))))))))))))
  exact ⟨⟨m0,m1,m2,m3,m4,m5,m6,m7.map z0l,m8,m9⟩,r,⟨_,(show Rows.uptoBulk y4.1<_ by omega),q4⟩,⟨_,(show Rows.uptoBulk y5.1<_ by omega),q5⟩,⟨_,(show Rows.uptoBulk y6.1<_ by omega),q6⟩,⟨_,(show Rows.uptoBulk y7.1<_ by omega),m7,rfl,q7⟩,⟨_,(show Rows.uptoBulk y8.1<_ by omega),q8⟩,⟨_,(show Rows.uptoBulk y9.1<_ by omega),q9⟩⟩
theorem yqc (B:Nat):FQ enc W 25 4 (fun m:Aut=>(z0n m).cells) QA B:=fun n cs x hb hl h=>by
 obtain ⟨xs,n',_,hx,_,hlen,hf⟩:=DataW.trod_struct Tryz.underlying25 h
 match xs,hlen with
 |[y0,y1,y2,y3],_ =>
  have hk:Rows.uptoBulk x.1=Rows.uptoBulk y0.1+Rows.uptoBulk y1.1+Rows.uptoBulk y2.1+Rows.uptoBulk y3.1+1:=by rw [hx];simp only [Rows.uptoBulk,Rows.uptoBulkAll,map_cons,map_nil]<;>omega
  have c0:Tryz.prog.cellsOf 3=1:=by kernel_rfl
  have g0:DataW.trod enc Tryz.prog W 0 (fun _=>true) true n' 3 ((cs.drop 0).take (Tryz.prog.cellsOf 3))=some y0:=hf 0 _ rfl
  rw [c0] at g0
  obtain ⟨m0,h0,q0⟩:=(zpe (zgi Tryz.underlying3)) n' _ _ (show Rows.uptoBulk y0.1<B by omega) (z7t (by omega)) g0
  have c1:Tryz.prog.cellsOf 3=1:=by kernel_rfl
  have g1:DataW.trod enc Tryz.prog W 0 (fun _=>true) true n' 3 ((cs.drop 1).take (Tryz.prog.cellsOf 3))=some y1:=hf 1 _ rfl
  rw [c1] at g1
  obtain ⟨m1,h1,q1⟩:=(zpe (zgi Tryz.underlying3)) n' _ _ (show Rows.uptoBulk y1.1<B by omega) (z7t (by omega)) g1
  have c2:Tryz.prog.cellsOf 22=1:=by kernel_rfl
  have g2:DataW.trod enc Tryz.prog W 0 (fun _=>true) true n' 22 ((cs.drop 2).take (Tryz.prog.cellsOf 22))=some y2:=hf 2 _ rfl
  rw [c2] at g2
  obtain ⟨m2,h2,q2⟩:=(y32 (sz:=1) (a:=z0p) Tryz.underlying22 (by kernel_rfl) (by omega) inferInstance (fun _=>rfl) (ykp B)) n' _ _ (show Rows.uptoBulk y2.1<B by omega) (z7t (by omega)) g2
  have c3:Tryz.prog.cellsOf 23=1:=by kernel_rfl
  have g3:DataW.trod enc Tryz.prog W 0 (fun _=>true) true n' 23 ((cs.drop 3).take (Tryz.prog.cellsOf 23))=some y3:=hf 3 _ rfl
  rw [c3] at g3
  obtain ⟨m3,h3,q3⟩:=(y32 (sz:=17) (a:=z0w) Tryz.underlying23 (by kernel_rfl) (by omega) inferInstance (fun _=>rfl) (yo3 B)) n' _ _ (show Rows.uptoBulk y3.1<B by omega) (z7t (by omega)) g3
  have r:=(show zch W _ (cs.drop 0) from (.cut h0 (.cut h1 (.cut h2 (.cut h3 (zch.done (by omega)))))))
  exact ⟨⟨m0,m1,m2,m3⟩,r,⟨_,(show Rows.uptoBulk y2.1<_ by omega),q2⟩,⟨_,(show Rows.uptoBulk y3.1<_ by omega),q3⟩⟩
theorem yov (hv:Value.okWide Tryz.prog W .any base 25 v)(h:DataW.Trod enc Tryz.prog W 0 (fun _=>true) true 25 v d p)(hb:Rows.uptoBulk d<=1048576):∃ m:Aut,Rep W (fun _=>True) G0 (z0n m) v/\WfA m:=by
 obtain ⟨m,r,q⟩:=yb6 (sz:=4) (a:=z0n) Tryz.underlying25 (by kernel_rfl) (fun _=>⟨_,rfl⟩) (fun B=>yqc B) hv h
 exact ⟨m,r,yoz q hb⟩
theorem yks:FO enc W 71 5 (fun m:z03=>(z02 m).cells):=fun n cs x hl h=>by
 obtain ⟨xs,n',_,hx,_,hlen,hf⟩:=DataW.trod_struct Tryz.underlying71 h
 match xs,hlen with
 |[y0,y1,y2,y3,y4],_ =>
  have c0:Tryz.prog.cellsOf 3=1:=by kernel_rfl
  have g0:DataW.trod enc Tryz.prog W 0 (fun _=>true) true n' 3 ((cs.drop 0).take (Tryz.prog.cellsOf 3))=some y0:=hf 0 _ rfl
  rw [c0] at g0
  obtain ⟨m0,h0⟩:=(zgi Tryz.underlying3) n' _ _ (z7t (by omega)) g0
  have c1:Tryz.prog.cellsOf 3=1:=by kernel_rfl
  have g1:DataW.trod enc Tryz.prog W 0 (fun _=>true) true n' 3 ((cs.drop 1).take (Tryz.prog.cellsOf 3))=some y1:=hf 1 _ rfl
  rw [c1] at g1
  obtain ⟨m1,h1⟩:=(zgi Tryz.underlying3) n' _ _ (z7t (by omega)) g1
  have c2:Tryz.prog.cellsOf 3=1:=by kernel_rfl
  have g2:DataW.trod enc Tryz.prog W 0 (fun _=>true) true n' 3 ((cs.drop 2).take (Tryz.prog.cellsOf 3))=some y2:=hf 2 _ rfl
  rw [c2] at g2
  obtain ⟨m2,h2⟩:=(zgi Tryz.underlying3) n' _ _ (z7t (by omega)) g2
  have c3:Tryz.prog.cellsOf 3=1:=by kernel_rfl
  have g3:DataW.trod enc Tryz.prog W 0 (fun _=>true) true n' 3 ((cs.drop 3).take (Tryz.prog.cellsOf 3))=some y3:=hf 3 _ rfl
  rw [c3] at g3
  obtain ⟨m3,h3⟩:=(zgi Tryz.underlying3) n' _ _ (z7t (by omega)) g3
  have c4:Tryz.prog.cellsOf 69=1:=by kernel_rfl
  have g4:DataW.trod enc Tryz.prog W 0 (fun _=>true) true n' 69 ((cs.drop 4).take (Tryz.prog.cellsOf 69))=some y4:=hf 4 _ rfl
  rw [c4] at g4
  obtain ⟨m4,h4⟩:=(yrt (sz:=3) (a:=z08) Tryz.underlying69 (by kernel_rfl) (by omega) inferInstance (fun _=>rfl) yd6) n' _ _ (z7t (by omega)) g4
  have r:=(show zch W _ (cs.drop 0) from (.cut h0 (.cut h1 (.cut h2 (.cut h3 (.cut h4 (zch.done (by omega))))))))
  exact ⟨⟨m0,m1,m2,m3,m4⟩,r⟩
theorem yf3 (hv:Value.okWide Tryz.prog W .any base 26 v)(h:DataW.Trod enc Tryz.prog W 0 (fun _=>true) true 26 v d p):∃ l:List z03,Rep W (fun _=>True) G0 (.sl 5 (l.map z02)) v :=
 yit Tryz.underlying26 (by kernel_rfl) (by omega) inferInstance (fun _=>rfl) yks hv h
end
section
variable {H:Type} {enc:TypeId×Value->H} {W:World} {base:Nat} {v:Value} {d:DataW H} {p:List MemPlace}
set_option maxRecDepth 100000
theorem yme (hv:Value.okWide Tryz.prog W .any base 5 v)(h:DataW.Trod enc Tryz.prog W 0 (fun _=>true) true 5 v d p):∃ n:Nat,n<=255/\v=.int .u8 n:=by
 obtain ⟨n,rfl⟩:=okWide_int Tryz.underlying5 hv
 obtain ⟨fuel,hf⟩:=h
 obtain ⟨m,e,_,hw⟩:=DataW.trod_int (k:=.u8) Tryz.underlying5 hf
 have e:n=m:=by simpa [Value.cells] using e
 subst e
 have h2:(0:Int)<=n/\n<=255:=by
  simp only [Lit.wf,Bool.and_eq_true,decide_eq_true_eq] at hw
  exact hw
 exact ⟨n.toNat,by omega,by rw [Int.toNat_of_nonneg h2.1]⟩
end
end Go.Proofs.YtidhlpjgifoneaaGreat
