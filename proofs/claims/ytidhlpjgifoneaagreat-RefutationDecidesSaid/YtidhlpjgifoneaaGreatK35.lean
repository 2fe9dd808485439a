/- Layer 57, plainly. -/
import Derived.Test.YtidhlpjgifoneaaGreatK34
import Derived.Test.YtidhlpjgifoneaaGreatRows
import Derived.ProofKit
import Derived.Lib.SmallJoins
import Derived.Deep.Slices
import Derived.Below
import Derived.OpenShut
import Derived.JoinedCond
set_option linter.unusedVariables false
set_option linter.unusedSimpArgs false
namespace Go.Proofs.YtidhlpjgifoneaaGreat
open Go.RowKit List
variable {a:Aut}{l:List Ev}
theorem GS.of (hw:WfA a)(h1:z7x N0 a l=some true)(h2:z3h N0 a l=some 0):GS a l:=by
 obtain ⟨b,b1,b2⟩:=yfb a hw l
 rw [h1] at b1
 obtain rfl:=Option.some.inj b1
 obtain ⟨hf,hl,q,hb,hs⟩:=b2 rfl
 have hq:q=0:=by
  have e:z2q N0 a l=z3h N0 a l:=by unfold z2q z3h;rfl
  rw [e,h2] at hb
  exact (Option.some.inj hb).symm
 obtain ⟨p,p1,p2⟩:=y95 a hw l (by omega)
 rw [hb] at p1
 obtain rfl:=Option.some.inj p1
 rcases p2 with ⟨h',_⟩|⟨_,ha,hso,hck,hst,_⟩
 ·exact absurd hq h'
 obtain ⟨r,r1,r2,r3⟩:=ybw N0 (by decide) a hw
 rw [hck] at r1
 obtain rfl:=Option.some.inj r1
 exact ⟨hw,hf,ha,hck,r2,hst,hl,hs hq⟩
theorem y8x (h:GS a l):zgg N0 a l=some (msI a l l.length,0)/\(∀ d∈msI a l l.length,maOk d=true):=by
 have hln:=h.len
 obtain ⟨mp,hm,hbeg⟩:=h.begin l.length
 rw [take_length] at hm hbeg
 have e0:setL z7t ([]:List Ma)=[]:=rfl
 have hsm:=h.sm
 obtain ⟨cs,all,a1,a2,a3,a4,a5,a6,a7⟩:=yb7 (r:=⟨a,mp⟩) h.cx hm h.so.st h.edges (by omega) (fun y0 y1=>bndM 62 (zb9 N0 y1) fun x47=>some (y0,x47,0)) N0 0 [cf0] [] (Nat.zero_le _) (by unfold N0;omega) (by simp) (by simp) (fun c hc=>by rw [mem_singleton.1 hc];exact cb0 h.ok) (by simp) (by rw [drop_zero,e0];exact hsm)
 rw [drop_zero,e0] at a2
 have a2':wiP 150 a l l [cf0] []=(cs,setL z7t all,true):=a2
 have hx:=yl5 h l.length
 rw [take_length,a2'] at hx
 injection hx with _ hx
 injection hx with hx _
 have hr:zqw N0 a l=some (cs,setL z7t all,0):=by
  unfold zqw bndP
  rw [hbeg]
  simp only [z0w,z0d]
  have hB:zd9 N0=some cf0:=rfl
  rw [if_pos trivial,hB,z04]
  refine a1.trans ?_
  rw [yf9 N0 (by decide) all a3 (by omega),z7v]
 unfold zgg
 rw [hr,z04,<-hx]
 exact ⟨rfl,yeq a3⟩
def NM (a:Aut)(l:List Ev)(i:Nat):Prop:=∀ j,i<=j->(hj:j<l.length)->maN a l (xsI a l j) l[j]=[]
theorem yf4 {s m:List Ma}:puts z7t s m=[] ↔ s=[]/\m=[]:=by
 constructor
 ·intro h
  have k:=fun z=>zkf zar z m s
  rw [h] at k
  exact ⟨eq_nil_iff_forall_not_mem.2 (fun z hz=>by simp_all),eq_nil_iff_forall_not_mem.2 (fun z hz=>by have:=(k z).2 (Or.inr hz);simp at this)⟩
 ·rintro ⟨rfl,rfl⟩
  rfl
theorem yc0 (h:GS a l):msI a l l.length=[] ↔ NM a l 0:=by
 have key:∀ i,i<=l.length->(msI a l i=[] ↔ ∀ j,(hj:j<l.length)->j<i->maN a l (xsI a l j) l[j]=[]):=by
  intro i
  induction i with
  |zero=>intro _;rw [(zwn a l).2];simp
  |succ i ih =>
   intro hi
   rw [(zs8 h (by omega)).2.1,yf4,ih (by omega)]
   grind
 rw [key l.length (Nat.le_refl _)]
 exact ⟨fun hq j _ hj=>hq j hj hj,fun hq j hj _=>hq j (Nat.zero_le _) hj⟩
noncomputable def tS (f:List Cf->List Cf)(a:Aut)(l:List Ev):List Ev->List Cf->List (List Cf)
 |[],_=>[]
 |e::r,cs=>f (cfN a l cs e)::tS f a l r (f (cfN a l cs e))
theorem y1m (f:List Cf->List Cf)(a:Aut)(l:List Ev)(e:Ev)(r:List Ev)(cs:List Cf):tS f a l (e::r) cs=f (cfN a l cs e)::tS f a l r (f (cfN a l cs e)):=rfl
theorem yao (f:List Cf->List Cf)(a:Aut)(l:List Ev):∀ (r:List Ev) (cs:List Cf),(tS f a l r cs).length=r.length
 |[],_=>rfl
 |e::r,cs=>by rw [y1m,length_cons,length_cons,yao f a l r]
structure Ch (a:Aut) (l:List Ev) (f:List Cf->List Cf):Prop where
 sub:∀ i cs,Sb a l i cs->Sb a l i (f cs)
 cov:∀ cs,∀ c∈cs,covd (zh0 a) (f cs) c=true
theorem yp7 (a:Aut)(l:List Ev):Ch a l id:=⟨fun i cs h=>h,fun cs c hc=>any_eq_true.2 ⟨c,hc,zwh _ _⟩⟩
theorem yl0 (a:Aut)(l:List Ev):Ch a l (redP (zh0 a)):=⟨fun i cs h=>h.red _,fun cs c hc=>by
 obtain ⟨y,h1,h2⟩:=yla (zh0 a) hc
 exact any_eq_true.2 ⟨y,h1,h2⟩⟩
theorem yga {cs xs:List Ma}(h:∀ c∈cs,c∈xs)(e:xs=[]):cs=[]:=eq_nil_iff_forall_not_mem.2 (fun z hz=>by simp_all)
variable {f:List Cf->List Cf}
theorem yac (h:GS a l)(hf:Ch a l f):∀ (n i:Nat) (cs:List Cf) (acc:List (List Cf)),i+n=l.length->Sb a l i cs->NM a l i->bS f a l (l.drop i) cs acc=(acc++tS f a l (l.drop i) cs,0)
 |0,i,cs,acc,h1,h2,h3=>by
  rw [drop_eq_nil_of_le (by omega)]
  show (acc,(0:Int))=(acc++[],0)
  rw [append_nil]
 |n+1,i,cs,acc,h1,h2,h3=>by
  have hi:i<l.length:=by omega
  rw [drop_eq_getElem_cons hi,y3t,y1m,if_pos (yga (y27 h2.sub _) (h3 i (Nat.le_refl _) hi)),yac h hf n (i+1) _ _ (by omega) (hf.sub _ _ (h2.next h hi)) (fun j hj hjl=>h3 j (by omega) hjl)]
  simp
theorem yhm (h:GS a l):∀ (n i:Nat) (acc:List (List Cf)),i+n=l.length->¬NM a l i->bS id a l (l.drop i) (xsI a l i) acc=([],22)
 |0,i,acc,h1,h3=>absurd (fun j hj hjl=>by omega) h3
 |n+1,i,acc,h1,h3=>by
  have hi:i<l.length:=by omega
  rw [drop_eq_getElem_cons hi,y3t]
  by_cases hm:maN a l (xsI a l i) l[i]=[]
  ·rw [if_pos hm]
   have:=yhm h n (i+1) (acc++[xsI a l (i+1)]) (by omega) (fun hq=>h3 (fun j hj hjl=>by
    by_cases e:j=i
    ·subst e;exact hm
    ·exact hq j (by omega) hjl))
   rw [(zs8 h hi).1] at this
   exact this
  ·rw [if_neg hm]
variable {S:List (List Cf)}
theorem yej (h:GS a l)(hf:Ch a l f):∀ (n i:Nat) (cs:List Cf),i+n=l.length->Sb a l i cs->S.drop i=cs::tS f a l (l.drop i) cs->∀ j (hj:j<S.length),i<=j->Sb a l j S[j]
 |0,i,cs,h1,h2,h3,j,hj,hij=>by
  have hl:(S.drop i).length=1:=by rw [h3,length_cons,yao,length_drop];omega
  rw [length_drop] at hl
  obtain rfl:j=i:=by omega
  rw [drop_eq_getElem_cons hj] at h3
  grind
 |n+1,i,cs,h1,h2,h3,j,hj,hij=>by
  have hi:i<l.length:=by omega
  have hiS:i<S.length:=by
   have:(S.drop i).length=l.length-i+1:=by rw [h3,length_cons,yao,length_drop]
   rw [length_drop] at this
   omega
  rw [drop_eq_getElem_cons hiS] at h3
  obtain ⟨e1,e2⟩:=List.cons.inj h3
  by_cases e:j=i
  ·simp_all
  ·rw [drop_eq_getElem_cons hi,y1m] at e2
   exact yej h hf n (i+1) _ (by omega) (hf.sub _ _ (h2.next h hi)) e2 j hj (by omega)
theorem yka (h:GS a l)(hf:Ch a l f)(hS:S.length=l.length+1):∀ (n i:Nat) (cs:List Cf),i+n=l.length->Sb a l i cs->NM a l i->S.drop i=cs::tS f a l (l.drop i) cs->vOk a l S (l.drop i) i=true
 |0,i,cs,h1,h2,h4,h3=>by rw [drop_eq_nil_of_le (by omega)];rfl
 |n+1,i,cs,h1,h2,h4,h3=>by
  have hi:i<l.length:=by omega
  rw [drop_eq_getElem_cons (by omega:i<S.length)] at h3
  obtain ⟨e1,e2⟩:=List.cons.inj h3
  rw [drop_eq_getElem_cons hi,y1m] at e2
  have ih:=yka h hf hS n (i+1) _ (by omega) (hf.sub _ _ (h2.next h hi)) (fun j hj hjl=>h4 j (by omega) hjl) e2
  rw [drop_eq_getElem_cons (by omega:i+1<S.length)] at e2
  have e3:=(List.cons.inj e2).1
  have g1:S.getD i []=cs:=by rw [getD_eq_getElem?_getD,getElem?_eq_getElem (by omega),Option.getD_some,e1]
  have g2:S.getD (i+1) []=f (cfN a l cs l[i]):=by rw [getD_eq_getElem?_getD,getElem?_eq_getElem (by omega),Option.getD_some,e3]
  rw [drop_eq_getElem_cons hi,yan,ih,Bool.and_true,g1,all_eq_true]
  intro c hc
  have hs:∀ d∈[c],d∈cs:=fun d hd=>by simp_all
  unfold okC
  rw [g2,Bool.and_eq_true,isEmpty_iff,all_eq_true]
  exact ⟨yga (y27 (fun d hd=>h2.sub d (hs d hd)) _) (h4 i (Nat.le_refl _) hi),fun d hd=>hf.cov _ d (ycu hs _ d hd)⟩
noncomputable def refS (f:List Cf->List Cf)(a:Aut)(l:List Ev):List (List Cf):=[cf0]::tS f a l l [cf0]
theorem ynm (h:GS a l)(hf:Ch a l f):zu3 a l (refS f a l)/\(∀ i (hi:i<(refS f a l).length),Sb a l i (refS f a l)[i]):=by
 have hl:(refS f a l).length=l.length+1:=by unfold refS;rw [length_cons,yao]
 have hs:∀ i (hi:i<(refS f a l).length),Sb a l i (refS f a l)[i]:=fun i hi=>yej h hf l.length 0 [cf0] (by omega) (sb0 a l) (by rw [drop_zero,drop_zero];rfl) i hi (Nat.zero_le _)
 exact ⟨⟨hl,fun i hi=>by have:=(hs i hi).len h (by omega);omega,fun i hi=>(hs i hi).gd h (by omega)⟩,hs⟩
theorem yev (h:GS a l)(hf:Ch a l f)(hn:NM a l 0):z2k N0 a l ⟨refS f a l⟩=some 0:=by
 obtain ⟨h1,h2⟩:=ynm h hf
 rw [yiu h h1 (yo6 h h1 (fun i hi=>(h2 i hi).str))]
 have hv:=yka h hf h1.ln l.length 0 [cf0] (by omega) (sb0 a l) hn (by rw [drop_zero,drop_zero];rfl)
 rw [drop_zero] at hv
 have hc:covd (zh0 a) ((refS f a l).getD 0 []) cf0=true:=any_eq_true.2 ⟨cf0,mem_singleton.2 rfl,zwh _ _⟩
 rw [hv,hc]
 rfl
theorem ylw (h:GS a l):z5b N0 a=some (zh0 a):=by
 unfold z5b
 rw [y0b h.wf h.ok (fun x hx=>(h.wf.ed x hx).lc),z04]
theorem zse (h:GS a l):z8q N0 a l=some 0:=by
 have:=y61 h l.length
 simp_all
theorem yj7 (h:GS a l):z9j N0 a l=some (match msI a l l.length with|[]=>(2,⟨[]⟩,⟨refS (redP (zh0 a)) a l⟩,0)|m::_=>(1,m,⟨[]⟩,0)):=by
 unfold z9j
 rw [zse h,z04,z0w,z0d,if_pos rfl,(y8x h).1,z04,z0w,z0d,if_pos rfl,z0d,length_map]
 cases hm:msI a l l.length with
 |nil =>
  have hn:=(yc0 h).1 hm
  have hb:=yac h (yl0 a l) l.length 0 [cf0] [[cf0]] (by omega) (sb0 a l) hn
  rw [drop_zero] at hb
  rw [if_neg (by simp),ylw h,z7v,y0v,y0v,z1d,yll h,hb,z04]
  rfl
 |cons m r =>
  rw [if_pos (by simp),znt]
theorem ym1 (h:GS a l):zbt N0 a l=some (match msI a l l.length with|[]=>(⟨refS id a l⟩,0)|_::_=>(⟨[]⟩,22)):=by
 unfold zbt
 rw [zse h,z04,z0w,z0d,if_pos rfl,ynx h,z04]
 cases hm:msI a l l.length with
 |nil =>
  have hn:=(yc0 h).1 hm
  have hb:=yac h (yp7 a l) l.length 0 [cf0] [[cf0]] (by omega) (sb0 a l) hn
  rw [drop_zero] at hb
  rw [hb]
  rfl
 |cons m r =>
  have hn:¬NM a l 0:=fun hq=>by rw [(yc0 h).2 hq] at hm;cases hm
  have hb:=yhm h l.length 0 [[cf0]] (by omega) hn
  rw [drop_zero,(zwn a l).1] at hb
  rw [hb]
theorem yf8 (h:GS a l):z2k N0 a l ⟨[]⟩=some 15:=by
 have hln:=h.len
 unfold z2k zbb
 simp only [length_map,length_nil,map_nil]
 rw [zse h,z04,z0w,z0d,if_pos rfl,z1o l.length (by omega),z0w,z0d,if_neg (by omega),z04,z0w,z0d,if_neg (by omega)]
theorem y2c (a:Aut)(hw:WfA a)(l:List Ev):z74 N0 a l=some true:=by
 have hawk:z80 N0=some true:=ye3
 obtain ⟨b,b1,b2⟩:=yfb a hw l
 have hgood:z8m N0 a l=some true->z7x N0 a l=some true/\z3h N0 a l=some 0:=fun hg=>by
  unfold z8m at hg
  simp only [z29,z1d,z3v] at hg
  rw [b1,z04] at hg
  cases b with
  |false=>rw [z68] at hg;cases hg
  |true =>
   rw [z67] at hg
   refine ⟨b1,?_⟩
   cases hB:z3h N0 a l with
   |none=>rw [hB] at hg;exact absurd hg (by unfold bnd;simp)
   |some q =>
    rw [hB,z04] at hg
    simp_all
 have hgs:∃ g:Bool,z8m N0 a l=some g:=by
  unfold z8m
  simp only [z29,z1d,z3v]
  rw [b1,z04]
  cases b with
  |false=>exact ⟨false,z68 _ _⟩
  |true =>
   obtain ⟨hf,hl,q,hb,hs⟩:=b2 rfl
   have e:z2q N0 a l=z3h N0 a l:=by unfold z2q z3h;rfl
   rw [z67,<-e,hb,z04]
   exact ⟨_,rfl⟩
 obtain ⟨g,hg⟩:=hgs
 unfold z74
 rw [hg,z04,z0w]
 cases g with
 |false=>rw [z68,hawk,z04]
 |true =>
  obtain ⟨g1,g2⟩:=hgood hg
  have h:=GS.of hw g1 g2
  rw [z67,yj7 h,z04,(y8x h).1,z04,ym1 h,z04]
  have hok:=(y8x h).2
  cases hm:msI a l l.length with
  |nil =>
   have hn:=(yc0 h).1 hm
   simp only [z29,z1d,z1a,z0y,z0w,z0d,length_map,length_nil]
   simp [yev h (yl0 a l) hn,yev h (yp7 a l) hn,hawk,z04,z68]
  |cons m r =>
   rw [hm] at hok
   have hmo:=hok m (by simp)
   have hcmp:z2s N0 m m=some 0:=by
    have hz:z7t m m=0:=(zar.zero m m).2 rfl
    have hle:=(zga m).1 hmo
    rw [yiy N0 m m (by unfold N0;omega) (by omega) (by omega),hz]
   have e1:(⟨m.fBindings⟩:Ma)=m:=rfl
   simp only [z29,z1d,z1a,z0z,z0w,z0d,length_map,length_nil,znt,e1,hcmp,z04,yf8 h,hawk]
   simp_all
theorem y2k (a:z07)(hw:WfA a)(l:List z03):Con E0 true 6 [z0n a,.sl 5 (l.map z02)] (.bool true):=zgz (y2c a hw l)
open Go.ChangeShapes Go.WideShapes Go.ChangeAt
theorem y3u {w:World}{S:Nat->Prop}{a b:AV}{x y:Value}(ha:Rep w S G0 a x)(hb:Rep w S G0 b y):Args w S [a,b] #[x,y] :=
 ⟨rfl,fun i hi=>by
  have hi':i<2:=hi
  rcases i with _|_|i
  ·exact ha
  ·exact hb
  ·omega⟩
theorem yjc:ownKnob Tryz.prog.godebug=none:=by kernel_rfl
theorem yjh:laidOutB Tryz.prog=true:=by kernel_rfl
section
variable {H:Type} {enc:TypeId×Value->H}
theorem zt4 {W W':World}{sp':Nat->Bool}(hb:Below W.heap.size W W')(ts:List TypeId):∀ (vs:List Value) (ds:List (DataW H)) (p:List MemPlace),ts.all (fun t=>Tryz.prog.readableRec t && decide (t<Tryz.prog.types.size))=true ->
  DataW.TrodAll enc Tryz.prog W 0 (fun _=>true) true ts vs ds p->(∀ x∈p,x.block<W.heap.size)->(∀ x∈p,sp' x.block=true)->DataW.TrodAll enc Tryz.prog W' 0 sp' true ts vs ds p:=by
 induction ts with
 |nil =>
  intro vs ds p _ h _ _
  match vs,ds,h with
  |[],[],h=>exact h
  |_::_,_,h=>exact h.elim
  |[],_::_,h=>exact h.elim
 |cons t ts ih =>
  intro vs ds p hr h hlt hs
  match vs,ds,h with
  |v::vs,d::ds,h =>
   obtain ⟨q,r,h1,h2,rfl⟩:=h
   have hr1:Tryz.prog.readableRec t=true/\t<Tryz.prog.types.size:=by
    have:=all_eq_true.mp hr t (mem_cons_self ..)
    rw [Bool.and_eq_true,decide_eq_true_eq] at this;exact this
   have hr2:ts.all (fun t=>Tryz.prog.readableRec t && decide (t<Tryz.prog.types.size))=true :=
    all_eq_true.mpr fun x hx=>all_eq_true.mp hr x (mem_cons_of_mem _ hx)
   exact ⟨q,r,WideElems.Trod_stays yjh hr1.1 hr1.2 h1 (fun x hx=>hb.same (hlt x (mem_append_left _ hx))) (fun x hx=>hs x (mem_append_left _ hx)),
    ih vs ds r hr2 h2 (fun x hx=>hlt x (mem_append_right _ hx)) (fun x hx=>hs x (mem_append_right _ hx)),rfl⟩
  |[],_,h=>exact h.elim
  |_::_,[],h=>exact h.elim
theorem y8b {W:World}{b:Nat}{sp:Nat->Bool}(ts:List TypeId):∀ (vs:List Value) (ds:List (DataW H)) (p:List MemPlace),DataW.TrodAll enc Tryz.prog W b sp true ts vs ds p->ds.length=ts.length:=by
 induction ts with
 |nil =>
  intro vs ds p h
  match vs,ds,h with
  |[],[],h=>rfl
  |_::_,_,h=>exact h.elim
  |[],_::_,h=>exact h.elim
 |cons t ts ih =>
  intro vs ds p h
  match vs,ds,h with
  |v::vs,d::ds,h =>
   obtain ⟨q,r,h1,h2,rfl⟩:=h
   simp only [length_cons]
   rw [ih vs ds r h2]
  |[],_,h=>exact h.elim
  |_::_,[],h=>exact h.elim
end
section
variable {H:Type} {enc:TypeId×Value->H}
set_option maxRecDepth 100000 in
theorem zsj (F:Stop.Interp)(os:Os)(started:os.Started){f:FuncId}{fn:Func}{s:ChangeSpec}{fr:Bool}(hf:Tryz.prog.funcs[f]? = some fn)(hni:Tryz.prog.inits.idxOf? f=none)
  (hw:∃ (w:World) (tape:Tape) (i:Input),w.os=os/\(w.forCall tape i).Shaped Tryz.checked.prog/\i.vars=[]/\Input.okWide Tryz.checked.prog (w.forCall tape i) .any w.heap.size f i /\
    (Rows.OpenSpec.upto s).pre6 enc Tryz.checked.prog fn [] false (w.forCall tape i).memory i.args/\Assume.holds {} Tryz.checked.prog (lone (Frame.enter Tryz.checked.prog f i.args .normal) [] (w.forCall tape i)))
  (hvars:s.vars=[]) (hres:fn.resultTypes=#[4]) (hread:fn.params.toList.all (fun t=>Tryz.prog.readableRec t && decide (t<Tryz.prog.types.size))=true)
  (hspec:∀ ds:List (DataW H),ds.length=fn.params.size->s.fn H ds={ results:=[.lit (.bool true)],args:=ds })
  (hopen:∀ (W:World) (base:Nat) (args:Array Value) (ds:List (DataW H)) (p:List MemPlace),(∀ (j:Nat) t v,fn.params[j]? = some t->args[j]? = some v->Value.okWide Tryz.prog W .any base t v) ->
    DataW.TrodAll enc Tryz.prog W 0 (fun _=>true) true fn.params.toList args.toList ds p->Rows.uptoBulkAll ds<=1048576->∃ avs,Args W (fun _=>True) avs args/\Con E0 fr f avs (.bool true)) :
  ReturnsInHanded {} Tryz.checked os f .any ((Rows.OpenSpec.upto s).pre6 enc Tryz.prog fn [] false) (((Rows.OpenSpec.upto s).at F).post enc Tryz.prog fn false true false false):=by
 refine returnsInHanded_of_cond (C:=Tryz.checked) (s:=Rows.OpenSpec.upto s) (k:=Rows.uptoSmall) rfl yjc started hni hf hw ?_
 intro W base args ds gs before hval hW hcnd hk _
 show Calls Tryz.checked.prog f args W fun e W'=>∃ v,e=.returned v/\s.post enc Tryz.prog fn false true false false W args v W'
 have hW':=hW
 obtain ⟨p,q,hA,hV,rfl,hfz,hnd⟩:=hW
 have hlt:∀ x∈p++q,x.block<W.heap.size:=fun x hx=>DataW.Whole.lt hW' x hx
 rw [show (Rows.OpenSpec.upto s).vars=s.vars from rfl,hvars] at hV
 obtain ⟨rfl,rfl⟩:=trodVars_none hV
 have hbk:Rows.uptoBulkAll ds<=1048576:=by
  have:=of_decide_eq_true hk
  rwa [append_nil] at this
 obtain ⟨avs,hargs,hcon⟩:=hopen W base args ds p hval hA hbk
 refine (hcon.2 (fun _=>True) W args hargs).mono fun e W' ⟨v,he,⟨hb,_⟩,hv⟩=>?_
 have hv:=hv.bool_inv
 subst hv
 subst he
 have hdl:ds.length=fn.params.size:=(y8b _ _ _ _ hA).trans (by simp)
 have hsp:s.fn H (ds++[])={ results:=[.lit (.bool true)],args:=ds }:=by rw [append_nil];exact hspec ds hdl
 have hltp:∀ x∈p,x.block<W.heap.size:=fun x hx=>hlt x (by simp [hx])
 have k0:=zt4 (sp':=fun b=>decide (b<W.heap.size)) hb _ _ _ _ hread hA hltp (fun x hx=>by simpa using hltp x hx)
 have k1:=zt4 (sp':=fun _=>true) hb _ _ _ _ hread hA hltp (fun x hx=>rfl)
 have hrl:(Value.bool true).resultList fn.resultTypes.size=[.bool true]:=by rw [hres];rfl
 have hrt:fn.resultTypes.toList=[4]:=by rw [hres]
 refine ⟨_,rfl,ds,[],_,[],p,[],hW',?_,?_,?_,World.keptBut_mono (fun x hx=>⟨hx,?_⟩) (hb.frame (·∈p++[])),fun h=>?_⟩
 ·rw [hsp,hrt,hrl];exact trodAll_mk1 (shut_bool Tryz.underlying4 true)
 ·rw [hsp];exact k0
 ·rw [hsp,hvars];exact rfl
 ·exact Or.inr (Or.inl (by simpa using hx))
 ·rw [hrt,hrl,hvars]
  refine ⟨?_,[.lit (.bool true)]++ds,[],p,⟨p,[],?_,rfl,by simp,?_,fun h=>by simp at h⟩,?_⟩
  ·rw [hres];intro j t r ht hr
   match j with
   |0 =>
    obtain rfl:4=t:=Option.some.inj ht
    obtain rfl:Value.bool true=r:=Option.some.inj hr
    exact okWide_bool_mk Tryz.underlying4 true
   |j+1=>exact absurd hr (by simp)
  ·exact trodAll_append k1 (trodAll_mk1 (shut_bool Tryz.underlying4 true))
  ·intro b off hp
   have hin:MemPlace.cell b off∈p++[]:=by simpa using hp
   rw [hb.frozen (hlt _ hin)]
   exact hfz b off hin
  ·intro x hx _
   simpa using hx
end
open Go.Joins Go.Deep
section
variable {H:Type} {enc:TypeId×Value->H} {W:World} {base:Nat} {v:Value} {d:DataW H} {p:List MemPlace}
variable {u:Value}
theorem y4l {a:Addr}(h:W.cell? a=some u):a.spot=none/\a.block<W.heap.size:=by
 unfold World.cell? at h
 split at h
 ·rename_i c _ _ hg
  split at h
  ·cases h
  ·rename_i hs
   refine ⟨by cases hh:a.spot with|none=>rfl|some _=>simp [hh] at hs,?_⟩
   rcases Nat.lt_or_ge a.block W.heap.size with hlt|hge
   ·exact hlt
   ·rw [Array.getElem?_eq_none hge] at hg;cases hg
 ·cases h
theorem zvm (b off k:Nat):(⟨b,off,none⟩:Addr).add k=⟨b,off+k,none⟩:=by
 by_cases h:k=0<;>simp [Addr.add,h]
variable {α:Type}
theorem y65 {β:Type}{f:α->Option β}:∀ {l:List α} {r:List β},l.mapM f=some r->r.length=l.length/\∀ k (hk:k<l.length) (hr:k<r.length),f l[k]=some r[k]
 |[],r,h=>by simp at h;subst h;exact ⟨rfl,fun k hk=>absurd hk (by simp)⟩
 |a::l,r,h=>by
  simp only [mapM_cons] at h
  cases ha:f a with
  |none=>rw [ha] at h;simp at h
  |some b =>
   rw [ha] at h
   cases hl:l.mapM f with
   |none=>rw [hl] at h;simp at h
   |some s =>
    rw [hl] at h
    simp at h
    subst h
    obtain ⟨i1,i2⟩:=y65 hl
    refine ⟨by simp [i1],fun k hk hr=>?_⟩
    cases k with
    |zero=>exact ha
    |succ k=>exact i2 k (by simpa using hk) (by simpa using hr)
theorem zr9 {a:Addr}{n:Nat}{cs:List Value}(h:W.cells? 0 a n=some cs):cs.length=n/\∀ j,j<n->W.cell? (a.add j)=some (cs.getD j undef):=by
 unfold World.cells? at h
 rw [if_pos (Nat.zero_le _)] at h
 obtain ⟨i1,i2⟩:=y65 h
 have hl:cs.length=n:=by simpa using i1
 refine ⟨hl,fun j hj=>?_⟩
 have:=i2 j (by simpa using hj) (by omega)
 rw [getElem_range] at this
 rw [this]
 simp [getElem?_eq_getElem (show j<cs.length by omega)]
set_option maxRecDepth 100000
def zv2 (W:World)(a:α->AV)(m:α)(cs:List Value):Prop :=
 cs.length=(a m).cells.length/\∀ j (hj:j<(a m).cells.length),Rep W (fun _=>True) G0 ((a m).cells[j]) (cs.getD j undef)/\(cs.getD j undef).oneCell'=true
variable {sz:Nat}
theorem yeo {a:α->AV}{t e:TypeId}(ht:Tryz.prog.underlying t=some (.slice e))(hsz:Tryz.prog.cellsOf e=sz)(h0:0<sz)(i0:Inhabited α)(hlen:∀ m,(a m).cells.length=sz)
  (each:∀ (n:Nat) (cs:List Value) (x:DataW H×List MemPlace),cs.length=sz->DataW.trod enc Tryz.prog W 0 (fun _=>true) true n e cs=some x->∃ m:α,zv2 W a m cs)
  {n:Nat}  {x:DataW H×List MemPlace} (h:DataW.trod enc Tryz.prog W 0 (fun _=>true) true n t [u]=some x):∃ l:List α,Rep W (fun _=>True) G0 (.sl sz (l.map a)) u:=by
 rcases open_slice ht h with ⟨h1,_⟩|⟨A,len,cap,m,n',D,Pl,h1,_,hlc,hm,hmm,_,hc⟩
 ·simp only [List.cons.injEq,and_true] at h1
  subst h1
  exact ⟨[],.sl none 0 (fun _ _=>.bool true) (by simp) (fun k hk=>absurd hk (by simp)) (fun h=>absurd h (by simp)) (fun k hk=>absurd hk (by simp)) (fun _ _=>rfl)⟩
 ·simp only [List.cons.injEq,and_true] at h1
  subst h1
  simp only [if_true] at hmm
  subst hmm
  rw [hsz] at hc
  have every:∀ i,∃ q:α×List Value,i<len->W.cells? 0 (A.add (i*sz)) sz=some q.2/\zv2 W a q.1 q.2:=fun i=>by
   by_cases hi:i<len
   ·obtain ⟨cs,c1,c2⟩:=hc i (by omega)
    obtain ⟨k,hk⟩:=each n' cs _ (zr9 c1).1 c2
    exact ⟨(k,cs),fun _=>⟨c1,hk⟩⟩
   ·exact ⟨(i0.default,[]),fun h=>absurd h hi⟩
  obtain ⟨f,hf⟩:=Classical.axiomOfChoice every
  have hl:((range len).map fun i=>(f i).1).length=len:=by simp
  refine ⟨(range len).map fun i=>(f i).1,?_⟩
  have e:len=(((range len).map fun i=>(f i).1).map a).length:=by simp
  have hcell:∀ k j,k<len->j<sz->W.cell? ((A.add (k*sz)).add j)=some ((f k).2.getD j undef):=fun k j hk hj=>(zr9 (hf k hk).1).2 j hj
  have:Rep W (fun _=>True) G0 (.sl sz (((range len).map fun i=>(f i).1).map a)) (.slice (some A) (((range len).map fun i=>(f i).1).map a).length m):=by
   refine .sl (some A) m (fun k j=>if k<len/\j<sz then (f k).2.getD j undef else .bool true) (by simpa using hlc) (fun k hk=>?_) (fun h0'=>?_) (fun k hk j hj=>?_) (fun k j=>?_)
   ·simp only [getElem_map];exact hlen _
   ·have hlp:0<len:=by simpa using h0'
    have c0:=y4l (hcell 0 0 hlp h0)
    obtain ⟨b,off,sp⟩:=A
    have e1:sp=none:=by simpa [Addr.add] using c0.1
    subst e1
    rw [zvm,zvm] at c0
    refine ⟨b,off,rfl,trivial,c0.2,fun k j hk hj=>?_⟩
    have hk':k<len:=by simpa using hk
    have:=hcell k j hk' hj
    rw [zvm,zvm] at this
    rw [if_pos ⟨hk',hj⟩,<-this]
    congr 2
    omega
   ·have hk':k<len:=by simpa using hk
    simp only [getElem_map,getElem_range] at hj ⊢
    have hj':j<sz:=by rw [hlen] at hj;exact hj
    rw [if_pos ⟨hk',hj'⟩]
    exact ((hf k hk').2.2 j hj).1
   ·by_cases hkj:k<len/\j<sz
    ·rw [if_pos hkj]
     exact ((hf k hkj.1).2.2 j (by rw [hlen];exact hkj.2)).2
    ·rw [if_neg hkj];rfl
  rw [<-e] at this
  exact this
theorem Rep.one_sl {xs:List AV}(h:Rep W (fun _=>True) G0 (.sl sz xs) u):u.oneCell'=true:=by
 cases h;rfl
theorem yd6 {a:α->AV}{t e:TypeId}(ht:Tryz.prog.underlying t=some (.slice e))(hsz:Tryz.prog.cellsOf e=sz)(h0:0<sz)(i0:Inhabited α)(hlen:∀ m,(a m).cells.length=sz)
  (each:∀ (n:Nat) (cs:List Value) (x:DataW H×List MemPlace),cs.length=sz->DataW.trod enc Tryz.prog W 0 (fun _=>true) true n e cs=some x->∃ m:α,zv2 W a m cs)
  (hv:Value.okWide Tryz.prog W .any base t v) (h:DataW.Trod enc Tryz.prog W 0 (fun _=>true) true t v d p):∃ l:List α,Rep W (fun _=>True) G0 (.sl sz (l.map a)) v:=by
 obtain ⟨A,len,cap,rfl⟩:=okWide_slice ht hv
 obtain ⟨fuel,hf⟩:=h
 exact yeo ht hsz h0 i0 hlen each hf
theorem ypd {a:α->AV}{m:α}{cs:Array Value}{xs:List AV}(hm:a m=.agg xs)(h:zv2 W a m cs.toList):Rep W (fun _=>True) G0 (a m) (.agg cs):=by
 obtain ⟨h1,h2⟩:=h
 rw [hm] at h1 h2 ⊢
 have hl:cs.size=xs.length:=by simpa [AV.cells] using h1
 have g:∀ i,cs.toList.getD i undef=cs.getD i undef:=fun i=>by
  by_cases hi:i<cs.size
  ·simp [Array.getD,hi]
  ·simp [Array.getD,hi]
 refine .agg _ hl (fun i hi=>?_) (fun i hi=>?_)
 ·have:=(h2 i hi).1
  rw [g] at this
  exact this
 ·have:=(h2 i (show i<xs.length by rw [<-hl];exact hi)).2
  rw [g] at this
  exact this
end
section
variable {H:Type} {enc:TypeId×Value->H} {W:World} {base:Nat} {v:Value} {d:DataW H} {p:List MemPlace}
set_option maxRecDepth 100000
def zch (W:World)(xs:List AV)(cs:List Value):Prop :=
 cs.length=xs.length/\∀ j (hj:j<xs.length),Rep W (fun _=>True) G0 (xs[j]) (cs.getD j undef)/\(cs.getD j undef).oneCell'=true
theorem zch.one {a:AV}{c:Value}(h:Rep W (fun _=>True) G0 a c)(h1:c.oneCell'=true):zch W [a] [c]:=by
 refine ⟨rfl,fun j hj=>?_⟩
 have hj':j<1:=hj
 rcases j with _|j
 ·exact ⟨h,h1⟩
 ·omega
variable {cs:List Value}
theorem zch.append {xs ys:List AV}{ds:List Value}(h1:zch W xs cs)(h2:zch W ys ds):zch W (xs++ys) (cs++ds):=by
 refine ⟨by rw [length_append,length_append,h1.1,h2.1],fun j hj=>?_⟩
 by_cases h:j<xs.length
 ·have:=h1.2 j h
  rw [getElem_append_left h]
  have e:(cs++ds).getD j undef=cs.getD j undef:=by
   simp only [getD_eq_getElem?_getD]
   rw [getElem?_append_left (by rw [h1.1];exact h)]
  rw [e];exact this
 ·have hj':j-xs.length<ys.length:=by rw [length_append] at hj;omega
  have:=h2.2 (j-xs.length) hj'
  rw [getElem_append_right (by omega)]
  have e:(cs++ds).getD j undef=ds.getD (j-xs.length) undef:=by
   simp only [getD_eq_getElem?_getD]
   rw [getElem?_append_right (by rw [h1.1];omega),h1.1]
  rw [e];exact this
theorem zch.cut {o s:Nat}{xs ys:List AV}(h1:zch W xs ((cs.drop o).take s))(h2:zch W ys (cs.drop (o+s))):zch W (xs++ys) (cs.drop o):=by
 have:cs.drop o=(cs.drop o).take s++cs.drop (o+s):=by rw [<-drop_drop,take_append_drop]
 rw [this]
 exact h1.append h2
theorem zch.done {o:Nat}(h:cs.length<=o):zch W [] (cs.drop o):=by
 rw [drop_eq_nil_of_le h]
 exact ⟨rfl,fun j hj=>absurd hj (by simp)⟩
theorem z7u {o s:Nat}(h:o+s<=cs.length):((cs.drop o).take s).length=s:=by rw [length_take,length_drop];omega
abbrev FO (enc:TypeId×Value->H)(W:World)(t:TypeId)(sz:Nat){α:Type}(e:α->List AV):Prop :=
 ∀ (n:Nat) (cs:List Value) (x:DataW H×List MemPlace),cs.length=sz->DataW.trod enc Tryz.prog W 0 (fun _=>true) true n t cs=some x->∃ m:α,zch W (e m) cs
variable {t:TypeId}
theorem zgi (ht:Tryz.prog.underlying t=some (.int .i64)):FO enc W t 1 (fun z:Int=>[aI z]):=fun n cs x hl h=>by
 obtain ⟨z,rfl,_⟩:=DataW.trod_int (k:=.i64) ht h
 exact ⟨z,.one (.int _ _) rfl⟩
theorem yos (ht:Tryz.prog.underlying t=some .string):FO enc W t 1 (fun z:ByteArray=>[AV.str z]):=fun n cs x hl h=>by
 obtain ⟨z,rfl,_⟩:=DataW.trod_string ht h
 exact ⟨z,.one (.str _) rfl⟩
theorem yq6 {e:TypeId}{sz:Nat}{α:Type}{a:α->AV}(ht:Tryz.prog.underlying t=some (.slice e))(hsz:Tryz.prog.cellsOf e=sz)(h0:0<sz)(i0:Inhabited α)(hlen:∀ m,(a m).cells.length=sz)
  (each:FO enc W e sz (fun m:α=>(a m).cells)):FO enc W t 1 (fun l:List α=>[AV.sl sz (l.map a)]):=fun n cs x hl h=>by
 match cs,hl with
 |[c],_ =>
  obtain ⟨l,hl⟩:=yeo (a:=a) ht hsz h0 i0 hlen each h
  exact ⟨l,.one hl hl.one_sl⟩
theorem ymp (ht:Tryz.prog.underlying t=some (.int .i64)):FO enc W t 1 (fun z:Int=>(aI z).cells):=zgi ht
theorem yhp {α:Type}{a:α->AV}{e:TypeId}{sz:Nat}(ht:Tryz.prog.underlying t=some (.slice e))(hsz:Tryz.prog.cellsOf e=sz)(h0:0<sz)(i0:Inhabited α)(hlen:∀ m,(a m).cells.length=sz)
  (each:FO enc W e sz (fun m:α=>(a m).cells)) (hv:Value.okWide Tryz.prog W .any base t v) (h:DataW.Trod enc Tryz.prog W 0 (fun _=>true) true t v d p):∃ l:List α,Rep W (fun _=>True) G0 (.sl sz (l.map a)) v :=
 yd6 ht hsz h0 i0 hlen each hv h
end
end Go.Proofs.YtidhlpjgifoneaaGreat
