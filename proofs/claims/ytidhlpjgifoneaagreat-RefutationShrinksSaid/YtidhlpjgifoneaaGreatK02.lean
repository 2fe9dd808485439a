/- The abstract walk, second part. -/
import Derived.Test.YtidhlpjgifoneaaGreatK01
import Derived.Orders
import Derived.OrdersIn
import Derived.OwnWalkIn
import Derived.RangeFuncLeaves
import Derived.RangeFuncCalls
import Derived.RangeFuncSeq
set_option linter.unusedVariables false
set_option linter.unusedSimpArgs false
namespace Go.Proofs.YtidhlpjgifoneaaGreat
open Go.RowKit List
inductive NE where
 |row (ty sz:Nat) (xs:List AV)
 |mp (ps:List (AV×AV))
 |hole
deriving Inhabited
inductive Ent where
 |box (ty:TypeId) (cells:List AV)
 |row (ty:TypeId) (sz:Nat) (xs:List AV)
 |mp (ps:List (AV×AV))
 |nest (ty:TypeId) (es:List NE)
 |mpn (ps:List (AV×NE))
 |are (ty:TypeId) (idx:List (Option Nat)) (os:List NE)
 |it (ps:List (AV×AV))
 |itp (ps:List (AV×AV))
 |itc (p:AV×AV) (ps:List (AV×AV))
 |dead
deriving Inhabited
structure AS where
 tm:List (Nat×AV)
 me:List (Nat×Ent)
deriving Inhabited
def lkV:List (Nat×AV)->Nat->AV
 |[],_=>.any
 |(u,x)::r,t=>match Nat.beq u t with|true=>x|false=>lkV r t
def lkE:List (Nat×Ent)->Nat->Option Ent
 |[],_=>none
 |(u,x)::r,t=>match Nat.beq u t with|true=>some x|false=>lkE r t
def AS.get (σ:AS)(t:Nat):AV:=lkV σ.tm t
def AS.find (σ:AS)(i:Nat):Option Ent:=lkE σ.me i
def putD (d:Option Nat)(v:AV)(l:List (Nat×AV)):List (Nat×AV):=match d with|some d=>(d,v)::l|none=>l
def AS.upd (σ:AS)(dst:Option Nat)(v:AV)(wr:List (Nat×Ent)):AS:=⟨putD dst v σ.tm,wr++σ.me⟩
theorem AS.get_upd (σ:AS)(dst:Option Nat)(v:AV)(wr:List (Nat×Ent))(t:Nat):(σ.upd dst v wr).get t=if dst=some t then v else σ.get t:=by
 cases dst with
 |none=>simp [AS.upd,AS.get,putD]
 |some d =>
  simp only [AS.upd,AS.get,putD,lkV,Option.some.injEq]
  by_cases h:d=t
  ·subst h;simp
  ·rw [if_neg h]
   have:Nat.beq d t=false:=by
    cases hb:Nat.beq d t with
    |false=>rfl
    |true=>exact absurd (Nat.eq_of_beq_eq_true hb) h
   rw [this]
theorem y1z (l m:List (Nat×Ent))(i:Nat):lkE (l++m) i=(lkE l i).or (lkE m i):=by
 induction l with
 |nil=>simp [lkE]
 |cons x r ih =>
  obtain ⟨u,e⟩:=x
  simp only [cons_append,lkE]
  cases h:Nat.beq u i<;>simp [ih]
theorem AS.find_upd (σ:AS)(dst:Option Nat)(v:AV)(wr:List (Nat×Ent))(i:Nat):(σ.upd dst v wr).find i=(lkE wr i).or (σ.find i):=y1z _ _ _
def zaw:Value->Option Nat
 |.slice (some a) _ _=>some a.block
 |.map (some g)=>some g
 |_=>none
def zh1:Value->List Nat
 |.tuple vs=>vs.toList.filterMap zaw
 |.agg vs=>vs.toList.filterMap zaw
 |_=>[]
def blks:Option (Option Nat×Value)->List Nat
 |none=>[]
 |some (o,s)=>o.toList++zh1 s
variable {b:Nat}{s:Value}
theorem z4e:b∈blks (some (some b,s)):=by simp [blks]
def own (γ:Gam)(b:Nat):Prop:=∃ id d,γ id=some d/\b∈blks d
theorem own.mk {γ:Gam}{id:Nat}(h:γ id=some (some (some b,s))):own γ b:=⟨id,_,h,z4e⟩
theorem zth {g:Nat}(hs:zh1 s=[])(h:b∈blks (some (some g,s))):b=g:=by simpa [blks,hs] using h
theorem zn5 (hs:zh1 s=[])(h:b∈blks (some (none,s))):False:=by simp [blks,hs] at h
theorem zhn (hs:zh1 s=[])(h:b∈blks (some (s.ownBlock,s))):s.ownBlock=some b:=by
 cases ho:s.ownBlock with
 |none=>rw [ho] at h;exact (zn5 hs h).elim
 |some g=>rw [ho] at h;rw [zth hs h]
theorem zhl (h:s.oneCell'=true):zh1 s=[]:=by cases s<;>first|rfl|simp [Value.oneCell'] at h
def Nw (S0:Nat->Prop)(B b:Nat):Prop:=B<=b/\¬S0 b
def Sg (S0:Nat->Prop)(B:Nat)(γ:Gam)(b:Nat):Prop:=(S0 b/\b<B)\/(Nw S0 B b/\¬own γ b)
def y98 (w:World)(S:Nat->Prop)(e:MapEntry)(p:AV×AV):Prop:=Rep w S G0 p.1 e.key/\Rep w S G0 p.2 e.val
def ztl (w:World)(S:Nat->Prop)(g:Nat)(ps:List (AV×AV)):Prop :=
 ∃ es clock,w.heap[g]? = some (.map es clock)/\es.size=ps.length/\Born es clock/\∀ j (h:j<es.toList.length) (h':j<ps.length),y98 w S es.toList[j] ps[j]
variable {w w':World}{S S':Nat->Prop}{ps:List (AV×AV)}
theorem ztl.move {g:Nat}(h:ztl w S g ps)(hz:w.heap.size<=w'.heap.size)(hk:∀ b,S b->b<w.heap.size->w'.heap[b]? = w.heap[b]? /\ S' b)(hg:w'.heap[g]? = w.heap[g]?):ztl w' S' g ps:=by
 obtain ⟨es,clock,h1,h2,hbn,h3⟩:=h
 exact ⟨es,clock,hg.trans h1,h2,hbn,fun j q q'=>⟨(h3 j q q').1.mono hz hk,(h3 j q q').2.mono hz hk⟩⟩
def DisB (o:Option Nat)(vs:Array Value):Prop:=(∀ i j b,zaw (vs.getD i undef)=some b->zaw (vs.getD j undef)=some b->i=j)/\∀ i b,o=some b->zaw (vs.getD i undef)≠some b
def NRep (w:World)(S:Nat->Prop)(B:Nat)(v:Value):NE->Prop
 |.row ty sz xs=>v.oneCell'=true/\∃ vs,w.ownsRow B ty sz v xs.length vs/\(∀ k (hk:k<xs.length),(xs[k]).cells.length=sz) /\
   (∀ k (hk:k<xs.length) j (hj:j<(xs[k]).cells.length),Rep w S G0 ((xs[k]).cells[j]) (vs.getD (k*sz+j) undef))/\∀ u∈vs,u.oneCell'=true
 |.mp ps=>∃ g ps0,v=.map (some g)/\ztl w S g ps0/\y58 ps0 ps
 |.hole=>v=.nilFunc
def zix (es:Array MapEntry)(seen:Array Nat):List MapEntry:=es.toList.filter fun e=>!seen.contains e.born
def RepL (w:World)(S:Nat->Prop)(L:List MapEntry)(ps:List (AV×AV)):Prop:=L.length=ps.length/\∀ j (h:j<L.length) (h':j<ps.length),y98 w S L[j] ps[j]
variable {L:List MapEntry}
theorem RepL.move (h:RepL w S L ps)(hz:w.heap.size<=w'.heap.size)(hk:∀ b,S b->b<w.heap.size->w'.heap[b]? = w.heap[b]? /\ S' b):RepL w' S' L ps :=
 ⟨h.1,fun j q q'=>⟨(h.2 j q q').1.mono hz hk,(h.2 j q q').2.mono hz hk⟩⟩
def RepM (w:World)(S:Nat->Prop)(L:List MapEntry)(ps:List (AV×AV)):Prop:=∃ ps0,ps0.Perm ps/\RepL w S L ps0
theorem RepM.move (h:RepM w S L ps)(hz:w.heap.size<=w'.heap.size)(hk:∀ b,S b->b<w.heap.size->w'.heap[b]? = w.heap[b]? /\ S' b):RepM w' S' L ps:=by
 obtain ⟨ps0,h1,h2⟩:=h
 exact ⟨ps0,h1,h2.move hz hk⟩
def ItIs (w:World)(S:Nat->Prop)(g:Nat)(P:Array MapEntry->Array Nat->Nat->Nat->Prop):Prop :=
 (∃ bm since seen c0 es clock,w.heap[g]? = some (.mapIter (some bm) since seen c0)/\S bm/\bm<w.heap.size/\w.heap[bm]? = some (.map es clock)/\(es.toList.map (·.born)).Nodup/\(∀ e∈es.toList,e.born<since)/\since<=c0/\since<=clock/\P es seen c0 clock) \/
 (∃ a b s,w.heap[g]? = some (.mapIter none a s b)/\P #[] #[] 0 0)
theorem ItIs.move {g:Nat}{P P':Array MapEntry->Array Nat->Nat->Nat->Prop}(h:ItIs w S g P)(hk:∀ b,S b->b<w.heap.size->w'.heap[b]? = w.heap[b]? /\ S' b)(hz:w.heap.size<=w'.heap.size)(hg:w'.heap[g]? = w.heap[g]?)(hP:∀ es s c d,P es s c d->P' es s c d):ItIs w' S' g P':=by
 rcases h with ⟨bm,since,seen,c0,es,clock,h1,h2,h3,h4,h5,h6,h7,h8,h9⟩|⟨a,b,s,h1,h2⟩
 ·obtain ⟨k1,k2⟩:=hk bm h2 h3
  exact Or.inl ⟨bm,since,seen,c0,es,clock,hg.trans h1,k2,Nat.lt_of_lt_of_le h3 hz,k1.trans h4,h5,h6,h7,h8,hP _ _ _ _ h9⟩
 ·exact Or.inr ⟨a,b,s,hg.trans h1,hP _ _ _ _ h2⟩
def ItL (w:World)(S:Nat->Prop)(ps:List (AV×AV))(es:Array MapEntry)(seen:Array Nat)(c0 clock:Nat):Prop:=RepM w S (zix es seen) ps
def ItP (w:World)(S:Nat->Prop)(ps:List (AV×AV))(es:Array MapEntry)(seen:Array Nat)(c0 clock:Nat):Prop:=c0=clock/\∃ (seen0:Array Nat) (e:MapEntry),seen=seen0.push e.born/\e∈zix es seen0/\RepM w S (zix es seen0) ps
def ItC (w:World)(S:Nat->Prop)(p:AV×AV)(ps:List (AV×AV))(es:Array MapEntry)(seen:Array Nat)(c0 clock:Nat):Prop:=c0=clock/\∃ (seen0:Array Nat) (e:MapEntry),seen=seen0.push e.born/\e∈es.toList/\y98 w S e p/\RepM w S (zix es seen) ps
def z8s (w:World)(S:Nat->Prop)(γ:Gam)(B:Nat)(d:Option (Option Nat×Value)):Ent->Prop
 |.box ty cells=>∃ g vs,d=some (some g,.slice none 0 0)/\Blk w g ty vs/\vs.size=cells.length/\(∀ i (hi:i<cells.length),Rep w S γ cells[i] (vs.getD i undef))/\∀ i,i<vs.size->(vs.getD i undef).oneCell'=true
 |.row ty sz xs=>∃ s vs,d=some (s.ownBlock,s)/\s.oneCell'=true/\w.ownsRow B ty sz s xs.length vs/\(∀ k (hk:k<xs.length),(xs[k]).cells.length=sz) /\
   (∀ k (hk:k<xs.length) j (hj:j<(xs[k]).cells.length),Rep w S G0 ((xs[k]).cells[j]) (vs.getD (k*sz+j) undef))/\∀ u∈vs,u.oneCell'=true
 |.mp ps=>∃ g,d=some (some g,.map (some g))/\ztl w S g ps
 |.nest ty es=>∃ s vs,d=some (none,.tuple (#[s]++vs))/\s.oneCell'=true/\vs.size=es.length/\(∃ us,w.ownsRow B ty 1 s es.length us/\(∀ u∈us,u.oneCell'=true)/\∀ k (hk:k<es.length),es[k]≠.hole->us.getD k undef=vs.getD k undef) /\
   (∀ k (hk:k<es.length),NRep w S B (vs.getD k undef) es[k])/\DisB (zaw s) vs
 |.mpn ps=>∃ g es vs,d=some (none,.tuple (#[.map (some g)]++vs))/\w.heap[g]? = some (.map es ps.length)/\es.size=ps.length/\vs.size=ps.length/\(∀ j (h:j<es.toList.length),(es.toList[j]).born=j) /\
   (∀ j (h:j<es.toList.length) (h':j<ps.length),Rep w S G0 (ps[j]).1 (es.toList[j]).key)/\(∀ j (h:j<es.toList.length) (h':j<ps.length),(ps[j]).2≠.hole->(es.toList[j]).val=vs.getD j undef)/\(∀ j (h':j<ps.length),NRep w S B (vs.getD j undef) (ps[j]).2)/\DisB (some g) vs
 |.are ty idx os=>∃ s vs us,d=some (none,.agg (#[s]++vs))/\s.oneCell'=true/\vs.size=os.length/\w.ownsRow B ty 1 s idx.length us/\(∀ u∈us,u.oneCell'=true) /\
   (∀ k (hk:k<idx.length),(idx[k]=none->Rep w S G0 (.mapv []) (us.getD k undef))/\∀ j,idx[k]=some j->j<os.length/\us.getD k undef=vs.getD j undef)/\(∀ j (h:j<os.length),os[j]≠.hole/\NRep w S B (vs.getD j undef) os[j])/\DisB (zaw s) vs
 |.it ps=>∃ g,d=some (some g,.slice none 0 0)/\ItIs w S g (ItL w S ps)
 |.itp ps=>∃ g,d=some (some g,.slice none 0 0)/\ItIs w S g (ItP w S ps)
 |.itc p ps=>∃ g,d=some (some g,.slice none 0 0)/\ItIs w S g (ItC w S p ps)
 |.dead=>d=none
inductive zun where
 |strct (fs:List (Nat×Nat×Option Bool))
 |arr (n e esz:Nat) (eagg:Option Bool)
 |slc (e esz ebytes:Nat)
 |str
 |bool
 |int (k:IntKind)
 |map (k e:Nat)
 |other
structure TyI where
 sz:Nat
 bytes:Nat
 zero:Value
 shape:zun
def aggT (P:Program)(t:TypeId):Option Bool:=match P.underlying t with|some (.struct _)=>some true|some (.array _ _)=>some true|some _=>some false|none=>none
def zhk (P:Program):TypeDesc->zun
 |.struct fs=>.strct (fs.toList.map fun f=>(f.offset,P.cellsOf f.type,aggT P f.type))
 |.array n e=>.arr n e (P.cellsOf e) (aggT P e)
 |.slice e=>.slc e (P.cellsOf e) (P.bytesOf e)
 |.string=>.str
 |.bool=>.bool
 |.int k=>.int k
 |.map k e=>.map k e
 |_=>.other
structure TyOk (P:Program) (T:TypeId) (i:TyI):Prop where
 info:(P.info? T).map (fun x=>(x.size,x.bytes))=some (i.sz,i.bytes)
 zero:(P.info? T).bind (·.zero)=some i.zero
 shape:(P.underlying T).map (zhk P)=some i.shape
def lkT:List (Nat×TyI)->Nat->Option TyI
 |[],_=>none
 |(u,x)::r,t=>match Nat.beq u t with|true=>some x|false=>lkT r t
structure Env where
 P:Program
 tab:List (Nat×TyI)
 ok:∀ T i,lkT tab T=some i->TyOk P T i
 mixed:P.follows .mixedOrders=true
 dr:Bool
 rg:Bool
 yl:Option (Nat×Obj)
 np:Nat
 bl:Bool
structure Cx where
 E:Env
 S0:Nat->Prop
 w0:World
 nt:Nat
 Fr:Nat->Prop
 w1:World
 rd:Option Nat
 pv:Array Value
 hrd:E.rg=true->rd=none
def Cx.call (E:Env)(S:Nat->Prop)(w:World)(nt:Nat):Cx:=⟨E,fun b=>S b/\b<w.heap.size,w,nt,fun _=>False,w,none,#[],fun _=>rfl⟩
abbrev Cx.P (cx:Cx):Program:=cx.E.P
abbrev Cx.F (cx:Cx):Fence:={ Fence.wide with round:=cx.rd }
def yss (B:Nat)(γ:Gam)(w:World)(ds:List Deferred):Prop:=∃ rs:List Nat,ds=rs.map (fun r=>{ target:=.collected r,args:=#[] })/\rs.Nodup/\∀ r∈rs,B<=r/\r<w.heap.size/\¬own γ r/\w.heap[r]? = some (.deferred (some []))
structure Book (cx:Cx) (γ:Gam) (a:Act) (w:World):Prop where
 d0:cx.E.rg=false->a.defers=[]
 marks:yss cx.w0.heap.size γ w a.defers
 pin:∀ t,t<cx.E.np->a.tmps.getD t undef=cx.pv.getD t undef
 yl:∀ l R,cx.E.yl=some (l,R)->cx.w0.heap.size<=l/\l<w.heap.size/\¬own γ l/\w.heap[l]? = some R
 sz:cx.w1.heap.size<=w.heap.size
variable {cx:Cx}
theorem Book.step {γ γ':Gam}{a:Act}(h:Book cx γ a w)(hz:w.heap.size<=w'.heap.size)(hk:∀ b,¬own γ b->b<w.heap.size->w'.heap[b]? = w.heap[b]? /\ ¬own γ' b):Book cx γ' a w':=by
 obtain ⟨rs,h1,h2,h3⟩:=h.marks
 refine ⟨h.d0,⟨rs,h1,h2,fun r hr=>?_⟩,h.pin,fun l R hl=>?_,Nat.le_trans h.sz hz⟩
 ·obtain ⟨q1,q2,q3,q4⟩:=h3 r hr
  obtain ⟨k1,k2⟩:=hk r q3 q2
  exact ⟨q1,Nat.lt_of_lt_of_le q2 hz,k2,k1.trans q4⟩
 ·obtain ⟨q1,q2,q3,q4⟩:=h.yl l R hl
  obtain ⟨k1,k2⟩:=hk l q3 q2
  exact ⟨q1,Nat.lt_of_lt_of_le q2 hz,k2,k1.trans q4⟩
theorem Book.gam {γ γ':Gam}{a:Act}(h:Book cx γ a w)(hk:∀ b,own γ' b->own γ b):Book cx γ' a w :=
 h.step (Nat.le_refl _) (fun b hb _=>⟨rfl,fun h=>hb (hk b h)⟩)
def MeOk (w:World)(S:Nat->Prop)(γ:Gam)(B:Nat)(d:Option (Option (Option Nat×Value))):Option Ent->Prop
 |none=>d=none
 |some e=>∃ x,d=some x/\z8s w S γ B x e
structure StG (cx:Cx) (γ:Gam) (σ:AS) (a:Act) (w:World):Prop where
 tm:∀ t,Rep w (Sg cx.S0 cx.w0.heap.size γ) γ (σ.get t) (a.tmps.getD t undef)
 me:∀ id,MeOk w (Sg cx.S0 cx.w0.heap.size γ) γ cx.w0.heap.size (γ id) (σ.find id)
 inj:∀ id id' b d d',γ id=some d->γ id'=some d'->b∈blks d->b∈blks d'->id=id'
 ge:∀ b,own γ b->Nw cx.S0 cx.w0.heap.size b/\b<w.heap.size
 below:Below cx.w0.heap.size cx.w0 w
 size:a.tmps.size=cx.nt
 defers:Book cx γ a w
 gh:∀ b,cx.S0 b->b<w.heap.size
 fr:∀ b,cx.Fr b->¬own γ b/\b<w.heap.size/\w.heap[b]? = cx.w1.heap[b]?
 dr:cx.E.dr=true->cx.w0.drawn<=w.drawn
def St (cx:Cx)(σ:AS)(a:Act)(w:World):Prop:=∃ γ,StG cx γ σ a w
variable {σ:AS}
theorem St.congr {τ:AS}{a:Act}(h:St cx σ a w)(h1:∀ t,τ.get t=σ.get t)(h2:∀ i,τ.find i=σ.find i):St cx τ a w:=by
 obtain ⟨γ,h⟩:=h
 exact ⟨γ,fun t=>by rw [h1];exact h.tm t,fun i=>by rw [h2];exact h.me i,h.inj,h.ge,h.below,h.size,h.defers,h.gh,h.fr,h.dr⟩
structure Tr where
 val:AV
 ids:List Nat
 wr:List (Nat×Ent)
deriving Inhabited
def zfp (ops:Array Oper)(i:Nat):Option Nat:=(ops[i]?).bind (·.dst)
def zwn (ops:Array Oper)(i:Nat):List Nat:=match ops[i]? with|some o=>o.looksAt ops|none=>[]
def ypk (cx:Cx)(ops:Array Oper)(i:Nat)(σ σ':AS):Prop :=
 ∀ a w Q K,St cx σ a w->(∀ a' w',St cx σ' a' w'->K a' w')->wpOpIn cx.F 0 cx.P ops Q i K a w
def Step (cx:Cx)(ops:Array Oper)(i:Nat)(σ:AS)(tr:Tr):Prop :=
 (∀ id e,lkE tr.wr id=some e->id∈tr.ids) /\
 ∀ τ:AS,(∀ t∈zwn ops i,τ.get t=σ.get t)->(∀ id∈tr.ids,τ.find id=σ.find id)->ypk cx ops i τ (τ.upd (zfp ops i) tr.val tr.wr)
def Ext (σ τ:AS):Prop:=(∀ t,σ.get t=τ.get t)/\∀ i,σ.find i=τ.find i
theorem Ext.refl (σ:AS):Ext σ σ:=⟨fun _=>rfl,fun _=>rfl⟩
theorem Ext.upd {τ:AS}(h:Ext σ τ)(d:Option Nat)(v:AV)(wr:List (Nat×Ent)):Ext (σ.upd d v wr) (τ.upd d v wr) :=
 ⟨fun t=>by rw [AS.get_upd,AS.get_upd,h.1],fun i=>by rw [AS.find_upd,AS.find_upd,h.2]⟩
theorem Ext.trans {a b c:AS}(h:Ext a b)(k:Ext b c):Ext a c:=⟨fun t=>(h.1 t).trans (k.1 t),fun i=>(h.2 i).trans (k.2 i)⟩
inductive Run (cx:Cx) (ops:Array Oper):Nat->AS->List Tr->AS->Prop
 |done {i:Nat} {σ σ':AS} (h:ops.size<=i) (hx:Ext σ' σ):Run cx ops i σ [] σ'
 |step {i:Nat} {σ σ1 σ':AS} {tr:Tr} {trs:List Tr} (h:i<ops.size) (hs:Step cx ops i σ tr) (hx:Ext σ1 (σ.upd (zfp ops i) tr.val tr.wr)) (hr:Run cx ops (i+1) σ1 trs σ'):Run cx ops i σ (tr::trs) σ'
variable {ops:Array Oper}{i:Nat}{trs:List Tr}{Q:Exit->Act->World->Prop}
theorem Run.wpOps {σ':AS}(h:Run cx ops i σ trs σ')(hQ:∀ a w,St cx σ' a w->Q .normal a w)(hi:i<=ops.size) :
  ∀ a w,St cx σ a w->wpOpsIn cx.F 0 cx.P ops Q (range' i (ops.size-i)) a w:=by
 induction h with
 |done h hx =>
  intro a w hs
  rw [show ops.size-_=0 by omega]
  exact hQ a w (hs.congr hx.1 hx.2)
 |@step i σ σ1 σ' tr trs h hstep hx hr ih =>
  intro a w hst
  rw [show ops.size-i=(ops.size-(i+1))+1 by omega,range'_succ,wpOpsIn_cons]
  exact hstep.2 σ (fun _ _=>rfl) (fun _ _=>rfl) a w Q _ hst (fun a' w' hs'=>ih hQ (by omega) a' w' (hs'.congr hx.1 hx.2))
section
variable (dst:Nat->Option Nat) (tr:Nat->Tr)
def zh2 (X:Nat->Bool)(σ:AS):Nat->AS
 |0=>σ
 |k+1=>if X k=true then (zh2 X σ k).upd (dst k) (tr k).val (tr k).wr else zh2 X σ k
variable {dst tr}
theorem zu5 (X:Nat->Bool)(σ:AS)(k t:Nat):(zh2 dst tr X σ (k+1)).get t=if X k=true/\dst k=some t then (tr k).val else (zh2 dst tr X σ k).get t:=by
 unfold zh2
 by_cases h:X k=true
 ·rw [if_pos h,AS.get_upd]
  by_cases h2:dst k=some t
  ·rw [if_pos h2,if_pos ⟨h,h2⟩]
  ·rw [if_neg h2,if_neg (fun h3=>h2 h3.2)];cases k<;>rfl
 ·rw [if_neg h,if_neg (fun h3=>h h3.1)];cases k<;>rfl
theorem zru (X:Nat->Bool)(σ:AS)(k i:Nat):(zh2 dst tr X σ (k+1)).find i=if X k=true then (lkE (tr k).wr i).or ((zh2 dst tr X σ k).find i) else (zh2 dst tr X σ k).find i:=by
 conv=>lhs;unfold zh2
 by_cases h:X k=true
 ·rw [if_pos h,if_pos h,AS.find_upd]
 ·rw [if_neg h,if_neg h]
theorem zys (X Y:Nat->Bool)(σ:AS)(k t:Nat)(h:∀ j,j<k->dst j=some t->X j=Y j):(zh2 dst tr X σ k).get t=(zh2 dst tr Y σ k).get t:=by
 induction k with
 |zero=>rfl
 |succ k ih =>
  rw [zu5,zu5,ih (fun j hj=>h j (by omega))]
  by_cases hd:dst k=some t
  ·rw [h k (by omega) hd]
  ·rw [if_neg (fun h=>hd h.2),if_neg (fun h=>hd h.2)]
theorem zv8 (X:Nat->Bool)(σ:AS)(m k t:Nat)(hm:m<=k)(h:∀ j,m<=j->j<k->dst j=some t->X j=false):(zh2 dst tr X σ k).get t=(zh2 dst tr X σ m).get t:=by
 induction k with
 |zero=>rw [show m=0 by omega]
 |succ k ih =>
  rcases Nat.lt_or_ge k m with h'|h'
  ·rw [show m=k+1 by omega]
  ·rw [zu5,if_neg,ih h' (fun j h1 h2=>h j h1 (by omega))]
   rintro ⟨h1,h2⟩
   rw [h k h' (by omega) h2] at h1
   cases h1
theorem zvb (X Y:Nat->Bool)(σ:AS)(k i:Nat)(h:∀ j,j<k->lkE (tr j).wr i≠none->X j=Y j):(zh2 dst tr X σ k).find i=(zh2 dst tr Y σ k).find i:=by
 induction k with
 |zero=>rfl
 |succ k ih =>
  rw [zru,zru,ih (fun j hj=>h j (by omega))]
  cases hw:lkE (tr k).wr i with
  |none=>simp
  |some e=>rw [h k (by omega) (by simp [hw])]
theorem zta (X:Nat->Bool)(σ:AS)(m k i:Nat)(hm:m<=k)(h:∀ j,m<=j->j<k->lkE (tr j).wr i≠none->X j=false):(zh2 dst tr X σ k).find i=(zh2 dst tr X σ m).find i:=by
 induction k with
 |zero=>rw [show m=0 by omega]
 |succ k ih =>
  rcases Nat.lt_or_ge k m with h'|h'
  ·rw [show m=k+1 by omega]
  ·rw [zru,ih h' (fun j h1 h2=>h j h1 (by omega))]
   cases hw:lkE (tr k).wr i with
   |none=>simp
   |some e=>rw [h k h' (by omega) (by simp [hw])];simp
end
def forced {α:Type}(n:Nat)(k:Nat->α):α:=match n with|0=>k 0|m+1=>k (m+1)
theorem zqg {α:Type}(n:Nat)(k:Nat->α):forced n k=k n:=by cases n<;>rfl
def clo1 (look:Nat->Nat)(o:Oper):Nat:=o.after.toList.foldl (fun s e=>if Region.binds .any e then s ||| (2 ^ e.on ||| look e.on) else s) 0
def cloL:List Oper->List Nat->List Nat
 |[],acc=>acc
 |o::r,acc=>forced (clo1 (fun i=>acc.getD i 0) o) fun v=>cloL r (acc++[v])
theorem clo1_bit (look:Nat->Nat)(l:List Edge)(s i:Nat)(h:(l.foldl (fun s e=>if Region.binds .any e then s ||| (2 ^ e.on ||| look e.on) else s) s).testBit i=true) :
  s.testBit i=true\/∃ e∈l,Region.binds .any e=true/\(e.on=i\/(look e.on).testBit i=true):=by
 induction l generalizing s with
 |nil=>exact Or.inl h
 |cons e r ih =>
  rw [foldl_cons] at h
  rcases ih _ h with h|⟨e',he,h⟩
  ·by_cases hb:Region.binds .any e=true
   ·rw [if_pos hb,Nat.testBit_or,Nat.testBit_or,Nat.testBit_two_pow] at h
    simp only [Bool.or_eq_true,decide_eq_true_eq] at h
    rcases h with h|h|h
    ·exact Or.inl h
    ·exact Or.inr ⟨e,by simp,hb,Or.inl h⟩
    ·exact Or.inr ⟨e,by simp,hb,Or.inr h⟩
   ·rw [if_neg hb] at h;exact Or.inl h
  ·exact Or.inr ⟨e',by simp [he],h⟩
def Down (ops:Array Oper)(X:Nat->Bool):Prop:=∀ j o,ops[j]? = some o->X j=true->∀ e∈o.after,Region.binds .any e=true->X e.on=true
theorem yec {X:Nat->Bool}(hX:Down ops X):∀ (l:List Oper) (acc:List Nat),(∀ m o,l[m]? = some o->ops[acc.length+m]? = some o) ->
  (∀ j i,(acc.getD j 0).testBit i=true->X j=true->X i=true)->∀ j i,((cloL l acc).getD j 0).testBit i=true->X j=true->X i=true
 |[],acc,_,h=>h
 |o::r,acc,hl,h=>by
  unfold cloL
  rw [zqg]
  refine yec hX r _ (fun m o' ho=>?_) (fun j i hb hj=>?_)
  ·have:=hl (m+1) o' (by simpa using ho)
   rw [length_append,length_singleton]
   rw [show acc.length+1+m=acc.length+(m+1) by omega]
   exact this
  ·rcases Nat.lt_trichotomy j acc.length with hlt|heq|hgt
   ·rw [getD_eq_getElem?_getD,getElem?_append_left hlt,<-getD_eq_getElem?_getD] at hb
    exact h j i hb hj
   ·subst heq
    rw [getD_eq_getElem?_getD,getElem?_append_right (Nat.le_refl _)] at hb
    simp only [Nat.sub_self,getElem?_cons_zero,Option.getD_some] at hb
    have ho:=hl 0 o (by simp)
    rw [Nat.add_zero] at ho
    rcases clo1_bit (fun i=>acc.getD i 0) o.after.toList 0 i hb with hb|⟨e,he,hbe,hon⟩
    ·simp at hb
    ·have hXe:=hX _ o ho hj e (by simpa using he) hbe
     rcases hon with hon|hon
     ·rw [<-hon];exact hXe
     ·exact h _ _ hon hXe
   ·rw [getD_eq_getElem?_getD,getElem?_eq_none (by simp;omega)] at hb
    simp at hb
def yg1 (wr:List (Nat×Ent)):List Nat:=wr.map (·.1)
theorem y3j {wr:List (Nat×Ent)}(h:lkE wr i≠none):i∈yg1 wr:=by
 induction wr with
 |nil=>simp [lkE] at h
 |cons x r ih =>
  obtain ⟨u,e⟩:=x
  simp only [lkE] at h
  cases hb:Nat.beq u i with
  |true=>have:=Nat.eq_of_beq_eq_true hb;subst this;simp [yg1]
  |false=>rw [hb] at h;have:=ih h;simp [yg1] at this ⊢;exact Or.inr this
def memB (n:Nat):List Nat->Bool
 |[]=>false
 |x::r=>match Nat.beq x n with|true=>true|false=>memB n r
theorem zet (n:Nat)(l:List Nat):memB n l=true ↔ n∈l:=by
 induction l with
 |nil=>simp [memB]
 |cons x r ih =>
  simp only [memB,mem_cons]
  cases h:Nat.beq x n with
  |true=>have:=Nat.eq_of_beq_eq_true h;simp [this]
  |false=>have:=Nat.ne_of_beq_eq_false h;simp [ih];omega
def memO (d:Option Nat)(l:List Nat):Bool:=match d with|some d=>memB d l|none=>false
def meet (l m:List Nat):Bool:=l.any fun x=>memB x m
theorem y3f (l m:List Nat):meet l m=true ↔ ∃ x,x∈l/\x∈m:=by simp [meet,zet]
def ypz (a b:Option Nat):Bool:=match a,b with|some a,some b=>Nat.beq a b|_,_=>false
def zwq (ops:Array Oper)(tr:Nat->Tr)(i j:Nat):Bool :=
 memO (zfp ops i) (zwn ops j) || memO (zfp ops j) (zwn ops i) || ypz (zfp ops i) (zfp ops j) || meet (yg1 (tr i).wr) (tr j).ids || meet (yg1 (tr j).wr) (tr i).ids
def yfp (ops:Array Oper)(trs:List Tr):Bool :=
 let cl:=cloL ops.toList []
 (range ops.size).all fun j=>(range j).all fun i=>!zwq ops (fun k=>trs.getD k default) i j || (cl.getD j 0).testBit i
def zve (ops:Array Oper):Bool:=(range ops.size).all fun j=>match ops[j]? with|some o=>o.after.all fun e=>!Region.binds .any e || Nat.blt e.on j|none=>true
theorem Run.length {σ':AS}(h:Run cx ops i σ trs σ')(hi:i<=ops.size):trs.length=ops.size-i:=by
 induction h with
 |done h hx=>simp;omega
 |step h hs hx hr ih=>have:=ih (by omega);simp;omega
theorem Step.ext {τ:AS}{tr:Tr}(h:Step cx ops i σ tr)(hx:Ext τ σ):Step cx ops i τ tr :=
 ⟨h.1,fun ρ h1 h2=>h.2 ρ (fun t ht=>(h1 t ht).trans (hx.1 t)) (fun id hid=>(h2 id hid).trans (hx.2 id))⟩
theorem Run.steps {σ0:AS}{tr:Nat->Tr}{σ':AS}(h:Run cx ops i σ trs σ')(hi:i<=ops.size)(htr:∀ j,j<trs.length->tr (i+j)=trs.getD j default)
  (hσ:Ext σ (zh2 (zfp ops) tr (fun _=>true) σ0 i)):(∀ j,i<=j->j<ops.size->Step cx ops j (zh2 (zfp ops) tr (fun _=>true) σ0 j) (tr j))/\Ext σ' (zh2 (zfp ops) tr (fun _=>true) σ0 ops.size):=by
 induction h with
 |@done i σ σ' h hx=>exact ⟨fun j h1 h2=>by omega,by rw [show ops.size=i by omega];exact hx.trans hσ⟩
 |@step i σ σ1 σ' tr1 trs h hs hx hr ih =>
  have e0:tr i=tr1:=by have:=htr 0 (by simp);simpa using this
  have hσ':Ext σ1 (zh2 (zfp ops) tr (fun _=>true) σ0 (i+1)):=by
   refine hx.trans ?_
   unfold zh2
   rw [if_pos rfl,e0]
   exact hσ.upd _ _ _
  obtain ⟨h1,h2⟩:=ih (by omega) (fun j hj=>by have:=htr (j+1) (by simp;omega);rw [show i+1+j=i+(j+1) by omega,this];simp) hσ'
  refine ⟨fun j hj1 hj2=>?_,h2⟩
  rcases Nat.eq_or_lt_of_le hj1 with rfl|hlt
  ·rw [e0];exact hs.ext ⟨fun t=>(hσ.1 t).symm,fun i=>(hσ.2 i).symm⟩
  ·exact h1 j hlt hj2
theorem yk8 {σ0:AS}{tr:Nat->Tr}
  (hstep:∀ j,j<ops.size->Step cx ops j (zh2 (zfp ops) tr (fun _=>true) σ0 j) (tr j))
  (hcf:∀ i j,i<j->j<ops.size->zwq ops tr i j=true->((cloL ops.toList []).getD j 0).testBit i=true)
  (hed:∀ j o,ops[j]? = some o->∀ e∈o.after,Region.binds .any e=true->e.on<j)
  (hQ:∀ a w,St cx (zh2 (zfp ops) tr (fun _=>true) σ0 ops.size) a w->Q .normal a w) :
  ∀ (fuel:Nat) (L:Array Bool),L.size=ops.size->(L.toList.filter (! ·)).length=fuel->Down ops (fun i=>L.getD i false)->∀ a w,St cx (zh2 (zfp ops) tr (fun i=>L.getD i false) σ0 ops.size) a w ->
   wpAnyIn cx.F 0 cx.P .any ops Q fuel L a w:=by
 intro fuel
 have hlast:∀ (L:Array Bool),L.size=ops.size->Down ops (fun i=>L.getD i false)->Region.ready .any ops L=[]->∀ j,j<ops.size->L.getD j false=true:=by
  intro L hL hdown hnil j
  induction j using Nat.strongRecOn with
  |_ j ih =>
   intro hj
   cases hLj:L.getD j false with
   |true=>rfl
   |false =>
    have hm:j∈Region.ready .any ops L:=mem_ready.2 ⟨by
     have:j<L.size:=by omega
     simp only [Array.getD,this,dif_pos] at hLj ⊢
     exact hLj,ops[j],Array.getElem?_eq_getElem hj,fun e he hb=>by
      have hlt:=hed j ops[j] (Array.getElem?_eq_getElem hj) e he hb
      exact ih e.on hlt (by omega)⟩
    rw [hnil] at hm
    cases hm
 have hend:∀ (L:Array Bool),L.size=ops.size->Down ops (fun i=>L.getD i false)->Region.ready .any ops L=[]->∀ a w,St cx (zh2 (zfp ops) tr (fun i=>L.getD i false) σ0 ops.size) a w->Q .normal a w:=by
  intro L hL hdown hnil a w hst
  have hall:=hlast L hL hdown hnil
  exact hQ a w (hst.congr (fun t=>zys _ _ _ _ _ (fun j hj _=>(hall j hj).symm)) (fun i=>zvb _ _ _ _ _ (fun j hj _=>(hall j hj).symm)))
 induction fuel with
 |zero =>
  intro L hL hcount hdown a w hst
  have hnil:Region.ready .any ops L=[]:=by
   cases hr:Region.ready .any ops L with
   |nil=>rfl
   |cons i r =>
    have hm:i∈Region.ready .any ops L:=by rw [hr];simp
    obtain ⟨h0,o,ho,_⟩:=mem_ready.1 hm
    have hi:i<L.size:=by rw [hL];exact (Array.getElem?_eq_some_iff.1 ho).1
    have h0':L[i]=false:=by simpa [Array.getD,hi] using h0
    have:L[i]∈L.toList.filter (! ·):=mem_filter.2 ⟨by simp,by rw [h0'];rfl⟩
    rw [length_eq_zero_iff.1 hcount] at this
    cases this
  exact ⟨hnil,hend L hL hdown hnil a w hst⟩
 |succ fuel ih =>
  intro L hL hcount hdown a w hst
  refine ⟨fun hnil=>hend L hL hdown hnil a w hst,fun i hi=>?_⟩
  obtain ⟨h0,o,ho,hdeps⟩:=mem_ready.1 hi
  have hin:i<ops.size:=(Array.getElem?_eq_some_iff.1 ho).1
  have hiL:i<L.size:=by omega
  have hLi:L.getD i false=false:=by simp only [Array.getD,hiL,dif_pos] at h0 ⊢;exact h0
  generalize hX:(fun i=>L.getD i false)=X at *
  have hXi:X i=false:=by rw [<-hX];exact hLi
  have hXX:∀ j,L.getD j false=X j:=fun j=>by rw [<-hX]
  let X':Nat->Bool:=fun j=>(L.setIfInBounds i true).getD j false
  have hX'i:X' i=true:=by show (L.setIfInBounds i true).getD i false=true;simp [hiL]
  have hX'n:∀ j,j≠i->X' j=X j:=fun j hj=>by
   show (L.setIfInBounds i true).getD j false=X j
   rw [getD_set_ne false (Ne.symm hj)];exact hXX j
  have hdown':Down ops X':=fun j oj hoj hj e he hb=>by
   by_cases hji:j=i
   ·subst hji
    rw [ho] at hoj
    injection hoj with hoj
    subst hoj
    have h1:=hdeps e he hb
    by_cases hei:e.on=j
    ·rw [hei];exact hX'i
    ·rw [hX'n _ hei,<-hXX];exact h1
   ·rw [hX'n j hji] at hj
    have h1:=hdown j oj hoj hj e he hb
    by_cases hei:e.on=i
    ·rw [hei];exact hX'i
    ·rw [hX'n _ hei];exact h1
  have bit:∀ Y:Nat->Bool,Down ops Y->∀ j k,((cloL ops.toList []).getD j 0).testBit k=true->Y j=true->Y k=true:=fun Y hY =>
   yec hY ops.toList [] (fun m o h=>by simpa using h) (fun j k h=>by simp at h)
  -- those later than i that zwq with it have not run;those earlier that zwq have
  have later:∀ j,i<j->j<ops.size->zwq ops tr i j=true->X j=false:=fun j h1 h2 hc=>by
   cases hj:X j with
   |false=>rfl
   |true=>have:=bit X hdown j i (hcf i j h1 h2 hc) hj;rw [hXi] at this;cases this
  have earlier:∀ j,j<i->zwq ops tr j i=true->X j=true:=fun j h1 hc=>by
   have:=bit X' hdown' i j (hcf j i h1 hin hc) hX'i
   rwa [hX'n j (by omega)] at this
  have agree1:∀ t∈zwn ops i,(zh2 (zfp ops) tr X σ0 ops.size).get t=(zh2 (zfp ops) tr (fun _=>true) σ0 i).get t:=fun t ht=>by
   rw [zv8 X σ0 i ops.size t (by omega) (fun j h1 h2 hd=>by
    rcases Nat.eq_or_lt_of_le h1 with rfl|hlt
    ·exact hXi
    ·exact later j hlt h2 (by simp only [zwq,Bool.or_eq_true];refine Or.inl (Or.inl (Or.inl (Or.inr ?_)));rw [hd];exact (zet _ _).2 ht))]
   exact zys _ _ _ _ _ (fun j hj hd=>earlier j hj (by simp only [zwq,Bool.or_eq_true];refine Or.inl (Or.inl (Or.inl (Or.inl ?_)));rw [hd];exact (zet _ _).2 ht))
  have agree2:∀ id∈(tr i).ids,(zh2 (zfp ops) tr X σ0 ops.size).find id=(zh2 (zfp ops) tr (fun _=>true) σ0 i).find id:=fun id hid=>by
   rw [zta X σ0 i ops.size id (by omega) (fun j h1 h2 hd=>by
    rcases Nat.eq_or_lt_of_le h1 with rfl|hlt
    ·exact hXi
    ·exact later j hlt h2 (by simp only [zwq,Bool.or_eq_true];exact Or.inr ((y3f _ _).2 ⟨id,y3j hd,hid⟩)))]
   exact zvb _ _ _ _ _ (fun j hj hd=>earlier j hj (by simp only [zwq,Bool.or_eq_true];exact Or.inl (Or.inr ((y3f _ _).2 ⟨id,y3j hd,hid⟩))))
  refine (hstep i hin).2 _ agree1 agree2 a w Q _ hst (fun a' w' hst'=>?_)
  have hstepi:=(hstep i hin).1
  refine ih (L.setIfInBounds i true) (by simp [hL]) ?_ hdown' a' w' (hst'.congr (fun t=>?_) (fun id=>?_))
  ·have hsplit:L.toList=L.toList.take i++false::L.toList.drop (i+1):=by
    have hLi':L.toList[i]'(by simpa using hiL)=false:=by simpa [Array.getD,hiL] using hLi
    rw [<-hLi',getElem_cons_drop,take_append_drop]
   have hset:(L.setIfInBounds i true).toList=L.toList.take i++true::L.toList.drop (i+1):=by
    rw [Array.toList_setIfInBounds,set_eq_take_append_cons_drop,if_pos (by simpa using hiL)]
   rw [hset]
   rw [hsplit] at hcount
   simp only [filter_append,length_append,filter_cons,Bool.not_false,if_true,length_cons,Bool.not_true,Bool.false_eq_true,if_false] at hcount ⊢
   omega
  ·rw [AS.get_upd]
   by_cases hd:zfp ops i=some t
   ·rw [if_pos hd,zv8 X' σ0 (i+1) ops.size t (by omega) (fun j h1 h2 hdj=>by
     rw [hX'n j (by omega)]
     exact later j (by omega) h2 (by simp only [zwq,Bool.or_eq_true];refine Or.inl (Or.inl (Or.inr ?_));rw [hd,hdj];simp [ypz])),zu5,if_pos ⟨hX'i,hd⟩]
   ·rw [if_neg hd]
    exact zys _ _ _ _ _ (fun j hj hdj=>hX'n j (fun e=>hd (e▸hdj)))
  ·rw [AS.find_upd]
   cases hw:lkE (tr i).wr id with
   |some e =>
    rw [zta X' σ0 (i+1) ops.size id (by omega) (fun j h1 h2 hdj=>by
     rw [hX'n j (by omega)]
     exact later j (by omega) h2 (by simp only [zwq,Bool.or_eq_true];exact Or.inr ((y3f _ _).2 ⟨id,y3j hdj,hstepi id e hw⟩))),zru,if_pos hX'i,hw]
    rfl
   |none =>
    rw [Option.none_or]
    exact zvb _ _ _ _ _ (fun j hj hdj=>hX'n j (fun e=>hdj (e▸hw)))
end Go.Proofs.YtidhlpjgifoneaaGreat
