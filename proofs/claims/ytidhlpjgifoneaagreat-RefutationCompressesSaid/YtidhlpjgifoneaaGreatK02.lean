/- The abstract walk, second part. -/
import Derived.Test.YtidhlpjgifoneaaGreatK01
import Derived.Orders
import Derived.OrdersIn
import Derived.OwnWalkIn
import Derived.RangeFuncLeaves
import Derived.RangeFuncCalls
import Derived.RangeFuncSeq
set_option linter.unusedVariables false
set_option linter.unusedSimpArgs false
namespace Go.Proofs.YtidhlpjgifoneaaGreat
open Go.RowKit List
open Bool renaming or_eq_true->aA
open List renaming getD_eq_getElem?_getD->aB
open Or renaming inl->aC,inr->aK
open Nat renaming eq_of_beq_eq_true->aD,beq->aE,lt_of_lt_of_le->aF,eq_or_lt_of_le->aG,testBit_or->aM,lt_or_ge->aN
open _root_.Array renaming getElem?_eq_some_iff->aH,getElem?_eq_getElem->aJ,getD->aL
inductive NE where
 |row (ty sz:Nat) (xs:List AV)
 |mp (ps:List (AV×AV))
 |hole
deriving Inhabited
inductive Ent where
 |box (ty:TypeId) (cells:List AV)
 |row (ty:TypeId) (sz:Nat) (xs:List AV)
 |mp (ps:List (AV×AV))
 |nest (ty:TypeId) (es:List NE)
 |mpn (ps:List (AV×NE))
 |are (ty:TypeId) (idx:List (Option Nat)) (os:List NE)
 |it (ps:List (AV×AV))
 |itp (ps:List (AV×AV))
 |itc (p:AV×AV) (ps:List (AV×AV))
 |dead
deriving Inhabited
structure AS where
 tm:List (Nat×AV)
 me:List (Nat×Ent)
deriving Inhabited
def lkV:List (Nat×AV)->Nat->AV
 |[],_=>.any
 |(u,x)::r,t=>match aE u t with|true=>x|false=>lkV r t
def lkE:List (Nat×Ent)->Nat->Option Ent
 |[],_=>none
 |(u,x)::r,t=>match aE u t with|true=>some x|false=>lkE r t
def AS.get (σ:AS)(t:Nat):AV:=lkV σ.tm t
def AS.find (σ:AS)(i:Nat):Option Ent:=lkE σ.me i
def putD (d:Option Nat)(v:AV)(l:List (Nat×AV)):List (Nat×AV):=match d with|some d=>(d,v)::l|none=>l
def AS.upd (σ:AS)(dst:Option Nat)(v:AV)(wr:List (Nat×Ent)):AS:=⟨putD dst v σ.tm,wr++σ.me⟩
theorem AS.get_upd (σ:AS)(dst:Option Nat)(v:AV)(wr:List (Nat×Ent))(t:Nat):(σ.upd dst v wr).get t=if dst=some t then v else σ.get t:=by
 cases dst with
 |none=>simp [AS.upd,AS.get,putD]
 |some d =>
  simp only [AS.upd,AS.get,putD,lkV,Option.some.injEq];by_cases h:d=t
  ·subst h;simp
  ·rw [if_neg h];have:aE d t=false:=by
    cases a:aE d t with
    |false=>rfl
    |true=>exact absurd (aD a) h
   rw [this]
theorem zhj (l m:List (Nat×Ent))(i:Nat):lkE (l++m) i=(lkE l i).or (lkE m i):=by
 induction l with
 |nil=>simp [lkE]
 |cons x r a =>
  obtain ⟨u,e⟩:=x;simp only [cons_append,lkE];cases h:aE u i<;>simp [a]
theorem AS.find_upd (σ:AS)(dst:Option Nat)(v:AV)(wr:List (Nat×Ent))(i:Nat):(σ.upd dst v wr).find i=(lkE wr i).or (σ.find i):=zhj _ _ _
def B3:Value->Option Nat |.slice (some a) _ _=>some a.block |.map (some g)=>some g |_=>none
def Cs:Value->List Nat |.tuple vs=>vs.toList.filterMap B3 |.agg vs=>vs.toList.filterMap B3 |_=>[]
def blks:Option (Option Nat×Value)->List Nat |none=>[] |some (o,s)=>o.toList++Cs s
variable {b:Nat}{s:Value}
theorem C1:b∈blks (some (some b,s)):=by simp [blks]
def own (γ:Gam)(b:Nat):Prop:=∃ id d,γ id=some d/\b∈blks d
theorem own.mk {γ:Gam}{id:Nat}(h:γ id=some (some (some b,s))):own γ b:=⟨id,_,h,C1⟩
theorem Od {g:Nat}(a:Cs s=[])(h:b∈blks (some (some g,s))):b=g:=by simpa [blks,a] using h
theorem T3 (a:Cs s=[])(h:b∈blks (some (none,s))):False:=by simp [blks,a] at h
theorem Fe (a:Cs s=[])(h:b∈blks (some (s.ownBlock,s))):s.ownBlock=some b:=by
 cases c:s.ownBlock with
 |none=>rw [c] at h;exact (T3 a h).elim
 |some g=>rw [c] at h;rw [Od a h]
theorem Fd (h:s.oneCell'=true):Cs s=[]:=by cases s<;>first|rfl|simp [Value.oneCell'] at h
def Nw (S0:Nat->Prop)(B b:Nat):Prop:=B<=b/\¬S0 b
def Sg (S0:Nat->Prop)(B:Nat)(γ:Gam)(b:Nat):Prop:=(S0 b/\b<B)\/(Nw S0 B b/\¬own γ b)
def K5 (w:World)(S:Nat->Prop)(e:MapEntry)(p:AV×AV):Prop:=Rep w S G0 p.1 e.key/\Rep w S G0 p.2 e.val
def Dq (w:World)(S:Nat->Prop)(g:Nat)(ps:List (AV×AV)):Prop:=∃ es clock,w.heap[g]? = some (.map es clock)/\es.size=ps.length/\Born es clock/\∀ j (h:j<es.toList.length) (a:j<ps.length),K5 w S es.toList[j] ps[j]
variable {w w':World}{S S':Nat->Prop}{ps:List (AV×AV)}
theorem Dq.move {g:Nat}(h:Dq w S g ps)(d:w.heap.size<=w'.heap.size)(e:∀ b,S b->b<w.heap.size->w'.heap[b]? = w.heap[b]? /\ S' b)(k:w'.heap[g]? = w.heap[g]?):Dq w' S' g ps:=by
 obtain ⟨es,clock,h1,l,a,f⟩:=h;exact ⟨es,clock,k.trans h1,l,a,fun j q c=>⟨(f j q c).1.mono d e,(f j q c).2.mono d e⟩⟩
def DisB (o:Option Nat)(vs:Array Value):Prop:=(∀ i j b,B3 (vs.getD i undef)=some b->B3 (vs.getD j undef)=some b->i=j)/\∀ i b,o=some b->B3 (vs.getD i undef)≠some b
def NRep (w:World)(S:Nat->Prop)(B:Nat)(v:Value):NE->Prop |.row ty sz xs=>v.oneCell'=true/\∃ vs,w.ownsRow B ty sz v xs.length vs/\(∀ k (c:k<xs.length),(xs[k]).cells.length=sz) /\ (∀ k (c:k<xs.length) j (d:j<(xs[k]).cells.length),Rep w S G0 ((xs[k]).cells[j]) (vs.getD (k*sz+j) undef))/\∀ u∈vs,u.oneCell'=true |.mp ps=>∃ g a,v=.map (some g)/\Dq w S g a/\Hv a ps |.hole=>v=.nilFunc
def Ck (es:Array MapEntry)(a:Array Nat):List MapEntry:=es.toList.filter fun e=>!a.contains e.born
def RepL (w:World)(S:Nat->Prop)(L:List MapEntry)(ps:List (AV×AV)):Prop:=L.length=ps.length/\∀ j (h:j<L.length) (a:j<ps.length),K5 w S L[j] ps[j]
variable {L:List MapEntry}
theorem RepL.move (h:RepL w S L ps)(c:w.heap.size<=w'.heap.size)(d:∀ b,S b->b<w.heap.size->w'.heap[b]? = w.heap[b]? /\ S' b):RepL w' S' L ps :=
 ⟨h.1,fun j q a=>⟨(h.2 j q a).1.mono c d,(h.2 j q a).2.mono c d⟩⟩
def RepM (w:World)(S:Nat->Prop)(L:List MapEntry)(ps:List (AV×AV)):Prop:=∃ a,a.Perm ps/\RepL w S L a
theorem RepM.move (h:RepM w S L ps)(c:w.heap.size<=w'.heap.size)(d:∀ b,S b->b<w.heap.size->w'.heap[b]? = w.heap[b]? /\ S' b):RepM w' S' L ps:=by
 obtain ⟨a,h1,e⟩:=h;exact ⟨a,h1,e.move c d⟩
def ItIs (w:World)(S:Nat->Prop)(g:Nat)(P:Array MapEntry->Array Nat->Nat->Nat->Prop):Prop :=
 (∃ bm since c d es clock,w.heap[g]? = some (.mapIter (some bm) since c d)/\S bm/\bm<w.heap.size/\w.heap[bm]? = some (.map es clock)/\(es.toList.map (·.born)).Nodup/\(∀ e∈es.toList,e.born<since)/\since<=d/\since<=clock/\P es c d clock) \/
 (∃ a b s,w.heap[g]? = some (.mapIter none a s b)/\P #[] #[] 0 0)
theorem ItIs.move {g:Nat}{P P':Array MapEntry->Array Nat->Nat->Nat->Prop}(h:ItIs w S g P)(p:∀ b,S b->b<w.heap.size->w'.heap[b]? = w.heap[b]? /\ S' b)(o:w.heap.size<=w'.heap.size)(j:w'.heap[g]? = w.heap[g]?)(k:∀ es s c d,P es s c d->P' es s c d):ItIs w' S' g P':=by
 rcases h with ⟨bm,since,e,y,es,clock,h1,f,l,x,v,u,t,r,q⟩|⟨a,b,s,h1,f⟩
 ·obtain ⟨n,m⟩:=p bm f l;exact aC ⟨bm,since,e,y,es,clock,j.trans h1,m,aF l o,n.trans x,v,u,t,r,k _ _ _ _ q⟩
 ·exact aK ⟨a,b,s,j.trans h1,k _ _ _ _ f⟩
def ItL (w:World)(S:Nat->Prop)(ps:List (AV×AV))(es:Array MapEntry)(a:Array Nat)(c clock:Nat):Prop:=RepM w S (Ck es a) ps
def ItP (w:World)(S:Nat->Prop)(ps:List (AV×AV))(es:Array MapEntry)(a:Array Nat)(c clock:Nat):Prop:=c=clock/\∃ (seen0:Array Nat) (e:MapEntry),a=seen0.push e.born/\e∈Ck es seen0/\RepM w S (Ck es seen0) ps
def ItC (w:World)(S:Nat->Prop)(p:AV×AV)(ps:List (AV×AV))(es:Array MapEntry)(a:Array Nat)(c clock:Nat):Prop:=c=clock/\∃ (seen0:Array Nat) (e:MapEntry),a=seen0.push e.born/\e∈es.toList/\K5 w S e p/\RepM w S (Ck es a) ps
def Bq (w:World)(S:Nat->Prop)(γ:Gam)(B:Nat)(d:Option (Option Nat×Value)):Ent->Prop |.box ty cells=>∃ g vs,d=some (some g,.slice none 0 0)/\Blk w g ty vs/\vs.size=cells.length/\(∀ i (hi:i<cells.length),Rep w S γ cells[i] (vs.getD i undef))/\∀ i,i<vs.size->(vs.getD i undef).oneCell'=true |.row ty sz xs=>∃ s vs,d=some (s.ownBlock,s)/\s.oneCell'=true/\w.ownsRow B ty sz s xs.length vs/\(∀ k (c:k<xs.length),(xs[k]).cells.length=sz) /\ (∀ k (c:k<xs.length) j (f:j<(xs[k]).cells.length),Rep w S G0 ((xs[k]).cells[j]) (vs.getD (k*sz+j) undef))/\∀ u∈vs,u.oneCell'=true |.mp ps=>∃ g,d=some (some g,.map (some g))/\Dq w S g ps |.nest ty es=>∃ s vs,d=some (none,.tuple (#[s]++vs))/\s.oneCell'=true/\vs.size=es.length/\(∃ us,w.ownsRow B ty 1 s es.length us/\(∀ u∈us,u.oneCell'=true)/\∀ k (c:k<es.length),es[k]≠.hole->us.getD k undef=vs.getD k undef) /\ (∀ k (c:k<es.length),NRep w S B (vs.getD k undef) es[k])/\DisB (B3 s) vs |.mpn ps=>∃ g es vs,d=some (none,.tuple (#[.map (some g)]++vs))/\w.heap[g]? = some (.map es ps.length)/\es.size=ps.length/\vs.size=ps.length/\(∀ j (h:j<es.toList.length),(es.toList[j]).born=j) /\ (∀ j (h:j<es.toList.length) (e:j<ps.length),Rep w S G0 (ps[j]).1 (es.toList[j]).key)/\(∀ j (h:j<es.toList.length) (e:j<ps.length),(ps[j]).2≠.hole->(es.toList[j]).val=vs.getD j undef)/\(∀ j (e:j<ps.length),NRep w S B (vs.getD j undef) (ps[j]).2)/\DisB (some g) vs |.are ty idx a=>∃ s vs us,d=some (none,.agg (#[s]++vs))/\s.oneCell'=true/\vs.size=a.length/\w.ownsRow B ty 1 s idx.length us/\(∀ u∈us,u.oneCell'=true) /\ (∀ k (c:k<idx.length),(idx[k]=none->Rep w S G0 (.mapv []) (us.getD k undef))/\∀ j,idx[k]=some j->j<a.length/\us.getD k undef=vs.getD j undef)/\(∀ j (h:j<a.length),a[j]≠.hole/\NRep w S B (vs.getD j undef) a[j])/\DisB (B3 s) vs |.it ps=>∃ g,d=some (some g,.slice none 0 0)/\ItIs w S g (ItL w S ps) |.itp ps=>∃ g,d=some (some g,.slice none 0 0)/\ItIs w S g (ItP w S ps) |.itc p ps=>∃ g,d=some (some g,.slice none 0 0)/\ItIs w S g (ItC w S p ps) |.dead=>d=none
inductive E2 where
 |strct (fs:List (Nat×Nat×Option Bool))
 |arr (n e esz:Nat) (eagg:Option Bool)
 |slc (e esz ebytes:Nat)
 |str
 |bool
 |int (k:IntKind)
 |map (k e:Nat)
 |other
structure TyI where
 sz:Nat
 bytes:Nat
 zero:Value
 shape:E2
def aggT (P:Program)(t:TypeId):Option Bool:=match P.underlying t with|some (.struct _)=>some true|some (.array _ _)=>some true|some _=>some false|none=>none
def Dx (P:Program):TypeDesc->E2 |.struct fs=>.strct (fs.toList.map fun f=>(f.offset,P.cellsOf f.type,aggT P f.type)) |.array n e=>.arr n e (P.cellsOf e) (aggT P e) |.slice e=>.slc e (P.cellsOf e) (P.bytesOf e) |.string=>.str |.bool=>.bool |.int k=>.int k |.map k e=>.map k e |_=>.other
structure TyOk (P:Program) (T:TypeId) (i:TyI):Prop where
 info:(P.info? T).map (fun x=>(x.size,x.bytes))=some (i.sz,i.bytes)
 zero:(P.info? T).bind (·.zero)=some i.zero
 shape:(P.underlying T).map (Dx P)=some i.shape
def lkT:List (Nat×TyI)->Nat->Option TyI
 |[],_=>none
 |(u,x)::r,t=>match aE u t with|true=>some x|false=>lkT r t
structure Env where
 P:Program
 tab:List (Nat×TyI)
 ok:∀ T i,lkT tab T=some i->TyOk P T i
 mixed:P.follows .mixedOrders=true
 dr:Bool
 rg:Bool
 yl:Option (Nat×Obj)
 np:Nat
 bl:Bool
structure Cx where
 E:Env
 S0:Nat->Prop
 w0:World
 nt:Nat
 Fr:Nat->Prop
 w1:World
 rd:Option Nat
 pv:Array Value
 hrd:E.rg=true->rd=none
def Cx.call (E:Env)(S:Nat->Prop)(w:World)(nt:Nat):Cx:=⟨E,fun b=>S b/\b<w.heap.size,w,nt,fun _=>False,w,none,#[],fun _=>rfl⟩
abbrev Cx.P (cx:Cx):Program:=cx.E.P
abbrev Cx.F (cx:Cx):Fence:={ Fence.wide with round:=cx.rd }
def y93 (B:Nat)(γ:Gam)(w:World)(ds:List Deferred):Prop:=∃ a:List Nat,ds=a.map (fun r=>{ target:=.collected r,args:=#[] })/\a.Nodup/\∀ r∈a,B<=r/\r<w.heap.size/\¬own γ r/\w.heap[r]? = some (.deferred (some []))
structure Book (cx:Cx) (γ:Gam) (a:Act) (w:World):Prop where
 d0:cx.E.rg=false->a.defers=[]
 marks:y93 cx.w0.heap.size γ w a.defers
 pin:∀ t,t<cx.E.np->a.tmps.getD t undef=cx.pv.getD t undef
 yl:∀ l R,cx.E.yl=some (l,R)->cx.w0.heap.size<=l/\l<w.heap.size/\¬own γ l/\w.heap[l]? = some R
 sz:cx.w1.heap.size<=w.heap.size
variable {cx:Cx}
theorem Book.step {γ γ':Gam}{a:Act}(h:Book cx γ a w)(k:w.heap.size<=w'.heap.size)(m:∀ b,¬own γ b->b<w.heap.size->w'.heap[b]? = w.heap[b]? /\ ¬own γ' b):Book cx γ' a w':=by
 obtain ⟨n,h1,t,q⟩:=h.marks;refine ⟨h.d0,⟨n,h1,t,fun r o=>?_⟩,h.pin,fun l R p=>?_,Nat.le_trans h.sz k⟩
 ·obtain ⟨f,c,e,d⟩:=q r o;obtain ⟨j,g⟩:=m r e c;exact ⟨f,aF c k,g,j.trans d⟩
 ·obtain ⟨f,c,e,d⟩:=h.yl l R p;obtain ⟨j,g⟩:=m l e c;exact ⟨f,aF c k,g,j.trans d⟩
theorem Book.gam {γ γ':Gam}{a:Act}(h:Book cx γ a w)(c:∀ b,own γ' b->own γ b):Book cx γ' a w :=
 h.step (Nat.le_refl _) (fun b d _=>⟨rfl,fun h=>d (c b h)⟩)
def MeOk (w:World)(S:Nat->Prop)(γ:Gam)(B:Nat)(d:Option (Option (Option Nat×Value))):Option Ent->Prop |none=>d=none |some e=>∃ x,d=some x/\Bq w S γ B x e
structure StG (cx:Cx) (γ:Gam) (σ:AS) (a:Act) (w:World):Prop where
 tm:∀ t,Rep w (Sg cx.S0 cx.w0.heap.size γ) γ (σ.get t) (a.tmps.getD t undef)
 me:∀ id,MeOk w (Sg cx.S0 cx.w0.heap.size γ) γ cx.w0.heap.size (γ id) (σ.find id)
 inj:∀ id id' b d d',γ id=some d->γ id'=some d'->b∈blks d->b∈blks d'->id=id'
 ge:∀ b,own γ b->Nw cx.S0 cx.w0.heap.size b/\b<w.heap.size
 below:Below cx.w0.heap.size cx.w0 w
 size:a.tmps.size=cx.nt
 defers:Book cx γ a w
 gh:∀ b,cx.S0 b->b<w.heap.size
 fr:∀ b,cx.Fr b->¬own γ b/\b<w.heap.size/\w.heap[b]? = cx.w1.heap[b]?
 dr:cx.E.dr=true->cx.w0.drawn<=w.drawn
def St (cx:Cx)(σ:AS)(a:Act)(w:World):Prop:=∃ γ,StG cx γ σ a w
variable {σ:AS}
theorem St.congr {τ:AS}{a:Act}(h:St cx σ a w)(h1:∀ t,τ.get t=σ.get t)(c:∀ i,τ.find i=σ.find i):St cx τ a w:=by
 obtain ⟨γ,h⟩:=h;exact ⟨γ,fun t=>by rw [h1];exact h.tm t,fun i=>by rw [c];exact h.me i,h.inj,h.ge,h.below,h.size,h.defers,h.gh,h.fr,h.dr⟩
structure Tr where
 val:AV
 ids:List Nat
 wr:List (Nat×Ent)
deriving Inhabited
def Bw (ops:Array Oper)(i:Nat):Option Nat:=(ops[i]?).bind (·.dst)
def Eu (ops:Array Oper)(i:Nat):List Nat:=match ops[i]? with|some o=>o.looksAt ops|none=>[]
def y5r (cx:Cx)(ops:Array Oper)(i:Nat)(σ c:AS):Prop:=∀ a w Q K,St cx σ a w->(∀ d w',St cx c d w'->K d w')->wpOpIn cx.F 0 cx.P ops Q i K a w
def Step (cx:Cx)(ops:Array Oper)(i:Nat)(σ:AS)(tr:Tr):Prop:=(∀ id e,lkE tr.wr id=some e->id∈tr.ids) /\ ∀ τ:AS,(∀ t∈Eu ops i,τ.get t=σ.get t)->(∀ id∈tr.ids,τ.find id=σ.find id)->y5r cx ops i τ (τ.upd (Bw ops i) tr.val tr.wr)
def Ext (σ τ:AS):Prop:=(∀ t,σ.get t=τ.get t)/\∀ i,σ.find i=τ.find i
theorem Ext.refl (σ:AS):Ext σ σ:=⟨fun _=>rfl,fun _=>rfl⟩
theorem Ext.upd {τ:AS}(h:Ext σ τ)(d:Option Nat)(v:AV)(wr:List (Nat×Ent)):Ext (σ.upd d v wr) (τ.upd d v wr) :=
 ⟨fun t=>by rw [AS.get_upd,AS.get_upd,h.1],fun i=>by rw [AS.find_upd,AS.find_upd,h.2]⟩
theorem Ext.trans {a b c:AS}(h:Ext a b)(k:Ext b c):Ext a c:=⟨fun t=>(h.1 t).trans (k.1 t),fun i=>(h.2 i).trans (k.2 i)⟩
inductive Run (cx:Cx) (ops:Array Oper):Nat->AS->List Tr->AS->Prop
 |done {i:Nat} {σ σ':AS} (h:ops.size<=i) (hx:Ext σ' σ):Run cx ops i σ [] σ'
 |step {i:Nat} {σ σ1 σ':AS} {tr:Tr} {trs:List Tr} (h:i<ops.size) (hs:Step cx ops i σ tr) (hx:Ext σ1 (σ.upd (Bw ops i) tr.val tr.wr)) (hr:Run cx ops (i+1) σ1 trs σ'):Run cx ops i σ (tr::trs) σ'
variable {ops:Array Oper}{i:Nat}{trs:List Tr}{Q:Exit->Act->World->Prop}
theorem Run.wpOps {c:AS}(h:Run cx ops i σ trs c)(j:∀ a w,St cx c a w->Q .normal a w)(hi:i<=ops.size) :
  ∀ a w,St cx σ a w->wpOpsIn cx.F 0 cx.P ops Q (range' i (ops.size-i)) a w:=by
 induction h with
 |done h e =>
  intro a w m;rw [show ops.size-_=0 by omega];exact j a w (m.congr e.1 e.2)
 |@step i σ k c tr trs h d e o l =>
  intro a w f;rw [show ops.size-i=(ops.size-(i+1))+1 by omega,range'_succ,wpOpsIn_cons];exact d.2 σ (fun _ _=>rfl) (fun _ _=>rfl) a w Q _ f (fun n w' g=>l j (by omega) n w' (g.congr e.1 e.2))
section
variable (dst:Nat->Option Nat) (tr:Nat->Tr)
def C6 (X:Nat->Bool)(σ:AS):Nat->AS
 |0=>σ
 |k+1=>if X k=true then (C6 X σ k).upd (dst k) (tr k).val (tr k).wr else C6 X σ k
variable {dst tr}
theorem Zt (X:Nat->Bool)(σ:AS)(k t:Nat):(C6 dst tr X σ (k+1)).get t=if X k=true/\dst k=some t then (tr k).val else (C6 dst tr X σ k).get t:=by
 unfold C6;by_cases h:X k=true
 ·rw [if_pos h,AS.get_upd];by_cases a:dst k=some t
  ·rw [if_pos a,if_pos ⟨h,a⟩]
  ·rw [if_neg a,if_neg (fun c=>a c.2)];cases k<;>rfl
 ·rw [if_neg h,if_neg (fun c=>h c.1)];cases k<;>rfl
theorem Zk (X:Nat->Bool)(σ:AS)(k i:Nat):(C6 dst tr X σ (k+1)).find i=if X k=true then (lkE (tr k).wr i).or ((C6 dst tr X σ k).find i) else (C6 dst tr X σ k).find i:=by
 conv=>lhs;unfold C6
 by_cases h:X k=true
 ·rw [if_pos h,if_pos h,AS.find_upd]
 ·rw [if_neg h,if_neg h]
theorem zeh (X Y:Nat->Bool)(σ:AS)(k t:Nat)(h:∀ j,j<k->dst j=some t->X j=Y j):(C6 dst tr X σ k).get t=(C6 dst tr Y σ k).get t:=by
 induction k with
 |zero=>rfl
 |succ k ih =>
  rw [Zt,Zt,ih (fun j c=>h j (by omega))];by_cases a:dst k=some t
  ·rw [h k (by omega) a]
  ·rw [if_neg (fun h=>a h.2),if_neg (fun h=>a h.2)]
theorem zbp (X:Nat->Bool)(σ:AS)(m k t:Nat)(hm:m<=k)(h:∀ j,m<=j->j<k->dst j=some t->X j=false):(C6 dst tr X σ k).get t=(C6 dst tr X σ m).get t:=by
 induction k with
 |zero=>rw [show m=0 by omega]
 |succ k ih =>
  rcases aN k m with a|a
  ·rw [show m=k+1 by omega]
  ·rw [Zt,if_neg,ih a (fun j h1 c=>h j h1 (by omega))];rintro ⟨h1,c⟩;rw [h k a (by omega) c] at h1;cases h1
theorem zbr (X Y:Nat->Bool)(σ:AS)(k i:Nat)(h:∀ j,j<k->lkE (tr j).wr i≠none->X j=Y j):(C6 dst tr X σ k).find i=(C6 dst tr Y σ k).find i:=by
 induction k with
 |zero=>rfl
 |succ k ih =>
  rw [Zk,Zk,ih (fun j c=>h j (by omega))];cases a:lkE (tr k).wr i with
  |none=>simp
  |some e=>rw [h k (by omega) (by simp [a])]
theorem zal (X:Nat->Bool)(σ:AS)(m k i:Nat)(hm:m<=k)(h:∀ j,m<=j->j<k->lkE (tr j).wr i≠none->X j=false):(C6 dst tr X σ k).find i=(C6 dst tr X σ m).find i:=by
 induction k with
 |zero=>rw [show m=0 by omega]
 |succ k ih =>
  rcases aN k m with a|a
  ·rw [show m=k+1 by omega]
  ·rw [Zk,ih a (fun j h1 d=>h j h1 (by omega))];cases c:lkE (tr k).wr i with
   |none=>simp
   |some e=>rw [h k a (by omega) (by simp [c])];simp
end
def forced {α:Type}(n:Nat)(k:Nat->α):α:=match n with|0=>k 0|m+1=>k (m+1)
theorem X7 {α:Type}(n:Nat)(k:Nat->α):forced n k=k n:=by cases n<;>rfl
def clo1 (look:Nat->Nat)(o:Oper):Nat:=o.after.toList.foldl (fun s e=>if Region.binds .any e then s ||| (2 ^ e.on ||| look e.on) else s) 0
def cloL:List Oper->List Nat->List Nat |[],acc=>acc |o::r,acc=>forced (clo1 (fun i=>acc.getD i 0) o) fun v=>cloL r (acc++[v])
theorem clo1_bit (look:Nat->Nat)(l:List Edge)(s i:Nat)(h:(l.foldl (fun s e=>if Region.binds .any e then s ||| (2 ^ e.on ||| look e.on) else s) s).testBit i=true) :
  s.testBit i=true\/∃ e∈l,Region.binds .any e=true/\(e.on=i\/(look e.on).testBit i=true):=by
 induction l generalizing s with
 |nil=>exact aC h
 |cons e r ih =>
  rw [foldl_cons] at h;rcases ih _ h with h|⟨d,c,h⟩
  ·by_cases a:Region.binds .any e=true
   ·rw [if_pos a,aM,aM,Nat.testBit_two_pow] at h;simp only [aA,decide_eq_true_eq] at h;rcases h with h|h|h
    ·exact aC h
    ·exact aK ⟨e,by simp,a,aC h⟩
    ·exact aK ⟨e,by simp,a,aK h⟩
   ·rw [if_neg a] at h;exact aC h
  ·exact aK ⟨d,by simp [c],h⟩
def Down (ops:Array Oper)(X:Nat->Bool):Prop:=∀ j o,ops[j]? = some o->X j=true->∀ e∈o.after,Region.binds .any e=true->X e.on=true
theorem zty {X:Nat->Bool}(q:Down ops X):∀ (l:List Oper) (acc:List Nat),(∀ m o,l[m]? = some o->ops[acc.length+m]? = some o) ->
  (∀ j i,(acc.getD j 0).testBit i=true->X j=true->X i=true)->∀ j i,((cloL l acc).getD j 0).testBit i=true->X j=true->X i=true
 |[],acc,_,h=>h
 |o::r,acc,n,h=>by
  unfold cloL;rw [X7];refine zty q r _ (fun m o' f=>?_) (fun j i c p=>?_)
  ·have:=n (m+1) o' (by simpa using f);rw [length_append,length_singleton];rw [show acc.length+1+m=acc.length+(m+1) by omega];exact this
  ·rcases Nat.lt_trichotomy j acc.length with g|heq|t
   ·rw [aB,getElem?_append_left g,<-aB] at c;exact h j i c p
   ·subst heq;rw [aB,getElem?_append_right (Nat.le_refl _)] at c;simp only [Nat.sub_self,getElem?_cons_zero,Option.getD_some] at c;have f:=n 0 o (by simp);rw [Nat.add_zero] at f;rcases clo1_bit (fun i=>acc.getD i 0) o.after.toList 0 i c with c|⟨e,u,k,a⟩
    ·simp at c
    ·have d:=q _ o f p e (by simpa using u) k;rcases a with a|a
     ·rw [<-a];exact d
     ·exact h _ _ a d
   ·rw [aB,getElem?_eq_none (by simp;omega)] at c;simp at c
def Xq (wr:List (Nat×Ent)):List Nat:=wr.map (·.1)
theorem zj5 {wr:List (Nat×Ent)}(h:lkE wr i≠none):i∈Xq wr:=by
 induction wr with
 |nil=>simp [lkE] at h
 |cons x r ih =>
  obtain ⟨u,e⟩:=x;simp only [lkE] at h;cases a:aE u i with
  |true=>have:=aD a;subst this;simp [Xq]
  |false=>rw [a] at h;have:=ih h;simp [Xq] at this ⊢;exact aK this
def memB (n:Nat):List Nat->Bool
 |[]=>false
 |x::r=>match aE x n with|true=>true|false=>memB n r
theorem Db (n:Nat)(l:List Nat):memB n l=true ↔ n∈l:=by
 induction l with
 |nil=>simp [memB]
 |cons x r ih =>
  simp only [memB,mem_cons];cases h:aE x n with
  |true=>have:=aD h;simp [this]
  |false=>have:=Nat.ne_of_beq_eq_false h;simp [ih];omega
def memO (d:Option Nat)(l:List Nat):Bool:=match d with|some d=>memB d l|none=>false
def meet (l m:List Nat):Bool:=l.any fun x=>memB x m
theorem ziz (l m:List Nat):meet l m=true ↔ ∃ x,x∈l/\x∈m:=by simp [meet,Db]
def y64 (a b:Option Nat):Bool:=match a,b with|some a,some b=>aE a b|_,_=>false
def Ex (ops:Array Oper)(tr:Nat->Tr)(i j:Nat):Bool:=memO (Bw ops i) (Eu ops j) || memO (Bw ops j) (Eu ops i) || y64 (Bw ops i) (Bw ops j) || meet (Xq (tr i).wr) (tr j).ids || meet (Xq (tr j).wr) (tr i).ids
def Ts (ops:Array Oper)(trs:List Tr):Bool :=
 let cl:=cloL ops.toList []
 (range ops.size).all fun j=>(range j).all fun i=>!Ex ops (fun k=>trs.getD k default) i j || (cl.getD j 0).testBit i
def Tc (ops:Array Oper):Bool:=(range ops.size).all fun j=>match ops[j]? with|some o=>o.after.all fun e=>!Region.binds .any e || Nat.blt e.on j|none=>true
theorem Run.length {a:AS}(h:Run cx ops i σ trs a)(hi:i<=ops.size):trs.length=ops.size-i:=by
 induction h with
 |done h c=>simp;omega
 |step h d c e ih=>have:=ih (by omega);simp;omega
theorem Step.ext {τ:AS}{tr:Tr}(h:Step cx ops i σ tr)(c:Ext τ σ):Step cx ops i τ tr :=
 ⟨h.1,fun ρ h1 e=>h.2 ρ (fun t d=>(h1 t d).trans (c.1 t)) (fun id a=>(e id a).trans (c.2 id))⟩
theorem Run.steps {σ0:AS}{tr:Nat->Tr}{a:AS}(h:Run cx ops i σ trs a)(hi:i<=ops.size)(e:∀ j,j<trs.length->tr (i+j)=trs.getD j default)
  (c:Ext σ (C6 (Bw ops) tr (fun _=>true) σ0 i)):(∀ j,i<=j->j<ops.size->Step cx ops j (C6 (Bw ops) tr (fun _=>true) σ0 j) (tr j))/\Ext a (C6 (Bw ops) tr (fun _=>true) σ0 ops.size):=by
 induction h with
 |@done i σ a h k=>exact ⟨fun j h1 o=>by omega,by rw [show ops.size=i by omega];exact k.trans c⟩
 |@step i σ f a g trs h r k u q =>
  have p:tr i=g:=by have:=e 0 (by simp);simpa using this
  have d:Ext f (C6 (Bw ops) tr (fun _=>true) σ0 (i+1)):=by
   refine k.trans ?_;unfold C6;rw [if_pos rfl,p];exact c.upd _ _ _
  obtain ⟨h1,o⟩:=q (by omega) (fun j v=>by have:=e (j+1) (by simp;omega);rw [show i+1+j=i+(j+1) by omega,this];simp) d;refine ⟨fun j n m=>?_,o⟩;rcases aG n with rfl|l
  ·rw [p];exact r.ext ⟨fun t=>(c.1 t).symm,fun i=>(c.2 i).symm⟩
  ·exact h1 j l m
theorem y08 {σ0:AS}{tr:Nat->Tr}
  (x:∀ j,j<ops.size->Step cx ops j (C6 (Bw ops) tr (fun _=>true) σ0 j) (tr j))
  (T:∀ i j,i<j->j<ops.size->Ex ops tr i j=true->((cloL ops.toList []).getD j 0).testBit i=true)
  (aa:∀ j o,ops[j]? = some o->∀ e∈o.after,Region.binds .any e=true->e.on<j)
  (hQ:∀ a w,St cx (C6 (Bw ops) tr (fun _=>true) σ0 ops.size) a w->Q .normal a w) :
  ∀ (fuel:Nat) (L:Array Bool),L.size=ops.size->(L.toList.filter (! ·)).length=fuel->Down ops (fun i=>L.getD i false)->∀ a w,St cx (C6 (Bw ops) tr (fun i=>L.getD i false) σ0 ops.size) a w ->
   wpAnyIn cx.F 0 cx.P .any ops Q fuel L a w:=by
 intro fuel;have I:∀ (L:Array Bool),L.size=ops.size->Down ops (fun i=>L.getD i false)->Region.ready .any ops L=[]->∀ j,j<ops.size->L.getD j false=true:=by
  intro L H c d j
  induction j using Nat.strongRecOn with
  |_ j ih =>
   intro l;cases V:L.getD j false with
   |true=>rfl
   |false =>
    have hm:j∈Region.ready .any ops L:=mem_ready.2 ⟨by
     have:j<L.size:=by omega
     simp only [aL,this,dif_pos] at V ⊢;exact V,ops[j],aJ l,fun e he hb=>by
      have z:=aa j ops[j] (aJ l) e he hb;exact ih e.on z (by omega)⟩
    rw [d] at hm;cases hm
 have F:∀ (L:Array Bool),L.size=ops.size->Down ops (fun i=>L.getD i false)->Region.ready .any ops L=[]->∀ a w,St cx (C6 (Bw ops) tr (fun i=>L.getD i false) σ0 ops.size) a w->Q .normal a w:=by
  intro L H c d a w u;have G:=I L H c d;exact hQ a w (u.congr (fun t=>zeh _ _ _ _ _ (fun j l _=>(G j l).symm)) (fun i=>zbr _ _ _ _ _ (fun j l _=>(G j l).symm)))
 induction fuel with
 |zero =>
  intro L H g c a w u;have d:Region.ready .any ops L=[]:=by
   cases hr:Region.ready .any ops L with
   |nil=>rfl
   |cons i r =>
    have hm:i∈Region.ready .any ops L:=by rw [hr];simp
    obtain ⟨h0,o,ho,_⟩:=mem_ready.1 hm;have hi:i<L.size:=by rw [H];exact (aH.1 ho).1
    have ab:L[i]=false:=by simpa [aL,hi] using h0
    have:L[i]∈L.toList.filter (! ·):=mem_filter.2 ⟨by simp,by rw [ab];rfl⟩;rw [length_eq_zero_iff.1 g] at this;cases this
  exact ⟨d,F L H c d a w u⟩
 |succ fuel ih =>
  intro L H g c a w u;refine ⟨fun d=>F L H c d a w u,fun i hi=>?_⟩;obtain ⟨h0,o,ho,K⟩:=mem_ready.1 hi;have J:i<ops.size:=(aH.1 ho).1;have A:i<L.size:=by omega
  have Z:L.getD i false=false:=by simp only [aL,A,dif_pos] at h0 ⊢;exact h0
  generalize hX:(fun i=>L.getD i false)=X at *;have M:X i=false:=by rw [<-hX];exact Z
  have U:∀ j,L.getD j false=X j:=fun j=>by rw [<-hX]
  let X':Nat->Bool:=fun j=>(L.setIfInBounds i true).getD j false
  have n:X' i=true:=by show (L.setIfInBounds i true).getD i false=true;simp [A]
  have f:∀ j,j≠i->X' j=X j:=fun j l=>by
   show (L.setIfInBounds i true).getD j false=X j;rw [getD_set_ne false (Ne.symm l)];exact U j
  have q:Down ops X':=fun j oj y l e he hb=>by
   by_cases P:j=i
   ·subst P;rw [ho] at y;injection y with y
    subst y;have h1:=K e he hb;by_cases B:e.on=j
    ·rw [B];exact n
    ·rw [f _ B,<-U];exact h1
   ·rw [f j P] at l;have h1:=c j oj y l e he hb;by_cases B:e.on=i
    ·rw [B];exact n
    ·rw [f _ B];exact h1
  have bit:∀ Y:Nat->Bool,Down ops Y->∀ j k,((cloL ops.toList []).getD j 0).testBit k=true->Y j=true->Y k=true:=fun Y hY =>
   zty hY ops.toList [] (fun m o h=>by simpa using h) (fun j k h=>by simp at h)
  -- those later than i that Ex with it have not run;those earlier that Ex have
  have later:∀ j,i<j->j<ops.size->Ex ops tr i j=true->X j=false:=fun j h1 E hc=>by
   cases l:X j with
   |false=>rfl
   |true=>have:=bit X c j i (T i j h1 E hc) l;rw [M] at this;cases this
  have earlier:∀ j,j<i->Ex ops tr j i=true->X j=true:=fun j h1 hc=>by
   have:=bit X' q i j (T j i h1 J hc) n
   rwa [f j (by omega)] at this
  have agree1:∀ t∈Eu ops i,(C6 (Bw ops) tr X σ0 ops.size).get t=(C6 (Bw ops) tr (fun _=>true) σ0 i).get t:=fun t ht=>by
   rw [zbp X σ0 i ops.size t (by omega) (fun j h1 E v=>by
    rcases aG h1 with rfl|z
    ·exact M
    ·exact later j z E (by simp only [Ex,aA];refine aC (aC (aC (aK ?_)));rw [v];exact (Db _ _).2 ht))]
   exact zeh _ _ _ _ _ (fun j l v=>earlier j l (by simp only [Ex,aA];refine aC (aC (aC (aC ?_)));rw [v];exact (Db _ _).2 ht))
  have agree2:∀ id∈(tr i).ids,(C6 (Bw ops) tr X σ0 ops.size).find id=(C6 (Bw ops) tr (fun _=>true) σ0 i).find id:=fun id R=>by
   rw [zal X σ0 i ops.size id (by omega) (fun j h1 E v=>by
    rcases aG h1 with rfl|z
    ·exact M
    ·exact later j z E (by simp only [Ex,aA];exact aK ((ziz _ _).2 ⟨id,zj5 v,R⟩)))]
   exact zbr _ _ _ _ _ (fun j l v=>earlier j l (by simp only [Ex,aA];exact aC (aK ((ziz _ _).2 ⟨id,zj5 v,R⟩))))
  refine (x i J).2 _ agree1 agree2 a w Q _ u (fun a' w' N=>?_);have C:=(x i J).1;refine ih (L.setIfInBounds i true) (by simp [H]) ?_ q a' w' (N.congr (fun t=>?_) (fun id=>?_))
  ·have D:L.toList=L.toList.take i++false::L.toList.drop (i+1):=by
    have W:L.toList[i]'(by simpa using A)=false:=by simpa [aL,A] using Z
    rw [<-W,getElem_cons_drop,take_append_drop]
   have O:(L.setIfInBounds i true).toList=L.toList.take i++true::L.toList.drop (i+1):=by
    rw [Array.toList_setIfInBounds,set_eq_take_append_cons_drop,if_pos (by simpa using A)]
   rw [O];rw [D] at g;simp only [filter_append,length_append,filter_cons,Bool.not_false,if_true,length_cons,Bool.not_true,Bool.false_eq_true,if_false] at g ⊢;omega
  ·rw [AS.get_upd];by_cases v:Bw ops i=some t
   ·rw [if_pos v,zbp X' σ0 (i+1) ops.size t (by omega) (fun j h1 E p=>by
     rw [f j (by omega)];exact later j (by omega) E (by simp only [Ex,aA];refine aC (aC (aK ?_));rw [v,p];simp [y64])),Zt,if_pos ⟨n,v⟩]
   ·rw [if_neg v];exact zeh _ _ _ _ _ (fun j l p=>f j (fun e=>v (e▸p)))
  ·rw [AS.find_upd];cases hw:lkE (tr i).wr id with
   |some e =>
    rw [zal X' σ0 (i+1) ops.size id (by omega) (fun j h1 E p=>by
     rw [f j (by omega)];exact later j (by omega) E (by simp only [Ex,aA];exact aK ((ziz _ _).2 ⟨id,zj5 p,C id e hw⟩))),Zk,if_pos n,hw]
    rfl
   |none =>
    rw [Option.none_or];exact zbr _ _ _ _ _ (fun j l p=>f j (fun e=>p (e▸hw)))
end Go.Proofs.YtidhlpjgifoneaaGreat
