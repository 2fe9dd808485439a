/- The abstract walk, tenth part. -/
import Derived.Test.YtidhlpjgifoneaaGreatK05
set_option linter.unusedVariables false
set_option linter.unusedSimpArgs false
namespace Go.Proofs.YtidhlpjgifoneaaGreat
open Go.RowKit List
open Nat renaming le_refl->aA,eq_of_beq_eq_true->aB,le_trans->aK,beq->aO,mul_le_mul_right->aS,zero_add->aV,succ_mul->aZ
open _root_.Array renaming getD_eq_getD_getElem?->aC,getElem?_eq_some_iff->aE,getElem?_append_left->aN,replicate->aR
open Or renaming inr->aD,inl->aF
open Option renaming map_eq_some_iff->aG
open Gam renaming set_ne->aH,set_self->aL
open List renaming getElem_map->aJ,getElem_mem->aQ,mem_flatMap->aT,length_eq_zero_iff->aU
open AV renaming closedL->aM,closedL_at->aY
open Option.some renaming injEq->aP
def Ci (E:Env)(f:FuncId):Prop:=∀ args w,(callFunc f args).run E.P w=.ok (.enter f args) w
def Args (w:World)(S:Nat->Prop)(args:List AV)(vs:Array Value):Prop:=vs.size=args.length/\∀ i (hi:i<args.length),Rep w S G0 args[i] (vs.getD i undef)
def BelE (E:Env)(w w':World):Prop:=Below w.heap.size w w'/\(E.dr=true->w.drawn<=w'.drawn)
def Con (E:Env)(c:Bool)(f:FuncId)(args:List AV)(res:AV):Prop:=Ci E f/\∀ (S:Nat->Prop) (w:World) (vs:Array Value),Args w S args vs->Calls E.P f vs w fun e w'=>∃ v,e=.returned v/\BelE E w w'/\Rep w' (fun b=>(c=false/\S b)\/w.heap.size<=b) G0 res v
def Fi (E:Env)(f:FuncId)(args:List AV)(ty sz:Nat)(xs:List AV):Prop:=Ci E f/\∀ (S:Nat->Prop) (w:World) (vs:Array Value),Args w S args vs->Calls E.P f vs w fun e w'=>∃ v us,e=.returned v/\Below w.heap.size w w'/\w'.ownsRow w.heap.size ty sz v xs.length us /\ (∀ k (c:k<xs.length),(xs[k]).cells.length=sz)/\(∀ k (c:k<xs.length) j (g:j<(xs[k]).cells.length),Rep w' (fun b=>(S b\/w.heap.size<=b)/\v.ownBlock≠some b) G0 ((xs[k]).cells[j]) (us.getD (k*sz+j) undef))/\∀ u∈us,u.oneCell'=true
mutual
def AV.flat:AV->Bool |.ptr _ _=>false |.row _=>false |.elt _ _ _ _=>false |.sl _ _=>false |.ref _=>false |.der _ _=>false |.cont _ _=>false |.mapv _=>false |.fn _ cap=>AV.flatL cap |.yld _ _ cap=>AV.flatL cap |.agg cs=>AV.flatL cs |.tup cs=>AV.flatL cs |_=>true
def AV.flatL:List AV->Bool |[]=>true |x::r=>x.flat && AV.flatL r
end
theorem AV.flatL_at {l:List AV}(h:AV.flatL l=true)(i:Nat)(hi:i<l.length):l[i].flat=true:=by
 induction l generalizing i with
 |nil=>simp at hi
 |cons x r ih =>
  simp only [AV.flatL,Bool.and_eq_true] at h;cases i with
  |zero=>exact h.1
  |succ i=>exact ih h.2 i (by simpa using hi)
variable {w:World}{S S':Nat->Prop}{γ γ':Gam}{av:AV}{v:Value}
theorem Rep.flat {w':World}(h:Rep w S γ av v)(e:av.flat=true):Rep w' S' γ' av v:=by
 induction h with
 |any=>exact .any _
 |int=>exact .int _ _
 |bool=>exact .bool _
 |str=>exact .str _
 |nilp=>exact .nilp
 |ptr h m=>simp [AV.flat] at e
 |elt h m=>simp [AV.flat] at e
 |der h m=>simp [AV.flat] at e
 |cont h m k=>simp [AV.flat] at e
 |mapv s C g es clock r z G F k D m u t=>simp [AV.flat] at e
 |mapn=>simp [AV.flat] at e
 |slen A n c=>exact .slen A n c
 |nils=>exact .nils
 |sl A c cell y q r p h1 j=>simp [AV.flat] at e
 |row h m=>simp [AV.flat] at e
 |fn vs k p j=>simp only [AV.flat] at e;exact .fn vs k (fun i hi=>j i hi (AV.flatL_at e i hi))
 |yld p j=>simp only [AV.flat] at e;exact .yld (fun i hi=>j i hi (AV.flatL_at e i hi))
 |nilf=>exact .nilf
 |agg vs k p h1 j=>simp only [AV.flat] at e;exact .agg vs k (fun i hi=>j i hi (AV.flatL_at e i hi)) h1
 |tup vs k p j=>simp only [AV.flat] at e;exact .tup vs k (fun i hi=>j i hi (AV.flatL_at e i hi))
 |ref b off cell z r y p h1 j=>simp [AV.flat] at e
section
variable {w:World} {S:Nat->Prop} {γ:Gam} {B:Nat}
theorem Fh {ty sz:Nat}{xs:List AV}{d:Option (Option Nat×Value)}(h:Bq w S γ B d (.row ty sz xs))(I:∀ b,S b->b<w.heap.size->S' b)(H:∀ s g,d=some (some g,s)->S' g)(γ':Gam):∃ s,d=some (s.ownBlock,s)/\Rep w S' γ' (.sl sz xs) s:=by
 obtain ⟨s,vs,y,h1,c,e,A,r⟩:=h;refine ⟨s,y,?_⟩;have i:∀ k j,((fun k j=>if k<xs.length/\j<sz then vs.getD (k*sz+j) undef else Value.bool true) k j).oneCell'=true:=fun k j=>by
  by_cases h:k<xs.length/\j<sz
  ·simp only [if_pos h];have m:k*sz+j<vs.length:=by
    rw [c.1];have:(k+1)*sz<=xs.length*sz:=aS _ h.1;rw [aZ] at this;omega
   rw [getD_eq_getElem?_getD,getElem?_eq_getElem m];exact r _ (aQ m)
  ·simp only [if_neg h];rfl
 have q:∀ k (n:k<xs.length) j (p:j<(xs[k]).cells.length),Rep w S' G0 ((xs[k]).cells[j]) ((fun k j=>if k<xs.length/\j<sz then vs.getD (k*sz+j) undef else Value.bool true) k j):=fun k n j p=>by
  simp only [if_pos (show k<xs.length/\j<sz from ⟨n,by rw [<-e k n];exact p⟩)];exact (A k n j p).mono (aA _) (fun b u m=>⟨rfl,I b u m⟩)
 have t:∀ g,s.ownBlock=some g->∀ k j,k<xs.length->j<sz->w.cell? ⟨g,k*sz+j,none⟩=some ((fun k j=>if k<xs.length/\j<sz then vs.getD (k*sz+j) undef else Value.bool true) k j):=fun g F k j n p=>by
  simp only [if_pos (show k<xs.length/\j<sz from ⟨n,p⟩)];refine Hp c F _ ?_;have:(k+1)*sz<=xs.length*sz:=aS _ n;rw [aZ] at this;omega
 rcases c.2 with ⟨rfl,J⟩|⟨g,cap,K,rfl,G,D,C,hm,M,L⟩
 ·have z:xs=[]:=aU.1 J;subst z;exact .sl none 0 _ (aA _) e (fun h=>absurd h (by simp)) q i
 ·refine .sl _ cap _ C e (fun _=>⟨g,0,rfl,H _ g (by rw [y];rfl),(aE.1 D).1,fun k j n p=>?_⟩) q i;rw [aV];exact t g rfl k j n p
end
theorem y4r {g:Nat}{e:List (AV×AV)}(h:Dq w S g e)(r:S' g)(n:∀ b,S b->b<w.heap.size->S' b)(γ:Gam):Rep w S' γ (.mapv e) (.map (some g)):=by
 obtain ⟨es,clock,h1,s,k,p⟩:=h;exact .mapv e (.inl rfl) g es clock k r (aE.1 h1).1 h1 s (fun j q c=>(p j q c).1.mono (aA _) (fun b m i=>⟨rfl,n b m i⟩)) (fun j q c=>(p j q c).2.mono (aA _) (fun b m i=>⟨rfl,n b m i⟩))
def Ep (σ:AS):AV->AV
 |.row id=>match σ.find id with|some (.row _ sz xs)=>.sl sz xs|some (.mp ps)=>.mapv ps|_=>.any
 |.ptr _ _=>.any
 |.elt _ _ _ _=>.any
 |.der _ _=>.any
 |.cont _ _=>.any
 |.agg _=>.any
 |.tup _=>.any
 |.fn f cap=>match aM cap with|true=>.fn f cap|false=>.any
 |.yld l T cap=>match aM cap with|true=>.yld l T cap|false=>.any
 |x=>x
def Oh (σ:AS):AV->AV
 |.ptr id off=>match σ.find id with|some (.box _ cs)=>.ref ((cs.map (Ep σ)).drop off)|_=>.any
 |.agg cs=>.agg (cs.map (Ep σ))
 |.fn f cap=>.fn f (cap.map fun x=>match x with
   |.ptr id off=>match σ.find id with|some (.box _ cs)=>.ref ((cs.map (Ep σ)).drop off)|_=>.any
   |x=>Ep σ x)
 |x=>Ep σ x
def ids1:AV->List Nat |.row id=>[id] |_=>[]
def ids2 (σ:AS):AV->List Nat
 |.ptr id _=>id::(match σ.find id with|some (.box _ cs)=>cs.flatMap ids1|_=>[])
 |.agg cs=>cs.flatMap ids1
 |.fn _ cap=>cap.flatMap fun x=>match x with
   |.ptr id _=>id::(match σ.find id with|some (.box _ cs)=>cs.flatMap ids1|_=>[])
   |x=>ids1 x
 |x=>ids1 x
section
variable {cx:Cx} {σ τ:AS} {γ:Gam} {a:Act} {w:World} {S':Nat->Prop}
theorem Zm (p:StG cx γ τ a w)(c:∀ b,Sg cx.S0 cx.w0.heap.size γ b\/own γ b->S' b)(h:Rep w (Sg cx.S0 cx.w0.heap.size γ) γ av v)(j:∀ id∈ids1 av,τ.find id=σ.find id):Rep w S' G0 (Ep σ av) v:=by
 have cl:av.closed=true->Rep w S' G0 av v:=fun m=>(h.close m).mono (aA _) (fun b n _=>⟨rfl,c b (aF n)⟩)
 cases av with
 |row id =>
  simp only [Ep];have t:=j id (by simp [ids1]);have i:=p.me id;cases r:σ.find id with
  |none=>exact .any _
  |some e =>
   cases e with
   |row ty sz xs =>
    rw [t,r] at i;obtain ⟨d,k,A⟩:=i;obtain ⟨s,u,y⟩:=Fh (S':=S') A (fun b n _=>c b (aF n)) (fun s g z=>c g (aD (own.mk (id:=id) (s:=s) (by rw [k,z])))) G0;subst u;rw [h.row_inv k];exact y
   |mp ps =>
    rw [t,r] at i;obtain ⟨d,k,g,q,hm⟩:=i;subst q;rw [h.row_inv k];exact y4r hm (c g (aD (own.mk k))) (fun b n _=>c b (aF n)) G0
   |_=>exact .any _
 |fn f cap =>
  simp only [Ep];cases m:aM cap with
  |true=>exact cl (by simp only [AV.closed];exact m)
  |false=>exact .any _
 |yld l T cap =>
  simp only [Ep];cases m:aM cap with
  |true=>exact cl (by simp only [AV.closed];exact m)
  |false=>exact .any _
 |ptr=>exact .any _
 |elt=>exact .any _
 |der=>exact .any _
 |cont=>exact .any _
 |agg=>exact .any _
 |tup=>exact .any _
 |_=>exact cl rfl
theorem zog (n:StG cx γ τ a w)(t:∀ b,Sg cx.S0 cx.w0.heap.size γ b\/own γ b->S' b){id off:Nat}(h:Rep w (Sg cx.S0 cx.w0.heap.size γ) γ (.ptr id off) v)(c:∀ i∈(id::(match σ.find id with|some (.box _ cs)=>cs.flatMap ids1|_=>[])),τ.find i=σ.find i) :
  Rep w S' G0 (match σ.find id with|some (.box _ cs)=>.ref ((cs.map (Ep σ)).drop off)|_=>.any) v:=by
 have D:=c id (by simp);have q:=n.me id;cases y:σ.find id with
 |none=>exact .any _
 |some e =>
  cases e with
  |box ty cs =>
   rw [D,y] at q;obtain ⟨d,z,g,vs,u,A,m,C,p⟩:=q;subst u;rw [h.ptr_inv z];have:=zc3 (w:=w) (S:=S') (γ:=G0) (cs:=cs.map (Ep σ)) (b:=g) (off:=0) (k:=off) (cell:=fun j=>vs.getD j undef) (t g (aD (own.mk z))) A.lt (fun j s=>by rw [aV];exact O0 A j (by simpa [m] using s))
    (fun j s=>by
      have r:j<cs.length:=by simpa using s
      simp only [aJ];exact Zm n t (C j r) (fun i hi=>c i (by simp only [y];exact mem_cons_of_mem _ (aT.2 ⟨_,aQ r,hi⟩))))
    (fun j s=>p j (by simpa [m] using s))
   rw [aV] at this;exact this
  |_=>exact .any _
theorem zbt (e:StG cx γ τ a w)(j:∀ b,Sg cx.S0 cx.w0.heap.size γ b\/own γ b->S' b)(h:Rep w (Sg cx.S0 cx.w0.heap.size γ) γ av v)(c:∀ id∈ids2 σ av,τ.find id=σ.find id):Rep w S' G0 (Oh σ av) v:=by
 have r:(∀ id∈ids1 av,τ.find id=σ.find id)->Rep w S' G0 (Ep σ av) v:=Zm e j h;cases av with
 |ptr id off=>exact zog e j h c
 |agg cs =>
  obtain ⟨vs,rfl,q,p,h1⟩:=h.agg_inv;simp only [Oh];refine .agg vs (by simpa using q) (fun i hi=>?_) h1;have g:i<cs.length:=by simpa using hi
  simp only [aJ];exact Zm e j (p i g) (fun id m=>c id (aT.2 ⟨_,aQ g,m⟩))
 |fn f cap =>
  obtain ⟨vs,rfl,q,p⟩:=h.fn_inv;simp only [Oh];refine .fn vs (by simpa using q) (fun i hi=>?_);have g:i<cap.length:=by simpa using hi
  simp only [aJ];have k:∀ id,id∈(match cap[i] with|.ptr id _=>id::(match σ.find id with|some (.box _ cs)=>cs.flatMap ids1|_=>[])|x=>ids1 x)->τ.find id=σ.find id:=fun id m=>c id (aT.2 ⟨_,aQ g,m⟩)
  have n:=p i g;generalize cap[i]=x at *;cases x with
  |ptr id off=>exact zog e j n k
  |_=>exact Zm e j n k
 |_=>exact r c
end
section
variable {cx:Cx} {o:Oper} {σ:AS}
def C9 (σ:AS)(args:Array Operand)(cap:List AV):List AV:=args.toList.map σ.eval++cap
variable {x:Operand}{args:Array Operand}{cap:List AV}{f:FuncId}
theorem O8 {τ:AS}{a:Act}(b:StG cx γ τ a w)(c:args.toList.all A7=true)(g:A7 x=true)(h1:∀ y∈args.toList,τ.eval y=σ.eval y)(k:τ.eval x=σ.eval x)(n:σ.eval x=.fn f cap) :
  ∃ caps:Array Value,a.eval x=.func (.func f) #[] caps/\(args.map a.eval++caps).size=(C9 σ args cap).length/\∀ i (hi:i<(C9 σ args cap).length),Rep w (Sg cx.S0 cx.w0.heap.size γ) γ (C9 σ args cap)[i] ((args.map a.eval++caps).getD i undef):=by
 have e:=b.ev x g;rw [k,n] at e;obtain ⟨caps,r,q,p⟩:=e.fn_inv;refine ⟨caps,r,by simp [C9,q],fun i hi=>?_⟩;unfold C9 at hi ⊢;rw [aC];by_cases h:i<args.size
 ·rw [getElem_append_left (by simpa using h),aN (by simpa using h)];simp only [all_eq_true] at c;have m:=b.ev args[i] (c _ (by simp));rw [h1 args[i] (by simp)] at m;simpa [h] using m
 ·have j:i-args.size<cap.length:=by simp at hi;omega
  rw [getElem_append_right (by simpa using h),Array.getElem?_append_right (by simpa using h)];have:=p (i-args.size) j;rw [aC] at this;simpa using this
variable {tys:Array TypeId}
theorem O1 {P:Program}{caps:Array Value}{a:Act}(c:o.op=.call { callee:=.value x,args:=args,argTypes:=tys })(b:a.eval x=.func (.func f) #[] caps)(e:∀ args w,(callFunc f args).run P w=.ok (.enter f args) w) :
  (execOp a.eval o).run P w=.ok (.enter f (args.map a.eval++caps)) w:=by
 simp only [execOp,c,resolve,b,Deferred.ofValue,invoke,Sem.run_bind,Sem.run_pure,Result.andThen_ok,Array.empty_append,e]
variable {avs:List AV}
theorem y6c {res:AV}{M:Bool}(q:o.op=.call { callee:=.value x,args:=args,argTypes:=tys })(G:dok cx o=true)(m:A7 x=true)(n:args.toList.all A7=true)(z:σ.eval x=.fn f cap)
  (I:C9 σ args cap=avs) (t:aM avs=true) (j:Con cx.E M f avs res):Aj cx o σ res [] []:=by
 refine ⟨fun id e F=>by simp [lkE] at F,fun τ h1 N a w Q K ⟨γ,g⟩ J=>C5 (fun c j=>by rw [q] at j;cases j) ?_⟩;have h:o.op.operands=#[x]++args:=by simp [q,Op.operands,Call.operands]
 obtain ⟨caps,s,D,C⟩:=O8 g n m (fun y u=>h1 y (by rw [h];simp at u ⊢;exact aD u)) (h1 x (by rw [h];simp)) z;subst I;unfold Oper.wp;rw [O1 q s j.1];show Calls _ _ _ _ _;refine (j.2 (Sg cx.S0 cx.w0.heap.size γ) w _ ⟨D,fun i hi=>(C i hi).close (aY t i hi)⟩).mono ?_;rintro e w' ⟨v,rfl,⟨H,r⟩,A⟩;refine J _ _ ⟨γ,g.grow (C0 G) H r ?_⟩;refine (A.mono (aA _) (fun b k _=>⟨rfl,?_⟩)).open_;rcases k with ⟨_,k⟩|k
 ·exact k
 ·exact aD ⟨⟨aK g.below.size k,fun L=>by have:=g.gh _ L;omega⟩,fun p=>by have:=(g.ge b p).2;omega⟩
theorem zlw {res:AV}{D:Bool}(s:o.op=.call { callee:=.value x,args:=args,argTypes:=tys })(J:dok cx o=true)(p:A7 x=true)(q:args.toList.all A7=true)(F:σ.eval x=.fn f cap)
  (M:(C9 σ args cap).map (Oh σ)=avs) (n:Con cx.E D f avs res) (m:D=true\/res.flat=true):Aj cx o σ res ((C9 σ args cap).flatMap (ids2 σ)) []:=by
 refine ⟨fun id e I=>by simp [lkE] at I,fun τ h1 O a w Q K ⟨γ,g⟩ N=>C5 (fun c n=>by rw [s] at n;cases n) ?_⟩;have j:o.op.operands=#[x]++args:=by simp [s,Op.operands,Call.operands]
 obtain ⟨caps,z,H,G⟩:=O8 g q p (fun y A=>h1 y (by rw [j];simp at A ⊢;exact aD A)) (h1 x (by rw [j];simp)) F;subst M;unfold Oper.wp;rw [O1 s z n.1];show Calls _ _ _ _ _;refine (n.2 (fun _=>True) w _ ⟨by simpa using H,fun i hi=>?_⟩).mono ?_
 ·have k:i<(C9 σ args cap).length:=by simpa using hi
  simp only [aJ];exact zbt g (fun _ _=>trivial) (G i k) (fun id t=>O id (aT.2 ⟨_,aQ k,t⟩))
 rintro e w' ⟨v,rfl,⟨L,u⟩,C⟩;refine N _ _ ⟨γ,g.grow (C0 J) L u ?_⟩;rcases m with m|m
 ·refine (C.mono (aA _) (fun b h _=>⟨rfl,?_⟩)).open_;rcases h with ⟨h,_⟩|h
  ·rw [m] at h;cases h
  ·exact aD ⟨⟨aK g.below.size h,fun P=>by have:=g.gh _ P;omega⟩,fun r=>by have:=(g.ge b r).2;omega⟩
 ·exact C.flat m
theorem zuq {f d:Nat}{xs:List AV}{ty sz:Nat}(ho:o.op=.call { callee:=.value x,args:=args,argTypes:=tys })(I:o.dst=some d)(hd:dok cx o=true)(aa:A7 x=true)(ac:args.toList.all A7=true)(C:σ.eval x=.fn f cap)
  (ha:C9 σ args cap=avs) (ah:aM avs=true) (hn:σ.find d=none) (W:Fi cx.E f avs ty sz xs) (V:cx.E.dr=false):Aj cx o σ (.row d) [d] [(d,.row ty sz xs)]:=by
 refine ⟨fun id e he=>?_,fun τ h1 z a w Q K ⟨γ,m⟩ hK=>C5 (fun c W=>by rw [ho] at W;cases W) ?_⟩
 ·simp only [lkE] at he;cases G:aO d id with
  |true=>simp [aB G]
  |false=>rw [G] at he;cases he
 have P:o.op.operands=#[x]++args:=by simp [ho,Op.operands,Call.operands]
 obtain ⟨caps,ag,hl,hr⟩:=O8 m ac aa (fun y hy=>h1 y (by rw [P];simp at hy ⊢;exact aD hy)) (h1 x (by rw [P];simp)) C;subst ha;have N:γ d=none:=by have:=m.me d;rw [z d (by simp),hn] at this;exact this
 unfold Oper.wp;rw [O1 ho ag W.1];show Calls _ _ _ _ _;refine (W.2 (Sg cx.S0 cx.w0.heap.size γ) w _ ⟨hl,fun i hi=>(hr i hi).close (aY ah i hi)⟩).mono ?_;rintro e w' ⟨v,us,rfl,G,q,U,ab,R⟩;have F:=m.below.size;let γ':Gam:=γ.set d (some (v.ownBlock,v));have n:∀ b,v.ownBlock=some b->w.heap.size<=b/\b<w'.heap.size:=fun b n=>by
  rcases q.2 with ⟨O,_⟩|⟨g,cap,Z,O,aj,hh,_⟩
  ·rw [O] at n;simp [Value.ownBlock] at n
  ·rw [O] at n;simp only [Value.ownBlock,aP] at n;subst n;exact ⟨aj,(aE.1 hh).1⟩
 have p:∀ b,own γ' b->v.ownBlock=some b\/own γ b:=fun b ⟨id,s,hi,hm⟩=>by
  by_cases h:id=d
  ·subst h;rw [show γ' id=_ from aL _ _ _] at hi;injection hi with hi;subst hi;exact aF (Fe (Fd (Cw q)) hm)
  ·rw [show γ' id=_ from aH _ _ _ h] at hi;exact aD ⟨id,s,hi,hm⟩
 have T:∀ i x,γ i=some x->i≠d:=fun i x C e=>by subst e;rw [N] at C;cases C
 have J:∀ b,Sg cx.S0 cx.w0.heap.size γ b->b<w.heap.size->Sg cx.S0 cx.w0.heap.size γ' b:=fun b M A=>by
  rcases M with M|⟨h1,z⟩
  ·exact aF M
  ·refine aD ⟨h1,fun t=>?_⟩;rcases p b t with h|h
   ·have:=(n b h).1;omega
   ·exact z h
 refine hK _ _ ⟨γ',?_⟩;rw [I];refine m.step (γ':=γ') (fun x C=>by injection C with C;subst C;exact C0 hd _ I) G.size (fun b M A=>⟨G.block b A,J b M A⟩) (fun i x C=>aF (by rw [show γ' i=_ from aH _ _ _ (T i x C)];exact C)) (fun i hi=>?_) (fun i e' hi=>?_) (fun i j b s1 s2 h1 z m1 m2=>?_) (fun b ai=>?_) (m.below.trans (G.mono F)) (.row (aL _ _ _) (fun g s e _=>by injection e with e;injection e with e e2)) (fun b ad A=>⟨G.block b A,fun t=>by
  rcases p b t with h|h
  ·have:=(n b h).1;omega
  ·exact ad h⟩) (fun h=>absurd (V.symm.trans h) (by simp))
 ·have L:i≠d:=fun e=>by subst e;simp [lkE] at hi
  exact ⟨aH _ _ _ L,fun g' s' af ae=>G.block g' (m.ge g' ⟨i,s',af,ae⟩).2⟩
 ·have L:i=d:=by
   simp only [lkE] at hi;cases X:aO d i with
   |true=>exact (aB X).symm
   |false=>rw [X] at hi;cases hi
  subst L;simp only [lkE,Nat.beq_refl,aP] at hi;subst hi;refine ⟨_,aL _ _ _,v,us,rfl,Cw q,⟨q.1,q.2.elim aF (fun ⟨g,cap,Z,O,hg,r⟩=>aD ⟨g,cap,Z,O,aK F hg,r⟩)⟩,U,fun k hk j hj=>?_,R⟩;refine (ab k hk j hj).mono (aA _) (fun b M A=>⟨rfl,?_⟩);obtain ⟨u,Y⟩:=M;rcases u with u|u
  ·rcases u with u|⟨h1,z⟩
   ·exact aF u
   ·refine aD ⟨h1,fun t=>?_⟩;rcases p b t with h|h
    ·exact Y h
    ·exact z h
  ·refine aD ⟨⟨aK F u,fun h0=>by have:=m.gh _ h0;omega⟩,fun t=>?_⟩;rcases p b t with h|h
   ·exact Y h
   ·have:=(m.ge b h).2;omega
 ·by_cases H:i=d
  ·by_cases D:j=d
   ·rw [H,D]
   ·subst H;rw [show γ' i=_ from aL _ _ _] at h1;rw [show γ' j=_ from aH _ _ _ D] at z;injection h1 with h1
    subst h1;have:=(m.ge b ⟨j,s2,z,m2⟩).2;have:=(n b (Fe (Fd (Cw q)) m1)).1;omega
  ·by_cases D:j=d
   ·subst D;rw [show γ' j=_ from aL _ _ _] at z;rw [show γ' i=_ from aH _ _ _ H] at h1;injection z with z
    subst z;have:=(m.ge b ⟨i,s1,h1,m1⟩).2;have:=(n b (Fe (Fd (Cw q)) m2)).1;omega
   ·rw [show γ' i=_ from aH _ _ _ H] at h1;rw [show γ' j=_ from aH _ _ _ D] at z;exact m.inj i j b s1 s2 h1 z m1 m2
 ·rcases p b ai with h|h
  ·have:=n b h;exact ⟨⟨aK F this.1,fun h0=>by have:=m.gh _ h0;omega⟩,this.2⟩
  ·exact ⟨(m.ge b h).1,Nat.lt_of_lt_of_le (m.ge b h).2 G.size⟩
end
open Go.RowKit
mutual
def AV.ren (ρ:Nat->Nat):AV->AV |.ptr id off=>.ptr (ρ id) off |.row id=>.row (ρ id) |.elt id sz k j=>.elt (ρ id) sz k j |.der b id=>.der b (ρ id) |.cont n id=>.cont n (ρ id) |.fn f cap=>.fn f (AV.renL ρ cap) |.yld l T cap=>.yld l T (AV.renL ρ cap) |.agg cs=>.agg (AV.renL ρ cs) |.tup cs=>.tup (AV.renL ρ cs) |x=>x
def AV.renL (ρ:Nat->Nat):List AV->List AV |[]=>[] |x::r=>x.ren ρ::AV.renL ρ r
end
mutual
def AV.inM (ids:List Nat):AV->Bool |.ptr id _=>memB id ids |.row id=>memB id ids |.elt id _ _ _=>memB id ids |.der _ id=>memB id ids |.cont _ id=>memB id ids |.fn _ cap=>AV.inML ids cap |.yld _ _ cap=>AV.inML ids cap |.agg cs=>AV.inML ids cs |.tup cs=>AV.inML ids cs |_=>true
def AV.inML (ids:List Nat):List AV->Bool |[]=>true |x::r=>x.inM ids && AV.inML ids r
end
theorem AV.renL_length (ρ:Nat->Nat)(l:List AV):(AV.renL ρ l).length=l.length:=by
 induction l with
 |nil=>rfl
 |cons x r ih=>simp [AV.renL,ih]
theorem AV.renL_at (ρ:Nat->Nat)(l:List AV)(i:Nat)(hi:i<l.length):(AV.renL ρ l)[i]'(by rw [AV.renL_length];exact hi)=l[i].ren ρ:=by
 induction l generalizing i with
 |nil=>simp at hi
 |cons x r ih =>
  cases i with
  |zero=>rfl
  |succ i=>exact ih i (by simpa using hi)
variable {ids:List Nat}
theorem AV.inML_at {l:List AV}(h:AV.inML ids l=true)(i:Nat)(hi:i<l.length):l[i].inM ids=true:=by
 induction l generalizing i with
 |nil=>simp at hi
 |cons x r ih =>
  simp only [AV.inML,Bool.and_eq_true] at h;cases i with
  |zero=>exact h.1
  |succ i=>exact ih h.2 i (by simpa using hi)
variable {ρ:Nat->Nat}
theorem Rep.ren (k:∀ id,id∈ids->γ' id=γ (ρ id)){u:AV}(h:Rep w S γ u v):∀ av:AV,u=av.ren ρ->av.inM ids=true->Rep w S γ' av v:=by
 induction h with
 |any=>intro av e hi;cases av<;>simp [AV.ren] at e;exact .any _
 |int=>intro av e hi;cases av<;>simp [AV.ren] at e;obtain ⟨rfl,rfl⟩:=e;exact .int _ _
 |bool=>intro av e hi;cases av<;>simp [AV.ren] at e;subst e;exact .bool _
 |str=>intro av e hi;cases av<;>simp [AV.ren] at e;subst e;exact .str _
 |nilp=>intro av e hi;cases av<;>simp [AV.ren] at e;exact .nilp
 |nils=>intro av e hi;cases av<;>simp [AV.ren] at e;exact .nils
 |nilf=>intro av e hi;cases av<;>simp [AV.ren] at e;exact .nilf
 |ptr h m =>
  intro av e hi;cases av<;>simp [AV.ren] at e;obtain ⟨rfl,rfl⟩:=e;exact .ptr ((k _ ((Db _ _).1 hi)).trans h) m
 |elt h m =>
  intro av e hi;cases av<;>simp [AV.ren] at e;obtain ⟨rfl,rfl,rfl,rfl⟩:=e;exact .elt ((k _ ((Db _ _).1 hi)).trans h) m
 |row h m =>
  intro av e hi;cases av<;>simp [AV.ren] at e;subst e;exact .row ((k _ ((Db _ _).1 hi)).trans h) m
 |der h m =>
  intro av e hi;cases av<;>simp [AV.ren] at e;obtain ⟨rfl,rfl⟩:=e;exact .der ((k _ ((Db _ _).1 hi)).trans h) m
 |cont h m q =>
  intro av e hi;cases av<;>simp [AV.ren] at e;obtain ⟨rfl,rfl⟩:=e;exact .cont ((k _ ((Db _ _).1 hi)).trans h) m q
 |mapv y G g es clock t C J I q H m F D=>intro av e hi;cases av<;>simp [AV.ren] at e;subst e;exact .mapv y G g es clock t C J I q H m
 |mapn=>intro av e hi;cases av<;>simp [AV.ren] at e;subst e;exact .mapn
 |slen A n c=>intro av e hi;cases av<;>simp [AV.ren] at e;subst e;exact .slen A _ c
 |sl A c cell z s t r h1 p=>intro av e hi;cases av<;>simp [AV.ren] at e;obtain ⟨rfl,rfl⟩:=e;exact .sl A c cell z s t r h1
 |ref b off cell C t z r h1 p=>intro av e hi;cases av<;>simp [AV.ren] at e;subst e;exact .ref b off cell C t z r h1
 |fn vs q r p =>
  intro av e hi;cases av<;>simp [AV.ren] at e;obtain ⟨rfl,rfl⟩:=e;simp only [AV.inM] at hi;exact .fn vs (by rw [q,AV.renL_length]) (fun i j=>p i (by rw [AV.renL_length];exact j) k _ (AV.renL_at _ _ _ _) (AV.inML_at hi i j))
 |yld r p =>
  intro av e hi;cases av<;>simp [AV.ren] at e;obtain ⟨rfl,rfl,rfl⟩:=e;simp only [AV.inM] at hi;exact .yld (fun i j=>p i (by rw [AV.renL_length];exact j) k _ (AV.renL_at _ _ _ _) (AV.inML_at hi i j))
 |agg vs q r h1 p =>
  intro av e hi;cases av<;>simp [AV.ren] at e;subst e;simp only [AV.inM] at hi;exact .agg vs (by rw [q,AV.renL_length]) (fun i j=>p i (by rw [AV.renL_length];exact j) k _ (AV.renL_at _ _ _ _) (AV.inML_at hi i j)) h1
 |tup vs q r p =>
  intro av e hi;cases av<;>simp [AV.ren] at e;subst e;simp only [AV.inM] at hi;exact .tup vs (by rw [q,AV.renL_length]) (fun i j=>p i (by rw [AV.renL_length];exact j) k _ (AV.renL_at _ _ _ _) (AV.inML_at hi i j))
def rho:List (Nat×Nat)->Nat->Nat
 |[],i=>i
 |(a,b)::r,i=>match aO a i with|true=>b|false=>rho r i
def Ent.renI (ρ:Nat->Nat):Ent->Ent |.box ty cs=>.box ty (AV.renL ρ cs) |e=>e
def Ent.inM (ids:List Nat):Ent->Bool |.box _ cs=>AV.inML ids cs |_=>true
def LeV (σ:AS)(ρ:Nat->Nat)(ids:List Nat):List (Nat×AV)->Prop |[]=>True |(t,av)::r=>(σ.get t=av.ren ρ/\av.inM ids=true)/\LeV σ ρ ids r
def LeE (σ:AS)(ρ:Nat->Nat)(ids:List Nat):List (Nat×Ent)->Prop |[]=>True |(i,e)::r=>(σ.find (ρ i)=some (e.renI ρ)/\e.inM ids=true)/\LeE σ ρ ids r
def injB (ρ:Nat->Nat)(ids:List Nat):Bool:=ids.all fun i=>ids.all fun j=>!(aO (ρ i) (ρ j)) || aO i j
variable {σ:AS}
theorem LeV.get {l:List (Nat×AV)}(h:LeV σ ρ ids l)(t:Nat):lkV l t=.any\/(σ.get t=(lkV l t).ren ρ/\(lkV l t).inM ids=true):=by
 induction l with
 |nil=>exact aF rfl
 |cons x r ih =>
  obtain ⟨u,av⟩:=x;simp only [LeV] at h;simp only [lkV];cases b:aO u t with
  |true=>have:=aB b;subst this;exact aD h.1
  |false=>exact ih h.2
variable {l:List (Nat×Ent)}
theorem LeE.get (h:LeE σ ρ ids l)(i:Nat):lkE l i=none\/∃ e,lkE l i=some e/\σ.find (ρ i)=some (e.renI ρ)/\e.inM ids=true:=by
 induction l with
 |nil=>exact aF rfl
 |cons x r ih =>
  obtain ⟨u,e⟩:=x;simp only [LeE] at h;simp only [lkE];cases b:aO u i with
  |true=>have:=aB b;subst this;exact aD ⟨e,rfl,h.1⟩
  |false=>exact ih h.2
theorem O2 {i:Nat}:lkE l i≠none ↔ i∈l.map (·.1):=by
 constructor
 ·exact zj5
 ·intro h
  induction l with
  |nil=>simp at h
  |cons x r ih =>
   obtain ⟨u,e⟩:=x;simp only [lkE];cases b:aO u i with
   |true=>simp
   |false =>
    simp only [map_cons,mem_cons] at h;rcases h with h|h
    ·subst h;simp at b
    ·exact ih h
variable {d:Option (Option Nat×Value)}{ty:TypeId}
theorem Bq.nest_mono {B:Nat}{es:List NE}(h:Bq w S γ B d (.nest ty es))(p:∀ b,S b->S' b):Bq w S' γ' B d (.nest ty es):=by
 obtain ⟨s,vs,m,h1,c,g,i,e⟩:=h;exact ⟨s,vs,m,h1,c,g,fun k j=>(i k j).moved (aA _) (fun b n _=>⟨rfl,p b n⟩) (fun _ _=>rfl),e⟩
theorem Bq.mpn_mono {B:Nat}{q:List (AV×NE)}(h:Bq w S γ B d (.mpn q))(r:∀ b,S b->S' b):Bq w S' γ' B d (.mpn q):=by
 obtain ⟨g,es,vs,z,y,t,e,n,m,c,s,i⟩:=h;exact ⟨g,es,vs,z,y,t,e,n,fun j h A=>(m j h A).mono (aA _) (fun b p _=>⟨rfl,r b p⟩),c,fun k u=>(s k u).moved (aA _) (fun b p _=>⟨rfl,r b p⟩) (fun _ _=>rfl),i⟩
theorem Le.of {cx:Cx}{τ:AS}(u:List (Nat×Nat))(A:injB (rho u) (τ.me.map (·.1))=true)(h1:LeV σ (rho u) (τ.me.map (·.1)) τ.tm)(F:LeE σ (rho u) (τ.me.map (·.1)) τ.me):Le cx σ τ:=fun a w ⟨γ,h⟩=>by
 generalize I:τ.me.map (·.1)=ids at *;generalize rho u=ρ at *;have z:∀ i,lkE τ.me i≠none ↔ i∈ids:=fun i=>by rw [O2,I]
 let γ':Gam:=fun i=>if i∈ids then γ (ρ i) else none
 have c:∀ i,i∈ids->γ' i=γ (ρ i):=fun i hi=>if_pos hi
 have m:∀ b,own γ' b->own γ b:=fun b ⟨i,s,hi,n⟩=>by
  by_cases hm:i∈ids
  ·rw [c i hm] at hi;exact ⟨_,s,hi,n⟩
  ·rw [show γ' i=none from if_neg hm] at hi;cases hi
 have C:∀ b,Sg cx.S0 cx.w0.heap.size γ b->Sg cx.S0 cx.w0.heap.size γ' b:=fun b n=>n.elim aF (fun ⟨h1,F⟩=>aD ⟨h1,fun O=>F (m b O)⟩)
 have D:∀ {g:Gam} {av v},Rep w (Sg cx.S0 cx.w0.heap.size γ) g av v->Rep w (Sg cx.S0 cx.w0.heap.size γ') g av v:=fun h=>h.mono (aA _) (fun b n _=>⟨rfl,C b n⟩)
 refine ⟨γ',fun t=>?_,fun i=>?_,fun i j b s V hi G mi mj=>?_,fun b n=>h.ge b (m b n),h.below,h.size,h.defers.gam m,h.gh,fun b n=>by obtain ⟨U,T,R⟩:=h.fr b n;exact ⟨fun O=>U (m b O),T,R⟩,h.dr⟩
 ·rcases h1.get t with y|⟨y,hm⟩
  ·unfold AS.get;rw [y];exact .any _
  ·have:=h.tm t;rw [y] at this;exact D (this.ren c _ rfl hm)
 ·rcases F.get i with y|⟨e,y,Q,hm⟩
  ·unfold AS.find;rw [y];have:i ∉ ids:=fun hi=>(z i).2 hi y
   exact if_neg this
  ·unfold AS.find;rw [y];have hi:i∈ids:=(z i).1 (by rw [y];simp);rw [c i hi];have:=h.me (ρ i);rw [Q] at this;obtain ⟨x,P,r⟩:=this;refine ⟨x,P,?_⟩;cases e with
   |box ty cs =>
    obtain ⟨g,vs,J,n,M,N,q⟩:=r;simp only [Ent.inM] at hm;refine ⟨g,vs,J,n,by rw [M,AV.renL_length],fun k K=>D ((N k (by rw [AV.renL_length];exact K)).ren c _ (AV.renL_at _ _ _ _) (AV.inML_at hm k K)),q⟩
   |row ty sz xs =>
    obtain ⟨s,vs,J,h1,m,H,N,q⟩:=r;exact ⟨s,vs,J,h1,m,H,fun k K j G=>D (N k K j G),q⟩
   |mp u =>
    obtain ⟨g,J,hm⟩:=r;exact ⟨g,J,hm.move (aA _) (fun b n _=>⟨rfl,C b n⟩) rfl⟩
   |nest ty es=>exact Bq.nest_mono r C
   |mpn u=>exact Bq.mpn_mono r C
   |are ty idx os=>exact r.gmono (fun _ _ h=>by cases h) C
   |it u=>exact r.gmono (fun _ _ h=>by cases h) C
   |itp u=>exact r.gmono (fun _ _ h=>by cases h) C
   |itc p u=>exact r.gmono (fun _ _ h=>by cases h) C
   |dead=>exact r
 ·by_cases h1:i∈ids
  ·by_cases F:j∈ids
   ·rw [c i h1] at hi;rw [c j F] at G;have e:=h.inj _ _ _ _ _ hi G mi mj;simp only [injB,all_eq_true,Bool.or_eq_true,Bool.not_eq_true'] at A;rcases A i h1 j F with L|L
    ·rw [e] at L;simp at L
    ·exact aB L
   ·rw [show γ' j=none from if_neg F] at G;cases G
  ·rw [show γ' i=none from if_neg h1] at hi;cases hi
def Tl (σ:AS):AV->AV |.tup cs=>.tup (cs.map (Oh σ)) |x=>Oh σ x
def retA (tab:List (Nat×TyI))(σ:AS):List ResultVar->Option (List AV)
 |[]=>some []
 |.tmp t::r=>(retA tab σ r).map (σ.get t::·)
 |.cell t T::r=>match σ.get t,lkT tab T with
  |.ptr id off,some i=>match σ.find id with
   |some (.box _ cs)=>match i.shape.agg with
    |true=>match Nat.ble (off+i.sz) cs.length with
     |true=>(retA tab σ r).map (.agg ((cs.drop off).take i.sz)::·)
     |false=>none
    |false=>match cs[off]? with
     |some av=>(retA tab σ r).map (av::·)
     |none=>none
   |_=>none
  |_,_=>none
def K4:List AV->AV |[x]=>x |xs=>.tup xs
section
variable {cx:Cx} {γ:Gam} {σ:AS} {a:Act} {w:World}
theorem zn9 {id off T:Nat}{i:TyI}{cs:List AV}(q:StG cx γ σ a w)(y:Rep w (Sg cx.S0 cx.w0.heap.size γ) γ (.ptr id off) v)(G:lkT cx.E.tab T=some i)(F:i.shape.agg=true)(C:σ.find id=some (.box ty cs))(H:off+i.sz<=cs.length) :
  ∃ u,((do loadVar T (<-asAddr v)):Sem Value).run cx.P w=.ok u w/\Rep w (Sg cx.S0 cx.w0.heap.size γ) γ (.agg ((cs.drop off).take i.sz)) u:=by
 have m:=q.me id;rw [C] at m;obtain ⟨d,t,g,vs,s,D,z,A,k⟩:=m;subst s;have e:=y.ptr_inv t;subst e;have b:((range i.sz).map fun j=>vs.getD (off+j) undef).length=i.sz:=by simp
 have h:=W8 (cx.E.ok T i G) F w ⟨g,off,none⟩ ((range i.sz).map fun j=>vs.getD (off+j) undef) b (fun j v p=>by
  obtain ⟨r,n⟩:=List.getElem?_eq_some_iff.1 p;rw [b] at r;simp only [aJ,getElem_range] at n;rw [Addr.add_lit,O0 D _ (by omega),n])
 refine ⟨.agg ((range i.sz).map fun j=>vs.getD (off+j) undef).toArray,by simp only [asAddr,Sem.run_bind,Sem.run_pure,Result.andThen_ok,h],.agg _ (by simp;omega) (fun j p=>?_) (fun j p=>?_)⟩
 ·rw [length_take,length_drop] at p;simp only [getElem_take,getElem_drop];have:((range i.sz).map fun j=>vs.getD (off+j) undef).toArray.getD j undef=vs.getD (off+j) undef:=by
   have c:j<i.sz:=by omega
   simp [c]
  rw [this];exact A (off+j) (by omega)
 ·have c:j<i.sz:=by simpa using p
  have:((range i.sz).map fun j=>vs.getD (off+j) undef).toArray.getD j undef=vs.getD (off+j) undef:=by simp [c]
  rw [this];exact k _ (by omega)
theorem zn8 {id off T:Nat}{i:TyI}{cs:List AV}(h:StG cx γ σ a w)(q:Rep w (Sg cx.S0 cx.w0.heap.size γ) γ (.ptr id off) v)(C:lkT cx.E.tab T=some i)(A:i.shape.agg=false)(t:σ.find id=some (.box ty cs))(y:cs[off]? = some av) :
  ∃ u,((do loadVar T (<-asAddr v)):Sem Value).run cx.P w=.ok u w/\Rep w (Sg cx.S0 cx.w0.heap.size γ) γ av u:=by
 have c:=h.me id;rw [t] at c;obtain ⟨d,m,g,vs,k,z,r,s,p⟩:=c;subst k;have e:=q.ptr_inv m;subst e;obtain ⟨j,n⟩:=List.getElem?_eq_some_iff.1 y;have b:=N8 (cx.E.ok T i C) A w ⟨g,off,none⟩ (vs.getD off undef) (O0 z off (by omega));refine ⟨vs.getD off undef,by simp only [asAddr,Sem.run_bind,Sem.run_pure,Result.andThen_ok,b],?_⟩;have:=s off j
 rwa [n] at this
def K0 (tmps:Array Value):ResultVar->Sem Value
 |.tmp t=>pure (tmps.getD t undef)
 |.cell a t=>do loadVar t (<-asAddr (tmps.getD a undef))
theorem zdg (e:StG cx γ σ a w):∀ (l:List ResultVar) (avs:List AV),retA cx.E.tab σ l=some avs ->
  ∃ vs:List Value,(l.mapM (K0 a.tmps)).run cx.P w=.ok vs w/\vs.length=avs.length/\∀ i (hi:i<avs.length),Rep w (Sg cx.S0 cx.w0.heap.size γ) γ avs[i] (vs.getD i undef)
 |[],avs,h=>by
  simp only [retA,aP] at h;subst h;exact ⟨[],by simp [pure],rfl,fun i hi=>by simp at hi⟩
 |x::r,avs,h=>by
  have key:∀ (av:AV) (b:List AV),retA cx.E.tab σ r=some b->avs=av::b->(∃ u,(K0 a.tmps x).run cx.P w=.ok u w/\Rep w (Sg cx.S0 cx.w0.heap.size γ) γ av u) ->
    ∃ vs:List Value,((x::r).mapM (K0 a.tmps)).run cx.P w=.ok vs w/\vs.length=avs.length/\∀ i (hi:i<avs.length),Rep w (Sg cx.S0 cx.w0.heap.size γ) γ avs[i] (vs.getD i undef):=by
   rintro av b c rfl ⟨u,z,n⟩;obtain ⟨vs,h1,C,A⟩:=zdg e r b c;refine ⟨u::vs,?_,by simp [C],fun i hi=>?_⟩
   ·rw [mapM_cons];simp only [Sem.run_bind,z,Result.andThen_ok,h1,Sem.run_pure]
   ·cases i with
    |zero=>exact n
    |succ i=>have:=A i (by simpa using hi);simpa using this
  cases x with
  |tmp t =>
   simp only [retA,aG] at h;obtain ⟨b,c,m⟩:=h;exact key _ b c m.symm ⟨_,by simp [K0,pure],e.tm t⟩
  |cell t T =>
   simp only [retA] at h;split at h
   ·rename_i id off i j y;split at h
    ·rename_i ty cs s;split at h
     ·rename_i g;split at h
      ·rename_i p;simp only [aG] at h;obtain ⟨b,c,m⟩:=h;have k:=e.tm t;rw [j] at k;exact key _ b c m.symm (zn9 e k y g s (Nat.le_of_ble_eq_true p))
      ·cases h
     ·rename_i g;split at h
      ·rename_i av q;simp only [aG] at h;obtain ⟨b,c,m⟩:=h;have k:=e.tm t;rw [j] at k;exact key _ b c m.symm (zn8 e k y g s q)
      ·cases h
    ·cases h
   ·cases h
theorem zue (fn:Func)(tmps:Array Value):results fn tmps=(fn.results.mapM (K0 tmps) >>= fun vs=>pure (if h:vs.size=1 then vs[0] else .tuple vs)):=by
 unfold results;have e:(fun x:ResultVar=>match x with
  |.tmp t=>(pure (tmps.getD t undef):Sem Value)
  |.cell a t=>(do loadVar t (<-asAddr (tmps.getD a undef)):Sem Value))=K0 tmps:=by funext x;cases x<;>rfl
 rw [<-e];rfl
theorem Wq (e:StG cx γ σ a w){fn:Func}{avs:List AV}(h:retA cx.E.tab σ fn.results.toList=some avs):∃ v,(results fn a.tmps).run cx.P w=.ok v w/\Rep w (Sg cx.S0 cx.w0.heap.size γ) γ (K4 avs) v:=by
 obtain ⟨vs,h1,c,j⟩:=zdg e fn.results.toList avs h;have hm:(fn.results.mapM (K0 a.tmps)).run cx.P w=.ok vs.toArray w:=by
  rw [Array.mapM_eq_mapM_toList];show Sem.run cx.P (mapM (K0 a.tmps) fn.results.toList >>= fun l=>pure l.toArray) w=_;simp only [Sem.run_bind,h1,Result.andThen_ok,Sem.run_pure]
 have b:(results fn a.tmps).run cx.P w=.ok (if h:vs.toArray.size=1 then vs.toArray[0] else .tuple vs.toArray) w:=by
  rw [zue];simp only [Sem.run_bind,hm,Result.andThen_ok,Sem.run_pure]
 refine ⟨_,b,?_⟩;cases avs with
 |nil =>
  have:vs=[]:=aU.1 c;subst this;exact .tup #[] rfl (fun i hi=>by simp at hi)
 |cons x r =>
  cases r with
  |nil =>
   obtain ⟨u,rfl⟩:∃ u,vs=[u]:=by
    cases vs with
    |nil=>simp at c
    |cons u t=>cases t with
     |nil=>exact ⟨u,rfl⟩
     |cons _ _=>simp at c
   exact j 0 (by simp)
  |cons y r =>
   have g:¬vs.toArray.size=1:=by simp [c]
   rw [dif_neg g];refine .tup vs.toArray (by simpa using c) (fun i hi=>?_);have:=j i hi;simpa using this
end
mutual
def fAV {α:Type}:AV->(AV->α)->α |.any,k=>k .any |.int kd n,k=>k (.int kd n) |.bool b,k=>k (.bool b) |.str s,k=>k (.str s) |.nilp,k=>k .nilp |.ptr id off,k=>k (.ptr id off) |.nils,k=>k .nils |.sl sz xs,k=>k (.sl sz xs) |.row id,k=>k (.row id) |.elt id sz m j,k=>k (.elt id sz m j) |.fn f cap,k=>fL cap fun l=>k (.fn f l) |.yld r T cap,k=>fL cap fun l=>k (.yld r T l) |.nilf,k=>k .nilf |.agg cs,k=>fL cs fun l=>k (.agg l) |.tup cs,k=>fL cs fun l=>k (.tup l) |.ref cs,k=>k (.ref cs) |.der c id,k=>k (.der c id) |.cont n id,k=>k (.cont n id) |.mapv ps,k=>k (.mapv ps) |.slen n,k=>k (.slen n)
def fL {α:Type}:List AV->(List AV->α)->α |[],k=>k [] |x::r,k=>fAV x fun b=>fL r fun c=>k (b::c)
end
mutual
theorem Og {α:Type}:∀ (v:AV) (k:AV->α),fAV v k=k v
 |.any,k=>rfl
 |.int kd n,k=>rfl
 |.bool b,k=>rfl
 |.str s,k=>rfl
 |.nilp,k=>rfl
 |.ptr id off,k=>rfl
 |.nils,k=>rfl
 |.sl sz xs,k=>rfl
 |.row id,k=>rfl
 |.elt id sz m j,k=>rfl
 |.fn f cap,k=>by rw [fAV,Ol]
 |.yld r T cap,k=>by rw [fAV,Ol]
 |.nilf,k=>rfl
 |.agg cs,k=>by rw [fAV,Ol]
 |.tup cs,k=>by rw [fAV,Ol]
 |.ref cs,k=>rfl
 |.der c id,k=>rfl
 |.cont n id,k=>rfl
 |.mapv ps,k=>rfl
 |.slen n,k=>rfl
theorem Ol {α:Type}:∀ (l:List AV) (k:List AV->α),fL l k=k l
 |[],k=>rfl
 |x::r,k=>by rw [fL,Og,Ol]
end
mutual
inductive Sub:AV->AV->Prop
 |refl (v:AV):Sub v v
 |nil (sz:Nat):Sub .nils (.sl sz [])
 |any (v:AV):Sub v .any
 |agg {cs ds:List AV} (h:SubL cs ds):Sub (.agg cs) (.agg ds)
 |tup {cs ds:List AV} (h:SubL cs ds):Sub (.tup cs) (.tup ds)
 |fn {f:FuncId} {cs ds:List AV} (h:SubL cs ds):Sub (.fn f cs) (.fn f ds)
 |yld {l:Nat} {T:Array Value} {cs ds:List AV} (h:SubL cs ds):Sub (.yld l T cs) (.yld l T ds)
 |sl (sz:Nat) {xs ys:List AV} (h:SubE xs ys):Sub (.sl sz xs) (.sl sz ys)
inductive SubL:List AV->List AV->Prop
 |nil:SubL [] []
 |cons {x y:AV} {r s:List AV} (h:Sub x y) (hr:SubL r s):SubL (x::r) (y::s)
inductive SubE:List AV->List AV->Prop
 |nil:SubE [] []
 |cons {x y:AV} {r s:List AV} (h:SubL x.cells y.cells) (hr:SubE r s):SubE (x::r) (y::s)
end
variable {cs ds:List AV}
theorem SubE.len (h:SubE cs ds):cs.length=ds.length:=by
 induction cs generalizing ds with
 |nil=>cases h;rfl
 |cons x r ih=>cases h with
  |cons c b=>simp [ih b]
theorem SubE.at (h:SubE cs ds)(i:Nat)(hi:i<cs.length)(b:i<ds.length):SubL cs[i].cells ds[i].cells:=by
 induction cs generalizing ds i with
 |nil=>simp at hi
 |cons x r ih=>cases h with
  |cons c e=>cases i with
   |zero=>exact c
   |succ i=>exact ih e i (by simpa using hi) (by simpa using b)
theorem SubL.len (h:SubL cs ds):cs.length=ds.length:=by
 induction cs generalizing ds with
 |nil=>cases h;rfl
 |cons x r ih=>cases h with
  |cons c b=>simp [ih b]
theorem SubL.at (h:SubL cs ds)(i:Nat)(hi:i<cs.length)(b:i<ds.length):Sub cs[i] ds[i]:=by
 induction cs generalizing ds i with
 |nil=>simp at hi
 |cons x r ih=>cases h with
  |cons c e=>cases i with
   |zero=>exact c
   |succ i=>exact ih e i (by simpa using hi) (by simpa using b)
theorem Rep.sub (h:Rep w S γ av v):∀ {bv:AV},Sub av bv->Rep w S γ bv v:=by
 induction h with
 |any v=>intro bv e;cases e<;>exact .any _
 |int k n=>intro bv e;cases e<;>first|exact .int _ _|exact .any _
 |bool b=>intro bv e;cases e<;>first|exact .bool _|exact .any _
 |str s=>intro bv e;cases e<;>first|exact .str _|exact .any _
 |nilp=>intro bv e;cases e<;>first|exact .nilp|exact .any _
 |nilf=>intro bv e;cases e<;>first|exact .nilf|exact .any _
 |ptr h p=>intro bv e;cases e<;>first|exact .ptr h p|exact .any _
 |elt h p=>intro bv e;cases e<;>first|exact .elt h p|exact .any _
 |row h p=>intro bv e;cases e<;>first|exact .row h p|exact .any _
 |der h p=>intro bv e;cases e<;>first|exact .der h p|exact .any _
 |cont h p m=>intro bv e;cases e<;>first|exact .cont h p m|exact .any _
 |mapv G O g es clock C H Q P m r p N M=>intro bv e;cases e<;>first|exact .mapv G O g es clock C H Q P m r p|exact .any _
 |mapn=>intro bv e;cases e<;>first|exact .mapn|exact .any _
 |slen A n c=>intro bv e;cases e<;>first|exact .slen A _ c|exact .any _
 |nils =>
  intro bv e;cases e with
  |refl=>exact .nils
  |any=>exact .any _
  |nil sz=>exact .sl (xs:=[]) none 0 (fun _ _=>.bool true) (aA _) (fun k r=>absurd r (by simp)) (fun h=>absurd h (by simp)) (fun k r=>absurd r (by simp)) (fun _ _=>rfl)
 |sl A c cell D u C q h1 t =>
  intro bv e;cases e with
  |refl=>exact .sl A c cell D u C q h1
  |any=>exact .any _
  |sl sz h =>
   have m:=h.len;rw [m] at D ⊢;refine .sl A c cell D (fun k r=>?_) (fun R=>?_) (fun k r j F=>?_) h1
   ·rw [<-(h.at k (by omega) r).len];exact u k (by omega)
   ·obtain ⟨b,off,L,K,J,I⟩:=C (by omega);exact ⟨b,off,L,K,J,fun k j r F=>I k j (by omega) F⟩
   ·have y:=r;rw [<-m] at y;have e:=h.at k y r;have z:=F;rw [<-e.len] at z;exact t k y j z (e.at j z F)
 |ref b off cell H C D q h1 t=>intro bv e;cases e<;>first|exact .ref b off cell H C D q h1|exact .any _
 |fn vs m q t =>
  intro bv e;cases e with
  |refl=>exact .fn vs m q
  |any=>exact .any _
  |fn h=>exact .fn vs (by rw [m,h.len]) (fun i hi=>t i (by rw [h.len];exact hi) (h.at i _ hi))
 |yld q t =>
  intro bv e;cases e with
  |refl=>exact .yld q
  |any=>exact .any _
  |yld h=>exact .yld (fun i hi=>t i (by rw [h.len];exact hi) (h.at i _ hi))
 |agg vs m q h1 t =>
  intro bv e;cases e with
  |refl=>exact .agg vs m q h1
  |any=>exact .any _
  |agg h=>exact .agg vs (by rw [m,h.len]) (fun i hi=>t i (by rw [h.len];exact hi) (h.at i _ hi)) h1
 |tup vs m q t =>
  intro bv e;cases e with
  |refl=>exact .tup vs m q
  |any=>exact .any _
  |tup h=>exact .tup vs (by rw [m,h.len]) (fun i hi=>t i (by rw [h.len];exact hi) (h.at i _ hi))
variable {E:Env}{f:FuncId}{res:AV}
theorem Con.sub {c:Bool}{avs bvs:List AV}(h:SubL avs bvs)(b:Con E c f bvs res):Con E c f avs res :=
 ⟨b.1,fun S w vs ⟨g,e⟩=>b.2 S w vs ⟨by rw [g,h.len],fun i hi=>(e i (by rw [h.len];exact hi)).sub (h.at i _ hi)⟩⟩
variable {sz:Nat}{xs:List AV}
theorem Fi.sub {avs bvs:List AV}{ty:Nat}(h:SubL avs bvs)(b:Fi E f bvs ty sz xs):Fi E f avs ty sz xs :=
 ⟨b.1,fun S w vs ⟨e,c⟩=>b.2 S w vs ⟨by rw [e,h.len],fun i hi=>(c i (by rw [h.len];exact hi)).sub (h.at i _ hi)⟩⟩
inductive RetX (v res:AV):Prop
 |sub (h:Sub v res)
theorem RetX.mk {v:AV}(h:v=res):RetX v res:=.sub (h▸.refl v)
inductive RowX (ty sz:Nat) (xs:List AV) (ty' sz':Nat) (xs':List AV):Prop
 |mk (h1:ty=ty') (h2:sz=sz') (h3:xs=xs')
def endA (E:Env)(fn:Func)(res:AV)(σ:AS):Prop:=match retA E.tab σ fn.results.toList with
 |some avs=>fAV (Tl σ (K4 avs)) fun v=>RetX v res
 |none=>False
def EndA (E:Env)(fn:Func)(res:AV):Exit->AS->Prop |.normal,σ=>endA E fn res σ |.ret,σ=>endA E fn res σ |_,_=>False
variable {fn:Func}
theorem Zv (h:endA E fn res σ):∃ avs,retA E.tab σ fn.results.toList=some avs/\Sub (Tl σ (K4 avs)) res:=by
 unfold endA at h;split at h
 ·rename_i avs b;rw [Og] at h;cases h with
  |sub h=>exact ⟨avs,b,h⟩
 ·exact h.elim
def Es (args:List AV):AS:=⟨args.zipIdx.map fun p=>(p.2,p.1),[]⟩
theorem zj2:∀ (l:List AV) (n t:Nat),lkV ((l.zipIdx n).map fun p=>(p.2,p.1)) t=if h:n<=t/\t<n+l.length then l[t-n]'(by omega) else .any
 |[],n,t=>by simp [lkV];intro h;omega
 |x::r,n,t=>by
  simp only [zipIdx_cons,map_cons,lkV];cases b:aO n t with
  |true=>have:=aB b;subst this;simp
  |false =>
   have c:n≠t:=fun e=>by subst e;simp at b
   simp only;rw [zj2 r (n+1) t];by_cases h:n+1<=t/\t<n+1+r.length
   ·rw [dif_pos h,dif_pos (by simp;omega)];have:t-n=(t-(n+1))+1:=by omega
    simp only [this,getElem_cons_succ]
   ·rw [dif_neg h,dif_neg (by simp;omega)]
variable {args:List AV}
theorem Zy {vs:Array Value}{nt:Nat}(g:E.yl=none)(n:E.np=0)(h:Args w S args vs)(z:args.length<=nt):St (Cx.call E S w nt) (Es args) { tmps:=vs++aR (nt-vs.size) undef,defers:=[] } w:=by
 obtain ⟨q,m⟩:=h;refine ⟨G0,fun t=>?_,fun i=>rfl,fun i j b s y h=>(by cases h),fun b ⟨i,s,h,_⟩=>(by cases h),Below.refl _ _,by simp [Cx.call];omega,⟨fun _=>rfl,⟨[],rfl,.nil,fun r m=>by cases m⟩,fun t k=>by rw [show (Cx.call E S w nt).E.np=0 from n] at k;omega,fun l R q=>absurd (g.symm.trans q) (by simp),aA _⟩,fun b p=>p.2,fun b p=>p.elim,fun _=>aA _⟩;unfold AS.get Es;rw [zj2];by_cases h:0<=t/\t<0+args.length
 ·rw [dif_pos h];have k:t<vs.size:=by omega
  have e:(vs++aR (nt-vs.size) undef).getD t undef=vs.getD t undef:=by
   rw [aC,aC,aN k]
  show Rep w _ G0 _ ((vs++aR (nt-vs.size) undef).getD t undef);rw [e];refine (m t (by omega)).mono (aA _) (fun b u c=>⟨rfl,aF ⟨⟨u,c⟩,c⟩⟩)
 ·rw [dif_neg h];exact .any _
theorem zia {cx:Cx}{a:Act}(c:StG cx γ σ a w)(e:∀ b,Sg cx.S0 cx.w0.heap.size γ b\/own γ b->S' b)(h:Rep w (Sg cx.S0 cx.w0.heap.size γ) γ av v):Rep w S' G0 (Tl σ av) v:=by
 cases av with
 |tup cs =>
  obtain ⟨vs,rfl,k,j⟩:=h.tup_inv;simp only [Tl];refine .tup vs (by simpa using k) (fun i hi=>?_);have g:i<cs.length:=by simpa using hi
  simp only [aJ];exact zbt c e (j i g) (fun _ _=>rfl)
 |_=>exact zbt c e h (fun _ _=>rfl)
theorem Con.of {s:Bool}{c:Code}(A:E.P.funcs[f]? = some fn)(i:fn.body=some c)(C:Ci E f)(z:args.length<=fn.ntmps)(j:s=false\/res.flat=true)
  (h:∀ S w,WP (Cx.call E S w fn.ntmps) c (EndA E fn res) (Es args)) (p:E.rg=false) (m:E.yl=none) (r:E.np=0):Con E s f args res:=by
 refine ⟨C,fun S w vs D=>callsIn_wide.1 (callsIn_of_wp (F:=Fence.wide) (n:=0) A i trivial ?_)⟩;refine wpIn_mono (h S w _ _ (Zy m r D z)) (fun e a w' ⟨σ,q,γ,g⟩=>?_);have key:(∃ avs,retA E.tab σ fn.results.toList=some avs/\Sub (Tl σ (K4 avs)) res)->bodyPost E.P fn (fun e w'=>∃ v,e=.returned v/\BelE E w w'/\Rep w' (fun b=>(s=false/\S b)\/w.heap.size<=b) G0 res v) .ret a w':=by
  rintro ⟨avs,h1,k⟩;obtain ⟨v,u,y⟩:=Wq g h1;refine ⟨g.defers.d0 p,v,u,v,rfl,⟨g.below,g.dr⟩,?_⟩;have t:=(zia (S':=fun b=>S b\/w.heap.size<=b) g (fun b i=>?_) y).sub k
  ·rcases j with j|j
   ·exact t.mono (aA _) (fun b i _=>⟨rfl,i.elim (fun h=>aF ⟨j,h⟩) aD⟩)
   ·exact t.flat j
  ·rcases i with i|i
   ·rcases i with ⟨i,_⟩|⟨i,_⟩
    ·exact aF i.1
    ·exact aD i.1
   ·exact aD (g.ge b i).1.1
 cases e with
 |normal=>exact key (Zv q)
 |ret=>exact key (Zv q)
 |_=>exact q.elim
def endR (fn:Func)(ty sz:Nat)(xs:List AV)(σ:AS):Prop:=match fn.results.toList with
 |[.tmp t]=>match σ.get t with
  |.row id=>match σ.find id with
   |some (.row c e b)=>RowX c e b ty sz xs
   |_=>False
  |_=>False
 |_=>False
def EndR (fn:Func)(ty sz:Nat)(xs:List AV):Exit->AS->Prop |.normal,σ=>endR fn ty sz xs σ |.ret,σ=>endR fn ty sz xs σ |_,_=>False
theorem zni {ty:Nat}(h:endR fn ty sz xs σ):∃ t id,fn.results.toList=[.tmp t]/\σ.get t=.row id/\σ.find id=some (.row ty sz xs):=by
 unfold endR at h;split at h
 ·rename_i t i;split at h
  ·rename_i id b;split at h
   ·rename_i e g c j;cases h with
    |mk h1 m k=>subst h1;subst m;subst k;exact ⟨t,id,i,b,j⟩
   ·exact h.elim
  ·exact h.elim
 ·exact h.elim
theorem Fi.of {c:Code}{ty:Nat}(Q:E.P.funcs[f]? = some fn)(T:fn.body=some c)(R:Ci E f)(P:args.length<=fn.ntmps)
  (h:∀ S w,WP (Cx.call E S w fn.ntmps) c (EndR fn ty sz xs) (Es args)) (C:E.rg=false) (y:E.yl=none) (G:E.np=0):Fi E f args ty sz xs:=by
 refine ⟨R,fun S w vs U=>callsIn_wide.1 (callsIn_of_wp (F:=Fence.wide) (n:=0) Q T trivial ?_)⟩;refine wpIn_mono (h S w _ _ (Zy y G U P)) (fun e a w' ⟨σ,D,γ,g⟩=>?_);have key:(∃ t id,fn.results.toList=[.tmp t]/\σ.get t=.row id/\σ.find id=some (.row ty sz xs))->bodyPost E.P fn (fun e w'=>∃ v us,e=.returned v/\Below w.heap.size w w'/\w'.ownsRow w.heap.size ty sz v xs.length us /\
  (∀ k (H:k<xs.length),(xs[k]).cells.length=sz)/\(∀ k (H:k<xs.length) j (L:j<(xs[k]).cells.length),Rep w' (fun b=>(S b\/w.heap.size<=b)/\v.ownBlock≠some b) G0 ((xs[k]).cells[j]) (us.getD (k*sz+j) undef))/\∀ u∈us,u.oneCell'=true) .ret a w':=by
  rintro ⟨t,id,h1,W,V⟩;obtain ⟨v,N,O⟩:=Wq (avs:=[.row id]) g (by rw [h1];simp [retA,W]);have q:=g.me id;rw [V] at q;obtain ⟨d,M,s,us,I,J,p,r,A,m⟩:=q;subst I;have z:v=s:=O.row_inv M;subst z;refine ⟨g.defers.d0 C,v,N,v,us,rfl,g.below,p,r,fun k H j L=>?_,m⟩;refine (A k H j L).mono (aA _) (fun b i _=>⟨rfl,?_,fun e=>?_⟩)
  ·rcases i with ⟨i,_⟩|⟨i,_⟩
   ·exact aF i.1
   ·exact aD i.1
  ·have K:own γ b:=⟨id,_,M,by rw [e];exact C1⟩;rcases i with ⟨_,i⟩|⟨_,i⟩
   ·have:=(g.ge b K).1.1;exact absurd i (by show ¬b<w.heap.size;exact Nat.not_lt.2 this)
   ·exact i K
 cases e with
 |normal=>exact key (zni D)
 |ret=>exact key (zni D)
 |_=>exact D.elim
end Go.Proofs.YtidhlpjgifoneaaGreat
