/- Closed runs. -/
import Derived.Test.YtkoamfnbbhfaiaaGreatDoorK12
import Derived.Laws.CopyRow
set_option linter.unusedVariables false
set_option linter.unusedSimpArgs false
namespace Go.Proofs.YtkoamfnbbhfaiaaGreatDoor
open Go.RowKit List
open Nat renaming beq->aA,le_refl->aD,eq_of_beq_eq_true->aE,ble->aF,blt->aL,mul_le_mul_right->aM,testBit->aN,mul_one->aU,mul_comm->aY,add_zero->aZ,succ_mul->bD,pred->bE
open List renaming getD_eq_getElem?_getD->aB,getElem?_eq_getElem->aC,mem_append_right->aK,mem_of_mem_take->aO,mem_append_left->aT,length_take->aV,getElem?_drop->aW,all_eq_true->bA,mem_map->bB
open _root_.Array renaming getD_eq_getD_getElem?->aG,getElem?_eq_some_iff->aR
open Gam renaming set_self->aH,set_ne->aJ
open AV renaming inML->aP,ofV->bF
open Or renaming inl->aQ,inr->aX
open AS renaming find_upd->aS
theorem Wo {f g:Nat->Option Ent}:∀ {ids:List Nat} {me:List (Nat×Ent)},C9 f ids=some me->(∀ i∈ids,g i=f i)->C9 g ids=some me
 |[],_,h,_=>h
 |i::r,me,h,b=>by
  unfold C9 at h ⊢;rw [b i (mem_cons_self ..)];split at h
  ·rename_i e l k c;rw [k,Wo c (fun j d=>b j (mem_cons_of_mem _ d))];exact h
  ·cases h
variable {ids:List Nat}
theorem A9.diff {cx:Cx}{o:Oper}{σ:AS}{av:AV}{wr b:List (Nat×Ent)}(h:A9 cx o σ av ids wr)(j:∀ i,lkE b i=lkE wr i\/(lkE b i=none/\lkE wr i=σ.find i)):A9 cx o σ av ids b:=by
 refine ⟨fun id e d=>?_,fun τ h1 l a w Q K c p=>h.2 τ h1 l a w Q K c (fun r w' n=>p r w' (n.congr (fun t=>by rw [AS.get_upd,AS.get_upd]) (fun i=>?_)))⟩
 ·rcases j id with q|⟨q,_⟩
  ·exact h.1 id e (q▸d)
  ·rw [q] at d;cases d
 ·rw [aS,aS];rcases j i with q|⟨m,f⟩
  ·rw [q]
  ·rw [m,f,Option.none_or];cases k:σ.find i with
   |none=>rfl
   |some e =>
    have:=h.1 i e (f.trans k);rw [l i this,k];rfl
section
variable {cx:Cx} {σ:AS} {o:Oper}
theorem zdn {γ γc:Gam}{w:World}{S S':Nat->Prop}{l:List AV}{vs:Nat->Value}(d:∀ i∈ids,γc i=γ i)(e:∀ b,S b->S' b)(c:aP ids l=true)
  (h:∀ i (hi:i<l.length),Rep w S γ l[i] (vs i)):∀ i (hi:i<l.length),Rep w S' γc l[i] (vs i):=fun i hi=>(h i hi).keep d e (AV.inML_at c i hi)
variable {me:List (Nat×Ent)}
theorem Wt {find:Nat->Option Ent}(b:C9 find ids=some me):me.map (·.1)=ids:=(Mc b).1
variable {args:Array Operand}{tys:Array TypeId}{me':List (Nat×Ent)}
theorem zll {E:Env}{x:Operand}{f:Nat}{cap:List AV}{res:AV}(v:o.op=.call { callee:=.value x,args:=args,argTypes:=tys })(hd:dok cx o=true)(r:A0 x=true)(t:args.toList.all A0=true)(U:σ.eval x=.fn f cap)
  (p:cx.E.P=E.P) (D:Bh cx.E f) (d:cx.E.dr=false) (A:cx.E.ld=E.ld) (W:C9 σ.find ids=some me) (B:me.all (fun x=>x.2.inM ids)=true) (C:aP ids (Bw σ args cap)=true)
  (m:∀ i,lkE me' i≠none->i∈ids\/σ.find i=none) (q:ConX E (Hu E.P f) (Bw σ args cap) me res me'):A9 cx o σ res (ids++me'.map (·.1)) me':=by
 refine ⟨fun id e D=>aK _ (bB.2 ⟨_,Ea D,rfl⟩),fun τ h1 M a w Q K ⟨γ,j⟩ hK=>Br (fun c q=>by rw [v] at q;cases q) ?_⟩;have l:o.op.operands=#[x]++args:=by simp [v,Op.operands,Call.operands]
 obtain ⟨caps,F,Y,V⟩:=Jd j t r (fun y I=>h1 y (by rw [l];simp at I ⊢;exact aX I)) (h1 x (by rw [l];simp)) U;have s:C9 τ.find ids=some me:=Wo W (fun i hi=>M i (aT _ hi));obtain ⟨γc,n,G,L,hS,z⟩:=j.partX s B;unfold Oper.wp;rw [J7 v F D];show Calls _ _ _ _ _;have H:=q (Cx.sub cx γ γc w) γc w (args.map a.eval++caps) p A d rfl rfl rfl z Y
  (zdn (γ:=γ) (S:=Sg cx.S0 cx.w0.heap.size γ) (vs:=fun i=>(args.map a.eval++caps).getD i undef) n (fun b hb=>(hS b).2 hb) C V)
 have H:Calls cx.P f (args.map a.eval++caps) w (Ht (Cx.sub cx γ γc w) γc w res me'):=by rw [show cx.P=E.P from p];exact H
 refine H.mono ?_;rintro e w' ⟨u,γ',rfl,T,R,P,O,N⟩;obtain ⟨k,_,Z⟩:=j.joinX (dst:=o.dst) n G T P O N (fun h=>absurd (d.symm.trans h) (by simp)) (Bj hd) (fun i hi=>(m i hi).imp id (fun X=>by
  rw [M i (aK _ ?_)];exact X;cases J:lkE me' i with
  |none=>exact absurd J hi
  |some e=>exact bB.2 ⟨_,Ea J,rfl⟩)) R
 exact hK _ _ ⟨k,Z⟩
theorem zoy {E:Env}{x:Operand}{id:Nat}{fn:FuncId}{ps:Array Tmp}{asg bd:Code}{nt:Nat}{busy:Bool}{lc:List AV}{res:AV}(L:o.op=.call { callee:=.value x,args:=args,argTypes:=tys })(hd:dok cx o=true)(G:A0 x=true)(J:args.toList.all A0=true)(hx:σ.eval x=.row id)
  (hl:σ.find id=some (.lp fn ps asg bd nt busy lc)) (A:cx.E.P=E.P) (p:cx.E.dr=false) (O:cx.E.ld=E.ld) (v:id∈ids) (hp:C9 σ.find ids=some me) (P:me.all (fun x=>x.2.inM ids)=true) (R:aP ids (args.toList.map σ.eval)=true)
  (t:∀ i,lkE me' i≠none->i∈ids\/σ.find i=none) (C:ConX E (zwx E.P id) (args.toList.map σ.eval) me res me'):A9 cx o σ res (ids++me'.map (·.1)) me':=by
 refine ⟨fun id e he=>aK _ (bB.2 ⟨_,Ea he,rfl⟩),fun τ h1 Y a w Q K ⟨γ,f⟩ hK=>?_⟩;have s:o.op.operands=#[x]++args:=by simp [L,Op.operands,Call.operands]
 have Z:∀ y∈args.toList,τ.eval y=σ.eval y:=fun y B=>h1 y (by rw [s];simp at B ⊢;exact aX B)
 have z:=f.ev x G;rw [h1 x (by rw [s];simp),hx] at z;have N:τ.find id=some (.lp fn ps asg bd nt busy lc):=(Y id (aT _ v)).trans hl;have j:=f.me id;rw [N] at j;obtain ⟨d,m,l,T,D,fn0,rfl,ac,ad,ab⟩:=j;have V:=z.row_inv m;have I:C9 τ.find ids=some me:=Wo hp (fun i hi=>Y i (aT _ hi));obtain ⟨γc,q,W,aa,hS,M⟩:=f.partX I P;have X:(args.map a.eval).size=(args.toList.map σ.eval).length:=by simp
 have H:=C (Cx.sub cx γ γc w) γc w (args.map a.eval) A O p rfl rfl rfl M X
  (zdn (γ:=γ) (S:=Sg cx.S0 cx.w0.heap.size γ) (vs:=fun i=>(args.map a.eval).getD i undef) q (fun b hb=>(hS b).2 hb) R (fun i hi=>by
    have U:i<args.size:=by simpa using hi
    simp only [getElem_map,Array.getElem_toList];have e:(args.map a.eval).getD i undef=a.eval args[i]:=by simp [Array.getD,U]
    rw [e,<-Z args[i] (by simp)];exact f.ev _ (bA.mp J _ (by simp)))) l (by rw [q id v];exact m)
 rw [<-show cx.P=E.P from A] at H;obtain ⟨fn,tmps,assign,body,B,k⟩:=H;refine ⟨fun _ _=>trivial,?_⟩;rw [Oper.semAt_eq _ _ _ (fun c C=>by rw [L] at C;cases C),z6y L V,B];refine ⟨fun h=>by simp [Fence.wide] at h,RoundIn.mono (F:=cx.F) (n:=0) (k:_) ?_⟩;rintro e w' ⟨u,γ',rfl,q1,q2,q3,q4,q5⟩;obtain ⟨r,_,hj⟩:=f.joinX (dst:=o.dst) q W q1 q3 q4 q5 (fun h=>absurd (p.symm.trans h) (by simp)) (Bj hd) (fun i hi=>(t i hi).imp (fun h=>h) (fun hn=>by
  rw [Y i (aK _ ?_)];exact hn;cases hq:lkE me' i with
  |none=>exact absurd hq hi
  |some e=>exact bB.2 ⟨_,Ea hq,rfl⟩)) q2
 exact hK _ _ ⟨r,hj⟩
end
section
variable {cx:Cx} {γ:Gam} {σ:AS} {a:Act} {w:World}
theorem StG.congr {τ:AS}(h:StG cx γ σ a w)(h1:∀ t,τ.get t=σ.get t)(b:∀ i,τ.find i=σ.find i):StG cx γ τ a w :=
 ⟨fun t=>by rw [h1];exact h.tm t,fun i=>by rw [b];exact h.me i,h.inj,h.ge,h.below,h.size,h.defers,h.gh,h.fr,h.dr⟩
variable {id:Nat}
theorem Rb (h:StG cx γ σ a w){fn:FuncId}{ps:Array Tmp}{asg bd:Code}{nt:Nat}{busy:Bool}{lc:List AV}(e:σ.find id=some (.lp fn ps asg bd nt busy lc)) :
  ∃ l T D fn0,γ id=some (some (some l,.func (.yield l) #[] #[]))/\w.heap[l]? = some (.loop { recR fn0 T ps asg bd D with state:=lstB busy })/\T.size=nt/\∀ t (j:t<lc.length),Rep w (Sg cx.S0 cx.w0.heap.size γ) γ lc[t] (T.getD t undef):=by
 have:=h.me id;rw [e] at this;obtain ⟨d,b,l,T,D,fn0,rfl,f,i,c⟩:=this;exact ⟨l,T,D,fn0,b,f,i,c⟩
theorem StG.turnLp (h:StG cx γ σ a w){l D:Nat}{fn' fn0:FuncId}{ps:Array Tmp}{asg bd:Code}{nt:Nat}{busy':Bool}{lc:List AV}{T:Array Value}{o:Obj}
  (r:γ id=some (some (some l,.func (.yield l) #[] #[]))) (v:w.heap[l]? = some o) (A:o.isCells=false) (n:∀ es c,o≠.map es c) (C:T.size=nt) (z:∀ t (u:t<lc.length),Rep w (Sg cx.S0 cx.w0.heap.size γ) γ lc[t] (T.getD t undef)) :
  StG cx γ (σ.upd none .any [(id,.lp fn' ps asg bd nt busy' lc)]) (a.put none undef) (w.putObj l (.loop { recR fn0 T ps asg bd D with state:=lstB busy' })):=by
 have f:own γ l:=⟨id,_,r,Bc⟩;have q:l<w.heap.size:=(h.ge l f).2;have B:=zk4 (k:=0) v A;have p:∀ es c,w.heap[l]? ≠ some (.map es c):=fun es c h=>by rw [v] at h;injection h with h;exact n es c h
 have F:∀ b,Sg cx.S0 cx.w0.heap.size γ b->b≠l:=fun b j e=>by
  subst e;rcases j with ⟨_,h1⟩|⟨_,h1⟩
  ·have:=(h.ge b f).1.1;omega
  ·exact h1 f
 refine h.step (dst:=none) (fun x y=>by cases y) (by rw [Bx];exact aD _) (fun b j _=>⟨Bo (F b j),j⟩) (fun i d s=>aQ s) (fun i hi=>⟨rfl,fun b d s j=>Bo (fun e=>?_)⟩) (fun i e hi=>?_) h.inj
  (fun b j=>by rw [Bx];exact h.ge b j) ?_ (.any _) (fun b j _=>⟨Bo (fun e=>j (e▸f)),j⟩) (fun _=>aD _)
 ·subst e;have:=h.inj _ _ _ _ _ s r j Bc;subst this;simp [lkE] at hi
 ·simp only [lkE] at hi;cases m:aA id i with
  |false=>rw [m] at hi;cases hi
  |true =>
   rw [m] at hi;have:=aE m;subst this;injection hi with hi
   subst hi;exact ⟨_,r,l,T,D,fn0,rfl,World.putObj_heap_same q,C,fun t u=>(z t u).putObj B p⟩
 ·exact h.below.trans ⟨rfl,rfl,rfl,by rw [Bx];exact aD _,fun b j=>Bo (by have:=(h.ge l f).1.1;omega)⟩
theorem StG.dropLp (h:StG cx γ σ a w){l:Nat}{o o':Obj}(v:γ id=some (some (some l,.func (.yield l) #[] #[])))(F:w.heap[l]? = some o)(q:o.isCells=false)(B:∀ es c,o≠.map es c) :
  StG cx (γ.set id none) (σ.upd none .any [(id,.dead)]) (a.put none undef) (w.putObj l o'):=by
 have f:own γ l:=⟨id,_,v,Bc⟩;have C:l<w.heap.size:=(h.ge l f).2;have D:∀ b,Sg cx.S0 cx.w0.heap.size γ b->b≠l:=fun b n e=>by
  subst e;rcases n with ⟨_,h1⟩|⟨_,h1⟩
  ·have:=(h.ge b f).1.1;omega
  ·exact h1 f
 have m:∀ b,own (γ.set id none) b->own γ b:=fun b ⟨i,d,hi,hm⟩=>by
  by_cases k:i=id
  ·subst k;rw [aH] at hi;injection hi with hi;subst hi;cases hm
  ·rw [aJ _ _ _ k] at hi;exact ⟨i,d,hi,hm⟩
 refine h.step (dst:=none) (fun x A=>by cases A) (by rw [Bx];exact aD _) (fun b n _=>⟨Bo (D b n),n.imp (fun h=>h) (fun ⟨h1,p⟩=>⟨h1,fun q=>p (m b q)⟩)⟩) (fun i d s=>?_) (fun i hi=>?_) (fun i e hi=>?_) (fun i j b H G h1 p u t=>?_)
  (fun b n=>by rw [Bx];exact h.ge b (m b n)) ?_ (.any _) (fun b n _=>⟨Bo (fun e=>n (e▸f)),fun q=>n (m b q)⟩) (fun _=>aD _)
 ·by_cases k:i=id
  ·subst k;exact aX (aQ (aH _ _ _))
  ·exact aQ (by rw [aJ _ _ _ k];exact s)
 ·have k:i≠id:=fun e=>by subst e;simp [lkE] at hi
  refine ⟨aJ _ _ _ k,fun b d s n=>Bo (fun e=>k ?_)⟩;subst e;exact h.inj _ _ _ _ _ s v n Bc
 ·simp only [lkE] at hi;cases r:aA id i with
  |false=>rw [r] at hi;cases hi
  |true =>
   rw [r] at hi;have:=aE r;subst this;injection hi with hi
   subst hi;exact ⟨none,aH _ _ _,rfl⟩
 ·have z:i≠id:=fun e=>by subst e;rw [aH] at h1;injection h1 with h1;subst h1;cases u
  have y:j≠id:=fun e=>by subst e;rw [aH] at p;injection p with p;subst p;cases t
  rw [aJ _ _ _ z] at h1;rw [aJ _ _ _ y] at p;exact h.inj _ _ _ _ _ h1 p u t
 ·exact h.below.trans ⟨rfl,rfl,rfl,by rw [Bx];exact aD _,fun b n=>Bo (by have:=(h.ge l f).1.1;omega)⟩
theorem evo_lp {γ γ':Gam}{i l:Nat}(h:Evo γ γ')(b:γ i=some (some (some l,.func (.yield l) #[] #[]))):γ' i=some (some (some l,.func (.yield l) #[] #[]))\/γ' i=some none:=by
 rcases h i _ b with q|q|⟨s,c,e,_⟩
 ·exact aQ q
 ·exact aX q
 ·cases e
end
def RdOk (cx:Cx):Option Nat->Prop |none=>cx.rd=none |some id=>∃ l,cx.rd=some l/\cx.ev=true/\cx.g0 id=some (some (some l,.func (.yield l) #[] #[]))
variable {E:Env}{ps ps2:Array Tmp}{asg bd as2 bd2:Code}{nt2:Nat}{lc lc2:List AV}{me me':List (Nat×Ent)}
theorem ConX.round {id nt:Nat}{fn bc bb:FuncId}{v:Array Tmp}{I H:Code}{L:Nat}{args M:List AV}{u s τ J:AS}(ai:E.rg=false)(af:E.yl=none)(ax:E.dr=false)(an:E.np=0)
  (al:ps.toList.all (fun p=>aL p nt)=true) (m:args.length=ps.size) (bf:aF lc.length nt=true) (ap:lkE me id=some (.lp fn ps asg bd nt false lc))
  (h1:∀ cx:Cx,cx.E=E->cx.nt=nt->RdOk cx (some id)->WP cx asg (fun e σ=>e=.normal/\σ=u) (R2 ps.toList args lc me))
  (ar:u.find id=some (.lp bc v I H L false M)) (Q:Ext s (u.upd none .any [(id,.lp 0 v I H L true M)]))
  (h2:∀ cx:Cx,cx.E=E->cx.nt=nt->RdOk cx (some id)->WP cx bd (fun e σ=>e=.normal/\σ=τ) s)
  (aq:τ.find id=some (.lp bb ps2 as2 bd2 nt2 true lc2)) (O:Ext J (τ.upd none .any [(id,.lp 0 ps2 as2 bd2 nt2 false lc2)]))
  (V:C9 J.find ids=some me') (au:me'.all (fun x=>x.2.inM ids)=true) (B:me.all (fun x=>memB x.1 ids)=true):ConX E (zwx E.P id) args me (.bool true) me':=by
 intro cx γ w vs hP Y ab av W X f S ag;intro l n;obtain ⟨l',T,D,fn0,c,hh,hT,hr⟩:=Rb f (id:=id) (σ:=⟨[],me⟩) ap;rw [n] at c;injection c with c
 injection c with c
 injection c with c _
 injection c with c
 subst c;have am:own γ l:=⟨id,_,n,Bc⟩;refine ⟨fn0,_,asg,bd,run_yield (P:=E.P) (args:=vs) hh (by rw [S,m]),roundIn_of_wpIn trivial ?_⟩;have ef:(ps.zip vs).foldl (fun (t:Array Value) (x:Tmp×Value)=>t.setIfInBounds x.1 x.2) T=(ps.toList.zip vs.toList).foldl (fun t x=>t.setIfInBounds x.1 x.2) T:=by
  rw [<-Array.foldl_toList,Array.toList_zip]
 obtain ⟨tm,y⟩:∃ tm,tm=(ps.toList.zip vs.toList).foldl (fun t x=>t.setIfInBounds x.1 x.2) T:=⟨_,rfl⟩;have etm:(ps.zip vs).foldl (fun (t:Array Value) (x:Tmp×Value)=>t.setIfInBounds x.1 x.2) T=tm:=by rw [ef,y]
 show asg.wpIn (Fence.wide.inRound l) 0 E.P _ { tmps:=(ps.zip vs).foldl (fun (t:Array Value) (x:Tmp×Value)=>t.setIfInBounds x.1 x.2) T,defers:=[] } w;rw [etm];have U:∀ p∈ps.toList,p<nt:=fun p V=>by
  have:=bA.1 al p V;simpa using this
 let cxa:Cx:=⟨E,cx.S0,cx.w0,nt,fun b=>b<w.heap.size/\¬own γ b,w,some l,T,fun h=>absurd (ai.symm.trans h) (by simp),true,γ,w.heap.size⟩;have hrd:RdOk cxa (some id):=⟨l,rfl,rfl,n⟩;have ah:StG cxa γ (R2 ps.toList args lc me) { tmps:=tm,defers:=[] } w:=by
  refine ⟨fun t=>?_,f.me,f.inj,f.ge,f.below,by rw [y];exact (zd4 _ _).trans hT,⟨fun _=>rfl,⟨[],rfl,.nil,fun r hr=>by cases hr⟩,fun t ht=>by rw [show cxa.E.np=0 from an] at ht;omega,fun l R hl=>absurd (af.symm.trans hl) (by simp),aD _,fun _=>Evo.refl _,fun h=>f.defers.laid (Y.trans h),(fun d hd=>by cases hd),aD _⟩,f.gh,fun b hb=>⟨hb.2,hb.1,rfl⟩,fun hd=>absurd (ax.symm.trans hd) (by simp)⟩;rw [y];refine zje ps.toList args vs.toList T _ (fun t=>?_) (fun p V=>by rw [hT];exact U p V) (by simpa using m) (by simp [S,m]) (fun i hi=>?_) t
  ·rw [Qx];by_cases ht:0<=t/\t<0+lc.length
   ·rw [dif_pos ht];exact hr t (by omega)
   ·rw [dif_neg ht];exact .any _
  ·have:=ag i hi
   rwa [aG,<-Array.getElem?_toList,<-aB] at this
 refine wpIn_mono (F:=Fence.wide.inRound l) (h1 cxa rfl rfl hrd _ _ ⟨γ,ah⟩) (fun e a1 w1 ⟨σ1',⟨he,ae⟩,K,A⟩=>?_);subst ae;subst he;have ba:=A.defers.evo rfl;obtain ⟨l1,T1,D1,f1,G,aa,az,ak⟩:=Rb A ar;have e1:l1=l:=by
  rcases evo_lp ba n with q|q
  ·rw [G] at q;injection q with q;injection q with q;injection q with q _;injection q with q
  ·rw [G] at q;injection q with q;cases q
 subst e1;refine ⟨_,run_beginRound (P:=E.P) aa rfl,?_⟩;have k:=A.turnLp (fn':=0) (fn0:=f1) (D:=D1) (ps:=v) (asg:=I) (bd:=H) (busy':=true) G aa rfl (fun _ _ h=>by cases h) az ak;have k:StG cxa K _ a1 _:=k;have k:=k.congr Q.1 Q.2;refine wpIn_mono (F:=Fence.wide.inRound l1) (h2 cxa rfl rfl hrd _ _ ⟨K,k⟩) (fun e2 a2 w3 ⟨s,⟨aw,N⟩,ad,z⟩=>?_);subst N;subst aw;have ac:=z.defers.evo rfl;obtain ⟨l3,T3,D3,f3,C,Z,ay,aj⟩:=Rb z aq;have e3:l3=l1:=by
  rcases evo_lp ac n with q|q
  ·rw [C] at q;injection q with q;injection q with q;injection q with q _;injection q with q
  ·rw [C] at q;injection q with q;cases q
 subst e3;refine ⟨_,_,run_endRound (P:=E.P) none Z,?_⟩;have j:=z.turnLp (fn':=0) (fn0:=f3) (D:=D3) (ps:=ps2) (asg:=as2) (bd:=bd2) (busy':=false) C Z rfl (fun _ _ h=>by cases h) ay aj;have j:StG cxa ad _ a2 _:=j;have j:=j.congr O.1 O.2;refine Ht.of (cx':=cxa) W X ab av f rfl rfl j ac j.defers.wsz (fun b hb ao=>?_) V au B rfl (.bool _);obtain ⟨q1,q2,q3⟩:=j.fr b ⟨ao,hb⟩;exact ⟨q3,q1⟩
section
variable {cx:Cx} {γ:Gam} {σ:AS} {a:Act} {w:World}
def Cx.also (cx:Cx)(X:Nat->Prop)(w1:World):Cx:={ cx with Fr:=fun b=>cx.Fr b\/X b,w1:=w1 }
theorem StG.also (h:StG cx γ σ a w){X:Nat->Prop}(d:∀ b,X b->¬own γ b/\b<w.heap.size):StG (cx.also X w) γ σ a w :=
 ⟨h.tm,h.me,h.inj,h.ge,h.below,h.size,⟨h.defers.d0,h.defers.marks,h.defers.pin,h.defers.yl,aD _,h.defers.evo,h.defers.laid,h.defers.mks,h.defers.wsz⟩,h.gh,fun b c=>by
  rcases c with c|c
  ·obtain ⟨f,e,_⟩:=h.fr b c;exact ⟨f,e,rfl⟩
  ·exact ⟨(d b c).1,(d b c).2,rfl⟩,h.dr⟩
theorem StG.back {X:Nat->Prop}{w1:World}{d:Gam}{c:AS}{l:Act}(h:StG (cx.also X w1) γ σ a w)(h1:StG cx d c l w1):StG cx γ σ a w :=
 ⟨h.tm,h.me,h.inj,h.ge,h.below,h.size,⟨h.defers.d0,h.defers.marks,h.defers.pin,h.defers.yl,Nat.le_trans h1.defers.sz h.defers.sz,h.defers.evo,h.defers.laid,h.defers.mks,h.defers.wsz⟩,h.gh,fun b e=>by
  obtain ⟨k,j,i⟩:=h.fr b (aQ e);obtain ⟨n,m,f⟩:=h1.fr b e;exact ⟨k,j,i.trans f⟩,h.dr⟩
variable {f2:FuncId}{g:Operand}{gf:Nat}{cap:List AV}{res:AV}
theorem zbl {W1:World}{l D:Nat}{fn:FuncId}{n:Nat}{caps:Array Value}
  (r:StG cx γ σ a w) (X:cx.E.P=E.P) (z:cx.E.dr=false) (ae:cx.E.ld=E.ld) (J:Below w.heap.size w W1) (ah:w.heap.size<=l) (ag:l<W1.heap.size) (hL:W1.heap[l]? = some (.loop (recR fn a.tmps ps asg bd D)))
  (ak:A0 g=true) (M:σ.eval g=.fn gf cap) (am:a.eval g=.func (.func gf) #[] caps) (hn:σ.find n=none) (af:∀ t (ht:t<lc.length),lc[t]=.any\/lc[t]=σ.get t)
  (hp:C9 (σ.upd none .any [(n,.lp 0 ps asg bd cx.nt false lc)]).find ids=some me) (ai:me.all (fun x=>x.2.inM ids)=true) (v:n∈ids) (aj:aP ids cap=true)
  (N:∀ i,lkE me' i≠none->i∈ids\/σ.find i=none) (O:lkE me' n=some (.lp f2 ps2 as2 bd2 nt2 false lc2)) (hc:ConX E (Hu E.P gf) (.row n::cap) me res me') :
  Calls cx.P gf (#[.func (.yield l) #[] #[]]++caps) W1 fun e W2=>∃ u R γ',e=.returned u/\W2.heap[l]? = some (.loop R)/\R.state≠.busy/\R.pending=none /\
   (∀ o',StG cx γ' (σ.upd none .any ((n,.dead)::me')) a (W2.putObj l o'))/\∀ b,w.heap.size<=b->b<W1.heap.size->b≠l->W2.heap[b]? = W1.heap[b]? /\ ¬own γ' b:=by
 have aa:∀ b,own γ b->b<w.heap.size:=fun b W=>(r.ge b W).2
 have K:γ n=none:=by have:=r.me n;rw [hn] at this;exact this
 have k:∀ b,own (γ.set n (some (some l,.func (.yield l) #[] #[]))) b->b=l\/own γ b:=fun b ⟨i,d,hi,hm⟩=>by
  by_cases y:i=n
  ·subst y;rw [aH] at hi;injection hi with hi;subst hi;exact aQ (Jk rfl hm)
  ·rw [aJ _ _ _ y] at hi;exact aX ⟨i,d,hi,hm⟩
 have T:∀ i d,γ i=some d->(γ.set n (some (some l,.func (.yield l) #[] #[]))) i=some d\/(γ.set n (some (some l,.func (.yield l) #[] #[]))) i=some none\/Turn (γ.set n (some (some l,.func (.yield l) #[] #[]))) i d:=fun i d hi=>aQ (by
  rw [aJ _ _ _ (fun e=>by subst e;rw [K] at hi;cases hi)];exact hi)
 have c:StG cx (γ.set n (some (some l,.func (.yield l) #[] #[]))) (σ.upd none .any [(n,.lp 0 ps asg bd cx.nt false lc)]) (a.put none undef) W1:=by
  refine r.name (dst:=none) (fun x M=>by cases M) hn J ah ag ⟨l,a.tmps,D,fn,rfl,hL,r.size,fun t ht=>?_⟩ (.any _) (fun h=>absurd (z.symm.trans h) (by simp));rcases af t ht with e|e
  ·rw [e];exact .any _
  ·rw [e];refine ((r.tm t).mono J.size (fun b W ad=>⟨J.block b ad,W.imp (fun h=>h) (fun ⟨h1,Y⟩=>⟨h1,fun F=>?_⟩)⟩)).gam T;rcases k b F with rfl|F
   ·omega
   ·exact Y F
 have c:StG cx (γ.set n (some (some l,.func (.yield l) #[] #[]))) (σ.upd none .any [(n,.lp 0 ps asg bd cx.nt false lc)]) a W1:=c;generalize L:γ.set n (some (some l,.func (.yield l) #[] #[]))=f at c k;have j:f n=some (some (some l,.func (.yield l) #[] #[])):=by rw [<-L];exact aH _ _ _
 -- other new blocks are no one's
 have hX:∀ b,(w.heap.size<=b/\b<W1.heap.size/\b≠l)->¬own f b/\b<W1.heap.size:=fun b ⟨h1,Y,h3⟩=>⟨fun F=>by
  rcases k b F with rfl|F
  ·exact h3 rfl
  ·have:=aa b F;omega,Y⟩
 have B:=c.also hX;obtain ⟨γc,A,an,ao,hS,ac⟩:=B.partX hp ai;have V:=c.ev g ak;rw [show (σ.upd none .any [(n,.lp 0 ps asg bd cx.nt false lc)]).eval g=σ.eval g by cases g<;>rfl,M] at V;obtain ⟨caps',m,hl,C⟩:=V.fn_inv;rw [am] at m;injection m with _ _ m
 subst m;have I:=zdn (γ:=f) (γc:=γc) (w:=W1) (S:=Sg cx.S0 cx.w0.heap.size f) (S':=Sg (Cx.sub (cx.also (fun b=>w.heap.size<=b/\b<W1.heap.size/\b≠l) W1) f γc W1).S0 cx.w0.heap.size γc) (vs:=fun i=>caps.getD i undef) A (fun b W=>(hS b).2 W) aj C;have H:=hc (Cx.sub (cx.also (fun b=>w.heap.size<=b/\b<W1.heap.size/\b≠l) W1) f γc W1) γc W1 (#[.func (.yield l) #[] #[]]++caps) X ae z rfl rfl rfl ac (by simp [hl];omega) (fun i hi=>by
  match i with
  |0 =>
   have e:(#[Value.func (.yield l) #[] #[]]++caps).getD 0 undef=.func (.yield l) #[] #[]:=by
    rw [aG,Array.getElem?_append_left (by simp)];rfl
   rw [e];refine .row (by rw [A n v];exact j) (fun g' s e _=>?_);injection e with e
   injection e with _ e
  |i+1 =>
   have:=I i (by simpa using hi);have e:(#[Value.func (.yield l) #[] #[]]++caps).getD (i+1) undef=caps.getD i undef:=by
    rw [aG,Array.getElem?_append_right (by simp),aG];simp
   rw [e];exact this)
 have H:Calls cx.P gf (#[.func (.yield l) #[] #[]]++caps) W1 (Ht (Cx.sub (cx.also (fun b=>w.heap.size<=b/\b<W1.heap.size/\b≠l) W1) f γc W1) γc W1 res me'):=by rw [show cx.P=E.P from X];exact H
 refine H.mono ?_;rintro e W2 ⟨u,γ',rfl,q1,q2,q3,q4,q5⟩;obtain ⟨Z,T2,D2,ax,U,ar,av,aq⟩:=Rb q1 (id:=n) (σ:=⟨[],me'⟩) O;have e2:Z=l:=by
  rcases evo_lp (h:=q4) (i:=n) (l:=l) (by rw [A n v];exact j) with q|q
  ·rw [U] at q;injection q with q;injection q with q;injection q with q _;injection q with q
  ·rw [U] at q;injection q with q;cases q
 subst e2;obtain ⟨p,hE,P⟩:=B.joinX (dst:=none) (u:=undef) (res:=.any) A an q1 q3 q4 q5 (fun h=>absurd (z.symm.trans h) (by simp)) (fun x M=>by cases M) (fun i hi=>if h:i=n then aQ (h▸v) else (N i hi).imp (fun h=>h) (fun ab=>by
  rw [aS];simp only [lkE];cases hq:aA n i with
  |false=>simpa using ab
  |true=>exact absurd (aE hq).symm h)) (.any _)
 have P:StG (cx.also (fun b=>w.heap.size<=b/\b<W1.heap.size/\b≠Z) W1) p _ a W2:=P;have al:((σ.upd none .any [(n,.lp 0 ps asg bd cx.nt false lc)]).upd none .any me').find n=some (.lp f2 ps2 as2 bd2 nt2 false lc2):=by rw [aS,O];rfl
 obtain ⟨l3,T3,D3,aw,G,Q,au,ap⟩:=Rb P al;have e3:l3=Z:=by
  rcases evo_lp hE j with q|q
  ·rw [G] at q;injection q with q;injection q with q;injection q with q _;injection q with q
  ·rw [G] at q;injection q with q;cases q
 subst e3;refine ⟨u,_,p.set n none,rfl,Q,by simp [lstB],rfl,fun o'=>?_,fun b h1 Y h3=>?_⟩
 ·have:=(P.back c).dropLp (o':=o') G Q rfl (fun _ _ h=>by cases h);have this:StG cx (p.set n none) _ a _:=this;refine this.congr (fun t=>rfl) (fun i=>?_);simp only [aS,lkE];cases hq:aA n i<;>simp
 ·obtain ⟨p1,p2,p3⟩:=P.fr b (aX ⟨h1,Y,h3⟩);refine ⟨p3,fun ⟨i,d,hi,hm⟩=>p1 ?_⟩;by_cases y:i=n
  ·subst y;rw [aH] at hi;injection hi with hi;subst hi;cases hm
  ·rw [aJ _ _ _ y] at hi;exact ⟨i,d,hi,hm⟩
theorem WP.rangeO {n:Nat}
  (hrd:cx.rd=none) (T:cx.E.rg=true) (q:cx.E.yl=none) (ad:cx.E.P=E.P) (I:cx.E.dr=false) (V:cx.E.ld=E.ld) (he:Bh cx.E gf)
  (D:A0 g=true) (hx:σ.eval g=.fn gf cap) (hn:σ.find n=none) (W:∀ t (ht:t<lc.length),lc[t]=.any\/lc[t]=σ.get t)
  (hp:C9 (σ.upd none .any [(n,.lp 0 ps asg bd cx.nt false lc)]).find ids=some me) (Y:me.all (fun x=>x.2.inM ids)=true) (A:n∈ids) (Z:aP ids cap=true)
  (B:∀ i,lkE me' i≠none->i∈ids\/σ.find i=none) (U:lkE me' n=some (.lp f2 ps2 as2 bd2 nt2 false lc2)) (hc:ConX E (Hu E.P gf) (.row n::cap) me res me') :
  WP cx (.rangeFunc g ps asg bd) (fun e τ=>e=.normal/\τ=σ.upd none .any ((n,.dead)::me')) σ:=by
 intro a w ⟨γ,c⟩;have G:=c.ev g D;rw [hx] at G;obtain ⟨caps,J,hl,_⟩:=G.fn_inv;refine wpIn_rangeFunc (fun fn ah=>?_);obtain ⟨W1,f⟩:∃ W1,(w.alloc (.deferred (some []))).alloc (.loop (recR fn a.tmps ps asg bd w.heap.size))=W1:=⟨_,rfl⟩;have ac:W1.heap[w.heap.size+1]? = some (.loop (recR fn a.tmps ps asg bd w.heap.size)):=by
  rw [<-f];have:=World.alloc_heap_new (w.alloc (.deferred (some []))) (.loop (recR fn a.tmps ps asg bd w.heap.size));rwa [World.size_alloc] at this
 have K:W1.heap[w.heap.size]? = some (.deferred (some [])):=by
  rw [<-f];exact (Below.heap_alloc _ _ _ (by simp)).trans (World.alloc_heap_new w _)
 have ag:W1.heap.size=w.heap.size+2:=by rw [<-f];simp
 have ab:Below w.heap.size w W1:=by rw [<-f];exact ((Below.refl _ w).alloc (aD _) _).alloc (by simp) _
 have H:=zbl c ad I V ab (Nat.le_succ _) (by omega) ac D hx J hn W hp Y A Z B U hc;refine ⟨w.heap.size+1,[{ target:=.collected w.heap.size,args:=#[] }],W1,{ target:=.fn (.func gf) caps,args:=#[.func (.yield (w.heap.size+1)) #[] #[]] },W1,gf,
  #[.func (.yield (w.heap.size+1)) #[] #[]]++caps,W1,?_,?_,?_,?_,fun h=>by simp [Fence.wide] at h,?_⟩
 ·show (Instr.enterLoop fn a.tmps ps asg bd cx.rd).run cx.P w=_;rw [hrd,<-f];exact run_enterLoop_outer _ _ _ _ _
 ·simp only [resolve,J];simp [go_sem]
 ·intro f' ai;trivial
 ·simp [invoke,go_sem,he _ _]
 ·refine CallsIn.mono (F:=cx.F) ((callsIn_wide (n:=0)).2 H:_) ?_;rintro e W2 ⟨u,R,γ',rfl,hR,aa,k,s,v⟩;obtain ⟨st,pd,fn',m,p,N,M,L⟩:=R;have k:pd=none:=k;subst k;refine ⟨none,_,run_endLoop (P:=cx.P) hR aa,?_⟩;have b:=s (.loop ⟨.exhausted,none,fn',m,p,N,M,L⟩);obtain ⟨k1,k2⟩:=v w.heap.size (aD _) (by omega) (by omega);obtain ⟨Q,m1,m2,m3⟩:=b.defers.marks;have z:∀ r∈Q,r<w.heap.size:=fun r j=>by
   obtain ⟨O,n1,n2,n3⟩:=c.defers.marks;have:O=Q:=by
    have e:=n1.symm.trans m1;have C:∀ (x y:Nat),({ target:=.collected x,args:=#[] }:Deferred)={ target:=.collected y,args:=#[] }->x=y:=fun x y h=>by injection h with h _;injection h
    exact (List.map_inj_right C).1 e
   subst this;exact (n3 r j).2.1
  have ae:cx.w0.heap.size<=w.heap.size:=c.below.size;have af:W1.heap.size<=W2.heap.size:=by
   have:=(aR.1 (k1.trans K)).1;have h2:=(aR.1 hR).1;omega
  have S:(W2.putObj (w.heap.size+1) (.loop ⟨.exhausted,none,fn',m,p,N,M,L⟩)).heap.size=W2.heap.size:=Bx;refine ⟨_,⟨rfl,rfl⟩,γ',b.tm,b.me,b.inj,b.ge,b.below,b.size,⟨fun h0=>absurd (h0.symm.trans T) (by simp),⟨w.heap.size::Q,by show _::a.defers=_;rw [m1];rfl,nodup_cons.2 ⟨fun h=>by have:=z _ h;omega,m2⟩,fun r j=>?_⟩,b.defers.pin,fun l R X=>absurd (q.symm.trans X) (by simp),b.defers.sz,b.defers.evo,b.defers.laid,(fun d hd r j=>(mem_cons.1 hd).elim (fun e=>by subst e;injection j with j;rw [<-j];exact c.defers.wsz) (fun h=>b.defers.mks d h r j)),b.defers.wsz⟩,b.gh,b.fr,b.dr⟩;rcases mem_cons.1 j with rfl|j
  ·exact ⟨ae,by rw [S];omega,k2,(Bo (by omega)).trans (k1.trans K)⟩
  ·exact m3 r j
theorem WP.rangeI {f0:FuncId}{y:Array Tmp}{T S:Code}{n f z:Nat}{Q:Bool}{A:List AV}
  (hrd:RdOk cx (some f)) (G:σ.find f=some (.lp f0 y T S z Q A)) (O:cx.E.P=E.P) (s:cx.E.dr=false) (C:cx.E.ld=E.ld) (he:Bh cx.E gf)
  (m:A0 g=true) (U:σ.eval g=.fn gf cap) (hn:σ.find n=none) (D:∀ t (ht:t<lc.length),lc[t]=.any\/lc[t]=σ.get t)
  (hp:C9 (σ.upd none .any [(n,.lp 0 ps asg bd cx.nt false lc)]).find ids=some me) (I:me.all (fun x=>x.2.inM ids)=true) (k:n∈ids) (J:aP ids cap=true)
  (l:∀ i,lkE me' i≠none->i∈ids\/σ.find i=none) (B:lkE me' n=some (.lp f2 ps2 as2 bd2 nt2 false lc2)) (hc:ConX E (Hu E.P gf) (.row n::cap) me res me') :
  WP cx (.rangeFunc g ps asg bd) (fun e τ=>e=.normal/\τ=σ.upd none .any ((n,.dead)::me')) σ:=by
 intro a w ⟨γ,b⟩;obtain ⟨l0,Y,X,W⟩:=hrd;obtain ⟨l1,T0,D0,fn0,p,K,_,_⟩:=Rb b G;have e1:l1=l0:=by
  rcases evo_lp (b.defers.evo X) W with q|q
  ·rw [p] at q;injection q with q;injection q with q;injection q with q _;injection q with q
  ·rw [p] at q;injection q with q;cases q
 subst e1;have r:=b.ev g m;rw [U] at r;obtain ⟨caps,v,hl,_⟩:=r.fn_inv;refine wpIn_rangeFunc (fun fn ab=>?_);obtain ⟨W1,c⟩:∃ W1,w.alloc (.loop (recR fn a.tmps ps asg bd D0))=W1:=⟨_,rfl⟩;have N:W1.heap[w.heap.size]? = some (.loop (recR fn a.tmps ps asg bd D0)):=by rw [<-c];exact World.alloc_heap_new w _
 have aa:W1.heap.size=w.heap.size+1:=by rw [<-c];simp
 have M:Below w.heap.size w W1:=by rw [<-c];exact (Below.refl _ w).alloc (aD _) _
 have H:=zbl b O s C M (aD _) (by omega) N m U v hn D hp I k J l B hc;refine ⟨w.heap.size,[],W1,{ target:=.fn (.func gf) caps,args:=#[.func (.yield w.heap.size) #[] #[]] },W1,gf,
  #[.func (.yield w.heap.size) #[] #[]]++caps,W1,?_,?_,?_,?_,fun h=>by simp [Fence.wide] at h,?_⟩
 ·show (Instr.enterLoop fn a.tmps ps asg bd cx.rd).run cx.P w=_;rw [Y,<-c];exact run_enterLoop_inner K _ _ _ _ _
 ·simp only [resolve,v];simp [go_sem]
 ·intro f' ac;trivial
 ·simp [invoke,go_sem,he _ _]
 ·refine CallsIn.mono (F:=cx.F) ((callsIn_wide (n:=0)).2 H:_) ?_;rintro e W2 ⟨u,R,γ',rfl,hR,L,d,j,_⟩;obtain ⟨st,pd,fn',V,Z,af,ae,ad⟩:=R;have d:pd=none:=d;subst d;exact ⟨none,_,run_endLoop (P:=cx.P) hR L,_,⟨rfl,rfl⟩,γ',j _⟩
end
section
variable {cx:Cx} {o:Oper} {σ:AS}
theorem zom {γ:Gam}{τ:AS}{a:Act}{w:World}(P:StG cx γ τ a w){y:AV}{v:Value}(t:Rep w (Sg cx.S0 cx.w0.heap.size γ) γ y v){sz:Nat}{ys:List AV}(hz:sz≠0)(N:(∃ p,Ce τ y=some p/\p.sz=sz/\ys=(p.xs.drop p.lo).take p.n)\/y=.sl sz ys) :
  ∃ (A:Option Addr) (c:Nat) (news:List Value),v=.slice A ys.length c/\news.length=ys.length*sz/\(0<ys.length->∃ b off,A=some ⟨b,off,none⟩/\∀ j u,news[j]? = some u->w.cell? ⟨b,off+j,none⟩=some u)/\(∀ u∈news,u.oneCell'=true) /\
   (∀ k (f:k<ys.length),(ys[k]).cells.length=sz)/\(∀ k (f:k<ys.length) j (m:j<(ys[k]).cells.length),Rep w (Sg cx.S0 cx.w0.heap.size γ) γ ((ys[k]).cells[j]) (news.getD (k*sz+j) undef)):=by
 rcases N with ⟨p,Z,i,D⟩|N
 ·obtain ⟨_,T⟩:=J6 Z;obtain ⟨s,us,ac,n,l,Q,B,H⟩:=J8 P Z t;have O:us.length=p.xs.length*sz:=by rw [n.1,i]
  have F:ys.length=p.n:=by rw [D,aV,length_drop];omega
  have S:(p.lo+p.n)*sz<=p.xs.length*sz:=aM _ T;rw [Nat.add_mul] at S;have z:∀ k (f:k<ys.length) (d:p.lo+k<p.xs.length),ys[k]=p.xs[p.lo+k]:=fun k f d=>by
   have h1:ys[k]? = p.xs[p.lo+k]? := by rw [D,List.getElem?_take,if_pos (by omega),aW]
   rw [aC f,aC d] at h1;injection h1
  rcases H with ⟨Y,X,H⟩|⟨g,cap,Y,aa,H⟩
  ·have G:ys.length=0:=by omega
   exact ⟨none,0,[],by rw [H,G],by rw [G];simp,fun h=>absurd h (by omega),fun u I=>absurd I (by simp),fun k f=>absurd f (by omega),fun k f=>absurd f (by omega)⟩
  refine ⟨_,_,(us.drop (p.lo*sz)).take (p.n*sz),by rw [H,F],?_,fun X=>?_,fun u I=>B u (mem_of_mem_drop (aO I)),fun k f=>?_,fun k f j m=>?_⟩
  ·rw [aV,length_drop,O,F];omega
  ·subst Y;refine ⟨g,p.lo*sz,by rw [if_neg (by omega),i],fun j u m=>?_⟩;rw [List.getElem?_take] at m;split at m
   ·rename_i ab;rw [aW] at m;have V:p.lo*sz+j<p.xs.length*p.sz:=by rw [i];omega
    rw [Fm n (g:=g) rfl _ V,aB,m];rfl
   ·cases m
  ·have d:p.lo+k<p.xs.length:=by omega
   rw [z k f d,<-i];exact l _ d
  ·have d:p.lo+k<p.xs.length:=by omega
   have r:=m;rw [z k f d,l _ d,i] at r;have U:(k+1)*sz<=p.n*sz:=aM _ (by omega);rw [bD] at U;have e:((us.drop (p.lo*sz)).take (p.n*sz)).getD (k*sz+j) undef=us.getD ((p.lo+k)*p.sz+j) undef:=by
    rw [aB,List.getElem?_take,if_pos (by omega),aW,<-aB,i,Nat.add_mul];congr 1;omega
   rw [e];have:=Q _ d j (by rw [l _ d,i];exact r);simp only [z k f d];exact this
 ·rw [N] at t;obtain ⟨A,c,ey,hc,x,cell,hb,hr,W⟩:=t.sl_inv;refine ⟨A,c,(range (ys.length*sz)).map (fun q=>cell (q / sz) (q % sz)),ey,by simp,fun X=>?_,fun u I=>?_,x,fun k f j m=>?_⟩
  ·obtain ⟨b,off,rfl,hS,K,C⟩:=hb X;refine ⟨b,off,rfl,fun j u m=>?_⟩;obtain ⟨L,r⟩:=List.getElem?_eq_some_iff.1 m;simp only [length_map,length_range] at L;simp only [getElem_map,getElem_range] at r;have R:j / sz<ys.length:=(Nat.div_lt_iff_lt_mul (by omega)).2 L;have hm:j % sz<sz:=Nat.mod_lt _ (by omega);have:=C (j / sz) (j % sz) R hm;rw [show j / sz*sz+j % sz=j by rw [aY];exact Nat.div_add_mod j sz] at this;rw [this,r]
  ·obtain ⟨q,_,rfl⟩:=bB.1 I;exact W _ _
  ·have M:j<sz:=by rw [<-x k f];exact m
   have K:k*sz+j<ys.length*sz:=by
    have:(k+1)*sz<=ys.length*sz:=aM _ f;rw [bD] at this;omega
   have R:(k*sz+j) / sz=k:=by rw [aY,Nat.mul_add_div (by omega),Nat.div_eq_of_lt M,aZ]
   have J:(k*sz+j) % sz=j:=by rw [aY,Nat.mul_add_mod,Nat.mod_eq_of_lt M]
   have:((range (ys.length*sz)).map (fun q=>cell (q / sz) (q % sz))).getD (k*sz+j) undef=cell k j:=by
    rw [aB,getElem?_map,getElem?_range K];simp [R,J]
   rw [this];exact (hr k f j m).open_
theorem zni {T T' e eb m:Nat}{x y:Operand}{i ie:TyI}{p:Part}{ys:List AV}{yids:List Nat}(ho:o.op=.call { callee:=.builtin .copy,args:=#[x,y],argTypes:=#[T,T'] })(hd:dok cx o=true)(bk:A0 x=true)(bj:A0 y=true)
  (hx:Ce σ (σ.eval x)=some p) (an:p.sz=1) (hT:lkT cx.E.tab T=some i) (hs:i.shape=.slc e 1 eb) (he:lkT cx.E.tab e=some ie) (bn:ie.sz=1)
  (hy:(∃ q,Ce σ (σ.eval y)=some q/\q.sz=1/\ys=(q.xs.drop q.lo).take q.n/\q.id∈yids)\/σ.eval y=.sl 1 ys) (h0:0<p.n) (ca:0<ys.length) (hm:m=Nat.min ys.length p.n) :
  A9 cx o σ (.int .i64 (m:Int)) (p.id::yids) [(p.id,.gen p.ty 1 (p.xs.take p.lo++ys.take m++p.xs.drop (p.lo+m)))]:=by
 obtain ⟨bp,ao⟩:=J6 hx;obtain ⟨id,ty,sz,xs,lo,n⟩:=p;simp only at an bp ao h0 hm ⊢;subst an;refine ⟨fun J e he=>?_,fun τ h1 h2 a w Q K ⟨γ,l⟩ hK=>Br (fun c hc=>by rw [ho] at hc;cases hc) ?_⟩
 ·simp only [lkE] at he;cases hb:aA id J with
  |true=>simp [aE hb]
  |false=>rw [hb] at he;cases he
 have ba:=l.ev x bk;rw [h1 x (by simp [ho,Op.operands,Call.operands])] at ba;have ac:=l.ev y bj;rw [h1 y (by simp [ho,Op.operands,Call.operands])] at ac;obtain ⟨F,ci,_⟩:=C5 (cx.E.ok T i hT) hs;have bl:=J5 hx (h2 id (by simp));obtain ⟨s,vs,H,aa,U,hr,ab,hv⟩:=J8 l bl ba;obtain ⟨A,c,news,ey,Z,hA,R,S,bo⟩:=zom l ac (sz:=1) (ys:=ys) (by omega) (hy.imp (fun ⟨q,q1,q2,q3,q4⟩=>⟨q,J5 q1 (h2 q.id (by simp [q4])),q2,q3⟩) (fun h=>h));simp only at H aa U hr hv;obtain ⟨bm,ag⟩:=aa;rcases hv with ⟨_,ch,_⟩|⟨g,cap,rfl,cb,hv⟩
 ·omega
 rcases ag with ⟨bi,_⟩|⟨g2,cc,I,bw,ah,V,ae,ar,bc,N⟩
 ·cases bi
 injection bw with B _ bb
 injection B with B
 injection B with B
 subst B bb;have cg:lo<cap:=by omega
 have hv:a.eval x=.slice (some ⟨g,lo,none⟩) n (cap-lo):=by rw [hv,if_neg (by omega),aU]
 have H:γ id=some (some (some g,.slice (some ⟨g,0,none⟩) xs.length cap)):=H;obtain ⟨b,off,rfl,al⟩:=hA ca;have cd:m<=ys.length:=by rw [hm];exact Nat.min_le_left _ _
 have ce:m<=n:=by rw [hm];exact Nat.min_le_right _ _
 have D:(news.take m).length=m:=by rw [aV,Z];omega
 have ak:(cx.P.info? e).map (·.size)=some 1:=by
  have:=(cx.E.ok e ie he).info;cases G:cx.P.info? e with
  |none=>rw [show cx.E.P.info? e=none from G] at this;cases this
  |some q =>
   rw [show cx.E.P.info? e=some q from G] at this;injection this with this
   injection this with this
   simp [this,bn]
 have bz:I.size=cap:=by simpa using bc
 have O:=run_copy_row (P:=cx.P) w T T' o.type e g lo n (cap-lo) ⟨b,off,none⟩ ys.length c I ty (news.take m) F ak V (by rw [D,hm])
  (fun j u hj=>by
    rw [List.getElem?_take] at hj;split at hj
    ·have:=al j u hj;unfold Addr.add;by_cases aw:j=0
     ·subst aw;simpa using this
     ·simpa [aw] using this
    ·cases hj) (by rw [D];omega) (fun u F=>R u (aO F))
 rw [D] at O;unfold Oper.wp;generalize X:(I.toList.take lo++news.take m++I.toList.drop (lo+m)).toArray=t at O;have bv:(execOp a.eval o).run cx.P w=.ok (.value (goInt m)) (w.setRow g t):=by
  simp only [execOp,ho,resolve,invoke,builtin,Sem.run_bind,Sem.run_pure,Result.andThen_ok,map_toArray,map_cons,map_nil,ey,hv,O]
 rw [bv];have bh:=setRow_heap w g I t ty (0,0) V;have z:∀ q,q≠g->(w.setRow g t).heap[q]? = w.heap[q]? := fun q G=>setRow_other w g q _ G
 have af:own γ g:=own.mk H;have ay:=l.ge g af;have ap:∀ b,Sg cx.S0 cx.w0.heap.size γ b->b≠g:=fun b hS e=>by
  subst e;rcases hS with ⟨_,h⟩|⟨_,h⟩
  ·have:=ay.1.1;omega
  ·exact h af
 generalize M:w.setRow g t=w' at *;have hz:w.heap.size<=w'.heap.size:=by rw [<-M];simp
 have bx:w.drawn<=w'.drawn:=by rw [<-M];exact aD _
 have au:∀ {γ':Gam} {av v},Rep w (Sg cx.S0 cx.w0.heap.size γ) γ' av v->Rep w' (Sg cx.S0 cx.w0.heap.size γ) γ' av v:=fun h=>h.mono hz (fun b hS _=>⟨z b (ap b hS),hS⟩)
 refine hK _ _ ⟨γ,l.step (Bj hd) hz (fun b hS cf=>⟨z b (ap b hS),hS⟩) (fun id d h=>aQ h) (fun J ax=>⟨rfl,fun g' s bu bq=>z g' ?_⟩) (fun J e' W=>?_) l.inj (fun b bg=>⟨(l.ge b bg).1,Nat.lt_of_lt_of_le (l.ge b bg).2 hz⟩) ?_ (.int _ _) (fun b aq _=>⟨z b (fun e=>aq (e▸af)),aq⟩) (fun _=>bx)⟩
 ·rintro rfl;have:=l.inj _ _ _ _ _ bu H bq Bc;subst this;simp [lkE] at ax
 ·have bs:J=id:=by
   simp only [lkE] at W;cases bf:aA id J with
   |true=>exact (aE bf).symm
   |false=>rw [bf] at W;cases W
  subst bs;simp only [lkE,Nat.beq_refl,Option.some.injEq] at W;subst W;simp only [aU] at bm ar bc N Z;have L:(xs.take lo++ys.take m++xs.drop (lo+m)).length=xs.length:=by simp;omega
  have aj:t.toList.take xs.length=vs.take lo++news.take m++vs.drop (lo+m):=by
   rw [<-X,<-N];have:=X7 I.toList (news.take m) lo xs.length (by rw [D];omega) (by simp;omega);rw [D] at this;exact this
  have az:∀ q,(vs.take lo++news.take m++vs.drop (lo+m))[q]? = if q<lo then vs[q]? else if q<lo+m then (news.take m)[q-lo]? else vs[q]? := fun q=>by
   have:=Jf vs (news.take m) lo q (by rw [D];omega);rw [D] at this;exact this
  have bt:∀ q,(xs.take lo++ys.take m++xs.drop (lo+m))[q]? = if q<lo then xs[q]? else if q<lo+m then (ys.take m)[q-lo]? else xs[q]? := fun q=>by
   have ai:(ys.take m).length=m:=by rw [aV];omega
   have:=Jf xs (ys.take m) lo q (by rw [ai];omega);rw [ai] at this;exact this
  have Y:∀ q (G:q<(xs.take lo++ys.take m++xs.drop (lo+m)).length),(∃ f:q<xs.length,(xs.take lo++ys.take m++xs.drop (lo+m))[q]=xs[q]/\(vs.take lo++news.take m++vs.drop (lo+m))[q]? = vs[q]?) \/
    ∃ f:q-lo<ys.length,(xs.take lo++ys.take m++xs.drop (lo+m))[q]=ys[q-lo]/\(vs.take lo++news.take m++vs.drop (lo+m))[q]? = news[q-lo]? := fun q G=>by
   have f:q<xs.length:=by rw [L] at G;exact G
   have C:=bt q;rw [aC G] at C;rw [az q];by_cases c1:q<lo
   ·rw [if_pos c1,aC f] at C;exact aQ ⟨f,by injection C,by rw [if_pos c1]⟩
   ·rw [if_neg c1] at C ⊢;by_cases c2:q<lo+m
    ·rw [if_pos c2,List.getElem?_take,if_pos (by omega),aC (by omega)] at C;exact aX ⟨by omega,by injection C,by rw [if_pos c2,List.getElem?_take,if_pos (by omega)]⟩
    ·rw [if_neg c2,aC f] at C;exact aQ ⟨f,by injection C,by rw [if_neg c2]⟩
  refine ⟨_,H,.slice (some ⟨g,0,none⟩) xs.length cap,vs.take lo++news.take m++vs.drop (lo+m),rfl,rfl,⟨?_,aX ⟨g,cap,t,by rw [L],ah,bh,by rw [L];exact ae,by simpa using ar,?_,by rw [L];simpa using aj⟩⟩,?_,?_,?_⟩
  ·rw [L];simp [Z];omega
  ·rw [<-X];simp [Z];omega
  ·intro q G;rcases Y q G with ⟨f,C,_⟩|⟨f,C,_⟩
   ·rw [C];exact U q f
   ·rw [C];exact S _ f
  ·intro q G r am;rcases Y q G with ⟨f,C,e2⟩|⟨f,C,e2⟩
   ·have br:=U q f;simp only [C] at am ⊢;have ad:r=0:=by omega
    subst ad;have:=au (hr q f 0 (by omega));simp only [aU,aZ] at this ⊢;rw [aB,e2,<-aB];exact this
   ·have br:=S _ f;simp only [C] at am ⊢;have ad:r=0:=by omega
    subst ad;have:=au (bo _ f 0 (by omega));simp only [aU,aZ] at this ⊢;rw [aB,e2,<-aB];exact this
  ·intro u F;rcases mem_append.1 F with F|F
   ·rcases mem_append.1 F with F|F
    ·exact ab u (aO F)
    ·exact R u (aO F)
   ·exact ab u (mem_of_mem_drop F)
 ·refine l.below.trans ⟨by rw [<-M];rfl,by rw [<-M];rfl,by rw [<-M];rfl,hz,fun k hk=>z k (by have:=ay.1.1;omega)⟩
end
noncomputable section
def lkVr (t:Nat)(l:List (Nat×AV)):AV:=List.rec (motive:=fun _=>AV) .any (fun p _ b=>Bool.rec (motive:=fun _=>AV) b p.2 (aA p.1 t)) l
theorem zq1 (t:Nat)(l:List (Nat×AV)):lkVr t l=lkV l t:=by
 induction l with
 |nil=>rfl
 |cons p r b =>
  obtain ⟨u,x⟩:=p;show Bool.rec (motive:=fun _=>AV) (lkVr t r) x (aA u t)=lkV ((u,x)::r) t;rw [b,lkV];cases aA u t<;>rfl
def lkEr (t:Nat)(l:List (Nat×Ent)):Option Ent:=List.rec (motive:=fun _=>Option Ent) none (fun p _ b=>Bool.rec (motive:=fun _=>Option Ent) b (some p.2) (aA p.1 t)) l
theorem Xt (t:Nat)(l:List (Nat×Ent)):lkEr t l=lkE l t:=by
 induction l with
 |nil=>rfl
 |cons p r ih =>
  obtain ⟨u,x⟩:=p;show Bool.rec (motive:=fun _=>Option Ent) (lkEr t r) (some x) (aA u t)=lkE ((u,x)::r) t;rw [ih,lkE];cases aA u t<;>rfl
def memR (n:Nat)(l:List Nat):Bool:=List.rec (motive:=fun _=>Bool) false (fun x _ b=>Bool.rec (motive:=fun _=>Bool) b true (aA x n)) l
theorem Fu (n:Nat)(l:List Nat):memR n l=memB n l:=by
 induction l with
 |nil=>rfl
 |cons x r b =>
  show Bool.rec (motive:=fun _=>Bool) (memR n r) true (aA x n)=memB n (x::r);rw [b,memB];cases aA x n<;>rfl
def AS.getR (σ:AS)(t:Nat):AV:=lkVr t σ.tm
theorem AS.getR_eq (σ:AS)(t:Nat):σ.getR t=σ.get t:=zq1 _ _
def AS.ev (σ:AS)(x:Operand):AV:=Operand.rec (motive:=fun _=>AV) (fun t=>lkVr t σ.tm) (fun v=>E3 v) (fun _=>.any) (fun f=>.fn f []) x
theorem AS.ev_eq (σ:AS)(x:Operand):σ.ev x=σ.eval x:=by
 cases x<;>first|exact zq1 _ _|rfl
def AS.fi (σ:AS)(i:Nat):Option Ent:=lkEr i σ.me
theorem AS.fi_eq (σ:AS)(i:Nat):σ.fi i=σ.find i:=Xt _ _
theorem AS.ev_eq':AS.ev=AS.eval:=by funext σ x;exact σ.ev_eq x
theorem AS.fi_eq':AS.fi=AS.find:=by funext σ x;exact σ.fi_eq x
def inMr (ids:List Nat)(x:AV):Bool:=AV.rec (motive_1:=fun _=>Bool) (motive_2:=fun _=>Bool) (motive_3:=fun _=>Bool) (motive_4:=fun _=>Bool) true (fun _ _=>true) (fun _=>true) (fun _=>true) true (fun id _=>memR id ids) true (fun _ _ _=>true) (fun id=>memR id ids) (fun id _ _ _=>memR id ids) (fun _ _ c=>c) (fun _ _ _ c=>c) true (fun _ c=>c) (fun _ c=>c) (fun _ _=>true) (fun _ id=>memR id ids) (fun _ _=>true) (fun _=>true) (fun _ id=>memR id ids) true (fun _ _ a b=>Bool.rec (motive:=fun _=>Bool) false b a) true (fun _ _ _ _=>true) (fun _ _ _ _=>true) x
def Mv (ids:List Nat)(l:List AV):Bool:=List.rec (motive:=fun _=>Bool) true (fun x _ b=>Bool.rec (motive:=fun _=>Bool) false b (inMr ids x)) l
mutual
theorem zkb (ids:List Nat):(x:AV)->inMr ids x=x.inM ids
 |.any=>rfl|.int _ _=>rfl|.bool _=>rfl|.str _=>rfl|.nilp=>rfl|.nils=>rfl|.sl _ _=>rfl|.nilf=>rfl|.ref _=>rfl|.mapv _=>rfl|.slen _=>rfl
 |.ptr id _=>Fu _ _
 |.row id=>Fu _ _
 |.elt id _ _ _=>Fu _ _
 |.der _ id=>Fu _ _
 |.cont _ id=>Fu _ _
 |.fn _ cap=>Uo ids cap
 |.yld _ _ cap=>Uo ids cap
 |.agg cs=>Uo ids cs
 |.tup cs=>Uo ids cs
theorem Uo (ids:List Nat):(l:List AV)->(AV.rec_1 (motive_1:=fun _=>Bool) (motive_2:=fun _=>Bool) (motive_3:=fun _=>Bool) (motive_4:=fun _=>Bool)
 true (fun _ _=>true) (fun _=>true) (fun _=>true) true (fun id _=>memR id ids) true (fun _ _ _=>true) (fun id=>memR id ids) (fun id _ _ _=>memR id ids) (fun _ _ c=>c) (fun _ _ _ c=>c) true (fun _ c=>c) (fun _ c=>c) (fun _ _=>true) (fun _ id=>memR id ids) (fun _ _=>true) (fun _=>true) (fun _ id=>memR id ids)
 true (fun _ _ a b=>Bool.rec (motive:=fun _=>Bool) false b a) true (fun _ _ _ _=>true) (fun _ _ _ _=>true) l:Bool)=aP ids l
 |[]=>rfl
 |x::r=>by
  have h1:=zkb ids x;have d:=Uo ids r;show Bool.rec (motive:=fun _=>Bool) false (AV.rec_1 (motive_1:=fun _=>Bool) (motive_2:=fun _=>Bool) (motive_3:=fun _=>Bool) (motive_4:=fun _=>Bool) _ _ _ _ _ _ _ _ _ _ _ _ _ _ _ _ _ _ _ _ _ _ _ _ _ r) (inMr ids x)=_;rw [h1,d,aP];cases x.inM ids<;>rfl
end
theorem zdr (ids:List Nat)(l:List AV):Mv ids l=aP ids l:=by
 induction l with
 |nil=>rfl
 |cons x r b =>
  show Bool.rec (motive:=fun _=>Bool) false (Mv ids r) (inMr ids x)=_;rw [b,zkb,aP];cases x.inM ids<;>rfl
variable {α:Type}
def fAr (x:AV)(k:AV->α):α:=AV.rec (motive_1:=fun _=>(AV->α)->α) (motive_2:=fun _=>(List AV->α)->α) (motive_3:=fun _=>Unit) (motive_4:=fun _=>Unit) (fun k=>k .any) (fun kd n k=>k (.int kd n)) (fun b k=>k (.bool b)) (fun s k=>k (.str s)) (fun k=>k .nilp) (fun id off k=>k (.ptr id off)) (fun k=>k .nils) (fun sz xs _ k=>k (.sl sz xs)) (fun id k=>k (.row id)) (fun id sz m j k=>k (.elt id sz m j)) (fun f _ c k=>c fun l=>k (.fn f l)) (fun r T _ c k=>c fun l=>k (.yld r T l)) (fun k=>k .nilf) (fun _ c k=>c fun l=>k (.agg l)) (fun _ c k=>c fun l=>k (.tup l)) (fun cs _ k=>k (.ref cs)) (fun d id k=>k (.der d id)) (fun ps _ k=>k (.mapv ps)) (fun n k=>k (.slen n)) (fun n id k=>k (.cont n id)) (fun k=>k []) (fun _ _ a b k=>a fun x=>b fun l=>k (x::l)) () (fun _ _ _ _=>()) (fun _ _ _ _=>()) x k
def fLr (l:List AV)(k:List AV->α):α:=List.rec (motive:=fun _=>(List AV->α)->α) (fun k=>k []) (fun x _ c k=>fAr x fun b=>c fun l=>k (b::l)) l k
mutual
theorem Gr {α:Type}:∀ (x:AV) (k:AV->α),fAr x k=k x
 |.any,k=>rfl|.int _ _,k=>rfl|.bool _,k=>rfl|.str _,k=>rfl|.nilp,k=>rfl|.nils,k=>rfl|.sl _ _,k=>rfl|.nilf,k=>rfl|.ref _,k=>rfl|.mapv _,k=>rfl|.slen _,k=>rfl
 |.ptr _ _,k=>rfl|.row _,k=>rfl|.elt _ _ _ _,k=>rfl|.der _ _,k=>rfl|.cont _ _,k=>rfl
 |.fn f cap,k=>Uw cap fun l=>k (.fn f l)
 |.yld r T cap,k=>Uw cap fun l=>k (.yld r T l)
 |.agg cs,k=>Uw cs fun l=>k (.agg l)
 |.tup cs,k=>Uw cs fun l=>k (.tup l)
theorem Uw {α:Type}:∀ (l:List AV) (k:List AV->α),(AV.rec_1 (motive_1:=fun _=>(AV->α)->α) (motive_2:=fun _=>(List AV->α)->α) (motive_3:=fun _=>Unit) (motive_4:=fun _=>Unit)
 (fun k=>k .any) (fun kd n k=>k (.int kd n)) (fun b k=>k (.bool b)) (fun s k=>k (.str s)) (fun k=>k .nilp) (fun id off k=>k (.ptr id off)) (fun k=>k .nils) (fun sz xs _ k=>k (.sl sz xs)) (fun id k=>k (.row id)) (fun id sz m j k=>k (.elt id sz m j))
 (fun f _ c k=>c fun l=>k (.fn f l)) (fun r T _ c k=>c fun l=>k (.yld r T l)) (fun k=>k .nilf) (fun _ c k=>c fun l=>k (.agg l)) (fun _ c k=>c fun l=>k (.tup l)) (fun cs _ k=>k (.ref cs)) (fun d id k=>k (.der d id)) (fun ps _ k=>k (.mapv ps)) (fun n k=>k (.slen n)) (fun n id k=>k (.cont n id))
 (fun k=>k []) (fun _ _ a b k=>a fun x=>b fun l=>k (x::l)) () (fun _ _ _ _=>()) (fun _ _ _ _=>()) l:(List AV->α)->α) k=k l
 |[],k=>rfl
 |x::r,k=>by
  refine (Gr x _).trans ?_;exact Uw r fun l=>k (x::l)
end
theorem Gq:∀ (l:List AV) (k:List AV->α),fLr l k=k l
 |[],k=>rfl
 |x::r,k=>by
  show fAr x (fun b=>fLr r fun l=>k (b::l))=_;rw [Gr,Gq]
def fSh (x:AV)(k:AV->α):α:=AV.rec (motive_1:=fun _=>α) (motive_2:=fun _=>Unit) (motive_3:=fun _=>Unit) (motive_4:=fun _=>Unit) (k .any) (fun kd n=>Int.rec (motive:=fun _=>α) (fun m=>k (.int kd (.ofNat m))) (fun m=>k (.int kd (.negSucc m))) n) (fun b=>Bool.rec (motive:=fun _=>α) (k (.bool false)) (k (.bool true)) b) (fun s=>k (.str s)) (k .nilp) (fun id off=>k (.ptr id off)) (k .nils) (fun sz xs _=>k (.sl sz xs)) (fun id=>k (.row id)) (fun id sz m j=>k (.elt id sz m j)) (fun f cap _=>k (.fn f cap)) (fun r T cap _=>k (.yld r T cap)) (k .nilf) (fun cs _=>k (.agg cs)) (fun cs _=>k (.tup cs)) (fun cs _=>k (.ref cs)) (fun c id=>k (.der c id)) (fun ps _=>k (.mapv ps)) (fun n=>k (.slen n)) (fun n id=>k (.cont n id)) () (fun _ _ _ _=>()) () (fun _ _ _ _=>()) (fun _ _ _ _=>()) x
theorem zqc (x:AV)(k:AV->α):fSh x k=k x:=by
 cases x with
 |int kd n=>cases n<;>rfl
 |bool b=>cases b<;>rfl
 |_=>rfl
def fLs (l:List AV)(k:List AV->α):α:=List.rec (motive:=fun _=>(List AV->α)->α) (fun k=>k []) (fun x _ c k=>fSh x fun b=>c fun l=>k (b::l)) l k
theorem Db:∀ (l:List AV) (k:List AV->α),fLs l k=k l
 |[],k=>rfl
 |x::r,k=>by
  show fSh x (fun b=>fLs r fun l=>k (b::l))=_;rw [zqc,Db]
def Jq (n:Nat)(k:Nat->α):α:=Nat.rec (motive:=fun _=>α) (k 0) (fun m _=>k (Nat.succ m)) n
theorem Fn (n:Nat)(k:Nat->α):Jq n k=k n:=by cases n<;>rfl
def okR (σ:AS):AV->Bool
 |.any=>false
 |.tup _=>false
 |.ptr id _=>match σ.fi id with|some (.box _ _)=>true|_=>false
 |.row id=>match σ.fi id with|some (.row _ _ _)=>true|some (.mp _)=>true|some (.gen _ _ _)=>true|some (.lp _ _ _ _ _ _ _)=>true|_=>false
 |.elt _ _ _ _=>false
 |.der (.gs _ _ _) id=>match σ.fi id with|some (.gen _ _ _)=>true|_=>false
 |.der _ _=>false
 |_=>true
theorem zpu (σ:AS)(x:AV):okR σ x=okc σ x:=by
 have key:∀ id,σ.fi id=σ.find id:=σ.fi_eq;cases x with
 |ptr id off=>simp only [okR,okc,key];cases σ.find id with|none=>rfl|some e=>cases e<;>rfl
 |row id=>simp only [okR,okc,key];cases σ.find id with|none=>rfl|some e=>cases e<;>rfl
 |der b id=>cases b<;>first|rfl|(simp only [okR,okc,key];cases σ.find id with|none=>rfl|some e=>cases e<;>rfl)
 |_=>rfl
def Fc (σ:AS):AV->Option Part
 |.row id=>match σ.fi id with
  |some (.gen ty sz xs)=>some ⟨id,ty,sz,xs,0,xs.length⟩
  |_=>none
 |.cont m id=>match σ.fi id with
  |some (.gen ty sz xs)=>match aA m xs.length with
   |true=>some ⟨id,ty,sz,xs,0,xs.length⟩
   |false=>none
  |_=>none
 |.der (.gs sz lo n) id=>match σ.fi id with
  |some (.gen ty b xs)=>match aA b sz && aF (lo+n) xs.length with
   |true=>some ⟨id,ty,sz,xs,lo,n⟩
   |false=>none
  |_=>none
 |_=>none
theorem J9 (σ:AS)(x:AV):Fc σ x=Ce σ x:=by
 have key:∀ id,σ.fi id=σ.find id:=σ.fi_eq;cases x with
 |row id=>simp only [Fc,Ce,key];cases σ.find id with|none=>rfl|some e=>cases e<;>rfl
 |cont m id=>simp only [Fc,Ce,key];cases σ.find id with|none=>rfl|some e=>cases e<;>rfl
 |der b id=>cases b<;>first|rfl|(simp only [Fc,Ce,key];cases σ.find id with|none=>rfl|some e=>cases e<;>rfl)
 |_=>rfl
def Jo (σ:AS)(ps:Array (Nat×Operand)):List (Nat×AV):=ps.toList.map fun p=>(p.1,σ.ev p.2)
theorem zg4 (σ:AS)(ps:Array (Nat×Operand)):Jo σ ps=Cd σ ps:=by unfold Jo Cd;simp only [AS.ev_eq]
def Xe (σ:AS)(ps:Array (Nat×Operand)):Bool:=ps.toList.all fun p=>A0 p.2 && okR σ (σ.ev p.2)
theorem zjp (σ:AS)(ps:Array (Nat×Operand)):Xe σ ps=Dq σ ps:=by unfold Xe Dq;simp only [AS.ev_eq,zpu]
def zwr (σ:AS)(args:Array Operand)(cap:List AV):List AV:=args.toList.map σ.ev++cap
theorem ztf (σ:AS)(args:Array Operand)(cap:List AV):zwr σ args cap=Bw σ args cap:=by unfold zwr Bw;rw [AS.ev_eq']
def bndQ (σ:AS)(d:Nat):Option Operand->Option Int
 |none=>some d
 |some y=>match σ.ev y with|.int _ n=>some n|_=>none
theorem zwp (σ:AS)(d:Nat)(y:Option Operand):bndQ σ d y=bndA σ d y:=by
 cases y with
 |none=>rfl
 |some y=>simp only [bndQ,bndA,AS.ev_eq];cases σ.eval y<;>rfl
structure OpD where
 dst:Option Nat
 lk:List Nat
 wr:List Nat
 ids:List Nat
 cl:Nat
def Yl (l m:List Nat):Bool:=List.rec (motive:=fun _=>Bool) false (fun x _ b=>Bool.rec (motive:=fun _=>Bool) b true (memR x m)) l
theorem zsf (l m:List Nat):Yl l m=meet l m:=by
 induction l with
 |nil=>rfl
 |cons x r b =>
  show Bool.rec (motive:=fun _=>Bool) (Yl r m) true (memR x m)=_;rw [b,Fu];unfold meet;rw [any_cons];cases memB x m<;>rfl
def zvu (d:Option Nat)(l:List Nat):Bool:=Option.rec (motive:=fun _=>Bool) false (fun x=>memR x l) d
theorem zse (d:Option Nat)(l:List Nat):zvu d l=memO d l:=by cases d<;>first|rfl|exact Fu _ _
def Mr (p r:OpD):Bool:=Bool.rec (motive:=fun _=>Bool) (Bool.rec (motive:=fun _=>Bool) (Bool.rec (motive:=fun _=>Bool) (Bool.rec (motive:=fun _=>Bool) (Yl r.wr p.ids) true (Yl p.wr r.ids)) true (Yg p.dst r.dst)) true (zvu r.dst p.lk)) true (zvu p.dst r.lk)
def chk1 (r:OpD)(prev:List OpD)(m:Nat):Bool:=List.rec (motive:=fun _=>Nat->Bool) (fun _=>true) (fun p _ b m=>Bool.rec (motive:=fun _=>Bool) (Bool.rec (motive:=fun _=>Bool) (b (bE m)) false (Mr p r)) (b (bE m)) (aN r.cl (bE m))) prev m
def chkL (todo prev:List OpD)(m:Nat):Bool:=List.rec (motive:=fun _=>List OpD->Nat->Bool) (fun _ _=>true) (fun r _ b prev m=>Bool.rec (motive:=fun _=>Bool) false (b (r::prev) (Nat.succ m)) (chk1 r prev m)) todo prev m
def fNs (l:List Nat)(k:List Nat->α):α:=List.rec (motive:=fun _=>(List Nat->α)->α) (fun k=>k []) (fun x _ b k=>b fun r=>k (x::r)) l k
theorem Ya:∀ (l:List Nat) (k:List Nat->α),fNs l k=k l
 |[],k=>rfl
 |x::r,k=>by
  show fNs r (fun l=>k (x::l))=_;rw [Ya]
def opDs (ops:Array Oper)(l:List Oper)(trs:List Tr)(cl:List Nat)(k:List OpD->α):α:=List.rec (motive:=fun _=>List Tr->List Nat->(List OpD->α)->α) (fun _ _ k=>k []) (fun o _ e trs cl k=>List.rec (motive:=fun _=>α) (k []) (fun tr b _=>List.rec (motive:=fun _=>α) (k []) (fun c d _=>fNs (o.looksAt ops) fun lk=>fNs (Eb tr.wr) fun wr=>fNs tr.ids fun ids=>e b d fun r=>k (⟨o.dst,lk,wr,ids,c⟩::r)) cl) trs) l trs cl k
def cfR (ops:Array Oper)(trs:List Tr):Bool:=opDs ops ops.toList trs (cloL ops.toList []) fun D=>Bool.rec (motive:=fun _=>Bool) false (chkL D [] 0) (aA D.length ops.size)
theorem zqr (ops:Array Oper)(tr:Nat->Tr)(i j:Nat)(c d:Nat):Mr ⟨Bb ops i,looks ops i,Eb (tr i).wr,(tr i).ids,c⟩ ⟨Bb ops j,looks ops j,Eb (tr j).wr,(tr j).ids,d⟩=E5 ops tr i j:=by
 simp only [Mr,E5,zse,zsf];cases memO (Bb ops i) (looks ops j)<;>cases memO (Bb ops j) (looks ops i)<;>cases Yg (Bb ops i) (Bb ops j)<;>cases meet (Eb (tr i).wr) (tr j).ids<;>rfl
theorem zqw {r:OpD}:∀ (prev:List OpD) (m:Nat),prev.length=m->chk1 r prev m=true->∀ i (hi:i<m),∀ p,prev[m-1-i]? = some p->Mr p r=true->aN r.cl i=true
 |[],m,hm,_,i,hi,_,s,_=>by simp at hm;omega
 |p::prev,m,hm,h,i,hi,q,b,j=>by
  obtain ⟨m,rfl⟩:∃ n,m=n+1:=⟨m-1,by omega⟩;have k:prev.length=m:=by simpa using hm
  have h:Bool.rec (motive:=fun _=>Bool) (Bool.rec (motive:=fun _=>Bool) (chk1 r prev m) false (Mr p r)) (chk1 r prev m) (aN r.cl m)=true:=h;by_cases f:i=m
  ·subst f;have b:some p=some q:=by simpa using b
   injection b with b
   subst b;cases d:aN r.cl i with
   |true=>rfl
   |false=>rw [d,j] at h;cases h
  ·have e:(p::prev)[m+1-1-i]? = prev[m-1-i]? := by
    rw [show m+1-1-i=(m-1-i)+1 by omega];rfl
   rw [e] at b;have l:chk1 r prev m=true:=by
    cases d:aN r.cl m with
    |true=>rw [d] at h;exact h
    |false =>
     rw [d] at h;cases c:Mr p r with
     |true=>rw [c] at h;cases h
     |false=>rw [c] at h;exact h
   exact zqw prev m k l i (by omega) q b j
theorem zqv:∀ (todo prev:List OpD) (m:Nat),prev.length=m->chkL todo prev m=true->∀ j r,todo[j]? = some r->∀ i p,i<m+j->(prev.reverse++todo)[i]? = some p->Mr p r=true->aN r.cl i=true
 |[],_,_,_,_,j,r,b,_,_,_,_,_=>by simp at b
 |t::todo,prev,m,hm,h,j,r,b,i,p,hi,c,d=>by
  have h:Bool.rec (motive:=fun _=>Bool) false (chkL todo (t::prev) (m+1)) (chk1 t prev m)=true:=h;cases h1:chk1 t prev m with
  |false=>rw [h1] at h;cases h
  |true =>
   rw [h1] at h;cases j with
   |zero =>
    have b:some t=some r:=by simpa using b
    injection b with b
    subst b;refine zqw prev m hm h1 i (by omega) p ?_ d;rw [getElem?_append_left (by simp;omega),List.getElem?_reverse (by omega),hm] at c;exact c
   |succ j =>
    exact zqv todo (t::prev) (m+1) (by simp [hm]) h j r (by simpa using b) i p (by omega) (by rw [List.reverse_cons,append_assoc];exact c) d
theorem zpt (ops:Array Oper):∀ (l:List Oper) (trs:List Tr) (cl:List Nat) (k:List OpD->α),∃ D:List OpD,opDs ops l trs cl k=k D/\D.length<=l.length/\∀ (i:Nat) (r:OpD),D[i]? = some r->∃ (o:Oper) (tr:Tr) (c:Nat),l[i]? = some o/\trs[i]? = some tr/\cl[i]? = some c/\r=(⟨o.dst,o.looksAt ops,Eb tr.wr,tr.ids,c⟩:OpD)
 |[],_,_,k=>⟨[],rfl,aD _,fun i r h=>by simp at h⟩
 |o::l,[],_,k=>⟨[],rfl,Nat.zero_le _,fun i r h=>by simp at h⟩
 |o::l,tr::trs,[],k=>⟨[],rfl,Nat.zero_le _,fun i r h=>by simp at h⟩
 |o::l,tr::trs,c::cl,k=>by
  obtain ⟨D,h1,d,b⟩:=zpt ops l trs cl (fun r=>k (⟨o.dst,o.looksAt ops,Eb tr.wr,tr.ids,c⟩::r));refine ⟨⟨o.dst,o.looksAt ops,Eb tr.wr,tr.ids,c⟩::D,?_,by simp;omega,fun i r h=>?_⟩
  ·show fNs (o.looksAt ops) (fun lk=>fNs (Eb tr.wr) fun wr=>fNs tr.ids fun ids=>opDs ops l trs cl fun r=>k (⟨o.dst,lk,wr,ids,c⟩::r))=_;rw [Ya,Ya,Ya,h1]
  ·cases i with
   |zero =>
    rw [getElem?_cons_zero] at h;injection h with h
    exact ⟨o,tr,c,rfl,rfl,rfl,h.symm⟩
   |succ i=>exact b i r (by simpa using h)
theorem zym {ops:Array Oper}{trs:List Tr}(h:cfR ops trs=true):Hr ops trs=true:=by
 unfold cfR at h;obtain ⟨D,h1,s,n⟩:=zpt ops ops.toList trs (cloL ops.toList []) (fun D=>Bool.rec (motive:=fun _=>Bool) false (chkL D [] 0) (aA D.length ops.size));rw [h1] at h;cases d:aA D.length ops.size with
 |false=>rw [d] at h;cases h
 |true =>
  rw [d] at h;have h:chkL D [] 0=true:=h;have f:=aE d;have b:∀ i (hi:i<ops.size),D[i]? = some ⟨Bb ops i,looks ops i,Eb (trs.getD i default).wr,(trs.getD i default).ids,(cloL ops.toList []).getD i 0⟩:=fun i hi=>by
   obtain ⟨o,tr,c,e,r,q,p⟩:=n i D[i] (aC (by omega));rw [aC (by omega),p];have e:ops[i]? = some o:=by simpa using e
   simp [Bb,looks,e,aB,r,q]
  unfold Hr;simp only [bA,mem_range,Bool.or_eq_true,Bool.not_eq_true'];intro j l i hi;cases m:E5 ops (fun k=>trs.getD k default) i j with
  |false=>exact aQ rfl
  |true =>
   right;exact zqv D [] 0 rfl h j _ (b j l) i _ (by omega) (b i (by omega)) (by rw [zqr ops (fun k=>trs.getD k default)];exact m)
end
open Go.RowKit
inductive OR where
 |no
 |ok (av:AV) (ids:List Nat) (wr:List (Nat×Ent)) (k:Nat)
structure CxO (E:Env) (nt:Nat) (cx:Cx):Prop where
 e:∃ b,cx.E={ E with rg:=b }
 n:cx.nt=nt
structure EnvO (E:Env):Prop where
 dr:E.dr=false
 np:E.np=0
 yl:E.yl=none
section
variable {E:Env} {nt:Nat} {cx:Cx}
theorem CxO.tab (h:CxO E nt cx):cx.E.tab=E.tab:=by obtain ⟨b,e⟩:=h.e;rw [e]
theorem CxO.P (h:CxO E nt cx):cx.E.P=E.P:=by obtain ⟨b,e⟩:=h.e;rw [e]
theorem CxO.dr (h:CxO E nt cx)(k:EnvO E):cx.E.dr=false:=by obtain ⟨b,e⟩:=h.e;rw [e];exact k.dr
theorem CxO.ld (h:CxO E nt cx):cx.E.ld=E.ld:=by obtain ⟨b,e⟩:=h.e;rw [e]
theorem CxO.T (h:CxO E nt cx){T:Nat}{i:TyI}(k:lkT E.tab T=some i):lkT cx.E.tab T=some i:=by rw [h.tab];exact k
theorem CxO.dok (h:CxO E nt cx){o:Oper}(k:dokN E nt o.dst=true):dok cx o=true:=by
 obtain ⟨b,e⟩:=h.e;unfold dokN at k;unfold Go.Proofs.YtkoamfnbbhfaiaaGreatDoor.dok;rw [h.n,e];exact k
end
def xNat:Int->Option Nat |.ofNat m=>some m |.negSucc _=>none
theorem Dz {n:Int}{m:Nat}(h:xNat n=some m):n=(m:Int):=by
 cases n with
 |ofNat k=>simp only [xNat] at h;injection h with h;subst h;rfl
 |negSucc k=>cases h
noncomputable section
def zuk (σ:AS)(k:Nat)(i:TyI):AV->OR
 |.ptr id off=>match σ.fi id with
  |some (.box _ cs)=>match i.shape.agg with
   |true=>match aF (off+i.sz) cs.length with
    |true=>fLs ((cs.drop off).take i.sz) fun l=>.ok (.agg l) [id] [] k
    |false=>.no
   |false=>match cs[off]? with
    |some av=>.ok av [id] [] k
    |none=>.no
  |_=>.no
 |.elt id sz kk j=>match σ.fi id with
  |some (.gen _ b xs)=>match aA b sz,xs[kk]? with
   |true,some el=>match i.shape.agg with
    |true=>match aF (j+i.sz) sz with
     |true=>fLs ((el.cells.drop j).take i.sz) fun l=>.ok (.agg l) [id] [] k
     |false=>.no
    |false=>match el.cells[j]? with
     |some av=>.ok av [id] [] k
     |none=>.no
   |_,_=>.no
  |_=>.no
 |.ref cs=>match i.shape.agg with
  |true=>match aF i.sz cs.length with
   |true=>fLs (cs.take i.sz) fun l=>.ok (.agg l) [] [] k
   |false=>.no
  |false=>match cs with
   |av::_=>.ok av [] [] k
   |[]=>.no
 |_=>.no
def zob (σ:AS)(k:Nat)(i:TyI)(av:AV):AV->OR
 |.ptr id off=>match σ.fi id with
  |some (.box ty cs)=>match aF (off+i.sz) cs.length && (aA av.cells.length i.sz && okR σ av) with
   |true=>fLs (cs.take off++av.cells++cs.drop (off+i.sz)) fun l=>.ok (.tup []) (id::av.ids) [(id,.box ty l)] k
   |false=>.no
  |_=>.no
 |.elt id sz kk j=>match σ.fi id with
  |some (.gen ty b xs)=>match xs[kk]? with
   |some el=>match aA b sz && (aA av.cells.length i.sz && (aF (j+i.sz) sz && (okR σ av && elOk el j i.sz))) with
    |true=>fLr (xs.set kk (Yi el j i.sz av)) fun l=>.ok (.tup []) (id::av.ids) [(id,.gen ty sz l)] k
    |false=>.no
   |none=>.no
  |_=>.no
 |_=>.no
def zof (σ:AS)(k:Nat)(fo:Nat):AV->OR
 |.ptr id off=>match σ.fi id with
  |some (.box _ _)=>.ok (.ptr id (off+fo)) [id] [] k
  |_=>.no
 |.elt id sz kk j=>match σ.fi id with
  |some (.gen _ b xs)=>match aA b sz && aL kk xs.length with
   |true=>.ok (.elt id sz kk (j+fo)) [id] [] k
   |false=>.no
  |_=>.no
 |.ref cs=>fLs (cs.drop fo) fun l=>.ok (.ref l) [] [] k
 |_=>.no
def Zo (σ:AS)(k:Nat)(sz:Nat)(x y:AV):OR :=
 match Fc σ x,y with
 |some p,.int _ n=>match xNat n with
  |some m=>match aA p.sz sz && aL m p.n with
   |true=>.ok (.elt p.id sz (p.lo+m) 0) [p.id] [] k
   |false=>.no
  |none=>.no
 |_,_=>.no
def Zp (ld:Bool)(σ:AS)(k:Nat)(len esz:Nat)(x:Operand)(y:AV):OR :=
 match x,y with
 |.global g,.int _ n=>match lkG gls0 g,xNat n with
  |some vs,some m=>match ld && (aL m len && Ch vs.toList) with
   |true=>fLs ((vs.toList.map bF).drop (m*esz)) fun l=>.ok (.ref l) [] [] k
   |false=>.no
  |_,_=>.no
 |x,.int _ n=>match A0 x,σ.ev x,xNat n with
  |true,.ptr id off,some m=>match σ.fi id with
   |some (.box _ _)=>match aL m len with
    |true=>.ok (.ptr id (off+m*esz)) [id] [] k
    |false=>.no
   |_=>.no
  |_,_,_=>.no
 |_,_=>.no
def zuo (k:Nat)(op:BinOp)(ka:IntKind)(m:Int)(kb:IntKind)(n:Int):OR :=
 match shI op ka m n with
 |some av=>match xNat n with
  |some _=>.ok av [] [] k
  |none=>.no
 |none=>match decide (ka=kb) with
  |true=>match op with
   |.quo=>match decide (n=0) with
    |false=>.ok (.int ka (ka.wrap (m.tdiv n))) [] [] k
    |true=>.no
   |.rem=>match decide (n=0) with
    |false=>.ok (.int ka (m.tmod n)) [] [] k
    |true=>.no
   |op=>match binI op ka m n with
    |some av=>.ok av [] [] k
    |none=>match bitI op ka m n with
     |some av=>.ok av [] [] k
     |none=>.no
  |false=>.no
def xBin (E:Env)(σ:AS)(k:Nat)(op:BinOp)(T:Nat)(x y:AV):OR :=
 match x,y with
 |.int ka m,.int kb n=>zuo k op ka m kb n
 |.bool a,.bool b=>match lkT E.tab T with
  |some i=>match i.shape,op with
   |.bool,.eql=>.ok (.bool (a == b)) [] [] k
   |.bool,.neq=>.ok (.bool (!(a == b))) [] [] k
   |_,_=>.no
  |none=>.no
 |.str a,.str b=>match binS op a b with
  |some c=>.ok (.bool c) [] [] k
  |none=>.no
 |.agg cs,.agg ds=>match V2 E.P T cs,op,eqL cs ds with
  |true,.eql,some c=>.ok (.bool c) [] [] k
  |true,.neq,some c=>.ok (.bool (!c)) [] [] k
  |_,_,_=>.no
 |.nils,.nils=>match lkT E.tab T with
  |some i=>match i.shape,op with
   |.slc _ _ _,.eql=>.ok (.bool true) [] [] k
   |.slc _ _ _,.neq=>.ok (.bool false) [] [] k
   |_,_=>.no
  |none=>.no
 |x,.nils=>match Fc σ x,lkT E.tab T with
  |some p,some i=>match i.shape,aL 0 p.xs.length,op with
   |.slc _ _ _,true,.eql=>.ok (.bool false) [p.id] [] k
   |.slc _ _ _,true,.neq=>.ok (.bool true) [p.id] [] k
   |_,_,_=>.no
  |_,_=>.no
 |_,_=>.no
def xLen (σ:AS)(k:Nat)(i:TyI)(x:AV):OR :=
 match i.shape with
 |.slc _ _ _=>match x with
  |.nils=>.ok (.int .i64 0) [] [] k
  |.sl _ xs=>.ok (.int .i64 (xs.length:Int)) [] [] k
  |x=>match Fc σ x with
   |some p=>.ok (.int .i64 (p.n:Int)) [p.id] [] k
   |none=>.no
 |.str=>match x with
  |.str s=>.ok (.int .i64 (s.size:Int)) [] [] k
  |_=>.no
 |.map _ _=>match x with
  |.row id=>match σ.fi id with
   |some (.mp ps)=>.ok (.int .i64 (ps.length:Int)) [id] [] k
   |_=>.no
  |_=>.no
 |_=>.no
def Y2 (σ:AS)(k e sz id:Nat):Option (Option Nat×List AV):=match σ.fi id with
 |some (.gen c b xs)=>match aA c e && (aA b sz && !Nat.beq id k) with
  |true=>some (some id,xs)
  |false=>none
 |_=>none
def zup (σ:AS)(k e sz:Nat):AV->Option (Option Nat×List AV) |.nils=>some (none,[]) |.row id=>Y2 σ k e sz id |.cont _ id=>Y2 σ k e sz id |_=>none
def zuj (σ:AS)(sz:Nat):AV->Option (List Nat×List AV)
 |.nils=>some ([],[])
 |y=>match Fc σ y with
  |some p=>match aA p.sz sz with
   |true=>some ([p.id],(p.xs.drop p.lo).take p.n)
   |false=>none
  |none=>none
def zj8 (E:Env)(σ:AS)(k:Nat)(T T':Nat)(x y:AV):OR :=
 match lkT E.tab T,σ.fi k with
 |some i,none=>match i.shape with
  |.slc e sz _=>match lkT E.tab e with
   |some ie=>match aA ie.sz sz && (!Nat.beq sz 0 && aA ie.zero.cells.size sz),zup σ k e sz x with
    |true,some (oid,xs)=>match aA T T' with
     |true=>match zuj σ sz y with
      |some (yids,ys)=>match aF (xs.length+ys.length) 1099511627776 && aF ((xs.length+ys.length)*ie.bytes) 140737488355328 with
       |true=>Jq (xs.length+ys.length) fun n=>fLs (xs++ys) fun l=>.ok (.cont n k) (k::(oid.toList++yids)) ((k,.gen e sz l)::Dh oid) (k+1)
       |false=>.no
      |none=>.no
     |false=>match lkT E.tab T',y,ie.zero with
      |some b,.str s,.int .u8 0=>match b.shape with
       |.str=>match aA sz 1 && (aA ie.bytes 1 && aF (xs.length+s.size) 1099511627776) with
        |true=>Jq (xs.length+s.size) fun n=>fLs (xs++D4 s) fun l=>.ok (.cont n k) (k::oid.toList) ((k,.gen e 1 l)::Dh oid) (k+1)
        |false=>.no
       |_=>.no
      |_,_,_=>.no
    |_,_=>.no
   |none=>.no
  |_=>.no
 |_,_=>.no
def xSrc (σ:AS):AV->Option (List Nat×List AV)
 |.sl sz ys=>match aA sz 1 with
  |true=>some ([],ys)
  |false=>none
 |y=>match Fc σ y with
  |some q=>match aA q.sz 1 with
   |true=>some ([q.id],(q.xs.drop q.lo).take q.n)
   |false=>none
  |none=>none
def zum (E:Env)(σ:AS)(k:Nat)(i:TyI)(x y:AV):OR :=
 match i.shape with
 |.slc e sz _=>match lkT E.tab e,Fc σ x,xSrc σ y with
  |some ie,some p,some (yids,ys)=>match aA sz 1 && (aA ie.sz 1 && (aA p.sz 1 && (aL 0 p.n && aL 0 ys.length))) with
   |true=>Jq (Nat.min ys.length p.n) fun m=>fLs (p.xs.take p.lo++ys.take m++p.xs.drop (p.lo+m)) fun l=>.ok (.int .i64 (m:Int)) (p.id::yids) [(p.id,.gen p.ty 1 l)] k
   |false=>.no
  |_,_,_=>.no
 |_=>.no
def zd2 (E:Env)(σ:AS)(k:Nat)(o:Oper)(b:Builtin)(args:List Operand)(tys:List TypeId):OR :=
 match b,args,tys with
 |.len,[x],[T]=>match A0 x,lkT E.tab T with
  |true,some i=>xLen σ k i (σ.ev x)
  |_,_=>.no
 |.cap,[x],[T]=>match A0 x,lkT E.tab T,σ.ev x with
  |true,some i,.nils=>match i.shape with|.slc _ _ _=>.ok (.int .i64 0) [] [] k|_=>.no
  |_,_,_=>.no
 |.max,[x,y],_=>match A0 x && A0 y,σ.ev x,σ.ev y with
  |true,.int ka a,.int _ b=>.ok (.int ka (max a b)) [] [] k
  |_,_,_=>.no
 |.min,[x,y],_=>match A0 x && A0 y,σ.ev x,σ.ev y with
  |true,.int ka a,.int _ b=>.ok (.int ka (min a b)) [] [] k
  |_,_,_=>.no
 |.append,[x,y],[T,T']=>match A0 x && A0 y,o.dst with
  |true,some _=>zj8 E σ k T T' (σ.ev x) (σ.ev y)
  |_,_=>.no
 |.copy,[x,y],[T,_]=>match A0 x && A0 y,lkT E.tab T with
  |true,some i=>zum E σ k i (σ.ev x) (σ.ev y)
  |_,_=>.no
 |_,_,_=>.no
def zod (σ:AS)(k:Nat)(i:TyI)(lo hi:Option Operand)(x:AV):OR :=
 match x,i.shape with
 |.str s,.str=>match bndQ σ 0 lo,bndQ σ s.size hi with
  |some l,some h=>match xNat l,xNat h with
   |some l,some h=>match aF l h && aF h s.size with
    |true=>.ok (.str (s.extract l h)) [] [] k
    |false=>.no
   |_,_=>.no
  |_,_=>.no
 |.nils,.slc _ sz _=>match aA sz 0,bndQ σ 0 lo,bndQ σ 0 hi with
  |false,some l,some h=>match xNat l,xNat h with
   |some 0,some 0=>.ok .nils [] [] k
   |_,_=>.no
  |_,_,_=>.no
 |x,.slc _ sz _=>match Fc σ x with
  |some p=>match bndQ σ 0 lo,bndQ σ p.n hi with
   |some l,some h=>match xNat l,xNat h with
    |some l,some h=>match !Nat.beq sz 0 && (aA p.sz sz && (aF l h && (aF h p.n && (aA p.lo 0 || aA l 0)))) with
     |true=>.ok (.der (.gs sz (p.lo+l) (h-l)) p.id) [p.id] [] k
     |false=>.no
    |_,_=>.no
   |_,_=>.no
  |none=>.no
 |_,_=>.no
def zd1 (E:Env)(σ:AS)(k:Nat)(i j:TyI)(x:AV):OR :=
 match j.shape with
 |.int kd=>match x with
  |.int _ n=>.ok (.int kd (kd.wrap n)) [] [] k
  |_=>.no
 |.str=>match i.shape,Fc σ x with
  |.slc e sz _,some p=>match aA sz 1 && aA p.sz 1,lkT E.tab e,Mx ((p.xs.drop p.lo).take p.n) with
   |true,some ie,some ns=>match ie.shape with
    |.int .u8=>.ok (.str (ns.foldl (fun r n=>r.push (UInt8.ofNat n.toNat)) ByteArray.empty)) [p.id] [] k
    |_=>.no
   |_,_,_=>.no
  |_,_=>.no
 |_=>.no
def zj3 (E:Env)(σ:AS)(k:Nat)(i:TyI)(key:AV)(ok:Bool):AV->OR
 |.row id=>match i.shape,σ.fi id with
  |.map kt et,some (.mp ps)=>match lkT E.tab et with
   |some ie=>match Ch ie.zero.cells.toList && Bp E.P kt key,Bq key (ps.map (·.1)) 0 with
    |true,some r=>fAr (Mt (Ey (E3 ie.zero) ps r) r.isSome ok) fun av=>.ok av [id] [] k
    |_,_=>.no
   |none=>.no
  |_,_=>.no
 |_=>.no
def Xm (E:Env)(σ:AS)(k:Nat)(i:TyI)(key x:AV):AV->OR
 |.row id=>match i.shape,σ.fi id with
  |.map kt _,some (.mp ps)=>match x.closed && Bp E.P kt key,Bq key (ps.map (·.1)) 0 with
   |true,some r=>.ok (.tup []) [id] [(id,.mp (putK r key x ps))] k
   |_,_=>.no
  |_,_=>.no
 |_=>.no
def Z7 (E:Env)(σ:AS)(k:Nat)(o:Oper)(i:TyI)(n:Nat)(ps:Array (Nat×Operand)):OR :=
 match i.shape,o.dst,σ.fi k with
 |.slc e esz _,some _,none=>match lkT E.tab e with
  |some ie=>match Cr (fun j=>some (j*esz,esz)) (replicate (n*esz) .any) (Jo σ ps) with
   |some fl=>match !Nat.beq esz 0 && (aF (n*esz) 16777216 && (Ch ie.zero.cells.toList && (aL 0 ie.zero.cells.size && (ie.shape.agg || (aA esz 1 && fl.all V0))))) with
    |true=>fLr (Ew ie.shape.agg esz n fl) fun l=>.ok (.row k) (k::E2 (Jo σ ps)) [(k,.gen e esz l)] (k+1)
    |false=>.no
   |none=>.no
  |none=>.no
 |_,_,_=>.no
def Zf (E:Env)(σ:AS)(k:Nat)(o:Oper)(i:TyI)(x y:AV):OR :=
 match i.shape,o.dst,σ.fi k with
 |.slc e esz _,some _,none=>match lkT E.tab e,x,y with
  |some ie,.int _ n,.int _ c=>match xNat n,xNat c with
   |some m,some c=>match !Nat.beq esz 0 && (Gl ie && (Ch ie.zero.cells.toList && (aF m c && (aF c 1099511627776 && aF (ie.bytes*c) 281474976710656)))) with
    |true=>fLr (replicate m (Cw ie)) fun l=>.ok (.row k) [k] [(k,.gen e esz l)] (k+1)
    |false=>.no
   |_,_=>.no
  |_,_,_=>.no
 |_,_,_=>.no
def zoh (σ:AS)(k:Nat)(i:TyI)(ps:Array (Nat×Operand)):OR :=
 match i.shape,Ch i.zero.cells.toList with
 |.strct fs,true=>match fs.all (fun f=>!(aA f.2.1 0)),Cr (fun j=>(fs[j]?).map fun f=>(f.1,f.2.1)) (i.zero.cells.toList.map bF) (Jo σ ps) with
  |true,some cs=>fLs cs fun cs=>.ok (.agg cs) (E2 (Jo σ ps)) [] k
  |_,_=>.no
 |.arr _ _ esz _,true=>match aA esz 0,Cr (fun j=>some (j*esz,esz)) (i.zero.cells.toList.map bF) (Jo σ ps) with
  |false,some cs=>fLs cs fun cs=>.ok (.agg cs) (E2 (Jo σ ps)) [] k
  |_,_=>.no
 |_,_=>.no
def zj5 (k:Nat)(i:TyI)(f:Nat):AV->OR
 |.agg cs=>match i.shape with
  |.strct fs=>match fs[f]? with
   |some (fo,fsz,some true)=>match aA fsz 0,aF (fo+fsz) cs.length with
    |false,true=>fLs ((cs.drop fo).take fsz) fun l=>.ok (.agg l) [] [] k
    |_,_=>.no
   |some (fo,fsz,some false)=>match cs[fo]? with
    |some av=>.ok av [] [] k
    |none=>.no
   |_=>.no
  |_=>.no
 |_=>.no
def zj4 (k:Nat)(i:TyI)(x y:AV):OR :=
 match x,y with
 |.agg cs,.int _ n=>match i.shape,xNat n with
  |.arr len _ esz (some ag),some m=>match aA esz 0,aL m len,ag with
   |false,true,true=>match aF (m*esz+esz) cs.length with
    |true=>fLs ((cs.drop (m*esz)).take esz) fun l=>.ok (.agg l) [] [] k
    |false=>.no
   |false,true,false=>match cs[m*esz]? with
    |some av=>.ok av [] [] k
    |none=>.no
   |_,_,_=>.no
  |_,_=>.no
 |.str s,.int _ n=>match i.shape,xNat n with
  |.str,some m=>match zuf s m with
   |some b=>.ok (.int .u8 b.toNat) [] [] k
   |none=>.no
  |_,_=>.no
 |_,_=>.no
def xNil (σ:AS)(k:Nat):AV->OR
 |.ptr id off=>match σ.fi id with
  |some (.box _ _)=>.ok (.ptr id off) [id] [] k
  |_=>.no
 |.elt id sz kk j=>match σ.fi id with
  |some (.gen _ b xs)=>match aA b sz && aL kk xs.length with
   |true=>.ok (.elt id sz kk j) [id] [] k
   |false=>.no
  |_=>.no
 |.ref cs=>.ok (.ref cs) [] [] k
 |_=>.no
def xOp (E:Env)(o:Oper)(σ:AS)(k:Nat):OR :=
 match o.op with
 |.move x=>match A0 x with|true=>.ok (σ.ev x) [] [] k|false=>.no
 |.assign x=>match A0 x with|true=>.ok (σ.ev x) [] [] k|false=>.no
 |.pick c x y=>match A0 c && (A0 x && A0 y),σ.ev c with
  |true,.bool true=>.ok (σ.ev x) [] [] k
  |true,.bool false=>.ok (σ.ev y) [] [] k
  |_,_=>.no
 |.nilCheck x=>match A0 x with|true=>xNil σ k (σ.ev x)|false=>.no
 |.binOp op T x y _=>match A0 x && A0 y with|true=>xBin E σ k op T (σ.ev x) (σ.ev y)|false=>.no
 |.unOp .not _ x=>match A0 x,σ.ev x with
  |true,.bool b=>.ok (.bool (!b)) [] [] k
  |_,_=>.no
 |.unOp .neg _ x=>match A0 x,σ.ev x with
  |true,.int kd a=>.ok (.int kd (kd.wrap (0-a))) [] [] k
  |_,_=>.no
 |.alloc T=>match o.dst,lkT E.tab T,σ.fi k with
  |some _,some i,none=>match Ch i.zero.cells.toList with
   |true=>fLs (i.zero.cells.toList.map bF) fun l=>.ok (.ptr k 0) [k] [(k,.box T l)] (k+1)
   |false=>.no
  |_,_,_=>.no
 |.box T x=>match o.dst,σ.fi k with
  |some _,none=>match A0 x && okR σ (σ.ev x) with
   |true=>fLs (σ.ev x).cells fun l=>.ok (.ptr k 0) (k::(σ.ev x).ids) [(k,.box T l)] (k+1)
   |false=>.no
  |_,_=>.no
 |.fieldAddr T x f=>match A0 x,lkT E.tab T with
  |true,some i=>match i.shape with
   |.strct fs=>match fs[f]? with
    |some (fo,fsz,_)=>match aA fsz 0 with
     |false=>zof σ k fo (σ.ev x)
     |true=>.no
    |none=>.no
   |_=>.no
  |_,_=>.no
 |.load T x=>match A0 x,lkT E.tab T with
  |true,some i=>zuk σ k i (σ.ev x)
  |_,_=>.no
 |.store T x y=>match A0 x && A0 y,lkT E.tab T with
  |true,some i=>zob σ k i (σ.ev y) (σ.ev x)
  |_,_=>.no
 |.indexAddr T x y=>match A0 y,lkT E.tab T with
  |true,some i=>match i.shape with
   |.slc _ sz _=>match A0 x,aA sz 0 with
    |true,false=>Zo σ k sz (σ.ev x) (σ.ev y)
    |_,_=>.no
   |.arr len _ esz _=>match aA esz 0 with
    |false=>Zp E.ld σ k len esz x (σ.ev y)
    |true=>.no
   |_=>.no
  |_,_=>.no
 |.field T x f=>match A0 x,lkT E.tab T with
  |true,some i=>zj5 k i f (σ.ev x)
  |_,_=>.no
 |.index T x y=>match A0 x && A0 y,lkT E.tab T with
  |true,some i=>zj4 k i (σ.ev x) (σ.ev y)
  |_,_=>.no
 |.extract x ix=>match A0 x,σ.ev x with
  |true,.tup cs=>match cs[ix]? with
   |some av=>.ok av [] [] k
   |none=>.no
  |_,_=>.no
 |.build T ps=>match lkT E.tab T,Xe σ ps with
  |some i,true=>zoh σ k i ps
  |_,_=>.no
 |.buildSlice T n ps=>match lkT E.tab T,Xe σ ps with
  |some i,true=>Z7 E σ k o i n ps
  |_,_=>.no
 |.makeSlice T x y=>match A0 x && A0 y,lkT E.tab T with
  |true,some i=>Zf E σ k o i (σ.ev x) (σ.ev y)
  |_,_=>.no
 |.makeMap T none=>match o.dst,σ.fi k with
  |some _,none=>.ok (.row k) [k] [(k,.mp [])] (k+1)
  |_,_=>.no
 |.lookup T x y ok=>match A0 x && A0 y,lkT E.tab T with
  |true,some i=>zj3 E σ k i (σ.ev y) ok (σ.ev x)
  |_,_=>.no
 |.mapUpdate T x y z=>match A0 x && (A0 y && A0 z),lkT E.tab T with
  |true,some i=>Xm E σ k i (σ.ev y) (σ.ev z) (σ.ev x)
  |_,_=>.no
 |.insert T x y z=>match A0 x && (A0 y && A0 z),lkT E.tab T with
  |true,some i=>Xm E σ k i (σ.ev y) (σ.ev z) (σ.ev x)
  |_,_=>.no
 |.slice T x lo hi none=>match A0 x && (opdO lo && opdO hi),lkT E.tab T with
  |true,some i=>zod σ k i lo hi (σ.ev x)
  |_,_=>.no
 |.convert T T' x=>match A0 x,lkT E.tab T,lkT E.tab T' with
  |true,some i,some j=>zd1 E σ k i j (σ.ev x)
  |_,_,_=>.no
 |.makeFunc (.func f) first ps=>match first.toList,ps.toList.all A0 with
  |[],true=>fLs (ps.toList.map σ.ev) fun l=>.ok (.fn f l) [] [] k
  |_,_=>.no
 |.call c=>match c.callee with
  |.builtin b=>zd2 E σ k o b c.args.toList c.argTypes.toList
  |_=>.no
 |_=>.no
end
end Go.Proofs.YtkoamfnbbhfaiaaGreatDoor
