/- The abstract walk. -/
import Derived.Test.YtkoamfnbbhfaiaaGreatDoorK11
import Derived.Laws.BytesString
set_option linter.unusedVariables false
set_option linter.unusedSimpArgs false
namespace Go.Proofs.YtkoamfnbbhfaiaaGreatDoor
open Go.RowKit List
open List renaming getD_eq_getElem?_getD->aA,mem_cons_of_mem->aJ,mem_cons_self->aN,getElem_replicate->aP,getElem_cons_zero->aQ,all_eq_true->aS,length_map->aW
open _root_.Array renaming getD_eq_getD_getElem?->aB,replicate->aH,getD->aT
open Or renaming inl->aC,inr->aG
open Nat renaming lt_of_lt_of_le->aD,mul_le_mul_right->aE,le_refl->aF,le_of_ble_eq_true->aL,eq_of_beq_eq_true->aM,mul_one->aR,add_zero->aX,le_trans->aY,beq->bA
open Option.some renaming injEq->aK
open AV renaming cells->aO,renL_length->aV,ren->aZ
section
variable {cx:Cx} {o:Oper} {σ:AS}
theorem LeX.arr {E:Env}{nt:Nat}{σ:AS}(r ety:Nat){ty m:Nat}(W:σ.find r=some (.row ty 1 (replicate m .nils))):LeX E nt σ (σ.rpAll r Gs (.cont m r) (.are ty ((range m).map some) (replicate m (.row ety 1 [])))):=by
 refine LeX.rpAll r Gs (.cont m r) _ _ W (fun ty cs h=>by cases h) (fun cx γ a w d V Y X=>?_);obtain ⟨s,us,O,B,c,Q,L,C⟩:=X;subst O;obtain ⟨G,F⟩:=Mk c;rw [length_replicate] at c;have J:us.length=m:=by have:=c.1;omega
 have l:∀ k,k<m->us.getD k undef=.slice none 0 0:=fun k f=>by
  have:=L k (by simpa using f) 0 (by simp [aO]);simp only [aP,aO,aQ,aR,aX] at this;exact this.nils_inv
 have q:∀ k,us.toArray.getD k undef=us.getD k undef:=fun k=>by simp [aB,aA]
 have p:∀ k b,B4 (us.toArray.getD k undef)≠some b:=fun k b t=>by
  rw [q] at t;by_cases f:k<m
  ·rw [l k f] at t;simp [B4] at t
  ·rw [aA,getElem?_eq_none (by omega)] at t;simp [undef,B4] at t
 refine ⟨arnV s us.toArray,fun b t=>?_,fun S' hS Z=>⟨⟨s,us.toArray,us,rfl,B,by simp [J],by rw [aW,length_range];exact c,C,fun k f=>?_,fun j D=>?_,fun i j b hi=>absurd hi (p i b),fun i b _=>p i b⟩,fun γ' x v z A P S=>?_⟩⟩
 ·rcases mem_arnV.1 t with h|⟨j,h⟩
  ·exact (Gj G F).2 h
  ·exact absurd h (p j b)
 ·have M:k<m:=by simpa using f
  simp only [getElem_map,getElem_range];refine ⟨(fun h=>by cases h),fun j D=>?_⟩;injection D with D
  subst D;exact ⟨by simpa using M,(q k).symm⟩
 ·have N:j<m:=by simpa using D
  rw [aP,q,l j N];exact ⟨(by intro h;cases h),rfl,[],World.ownsRow_nil _ _ _ _,fun k f=>absurd f (by simp),fun k f=>absurd f (by simp),fun u U=>by cases U⟩
 ·have H:x=.row r:=by
   cases x with
   |row i=>simp only [AV.leafId,aK] at P;rw [P]
   |_=>simp [Gs] at A
  subst H;have I:v=s:=S.row_inv Y (F9 B);subst I;refine .cont z (fun g s' e=>?_) ?_
  ·injection e with e
   injection e with _ e
   subst e;simp only [Dv.of,con0]
  ·rcases c.2 with ⟨n,h0⟩|⟨g,cap,aa,n,_⟩
   ·exact ⟨none,0,by rw [n,h0],fun h=>by omega⟩
   ·exact ⟨_,cap,n,fun _=>⟨g,0,rfl⟩⟩
end
variable {α β:Type}
section
variable {E:Env} {nt:Nat} {o:Oper} {σ:AS} {K:AV->List Nat->List (Nat×Ent)->Prop}
end
section
variable {E:Env} {nt:Nat} {R:Exit->AS->Prop} {K:List Bi}
end
section
variable {α β κ ν:Type} {E:Env} {nt:Nat}
end
def nlA (sz:Nat):List AV->AV |[]=>.nils |x::r=>.sl sz (x::r)
variable {w:World}
theorem zsx {P:Program}{T e:TypeId}(b:P.underlying T=some (.slice e))(d:Nat)(A:Option Addr)(n c:Nat):(Op.equalIn (d+1) T (.slice A n c) (.slice none 0 0)).run P w=.ok A.isNone w:=by
 unfold Op.equalIn;cases A<;>simp [run_underlying b,Result.andThen,pure]
theorem zqe {P:Program}{T e:TypeId}(b:P.underlying T=some (.slice e))(A:Option Addr)(n c:Nat):(Op.equal T (.slice A n c) (.slice none 0 0)).run P w=.ok A.isNone w:=zsx b 9999 A n c
section
variable {cx:Cx} {o:Oper} {σ:AS}
theorem ztn {op:BinOp}{T t sz e eb z:Nat}{x y:Operand}{i:TyI}{l:List AV}(k:op=.eql\/op=.neq)(g:o.op=.binOp op T x y t)(C:dok cx o=true)(p:A0 x=true)(m:A0 y=true)(v:σ.eval x=nlA sz l)(u:σ.eval y=.nils)(F:lkT cx.E.tab T=some i)(B:i.shape=.slc e z eb) :
  A9 cx o σ (.bool (match op with|.eql=>l.isEmpty|_=>!l.isEmpty)) [] [] :=
 Ay C fun τ γ ac w h1 _ j=>by
  have h:=j.ev x p;rw [h1 x (by simp [g,Op.operands]),v] at h;have f:=j.ev y m;rw [h1 y (by simp [g,Op.operands]),u] at f;have f:=f.nils_inv;obtain ⟨s,_⟩:=C5 (cx.E.ok T i F) B;cases l with
  |nil =>
   have h:=Rep.nils_inv (show Rep w (Sg cx.S0 cx.w0.heap.size γ) γ .nils _ from h);have d:=zqe (w:=w) s none 0 0;rcases k with rfl|rfl
   ·exact ⟨.bool true,by simp [execOp,g,h,f,Sem.run_bind,eqGuard,binOp,d,Result.andThen,pure],.bool _⟩
   ·exact ⟨.bool false,by simp [execOp,g,h,f,Sem.run_bind,eqGuard,binOp,d,Result.andThen,pure],.bool _⟩
  |cons a r =>
   obtain ⟨A,c,q,_,_,cell,D,_⟩:=Rep.sl_inv (show Rep w (Sg cx.S0 cx.w0.heap.size γ) γ (.sl sz (a::r)) _ from h);obtain ⟨b,off,G,_⟩:=D (by simp);subst G;generalize (a::r).length=n at q;have d:=zqe (w:=w) s (some ⟨b,off,none⟩) n c;rcases k with rfl|rfl
   ·exact ⟨.bool false,by simp [execOp,g,q,f,Sem.run_bind,eqGuard,binOp,d,Result.andThen,pure],.bool _⟩
   ·exact ⟨.bool true,by simp [execOp,g,q,f,Sem.run_bind,eqGuard,binOp,d,Result.andThen,pure],.bool _⟩
end
section
variable {α β κ ν:Type} {E:Env} {nt:Nat} {o:Oper} {σ:AS} {K:OpK}
end
inductive FX (E:Env) (nt:Nat) (fn:Func) (σ:AS) (ps:List (AV×AV)):Prop
 |mk (τ:AS) (i:Nat) {ps0:List (AV×AV)} (hl:LeX E nt σ τ) (h1:retA E.tab τ fn.results.toList=some [.row i]) (h2:τ.find i=some (.mp ps0)) (hf:∀ p∈ps0,p.1.flat=true/\p.2.flat=true) (hp:Mz ps0 ps)
def EndF (E:Env)(nt:Nat)(fn:Func)(ps:List (AV×AV)):Exit->AS->Prop |.normal,σ=>FX E nt fn σ ps |.ret,σ=>FX E nt fn σ ps |_,_=>False
variable {fn:Func}
theorem FX.o {β:Type}{E:Env}{nt:Nat}{σ:AS}{a r:β}{en:β->List (AV×AV)}(h:some a=some r)(b:FX E nt fn σ (en a)):FX E nt fn σ (en r):=by injection h with h;subst h;exact b
theorem ConF.walk {E:Env}{f:FuncId}{args:List AV}{ps:List (AV×AV)}(c:Code)(M:E.P.funcs[f]? = some fn)(O:fn.body=some c)(N:Bh E f)(H:Nat.ble args.length fn.ntmps=true)
  (h:AW E fn.ntmps (EndF E fn.ntmps fn ps) [.code c] .normal (Di args)) (t:E.rg=false:=by rfl) (r:E.yl=none:=by rfl) (z:E.np=0:=by rfl) (A:E.ld=false:=by rfl):Con E true f args (.mapv ps):=by
 refine ⟨N,fun S w vs P=>callsIn_wide.1 (callsIn_of_wp (F:=Fence.wide) (n:=0) M O trivial ?_)⟩;have U:WP (Cx.call E S w fn.ntmps) c (EndF E fn.ntmps fn ps) (Di args):=WP.mono (h.out (Cx.call E S w fn.ntmps) rfl rfl rfl) fun e σ J=>by cases e<;>exact J
 refine wpIn_mono (U _ _ (Qj r z A P (aL H))) (fun e a w' ⟨σ,u,l⟩=>?_);have key:FX E fn.ntmps fn σ ps->bodyPost E.P fn (fun e w'=>∃ v,e=.returned v/\BelE E w w'/\Rep w' (fun b=>(true=false/\S b)\/w.heap.size<=b) G0 (.mapv ps) v) .ret a w':=by
  rintro ⟨τ,i,I,h1,Q,p,G⟩;obtain ⟨γ,d⟩:=I (Cx.call E S w fn.ntmps) rfl rfl rfl a w' l;obtain ⟨v,C,D⟩:=J4 d h1;obtain ⟨g,L,s,es,clock,X,W,V,B⟩:=Y6 d Q D;subst s;refine ⟨d.defers.d0 t,_,C,_,rfl,⟨d.below,d.dr⟩,?_⟩;have m:=d.ge g (own.mk L);exact .mapv _ G g es clock V (aG m.1.1) m.2 X W (fun j q k=>(B j q k).1.flat (p _ (getElem_mem k)).1) (fun j q k=>(B j q k).2.flat (p _ (getElem_mem k)).2)
 cases e with
 |normal=>exact key u
 |ret=>exact key u
 |_=>exact u.elim
section
variable {cx:Cx} {o:Oper} {σ:AS}
end
section
variable {cx:Cx} {o:Oper} {σ:AS}
variable {T e eb:Nat}{x y:Operand}{i:TyI}
theorem zd9 {T' d n:Nat}{ie i':TyI}{xs:List AV}{s:ByteArray}{oid:Option Nat}(ho:o.op=.call { callee:=.builtin .append,args:=#[x,y],argTypes:=#[T,T'] })(hdst:o.dst=some d)(hd:dok cx o=true)(hxo:A0 x=true)(hyo:A0 y=true)
  (hT:lkT cx.E.tab T=some i) (hs:i.shape=.slc e 1 eb) (hT':lkT cx.E.tab T'=some i') (hs':i'.shape=.str) (he:lkT cx.E.tab e=some ie) (hsz:ie.sz=1) (hby1:ie.bytes=1) (hze:ie.zero=.int .u8 0)
  (hx:(σ.eval x=.nils/\oid=none/\xs=[])\/∃ id,RowC (σ.eval x) id/\oid=some id/\id≠n/\σ.find id=some (.gen e 1 xs)) (hy:σ.eval y=.str s) (hn:σ.find n=none)
  (h63:xs.length+s.size<=1099511627776)
  (hdr0:cx.E.dr=false):A9 cx o σ (.row n) (n::oid.toList) ((n,.gen e 1 (xs++D4 s))::Dh oid):=by
 have hz:(1:Nat)≠0:=by omega
 have hdead:∀ id,lkE (Dh oid) id=if oid=some id then some .dead else none:=fun id=>by
  cases oid with
  |none=>simp [Dh,lkE]
  |some j =>
   simp only [Dh,lkE,aK]
   by_cases h:j=id
   ·subst h;simp
   ·rw [if_neg h]
    cases hb:bA j id with
    |true=>exact absurd (aM hb) h
    |false=>rfl
 have hwr:∀ id,lkE ((n,Ent.gen e 1 (xs++D4 s))::Dh oid) id=if n=id then some (.gen e 1 (xs++D4 s)) else if oid=some id then some .dead else none:=fun id=>by
  simp only [lkE]
  by_cases h:n=id
  ·subst h;simp
  ·rw [if_neg h,<-hdead]
   cases hb:bA n id with
   |true=>exact absurd (aM hb) h
   |false=>rfl
 refine ⟨fun id e' he'=>?_,fun τ h1 h2 a w Q K ⟨γ,hst⟩ hK=>Br (fun c hc=>by rw [ho] at hc;cases hc) ?_⟩
 ·rw [hwr] at he'
  by_cases h:n=id
  ·simp [h]
  ·rw [if_neg h] at he'
   by_cases h':oid=some id
   ·simp [h']
   ·rw [if_neg h'] at he';cases he'
 have hevx:=hst.ev x hxo
 rw [h1 x (by simp [ho,Op.operands,Call.operands])] at hevx
 have hevy:=hst.ev y hyo
 rw [h1 y (by simp [ho,Op.operands,Call.operands])] at hevy
 obtain ⟨hu,hce,_⟩:=C5 (cx.E.ok T i hT) hs
 have hγd:γ n=none:=by have:=hst.me n;rw [h2 n (by simp),hn] at this;exact this
 have hsize:=hst.below.size
 -- the row that is appended to
 have hX:∃ vs:List Value,w.ownsRow cx.w0.heap.size e 1 (a.eval x) xs.length vs/\(∀ k (hk:k<xs.length),(xs[k]).cells.length=1)/\(∀ k (hk:k<xs.length) j (hj:j<(xs[k]).cells.length),Rep w (Sg cx.S0 cx.w0.heap.size γ) γ ((xs[k]).cells[j]) (vs.getD (k*1+j) undef))/\(∀ u∈vs,u.oneCell'=true) /\
   (∀ g,(a.eval x).ownBlock=some g->∃ id s,oid=some id/\γ id=some (some (some g,s))):=by
  rcases hx with ⟨hx,rfl,rfl⟩|⟨id,hx,rfl,hne,hl⟩
  ·rw [hx] at hevx
   rw [hevx.nils_inv]
   exact ⟨[],World.ownsRow_nil w _ _ _,fun k hk=>absurd hk (by simp),fun k hk=>absurd hk (by simp),fun u hu=>absurd hu (by simp),fun g hg=>by simp [Value.ownBlock] at hg⟩
  ·have hme:=hst.me id
   rw [h2 id (by simp),hl] at hme
   obtain ⟨dd,hd',s,vs,hde,_,hown,hlen,hr,hone⟩:=hme
   subst hde
   have ex:=X9 hx hevx hd' hown
   rw [ex]
   exact ⟨vs,hown,hlen,hr,hone,fun g hg=>⟨id,s,rfl,by rw [hd',hg]⟩⟩
 obtain ⟨vs,hown,hlenx,hrx,honex,hblock⟩:=hX
 obtain ⟨news,hnews⟩:∃ news,Lib.strCells s=news:=⟨_,rfl⟩
 have hul:(D4 s).length=s.size:=by simp only [D4,aW,Array.length_toList];rfl
 have hnl:news.length=(D4 s).length*1:=by rw [<-hnews,Lib.strCells_length,hul,aR]
 have hone2:∀ u∈news,u.oneCell'=true:=by rw [<-hnews];exact Lib.strCells_oneCell s
 have hleny:∀ k (hk:k<(D4 s).length),((D4 s)[k]).cells.length=1:=fun k hk=>by simp [D4,aO]
 have hry:∀ k (hk:k<(D4 s).length) j (hj:j<((D4 s)[k]).cells.length),Rep w (Sg cx.S0 cx.w0.heap.size γ) γ (((D4 s)[k]).cells[j]) (news.getD (k*1+j) undef):=fun k hk j hj=>by
  have hj':j<1:=by rw [<-hleny k hk];exact hj
  have hj0:j=0:=by omega
  subst hj0
  have hk':k<s.data.toList.length:=by simpa [D4] using hk
  have e1:news.getD (k*1+0) undef=.int .u8 (s.data.toList[k]).toNat:=by
   rw [<-hnews,aR,aX,aA]
   simp only [Lib.strCells,getElem?_map,getElem?_eq_getElem hk',Option.map_some,Option.getD_some]
  have e2:((D4 s)[k]).cells[0]'hj=.int .u8 (s.data.toList[k]).toNat:=by simp [D4,aO]
  rw [e1,e2]
  exact .int _ _
 have hu':=zj9 (cx.E.ok T' i' hT') hs'
 obtain ⟨info,hi,hi1,hi2,hi3⟩:=(cx.E.ok e ie he).both
 rw [hy] at hevy
 obtain ⟨v',w',hrun,q1,q2,q30⟩:=Lib.run_append_own_string (P:=cx.P) w cx.w0.heap.size T T' o.type e info hu hu' hi (by rw [hi3,hze]) (hi1.trans hsz) (hi2.trans hby1) (a.eval x) xs.length vs hown s (by simp only [maxLen];omega) (by omega) hsize
 rw [hnews,<-hul] at q1
 have q3:v'.ownBlock=(a.eval x).ownBlock\/v'.ownBlock=some w.heap.size:=z8p w hu hu' hi (by rw [hi3,hze]) (hi1.trans hsz) (hi2.trans hby1) hown s (by simp only [maxLen];omega) (by omega) hrun
 have hex:(execOp a.eval o).run cx.P w=.ok (.value v') w':=by
  simp only [execOp,ho,resolve,invoke,builtin,Sem.run_bind,Sem.run_pure,Result.andThen_ok,map_toArray,map_cons,map_nil,hevy.str_inv,hrun]
 unfold Oper.wp
 rw [hex]
 have hv1:v'.oneCell'=true:=Cg q1
 let γ':Gam:=fun id=>if n=id then some (some (v'.ownBlock,v')) else if oid=some id then some none else γ id
 have hγ'd:γ' n=some (some (v'.ownBlock,v')):=if_pos rfl
 have hγ'o:∀ id,n≠id->oid≠some id->γ' id=γ id:=fun id h1 h2=>by show (if n=id then _ else if oid=some id then _ else γ id)=γ id;rw [if_neg h1,if_neg h2]
 have hγ'x:∀ id,n≠id->oid=some id->γ' id=some none:=fun id h1 h2=>by show (if n=id then _ else if oid=some id then _ else γ id)=some none;rw [if_neg h1,if_pos h2]
 have hown':∀ b,own γ' b->v'.ownBlock=some b\/own γ b:=fun b ⟨id,dd,hi,hm⟩=>by
  by_cases h:n=id
  ·subst h;rw [hγ'd] at hi;injection hi with hi;subst hi;exact aC (D9 (D8 hv1) hm)
  ·by_cases h':oid=some id
   ·rw [hγ'x id h h'] at hi;injection hi with hi;subst hi;simp [blks] at hm
   ·rw [hγ'o id h h'] at hi;exact aG ⟨id,dd,hi,hm⟩
 have hvb:∀ b,v'.ownBlock=some b->(own γ b/\(a.eval x).ownBlock=some b)\/b=w.heap.size:=fun b hb=>by
  rcases q3 with q3|q3
  ·rw [q3] at hb
   obtain ⟨id,s,_,hi⟩:=hblock b hb
   exact aC ⟨own.mk hi,hb⟩
  ·rw [q3] at hb;injection hb with hb;exact aG hb.symm
 have hk:∀ b,Sg cx.S0 cx.w0.heap.size γ b->b<w.heap.size->w'.heap[b]? = w.heap[b]? /\ Sg cx.S0 cx.w0.heap.size γ' b:=fun b hS hlt=>by
  have hno:¬own γ b:=by
   rcases hS with ⟨_,h⟩|⟨_,h⟩
   ·intro hb;have:=(hst.ge b hb).1.1;omega
   ·exact h
  refine ⟨q2.block b hlt (fun e=>?_),?_⟩
  ·obtain ⟨id,s,_,hi⟩:=hblock b e.symm
   exact hno (own.mk hi)
  ·rcases hS with hS|⟨hB,_⟩
   ·exact aC hS
   ·refine aG ⟨hB,fun ho'=>?_⟩
    rcases hown' b ho' with h|h
    ·rcases hvb b h with ⟨h,_⟩|h
     ·exact hno h
     ·omega
    ·exact hno h
 have hevo:∀ id x,γ id=some x->γ' id=some x\/γ' id=some none\/Turn γ' id x:=fun id x hid=>by
  by_cases h:n=id
  ·subst h;rw [hγd] at hid;cases hid
  ·by_cases h':oid=some id
   ·exact aG (aC (hγ'x id h h'))
   ·exact aC (by rw [hγ'o id h h'];exact hid)
 have hmv:∀ {av v},Rep w (Sg cx.S0 cx.w0.heap.size γ) γ av v->Rep w' (Sg cx.S0 cx.w0.heap.size γ') γ' av v:=fun h=>(h.mono q2.size hk).gam hevo
 refine hK _ _ ⟨γ',?_⟩
 rw [hdst]
 refine hst.step (γ':=γ') (fun x hx=>by injection hx with hx;subst hx;exact Bj hd _ hdst) q2.size hk (fun id x hid=>?_) (fun id hid=>?_) (fun id e' hid=>?_) (fun id id' b d1 d2 hi hi' m1 m2=>?_) (fun b hb=>?_) ?_ (.row hγ'd (fun g s e _=>by injection e with e;injection e with e e2)) (fun b hno hlt=>⟨q2.block b hlt (fun e=>by obtain ⟨id,s,_,hi⟩:=hblock b e.symm;exact hno (own.mk hi)),fun ho'=>by
  rcases hown' b ho' with h|h
  ·rcases hvb b h with ⟨h,_⟩|h
   ·exact hno h
   ·omega
  ·exact hno h⟩) (fun h=>absurd (hdr0.symm.trans h) (by simp))
 ·by_cases h:n=id
  ·subst h;rw [hγd] at hid;cases hid
  ·by_cases h':oid=some id
   ·exact aG (aC (hγ'x id h h'))
   ·exact aC (by rw [hγ'o id h h'];exact hid)
 ·rw [hwr] at hid
  by_cases h:n=id
  ·rw [if_pos h] at hid;cases hid
  ·rw [if_neg h] at hid
   by_cases h':oid=some id
   ·rw [if_pos h'] at hid;cases hid
   ·refine ⟨hγ'o id h h',fun g dd hg hm=>q2.block g (hst.ge g ⟨id,dd,hg,hm⟩).2 (fun e=>?_)⟩
    obtain ⟨id0,s0,h0,hi0⟩:=hblock g e.symm
    have:=hst.inj _ _ _ _ _ hg hi0 hm Bc
    subst this
    exact h' h0
 ·rw [hwr] at hid
  by_cases h:n=id
  ·subst h
   rw [if_pos rfl] at hid
   injection hid with hid
   subst hid
   refine ⟨_,hγ'd,v',vs++news,rfl,hv1,by rw [length_append];exact q1,fun k hk=>?_,fun k hk j hj=>?_,fun u hu=>(mem_append.1 hu).elim (honex u) (hone2 u)⟩
   ·rw [getElem_append]
    split
    ·exact hlenx k _
    ·exact hleny _ _
   ·rw [length_append] at hk
    have hvl:vs.length=xs.length*1:=hown.1
    by_cases hkx:k<xs.length
    ·simp only [getElem_append_left hkx] at hj ⊢
     have hj':j<1:=by rw [<-hlenx k hkx];exact hj
     have hlt:k*1+j<vs.length:=by
      have:(k+1)*1<=xs.length*1:=aE _ hkx
      rw [Nat.succ_mul] at this
      omega
     rw [aA,getElem?_append_left hlt,<-aA]
     exact hmv (hrx k hkx j hj)
    ·have hkx':xs.length<=k:=by omega
     simp only [getElem_append_right hkx'] at hj ⊢
     have hlt:vs.length<=k*1+j:=by
      have:xs.length*1<=k*1:=aE _ hkx'
      omega
     rw [aA,getElem?_append_right hlt,<-aA]
     rw [show k*1+j-vs.length=(k-xs.length)*1+j by
      rw [hvl,Nat.sub_mul]
      have:xs.length*1<=k*1:=aE _ hkx'
      omega]
     exact hmv (hry (k-xs.length) (by omega) j hj)
  ·rw [if_neg h] at hid
   by_cases h':oid=some id
   ·rw [if_pos h'] at hid
    injection hid with hid
    subst hid
    exact ⟨none,hγ'x id h h',rfl⟩
   ·rw [if_neg h'] at hid;cases hid
 ·have key:∀ id id' b d1 d2,n=id->n≠id'->γ' id=some d1->γ' id'=some d2->b∈blks d1->b∈blks d2->False:=fun id id' b d1 d2 h h' hi hi' m1 m2=>by
   subst h
   rw [hγ'd] at hi
   injection hi with hi
   subst hi
   have hi:=D9 (D8 hv1) m1
   by_cases ho':oid=some id'
   ·rw [hγ'x id' h' ho'] at hi';injection hi' with hi';subst hi';simp [blks] at m2
   ·rw [hγ'o id' h' ho'] at hi'
    rcases hvb b hi with ⟨_,hb⟩|hb
    ·obtain ⟨id0,s0,h0,hi0⟩:=hblock b hb
     have:=hst.inj _ _ _ _ _ hi' hi0 m2 Bc
     subst this
     exact ho' h0
    ·have:=(hst.ge b ⟨id',d2,hi',m2⟩).2
     omega
  by_cases h:n=id
  ·by_cases h':n=id'
   ·rw [<-h,<-h']
   ·exact (key id id' b d1 d2 h h' hi hi' m1 m2).elim
  ·by_cases h':n=id'
   ·exact (key id' id b d2 d1 h' h hi' hi m2 m1).elim
   ·by_cases ho1:oid=some id
    ·rw [hγ'x id h ho1] at hi;injection hi with hi;subst hi;simp [blks] at m1
    ·by_cases ho2:oid=some id'
     ·rw [hγ'x id' h' ho2] at hi';injection hi' with hi';subst hi';simp [blks] at m2
     ·rw [hγ'o id h ho1] at hi
      rw [hγ'o id' h' ho2] at hi'
      exact hst.inj _ _ _ _ _ hi hi' m1 m2
 ·rcases hown' b hb with h|h
  ·rcases hvb b h with ⟨h,_⟩|h'
   ·exact ⟨(hst.ge b h).1,aD (hst.ge b h).2 q2.size⟩
   ·refine ⟨⟨by omega,fun h0=>by have:=hst.gh _ h0;omega⟩,?_⟩
    rcases q1.2 with ⟨hv,_⟩|⟨g,cap,cur,hv,_,hh,_⟩
    ·rw [hv] at h;simp [Value.ownBlock] at h
    ·rw [hv] at h;simp only [Value.ownBlock,aK] at h;subst h
     exact (Array.getElem?_eq_some_iff.1 hh).1
  ·exact ⟨(hst.ge b h).1,aD (hst.ge b h).2 q2.size⟩
 ·refine hst.below.trans ⟨q2.os,q2.tape,q2.output,q2.size,fun k hk=>q2.block k (by omega) (fun e=>?_)⟩
  obtain ⟨id,s,_,hi⟩:=hblock k e.symm
  have:=(hst.ge k (own.mk hi)).1.1
  omega
theorem zam {id sz k j ty:Nat}{xs:List AV}(m:o.op=.nilCheck x)(r:dok cx o=true)(f:A0 x=true)(n:σ.eval x=.elt id sz k j)(q:σ.find id=some (.gen ty sz xs))(v:k<xs.length):A9 cx o σ (.elt id sz k j) [id] [] :=
 Ay r fun τ γ a w h1 t c=>by
  have l:=c.ev x f;rw [h1 x (by simp [m,Op.operands]),n] at l;obtain ⟨s,vs,b,_,d,_⟩:=zkd (id:=id) c (by rw [t id (by simp)];exact q);rcases d.2 with ⟨_,z⟩|⟨g,cap,u,h,_⟩
  ·omega
  have b:γ id=some (some (some g,s)):=by rw [b,h];rfl
  have p:=l.elt_inv b;exact ⟨a.eval x,by simp only [execOp,m,p,Sem.run_pure],l⟩
theorem z87 {op:BinOp}{n z:Nat}{p:Part}(l:op=.eql\/op=.neq)(h:o.op=.binOp op T x y n)(v:dok cx o=true)(k:A0 x=true)(j:A0 y=true)(r:Ce σ (σ.eval x)=some p)(G:0<p.xs.length)(q:σ.eval y=.nils)(B:lkT cx.E.tab T=some i)(u:i.shape=.slc e z eb) :
  A9 cx o σ (.bool (match op with|.eql=>false|_=>true)) [p.id] [] :=
 Ay v fun τ γ a w h1 C c=>by
  have m:=c.ev x k;rw [h1 x (by simp [h,Op.operands])] at m;have f:=c.ev y j;rw [h1 y (by simp [h,Op.operands]),q] at f;have f:=f.nils_inv;obtain ⟨t,_⟩:=C5 (cx.E.ok T i B) u;obtain ⟨s,vs,_,_,_,_,_,d⟩:=J8 c (J5 r (C p.id (by simp))) m;rcases d with ⟨_,D,_⟩|⟨g,cap,_,_,d⟩
  ·omega
  generalize F:(if cap=p.lo then (⟨g,0,none⟩:Addr) else ⟨g,p.lo*p.sz,none⟩)=A at d;have b:=zqe (w:=w) t (some A) p.n (cap-p.lo);rcases l with rfl|rfl
  ·exact ⟨.bool false,by simp [execOp,h,d,f,Sem.run_bind,eqGuard,binOp,b,Result.andThen,pure],.bool _⟩
  ·exact ⟨.bool true,by simp [execOp,h,d,f,Sem.run_bind,eqGuard,binOp,b,Result.andThen,pure],.bool _⟩
def Mx:List AV->Option (List Int)
 |[]=>some []
 |.int .u8 n::r=>(Mx r).map (n::·)
 |_::_=>none
theorem zmx:∀ {l:List AV} {b:List Int},Mx l=some b->b.length=l.length/\∀ k (h:k<l.length) (s:k<b.length),l[k]=.int .u8 b[k]
 |[],b,h=>by simp only [Mx] at h;injection h with h;subst h;exact ⟨rfl,fun k h=>absurd h (by simp)⟩
 |x::r,b,h=>by
  unfold Mx at h;split at h
  ·rename_i j;cases j
  ·rename_i n l j;injection j with g f
   subst g f;cases c:Mx r with
   |none=>rw [c] at h;cases h
   |some ms =>
    rw [c] at h;injection h with h
    subst h;obtain ⟨p,m⟩:=zmx c;refine ⟨by simp [p],fun k q d=>?_⟩;cases k with
    |zero=>rfl
    |succ k=>exact m k (by simpa using q) (by simpa using d)
  ·cases h
theorem zd6 {T':Nat}{D ie:TyI}{p:Part}{f:List Int}(Z:o.op=.convert T T' x)(hd:dok cx o=true)(F:A0 x=true)(W:Ce σ (σ.eval x)=some p)(b:p.sz=1)(hT:lkT cx.E.tab T=some i)(hs:i.shape=.slc e 1 eb)(V:lkT cx.E.tab T'=some D)(J:D.shape=.str)
  (he:lkT cx.E.tab e=some ie) (I:ie.shape=.int .u8) (hb:Mx ((p.xs.drop p.lo).take p.n)=some f):A9 cx o σ (.str (f.foldl (fun r n=>r.push (UInt8.ofNat n.toNat)) ByteArray.empty)) [p.id] [] :=
 Ay hd fun τ γ a w h1 h2 B=>by
  have e1:=B.ev x F;rw [h1 x (by simp [Z,Op.operands])] at e1;obtain ⟨X,_⟩:=C5 (cx.E.ok T i hT) hs;have z:=zok (cx.E.ok e ie he) I;have v:cx.P.underlying T'=some .string:=zj9 (cx.E.ok T' D V) J;obtain ⟨_,ac⟩:=J6 W;obtain ⟨s,vs,_,d,C,hr,Y,t⟩:=J8 B (J5 W (h2 p.id (by simp))) e1;obtain ⟨U,S⟩:=zmx hb;have N:((p.xs.drop p.lo).take p.n).length=p.n:=by rw [length_take,length_drop];omega
  refine ⟨_,?_,.str _⟩;simp only [execOp,Z];rcases t with ⟨_,hz,t⟩|⟨g,cap,H,aa,t⟩
  ·have M:f=[]:=length_eq_zero_iff.1 (by omega);rw [t,M];simp only [Sem.run_bind,run_convert_bytes_string w T T' e _ _ _ X z v];simp [Conv.bytesToString,Result.andThen,pure]
  ·rw [t];have ab:vs.length=p.xs.length*1:=by rw [d.1,b]
   generalize hA:(if cap=p.lo then (⟨g,0,none⟩:Addr) else ⟨g,p.lo*p.sz,none⟩)=A;have k:(loadCells A p.n).run cx.P w=.ok (f.map (Value.int .u8)).toArray w:=by
    have h:=run_loadCells_list (P:=cx.P) (w:=w) A (f.map (Value.int .u8)) (fun j u l=>by
     rw [getElem?_map] at l;cases L:f[j]? with
     |none=>rw [L] at l;cases l
     |some m =>
      rw [L] at l;injection l with l
      subst l;obtain ⟨Q,O⟩:=List.getElem?_eq_some_iff.1 L;rw [if_neg (by omega)] at hA;subst hA;have hk:p.lo+j<p.xs.length:=by omega
      have G:p.xs[p.lo+j]=.int .u8 m:=by
       have:=S j (by omega) Q;rw [O] at this;rw [<-this];simp
      have c:=hr (p.lo+j) hk 0 (by rw [C _ hk,b];omega);simp only [G,aO,aQ] at c;have q:=c.int_inv;rw [Addr.add_lit,Fm d (g:=g) (by rw [H];rfl) _ (by rw [b];omega)];rw [b] at q ⊢;rw [show p.lo*1+j=(p.lo+j)*1+0 by omega,q])
    rw [aW,U,N] at h;exact h
   simp only [Sem.run_bind,run_convert_bytes_string w T T' e _ _ _ X z v,run_bytesToString w A p.n (cap-p.lo) f k,Result.andThen,pure];rfl
theorem z8k {g:Nat}{len esz:Nat}{ag:Option Bool}{vs:Array Value}{k:IntKind}{n:Int}{m:Nat}(r:o.op=.indexAddr T (.global g) y)(C:dok cx o=true)(p:cx.E.ld=true)(l:A0 y=true)(B:lkG gls0 g=some vs)(h:vs.all (·.oneCell')=true)(t:σ.eval y=.int k n)
  (F:lkT cx.E.tab T=some i) (v:i.shape=.arr len e esz ag) (s:esz≠0) (z:n=(m:Int)) (hm:m<len):A9 cx o σ (.ref ((vs.toList.map AV.ofV).drop (m*esz))) [] [] :=
 Ay C fun τ γ a w h1 H d=>by
  have c:=d.ev y l;rw [h1 y (by simp [r,Op.operands]),t] at c;obtain ⟨u,q,_⟩:=zja (cx.E.ok T i F) v;obtain ⟨G,D,ty,A⟩:=d.laid (γ':=γ) p g vs B;refine ⟨.pointer (some ⟨g,0+m*esz,none⟩),?_,Z1 (cell:=fun j=>vs.getD j undef) G D (fun j f=>?_) (fun j f=>?_) (fun j f=>?_)⟩
  ·subst z;have eg:a.eval (.global g)=.pointer (some ⟨g,0,none⟩):=rfl;simp [execOp,r,eg,c.int_inv,Instr.indexAt,Instr.sureAddr,asIntOf,run_underlying u,Dp q s,hm,pure,Addr.add_lit]
  ·have b:j<vs.size:=by simpa using f
   rw [World.cell?,A];simp [aT,b]
  ·have b:j<vs.size:=by simpa using f
   have:vs.getD j undef=vs[j]:=by simp [aT,b]
   simp only [getElem_map,Array.getElem_toList,this];exact Gk _ _ _ _
  ·have b:j<vs.size:=by simpa using f
   have:vs.getD j undef=vs[j]:=by simp [aT,b]
   rw [this];simp only [Array.all_eq_true] at h;exact h j b
end
mutual
theorem AV.ren_id:(x:AV)->x.ren (fun i=>i)=x
 |.fn f cap=>by simp only [aZ,AV.renL_id cap]
 |.yld l T cap=>by simp only [aZ,AV.renL_id cap]
 |.agg cs=>by simp only [aZ,AV.renL_id cs]
 |.tup cs=>by simp only [aZ,AV.renL_id cs]
 |.any|.int _ _|.bool _|.str _|.nilp|.ptr _ _|.nils|.sl _ _|.row _|.elt _ _ _ _|.nilf|.ref _|.der _ _|.mapv _|.slen _|.cont _ _=>rfl
theorem AV.renL_id:(l:List AV)->AV.renL (fun i=>i) l=l
 |[]=>rfl
 |x::r=>by simp only [AV.renL,AV.ren_id x,AV.renL_id r]
end
theorem Ent.renI_id (e:Ent):e.renI (fun i=>i)=e:=by cases e<;>simp only [Ent.renI,AV.renL_id]
def C9 (find:Nat->Option Ent):List Nat->Option (List (Nat×Ent))
 |[]=>some []
 |i::r=>match find i,C9 find r with
  |some e,some l=>some ((i,e)::l)
  |_,_=>none
variable {find:Nat->Option Ent}
theorem Mc:∀ {ids:List Nat} {me:List (Nat×Ent)},C9 find ids=some me->me.map (·.1)=ids/\∀ x∈me,find x.1=some x.2
 |[],me,h=>by simp only [C9] at h;injection h with h;subst h;exact ⟨rfl,fun x b=>by cases b⟩
 |i::r,me,h=>by
  unfold C9 at h;split at h
  ·rename_i e l d c;injection h with h
   subst h;obtain ⟨h1,f⟩:=Mc c;refine ⟨by simp [h1],fun x b=>?_⟩;rcases mem_cons.1 b with rfl|b
   ·exact d
   ·exact f x b
  ·cases h
variable {ids:List Nat}
theorem zug {σ:AS}:∀ {me:List (Nat×Ent)},(∀ x∈me,σ.find x.1=some x.2)->me.all (fun x=>x.2.inM ids)=true->LeE σ (fun i=>i) ids me
 |[],_,_=>trivial
 |(i,e)::r,h,b=>by
  simp only [all_cons,Bool.and_eq_true] at b;exact ⟨⟨by rw [Ent.renI_id];exact h (i,e) (aN ..),b.1⟩,zug (fun x c=>h x (aJ _ c)) b.2⟩
theorem zw0 (ids:List Nat):injB (fun i=>i) ids=true:=by
 simp only [injB,aS];intro i _ j _;cases bA i j<;>rfl
variable {me:List (Nat×Ent)}
theorem zdm (h:C9 find ids=some me){i:Nat}{e:Ent}(b:lkE me i=some e):find i=some e/\i∈ids:=by
 obtain ⟨h1,c⟩:=Mc h;have hm:=Ea b;exact ⟨c _ hm,by rw [<-h1];exact mem_map.2 ⟨_,hm,rfl⟩⟩
section
variable {cx:Cx} {γ:Gam} {τ:AS} {a:Act} {w:World}
theorem StG.partX (h:StG cx γ τ a w)(d:C9 τ.find ids=some me)(c:me.all (fun x=>x.2.inM ids)=true) :
  ∃ γc:Gam,(∀ i∈ids,γc i=γ i)/\(∀ i,i ∉ ids->γc i=none)/\(∀ b,own γc b->own γ b) /\
   (∀ b,Sg (Cx.sub cx γ γc w).S0 cx.w0.heap.size γc b ↔ Sg cx.S0 cx.w0.heap.size γ b)/\MeSt (Cx.sub cx γ γc w) γc me w:=by
 obtain ⟨h1,f⟩:=Mc d;subst h1;exact h.part (ρ:=fun i=>i) (zw0 _) (zug f c)
theorem StG.joinX (h:StG cx γ τ a w){γc γc':Gam}{me':List (Nat×Ent)}{w':World}{dst:Option Nat}{u:Value}{res:AV}(r:∀ i∈ids,γc i=γ i)(Q:∀ i,i ∉ ids->γc i=none)
  (k:MeSt (Cx.sub cx γ γc w) γc' me' w') (hz:w.heap.size<=w'.heap.size) (B:Evo γc γc') (P:∀ b,¬own γc b->b<w.heap.size->w'.heap[b]? = w.heap[b]? /\ ¬own γc' b) (Z:cx.E.dr=true->w.drawn<=w'.drawn)
  (U:∀ x,dst=some x->cx.E.np<=x/\x<cx.nt) (L:∀ i,lkE me' i≠none->i∈ids\/τ.find i=none) (hu:Rep w' (Sg (Cx.sub cx γ γc w).S0 cx.w0.heap.size γc') γc' res u) :
  ∃ γ',Evo γ γ'/\StG cx γ' (τ.upd dst res me') (a.put dst u) w':=by
 have A:∀ i,lkE me' i=none ↔ γc' i=none:=fun i=>by
  have:=k.me i;unfold AS.find at this;constructor
  ·intro e;have e:lkE me' i=none:=e;rw [e] at this;exact this
  ·intro e;cases n:lkE me' i with
   |none=>rfl
   |some x =>
    rw [n] at this;obtain ⟨d,U,_⟩:=this;rw [e] at U;cases U
 let γ':Gam:=fun j=>match lkE me' j with|some _=>γc' j|none=>γ j
 have F1:∀ j,lkE me' j≠none->γ' j=γc' j:=fun j c=>by
  show (match lkE me' j with|some _=>γc' j|none=>γ j)=_;cases n:lkE me' j with
  |none=>exact absurd n c
  |some _=>rfl
 have F2:∀ j,lkE me' j=none->γ' j=γ j:=fun j c=>by
  show (match lkE me' j with|some _=>γc' j|none=>γ j)=_;rw [c]
 have I:∀ i,τ.find i=none->γ i=none:=fun i hi=>by have:=h.me i;rw [hi] at this;exact this
 have H:∀ i,i∈ids->γ i≠none->lkE me' i≠none:=fun i hi M n=>by
  cases O:γ i with
  |none=>exact M O
  |some d =>
   rcases B i d (by rw [r i hi,O]) with h1|h1|⟨_,_,_,h1,_⟩<;>(rw [(A i).1 n] at h1;cases h1)
 have F:∀ b,own γc b->own γ b:=fun b ⟨i,s,hi,g⟩=>by
  by_cases hm:i∈ids
  ·rw [r i hm] at hi;exact ⟨_,s,hi,g⟩
  ·rw [Q i hm] at hi;cases hi
 have f:∀ j b s,lkE me' j=none->γ j=some s->b∈blks s->¬own γc b:=fun j b s c g aa ⟨i,S,hi,Y⟩=>by
  by_cases hm:i∈ids
  ·rw [r i hm] at hi;have:=h.inj _ _ _ _ _ hi g Y aa;subst this;exact H i hm (by rw [g];simp) c
  ·rw [Q i hm] at hi;cases hi
 have p:∀ b,own γ' b->own γc' b\/(own γ b/\¬own γc b):=fun b ⟨j,s,c,hm⟩=>by
  cases n:lkE me' j with
  |some _=>rw [F1 j (by rw [n];simp)] at c;exact aC ⟨j,s,c,hm⟩
  |none=>rw [F2 j n] at c;exact aG ⟨⟨j,s,c,hm⟩,f j b s n c hm⟩
 have G:∀ b,¬own γ b->b<w.heap.size->w'.heap[b]? = w.heap[b]? /\ ¬own γ' b:=fun b g q=>by
  obtain ⟨q1,q2⟩:=P b (fun m=>g (F b m)) q;exact ⟨q1,fun m=>(p b m).elim q2 (fun h=>g h.1)⟩
 have V:∀ b,Sg (Cx.sub cx γ γc w).S0 cx.w0.heap.size γc' b->Sg cx.S0 cx.w0.heap.size γ' b:=by
  rintro b (⟨h1|⟨h1,_⟩,W⟩|⟨⟨h1,W⟩,h4⟩)
  ·exact aC ⟨h1,W⟩
  ·have:=(h.own_ge h1).1;omega
  ·exact aG ⟨⟨h1,fun h5=>W (aC h5)⟩,fun m=>(p b m).elim h4 (fun h6=>W (aG h6))⟩
 have z:∀ b,Sg cx.S0 cx.w0.heap.size γ b->¬own γ b:=fun b V m=>by
  rcases V with ⟨_,h1⟩|⟨_,h1⟩
  ·have:=(h.own_ge m).1;omega
  ·exact h1 m
 have t:∀ i d,γc' i=some d->γ' i=some d\/γ' i=some none\/Turn γ' i d:=fun i d hi=>aC (by
  rw [F1 i (fun e=>by rw [(A i).1 e] at hi;cases hi)];exact hi)
 have X:∀ {av v},Rep w' (Sg (Cx.sub cx γ γc w).S0 cx.w0.heap.size γc') γc' av v->Rep w' (Sg cx.S0 cx.w0.heap.size γ') γ' av v:=fun h=>(h.mono (aF _) (fun b g _=>⟨rfl,V b g⟩)).gam t
 have C:Evo γ γ':=fun i d hi=>by
  cases n:lkE me' i with
  |none=>exact aC (by rw [F2 i n];exact hi)
  |some _ =>
   have J:lkE me' i≠none:=by rw [n];simp
   rcases L i J with hm|M
   ·have:=B i d (by rw [r i hm];exact hi);unfold Turn at this ⊢;rw [<-F1 i J] at this;exact this
   ·rw [I i M] at hi;cases hi
 refine ⟨γ',C,h.step (γ':=γ') U hz (fun b g q=>⟨(G b (z b g) q).1,?_⟩) C (fun j c=>?_) (fun j e c=>?_) (fun i j b s S hi c mi mj=>?_) (fun b g=>?_) k.below (X hu) G Z⟩
 ·have M:=(G b (z b g) q).2;rcases g with g|⟨h1,_⟩
  ·exact aC g
  ·exact aG ⟨h1,M⟩
 ·exact ⟨F2 j c,fun b d O hm=>(P b (f j b d c O hm) (h.ge b ⟨j,d,O,hm⟩).2).1⟩
 ·have:=k.me j;unfold AS.find at this;have N:lkE me' j=some e:=c;rw [N] at this;obtain ⟨x,hx,he⟩:=this;refine ⟨x,by rw [F1 j (by rw [N];simp)];exact hx,?_⟩;exact he.move (aF _) (fun b g _=>⟨rfl,V b g⟩) t (fun _ _=>rfl)
 ·cases D:lkE me' i with
  |some _ =>
   rw [F1 i (by rw [D];simp)] at hi;cases l:lkE me' j with
   |some _ =>
    rw [F1 j (by rw [l];simp)] at c;exact k.inj _ _ _ _ _ hi c mi mj
   |none =>
    rw [F2 j l] at c;exact absurd (aG ⟨⟨j,S,c,mj⟩,f j b S l c mj⟩) (k.ge b ⟨i,s,hi,mi⟩).1.2
  |none =>
   rw [F2 i D] at hi;cases l:lkE me' j with
   |some _ =>
    rw [F1 j (by rw [l];simp)] at c;exact absurd (aG ⟨⟨i,s,hi,mi⟩,f i b s D hi mi⟩) (k.ge b ⟨j,S,c,mj⟩).1.2
   |none =>
    rw [F2 j l] at c;exact h.inj _ _ _ _ _ hi c mi mj
 ·rcases p b g with m|⟨m,_⟩
  ·have:=k.ge b m;exact ⟨⟨this.1.1,fun h5=>this.1.2 (aC h5)⟩,this.2⟩
  ·exact ⟨(h.ge b m).1,aD (h.ge b m).2 hz⟩
theorem StG.keepX (h:StG cx γ τ a w)(C:C9 τ.find ids=some me)(A:me.all (fun x=>x.2.inM ids)=true)(B:cx.ev=false) :
  ∃ γ',(∀ i∈ids,γ' i=γ i)/\(∀ i,i ∉ ids->γ' i=none)/\(∀ b,own γ' b->own γ b)/\(∀ b,Sg cx.S0 cx.w0.heap.size γ b->Sg cx.S0 cx.w0.heap.size γ' b)/\StG cx γ' ⟨[],me⟩ a w:=by
 obtain ⟨h1,q⟩:=Mc C;subst h1;let γ':Gam:=fun i=>if i∈me.map (·.1) then γ i else none
 have c:∀ i,i∈me.map (·.1)->γ' i=γ i:=fun i hi=>if_pos hi
 have d:∀ i,i ∉ me.map (·.1)->γ' i=none:=fun i hi=>if_neg hi
 have f:∀ b,own γ' b->own γ b:=fun b ⟨i,s,hi,l⟩=>by
  by_cases hm:i∈me.map (·.1)
  ·rw [c i hm] at hi;exact ⟨_,s,hi,l⟩
  ·rw [d i hm] at hi;cases hi
 have p:∀ b,Sg cx.S0 cx.w0.heap.size γ b->Sg cx.S0 cx.w0.heap.size γ' b:=fun b l=>l.elim aC (fun ⟨h1,q⟩=>aG ⟨h1,fun z=>q (f b z)⟩)
 refine ⟨γ',c,d,f,p,fun t=>.any _,fun i=>?_,fun i j b s O hi r mi mj=>?_,fun b l=>h.ge b (f b l),h.below,h.size,h.defers.gam f B,h.gh,fun b l=>by obtain ⟨N,M,L⟩:=h.fr b l;exact ⟨fun z=>N (f b z),M,L⟩,h.dr⟩
 ·show MeOk _ _ _ _ _ (lkE me i);cases v:lkE me i with
  |none =>
   have:i ∉ me.map (·.1):=fun hi=>by rw [<-Hk] at hi;exact hi v
   exact d i this
  |some e =>
   obtain ⟨G,F⟩:=zdm C v;rw [c i F];have:=h.me i;rw [G] at this;obtain ⟨x,H,m⟩:=this;refine ⟨x,H,?_⟩;have hm:e.inM (me.map (·.1))=true:=aS.1 A (i,e) (Ea v);have m:B8 w (Sg cx.S0 cx.w0.heap.size γ) γ cx.w0.heap.size x (e.renI (fun i=>i)):=by rw [Ent.renI_id];exact m
   cases e with
   |box ty cs =>
    obtain ⟨g,vs,J,l,u,I,n⟩:=m;simp only [Ent.inM] at hm;exact ⟨g,vs,J,l,by rw [u,aV],fun k D=>((I k (by rw [aV];exact D)).ren c _ (AV.renL_at _ _ _ _) (AV.inML_at hm k D)).mono (aF _) (fun b l _=>⟨rfl,p b l⟩),n⟩
   |gen ty sz xs=>exact m.gen_ren c hm p
   |lp fn ps a b nt busy caps=>exact m.lp_ren c hm p
   |_=>exact m.gmono (fun _ _ h=>by cases h) p
 ·by_cases h1:i∈me.map (·.1)
  ·by_cases q:j∈me.map (·.1)
   ·rw [c i h1] at hi;rw [c j q] at r;exact h.inj _ _ _ _ _ hi r mi mj
   ·rw [d j q] at r;cases r
  ·rw [d i h1] at hi;cases hi
theorem Rep.keep {S S':Nat->Prop}{γ γ':Gam}{av:AV}{v:Value}(h:Rep w S γ av v)(c:∀ i∈ids,γ' i=γ i)(g:∀ b,S b->S' b)(d:av.inM ids=true):Rep w S' γ' av v :=
 ((h.ren (ρ:=fun i=>i) c av (AV.ren_id av).symm d)).mono (aF _) (fun b f _=>⟨rfl,g b f⟩)
end
open Go.RowKit
def Ht (cx:Cx)(γ:Gam)(w:World)(res:AV)(me':List (Nat×Ent)):Ending->World->Prop:=fun e w'=>∃ u γ',e=.returned u/\MeSt cx γ' me' w'/\Rep w' (Sg cx.S0 cx.w0.heap.size γ') γ' res u/\w.heap.size<=w'.heap.size/\Evo γ γ' /\ (∀ b,¬own γ b->b<w.heap.size->w'.heap[b]? = w.heap[b]? /\ ¬own γ' b)
abbrev CalX:=Gam->Array Value->World->(Ending->World->Prop)->Prop
def Hu (P:Program)(f:FuncId):CalX:=fun _ vs w R=>Calls P f vs w R
def zwx (P:Program)(id:Nat):CalX:=fun γ vs w R=>∀ l,γ id=some (some (some l,.func (.yield l) #[] #[]))->YieldAt Fence.wide 0 P l vs w R
def ConX (E:Env)(C:CalX)(args:List AV)(me:List (Nat×Ent))(res:AV)(me':List (Nat×Ent)):Prop:=∀ (cx:Cx) (γ:Gam) (w:World) (vs:Array Value),cx.E.P=E.P->cx.E.ld=E.ld->cx.E.dr=false->cx.ev=false->cx.nt=0->cx.E.np=0->MeSt cx γ me w->vs.size=args.length -> (∀ i (hi:i<args.length),Rep w (Sg cx.S0 cx.w0.heap.size γ) γ args[i] (vs.getD i undef))->C γ vs w (Ht cx γ w res me')
theorem z7n {cx:Cx}{γ:Gam}{σ:AS}{fn:Func}{R:Ending->World->Prop}:∀ (j:List Nat) (a:Act) (w:World),StG cx γ σ a w->cx.E.rg=true->(∀ r∈j,¬cx.Fr r)->cx.E.yl=none->a.defers=j.map (fun r=>{ target:=.collected r,args:=#[] })->j.Nodup ->
  (∀ r∈j,cx.w0.heap.size<=r/\r<w.heap.size/\¬own γ r/\w.heap[r]? = some (.deferred (some []))) ->
  (∀ w' t,StG cx γ σ t w'->t.tmps=a.tmps->∃ v,(results fn a.tmps).run cx.P w'=.ok v w'/\R (.returned v) w')->LeavesInM Fence.wide 0 cx.P fn a.tmps R a.defers .returning w
 |[],a,w,h,p,C,n,s,_,_,k=>by
  rw [s];obtain ⟨v,h1,D⟩:=k w a h rfl;exact ⟨v,h1,D⟩
 |r::j,a,w,h,p,C,n,s,A,q,k=>by
  obtain ⟨H,P,G,F⟩:=q r (aN ..);rw [s];refine ⟨by simp,aC ⟨r,w.putObj r (.deferred none),rfl,run_takeDeferred F,?_⟩⟩;have g:=(nodup_cons.1 A);have m:∀ f∈j,cx.w0.heap.size<=f/\f < (w.putObj r (.deferred none)).heap.size/\¬own γ f/\(w.putObj r (.deferred none)).heap[f]? = some (.deferred (some [])):=fun f c=>by
   obtain ⟨M,L,J,I⟩:=q f (aJ _ c);exact ⟨M,by rw [Bx];exact L,J,(Bo (b:=f) (r:=r) (by intro e;subst e;exact g.1 c)).trans I⟩
  have u:=h.putObj (o':=.deferred none) (ds:=j.map (fun r=>{ target:=.collected r,args:=#[] })) F rfl H G
   ⟨fun z=>absurd (z.symm.trans p) (by simp),⟨j,rfl,g.2,m⟩,h.defers.pin,fun l R N=>absurd (n.symm.trans N) (by simp),by rw [Bx];exact h.defers.sz,h.defers.evo,h.defers.laid,(fun d B f c=>h.defers.mks d (by rw [s];exact aJ _ B) f c),by rw [Bx];exact h.defers.wsz⟩
   (fun b O e=>by subst e;exact C _ (aN ..) O)
  exact z7n j _ _ u p (fun f c=>C f (aJ _ c)) n rfl g.2 m (fun w' t h1 D=>k w' t h1 (D.trans rfl))
variable {me':List (Nat×Ent)}
theorem Ht.of {cx cx':Cx}{γ g:Gam}{τ:AS}{a:Act}{w':World}{res:AV}{u:Value}(v:cx.nt=0)(z:cx.E.np=0)(A:cx.E.dr=false)(P:cx.ev=false)(f:MeSt cx γ me w)
  (S:cx'.S0=cx.S0) (C:cx'.w0=cx.w0) (c:StG cx' g τ a w') (hE:Evo γ g) (k:w.heap.size<=w'.heap.size) (O:∀ b,¬own γ b->b<w.heap.size->w'.heap[b]? = w.heap[b]? /\ ¬own g b)
  (hp:C9 τ.find ids=some me') (N:me'.all (fun x=>x.2.inM ids)=true) (m:me.all (fun x=>memB x.1 ids)=true) (s:res.inM ids=true) (I:Rep w' (Sg cx'.S0 cx'.w0.heap.size g) g res u):Ht cx γ w res me' (.returned u) w':=by
 have q:StG { cx' with ev:=false } g τ a w':=⟨c.tm,c.me,c.inj,c.ge,c.below,c.size,⟨c.defers.d0,c.defers.marks,c.defers.pin,c.defers.yl,c.defers.sz,fun h=>absurd h (by simp),c.defers.laid,c.defers.mks,c.defers.wsz⟩,c.gh,c.fr,c.dr⟩;obtain ⟨p,U,k2,k3,k4,B⟩:=q.keepX hp N rfl;have L:∀ i d,γ i=some d->i∈ids:=fun i d hi=>by
  have:=f.me i;unfold AS.find at this;cases V:lkE me i with
  |none =>
   have J:lkE me i=none:=V;rw [J,hi] at this;cases this
  |some e =>
   have:=aS.1 m (i,e) (Ea V);exact (Ct _ _).1 this
 have j:∀ b,¬own γ b->b<w.heap.size->w'.heap[b]? = w.heap[b]? /\ ¬own p b:=fun b n M=>by
  obtain ⟨H,G⟩:=O b n M;exact ⟨H,fun ho=>G (k3 b ho)⟩
 refine ⟨u,p,rfl,⟨fun t=>.any _,fun i=>?_,B.inj,fun b n=>?_,?_,v.symm,⟨fun _=>rfl,⟨[],rfl,.nil,fun r I=>by cases I⟩,fun t ht=>by rw [z] at ht;omega,fun l R hl=>?_,aY f.defers.sz k,fun h=>absurd (P.symm.trans h) (by simp),f.defers.laid,(fun d Q=>by cases Q),aY f.defers.wsz k⟩,fun b n=>aD (f.gh b n) k,fun b n=>?_,fun Q=>absurd (A.symm.trans Q) (by simp)⟩,?_,k,fun i d hi=>?_,j⟩
 ·have:=B.me i;rw [<-S,<-C];exact this
 ·have:=B.ge b n;rw [<-S,<-C];exact this
 ·have:=B.below;rw [<-C];exact this
 ·obtain ⟨X,H,G,W⟩:=f.defers.yl l R hl;obtain ⟨F,D⟩:=j l G H;exact ⟨X,by omega,D,F.trans W⟩
 ·obtain ⟨p1,Z,Y⟩:=f.fr b n;obtain ⟨F,D⟩:=j b p1 Z;exact ⟨D,by omega,F.trans Y⟩
 ·rw [<-S,<-C];exact I.keep U k4 s
 ·have h1:=hE i d hi;unfold Turn at h1 ⊢;rw [U i (L i d hi)];exact h1
theorem ConX.walk {E:Env}{f:FuncId}{args:List AV}{res:AV}{avs:List AV}{τ:AS}(c:Code)(hf:E.P.funcs[f]? = some fn)(p:fn.body=some c)(hn:Nat.ble args.length fn.ntmps=true)(M:E.rg=true)(S:E.dr=false)(q:E.yl=none)(N:E.np=0)
  (h:∀ cx:Cx,cx.E=E->cx.nt=fn.ntmps->cx.rd=none->WP cx c (fun e σ=>(e=.normal\/e=.ret)/\σ=τ) (Jm args me))
  (h1:retA E.tab τ fn.results.toList=some avs) (h2:Fd avs=res) (hp:C9 τ.find ids=some me') (P:me'.all (fun x=>x.2.inM ids)=true) (m:me.all (fun x=>memB x.1 ids)=true) (z:res.inM ids=true):ConX E (Hu E.P f) args me res me':=by
 subst h2;intro cx γ w vs hP D H Q B C j aa J;have ab:=aL hn;show Calls E.P f vs w _;refine callsIn_wide.1 (callsIn_of_wp_marks (F:=Fence.wide) (n:=0) hf p trivial ?_);let cx':Cx:=⟨E,cx.S0,cx.w0,fn.ntmps,fun b=>b<w.heap.size/\¬own γ b,w,none,vs,fun _=>rfl,true,γ,w.heap.size⟩;have G:∀ t,t<args.length->(vs++aH (fn.ntmps-vs.size) undef).getD t undef=vs.getD t undef:=fun t u=>by
  rw [aB,aB,Array.getElem?_append_left (by omega)]
 have L:StG cx' γ (Jm args me) { tmps:=vs++aH (fn.ntmps-vs.size) undef,defers:=[] } w:=by
  refine ⟨fun t=>?_,j.me,j.inj,j.ge,j.below,?_,⟨fun _=>rfl,⟨[],rfl,.nil,fun r A=>by cases A⟩,fun t u=>by rw [show cx'.E.np=0 from N] at u;omega,fun l R hl=>absurd (q.symm.trans hl) (by simp),aF _,fun _=>Evo.refl _,fun h=>j.defers.laid (D.trans h),(fun d U=>by cases U),aF _⟩,j.gh,fun b p=>⟨p.2,p.1,rfl⟩,fun U=>absurd (S.symm.trans U) (by simp)⟩
  ·unfold AS.get Jm;rw [Qx];by_cases u:0<=t/\t<0+args.length
   ·rw [dif_pos u];have s:t<args.length:=by omega
    show Rep w _ γ _ ((vs++aH (fn.ntmps-vs.size) undef).getD t undef);rw [G t s];exact J t s
   ·rw [dif_neg u];exact .any _
  ·show (vs++aH (fn.ntmps-vs.size) undef).size=fn.ntmps;rw [Array.size_append,Array.size_replicate];omega
 refine wpIn_mono (h cx' rfl rfl rfl _ _ ⟨γ,L⟩) (fun e a w' ⟨σ,⟨he,I⟩,X,k⟩=>?_);subst I;have key:bodyPostM Fence.wide 0 E.P fn (Ht cx γ w (Fd avs) me') .ret a w':=by
  obtain ⟨Y,V,m2,m3⟩:=k.defers.marks;refine z7n (cx:=cx') Y a w' k M (fun r A hF=>?_) q V m2 m3 (fun w2 a2 g e2=>?_)
  ·have:=k.defers.mks { target:=.collected r,args:=#[] } (by rw [V];exact mem_map.2 ⟨r,A,rfl⟩) r rfl;have h3:r<w.heap.size:=hF.1;have h4:w.heap.size<=r:=this;omega
  ·obtain ⟨v,W,A⟩:=J4 g h1;rw [e2] at W;refine ⟨v,W,Ht.of (cx':=cx') B C H Q j rfl rfl g (g.defers.evo rfl) g.defers.wsz (fun b p O=>?_) hp P m z A⟩;obtain ⟨q1,q2,Z⟩:=g.fr b ⟨O,p⟩;exact ⟨Z,q1⟩
 rcases he with rfl|rfl
 ·exact key
 ·exact key
end Go.Proofs.YtkoamfnbbhfaiaaGreatDoor
