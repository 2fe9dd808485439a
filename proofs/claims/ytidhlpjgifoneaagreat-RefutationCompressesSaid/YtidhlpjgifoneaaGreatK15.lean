/- Maps. -/
import Derived.Test.YtidhlpjgifoneaaGreatK12
import Derived.Test.YtidhlpjgifoneaaGreatProg
import Derived.KernelRfl
set_option linter.unusedVariables false
set_option linter.unusedSimpArgs false
namespace Go.Proofs.YtidhlpjgifoneaaGreat
open Go.RowKit List
open _root_.Array renaming getD_eq_getD_getElem?->aA,getElem?_setIfInBounds_ne->aD,replicate->aF,getElem?_append_left->aH,size_setIfInBounds->aL
open Nat renaming eq_of_beq_eq_true->aB,le_of_ble_eq_true->aE,beq->aJ,le_refl->aK,ble->aR,le_trans->bB,blt->bC
open AS renaming find->aC
open Bool renaming false_eq_true->aG,and_eq_true->aM,or_eq_true->aV
open List renaming mem_cons_of_mem->aN,mem_of_find?_eq_some->aO,any_eq_true->aP,all_eq_true->aQ,findIdx?_cons->aS,mem_cons_self->aT,foldl_cons->aY,mem_range->aZ
open AV renaming renL->aW,inML->aX
theorem zyg {kd:IntKind}{a:AV}(h:isI kd a=true):a=.int kd (intN a):=by
 cases a<;>simp [isI] at h;subst h;rfl
def qK (n:Int)(p:AV×AV):Bool:=decide (n=intN p.1)
theorem Zu {kd:IntKind}{n:Int}:∀ (ps:List (AV×AV)) (i:Nat),(∀ p∈ps,isI kd p.1=true)->Bz (.int kd n) (ps.map (·.1)) i=some ((ps.findIdx? (qK n)).map (· + i))
 |[],i,_=>rfl
 |(a,v)::r,i,h=>by
  have c:=zyg (h (a,v) (by simp));have d:=Zu (n:=n) r (i+1) (fun p g=>h p (by simp [g]));have e:eqK (.int kd n) a=some (decide (n=intN a)):=by
   simp only at c;rw [c];simp [eqK,eq1,show ∀ m,intN (.int kd m)=m from fun _=>rfl]
  simp only [map_cons,Bz,e];by_cases b:n=intN a
  ·rw [decide_eq_true b];simp [aS,qK,b]
  ·rw [decide_eq_false b];simp only [d,aS,qK,decide_eq_false b];simp only [aG,if_false,Option.map_map];congr 1;have l:(fun p:AV×AV=>decide (n=intN p.1))=qK n:=rfl
   try rw [l]
   cases findIdx? (qK n) r with
   |none=>rfl
   |some j=>simp;omega
theorem zhi (z:AV)(q:AV×AV->Bool)(ps:List (AV×AV)):Dz z ps (ps.findIdx? q)=((ps.find? q).map (·.2)).getD z:=by
 induction ps with
 |nil=>rfl
 |cons p r ih =>
  rw [aS,find?_cons];cases a:q p with
  |true=>rfl
  |false =>
   simp only [aG,if_false];rw [<-ih];cases findIdx? q r<;>rfl
variable {ps0 ps:List (AV×AV)}
theorem znf {n:Int}(c:ps0.Perm ps)(m:(ps.map fun p=>intN p.1).Nodup):ps0.find? (qK n)=ps.find? (qK n):=by
 have uniq:∀ p∈ps,∀ a∈ps,qK n p=true->qK n a=true->p=a:=fun p h a s q d=>by
  obtain ⟨i,hi,rfl⟩:=mem_iff_getElem.1 h;obtain ⟨j,l,rfl⟩:=mem_iff_getElem.1 s;have e:intN ps[i].1=intN ps[j].1:=by
   simp only [qK,decide_eq_true_eq] at q d;rw [<-q,<-d]
  have:i=j:=(getElem_inj (h₀:=by simpa using hi) (h₁:=by simpa using l) m).1 (by simpa using e);subst this;rfl
 cases h:ps.find? (qK n) with
 |none =>
  rw [find?_eq_none] at h ⊢;exact fun p hm=>h p (c.mem_iff.1 hm)
 |some p =>
  have h1:=aO h;have g:=find?_some h;cases b:ps0.find? (qK n) with
  |none=>rw [find?_eq_none] at b;exact absurd g (b p (c.mem_iff.2 h1))
  |some a=>rw [uniq a (c.mem_iff.1 (aO b)) p h1 (find?_some b) g]
theorem Hv.mem (h:Hv ps0 ps){p:AV×AV}:p∈ps0 ↔ p∈ps:=by
 rcases h with rfl|⟨h,_⟩
 ·exact Iff.rfl
 ·exact h.mem_iff
theorem y57 {k:AV}{kd:IntKind}{r:Option Nat}(j:isI kd k=true)(h:∀ p∈ps,isI kd p.1=true)(g:(ps.map fun p=>intN p.1).Nodup)(c:ps0.Perm ps)(a:Bz k (ps.map (·.1)) 0=some r) :
  ∃ b,Bz k (ps0.map (·.1)) 0=some b/\b.isSome=r.isSome/\∀ z,Dz z ps0 b=Dz z ps r:=by
 have e:=zyg j;rw [e,Zu ps 0 h] at a;injection a with a
 have i:∀ o:Option Nat,o.map (· + 0)=o:=fun o=>by cases o<;>rfl
 rw [i] at a;refine ⟨ps0.findIdx? (qK (intN k)),?_,?_,fun z=>?_⟩
 ·rw [e,Zu ps0 0 (fun p hm=>h p (c.mem_iff.1 hm)),i];simp [intN]
 ·rw [<-a];have d:∀ l:List (AV×AV),(l.findIdx? (qK (intN k))).isSome=(l.find? (qK (intN k))).isSome:=fun l=>by
   rw [findIdx?_isSome,Bool.eq_iff_iff,find?_isSome,aP]
  rw [d,d,znf c g]
 ·rw [zhi,<-a,zhi,znf c g]
theorem zej {k:AV}{r:Option Nat}(b:Hv ps0 ps)(a:Bz k (ps.map (·.1)) 0=some r):∃ c,Bz k (ps0.map (·.1)) 0=some c/\c.isSome=r.isSome/\∀ z,Dz z ps0 c=Dz z ps r:=by
 rcases b with rfl|⟨b,kd,h1,g⟩
 ·exact ⟨r,a,rfl,fun _=>rfl⟩
 ·cases ps with
  |nil=>rw [perm_nil.1 b];exact ⟨r,a,rfl,fun _=>rfl⟩
  |cons p t =>
   refine y57 (kd:=kd) ?_ h1 g b a;have hi:=zyg (h1 p (by simp));simp only [map_cons,Bz] at a;rw [hi] at a;cases k with
   |int d n =>
    simp only [eqK,eq1] at a;by_cases e:d=kd
    ·simp [isI,e]
    ·rw [decide_eq_false e] at a;cases a
   |_=>simp [eqK,eq1] at a
def zrm (args:List AV)(me:List (Nat×Ent)):AS:=⟨args.zipIdx.map fun p=>(p.2,p.1),me⟩
def boxB (np:Nat)(args:List AV)(τ:AS)(me me':List (Nat×Ent))(yk:List Nat):Bool:=me.all fun x=>match x.2 with
 |.box _ _=>memB x.1 yk || (range np).any fun t=>(match args[t]? with|some (.ptr k 0)=>aJ k x.1|_=>false) && (match τ.get t,lkE me' x.1 with|.ptr k 0,some (.box _ _)=>aJ k x.1|_,_=>false)
 |.row _ _ _=>match lkE me' x.1 with
  |none=>true
  |some (.row _ _ _)=>(range np).any fun t=>(match args[t]? with|some (.row k)=>aJ k x.1|_=>false) && (match τ.get t with|.row k=>aJ k x.1|_=>false)
  |some _=>false
 |_=>true
variable {args:List AV}{me me':List (Nat×Ent)}{ty sz:Nat}{xs:List AV}
theorem zu2 {np:Nat}{τ:AS}{yk:List Nat}(h:boxB np args τ me me' yk=true){i:Nat}(hi:lkE me i=some (.row ty sz xs)){e:Ent}(u:lkE me' i=some e) :
  ∃ t b c a,t<np/\args[t]? = some (.row i)/\τ.get t=.row i/\e=.row b c a:=by
 have j:=aQ.1 h (i,.row ty sz xs) (Tg hi);simp only [u] at j;split at j
 ·rename_i g;cases g
 ·rename_i b c a g;injection g with g
  obtain ⟨t,p,d⟩:=aP.1 j;rw [aZ] at p;rw [aM] at d;obtain ⟨n,m⟩:=d;split at n
  ·rename_i k s;have x:k=i:=aB n;subst x;split at m
   ·rename_i q l;have v:q=k:=aB m;subst v;exact ⟨t,b,c,a,p,s,l,g⟩
   ·cases m
  ·cases n
 ·cases j
variable {w:World}{γ:Gam}
theorem zru {w':World}{S S':Nat->Prop}{γ':Gam}{B B' i c e:Nat}{b:List AV}{d j:Option (Option Nat×Value)}{v:Value}(h1:Rep w S γ (.row i) v)(t:Rep w' S' γ' (.row i) v)(h:γ i=some d)(a:γ' i=some j)
  (q:Bq w S γ B d (.row ty sz xs)) (g:Bq w' S' γ' B' j (.row c e b)):γ' i=γ i:=by
 obtain ⟨s,vs,x,p,_⟩:=q;obtain ⟨y,l,u,o2,_⟩:=g;subst x u;have n:=h1.row_inv h (Fc p);have m:=t.row_inv a (Fc o2);rw [h,a,<-n,<-m]
def YK (np:Nat)(args:List AV)(τ:AS)(me':List (Nat×Ent)):List Nat->Prop |[]=>True |k::r=>((∃ (t a i l:Nat) (T:Array Value) (caps caps':List AV) (ty:TypeId) (es:List AV),args[t]? = some (.yld l T caps)/\τ.get a=.yld l T caps'/\caps[i]? = some (.ptr k 0)/\caps'[i]? = some (.ptr k 0)/\lkE me' k=some (.box ty es)) \/ ∃ (t i f:Nat) (caps caps':List AV) (ty:TypeId) (es:List AV),t<np/\args[t]? = some (.fn f caps)/\τ.get t=.fn f caps'/\caps[i]? = some (.ptr k 0)/\caps'[i]? = some (.ptr k 0)/\lkE me' k=some (.box ty es))/\YK np args τ me' r
theorem YK.at {np:Nat}{τ:AS}:∀ {l:List Nat},YK np args τ me' l->∀ k∈l,(∃ (t b i l:Nat) (T:Array Value) (caps caps':List AV) (ty:TypeId) (es:List AV),args[t]? = some (.yld l T caps)/\τ.get b=.yld l T caps'/\caps[i]? = some (.ptr k 0)/\caps'[i]? = some (.ptr k 0)/\lkE me' k=some (.box ty es)) \/
   ∃ (t i f:Nat) (caps caps':List AV) (ty:TypeId) (es:List AV),t<np/\args[t]? = some (.fn f caps)/\τ.get t=.fn f caps'/\caps[i]? = some (.ptr k 0)/\caps'[i]? = some (.ptr k 0)/\lkE me' k=some (.box ty es)
 |[],_,k,a=>by cases a
 |x::r,h,k,a=>by
  rcases mem_cons.1 a with rfl|a
  ·exact h.1
  ·exact h.2.at k a
inductive GX (E:Env) (nt:Nat) (fn:Func) (args:List AV) (me:List (Nat×Ent)) (σ:AS) (res:AV) (me':List (Nat×Ent)):Prop
 |mk (τ:AS) (hl:LeX E nt σ τ) (hme:τ.me=me') (avs:List AV) (h1:retA E.tab τ fn.results.toList=some avs) (h2:Sub (K4 avs) res) (yk:List Nat) (hyk:YK E.np args τ me' yk) (hb:boxB E.np args τ me me' yk=true)
def EndG (E:Env)(nt:Nat)(fn:Func)(args:List AV)(me:List (Nat×Ent))(res:AV)(me':List (Nat×Ent)):Exit->AS->Prop |.normal,σ=>GX E nt fn args me σ res me' |.ret,σ=>GX E nt fn args me σ res me' |_,_=>False
variable {E:Env}{f:FuncId}{fn:Func}{res:AV}
theorem ConG.walk {caps:List AV}(c:Code)(hf:E.P.funcs[f]? = some fn)(Q:fn.body=some c)(hn:aR (args++caps).length fn.ntmps=true)(au:aR E.np (args++caps).length=true)(ar:E.rg=false)(ax:E.dr=false)
  (h:AW E fn.ntmps (EndG E fn.ntmps fn (args++caps) me res me') [.code c] .normal (zrm (args++caps) me)):ConG E.P E.yl (CalF E.P f caps.length) args caps me res me':=by
 intro cx γ w vs cs hP aj am ah ai d ad ao az ay;have bd:(vs++cs).size=(args++caps).length:=by simp [ad,ay]
 have bi:=aE hn;have bc:=aE au;refine callsIn_wide.1 (callsIn_of_wp (F:=Fence.wide) (n:=0) hf Q trivial ?_);let G:Cx:=⟨E,cx.S0,cx.w0,fn.ntmps,fun b=>b<w.heap.size/\¬own γ b,w,none,vs++cs,fun _=>rfl⟩;have h0:WP G c (EndG E fn.ntmps fn (args++caps) me res me') (zrm (args++caps) me):=WP.mono (h.out G rfl rfl) fun e σ hk=>by cases e<;>exact hk
 have z:∀ t (B:t<(args++caps).length),Rep w (Sg cx.S0 cx.w0.heap.size γ) γ (args++caps)[t] ((vs++cs).getD t undef):=fun t B=>by
  by_cases h1:t<args.length
  ·rw [getElem_append_left h1,aA,aH (by omega),<-aA];exact ao t h1
  ·rw [getElem_append_right (by omega),aA,Array.getElem?_append_right (by omega),<-aA,ad];exact az _ (by rw [length_append] at B;omega)
 have P:∀ t,t<(args++caps).length->(vs++cs++aF (fn.ntmps-(vs++cs).size) undef).getD t undef=(vs++cs).getD t undef:=fun t B=>by
  rw [aA,aA,aH (by omega)]
 have aq:StG G γ (zrm (args++caps) me) { tmps:=vs++cs++aF (fn.ntmps-(vs++cs).size) undef,defers:=[] } w:=by
  refine ⟨fun t=>?_,d.me,d.inj,d.ge,d.below,?_,⟨fun _=>rfl,⟨[],rfl,.nil,fun r hr=>by cases hr⟩,fun t B=>?_,fun l R hl=>d.defers.yl l R (am _ hl),aK _⟩,d.gh,fun b Q=>⟨Q.2,Q.1,rfl⟩,fun hd=>?_⟩
  ·unfold AS.get zrm;rw [zj2];by_cases B:0<=t/\t<0+(args++caps).length
   ·rw [dif_pos B];have W:t<(args++caps).length:=by omega
    show Rep w _ γ _ ((vs++cs++aF (fn.ntmps-(vs++cs).size) undef).getD t undef);rw [P t W];exact z t W
   ·rw [dif_neg B];exact .any _
  ·show (vs++cs++aF (fn.ntmps-(vs++cs).size) undef).size=fn.ntmps;rw [Array.size_append,Array.size_replicate];omega
  ·have W:t<E.np:=B;exact P t (by omega)
  ·exact absurd (ax.symm.trans hd) (by simp)
 refine wpIn_mono (h0 _ _ ⟨γ,aq⟩) (fun e a w' ⟨σ,hq,ag⟩=>?_);have key:GX E fn.ntmps fn (args++caps) me σ res me'->bodyPost E.P fn (fun e w'=>∃ u γ',e=.returned u/\MeSt cx γ' me' w'/\Rep w' (Sg cx.S0 cx.w0.heap.size γ') γ' res u/\w.heap.size<=w'.heap.size/\(∀ i,Hs me me' i=true->γ' i=γ i) /\
   (∀ b,¬own γ b->b<w.heap.size->w'.heap[b]? = w.heap[b]? /\ ¬own γ' b)) .ret a w':=by
  rintro ⟨τ,hl,A,avs,h1,h2,yk,an,ak⟩;obtain ⟨γ',q⟩:=hl G rfl rfl a w' ag;obtain ⟨u,hu,hr⟩:=Wq q h1;have Z:∀ b,¬own γ b->b<w.heap.size->w'.heap[b]? = w.heap[b]? /\ ¬own γ' b:=fun b Q s=>by
   obtain ⟨q1,q2,q3⟩:=q.fr b ⟨s,Q⟩;exact ⟨q3,q1⟩
  have af:w.heap.size<=w'.heap.size:=q.defers.sz;refine ⟨q.defers.d0 ar,u,hu,u,γ',rfl,?_,hr.sub h2,af,fun i J=>?_,Z⟩
  ·refine ⟨fun t=>.any _,fun i=>by have:=q.me i;unfold aC at this ⊢;rw [<-A];exact this,q.inj,q.ge,q.below,ah.symm,⟨fun _=>rfl,⟨[],rfl,.nil,fun r hr=>by cases hr⟩,fun t B=>by rw [ai] at B;omega,fun l R hl=>?_,bB d.defers.sz af⟩,q.gh,fun b Q=>?_,fun hd=>absurd (aj.symm.trans hd) (by simp)⟩
   ·obtain ⟨q0,q1,q2,q3⟩:=d.defers.yl l R hl;obtain ⟨k1,V⟩:=Z l q2 q1;exact ⟨q0,by omega,V,k1.trans q3⟩
   ·obtain ⟨q1,q2,q3⟩:=d.fr b Q;obtain ⟨k1,V⟩:=Z b q1 q2;exact ⟨V,by omega,k1.trans q3⟩
  ·unfold Hs at J;split at J;rotate_left
   ·rename_i ty sz xs e hi he;obtain ⟨t,ac,bh,bf,B,e1,e2,rfl⟩:=zu2 ak hi he;obtain ⟨s,D⟩:=List.getElem?_eq_some_iff.1 e1;have I:=z t s;rw [D] at I;have H:=q.tm t;rw [e2,q.defers.pin t B] at H;have y:=d.me i;unfold aC at y;rw [hi] at y;obtain ⟨x,O,y⟩:=y;have v:=q.me i;unfold aC at v;rw [A,he] at v;obtain ⟨x2,p,v⟩:=v;exact zru I H O p y v
   ·cases J
   rename_i ty es hi;have C:=aQ.1 ak (i,.box ty es) (Tg hi);have C:=(aV _ _).mp C;rcases C with C|C
   ·rcases an.at i ((Db _ _).1 C) with ⟨t,t',j,l,T,yc,al,ac,bb,e1,e2,e3,e4,e5⟩|⟨t,j,f',yc,al,ac,bb,ap,e1,e2,e3,e4,e5⟩
    ·obtain ⟨s,D⟩:=List.getElem?_eq_some_iff.1 e1;have I:=z t s;rw [D] at I;have H:=q.tm t';rw [e2] at H;obtain ⟨hj,X⟩:=List.getElem?_eq_some_iff.1 e3;obtain ⟨Y,L⟩:=List.getElem?_eq_some_iff.1 e4;have U:=I.yld_inv.2 j hj;have S:=H.yld_inv.2 j Y;rw [X] at U;rw [L] at S;have y:=d.me i;unfold aC at y;rw [hi] at y;obtain ⟨x,O,g,ab,N,_⟩:=y;have v:=q.me i;unfold aC at v;rw [A,e5] at v;obtain ⟨x2,p,g2,aa,M,_⟩:=v;subst N M;have m:=U.ptr_inv O;rw [S.ptr_inv p] at m;injection m with m
     injection m with m
     injection m with m
     rw [O,p,m]
    ·obtain ⟨s,D⟩:=List.getElem?_eq_some_iff.1 e1;have I:=z t s;rw [D] at I;have H:=q.tm t;rw [e2,q.defers.pin t ap] at H;obtain ⟨hj,X⟩:=List.getElem?_eq_some_iff.1 e3;obtain ⟨Y,L⟩:=List.getElem?_eq_some_iff.1 e4;obtain ⟨us,ev1,_,U⟩:=I.fn_inv;obtain ⟨us',ba,_,S⟩:=H.fn_inv;have p3:(vs++cs).getD t undef=G.pv.getD t undef:=rfl;rw [p3,ba] at ev1;injection ev1 with _ _ ev1
     subst ev1;have U:=U j hj;have S:=S j Y;rw [X] at U;rw [L] at S;have y:=d.me i;unfold aC at y;rw [hi] at y;obtain ⟨x,O,g,ab,N,_⟩:=y;have v:=q.me i;unfold aC at v;rw [A,e5] at v;obtain ⟨x2,p,g2,aa,M,_⟩:=v;subst N M;have m:=U.ptr_inv O;rw [S.ptr_inv p] at m;injection m with m
     injection m with m
     injection m with m
     rw [O,p,m]
   obtain ⟨t,B,ae⟩:=aP.1 C;rw [aZ] at B;rw [aM] at ae;obtain ⟨b1,b2⟩:=ae;split at b1
   ·rename_i k hk;have e1:k=i:=aB b1;subst e1;split at b2
    ·rename_i V bg bj aw av;have e2:V=k:=aB b2;subst e2;obtain ⟨s,D⟩:=List.getElem?_eq_some_iff.1 hk;have I:=z t s;rw [D] at I;have H:=q.tm t;rw [aw,q.defers.pin t B] at H;have y:=d.me V;unfold aC at y;rw [hi] at y;obtain ⟨x,O,g,ab,N,_⟩:=y;have v:=q.me V;unfold aC at v;rw [A,av] at v;obtain ⟨x2,p,g2,aa,M,_⟩:=v;subst N M;have m:=I.ptr_inv O;have p2:=H.ptr_inv p;have p3:(vs++cs).getD t undef=G.pv.getD t undef:=rfl;rw [p3,p2] at m;injection m with m
     injection m with m
     injection m with m
     rw [O,p,m]
    ·cases b2
   ·cases b1
 cases e with
 |normal=>exact key hq
 |ret=>exact key hq
 |_=>exact hq.elim
variable {σ:AS}
theorem zcc {cx:Cx}{fn:Func}{R:Ending->World->Prop}:∀ (d:List Nat) (a:Act) (w:World),StG cx γ σ a w->cx.E.rg=true->(∀ b,cx.Fr b->False)->cx.E.yl=none->a.defers=d.map (fun r=>{ target:=.collected r,args:=#[] })->d.Nodup ->
  (∀ r∈d,cx.w0.heap.size<=r/\r<w.heap.size/\¬own γ r/\w.heap[r]? = some (.deferred (some []))) ->
  (∀ w' q,StG cx γ σ q w'->q.tmps=a.tmps->∃ v,(results fn a.tmps).run cx.P w'=.ok v w'/\R (.returned v) w')->LeavesInM Fence.wide 0 cx.P fn a.tmps R a.defers .returning w
 |[],a,w,h,m,y,j,x,_,_,k=>by
  rw [x];obtain ⟨v,h1,z⟩:=k w a h rfl;exact ⟨v,h1,z⟩
 |r::d,a,w,h,m,y,j,x,u,n,k=>by
  obtain ⟨C,L,B,A⟩:=n r (aT ..);rw [x];refine ⟨by simp,Or.inl ⟨r,w.putObj r (.deferred none),rfl,run_takeDeferred A,?_⟩⟩;have c:=(nodup_cons.1 u);have g:∀ i∈d,cx.w0.heap.size<=i/\i < (w.putObj r (.deferred none)).heap.size/\¬own γ i/\(w.putObj r (.deferred none)).heap[i]? = some (.deferred (some [])):=fun i p=>by
   obtain ⟨H,G,F,D⟩:=n i (aN _ p);exact ⟨H,by rw [Cv];exact G,F,(Cj (b:=i) (r:=r) (by intro e;subst e;exact c.1 p)).trans D⟩
  have s:=h.putObj (o':=.deferred none) (ds:=d.map (fun r=>{ target:=.collected r,args:=#[] })) A rfl C B
   ⟨fun t=>absurd (t.symm.trans m) (by simp),⟨d,rfl,c.2,g⟩,h.defers.pin,fun l R I=>absurd (j.symm.trans I) (by simp),by rw [Cv];exact h.defers.sz⟩ (fun b J=>(y b J).elim)
  exact zcc d _ _ s m y j rfl c.2 g (fun w' q h1 z=>k w' q h1 (z.trans rfl))
theorem Con.walkM {t:Bool}(c:Code)(H:E.P.funcs[f]? = some fn)(g:fn.body=some c)(I:Ci E f)(D:aR args.length fn.ntmps=true)(i:t=false\/res.flat=true)
  (h:AW E fn.ntmps (EndA E fn res) [.code c] .normal (Es args)) (p:E.rg=true) (j:E.yl=none) (s:E.np=0):Con { E with rg:=false } t f args res:=by
 refine ⟨I,fun S w vs J=>callsIn_wide.1 (callsIn_of_wp_marks (F:=Fence.wide) (n:=0) H g trivial ?_)⟩;have L:WP (Cx.call E S w fn.ntmps) c (EndA E fn res) (Es args):=WP.mono (h.out (Cx.call E S w fn.ntmps) rfl rfl) fun e σ G=>by cases e<;>exact G
 refine wpIn_mono (L _ _ (Zy j s J (aE D))) (fun e a w' ⟨σ,q,γ,m⟩=>?_);have key:(∃ avs,retA E.tab σ fn.results.toList=some avs/\Sub (Tl σ (K4 avs)) res)->bodyPostM Fence.wide 0 E.P fn (fun e w'=>∃ v,e=.returned v/\BelE { E with rg:=false } w w'/\Rep w' (fun b=>(t=false/\S b)\/w.heap.size<=b) G0 res v) .ret a w':=by
  rintro ⟨avs,h1,l⟩;obtain ⟨y,B,A,z⟩:=m.defers.marks;refine zcc (cx:=Cx.call E S w fn.ntmps) y a w' m p (fun b g=>g.elim) j B A z (fun N O d M=>?_);obtain ⟨v,u,C⟩:=Wq d h1;rw [M] at u;refine ⟨v,u,v,rfl,⟨d.below,d.dr⟩,?_⟩;have x:=(zia (S':=fun b=>S b\/w.heap.size<=b) d (fun b g=>?_) C).sub l
  ·rcases i with i|i
   ·exact x.mono (aK _) (fun b g _=>⟨rfl,g.elim (fun h=>Or.inl ⟨i,h⟩) Or.inr⟩)
   ·exact x.flat i
  ·rcases g with g|g
   ·rcases g with ⟨g,_⟩|⟨g,_⟩
    ·exact Or.inl g.1
    ·exact Or.inr g.1
   ·exact Or.inr (d.ge b g).1.1
 cases e with
 |normal=>exact key (Zv q)
 |ret=>exact key (Zv q)
 |_=>exact q.elim
theorem zw6 {S:Nat->Prop}:∀ (ps:List Nat) (avs:List AV) (vs:List Value) (T:Array Value) (base:List (Nat×AV)),(∀ t,Rep w S γ (lkV base t) (T.getD t undef))->(∀ p∈ps,p<T.size)->avs.length=ps.length->vs.length=ps.length ->
  (∀ i (hi:i<avs.length),Rep w S γ avs[i] (vs.getD i undef))->∀ t,Rep w S γ (lkV ((ps.zip avs).foldl (fun tm x=>x::tm) base) t) (((ps.zip vs).foldl (fun t x=>t.setIfInBounds x.1 x.2) T).getD t undef)
 |[],_,_,T,base,d,_,_,_,_=>fun t=>d t
 |p::ps,[],_,T,base,_,_,h1,_,_=>by simp at h1
 |p::ps,av::avs,[],T,base,_,_,_,c,_=>by simp at c
 |p::ps,av::avs,v::vs,T,base,d,g,h1,c,l=>by
  simp only [zip_cons_cons,aY];refine zw6 ps avs vs _ _ (fun t=>?_) (fun q m=>by rw [aL];exact g q (aN _ m)) (by simpa using h1) (by simpa using c) (fun i hi=>by have:=l (i+1) (by simpa using hi);simpa using this);have a:=g p (aT ..);simp only [lkV];cases j:aJ p t with
  |true =>
   have:=aB j;subst this;have h:=l 0 (by simp);simp only [getElem_cons_zero,getD_cons_zero] at h;simpa [a] using h
  |false =>
   have b:p≠t:=Nat.ne_of_beq_eq_false j;have e:(T.setIfInBounds p v).getD t undef=T.getD t undef:=by
    rw [aA,aD b,<-aA]
   rw [e];exact d t
theorem zrt:∀ (l:List (Nat×Value)) (T:Array Value),(l.foldl (fun t x=>t.setIfInBounds x.1 x.2) T).size=T.size
 |[],T=>rfl
 |x::l,T=>by rw [aY,zrt l,aL]
theorem zlh {t:Nat}:∀ (l:List (Nat×Value)) (T:Array Value),(∀ x∈l,x.1≠t)->(l.foldl (fun t x=>t.setIfInBounds x.1 x.2) T).getD t undef=T.getD t undef
 |[],T,_=>rfl
 |x::l,T,h=>by
  rw [aY,zlh l _ (fun y a=>h y (aN _ a)),aA,aD (h x (aT ..)),<-aA]
def zw0 (ps:List Nat)(args ycaps:List AV)(me:List (Nat×Ent)):AS:=⟨(ps.zip args).foldl (fun tm x=>x::tm) (ycaps.zipIdx.map fun p=>(p.2,p.1)),me⟩
inductive BX (E:Env) (nt:Nat) (ycaps:List AV) (me:List (Nat×Ent)) (σ:AS) (me':List (Nat×Ent)):Prop
 |mk (τ:AS) (hl:LeX E nt σ τ) (hme:τ.me=me') (hb:boxB E.np ycaps τ me me' []=true)
def EndB (E:Env)(nt:Nat)(ycaps:List AV)(me me':List (Nat×Ent)):Exit->AS->Prop |.normal,σ=>BX E nt ycaps me σ me' |_,_=>False
theorem StG.putObjW {cx:Cx}{a:Act}(h:StG cx γ σ a w){r:Nat}{o o':Obj}(i:w.heap[r]? = some o)(A:o.isCells=false)(F:cx.w0.heap.size<=r)(n:¬own γ r)(v:a.defers=[])(j:cx.E.yl=none)(m:∀ es c,o≠.map es c:=by intro es c h;cases h):StG { cx with w1:=w.putObj r o' } γ σ a (w.putObj r o'):=by
 have s:=zy0 (k:=0) i A;have g:∀ es c,w.heap[r]? ≠ some (.map es c):=fun es c h=>by rw [i] at h;injection h with h;exact m es c h
 have p:∀ b,own γ b->b≠r:=fun b d e=>n (e▸d)
 refine ⟨fun t=>(h.tm t).putObj s g,fun id=>?_,h.inj,fun b d=>by rw [Cv];exact h.ge b d,h.below.trans ⟨rfl,rfl,rfl,by rw [Cv];exact aK _,fun b d=>Cj (by omega)⟩,h.size,
  ⟨fun _=>v,⟨[],v,.nil,fun r i=>by cases i⟩,h.defers.pin,fun l R B=>absurd (j.symm.trans B) (by simp),aK _⟩,fun b d=>by rw [Cv];exact h.gh b d,fun b d=>?_,h.dr⟩
 ·have:=h.me id;cases u:σ.find id with
  |none=>rw [u] at this;exact this
  |some e =>
   rw [u] at this;obtain ⟨x,q,C⟩:=this;exact ⟨x,q,C.putObj s g (fun b d=>p b ⟨id,x,q,d⟩)⟩
 ·obtain ⟨z,y,D⟩:=h.fr b d;exact ⟨z,by rw [Cv];exact y,rfl⟩
variable {nt:Nat}{ycaps:List AV}
theorem ConG.round {ps:Array Tmp}{assign body:Code}(V:E.rg=false)(q:E.yl=none)(ba:E.dr=false)(ax:ps.toList.all (fun p=>aR E.np p && bC p nt)=true)(A:args.length=ps.size)(bo:aR ycaps.length nt=true)
  (h:AW E nt (Cu (fun σ=>AW E nt (EndB E nt ycaps me me') [.code body] .normal σ) (fun _ _=>False)) [.code assign] .normal (zw0 ps.toList args ycaps me))
  (l D:Nat) (fn:FuncId) (T:Array Value) (hT:T.size=nt):ConG E.P (some (l,.loop (recR fn T ps assign body D))) (fun vs cs w R=>cs=T->CalY E.P l vs cs w R) args ycaps me (.bool true) me':=by
 intro cx γ w vs cs hP ao ar al am c ae av X bd;subst bd;have O:=ar _ rfl;obtain ⟨q0,q1,q2,q3⟩:=c.defers.yl l _ O;refine ⟨fn,_,assign,body,run_yield (P:=E.P) (args:=vs) q3 (by rw [ae,A]),roundIn_of_wpIn trivial ?_⟩;have ef:(ps.zip vs).foldl (fun (t:Array Value) (x:Tmp×Value)=>t.setIfInBounds x.1 x.2) cs=(ps.toList.zip vs.toList).foldl (fun t x=>t.setIfInBounds x.1 x.2) cs:=by
  rw [<-Array.foldl_toList,Array.toList_zip]
 obtain ⟨tm,J⟩:∃ tm,tm=(ps.toList.zip vs.toList).foldl (fun t x=>t.setIfInBounds x.1 x.2) cs:=⟨_,rfl⟩;have etm:(ps.zip vs).foldl (fun (t:Array Value) (x:Tmp×Value)=>t.setIfInBounds x.1 x.2) cs=tm:=by rw [ef,J]
 show assign.wpIn (Fence.wide.inRound l) 0 E.P _ { tmps:=(ps.zip vs).foldl (fun (t:Array Value) (x:Tmp×Value)=>t.setIfInBounds x.1 x.2) cs,defers:=[] } w;rw [etm];have Q:∀ p∈ps.toList,E.np<=p/\p<nt:=fun p hp=>by
  have:=aQ.1 ax p hp;simpa using this
 let cxa:Cx:=⟨E,cx.S0,cx.w0,nt,fun b=>b<w.heap.size/\¬own γ b,w,some l,cs,fun h=>absurd (V.symm.trans h) (by simp)⟩;have aw:StG cxa γ (zw0 ps.toList args ycaps me) { tmps:=tm,defers:=[] } w:=by
  refine ⟨fun t=>?_,c.me,c.inj,c.ge,c.below,by rw [J];exact (zrt _ _).trans hT,⟨fun _=>rfl,⟨[],rfl,.nil,fun r hr=>by cases hr⟩,fun t s=>?_,fun l R hl=>absurd (q.symm.trans hl) (by simp),aK _⟩,c.gh,fun b Z=>⟨Z.2,Z.1,rfl⟩,fun hd=>absurd (ba.symm.trans hd) (by simp)⟩
  ·rw [J];refine zw6 ps.toList args vs.toList cs _ (fun t=>?_) (fun p hp=>by rw [hT];exact (Q p hp).2) (by simpa using A) (by simp [ae,A]) (fun i hi=>?_) t
   ·rw [zj2];by_cases s:0<=t/\t<0+ycaps.length
    ·rw [dif_pos s];exact X t (by omega)
    ·rw [dif_neg s];exact .any _
   ·have:=av i hi
    rwa [aA,<-Array.getElem?_toList,<-getD_eq_getElem?_getD] at this
  ·show tm.getD t undef=cs.getD t undef;rw [J];exact zlh _ _ (fun x hx e=>by have:=(Q x.1 (of_mem_zip hx).1).1;have bn:t<E.np:=s;omega)
 have hA:WP cxa assign (Cu (fun σ=>AW E nt (EndB E nt ycaps me me') [.code body] .normal σ) (fun _ _=>False)) (zw0 ps.toList args ycaps me):=WP.mono (h.out cxa rfl rfl) fun e σ hk=>by cases e<;>exact hk
 refine wpIn_mono (F:=Fence.wide.inRound l) (hA _ _ ⟨γ,aw⟩) (fun e a1 w1 ⟨ab,ak,ah⟩=>?_);cases e with
 |normal =>
  obtain ⟨aq,y⟩:=ah;obtain ⟨k1,k2,k3⟩:=y.fr l ⟨q1,q2⟩;have k4:w1.heap[l]? = some (.loop (recR fn cs ps assign body D)):=k3.trans q3;refine ⟨_,run_beginRound (P:=E.P) k4 rfl,?_⟩;have ai:=y.putObjW (o':=.loop { recR fn cs ps assign body D with state:=.busy }) k4 rfl q0 k1 (y.defers.d0 V) q;generalize U:w1.putObj l (.loop { recR fn cs ps assign body D with state:=.busy })=S at ai ⊢;have hB:WP { cxa with w1:=S } body (EndB E nt ycaps me me') ab:=WP.mono ((show AW E nt (EndB E nt ycaps me me') [.code body] .normal ab from ak).out { cxa with w1:=S } rfl rfl) fun e σ hk=>by cases e<;>exact hk
  refine wpIn_mono (F:=Fence.wide.inRound l) (hB _ _ ⟨aq,ai⟩) (fun M a2 B ⟨bg,aj,ag⟩=>?_);cases M with
  |normal =>
   obtain ⟨τ,hl,z,ap⟩:=aj;obtain ⟨ac,a⟩:=hl { cxa with w1:=S } rfl rfl a2 B ag;have bf:S.heap[l]? = some (.loop { recR fn cs ps assign body D with state:=.busy }):=by rw [<-U];exact World.putObj_heap_same k2
   obtain ⟨j1,j2,j3⟩:=a.fr l ⟨q1,q2⟩;have j4:B.heap[l]? = some (.loop { recR fn cs ps assign body D with state:=.busy }):=j3.trans bf;refine ⟨_,_,run_endRound (P:=E.P) none j4,?_⟩;have j:=a.putObjW (o':=.loop (recR fn cs ps assign body D)) j4 rfl q0 j1 (a.defers.d0 V) q;show ∃ u γ',_/\_;have au:B.putObj l (.loop { { recR fn cs ps assign body D with state:=.busy } with state:=if (none:Option Code).isNone=true then LoopState.ready else LoopState.done,pending:=none })=B.putObj l (.loop (recR fn cs ps assign body D)):=rfl;rw [au];have W:(B.putObj l (.loop (recR fn cs ps assign body D))).heap[l]? = some (.loop (recR fn cs ps assign body D)):=World.putObj_heap_same j2;generalize ad:B.putObj l (.loop (recR fn cs ps assign body D))=w4 at j W ⊢;have z1:w.heap.size<=w1.heap.size:=y.defers.sz;have z2:w1.heap.size=S.heap.size:=by rw [<-U,Cv]
   have z3:S.heap.size<=B.heap.size:=a.defers.sz;have z4:B.heap.size=w4.heap.size:=by rw [<-ad,Cv]
   have an:∀ b,¬own γ b->b<w.heap.size->w4.heap[b]? = w.heap[b]? /\ ¬own ac b:=fun b Z m=>by
    obtain ⟨n,p2,p3⟩:=y.fr b ⟨m,Z⟩;obtain ⟨C,N,r3⟩:=a.fr b ⟨m,Z⟩;refine ⟨?_,C⟩;by_cases Y:b=l
    ·subst Y;exact W.trans q3.symm
    ·have e1:w4.heap[b]? = B.heap[b]? := by rw [<-ad];exact Cj Y
     have M:S.heap[b]? = w1.heap[b]? := by rw [<-U];exact Cj Y
     exact e1.trans (r3.trans (M.trans p3))
   refine ⟨.bool true,ac,rfl,⟨fun t=>.any _,fun i=>by have:=j.me i;unfold aC at this ⊢;rw [<-z];exact this,j.inj,j.ge,j.below,al.symm,⟨fun _=>rfl,⟨[],rfl,.nil,fun r hr=>by cases hr⟩,fun t s=>by rw [am] at s;omega,fun l' R' L=>?_,bB c.defers.sz (by omega)⟩,j.gh,fun b Z=>?_,fun hd=>absurd (ao.symm.trans hd) (by simp)⟩,.bool _,by omega,fun i v=>?_,an⟩
   ·rw [O] at L;injection L with L
    injection L with e1 M
    subst e1 M;exact ⟨q0,by omega,j1,W⟩
   ·obtain ⟨n,p2,p3⟩:=c.fr b Z;obtain ⟨C,N⟩:=an b n p2;exact ⟨N,by omega,C.trans p3⟩
   ·unfold Hs at v;split at v;rotate_left
    ·rename_i ty sz xs e hi he;obtain ⟨t,bl,bm,bh,s,e1,M,rfl⟩:=zu2 ap hi he;obtain ⟨m,aa⟩:=List.getElem?_eq_some_iff.1 e1;have C:=X t m;rw [aa] at C;have N:=a.tm t;rw [M,a.defers.pin t s] at N;have H:=c.me i;unfold aC at H;rw [hi] at H;obtain ⟨x,hx,H⟩:=H;have G:=a.me i;unfold aC at G;rw [z,he] at G;obtain ⟨x2,I,G⟩:=G;exact zru C N hx I H G
    ·cases v
    rename_i ty es hi;have d:=aQ.1 ap (i,.box ty es) (Tg hi);have d:=(aV _ _).mp d;rcases d with d|d
    ·cases d
    obtain ⟨t,s,af⟩:=aP.1 d;rw [aZ] at s;rw [aM] at af;obtain ⟨b1,b2⟩:=af;split at b1
    ·rename_i k hk;have e1:k=i:=aB b1;subst e1;split at b2
     ·rename_i k2 bk bp az ay;have M:k2=k:=aB b2;subst M;obtain ⟨m,aa⟩:=List.getElem?_eq_some_iff.1 hk;have C:=X t m;rw [aa] at C;have N:=a.tm t;rw [az,a.defers.pin t s] at N;have H:=c.me k2;unfold aC at H;rw [hi] at H;obtain ⟨x,hx,g,bj,bc,_⟩:=H;have G:=a.me k2;unfold aC at G;rw [z,ay] at G;obtain ⟨x2,I,g2,bi,bb,_⟩:=G;subst bc bb;have n:=C.ptr_inv hx;have p2:cs.getD t undef=_:=N.ptr_inv I;rw [p2] at n;injection n with n
      injection n with n
      injection n with n
      rw [hx,I,n]
     ·cases b2
    ·cases b1
  |_=>exact aj.elim
 |_=>exact ak.elim
abbrev fd (n:Nat):Nat×Nat×Option Bool:=(n,1,some false)
def tab:List (Nat×TyI):=[(3,⟨1,8,.int .i64 0,.int .i64⟩),(4,⟨1,1,.bool false,.bool⟩),(5,⟨1,1,.int .u8 0,.int .u8⟩),(9,⟨1,16,.string ByteArray.empty,.str⟩),(22,⟨1,24,.slice none 0 0,.slc 105 1 24⟩),(23,⟨1,24,.slice none 0 0,.slc 115 17 240⟩),(25,⟨4,64,.agg #[.int .i64 0,.int .i64 0,.slice none 0 0,.slice none 0 0],.strct [fd 0,fd 1,fd 2,fd 3]⟩),(26,⟨1,24,.slice none 0 0,.slc 71 5 56⟩),(29,⟨1,24,.slice none 0 0,.slc 57 1 24⟩),(31,⟨1,24,.agg #[.slice none 0 0],.strct [fd 0]⟩),(32,⟨1,8,.int .i64 0,.int .i64⟩),(42,⟨1,24,.slice none 0 0,.slc 76 4 32⟩),(44,⟨1,24,.agg #[.slice none 0 0],.strct [fd 0]⟩),(49,⟨1,8,.nilFunc,.other⟩),(50,⟨1,24,.slice none 0 0,.slc 44 1 24⟩),(57,⟨1,24,.slice none 0 0,.slc 60 3 56⟩),(58,⟨1,24,.slice none 0 0,.slc 102 2 16⟩),(60,⟨3,56,.agg #[.int .i64 0,.slice none 0 0,.slice none 0 0],.strct [fd 0,fd 1,fd 2]⟩),(62,⟨1,8,.nilFunc,.other⟩),(63,⟨1,8,.nilFunc,.other⟩),(69,⟨1,24,.slice none 0 0,.slc 109 3 32⟩),(71,⟨5,56,.agg #[.int .i64 0,.int .i64 0,.int .i64 0,.int .i64 0,.slice none 0 0],.strct [fd 0,fd 1,fd 2,fd 3,fd 4]⟩),(74,⟨3,24,.agg #[.int .i64 0,.int .i64 0,.int .i64 0],.strct [fd 0,fd 1,fd 2]⟩),(76,⟨4,32,.agg #[.int .i64 0,.int .i64 0,.int .i64 0,.int .i64 0],.strct [fd 0,(1,3,some true)]⟩),(81,⟨1,8,.nilFunc,.other⟩),(86,⟨1,8,.nilFunc,.other⟩),(88,⟨1,8,.nilFunc,.other⟩),(95,⟨1,8,.nilFunc,.other⟩),(97,⟨1,24,.slice none 0 0,.slc 150 1 24⟩),(102,⟨2,16,.agg #[.int .i64 0,.int .i64 0],.strct [fd 0,fd 1]⟩),(103,⟨1,24,.slice none 0 0,.slc 154 11 112⟩),(105,⟨1,24,.agg #[.slice none 0 0],.strct [fd 0]⟩),(107,⟨1,24,.slice none 0 0,.slc 111 8 88⟩),(109,⟨3,32,.agg #[.int .i64 0,.int .i64 0,.string ByteArray.empty],.strct [fd 0,fd 1,fd 2]⟩),(111,⟨8,88,.agg #[.int .i64 0,.slice none 0 0,.int .i64 0,.int .i64 0,.int .i64 0,.int .i64 0,.int .i64 0,.string ByteArray.empty],.strct [fd 0,fd 1,fd 2,fd 3,fd 4,(5,3,some true)]⟩),(112,⟨1,24,.slice none 0 0,.slc 3 1 8⟩),(113,⟨1,24,.slice none 0 0,.slc 209 2 16⟩),(115,⟨17,240,.agg #[.int .i64 0,.int .i64 0,.int .i64 0,.int .i64 0,.int .i64 0,.slice none 0 0,.int .i64 0,.int .i64 0,.int .i64 0,.int .i64 0,.int .i64 0,.string ByteArray.empty,.slice none 0 0,.slice none 0 0,.slice none 0 0,.slice none 0 0,.slice none 0 0],.strct [fd 0,fd 1,fd 2,fd 3,(4,8,some true),fd 12,fd 13,fd 14,fd 15,fd 16]⟩),(130,⟨1,24,.slice none 0 0,.slc 136 1 8⟩),(133,⟨1,8,.nilFunc,.other⟩),(136,⟨1,8,.map none,.map 3 4⟩),(137,⟨1,8,.pointer none,.other⟩),(150,⟨1,24,.slice none 0 0,.slc 4 1 1⟩),(154,⟨11,112,.agg #[.int .i64 0,.int .i64 0,.int .i64 0,.int .i64 0,.slice none 0 0,.int .i64 0,.int .i64 0,.int .i64 0,.int .i64 0,.int .i64 0,.string ByteArray.empty],.strct [fd 0,fd 1,fd 2,(3,8,some true)]⟩),(166,⟨1,8,.map none,.map 169 4⟩),(169,⟨2,16,.agg #[.int .i64 0,.int .i64 0],.strct [fd 0,fd 1]⟩),(175,⟨1,24,.slice none 0 0,.slc 112 1 24⟩),(177,⟨1,8,.nilFunc,.other⟩),(178,⟨1,8,.map none,.map 74 71⟩),(180,⟨5,72,.agg #[.int .i64 0,.int .i64 0,.slice none 0 0,.slice none 0 0,.map none],.strct [(0,4,some true),fd 4]⟩),(184,⟨1,8,.nilFunc,.other⟩),(195,⟨1,8,.nilFunc,.other⟩),(203,⟨1,8,.nilFunc,.other⟩),(204,⟨1,8,.nilFunc,.other⟩),(209,⟨2,16,.agg #[.int .i64 0,.int .i64 0],.strct [fd 0,fd 1]⟩),(210,⟨1,8,.nilFunc,.other⟩),(212,⟨16,16,.agg #[.bool false,.bool false,.bool false,.bool false,.bool false,.bool false,.bool false,.bool false,.bool false,.bool false,.bool false,.bool false,.bool false,.bool false,.bool false,.bool false],.arr 16 4 1 (some false)⟩),(217,⟨1,8,.nilFunc,.other⟩),(218,⟨1,24,.slice none 0 0,.slc 26 1 24⟩),(220,⟨1,24,.agg #[.slice none 0 0],.strct [fd 0]⟩),(226,⟨1,8,.nilFunc,.other⟩),(236,⟨1,8,.int .u64 0,.int .u64⟩),(238,⟨1,24,.slice none 0 0,.slc 74 3 24⟩),(251,⟨1,8,.nilFunc,.other⟩),(257,⟨1,8,.int .i64 0,.int .i64⟩),(272,⟨1,8,.nilFunc,.other⟩),(280,⟨1,8,.int .u64 0,.int .u64⟩),(284,⟨1,8,.pointer none,.other⟩),(290,⟨1,8,.map none,.map 3 303⟩),(293,⟨8,96,.agg #[.slice none 0 0,.int .i64 0,.int .i64 0,.int .i64 0,.int .i64 0,.int .i64 0,.slice none 0 0,.map none],.strct [(0,1,some true),fd 1,(2,5,some true),fd 7]⟩),(302,⟨1,8,.nilFunc,.other⟩),(303,⟨1,8,.nilFunc,.other⟩),(313,⟨5,48,.agg #[.int .i64 0,.int .i64 0,.int .i64 0,.int .i64 0,.string ByteArray.empty],.strct [fd 0,fd 1,(2,3,some true)]⟩),(325,⟨1,8,.nilFunc,.other⟩),(328,⟨1,8,.nilFunc,.other⟩),(329,⟨6,48,.agg #[.nilFunc,.nilFunc,.nilFunc,.nilFunc,.nilFunc,.nilFunc],.arr 6 328 1 (some false)⟩)]
def y2f (P:Program):List (Nat×TyI)->Prop |[]=>True |(t,i)::r=>TyOk P t i/\y2f P r
theorem y2f.get {P:Program}:∀ {l:List (Nat×TyI)},y2f P l->∀ T i,lkT l T=some i->TyOk P T i
 |[],_,T,i,h=>by simp [lkT] at h
 |(t,j)::r,a,T,i,h=>by
  simp only [lkT] at h;split at h
  ·rename_i b;have:=aB b;subst this;injection h with h
   subst h;exact a.1
  ·exact a.2.get T i h
set_option maxRecDepth 100000 in
theorem y3o:y2f Tryz.prog tab:=by repeat' first|exact trivial|refine ⟨⟨by kernel_rfl,by kernel_rfl,by kernel_rfl⟩,?_⟩
theorem Dd (T:Nat)(i:TyI)(h:lkT tab T=some i):TyOk Tryz.prog T i:=y3o.get T i h
noncomputable def E0:Env:=⟨Tryz.prog,tab,fun T i h=>y3o.get T i h,by kernel_rfl,false,false,none,0,false⟩
noncomputable def E0d:Env:=⟨Tryz.prog,tab,fun T i h=>y3o.get T i h,by kernel_rfl,true,false,none,0,false⟩
theorem B0 (b : E0.P.funcs[f]? = some fn)(a : (fn.name == "runtime.NumGoroutine") = false)(c : fn.body.isNone = false) : Ci E0 f := fun args w => by
 unfold callFunc;simp only [Sem.run_bind,run_program,Result.andThen_ok,b,a,c,aG,if_false,Sem.run_pure]
noncomputable def E0p (np:Nat):Env:={ E0 with np:=np }
noncomputable def E0y (l:Nat)(R:Obj)(np:Nat):Env:={ E0 with np:=np,yl:=some (l,R) }
noncomputable def E0r:Env:={ E0 with rg:=true }
theorem ConG.up {P:Program}{yl:Option (Nat×Obj)}{C:CalT}{caps:List AV}(h:ConG P none C args caps me res me'):ConG P yl C args caps me res me' :=
 fun cx γ w vs cs h1 b _=>h cx γ w vs cs h1 b (fun x a=>by cases a)
variable {avs:List AV}
theorem Con.env {E':Env}{c:Bool}(b:E'.P=E.P)(d:E'.dr=false)(h:Con E c f avs res):Con E' c f avs res:=by
 refine ⟨by have:=h.1;unfold Ci at *;rw [b];exact this,fun S w vs g=>?_⟩;have:=h.2 S w vs g;rw [b];exact this.mono fun e w' ⟨v,h1,⟨j,_⟩,i⟩=>⟨v,h1,⟨j,fun a=>absurd (d.symm.trans a) (by simp)⟩,i⟩
theorem ConT.env {E':Env}(a:E'.P=E.P)(h:ConT E f avs ty sz xs res):ConT E' f avs ty sz xs res:=by
 refine ⟨by have:=h.1;unfold Ci at *;rw [a];exact this,h.2.1,fun S w vs b=>?_⟩;rw [a];exact h.2.2 S w vs b
section
variable {α β:Type}
variable {k:α->Option β}{r:β}{find:Nat->Option Ent}{KR:AV->List Nat->List (Nat×Ent)->Prop}
theorem Af.oM {o:Option α}{K:AV->Prop}{R:Nat->Nat->List AV->AV->Prop}(h:bnd o k=some r)
  (ps ps':List (Nat×Nat)) (cargs:List AV) (me:List (Nat×Ent)) (meF:α->List (Nat×Ent)) (resF:α->AV) (dead:List Nat) (l:∀ a,o=some a->ConG E.P E.yl (CalF E.P f 0) cargs [] me (resF a) (meF a)) (j:Ci E f) (b:E.dr=false) (c:aW (rho ps) cargs=avs) (e:aX (me.map (·.1)) cargs=true) (d:LeF find (rho ps) (me.map (·.1)) me)
  (i:∀ a,D1 find (rho ps) (rho ps') me (meF a) (resF a) dead) (g:∀ a,k a=some r->KR ((resF a).ren (rho ps')) (idsG (rho ps) (rho ps') me (meF a)) (wrG (rho ps') (meF a) dead)):Af E f avs K R find KR:=by
 cases o with
 |none=>unfold bnd at h;cases h
 |some a=>exact .memo ps ps' cargs me (meF a) (resF a) dead j b (l a rfl) c e d (i a) (g a (by unfold bnd at h;exact h))
theorem B9.oM {o:Option α}{raw:List AV}{K:AV->Prop}{dst:Option Nat}(h:bnd o k=some r)
  (ps ps':List (Nat×Nat)) (cargs:List AV) (me:List (Nat×Ent)) (meF:α->List (Nat×Ent)) (resF:α->AV) (dead:List Nat) (l:∀ a,o=some a->ConG E.P E.yl (CalF E.P f 0) cargs [] me (resF a) (meF a)) (j:Ci E f) (b:E.dr=false) (c:aW (rho ps) cargs=raw) (e:aX (me.map (·.1)) cargs=true) (d:LeF find (rho ps) (me.map (·.1)) me)
  (i:∀ a,D1 find (rho ps) (rho ps') me (meF a) (resF a) dead) (g:∀ a,k a=some r->KR ((resF a).ren (rho ps')) (idsG (rho ps) (rho ps') me (meF a)) (wrG (rho ps') (meF a) dead)):B9 E f avs K raw find dst KR:=by
 cases o with
 |none=>unfold bnd at h;cases h
 |some a=>exact .memo ps ps' cargs me (meF a) (resF a) dead j b (l a rfl) c e d (i a) (g a (by unfold bnd at h;exact h))
theorem YldX.oM {o:Option α}{l:Nat}{T:Array Value}{raw c:List AV}(h:bnd o k=some r)
  (ps ps':List (Nat×Nat)) (cargs ccaps:List AV) (me:List (Nat×Ent)) (meF:α->List (Nat×Ent)) (resF:α->AV) (dead:List Nat) (p:∀ a,o=some a->ConG E.P E.yl (fun vs cs w R=>cs=T->CalY E.P l vs cs w R) cargs ccaps me (resF a) (meF a)) (b:E.dr=false) (e:aW (rho ps) cargs=raw) (d:aW (rho ps) ccaps=c) (j:aX (me.map (·.1)) cargs=true) (i:aX (me.map (·.1)) ccaps=true) (g:LeF find (rho ps) (me.map (·.1)) me)
  (n:∀ a,D1 find (rho ps) (rho ps') me (meF a) (resF a) dead) (m:∀ a,k a=some r->KR ((resF a).ren (rho ps')) (idsG (rho ps) (rho ps') me (meF a)) (wrG (rho ps') (meF a) dead)):YldX E l T raw c find KR:=by
 cases o with
 |none=>unfold bnd at h;cases h
 |some a=>exact .mk ps ps' cargs ccaps me (meF a) (resF a) dead b (p a rfl) e d j i g (n a) (m a (by unfold bnd at h;exact h))
theorem RngX.oM {o:Option α}{gf:Nat}{e:List AV}{ps:Array Tmp}{a b:Code}{K:AS->Prop}(h:bnd o k=some r)
  (pp c:List (Nat×Nat)) (ycaps ccaps:List AV) (me:List (Nat×Ent)) (meF:α->List (Nat×Ent)) (dead:List Nat)
  (d:∀ x,o=some x->∀ (l D:Nat) (fn:FuncId) (T:Array Value),T.size=nt->ConG E.P (some (l,.loop (recR fn T ps a b D))) (CalF E.P gf 0) (.yld l T ycaps::ccaps) [] me (.tup []) (meF x))
  (u:Ci E gf) (j:E.rg=true) (i:E.dr=false) (g:E.yl=none) (m:aW (rho pp) ccaps=e) (p:aX (me.map (·.1)) ccaps=true) (s:LeY σ (rho pp) (me.map (·.1)) 0 ycaps) (n:LeF σ.find (rho pp) (me.map (·.1)) me) (t:∀ x,D1 σ.find (rho pp) (rho c) me (meF x) (.tup []) dead)
  (q:∀ x,k x=some r->K (σ.upd none (.tup []) (wrG (rho c) (meF x) dead))):RngX E nt (.fn gf e) ps a b σ K:=by
 cases o with
 |none=>unfold bnd at h;cases h
 |some x=>exact .mk gf e rfl u j i g pp c ycaps ccaps me (meF x) dead m p s n (t x) (d x rfl) (q x (by unfold bnd at h;exact h))
variable {meF:α->List (Nat×Ent)}
theorem GX.o {x r:α}{res:α->AV}(h:some x=some r)(k:GX E nt fn args me σ (res x) (meF x)):GX E nt fn args me σ (res r) (meF r):=by
 injection h with h;subst h;exact k
theorem BX.o {x r:α}(h:some x=some r)(k:BX E nt ycaps me σ (meF x)):BX E nt ycaps me σ (meF r):=by
 injection h with h;subst h;exact k
end
section
variable {β:Type} {E:Env} {nt:Nat} {o:Oper} {σ:AS} {K:OpK}
variable {α:Type}
def bld (l:List α)(k:List α->Option β):Option β:=k l
variable {k:List α->Option β}
theorem OpX.bld {l:List α}{r:β}(enc:α->AV){T n d e esz eb:Nat}{ps:Array (Nat×Operand)}{i ie:TyI}(H:bld l k=some r)(y:o.op=.buildSlice T n ps)(b:o.dst=some d)(F:dokN E nt o.dst=true)(G:lkT E.tab T=some i)(v:i.shape=.slc e esz eb)(D:lkT E.tab e=some ie)(u:aJ esz 0=false)(z:aR (n*esz) 16777216=true)
  (c:D0 ie.zero.cells.toList=true) (g:bC 0 ie.zero.cells.size=true) (h:Ff σ ps=true) (q:AV.closedL (l.map enc)=true) (a:(l.map enc).length=n) (A:(l.map enc).all (fun x=>aJ x.cells.length esz)=true)
  (C:D9 (fun j=>some (j*esz,esz)) (replicate (n*esz) .any) (Cr σ ps)=some ((l.map enc).flatMap AV.cells)) (p:σ.find d=none) (B:∀ t,k t=some r->K (.row d) (d::Fg (Cr σ ps)) [(d,.row e esz (t.map enc))]):OpX E nt o σ K :=
 .mk _ _ _ (fun cx s m=>z6w y b (Am F s m) (by rw [s];exact G) v (by rw [s];exact D) (nbne u) z (Fb c) g h q a A C p) (B l H)
def bldS (l:List α)(k:List α->Option β):Option β:=k l
theorem OpX.bldS {l:List α}{r:β}(enc:α->AV){T n e esz eb:Nat}{ps:Array (Nat×Operand)}{i ie:TyI}(D:Proofs.YtidhlpjgifoneaaGreat.bldS l k=some r)(t:o.op=.buildSlice T n ps)(B:dokN E nt o.dst=true)(C:lkT E.tab T=some i)(s:i.shape=.slc e esz eb)(A:lkT E.tab e=some ie)(q:aJ esz 0=false)(u:aR (n*esz) 16777216=true)
  (b:D0 ie.zero.cells.toList=true) (c:bC 0 ie.zero.cells.size=true) (d:Ff σ ps=true) (h:AV.closedL (l.map enc)=true) (a:(l.map enc).length=n) (v:(l.map enc).all (fun x=>aJ x.cells.length esz)=true)
  (z:D9 (fun j=>some (j*esz,esz)) (replicate (n*esz) .any) (Cr σ ps)=some ((l.map enc).flatMap AV.cells)) (y:∀ p,k p=some r->K (.sl esz (p.map enc)) (Fg (Cr σ ps)) []):OpX E nt o σ K :=
 .mk _ _ _ (fun cx m g=>zc6 t (Am B m g) (by rw [m];exact C) s (by rw [m];exact A) (nbne q) u (Fb b) c d h a v z) (y l D)
end
end Go.Proofs.YtidhlpjgifoneaaGreat
