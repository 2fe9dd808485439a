/- Maps. -/
import Derived.Test.YtidhlpjgifoneaaGreatK12
import Derived.Test.YtidhlpjgifoneaaGreatProg
import Derived.KernelRfl
set_option linter.unusedVariables false
set_option linter.unusedSimpArgs false
namespace Go.Proofs.YtidhlpjgifoneaaGreat
open Go.RowKit List
theorem yij {kd:IntKind}{a:AV}(h:isI kd a=true):a=.int kd (intN a):=by
 cases a<;>simp [isI] at h
 subst h;rfl
def qK (n:Int)(p:AV×AV):Bool:=decide (n=intN p.1)
theorem zu7 {kd:IntKind}{n:Int}:∀ (ps:List (AV×AV)) (i:Nat),(∀ p∈ps,isI kd p.1=true)->zfz (.int kd n) (ps.map (·.1)) i=some ((ps.findIdx? (qK n)).map (· + i))
 |[],i,_=>rfl
 |(a,v)::r,i,h=>by
  have ha:=yij (h (a,v) (by simp))
  have ih:=zu7 (n:=n) r (i+1) (fun p hp=>h p (by simp [hp]))
  have e:eqK (.int kd n) a=some (decide (n=intN a)):=by
   simp only at ha
   rw [ha]
   simp [eqK,eq1,show ∀ m,intN (.int kd m)=m from fun _=>rfl]
  simp only [map_cons,zfz,e]
  by_cases hn:n=intN a
  ·rw [decide_eq_true hn]
   simp [findIdx?_cons,qK,hn]
  ·rw [decide_eq_false hn]
   simp only [ih,findIdx?_cons,qK,decide_eq_false hn]
   simp only [Bool.false_eq_true,if_false,Option.map_map]
   congr 1
   have e2:(fun p:AV×AV=>decide (n=intN p.1))=qK n:=rfl
   try rw [e2]
   cases findIdx? (qK n) r with
   |none=>rfl
   |some j=>simp;omega
theorem y1x (z:AV)(q:AV×AV->Bool)(ps:List (AV×AV)):ztw z ps (ps.findIdx? q)=((ps.find? q).map (·.2)).getD z:=by
 induction ps with
 |nil=>rfl
 |cons p r ih =>
  rw [findIdx?_cons,find?_cons]
  cases hq:q p with
  |true=>rfl
  |false =>
   simp only [Bool.false_eq_true,if_false]
   rw [<-ih]
   cases findIdx? q r<;>rfl
variable {ps0 ps:List (AV×AV)}
theorem y7q {n:Int}(hp:ps0.Perm ps)(hd:(ps.map fun p=>intN p.1).Nodup):ps0.find? (qK n)=ps.find? (qK n):=by
 have uniq:∀ p∈ps,∀ p'∈ps,qK n p=true->qK n p'=true->p=p':=fun p h p' h' q q'=>by
  obtain ⟨i,hi,rfl⟩:=mem_iff_getElem.1 h
  obtain ⟨j,hj,rfl⟩:=mem_iff_getElem.1 h'
  have e:intN ps[i].1=intN ps[j].1:=by
   simp only [qK,decide_eq_true_eq] at q q'
   rw [<-q,<-q']
  have:i=j:=(getElem_inj (h₀:=by simpa using hi) (h₁:=by simpa using hj) hd).1 (by simpa using e)
  subst this
  rfl
 cases h:ps.find? (qK n) with
 |none =>
  rw [find?_eq_none] at h ⊢
  exact fun p hm=>h p (hp.mem_iff.1 hm)
 |some p =>
  have h1:=mem_of_find?_eq_some h
  have h2:=find?_some h
  cases h0:ps0.find? (qK n) with
  |none=>rw [find?_eq_none] at h0;exact absurd h2 (h0 p (hp.mem_iff.2 h1))
  |some p'=>rw [uniq p' (hp.mem_iff.1 (mem_of_find?_eq_some h0)) p h1 (find?_some h0) h2]
theorem y58.mem (h:y58 ps0 ps){p:AV×AV}:p∈ps0 ↔ p∈ps:=by
 rcases h with rfl|⟨h,_⟩
 ·exact Iff.rfl
 ·exact h.mem_iff
theorem yp0 {k:AV}{kd:IntKind}{r:Option Nat}(hk:isI kd k=true)(h:∀ p∈ps,isI kd p.1=true)(hd:(ps.map fun p=>intN p.1).Nodup)(hp:ps0.Perm ps)(hf:zfz k (ps.map (·.1)) 0=some r) :
  ∃ r0,zfz k (ps0.map (·.1)) 0=some r0/\r0.isSome=r.isSome/\∀ z,ztw z ps0 r0=ztw z ps r:=by
 have e:=yij hk
 rw [e,zu7 ps 0 h] at hf
 injection hf with hf
 have e1:∀ o:Option Nat,o.map (· + 0)=o:=fun o=>by cases o<;>rfl
 rw [e1] at hf
 refine ⟨ps0.findIdx? (qK (intN k)),?_,?_,fun z=>?_⟩
 ·rw [e,zu7 ps0 0 (fun p hm=>h p (hp.mem_iff.1 hm)),e1];simp [intN]
 ·rw [<-hf]
  have i1:∀ l:List (AV×AV),(l.findIdx? (qK (intN k))).isSome=(l.find? (qK (intN k))).isSome:=fun l=>by
   rw [findIdx?_isSome,Bool.eq_iff_iff,find?_isSome,any_eq_true]
  rw [i1,i1,y7q hp hd]
 ·rw [y1x,<-hf,y1x,y7q hp hd]
theorem zyx {k:AV}{r:Option Nat}(hp:y58 ps0 ps)(hf:zfz k (ps.map (·.1)) 0=some r):∃ r0,zfz k (ps0.map (·.1)) 0=some r0/\r0.isSome=r.isSome/\∀ z,ztw z ps0 r0=ztw z ps r:=by
 rcases hp with rfl|⟨hp,kd,h1,h2⟩
 ·exact ⟨r,hf,rfl,fun _=>rfl⟩
 ·cases ps with
  |nil=>rw [perm_nil.1 hp];exact ⟨r,hf,rfl,fun _=>rfl⟩
  |cons p t =>
   refine yp0 (kd:=kd) ?_ h1 h2 hp hf
   have hi:=yij (h1 p (by simp))
   simp only [map_cons,zfz] at hf
   rw [hi] at hf
   cases k with
   |int kd' n =>
    simp only [eqK,eq1] at hf
    by_cases hk:kd'=kd
    ·simp [isI,hk]
    ·rw [decide_eq_false hk] at hf;cases hf
   |_=>simp [eqK,eq1] at hf
def yc3 (args:List AV)(me:List (Nat×Ent)):AS:=⟨args.zipIdx.map fun p=>(p.2,p.1),me⟩
def boxB (np:Nat)(args:List AV)(τ:AS)(me me':List (Nat×Ent))(yk:List Nat):Bool:=me.all fun x=>match x.2 with
 |.box _ _=>memB x.1 yk || (range np).any fun t=>(match args[t]? with|some (.ptr k 0)=>Nat.beq k x.1|_=>false) && (match τ.get t,lkE me' x.1 with|.ptr k 0,some (.box _ _)=>Nat.beq k x.1|_,_=>false)
 |.row _ _ _=>match lkE me' x.1 with
  |none=>true
  |some (.row _ _ _)=>(range np).any fun t=>(match args[t]? with|some (.row k)=>Nat.beq k x.1|_=>false) && (match τ.get t with|.row k=>Nat.beq k x.1|_=>false)
  |some _=>false
 |_=>true
variable {args:List AV}{me me':List (Nat×Ent)}{ty sz:Nat}{xs:List AV}
theorem yef {np:Nat}{τ:AS}{yk:List Nat}(h:boxB np args τ me me' yk=true){i:Nat}(hi:lkE me i=some (.row ty sz xs)){e:Ent}(he:lkE me' i=some e) :
  ∃ t ty' sz' xs',t<np/\args[t]? = some (.row i)/\τ.get t=.row i/\e=.row ty' sz' xs':=by
 have hb:=all_eq_true.1 h (i,.row ty sz xs) (y1y hi)
 simp only [he] at hb
 split at hb
 ·rename_i h0;cases h0
 ·rename_i ty' sz' xs' h0
  injection h0 with h0
  obtain ⟨t,ht,htb⟩:=any_eq_true.1 hb
  rw [mem_range] at ht
  rw [Bool.and_eq_true] at htb
  obtain ⟨b1,b2⟩:=htb
  split at b1
  ·rename_i k hk
   have e1:k=i:=Nat.eq_of_beq_eq_true b1
   subst e1
   split at b2
   ·rename_i k2 hk2
    have e2:k2=k:=Nat.eq_of_beq_eq_true b2
    subst e2
    exact ⟨t,ty',sz',xs',ht,hk,hk2,h0⟩
   ·cases b2
  ·cases b1
 ·cases hb
variable {w:World}{γ:Gam}
theorem ycb {w':World}{S S':Nat->Prop}{γ':Gam}{B B' i ty' sz':Nat}{xs':List AV}{d d':Option (Option Nat×Value)}{v:Value}(h1:Rep w S γ (.row i) v)(h2:Rep w' S' γ' (.row i) v)(hd:γ i=some d)(hd':γ' i=some d')
  (he:z8s w S γ B d (.row ty sz xs)) (he':z8s w' S' γ' B' d' (.row ty' sz' xs')):γ' i=γ i:=by
 obtain ⟨s,vs,e1,o1,_⟩:=he
 obtain ⟨s',vs',e2,o2,_⟩:=he'
 subst e1 e2
 have p1:=h1.row_inv hd (zhm o1)
 have p2:=h2.row_inv hd' (zhm o2)
 rw [hd,hd',<-p1,<-p2]
def YK (np:Nat)(args:List AV)(τ:AS)(me':List (Nat×Ent)):List Nat->Prop
 |[]=>True
 |k::r=>((∃ (t t' i l:Nat) (T:Array Value) (caps caps':List AV) (ty:TypeId) (es:List AV),args[t]? = some (.yld l T caps)/\τ.get t'=.yld l T caps'/\caps[i]? = some (.ptr k 0)/\caps'[i]? = some (.ptr k 0)/\lkE me' k=some (.box ty es)) \/
   ∃ (t i f:Nat) (caps caps':List AV) (ty:TypeId) (es:List AV),t<np/\args[t]? = some (.fn f caps)/\τ.get t=.fn f caps'/\caps[i]? = some (.ptr k 0)/\caps'[i]? = some (.ptr k 0)/\lkE me' k=some (.box ty es))/\YK np args τ me' r
theorem YK.at {np:Nat}{τ:AS}:∀ {l:List Nat},YK np args τ me' l->∀ k∈l,(∃ (t t' i l:Nat) (T:Array Value) (caps caps':List AV) (ty:TypeId) (es:List AV),args[t]? = some (.yld l T caps)/\τ.get t'=.yld l T caps'/\caps[i]? = some (.ptr k 0)/\caps'[i]? = some (.ptr k 0)/\lkE me' k=some (.box ty es)) \/
   ∃ (t i f:Nat) (caps caps':List AV) (ty:TypeId) (es:List AV),t<np/\args[t]? = some (.fn f caps)/\τ.get t=.fn f caps'/\caps[i]? = some (.ptr k 0)/\caps'[i]? = some (.ptr k 0)/\lkE me' k=some (.box ty es)
 |[],_,k,hk=>by cases hk
 |x::r,h,k,hk=>by
  rcases mem_cons.1 hk with rfl|hk
  ·exact h.1
  ·exact h.2.at k hk
inductive GX (E:Env) (nt:Nat) (fn:Func) (args:List AV) (me:List (Nat×Ent)) (σ:AS) (res:AV) (me':List (Nat×Ent)):Prop
 |mk (τ:AS) (hl:LeX E nt σ τ) (hme:τ.me=me') (avs:List AV) (h1:retA E.tab τ fn.results.toList=some avs) (h2:Sub (y6c avs) res) (yk:List Nat) (hyk:YK E.np args τ me' yk) (hb:boxB E.np args τ me me' yk=true)
def EndG (E:Env)(nt:Nat)(fn:Func)(args:List AV)(me:List (Nat×Ent))(res:AV)(me':List (Nat×Ent)):Exit->AS->Prop
 |.normal,σ=>GX E nt fn args me σ res me'
 |.ret,σ=>GX E nt fn args me σ res me'
 |_,_=>False
variable {E:Env}{f:FuncId}{fn:Func}{res:AV}
theorem ConG.walk {caps:List AV}(c:Code)(hf:E.P.funcs[f]? = some fn)(hb:fn.body=some c)(hn:Nat.ble (args++caps).length fn.ntmps=true)(hnp:Nat.ble E.np (args++caps).length=true)(hrg:E.rg=false)(hdr:E.dr=false)
  (h:AW E fn.ntmps (EndG E fn.ntmps fn (args++caps) me res me') [.code c] .normal (yc3 (args++caps) me)):ConG E.P E.yl (CalF E.P f caps.length) args caps me res me':=by
 intro cx γ w vs cs hP hdr0 hyl hnt0 hnp0 hme hvs hva hca hcs
 have hlen:(vs++cs).size=(args++caps).length:=by simp [hvs,hcs]
 have hn':=Nat.le_of_ble_eq_true hn
 have hnp':=Nat.le_of_ble_eq_true hnp
 refine callsIn_wide.1 (callsIn_of_wp (F:=Fence.wide) (n:=0) hf hb trivial ?_)
 let cx':Cx:=⟨E,cx.S0,cx.w0,fn.ntmps,fun b=>b<w.heap.size/\¬own γ b,w,none,vs++cs,fun _=>rfl⟩
 have h0:WP cx' c (EndG E fn.ntmps fn (args++caps) me res me') (yc3 (args++caps) me):=WP.mono (h.out cx' rfl rfl) fun e σ hk=>by cases e<;>exact hk
 have hrep:∀ t (ht:t<(args++caps).length),Rep w (Sg cx.S0 cx.w0.heap.size γ) γ (args++caps)[t] ((vs++cs).getD t undef):=fun t ht=>by
  by_cases h1:t<args.length
  ·rw [getElem_append_left h1,Array.getD_eq_getD_getElem?,Array.getElem?_append_left (by omega),<-Array.getD_eq_getD_getElem?]
   exact hva t h1
  ·rw [getElem_append_right (by omega),Array.getD_eq_getD_getElem?,Array.getElem?_append_right (by omega),<-Array.getD_eq_getD_getElem?,hvs]
   exact hca _ (by rw [length_append] at ht;omega)
 have hget:∀ t,t<(args++caps).length->(vs++cs++Array.replicate (fn.ntmps-(vs++cs).size) undef).getD t undef=(vs++cs).getD t undef:=fun t ht=>by
  rw [Array.getD_eq_getD_getElem?,Array.getD_eq_getD_getElem?,Array.getElem?_append_left (by omega)]
 have hst:StG cx' γ (yc3 (args++caps) me) { tmps:=vs++cs++Array.replicate (fn.ntmps-(vs++cs).size) undef,defers:=[] } w:=by
  refine ⟨fun t=>?_,hme.me,hme.inj,hme.ge,hme.below,?_,⟨fun _=>rfl,⟨[],rfl,.nil,fun r hr=>by cases hr⟩,fun t ht=>?_,fun l R hl=>hme.defers.yl l R (hyl _ hl),Nat.le_refl _⟩,hme.gh,fun b hb=>⟨hb.2,hb.1,rfl⟩,fun hd=>?_⟩
  ·unfold AS.get yc3
   rw [y3i]
   by_cases ht:0<=t/\t<0+(args++caps).length
   ·rw [dif_pos ht]
    have ht':t<(args++caps).length:=by omega
    show Rep w _ γ _ ((vs++cs++Array.replicate (fn.ntmps-(vs++cs).size) undef).getD t undef)
    rw [hget t ht']
    exact hrep t ht'
   ·rw [dif_neg ht];exact .any _
  ·show (vs++cs++Array.replicate (fn.ntmps-(vs++cs).size) undef).size=fn.ntmps
   rw [Array.size_append,Array.size_replicate];omega
  ·have ht':t<E.np:=ht
   exact hget t (by omega)
  ·exact absurd (hdr.symm.trans hd) (by simp)
 refine wpIn_mono (h0 _ _ ⟨γ,hst⟩) (fun e a w' ⟨σ,hq,hst0⟩=>?_)
 have key:GX E fn.ntmps fn (args++caps) me σ res me'->bodyPost E.P fn (fun e w'=>∃ u γ',e=.returned u/\MeSt cx γ' me' w'/\Rep w' (Sg cx.S0 cx.w0.heap.size γ') γ' res u/\w.heap.size<=w'.heap.size/\(∀ i,y2w me me' i=true->γ' i=γ i) /\
   (∀ b,¬own γ b->b<w.heap.size->w'.heap[b]? = w.heap[b]? /\ ¬own γ' b)) .ret a w':=by
  rintro ⟨τ,hl,hme',avs,h1,h2,yk,hyk,hbx⟩
  obtain ⟨γ',hs⟩:=hl cx' rfl rfl a w' hst0
  obtain ⟨u,hu,hr⟩:=zjd hs h1
  have hfr:∀ b,¬own γ b->b<w.heap.size->w'.heap[b]? = w.heap[b]? /\ ¬own γ' b:=fun b hb hlt=>by
   obtain ⟨q1,q2,q3⟩:=hs.fr b ⟨hlt,hb⟩
   exact ⟨q3,q1⟩
  have hsz:w.heap.size<=w'.heap.size:=hs.defers.sz
  refine ⟨hs.defers.d0 hrg,u,hu,u,γ',rfl,?_,hr.sub h2,hsz,fun i hst'=>?_,hfr⟩
  ·refine ⟨fun t=>.any _,fun i=>by have:=hs.me i;unfold AS.find at this ⊢;rw [<-hme'];exact this,hs.inj,hs.ge,hs.below,hnt0.symm,⟨fun _=>rfl,⟨[],rfl,.nil,fun r hr=>by cases hr⟩,fun t ht=>by rw [hnp0] at ht;omega,fun l R hl=>?_,Nat.le_trans hme.defers.sz hsz⟩,hs.gh,fun b hb=>?_,fun hd=>absurd (hdr0.symm.trans hd) (by simp)⟩
   ·obtain ⟨q0,q1,q2,q3⟩:=hme.defers.yl l R hl
    obtain ⟨k1,k2⟩:=hfr l q2 q1
    exact ⟨q0,by omega,k2,k1.trans q3⟩
   ·obtain ⟨q1,q2,q3⟩:=hme.fr b hb
    obtain ⟨k1,k2⟩:=hfr b q1 q2
    exact ⟨k2,by omega,k1.trans q3⟩
  ·unfold y2w at hst'
   split at hst'
   rotate_left
   ·rename_i ty sz xs e hi he
    obtain ⟨t,ty',sz',xs',ht,e1,e2,rfl⟩:=yef hbx hi he
    obtain ⟨hlt,hat⟩:=List.getElem?_eq_some_iff.1 e1
    have r1:=hrep t hlt
    rw [hat] at r1
    have r2:=hs.tm t
    rw [e2,hs.defers.pin t ht] at r2
    have m1:=hme.me i
    unfold AS.find at m1
    rw [hi] at m1
    obtain ⟨x,hx,m1⟩:=m1
    have m2:=hs.me i
    unfold AS.find at m2
    rw [hme',he] at m2
    obtain ⟨x2,hx2,m2⟩:=m2
    exact ycb r1 r2 hx hx2 m1 m2
   ·cases hst'
   rename_i ty es hi
   have hb':=all_eq_true.1 hbx (i,.box ty es) (y1y hi)
   have hb':=(Bool.or_eq_true _ _).mp hb'
   rcases hb' with hb'|hb'
   ·rcases hyk.at i ((zet _ _).1 hb') with ⟨t,t',j,l,T,yc,yc',ty',es',e1,e2,e3,e4,e5⟩|⟨t,j,f',yc,yc',ty',es',ht0,e1,e2,e3,e4,e5⟩
    ·obtain ⟨hlt,hat⟩:=List.getElem?_eq_some_iff.1 e1
     have r1:=hrep t hlt
     rw [hat] at r1
     have r2:=hs.tm t'
     rw [e2] at r2
     obtain ⟨hj,hja⟩:=List.getElem?_eq_some_iff.1 e3
     obtain ⟨hj',hja'⟩:=List.getElem?_eq_some_iff.1 e4
     have s1:=r1.yld_inv.2 j hj
     have s2:=r2.yld_inv.2 j hj'
     rw [hja] at s1
     rw [hja'] at s2
     have m1:=hme.me i
     unfold AS.find at m1
     rw [hi] at m1
     obtain ⟨x,hx,g,vs1,hd1,_⟩:=m1
     have m2:=hs.me i
     unfold AS.find at m2
     rw [hme',e5] at m2
     obtain ⟨x2,hx2,g2,vs2,hd2,_⟩:=m2
     subst hd1 hd2
     have p1:=s1.ptr_inv hx
     rw [s2.ptr_inv hx2] at p1
     injection p1 with p1
     injection p1 with p1
     injection p1 with p1
     rw [hx,hx2,p1]
    ·obtain ⟨hlt,hat⟩:=List.getElem?_eq_some_iff.1 e1
     have r1:=hrep t hlt
     rw [hat] at r1
     have r2:=hs.tm t
     rw [e2,hs.defers.pin t ht0] at r2
     obtain ⟨hj,hja⟩:=List.getElem?_eq_some_iff.1 e3
     obtain ⟨hj',hja'⟩:=List.getElem?_eq_some_iff.1 e4
     obtain ⟨us,ev1,_,s1⟩:=r1.fn_inv
     obtain ⟨us',ev2,_,s2⟩:=r2.fn_inv
     have p3:(vs++cs).getD t undef=cx'.pv.getD t undef:=rfl
     rw [p3,ev2] at ev1
     injection ev1 with _ _ ev1
     subst ev1
     have s1:=s1 j hj
     have s2:=s2 j hj'
     rw [hja] at s1
     rw [hja'] at s2
     have m1:=hme.me i
     unfold AS.find at m1
     rw [hi] at m1
     obtain ⟨x,hx,g,vs1,hd1,_⟩:=m1
     have m2:=hs.me i
     unfold AS.find at m2
     rw [hme',e5] at m2
     obtain ⟨x2,hx2,g2,vs2,hd2,_⟩:=m2
     subst hd1 hd2
     have p1:=s1.ptr_inv hx
     rw [s2.ptr_inv hx2] at p1
     injection p1 with p1
     injection p1 with p1
     injection p1 with p1
     rw [hx,hx2,p1]
   obtain ⟨t,ht,htb⟩:=any_eq_true.1 hb'
   rw [mem_range] at ht
   rw [Bool.and_eq_true] at htb
   obtain ⟨b1,b2⟩:=htb
   split at b1
   ·rename_i k hk
    have e1:k=i:=Nat.eq_of_beq_eq_true b1
    subst e1
    split at b2
    ·rename_i k2 ty2 es2 hk2 hk3
     have e2:k2=k:=Nat.eq_of_beq_eq_true b2
     subst e2
     obtain ⟨hlt,hat⟩:=List.getElem?_eq_some_iff.1 hk
     have r1:=hrep t hlt
     rw [hat] at r1
     have r2:=hs.tm t
     rw [hk2,hs.defers.pin t ht] at r2
     have m1:=hme.me k2
     unfold AS.find at m1
     rw [hi] at m1
     obtain ⟨x,hx,g,vs1,hd1,_⟩:=m1
     have m2:=hs.me k2
     unfold AS.find at m2
     rw [hme',hk3] at m2
     obtain ⟨x2,hx2,g2,vs2,hd2,_⟩:=m2
     subst hd1 hd2
     have p1:=r1.ptr_inv hx
     have p2:=r2.ptr_inv hx2
     have p3:(vs++cs).getD t undef=cx'.pv.getD t undef:=rfl
     rw [p3,p2] at p1
     injection p1 with p1
     injection p1 with p1
     injection p1 with p1
     rw [hx,hx2,p1]
    ·cases b2
   ·cases b1
 cases e with
 |normal=>exact key hq
 |ret=>exact key hq
 |_=>exact hq.elim
variable {σ:AS}
theorem zw2 {cx:Cx}{fn:Func}{R:Ending->World->Prop}:∀ (rs:List Nat) (a:Act) (w:World),StG cx γ σ a w->cx.E.rg=true->(∀ b,cx.Fr b->False)->cx.E.yl=none->a.defers=rs.map (fun r=>{ target:=.collected r,args:=#[] })->rs.Nodup ->
  (∀ r∈rs,cx.w0.heap.size<=r/\r<w.heap.size/\¬own γ r/\w.heap[r]? = some (.deferred (some []))) ->
  (∀ w' a',StG cx γ σ a' w'->a'.tmps=a.tmps->∃ v,(results fn a.tmps).run cx.P w'=.ok v w'/\R (.returned v) w')->LeavesInM Fence.wide 0 cx.P fn a.tmps R a.defers .returning w
 |[],a,w,h,hrg,hF,hyl,hd,_,_,k=>by
  rw [hd]
  obtain ⟨v,h1,h2⟩:=k w a h rfl
  exact ⟨v,h1,h2⟩
 |r::rs,a,w,h,hrg,hF,hyl,hd,hnd,hrs,k=>by
  obtain ⟨q1,q2,q3,q4⟩:=hrs r (mem_cons_self ..)
  rw [hd]
  refine ⟨by simp,Or.inl ⟨r,w.putObj r (.deferred none),rfl,run_takeDeferred q4,?_⟩⟩
  have hnd':=(nodup_cons.1 hnd)
  have hrs':∀ r'∈rs,cx.w0.heap.size<=r'/\r' < (w.putObj r (.deferred none)).heap.size/\¬own γ r'/\(w.putObj r (.deferred none)).heap[r']? = some (.deferred (some [])):=fun r' hr'=>by
   obtain ⟨p1,p2,p3,p4⟩:=hrs r' (mem_cons_of_mem _ hr')
   exact ⟨p1,by rw [z5r];exact p2,p3,(z1t (b:=r') (r:=r) (by intro e;subst e;exact hnd'.1 hr')).trans p4⟩
  have hst:=h.putObj (o':=.deferred none) (ds:=rs.map (fun r=>{ target:=.collected r,args:=#[] })) q4 rfl q1 q3
   ⟨fun hr0=>absurd (hr0.symm.trans hrg) (by simp),⟨rs,rfl,hnd'.2,hrs'⟩,h.defers.pin,fun l R hl=>absurd (hyl.symm.trans hl) (by simp),by rw [z5r];exact h.defers.sz⟩ (fun b hb=>(hF b hb).elim)
  exact zw2 rs _ _ hst hrg hF hyl rfl hnd'.2 hrs' (fun w' a' h1 h2=>k w' a' h1 (h2.trans rfl))
theorem Con.walkM {fr:Bool}(c:Code)(hf:E.P.funcs[f]? = some fn)(hb:fn.body=some c)(he:zfg E f)(hn:Nat.ble args.length fn.ntmps=true)(hfr:fr=false\/res.flat=true)
  (h:AW E fn.ntmps (EndA E fn res) [.code c] .normal (zwg args)) (hrg:E.rg=true) (hyl:E.yl=none) (hnp:E.np=0):Con { E with rg:=false } fr f args res:=by
 refine ⟨he,fun S w vs ha=>callsIn_wide.1 (callsIn_of_wp_marks (F:=Fence.wide) (n:=0) hf hb trivial ?_)⟩
 have h0:WP (Cx.call E S w fn.ntmps) c (EndA E fn res) (zwg args):=WP.mono (h.out (Cx.call E S w fn.ntmps) rfl rfl) fun e σ hk=>by cases e<;>exact hk
 refine wpIn_mono (h0 _ _ (zww hyl hnp ha (Nat.le_of_ble_eq_true hn))) (fun e a w' ⟨σ,hq,γ,hst⟩=>?_)
 have key:(∃ avs,retA E.tab σ fn.results.toList=some avs/\Sub (y2r σ (y6c avs)) res)->bodyPostM Fence.wide 0 E.P fn (fun e w'=>∃ v,e=.returned v/\BelE { E with rg:=false } w w'/\Rep w' (fun b=>(fr=false/\S b)\/w.heap.size<=b) G0 res v) .ret a w':=by
  rintro ⟨avs,h1,hsub⟩
  obtain ⟨rs,m1,m2,m3⟩:=hst.defers.marks
  refine zw2 (cx:=Cx.call E S w fn.ntmps) rs a w' hst hrg (fun b hb=>hb.elim) hyl m1 m2 m3 (fun w2 a2 hst2 e2=>?_)
  obtain ⟨v,hv,hr⟩:=zjd hst2 h1
  rw [e2] at hv
  refine ⟨v,hv,v,rfl,⟨hst2.below,hst2.dr⟩,?_⟩
  have h2:=(y2q (S':=fun b=>S b\/w.heap.size<=b) hst2 (fun b hb=>?_) hr).sub hsub
  ·rcases hfr with hfr|hfr
   ·exact h2.mono (Nat.le_refl _) (fun b hb _=>⟨rfl,hb.elim (fun h=>Or.inl ⟨hfr,h⟩) Or.inr⟩)
   ·exact h2.flat hfr
  ·rcases hb with hb|hb
   ·rcases hb with ⟨hb,_⟩|⟨hb,_⟩
    ·exact Or.inl hb.1
    ·exact Or.inr hb.1
   ·exact Or.inr (hst2.ge b hb).1.1
 cases e with
 |normal=>exact key (zuf hq)
 |ret=>exact key (zuf hq)
 |_=>exact hq.elim
theorem yge {S:Nat->Prop}:∀ (ps:List Nat) (avs:List AV) (vs:List Value) (T:Array Value) (base:List (Nat×AV)),(∀ t,Rep w S γ (lkV base t) (T.getD t undef))->(∀ p∈ps,p<T.size)->avs.length=ps.length->vs.length=ps.length ->
  (∀ i (hi:i<avs.length),Rep w S γ avs[i] (vs.getD i undef))->∀ t,Rep w S γ (lkV ((ps.zip avs).foldl (fun tm x=>x::tm) base) t) (((ps.zip vs).foldl (fun t x=>t.setIfInBounds x.1 x.2) T).getD t undef)
 |[],_,_,T,base,h0,_,_,_,_=>fun t=>h0 t
 |p::ps,[],_,T,base,_,_,h1,_,_=>by simp at h1
 |p::ps,av::avs,[],T,base,_,_,_,h2,_=>by simp at h2
 |p::ps,av::avs,v::vs,T,base,h0,hp,h1,h2,h3=>by
  simp only [zip_cons_cons,foldl_cons]
  refine yge ps avs vs _ _ (fun t=>?_) (fun q hq=>by rw [Array.size_setIfInBounds];exact hp q (mem_cons_of_mem _ hq)) (by simpa using h1) (by simpa using h2) (fun i hi=>by have:=h3 (i+1) (by simpa using hi);simpa using this)
  have hpT:=hp p (mem_cons_self ..)
  simp only [lkV]
  cases hb:Nat.beq p t with
  |true =>
   have:=Nat.eq_of_beq_eq_true hb
   subst this
   have h:=h3 0 (by simp)
   simp only [getElem_cons_zero,getD_cons_zero] at h
   simpa [hpT] using h
  |false =>
   have hne:p≠t:=Nat.ne_of_beq_eq_false hb
   have e:(T.setIfInBounds p v).getD t undef=T.getD t undef:=by
    rw [Array.getD_eq_getD_getElem?,Array.getElem?_setIfInBounds_ne hne,<-Array.getD_eq_getD_getElem?]
   rw [e];exact h0 t
theorem yca:∀ (l:List (Nat×Value)) (T:Array Value),(l.foldl (fun t x=>t.setIfInBounds x.1 x.2) T).size=T.size
 |[],T=>rfl
 |x::l,T=>by rw [foldl_cons,yca l,Array.size_setIfInBounds]
theorem y5z {t:Nat}:∀ (l:List (Nat×Value)) (T:Array Value),(∀ x∈l,x.1≠t)->(l.foldl (fun t x=>t.setIfInBounds x.1 x.2) T).getD t undef=T.getD t undef
 |[],T,_=>rfl
 |x::l,T,h=>by
  rw [foldl_cons,y5z l _ (fun y hy=>h y (mem_cons_of_mem _ hy)),Array.getD_eq_getD_getElem?,Array.getElem?_setIfInBounds_ne (h x (mem_cons_self ..)),<-Array.getD_eq_getD_getElem?]
def yg9 (ps:List Nat)(args ycaps:List AV)(me:List (Nat×Ent)):AS:=⟨(ps.zip args).foldl (fun tm x=>x::tm) (ycaps.zipIdx.map fun p=>(p.2,p.1)),me⟩
inductive BX (E:Env) (nt:Nat) (ycaps:List AV) (me:List (Nat×Ent)) (σ:AS) (me':List (Nat×Ent)):Prop
 |mk (τ:AS) (hl:LeX E nt σ τ) (hme:τ.me=me') (hb:boxB E.np ycaps τ me me' []=true)
def EndB (E:Env)(nt:Nat)(ycaps:List AV)(me me':List (Nat×Ent)):Exit->AS->Prop
 |.normal,σ=>BX E nt ycaps me σ me'
 |_,_=>False
theorem StG.putObjW {cx:Cx}{a:Act}(h:StG cx γ σ a w){r:Nat}{o o':Obj}(hr:w.heap[r]? = some o)(ho:o.isCells=false)(hB:cx.w0.heap.size<=r)(hno:¬own γ r)(hd:a.defers=[])(hyl:cx.E.yl=none)(hom:∀ es c,o≠.map es c:=by intro es c h;cases h):StG { cx with w1:=w.putObj r o' } γ σ a (w.putObj r o'):=by
 have hn:=yi1 (k:=0) hr ho
 have hnm:∀ es c,w.heap[r]? ≠ some (.map es c):=fun es c h=>by rw [hr] at h;injection h with h;exact hom es c h
 have hne:∀ b,own γ b->b≠r:=fun b hb e=>hno (e▸hb)
 refine ⟨fun t=>(h.tm t).putObj hn hnm,fun id=>?_,h.inj,fun b hb=>by rw [z5r];exact h.ge b hb,h.below.trans ⟨rfl,rfl,rfl,by rw [z5r];exact Nat.le_refl _,fun b hb=>z1t (by omega)⟩,h.size,
  ⟨fun _=>hd,⟨[],hd,.nil,fun r hr=>by cases hr⟩,h.defers.pin,fun l R hl=>absurd (hyl.symm.trans hl) (by simp),Nat.le_refl _⟩,fun b hb=>by rw [z5r];exact h.gh b hb,fun b hb=>?_,h.dr⟩
 ·have:=h.me id
  cases hf:σ.find id with
  |none=>rw [hf] at this;exact this
  |some e =>
   rw [hf] at this
   obtain ⟨x,hx,he⟩:=this
   exact ⟨x,hx,he.putObj hn hnm (fun b hb=>hne b ⟨id,x,hx,hb⟩)⟩
 ·obtain ⟨q1,q2,q3⟩:=h.fr b hb
  exact ⟨q1,by rw [z5r];exact q2,rfl⟩
variable {nt:Nat}{ycaps:List AV}
theorem ConG.round {ps:Array Tmp}{assign body:Code}(hrg:E.rg=false)(hylE:E.yl=none)(hdr:E.dr=false)(hps:ps.toList.all (fun p=>Nat.ble E.np p && Nat.blt p nt)=true)(hlen:args.length=ps.size)(hcl:Nat.ble ycaps.length nt=true)
  (h:AW E nt (zmp (fun σ=>AW E nt (EndB E nt ycaps me me') [.code body] .normal σ) (fun _ _=>False)) [.code assign] .normal (yg9 ps.toList args ycaps me))
  (l D:Nat) (fn:FuncId) (T:Array Value) (hT:T.size=nt):ConG E.P (some (l,.loop (recR fn T ps assign body D))) (fun vs cs w R=>cs=T->CalY E.P l vs cs w R) args ycaps me (.bool true) me':=by
 intro cx γ w vs cs hP hdr0 hyl hnt0 hnp0 hme hvs hva hca hcs
 subst hcs
 have hyl':=hyl _ rfl
 obtain ⟨q0,q1,q2,q3⟩:=hme.defers.yl l _ hyl'
 refine ⟨fn,_,assign,body,run_yield (P:=E.P) (args:=vs) q3 (by rw [hvs,hlen]),roundIn_of_wpIn trivial ?_⟩
 have ef:(ps.zip vs).foldl (fun (t:Array Value) (x:Tmp×Value)=>t.setIfInBounds x.1 x.2) cs=(ps.toList.zip vs.toList).foldl (fun t x=>t.setIfInBounds x.1 x.2) cs:=by
  rw [<-Array.foldl_toList,Array.toList_zip]
 obtain ⟨tm,htm⟩:∃ tm,tm=(ps.toList.zip vs.toList).foldl (fun t x=>t.setIfInBounds x.1 x.2) cs:=⟨_,rfl⟩
 have etm:(ps.zip vs).foldl (fun (t:Array Value) (x:Tmp×Value)=>t.setIfInBounds x.1 x.2) cs=tm:=by rw [ef,htm]
 show assign.wpIn (Fence.wide.inRound l) 0 E.P _ { tmps:=(ps.zip vs).foldl (fun (t:Array Value) (x:Tmp×Value)=>t.setIfInBounds x.1 x.2) cs,defers:=[] } w
 rw [etm]
 have hps':∀ p∈ps.toList,E.np<=p/\p<nt:=fun p hp=>by
  have:=all_eq_true.1 hps p hp
  simpa using this
 let cxa:Cx:=⟨E,cx.S0,cx.w0,nt,fun b=>b<w.heap.size/\¬own γ b,w,some l,cs,fun h=>absurd (hrg.symm.trans h) (by simp)⟩
 have hst:StG cxa γ (yg9 ps.toList args ycaps me) { tmps:=tm,defers:=[] } w:=by
  refine ⟨fun t=>?_,hme.me,hme.inj,hme.ge,hme.below,by rw [htm];exact (yca _ _).trans hT,⟨fun _=>rfl,⟨[],rfl,.nil,fun r hr=>by cases hr⟩,fun t ht=>?_,fun l R hl=>absurd (hylE.symm.trans hl) (by simp),Nat.le_refl _⟩,hme.gh,fun b hb=>⟨hb.2,hb.1,rfl⟩,fun hd=>absurd (hdr.symm.trans hd) (by simp)⟩
  ·rw [htm]
   refine yge ps.toList args vs.toList cs _ (fun t=>?_) (fun p hp=>by rw [hT];exact (hps' p hp).2) (by simpa using hlen) (by simp [hvs,hlen]) (fun i hi=>?_) t
   ·rw [y3i]
    by_cases ht:0<=t/\t<0+ycaps.length
    ·rw [dif_pos ht];exact hca t (by omega)
    ·rw [dif_neg ht];exact .any _
   ·have:=hva i hi
    rwa [Array.getD_eq_getD_getElem?,<-Array.getElem?_toList,<-getD_eq_getElem?_getD] at this
  ·show tm.getD t undef=cs.getD t undef
   rw [htm]
   exact y5z _ _ (fun x hx e=>by have:=(hps' x.1 (of_mem_zip hx).1).1;have ht':t<E.np:=ht;omega)
 have hA:WP cxa assign (zmp (fun σ=>AW E nt (EndB E nt ycaps me me') [.code body] .normal σ) (fun _ _=>False)) (yg9 ps.toList args ycaps me):=WP.mono (h.out cxa rfl rfl) fun e σ hk=>by cases e<;>exact hk
 refine wpIn_mono (F:=Fence.wide.inRound l) (hA _ _ ⟨γ,hst⟩) (fun e a1 w1 ⟨σ1,hq1,hst1⟩=>?_)
 cases e with
 |normal =>
  obtain ⟨γ1,hs1⟩:=hst1
  obtain ⟨k1,k2,k3⟩:=hs1.fr l ⟨q1,q2⟩
  have k4:w1.heap[l]? = some (.loop (recR fn cs ps assign body D)):=k3.trans q3
  refine ⟨_,run_beginRound (P:=E.P) k4 rfl,?_⟩
  have hs2:=hs1.putObjW (o':=.loop { recR fn cs ps assign body D with state:=.busy }) k4 rfl q0 k1 (hs1.defers.d0 hrg) hylE
  generalize hw2:w1.putObj l (.loop { recR fn cs ps assign body D with state:=.busy })=w2 at hs2 ⊢
  have hB:WP { cxa with w1:=w2 } body (EndB E nt ycaps me me') σ1:=WP.mono ((show AW E nt (EndB E nt ycaps me me') [.code body] .normal σ1 from hq1).out { cxa with w1:=w2 } rfl rfl) fun e σ hk=>by cases e<;>exact hk
  refine wpIn_mono (F:=Fence.wide.inRound l) (hB _ _ ⟨γ1,hs2⟩) (fun e2 a2 w3 ⟨σ2,hq2,hst2⟩=>?_)
  cases e2 with
  |normal =>
   obtain ⟨τ,hl,hme',hbx⟩:=hq2
   obtain ⟨γ3,hs3⟩:=hl { cxa with w1:=w2 } rfl rfl a2 w3 hst2
   have hb2:w2.heap[l]? = some (.loop { recR fn cs ps assign body D with state:=.busy }):=by rw [<-hw2];exact World.putObj_heap_same k2
   obtain ⟨j1,j2,j3⟩:=hs3.fr l ⟨q1,q2⟩
   have j4:w3.heap[l]? = some (.loop { recR fn cs ps assign body D with state:=.busy }):=j3.trans hb2
   refine ⟨_,_,run_endRound (P:=E.P) none j4,?_⟩
   have hs4:=hs3.putObjW (o':=.loop (recR fn cs ps assign body D)) j4 rfl q0 j1 (hs3.defers.d0 hrg) hylE
   show ∃ u γ',_/\_
   have hw4:w3.putObj l (.loop { { recR fn cs ps assign body D with state:=.busy } with state:=if (none:Option Code).isNone=true then LoopState.ready else LoopState.done,pending:=none })=w3.putObj l (.loop (recR fn cs ps assign body D)):=rfl
   rw [hw4]
   have hr4:(w3.putObj l (.loop (recR fn cs ps assign body D))).heap[l]? = some (.loop (recR fn cs ps assign body D)):=World.putObj_heap_same j2
   generalize hwe:w3.putObj l (.loop (recR fn cs ps assign body D))=w4 at hs4 hr4 ⊢
   have z1:w.heap.size<=w1.heap.size:=hs1.defers.sz
   have z2:w1.heap.size=w2.heap.size:=by rw [<-hw2,z5r]
   have z3:w2.heap.size<=w3.heap.size:=hs3.defers.sz
   have z4:w3.heap.size=w4.heap.size:=by rw [<-hwe,z5r]
   have hfr:∀ b,¬own γ b->b<w.heap.size->w4.heap[b]? = w.heap[b]? /\ ¬own γ3 b:=fun b hb hlt=>by
    obtain ⟨p1,p2,p3⟩:=hs1.fr b ⟨hlt,hb⟩
    obtain ⟨r1,r2,r3⟩:=hs3.fr b ⟨hlt,hb⟩
    refine ⟨?_,r1⟩
    by_cases hbl:b=l
    ·subst hbl;exact hr4.trans q3.symm
    ·have e1:w4.heap[b]? = w3.heap[b]? := by rw [<-hwe];exact z1t hbl
     have e2:w2.heap[b]? = w1.heap[b]? := by rw [<-hw2];exact z1t hbl
     exact e1.trans (r3.trans (e2.trans p3))
   refine ⟨.bool true,γ3,rfl,⟨fun t=>.any _,fun i=>by have:=hs4.me i;unfold AS.find at this ⊢;rw [<-hme'];exact this,hs4.inj,hs4.ge,hs4.below,hnt0.symm,⟨fun _=>rfl,⟨[],rfl,.nil,fun r hr=>by cases hr⟩,fun t ht=>by rw [hnp0] at ht;omega,fun l' R' hl'=>?_,Nat.le_trans hme.defers.sz (by omega)⟩,hs4.gh,fun b hb=>?_,fun hd=>absurd (hdr0.symm.trans hd) (by simp)⟩,.bool _,by omega,fun i hst'=>?_,hfr⟩
   ·rw [hyl'] at hl'
    injection hl' with hl'
    injection hl' with e1 e2
    subst e1 e2
    exact ⟨q0,by omega,j1,hr4⟩
   ·obtain ⟨p1,p2,p3⟩:=hme.fr b hb
    obtain ⟨r1,r2⟩:=hfr b p1 p2
    exact ⟨r2,by omega,r1.trans p3⟩
   ·unfold y2w at hst'
    split at hst'
    rotate_left
    ·rename_i ty sz xs e hi he
     obtain ⟨t,ty',sz',xs',ht,e1,e2,rfl⟩:=yef hbx hi he
     obtain ⟨hlt,hat⟩:=List.getElem?_eq_some_iff.1 e1
     have r1:=hca t hlt
     rw [hat] at r1
     have r2:=hs3.tm t
     rw [e2,hs3.defers.pin t ht] at r2
     have m1:=hme.me i
     unfold AS.find at m1
     rw [hi] at m1
     obtain ⟨x,hx,m1⟩:=m1
     have m2:=hs3.me i
     unfold AS.find at m2
     rw [hme',he] at m2
     obtain ⟨x2,hx2,m2⟩:=m2
     exact ycb r1 r2 hx hx2 m1 m2
    ·cases hst'
    rename_i ty es hi
    have hb':=all_eq_true.1 hbx (i,.box ty es) (y1y hi)
    have hb':=(Bool.or_eq_true _ _).mp hb'
    rcases hb' with hb'|hb'
    ·cases hb'
    obtain ⟨t,ht,htb⟩:=any_eq_true.1 hb'
    rw [mem_range] at ht
    rw [Bool.and_eq_true] at htb
    obtain ⟨b1,b2⟩:=htb
    split at b1
    ·rename_i k hk
     have e1:k=i:=Nat.eq_of_beq_eq_true b1
     subst e1
     split at b2
     ·rename_i k2 ty2 es2 hk2 hk3
      have e2:k2=k:=Nat.eq_of_beq_eq_true b2
      subst e2
      obtain ⟨hlt,hat⟩:=List.getElem?_eq_some_iff.1 hk
      have r1:=hca t hlt
      rw [hat] at r1
      have r2:=hs3.tm t
      rw [hk2,hs3.defers.pin t ht] at r2
      have m1:=hme.me k2
      unfold AS.find at m1
      rw [hi] at m1
      obtain ⟨x,hx,g,vs1,hd1,_⟩:=m1
      have m2:=hs3.me k2
      unfold AS.find at m2
      rw [hme',hk3] at m2
      obtain ⟨x2,hx2,g2,vs2,hd2,_⟩:=m2
      subst hd1 hd2
      have p1:=r1.ptr_inv hx
      have p2:cs.getD t undef=_:=r2.ptr_inv hx2
      rw [p2] at p1
      injection p1 with p1
      injection p1 with p1
      injection p1 with p1
      rw [hx,hx2,p1]
     ·cases b2
    ·cases b1
  |_=>exact hq2.elim
 |_=>exact hq1.elim
abbrev fd (n:Nat):Nat×Nat×Option Bool:=(n,1,some false)
def tab:List (Nat×TyI):=[(3,⟨1,8,.int .i64 0,.int .i64⟩),(4,⟨1,1,.bool false,.bool⟩),(5,⟨1,1,.int .u8 0,.int .u8⟩),(9,⟨1,16,.string ByteArray.empty,.str⟩),(22,⟨1,24,.slice none 0 0,.slc 105 1 24⟩),(23,⟨1,24,.slice none 0 0,.slc 115 17 240⟩),(25,⟨4,64,.agg #[.int .i64 0,.int .i64 0,.slice none 0 0,.slice none 0 0],.strct [fd 0,fd 1,fd 2,fd 3]⟩),(26,⟨1,24,.slice none 0 0,.slc 71 5 56⟩),(29,⟨1,24,.slice none 0 0,.slc 57 1 24⟩),(31,⟨1,24,.agg #[.slice none 0 0],.strct [fd 0]⟩),(32,⟨1,8,.int .i64 0,.int .i64⟩),(42,⟨1,24,.slice none 0 0,.slc 76 4 32⟩),(44,⟨1,24,.agg #[.slice none 0 0],.strct [fd 0]⟩),(49,⟨1,8,.nilFunc,.other⟩),(50,⟨1,24,.slice none 0 0,.slc 44 1 24⟩),(57,⟨1,24,.slice none 0 0,.slc 60 3 56⟩),(58,⟨1,24,.slice none 0 0,.slc 102 2 16⟩),(60,⟨3,56,.agg #[.int .i64 0,.slice none 0 0,.slice none 0 0],.strct [fd 0,fd 1,fd 2]⟩),(62,⟨1,8,.nilFunc,.other⟩),(63,⟨1,8,.nilFunc,.other⟩),(69,⟨1,24,.slice none 0 0,.slc 109 3 32⟩),(71,⟨5,56,.agg #[.int .i64 0,.int .i64 0,.int .i64 0,.int .i64 0,.slice none 0 0],.strct [fd 0,fd 1,fd 2,fd 3,fd 4]⟩),(74,⟨3,24,.agg #[.int .i64 0,.int .i64 0,.int .i64 0],.strct [fd 0,fd 1,fd 2]⟩),(76,⟨4,32,.agg #[.int .i64 0,.int .i64 0,.int .i64 0,.int .i64 0],.strct [fd 0,(1,3,some true)]⟩),(81,⟨1,8,.nilFunc,.other⟩),(86,⟨1,8,.nilFunc,.other⟩),(88,⟨1,8,.nilFunc,.other⟩),(95,⟨1,8,.nilFunc,.other⟩),(97,⟨1,24,.slice none 0 0,.slc 150 1 24⟩),(102,⟨2,16,.agg #[.int .i64 0,.int .i64 0],.strct [fd 0,fd 1]⟩),(103,⟨1,24,.slice none 0 0,.slc 154 11 112⟩),(105,⟨1,24,.agg #[.slice none 0 0],.strct [fd 0]⟩),(107,⟨1,24,.slice none 0 0,.slc 111 8 88⟩),(109,⟨3,32,.agg #[.int .i64 0,.int .i64 0,.string ByteArray.empty],.strct [fd 0,fd 1,fd 2]⟩),(111,⟨8,88,.agg #[.int .i64 0,.slice none 0 0,.int .i64 0,.int .i64 0,.int .i64 0,.int .i64 0,.int .i64 0,.string ByteArray.empty],.strct [fd 0,fd 1,fd 2,fd 3,fd 4,(5,3,some true)]⟩),(112,⟨1,24,.slice none 0 0,.slc 3 1 8⟩),(113,⟨1,24,.slice none 0 0,.slc 209 2 16⟩),(115,⟨17,240,.agg #[.int .i64 0,.int .i64 0,.int .i64 0,.int .i64 0,.int .i64 0,.slice none 0 0,.int .i64 0,.int .i64 0,.int .i64 0,.int .i64 0,.int .i64 0,.string ByteArray.empty,.slice none 0 0,.slice none 0 0,.slice none 0 0,.slice none 0 0,.slice none 0 0],.strct [fd 0,fd 1,fd 2,fd 3,(4,8,some true),fd 12,fd 13,fd 14,fd 15,fd 16]⟩),(130,⟨1,24,.slice none 0 0,.slc 136 1 8⟩),(133,⟨1,8,.nilFunc,.other⟩),(136,⟨1,8,.map none,.map 3 4⟩),(137,⟨1,8,.pointer none,.other⟩),(150,⟨1,24,.slice none 0 0,.slc 4 1 1⟩),(154,⟨11,112,.agg #[.int .i64 0,.int .i64 0,.int .i64 0,.int .i64 0,.slice none 0 0,.int .i64 0,.int .i64 0,.int .i64 0,.int .i64 0,.int .i64 0,.string ByteArray.empty],.strct [fd 0,fd 1,fd 2,(3,8,some true)]⟩),(166,⟨1,8,.map none,.map 169 4⟩),(169,⟨2,16,.agg #[.int .i64 0,.int .i64 0],.strct [fd 0,fd 1]⟩),(175,⟨1,24,.slice none 0 0,.slc 112 1 24⟩),(177,⟨1,8,.nilFunc,.other⟩),(178,⟨1,8,.map none,.map 74 71⟩),(180,⟨5,72,.agg #[.int .i64 0,.int .i64 0,.slice none 0 0,.slice none 0 0,.map none],.strct [(0,4,some true),fd 4]⟩),(184,⟨1,8,.nilFunc,.other⟩),(195,⟨1,8,.nilFunc,.other⟩),(203,⟨1,8,.nilFunc,.other⟩),(204,⟨1,8,.nilFunc,.other⟩),(209,⟨2,16,.agg #[.int .i64 0,.int .i64 0],.strct [fd 0,fd 1]⟩),(210,⟨1,8,.nilFunc,.other⟩),(212,⟨16,16,.agg #[.bool false,.bool false,.bool false,.bool false,.bool false,.bool false,.bool false,.bool false,.bool false,.bool false,.bool false,.bool false,.bool false,.bool false,.bool false,.bool false],.arr 16 4 1 (some false)⟩),(217,⟨1,8,.nilFunc,.other⟩),(218,⟨1,24,.slice none 0 0,.slc 26 1 24⟩),(220,⟨1,24,.agg #[.slice none 0 0],.strct [fd 0]⟩),(226,⟨1,8,.nilFunc,.other⟩),(236,⟨1,8,.int .u64 0,.int .u64⟩),(238,⟨1,24,.slice none 0 0,.slc 74 3 24⟩),(251,⟨1,8,.nilFunc,.other⟩),(257,⟨1,8,.int .i64 0,.int .i64⟩),(272,⟨1,8,.nilFunc,.other⟩),(280,⟨1,8,.int .u64 0,.int .u64⟩),(284,⟨1,8,.pointer none,.other⟩),(290,⟨1,8,.map none,.map 3 303⟩),(293,⟨8,96,.agg #[.slice none 0 0,.int .i64 0,.int .i64 0,.int .i64 0,.int .i64 0,.int .i64 0,.slice none 0 0,.map none],.strct [(0,1,some true),fd 1,(2,5,some true),fd 7]⟩),(302,⟨1,8,.nilFunc,.other⟩),(303,⟨1,8,.nilFunc,.other⟩),(313,⟨5,48,.agg #[.int .i64 0,.int .i64 0,.int .i64 0,.int .i64 0,.string ByteArray.empty],.strct [fd 0,fd 1,(2,3,some true)]⟩),(325,⟨1,8,.nilFunc,.other⟩),(328,⟨1,8,.nilFunc,.other⟩),(329,⟨6,48,.agg #[.nilFunc,.nilFunc,.nilFunc,.nilFunc,.nilFunc,.nilFunc],.arr 6 328 1 (some false)⟩)]
def ym5 (P:Program):List (Nat×TyI)->Prop
 |[]=>True
 |(t,i)::r=>TyOk P t i/\ym5 P r
theorem ym5.get {P:Program}:∀ {l:List (Nat×TyI)},ym5 P l->∀ T i,lkT l T=some i->TyOk P T i
 |[],_,T,i,h=>by simp [lkT] at h
 |(t,j)::r,hl,T,i,h=>by
  simp only [lkT] at h
  split at h
  ·rename_i hb
   have:=Nat.eq_of_beq_eq_true hb
   subst this
   injection h with h
   subst h
   exact hl.1
  ·exact hl.2.get T i h
set_option maxRecDepth 100000 in
theorem yn8:ym5 Tryz.prog tab:=by repeat' first|exact trivial|refine ⟨⟨by kernel_rfl,by kernel_rfl,by kernel_rfl⟩,?_⟩
theorem zs2 (T:Nat)(i:TyI)(h:lkT tab T=some i):TyOk Tryz.prog T i:=yn8.get T i h
noncomputable def E0:Env:=⟨Tryz.prog,tab,fun T i h=>yn8.get T i h,by kernel_rfl,false,false,none,0,false⟩
noncomputable def E0d:Env:=⟨Tryz.prog,tab,fun T i h=>yn8.get T i h,by kernel_rfl,true,false,none,0,false⟩
theorem z0x (hf : E0.P.funcs[f]? = some fn)(hn : (fn.name == "runtime.NumGoroutine") = false)(hb : fn.body.isNone = false) : zfg E0 f := fun args w => by
 unfold callFunc
 simp only [Sem.run_bind,run_program,Result.andThen_ok,hf,hn,hb,Bool.false_eq_true,if_false,Sem.run_pure]
noncomputable def E0p (np:Nat):Env:={ E0 with np:=np }
noncomputable def E0y (l:Nat)(R:Obj)(np:Nat):Env:={ E0 with np:=np,yl:=some (l,R) }
noncomputable def E0r:Env:={ E0 with rg:=true }
theorem ConG.up {P:Program}{yl:Option (Nat×Obj)}{C:CalT}{caps:List AV}(h:ConG P none C args caps me res me'):ConG P yl C args caps me res me' :=
 fun cx γ w vs cs h1 h2 _=>h cx γ w vs cs h1 h2 (fun x hx=>by cases hx)
variable {avs:List AV}
theorem Con.env {E':Env}{fr:Bool}(hP:E'.P=E.P)(hd:E'.dr=false)(h:Con E fr f avs res):Con E' fr f avs res:=by
 refine ⟨by have:=h.1;unfold zfg at *;rw [hP];exact this,fun S w vs ha=>?_⟩
 have:=h.2 S w vs ha
 rw [hP]
 exact this.mono fun e w' ⟨v,h1,⟨h2,_⟩,h3⟩=>⟨v,h1,⟨h2,fun hd'=>absurd (hd.symm.trans hd') (by simp)⟩,h3⟩
theorem ConT.env {E':Env}(hP:E'.P=E.P)(h:ConT E f avs ty sz xs res):ConT E' f avs ty sz xs res:=by
 refine ⟨by have:=h.1;unfold zfg at *;rw [hP];exact this,h.2.1,fun S w vs ha=>?_⟩
 rw [hP]
 exact h.2.2 S w vs ha
section
variable {α β:Type}
variable {k:α->Option β}{r:β}{find:Nat->Option Ent}{KR:AV->List Nat->List (Nat×Ent)->Prop}
theorem z1l.oM {o:Option α}{K:AV->Prop}{R:Nat->Nat->List AV->AV->Prop}(h:bnd o k=some r)
  (ps ps':List (Nat×Nat)) (cargs:List AV) (me:List (Nat×Ent)) (meF:α->List (Nat×Ent)) (resF:α->AV) (dead:List Nat) (hc:∀ a,o=some a->ConG E.P E.yl (CalF E.P f 0) cargs [] me (resF a) (meF a)) (he:zfg E f) (hdr0:E.dr=false) (hra:AV.renL (rho ps) cargs=avs) (hia:AV.inML (me.map (·.1)) cargs=true) (hle:LeF find (rho ps) (me.map (·.1)) me)
  (hn:∀ a,zhw find (rho ps) (rho ps') me (meF a) (resF a) dead) (kk:∀ a,k a=some r->KR ((resF a).ren (rho ps')) (idsG (rho ps) (rho ps') me (meF a)) (wrG (rho ps') (meF a) dead)):z1l E f avs K R find KR:=by
 cases o with
 |none=>unfold bnd at h;cases h
 |some a=>exact .memo ps ps' cargs me (meF a) (resF a) dead he hdr0 (hc a rfl) hra hia hle (hn a) (kk a (by unfold bnd at h;exact h))
theorem zak.oM {o:Option α}{raw:List AV}{K:AV->Prop}{dst:Option Nat}(h:bnd o k=some r)
  (ps ps':List (Nat×Nat)) (cargs:List AV) (me:List (Nat×Ent)) (meF:α->List (Nat×Ent)) (resF:α->AV) (dead:List Nat) (hc:∀ a,o=some a->ConG E.P E.yl (CalF E.P f 0) cargs [] me (resF a) (meF a)) (he:zfg E f) (hdr0:E.dr=false) (hra:AV.renL (rho ps) cargs=raw) (hia:AV.inML (me.map (·.1)) cargs=true) (hle:LeF find (rho ps) (me.map (·.1)) me)
  (hn:∀ a,zhw find (rho ps) (rho ps') me (meF a) (resF a) dead) (kk:∀ a,k a=some r->KR ((resF a).ren (rho ps')) (idsG (rho ps) (rho ps') me (meF a)) (wrG (rho ps') (meF a) dead)):zak E f avs K raw find dst KR:=by
 cases o with
 |none=>unfold bnd at h;cases h
 |some a=>exact .memo ps ps' cargs me (meF a) (resF a) dead he hdr0 (hc a rfl) hra hia hle (hn a) (kk a (by unfold bnd at h;exact h))
theorem YldX.oM {o:Option α}{l:Nat}{T:Array Value}{raw cap:List AV}(h:bnd o k=some r)
  (ps ps':List (Nat×Nat)) (cargs ccaps:List AV) (me:List (Nat×Ent)) (meF:α->List (Nat×Ent)) (resF:α->AV) (dead:List Nat) (hc:∀ a,o=some a->ConG E.P E.yl (fun vs cs w R=>cs=T->CalY E.P l vs cs w R) cargs ccaps me (resF a) (meF a)) (hdr0:E.dr=false) (hra:AV.renL (rho ps) cargs=raw) (hrc:AV.renL (rho ps) ccaps=cap) (hia:AV.inML (me.map (·.1)) cargs=true) (hic:AV.inML (me.map (·.1)) ccaps=true) (hle:LeF find (rho ps) (me.map (·.1)) me)
  (hn:∀ a,zhw find (rho ps) (rho ps') me (meF a) (resF a) dead) (kk:∀ a,k a=some r->KR ((resF a).ren (rho ps')) (idsG (rho ps) (rho ps') me (meF a)) (wrG (rho ps') (meF a) dead)):YldX E l T raw cap find KR:=by
 cases o with
 |none=>unfold bnd at h;cases h
 |some a=>exact .mk ps ps' cargs ccaps me (meF a) (resF a) dead hdr0 (hc a rfl) hra hrc hia hic hle (hn a) (kk a (by unfold bnd at h;exact h))
theorem RngX.oM {o:Option α}{gf:Nat}{cap:List AV}{ps:Array Tmp}{a b:Code}{K:AS->Prop}(h:bnd o k=some r)
  (pp pp':List (Nat×Nat)) (ycaps ccaps:List AV) (me:List (Nat×Ent)) (meF:α->List (Nat×Ent)) (dead:List Nat)
  (hiter:∀ x,o=some x->∀ (l D:Nat) (fn:FuncId) (T:Array Value),T.size=nt->ConG E.P (some (l,.loop (recR fn T ps a b D))) (CalF E.P gf 0) (.yld l T ycaps::ccaps) [] me (.tup []) (meF x))
  (he:zfg E gf) (hrg:E.rg=true) (hdr0:E.dr=false) (hyl0:E.yl=none) (hrc:AV.renL (rho pp) ccaps=cap) (hic:AV.inML (me.map (·.1)) ccaps=true) (hy:LeY σ (rho pp) (me.map (·.1)) 0 ycaps) (hle:LeF σ.find (rho pp) (me.map (·.1)) me) (hn:∀ x,zhw σ.find (rho pp) (rho pp') me (meF x) (.tup []) dead)
  (kk:∀ x,k x=some r->K (σ.upd none (.tup []) (wrG (rho pp') (meF x) dead))):RngX E nt (.fn gf cap) ps a b σ K:=by
 cases o with
 |none=>unfold bnd at h;cases h
 |some x=>exact .mk gf cap rfl he hrg hdr0 hyl0 pp pp' ycaps ccaps me (meF x) dead hrc hic hy hle (hn x) (hiter x rfl) (kk x (by unfold bnd at h;exact h))
variable {meF:α->List (Nat×Ent)}
theorem GX.o {x r:α}{res:α->AV}(h:some x=some r)(k:GX E nt fn args me σ (res x) (meF x)):GX E nt fn args me σ (res r) (meF r):=by
 injection h with h;subst h;exact k
theorem BX.o {x r:α}(h:some x=some r)(k:BX E nt ycaps me σ (meF x)):BX E nt ycaps me σ (meF r):=by
 injection h with h;subst h;exact k
end
section
variable {β:Type} {E:Env} {nt:Nat} {o:Oper} {σ:AS} {K:OpK}
variable {α:Type}
def bld (l:List α)(k:List α->Option β):Option β:=k l
variable {k:List α->Option β}
theorem OpX.bld {l:List α}{r:β}(enc:α->AV){T n d e esz eb:Nat}{ps:Array (Nat×Operand)}{i ie:TyI}(hF:bld l k=some r)(ho:o.op=.buildSlice T n ps)(hdst:o.dst=some d)(hd:dokN E nt o.dst=true)(hT:lkT E.tab T=some i)(hs:i.shape=.slc e esz eb)(he:lkT E.tab e=some ie)(hz:Nat.beq esz 0=false)(hn:Nat.ble (n*esz) 16777216=true)
  (hze:zhu ie.zero.cells.toList=true) (hz0:Nat.blt 0 ie.zero.cells.size=true) (hok:zje σ ps=true) (hcl:AV.closedL (l.map enc)=true) (hlen:(l.map enc).length=n) (hl:(l.map enc).all (fun x=>Nat.beq x.cells.length esz)=true)
  (hf:zqi (fun j=>some (j*esz,esz)) (replicate (n*esz) .any) (zh0 σ ps)=some ((l.map enc).flatMap AV.cells)) (hnn:σ.find d=none) (hk:∀ l',k l'=some r->K (.row d) (d::zjf (zh0 σ ps)) [(d,.row e esz (l'.map enc))]):OpX E nt o σ K :=
 .mk _ _ _ (fun cx hE hnt=>zoy ho hdst (z15 hd hE hnt) (by rw [hE];exact hT) hs (by rw [hE];exact he) (nbne hz) hn (zf3 hze) hz0 hok hcl hlen hl hf hnn) (hk l hF)
def bldS (l:List α)(k:List α->Option β):Option β:=k l
theorem OpX.bldS {l:List α}{r:β}(enc:α->AV){T n e esz eb:Nat}{ps:Array (Nat×Operand)}{i ie:TyI}(hF:Proofs.YtidhlpjgifoneaaGreat.bldS l k=some r)(ho:o.op=.buildSlice T n ps)(hd:dokN E nt o.dst=true)(hT:lkT E.tab T=some i)(hs:i.shape=.slc e esz eb)(he:lkT E.tab e=some ie)(hz:Nat.beq esz 0=false)(hn:Nat.ble (n*esz) 16777216=true)
  (hze:zhu ie.zero.cells.toList=true) (hz0:Nat.blt 0 ie.zero.cells.size=true) (hok:zje σ ps=true) (hcl:AV.closedL (l.map enc)=true) (hlen:(l.map enc).length=n) (hl:(l.map enc).all (fun x=>Nat.beq x.cells.length esz)=true)
  (hf:zqi (fun j=>some (j*esz,esz)) (replicate (n*esz) .any) (zh0 σ ps)=some ((l.map enc).flatMap AV.cells)) (hk:∀ l',k l'=some r->K (.sl esz (l'.map enc)) (zjf (zh0 σ ps)) []):OpX E nt o σ K :=
 .mk _ _ _ (fun cx hE hnt=>zvx ho (z15 hd hE hnt) (by rw [hE];exact hT) hs (by rw [hE];exact he) (nbne hz) hn (zf3 hze) hz0 hok hcl hlen hl hf) (hk l hF)
end
end Go.Proofs.YtidhlpjgifoneaaGreat
