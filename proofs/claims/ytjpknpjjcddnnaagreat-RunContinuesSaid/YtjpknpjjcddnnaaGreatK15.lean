/- The abstract walk: functions walked for contracts that say what becomes of memory that is given. The abstract walk: a range over a function: the statement, its rounds, and the function that holds it. The abstract walk: the rounds of a range over a function. -/
import Derived.Test.YtjpknpjjcddnnaaGreatK12
set_option linter.unusedVariables false
set_option linter.unusedSimpArgs false
namespace Go.Proofs.YtjpknpjjcddnnaaGreat
open Go.RowKit
def startG (args:List AV)(me:List (Nat×Ent)):AS:=⟨args.zipIdx.map fun p=>(p.2,p.1),me⟩
def boxB (np:Nat)(args:List AV)(τ:AS)(me me':List (Nat×Ent))(yk:List Nat):Bool:=me.all fun x=>match x.2 with
 |.box _ _=>memB x.1 yk || (List.range np).any fun t=>(match args[t]? with|some (.ptr k 0)=>Nat.beq k x.1|_=>false) && (match τ.get t,lkE me' x.1 with|.ptr k 0,some (.box _ _)=>Nat.beq k x.1|_,_=>false)
 |_=>true
def YK (np:Nat)(args:List AV)(τ:AS)(me':List (Nat×Ent)):List Nat->Prop
 |[]=>True
 |k::r=>((∃ (t t' i l:Nat) (T:Array Value) (caps caps':List AV) (ty:TypeId) (es:List AV),args[t]? = some (.yld l T caps)/\τ.get t'=.yld l T caps'/\caps[i]? = some (.ptr k 0)/\caps'[i]? = some (.ptr k 0)/\lkE me' k=some (.box ty es)) \/
   ∃ (t i f:Nat) (caps caps':List AV) (ty:TypeId) (es:List AV),t<np/\args[t]? = some (.fn f caps)/\τ.get t=.fn f caps'/\caps[i]? = some (.ptr k 0)/\caps'[i]? = some (.ptr k 0)/\lkE me' k=some (.box ty es))/\YK np args τ me' r
theorem YK.at {np:Nat}{args:List AV}{τ:AS}{me':List (Nat×Ent)}:∀ {l:List Nat},YK np args τ me' l->∀ k∈l,(∃ (t t' i l:Nat) (T:Array Value) (caps caps':List AV) (ty:TypeId) (es:List AV),args[t]? = some (.yld l T caps)/\τ.get t'=.yld l T caps'/\caps[i]? = some (.ptr k 0)/\caps'[i]? = some (.ptr k 0)/\lkE me' k=some (.box ty es)) \/
   ∃ (t i f:Nat) (caps caps':List AV) (ty:TypeId) (es:List AV),t<np/\args[t]? = some (.fn f caps)/\τ.get t=.fn f caps'/\caps[i]? = some (.ptr k 0)/\caps'[i]? = some (.ptr k 0)/\lkE me' k=some (.box ty es)
 |[],_,k,hk=>by cases hk
 |x::r,h,k,hk=>by
  rcases List.mem_cons.1 hk with rfl|hk
  ·exact h.1
  ·exact h.2.at k hk
inductive GX (E:Env) (nt:Nat) (fn:Func) (args:List AV) (me:List (Nat×Ent)) (σ:AS) (res:AV) (me':List (Nat×Ent)):Prop
 |mk (τ:AS) (hl:LeX E nt σ τ) (hme:τ.me=me') (avs:List AV) (h1:retA E.tab τ fn.results.toList=some avs) (h2:Sub (packA avs) res) (yk:List Nat) (hyk:YK E.np args τ me' yk) (hb:boxB E.np args τ me me' yk=true)
def EndG (E:Env)(nt:Nat)(fn:Func)(args:List AV)(me:List (Nat×Ent))(res:AV)(me':List (Nat×Ent)):Exit->AS->Prop
 |.normal,σ=>GX E nt fn args me σ res me'
 |.ret,σ=>GX E nt fn args me σ res me'
 |_,_=>False
theorem ConG.walk {E:Env}{f:FuncId}{fn:Func}{args caps:List AV}{me me':List (Nat×Ent)}{res:AV}(c:Code)(hf:E.P.funcs[f]? = some fn)(hb:fn.body=some c)(hn:Nat.ble (args++caps).length fn.ntmps=true)(hnp:Nat.ble E.np (args++caps).length=true)(hrg:E.rg=false)(hdr:E.dr=false)
  (h:AW E fn.ntmps (EndG E fn.ntmps fn (args++caps) me res me') [.code c] .normal (startG (args++caps) me)):ConG E.P E.yl (CalF E.P f caps.length) args caps me res me':=by
 intro cx γ w vs cs hP hdr0 hyl hnt0 hnp0 hme hvs hva hca hcs
 have hlen:(vs++cs).size=(args++caps).length:=by simp [hvs,hcs]
 have hn':=Nat.le_of_ble_eq_true hn
 have hnp':=Nat.le_of_ble_eq_true hnp
 refine callsIn_wide.1 (callsIn_of_wp (F:=Fence.wide) (n:=0) hf hb trivial ?_)
 let cx':Cx:=⟨E,cx.S0,cx.w0,fn.ntmps,fun b=>b<w.heap.size/\¬own γ b,w,none,vs++cs,fun _=>rfl⟩
 have h0:WP cx' c (EndG E fn.ntmps fn (args++caps) me res me') (startG (args++caps) me):=WP.mono (h.out cx' rfl rfl) fun e σ hk=>by cases e<;>exact hk
 have hrep:∀ t (ht:t<(args++caps).length),Rep w (Sg cx.S0 cx.w0.heap.size γ) γ (args++caps)[t] ((vs++cs).getD t undef):=fun t ht=>by
  by_cases h1:t<args.length
  ·rw [List.getElem_append_left h1,Array.getD_eq_getD_getElem?,Array.getElem?_append_left (by omega),<-Array.getD_eq_getD_getElem?]
   exact hva t h1
  ·rw [List.getElem_append_right (by omega),Array.getD_eq_getD_getElem?,Array.getElem?_append_right (by omega),<-Array.getD_eq_getD_getElem?,hvs]
   exact hca _ (by rw [List.length_append] at ht;omega)
 have hget:∀ t,t<(args++caps).length->(vs++cs++Array.replicate (fn.ntmps-(vs++cs).size) undef).getD t undef=(vs++cs).getD t undef:=fun t ht=>by
  rw [Array.getD_eq_getD_getElem?,Array.getD_eq_getD_getElem?,Array.getElem?_append_left (by omega)]
 have hst:StG cx' γ (startG (args++caps) me) { tmps:=vs++cs++Array.replicate (fn.ntmps-(vs++cs).size) undef,defers:=[] } w:=by
  refine ⟨fun t=>?_,hme.me,hme.inj,hme.ge,hme.below,?_,⟨fun _=>rfl,⟨[],rfl,.nil,fun r hr=>by cases hr⟩,fun t ht=>?_,fun l R hl=>hme.defers.yl l R (hyl _ hl),Nat.le_refl _⟩,hme.gh,fun b hb=>⟨hb.2,hb.1,rfl⟩,fun hd=>?_⟩
  ·unfold AS.get startG
   rw [lkV_zip]
   by_cases ht:0<=t/\t<0+(args++caps).length
   ·rw [dif_pos ht]
    have ht':t<(args++caps).length:=by omega
    show Rep w _ γ _ ((vs++cs++Array.replicate (fn.ntmps-(vs++cs).size) undef).getD t undef)
    rw [hget t ht']
    exact hrep t ht'
   ·rw [dif_neg ht];exact .any _
  ·show (vs++cs++Array.replicate (fn.ntmps-(vs++cs).size) undef).size=fn.ntmps
   rw [Array.size_append,Array.size_replicate];omega
  ·have ht':t<E.np:=ht
   exact hget t (by omega)
  ·exact absurd (hdr.symm.trans hd) (by simp)
 refine wpIn_mono (h0 _ _ ⟨γ,hst⟩) (fun e a w' ⟨σ,hq,hst0⟩=>?_)
 have key:GX E fn.ntmps fn (args++caps) me σ res me'->bodyPost E.P fn (fun e w'=>∃ u γ',e=.returned u/\MeSt cx γ' me' w'/\Rep w' (Sg cx.S0 cx.w0.heap.size γ') γ' res u/\w.heap.size<=w'.heap.size/\(∀ i ty es,lkE me i=some (.box ty es)->γ' i=γ i) /\
   (∀ b,¬own γ b->b<w.heap.size->w'.heap[b]? = w.heap[b]? /\ ¬own γ' b)) .ret a w':=by
  rintro ⟨τ,hl,hme',avs,h1,h2,yk,hyk,hbx⟩
  obtain ⟨γ',hs⟩:=hl cx' rfl rfl a w' hst0
  obtain ⟨u,hu,hr⟩:=zkc hs h1
  have hfr:∀ b,¬own γ b->b<w.heap.size->w'.heap[b]? = w.heap[b]? /\ ¬own γ' b:=fun b hb hlt=>by
   obtain ⟨q1,q2,q3⟩:=hs.fr b ⟨hlt,hb⟩
   exact ⟨q3,q1⟩
  have hsz:w.heap.size<=w'.heap.size:=hs.defers.sz
  refine ⟨hs.defers.d0 hrg,u,hu,u,γ',rfl,?_,hr.sub h2,hsz,fun i ty es hi=>?_,hfr⟩
  ·refine ⟨fun t=>.any _,fun i=>by have:=hs.me i;unfold AS.find at this ⊢;rw [<-hme'];exact this,hs.inj,hs.ge,hs.below,hnt0.symm,⟨fun _=>rfl,⟨[],rfl,.nil,fun r hr=>by cases hr⟩,fun t ht=>by rw [hnp0] at ht;omega,fun l R hl=>?_,Nat.le_trans hme.defers.sz hsz⟩,hs.gh,fun b hb=>?_,fun hd=>absurd (hdr0.symm.trans hd) (by simp)⟩
   ·obtain ⟨q0,q1,q2,q3⟩:=hme.defers.yl l R hl
    obtain ⟨k1,k2⟩:=hfr l q2 q1
    exact ⟨q0,by omega,k2,k1.trans q3⟩
   ·obtain ⟨q1,q2,q3⟩:=hme.fr b hb
    obtain ⟨k1,k2⟩:=hfr b q1 q2
    exact ⟨k2,by omega,k1.trans q3⟩
  ·have hb':=List.all_eq_true.1 hbx (i,.box ty es) (lkE_in hi)
   have hb':=(Bool.or_eq_true _ _).mp hb'
   rcases hb' with hb'|hb'
   ·rcases hyk.at i ((zcq _ _).1 hb') with ⟨t,t',j,l,T,yc,yc',ty',es',e1,e2,e3,e4,e5⟩|⟨t,j,f',yc,yc',ty',es',ht0,e1,e2,e3,e4,e5⟩
    ·obtain ⟨hlt,hat⟩:=List.getElem?_eq_some_iff.1 e1
     have r1:=hrep t hlt
     rw [hat] at r1
     have r2:=hs.tm t'
     rw [e2] at r2
     obtain ⟨hj,hja⟩:=List.getElem?_eq_some_iff.1 e3
     obtain ⟨hj',hja'⟩:=List.getElem?_eq_some_iff.1 e4
     have s1:=r1.yld_inv.2 j hj
     have s2:=r2.yld_inv.2 j hj'
     rw [hja] at s1
     rw [hja'] at s2
     have m1:=hme.me i
     unfold AS.find at m1
     rw [hi] at m1
     obtain ⟨x,hx,g,vs1,hd1,_⟩:=m1
     have m2:=hs.me i
     unfold AS.find at m2
     rw [hme',e5] at m2
     obtain ⟨x2,hx2,g2,vs2,hd2,_⟩:=m2
     subst hd1 hd2
     have p1:=s1.ptr_inv hx
     rw [s2.ptr_inv hx2] at p1
     injection p1 with p1
     injection p1 with p1
     injection p1 with p1
     rw [hx,hx2,p1]
    ·obtain ⟨hlt,hat⟩:=List.getElem?_eq_some_iff.1 e1
     have r1:=hrep t hlt
     rw [hat] at r1
     have r2:=hs.tm t
     rw [e2,hs.defers.pin t ht0] at r2
     obtain ⟨hj,hja⟩:=List.getElem?_eq_some_iff.1 e3
     obtain ⟨hj',hja'⟩:=List.getElem?_eq_some_iff.1 e4
     obtain ⟨us,ev1,_,s1⟩:=r1.fn_inv
     obtain ⟨us',ev2,_,s2⟩:=r2.fn_inv
     have p3:(vs++cs).getD t undef=cx'.pv.getD t undef:=rfl
     rw [p3,ev2] at ev1
     injection ev1 with _ _ ev1
     subst ev1
     have s1:=s1 j hj
     have s2:=s2 j hj'
     rw [hja] at s1
     rw [hja'] at s2
     have m1:=hme.me i
     unfold AS.find at m1
     rw [hi] at m1
     obtain ⟨x,hx,g,vs1,hd1,_⟩:=m1
     have m2:=hs.me i
     unfold AS.find at m2
     rw [hme',e5] at m2
     obtain ⟨x2,hx2,g2,vs2,hd2,_⟩:=m2
     subst hd1 hd2
     have p1:=s1.ptr_inv hx
     rw [s2.ptr_inv hx2] at p1
     injection p1 with p1
     injection p1 with p1
     injection p1 with p1
     rw [hx,hx2,p1]
   obtain ⟨t,ht,htb⟩:=List.any_eq_true.1 hb'
   rw [List.mem_range] at ht
   rw [Bool.and_eq_true] at htb
   obtain ⟨b1,b2⟩:=htb
   split at b1
   ·rename_i k hk
    have e1:k=i:=Nat.eq_of_beq_eq_true b1
    subst e1
    split at b2
    ·rename_i k2 ty2 es2 hk2 hk3
     have e2:k2=k:=Nat.eq_of_beq_eq_true b2
     subst e2
     obtain ⟨hlt,hat⟩:=List.getElem?_eq_some_iff.1 hk
     have r1:=hrep t hlt
     rw [hat] at r1
     have r2:=hs.tm t
     rw [hk2,hs.defers.pin t ht] at r2
     have m1:=hme.me k2
     unfold AS.find at m1
     rw [hi] at m1
     obtain ⟨x,hx,g,vs1,hd1,_⟩:=m1
     have m2:=hs.me k2
     unfold AS.find at m2
     rw [hme',hk3] at m2
     obtain ⟨x2,hx2,g2,vs2,hd2,_⟩:=m2
     subst hd1 hd2
     have p1:=r1.ptr_inv hx
     have p2:=r2.ptr_inv hx2
     have p3:(vs++cs).getD t undef=cx'.pv.getD t undef:=rfl
     rw [p3,p2] at p1
     injection p1 with p1
     injection p1 with p1
     injection p1 with p1
     rw [hx,hx2,p1]
    ·cases b2
   ·cases b1
 cases e with
 |normal=>exact key hq
 |ret=>exact key hq
 |_=>exact hq.elim
end Go.Proofs.YtjpknpjjcddnnaaGreat
namespace Go.Proofs.YtjpknpjjcddnnaaGreat
open Go.RowKit
theorem leaves_marks {cx:Cx}{γ:Gam}{σ:AS}{fn:Func}{R:Ending->World->Prop}:∀ (rs:List Nat) (a:Act) (w:World),StG cx γ σ a w->cx.E.rg=true->(∀ b,cx.Fr b->False)->cx.E.yl=none->a.defers=rs.map (fun r=>{ target:=.collected r,args:=#[] })->rs.Nodup ->
  (∀ r∈rs,cx.w0.heap.size<=r/\r<w.heap.size/\¬own γ r/\w.heap[r]? = some (.deferred (some []))) ->
  (∀ w' a',StG cx γ σ a' w'->a'.tmps=a.tmps->∃ v,(results fn a.tmps).run cx.P w'=.ok v w'/\R (.returned v) w')->LeavesInM Fence.wide 0 cx.P fn a.tmps R a.defers .returning w
 |[],a,w,h,hrg,hF,hyl,hd,_,_,k=>by
  rw [hd]
  obtain ⟨v,h1,h2⟩:=k w a h rfl
  exact ⟨v,h1,h2⟩
 |r::rs,a,w,h,hrg,hF,hyl,hd,hnd,hrs,k=>by
  obtain ⟨q1,q2,q3,q4⟩:=hrs r (List.mem_cons_self ..)
  rw [hd]
  refine ⟨by simp,Or.inl ⟨r,w.putObj r (.deferred none),rfl,run_takeDeferred q4,?_⟩⟩
  have hnd':=(List.nodup_cons.1 hnd)
  have hrs':∀ r'∈rs,cx.w0.heap.size<=r'/\r' < (w.putObj r (.deferred none)).heap.size/\¬own γ r'/\(w.putObj r (.deferred none)).heap[r']? = some (.deferred (some [])):=fun r' hr'=>by
   obtain ⟨p1,p2,p3,p4⟩:=hrs r' (List.mem_cons_of_mem _ hr')
   exact ⟨p1,by rw [z5l];exact p2,p3,(z2x (b:=r') (r:=r) (by intro e;subst e;exact hnd'.1 hr')).trans p4⟩
  have hst:=h.putObj (o':=.deferred none) (ds:=rs.map (fun r=>{ target:=.collected r,args:=#[] })) q4 rfl q1 q3
   ⟨fun hr0=>absurd (hr0.symm.trans hrg) (by simp),⟨rs,rfl,hnd'.2,hrs'⟩,h.defers.pin,fun l R hl=>absurd (hyl.symm.trans hl) (by simp),by rw [z5l];exact h.defers.sz⟩ (fun b hb=>(hF b hb).elim)
  exact leaves_marks rs _ _ hst hrg hF hyl rfl hnd'.2 hrs' (fun w' a' h1 h2=>k w' a' h1 (h2.trans rfl))
theorem Con.walkM {E:Env}{fr:Bool}{f:FuncId}{fn:Func}{args:List AV}{res:AV}(c:Code)(hf:E.P.funcs[f]? = some fn)(hb:fn.body=some c)(he:zde E f)(hn:Nat.ble args.length fn.ntmps=true)(hfr:fr=false\/res.flat=true)
  (h:AW E fn.ntmps (EndA E fn res) [.code c] .normal (start args)) (hrg:E.rg=true) (hyl:E.yl=none) (hnp:E.np=0):Con { E with rg:=false } fr f args res:=by
 refine ⟨he,fun S w vs ha=>callsIn_wide.1 (callsIn_of_wp_marks (F:=Fence.wide) (n:=0) hf hb trivial ?_)⟩
 have h0:WP (Cx.call E S w fn.ntmps) c (EndA E fn res) (start args):=WP.mono (h.out (Cx.call E S w fn.ntmps) rfl rfl) fun e σ hk=>by cases e<;>exact hk
 refine wpIn_mono (h0 _ _ (start_st hyl hnp ha (Nat.le_of_ble_eq_true hn))) (fun e a w' ⟨σ,hq,γ,hst⟩=>?_)
 have key:(∃ avs,retA E.tab σ fn.results.toList=some avs/\Sub (closeR σ (packA avs)) res)->bodyPostM Fence.wide 0 E.P fn (fun e w'=>∃ v,e=.returned v/\BelE { E with rg:=false } w w'/\Rep w' (fun b=>(fr=false/\S b)\/w.heap.size<=b) G0 res v) .ret a w':=by
  rintro ⟨avs,h1,hsub⟩
  obtain ⟨rs,m1,m2,m3⟩:=hst.defers.marks
  refine leaves_marks (cx:=Cx.call E S w fn.ntmps) rs a w' hst hrg (fun b hb=>hb.elim) hyl m1 m2 m3 (fun w2 a2 hst2 e2=>?_)
  obtain ⟨v,hv,hr⟩:=zkc hst2 h1
  rw [e2] at hv
  refine ⟨v,hv,v,rfl,⟨hst2.below,hst2.dr⟩,?_⟩
  have h2:=(closeR_rep (S':=fun b=>S b\/w.heap.size<=b) hst2 (fun b hb=>?_) hr).sub hsub
  ·rcases hfr with hfr|hfr
   ·exact h2.mono (Nat.le_refl _) (fun b hb _=>⟨rfl,hb.elim (fun h=>Or.inl ⟨hfr,h⟩) Or.inr⟩)
   ·exact h2.flat hfr
  ·rcases hb with hb|hb
   ·rcases hb with ⟨hb,_⟩|⟨hb,_⟩
    ·exact Or.inl hb.1
    ·exact Or.inr hb.1
   ·exact Or.inr (hst2.ge b hb).1.1
 cases e with
 |normal=>exact key (y1l hq)
 |ret=>exact key (y1l hq)
 |_=>exact hq.elim
end Go.Proofs.YtjpknpjjcddnnaaGreat
namespace Go.Proofs.YtjpknpjjcddnnaaGreat
open Go.RowKit
theorem set_rep {w:World}{S:Nat->Prop}{γ:Gam}:∀ (ps:List Nat) (avs:List AV) (vs:List Value) (T:Array Value) (base:List (Nat×AV)),(∀ t,Rep w S γ (lkV base t) (T.getD t undef))->(∀ p∈ps,p<T.size)->avs.length=ps.length->vs.length=ps.length ->
  (∀ i (hi:i<avs.length),Rep w S γ avs[i] (vs.getD i undef))->∀ t,Rep w S γ (lkV ((ps.zip avs).foldl (fun tm x=>x::tm) base) t) (((ps.zip vs).foldl (fun t x=>t.setIfInBounds x.1 x.2) T).getD t undef)
 |[],_,_,T,base,h0,_,_,_,_=>fun t=>h0 t
 |p::ps,[],_,T,base,_,_,h1,_,_=>by simp at h1
 |p::ps,av::avs,[],T,base,_,_,_,h2,_=>by simp at h2
 |p::ps,av::avs,v::vs,T,base,h0,hp,h1,h2,h3=>by
  simp only [List.zip_cons_cons,List.foldl_cons]
  refine set_rep ps avs vs _ _ (fun t=>?_) (fun q hq=>by rw [Array.size_setIfInBounds];exact hp q (List.mem_cons_of_mem _ hq)) (by simpa using h1) (by simpa using h2) (fun i hi=>by have:=h3 (i+1) (by simpa using hi);simpa using this)
  have hpT:=hp p (List.mem_cons_self ..)
  simp only [lkV]
  cases hb:Nat.beq p t with
  |true =>
   have:=Nat.eq_of_beq_eq_true hb
   subst this
   have h:=h3 0 (by simp)
   simp only [List.getElem_cons_zero,List.getD_cons_zero] at h
   simpa [hpT] using h
  |false =>
   have hne:p≠t:=Nat.ne_of_beq_eq_false hb
   have e:(T.setIfInBounds p v).getD t undef=T.getD t undef:=by
    rw [Array.getD_eq_getD_getElem?,Array.getElem?_setIfInBounds_ne hne,<-Array.getD_eq_getD_getElem?]
   rw [e];exact h0 t
theorem set_size:∀ (l:List (Nat×Value)) (T:Array Value),(l.foldl (fun t x=>t.setIfInBounds x.1 x.2) T).size=T.size
 |[],T=>rfl
 |x::l,T=>by rw [List.foldl_cons,set_size l,Array.size_setIfInBounds]
theorem set_other {t:Nat}:∀ (l:List (Nat×Value)) (T:Array Value),(∀ x∈l,x.1≠t)->(l.foldl (fun t x=>t.setIfInBounds x.1 x.2) T).getD t undef=T.getD t undef
 |[],T,_=>rfl
 |x::l,T,h=>by
  rw [List.foldl_cons,set_other l _ (fun y hy=>h y (List.mem_cons_of_mem _ hy)),Array.getD_eq_getD_getElem?,Array.getElem?_setIfInBounds_ne (h x (List.mem_cons_self ..)),<-Array.getD_eq_getD_getElem?]
def startR (ps:List Nat)(args ycaps:List AV)(me:List (Nat×Ent)):AS:=⟨(ps.zip args).foldl (fun tm x=>x::tm) (ycaps.zipIdx.map fun p=>(p.2,p.1)),me⟩
inductive BX (E:Env) (nt:Nat) (ycaps:List AV) (me:List (Nat×Ent)) (σ:AS) (me':List (Nat×Ent)):Prop
 |mk (τ:AS) (hl:LeX E nt σ τ) (hme:τ.me=me') (hb:boxB E.np ycaps τ me me' []=true)
def EndB (E:Env)(nt:Nat)(ycaps:List AV)(me me':List (Nat×Ent)):Exit->AS->Prop
 |.normal,σ=>BX E nt ycaps me σ me'
 |_,_=>False
theorem StG.putObjW {cx:Cx}{γ:Gam}{σ:AS}{a:Act}{w:World}(h:StG cx γ σ a w){r:Nat}{o o':Obj}(hr:w.heap[r]? = some o)(ho:o.isCells=false)(hB:cx.w0.heap.size<=r)(hno:¬own γ r)(hd:a.defers=[])(hyl:cx.E.yl=none)(hom:∀ es c,o≠.map es c:=by intro es c h;cases h):StG { cx with w1:=w.putObj r o' } γ σ a (w.putObj r o'):=by
 have hn:=no_cell (k:=0) hr ho
 have hnm:∀ es c,w.heap[r]? ≠ some (.map es c):=fun es c h=>by rw [hr] at h;injection h with h;exact hom es c h
 have hne:∀ b,own γ b->b≠r:=fun b hb e=>hno (e▸hb)
 refine ⟨fun t=>(h.tm t).putObj hn hnm,fun id=>?_,h.inj,fun b hb=>by rw [z5l];exact h.ge b hb,h.below.trans ⟨rfl,rfl,rfl,by rw [z5l];exact Nat.le_refl _,fun b hb=>z2x (by omega)⟩,h.size,
  ⟨fun _=>hd,⟨[],hd,.nil,fun r hr=>by cases hr⟩,h.defers.pin,fun l R hl=>absurd (hyl.symm.trans hl) (by simp),Nat.le_refl _⟩,fun b hb=>by rw [z5l];exact h.gh b hb,fun b hb=>?_,h.dr⟩
 ·have:=h.me id
  cases hf:σ.find id with
  |none=>rw [hf] at this;exact this
  |some e =>
   rw [hf] at this
   obtain ⟨x,hx,he⟩:=this
   exact ⟨x,hx,he.putObj hn hnm (fun b hb=>hne b ⟨id,x,hx,hb⟩)⟩
 ·obtain ⟨q1,q2,q3⟩:=h.fr b hb
  exact ⟨q1,by rw [z5l];exact q2,rfl⟩
theorem ConG.round {E:Env}{nt:Nat}{ps:Array Tmp}{assign body:Code}{args ycaps:List AV}{me me':List (Nat×Ent)}(hrg:E.rg=false)(hylE:E.yl=none)(hdr:E.dr=false)(hps:ps.toList.all (fun p=>Nat.ble E.np p && Nat.blt p nt)=true)(hlen:args.length=ps.size)(hcl:Nat.ble ycaps.length nt=true)
  (h:AW E nt (zuz (fun σ=>AW E nt (EndB E nt ycaps me me') [.code body] .normal σ) (fun _ _=>False)) [.code assign] .normal (startR ps.toList args ycaps me))
  (l D:Nat) (fn:FuncId) (T:Array Value) (hT:T.size=nt):ConG E.P (some (l,.loop (recR fn T ps assign body D))) (fun vs cs w R=>cs=T->CalY E.P l vs cs w R) args ycaps me (.bool true) me':=by
 intro cx γ w vs cs hP hdr0 hyl hnt0 hnp0 hme hvs hva hca hcs
 subst hcs
 have hyl':=hyl _ rfl
 obtain ⟨q0,q1,q2,q3⟩:=hme.defers.yl l _ hyl'
 refine ⟨fn,_,assign,body,run_yield (P:=E.P) (args:=vs) q3 (by rw [hvs,hlen]),roundIn_of_wpIn trivial ?_⟩
 have ef:(ps.zip vs).foldl (fun (t:Array Value) (x:Tmp×Value)=>t.setIfInBounds x.1 x.2) cs=(ps.toList.zip vs.toList).foldl (fun t x=>t.setIfInBounds x.1 x.2) cs:=by
  rw [<-Array.foldl_toList,Array.toList_zip]
 obtain ⟨tm,htm⟩:∃ tm,tm=(ps.toList.zip vs.toList).foldl (fun t x=>t.setIfInBounds x.1 x.2) cs:=⟨_,rfl⟩
 have etm:(ps.zip vs).foldl (fun (t:Array Value) (x:Tmp×Value)=>t.setIfInBounds x.1 x.2) cs=tm:=by rw [ef,htm]
 show assign.wpIn (Fence.wide.inRound l) 0 E.P _ { tmps:=(ps.zip vs).foldl (fun (t:Array Value) (x:Tmp×Value)=>t.setIfInBounds x.1 x.2) cs,defers:=[] } w
 rw [etm]
 have hps':∀ p∈ps.toList,E.np<=p/\p<nt:=fun p hp=>by
  have:=List.all_eq_true.1 hps p hp
  simpa using this
 let cxa:Cx:=⟨E,cx.S0,cx.w0,nt,fun b=>b<w.heap.size/\¬own γ b,w,some l,cs,fun h=>absurd (hrg.symm.trans h) (by simp)⟩
 have hst:StG cxa γ (startR ps.toList args ycaps me) { tmps:=tm,defers:=[] } w:=by
  refine ⟨fun t=>?_,hme.me,hme.inj,hme.ge,hme.below,by rw [htm];exact (set_size _ _).trans hT,⟨fun _=>rfl,⟨[],rfl,.nil,fun r hr=>by cases hr⟩,fun t ht=>?_,fun l R hl=>absurd (hylE.symm.trans hl) (by simp),Nat.le_refl _⟩,hme.gh,fun b hb=>⟨hb.2,hb.1,rfl⟩,fun hd=>absurd (hdr.symm.trans hd) (by simp)⟩
  ·rw [htm]
   refine set_rep ps.toList args vs.toList cs _ (fun t=>?_) (fun p hp=>by rw [hT];exact (hps' p hp).2) (by simpa using hlen) (by simp [hvs,hlen]) (fun i hi=>?_) t
   ·rw [lkV_zip]
    by_cases ht:0<=t/\t<0+ycaps.length
    ·rw [dif_pos ht];exact hca t (by omega)
    ·rw [dif_neg ht];exact .any _
   ·have:=hva i hi
    rwa [Array.getD_eq_getD_getElem?,<-Array.getElem?_toList,<-List.getD_eq_getElem?_getD] at this
  ·show tm.getD t undef=cs.getD t undef
   rw [htm]
   exact set_other _ _ (fun x hx e=>by have:=(hps' x.1 (List.of_mem_zip hx).1).1;have ht':t<E.np:=ht;omega)
 have hA:WP cxa assign (zuz (fun σ=>AW E nt (EndB E nt ycaps me me') [.code body] .normal σ) (fun _ _=>False)) (startR ps.toList args ycaps me):=WP.mono (h.out cxa rfl rfl) fun e σ hk=>by cases e<;>exact hk
 refine wpIn_mono (F:=Fence.wide.inRound l) (hA _ _ ⟨γ,hst⟩) (fun e a1 w1 ⟨σ1,hq1,hst1⟩=>?_)
 cases e with
 |normal =>
  obtain ⟨γ1,hs1⟩:=hst1
  obtain ⟨k1,k2,k3⟩:=hs1.fr l ⟨q1,q2⟩
  have k4:w1.heap[l]? = some (.loop (recR fn cs ps assign body D)):=k3.trans q3
  refine ⟨_,run_beginRound (P:=E.P) k4 rfl,?_⟩
  have hs2:=hs1.putObjW (o':=.loop { recR fn cs ps assign body D with state:=.busy }) k4 rfl q0 k1 (hs1.defers.d0 hrg) hylE
  generalize hw2:w1.putObj l (.loop { recR fn cs ps assign body D with state:=.busy })=w2 at hs2 ⊢
  have hB:WP { cxa with w1:=w2 } body (EndB E nt ycaps me me') σ1:=WP.mono ((show AW E nt (EndB E nt ycaps me me') [.code body] .normal σ1 from hq1).out { cxa with w1:=w2 } rfl rfl) fun e σ hk=>by cases e<;>exact hk
  refine wpIn_mono (F:=Fence.wide.inRound l) (hB _ _ ⟨γ1,hs2⟩) (fun e2 a2 w3 ⟨σ2,hq2,hst2⟩=>?_)
  cases e2 with
  |normal =>
   obtain ⟨τ,hl,hme',hbx⟩:=hq2
   obtain ⟨γ3,hs3⟩:=hl { cxa with w1:=w2 } rfl rfl a2 w3 hst2
   have hb2:w2.heap[l]? = some (.loop { recR fn cs ps assign body D with state:=.busy }):=by rw [<-hw2];exact World.putObj_heap_same k2
   obtain ⟨j1,j2,j3⟩:=hs3.fr l ⟨q1,q2⟩
   have j4:w3.heap[l]? = some (.loop { recR fn cs ps assign body D with state:=.busy }):=j3.trans hb2
   refine ⟨_,_,run_endRound (P:=E.P) none j4,?_⟩
   have hs4:=hs3.putObjW (o':=.loop (recR fn cs ps assign body D)) j4 rfl q0 j1 (hs3.defers.d0 hrg) hylE
   show ∃ u γ',_/\_
   have hw4:w3.putObj l (.loop { { recR fn cs ps assign body D with state:=.busy } with state:=if (none:Option Code).isNone=true then LoopState.ready else LoopState.done,pending:=none })=w3.putObj l (.loop (recR fn cs ps assign body D)):=rfl
   rw [hw4]
   have hr4:(w3.putObj l (.loop (recR fn cs ps assign body D))).heap[l]? = some (.loop (recR fn cs ps assign body D)):=World.putObj_heap_same j2
   generalize hwe:w3.putObj l (.loop (recR fn cs ps assign body D))=w4 at hs4 hr4 ⊢
   have z1:w.heap.size<=w1.heap.size:=hs1.defers.sz
   have z2:w1.heap.size=w2.heap.size:=by rw [<-hw2,z5l]
   have z3:w2.heap.size<=w3.heap.size:=hs3.defers.sz
   have z4:w3.heap.size=w4.heap.size:=by rw [<-hwe,z5l]
   have hfr:∀ b,¬own γ b->b<w.heap.size->w4.heap[b]? = w.heap[b]? /\ ¬own γ3 b:=fun b hb hlt=>by
    obtain ⟨p1,p2,p3⟩:=hs1.fr b ⟨hlt,hb⟩
    obtain ⟨r1,r2,r3⟩:=hs3.fr b ⟨hlt,hb⟩
    refine ⟨?_,r1⟩
    by_cases hbl:b=l
    ·subst hbl;exact hr4.trans q3.symm
    ·have e1:w4.heap[b]? = w3.heap[b]? := by rw [<-hwe];exact z2x hbl
     have e2:w2.heap[b]? = w1.heap[b]? := by rw [<-hw2];exact z2x hbl
     exact e1.trans (r3.trans (e2.trans p3))
   refine ⟨.bool true,γ3,rfl,⟨fun t=>.any _,fun i=>by have:=hs4.me i;unfold AS.find at this ⊢;rw [<-hme'];exact this,hs4.inj,hs4.ge,hs4.below,hnt0.symm,⟨fun _=>rfl,⟨[],rfl,.nil,fun r hr=>by cases hr⟩,fun t ht=>by rw [hnp0] at ht;omega,fun l' R' hl'=>?_,Nat.le_trans hme.defers.sz (by omega)⟩,hs4.gh,fun b hb=>?_,fun hd=>absurd (hdr0.symm.trans hd) (by simp)⟩,.bool _,by omega,fun i ty es hi=>?_,hfr⟩
   ·rw [hyl'] at hl'
    injection hl' with hl'
    injection hl' with e1 e2
    subst e1 e2
    exact ⟨q0,by omega,j1,hr4⟩
   ·obtain ⟨p1,p2,p3⟩:=hme.fr b hb
    obtain ⟨r1,r2⟩:=hfr b p1 p2
    exact ⟨r2,by omega,r1.trans p3⟩
   ·have hb':=List.all_eq_true.1 hbx (i,.box ty es) (lkE_in hi)
    have hb':=(Bool.or_eq_true _ _).mp hb'
    rcases hb' with hb'|hb'
    ·cases hb'
    obtain ⟨t,ht,htb⟩:=List.any_eq_true.1 hb'
    rw [List.mem_range] at ht
    rw [Bool.and_eq_true] at htb
    obtain ⟨b1,b2⟩:=htb
    split at b1
    ·rename_i k hk
     have e1:k=i:=Nat.eq_of_beq_eq_true b1
     subst e1
     split at b2
     ·rename_i k2 ty2 es2 hk2 hk3
      have e2:k2=k:=Nat.eq_of_beq_eq_true b2
      subst e2
      obtain ⟨hlt,hat⟩:=List.getElem?_eq_some_iff.1 hk
      have r1:=hca t hlt
      rw [hat] at r1
      have r2:=hs3.tm t
      rw [hk2,hs3.defers.pin t ht] at r2
      have m1:=hme.me k2
      unfold AS.find at m1
      rw [hi] at m1
      obtain ⟨x,hx,g,vs1,hd1,_⟩:=m1
      have m2:=hs3.me k2
      unfold AS.find at m2
      rw [hme',hk3] at m2
      obtain ⟨x2,hx2,g2,vs2,hd2,_⟩:=m2
      subst hd1 hd2
      have p1:=r1.ptr_inv hx
      have p2:cs.getD t undef=_:=r2.ptr_inv hx2
      rw [p2] at p1
      injection p1 with p1
      injection p1 with p1
      injection p1 with p1
      rw [hx,hx2,p1]
     ·cases b2
    ·cases b1
  |_=>exact hq2.elim
 |_=>exact hq1.elim
end Go.Proofs.YtjpknpjjcddnnaaGreat
