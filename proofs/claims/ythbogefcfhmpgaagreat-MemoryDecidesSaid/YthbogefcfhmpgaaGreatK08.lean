/- The abstract walk, fourteenth part. -/
import Derived.Test.YthbogefcfhmpgaaGreatK07
import Derived.Lib.AppendStr
import GoSem.Instr.MapEntry
set_option linter.unusedVariables false
set_option linter.unusedSimpArgs false
namespace Go.Proofs.YthbogefcfhmpgaaGreat
open Go.RowKit List
open Nat renaming eq_of_beq_eq_true->aA,le_refl->aB,mul_le_mul_right->aF,beq->aH,le_of_ble_eq_true->aK,sub_self->aT,succ_mul->aU
open Gam renaming set_self->aC,set_ne->aG
open List renaming getD_eq_getElem?_getD->aD,length_map->aJ,getElem_replicate->aN,map_cons->aQ,getElem_map->aR,getElem_append->aS,getElem?_map->aV,take_of_length_le->aW,replicate->aY
open _root_.Array renaming getD_eq_getD_getElem?->aE,length_toList->aM,toList_map->aX,range->bC,getD->bE
open Option renaming map_some->aL,map_none->aZ
open Or renaming inl->aO,inr->aP
open AS renaming find->bB,get->bD
def AS.freeze (σ:AS)(t r sz:Nat)(xs:List AV):AS:=⟨(t,.sl sz xs)::σ.tm,(r,.dead)::σ.me⟩
variable {E:Env}{nt:Nat}{σ:AS}
theorem LeX.freeze (t r ty sz:Nat)(xs:List AV)(ht:σ.get t=.row r)(hr:σ.find r=some (.row ty sz xs)):LeX E nt σ (σ.freeze t r sz xs):=fun cx hE hn a w ⟨γ,h⟩=>by
 have hme:=h.me r
 rw [hr] at hme
 obtain ⟨d,hd,he⟩:=hme
 have hown:∀ b,own (γ.set r none) b->own γ b/\∀ s,γ r≠some (some (some b,s)):=fun b ⟨i,s,hi,hm⟩=>by
  by_cases hir:i=r
  ·subst hir;rw [aC] at hi;injection hi with hi;subst hi;simp [blks] at hm
  ·rw [aG _ _ _ hir] at hi
   exact ⟨⟨i,s,hi,hm⟩,fun s' hs'=>hir (h.inj _ _ _ _ _ hi hs' hm Bh)⟩
 have hS:∀ b,Sg cx.S0 cx.w0.heap.size γ b->Sg cx.S0 cx.w0.heap.size (γ.set r none) b:=fun b hb=>hb.elim aO (fun ⟨h1,h2⟩=>aP ⟨h1,fun ho=>h2 (hown b ho).1⟩)
 have hg:∀ i x,γ i=some x->γ.set r none i=some x\/γ.set r none i=some none\/Turn (γ.set r none) i x:=fun i x hx=>by
  by_cases hir:i=r
  ·subst hir;exact aP (aO (aC _ _ _))
  ·exact aO (by rw [aG _ _ _ hir];exact hx)
 have mv:∀ {av v},Rep w (Sg cx.S0 cx.w0.heap.size γ) γ av v->Rep w (Sg cx.S0 cx.w0.heap.size (γ.set r none)) (γ.set r none) av v:=fun hv=>(hv.mono (aB _) (fun b hb _=>⟨rfl,hS b hb⟩)).gam hg
 refine ⟨γ.set r none,fun u=>?_,fun i=>?_,fun i j b s s' hi hj mi mj=>?_,fun b hb=>h.ge b (hown b hb).1,h.below,h.size,h.defers.gam (fun b hb=>(hown b hb).1),h.gh,fun b hb=>by obtain ⟨f2,f3,f4⟩:=h.fr b hb;exact ⟨fun ho=>f2 (hown b ho).1,f3,f4⟩,h.dr⟩
 ·by_cases hu:t=u
  ·subst hu
   have e:(σ.freeze t r sz xs).get t=.sl sz xs:=by simp [AS.freeze,bD,lkV]
   rw [e]
   have hv:=h.tm t
   rw [ht] at hv
   obtain ⟨s,hs,hrr⟩:=H0 (S':=Sg cx.S0 cx.w0.heap.size (γ.set r none)) he (fun b hb _=>hS b hb) (fun s g hg=>aP ⟨(h.ge g (own.mk (id:=r) (s:=s) (by rw [hd,hg]))).1,fun ho=>(hown g ho).2 s (by rw [hd,hg])⟩) (γ.set r none)
   subst hs
   rw [hv.row_inv hd]
   exact hrr
  ·have e:(σ.freeze t r sz xs).get u=σ.get u:=by
    unfold AS.freeze bD
    simp only [lkV]
    cases hb:aH t u with
    |true=>exact absurd (aA hb) hu
    |false=>rfl
   rw [e]
   exact mv (h.tm u)
 ·by_cases hi:r=i
  ·subst hi
   have e:(σ.freeze t r sz xs).find r=some .dead:=by simp [AS.freeze,bB,lkE]
   rw [e]
   exact ⟨none,aC _ _ _,rfl⟩
  ·have e:(σ.freeze t r sz xs).find i=σ.find i:=by
    unfold AS.freeze bB
    simp only [lkE]
    cases hb:aH r i with
    |true=>exact absurd (aA hb) hi
    |false=>rfl
   rw [e,aG _ _ _ (Ne.symm hi)]
   have:=h.me i
   cases hf:σ.find i with
   |none=>rw [hf] at this;exact this
   |some en =>
    rw [hf] at this
    obtain ⟨x,hx,he⟩:=this
    exact ⟨x,hx,he.move (aB _) (fun b hb _=>⟨rfl,hS b hb⟩) hg (fun _ _=>rfl)⟩
 ·have hir:i≠r:=fun e=>by subst e;rw [aC] at hi;injection hi with hi;subst hi;simp [blks] at mi
  have hjr:j≠r:=fun e=>by subst e;rw [aC] at hj;injection hj with hj;subst hj;simp [blks] at mj
  rw [aG _ _ _ hir] at hi
  rw [aG _ _ _ hjr] at hj
  exact h.inj _ _ _ _ _ hi hj mi mj
section
variable {E:Env} {nt:Nat} {R:Exit->AS->Prop}
theorem AW.weaken {c:Code}{K:List Ba}{τ:AS}(hl:LeX E nt σ τ)(h:AW E nt R (.code c::K) .normal τ):AW E nt R (.code c::K) .normal σ:=⟨fun cx hE hn=>WP.weaken (hl cx hE hn) (h.out cx hE hn)⟩
end
def Ent.frz (r sz:Nat)(xs:List AV):Ent->Ent
 |.box ty cs=>.box ty (AV.frzL r sz xs cs)
 |e=>e
def AS.frzAll (σ:AS)(r sz:Nat)(xs:List AV):AS:=⟨σ.tm.map fun p=>(p.1,p.2.frz r sz xs),(r,.dead)::σ.me.map fun p=>(p.1,p.2.frz r sz xs)⟩
theorem zrt (g:AV->AV)(h:g .any=.any)(l:List (Nat×AV))(t:Nat):lkV (l.map fun p=>(p.1,g p.2)) t=g (lkV l t):=by
 induction l with
 |nil=>simp [lkV,h]
 |cons p l ih =>
  obtain ⟨u,x⟩:=p
  simp only [aQ,lkV]
  cases aH u t<;>simp [ih]
theorem zry (g:Ent->Ent)(l:List (Nat×Ent))(t:Nat):lkE (l.map fun p=>(p.1,g p.2)) t=(lkE l t).map g:=by
 induction l with
 |nil=>simp [lkE]
 |cons p l ih =>
  obtain ⟨u,x⟩:=p
  simp only [aQ,lkE]
  cases aH u t<;>simp [ih]
theorem LeX.frzAll (r ty sz:Nat)(xs:List AV)(hr:σ.find r=some (.row ty sz xs)):LeX E nt σ (σ.frzAll r sz xs):=fun cx hE hn a w ⟨γ,h⟩=>by
 have hme:=h.me r
 rw [hr] at hme
 obtain ⟨d,hd,he⟩:=hme
 have hown:∀ b,own (γ.set r none) b->own γ b/\∀ s,γ r≠some (some (some b,s)):=fun b ⟨i,s,hi,hm⟩=>by
  by_cases hir:i=r
  ·subst hir;rw [aC] at hi;injection hi with hi;subst hi;simp [blks] at hm
  ·rw [aG _ _ _ hir] at hi
   exact ⟨⟨i,s,hi,hm⟩,fun s' hs'=>hir (h.inj _ _ _ _ _ hi hs' hm Bh)⟩
 have hS:∀ b,Sg cx.S0 cx.w0.heap.size γ b->Sg cx.S0 cx.w0.heap.size (γ.set r none) b:=fun b hb=>hb.elim aO (fun ⟨h1,h2⟩=>aP ⟨h1,fun ho=>h2 (hown b ho).1⟩)
 have hg:∀ i x,γ i=some x->γ.set r none i=some x\/γ.set r none i=some none\/Turn (γ.set r none) i x:=fun i x hx=>by
  by_cases hir:i=r
  ·subst hir;exact aP (aO (aC _ _ _))
  ·exact aO (by rw [aG _ _ _ hir];exact hx)
 obtain ⟨s,hs,hrr⟩:=H0 (S':=Sg cx.S0 cx.w0.heap.size (γ.set r none)) he (fun b hb _=>hS b hb) (fun s g hg=>aP ⟨(h.ge g (own.mk (id:=r) (s:=s) (by rw [hd,hg]))).1,fun ho=>(hown g ho).2 s (by rw [hd,hg])⟩) (γ.set r none)
 have mv:∀ {av v},Rep w (Sg cx.S0 cx.w0.heap.size γ) γ av v->Rep w (Sg cx.S0 cx.w0.heap.size (γ.set r none)) (γ.set r none) (av.frz r sz xs) v:=fun hv =>
  (hv.mono (aB _) (fun b hb _=>⟨rfl,hS b hb⟩)).frz (fun i x hi hx=>by rw [aG _ _ _ hi];exact hx) hd (aC _ _ _) (fun v hv=>by rw [hv _ _ hs hrr.sl_tup];exact hrr)
 refine ⟨γ.set r none,fun u=>?_,fun i=>?_,fun i j b s s' hi hj mi mj=>?_,fun b hb=>h.ge b (hown b hb).1,h.below,h.size,h.defers.gam (fun b hb=>(hown b hb).1),h.gh,fun b hb=>by obtain ⟨f2,f3,f4⟩:=h.fr b hb;exact ⟨fun ho=>f2 (hown b ho).1,f3,f4⟩,h.dr⟩
 ·have e:(σ.frzAll r sz xs).get u=(σ.get u).frz r sz xs:=zrt _ rfl _ _
  rw [e]
  exact mv (h.tm u)
 ·by_cases hi:r=i
  ·subst hi
   have e:(σ.frzAll r sz xs).find r=some .dead:=by simp [AS.frzAll,bB,lkE]
   rw [e]
   exact ⟨none,aC _ _ _,rfl⟩
  ·have e:(σ.frzAll r sz xs).find i=(σ.find i).map (Ent.frz r sz xs):=by
    unfold AS.frzAll bB
    simp only [lkE]
    cases hb:aH r i with
    |true=>exact absurd (aA hb) hi
    |false=>exact zry _ _ _
   rw [e,aG _ _ _ (Ne.symm hi)]
   have:=h.me i
   cases hf:σ.find i with
   |none=>rw [hf] at this;exact this
   |some en =>
    rw [hf] at this
    obtain ⟨x,hx,he⟩:=this
    cases en with
    |box ty cs =>
     obtain ⟨g,vs,h1,h2,h3,h4,h5⟩:=he
     exact ⟨x,hx,g,vs,h1,h2,by rw [h3,AV.frzL_length],fun i hi=>by
      have hi2:=hi
      rw [AV.frzL_length] at hi2
      rw [AV.frzL_at r sz xs _ i hi2]
      exact mv (h4 i hi2),h5⟩
    |_=>exact ⟨x,hx,he.move (aB _) (fun b hb _=>⟨rfl,hS b hb⟩) hg (fun _ _=>rfl)⟩
 ·have hir:i≠r:=fun e=>by subst e;rw [aC] at hi;injection hi with hi;subst hi;simp [blks] at mi
  have hjr:j≠r:=fun e=>by subst e;rw [aC] at hj;injection hj with hj;subst hj;simp [blks] at mj
  rw [aG _ _ _ hir] at hi
  rw [aG _ _ _ hjr] at hj
  exact h.inj _ _ _ _ _ hi hj mi mj
def Yo (σ:AS)(i:Nat):AV->AV
 |.row j=>match aH j i with
  |true=>.row j
  |false=>match σ.find j with|some (.row _ sz xs)=>.sl sz xs|_=>.any
 |x=>match x.closed with|true=>x|false=>.any
def Yn (σ:AS)(i:Nat):AV->AV
 |.agg cs=>.agg (cs.map (Yo σ i))
 |x=>Yo σ i x
def zsy (σ:AS)(i:Nat):AV->AV
 |.tup cs=>.tup (cs.map (Yn σ i))
 |x=>Yn σ i x
section
variable {cx:Cx} {σ:AS} {γ γ':Gam} {a:Act} {w:World} {S':Nat->Prop} {i:Nat} {x:Option (Option Nat×Value)}
variable {v:Value}
theorem zck (hst:StG cx γ σ a w)(hi:γ i=some x)(hi':γ' i=some x)(hS:∀ b,Sg cx.S0 cx.w0.heap.size γ b->S' b)(ho:∀ j b s,j≠i->γ j=some (some (some b,s))->S' b){av:AV}(h:Rep w (Sg cx.S0 cx.w0.heap.size γ) γ av v):Rep w S' γ' (Yo σ i av) v:=by
 have cl:∀ av v,Rep w (Sg cx.S0 cx.w0.heap.size γ) γ av v->Rep w S' γ' (match av.closed with|true=>av|false=>.any) v:=fun av v h=>by
  cases hc:av.closed with
  |true=>exact (h.close hc).mono (aB _) (fun b hb _=>⟨rfl,hS b hb⟩)
  |false=>exact .any _
 cases av with
 |row j =>
  simp only [Yo]
  cases hb:aH j i with
  |true =>
   have:=aA hb
   subst this
   cases h with
   |row h hv=>rw [hi] at h;injection h with h;subst h;exact .row hi' hv
  |false =>
   have hji:=Nat.ne_of_beq_eq_false hb
   simp only
   have hme:=hst.me j
   cases hf:σ.find j with
   |none=>exact .any _
   |some e =>
    cases e with
    |row ty sz xs =>
     rw [hf] at hme
     obtain ⟨d,hd,he⟩:=hme
     obtain ⟨s,hs,hrr⟩:=H0 (S':=S') he (fun b hb _=>hS b hb) (fun s g hg=>ho j g s hji (by rw [hd,hg])) γ'
     subst hs
     rw [h.row_inv hd]
     exact hrr
    |_=>exact .any _
 |_=>exact cl _ _ h
theorem zcj (hst:StG cx γ σ a w)(hi:γ i=some x)(hi':γ' i=some x)(hS:∀ b,Sg cx.S0 cx.w0.heap.size γ b->S' b)(ho:∀ j b s,j≠i->γ j=some (some (some b,s))->S' b){av:AV}(h:Rep w (Sg cx.S0 cx.w0.heap.size γ) γ av v):Rep w S' γ' (Yn σ i av) v:=by
 cases av with
 |agg cs =>
  obtain ⟨vs,rfl,hl,hr,h1⟩:=h.agg_inv
  simp only [Yn]
  refine .agg vs (by simpa using hl) (fun k hk=>?_) h1
  have hk':k<cs.length:=by simpa using hk
  simp only [aR]
  exact zck hst hi hi' hS ho (hr k hk')
 |_=>exact zck hst hi hi' hS ho h
theorem zpm (hst:StG cx γ σ a w)(hi:γ i=some x)(hi':γ' i=some x)(hS:∀ b,Sg cx.S0 cx.w0.heap.size γ b->S' b)(ho:∀ j b s,j≠i->γ j=some (some (some b,s))->S' b){av:AV}(h:Rep w (Sg cx.S0 cx.w0.heap.size γ) γ av v):Rep w S' γ' (zsy σ i av) v:=by
 cases av with
 |tup cs =>
  obtain ⟨vs,rfl,hl,hr⟩:=h.tup_inv
  simp only [zsy]
  refine .tup vs (by simpa using hl) (fun k hk=>?_)
  have hk':k<cs.length:=by simpa using hk
  simp only [aR]
  exact zcj hst hi hi' hS ho (hr k hk')
 |_=>exact zcj hst hi hi' hS ho h
end
inductive TX (E:Env) (nt:Nat) (fn:Func) (σ:AS) (ty sz:Nat) (xs:List AV) (res:AV):Prop
 |mk (τ:AS) (i:Nat) (hl:LeX E nt σ τ) (avs:List AV) (h1:retA E.tab τ fn.results.toList=some avs) (h2:τ.find i=some (.row ty sz xs)) (h3:Sub (zsy τ i (Oe avs)) (res.ren fun _=>i))
def EndT (E:Env)(nt:Nat)(fn:Func)(ty sz:Nat)(xs:List AV)(res:AV):Exit->AS->Prop
 |.normal,σ=>TX E nt fn σ ty sz xs res
 |.ret,σ=>TX E nt fn σ ty sz xs res
 |_,_=>False
variable {xs:List AV}{ty sz:Nat}
theorem ConT.walk {f:FuncId}{fn:Func}{args:List AV}{res:AV}(c:Code)(hf:E.P.funcs[f]? = some fn)(hb:fn.body=some c)(he:C6 E f)(hn:Nat.ble args.length fn.ntmps=true)(hres:res.inM [0]=true)
  (h:AW E fn.ntmps (EndT E fn.ntmps fn ty sz xs res) [.code c] .normal (F6 args)) (hrg:E.rg=false:=by rfl) (hyl:E.yl=none:=by rfl) (hnp:E.np=0:=by rfl)(hrg:E.rg=false:=by rfl) (hyl:E.yl=none:=by rfl) (hnp:E.np=0:=by rfl):ConT E f args ty sz xs res:=by
 refine ⟨he,hres,fun S w vs ha=>callsIn_wide.1 (callsIn_of_wp (F:=Fence.wide) (n:=0) hf hb trivial ?_)⟩
 have h0:WP (Cx.call E S w fn.ntmps) c (EndT E fn.ntmps fn ty sz xs res) (F6 args):=WP.mono (h.out (Cx.call E S w fn.ntmps) rfl rfl) fun e σ hk=>by cases e<;>exact hk
 refine wpIn_mono (h0 _ _ (Y2 hyl hnp ha (aK hn))) (fun e a w' ⟨σ,hq,hst0⟩=>?_)
 have key:TX E fn.ntmps fn σ ty sz xs res->bodyPost E.P fn (fun e w'=>∃ u v us,e=.returned u/\Below w.heap.size w w'/\w'.ownsRow w.heap.size ty sz v xs.length us /\
  (∀ k (hk:k<xs.length),(xs[k]).cells.length=sz)/\(∀ k (hk:k<xs.length) j (hj:j<(xs[k]).cells.length),Rep w' (fun b=>(S b\/w.heap.size<=b)/\v.ownBlock≠some b) G0 ((xs[k]).cells[j]) (us.getD (k*sz+j) undef))/\(∀ u∈us,u.oneCell'=true) /\
  ∀ γ':Gam,γ' 0=some (some (v.ownBlock,v))->Rep w' (fun b=>(S b\/w.heap.size<=b)/\v.ownBlock≠some b) γ' res u) .ret a w':=by
  rintro ⟨τ,i,hl,avs,h1,h2,h3⟩
  obtain ⟨γ,hst⟩:=hl (Cx.call E S w fn.ntmps) rfl rfl a w' hst0
  obtain ⟨u,hu,hr⟩:=Uk hst h1
  have hme:=hst.me i
  rw [h2] at hme
  obtain ⟨d,hd,s,us,hde,hone,hown,hlen,hrr,hone2⟩:=hme
  subst hde
  have hS:∀ b,Sg (fun b=>S b/\b<w.heap.size) w.heap.size γ b->(S b\/w.heap.size<=b)/\s.ownBlock≠some b:=fun b hb=>by
   refine ⟨?_,fun e=>?_⟩
   ·rcases hb with ⟨hb,_⟩|⟨hb,_⟩
    ·exact aO hb.1
    ·exact aP hb.1
   ·have ho:own γ b:=own.mk (id:=i) (s:=s) (by rw [hd,e])
    rcases hb with ⟨_,hb⟩|⟨_,hb⟩
    ·have:=(hst.ge b ho).1.1;exact absurd hb (by show ¬b<w.heap.size;exact Nat.not_lt.2 this)
    ·exact hb ho
  refine ⟨hst.defers.d0 hrg,u,hu,u,s,us,rfl,hst.below,hown,hlen,fun k hk j hj=>(hrr k hk j hj).mono (aB _) (fun b hb _=>⟨rfl,hS b hb⟩),hone2,fun γ' hγ'=>?_⟩
  have hc:=zpm (S':=fun b=>(S b\/w.heap.size<=b)/\s.ownBlock≠some b) (γ':=fun j=>if j=i then γ i else none) hst hd (by simp [hd]) hS (fun j b s' hj hb=>⟨aP (hst.ge b (own.mk hb)).1.1,fun e=>hj (hst.inj _ _ _ _ _ hb hd Bh (by rw [e];exact Bh))⟩) hr
  exact (hc.sub h3).ren (ids:=[0]) (ρ:=fun _=>i) (fun id hid=>by
   have:id=0:=by simpa using hid
   subst this
   rw [hγ']
   simp [hd]) res rfl hres
 cases e with
 |normal=>exact key hq
 |ret=>exact key hq
 |_=>exact hq.elim
section
variable {α β γ δ:Type}
def cnd (b:Bool)(x y:Option β):Option β:=match b with|true=>x|false=>y
def idx (l:List α)(n:Int)(k:α->Option β):Option β:=if 0<=n then (match l[n.toNat]? with|some x=>k x|none=>none) else none
def nat (n:Int)(len:Nat)(k:Nat->Option β):Option β:=if 0<=n/\n.toNat<len then k n.toNat else none
def ltx (m len:Nat)(x:Option β):Option β:=if m<len then x else none
def elt (l:List α)(m:Nat)(k:α->Option β):Option β:=match l[m]? with|some x=>k x|none=>none
def slc (len:Nat)(lo hi:Int)(k:Nat->Nat->Option β):Option β:=if 0<=lo/\lo<=hi/\hi<=(len:Int) then k lo.toNat hi.toNat else none
def sls (l:List α)(lo hi:Int)(k:List α->Option β):Option β:=if 0<=lo/\lo<=hi/\hi<=(l.length:Int) then k ((l.take hi.toNat).drop lo.toNat) else none
def app (l m:List α)(bytes:Nat)(k:List α->Option β):Option β:=if l.length+m.length<=1099511627776/\(l.length+m.length)*bytes<=140737488355328 then k (l++m) else none
def mak (n:Int)(bytes:Nat)(z:α)(k:List α->Option β):Option β:=if 0<=n/\n.toNat<=1099511627776/\bytes*n.toNat<=281474976710656 then k (aY n.toNat z) else none
def stx (l:List α)(m:Nat)(f:α->α)(k:List α->Option β):Option β:=match l[m]? with|some x=>k (l.set m (f x))|none=>none
variable {κ ν:Type}
def mlk [DecidableEq κ]:List (κ×ν)->κ->Option ν
 |[],_=>none
 |(a,v)::r,k=>if k=a then some v else mlk r k
def mput [DecidableEq κ]:List (κ×ν)->κ->ν->List (κ×ν)
 |[],k,v=>[(k,v)]
 |(a,x)::r,k,v=>if k=a then (k,v)::r else (a,x)::mput r k v
def mgt [DecidableEq κ](l:List (κ×ν))(k:κ)(z:ν)(c:ν->Bool->Option β):Option β:=c ((mlk l k).getD z) (mlk l k).isSome
def mst [DecidableEq κ](l:List (κ×ν))(k:κ)(v:ν)(c:List (κ×ν)->Option β):Option β:=c (mput l k v)
def nzx (b:Int)(x:Option β):Option β:=if b=0 then none else x
def psx (b:Int)(x:Option β):Option β:=if 0<b then x else none
def shx (b:Int)(x:Option β):Option β:=if 0<=b then x else none
def bnd (o:Option α)(k:α->Option β):Option β:=match o with|some a=>k a|none=>none
def frz (id:Nat)(x:Option β):Option β:=x
def reg (x:Option β):Option β:=x
variable {x y:Option β}{r:β}
theorem A4.o {b:Bool}{p q:Prop}(h:cnd b x y=some r)(h1:x=some r->p)(h2:y=some r->q):A4 b p q:=⟨fun e=>h1 (by subst e;exact h),fun e=>h2 (by subst e;exact h)⟩
variable {l:List α}{n:Int}{K:AV->Prop}{k:α->Option β}
theorem IdxX.o (enc:α->AV)(h:idx l n k=some r)(hk:∀ x,k x=some r->K (enc x)):IdxX (l.map enc) n K:=by
 unfold idx at h
 split at h
 ·rename_i hn
  split at h
  ·rename_i x hx
   exact .mk n.toNat (enc x) (by omega) (by rw [aV,hx];rfl) (hk x h)
  ·cases h
 ·cases h
theorem IdxX.o2 {u v:AV}(h:cnd (decide (n=0)) x (cnd (decide (n=1)) y none)=some r)(h0:x=some r->K u)(h1:y=some r->K v):IdxX [u,v] n K:=by
 unfold cnd at h
 split at h
 ·rename_i e;exact .mk 0 u (of_decide_eq_true e) rfl (h0 h)
 ·split at h
  ·rename_i e;exact .mk 1 v (of_decide_eq_true e) rfl (h1 h)
  ·cases h
theorem Km (a b:ByteArray):(a.toList == b.toList)=decide (a=b):=by
 rw [<-zcn,Bool.eq_iff_iff,MapKept.bytes_beq];simp
variable {len:Nat}
theorem NatX.o {K:Nat->Prop}{k:Nat->Option β}(h:nat n len k=some r)(hk:∀ m,k m=some r->K m):NatX n len K:=by
 unfold nat at h
 split at h
 ·rename_i hn
  exact .mk n.toNat (by omega) hn.2 (hk _ h)
 ·cases h
theorem NatX.o2 {K:Nat->Prop}(h:cnd (decide (n=0)) x (cnd (decide (n=1)) y none)=some r)(h0:x=some r->K 0)(h1:y=some r->K 1):NatX n 2 K:=by
 unfold cnd at h
 split at h
 ·rename_i e;exact .mk 0 (of_decide_eq_true e) (by omega) (h0 h)
 ·split at h
  ·rename_i e;exact .mk 1 (of_decide_eq_true e) (by omega) (h1 h)
  ·cases h
theorem NatX.o3 {K:Nat->Prop}{z:Option β}(h:cnd (decide (n=0)) x (cnd (decide (n=1)) y (cnd (decide (n=2)) z none))=some r)(h0:x=some r->K 0)(h1:y=some r->K 1)(h2:z=some r->K 2):NatX n 3 K:=by
 unfold cnd at h
 split at h
 ·rename_i e;exact .mk 0 (of_decide_eq_true e) (by omega) (h0 h)
 ·split at h
  ·rename_i e;exact .mk 1 (of_decide_eq_true e) (by omega) (h1 h)
  ·split at h
   ·rename_i e;exact .mk 2 (of_decide_eq_true e) (by omega) (h2 h)
   ·cases h
theorem LtX.o {m:Nat}{K:Prop}(h:ltx m len x=some r)(hk:x=some r->K):LtX m len K:=by
 unfold ltx at h
 split at h
 ·rename_i hm;exact .mk hm (hk h)
 ·cases h
theorem EltX.o (enc:α->AV){m:Nat}(h:elt l m k=some r)(hk:∀ x,k x=some r->K (enc x)):EltX (l.map enc) m K:=by
 unfold elt at h
 split at h
 ·rename_i x hx;exact .mk (enc x) (by rw [aV,hx];rfl) (hk x h)
 ·cases h
theorem SlcX.o {lo hi:Int}{K:Nat->Nat->Prop}{k:Nat->Nat->Option β}(h:slc len lo hi k=some r)(hk:∀ l h,k l h=some r->K l h):SlcX len lo hi K:=by
 unfold slc at h
 split at h
 ·rename_i hn;exact .mk lo.toNat hi.toNat (by omega) (by omega) (by omega) (by omega) (hk _ _ h)
 ·cases h
theorem SlsX.o (enc:α->AV){lo hi:Int}{K:List AV->Prop}{k:List α->Option β}(h:sls l lo hi k=some r)(hk:∀ l',k l'=some r->K (l'.map enc)):SlsX (l.map enc) lo hi K:=by
 unfold sls at h
 split at h
 ·rename_i hn;exact .mk lo.toNat hi.toNat (by omega) (by omega) (by omega) (by rw [aJ];omega) _ (by rw [map_drop,map_take]) (hk _ h)
 ·cases h
variable {bytes:Nat}
theorem AppX.o {m:List α}(enc:α->AV){ys:List AV}{K:List AV->Prop}{k:List α->Option β}(h:app l m bytes k=some r)(hs:SubR ys (m.map enc))(hk:∀ l',k l'=some r->K (l'.map enc)):AppX ((l.map enc).length+ys.length) bytes (l.map enc++ys) K:=by
 have hl:=hs.len
 unfold app at h
 split at h
 ·rename_i hn
  exact .sub ((l++m).map enc) (by rw [map_append];exact .append (.refl _) hs) (by rw [aJ,hl,aJ];exact hn.1) (by rw [aJ,hl,aJ];exact hn.2) (hk _ h)
 ·cases h
theorem AppX.o0 {m:List α}(enc:α->AV){ys:List AV}{K:List AV->Prop}{k:List α->Option β}(h:app [] m bytes k=some r)(hs:SubR ys (m.map enc))(hk:∀ l',k l'=some r->K (l'.map enc)):AppX ys.length bytes ys K:=by
 have hl:=hs.len
 unfold app at h
 split at h
 ·rename_i hn;exact .sub (m.map enc) hs (by rw [hl,aJ];simpa using hn.1) (by rw [hl,aJ];simpa using hn.2) (hk _ h)
 ·cases h
theorem MakX.o {z:α}(enc:α->AV){y:AV}{K:List AV->Prop}{k:List α->Option β}(h:mak n bytes z k=some r)(hs:SubL y.cells (enc z).cells)(hk:∀ l',k l'=some r->K (l'.map enc)):MakX n bytes y K:=by
 unfold mak at h
 split at h
 ·rename_i hn;exact .mk n.toNat (by omega) hn.2.1 hn.2.2 _ (by rw [map_replicate];exact .replicate hs _) (hk _ h)
 ·cases h
theorem SetX.o (enc:α->AV){f:α->α}{m j n:Nat}{av:AV}{ok:AV->Bool}{put:AV->AV}{K:List AV->Prop}{k:List α->Option β}(h:stx l m f k=some r)(hok:∀ x,ok (enc x)=true)(hput:∀ x,SubL (put (enc x)).cells (enc (f x)).cells)(hk:∀ l',k l'=some r->K (l'.map enc)):SetX (l.map enc) m j n av ok put K:=by
 unfold stx at h
 split at h
 ·rename_i x hx;exact .mk (enc x) (by rw [aV,hx];rfl) (hok x) _ (by rw [map_set];exact .set (hput x) _ _) (hk _ h)
 ·cases h
theorem ShX.o {b:Int}{K:Prop}(h:shx b x=some r)(hk:x=some r->K):ShX b K:=by
 unfold shx at h
 split at h
 ·rename_i hb;exact .mk hb (hk h)
 ·cases h
def encM (encK:κ->AV)(encV:ν->AV)(p:κ×ν):AV×AV:=(encK p.1,encV p.2)
theorem zc6 [DecidableEq κ](encK:κ->AV)(encV:ν->AV)(he:∀ a b,eqK (encK a) (encK b)=some (decide (a=b)))(k:κ):∀ (l:List (κ×ν)) (i:Nat),
  ∃ r,Be (encK k) ((l.map (encM encK encV)).map (·.1)) i=some r/\r.isSome=(mlk l k).isSome/\(∀ j,r=some j->i<=j/\∃ v,mlk l k=some v/\((l.map (encM encK encV)).getD (j-i) default).2=encV v) /\
   ∀ (v:ν) (x:AV),Sub x (encV v)->SubM (putK (r.map (· - i)) (encK k) x (l.map (encM encK encV))) ((mput l k v).map (encM encK encV))
 |[],i=>⟨none,rfl,rfl,fun j h=>(by cases h),fun v x hs=>.cons _ hs .nil⟩
 |(a,v)::r,i=>by
  simp only [aQ,encM,Be,he,mlk,mput]
  by_cases hk:k=a
  ·subst hk
   simp only [decide_true]
   refine ⟨some i,rfl,by simp,fun j hj=>?_,fun v' x hs=>?_⟩
   ·injection hj with hj;subst hj;exact ⟨aB _,v,by simp,by simp⟩
   ·simp only [if_true,aL,aT,putK,set_cons_zero,aQ]
    exact .cons _ hs (.refl _)
  ·rw [decide_eq_false hk]
   obtain ⟨q,h1,h2,h3,h4⟩:=zc6 encK encV he k r (i+1)
   refine ⟨q,h1,by rw [h2,if_neg hk],fun j hj=>?_,fun v' x hs=>?_⟩
   ·obtain ⟨g1,v',g2,g3⟩:=h3 j hj
    refine ⟨by omega,v',by rw [if_neg hk];exact g2,?_⟩
    rw [show j-i=(j-(i+1))+1 by omega,getD_cons_succ]
    exact g3
   ·have:=h4 v' x hs
    rw [if_neg hk]
    cases q with
    |none=>exact .cons _ (.refl _) this
    |some j =>
     obtain ⟨g1,_⟩:=h3 j rfl
     simp only [aL,putK] at this ⊢
     rw [show j-i=(j-(i+1))+1 by omega,set_cons_succ]
     exact .cons _ (.refl _) this
theorem LkX.o [DecidableEq κ]{l:List (κ×ν)}{k:κ}{z:ν}{P:Program}{kt:Nat}{zA:AV}{K:AV->Bool->Prop}{c:ν->Bool->Option β}(encK:κ->AV)(encV:ν->AV)(h:mgt l k z c=some r)(hk:Bc P kt (encK k)=true)(he:∀ a b,eqK (encK a) (encK b)=some (decide (a=b)))(hz:Sub zA (encV z))
  (hc:∀ v b,c v b=some r->K (encV v) b):LkX P kt (encK k) (l.map (encM encK encV)) zA K:=by
 obtain ⟨q,h1,h2,h3,_⟩:=zc6 encK encV he k l 0
 refine .mk q (encV ((mlk l k).getD z)) (mlk l k).isSome hk h1 h2 ?_ (hc _ _ h)
 cases q with
 |none =>
  have:mlk l k=none:=by cases hm:mlk l k with
   |none=>rfl
   |some v=>rw [hm] at h2;cases h2
  rw [this]
  exact hz
 |some j =>
  obtain ⟨_,v,g2,g3⟩:=h3 j rfl
  rw [g2,Option.getD_some,<-g3]
  exact .refl _
theorem UpX.o [DecidableEq κ]{l:List (κ×ν)}{k:κ}{v:ν}{P:Program}{kt:Nat}{x:AV}{K:List (AV×AV)->Prop}{c:List (κ×ν)->Option β}(encK:κ->AV)(encV:ν->AV)(h:mst l k v c=some r)(hk:Bc P kt (encK k)=true)(he:∀ a b,eqK (encK a) (encK b)=some (decide (a=b)))(hx:Sub x (encV v))
  (hc:∀ l',c l'=some r->K (l'.map (encM encK encV))):UpX P kt (encK k) x (l.map (encM encK encV)) K:=by
 obtain ⟨q,h1,_,_,h4⟩:=zc6 encK encV he k l 0
 refine .mk q _ hk h1 ?_ (hc _ h)
 have:=h4 v x hx
 cases q with
 |none=>exact this
 |some j=>exact this
theorem PosX.o {b:Int}{K:Prop}(h:psx b x=some r)(hk:x=some r->K):PosX b K:=by
 unfold psx at h
 split at h
 ·rename_i hb;exact .mk hb (hk h)
 ·cases h
theorem NzX.o {b:Int}{K:Prop}(h:nzx b x=some r)(hk:x=some r->K):NzX b K:=by
 unfold nzx at h
 split at h
 ·cases h
 ·rename_i hb;exact .mk hb (hk h)
section
variable {E:Env} {nt:Nat} {f:FuncId} {avs:List AV}
variable {find:Nat->Option Ent}{KR:AV->List Nat->List (Nat×Ent)->Prop}
theorem Af.o {o:Option α}{fr:Bool}{R:Nat->Nat->List AV->AV->Prop}(h:bnd o k=some r)(enc:α->AV)(hc:∀ a,o=some a->Con E fr f avs (enc a))(hk:∀ a,k a=some r->K (enc a)):Af E f avs K R find KR:=by
 unfold bnd at h
 split at h
 ·exact .mk fr _ (hc _ rfl) (hk _ h)
 ·cases h
theorem B4.o {o:Option α}{fr:Bool}{raw:List AV}{dst:Option Nat}(h:bnd o k=some r)(enc:α->AV)(hc:∀ a,o=some a->Con E fr f avs (enc a))(hf:∀ a,fr=true\/(enc a).flat=true)(hk:∀ a,k a=some r->K (enc a)):B4 E f avs K raw find dst KR:=by
 unfold bnd at h
 split at h
 ·exact .mk fr _ (hc _ rfl) (hf _) (hk _ h)
 ·cases h
theorem Av.o {V:Type}{L:Nat->V->Option β}{S:V->AS}{F:(AS->Prop)->AS->Prop}{n:Nat}{v0:V}(h:L n v0=some r)(hz:∀ v,L 0 v=none)(hl:LeX E nt σ (S v0))(round:∀ m v,L (m+1) v=some r->F (fun σ'=>∃ v',L m v'=some r/\LeX E nt σ' (S v')) (S v))
  (mono:∀ (P Q:AS->Prop) σ,(∀ σ,P σ->Q σ)->F P σ->F Q σ):Av E nt F σ:=by
 refine .mk (fun m σ=>∃ v,L m v=some r/\σ=S v) n (S v0) hl ⟨v0,h,rfl⟩ ?_
 rintro m σ ⟨v,hv,rfl⟩
 cases m with
 |zero=>rw [hz] at hv;cases hv
 |succ m =>
  refine mono _ _ _ (fun σ' ⟨v',h1,h2⟩=>?_) (round m v hv)
  exact ⟨m,S v',h2,Nat.lt_succ_self _,v',h1,rfl⟩
end
theorem RetX.o {v:AV}{a:β}{enc:β->AV}(h:some a=some r)(hs:Sub v (enc a)):RetX v (enc r):=by injection h with h;subst h;exact .sub hs
theorem TX.o {fn:Func}{a:β}{rl:β->List AV}{res:β->AV}(h:some a=some r)(hk:TX E nt fn σ ty sz (rl a) (res a)):TX E nt fn σ ty sz (rl r) (res r):=by injection h with h;subst h;exact hk
end
section
variable {E:Env} {nt:Nat}
theorem AW.mono1 {c:Code}{K:Exit->AS->Prop}{P Q:AS->Prop}(h:∀ σ,P σ->Q σ)(k:AW E nt (Cu P K) [.code c] .normal σ):AW E nt (Cu Q K) [.code c] .normal σ:=⟨fun cx hE hn=>WP.mono (k.out cx hE hn) (fun e σ' hq=>by cases e<;>first|exact h _ hq|exact hq)⟩
end
section
variable {β V:Type} {E:Env} {nt:Nat} {R:Exit->AS->Prop} {K:List Ba}
theorem LoopA.o {L:Nat->V->Option β}{S:V->AS}{c:Code}{r:β}{n:Nat}{v0:V}(h:L n v0=some r)(hz:∀ v,L 0 v=none)(hl:LeX E nt σ (S v0))
  (round:∀ m v,L (m+1) v=some r->AW E nt (Cu (fun σ'=>∃ v',L m v'=some r/\LeX E nt σ' (S v')) (AW E nt R K)) [.code c] .normal (S v)):Av E nt (fun next σ'=>AW E nt (Cu next (AW E nt R K)) [.code c] .normal σ') σ :=
 Av.o h hz hl round (fun P Q σ hpq hF=>AW.mono1 hpq hF)
theorem AW.frzO {id:Nat}{c:Code}{x:Option β}{y:β}(h:frz id x=some y)(r:Nat)(hr:σ.find r=some (.row ty sz xs))(k:x=some y->AW E nt R (.code c::K) .normal (σ.frzAll r sz xs)):AW E nt R (.code c::K) .normal σ:=AW.weaken (LeX.frzAll r ty sz xs hr) (k h)
theorem AW.regO {id:Nat}{os:Array Oper}{d:Bool}{x:Option β}{y:β}(h:reg x=some y)(k:x=some y->AW E nt R (.ops d os os.toList [] []::K) .normal σ):AW E nt R (.code (.region id os d)::K) .normal σ:=AW.into (k h)
end
def AS.putS (σ:AS)(t:Nat)(v:AV):AS:=⟨(t,v)::σ.tm,σ.me⟩
theorem LeX.put (t:Nat)(v:AV)(hs:Sub (σ.get t) v):LeX E nt σ (σ.putS t v):=fun cx hE hn a w ⟨γ,h⟩=>by
 refine ⟨γ,fun u=>?_,fun i=>h.me i,h.inj,h.ge,h.below,h.size,h.defers,h.gh,h.fr,h.dr⟩
 by_cases hu:t=u
 ·subst hu
  have e:(σ.putS t v).get t=v:=by simp [AS.putS,bD,lkV]
  rw [e]
  exact (h.tm t).sub hs
 ·have e:(σ.putS t v).get u=σ.get u:=by
   unfold AS.putS bD
   simp only [lkV]
   cases hb:aH t u with
   |true=>exact absurd (aA hb) hu
   |false=>rfl
  rw [e]
  exact h.tm u
attribute [irreducible] cnd idx nat ltx elt slc sls app mak stx nzx shx bnd   frz reg mgt mst psx
def S5 (s:ByteArray)(m:Nat):Option UInt8:=s.data[m]?
section
variable {P:Program}
end
section
variable {cx:Cx} {o:Oper} {σ:AS}
theorem zwd {P:Program}{T:Nat}{i:TyI}(h:TyOk P T i)(hs:i.shape=.str):P.underlying T=some .string:=by
 obtain ⟨dd,hdd,he'⟩:=h.und
 rw [hs] at he'
 cases dd<;>simp only [Dk,reduceCtorEq] at he'
 exact hdd
theorem zli {T:Nat}{x y:Operand}{i:TyI}{s:ByteArray}{k:IntKind}{n:Int}{m:Nat}{b:UInt8}(ho:o.op=.index T x y)(hd:dok cx o=true)(hxo:A5 x=true)(hyo:A5 y=true)(hx:σ.eval x=.str s)(hy:σ.eval y=.int k n)(hT:lkT cx.E.tab T=some i)
  (hs:i.shape=.str) (hm:n=(m:Int)) (hb:S5 s m=some b):Ag cx o σ (.int .u8 b.toNat) [] [] :=
 Ay hd fun τ γ a w h1 h2 hst=>by
  have hev:=hst.ev x hxo
  rw [h1 x (by simp [ho,Op.operands]),hx] at hev
  have hevy:=hst.ev y hyo
  rw [h1 y (by simp [ho,Op.operands]),hy] at hevy
  have hdu:=zwd (cx.E.ok T i hT) hs
  obtain ⟨hlt,hbb⟩:=Array.getElem?_eq_some_iff.1 hb
  have hlt':m<s.size:=hlt
  have hq:s[m]? = some b:=by
   rw [getElem?_pos s m hlt']
   exact congrArg some hbb
  subst hm
  refine ⟨.int .u8 b.toNat,?_,.int _ _⟩
  simp [execOp,ho,hev.str_inv,hevy.int_inv,Instr.index,asIntOf,run_underlying hdu,hq,pure]
theorem z5t {T n d:Nat}{ps:Array (Nat×Operand)}{i ie:TyI}{e esz eb:Nat}(ho:o.op=.buildSlice T n ps)(hdst:o.dst=some d)(hd:dok cx o=true)(hT:lkT cx.E.tab T=some i)(hs:i.shape=.slc e esz eb)(he:lkT cx.E.tab e=some ie)(hz:esz≠0)(hn:Nat.ble (n*esz) 16777216=true)
  (hze:ie.zero.cells.all (·.oneCell')=true) (hz0:Nat.blt 0 ie.zero.cells.size=true) (hok:Gw σ ps=true) (hcl:AV.closedL xs=true) (hlen:xs.length=n) (hl:xs.all (fun x=>aH x.cells.length esz)=true)
  (hf:Df (fun j=>some (j*esz,esz)) (aY (n*esz) .any) (Cp σ ps)=some (xs.flatMap AV.cells)) (hnn:σ.find d=none):Ag cx o σ (.row d) (d::Gx (Cp σ ps)) [(d,.row e esz xs)]:=by
 refine ⟨fun id e he=>?_,fun τ h1 h2 a w Q K ⟨γ,hst⟩ hK=>Bu (fun c hc=>by rw [ho] at hc;cases hc) ?_⟩
 ·have:=Co he
  simp at this
  simp [this]
 have hrel:=Xr hst hok (fun p hp=>h1 p.2 (by simp only [ho,Op.operands,mem_toArray,mem_map];exact ⟨p,hp,rfl⟩)) (fun id hid=>h2 id (mem_cons_of_mem _ hid))
 have hcell:∀ j,(ie.zero.cells[j % ie.zero.cells.size]!).oneCell'=true:=znz hze (by simpa using hz0)
 have h0rel:CRel w (Sg cx.S0 cx.w0.heap.size γ) γ ((bC (n*esz)).map (ie.zero.cells[· % ie.zero.cells.size]!)) (aY (n*esz) .any):=by
  refine ⟨by simp,fun j hj=>by simp only [aN];exact .any _,fun j hj=>?_⟩
  have hj':j<n*esz:=by simpa using hj
  have:((bC (n*esz)).map (ie.zero.cells[· % ie.zero.cells.size]!)).getD j undef=ie.zero.cells[j % ie.zero.cells.size]! := by
   rw [aE,Array.getElem?_map,Array.getElem?_range,if_pos hj'];rfl
  rw [this]
  exact hcell j
 obtain ⟨cells',hfill,hc1,hc2,hc3⟩:=V3 (f:=a.eval) (g:=σ.eval) ps.toList _ _ _ hrel h0rel hf
 have hrun:=Zr (parts:=ps.map fun p=>(p.1,a.eval p.2)) (cx.E.ok T i hT) hs (cx.E.ok e ie he) hz (aK hn) (by rw [aX];exact hfill) w
 have hbl:Below w.heap.size w (w.alloc (.cells cells' e)):=(Below.refl _ _).alloc (aB _) _
 have hlen':∀ k (hk:k<xs.length),(xs[k]).cells.length=esz:=fun k hk=>by
  simp only [all_eq_true] at hl
  exact aA (hl _ (getElem_mem hk))
 obtain ⟨g1,g2⟩:=zsj hlen'
 have hin:∀ k j,k<xs.length->j<esz->k*esz+j<xs.length*esz:=fun k j hk hj=>by
  have:(k+1)*esz<=xs.length*esz:=aF _ hk
  rw [aU] at this
  omega
 have hcs:cells'.size=n*esz:=by rw [hc1,g1,hlen]
 have hnb:n<=16777216:=by
  have h:=aK hn
  have:n*1<=n*esz:=Nat.mul_le_mul_left _ (by omega)
  omega
 unfold Oper.wp
 have hex:(execOp a.eval o).run cx.P w=.ok (.value (.slice (some ⟨w.heap.size,0,none⟩) n n)) (w.alloc (.cells cells' e)):=by
  have e':(ps.map fun x=>match x with|(i,x)=>(i,a.eval x))=ps.map fun p=>(p.1,a.eval p.2):=rfl
  simp only [execOp,ho,e',Sem.run_bind,Sem.run_pure,Result.andThen_ok,hrun]
 rw [hex]
 refine hK _ _ ?_
 rw [hdst]
 refine V6 (v:=.slice (some ⟨w.heap.size,0,none⟩) n n) (us:=cells'.toList) hst (fun _=>aB _) (by rw [h2 d (by simp),hnn]) (fun x hx=>by injection hx with hx;subst hx;exact Bm hd _ hdst) hbl
  ⟨by rw [aM,hcs,hlen],aP ⟨w.heap.size,n,cells',by rw [hlen],aB _,Blk.new w _ _,by omega,by unfold maxLen;omega,hcs,?_⟩⟩ hlen' (fun k hk j hj=>?_) (fun u hu=>?_)
  (fun hS=>.row (aC _ _ _) (fun g s e _=>by injection e with e;injection e with _ e))
 ·rw [aW (by rw [aM,hcs,hlen];exact aB _)]
 ·have hj':j<esz:=by rw [<-hlen' k hk];exact hj
  have hlt:k*esz+j<(xs.flatMap AV.cells).length:=by rw [g1];exact hin k j hk hj'
  have:=hc2 (k*esz+j) hlt
  have hq:=g2 k hk j hj
  rw [getElem?_eq_getElem hlt] at hq
  injection hq with hq
  rw [hq] at this
  have e2:cells'.toList.getD (k*esz+j) undef=cells'.getD (k*esz+j) undef:=by
   rw [aD,aE,Array.getElem?_toList]
  rw [e2]
  refine (this.mono hbl.size (fun b hS hlt=>⟨hbl.block b hlt,aO hS,fun e=>?_⟩)).close (z6x (AV.closedL_at hcl k hk) j hj)
  simp only [Value.ownBlock,Option.some.injEq] at e
  omega
 ·obtain ⟨q,hq,rfl⟩:=mem_iff_getElem.1 hu
  have hq':q<cells'.size:=by simpa using hq
  have:=hc3 q hq'
  rw [aE,Array.getElem?_eq_getElem hq'] at this
  simpa using this
end
section
variable {cx:Cx} {o:Oper} {σ:AS}
variable {id:Nat}
theorem V5 {γ:Gam}{τ:AS}{a:Act}{w:World}(hst:StG cx γ τ a w)(hl:τ.find id=some (.row ty sz xs)) :
  ∃ s vs,γ id=some (some (s.ownBlock,s))/\s.oneCell'=true/\w.ownsRow cx.w0.heap.size ty sz s xs.length vs/\(∀ k (hk:k<xs.length),(xs[k]).cells.length=sz) /\
   (∀ k (hk:k<xs.length) j (hj:j<(xs[k]).cells.length),Rep w (Sg cx.S0 cx.w0.heap.size γ) G0 ((xs[k]).cells[j]) (vs.getD (k*sz+j) undef))/\∀ u∈vs,u.oneCell'=true:=by
 have hme:=hst.me id
 rw [hl] at hme
 obtain ⟨d,hd',s,vs,hde,h1,hown,hlen,hr,hone⟩:=hme
 subst hde
 exact ⟨s,vs,hd',h1,hown,hlen,hr,hone⟩
variable {lo:Nat}
theorem zlb {T e esz eb:Nat}{x y:Operand}{i:TyI}{k:IntKind}(ho:o.op=.slice T x (some y) none none)(hd:dok cx o=true)(hxo:A5 x=true)(hyo:A5 y=true)(hx:σ.eval x=.row id)(hy:σ.eval y=.int k (lo:Int))(hT:lkT cx.E.tab T=some i)(hs:i.shape=.slc e esz eb)(hz:esz≠0)
  (hl:σ.find id=some (.row ty esz xs)) (hlo:lo<=xs.length):Ag cx o σ (.der (.sub esz lo) id) [id] [] :=
 Ay hd fun τ γ a w hh1 hh2 hst=>by
  obtain ⟨m1,m2,m3⟩:=zb5 ho
  have hev:=hst.ev x hxo
  rw [hh1 x m1,hx] at hev
  obtain ⟨hu,hce,_⟩:=Ce (cx.E.ok T i hT) hs
  have hsz:=Ei hce hz w
  obtain ⟨s,us,hd',hone1,hown,_⟩:=V5 (id:=id) hst (by rw [hh2 id (by simp)];exact hl)
  have hB:∀ c,xs.length<=c->(Instr.sliceBounds true xs.length c (some (a.eval y)) none none).run cx.P w=.ok (lo,xs.length,c) w:=fun c hc =>
   Xm (σ:=σ) (l:=lo) (h:=xs.length) (c:=c) (n:=xs.length) (lo:=some y) (hi:=none) hst hyo rfl (fun z hz=>hh1 z (m2 z hz)) (fun z hz=>by cases hz) (by simp [bndA,hy]) (by simp [bndA]) hlo hc
  rcases hown.2 with ⟨hv,h0⟩|⟨g,cap,cur,hv,_,_,hn2,_⟩
  ·have hx0:xs.length=0:=h0
   have hl0:lo=0:=by omega
   have hB:=hB 0 (by omega)
   rw [hx0] at hB
   subst hv
   refine ⟨.slice none 0 0,?_,.der hd' (fun g s e=>by injection e with e;injection e with _ e;subst e;exact ⟨rfl,rfl⟩)⟩
   simp only [execOp,ho,hev.row_inv hd',aZ,aL,Sem.run_bind,Sem.run_pure,Result.andThen_ok]
   simp [Instr.sliceAt,Instr.slice,run_underlying hu,hB,hsz,pure]
  ·have hB:=hB cap hn2
   subst hv
   refine ⟨.slice (some (if cap=lo then ⟨g,0,none⟩ else ⟨g,0+lo*esz,none⟩)) (xs.length-lo) (cap-lo),?_,.der hd' (fun g s e=>by injection e with e;injection e with _ e;subst e;exact ⟨rfl,rfl⟩)⟩
   simp only [execOp,ho,hev.row_inv hd',aZ,aL,Sem.run_bind,Sem.run_pure,Result.andThen_ok]
   simp [Instr.sliceAt,Instr.slice,run_underlying hu,hB,hsz,pure,Addr.add_lit]
   split<;>rfl
theorem zwh {γ:Gam}{τ:AS}{a:Act}{w:World}{v:Value}(hst:StG cx γ τ a w)(hl:τ.find id=some (.row ty sz xs))(hv:Rep w (Sg cx.S0 cx.w0.heap.size γ) γ (.der (.sub sz lo) id) v)(hlo:lo<xs.length) :
  ∃ g cap cur us,γ id=some (some (some g,.slice (some ⟨g,0,none⟩) xs.length cap))/\v=.slice (some ⟨g,lo*sz,none⟩) (xs.length-lo) (cap-lo)/\xs.length<=cap/\w.ownsRow cx.w0.heap.size ty sz (.slice (some ⟨g,0,none⟩) xs.length cap) xs.length us/\w.heap[g]? = some (.cells cur ty (0,0))/\cur.size=cap*sz/\cur.toList.take (xs.length*sz)=us/\(∀ k (hk:k<xs.length),(xs[k]).cells.length=sz) /\
   (∀ k (hk:k<xs.length) j (hj:j<(xs[k]).cells.length),Rep w (Sg cx.S0 cx.w0.heap.size γ) G0 ((xs[k]).cells[j]) (us.getD (k*sz+j) undef))/\∀ u∈us,u.oneCell'=true:=by
 obtain ⟨s,us,hd',hone1,hown,hlen,hr,hone⟩:=V5 hst hl
 have hown0:=hown
 rcases hown.2 with ⟨hs,h0⟩|⟨g,cap,cur,hs,_,hh,hn2,_,hcs,htk⟩
 ·omega
 ·subst hs
  refine ⟨g,cap,cur,us,hd',?_,hn2,hown0,hh,hcs,htk,hlen,hr,hone⟩
  rw [hv.der_inv hd']
  have:¬cap=lo:=by omega
  simp [Dv.of,this]
theorem zf7 (z:Array Value)(n q j:Nat)(hq:q<n)(hj:j<z.size):(Builtin.zeroCells z n).toList.getD (q*z.size+j) undef=z.getD j undef:=by
 have hlt:q*z.size+j<n*z.size:=by
  have:(q+1)*z.size<=n*z.size:=aF _ hq
  rw [aU] at this
  omega
 have hmod:(q*z.size+j) % z.size=j:=by rw [Nat.mul_comm,Nat.mul_add_mod,Nat.mod_eq_of_lt hj]
 rw [aD]
 simp [Builtin.zeroCells,hlt,hmod,bE,hj]
variable {α:Type}
def clrL (l:List α)(lo:Nat)(z:α):List α:=l.take lo++aY (l.length-lo) z
theorem zmq (l:List α)(lo:Nat)(z:α)(h:lo<=l.length):(clrL l lo z).length=l.length:=by simp [clrL];omega
theorem zvc {β:Type}(f:α->β)(l:List α)(lo:Nat)(z:α):clrL (l.map f) lo (f z)=(clrL l lo z).map f:=by simp [clrL]
theorem zlo {T e esz eb:Nat}{x:Operand}{i ie:TyI}(ho:o.op=.call { callee:=.builtin .clear,args:=#[x],argTypes:=#[T] })(hd:dok cx o=true)(hxo:A5 x=true)(hx:σ.eval x=.der (.sub esz lo) id)(hl:σ.find id=some (.row e esz xs))(hT:lkT cx.E.tab T=some i)(hs:i.shape=.slc e esz eb)(he:lkT cx.E.tab e=some ie)(hz:esz≠0)
  (hzo:Kr ie=true) (hone0:ie.zero.cells.all (·.oneCell')=true) (hlo:lo<=xs.length):Ag cx o σ (.tup []) [id] [(id,.row e esz (clrL xs lo (D1 ie)))]:=by
 refine ⟨fun id e he=>Co he,fun τ h1 h2 a w Q K ⟨γ,hst⟩ hK=>Bu (fun c hc=>by rw [ho] at hc;cases hc) ?_⟩
 have hev:=hst.ev x hxo
 rw [h1 x (by simp [ho,Op.operands,Call.operands]),hx] at hev
 obtain ⟨hu,hce,_⟩:=Ce (cx.E.ok T i hT) hs
 have hok:=cx.E.ok e ie he
 have hsz:ie.sz=esz:=hok.cells.symm.trans hce
 obtain ⟨hzc,hzs⟩:=z89 hzo
 have hzs':ie.zero.cells.size=esz:=hzs.trans hsz
 have hcl:(D1 ie).cells.length=esz:=by rw [hzc,aJ,aM,hzs']
 have hall:∀ v∈ie.zero.cells,v.oneCell'=true:=by
  rw [Array.all_eq_true_iff_forall_mem] at hone0
  exact hone0
 have hf:τ.find id=some (.row e esz xs):=by rw [h2 id (by simp)];exact hl
 have hlen':=zmq xs lo (D1 ie) hlo
 unfold Oper.wp
 by_cases hlt:lo<xs.length
 ·obtain ⟨g,cap,cur,us,hd',ex,hcap,hown,hh,hcs,htk,hlen,hr,hone⟩:=zwh (id:=id) hst hf hev hlt
  have hown0:=hown
  obtain ⟨hul,_⟩:=hown
  have hnl:(Builtin.zeroCells ie.zero.cells (xs.length-lo)).toList.length=(xs.length-lo)*esz:=by simp [Builtin.zeroCells,hzs']
  have hadd:lo*esz+(xs.length-lo)*esz=xs.length*esz:=by rw [<-Nat.add_mul];congr 1;omega
  have hcapm:xs.length*esz<=cap*esz:=aF _ hcap
  have hz1:∀ v∈(Builtin.zeroCells ie.zero.cells (xs.length-lo)).toList,v.oneCell'=true:=fun v hv=>by
   obtain ⟨q,hq,rfl⟩:=mem_iff_getElem.1 hv
   rw [hnl] at hq
   have hpos:0<ie.zero.cells.size:=by omega
   have hmod:=Nat.mod_lt q hpos
   simp only [Builtin.zeroCells,aX,aR,Array.getElem_toList,Array.getElem_range]
   rw [getElem!_pos ie.zero.cells _ hmod]
   exact hall _ (Array.getElem_mem _)
  have hrun:=run_storeCells_at cx.P g (lo*esz) e (Builtin.zeroCells ie.zero.cells (xs.length-lo)).toList 0 cur w hh (by rw [hnl];omega) hz1
  simp only [Nat.add_zero,hnl] at hrun
  generalize hnw:(Builtin.zeroCells ie.zero.cells (xs.length-lo)).toList=news at hrun hnl hz1
  generalize hcur':(cur.toList.take (lo*esz)++news++cur.toList.drop (lo*esz+(xs.length-lo)*esz)).toArray=cur' at hrun
  have hne:xs.length-lo≠0:=by omega
  have hrun1:(Builtin.clear_ #[T] 0 #[a.eval x]).run cx.P w=.ok (.tuple #[]) (w.setRow g cur'):=by
   obtain ⟨m,hm⟩:∃ m,xs.length-lo=m+1:=⟨xs.length-lo-1,by omega⟩
   rw [hm] at hnw ex
   simp only [Builtin.clear_,ex]
   simp [run_underlying hu,hok.zeroV w,hnw,hrun,pure]
  have hty:∀ ty,(Builtin.clear_ #[T] ty #[a.eval x])=(Builtin.clear_ #[T] 0 #[a.eval x]):=fun ty=>rfl
  have hex:(execOp a.eval o).run cx.P w=.ok (.value (.tuple #[])) (w.setRow g cur'):=by
   simp only [execOp,ho,resolve,invoke,builtin,map_toArray,aQ,map_nil,hty,Sem.run_bind,hrun1,Result.andThen_ok,Sem.run_pure]
  rw [hex]
  have hblk:=setRow_heap w g cur cur' e (0,0) hh
  have hoth:∀ q,q≠g->(w.setRow g cur').heap[q]? = w.heap[q]? := fun q hq=>setRow_other w g q _ hq
  have hzz:w.heap.size<=(w.setRow g cur').heap.size:=by simp
  have hgr:w.grownBy (w.setRow g cur') (some g):=⟨rfl,rfl,rfl,hzz,fun k hk hne=>hoth k (fun e=>hne (by rw [e]))⟩
  have hdr:w.drawn<=(w.setRow g cur').drawn:=aB _
  have hgo:own γ g:=own.mk hd'
  have hns:∀ b,Sg cx.S0 cx.w0.heap.size γ b->b≠g:=fun b hS e=>by
   subst e
   rcases hS with ⟨_,h⟩|⟨_,h⟩
   ·have:=(hst.ge b hgo).1.1;omega
   ·exact h hgo
  generalize w.setRow g cur'=w' at *
  have htk':cur'.toList.take (xs.length*esz)=us.take (lo*esz)++news:=by
   rw [<-hcur']
   simp only [<-htk]
   rw [toList_toArray,take_append,aW (by simp;omega)]
   have:(List.take (lo*esz) cur.toList++news).length=xs.length*esz:=by simp [hnl];omega
   rw [this,aT,take_zero,append_nil,take_take,Nat.min_eq_left (by omega)]
  refine hK _ _ (z9l (v:=.slice (some ⟨g,0,none⟩) xs.length cap) (us':=us.take (lo*esz)++news) hst (fun _=>hdr) hd' (Bm hd) hgr ?_ (fun k hk=>?_) (fun k hk j hj=>?_) (fun u hu=>?_) (.tup #[] rfl (fun j hj=>absurd hj (by simp))))
  ·rw [hlen']
   rcases hown0.2 with ⟨h,_⟩|⟨g',cap',cu,hv',hb',_,_,hm',_,_⟩
   ·cases h
   ·injection hv' with e1 e2 e3
    injection e1 with e1
    injection e1 with e1 _ _
    subst e1
    subst e3
    refine ⟨by simp [hnl];omega,aP ⟨g,cap,cur',rfl,hb',hblk,hcap,hm',?_,htk'⟩⟩
    rw [<-hcur']
    simp [hnl]
    omega
  ·rw [hlen'] at hk
   simp only [clrL,aS]
   split
   ·rw [getElem_take];exact hlen k _
   ·rw [aN];exact hcl
  ·rw [hlen'] at hk
   have hlt1:(us.take (lo*esz)).length=lo*esz:=by simp;omega
   by_cases hkl:k<lo
   ·have hel:(clrL xs lo (D1 ie))[k]'(by rw [hlen'];exact hk)=xs[k]:=by
     simp only [clrL,aS]
     rw [dif_pos (by simp;omega),getElem_take]
    rw [hel] at hj
    have hj':j<esz:=by rw [<-hlen k hk];exact hj
    have hlt2:k*esz+j<lo*esz:=by
     have:(k+1)*esz<=lo*esz:=aF _ hkl
     rw [aU] at this
     omega
    have e1:(us.take (lo*esz)++news).getD (k*esz+j) undef=us.getD (k*esz+j) undef:=by
     rw [aD,getElem?_append_left (by omega),getElem?_take_of_lt hlt2,<-aD]
    rw [e1]
    simp only [hel]
    exact (hr k hk j hj).mono hzz (fun b hS hlt=>⟨hoth b (hns b hS),aO hS,fun e=>hns b hS (by injection e with e;exact e.symm)⟩)
   ·have hel:(clrL xs lo (D1 ie))[k]'(by rw [hlen'];exact hk)=D1 ie:=by
     simp only [clrL,aS]
     rw [dif_neg (by simp;omega),aN]
    rw [hel] at hj
    have hj':j<esz:=by rw [<-hcl];exact hj
    have hle:lo*esz<=k*esz:=aF _ (by omega)
    have e1:(us.take (lo*esz)++news).getD (k*esz+j) undef=ie.zero.cells.getD j undef:=by
     rw [aD,getElem?_append_right (by omega),hlt1,<-aD,<-hnw]
     have:=zf7 ie.zero.cells (xs.length-lo) (k-lo) j (by omega) (by omega)
     rw [<-this,hzs',Nat.sub_mul]
     congr 1
     omega
    rw [e1]
    simp only [hel,hzc,aR]
    have hj2:j<ie.zero.cells.size:=by omega
    have:ie.zero.cells.getD j undef=ie.zero.cells[j]:=by simp [bE,hj2]
    rw [this]
    simpa using O3 _ _ _ (ie.zero.cells[j])
  ·rcases mem_append.1 hu with hu|hu
   ·exact hone u (mem_of_mem_take hu)
   ·exact hz1 u hu
 ·have hlx:lo=xs.length:=by omega
  have hex:(execOp a.eval o).run cx.P w=.ok (.value (.tuple #[])) w:=by
   obtain ⟨s,us,hd',hone1,hown,_⟩:=V5 (id:=id) hst hf
   have hsl:∃ A c,a.eval x=.slice A 0 c:=by
    rw [hev.der_inv hd']
    rcases hown.2 with ⟨hv,h0⟩|⟨g,cap,cur,hv,_⟩
    ·subst hv;exact ⟨none,0,rfl⟩
    ·subst hv;exact ⟨_,_,by show Value.slice _ (xs.length-lo) _=_;rw [hlx,aT]⟩
   obtain ⟨A,c,hsl⟩:=hsl
   simp only [execOp,ho,resolve,invoke,builtin,map_toArray,aQ,map_nil,Builtin.clear_,hsl]
   cases A<;>simp [run_underlying hu,pure]
  rw [hex]
  have hid:clrL xs lo (D1 ie)=xs:=by simp [clrL,hlx]
  rw [hid] at hK
  obtain ⟨s,us,hd',hone1,hown,hlen,hr,hone⟩:=V5 (id:=id) hst hf
  have hns:∀ b,Sg cx.S0 cx.w0.heap.size γ b->s.ownBlock≠some b:=fun b hS e=>by
   have hgo:own γ b:=own.mk (by rw [hd',e])
   rcases hS with ⟨_,h⟩|⟨_,h⟩
   ·have:=(hst.ge b hgo).1.1;omega
   ·exact h hgo
  exact hK _ _ (z9l (v:=s) (us':=us) hst (fun _=>aB _) hd' (Bm hd) (World.grownBy.refl _ _) hown hlen (fun k hk j hj=>(hr k hk j hj).mono (aB _) (fun b hS _=>⟨rfl,aO hS,hns b hS⟩)) hone (.tup #[] rfl (fun j hj=>absurd hj (by simp))))
end
section
variable {P:Program} {w:World} {S:Nat->Prop}
end
theorem con0 (x:Value)(vs:Array Value):(#[x]++vs).getD 0 undef=x:=by
 rw [aE,Array.getElem?_append_left (by simp)];rfl
theorem Rs {w:World}{B n:Nat}{s:Value}{vs:List Value}(h:w.ownsRow B ty sz s n vs):s.ownBlock=Az s/\Ca s=[]:=by
 rcases h.2 with ⟨rfl,_⟩|⟨g,cap,cur,rfl,_⟩<;>exact ⟨rfl,rfl⟩
theorem V4 {s:Value}{b:Nat}(h:s.ownBlock=Az s)(hn:Ca s=[]):b∈blks (some (s.ownBlock,s)) ↔ Az s=some b:=by
 simp [blks,hn,h]
section
variable {cx:Cx} {o:Oper} {σ:AS}
theorem zrw {d d' id:Nat}{e e' e'':Ent}(he:lkE [(d,e),(d',e')] id=some e''):id∈[d,d']:=by
 simp only [lkE] at he
 cases hb:aH d id with
 |true=>simp [aA hb]
 |false =>
  rw [hb] at he
  cases hb2:aH d' id with
  |true=>simp [aA hb2]
  |false=>rw [hb2] at he;cases he
theorem zeh {d d':Nat}{e e':Ent}(hne:d≠d')(i:Nat):lkE [(d,e),(d',e')] i=if i=d then some e else if i=d' then some e' else none:=by
 simp only [lkE]
 by_cases h1:i=d
 ·subst h1;simp
 ·rw [if_neg h1]
  have:aH d i=false:=by cases hb:aH d i with|true=>exact absurd (aA hb).symm h1|false=>rfl
  rw [this]
  by_cases h2:i=d'
  ·subst h2;simp
  ·rw [if_neg h2]
   have:aH d' i=false:=by cases hb:aH d' i with|true=>exact absurd (aA hb).symm h2|false=>rfl
   rw [this]
end
end Go.Proofs.YthbogefcfhmpgaaGreat
