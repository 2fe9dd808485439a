/- The abstract walk, fourteenth part. -/
import Derived.Test.YthbogefcfhmpgaaGreatK07
import Derived.Lib.AppendStr
import GoSem.Instr.MapEntry
set_option linter.unusedVariables false
set_option linter.unusedSimpArgs false
namespace Go.Proofs.YthbogefcfhmpgaaGreat
open Go.RowKit List
open Nat renaming eq_of_beq_eq_true->aA,le_refl->aB,mul_le_mul_right->aF,beq->aH,le_of_ble_eq_true->aK,ne_of_beq_eq_false->aR,sub_self->aU,succ_mul->aV
open _root_.Array renaming getD_eq_getD_getElem?->aC,length_toList->aM,toList_map->aZ,range->bF,getD->bH
open Gam renaming set_self->aD,set_ne->aG
open List renaming getD_eq_getElem?_getD->aE,length_map->aJ,getElem_replicate->aN,map_cons->aO,getElem_map->aS,getElem_append->aT,getElem?_map->aX,take_of_length_le->aY,replicate->bA,map_toArray->bB
open Option renaming map_some->aL,map_none->bC
open Or renaming inl->aP,inr->aQ
open AS renaming find->bE,get->bG
def AS.freeze (σ:AS)(t r sz:Nat)(xs:List AV):AS:=⟨(t,.sl sz xs)::σ.tm,(r,.dead)::σ.me⟩
variable {E:Env}{nt:Nat}{σ:AS}
theorem LeX.freeze (t r ty sz:Nat)(xs:List AV)(Q:σ.get t=.row r)(U:σ.find r=some (.row ty sz xs)):LeX E nt σ (σ.freeze t r sz xs):=fun cx hE hn a w ⟨γ,h⟩=>by
 have A:=h.me r;rw [U] at A;obtain ⟨d,J,I⟩:=A;have c:∀ b,own (γ.set r none) b->own γ b/\∀ s,γ r≠some (some (some b,s)):=fun b ⟨i,s,hi,hm⟩=>by
  by_cases m:i=r
  ·subst m;rw [aD] at hi;injection hi with hi;subst hi;simp [blks] at hm
  ·rw [aG _ _ _ m] at hi;exact ⟨⟨i,s,hi,hm⟩,fun O F=>m (h.inj _ _ _ _ _ hi F hm Bz)⟩
 have L:∀ b,Sg cx.S0 cx.w0.heap.size γ b->Sg cx.S0 cx.w0.heap.size (γ.set r none) b:=fun b p=>p.elim aP (fun ⟨h1,W⟩=>aQ ⟨h1,fun z=>W (c b z).1⟩)
 have B:∀ i x,γ i=some x->γ.set r none i=some x\/γ.set r none i=some none\/Turn (γ.set r none) i x:=fun i x D=>by
  by_cases m:i=r
  ·subst m;exact aQ (aP (aD _ _ _))
  ·exact aP (by rw [aG _ _ _ m];exact D)
 have mv:∀ {av v},Rep w (Sg cx.S0 cx.w0.heap.size γ) γ av v->Rep w (Sg cx.S0 cx.w0.heap.size (γ.set r none)) (γ.set r none) av v:=fun C=>(C.mono (aB _) (fun b p _=>⟨rfl,L b p⟩)).gam B
 refine ⟨γ.set r none,fun u=>?_,fun i=>?_,fun i j b s O hi q mi mj=>?_,fun b p=>h.ge b (c b p).1,h.below,h.size,h.defers.gam (fun b p=>(c b p).1),h.gh,fun b p=>by obtain ⟨Z,Y,X⟩:=h.fr b p;exact ⟨fun z=>Z (c b z).1,Y,X⟩,h.dr⟩
 ·by_cases M:t=u
  ·subst M;have e:(σ.freeze t r sz xs).get t=.sl sz xs:=by simp [AS.freeze,bG,lkV]
   rw [e];have C:=h.tm t;rw [Q] at C;obtain ⟨s,hs,G⟩:=Gk (S':=Sg cx.S0 cx.w0.heap.size (γ.set r none)) I (fun b p _=>L b p) (fun s g B=>aQ ⟨(h.ge g (own.mk (id:=r) (s:=s) (by rw [J,B]))).1,fun z=>(c g z).2 s (by rw [J,B])⟩) (γ.set r none);subst hs;rw [C.row_inv J];exact G
  ·have e:(σ.freeze t r sz xs).get u=σ.get u:=by
    unfold AS.freeze bG;simp only [lkV];cases p:aH t u with
    |true=>exact absurd (aA p) M
    |false=>rfl
   rw [e];exact mv (h.tm u)
 ·by_cases hi:r=i
  ·subst hi;have e:(σ.freeze t r sz xs).find r=some .dead:=by simp [AS.freeze,bE,lkE]
   rw [e];exact ⟨none,aD _ _ _,rfl⟩
  ·have e:(σ.freeze t r sz xs).find i=σ.find i:=by
    unfold AS.freeze bE;simp only [lkE];cases p:aH r i with
    |true=>exact absurd (aA p) hi
    |false=>rfl
   rw [e,aG _ _ _ (Ne.symm hi)];have:=h.me i;cases N:σ.find i with
   |none=>rw [N] at this;exact this
   |some en =>
    rw [N] at this;obtain ⟨x,D,I⟩:=this;exact ⟨x,D,I.move (aB _) (fun b p _=>⟨rfl,L b p⟩) B (fun _ _=>rfl)⟩
 ·have m:i≠r:=fun e=>by subst e;rw [aD] at hi;injection hi with hi;subst hi;simp [blks] at mi
  have H:j≠r:=fun e=>by subst e;rw [aD] at q;injection q with q;subst q;simp [blks] at mj
  rw [aG _ _ _ m] at hi;rw [aG _ _ _ H] at q;exact h.inj _ _ _ _ _ hi q mi mj
section
variable {E:Env} {nt:Nat} {R:Exit->AS->Prop}
theorem AW.weaken {c:Code}{K:List Bq}{τ:AS}(g:LeX E nt σ τ)(h:AW E nt R (.code c::K) .normal τ):AW E nt R (.code c::K) .normal σ:=⟨fun cx d b=>WP.weaken (g cx d b) (h.out cx d b)⟩
end
def Ent.frz (r sz:Nat)(xs:List AV):Ent->Ent |.box ty cs=>.box ty (AV.frzL r sz xs cs) |e=>e
def AS.frzAll (σ:AS)(r sz:Nat)(xs:List AV):AS:=⟨σ.tm.map fun p=>(p.1,p.2.frz r sz xs),(r,.dead)::σ.me.map fun p=>(p.1,p.2.frz r sz xs)⟩
theorem zwy (g:AV->AV)(h:g .any=.any)(l:List (Nat×AV))(t:Nat):lkV (l.map fun p=>(p.1,g p.2)) t=g (lkV l t):=by
 induction l with
 |nil=>simp [lkV,h]
 |cons p l b =>
  obtain ⟨u,x⟩:=p;simp only [aO,lkV];cases aH u t<;>simp [b]
theorem zx0 (g:Ent->Ent)(l:List (Nat×Ent))(t:Nat):lkE (l.map fun p=>(p.1,g p.2)) t=(lkE l t).map g:=by
 induction l with
 |nil=>simp [lkE]
 |cons p l b =>
  obtain ⟨u,x⟩:=p;simp only [aO,lkE];cases aH u t<;>simp [b]
theorem LeX.frzAll (r ty sz:Nat)(xs:List AV)(Q:σ.find r=some (.row ty sz xs)):LeX E nt σ (σ.frzAll r sz xs):=fun cx hE hn a w ⟨γ,h⟩=>by
 have C:=h.me r;rw [Q] at C;obtain ⟨d,J,F⟩:=C;have c:∀ b,own (γ.set r none) b->own γ b/\∀ s,γ r≠some (some (some b,s)):=fun b ⟨i,s,hi,hm⟩=>by
  by_cases m:i=r
  ·subst m;rw [aD] at hi;injection hi with hi;subst hi;simp [blks] at hm
  ·rw [aG _ _ _ m] at hi;exact ⟨⟨i,s,hi,hm⟩,fun O H=>m (h.inj _ _ _ _ _ hi H hm Bz)⟩
 have L:∀ b,Sg cx.S0 cx.w0.heap.size γ b->Sg cx.S0 cx.w0.heap.size (γ.set r none) b:=fun b p=>p.elim aP (fun ⟨h1,M⟩=>aQ ⟨h1,fun B=>M (c b B).1⟩)
 have D:∀ i x,γ i=some x->γ.set r none i=some x\/γ.set r none i=some none\/Turn (γ.set r none) i x:=fun i x t=>by
  by_cases m:i=r
  ·subst m;exact aQ (aP (aD _ _ _))
  ·exact aP (by rw [aG _ _ _ m];exact t)
 obtain ⟨s,hs,A⟩:=Gk (S':=Sg cx.S0 cx.w0.heap.size (γ.set r none)) F (fun b p _=>L b p) (fun s g D=>aQ ⟨(h.ge g (own.mk (id:=r) (s:=s) (by rw [J,D]))).1,fun B=>(c g B).2 s (by rw [J,D])⟩) (γ.set r none);have mv:∀ {av v},Rep w (Sg cx.S0 cx.w0.heap.size γ) γ av v->Rep w (Sg cx.S0 cx.w0.heap.size (γ.set r none)) (γ.set r none) (av.frz r sz xs) v:=fun G =>
  (G.mono (aB _) (fun b p _=>⟨rfl,L b p⟩)).frz (fun i x hi t=>by rw [aG _ _ _ hi];exact t) J (aD _ _ _) (fun v G=>by rw [G _ _ hs A.sl_tup];exact A)
 refine ⟨γ.set r none,fun u=>?_,fun i=>?_,fun i j b s O hi z mi mj=>?_,fun b p=>h.ge b (c b p).1,h.below,h.size,h.defers.gam (fun b p=>(c b p).1),h.gh,fun b p=>by obtain ⟨f2,Z,Y⟩:=h.fr b p;exact ⟨fun B=>f2 (c b B).1,Z,Y⟩,h.dr⟩
 ·have e:(σ.frzAll r sz xs).get u=(σ.get u).frz r sz xs:=zwy _ rfl _ _;rw [e];exact mv (h.tm u)
 ·by_cases hi:r=i
  ·subst hi;have e:(σ.frzAll r sz xs).find r=some .dead:=by simp [AS.frzAll,bE,lkE]
   rw [e];exact ⟨none,aD _ _ _,rfl⟩
  ·have e:(σ.frzAll r sz xs).find i=(σ.find i).map (Ent.frz r sz xs):=by
    unfold AS.frzAll bE;simp only [lkE];cases p:aH r i with
    |true=>exact absurd (aA p) hi
    |false=>exact zx0 _ _ _
   rw [e,aG _ _ _ (Ne.symm hi)];have:=h.me i;cases N:σ.find i with
   |none=>rw [N] at this;exact this
   |some en =>
    rw [N] at this;obtain ⟨x,t,F⟩:=this;cases en with
    |box ty cs =>
     obtain ⟨g,vs,h1,M,X,W,U⟩:=F;exact ⟨x,t,g,vs,h1,M,by rw [X,AV.frzL_length],fun i hi=>by
      have q:=hi;rw [AV.frzL_length] at q;rw [AV.frzL_at r sz xs _ i q];exact mv (W i q),U⟩
    |_=>exact ⟨x,t,F.move (aB _) (fun b p _=>⟨rfl,L b p⟩) D (fun _ _=>rfl)⟩
 ·have m:i≠r:=fun e=>by subst e;rw [aD] at hi;injection hi with hi;subst hi;simp [blks] at mi
  have I:j≠r:=fun e=>by subst e;rw [aD] at z;injection z with z;subst z;simp [blks] at mj
  rw [aG _ _ _ m] at hi;rw [aG _ _ _ I] at z;exact h.inj _ _ _ _ _ hi z mi mj
def zl3 (σ:AS)(i:Nat):AV->AV
 |.row j=>match aH j i with
  |true=>.row j
  |false=>match σ.find j with|some (.row _ sz xs)=>.sl sz xs|_=>.any
 |x=>match x.closed with|true=>x|false=>.any
def zl2 (σ:AS)(i:Nat):AV->AV |.agg cs=>.agg (cs.map (zl3 σ i)) |x=>zl3 σ i x
def zxs (σ:AS)(i:Nat):AV->AV |.tup cs=>.tup (cs.map (zl2 σ i)) |x=>zl2 σ i x
section
variable {cx:Cx} {σ:AS} {γ γ':Gam} {a:Act} {w:World} {S':Nat->Prop} {i:Nat} {x:Option (Option Nat×Value)}
variable {v:Value}
theorem zfw (p:StG cx γ σ a w)(hi:γ i=some x)(u:γ' i=some x)(A:∀ b,Sg cx.S0 cx.w0.heap.size γ b->S' b)(C:∀ j b s,j≠i->γ j=some (some (some b,s))->S' b){av:AV}(h:Rep w (Sg cx.S0 cx.w0.heap.size γ) γ av v):Rep w S' γ' (zl3 σ i av) v:=by
 have cl:∀ av v,Rep w (Sg cx.S0 cx.w0.heap.size γ) γ av v->Rep w S' γ' (match av.closed with|true=>av|false=>.any) v:=fun av v h=>by
  cases H:av.closed with
  |true=>exact (h.close H).mono (aB _) (fun b c _=>⟨rfl,A b c⟩)
  |false=>exact .any _
 cases av with
 |row j =>
  simp only [zl3];cases c:aH j i with
  |true =>
   have:=aA c;subst this;cases h with
   |row h B=>rw [hi] at h;injection h with h;subst h;exact .row u B
  |false =>
   have t:=aR c;simp only;have m:=p.me j;cases F:σ.find j with
   |none=>exact .any _
   |some e =>
    cases e with
    |row ty sz xs =>
     rw [F] at m;obtain ⟨d,z,G⟩:=m;obtain ⟨s,hs,q⟩:=Gk (S':=S') G (fun b c _=>A b c) (fun s g D=>C j g s t (by rw [z,D])) γ';subst hs;rw [h.row_inv z];exact q
    |_=>exact .any _
 |_=>exact cl _ _ h
theorem zfv (c:StG cx γ σ a w)(hi:γ i=some x)(d:γ' i=some x)(p:∀ b,Sg cx.S0 cx.w0.heap.size γ b->S' b)(m:∀ j b s,j≠i->γ j=some (some (some b,s))->S' b){av:AV}(h:Rep w (Sg cx.S0 cx.w0.heap.size γ) γ av v):Rep w S' γ' (zl2 σ i av) v:=by
 cases av with
 |agg cs =>
  obtain ⟨vs,rfl,t,q,h1⟩:=h.agg_inv;simp only [zl2];refine .agg vs (by simpa using t) (fun k u=>?_) h1;have g:k<cs.length:=by simpa using u
  simp only [aS];exact zfw c hi d p m (q k g)
 |_=>exact zfw c hi d p m h
theorem zut (c:StG cx γ σ a w)(hi:γ i=some x)(d:γ' i=some x)(p:∀ b,Sg cx.S0 cx.w0.heap.size γ b->S' b)(m:∀ j b s,j≠i->γ j=some (some (some b,s))->S' b){av:AV}(h:Rep w (Sg cx.S0 cx.w0.heap.size γ) γ av v):Rep w S' γ' (zxs σ i av) v:=by
 cases av with
 |tup cs =>
  obtain ⟨vs,rfl,t,q⟩:=h.tup_inv;simp only [zxs];refine .tup vs (by simpa using t) (fun k u=>?_);have g:k<cs.length:=by simpa using u
  simp only [aS];exact zfv c hi d p m (q k g)
 |_=>exact zfv c hi d p m h
end
inductive TX (E:Env) (nt:Nat) (fn:Func) (σ:AS) (ty sz:Nat) (xs:List AV) (res:AV):Prop
 |mk (τ:AS) (i:Nat) (hl:LeX E nt σ τ) (avs:List AV) (h1:retA E.tab τ fn.results.toList=some avs) (h2:τ.find i=some (.row ty sz xs)) (h3:Sub (zxs τ i (Jm avs)) (res.ren fun _=>i))
def EndT (E:Env)(nt:Nat)(fn:Func)(ty sz:Nat)(xs:List AV)(res:AV):Exit->AS->Prop |.normal,σ=>TX E nt fn σ ty sz xs res |.ret,σ=>TX E nt fn σ ty sz xs res |_,_=>False
variable {xs:List AV}{ty sz:Nat}
theorem ConT.walk {f:FuncId}{fn:Func}{args:List AV}{res:AV}(c:Code)(hf:E.P.funcs[f]? = some fn)(m:fn.body=some c)(he:Cc E f)(hn:Nat.ble args.length fn.ntmps=true)(p:res.inM [0]=true)
  (h:AW E fn.ntmps (EndT E fn.ntmps fn ty sz xs res) [.code c] .normal (E2 args)) (B:E.rg=false:=by rfl) (z:E.yl=none:=by rfl) (D:E.np=0:=by rfl)(B:E.rg=false:=by rfl) (z:E.yl=none:=by rfl) (D:E.np=0:=by rfl):ConT E f args ty sz xs res:=by
 refine ⟨he,p,fun S w vs ha=>callsIn_wide.1 (callsIn_of_wp (F:=Fence.wide) (n:=0) hf m trivial ?_)⟩;have h0:WP (Cx.call E S w fn.ntmps) c (EndT E fn.ntmps fn ty sz xs res) (E2 args):=WP.mono (h.out (Cx.call E S w fn.ntmps) rfl rfl) fun e σ I=>by cases e<;>exact I
 refine wpIn_mono (h0 _ _ (Wp z D ha (aK hn))) (fun e a w' ⟨σ,N,A⟩=>?_);have key:TX E fn.ntmps fn σ ty sz xs res->bodyPost E.P fn (fun e w'=>∃ u v us,e=.returned u/\Below w.heap.size w w'/\w'.ownsRow w.heap.size ty sz v xs.length us /\
  (∀ k (I:k<xs.length),(xs[k]).cells.length=sz)/\(∀ k (I:k<xs.length) j (L:j<(xs[k]).cells.length),Rep w' (fun b=>(S b\/w.heap.size<=b)/\v.ownBlock≠some b) G0 ((xs[k]).cells[j]) (us.getD (k*sz+j) undef))/\(∀ u∈us,u.oneCell'=true) /\
  ∀ γ':Gam,γ' 0=some (some (v.ownBlock,v))->Rep w' (fun b=>(S b\/w.heap.size<=b)/\v.ownBlock≠some b) γ' res u) .ret a w':=by
  rintro ⟨τ,i,hl,avs,h1,h2,h3⟩;obtain ⟨γ,g⟩:=hl (Cx.call E S w fn.ntmps) rfl rfl a w' A;obtain ⟨u,Y,Z⟩:=Rt g h1;have G:=g.me i;rw [h2] at G;obtain ⟨d,J,s,us,Q,U,C,H,M,q⟩:=G;subst Q;have X:∀ b,Sg (fun b=>S b/\b<w.heap.size) w.heap.size γ b->(S b\/w.heap.size<=b)/\s.ownBlock≠some b:=fun b m=>by
   refine ⟨?_,fun e=>?_⟩
   ·rcases m with ⟨m,_⟩|⟨m,_⟩
    ·exact aP m.1
    ·exact aQ m.1
   ·have W:own γ b:=own.mk (id:=i) (s:=s) (by rw [J,e]);rcases m with ⟨_,m⟩|⟨_,m⟩
    ·have:=(g.ge b W).1.1;exact absurd m (by show ¬b<w.heap.size;exact Nat.not_lt.2 this)
    ·exact m W
  refine ⟨g.defers.d0 B,u,Y,u,s,us,rfl,g.below,C,H,fun k I j L=>(M k I j L).mono (aB _) (fun b m _=>⟨rfl,X b m⟩),q,fun γ' t=>?_⟩;have hc:=zut (S':=fun b=>(S b\/w.heap.size<=b)/\s.ownBlock≠some b) (γ':=fun j=>if j=i then γ i else none) g J (by simp [J]) X (fun j b s' L m=>⟨aQ (g.ge b (own.mk m)).1.1,fun e=>L (g.inj _ _ _ _ _ m J Bz (by rw [e];exact Bz))⟩) Z;exact (hc.sub h3).ren (ids:=[0]) (ρ:=fun _=>i) (fun id O=>by
   have:id=0:=by simpa using O
   subst this;rw [t];simp [J]) res rfl p
 cases e with
 |normal=>exact key N
 |ret=>exact key N
 |_=>exact N.elim
section
variable {α β γ δ:Type}
def cnd (b:Bool)(x y:Option β):Option β:=match b with|true=>x|false=>y
def idx (l:List α)(n:Int)(k:α->Option β):Option β:=if 0<=n then (match l[n.toNat]? with|some x=>k x|none=>none) else none
def nat (n:Int)(len:Nat)(k:Nat->Option β):Option β:=if 0<=n/\n.toNat<len then k n.toNat else none
def ltx (m len:Nat)(x:Option β):Option β:=if m<len then x else none
def elt (l:List α)(m:Nat)(k:α->Option β):Option β:=match l[m]? with|some x=>k x|none=>none
def slc (len:Nat)(lo hi:Int)(k:Nat->Nat->Option β):Option β:=if 0<=lo/\lo<=hi/\hi<=(len:Int) then k lo.toNat hi.toNat else none
def sls (l:List α)(lo hi:Int)(k:List α->Option β):Option β:=if 0<=lo/\lo<=hi/\hi<=(l.length:Int) then k ((l.take hi.toNat).drop lo.toNat) else none
def app (l m:List α)(bytes:Nat)(k:List α->Option β):Option β:=if l.length+m.length<=1099511627776/\(l.length+m.length)*bytes<=140737488355328 then k (l++m) else none
def mak (n:Int)(bytes:Nat)(z:α)(k:List α->Option β):Option β:=if 0<=n/\n.toNat<=1099511627776/\bytes*n.toNat<=281474976710656 then k (bA n.toNat z) else none
def stx (l:List α)(m:Nat)(f:α->α)(k:List α->Option β):Option β:=match l[m]? with|some x=>k (l.set m (f x))|none=>none
variable {κ ν:Type}
def mlk [DecidableEq κ]:List (κ×ν)->κ->Option ν
 |[],_=>none
 |(a,v)::r,k=>if k=a then some v else mlk r k
def mput [DecidableEq κ]:List (κ×ν)->κ->ν->List (κ×ν)
 |[],k,v=>[(k,v)]
 |(a,x)::r,k,v=>if k=a then (k,v)::r else (a,x)::mput r k v
def mgt [DecidableEq κ](l:List (κ×ν))(k:κ)(z:ν)(c:ν->Bool->Option β):Option β:=c ((mlk l k).getD z) (mlk l k).isSome
def mst [DecidableEq κ](l:List (κ×ν))(k:κ)(v:ν)(c:List (κ×ν)->Option β):Option β:=c (mput l k v)
def nzx (b:Int)(x:Option β):Option β:=if b=0 then none else x
def psx (b:Int)(x:Option β):Option β:=if 0<b then x else none
def shx (b:Int)(x:Option β):Option β:=if 0<=b then x else none
def bnd (o:Option α)(k:α->Option β):Option β:=match o with|some a=>k a|none=>none
def bndC (o:Option α)(k:α->Option β):Option β:=match o with|some a=>k a|none=>none
def bndR (o:Option α)(k:α->Option β):Option β:=match o with|some a=>k a|none=>none
def frz (id:Nat)(x:Option β):Option β:=x
def reg (x:Option β):Option β:=x
variable {x y:Option β}{r:β}
theorem A1.o {b:Bool}{p q:Prop}(h:cnd b x y=some r)(h1:x=some r->p)(c:y=some r->q):A1 b p q:=⟨fun e=>h1 (by subst e;exact h),fun e=>c (by subst e;exact h)⟩
variable {l:List α}{n:Int}{K:AV->Prop}{k:α->Option β}
theorem IdxX.o (enc:α->AV)(h:idx l n k=some r)(c:∀ x,k x=some r->K (enc x)):IdxX (l.map enc) n K:=by
 unfold idx at h;split at h
 ·rename_i d;split at h
  ·rename_i x b;exact .mk n.toNat (enc x) (by omega) (by rw [aX,b];rfl) (c x h)
  ·cases h
 ·cases h
theorem IdxX.o2 {u v:AV}(h:cnd (decide (n=0)) x (cnd (decide (n=1)) y none)=some r)(b:x=some r->K u)(h1:y=some r->K v):IdxX [u,v] n K:=by
 unfold cnd at h;split at h
 ·rename_i e;exact .mk 0 u (of_decide_eq_true e) rfl (b h)
 ·split at h
  ·rename_i e;exact .mk 1 v (of_decide_eq_true e) rfl (h1 h)
  ·cases h
theorem J9 (a b:ByteArray):(a.toList == b.toList)=decide (a=b):=by
 rw [<-zfy,Bool.eq_iff_iff,MapKept.bytes_beq];simp
variable {len:Nat}
theorem NatX.o {K:Nat->Prop}{k:Nat->Option β}(h:nat n len k=some r)(c:∀ m,k m=some r->K m):NatX n len K:=by
 unfold nat at h;split at h
 ·rename_i b;exact .mk n.toNat (by omega) b.2 (c _ h)
 ·cases h
theorem NatX.o2 {K:Nat->Prop}(h:cnd (decide (n=0)) x (cnd (decide (n=1)) y none)=some r)(b:x=some r->K 0)(h1:y=some r->K 1):NatX n 2 K:=by
 unfold cnd at h;split at h
 ·rename_i e;exact .mk 0 (of_decide_eq_true e) (by omega) (b h)
 ·split at h
  ·rename_i e;exact .mk 1 (of_decide_eq_true e) (by omega) (h1 h)
  ·cases h
theorem NatX.o3 {K:Nat->Prop}{z:Option β}(h:cnd (decide (n=0)) x (cnd (decide (n=1)) y (cnd (decide (n=2)) z none))=some r)(c:x=some r->K 0)(h1:y=some r->K 1)(b:z=some r->K 2):NatX n 3 K:=by
 unfold cnd at h;split at h
 ·rename_i e;exact .mk 0 (of_decide_eq_true e) (by omega) (c h)
 ·split at h
  ·rename_i e;exact .mk 1 (of_decide_eq_true e) (by omega) (h1 h)
  ·split at h
   ·rename_i e;exact .mk 2 (of_decide_eq_true e) (by omega) (b h)
   ·cases h
theorem LtX.o {m:Nat}{K:Prop}(h:ltx m len x=some r)(b:x=some r->K):LtX m len K:=by
 unfold ltx at h;split at h
 ·rename_i hm;exact .mk hm (b h)
 ·cases h
theorem EltX.o (enc:α->AV){m:Nat}(h:elt l m k=some r)(c:∀ x,k x=some r->K (enc x)):EltX (l.map enc) m K:=by
 unfold elt at h;split at h
 ·rename_i x b;exact .mk (enc x) (by rw [aX,b];rfl) (c x h)
 ·cases h
theorem SlcX.o {lo hi:Int}{K:Nat->Nat->Prop}{k:Nat->Nat->Option β}(h:slc len lo hi k=some r)(b:∀ l h,k l h=some r->K l h):SlcX len lo hi K:=by
 unfold slc at h;split at h
 ·rename_i c;exact .mk lo.toNat hi.toNat (by omega) (by omega) (by omega) (by omega) (b _ _ h)
 ·cases h
theorem SlsX.o (enc:α->AV){lo hi:Int}{K:List AV->Prop}{k:List α->Option β}(h:sls l lo hi k=some r)(b:∀ l',k l'=some r->K (l'.map enc)):SlsX (l.map enc) lo hi K:=by
 unfold sls at h;split at h
 ·rename_i c;exact .mk lo.toNat hi.toNat (by omega) (by omega) (by omega) (by rw [aJ];omega) _ (by rw [map_drop,map_take]) (b _ h)
 ·cases h
variable {bytes:Nat}
theorem AppX.o {m:List α}(enc:α->AV){ys:List AV}{K:List AV->Prop}{k:List α->Option β}(h:app l m bytes k=some r)(hs:SubR ys (m.map enc))(d:∀ l',k l'=some r->K (l'.map enc)):AppX ((l.map enc).length+ys.length) bytes (l.map enc++ys) K:=by
 have c:=hs.len;unfold app at h;split at h
 ·rename_i b;exact .sub ((l++m).map enc) (by rw [map_append];exact .append (.refl _) hs) (by rw [aJ,c,aJ];exact b.1) (by rw [aJ,c,aJ];exact b.2) (d _ h)
 ·cases h
theorem AppX.o0 {m:List α}(enc:α->AV){ys:List AV}{K:List AV->Prop}{k:List α->Option β}(h:app [] m bytes k=some r)(hs:SubR ys (m.map enc))(d:∀ l',k l'=some r->K (l'.map enc)):AppX ys.length bytes ys K:=by
 have c:=hs.len;unfold app at h;split at h
 ·rename_i b;exact .sub (m.map enc) hs (by rw [c,aJ];simpa using b.1) (by rw [c,aJ];simpa using b.2) (d _ h)
 ·cases h
theorem MakX.o {z:α}(enc:α->AV){y:AV}{K:List AV->Prop}{k:List α->Option β}(h:mak n bytes z k=some r)(hs:SubL y.cells (enc z).cells)(c:∀ l',k l'=some r->K (l'.map enc)):MakX n bytes y K:=by
 unfold mak at h;split at h
 ·rename_i b;exact .mk n.toNat (by omega) b.2.1 b.2.2 _ (by rw [map_replicate];exact .replicate hs _) (c _ h)
 ·cases h
theorem SetX.o (enc:α->AV){f:α->α}{m j n:Nat}{av:AV}{ok:AV->Bool}{put:AV->AV}{K:List AV->Prop}{k:List α->Option β}(h:stx l m f k=some r)(c:∀ x,ok (enc x)=true)(b:∀ x,SubL (put (enc x)).cells (enc (f x)).cells)(g:∀ l',k l'=some r->K (l'.map enc)):SetX (l.map enc) m j n av ok put K:=by
 unfold stx at h;split at h
 ·rename_i x d;exact .mk (enc x) (by rw [aX,d];rfl) (c x) _ (by rw [map_set];exact .set (b x) _ _) (g _ h)
 ·cases h
theorem ShX.o {b:Int}{K:Prop}(h:shx b x=some r)(c:x=some r->K):ShX b K:=by
 unfold shx at h;split at h
 ·rename_i d;exact .mk d (c h)
 ·cases h
def encM (encK:κ->AV)(encV:ν->AV)(p:κ×ν):AV×AV:=(encK p.1,encV p.2)
theorem zfd [DecidableEq κ](encK:κ->AV)(encV:ν->AV)(g:∀ a b,eqK (encK a) (encK b)=some (decide (a=b)))(k:κ):∀ (l:List (κ×ν)) (i:Nat),
  ∃ r,Bt (encK k) ((l.map (encM encK encV)).map (·.1)) i=some r/\r.isSome=(mlk l k).isSome/\(∀ j,r=some j->i<=j/\∃ v,mlk l k=some v/\((l.map (encM encK encV)).getD (j-i) default).2=encV v) /\
   ∀ (v:ν) (x:AV),Sub x (encV v)->SubM (putK (r.map (· - i)) (encK k) x (l.map (encM encK encV))) ((mput l k v).map (encM encK encV))
 |[],i=>⟨none,rfl,rfl,fun j h=>(by cases h),fun v x hs=>.cons _ hs .nil⟩
 |(a,v)::r,i=>by
  simp only [aO,encM,Bt,g,mlk,mput];by_cases c:k=a
  ·subst c;simp only [decide_true];refine ⟨some i,rfl,by simp,fun j d=>?_,fun v' x hs=>?_⟩
   ·injection d with d;subst d;exact ⟨aB _,v,by simp,by simp⟩
   ·simp only [if_true,aL,aU,putK,set_cons_zero,aO];exact .cons _ hs (.refl _)
  ·rw [decide_eq_false c];obtain ⟨q,h1,s,m,p⟩:=zfd encK encV g k r (i+1);refine ⟨q,h1,by rw [s,if_neg c],fun j d=>?_,fun v' x hs=>?_⟩
   ·obtain ⟨z,v',u,t⟩:=m j d;refine ⟨by omega,v',by rw [if_neg c];exact u,?_⟩;rw [show j-i=(j-(i+1))+1 by omega,getD_cons_succ];exact t
   ·have:=p v' x hs;rw [if_neg c];cases q with
    |none=>exact .cons _ (.refl _) this
    |some j =>
     obtain ⟨z,_⟩:=m j rfl;simp only [aL,putK] at this ⊢;rw [show j-i=(j-(i+1))+1 by omega,set_cons_succ];exact .cons _ (.refl _) this
theorem LkX.o [DecidableEq κ]{l:List (κ×ν)}{k:κ}{z:ν}{P:Program}{kt:Nat}{zA:AV}{K:AV->Bool->Prop}{c:ν->Bool->Option β}(encK:κ->AV)(encV:ν->AV)(h:mgt l k z c=some r)(m:Bs P kt (encK k)=true)(p:∀ a b,eqK (encK a) (encK b)=some (decide (a=b)))(g:Sub zA (encV z))
  (s:∀ v b,c v b=some r->K (encV v) b):LkX P kt (encK k) (l.map (encM encK encV)) zA K:=by
 obtain ⟨q,h1,d,t,_⟩:=zfd encK encV p k l 0;refine .mk q (encV ((mlk l k).getD z)) (mlk l k).isSome m h1 d ?_ (s _ _ h);cases q with
 |none =>
  have:mlk l k=none:=by cases hm:mlk l k with
   |none=>rfl
   |some v=>rw [hm] at d;cases d
  rw [this];exact g
 |some j =>
  obtain ⟨_,v,A,u⟩:=t j rfl;rw [A,Option.getD_some,<-u];exact .refl _
theorem UpX.o [DecidableEq κ]{l:List (κ×ν)}{k:κ}{v:ν}{P:Program}{kt:Nat}{x:AV}{K:List (AV×AV)->Prop}{c:List (κ×ν)->Option β}(encK:κ->AV)(encV:ν->AV)(h:mst l k v c=some r)(g:Bs P kt (encK k)=true)(m:∀ a b,eqK (encK a) (encK b)=some (decide (a=b)))(d:Sub x (encV v))
  (p:∀ l',c l'=some r->K (l'.map (encM encK encV))):UpX P kt (encK k) x (l.map (encM encK encV)) K:=by
 obtain ⟨q,h1,_,_,s⟩:=zfd encK encV m k l 0;refine .mk q _ g h1 ?_ (p _ h);have:=s v x d;cases q with
 |none=>exact this
 |some j=>exact this
theorem PosX.o {b:Int}{K:Prop}(h:psx b x=some r)(c:x=some r->K):PosX b K:=by
 unfold psx at h;split at h
 ·rename_i d;exact .mk d (c h)
 ·cases h
theorem NzX.o {b:Int}{K:Prop}(h:nzx b x=some r)(c:x=some r->K):NzX b K:=by
 unfold nzx at h;split at h
 ·cases h
 ·rename_i d;exact .mk d (c h)
section
variable {E:Env} {nt:Nat} {f:FuncId} {avs:List AV}
variable {fr:Bool}{R:Nat->Nat->List AV->AV->Prop}{find:Nat->Option Ent}{KR:AV->List Nat->List (Nat×Ent)->Prop}
theorem Ab.o {o:Option α}(h:bnd o k=some r)(enc:α->AV)(c:∀ a,o=some a->Con E fr f avs (enc a))(b:∀ a,k a=some r->K (enc a)):Ab E f avs K R find KR:=by
 unfold bnd at h;split at h
 ·exact .mk fr _ (c _ rfl) (b _ h)
 ·cases h
theorem Ab.oR {o:Option α}(h:bndR o k=some r)(rl:α->List γ)(encE:γ->AV)(res:α->AV)(b:E.dr=false)(d:∀ a,o=some a->ConT E f avs ty sz ((rl a).map encE) (res a))(c:∀ a,k a=some r->R ty sz ((rl a).map encE) (res a)):Ab E f avs K R find KR:=by
 unfold bndR at h;split at h
 ·exact .rowT ty sz _ _ b (d _ rfl) (c _ h)
 ·cases h
variable {raw:List AV}{dst:Option Nat}
theorem B7.o {o:Option α}(h:bnd o k=some r)(enc:α->AV)(d:∀ a,o=some a->Con E fr f avs (enc a))(c:∀ a,fr=true\/(enc a).flat=true)(b:∀ a,k a=some r->K (enc a)):B7 E f avs K raw find dst KR:=by
 unfold bnd at h;split at h
 ·exact .mk fr _ (d _ rfl) (c _) (b _ h)
 ·cases h
variable {cargs:List AV}
theorem B7.oC {o:Option α}{d b c:Nat}(h:bndC o k=some r)(id:Nat)(rl:α->List γ)(encE:γ->AV)(res:α->AV)(g:E.dr=false)(z:∀ a,o=some a->ConC false E f cargs ty sz xs b c ((rl a).map encE) (res a))
  (p:AV.renL (fun _=>id) cargs=raw) (m:AV.inML [0] cargs=true) (s:find id=some (.row ty sz xs)) (u:dst=some d) (q:find d=none) (j:aH id d=false) (t:∀ a,k a=some r->KR ((res a).ren fun _=>d) [d,id] [(d,.row b c ((rl a).map encE)),(id,.dead)]):B7 E f avs K raw find dst KR:=by
 unfold bndC at h;split at h
 ·exact .take id d ty sz xs b c _ _ cargs g (z _ rfl) p m s u q (aR j) (t _ h)
 ·cases h
theorem B7.oE {o:Option α}{b:List AV}(h:bnd o k=some r)(id:Nat)(enc:α->AV)(d:find id=some (.row ty sz xs))(j:∀ a,o=some a->Con E fr f b (enc a))(m:AV.frzL id sz xs raw=b)(c:AV.closedL b=true)(g:∀ a,k a=some r->KR (enc a) [id] [(id,.dead)]):B7 E f avs K raw find dst KR:=by
 unfold bnd at h;split at h
 ·exact .eat id ty sz xs b fr _ d m c (j _ rfl) (g _ h)
 ·cases h
theorem B7.oI {o:Option α}(h:bndC o k=some r)(id:Nat)(rl:α->List γ)(encE:γ->AV)(res:α->AV)(b:E.dr=false)(m:∀ a,o=some a->ConC true E f cargs ty sz xs ty sz ((rl a).map encE) (res a))
  (d:AV.renL (fun _=>id) cargs=raw) (c:AV.inML [0] cargs=true) (g:find id=some (.row ty sz xs)) (j:∀ a,k a=some r->KR ((res a).ren fun _=>id) [id] [(id,.row ty sz ((rl a).map encE))]):B7 E f avs K raw find dst KR:=by
 unfold bndC at h;split at h
 ·exact .turn id ty sz xs _ _ cargs b (m _ rfl) d c g (j _ h)
 ·cases h
theorem Av.o {V:Type}{L:Nat->V->Option β}{S:V->AS}{F:(AS->Prop)->AS->Prop}{n:Nat}{c:V}(h:L n c=some r)(g:∀ v,L 0 v=none)(j:LeX E nt σ (S c))(round:∀ m v,L (m+1) v=some r->F (fun b=>∃ v',L m v'=some r/\LeX E nt b (S v')) (S v))
  (mono:∀ (P Q:AS->Prop) σ,(∀ σ,P σ->Q σ)->F P σ->F Q σ):Av E nt F σ:=by
 refine .mk (fun m σ=>∃ v,L m v=some r/\σ=S v) n (S c) j ⟨c,h,rfl⟩ ?_;rintro m σ ⟨v,d,rfl⟩;cases m with
 |zero=>rw [g] at d;cases d
 |succ m =>
  refine mono _ _ _ (fun b ⟨v',h1,p⟩=>?_) (round m v d);exact ⟨m,S v',p,Nat.lt_succ_self _,v',h1,rfl⟩
end
theorem RetX.o {v:AV}{a:β}{enc:β->AV}(h:some a=some r)(hs:Sub v (enc a)):RetX v (enc r):=by injection h with h;subst h;exact .sub hs
theorem TX.o {fn:Func}{a:β}{rl:β->List AV}{res:β->AV}(h:some a=some r)(b:TX E nt fn σ ty sz (rl a) (res a)):TX E nt fn σ ty sz (rl r) (res r):=by injection h with h;subst h;exact b
end
section
variable {E:Env} {nt:Nat}
theorem AW.mono1 {c:Code}{K:Exit->AS->Prop}{P Q:AS->Prop}(h:∀ σ,P σ->Q σ)(k:AW E nt (Cv P K) [.code c] .normal σ):AW E nt (Cv Q K) [.code c] .normal σ:=⟨fun cx j g=>WP.mono (k.out cx j g) (fun e d b=>by cases e<;>first|exact h _ b|exact b)⟩
end
section
variable {β V:Type} {E:Env} {nt:Nat} {R:Exit->AS->Prop} {K:List Bq}
theorem LoopA.o {L:Nat->V->Option β}{S:V->AS}{c:Code}{r:β}{n:Nat}{g:V}(h:L n g=some r)(j:∀ v,L 0 v=none)(p:LeX E nt σ (S g))
  (round:∀ m v,L (m+1) v=some r->AW E nt (Cv (fun b=>∃ v',L m v'=some r/\LeX E nt b (S v')) (AW E nt R K)) [.code c] .normal (S v)):Av E nt (fun next b=>AW E nt (Cv next (AW E nt R K)) [.code c] .normal b) σ :=
 Av.o h j p round (fun P Q σ d q=>AW.mono1 d q)
theorem AW.frzO {id:Nat}{c:Code}{x:Option β}{y:β}(h:frz id x=some y)(r:Nat)(b:σ.find r=some (.row ty sz xs))(k:x=some y->AW E nt R (.code c::K) .normal (σ.frzAll r sz xs)):AW E nt R (.code c::K) .normal σ:=AW.weaken (LeX.frzAll r ty sz xs b) (k h)
theorem AW.regO {id:Nat}{b:Array Oper}{d:Bool}{x:Option β}{y:β}(h:reg x=some y)(k:x=some y->AW E nt R (.ops d b b.toList [] []::K) .normal σ):AW E nt R (.code (.region id b d)::K) .normal σ:=AW.into (k h)
end
def AS.putS (σ:AS)(t:Nat)(v:AV):AS:=⟨(t,v)::σ.tm,σ.me⟩
theorem LeX.put (t:Nat)(v:AV)(hs:Sub (σ.get t) v):LeX E nt σ (σ.putS t v):=fun cx g d a w ⟨γ,h⟩=>by
 refine ⟨γ,fun u=>?_,fun i=>h.me i,h.inj,h.ge,h.below,h.size,h.defers,h.gh,h.fr,h.dr⟩;by_cases b:t=u
 ·subst b;have e:(σ.putS t v).get t=v:=by simp [AS.putS,bG,lkV]
  rw [e];exact (h.tm t).sub hs
 ·have e:(σ.putS t v).get u=σ.get u:=by
   unfold AS.putS bG;simp only [lkV];cases c:aH t u with
   |true=>exact absurd (aA c) b
   |false=>rfl
  rw [e];exact h.tm u
attribute [irreducible] cnd idx nat ltx elt slc sls app mak stx nzx shx bnd bndC bndR frz reg mgt mst psx
def y1m (s:ByteArray)(m:Nat):Option UInt8:=s.data[m]?
section
variable {P:Program}
end
section
variable {cx:Cx} {o:Oper} {σ:AS}
theorem y1s {P:Program}{T:Nat}{i:TyI}(h:TyOk P T i)(hs:i.shape=.str):P.underlying T=some .string:=by
 obtain ⟨dd,c,b⟩:=h.und;rw [hs] at b;cases dd<;>simp only [Dq,reduceCtorEq] at b;exact c
theorem zps {T:Nat}{x y:Operand}{i:TyI}{s:ByteArray}{k:IntKind}{n:Int}{m:Nat}{b:UInt8}(q:o.op=.index T x y)(D:dok cx o=true)(p:A4 x=true)(j:A4 y=true)(B:σ.eval x=.str s)(A:σ.eval y=.int k n)(G:lkT cx.E.tab T=some i)
  (hs:i.shape=.str) (hm:n=(m:Int)) (F:y1m s m=some b):Ah cx o σ (.int .u8 b.toNat) [] [] :=
 Ba D fun τ γ a w h1 H d=>by
  have h:=d.ev x p;rw [h1 x (by simp [q,Op.operands]),B] at h;have c:=d.ev y j;rw [h1 y (by simp [q,Op.operands]),A] at c;have u:=y1s (cx.E.ok T i G) hs;obtain ⟨t,z⟩:=Array.getElem?_eq_some_iff.1 F;have g:m<s.size:=t;have C:s[m]? = some b:=by
   rw [getElem?_pos s m g];exact congrArg some z
  subst hm;refine ⟨.int .u8 b.toNat,?_,.int _ _⟩;simp [execOp,q,h.str_inv,c.int_inv,Instr.index,asIntOf,run_underlying u,C,pure]
theorem z7b {T n d:Nat}{B:Array (Nat×Operand)}{i ie:TyI}{e esz eb:Nat}(ho:o.op=.buildSlice T n B)(C:o.dst=some d)(hd:dok cx o=true)(hT:lkT cx.E.tab T=some i)(hs:i.shape=.slc e esz eb)(he:lkT cx.E.tab e=some ie)(hz:esz≠0)(hn:Nat.ble (n*esz) 16777216=true)
  (X:ie.zero.cells.all (·.oneCell')=true) (Y:Nat.blt 0 ie.zero.cells.size=true) (aa:Fg σ B=true) (af:AV.closedL xs=true) (t:xs.length=n) (hl:xs.all (fun x=>aH x.cells.length esz)=true)
  (hf:Db (fun j=>some (j*esz,esz)) (bA (n*esz) .any) (Cq σ B)=some (xs.flatMap AV.cells)) (ab:σ.find d=none):Ah cx o σ (.row d) (d::Fh (Cq σ B)) [(d,.row e esz xs)]:=by
 refine ⟨fun id e he=>?_,fun τ h1 h2 a w Q K ⟨γ,N⟩ hK=>C6 (fun c hc=>by rw [ho] at hc;cases hc) ?_⟩
 ·have:=D6 he;simp at this;simp [this]
 have U:=zb4 N aa (fun p hp=>h1 p.2 (by simp only [ho,Op.operands,mem_toArray,mem_map];exact ⟨p,hp,rfl⟩)) (fun id ad=>h2 id (mem_cons_of_mem _ ad));have I:∀ j,(ie.zero.cells[j % ie.zero.cells.size]!).oneCell'=true:=zsx X (by simpa using Y);have L:CRel w (Sg cx.S0 cx.w0.heap.size γ) γ ((bF (n*esz)).map (ie.zero.cells[· % ie.zero.cells.size]!)) (bA (n*esz) .any):=by
  refine ⟨by simp,fun j F=>by simp only [aN];exact .any _,fun j F=>?_⟩;have D:j<n*esz:=by simpa using F
  have:((bF (n*esz)).map (ie.zero.cells[· % ie.zero.cells.size]!)).getD j undef=ie.zero.cells[j % ie.zero.cells.size]! := by
   rw [aC,Array.getElem?_map,Array.getElem?_range,if_pos D];rfl
  rw [this];exact I j
 obtain ⟨cells',G,ai,ah,ag⟩:=Wt (f:=a.eval) (g:=σ.eval) B.toList _ _ _ U L hf;have O:=z42 (parts:=B.map fun p=>(p.1,a.eval p.2)) (cx.E.ok T i hT) hs (cx.E.ok e ie he) hz (aK hn) (by rw [aZ];exact G) w;have J:Below w.heap.size w (w.alloc (.cells cells' e)):=(Below.refl _ _).alloc (aB _) _;have m:∀ k (A:k<xs.length),(xs[k]).cells.length=esz:=fun k A=>by
  simp only [all_eq_true] at hl;exact aA (hl _ (getElem_mem A))
 obtain ⟨g1,g2⟩:=zx9 m;have ac:∀ k j,k<xs.length->j<esz->k*esz+j<xs.length*esz:=fun k j A F=>by
  have:(k+1)*esz<=xs.length*esz:=aF _ A;rw [aV] at this;omega
 have H:cells'.size=n*esz:=by rw [ai,g1,t]
 have aj:n<=16777216:=by
  have h:=aK hn;have:n*1<=n*esz:=Nat.mul_le_mul_left _ (by omega);omega
 unfold Oper.wp;have ae:(execOp a.eval o).run cx.P w=.ok (.value (.slice (some ⟨w.heap.size,0,none⟩) n n)) (w.alloc (.cells cells' e)):=by
  have e':(B.map fun x=>match x with|(i,x)=>(i,a.eval x))=B.map fun p=>(p.1,a.eval p.2):=rfl
  simp only [execOp,ho,e',Sem.run_bind,Sem.run_pure,Result.andThen_ok,O]
 rw [ae];refine hK _ _ ?_;rw [C];refine Wy (v:=.slice (some ⟨w.heap.size,0,none⟩) n n) (us:=cells'.toList) N (fun _=>aB _) (by rw [h2 d (by simp),ab]) (fun x Z=>by injection Z with Z;subst Z;exact C2 hd _ C) J
  ⟨by rw [aM,H,t],aQ ⟨w.heap.size,n,cells',by rw [t],aB _,Blk.new w _ _,by omega,by unfold maxLen;omega,H,?_⟩⟩ m (fun k A j F=>?_) (fun u hu=>?_)
  (fun hS=>.row (aD _ _ _) (fun g s e _=>by injection e with e;injection e with _ e))
 ·rw [aY (by rw [aM,H,t];exact aB _)]
 ·have D:j<esz:=by rw [<-m k A];exact F
  have z:k*esz+j<(xs.flatMap AV.cells).length:=by rw [g1];exact ac k j A D
  have:=ah (k*esz+j) z;have M:=g2 k A j F;rw [getElem?_eq_getElem z] at M;injection M with M
  rw [M] at this;have e2:cells'.toList.getD (k*esz+j) undef=cells'.getD (k*esz+j) undef:=by
   rw [aE,aC,Array.getElem?_toList]
  rw [e2];refine (this.mono J.size (fun b hS z=>⟨J.block b z,aP hS,fun e=>?_⟩)).close (z8y (AV.closedL_at af k A) j F);simp only [Value.ownBlock,Option.some.injEq] at e;omega
 ·obtain ⟨q,M,rfl⟩:=mem_iff_getElem.1 hu;have W:q<cells'.size:=by simpa using M
  have:=ag q W;rw [aC,Array.getElem?_eq_getElem W] at this;simpa using this
end
section
variable {cx:Cx} {o:Oper} {σ:AS}
variable {id:Nat}
theorem Sa {γ:Gam}{τ:AS}{a:Act}{w:World}(m:StG cx γ τ a w)(z:τ.find id=some (.row ty sz xs)) :
  ∃ s vs,γ id=some (some (s.ownBlock,s))/\s.oneCell'=true/\w.ownsRow cx.w0.heap.size ty sz s xs.length vs/\(∀ k (A:k<xs.length),(xs[k]).cells.length=sz) /\
   (∀ k (A:k<xs.length) j (B:j<(xs[k]).cells.length),Rep w (Sg cx.S0 cx.w0.heap.size γ) G0 ((xs[k]).cells[j]) (vs.getD (k*sz+j) undef))/\∀ u∈vs,u.oneCell'=true:=by
 have g:=m.me id;rw [z] at g;obtain ⟨d,q,s,vs,p,h1,b,h,t,c⟩:=g;subst p;exact ⟨s,vs,q,h1,b,h,t,c⟩
variable {T e esz eb lo:Nat}{x:Operand}{i:TyI}
theorem zpm {y:Operand}{k:IntKind}(H:o.op=.slice T x (some y) none none)(Z:dok cx o=true)(C:A4 x=true)(B:A4 y=true)(W:σ.eval x=.row id)(U:σ.eval y=.int k (lo:Int))(hT:lkT cx.E.tab T=some i)(hs:i.shape=.slc e esz eb)(q:esz≠0)
  (Y:σ.find id=some (.row ty esz xs)) (J:lo<=xs.length):Ah cx o σ (.der (.sub esz lo) id) [id] [] :=
 Ba Z fun τ γ a w A L d=>by
  obtain ⟨Q,O,m3⟩:=ze6 H;have j:=d.ev x C;rw [A x Q,W] at j;obtain ⟨N,M,_⟩:=Cu (cx.E.ok T i hT) hs;have t:=E8 M q w;obtain ⟨s,us,b,G,u,_⟩:=Sa (id:=id) d (by rw [L id (by simp)];exact Y);have m:∀ c,xs.length<=c->(Instr.sliceBounds true xs.length c (some (a.eval y)) none none).run cx.P w=.ok (lo,xs.length,c) w:=fun c hc =>
   Zw (σ:=σ) (l:=lo) (h:=xs.length) (c:=c) (n:=xs.length) (lo:=some y) (hi:=none) d B rfl (fun z q=>A z (O z q)) (fun z q=>by cases q) (by simp [bndA,U]) (by simp [bndA]) J hc
  rcases u.2 with ⟨F,h0⟩|⟨g,p,aa,F,_,_,I,_⟩
  ·have D:xs.length=0:=h0;have X:lo=0:=by omega
   have m:=m 0 (by omega);rw [D] at m;subst F;refine ⟨.slice none 0 0,?_,.der b (fun g s e=>by injection e with e;injection e with _ e;subst e;exact ⟨rfl,rfl⟩)⟩;simp only [execOp,H,j.row_inv b,bC,aL,Sem.run_bind,Sem.run_pure,Result.andThen_ok];simp [Instr.sliceAt,Instr.slice,run_underlying N,m,t,pure]
  ·have m:=m p I;subst F;refine ⟨.slice (some (if p=lo then ⟨g,0,none⟩ else ⟨g,0+lo*esz,none⟩)) (xs.length-lo) (p-lo),?_,.der b (fun g s e=>by injection e with e;injection e with _ e;subst e;exact ⟨rfl,rfl⟩)⟩;simp only [execOp,H,j.row_inv b,bC,aL,Sem.run_bind,Sem.run_pure,Result.andThen_ok];simp [Instr.sliceAt,Instr.slice,run_underlying N,m,t,pure,Addr.add_lit];split<;>rfl
theorem zvg {γ:Gam}{τ:AS}{a:Act}{w:World}{v:Value}(z:StG cx γ τ a w)(H:τ.find id=some (.row ty sz xs))(D:Rep w (Sg cx.S0 cx.w0.heap.size γ) γ (.der (.sub sz lo) id) v)(G:lo<xs.length) :
  ∃ g b c us,γ id=some (some (some g,.slice (some ⟨g,0,none⟩) xs.length b))/\v=.slice (some ⟨g,lo*sz,none⟩) (xs.length-lo) (b-lo)/\xs.length<=b/\w.ownsRow cx.w0.heap.size ty sz (.slice (some ⟨g,0,none⟩) xs.length b) xs.length us/\w.heap[g]? = some (.cells c ty (0,0))/\c.size=b*sz/\c.toList.take (xs.length*sz)=us/\(∀ k (I:k<xs.length),(xs[k]).cells.length=sz) /\
   (∀ k (I:k<xs.length) j (L:j<(xs[k]).cells.length),Rep w (Sg cx.S0 cx.w0.heap.size γ) G0 ((xs[k]).cells[j]) (us.getD (k*sz+j) undef))/\∀ u∈us,u.oneCell'=true:=by
 obtain ⟨s,us,q,A,d,p,F,m⟩:=Sa z H;have h:=d;rcases d.2 with ⟨hs,M⟩|⟨g,b,c,hs,_,J,B,_,C,t⟩
 ·omega
 ·subst hs;refine ⟨g,b,c,us,q,?_,B,h,J,C,t,p,F,m⟩;rw [D.der_inv q];have:¬b=lo:=by omega
  simp [Dv.of,this]
theorem zvp {ty:TypeId}(z:o.op=.call { callee:=.builtin .len,args:=#[x],argTypes:=#[T] })(G:dok cx o=true)(m:A4 x=true)(B:σ.eval x=.der (.sub sz lo) id)(F:σ.find id=some (.row ty sz xs))(H:lkT cx.E.tab T=some i)(hs:i.shape=.slc e esz eb)(D:lo<=xs.length):Ah cx o σ (.int .i64 ((xs.length-lo:Nat):Int)) [id] [] :=
 Ba G fun τ γ a w h1 I d=>by
  have j:=d.ev x m;rw [h1 x (by simp [z,Op.operands,Call.operands]),B] at j;obtain ⟨C,_,_⟩:=Cu (cx.E.ok T i H) hs;obtain ⟨s,us,u,t,h,_⟩:=Sa (id:=id) d (by rw [I id (by simp)];exact F);have b:∃ A c,a.eval x=.slice A (xs.length-lo) c:=by
   rw [j.der_inv u];rcases h.2 with ⟨q,J⟩|⟨g,M,L,q,_⟩
   ·have p:xs.length=0:=J;subst q;exact ⟨none,0,by rw [p,Nat.zero_sub];rfl⟩
   ·subst q;exact ⟨_,_,rfl⟩
  obtain ⟨A,c,b⟩:=b;refine ⟨.int .i64 ((xs.length-lo:Nat):Int),?_,.int _ _⟩;simp only [execOp,z,resolve,invoke,builtin,Builtin.len_,Array.map_push,bB,aO,map_nil,b];simp [run_underlying C,goInt,pure]
theorem zei {y:Operand}{ty:TypeId}{k:IntKind}{n:Int}{m:Nat}(p:o.op=.indexAddr T x y)(H:dok cx o=true)(j:A4 x=true)(h:A4 y=true)(C:σ.eval x=.der (.sub sz lo) id)(B:σ.eval y=.int k n)
  (G:σ.find id=some (.row ty sz xs)) (I:lkT cx.E.tab T=some i) (hs:i.shape=.slc e sz eb) (A:sz≠0) (F:n=(m:Int)) (hm:lo+m<xs.length):Ah cx o σ (.elt id sz (lo+m) 0) [id] [] :=
 Ba H fun τ γ a w h1 J c=>by
  have d:=c.ev x j;rw [h1 x (by simp [p,Op.operands]),C] at d;have b:=c.ev y h;rw [h1 y (by simp [p,Op.operands]),B] at b;obtain ⟨D,u,_⟩:=Cu (cx.E.ok T i I) hs;obtain ⟨g,N,M,us,t,L,z,_⟩:=zvg (id:=id) c (by rw [J id (by simp)];exact G) d (by omega);refine ⟨.pointer (some ⟨g,(lo+m)*sz,none⟩),?_,.elt t (fun O s e=>by injection e with e;injection e with e _;simp only [Option.some.injEq] at e;rw [<-e];rfl)⟩;subst F;have q:m<xs.length-lo:=by omega
  simp [execOp,p,L,b.int_inv,Instr.indexAt,asIntOf,run_underlying D,E8 u A,q,pure,Addr.add_lit,Nat.add_mul]
theorem zix (z:Array Value)(n q j:Nat)(g:q<n)(d:j<z.size):(Builtin.zeroCells z n).toList.getD (q*z.size+j) undef=z.getD j undef:=by
 have c:q*z.size+j<n*z.size:=by
  have:(q+1)*z.size<=n*z.size:=aF _ g;rw [aV] at this;omega
 have b:(q*z.size+j) % z.size=j:=by rw [Nat.mul_comm,Nat.mul_add_mod,Nat.mod_eq_of_lt d]
 rw [aE];simp [Builtin.zeroCells,c,b,bH,d]
variable {α:Type}
def clrL (l:List α)(lo:Nat)(z:α):List α:=l.take lo++bA (l.length-lo) z
theorem zrd (l:List α)(lo:Nat)(z:α)(h:lo<=l.length):(clrL l lo z).length=l.length:=by simp [clrL];omega
theorem y0m {β:Type}(f:α->β)(l:List α)(lo:Nat)(z:α):clrL (l.map f) lo (f z)=(clrL l lo z).map f:=by simp [clrL]
theorem zpy {ie:TyI}(ho:o.op=.call { callee:=.builtin .clear,args:=#[x],argTypes:=#[T] })(hd:dok cx o=true)(bc:A4 x=true)(hx:σ.eval x=.der (.sub esz lo) id)(hl:σ.find id=some (.row e esz xs))(hT:lkT cx.E.tab T=some i)(hs:i.shape=.slc e esz eb)(he:lkT cx.E.tab e=some ie)(hz:esz≠0)
  (bb:Jh ie=true) (I:ie.zero.cells.all (·.oneCell')=true) (bj:lo<=xs.length):Ah cx o σ (.tup []) [id] [(id,.row e esz (clrL xs lo (Da ie)))]:=by
 refine ⟨fun id e he=>D6 he,fun τ h1 h2 a w Q K ⟨γ,z⟩ hK=>C6 (fun c hc=>by rw [ho] at hc;cases hc) ?_⟩;have aj:=z.ev x bc;rw [h1 x (by simp [ho,Op.operands,Call.operands]),hx] at aj;obtain ⟨hu,bq,_⟩:=Cu (cx.E.ok T i hT) hs;have ao:=cx.E.ok e ie he;have bh:ie.sz=esz:=ao.cells.symm.trans bq;obtain ⟨al,ba⟩:=zae bb;have H:ie.zero.cells.size=esz:=ba.trans bh;have ax:(Da ie).cells.length=esz:=by rw [al,aJ,aM,H]
 have az:∀ v∈ie.zero.cells,v.oneCell'=true:=by
  rw [Array.all_eq_true_iff_forall_mem] at I;exact I
 have hf:τ.find id=some (.row e esz xs):=by rw [h2 id (by simp)];exact hl
 have p:=zrd xs lo (Da ie) bj;unfold Oper.wp;by_cases aw:lo<xs.length
 ·obtain ⟨g,Z,G,us,C,ex,ab,t,hh,bx,bg,F,hr,J⟩:=zvg (id:=id) z hf aj aw;have af:=t;obtain ⟨bv,_⟩:=t;have B:(Builtin.zeroCells ie.zero.cells (xs.length-lo)).toList.length=(xs.length-lo)*esz:=by simp [Builtin.zeroCells,H]
  have bt:lo*esz+(xs.length-lo)*esz=xs.length*esz:=by rw [<-Nat.add_mul];congr 1;omega
  have br:xs.length*esz<=Z*esz:=aF _ ab;have ac:∀ v∈(Builtin.zeroCells ie.zero.cells (xs.length-lo)).toList,v.oneCell'=true:=fun v hv=>by
   obtain ⟨q,hq,rfl⟩:=mem_iff_getElem.1 hv;rw [B] at hq;have an:0<ie.zero.cells.size:=by omega
   have aq:=Nat.mod_lt q an;simp only [Builtin.zeroCells,aZ,aS,Array.getElem_toList,Array.getElem_range];rw [getElem!_pos ie.zero.cells _ aq];exact az _ (Array.getElem_mem _)
  have D:=run_storeCells_at cx.P g (lo*esz) e (Builtin.zeroCells ie.zero.cells (xs.length-lo)).toList 0 G w hh (by rw [B];omega) ac;simp only [Nat.add_zero,B] at D;generalize ah:(Builtin.zeroCells ie.zero.cells (xs.length-lo)).toList=news at D B ac;generalize O:(G.toList.take (lo*esz)++news++G.toList.drop (lo*esz+(xs.length-lo)*esz)).toArray=d at D;have ap:xs.length-lo≠0:=by omega
  have ae:(Builtin.clear_ #[T] 0 #[a.eval x]).run cx.P w=.ok (.tuple #[]) (w.setRow g d):=by
   obtain ⟨m,hm⟩:∃ m,xs.length-lo=m+1:=⟨xs.length-lo-1,by omega⟩;rw [hm] at ah ex;simp only [Builtin.clear_,ex];simp [run_underlying hu,ao.zeroV w,ah,D,pure]
  have bf:∀ ty,(Builtin.clear_ #[T] ty #[a.eval x])=(Builtin.clear_ #[T] 0 #[a.eval x]):=fun ty=>rfl
  have ai:(execOp a.eval o).run cx.P w=.ok (.value (.tuple #[])) (w.setRow g d):=by
   simp only [execOp,ho,resolve,invoke,builtin,bB,aO,map_nil,bf,Sem.run_bind,ae,Result.andThen_ok,Sem.run_pure]
  rw [ai];have ay:=setRow_heap w g G d e (0,0) hh;have aa:∀ q,q≠g->(w.setRow g d).heap[q]? = w.heap[q]? := fun q hq=>setRow_other w g q _ hq
  have ak:w.heap.size<=(w.setRow g d).heap.size:=by simp
  have bo:w.grownBy (w.setRow g d) (some g):=⟨rfl,rfl,rfl,ak,fun k U ap=>aa k (fun e=>ap (by rw [e]))⟩;have bp:w.drawn<=(w.setRow g d).drawn:=aB _;have M:own γ g:=own.mk C;have X:∀ b,Sg cx.S0 cx.w0.heap.size γ b->b≠g:=fun b W e=>by
   subst e;rcases W with ⟨_,h⟩|⟨_,h⟩
   ·have:=(z.ge b M).1.1;omega
   ·exact h M
  generalize w.setRow g d=w' at *;have am:d.toList.take (xs.length*esz)=us.take (lo*esz)++news:=by
   rw [<-O];simp only [<-bg];rw [toList_toArray,take_append,aY (by simp;omega)];have:(List.take (lo*esz) G.toList++news).length=xs.length*esz:=by simp [B];omega
   rw [this,aU,take_zero,append_nil,take_take,Nat.min_eq_left (by omega)]
  refine hK _ _ (zc6 (v:=.slice (some ⟨g,0,none⟩) xs.length Z) (us':=us.take (lo*esz)++news) z (fun _=>bp) C (C2 hd) bo ?_ (fun k U=>?_) (fun k U j L=>?_) (fun u hu=>?_) (.tup #[] rfl (fun j L=>absurd L (by simp))))
  ·rw [p];rcases af.2 with ⟨h,_⟩|⟨g',bu,cu,bd,bs,_,_,bi,_,_⟩
   ·cases h
   ·injection bd with Y e2 e3
    injection Y with Y
    injection Y with Y _ _
    subst Y;subst e3;refine ⟨by simp [B];omega,aQ ⟨g,Z,d,rfl,bs,ay,ab,bi,?_,am⟩⟩;rw [<-O];simp [B];omega
  ·rw [p] at U;simp only [clrL,aT];split
   ·rw [getElem_take];exact F k _
   ·rw [aN];exact ax
  ·rw [p] at U;have av:(us.take (lo*esz)).length=lo*esz:=by simp;omega
   by_cases bk:k<lo
   ·have N:(clrL xs lo (Da ie))[k]'(by rw [p];exact U)=xs[k]:=by
     simp only [clrL,aT];rw [dif_pos (by simp;omega),getElem_take]
    rw [N] at L;have bm:j<esz:=by rw [<-F k U];exact L
    have au:k*esz+j<lo*esz:=by
     have:(k+1)*esz<=lo*esz:=aF _ bk;rw [aV] at this;omega
    have Y:(us.take (lo*esz)++news).getD (k*esz+j) undef=us.getD (k*esz+j) undef:=by
     rw [aE,getElem?_append_left (by omega),getElem?_take_of_lt au,<-aE]
    rw [Y];simp only [N];exact (hr k U j L).mono ak (fun b W aw=>⟨aa b (X b W),aP W,fun e=>X b W (by injection e with e;exact e.symm)⟩)
   ·have N:(clrL xs lo (Da ie))[k]'(by rw [p];exact U)=Da ie:=by
     simp only [clrL,aT];rw [dif_neg (by simp;omega),aN]
    rw [N] at L;have bm:j<esz:=by rw [<-ax];exact L
    have bw:lo*esz<=k*esz:=aF _ (by omega);have Y:(us.take (lo*esz)++news).getD (k*esz+j) undef=ie.zero.cells.getD j undef:=by
     rw [aE,getElem?_append_right (by omega),av,<-aE,<-ah];have:=zix ie.zero.cells (xs.length-lo) (k-lo) j (by omega) (by omega);rw [<-this,H,Nat.sub_mul];congr 1;omega
    rw [Y];simp only [N,al,aS];have bl:j<ie.zero.cells.size:=by omega
    have:ie.zero.cells.getD j undef=ie.zero.cells[j]:=by simp [bH,bl]
    rw [this];simpa using N7 _ _ _ (ie.zero.cells[j])
  ·rcases mem_append.1 hu with hu|hu
   ·exact J u (mem_of_mem_take hu)
   ·exact ac u hu
 ·have ar:lo=xs.length:=by omega
  have ai:(execOp a.eval o).run cx.P w=.ok (.value (.tuple #[])) w:=by
   obtain ⟨s,us,C,ag,t,_⟩:=Sa (id:=id) z hf;have ad:∃ A c,a.eval x=.slice A 0 c:=by
    rw [aj.der_inv C];rcases t.2 with ⟨hv,h0⟩|⟨g,Z,G,hv,_⟩
    ·subst hv;exact ⟨none,0,rfl⟩
    ·subst hv;exact ⟨_,_,by show Value.slice _ (xs.length-lo) _=_;rw [ar,aU]⟩
   obtain ⟨A,c,ad⟩:=ad;simp only [execOp,ho,resolve,invoke,builtin,bB,aO,map_nil,Builtin.clear_,ad];cases A<;>simp [run_underlying hu,pure]
  rw [ai];have bn:clrL xs lo (Da ie)=xs:=by simp [clrL,ar]
  rw [bn] at hK;obtain ⟨s,us,C,ag,t,F,hr,J⟩:=Sa (id:=id) z hf;have X:∀ b,Sg cx.S0 cx.w0.heap.size γ b->s.ownBlock≠some b:=fun b W e=>by
   have M:own γ b:=own.mk (by rw [C,e]);rcases W with ⟨_,h⟩|⟨_,h⟩
   ·have:=(z.ge b M).1.1;omega
   ·exact h M
  exact hK _ _ (zc6 (v:=s) (us':=us) z (fun _=>aB _) C (C2 hd) (World.grownBy.refl _ _) t F (fun k U j L=>(hr k U j L).mono (aB _) (fun b W _=>⟨rfl,aP W,X b W⟩)) J (.tup #[] rfl (fun j L=>absurd L (by simp))))
end
section
variable {P:Program} {w:World} {S:Nat->Prop}
end
theorem con0 (x:Value)(vs:Array Value):(#[x]++vs).getD 0 undef=x:=by
 rw [aC,Array.getElem?_append_left (by simp)];rfl
theorem Jd {w:World}{B n:Nat}{s:Value}{vs:List Value}(h:w.ownsRow B ty sz s n vs):s.ownBlock=B5 s/\Cn s=[]:=by
 rcases h.2 with ⟨rfl,_⟩|⟨g,c,b,rfl,_⟩<;>exact ⟨rfl,rfl⟩
theorem Eo {s:Value}{b:Nat}(h:s.ownBlock=B5 s)(c:Cn s=[]):b∈blks (some (s.ownBlock,s)) ↔ B5 s=some b:=by
 simp [blks,c,h]
section
variable {cx:Cx} {o:Oper} {σ:AS}
theorem zqm {d h id:Nat}{e m g:Ent}(c:lkE [(d,e),(h,m)] id=some g):id∈[d,h]:=by
 simp only [lkE] at c;cases j:aH d id with
 |true=>simp [aA j]
 |false =>
  rw [j] at c;cases b:aH h id with
  |true=>simp [aA b]
  |false=>rw [b] at c;cases c
theorem Zs {d b:Nat}{e h:Ent}(j:d≠b)(i:Nat):lkE [(d,e),(b,h)] i=if i=d then some e else if i=b then some h else none:=by
 simp only [lkE];by_cases h1:i=d
 ·subst h1;simp
 ·rw [if_neg h1];have:aH d i=false:=by cases c:aH d i with|true=>exact absurd (aA c).symm h1|false=>rfl
  rw [this];by_cases g:i=b
  ·subst g;simp
  ·rw [if_neg g];have:aH b i=false:=by cases c:aH b i with|true=>exact absurd (aA c).symm g|false=>rfl
   rw [this]
theorem znj (vs:Array Value)(x:Value)(p j:Nat)(b:p<vs.size):(vs.setIfInBounds p x).getD j undef=if j=p then x else vs.getD j undef:=by
 simp only [aC,Array.getElem?_setIfInBounds];by_cases h:j=p
 ·subst h;rw [if_pos rfl,if_pos b,if_pos rfl];rfl
 ·rw [if_neg h,if_neg (fun e=>h e.symm)]
theorem zzr {w:World}{S:Nat->Prop}{B:Nat}{v:Value}(h:NRep w S B v (.row ty sz xs)):∃ us,w.ownsRow B ty sz v xs.length us:=by
 obtain ⟨_,us,h,_⟩:=h;exact ⟨us,h⟩
end
end Go.Proofs.YthbogefcfhmpgaaGreat
