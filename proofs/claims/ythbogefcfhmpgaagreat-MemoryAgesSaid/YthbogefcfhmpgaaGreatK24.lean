/- Layer 56, plainly. -/
import Derived.Test.YthbogefcfhmpgaaGreatK23
import Derived.Test.YthbogefcfhmpgaaGreatRows
import Derived.ProofKit
import Derived.Lib.SmallJoins
import Derived.Deep.Slices
import Derived.Below
set_option linter.unusedVariables false
set_option linter.unusedSimpArgs false
set_option maxRecDepth 100000
namespace Go.Proofs.YthbogefcfhmpgaaGreat
open Go.RowKit List
open List renaming getElem?_eq_getElem->aA,getElem?_set_self->aE,length_map->aF,drop_eq_getElem_cons->aH,drop_eq_nil_of_le->aJ,getElem_mem->aM,length_set->aN,getElem?_replicate->aO,getD_eq_getElem?_getD->aP,replicate->aQ,getElem?_set_ne->aR,foldl_cons->aS,getElem?_set->aT,mem_cons_of_mem->aU,mem_iff_getElem->aV,eq_of_mem_replicate->aX,mem_cons->aZ,all_eq_true->bA,drop_zero->bB,getElem?_eq_none->bC,getElem?_map->bD,map_cons->bF,mem_or_eq_of_mem_set->bG,getElem?_append_left->bH,length_append->bJ,ext_getElem?->bK,getElem_cons_zero->bL,getElem_cons_succ->bM,length_replicate->bO,singleton_append->bP,mem_append_right->bQ,length_cons->bS,length_nil->bU,sum_cons->bV,mem_map->bW
open Int renaming natCast_zero->aB,toNat_natCast->aD,toNat_of_nonneg->aW,le_refl->bR
open Bool renaming not_true->aC,not_false->aG,false_eq_true->aY,and_eq_true->bN
open Or renaming inr->aK,inl->aL
open Nat renaming le_refl->bE
open _root_.Go.Proofs.Tryz renaming prog->bI
def PsQ (a:Aut)(B:Int->Int->Prop)(x:Ed)(s:Int):Prop:=¬s∈x.fCloses/\(x.fFrom=0->s∈x.fOpens)/\(In56 a x.fFrom->¬s∈x.fOpens/\B x.fFrom s)
def CoA (a:Aut)(B:Int->Int->Prop):Prop:=(∀ t s,B t s->In56 a t/\0<=s/\s<a.fScopes)/\∀ x∈a.fEdges,0<=x.fTo->Rr a x.fFrom->In56 a x.fTo->∀ s,B x.fTo s->PsQ a B x s
def An56 (a:Aut)(t s:Int):Prop:=∃ B,CoA a B/\B t s
theorem An56.ok (a:Aut):CoA a (An56 a):=⟨fun t s ⟨B,h,q⟩=>h.1 t s q,fun x hx h0 h1 h2 s ⟨B,h,q⟩=>by
 obtain ⟨q1,q2,q3⟩:=h.2 x hx h0 h1 h2 s q
 exact ⟨q1,q2,fun hi=>⟨(q3 hi).1,B,h,(q3 hi).2⟩⟩⟩
variable {a:Aut}
theorem In56.rg (h:EdR a){t:Int}(q:In56 a t):0<=t/\t.toNat<a.fStates.length:=by
 obtain ⟨x,hx,x0,_,_,rfl⟩:=q
 have:=h.ed x hx
 omega
theorem Wj (n:Nat)(hn:10000000<n)(a:Aut)(hsc:a.fScopes<=64)(p:Be)(hp:MK p.finner)(x:Ed)(hxo:x.fOpens.length<=1100000)(hxc:x.fCloses.length<=1100000)(out:List Mp)(ho:∀ M∈out,MK M)(hf:0<=x.fFrom/\x.fFrom.toNat<out.length):∀ (m k:Nat) (M:Mp),k<=64->64<m+k->MK M->∃ R,Cw n out x a p (fun y=>some y) m ((k:Int),M)=some R/\MK R/\∀ v,has R v ↔ has M v\/((k:Int)<=v/\v<a.fScopes/\PsP p out x v)
 |0,k,M,h1,h2,h3=>by omega
 |m+1,k,M,h1,h2,h3=>by
  unfold Cw
  rw [A6]
  by_cases h:(k:Int)<a.fScopes
  ·rw [if_pos h,Gb n (k:Int) x.fOpens (by omega) (by omega),A4,Gb n (k:Int) x.fCloses (by omega) (by omega),A4]
   have key:∀ (b:Bool),(b=true ↔ PsP p out x (k:Int))->∃ R,Dp n out x a p ((k:Int),M) (Cw n out x a p (fun y=>some y) m) b=some R/\MK R/\∀ v,has R v ↔ has M v\/((k:Int)<=v/\v<a.fScopes/\PsP p out x v):=fun b hb=>by
    unfold Dp
    simp only [Ae,Qq,Ai k (by omega)]
    cases b with
    |true =>
     rw [Af]
     obtain ⟨R,r1,r2,r3⟩:=Wj n hn a hsc p hp x hxo hxc out ho hf m (k+1) _ (by omega) (by omega) (h3.put (k:Int))
     refine ⟨R,r1,r2,fun v=>?_⟩
     rw [r3,h3.has_put]
     constructor
     ·rintro ((e|e)|⟨e1,e2,e3⟩)
      ·rw [e];exact aK ⟨bR _,h,hb.1 rfl⟩
      ·exact aL e
      ·exact aK ⟨by omega,e2,e3⟩
     ·rintro (e|⟨e1,e2,e3⟩)
      ·exact aL (aK e)
      ·by_cases ev:v=(k:Int)
       ·exact aL (aL ev)
       ·exact aK ⟨by omega,e2,e3⟩
    |false =>
     rw [Ag]
     obtain ⟨R,r1,r2,r3⟩:=Wj n hn a hsc p hp x hxo hxc out ho hf m (k+1) _ (by omega) (by omega) h3
     refine ⟨R,r1,r2,fun v=>?_⟩
     rw [r3]
     refine or_congr Iff.rfl ⟨fun e=>⟨by omega,e.2⟩,fun e=>⟨?_,e.2⟩⟩
     by_cases ev:v=(k:Int)
     ·rw [ev] at e;exact absurd (hb.2 e.2.2) (by simp)
     ·omega
   have key5:∀ (c b:Bool),(c=true ↔ (k:Int)∈x.fOpens)->(b=true ↔ ¬(k:Int)∈x.fCloses/\(x.fFrom=0->(k:Int)∈x.fOpens))->∃ R,E9 n out x a p ((k:Int),M) (Cw n out x a p (fun y=>some y) m) c b=some R/\MK R/\∀ v,has R v ↔ has M v\/((k:Int)<=v/\v<a.fScopes/\PsP p out x v):=fun c b hc hb=>by
    unfold E9
    simp only [Ae,Ax,Kb]
    cases hq:(mlk p.finner x.fFrom).getD false with
    |false =>
     rw [Ag]
     refine key _ ⟨fun e=>⟨(hb.1 e).1,(hb.1 e).2,fun hi=>?_⟩,fun q=>hb.2 ⟨q.1,q.2.1⟩⟩
     rw [(hp.get _).2 hi] at hq
     cases hq
    |true =>
     have hin:=(hp.get _).1 hq
     rw [Af]
     cases b with
     |false=>rw [Ag];exact key _ ⟨fun e=>by (cases e),fun q=>hb.2 ⟨q.1,q.2.1⟩⟩
     |true =>
      rw [Af]
      cases c with
      |true=>simp only [aC,Ag];exact key _ ⟨fun e=>by (cases e),fun q=>absurd (hc.1 rfl) (q.2.2 hin).1⟩
      |false =>
       simp only [aG,Af]
       rw [Gc hf.1 hf.2]
       refine key _ ⟨fun e=>⟨(hb.1 rfl).1,(hb.1 rfl).2,fun hi=>⟨fun q=>by (have:=hc.2 q;cases this),_,aA hf.2,((ho _ (aM hf.2)).get _).1 e⟩⟩,fun q=>?_⟩
       obtain ⟨M',hM,hh⟩:=(q.2.2 hin).2
       rw [aA hf.2] at hM
       injection hM with hM
       subst hM
       exact ((ho _ (aM hf.2)).get _).2 hh
   have hany:∀ (l:List Int),(l.any fun y=>decide ((k:Int)=y))=true ↔ (k:Int)∈l:=fun l=>by simp
   simp only [Ae,Ax]
   rw [A6]
   split
   ·rename_i q0
    cases hcl:(x.fCloses.any fun y=>decide ((k:Int)=y)) with
    |true=>simp only [aC,Ag];exact key5 _ _ (hany _) ⟨fun e=>by (cases e),fun q=>absurd ((hany _).1 hcl) q.1⟩
    |false=>simp only [aG,Af];exact key5 _ _ (hany _) ⟨fun e=>⟨fun q=>by (have:=(hany _).2 q;rw [hcl] at this;cases this),fun _=>(hany _).1 e⟩,fun q=>(hany _).2 (q.2 q0)⟩
   ·rename_i q0
    refine key5 _ _ (hany _) ⟨fun e=>⟨fun q=>?_,fun e0=>absurd e0 q0⟩,fun q=>?_⟩
    ·rw [(hany _).2 q] at e;cases e
    ·cases hcl:(x.fCloses.any fun y=>decide ((k:Int)=y)) with
     |true=>exact absurd ((hany _).1 hcl) q.1
     |false=>rfl
  ·rw [if_neg h]
   exact ⟨M,rfl,h3,fun v=>⟨aL,fun e=>e.elim id (fun e=>by omega)⟩⟩
theorem zkn (n:Nat)(hn:10000000<n)(a:Aut)(hsc:a.fScopes<=64)(p:Be)(hp:MK p.finner)(x:Ed)(hxo:x.fOpens.length<=1100000)(hxc:x.fCloses.length<=1100000)(out:List Mp)(ho:∀ M∈out,MK M)(hf:0<=x.fFrom/\x.fFrom.toNat<out.length):∃ R,Oq n p a x out=some R/\MK R/\∀ v,has R v ↔ 0<=v/\v<a.fScopes/\PsP p out x v:=by
 obtain ⟨R,r1,r2,r3⟩:=Wj n hn a hsc p hp x hxo hxc out ho hf n 0 [] (by omega) (by omega) MK.nil
 exact ⟨R,r1,r2,fun v=>by rw [r3];simp [Dz]⟩
structure AnI (a:Aut) (out:List Mp):Prop where
 r:∀ (t:Nat) (M:Mp) (s:Int),out[t]? = some M->has M s->In56 a (t:Int)/\0<=s/\s<a.fScopes
 g:∀ t s,An56 a t s->∃ M,out[t.toNat]? = some M/\has M s
theorem AnI.set (h:EdR a){p:Be}(hp:PtX a p){out:List Mp}(hi:AnI a out){x:Ed}(hx:x∈a.fEdges)(h0:0<=x.fTo)(h1:has p.freachable x.fFrom)(h2:has p.finner x.fTo){R C M:Mp}(hM:out[x.fTo.toNat]? = some M)(hR:∀ v,has R v ↔ 0<=v/\v<a.fScopes/\PsP p out x v)(hC:∀ v,has C v ↔ has M v/\has R v):AnI a (out.set x.fTo.toNat C):=by
 refine ⟨fun t N s hN hs=>?_,fun t s hA=>?_⟩
 ·by_cases e:x.fTo.toNat=t
  ·subst e
   rw [aE (List.getElem?_eq_some_iff.1 hM).1] at hN
   injection hN with hN
   subst hN
   exact hi.r _ _ _ hM ((hC s).1 hs).1
  ·rw [aR e] at hN
   exact hi.r _ _ _ hN hs
 ·obtain ⟨N,n1,n2⟩:=hi.g t s hA
  by_cases e:x.fTo.toNat=t.toNat
  ·have ht:=((An56.ok a).1 t s hA).1.rg h
   have et:t=x.fTo:=by omega
   subst et
   rw [hM] at n1
   injection n1 with n1
   subst n1
   refine ⟨C,by rw [aE (List.getElem?_eq_some_iff.1 hM).1],(hC s).2 ⟨n2,(hR s).2 ?_⟩⟩
   obtain ⟨_,s0,s1⟩:=(An56.ok a).1 _ s hA
   obtain ⟨q1,q2,q3⟩:=(An56.ok a).2 x hx h0 ((hp.rx _).1 h1) ((hp.ix _).1 h2) s hA
   exact ⟨s0,s1,q1,q2,fun hin=>⟨(q3 ((hp.ix _).1 hin)).1,hi.g _ _ (q3 ((hp.ix _).1 hin)).2⟩⟩
  ·exact ⟨N,by rw [aR e];exact n1,n2⟩
theorem W9 (n:Nat)(hn:10000000<n)(a:Aut)(h:AutR a)(p:Be)(hp:PtX a p)(K:Bool->List Mp->Option (List Mp)):∀ (m k:Nat) (b:Bool) (out:List Mp),k<=a.fEdges.length->a.fEdges.length<m+k->C3 a.fStates.length out->AnI a out->tot out<10000000->∃ b' out',Cv n a p K m (b,(k:Int),out)=K b' out'/\C3 a.fStates.length out'/\AnI a out'/\tot out'<=tot out/\(b'=true->b=true\/tot out' < tot out)/\(b=true->b'=true)/\(b'=true\/(out'=out/\∀ x∈a.fEdges.drop k,Fx p out x))
 |0,k,b,out,h1,h2,h3,hi,h4=>by omega
 |m+1,k,b,out,h1,h2,h3,hi,h4=>by
  have hle:=h.le
  unfold Cv
  simp only [aF]
  by_cases hk:k<a.fEdges.length
  ·rw [A6,if_pos (by omega),Al hk,aH hk]
   have hx:=h.ed _ (aM hk)
   have hlo:=h.lo _ (aM hk)
   have hlen:=h3.len
   have next:Fx p out a.fEdges[k]->∃ b' out',Cv n a p K m (b,((k+1:Nat):Int),out)=K b' out'/\C3 a.fStates.length out'/\AnI a out'/\tot out'<=tot out/\(b'=true->b=true\/tot out' < tot out)/\(b=true->b'=true)/\(b'=true\/(out'=out/\∀ x∈a.fEdges[k]::a.fEdges.drop (k+1),Fx p out x)):=fun hfx=>by
    obtain ⟨b',out',e1,e2,e7,e3,e4,e5,e6⟩:=W9 n hn a h p hp K m (k+1) b out (by omega) (by omega) h3 hi h4
    refine ⟨b',out',e1,e2,e7,e3,e4,e5,e6.imp id (fun q=>⟨q.1,fun x hx=>?_⟩)⟩
    rcases aZ.1 hx with e|e
    ·rw [e];exact hfx
    ·exact q.2 x e
   have skip:Fx p out a.fEdges[k]->∃ b' out',Dc n a p (b,(k:Int),out) (Cv n a p K m) a.fEdges[k] true=K b' out'/\C3 a.fStates.length out'/\AnI a out'/\tot out'<=tot out/\(b'=true->b=true\/tot out' < tot out)/\(b=true->b'=true)/\(b'=true\/(out'=out/\∀ x∈a.fEdges[k]::a.fEdges.drop (k+1),Fx p out x)):=fun hfx=>by
    unfold Dc
    simp only [Ai k (by omega:k<=1000000000000)]
    rw [Af]
    exact next hfx
   simp only [Ax,Ae,Kb]
   rw [A6]
   by_cases q:a.fEdges[k].fTo<0
   ·rw [if_pos q];exact skip (fun h0=>by omega)
   rw [if_neg q]
   have ht:0<=a.fEdges[k].fTo/\a.fEdges[k].fTo.toNat<out.length:=by omega
   cases hre:(mlk p.freachable a.fEdges[k].fFrom).getD false with
   |false=>simp only [aG,Af];exact skip (fun _ hr=>by rw [(hp.r.get _).2 hr] at hre;cases hre)
   |true =>
    simp only [aC,Ag]
    cases hin:(mlk p.finner a.fEdges[k].fTo).getD false with
    |false=>simp only [aG];exact skip (fun _ _ hr=>by rw [(hp.i.get _).2 hr] at hin;cases hin)
    |true =>
     simp only [aC]
     unfold Dc
     simp only [Ai k (by omega:k<=1000000000000),aF,Ae]
     rw [Ag,C1 ht.1 ht.2,D1 ht.2]
     obtain ⟨R,r1,r2,r3⟩:=zkn n hn a h.sc.2 p hp.i _ hlo.1 hlo.2.1 out h3.mks (by omega)
     have hmo:=h3.mks _ (aM ht.2)
     have hle:out[a.fEdges[k].fTo.toNat].length<=tot out:=by
      have:=Nb ht.2 []
      simp only [bU] at this
      omega
     obtain ⟨C,c1,c2,c3⟩:=zfd n _ R hmo r2 (by omega)
     rw [r1,A4,c1,A4,C1 ht.1 ht.2,D1 ht.2,A6]
     by_cases ql:C.length<out[a.fEdges[k].fTo.toNat].length
     ·rw [if_pos (by omega),C1 ht.1 ht.2,C9 ht.2]
      have hts:=Nb ht.2 C
      obtain ⟨b',out',e1,e2,e7,e3,e4,e5,e6⟩:=W9 n hn a h p hp K m (k+1) true (out.set a.fEdges[k].fTo.toNat C) (by omega) (by omega) (h3.set _ c2) (hi.set h.toEdR hp (aM hk) ht.1 ((hp.r.get _).1 hre) ((hp.i.get _).1 hin) (aA ht.2) r3 c3) (by omega)
      exact ⟨b',out',e1,e2,e7,by omega,fun _=>aK (by omega),fun _=>e5 rfl,aL (e5 rfl)⟩
     ·rw [if_neg (by omega)]
      refine next (fun _ _ _ M s hM hs=>?_)
      rw [aA ht.2] at hM
      injection hM with hM
      subst hM
      exact ((r3 s).1 ((c3 s).1 (zii c2 (fun v hv=>((c3 v).1 hv).1) (by omega) s hs)).2).2.2
  ·rw [A6,if_neg (by omega),aJ (by omega)]
   exact ⟨b,out,rfl,h3,hi,bE _,aL,id,aK ⟨rfl,by simp⟩⟩
theorem Zv (n:Nat)(hn:10000000<n)(a:Aut)(h:AutR a)(p:Be)(hp:PtX a p):∀ (m:Nat) (b:Bool) (out:List Mp),(tot out+1<m\/(b=false/\tot out<m))->C3 a.fStates.length out->AnI a out->tot out<10000000->(b=false->∀ x∈a.fEdges,Fx p out x)->∃ out',Dn n a p (fun y=>some y) m (b,out)=some out'/\C3 a.fStates.length out'/\AnI a out'/\tot out'<=tot out/\∀ x∈a.fEdges,Fx p out' x
 |0,b,out,h1,h2,hi,h3,h4=>by omega
 |m+1,b,out,h1,h2,hi,h3,h4=>by
  unfold Dn
  simp only
  cases b with
  |false=>rw [Ag];exact ⟨out,rfl,h2,hi,bE _,h4 rfl⟩
  |true =>
   rw [Af]
   have hle:=h.le
   obtain ⟨b',out',e1,e2,e8,e3,e4,e5,e6⟩:=W9 n hn a h p hp (fun y z=>Dn n a p (fun y=>some y) m (y,z)) n 0 false out (by omega) (by omega) h2 hi h3
   simp only [aB] at e1
   rw [e1]
   have h1':tot out+1<m+1:=by
    rcases h1 with h|h
    ·exact h
    ·exact absurd h.1 (by simp)
   have hb:tot out' + 1<m\/(b'=false/\tot out' < m):=by
    cases b' with
    |false=>exact aK ⟨rfl,by omega⟩
    |true=>have:=(e4 rfl).resolve_left (by simp);exact aL (by omega)
   obtain ⟨q,q1,q2,q5,q3,q4⟩:=Zv n hn a h p hp m b' out' hb e2 e8 (by omega) (fun eb=>by
    rcases e6 with e|⟨e,e7⟩
    ·rw [eb] at e;cases e
    ·rw [e];rw [bB] at e7;exact e7)
   exact ⟨q,q1,q2,q5,by omega,q4⟩
theorem zjw {l:Mp}(h:Srt l)(k v:Int):has (sput l k true) v ↔ v=k\/has l v:=by
 rw [Xg (Tm h) v]
 simp only [has,map_append,bF,map_nil,mem_append,mem_singleton,bW,mem_filter]
 constructor
 ·rintro (⟨p,⟨p1,p2⟩,p3⟩|e)
  ·exact aK ⟨p,p1,p3⟩
  ·exact aL e
 ·rintro (e|⟨p,p1,p3⟩)
  ·exact aK e
  ·by_cases e:v=k
   ·exact aK e
   ·exact aL ⟨p,⟨p1,by simp;omega⟩,p3⟩
theorem zld (k:Int)(d:Nat)(q:Mp)(h:Srt q)(v:Int):has (addS k d q) v ↔ has q v\/(k<=v/\v<k+(d:Int)):=by
 induction d generalizing k q with
 |zero=>exact ⟨aL,fun e=>e.elim id (fun e=>by omega)⟩
 |succ d ih =>
  show has (addS (k+1) d (sput q k true)) v ↔ _
  rw [ih (k+1) _ (K0 h),zjw h]
  constructor
  ·rintro ((e|e)|e)
   ·exact aK (by omega)
   ·exact aL e
   ·exact aK (by omega)
  ·rintro (e|e)
   ·exact aL (aK e)
   ·by_cases ev:v=k
    ·exact aL (aL ev)
    ·exact aK (by omega)
theorem Xh (S:Mp):∀ (rem:Mp) (w:List Mp) (i:Nat),(rem.foldl (fun w q=>w.set q.1.toNat S) w)[i]? = if i<w.length/\∃ q∈rem,q.1.toNat=i then some S else w[i]?
 |[],w,i=>by simp
 |q::r,w,i=>by
  rw [aS,Xh S r,aN]
  by_cases e:q.1.toNat=i
  ·subst e
   by_cases hl:q.1.toNat<w.length
   ·rw [aE hl];simp [hl]
   ·rw [if_neg (fun h=>hl h.1),if_neg (fun h=>hl h.1),bC (by simp;omega),bC (by omega)]
  ·rw [aR e]
   simp only [aZ,exists_eq_or_imp,e,false_or]
theorem ziy (n:Nat)(hn:20000000<n)(a:Aut)(h:AutR a)(p:Be)(hp:PtX a p):∃ out,Iq n p a=some out/\C3 a.fStates.length out/\(∀ M∈out,M.length<n)/\∀ (i:Nat) (hi:i<out.length) (s:Int),has out[i] s ↔ An56 a (i:Int) s:=by
 have hst:=h.st
 obtain ⟨out0,z1,z2,z3,z4⟩:=zi2 n hn a h p hp.toPtOk
 have hS:=zjh 0 a.fScopes.toNat [] (by simp [Srt]) (by simp)
 have hSl:=zg8 0 a.fScopes.toNat [] (by simp [Srt])
 have hSh:=zld 0 a.fScopes.toNat [] (by simp [Srt])
 have hsc:=h.sc
 have hfold:∀ (rem:Mp) (w:List Mp),C3 a.fStates.length w->(∀ M∈w,M.length<=64)->C3 a.fStates.length (rem.foldl (fun w q=>w.set q.1.toNat (allS a)) w)/\∀ M∈rem.foldl (fun w q=>w.set q.1.toNat (allS a)) w,M.length<=64:=fun rem=>by
  induction rem with
  |nil=>exact fun w h h'=>⟨h,h'⟩
  |cons q r ih =>
   intro w h h'
   rw [aS]
   refine ih _ (h.set _ ⟨hS.1.nodup,hS.2⟩) (fun M hM=>(bG hM).elim (h' M) (fun e=>?_))
   rw [e]
   unfold allS
   simp only [bU] at hSl
   omega
 have ha0:ArOk a.fStates.length (mkA Mp a.fStates.length):=⟨by simp [mkA],fun i j e=>by
  unfold mkA at e
  simp only [aO] at e
  split at e<;>simp at e⟩
 have hv0:aval (mkA Mp a.fStates.length)=aQ a.fStates.length []:=by
  unfold aval mkA
  simp
 obtain ⟨f1,f2⟩:=hfold p.finner (aQ a.fStates.length []) ⟨by simp,fun M hM=>by rw [aX hM];exact MK.nil⟩ (fun M hM=>by rw [aX hM];simp)
 have ht:∀ w:List Mp,(∀ M∈w,M.length<=64)->tot w<=64*w.length:=fun w=>by
  unfold tot
  induction w with
  |nil=>simp
  |cons q r ih =>
   intro hq
   have:=ih (fun M hM=>hq M (aU _ hM))
   have:=hq q (by simp)
   simp only [bF,bV,bS]
   omega
 have htt:=ht _ f2
 rw [f1.len] at htt
 have hai:AnI a (p.finner.foldl (fun w q=>w.set q.1.toNat (allS a)) (aQ a.fStates.length [])):=by
  refine ⟨fun t M s hM hs=>?_,fun t s hA=>?_⟩
  ·rw [Xh] at hM
   split at hM
   ·rename_i q
    obtain ⟨_,r,r1,r2⟩:=q
    have hr:has p.finner r.1:=bW.2 ⟨r,r1,rfl⟩
    have r3:=(hp.ir _ hr).1
    injection hM with hM
    subst hM
    have:=(hSh s).1 hs
    refine ⟨by rw [<-r2,aW r3];exact (hp.ix _).1 hr,?_⟩
    rcases this with e|e
    ·exact absurd e (Dz s)
    ·omega
   ·rw [aO] at hM
    split at hM
    ·injection hM with hM;subst hM;exact absurd hs (Dz s)
    ·cases hM
  ·obtain ⟨i1,i2,i3⟩:=(An56.ok a).1 t s hA
   have i4:=i1.rg h.toEdR
   obtain ⟨q,q1,q2⟩:=bW.1 ((hp.ix t).2 i1)
   refine ⟨allS a,?_,(hSh s).2 (aK (by omega))⟩
   rw [Xh,if_pos ⟨by rw [bO];exact i4.2,q,q1,by rw [q2]⟩]
 obtain ⟨out,e1,e2,e9,e3,e8⟩:=Zv n (by omega) a h p hp n true _ (aL (by omega)) f1 hai (by omega) (fun e=>by cases e)
 have hle:∀ M∈out,M.length<=tot out:=fun M hM=>by
  obtain ⟨i,hi,rfl⟩:=aV.1 hM
  have:=Nb hi []
  simp only [bU] at this
  omega
 refine ⟨out,?_,e2,fun M hM=>by have:=hle M hM;omega,fun i hi s=>⟨fun q=>?_,fun q=>?_⟩⟩
 ·have hil:p.finner.length<n:=by
   have hsub:(p.finner.map (·.1)).length<=((range a.fStates.length).map (fun (i:Nat)=>(i:Int))).length:=by
    refine U4 hp.i.nd (fun t ht'=>?_)
    have:=hp.ir t ht'
    exact bW.2 ⟨t.toNat,mem_range.2 this.2,by omega⟩
   simp only [aF,length_range] at hsub
   omega
  unfold Iq
  simp only [aF,zm0,Ae]
  rw [zlq (by omega)]
  refine W8 n (by omega) a h p _ (fun w=>Dn n a p (fun y=>some y) n (true,w)) (fun N m=>by simp only [zlv,Ae]) out n p.finner (mkA Mp a.fStates.length) hil hp.i hp.ir ha0 ?_
  rw [hv0]
  exact e1
 ·refine ⟨fun t s=>0<=t/\∃ M,out[t.toNat]? = some M/\has M s,⟨fun t s ⟨t0,M,m1,m2⟩=>?_,fun x hx x0 x1 x2 s ⟨t0,M,m1,m2⟩=>?_⟩,by omega,out[i],by rw [aD,aA hi],q⟩
  ·have:=e9.r _ _ _ m1 m2
   rw [aW t0] at this
   exact this
  ·obtain ⟨q1,q2,q3⟩:=e8 x hx x0 ((hp.rx _).2 x1) ((hp.ix _).2 x2) M s m1 m2
   exact ⟨q1,q2,fun hi=>⟨(q3 ((hp.ix _).2 hi)).1,(hi.rg h.toEdR).1,(q3 ((hp.ix _).2 hi)).2⟩⟩
 ·obtain ⟨M,m1,m2⟩:=e9.g _ _ q
  rw [aD,aA hi] at m1
  injection m1 with m1
  rw [m1]
  exact m2
section
variable {α β:Type}
variable {k j:Nat}
theorem Xv {m:Ars α}(h:m.1[k]? = some (some j))(c:Nat->Option β):aob m k c=c j:=by unfold aob;rw [h]
variable {m:Ars (List α)}{l:List α}
theorem Xw (hj:m.2[j]? = some l)(hk:k<l.length)(c:Nat->Option β):aix m j (k:Int) c=c k:=by
 unfold aix
 rw [hj]
 simp [hk]
theorem zn4 {v:α}(hj:m.2[j]? = some l)(hk:l[k]? = some v)(c:α->Option β):ald m j k c=c v:=by
 unfold ald
 rw [hj]
 simp only [hk]
theorem ziv {v:α}(hj:m.2[j]? = some l)(hk:k<l.length)(c:Ars (List α)->Option β):asr m j k v c=c (m.1,m.2.set j (l.set k v)):=by
 unfold asr
 rw [hj]
 simp [hk]
end
structure AB (N:Nat) (m:Ars (List Bool)):Prop where
 l:m.1.length=N
 ok:∀ i:Nat,i<N->∃ j:Nat,m.1[i]? = some (some j)/\j<m.2.length
 inj:∀ (i i' j:Nat),m.1[i]? = some (some j)->m.1[i']? = some (some j)->i=i'
variable {N:Nat}{m:Ars (List Bool)}{i:Nat}
theorem AB.at (h:AB N m)(hi:i<N):∃ j l,m.1[i]? = some (some j)/\m.2[j]? = some l/\(aval m)[i]? = some l:=by
 obtain ⟨j,j1,j2⟩:=h.ok i hi
 refine ⟨j,m.2[j],j1,aA j2,?_⟩
 unfold aval
 rw [bD,j1]
 simp [j2]
theorem AB.len (h:AB N m):(aval m).length=N:=by unfold aval;simp [h.l]
theorem AB.set (h:AB N m){j:Nat}(hij:m.1[i]? = some (some j))(hj:j<m.2.length)(q:List Bool):AB N (m.1,m.2.set j q)/\aval (m.1,m.2.set j q)=(aval m).set i q:=by
 refine ⟨⟨h.l,fun i hi=>?_,h.inj⟩,?_⟩
 ·obtain ⟨j',a,b⟩:=h.ok i hi
  exact ⟨j',a,by simpa using b⟩
 ·unfold aval
  apply bK
  intro k
  simp only [bD,aT,aF]
  by_cases e:i=k
  ·subst e
   have hl:=(List.getElem?_eq_some_iff.1 hij).1
   rw [if_pos rfl,if_pos hl,hij]
   simp [hj]
  ·rw [if_neg e]
   cases e2:m.1[k]? with
   |none=>rfl
   |some o =>
    cases o with
    |none=>rfl
    |some j' =>
     have hne:j≠j':=fun e3=>e (h.inj i k j hij (e3▸e2))
     simp only [Option.map_some]
     rw [if_neg hne]
theorem AB.put (h:AB N m)(hi:i<N)(q:List Bool):AB N (m.1.set i (some m.2.length),m.2++[q])/\aval (m.1.set i (some m.2.length),m.2++[q])=(aval m).set i q/\(m.1.set i (some m.2.length))[i]? = some (some m.2.length):=by
 have hl:i<m.1.length:=by rw [h.l];exact hi
 have hlt:∀ (k j:Nat),m.1[k]? = some (some j)->j<m.2.length:=fun k j e=>by
  obtain ⟨j',a,b⟩:=h.ok k (by rw [<-h.l];exact (List.getElem?_eq_some_iff.1 e).1)
  rw [e] at a
  injection a with a
  injection a with a
  omega
 refine ⟨⟨by simp [h.l],fun k hk=>?_,fun k k' j e e'=>?_⟩,?_,aE hl⟩
 ·by_cases e:i=k
  ·subst e;exact ⟨_,aE hl,by simp⟩
  ·obtain ⟨j',a,b⟩:=h.ok k hk
   exact ⟨j',by simp only;rw [aR e];exact a,by simp;omega⟩
 ·simp only [aT] at e e'
  by_cases c1:i=k
  ·by_cases c2:i=k'
   ·omega
   ·rw [if_pos c1] at e
    rw [if_neg c2] at e'
    have:=hlt _ _ e'
    split at e
    ·injection e with e;injection e with e;omega
    ·rename_i hx;exact absurd hl hx
  ·by_cases c2:i=k'
   ·rw [if_neg c1] at e
    rw [if_pos c2] at e'
    have:=hlt _ _ e
    split at e'
    ·injection e' with e';injection e' with e';omega
    ·rename_i hx;exact absurd hl hx
   ·rw [if_neg c1] at e
    rw [if_neg c2] at e'
    exact h.inj k k' j e e'
 ·unfold aval
  apply bK
  intro k
  simp only [bD,aT,aF]
  by_cases e:i=k
  ·subst e
   rw [if_pos rfl,if_pos hl,if_pos rfl,if_pos hl]
   simp
  ·rw [if_neg e,if_neg e]
   cases e2:m.1[k]? with
   |none=>rfl
   |some o =>
    cases o with
    |none=>rfl
    |some j' =>
     simp only [Option.map_some]
     rw [bH (hlt k j' e2)]
variable {β:Type}
theorem AB.alq (h:AB N m)(x:Option β):alq m x=x:=by
 unfold Proofs.YthbogefcfhmpgaaGreat.alq
 rw [if_pos]
 unfold lnt
 refine bA.2 (fun o ho=>?_)
 obtain ⟨k,hk,e⟩:=aV.1 ho
 obtain ⟨j,a,b⟩:=h.ok k (by rw [<-h.l];exact hk)
 rw [aA hk,e] at a
 injection a with a
 subst a
 simpa using b
theorem AB.frq (h:AB N m)(r:Nat)(x:Option β):frq r m x=x:=by
 unfold Proofs.YthbogefcfhmpgaaGreat.frq
 rw [if_pos]
 refine bA.2 (fun o ho=>?_)
 obtain ⟨k,hk,e⟩:=aV.1 ho
 obtain ⟨j,a,b⟩:=h.ok k (by rw [<-h.l];exact hk)
 rw [aA hk,e] at a
 injection a with a
 subst a
 rfl
def an2 (V:List (List Bool))(t s:Int):Prop:=0<=t/\∃ q,V[t.toNat]? = some q/\hs q s
theorem zlt {q:List Bool}{k:Nat}(s:Int):hs (q.set k false) s ↔ hs q s/\s≠(k:Int):=by
 unfold hs
 rw [aT]
 constructor
 ·rintro ⟨h0,h⟩
  split at h
  ·split at h
   ·cases h
   ·cases h
  ·exact ⟨⟨h0,h⟩,by omega⟩
 ·rintro ⟨⟨h0,h⟩,h1⟩
  exact ⟨h0,by rw [if_neg (by omega)];exact h⟩
variable {V:List (List Bool)}
theorem zjg {k:Nat}{l:List Bool}(h:V[i]? = some l)(t s:Int):an2 (V.set i (l.set k false)) t s ↔ an2 V t s/\¬(t=(i:Int)/\s=(k:Int)):=by
 have hi:=(List.getElem?_eq_some_iff.1 h).1
 unfold an2
 by_cases e:i=t.toNat
 ·rw [<-e,aE hi,h]
  constructor
  ·rintro ⟨t0,q,q1,q2⟩
   injection q1 with q1
   subst q1
   obtain ⟨q3,q4⟩:=(zlt s).1 q2
   exact ⟨⟨t0,l,rfl,q3⟩,fun q=>q4 q.2⟩
  ·rintro ⟨⟨t0,q,q1,q2⟩,q3⟩
   injection q1 with q1
   subst q1
   exact ⟨t0,_,rfl,(zlt s).2 ⟨q2,fun e2=>q3 ⟨by omega,e2⟩⟩⟩
 ·rw [aR e]
  exact ⟨fun q=>⟨q,fun q2=>e (by omega)⟩,fun q=>q.1⟩
def tr2 (V:List (List Bool)):Nat:=(V.map (List.countP id)).sum
theorem znj {q:List Bool}{k:Nat}(hk:k<q.length)(h:q[k]=true):(q.set k false).countP id+1=q.countP id:=by
 induction q generalizing k with
 |nil=>simp at hk
 |cons b r ih =>
  cases k with
  |zero=>simp only [bL] at h;subst h;simp
  |succ k =>
   simp only [bM] at h
   have:=ih (by simpa using hk) h
   simp only [set_cons_succ,countP_cons]
   omega
theorem zm5 (hi:i<V.length)(q:List Bool):tr2 (V.set i q)+V[i].countP id=tr2 V+q.countP id:=by
 unfold tr2
 induction V generalizing i with
 |nil=>simp at hi
 |cons v r ih =>
  cases i with
  |zero=>simp only [set_cons_zero,bF,bV,bL];omega
  |succ i =>
   have:=ih (by simpa using hi)
   simp only [set_cons_succ,bF,bV,bM]
   omega
theorem PsQ.mono {B C:Int->Int->Prop}(h:∀ t s,B t s->C t s){x:Ed}{s:Int}(q:PsQ a B x s):PsQ a C x s:=⟨q.1,q.2.1,fun hi=>⟨(q.2.2 hi).1,h _ _ (q.2.2 hi).2⟩⟩
theorem zfl (n:Nat)(s:Int)(l:List Int)(hl:l.length<=1100000):∀ (m k:Nat),k<=l.length->l.length<m+k->Lm n s l (some false) m (k:Int)=some (decide (s∈l.drop k))
 |0,k,h1,h2=>by omega
 |m+1,k,h1,h2=>by
  unfold Lm
  simp only [aF]
  rw [A6]
  by_cases hk:k<l.length
  ·rw [if_pos (by omega),Al hk,A6,Ai k (by omega),zfl n s l hl m (k+1) (by omega) (by omega),aH hk]
   by_cases e:l[k]=s
   ·rw [if_pos e];simp [e]
   ·rw [if_neg e]
    refine congrArg some ?_
    rw [decide_eq_decide,aZ]
    exact ⟨aK,fun h=>h.resolve_left (Ne.symm e)⟩
  ·rw [if_neg (by omega),aJ (by omega)]
   simp
theorem Ut (n:Nat)(hn:10000000<n)(l:List Int)(hl:l.length<=1100000)(s:Int):Hd n l s=some (decide (s∈l)):=by
 have:=zfl n s l hl n 0 (by omega) (by omega)
 unfold Hd
 simpa using this
theorem zop (n:Nat)(hn:10000000<n)(a:Aut)(S N:Nat)(x:Ed)(hxo:x.fOpens.length<=1100000)(hxc:x.fCloses.length<=1100000)(inner:List Bool)(hi:∀ t,hs inner t ↔ In56 a t)(hil:inner.length=N)(V:List (List Bool))(hV:V.length=N)(hVr:∀ (i:Nat) q,V[i]? = some q->q.length=S)(hf:0<=x.fFrom/\x.fFrom.toNat<N)(s:Nat)(hs':s<S):∃ b,Oy n x (s:Int) inner V=some b/\(b=true ↔ PsQ a (an2 V) x (s:Int)):=by
 have hfi:x.fFrom.toNat<inner.length:=by omega
 have hfv:x.fFrom.toNat<V.length:=by omega
 have hin:In56 a x.fFrom ↔ inner[x.fFrom.toNat]=true:=by
  rw [<-hi]
  unfold hs
  rw [aA hfi]
  simp [hf.1]
 have hrow:s<V[x.fFrom.toNat].length:=by rw [hVr _ _ (aA hfv)];exact hs'
 have han:an2 V x.fFrom (s:Int) ↔ V[x.fFrom.toNat][s]=true:=by
  unfold an2 hs
  rw [aA hfv]
  simp [hf.1,hrow]
 unfold Oy
 rw [Ut n hn _ hxc,A4]
 simp only [Ax,Ae]
 by_cases hc:(s:Int)∈x.fCloses
 ·rw [decide_eq_true hc,Af]
  exact ⟨false,rfl,fun e=>by (cases e),fun q=>absurd hc q.1⟩
 rw [decide_eq_false hc,Ag]
 have key:∀ b,(b=true ↔ (x.fFrom=0/\¬(s:Int)∈x.fOpens))->∃ r,Gv n V inner (s:Int) x b=some r/\(r=true ↔ PsQ a (an2 V) x (s:Int)):=fun b hb=>by
  unfold Gv
  cases b with
  |true =>
   rw [Af]
   exact ⟨false,rfl,fun e=>by (cases e),fun q=>absurd (q.2.1 (hb.1 rfl).1) (hb.1 rfl).2⟩
  |false =>
   have hb0:x.fFrom=0->(s:Int)∈x.fOpens:=fun e0=>Classical.byContradiction (fun q=>by have:=hb.2 ⟨e0,q⟩;cases this)
   rw [Ag]
   simp only [Ax,Ae,Gu]
   rw [Gc hf.1 hfi]
   cases q:inner[x.fFrom.toNat] with
   |false =>
    simp only [aG,Af]
    exact ⟨true,rfl,fun _=>⟨hc,hb0,fun h'=>by rw [hin.1 h'] at q;cases q⟩,fun _=>rfl⟩
   |true =>
    have h':=hin.2 q
    simp only [aC,Ag]
    rw [Gc hf.1 hfv,Al hrow]
    cases q2:V[x.fFrom.toNat][s] with
    |false =>
     rw [Ag]
     exact ⟨false,rfl,fun e=>by (cases e),fun p=>by rw [han.1 (p.2.2 h').2] at q2;cases q2⟩
    |true =>
     rw [Af,Ut n hn _ hxo,A4]
     refine ⟨_,rfl,fun e=>⟨hc,hb0,fun _=>⟨by simpa using e,han.2 q2⟩⟩,fun p=>by simpa using (p.2.2 h').1⟩
 rw [A6]
 split
 ·rename_i e0
  rw [Ut n hn _ hxo,A4]
  exact key _ ⟨fun e=>⟨e0,by simpa using e⟩,fun e=>by simpa using e.2⟩
 ·rename_i e0
  exact key _ ⟨fun e=>by (cases e),fun e=>absurd e.1 e0⟩
structure RI (a:Aut) (S:Nat) (A:Ars (List Bool)):Prop where
 ab:AB a.fStates.length A
 rw:∀ (i:Nat) q,(aval A)[i]? = some q->q.length=S
 r:∀ t s,an2 (aval A) t s->In56 a t
 g:∀ t s,An56 a t s->an2 (aval A) t s
theorem RI.clr {S:Nat}{A A':Ars (List Bool)}(h:RI a S A)(hA:AB a.fStates.length A'){x:Ed}(hx:x∈a.fEdges)(x0:0<=x.fTo)(x1:Rr a x.fFrom)(x2:In56 a x.fTo){s:Nat}{l:List Bool}(hl:(aval A)[x.fTo.toNat]? = some l)(e:aval A'=(aval A).set x.fTo.toNat (l.set s false))(hn:¬PsQ a (an2 (aval A)) x (s:Int)):RI a S A':=by
 refine ⟨hA,fun i q hq=>?_,fun t u hq=>?_,fun t u hq=>?_⟩
 ·rw [e,aT] at hq
  split at hq
  ·split at hq
   ·injection hq with hq
    rw [<-hq,aN]
    exact h.rw _ _ hl
   ·cases hq
  ·exact h.rw _ _ hq
 ·rw [e] at hq
  exact h.r t u ((zjg hl t u).1 hq).1
 ·rw [e]
  refine (zjg hl t u).2 ⟨h.g t u hq,fun ⟨q1,q2⟩=>hn ?_⟩
  have et:t=x.fTo:=by omega
  rw [et,q2] at hq
  exact ((An56.ok a).2 x hx x0 x1 x2 _ hq).mono h.g
theorem Wm (n:Nat)(hn:10000000<n)(a:Aut)(h:AutR a)(S:Nat)(hS:a.fScopes=(S:Int))(reach inner:List Bool)(hil:inner.length=a.fStates.length)(hi:∀ t,hs inner t ↔ In56 a t)(x:Ed)(hx:x∈a.fEdges)(x0:0<=x.fTo)(x1:Rr a x.fFrom)(x2:In56 a x.fTo)(g:Bool×Int×Ars (List Bool))(K:Bool->Ars (List Bool)->Option (List (List Bool))):∀ (m k:Nat) (ch:Bool) (A:Ars (List Bool)),k<=S->S<m+k->RI a S A->∃ ch' A',Fg n inner reach a a.fStates.length g x K m (ch,(k:Int),A)=K ch' A'/\RI a S A'/\tr2 (aval A')<=tr2 (aval A)/\(ch'=true->ch=true\/tr2 (aval A')<tr2 (aval A))/\(ch=true->ch'=true)/\(ch'=true\/(A'=A/\∀ s:Nat,k<=s->s<S->an2 (aval A) x.fTo (s:Int)->PsQ a (an2 (aval A)) x (s:Int)))
 |0,k,ch,A,h1,h2,h3=>by omega
 |m+1,k,ch,A,h1,h2,h3=>by
  have hsc:=h.sc
  have hed:=h.ed x hx
  have hlo:=h.lo x hx
  have htN:x.fTo.toNat<a.fStates.length:=by omega
  unfold Fg
  simp only [hS,Ae]
  rw [A6]
  by_cases hk:k<S
  ·obtain ⟨j,l,j1,j2,j3⟩:=h3.ab.at htN
   have hl:=h3.rw _ _ j3
   have hkl:k<l.length:=by omega
   have hlk:l[k]? = some l[k]:=aA hkl
   rw [if_pos (by omega),Nf x0 htN,Xv j1,Xw j2 hkl,zn4 j2 hlk,Ai k (by omega),h3.ab.alq]
   have next:(an2 (aval A) x.fTo (k:Int)->PsQ a (an2 (aval A)) x (k:Int))->∃ ch' A',Fg n inner reach a a.fStates.length g x K m (ch,((k+1:Nat):Int),A)=K ch' A'/\RI a S A'/\tr2 (aval A')<=tr2 (aval A)/\(ch'=true->ch=true\/tr2 (aval A')<tr2 (aval A))/\(ch=true->ch'=true)/\(ch'=true\/(A'=A/\∀ s:Nat,k<=s->s<S->an2 (aval A) x.fTo (s:Int)->PsQ a (an2 (aval A)) x (s:Int))):=fun hP=>by
    obtain ⟨ch',A',e1,e2,e3,e4,e5,e6⟩:=Wm n hn a h S hS reach inner hil hi x hx x0 x1 x2 g K m (k+1) ch A (by omega) (by omega) h3
    refine ⟨ch',A',e1,e2,e3,e4,e5,e6.imp id (fun q=>⟨q.1,fun s s1 s2=>?_⟩)⟩
    by_cases e:s=k
    ·rw [e];exact hP
    ·exact q.2 s (by omega) s2
   have han:an2 (aval A) x.fTo (k:Int) ↔ l[k]=true:=by
    unfold an2 hs
    rw [j3]
    simp [x0,hkl]
   cases q:l[k] with
   |false =>
    rw [Ag]
    exact next (fun p=>by rw [han.1 p] at q;cases q)
   |true =>
    rw [Af]
    obtain ⟨b,b1,b2⟩:=zop n hn a S a.fStates.length x hlo.1 hlo.2.1 inner hi hil (aval A) h3.ab.len h3.rw (by omega) k hk
    rw [b1,A4]
    cases b with
    |true =>
     simp only [aC,Ag]
     exact next (fun _=>b2.1 rfl)
    |false =>
     simp only [aG,Af]
     rw [Nf x0 htN,Xv j1,Xw j2 hkl,ziv j2 hkl]
     obtain ⟨s1,s2⟩:=h3.ab.set j1 (List.getElem?_eq_some_iff.1 j2).1 (l.set k false)
     have hv:=(List.getElem?_eq_some_iff.1 j3).1
     have hve:(aval A)[x.fTo.toNat]=l:=by rw [aA hv] at j3;injection j3
     have ht:=zm5 hv (l.set k false)
     have hc:=znj hkl q
     rw [hve] at ht
     obtain ⟨ch',A',e1,e2,e3,e4,e5,e6⟩:=Wm n hn a h S hS reach inner hil hi x hx x0 x1 x2 g K m (k+1) true (A.1,A.2.set j (l.set k false)) (by omega) (by omega) (h3.clr s1 hx x0 x1 x2 j3 s2 (fun p=>by have:=b2.2 p;cases this))
     rw [s2] at e3
     exact ⟨ch',A',e1,e2,by omega,fun _=>aK (by omega),fun _=>e5 rfl,aL (e5 rfl)⟩
  ·rw [if_neg (by omega)]
   exact ⟨ch,A,rfl,h3,bE _,aL,id,aK ⟨rfl,fun s s1 s2=>by omega⟩⟩
def FxR (a:Aut)(V:List (List Bool))(x:Ed):Prop:=0<=x.fTo->Rr a x.fFrom->In56 a x.fTo->∀ s,an2 V x.fTo s->PsQ a (an2 V) x s
theorem Wn (n:Nat)(hn:10000000<n)(a:Aut)(h:AutR a)(S:Nat)(hS:a.fScopes=(S:Int))(reach inner:List Bool)(hrl:reach.length=a.fStates.length)(hr:∀ t,hs reach t ↔ Rr a t)(hil:inner.length=a.fStates.length)(hi:∀ t,hs inner t ↔ In56 a t)(K:Bool->Ars (List Bool)->Option (List (List Bool))):∀ (m k:Nat) (ch:Bool) (A:Ars (List Bool)),k<=a.fEdges.length->a.fEdges.length<m+k->RI a S A->∃ ch' A',Dm n inner reach a a.fStates.length K m (ch,(k:Int),A)=K ch' A'/\RI a S A'/\tr2 (aval A')<=tr2 (aval A)/\(ch'=true->ch=true\/tr2 (aval A')<tr2 (aval A))/\(ch=true->ch'=true)/\(ch'=true\/(A'=A/\∀ x∈a.fEdges.drop k,FxR a (aval A) x))
 |0,k,ch,A,h1,h2,h3=>by omega
 |m+1,k,ch,A,h1,h2,h3=>by
  have hle:=h.le
  have hsc:=h.sc
  unfold Dm
  simp only [aF,Ax,Ae]
  rw [A6]
  by_cases hk:k<a.fEdges.length
  ·have hx:=h.ed _ (aM hk)
   have hfr:a.fEdges[k].fFrom.toNat<reach.length:=by omega
   have hre:Rr a a.fEdges[k].fFrom ↔ reach[a.fEdges[k].fFrom.toNat]=true:=by
    rw [<-hr]
    unfold hs
    rw [aA hfr]
    simp [hx.1]
   rw [if_pos (by omega),Al hk,aH hk,Gc hx.1 hfr]
   have next:FxR a (aval A) a.fEdges[k]->∃ ch' A',Dm n inner reach a a.fStates.length K m (ch,((k+1:Nat):Int),A)=K ch' A'/\RI a S A'/\tr2 (aval A')<=tr2 (aval A)/\(ch'=true->ch=true\/tr2 (aval A')<tr2 (aval A))/\(ch=true->ch'=true)/\(ch'=true\/(A'=A/\∀ x∈a.fEdges[k]::a.fEdges.drop (k+1),FxR a (aval A) x)):=fun hP=>by
    obtain ⟨ch',A',e1,e2,e3,e4,e5,e6⟩:=Wn n hn a h S hS reach inner hrl hr hil hi K m (k+1) ch A (by omega) (by omega) h3
    refine ⟨ch',A',e1,e2,e3,e4,e5,e6.imp id (fun q=>⟨q.1,fun x hx=>?_⟩)⟩
    rcases aZ.1 hx with e|e
    ·rw [e];exact hP
    ·exact q.2 x e
   have skip:FxR a (aval A) a.fEdges[k]->∃ ch' A',Ek n inner reach a a.fStates.length (ch,(k:Int),A) (Dm n inner reach a a.fStates.length K m) a.fEdges[k] true=K ch' A'/\RI a S A'/\tr2 (aval A')<=tr2 (aval A)/\(ch'=true->ch=true\/tr2 (aval A')<tr2 (aval A))/\(ch=true->ch'=true)/\(ch'=true\/(A'=A/\∀ x∈a.fEdges[k]::a.fEdges.drop (k+1),FxR a (aval A) x)):=fun hP=>by
    unfold Ek
    simp only [Ai k (by omega:k<=1000000000000)]
    rw [Af]
    exact next hP
   cases q:reach[a.fEdges[k].fFrom.toNat] with
   |false=>simp only [aG,Af];exact skip (fun _ p=>by rw [hre.1 p] at q;cases q)
   |true =>
    simp only [aC,Ag]
    rw [A6]
    by_cases q0:a.fEdges[k].fTo<0
    ·rw [if_pos q0];exact skip (fun p=>by omega)
    have hti:a.fEdges[k].fTo.toNat<inner.length:=by omega
    have hin:In56 a a.fEdges[k].fTo ↔ inner[a.fEdges[k].fTo.toNat]=true:=by
     rw [<-hi]
     unfold hs
     rw [aA hti]
     simp
     omega
    rw [if_neg q0,Gc (by omega) hti]
    cases q2:inner[a.fEdges[k].fTo.toNat] with
    |false=>simp only [aG];exact skip (fun _ _ p=>by rw [hin.1 p] at q2;cases q2)
    |true =>
     simp only [aC]
     unfold Ek
     simp only [Ai k (by omega:k<=1000000000000)]
     rw [Ag]
     obtain ⟨c1,A1,e1,e2,e3,e4,e5,e6⟩:=Wm n hn a h S hS reach inner hil hi a.fEdges[k] (aM hk) (by omega) (hre.2 q) (hin.2 q2) (ch,(k:Int),A) (fun d e=>Dm n inner reach a a.fStates.length K m (d,((k+1:Nat):Int),e)) n 0 ch A (by omega) (by omega) h3
     simp only [aB] at e1
     rw [e1]
     obtain ⟨c2,A2,f1,f2,f3,f4,f5,f6⟩:=Wn n hn a h S hS reach inner hrl hr hil hi K m (k+1) c1 A1 (by omega) (by omega) e2
     refine ⟨c2,A2,f1,f2,by omega,fun p=>?_,fun p=>f5 (e5 p),?_⟩
     ·rcases f4 p with p|p
      ·rcases e4 p with p|p
       ·exact aL p
       ·exact aK (by omega)
      ·exact aK (by omega)
     ·rcases f6 with p|⟨p,p2⟩
      ·exact aL p
      ·rcases e6 with r|⟨r,r2⟩
       ·exact aL (f5 r)
       ·subst r
        refine aK ⟨p,fun x hx=>?_⟩
        rcases aZ.1 hx with e|e
        ·rw [e]
         intro _ _ _ s hs
         obtain ⟨_,row,w1,w2⟩:=hs
         have w3:=h3.rw _ _ w1
         have w4:=(List.getElem?_eq_some_iff.1 w2.2).1
         have:=r2 s.toNat (by omega) (by omega)
         rw [aW w2.1] at this
         exact this ⟨by omega,row,w1,w2⟩
        ·exact p2 x e
  ·rw [if_neg (by omega),aJ (by omega)]
   exact ⟨ch,A,rfl,h3,bE _,aL,id,aK ⟨rfl,by simp⟩⟩
theorem z9a (n:Nat)(hn:10000000<n)(a:Aut)(h:AutR a)(S:Nat)(hS:a.fScopes=(S:Int))(reach inner:List Bool)(hrl:reach.length=a.fStates.length)(hr:∀ t,hs reach t ↔ Rr a t)(hil:inner.length=a.fStates.length)(hi:∀ t,hs inner t ↔ In56 a t)(K:Ars (List Bool)->Option (List (List Bool))):∀ (m:Nat) (ch:Bool) (A:Ars (List Bool)),(tr2 (aval A)+1<m\/(ch=false/\tr2 (aval A)<m))->RI a S A->(ch=false->∀ x∈a.fEdges,FxR a (aval A) x)->∃ A',Gm n inner reach a a.fStates.length K m (ch,A)=K A'/\RI a S A'/\∀ x∈a.fEdges,FxR a (aval A') x
 |0,ch,A,h1,h2,h3=>by omega
 |m+1,ch,A,h1,h2,h3=>by
  unfold Gm
  simp only
  cases ch with
  |false=>rw [Ag];exact ⟨A,rfl,h2,h3 rfl⟩
  |true =>
   rw [Af]
   have hle:=h.le
   obtain ⟨c1,A1,e1,e2,e3,e4,e5,e6⟩:=Wn n hn a h S hS reach inner hrl hr hil hi (fun e f=>Gm n inner reach a a.fStates.length K m (e,f)) n 0 false A (by omega) (by omega) h2
   simp only [aB] at e1
   rw [e1]
   have h1':tr2 (aval A)+1<m+1:=by
    rcases h1 with h|h
    ·exact h
    ·exact absurd h.1 (by simp)
   refine z9a n hn a h S hS reach inner hrl hr hil hi K m c1 A1 ?_ e2 (fun eb=>?_)
   ·cases c1 with
    |false=>exact aK ⟨rfl,by omega⟩
    |true=>have:=(e4 rfl).resolve_left (by simp);exact aL (by omega)
   ·rcases e6 with e|⟨e,e7⟩
    ·rw [eb] at e;cases e
    ·rw [e];rw [bB] at e7;exact e7
def fil (b:Bool):Nat->Nat->List Bool->List Bool
 |0,_,q=>q
 |d+1,k,q=>fil b d (k+1) (q.set k b)
theorem zj1 (b:Bool):∀ (d k:Nat) (q:List Bool) (i:Nat),k+d<=q.length->(fil b d k q)[i]? = if k<=i/\i<k+d then some b else q[i]?
 |0,k,q,i,h=>by rw [if_neg (by omega)];rfl
 |d+1,k,q,i,h=>by
  unfold fil
  rw [zj1 b d (k+1) (q.set k b) i (by rw [aN];omega),aT]
  by_cases e:k=i
  ·subst e
   rw [if_neg (by omega),if_pos rfl,if_pos (by omega),if_pos (by omega)]
  ·rw [if_neg e]
   by_cases e2:k+1<=i/\i<k+1+d
   ·rw [if_pos e2,if_pos (by omega)]
   ·rw [if_neg e2,if_neg (by omega)]
theorem znd (b:Bool)(S:Nat):fil b S 0 (aQ S false)=aQ S b:=by
 apply bK
 intro i
 rw [zj1 b S 0 _ i (by simp),aO,aO]
 by_cases e:i<S
 ·rw [if_pos (by omega),if_pos e]
 ·rw [if_neg (by omega),if_neg e,if_neg e]
theorem z99 (n:Nat)(a:Aut)(S:Nat)(hS:a.fScopes=(S:Int))(hS2:S<=64)(reach inner:List Bool)(N i:Nat)(hi:i<N)(hil:inner.length=N)(B:Ars (List Bool))(K:Ars (List Bool)->Option (List (List Bool))):∀ (m k:Nat) (A:Ars (List Bool)) (q:List Bool),k<=S->S<m+k->AB N A->(aval A)[i]? = some q->q.length=S->∃ A',Ko n inner reach a (N,(i:Int),B) K m ((k:Int),A)=K A'/\AB N A'/\aval A'=(aval A).set i (fil (inner.getD i false) (S-k) k q)
 |0,k,A,q,h1,h2,h3,h4,h5=>by omega
 |m+1,k,A,q,h1,h2,h3,h4,h5=>by
  unfold Ko
  simp only [hS]
  rw [A6]
  by_cases hk:k<S
  ·obtain ⟨j,l,j1,j2,j3⟩:=h3.at hi
   rw [h4] at j3
   injection j3 with j3
   subst j3
   have hii:i<inner.length:=by omega
   rw [if_pos (by omega),Nf (by omega) (by rw [aD];exact hi),aD,Xv j1,Al hii,Xw j2 (by omega),ziv j2 (by omega),Ai k (by omega)]
   obtain ⟨s1,s2⟩:=h3.set j1 (List.getElem?_eq_some_iff.1 j2).1 (q.set k inner[i])
   have hv:=(List.getElem?_eq_some_iff.1 h4).1
   obtain ⟨A',e1,e2,e3⟩:=z99 n a S hS hS2 reach inner N i hi hil B K m (k+1) _ (q.set k inner[i]) (by omega) (by omega) s1 (by rw [s2];exact aE hv) (by rw [aN];exact h5)
   refine ⟨A',e1,e2,?_⟩
   rw [e3,s2,set_set,show S-k=(S-(k+1))+1 from by omega]
   have ef:∀ b d,fil b (d+1) k q=fil b d (k+1) (q.set k b):=fun _ _=>rfl
   rw [ef,aP,aA hii]
   rfl
  ·rw [if_neg (by omega),show S-k=0 from by omega]
   refine ⟨A,rfl,h3,?_⟩
   have hv:=(List.getElem?_eq_some_iff.1 h4).1
   rw [aA hv] at h4
   injection h4 with h4
   unfold fil
   rw [<-h4,List.set_getElem_self]
theorem z9b (n:Nat)(hn:10000000<n)(a:Aut)(h:AutR a)(S:Nat)(hS:a.fScopes=(S:Int))(reach inner:List Bool)(hil:inner.length=a.fStates.length)(K:Nat->Ars (List Bool)->Option (List (List Bool))):∀ (m k:Nat) (A:Ars (List Bool)),k<=a.fStates.length->a.fStates.length<m+k->AB a.fStates.length A->(∀ i<k,(aval A)[i]? = some (aQ S (inner.getD i false)))->∃ A',I0 n inner reach a K m (a.fStates.length,(k:Int),A)=K a.fStates.length A'/\AB a.fStates.length A'/\∀ i<a.fStates.length,(aval A')[i]? = some (aQ S (inner.getD i false))
 |0,k,A,h1,h2,h3,h4=>by omega
 |m+1,k,A,h1,h2,h3,h4=>by
  have hst:=h.st
  have hsc:=h.sc
  unfold I0
  simp only [hS]
  rw [A6]
  by_cases hk:k<a.fStates.length
  ·rw [if_pos (by omega),Di (by omega) (by decide),Nf (by omega) (by rw [aD];exact hk),aD]
   have hast:∀ c:Ars (List Bool)->Option (List (List Bool)),ast A k (aQ S false) c=c (A.1.set k (some A.2.length),A.2++[aQ S false]):=fun c=>by
    unfold ast
    rw [if_pos (by rw [h3.l];exact hk)]
   obtain ⟨p1,p2,p3⟩:=h3.put hk (aQ S false)
   have hv:k<(aval A).length:=by rw [h3.len];exact hk
   obtain ⟨A1,e1,e2,e3⟩:=z99 n a S hS (by omega) reach inner a.fStates.length k hk hil A (fun d=>I0 n inner reach a K m (a.fStates.length,((k+1:Nat):Int),d)) n 0 _ (aQ S false) (by omega) (by omega) p1 (by rw [p2];exact aE hv) (by simp)
   simp only [aB,Nat.sub_zero] at e1 e3
   rw [hast,Ai k (by omega),e1]
   refine z9b n hn a h S hS reach inner hil K m (k+1) A1 (by omega) (by omega) e2 (fun i hi=>?_)
   rw [e3,p2,set_set,znd]
   by_cases e:k=i
   ·subst e;exact aE hv
   ·rw [aR e];exact h4 i (by omega)
  ·rw [if_neg (by omega)]
   exact ⟨A,rfl,h3,fun i hi=>h4 i (by omega)⟩
theorem zn6 (n:Nat)(hn:20000000<n)(a:Aut)(h:AutR a)(reach inner:List Bool)(hrl:reach.length=a.fStates.length)(hr:∀ t,hs reach t ↔ Rr a t)(hil:inner.length=a.fStates.length)(hi:∀ t,hs inner t ↔ In56 a t):∃ V,Ob n a reach inner=some V/\V.length=a.fStates.length/\(∀ (i:Nat) q,V[i]? = some q->(q.length:Int)=a.fScopes)/\∀ t s,an2 V t s ↔ An56 a t s:=by
 have hst:=h.st
 have hsc:=h.sc
 obtain ⟨S,hS⟩:∃ S:Nat,a.fScopes=(S:Int):=⟨a.fScopes.toNat,by omega⟩
 have h0:AB a.fStates.length (mkR Bool a.fStates.length):=by
  unfold mkR
  refine ⟨by simp,fun i hi=>⟨i,by simp [hi],by simpa using hi⟩,fun i i' j e e'=>?_⟩
  simp only [bD] at e e'
  have g:∀ k:Nat,Option.map some (range a.fStates.length)[k]? = some (some j)->k=j:=fun k e=>by
   by_cases hk:k<a.fStates.length
   ·rw [getElem?_range hk] at e
    injection e with e
    injection e
   ·rw [bC (by simp;omega)] at e
    cases e
  rw [g i e,g i' e']
 obtain ⟨A1,e1,e2,e3⟩:=z9b n (by omega) a h S hS reach inner hil (fun c d=>Gm n inner reach a c (fun b=>Proofs.YthbogefcfhmpgaaGreat.frq 17 b <| reg <| some (aval b)) n (true,d)) n 0 (mkR Bool a.fStates.length) (by omega) (by omega) h0 (fun i hi=>by omega)
 have hcell:∀ (t s:Int),an2 (aval A1) t s ↔ In56 a t/\0<=s/\s<a.fScopes:=fun t s=>by
  constructor
  ·rintro ⟨t0,q,q1,q2⟩
   have hl:=(List.getElem?_eq_some_iff.1 q1).1
   rw [e2.len] at hl
   rw [e3 _ hl] at q1
   injection q1 with q1
   subst q1
   have q3:=q2.2
   rw [aO] at q3
   split at q3
   ·injection q3 with q3
    refine ⟨(hi t).1 ⟨t0,?_⟩,q2.1,by omega⟩
    rw [aP] at q3
    cases e:inner[t.toNat]? with
    |none=>rw [e] at q3;cases q3
    |some b=>rw [e] at q3;rw [Option.getD_some] at q3;rw [q3]
   ·cases q3
  ·rintro ⟨q1,q2,q3⟩
   have hl:=q1.rg h.toEdR
   refine ⟨hl.1,_,e3 _ hl.2,q2,?_⟩
   rw [aO,if_pos (by omega),aP,((hi t).2 q1).2]
   rfl
 have hRI:RI a S A1:=⟨e2,fun i q hq=>by
  have hl:=(List.getElem?_eq_some_iff.1 hq).1
  rw [e2.len] at hl
  rw [e3 i hl] at hq
  injection hq with hq
  rw [<-hq,bO],fun t s q=>((hcell t s).1 q).1,fun t s q=>(hcell t s).2 ((An56.ok a).1 t s q)⟩
 have htr:tr2 (aval A1)<=64*256:=by
  have g:∀ V:List (List Bool),(∀ q∈V,q.length<=64)->tr2 V<=64*V.length:=fun V=>by
   unfold tr2
   induction V with
   |nil=>simp
   |cons q r ih =>
    intro hq
    have:=ih (fun M hM=>hq M (aU _ hM))
    have h1:=hq q (by simp)
    have h2:=countP_le_length (p:=id) (l:=q)
    simp only [bF,bV,bS]
    omega
  have:=g (aval A1) (fun q hq=>by
   obtain ⟨i,hi',e⟩:=aV.1 hq
   have:=hRI.rw i q (by rw [aA hi',e])
   omega)
  rw [e2.len] at this
  omega
 obtain ⟨A2,f1,f2,f3⟩:=z9a n (by omega) a h S hS reach inner hrl hr hil hi (fun b=>Proofs.YthbogefcfhmpgaaGreat.frq 17 b <| reg <| some (aval b)) n true A1 (aL (by omega)) hRI (fun e=>by cases e)
 simp only [aB] at e1
 refine ⟨aval A2,?_,f2.ab.len,fun i q hq=>by rw [f2.rw i q hq,hS],fun t s=>⟨fun q=>?_,f2.g t s⟩⟩
 ·unfold Ob
  simp only [aF,Ae]
  have hmk:∀ c:Nat->Option (List (List Bool)),mkn (a.fStates.length:Int) 24 c=c a.fStates.length:=fun c=>by
   unfold mkn
   rw [if_pos ⟨by omega,by omega,by omega⟩,aD]
  have harq:∀ x:Option (List (List Bool)),arq 17 x=x:=fun x=>by unfold arq;rfl
  simp only [Ae] at e1 f1
  rw [hmk,harq,e1,f1,f2.ab.frq]
 ·refine ⟨an2 (aval A2),⟨fun t s q=>⟨f2.r t s q,?_⟩,fun x hx x0 x1 x2 s q=>f3 x hx x0 x1 x2 s q⟩,q⟩
  obtain ⟨t0,w,w1,w2⟩:=q
  have:=f2.rw _ _ w1
  have:=(List.getElem?_eq_some_iff.1 w2.2).1
  exact ⟨w2.1,by have:=w2.1;omega⟩
theorem zoo (n:Nat)(x:Ed)(ho:x.fOpens.length<=1100000)(hl:x.fLimits.length<=1100000)(hn:10000000<n)(s:Int):limP n x s=if s∈x.fOpens then (0,false) else match x.fLimits.find? (fun l=>decide (l.fScope=s)) with|some l=>(l.fSpan,true)|none=>(0,false):=by
 have hx:=Ww n s x.fLimits (by omega) n 0 (by omega) (by omega)
 simp only [aB,bB,Qc] at hx
 have hany:(x.fOpens.any fun y=>decide (s=y))=decide (s∈x.fOpens):=by
  rw [Bool.eq_iff_iff]
  simp
 unfold limP Hl Oe
 rw [hx,A4]
 simp only [Ax,Ae,Hh,A6,Gb n s x.fOpens (by omega) (by omega),A4,hany]
 unfold fidx
 cases e2:x.fLimits.findIdx? (fun y=>decide (y.fScope=s)) with
 |none =>
  have hf:x.fLimits.find? (fun l=>decide (l.fScope=s))=none:=find?_eq_none.2 (fun y hy=>by
   have:=List.findIdx?_eq_none_iff.1 e2 y hy
   simpa using this)
  simp only
  rw [if_pos (by decide),Af,hf]
  by_cases q:s∈x.fOpens
  ·rw [if_pos q];rfl
  ·rw [if_neg q];rfl
 |some j =>
  obtain ⟨j1,j2,j3⟩:=findIdx?_eq_some_iff_getElem.1 e2
  have hf:x.fLimits.find? (fun l=>decide (l.fScope=s))=some x.fLimits[j]:=List.find?_eq_some_iff_getElem.2 ⟨j2,j,j1,rfl,fun i hi=>by
   have:=j3 i hi
   simpa using this⟩
  simp only
  rw [if_neg (by omega),hf]
  by_cases q:s∈x.fOpens
  ·simp only [if_pos q]
   rfl
  ·simp only [if_neg q]
   rw [Al j1]
   rfl
def spP (n:Nat)(x:Ed)(s:Int):Int:=if (limP n x s).2=true then (limP n x s).1 else -1
theorem zbm (n:Nat)(x:Ed)(s:Int)(hl:x.fLimits.length<=1100000):∀ (m k:Nat),k<=x.fLimits.length->x.fLimits.length<m+k->Lf n s x (some (-1)) m (k:Int)=some (match (x.fLimits.drop k).find? (fun l=>decide (l.fScope=s)) with|some l=>l.fSpan|none=>-1)
 |0,k,h1,h2=>by omega
 |m+1,k,h1,h2=>by
  unfold Lf
  simp only [aF]
  rw [A6]
  by_cases hk:k<x.fLimits.length
  ·rw [if_pos (by omega),Al hk,Al hk,A6,Ai k (by omega),zbm n x s hl m (k+1) (by omega) (by omega),aH hk,find?_cons]
   by_cases e:x.fLimits[k].fScope=s
   ·rw [if_pos e,decide_eq_true e]
   ·rw [if_neg e,decide_eq_false e]
  ·rw [if_neg (by omega),aJ (by omega)]
   rfl
theorem zon (n:Nat)(hn:10000000<n)(x:Ed)(ho:x.fOpens.length<=1100000)(hl:x.fLimits.length<=1100000)(s:Int):Ox n x s=some (spP n x s):=by
 have h1:=zbm n x s hl n 0 (by omega) (by omega)
 simp only [aB,bB] at h1
 unfold Ox spP
 rw [Ut n hn _ ho,A4,zoo n x ho hl hn s]
 by_cases q:s∈x.fOpens
 ·rw [if_pos q,decide_eq_true q,Af];rfl
 ·rw [if_neg q,decide_eq_false q,Ag,h1]
  cases x.fLimits.find? (fun l=>decide (l.fScope=s))<;>rfl
def msR (n:Nat)(s:Int):List Ed->Int->Int
 |[],z=>z
 |x::r,z=>if z<0 then z else msR n s r (if spP n x s<0 then -1 else max z (spP n x s))
theorem zmy (n:Nat)(s:Int):∀ (l:List Ed) (z:Int),z<0->msR n s l z=z
 |[],z,_=>rfl
 |x::r,z,h=>by unfold msR;rw [if_pos h]
theorem zom (n:Nat)(s:Int):∀ (l:List Ed) (z:Int),(l.foldl (lmS n s) (z,false)).2=false
 |[],z=>rfl
 |x::r,z=>by
  rw [aS]
  unfold lmS
  simp only [Bool.false_and]
  exact zom n s r _
theorem zlp (n:Nat)(hn:10000000<n)(s:Int):∀ (l:List Ed),(∀ x∈l,LimR x)->∀ z:Int,0<=z->msR n s l z=if (l.foldl (lmS n s) (z,true)).2=true then (l.foldl (lmS n s) (z,true)).1 else -1
 |[],_,z,_=>by unfold msR;simp
 |x::r,h,z,hz=>by
  have hl:=(h x (by simp)).lim n hn s
  unfold msR
  rw [if_neg (by omega),aS]
  unfold lmS spP
  simp only [Bool.true_and]
  cases q:(limP n x s).2 with
  |true =>
   simp only [if_true]
   rw [if_neg (by omega)]
   exact zlp n hn s r (fun y hy=>h y (aU _ hy)) _ (by omega)
  |false =>
   simp only [aY,if_false]
   rw [if_pos (by omega),zmy n s r (-1) (by omega),if_neg]
   have:=zom n s r (max z (limP n x s).1)
   unfold lmS at this
   rw [this]
   simp
theorem Xe (n:Nat)(hn:10000000<n)(row:List Bool)(a:Aut)(l:List Ed)(hl:l.length<=1100000)(h:∀ x∈l,LimR x)(b s:Int)(K:Int->Option Int):∀ (m k:Nat) (z:Int),k<=l.length->l.length<m+k->H0 n row a (l,b,s) K m (z,(k:Int))=K (msR n s (l.drop k) z)
 |0,k,z,h1,h2=>by omega
 |m+1,k,z,h1,h2=>by
  unfold H0
  simp only [Ax,Ae,aF,Iu]
  rw [A6]
  by_cases hk:k<l.length
  ·have hx:=h _ (aM hk)
   rw [if_pos (by omega),aH hk]
   unfold msR
   rw [A6]
   by_cases q:0<=z
   ·rw [if_pos q,if_neg (by omega),Al hk,zon n hn _ hx.o hx.l,A4,A6,Ai k (by omega)]
    by_cases q2:spP n l[k] s<0
    ·rw [if_pos q2,if_pos q2]
     exact Xe n hn row a l hl h b s K m (k+1) _ (by omega) (by omega)
    ·rw [if_neg q2,if_neg q2]
     exact Xe n hn row a l hl h b s K m (k+1) _ (by omega) (by omega)
   ·rw [if_neg q,if_pos (by omega)]
  ·rw [if_neg (by omega),Ag,aJ (by omega)]
   rfl
def scl:Nat->List Bool->Mp
 |_,[]=>[]
 |k,b::r=>(if b=true then [((k:Int),true)] else [])++scl (k+1) r
theorem Xo:∀ (k:Nat) (r:List Bool) (v:Int),has (scl k r) v ↔ (k:Int)<=v/\r[(v-k).toNat]? = some true
 |k,[],v=>by unfold scl;simp [has]
 |k,b::r,v=>by
  have ih:=Xo (k+1) r v
  have e:has (scl k (b::r)) v ↔ (b=true/\v=(k:Int))\/has (scl (k+1) r) v:=by
   show has ((if b=true then [((k:Int),true)] else [])++scl (k+1) r) v ↔ _
   unfold has
   cases b<;>simp
  rw [e,ih]
  by_cases ev:v=(k:Int)
  ·subst ev
   rw [Int.sub_self]
   simp
   omega
  ·constructor
   ·rintro (⟨_,q⟩|⟨q1,q2⟩)
    ·exact absurd q ev
    ·refine ⟨by omega,?_⟩
     rw [show (v-(k:Int)).toNat=(v-((k+1:Nat):Int)).toNat+1 from by omega,List.getElem?_cons_succ]
     exact q2
   ·rintro ⟨q1,q2⟩
    refine aK ⟨by omega,?_⟩
    rw [show (v-(k:Int)).toNat=(v-((k+1:Nat):Int)).toNat+1 from by omega,List.getElem?_cons_succ] at q2
    exact q2
theorem zlh:∀ (k:Nat) (r:List Bool),MK (scl k r)
 |k,[]=>MK.nil
 |k,b::r=>by
  have ih:=zlh (k+1) r
  unfold scl
  cases b with
  |false=>simpa using ih
  |true =>
   rw [if_pos rfl,bP]
   refine ⟨?_,fun p hp=>(aZ.1 hp).elim (fun e=>by rw [e]) (ih.tr p)⟩
   rw [bF]
   refine nodup_cons.2 ⟨fun q=>?_,ih.nd⟩
   have:=(Xo (k+1) r (k:Int)).1 q
   omega
theorem MK.same {A B:Mp}(h:MK A)(h':MK B)(e:∀ v,has A v ↔ has B v):A.Perm B:=by
 have s:=h.sort
 have s':=h'.sort
 have:=zhm s.2.1 s'.2.1 s.1.tr s'.1.tr (fun v=>by rw [s.2.2.2,s'.2.2.2,e])
 exact (Jv h.nd).symm.trans (this▸Jv h'.nd)
theorem zp8 (n:Nat)(l:List Ed):∀ (M:Mp) (z:Int×Bool),(z.2=false->z.1=0)->((M.foldl (agS n l) z).2=false->(M.foldl (agS n l) z).1=0)
 |[],z,h=>h
 |p::r,z,h=>by
  rw [aS]
  refine zp8 n l r _ (fun q=>?_)
  unfold agS at q ⊢
  split
  ·rename_i c;rw [if_pos c] at q;cases q
  ·rename_i c;rw [if_neg c] at q;exact h q
theorem zpa (n:Nat)(hn:10000000<n)(l:List Ed)(h:∀ x∈l,LimR x)(M:Mp):0<=(M.foldl (agS n l) (0,false)).1/\(M.foldl (agS n l) (0,false)).1<=mxT:=(zp9 n hn l h M (0,false) ⟨by decide,by decide⟩).1
def enZ (z:Int×Bool):Int:=if z.2=true then z.1 else -1
theorem Qh (n:Nat)(hn:10000000<n)(row:List Bool)(a:Aut)(hS:a.fScopes=(row.length:Int))(hS2:row.length<=64)(l:List Ed)(hl:l.length<=1100000)(h:∀ x∈l,LimR x):∀ (m k:Nat) (z:Int×Bool),k<=row.length->row.length<m+k->(z.2=true->0<=z.1)->D3 n row a (fun b=>some b) m (l,enZ z,(k:Int))=some (enZ ((scl k (row.drop k)).foldl (agS n l) z))
 |0,k,z,h1,h2,h3=>by omega
 |m+1,k,z,h1,h2,h3=>by
  unfold D3
  simp only [hS]
  rw [A6]
  by_cases hk:k<row.length
  ·rw [if_pos (by omega),Al hk,Ai k (by omega),aH hk]
   unfold scl
   cases q:row[k] with
   |false =>
    simp only [aG,Af,aY,if_false,nil_append]
    exact Qh n hn row a hS hS2 l hl h m (k+1) z (by omega) (by omega) h3
   |true =>
    simp only [aC,Ag,if_true,bP,aS]
    have h2:=Xe n hn row a l hl h (enZ z) (k:Int) (fun d=>reg <| cnd (decide (0<=d)) (cnd (decide (enZ z<0)) ((D3 n row a (fun b=>some b) m) (l,d,((k+1:Nat):Int))) <| cnd (decide (d<enZ z)) ((D3 n row a (fun b=>some b) m) (l,d,((k+1:Nat):Int))) <| (D3 n row a (fun b=>some b) m) (l,enZ z,((k+1:Nat):Int))) <| (D3 n row a (fun b=>some b) m) (l,enZ z,((k+1:Nat):Int))) n 0 0 (by omega) (by omega)
    simp only [aB,bB] at h2
    rw [h2,zlp n hn (k:Int) l h 0 (by omega)]
    have hm:=(zlr n hn (k:Int) l h (0,true) ⟨by decide,by decide⟩).1
    have hag:agS n l z ((k:Int),true)=if (D9 n l (k:Int)).2=true/\(z.2=false\/(D9 n l (k:Int)).1<z.1) then ((D9 n l (k:Int)).1,true) else z:=rfl
    rw [hag]
    unfold D9
    generalize l.foldl (lmS n (k:Int)) (0,true)=M at hm ⊢
    simp only [Ae]
    rw [A6]
    obtain ⟨z1,z2⟩:=z
    obtain ⟨m1,m2⟩:=M
    simp only at hm h3 ⊢
    cases m2 with
    |false =>
     simp only [aY,if_false,false_and]
     rw [if_neg (by omega)]
     exact Qh n hn row a hS hS2 l hl h m (k+1) (z1,z2) (by omega) (by omega) h3
    |true =>
     simp only [if_true,true_and]
     rw [if_pos hm.1,A6]
     have i1:=Qh n hn row a hS hS2 l hl h m (k+1) (m1,true) (by omega) (by omega) (fun _=>hm.1)
     have i2:=Qh n hn row a hS hS2 l hl h m (k+1) (z1,z2) (by omega) (by omega) h3
     have e1:enZ (m1,true)=m1:=rfl
     rw [e1] at i1
     cases z2 with
     |false =>
      have e2:enZ (z1,false)=-1:=rfl
      rw [if_pos (by rw [e2];omega),if_pos (aL rfl)]
      exact i1
     |true =>
      have e2:enZ (z1,true)=z1:=rfl
      have h4:=h3 rfl
      rw [e2] at i2 ⊢
      rw [if_neg (by omega),A6]
      by_cases q2:m1<z1
      ·rw [if_pos q2,if_pos (aK q2)];exact i1
      ·rw [if_neg q2,if_neg (by simp [q2])];exact i2
  ·rw [if_neg (by omega),aJ (by omega)]
   rfl
theorem zin (n:Nat)(s:Int)(l:List Ed)(z:Int×Bool):(l.foldl (lmS n s) z).2=true ↔ z.2=true/\∀ x∈l,(limP n x s).2=true:=by
 induction l generalizing z with
 |nil=>simp
 |cons x r ih =>
  rw [aS,ih]
  unfold lmS
  simp only [bN,aZ,forall_eq_or_imp]
  exact and_assoc
theorem zls (n:Nat)(s:Int)(l:List Ed)(z:Int×Bool)(B:Int):(l.foldl (lmS n s) z).1<=B ↔ z.1<=B/\∀ x∈l,(limP n x s).1<=B:=by
 induction l generalizing z with
 |nil=>simp
 |cons x r ih =>
  rw [aS,ih]
  unfold lmS
  simp only [aZ,forall_eq_or_imp]
  rw [Int.max_le]
  exact and_assoc
theorem zij (n:Nat){l l':List Ed}(h:∀ x,x∈l ↔ x∈l'):D9 n l=D9 n l':=by
 funext s
 unfold D9
 have h2:∀ B,(l.foldl (lmS n s) (0,true)).1<=B ↔ (l'.foldl (lmS n s) (0,true)).1<=B:=fun B=>by
  rw [zls,zls]
  simp only [h]
 have h1:(l.foldl (lmS n s) (0,true)).2=true ↔ (l'.foldl (lmS n s) (0,true)).2=true:=by
  rw [zin,zin]
  simp only [h]
 refine Prod.ext (Int.le_antisymm ((h2 _).2 (bR _)) ((h2 _).1 (bR _))) ?_
 cases q:(l.foldl (lmS n s) (0,true)).2<;>cases q2:(l'.foldl (lmS n s) (0,true)).2<;>simp_all
theorem znm (n:Nat){l l':List Ed}(h:∀ x,x∈l ↔ x∈l'):agS n l=agS n l':=by
 funext z p
 unfold agS
 rw [zij n h]
theorem X1 (a:Aut)(h:AutR a)(hw:WfA a)(hle':a.fEdges.length<=1000000)(hc:Bz N0 a=some 0)(p:Be)(hp:PtX a p)(out:List Mp)(ho:C3 a.fStates.length out)(hol:∀ M∈out,M.length<N0)(hox:∀ (i:Nat) (hi:i<out.length) (s:Int),has out[i] s ↔ An56 a (i:Int) s)(r inner:List Bool)(hil:inner.length=a.fStates.length)(hi:∀ t,hs inner t ↔ In56 a t)(V:List (List Bool))(hVl:V.length=a.fStates.length)(hVr:∀ (i:Nat) q,V[i]? = some q->(q.length:Int)=a.fScopes)(hV:∀ t s,an2 V t s ↔ An56 a t s):∀ (m k:Nat) (ag:List Int) (bd:List Bool),k<=a.fStates.length->a.fStates.length<m+k->ag.length=a.fStates.length->bd.length=a.fStates.length->(∀ v∈ag,0<=v/\v<=mxT)->∃ ag' bd',Jl N0 a p out (fun y z=>some (y,z,0)) m ((k:Int),ag,bd)=some (ag',bd',0)/\Ii N0 a (r,inner) V (fun b c=>some (b,c,0)) m ((k:Int),ag,bd)=some (ag',bd',0)/\ag'.length=a.fStates.length/\bd'.length=a.fStates.length/\∀ v∈ag',0<=v/\v<=mxT
 |0,k,ag,bd,h1,h2,l1,l2,l3=>by omega
 |m+1,k,ag,bd,h1,h2,l1,l2,l3=>by
  have hN:30000000<N0:=by unfold N0;omega
  have hst:=h.st
  have hsc:=h.sc
  have hle:=h.le
  unfold Jl Ii
  simp only [aF,Ae]
  rw [A6,A6]
  by_cases hk:k<a.fStates.length
  ·have hki:k<inner.length:=by omega
   rw [if_pos (by omega),if_pos (by omega),Hp (by omega),C9 (by omega),Kb,Ai k (by omega),Hp (by omega),C9 (by omega),Al hki]
   have hin:inner[k]=true ↔ In56 a (k:Int):=by
    rw [<-hi]
    unfold hs
    rw [aD,aA hki]
    simp
   have hin2:(mlk p.finner (k:Int)).getD false=inner[k]:=by
    cases q:inner[k] with
    |true=>exact (hp.i.get _).2 ((hp.ix _).2 (hin.1 q))
    |false =>
     cases q2:(mlk p.finner (k:Int)).getD false with
     |false=>rfl
     |true=>have:=hin.2 ((hp.ix _).1 ((hp.i.get _).1 q2));rw [q] at this;cases this
   rw [hin2]
   cases hq:inner[k] with
   |false =>
    rw [Ag,Ag]
    exact X1 a h hw hle' hc p hp out ho hol hox r inner hil hi V hVl hVr hV m (k+1) ag _ (by omega) (by omega) l1 (by rw [aN];exact l2) l3
   |true =>
    obtain ⟨R,r1,r2,r3⟩:=zmq N0 (by omega) a hw hc k hk
    have ho':k<out.length:=by rw [ho.len];exact hk
    have hv':k<V.length:=by omega
    have hR:∀ x∈R,LimR x:=fun x hx=>by
     have hx':=((r3 x).1 hx).1
     have:=h.lo x hx'
     exact ⟨this.1,this.2.2.2,h.sp x hx'⟩
    have hRf:∀ x,x∈R ↔ x∈Dl a (k:Int):=fun x=>by
     rw [r3]
     unfold Dl
     rw [mem_filter,decide_eq_true_eq]
    have hF:∀ x∈Dl a (k:Int),LimR x:=fun x hx=>hR x ((hRf x).2 hx)
    have hFl:(Dl a (k:Int)).length<=1100000:=Nat.le_trans (length_filter_le _ _) (by omega)
    have hrow:=hVr _ _ (aA hv')
    have e1:=zff N0 (by omega) R r2 hR N0 out[k] (0,false) (hol _ (aM ho'))
    have e2:=Qh N0 (by omega) V[k] a hrow.symm (by omega) (Dl a (k:Int)) hFl hF N0 0 (0,false) (by omega) (by unfold N0;omega) (fun e=>by cases e)
    have hperm:(out[k]).Perm (scl 0 V[k]):=(ho.mks _ (aM ho')).same (zlh 0 _) (fun v=>by
     rw [hox,<-hV,Xo]
     unfold an2 hs
     rw [aD,aA hv']
     simp)
    have e3:out[k].foldl (agS N0 R) (0,false)=(scl 0 V[k]).foldl (agS N0 (Dl a (k:Int))) (0,false):=by
     rw [znm N0 hRf]
     exact Perm.foldl_eq' hperm (fun x _ y _ z=>zg7 N0 _ z x y) _
    have e4:=zp8 N0 (Dl a (k:Int)) (scl 0 V[k]) (0,false) (fun _=>rfl)
    have e5:=zpa N0 (by omega) (Dl a (k:Int)) hF (scl 0 V[k])
    rw [e3] at e1
    simp only [aB,bB] at e2
    generalize (scl 0 V[k]).foldl (agS N0 (Dl a (k:Int))) (0,false)=z at e1 e2 e4 e5
    have e1':T4 N0 R out[k]=some z:=e1
    have e2':P3 N0 a (k:Int) V[k]=some (enZ z):=by
     unfold P3
     rw [zod (k:Int) a hle',A4]
     exact e2
    rw [Af,Af,r1,A4,Al ho',e1',A4,Hp (by omega),C9 (by omega),Hp (by rw [aN];omega),C9 (by rw [aN];omega),Al hv',e2',A4,Hp (by rw [aN];omega),C9 (by rw [aN];omega),Hp (by omega),C9 (by omega)]
    have f1:max (0:Int) (enZ z)=z.1:=by
     unfold enZ
     cases q:z.2 with
     |true=>rw [if_pos rfl];omega
     |false=>rw [if_neg (by simp),e4 q];rfl
    have f2:decide (0<=enZ z)=z.2:=by
     unfold enZ
     cases q:z.2 with
     |true=>rw [if_pos rfl];exact decide_eq_true e5.1
     |false=>rw [if_neg (by simp)];rfl
    rw [f1,f2]
    exact X1 a h hw hle' hc p hp out ho hol hox r inner hil hi V hVl hVr hV m (k+1) _ _ (by omega) (by omega) (by rw [aN];exact l1) (by rw [aN,aN];exact l2) (fun v hv=>(bG hv).elim (l3 v) (fun e=>e▸e5))
  ·rw [if_neg (by omega),if_neg (by omega)]
   exact ⟨ag,bd,rfl,rfl,l1,l2,l3⟩
theorem zov (a:Aut)(h:AutR a)(hw:WfA a)(hle':a.fEdges.length<=1000000)(hc:Bz N0 a=some 0)(hd:Es N0 a=some 0):∃ ag bd p r inner,F6 N0 a=some (ag,bd,0)/\H9 N0 a=some (ag,bd,0)/\ag.length=a.fStates.length/\bd.length=a.fStates.length/\(∀ v∈ag,0<=v/\v<=mxT)/\G6 N0 a=some p/\PtX a p/\M1 N0 a=some (r,inner)/\inner.length=a.fStates.length/\∀ t,hs inner t ↔ In56 a t:=by
 have hN:30000000<N0:=by unfold N0;omega
 have hst:=h.st
 obtain ⟨p,p1,p2⟩:=zn5 N0 hN a h.toEdR hc
 obtain ⟨out,o1,o2,o3,o4⟩:=ziy N0 (by omega) a h p p2
 obtain ⟨r,inner,b1,b2,b3,b4,b5⟩:=zou N0 (by omega) a h.toEdR hd
 obtain ⟨V,v1,v2,v3,v4⟩:=zn6 N0 (by omega) a h r inner b2 b4 b3 b5
 obtain ⟨ag,bd,e1,e2,e3,e4,e5⟩:=X1 a h hw hle' hc p p2 out o2 o3 o4 r inner b3 b5 V v2 v3 v4 N0 0 (aQ a.fStates.length 0) (aQ a.fStates.length false) (by omega) (by unfold N0;omega) (by simp) (by simp) (fun v hv=>by rw [aX hv];exact ⟨by decide,by decide⟩)
 simp only [aB] at e1 e2
 refine ⟨ag,bd,p,r,inner,?_,?_,e3,e4,e5,p1,p2,b1,b3,b5⟩
 ·unfold F6
  rw [hc,A4,show (!decide ((0:Int)=0))=false from rfl,Ag,p1,A4,o1,A4]
  simp only [aF]
  rw [Di (by omega) (by decide),Di (by omega) (by decide),e1]
 ·unfold H9
  rw [hd,A4,show (!decide ((0:Int)=0))=false from rfl,Ag,b1,A4]
  simp only [aF]
  rw [v1,A4,Di (by omega) (by decide),Di (by omega) (by decide),e2]
theorem zfo (l:List Int)(hl:l.length<=1000000):∀ (m k:Nat),k<=l.length->l.length<m+k->Ls N0 l l (some true) m (k:Int)=some true
 |0,k,h1,h2=>by omega
 |m+1,k,h1,h2=>by
  unfold Ls
  simp only [aF]
  rw [A6]
  by_cases hk:k<l.length
  ·rw [if_pos (by omega),Al hk,Al hk,decide_eq_true rfl,aC,Ag,Ai k (by omega)]
   exact zfo l hl m (k+1) (by omega) (by omega)
  ·rw [if_neg (by omega)]
theorem zfp (l:List Bool)(hl:l.length<=1000000):∀ (m k:Nat),k<=l.length->l.length<m+k->Lr N0 l l (some true) m (k:Int)=some true
 |0,k,h1,h2=>by omega
 |m+1,k,h1,h2=>by
  unfold Lr
  simp only [aF]
  rw [A6]
  by_cases hk:k<l.length
  ·rw [if_pos (by omega),Al hk,Al hk,show (l[k] == l[k])=true from by simp,aC,Ag,Ai k (by omega)]
   exact zfp l hl m (k+1) (by omega) (by omega)
  ·rw [if_neg (by omega)]
theorem zgr (a:Aut)(hw:WfA a):R0 N0 a=some true:=by
 have hN:30000000<N0:=by unfold N0;omega
 have haw:J3 N0=some true:=zh5
 obtain ⟨b,b1,b2⟩:=zmo a hw
 obtain ⟨d,d1,d2,d3⟩:=zkg N0 (by decide) a hw
 unfold R0
 rw [b1,A4]
 cases b with
 |false=>simp only [aG,Af];rw [haw,A4]
 |true =>
  simp only [aC,Ag,Ax,Ae,Fe]
  have fin:∀ (ag:List Int) (bd:List Bool) (e:Int),ag.length<=1000000->bd.length<=1000000->F6 N0 a=some (ag,bd,e)->H9 N0 a=some (ag,bd,e)->bnd (F6 N0 a) (fun x3=>bnd (H9 N0 a) fun x4=>bnd (M8 N0 x3.1 x4.1) fun x9=>cnd x9 (bnd (M7 N0 x3.2.1 x4.2.1) fun b=>cnd b (cnd (decide (x3.2.2=x4.2.2)) (bnd (J3 N0) fun c=>some c) <| some false) <| some false) <| some false)=some true:=fun ag bd e l1 l2 e1 e2=>by
   have q1:=zfo ag l1 N0 0 (by omega) (by unfold N0;omega)
   have q2:=zfp bd l2 N0 0 (by omega) (by unfold N0;omega)
   simp only [aB] at q1 q2
   rw [e1,A4,e2,A4]
   unfold M8 M7
   simp only [decide_true,aC,Ag]
   rw [q1,A4,Af,q2,A4,Af,Af,haw,A4]
  by_cases hd:d=0
  ·subst hd
   have h:AutR a:=(scR (T:=[]) hw (d3 rfl) (by omega:10000000<N0) d2).toAutR
   have hst:=h.st
   obtain ⟨ag,bd,p,r,inner,e1,e2,e3,e4,_⟩:=zov a h hw (by have:=(b2 rfl).1;omega) d2 d1
   exact fin ag bd 0 (by omega) (by omega) e1 e2
  ·refine fin [] [] d (by simp) (by simp) ?_ ?_
   ·unfold F6
    rw [d2,A4,Az,A6,if_neg hd]
   ·unfold H9
    rw [d1,A4,Az,A6,if_neg hd]
open Go.ChangeShapes Go.WideShapes Go.ChangeAt
theorem zlc {w:World}{S:Nat->Prop}{a:AV}{x:Value}(ha:Rep w S G0 a x):Args w S [a] #[x] :=
 ⟨rfl,fun i hi=>by
  have hi':i<1:=hi
  rcases i with _|i
  ·exact ha
  ·omega⟩
theorem zki:ownKnob Tryz.prog.godebug=none:=by kernel_rfl
theorem zkm:laidOutB bI=true:=by kernel_rfl
section
variable {H:Type} {enc:TypeId×Value->H}
theorem Zg {W W':World}{sp':Nat->Bool}(hb:Below W.heap.size W W')(ts:List TypeId):∀ (vs:List Value) (ds:List (DataW H)) (p:List MemPlace),ts.all (fun t=>Tryz.prog.readableRec t && decide (t<Tryz.prog.types.size))=true ->
  DataW.TrodAll enc bI W 0 (fun _=>true) true ts vs ds p->(∀ x∈p,x.block<W.heap.size)->(∀ x∈p,sp' x.block=true)->DataW.TrodAll enc bI W' 0 sp' true ts vs ds p:=by
 induction ts with
 |nil =>
  intro vs ds p _ h _ _
  match vs,ds,h with
  |[],[],h=>exact h
  |_::_,_,h=>exact h.elim
  |[],_::_,h=>exact h.elim
 |cons t ts ih =>
  intro vs ds p hr h hlt hs
  match vs,ds,h with
  |v::vs,d::ds,h =>
   obtain ⟨q,r,h1,h2,rfl⟩:=h
   have hr1:Tryz.prog.readableRec t=true/\t<Tryz.prog.types.size:=by
    have:=bA.mp hr t (mem_cons_self ..)
    rw [bN,decide_eq_true_eq] at this;exact this
   have hr2:ts.all (fun t=>Tryz.prog.readableRec t && decide (t<Tryz.prog.types.size))=true :=
    bA.mpr fun x hx=>bA.mp hr x (aU _ hx)
   exact ⟨q,r,WideElems.Trod_stays zkm hr1.1 hr1.2 h1 (fun x hx=>hb.same (hlt x (mem_append_left _ hx))) (fun x hx=>hs x (mem_append_left _ hx)),
    ih vs ds r hr2 h2 (fun x hx=>hlt x (bQ _ hx)) (fun x hx=>hs x (bQ _ hx)),rfl⟩
  |[],_,h=>exact h.elim
  |_::_,[],h=>exact h.elim
theorem zdc {W:World}{b:Nat}{sp:Nat->Bool}(ts:List TypeId):∀ (vs:List Value) (ds:List (DataW H)) (p:List MemPlace),DataW.TrodAll enc bI W b sp true ts vs ds p->ds.length=ts.length:=by
 induction ts with
 |nil =>
  intro vs ds p h
  match vs,ds,h with
  |[],[],h=>rfl
  |_::_,_,h=>exact h.elim
  |[],_::_,h=>exact h.elim
 |cons t ts ih =>
  intro vs ds p h
  match vs,ds,h with
  |v::vs,d::ds,h =>
   obtain ⟨q,r,h1,h2,rfl⟩:=h
   simp only [bS]
   rw [ih vs ds r h2]
  |[],_,h=>exact h.elim
  |_::_,[],h=>exact h.elim
end
open Go.Joins Go.Deep
section
variable {H:Type} {enc:TypeId×Value->H} {W:World} {base:Nat} {v:Value} {d:DataW H} {p:List MemPlace}
theorem zhn {a:Addr}{u:Value}(h:W.cell? a=some u):a.spot=none/\a.block<W.heap.size:=by
 unfold World.cell? at h
 split at h
 ·rename_i c _ _ hg
  split at h
  ·cases h
  ·rename_i hs
   refine ⟨by cases hh:a.spot with|none=>rfl|some _=>simp [hh] at hs,?_⟩
   rcases Nat.lt_or_ge a.block W.heap.size with hlt|hge
   ·exact hlt
   ·rw [Array.getElem?_eq_none hge] at hg;cases hg
 ·cases h
theorem Um (b off k:Nat):(⟨b,off,none⟩:Addr).add k=⟨b,off+k,none⟩:=by
 by_cases h:k=0<;>simp [Addr.add,h]
variable {α:Type}
theorem zbj {f:α->Option β}:∀ {l:List α} {r:List β},l.mapM f=some r->r.length=l.length/\∀ k (hk:k<l.length) (hr:k<r.length),f l[k]=some r[k]
 |[],r,h=>by simp at h;subst h;exact ⟨rfl,fun k hk=>absurd hk (by simp)⟩
 |a::l,r,h=>by
  simp only [mapM_cons] at h
  cases ha:f a with
  |none=>rw [ha] at h;simp at h
  |some b =>
   rw [ha] at h
   cases hl:l.mapM f with
   |none=>rw [hl] at h;simp at h
   |some s =>
    rw [hl] at h
    simp at h
    subst h
    obtain ⟨i1,i2⟩:=zbj hl
    refine ⟨by simp [i1],fun k hk hr=>?_⟩
    cases k with
    |zero=>exact ha
    |succ k=>exact i2 k (by simpa using hk) (by simpa using hr)
theorem z9p {a:Addr}{n:Nat}{cs:List Value}(h:W.cells? 0 a n=some cs):cs.length=n/\∀ j,j<n->W.cell? (a.add j)=some (cs.getD j undef):=by
 unfold World.cells? at h
 rw [if_pos (Nat.zero_le _)] at h
 obtain ⟨i1,i2⟩:=zbj h
 have hl:cs.length=n:=by simpa using i1
 refine ⟨hl,fun j hj=>?_⟩
 have:=i2 j (by simpa using hj) (by omega)
 rw [getElem_range] at this
 rw [this]
 simp [aA (show j<cs.length by omega)]
def Y1 (W:World)(a:α->AV)(m:α)(cs:List Value):Prop :=
 cs.length=(a m).cells.length/\∀ j (hj:j<(a m).cells.length),Rep W (fun _=>True) G0 ((a m).cells[j]) (cs.getD j undef)/\(cs.getD j undef).oneCell'=true
theorem Rep.one_sl {sz:Nat}{xs:List AV}{u:Value}(h:Rep W (fun _=>True) G0 (.sl sz xs) u):u.oneCell'=true:=by
 cases h;rfl
theorem zp7 {a:α->AV}{m:α}{cs:Array Value}{xs:List AV}(hm:a m=.agg xs)(h:Y1 W a m cs.toList):Rep W (fun _=>True) G0 (a m) (.agg cs):=by
 obtain ⟨h1,h2⟩:=h
 rw [hm] at h1 h2 ⊢
 have hl:cs.size=xs.length:=by simpa [AV.cells] using h1
 have g:∀ i,cs.toList.getD i undef=cs.getD i undef:=fun i=>by
  by_cases hi:i<cs.size
  ·simp [Array.getD,hi]
  ·simp [Array.getD,hi]
 refine .agg _ hl (fun i hi=>?_) (fun i hi=>?_)
 ·have:=(h2 i hi).1
  rw [g] at this
  exact this
 ·have:=(h2 i (show i<xs.length by rw [<-hl];exact hi)).2
  rw [g] at this
  exact this
end
section
variable {H:Type} {enc:TypeId×Value->H} {W:World} {base:Nat} {v:Value} {d:DataW H} {p:List MemPlace}
def Bm (W:World)(xs:List AV)(cs:List Value):Prop :=
 cs.length=xs.length/\∀ j (hj:j<xs.length),Rep W (fun _=>True) G0 (xs[j]) (cs.getD j undef)/\(cs.getD j undef).oneCell'=true
theorem Bm.one {a:AV}{c:Value}(h:Rep W (fun _=>True) G0 a c)(h1:c.oneCell'=true):Bm W [a] [c]:=by
 refine ⟨rfl,fun j hj=>?_⟩
 have hj':j<1:=hj
 rcases j with _|j
 ·exact ⟨h,h1⟩
 ·omega
variable {cs:List Value}
theorem Bm.append {xs ys:List AV}{ds:List Value}(h1:Bm W xs cs)(h2:Bm W ys ds):Bm W (xs++ys) (cs++ds):=by
 refine ⟨by rw [bJ,bJ,h1.1,h2.1],fun j hj=>?_⟩
 by_cases h:j<xs.length
 ·have:=h1.2 j h
  rw [getElem_append_left h]
  have e:(cs++ds).getD j undef=cs.getD j undef:=by
   simp only [aP]
   rw [bH (by rw [h1.1];exact h)]
  rw [e];exact this
 ·have hj':j-xs.length<ys.length:=by rw [bJ] at hj;omega
  have:=h2.2 (j-xs.length) hj'
  rw [getElem_append_right (by omega)]
  have e:(cs++ds).getD j undef=ds.getD (j-xs.length) undef:=by
   simp only [aP]
   rw [getElem?_append_right (by rw [h1.1];omega),h1.1]
  rw [e];exact this
theorem Bm.cut {o s:Nat}{xs ys:List AV}(h1:Bm W xs ((cs.drop o).take s))(h2:Bm W ys (cs.drop (o+s))):Bm W (xs++ys) (cs.drop o):=by
 have:cs.drop o=(cs.drop o).take s++cs.drop (o+s):=by rw [<-drop_drop,take_append_drop]
 rw [this]
 exact h1.append h2
theorem Bm.done {o:Nat}(h:cs.length<=o):Bm W [] (cs.drop o):=by
 rw [aJ h]
 exact ⟨rfl,fun j hj=>absurd hj (by simp)⟩
theorem Bl {o s:Nat}(h:o+s<=cs.length):((cs.drop o).take s).length=s:=by rw [length_take,length_drop];omega
abbrev FO (enc:TypeId×Value->H)(W:World)(t:TypeId)(sz:Nat){α:Type}(e:α->List AV):Prop :=
 ∀ (n:Nat) (cs:List Value) (x:DataW H×List MemPlace),cs.length=sz->DataW.trod enc bI W 0 (fun _=>true) true n t cs=some x->∃ m:α,Bm W (e m) cs
variable {t:TypeId}
theorem Ca (ht:Tryz.prog.underlying t=some (.int .i64)):FO enc W t 1 (fun z:Int=>[aI z]):=fun n cs x hl h=>by
 obtain ⟨z,rfl,_⟩:=DataW.trod_int (k:=.i64) ht h
 exact ⟨z,.one (.int _ _) rfl⟩
theorem zox (ht:Tryz.prog.underlying t=some .string):FO enc W t 1 (fun z:ByteArray=>[AV.str z]):=fun n cs x hl h=>by
 obtain ⟨z,rfl,_⟩:=DataW.trod_string ht h
 exact ⟨z,.one (.str _) rfl⟩
theorem Yn (ht:Tryz.prog.underlying t=some (.int .i64)):FO enc W t 1 (fun z:Int=>(aI z).cells):=Ca ht
end
end Go.Proofs.YthbogefcfhmpgaaGreat
