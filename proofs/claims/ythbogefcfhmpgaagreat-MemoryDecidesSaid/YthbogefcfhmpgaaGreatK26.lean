/- Layer 56, plainly. -/
import Derived.Test.YthbogefcfhmpgaaGreatK25
set_option linter.unusedVariables false
set_option linter.unusedSimpArgs false
set_option maxRecDepth 100000
namespace Go.Proofs.YthbogefcfhmpgaaGreat
open Go.RowKit List
open List renaming getElem?_eq_getElem->aA,getElem?_set_self->aB,drop_eq_getElem_cons->aC,length_map->aE,drop_eq_nil_of_le->aG,getElem?_set_ne->aH,getElem_mem->aK,replicate->aO,length_set->aP,getElem?_replicate->aQ,foldl_cons->aR,getElem?_set->aS,getD_eq_getElem?_getD->aT,mem_iff_getElem->aU,eq_of_mem_replicate->aW,drop_zero->aX,mem_cons->aZ,getElem?_eq_none->bA,getElem?_map->bB,mem_cons_of_mem->bC,map_cons->bE,mem_or_eq_of_mem_set->bF,ext_getElem?->bG,getElem_cons_zero->bH,getElem_cons_succ->bI,length_replicate->bJ,singleton_append->bK,length_nil->bN,sum_cons->bO,mem_map->bQ
open Int renaming natCast_zero->aD,toNat_natCast->aF,toNat_of_nonneg->aV,le_refl->bL
open Bool renaming not_false->aJ,not_true->aN,false_eq_true->aY
open Or renaming inr->aL,inl->aM
open Nat renaming le_refl->bD,le_trans->bP
def PsQ (a:Aut)(B:Int->Int->Prop)(x:Ed)(s:Int):Prop:=¬s∈x.fCloses/\(x.fFrom=0->s∈x.fOpens)/\(In56 a x.fFrom->¬s∈x.fOpens/\B x.fFrom s)
def CoA (a:Aut)(B:Int->Int->Prop):Prop:=(∀ t s,B t s->In56 a t/\0<=s/\s<a.fScopes)/\∀ x∈a.fEdges,0<=x.fTo->Rr a x.fFrom->In56 a x.fTo->∀ s,B x.fTo s->PsQ a B x s
def An56 (a:Aut)(t s:Int):Prop:=∃ B,CoA a B/\B t s
theorem An56.ok (a:Aut):CoA a (An56 a):=⟨fun t s ⟨B,h,q⟩=>h.1 t s q,fun x hx h0 h1 h2 s ⟨B,h,q⟩=>by
 obtain ⟨q1,q2,q3⟩:=h.2 x hx h0 h1 h2 s q
 exact ⟨q1,q2,fun hi=>⟨(q3 hi).1,B,h,(q3 hi).2⟩⟩⟩
variable {a:Aut}
theorem In56.rg (h:EdR a){t:Int}(q:In56 a t):0<=t/\t.toNat<a.fStates.length:=by
 obtain ⟨x,hx,x0,_,_,rfl⟩:=q
 have:=h.ed x hx
 omega
theorem z8i (n:Nat)(hn:10000000<n)(a:Aut)(hsc:a.fScopes<=64)(p:B8)(hp:MK p.finner)(x:Ed)(hxo:x.fOpens.length<=1100000)(hxc:x.fCloses.length<=1100000)(out:List Mp)(ho:∀ M∈out,MK M)(hf:0<=x.fFrom/\x.fFrom.toNat<out.length):∀ (m k:Nat) (M:Mp),k<=64->64<m+k->MK M->∃ R,Cl n out x a p (fun y=>some y) m ((k:Int),M)=some R/\MK R/\∀ v,has R v ↔ has M v\/((k:Int)<=v/\v<a.fScopes/\PsP p out x v)
 |0,k,M,h1,h2,h3=>by omega
 |m+1,k,M,h1,h2,h3=>by
  unfold Cl
  rw [A3]
  by_cases h:(k:Int)<a.fScopes
  ·rw [if_pos h,Ey n (k:Int) x.fOpens (by omega) (by omega),A0,Ey n (k:Int) x.fCloses (by omega) (by omega),A0]
   have key:∀ (b:Bool),(b=true ↔ PsP p out x (k:Int))->∃ R,Dq n out x a p ((k:Int),M) (Cl n out x a p (fun y=>some y) m) b=some R/\MK R/\∀ v,has R v ↔ has M v\/((k:Int)<=v/\v<a.fScopes/\PsP p out x v):=fun b hb=>by
    unfold Dq
    simp only [Aa,Dm,Ae k (by omega)]
    cases b with
    |true =>
     rw [A8]
     obtain ⟨R,r1,r2,r3⟩:=z8i n hn a hsc p hp x hxo hxc out ho hf m (k+1) _ (by omega) (by omega) (h3.put (k:Int))
     refine ⟨R,r1,r2,fun v=>?_⟩
     rw [r3,h3.has_put]
     constructor
     ·rintro ((e|e)|⟨e1,e2,e3⟩)
      ·rw [e];exact aL ⟨bL _,h,hb.1 rfl⟩
      ·exact aM e
      ·exact aL ⟨by omega,e2,e3⟩
     ·rintro (e|⟨e1,e2,e3⟩)
      ·exact aM (aL e)
      ·by_cases ev:v=(k:Int)
       ·exact aM (aM ev)
       ·exact aL ⟨by omega,e2,e3⟩
    |false =>
     rw [A7]
     obtain ⟨R,r1,r2,r3⟩:=z8i n hn a hsc p hp x hxo hxc out ho hf m (k+1) _ (by omega) (by omega) h3
     refine ⟨R,r1,r2,fun v=>?_⟩
     rw [r3]
     refine or_congr Iff.rfl ⟨fun e=>⟨by omega,e.2⟩,fun e=>⟨?_,e.2⟩⟩
     by_cases ev:v=(k:Int)
     ·rw [ev] at e;exact absurd (hb.2 e.2.2) (by simp)
     ·omega
   have key5:∀ (c b:Bool),(c=true ↔ (k:Int)∈x.fOpens)->(b=true ↔ ¬(k:Int)∈x.fCloses/\(x.fFrom=0->(k:Int)∈x.fOpens))->∃ R,E6 n out x a p ((k:Int),M) (Cl n out x a p (fun y=>some y) m) c b=some R/\MK R/\∀ v,has R v ↔ has M v\/((k:Int)<=v/\v<a.fScopes/\PsP p out x v):=fun c b hc hb=>by
    unfold E6
    simp only [Aa,Am,Ft]
    cases hq:(mlk p.finner x.fFrom).getD false with
    |false =>
     rw [A7]
     refine key _ ⟨fun e=>⟨(hb.1 e).1,(hb.1 e).2,fun hi=>?_⟩,fun q=>hb.2 ⟨q.1,q.2.1⟩⟩
     rw [(hp.get _).2 hi] at hq
     cases hq
    |true =>
     have hin:=(hp.get _).1 hq
     rw [A8]
     cases b with
     |false=>rw [A7];exact key _ ⟨fun e=>by (cases e),fun q=>hb.2 ⟨q.1,q.2.1⟩⟩
     |true =>
      rw [A8]
      cases c with
      |true=>simp only [aN,A7];exact key _ ⟨fun e=>by (cases e),fun q=>absurd (hc.1 rfl) (q.2.2 hin).1⟩
      |false =>
       simp only [aJ,A8]
       rw [Cs hf.1 hf.2]
       refine key _ ⟨fun e=>⟨(hb.1 rfl).1,(hb.1 rfl).2,fun hi=>⟨fun q=>by (have:=hc.2 q;cases this),_,aA hf.2,((ho _ (aK hf.2)).get _).1 e⟩⟩,fun q=>?_⟩
       obtain ⟨M',hM,hh⟩:=(q.2.2 hin).2
       rw [aA hf.2] at hM
       injection hM with hM
       subst hM
       exact ((ho _ (aK hf.2)).get _).2 hh
   have hany:∀ (l:List Int),(l.any fun y=>decide ((k:Int)=y))=true ↔ (k:Int)∈l:=fun l=>by simp
   simp only [Aa,Am]
   rw [A3]
   split
   ·rename_i q0
    cases hcl:(x.fCloses.any fun y=>decide ((k:Int)=y)) with
    |true=>simp only [aN,A7];exact key5 _ _ (hany _) ⟨fun e=>by (cases e),fun q=>absurd ((hany _).1 hcl) q.1⟩
    |false=>simp only [aJ,A8];exact key5 _ _ (hany _) ⟨fun e=>⟨fun q=>by (have:=(hany _).2 q;rw [hcl] at this;cases this),fun _=>(hany _).1 e⟩,fun q=>(hany _).2 (q.2 q0)⟩
   ·rename_i q0
    refine key5 _ _ (hany _) ⟨fun e=>⟨fun q=>?_,fun e0=>absurd e0 q0⟩,fun q=>?_⟩
    ·rw [(hany _).2 q] at e;cases e
    ·cases hcl:(x.fCloses.any fun y=>decide ((k:Int)=y)) with
     |true=>exact absurd ((hany _).1 hcl) q.1
     |false=>rfl
  ·rw [if_neg h]
   exact ⟨M,rfl,h3,fun v=>⟨aM,fun e=>e.elim id (fun e=>by omega)⟩⟩
theorem zum (n:Nat)(hn:10000000<n)(a:Aut)(hsc:a.fScopes<=64)(p:B8)(hp:MK p.finner)(x:Ed)(hxo:x.fOpens.length<=1100000)(hxc:x.fCloses.length<=1100000)(out:List Mp)(ho:∀ M∈out,MK M)(hf:0<=x.fFrom/\x.fFrom.toNat<out.length):∃ R,Q6 n p a x out=some R/\MK R/\∀ v,has R v ↔ 0<=v/\v<a.fScopes/\PsP p out x v:=by
 obtain ⟨R,r1,r2,r3⟩:=z8i n hn a hsc p hp x hxo hxc out ho hf n 0 [] (by omega) (by omega) MK.nil
 exact ⟨R,r1,r2,fun v=>by rw [r3];simp [Dl]⟩
structure AnI (a:Aut) (out:List Mp):Prop where
 r:∀ (t:Nat) (M:Mp) (s:Int),out[t]? = some M->has M s->In56 a (t:Int)/\0<=s/\s<a.fScopes
 g:∀ t s,An56 a t s->∃ M,out[t.toNat]? = some M/\has M s
theorem AnI.set (h:EdR a){p:B8}(hp:PtX a p){out:List Mp}(hi:AnI a out){x:Ed}(hx:x∈a.fEdges)(h0:0<=x.fTo)(h1:has p.freachable x.fFrom)(h2:has p.finner x.fTo){R C M:Mp}(hM:out[x.fTo.toNat]? = some M)(hR:∀ v,has R v ↔ 0<=v/\v<a.fScopes/\PsP p out x v)(hC:∀ v,has C v ↔ has M v/\has R v):AnI a (out.set x.fTo.toNat C):=by
 refine ⟨fun t N s hN hs=>?_,fun t s hA=>?_⟩
 ·by_cases e:x.fTo.toNat=t
  ·subst e
   rw [aB (List.getElem?_eq_some_iff.1 hM).1] at hN
   injection hN with hN
   subst hN
   exact hi.r _ _ _ hM ((hC s).1 hs).1
  ·rw [aH e] at hN
   exact hi.r _ _ _ hN hs
 ·obtain ⟨N,n1,n2⟩:=hi.g t s hA
  by_cases e:x.fTo.toNat=t.toNat
  ·have ht:=((An56.ok a).1 t s hA).1.rg h
   have et:t=x.fTo:=by omega
   subst et
   rw [hM] at n1
   injection n1 with n1
   subst n1
   refine ⟨C,by rw [aB (List.getElem?_eq_some_iff.1 hM).1],(hC s).2 ⟨n2,(hR s).2 ?_⟩⟩
   obtain ⟨_,s0,s1⟩:=(An56.ok a).1 _ s hA
   obtain ⟨q1,q2,q3⟩:=(An56.ok a).2 x hx h0 ((hp.rx _).1 h1) ((hp.ix _).1 h2) s hA
   exact ⟨s0,s1,q1,q2,fun hin=>⟨(q3 ((hp.ix _).1 hin)).1,hi.g _ _ (q3 ((hp.ix _).1 hin)).2⟩⟩
  ·exact ⟨N,by rw [aH e];exact n1,n2⟩
theorem z6u (n:Nat)(hn:10000000<n)(a:Aut)(h:AutR a)(p:B8)(hp:PtX a p)(K:Bool->List Mp->Option (List Mp)):∀ (m k:Nat) (b:Bool) (out:List Mp),k<=a.fEdges.length->a.fEdges.length<m+k->Bt a.fStates.length out->AnI a out->tot out<10000000->∃ b' out',Cq n a p K m (b,(k:Int),out)=K b' out'/\Bt a.fStates.length out'/\AnI a out'/\tot out'<=tot out/\(b'=true->b=true\/tot out' < tot out)/\(b=true->b'=true)/\(b'=true\/(out'=out/\∀ x∈a.fEdges.drop k,Fx p out x))
 |0,k,b,out,h1,h2,h3,hi,h4=>by omega
 |m+1,k,b,out,h1,h2,h3,hi,h4=>by
  have hle:=h.le
  unfold Cq
  simp only [aE]
  by_cases hk:k<a.fEdges.length
  ·rw [A3,if_pos (by omega),Ad hk,aC hk]
   have hx:=h.ed _ (aK hk)
   have hlo:=h.lo _ (aK hk)
   have hlen:=h3.len
   have next:Fx p out a.fEdges[k]->∃ b' out',Cq n a p K m (b,((k+1:Nat):Int),out)=K b' out'/\Bt a.fStates.length out'/\AnI a out'/\tot out'<=tot out/\(b'=true->b=true\/tot out' < tot out)/\(b=true->b'=true)/\(b'=true\/(out'=out/\∀ x∈a.fEdges[k]::a.fEdges.drop (k+1),Fx p out x)):=fun hfx=>by
    obtain ⟨b',out',e1,e2,e7,e3,e4,e5,e6⟩:=z6u n hn a h p hp K m (k+1) b out (by omega) (by omega) h3 hi h4
    refine ⟨b',out',e1,e2,e7,e3,e4,e5,e6.imp id (fun q=>⟨q.1,fun x hx=>?_⟩)⟩
    rcases aZ.1 hx with e|e
    ·rw [e];exact hfx
    ·exact q.2 x e
   have skip:Fx p out a.fEdges[k]->∃ b' out',D6 n a p (b,(k:Int),out) (Cq n a p K m) a.fEdges[k] true=K b' out'/\Bt a.fStates.length out'/\AnI a out'/\tot out'<=tot out/\(b'=true->b=true\/tot out' < tot out)/\(b=true->b'=true)/\(b'=true\/(out'=out/\∀ x∈a.fEdges[k]::a.fEdges.drop (k+1),Fx p out x)):=fun hfx=>by
    unfold D6
    simp only [Ae k (by omega:k<=1000000000000)]
    rw [A8]
    exact next hfx
   simp only [Am,Aa,Ft]
   rw [A3]
   by_cases q:a.fEdges[k].fTo<0
   ·rw [if_pos q];exact skip (fun h0=>by omega)
   rw [if_neg q]
   have ht:0<=a.fEdges[k].fTo/\a.fEdges[k].fTo.toNat<out.length:=by omega
   cases hre:(mlk p.freachable a.fEdges[k].fFrom).getD false with
   |false=>simp only [aJ,A8];exact skip (fun _ hr=>by rw [(hp.r.get _).2 hr] at hre;cases hre)
   |true =>
    simp only [aN,A7]
    cases hin:(mlk p.finner a.fEdges[k].fTo).getD false with
    |false=>simp only [aJ];exact skip (fun _ _ hr=>by rw [(hp.i.get _).2 hr] at hin;cases hin)
    |true =>
     simp only [aN]
     unfold D6
     simp only [Ae k (by omega:k<=1000000000000),aE,Aa]
     rw [A7,Bl ht.1 ht.2,Cc ht.2]
     obtain ⟨R,r1,r2,r3⟩:=zum n hn a h.sc.2 p hp.i _ hlo.1 hlo.2.1 out h3.mks (by omega)
     have hmo:=h3.mks _ (aK ht.2)
     have hle:out[a.fEdges[k].fTo.toNat].length<=tot out:=by
      have:=Ic ht.2 []
      simp only [bN] at this
      omega
     obtain ⟨C,c1,c2,c3⟩:=zfg n _ R hmo r2 (by omega)
     rw [r1,A0,c1,A0,Bl ht.1 ht.2,Cc ht.2,A3]
     by_cases ql:C.length<out[a.fEdges[k].fTo.toNat].length
     ·rw [if_pos (by omega),Bl ht.1 ht.2,Bv ht.2]
      have hts:=Ic ht.2 C
      obtain ⟨b',out',e1,e2,e7,e3,e4,e5,e6⟩:=z6u n hn a h p hp K m (k+1) true (out.set a.fEdges[k].fTo.toNat C) (by omega) (by omega) (h3.set _ c2) (hi.set h.toEdR hp (aK hk) ht.1 ((hp.r.get _).1 hre) ((hp.i.get _).1 hin) (aA ht.2) r3 c3) (by omega)
      exact ⟨b',out',e1,e2,e7,by omega,fun _=>aL (by omega),fun _=>e5 rfl,aM (e5 rfl)⟩
     ·rw [if_neg (by omega)]
      refine next (fun _ _ _ M s hM hs=>?_)
      rw [aA ht.2] at hM
      injection hM with hM
      subst hM
      exact ((r3 s).1 ((c3 s).1 (zrg c2 (fun v hv=>((c3 v).1 hv).1) (by omega) s hs)).2).2.2
  ·rw [A3,if_neg (by omega),aG (by omega)]
   exact ⟨b,out,rfl,h3,hi,bD _,aM,id,aL ⟨rfl,by simp⟩⟩
theorem zal (n:Nat)(hn:10000000<n)(a:Aut)(h:AutR a)(p:B8)(hp:PtX a p):∀ (m:Nat) (b:Bool) (out:List Mp),(tot out+1<m\/(b=false/\tot out<m))->Bt a.fStates.length out->AnI a out->tot out<10000000->(b=false->∀ x∈a.fEdges,Fx p out x)->∃ out',D5 n a p (fun y=>some y) m (b,out)=some out'/\Bt a.fStates.length out'/\AnI a out'/\tot out'<=tot out/\∀ x∈a.fEdges,Fx p out' x
 |0,b,out,h1,h2,hi,h3,h4=>by omega
 |m+1,b,out,h1,h2,hi,h3,h4=>by
  unfold D5
  simp only
  cases b with
  |false=>rw [A7];exact ⟨out,rfl,h2,hi,bD _,h4 rfl⟩
  |true =>
   rw [A8]
   have hle:=h.le
   obtain ⟨b',out',e1,e2,e8,e3,e4,e5,e6⟩:=z6u n hn a h p hp (fun y z=>D5 n a p (fun y=>some y) m (y,z)) n 0 false out (by omega) (by omega) h2 hi h3
   simp only [aD] at e1
   rw [e1]
   have h1':tot out+1<m+1:=by
    rcases h1 with h|h
    ·exact h
    ·exact absurd h.1 (by simp)
   have hb:tot out' + 1<m\/(b'=false/\tot out' < m):=by
    cases b' with
    |false=>exact aL ⟨rfl,by omega⟩
    |true=>have:=(e4 rfl).resolve_left (by simp);exact aM (by omega)
   obtain ⟨q,q1,q2,q5,q3,q4⟩:=zal n hn a h p hp m b' out' hb e2 e8 (by omega) (fun eb=>by
    rcases e6 with e|⟨e,e7⟩
    ·rw [eb] at e;cases e
    ·rw [e];rw [aX] at e7;exact e7)
   exact ⟨q,q1,q2,q5,by omega,q4⟩
theorem ztn {l:Mp}(h:Srt l)(k v:Int):has (sput l k true) v ↔ v=k\/has l v:=by
 rw [V2 (Xp h) v]
 simp only [has,map_append,bE,map_nil,mem_append,mem_singleton,bQ,mem_filter]
 constructor
 ·rintro (⟨p,⟨p1,p2⟩,p3⟩|e)
  ·exact aL ⟨p,p1,p3⟩
  ·exact aM e
 ·rintro (e|⟨p,p1,p3⟩)
  ·exact aL e
  ·by_cases e:v=k
   ·exact aL e
   ·exact aM ⟨p,⟨p1,by simp;omega⟩,p3⟩
theorem zvi (k:Int)(d:Nat)(q:Mp)(h:Srt q)(v:Int):has (addS k d q) v ↔ has q v\/(k<=v/\v<k+(d:Int)):=by
 induction d generalizing k q with
 |zero=>exact ⟨aM,fun e=>e.elim id (fun e=>by omega)⟩
 |succ d ih =>
  show has (addS (k+1) d (sput q k true)) v ↔ _
  rw [ih (k+1) _ (Nv h),ztn h]
  constructor
  ·rintro ((e|e)|e)
   ·exact aL (by omega)
   ·exact aM e
   ·exact aL (by omega)
  ·rintro (e|e)
   ·exact aM (aL e)
   ·by_cases ev:v=k
    ·exact aM (aM ev)
    ·exact aL (by omega)
theorem zfr (S:Mp):∀ (rem:Mp) (w:List Mp) (i:Nat),(rem.foldl (fun w q=>w.set q.1.toNat S) w)[i]? = if i<w.length/\∃ q∈rem,q.1.toNat=i then some S else w[i]?
 |[],w,i=>by simp
 |q::r,w,i=>by
  rw [aR,zfr S r,aP]
  by_cases e:q.1.toNat=i
  ·subst e
   by_cases hl:q.1.toNat<w.length
   ·rw [aB hl];simp [hl]
   ·rw [if_neg (fun h=>hl h.1),if_neg (fun h=>hl h.1),bA (by simp;omega),bA (by omega)]
  ·rw [aH e]
   simp only [aZ,exists_eq_or_imp,e,false_or]
theorem zsa (n:Nat)(hn:20000000<n)(a:Aut)(h:AutR a)(p:B8)(hp:PtX a p):∃ out,Hj n p a=some out/\Bt a.fStates.length out/\(∀ M∈out,M.length<n)/\∀ (i:Nat) (hi:i<out.length) (s:Int),has out[i] s ↔ An56 a (i:Int) s:=by
 have hst:=h.st
 obtain ⟨out0,z1,z2,z3,z4⟩:=zqp n hn a h p hp.toPtOk
 have hS:=zmv 0 a.fScopes.toNat [] (by simp [Srt]) (by simp)
 have hSl:=zgu 0 a.fScopes.toNat [] (by simp [Srt])
 have hSh:=zvi 0 a.fScopes.toNat [] (by simp [Srt])
 have hsc:=h.sc
 have hfold:∀ (rem:Mp) (w:List Mp),Bt a.fStates.length w->(∀ M∈w,M.length<=64)->Bt a.fStates.length (rem.foldl (fun w q=>w.set q.1.toNat (allS a)) w)/\∀ M∈rem.foldl (fun w q=>w.set q.1.toNat (allS a)) w,M.length<=64:=fun rem=>by
  induction rem with
  |nil=>exact fun w h h'=>⟨h,h'⟩
  |cons q r ih =>
   intro w h h'
   rw [aR]
   refine ih _ (h.set _ ⟨hS.1.nodup,hS.2⟩) (fun M hM=>(bF hM).elim (h' M) (fun e=>?_))
   rw [e]
   unfold allS
   simp only [bN] at hSl
   omega
 have ha0:ArOk a.fStates.length (mkA Mp a.fStates.length):=⟨by simp [mkA],fun i j e=>by
  unfold mkA at e
  simp only [aQ] at e
  split at e<;>simp at e⟩
 have hv0:aval (mkA Mp a.fStates.length)=aO a.fStates.length []:=by
  unfold aval mkA
  simp
 obtain ⟨f1,f2⟩:=hfold p.finner (aO a.fStates.length []) ⟨by simp,fun M hM=>by rw [aW hM];exact MK.nil⟩ (fun M hM=>by rw [aW hM];simp)
 have ht:∀ w:List Mp,(∀ M∈w,M.length<=64)->tot w<=64*w.length:=fun w=>by
  unfold tot
  induction w with
  |nil=>simp
  |cons q r ih =>
   intro hq
   have:=ih (fun M hM=>hq M (bC _ hM))
   have:=hq q (by simp)
   simp only [bE,bO,length_cons]
   omega
 have htt:=ht _ f2
 rw [f1.len] at htt
 have hai:AnI a (p.finner.foldl (fun w q=>w.set q.1.toNat (allS a)) (aO a.fStates.length [])):=by
  refine ⟨fun t M s hM hs=>?_,fun t s hA=>?_⟩
  ·rw [zfr] at hM
   split at hM
   ·rename_i q
    obtain ⟨_,r,r1,r2⟩:=q
    have hr:has p.finner r.1:=bQ.2 ⟨r,r1,rfl⟩
    have r3:=(hp.ir _ hr).1
    injection hM with hM
    subst hM
    have:=(hSh s).1 hs
    refine ⟨by rw [<-r2,aV r3];exact (hp.ix _).1 hr,?_⟩
    rcases this with e|e
    ·exact absurd e (Dl s)
    ·omega
   ·rw [aQ] at hM
    split at hM
    ·injection hM with hM;subst hM;exact absurd hs (Dl s)
    ·cases hM
  ·obtain ⟨i1,i2,i3⟩:=(An56.ok a).1 t s hA
   have i4:=i1.rg h.toEdR
   obtain ⟨q,q1,q2⟩:=bQ.1 ((hp.ix t).2 i1)
   refine ⟨allS a,?_,(hSh s).2 (aL (by omega))⟩
   rw [zfr,if_pos ⟨by rw [bJ];exact i4.2,q,q1,by rw [q2]⟩]
 obtain ⟨out,e1,e2,e9,e3,e8⟩:=zal n (by omega) a h p hp n true _ (aM (by omega)) f1 hai (by omega) (fun e=>by cases e)
 have hle:∀ M∈out,M.length<=tot out:=fun M hM=>by
  obtain ⟨i,hi,rfl⟩:=aU.1 hM
  have:=Ic hi []
  simp only [bN] at this
  omega
 refine ⟨out,?_,e2,fun M hM=>by have:=hle M hM;omega,fun i hi s=>⟨fun q=>?_,fun q=>?_⟩⟩
 ·have hil:p.finner.length<n:=by
   have hsub:(p.finner.map (·.1)).length<=((range a.fStates.length).map (fun (i:Nat)=>(i:Int))).length:=by
    refine Ko hp.i.nd (fun t ht'=>?_)
    have:=hp.ir t ht'
    exact bQ.2 ⟨t.toNat,mem_range.2 this.2,by omega⟩
   simp only [aE,length_range] at hsub
   omega
  unfold Hj
  simp only [aE,zt1,Aa]
  rw [zri (by omega)]
  refine X4 n (by omega) a h p _ (fun w=>D5 n a p (fun y=>some y) n (true,w)) (fun N m=>by simp only [zsg,Aa]) out n p.finner (mkA Mp a.fStates.length) hil hp.i hp.ir ha0 ?_
  rw [hv0]
  exact e1
 ·refine ⟨fun t s=>0<=t/\∃ M,out[t.toNat]? = some M/\has M s,⟨fun t s ⟨t0,M,m1,m2⟩=>?_,fun x hx x0 x1 x2 s ⟨t0,M,m1,m2⟩=>?_⟩,by omega,out[i],by rw [aF,aA hi],q⟩
  ·have:=e9.r _ _ _ m1 m2
   rw [aV t0] at this
   exact this
  ·obtain ⟨q1,q2,q3⟩:=e8 x hx x0 ((hp.rx _).2 x1) ((hp.ix _).2 x2) M s m1 m2
   exact ⟨q1,q2,fun hi=>⟨(q3 ((hp.ix _).2 hi)).1,(hi.rg h.toEdR).1,(q3 ((hp.ix _).2 hi)).2⟩⟩
 ·obtain ⟨M,m1,m2⟩:=e9.g _ _ q
  rw [aF,aA hi] at m1
  injection m1 with m1
  rw [m1]
  exact m2
section
variable {α β:Type}
variable {k j:Nat}
theorem zm6 {m:Ars α}(h:m.1[k]? = some (some j))(c:Nat->Option β):aob m k c=c j:=by unfold aob;rw [h]
variable {m:Ars (List α)}{l:List α}
theorem zm7 (hj:m.2[j]? = some l)(hk:k<l.length)(c:Nat->Option β):aix m j (k:Int) c=c k:=by
 unfold aix
 rw [hj]
 simp [hk]
theorem zxo {v:α}(hj:m.2[j]? = some l)(hk:l[k]? = some v)(c:α->Option β):ald m j k c=c v:=by
 unfold ald
 rw [hj]
 simp only [hk]
theorem zrz {v:α}(hj:m.2[j]? = some l)(hk:k<l.length)(c:Ars (List α)->Option β):asr m j k v c=c (m.1,m.2.set j (l.set k v)):=by
 unfold asr
 rw [hj]
 simp [hk]
end
structure AB (N:Nat) (m:Ars (List Bool)):Prop where
 l:m.1.length=N
 ok:∀ i:Nat,i<N->∃ j:Nat,m.1[i]? = some (some j)/\j<m.2.length
 inj:∀ (i i' j:Nat),m.1[i]? = some (some j)->m.1[i']? = some (some j)->i=i'
variable {N:Nat}{m:Ars (List Bool)}{i:Nat}
theorem AB.at (h:AB N m)(hi:i<N):∃ j l,m.1[i]? = some (some j)/\m.2[j]? = some l/\(aval m)[i]? = some l:=by
 obtain ⟨j,j1,j2⟩:=h.ok i hi
 refine ⟨j,m.2[j],j1,aA j2,?_⟩
 unfold aval
 rw [bB,j1]
 simp [j2]
theorem AB.len (h:AB N m):(aval m).length=N:=by unfold aval;simp [h.l]
theorem AB.set (h:AB N m){j:Nat}(hij:m.1[i]? = some (some j))(hj:j<m.2.length)(q:List Bool):AB N (m.1,m.2.set j q)/\aval (m.1,m.2.set j q)=(aval m).set i q:=by
 refine ⟨⟨h.l,fun i hi=>?_,h.inj⟩,?_⟩
 ·obtain ⟨j',a,b⟩:=h.ok i hi
  exact ⟨j',a,by simpa using b⟩
 ·unfold aval
  apply bG
  intro k
  simp only [bB,aS,aE]
  by_cases e:i=k
  ·subst e
   have hl:=(List.getElem?_eq_some_iff.1 hij).1
   rw [if_pos rfl,if_pos hl,hij]
   simp [hj]
  ·rw [if_neg e]
   cases e2:m.1[k]? with
   |none=>rfl
   |some o =>
    cases o with
    |none=>rfl
    |some j' =>
     have hne:j≠j':=fun e3=>e (h.inj i k j hij (e3▸e2))
     simp only [Option.map_some]
     rw [if_neg hne]
theorem AB.put (h:AB N m)(hi:i<N)(q:List Bool):AB N (m.1.set i (some m.2.length),m.2++[q])/\aval (m.1.set i (some m.2.length),m.2++[q])=(aval m).set i q/\(m.1.set i (some m.2.length))[i]? = some (some m.2.length):=by
 have hl:i<m.1.length:=by rw [h.l];exact hi
 have hlt:∀ (k j:Nat),m.1[k]? = some (some j)->j<m.2.length:=fun k j e=>by
  obtain ⟨j',a,b⟩:=h.ok k (by rw [<-h.l];exact (List.getElem?_eq_some_iff.1 e).1)
  rw [e] at a
  injection a with a
  injection a with a
  omega
 refine ⟨⟨by simp [h.l],fun k hk=>?_,fun k k' j e e'=>?_⟩,?_,aB hl⟩
 ·by_cases e:i=k
  ·subst e;exact ⟨_,aB hl,by simp⟩
  ·obtain ⟨j',a,b⟩:=h.ok k hk
   exact ⟨j',by simp only;rw [aH e];exact a,by simp;omega⟩
 ·simp only [aS] at e e'
  by_cases c1:i=k
  ·by_cases c2:i=k'
   ·omega
   ·rw [if_pos c1] at e
    rw [if_neg c2] at e'
    have:=hlt _ _ e'
    split at e
    ·injection e with e;injection e with e;omega
    ·rename_i hx;exact absurd hl hx
  ·by_cases c2:i=k'
   ·rw [if_neg c1] at e
    rw [if_pos c2] at e'
    have:=hlt _ _ e
    split at e'
    ·injection e' with e';injection e' with e';omega
    ·rename_i hx;exact absurd hl hx
   ·rw [if_neg c1] at e
    rw [if_neg c2] at e'
    exact h.inj k k' j e e'
 ·unfold aval
  apply bG
  intro k
  simp only [bB,aS,aE]
  by_cases e:i=k
  ·subst e
   rw [if_pos rfl,if_pos hl,if_pos rfl,if_pos hl]
   simp
  ·rw [if_neg e,if_neg e]
   cases e2:m.1[k]? with
   |none=>rfl
   |some o =>
    cases o with
    |none=>rfl
    |some j' =>
     simp only [Option.map_some]
     rw [getElem?_append_left (hlt k j' e2)]
theorem AB.alq (h:AB N m){β:Type}(x:Option β):alq m x=x:=by
 unfold Proofs.YthbogefcfhmpgaaGreat.alq
 rw [if_pos]
 unfold lnt
 refine all_eq_true.2 (fun o ho=>?_)
 obtain ⟨k,hk,e⟩:=aU.1 ho
 obtain ⟨j,a,b⟩:=h.ok k (by rw [<-h.l];exact hk)
 rw [aA hk,e] at a
 injection a with a
 subst a
 simpa using b
theorem AB.frq (h:AB N m)(r:Nat){β:Type}(x:Option β):frq r m x=x:=by
 unfold Proofs.YthbogefcfhmpgaaGreat.frq
 rw [if_pos]
 refine all_eq_true.2 (fun o ho=>?_)
 obtain ⟨k,hk,e⟩:=aU.1 ho
 obtain ⟨j,a,b⟩:=h.ok k (by rw [<-h.l];exact hk)
 rw [aA hk,e] at a
 injection a with a
 subst a
 rfl
def an2 (V:List (List Bool))(t s:Int):Prop:=0<=t/\∃ q,V[t.toNat]? = some q/\hs q s
variable {k:Nat}
theorem zw4 {q:List Bool}(s:Int):hs (q.set k false) s ↔ hs q s/\s≠(k:Int):=by
 unfold hs
 rw [aS]
 constructor
 ·rintro ⟨h0,h⟩
  split at h
  ·split at h
   ·cases h
   ·cases h
  ·exact ⟨⟨h0,h⟩,by omega⟩
 ·rintro ⟨⟨h0,h⟩,h1⟩
  exact ⟨h0,by rw [if_neg (by omega)];exact h⟩
variable {V:List (List Bool)}
theorem zt4 {l:List Bool}(h:V[i]? = some l)(t s:Int):an2 (V.set i (l.set k false)) t s ↔ an2 V t s/\¬(t=(i:Int)/\s=(k:Int)):=by
 have hi:=(List.getElem?_eq_some_iff.1 h).1
 unfold an2
 by_cases e:i=t.toNat
 ·rw [<-e,aB hi,h]
  constructor
  ·rintro ⟨t0,q,q1,q2⟩
   injection q1 with q1
   subst q1
   obtain ⟨q3,q4⟩:=(zw4 s).1 q2
   exact ⟨⟨t0,l,rfl,q3⟩,fun q=>q4 q.2⟩
  ·rintro ⟨⟨t0,q,q1,q2⟩,q3⟩
   injection q1 with q1
   subst q1
   exact ⟨t0,_,rfl,(zw4 s).2 ⟨q2,fun e2=>q3 ⟨by omega,e2⟩⟩⟩
 ·rw [aH e]
  exact ⟨fun q=>⟨q,fun q2=>e (by omega)⟩,fun q=>q.1⟩
def tr2 (V:List (List Bool)):Nat:=(V.map (List.countP id)).sum
theorem zyd {q:List Bool}(hk:k<q.length)(h:q[k]=true):(q.set k false).countP id+1=q.countP id:=by
 induction q generalizing k with
 |nil=>simp at hk
 |cons b r ih =>
  cases k with
  |zero=>simp only [bH] at h;subst h;simp
  |succ k =>
   simp only [bI] at h
   have:=ih (by simpa using hk) h
   simp only [set_cons_succ,countP_cons]
   omega
theorem zwf (hi:i<V.length)(q:List Bool):tr2 (V.set i q)+V[i].countP id=tr2 V+q.countP id:=by
 unfold tr2
 induction V generalizing i with
 |nil=>simp at hi
 |cons v r ih =>
  cases i with
  |zero=>simp only [set_cons_zero,bE,bO,bH];omega
  |succ i =>
   have:=ih (by simpa using hi)
   simp only [set_cons_succ,bE,bO,bI]
   omega
theorem PsQ.mono {B C:Int->Int->Prop}(h:∀ t s,B t s->C t s){x:Ed}{s:Int}(q:PsQ a B x s):PsQ a C x s:=⟨q.1,q.2.1,fun hi=>⟨(q.2.2 hi).1,h _ _ (q.2.2 hi).2⟩⟩
theorem zo3 (n:Nat)(s:Int)(l:List Int)(hl:l.length<=1100000):∀ (m k:Nat),k<=l.length->l.length<m+k->Q0 n s l (some false) m (k:Int)=some (decide (s∈l.drop k))
 |0,k,h1,h2=>by omega
 |m+1,k,h1,h2=>by
  unfold Q0
  simp only [aE]
  rw [A3]
  by_cases hk:k<l.length
  ·rw [if_pos (by omega),Ad hk,A3,Ae k (by omega),zo3 n s l hl m (k+1) (by omega) (by omega),aC hk]
   by_cases e:l[k]=s
   ·rw [if_pos e];simp [e]
   ·rw [if_neg e]
    refine congrArg some ?_
    rw [decide_eq_decide,aZ]
    exact ⟨aL,fun h=>h.resolve_left (Ne.symm e)⟩
  ·rw [if_neg (by omega),aG (by omega)]
   simp
theorem Og (n:Nat)(hn:10000000<n)(l:List Int)(hl:l.length<=1100000)(s:Int):Fi n l s=some (decide (s∈l)):=by
 have:=zo3 n s l hl n 0 (by omega) (by omega)
 unfold Fi
 simpa using this
theorem zzz (n:Nat)(hn:10000000<n)(a:Aut)(S N:Nat)(x:Ed)(hxo:x.fOpens.length<=1100000)(hxc:x.fCloses.length<=1100000)(inner:List Bool)(hi:∀ t,hs inner t ↔ In56 a t)(hil:inner.length=N)(V:List (List Bool))(hV:V.length=N)(hVr:∀ (i:Nat) q,V[i]? = some q->q.length=S)(hf:0<=x.fFrom/\x.fFrom.toNat<N)(s:Nat)(hs':s<S):∃ b,Tc n x (s:Int) inner V=some b/\(b=true ↔ PsQ a (an2 V) x (s:Int)):=by
 have hfi:x.fFrom.toNat<inner.length:=by omega
 have hfv:x.fFrom.toNat<V.length:=by omega
 have hin:In56 a x.fFrom ↔ inner[x.fFrom.toNat]=true:=by
  rw [<-hi]
  unfold hs
  rw [aA hfi]
  simp [hf.1]
 have hrow:s<V[x.fFrom.toNat].length:=by rw [hVr _ _ (aA hfv)];exact hs'
 have han:an2 V x.fFrom (s:Int) ↔ V[x.fFrom.toNat][s]=true:=by
  unfold an2 hs
  rw [aA hfv]
  simp [hf.1,hrow]
 unfold Tc
 rw [Og n hn _ hxc,A0]
 simp only [Am,Aa]
 by_cases hc:(s:Int)∈x.fCloses
 ·rw [decide_eq_true hc,A8]
  exact ⟨false,rfl,fun e=>by (cases e),fun q=>absurd hc q.1⟩
 rw [decide_eq_false hc,A7]
 have key:∀ b,(b=true ↔ (x.fFrom=0/\¬(s:Int)∈x.fOpens))->∃ r,Jd n V inner (s:Int) x b=some r/\(r=true ↔ PsQ a (an2 V) x (s:Int)):=fun b hb=>by
  unfold Jd
  cases b with
  |true =>
   rw [A8]
   exact ⟨false,rfl,fun e=>by (cases e),fun q=>absurd (q.2.1 (hb.1 rfl).1) (hb.1 rfl).2⟩
  |false =>
   have hb0:x.fFrom=0->(s:Int)∈x.fOpens:=fun e0=>Classical.byContradiction (fun q=>by have:=hb.2 ⟨e0,q⟩;cases this)
   rw [A7]
   simp only [Am,Aa,Jc]
   rw [Cs hf.1 hfi]
   cases q:inner[x.fFrom.toNat] with
   |false =>
    simp only [aJ,A8]
    exact ⟨true,rfl,fun _=>⟨hc,hb0,fun h'=>by rw [hin.1 h'] at q;cases q⟩,fun _=>rfl⟩
   |true =>
    have h':=hin.2 q
    simp only [aN,A7]
    rw [Cs hf.1 hfv,Ad hrow]
    cases q2:V[x.fFrom.toNat][s] with
    |false =>
     rw [A7]
     exact ⟨false,rfl,fun e=>by (cases e),fun p=>by rw [han.1 (p.2.2 h').2] at q2;cases q2⟩
    |true =>
     rw [A8,Og n hn _ hxo,A0]
     refine ⟨_,rfl,fun e=>⟨hc,hb0,fun _=>⟨by simpa using e,han.2 q2⟩⟩,fun p=>by simpa using (p.2.2 h').1⟩
 rw [A3]
 split
 ·rename_i e0
  rw [Og n hn _ hxo,A0]
  exact key _ ⟨fun e=>⟨e0,by simpa using e⟩,fun e=>by simpa using e.2⟩
 ·rename_i e0
  exact key _ ⟨fun e=>by (cases e),fun e=>absurd e.1 e0⟩
structure RI (a:Aut) (S:Nat) (A:Ars (List Bool)):Prop where
 ab:AB a.fStates.length A
 rw:∀ (i:Nat) q,(aval A)[i]? = some q->q.length=S
 r:∀ t s,an2 (aval A) t s->In56 a t
 g:∀ t s,An56 a t s->an2 (aval A) t s
theorem RI.clr {S:Nat}{A A':Ars (List Bool)}(h:RI a S A)(hA:AB a.fStates.length A'){x:Ed}(hx:x∈a.fEdges)(x0:0<=x.fTo)(x1:Rr a x.fFrom)(x2:In56 a x.fTo){s:Nat}{l:List Bool}(hl:(aval A)[x.fTo.toNat]? = some l)(e:aval A'=(aval A).set x.fTo.toNat (l.set s false))(hn:¬PsQ a (an2 (aval A)) x (s:Int)):RI a S A':=by
 refine ⟨hA,fun i q hq=>?_,fun t u hq=>?_,fun t u hq=>?_⟩
 ·rw [e,aS] at hq
  split at hq
  ·split at hq
   ·injection hq with hq
    rw [<-hq,aP]
    exact h.rw _ _ hl
   ·cases hq
  ·exact h.rw _ _ hq
 ·rw [e] at hq
  exact h.r t u ((zt4 hl t u).1 hq).1
 ·rw [e]
  refine (zt4 hl t u).2 ⟨h.g t u hq,fun ⟨q1,q2⟩=>hn ?_⟩
  have et:t=x.fTo:=by omega
  rw [et,q2] at hq
  exact ((An56.ok a).2 x hx x0 x1 x2 _ hq).mono h.g
theorem z9t (n:Nat)(hn:10000000<n)(a:Aut)(h:AutR a)(S:Nat)(hS:a.fScopes=(S:Int))(reach inner:List Bool)(hil:inner.length=a.fStates.length)(hi:∀ t,hs inner t ↔ In56 a t)(x:Ed)(hx:x∈a.fEdges)(x0:0<=x.fTo)(x1:Rr a x.fFrom)(x2:In56 a x.fTo)(g:Bool×Int×Ars (List Bool))(K:Bool->Ars (List Bool)->Option (List (List Bool))):∀ (m k:Nat) (ch:Bool) (A:Ars (List Bool)),k<=S->S<m+k->RI a S A->∃ ch' A',H6 n inner reach a a.fStates.length g x K m (ch,(k:Int),A)=K ch' A'/\RI a S A'/\tr2 (aval A')<=tr2 (aval A)/\(ch'=true->ch=true\/tr2 (aval A')<tr2 (aval A))/\(ch=true->ch'=true)/\(ch'=true\/(A'=A/\∀ s:Nat,k<=s->s<S->an2 (aval A) x.fTo (s:Int)->PsQ a (an2 (aval A)) x (s:Int)))
 |0,k,ch,A,h1,h2,h3=>by omega
 |m+1,k,ch,A,h1,h2,h3=>by
  have hsc:=h.sc
  have hed:=h.ed x hx
  have hlo:=h.lo x hx
  have htN:x.fTo.toNat<a.fStates.length:=by omega
  unfold H6
  simp only [hS,Aa]
  rw [A3]
  by_cases hk:k<S
  ·obtain ⟨j,l,j1,j2,j3⟩:=h3.ab.at htN
   have hl:=h3.rw _ _ j3
   have hkl:k<l.length:=by omega
   have hlk:l[k]? = some l[k]:=aA hkl
   rw [if_pos (by omega),Rt x0 htN,zm6 j1,zm7 j2 hkl,zxo j2 hlk,Ae k (by omega),h3.ab.alq]
   have next:(an2 (aval A) x.fTo (k:Int)->PsQ a (an2 (aval A)) x (k:Int))->∃ ch' A',H6 n inner reach a a.fStates.length g x K m (ch,((k+1:Nat):Int),A)=K ch' A'/\RI a S A'/\tr2 (aval A')<=tr2 (aval A)/\(ch'=true->ch=true\/tr2 (aval A')<tr2 (aval A))/\(ch=true->ch'=true)/\(ch'=true\/(A'=A/\∀ s:Nat,k<=s->s<S->an2 (aval A) x.fTo (s:Int)->PsQ a (an2 (aval A)) x (s:Int))):=fun hP=>by
    obtain ⟨ch',A',e1,e2,e3,e4,e5,e6⟩:=z9t n hn a h S hS reach inner hil hi x hx x0 x1 x2 g K m (k+1) ch A (by omega) (by omega) h3
    refine ⟨ch',A',e1,e2,e3,e4,e5,e6.imp id (fun q=>⟨q.1,fun s s1 s2=>?_⟩)⟩
    by_cases e:s=k
    ·rw [e];exact hP
    ·exact q.2 s (by omega) s2
   have han:an2 (aval A) x.fTo (k:Int) ↔ l[k]=true:=by
    unfold an2 hs
    rw [j3]
    simp [x0,hkl]
   cases q:l[k] with
   |false =>
    rw [A7]
    exact next (fun p=>by rw [han.1 p] at q;cases q)
   |true =>
    rw [A8]
    obtain ⟨b,b1,b2⟩:=zzz n hn a S a.fStates.length x hlo.1 hlo.2.1 inner hi hil (aval A) h3.ab.len h3.rw (by omega) k hk
    rw [b1,A0]
    cases b with
    |true =>
     simp only [aN,A7]
     exact next (fun _=>b2.1 rfl)
    |false =>
     simp only [aJ,A8]
     rw [Rt x0 htN,zm6 j1,zm7 j2 hkl,zrz j2 hkl]
     obtain ⟨s1,s2⟩:=h3.ab.set j1 (List.getElem?_eq_some_iff.1 j2).1 (l.set k false)
     have hv:=(List.getElem?_eq_some_iff.1 j3).1
     have hve:(aval A)[x.fTo.toNat]=l:=by rw [aA hv] at j3;injection j3
     have ht:=zwf hv (l.set k false)
     have hc:=zyd hkl q
     rw [hve] at ht
     obtain ⟨ch',A',e1,e2,e3,e4,e5,e6⟩:=z9t n hn a h S hS reach inner hil hi x hx x0 x1 x2 g K m (k+1) true (A.1,A.2.set j (l.set k false)) (by omega) (by omega) (h3.clr s1 hx x0 x1 x2 j3 s2 (fun p=>by have:=b2.2 p;cases this))
     rw [s2] at e3
     exact ⟨ch',A',e1,e2,by omega,fun _=>aL (by omega),fun _=>e5 rfl,aM (e5 rfl)⟩
  ·rw [if_neg (by omega)]
   exact ⟨ch,A,rfl,h3,bD _,aM,id,aL ⟨rfl,fun s s1 s2=>by omega⟩⟩
def FxR (a:Aut)(V:List (List Bool))(x:Ed):Prop:=0<=x.fTo->Rr a x.fFrom->In56 a x.fTo->∀ s,an2 V x.fTo s->PsQ a (an2 V) x s
theorem z9u (n:Nat)(hn:10000000<n)(a:Aut)(h:AutR a)(S:Nat)(hS:a.fScopes=(S:Int))(reach inner:List Bool)(hrl:reach.length=a.fStates.length)(hr:∀ t,hs reach t ↔ Rr a t)(hil:inner.length=a.fStates.length)(hi:∀ t,hs inner t ↔ In56 a t)(K:Bool->Ars (List Bool)->Option (List (List Bool))):∀ (m k:Nat) (ch:Bool) (A:Ars (List Bool)),k<=a.fEdges.length->a.fEdges.length<m+k->RI a S A->∃ ch' A',Em n inner reach a a.fStates.length K m (ch,(k:Int),A)=K ch' A'/\RI a S A'/\tr2 (aval A')<=tr2 (aval A)/\(ch'=true->ch=true\/tr2 (aval A')<tr2 (aval A))/\(ch=true->ch'=true)/\(ch'=true\/(A'=A/\∀ x∈a.fEdges.drop k,FxR a (aval A) x))
 |0,k,ch,A,h1,h2,h3=>by omega
 |m+1,k,ch,A,h1,h2,h3=>by
  have hle:=h.le
  have hsc:=h.sc
  unfold Em
  simp only [aE,Am,Aa]
  rw [A3]
  by_cases hk:k<a.fEdges.length
  ·have hx:=h.ed _ (aK hk)
   have hfr:a.fEdges[k].fFrom.toNat<reach.length:=by omega
   have hre:Rr a a.fEdges[k].fFrom ↔ reach[a.fEdges[k].fFrom.toNat]=true:=by
    rw [<-hr]
    unfold hs
    rw [aA hfr]
    simp [hx.1]
   rw [if_pos (by omega),Ad hk,aC hk,Cs hx.1 hfr]
   have next:FxR a (aval A) a.fEdges[k]->∃ ch' A',Em n inner reach a a.fStates.length K m (ch,((k+1:Nat):Int),A)=K ch' A'/\RI a S A'/\tr2 (aval A')<=tr2 (aval A)/\(ch'=true->ch=true\/tr2 (aval A')<tr2 (aval A))/\(ch=true->ch'=true)/\(ch'=true\/(A'=A/\∀ x∈a.fEdges[k]::a.fEdges.drop (k+1),FxR a (aval A) x)):=fun hP=>by
    obtain ⟨ch',A',e1,e2,e3,e4,e5,e6⟩:=z9u n hn a h S hS reach inner hrl hr hil hi K m (k+1) ch A (by omega) (by omega) h3
    refine ⟨ch',A',e1,e2,e3,e4,e5,e6.imp id (fun q=>⟨q.1,fun x hx=>?_⟩)⟩
    rcases aZ.1 hx with e|e
    ·rw [e];exact hP
    ·exact q.2 x e
   have skip:FxR a (aval A) a.fEdges[k]->∃ ch' A',Fz n inner reach a a.fStates.length (ch,(k:Int),A) (Em n inner reach a a.fStates.length K m) a.fEdges[k] true=K ch' A'/\RI a S A'/\tr2 (aval A')<=tr2 (aval A)/\(ch'=true->ch=true\/tr2 (aval A')<tr2 (aval A))/\(ch=true->ch'=true)/\(ch'=true\/(A'=A/\∀ x∈a.fEdges[k]::a.fEdges.drop (k+1),FxR a (aval A) x)):=fun hP=>by
    unfold Fz
    simp only [Ae k (by omega:k<=1000000000000)]
    rw [A8]
    exact next hP
   cases q:reach[a.fEdges[k].fFrom.toNat] with
   |false=>simp only [aJ,A8];exact skip (fun _ p=>by rw [hre.1 p] at q;cases q)
   |true =>
    simp only [aN,A7]
    rw [A3]
    by_cases q0:a.fEdges[k].fTo<0
    ·rw [if_pos q0];exact skip (fun p=>by omega)
    have hti:a.fEdges[k].fTo.toNat<inner.length:=by omega
    have hin:In56 a a.fEdges[k].fTo ↔ inner[a.fEdges[k].fTo.toNat]=true:=by
     rw [<-hi]
     unfold hs
     rw [aA hti]
     simp
     omega
    rw [if_neg q0,Cs (by omega) hti]
    cases q2:inner[a.fEdges[k].fTo.toNat] with
    |false=>simp only [aJ];exact skip (fun _ _ p=>by rw [hin.1 p] at q2;cases q2)
    |true =>
     simp only [aN]
     unfold Fz
     simp only [Ae k (by omega:k<=1000000000000)]
     rw [A7]
     obtain ⟨c1,A1,e1,e2,e3,e4,e5,e6⟩:=z9t n hn a h S hS reach inner hil hi a.fEdges[k] (aK hk) (by omega) (hre.2 q) (hin.2 q2) (ch,(k:Int),A) (fun d e=>Em n inner reach a a.fStates.length K m (d,((k+1:Nat):Int),e)) n 0 ch A (by omega) (by omega) h3
     simp only [aD] at e1
     rw [e1]
     obtain ⟨c2,A2,f1,f2,f3,f4,f5,f6⟩:=z9u n hn a h S hS reach inner hrl hr hil hi K m (k+1) c1 A1 (by omega) (by omega) e2
     refine ⟨c2,A2,f1,f2,by omega,fun p=>?_,fun p=>f5 (e5 p),?_⟩
     ·rcases f4 p with p|p
      ·rcases e4 p with p|p
       ·exact aM p
       ·exact aL (by omega)
      ·exact aL (by omega)
     ·rcases f6 with p|⟨p,p2⟩
      ·exact aM p
      ·rcases e6 with r|⟨r,r2⟩
       ·exact aM (f5 r)
       ·subst r
        refine aL ⟨p,fun x hx=>?_⟩
        rcases aZ.1 hx with e|e
        ·rw [e]
         intro _ _ _ s hs
         obtain ⟨_,row,w1,w2⟩:=hs
         have w3:=h3.rw _ _ w1
         have w4:=(List.getElem?_eq_some_iff.1 w2.2).1
         have:=r2 s.toNat (by omega) (by omega)
         rw [aV w2.1] at this
         exact this ⟨by omega,row,w1,w2⟩
        ·exact p2 x e
  ·rw [if_neg (by omega),aG (by omega)]
   exact ⟨ch,A,rfl,h3,bD _,aM,id,aL ⟨rfl,by simp⟩⟩
theorem zel (n:Nat)(hn:10000000<n)(a:Aut)(h:AutR a)(S:Nat)(hS:a.fScopes=(S:Int))(reach inner:List Bool)(hrl:reach.length=a.fStates.length)(hr:∀ t,hs reach t ↔ Rr a t)(hil:inner.length=a.fStates.length)(hi:∀ t,hs inner t ↔ In56 a t)(K:Ars (List Bool)->Option (List (List Bool))):∀ (m:Nat) (ch:Bool) (A:Ars (List Bool)),(tr2 (aval A)+1<m\/(ch=false/\tr2 (aval A)<m))->RI a S A->(ch=false->∀ x∈a.fEdges,FxR a (aval A) x)->∃ A',Iw n inner reach a a.fStates.length K m (ch,A)=K A'/\RI a S A'/\∀ x∈a.fEdges,FxR a (aval A') x
 |0,ch,A,h1,h2,h3=>by omega
 |m+1,ch,A,h1,h2,h3=>by
  unfold Iw
  simp only
  cases ch with
  |false=>rw [A7];exact ⟨A,rfl,h2,h3 rfl⟩
  |true =>
   rw [A8]
   have hle:=h.le
   obtain ⟨c1,A1,e1,e2,e3,e4,e5,e6⟩:=z9u n hn a h S hS reach inner hrl hr hil hi (fun e f=>Iw n inner reach a a.fStates.length K m (e,f)) n 0 false A (by omega) (by omega) h2
   simp only [aD] at e1
   rw [e1]
   have h1':tr2 (aval A)+1<m+1:=by
    rcases h1 with h|h
    ·exact h
    ·exact absurd h.1 (by simp)
   refine zel n hn a h S hS reach inner hrl hr hil hi K m c1 A1 ?_ e2 (fun eb=>?_)
   ·cases c1 with
    |false=>exact aL ⟨rfl,by omega⟩
    |true=>have:=(e4 rfl).resolve_left (by simp);exact aM (by omega)
   ·rcases e6 with e|⟨e,e7⟩
    ·rw [eb] at e;cases e
    ·rw [e];rw [aX] at e7;exact e7
def fil (b:Bool):Nat->Nat->List Bool->List Bool
 |0,_,q=>q
 |d+1,k,q=>fil b d (k+1) (q.set k b)
theorem zsk (b:Bool):∀ (d k:Nat) (q:List Bool) (i:Nat),k+d<=q.length->(fil b d k q)[i]? = if k<=i/\i<k+d then some b else q[i]?
 |0,k,q,i,h=>by rw [if_neg (by omega)];rfl
 |d+1,k,q,i,h=>by
  unfold fil
  rw [zsk b d (k+1) (q.set k b) i (by rw [aP];omega),aS]
  by_cases e:k=i
  ·subst e
   rw [if_neg (by omega),if_pos rfl,if_pos (by omega),if_pos (by omega)]
  ·rw [if_neg e]
   by_cases e2:k+1<=i/\i<k+1+d
   ·rw [if_pos e2,if_pos (by omega)]
   ·rw [if_neg e2,if_neg (by omega)]
theorem zy6 (b:Bool)(S:Nat):fil b S 0 (aO S false)=aO S b:=by
 apply bG
 intro i
 rw [zsk b S 0 _ i (by simp),aQ,aQ]
 by_cases e:i<S
 ·rw [if_pos (by omega),if_pos e]
 ·rw [if_neg (by omega),if_neg e,if_neg e]
theorem zek (n:Nat)(a:Aut)(S:Nat)(hS:a.fScopes=(S:Int))(hS2:S<=64)(reach inner:List Bool)(N i:Nat)(hi:i<N)(hil:inner.length=N)(B:Ars (List Bool))(K:Ars (List Bool)->Option (List (List Bool))):∀ (m k:Nat) (A:Ars (List Bool)) (q:List Bool),k<=S->S<m+k->AB N A->(aval A)[i]? = some q->q.length=S->∃ A',Oq n inner reach a (N,(i:Int),B) K m ((k:Int),A)=K A'/\AB N A'/\aval A'=(aval A).set i (fil (inner.getD i false) (S-k) k q)
 |0,k,A,q,h1,h2,h3,h4,h5=>by omega
 |m+1,k,A,q,h1,h2,h3,h4,h5=>by
  unfold Oq
  simp only [hS]
  rw [A3]
  by_cases hk:k<S
  ·obtain ⟨j,l,j1,j2,j3⟩:=h3.at hi
   rw [h4] at j3
   injection j3 with j3
   subst j3
   have hii:i<inner.length:=by omega
   rw [if_pos (by omega),Rt (by omega) (by rw [aF];exact hi),aF,zm6 j1,Ad hii,zm7 j2 (by omega),zrz j2 (by omega),Ae k (by omega)]
   obtain ⟨s1,s2⟩:=h3.set j1 (List.getElem?_eq_some_iff.1 j2).1 (q.set k inner[i])
   have hv:=(List.getElem?_eq_some_iff.1 h4).1
   obtain ⟨A',e1,e2,e3⟩:=zek n a S hS hS2 reach inner N i hi hil B K m (k+1) _ (q.set k inner[i]) (by omega) (by omega) s1 (by rw [s2];exact aB hv) (by rw [aP];exact h5)
   refine ⟨A',e1,e2,?_⟩
   rw [e3,s2,set_set,show S-k=(S-(k+1))+1 from by omega]
   have ef:∀ b d,fil b (d+1) k q=fil b d (k+1) (q.set k b):=fun _ _=>rfl
   rw [ef,aT,aA hii]
   rfl
  ·rw [if_neg (by omega),show S-k=0 from by omega]
   refine ⟨A,rfl,h3,?_⟩
   have hv:=(List.getElem?_eq_some_iff.1 h4).1
   rw [aA hv] at h4
   injection h4 with h4
   unfold fil
   rw [<-h4,List.set_getElem_self]
theorem zem (n:Nat)(hn:10000000<n)(a:Aut)(h:AutR a)(S:Nat)(hS:a.fScopes=(S:Int))(reach inner:List Bool)(hil:inner.length=a.fStates.length)(K:Nat->Ars (List Bool)->Option (List (List Bool))):∀ (m k:Nat) (A:Ars (List Bool)),k<=a.fStates.length->a.fStates.length<m+k->AB a.fStates.length A->(∀ i<k,(aval A)[i]? = some (aO S (inner.getD i false)))->∃ A',L0 n inner reach a K m (a.fStates.length,(k:Int),A)=K a.fStates.length A'/\AB a.fStates.length A'/\∀ i<a.fStates.length,(aval A')[i]? = some (aO S (inner.getD i false))
 |0,k,A,h1,h2,h3,h4=>by omega
 |m+1,k,A,h1,h2,h3,h4=>by
  have hst:=h.st
  have hsc:=h.sc
  unfold L0
  simp only [hS]
  rw [A3]
  by_cases hk:k<a.fStates.length
  ·rw [if_pos (by omega),Cg (by omega) (by decide),Rt (by omega) (by rw [aF];exact hk),aF]
   have hast:∀ c:Ars (List Bool)->Option (List (List Bool)),ast A k (aO S false) c=c (A.1.set k (some A.2.length),A.2++[aO S false]):=fun c=>by
    unfold ast
    rw [if_pos (by rw [h3.l];exact hk)]
   obtain ⟨p1,p2,p3⟩:=h3.put hk (aO S false)
   have hv:k<(aval A).length:=by rw [h3.len];exact hk
   obtain ⟨A1,e1,e2,e3⟩:=zek n a S hS (by omega) reach inner a.fStates.length k hk hil A (fun d=>L0 n inner reach a K m (a.fStates.length,((k+1:Nat):Int),d)) n 0 _ (aO S false) (by omega) (by omega) p1 (by rw [p2];exact aB hv) (by simp)
   simp only [aD,Nat.sub_zero] at e1 e3
   rw [hast,Ae k (by omega),e1]
   refine zem n hn a h S hS reach inner hil K m (k+1) A1 (by omega) (by omega) e2 (fun i hi=>?_)
   rw [e3,p2,set_set,zy6]
   by_cases e:k=i
   ·subst e;exact aB hv
   ·rw [aH e];exact h4 i (by omega)
  ·rw [if_neg (by omega)]
   exact ⟨A,rfl,h3,fun i hi=>h4 i (by omega)⟩
theorem zxr (n:Nat)(hn:20000000<n)(a:Aut)(h:AutR a)(reach inner:List Bool)(hrl:reach.length=a.fStates.length)(hr:∀ t,hs reach t ↔ Rr a t)(hil:inner.length=a.fStates.length)(hi:∀ t,hs inner t ↔ In56 a t):∃ V,Sn n a reach inner=some V/\V.length=a.fStates.length/\(∀ (i:Nat) q,V[i]? = some q->(q.length:Int)=a.fScopes)/\∀ t s,an2 V t s ↔ An56 a t s:=by
 have hst:=h.st
 have hsc:=h.sc
 obtain ⟨S,hS⟩:∃ S:Nat,a.fScopes=(S:Int):=⟨a.fScopes.toNat,by omega⟩
 have h0:AB a.fStates.length (mkR Bool a.fStates.length):=by
  unfold mkR
  refine ⟨by simp,fun i hi=>⟨i,by simp [hi],by simpa using hi⟩,fun i i' j e e'=>?_⟩
  simp only [bB] at e e'
  have g:∀ k:Nat,Option.map some (range a.fStates.length)[k]? = some (some j)->k=j:=fun k e=>by
   by_cases hk:k<a.fStates.length
   ·rw [getElem?_range hk] at e
    injection e with e
    injection e
   ·rw [bA (by simp;omega)] at e
    cases e
  rw [g i e,g i' e']
 obtain ⟨A1,e1,e2,e3⟩:=zem n (by omega) a h S hS reach inner hil (fun c d=>Iw n inner reach a c (fun b=>Proofs.YthbogefcfhmpgaaGreat.frq 17 b <| reg <| some (aval b)) n (true,d)) n 0 (mkR Bool a.fStates.length) (by omega) (by omega) h0 (fun i hi=>by omega)
 have hcell:∀ (t s:Int),an2 (aval A1) t s ↔ In56 a t/\0<=s/\s<a.fScopes:=fun t s=>by
  constructor
  ·rintro ⟨t0,q,q1,q2⟩
   have hl:=(List.getElem?_eq_some_iff.1 q1).1
   rw [e2.len] at hl
   rw [e3 _ hl] at q1
   injection q1 with q1
   subst q1
   have q3:=q2.2
   rw [aQ] at q3
   split at q3
   ·injection q3 with q3
    refine ⟨(hi t).1 ⟨t0,?_⟩,q2.1,by omega⟩
    rw [aT] at q3
    cases e:inner[t.toNat]? with
    |none=>rw [e] at q3;cases q3
    |some b=>rw [e] at q3;rw [Option.getD_some] at q3;rw [q3]
   ·cases q3
  ·rintro ⟨q1,q2,q3⟩
   have hl:=q1.rg h.toEdR
   refine ⟨hl.1,_,e3 _ hl.2,q2,?_⟩
   rw [aQ,if_pos (by omega),aT,((hi t).2 q1).2]
   rfl
 have hRI:RI a S A1:=⟨e2,fun i q hq=>by
  have hl:=(List.getElem?_eq_some_iff.1 hq).1
  rw [e2.len] at hl
  rw [e3 i hl] at hq
  injection hq with hq
  rw [<-hq,bJ],fun t s q=>((hcell t s).1 q).1,fun t s q=>(hcell t s).2 ((An56.ok a).1 t s q)⟩
 have htr:tr2 (aval A1)<=64*256:=by
  have g:∀ V:List (List Bool),(∀ q∈V,q.length<=64)->tr2 V<=64*V.length:=fun V=>by
   unfold tr2
   induction V with
   |nil=>simp
   |cons q r ih =>
    intro hq
    have:=ih (fun M hM=>hq M (bC _ hM))
    have h1:=hq q (by simp)
    have h2:=countP_le_length (p:=id) (l:=q)
    simp only [bE,bO,length_cons]
    omega
  have:=g (aval A1) (fun q hq=>by
   obtain ⟨i,hi',e⟩:=aU.1 hq
   have:=hRI.rw i q (by rw [aA hi',e])
   omega)
  rw [e2.len] at this
  omega
 obtain ⟨A2,f1,f2,f3⟩:=zel n (by omega) a h S hS reach inner hrl hr hil hi (fun b=>Proofs.YthbogefcfhmpgaaGreat.frq 17 b <| reg <| some (aval b)) n true A1 (aM (by omega)) hRI (fun e=>by cases e)
 simp only [aD] at e1
 refine ⟨aval A2,?_,f2.ab.len,fun i q hq=>by rw [f2.rw i q hq,hS],fun t s=>⟨fun q=>?_,f2.g t s⟩⟩
 ·unfold Sn
  simp only [aE,Aa]
  have hmk:∀ c:Nat->Option (List (List Bool)),mkn (a.fStates.length:Int) 24 c=c a.fStates.length:=fun c=>by
   unfold mkn
   rw [if_pos ⟨by omega,by omega,by omega⟩,aF]
  have harq:∀ x:Option (List (List Bool)),arq 17 x=x:=fun x=>by unfold arq;rfl
  simp only [Aa] at e1 f1
  rw [hmk,harq,e1,f1,f2.ab.frq]
 ·refine ⟨an2 (aval A2),⟨fun t s q=>⟨f2.r t s q,?_⟩,fun x hx x0 x1 x2 s q=>f3 x hx x0 x1 x2 s q⟩,q⟩
  obtain ⟨t0,w,w1,w2⟩:=q
  have:=f2.rw _ _ w1
  have:=(List.getElem?_eq_some_iff.1 w2.2).1
  exact ⟨w2.1,by have:=w2.1;omega⟩
theorem zzy (n:Nat)(x:Ed)(ho:x.fOpens.length<=1100000)(hl:x.fLimits.length<=1100000)(hn:10000000<n)(s:Int):limP n x s=if s∈x.fOpens then (0,false) else match x.fLimits.find? (fun l=>decide (l.fScope=s)) with|some l=>(l.fSpan,true)|none=>(0,false):=by
 have hx:=zbq n s x.fLimits (by omega) n 0 (by omega) (by omega)
 simp only [aD,aX,Rn] at hx
 have hany:(x.fOpens.any fun y=>decide (s=y))=decide (s∈x.fOpens):=by
  rw [Bool.eq_iff_iff]
  simp
 unfold limP Kj Sv
 rw [hx,A0]
 simp only [Am,Aa,Kd,A3,Ey n s x.fOpens (by omega) (by omega),A0,hany]
 unfold fidx
 cases e2:x.fLimits.findIdx? (fun y=>decide (y.fScope=s)) with
 |none =>
  have hf:x.fLimits.find? (fun l=>decide (l.fScope=s))=none:=find?_eq_none.2 (fun y hy=>by
   have:=List.findIdx?_eq_none_iff.1 e2 y hy
   simpa using this)
  simp only
  rw [if_pos (by decide),A8,hf]
  by_cases q:s∈x.fOpens
  ·rw [if_pos q];rfl
  ·rw [if_neg q];rfl
 |some j =>
  obtain ⟨j1,j2,j3⟩:=findIdx?_eq_some_iff_getElem.1 e2
  have hf:x.fLimits.find? (fun l=>decide (l.fScope=s))=some x.fLimits[j]:=List.find?_eq_some_iff_getElem.2 ⟨j2,j,j1,rfl,fun i hi=>by
   have:=j3 i hi
   simpa using this⟩
  simp only
  rw [if_neg (by omega),hf]
  by_cases q:s∈x.fOpens
  ·simp only [if_pos q]
   rfl
  ·simp only [if_neg q]
   rw [Ad j1]
   rfl
def spP (n:Nat)(x:Ed)(s:Int):Int:=if (limP n x s).2=true then (limP n x s).1 else -1
theorem zj1 (n:Nat)(x:Ed)(s:Int)(hl:x.fLimits.length<=1100000):∀ (m k:Nat),k<=x.fLimits.length->x.fLimits.length<m+k->Pr n s x (some (-1)) m (k:Int)=some (match (x.fLimits.drop k).find? (fun l=>decide (l.fScope=s)) with|some l=>l.fSpan|none=>-1)
 |0,k,h1,h2=>by omega
 |m+1,k,h1,h2=>by
  unfold Pr
  simp only [aE]
  rw [A3]
  by_cases hk:k<x.fLimits.length
  ·rw [if_pos (by omega),Ad hk,Ad hk,A3,Ae k (by omega),zj1 n x s hl m (k+1) (by omega) (by omega),aC hk,find?_cons]
   by_cases e:x.fLimits[k].fScope=s
   ·rw [if_pos e,decide_eq_true e]
   ·rw [if_neg e,decide_eq_false e]
  ·rw [if_neg (by omega),aG (by omega)]
   rfl
theorem zzw (n:Nat)(hn:10000000<n)(x:Ed)(ho:x.fOpens.length<=1100000)(hl:x.fLimits.length<=1100000)(s:Int):Tb n x s=some (spP n x s):=by
 have h1:=zj1 n x s hl n 0 (by omega) (by omega)
 simp only [aD,aX] at h1
 unfold Tb spP
 rw [Og n hn _ ho,A0,zzy n x ho hl hn s]
 by_cases q:s∈x.fOpens
 ·rw [if_pos q,decide_eq_true q,A8];rfl
 ·rw [if_neg q,decide_eq_false q,A7,h1]
  cases x.fLimits.find? (fun l=>decide (l.fScope=s))<;>rfl
def msR (n:Nat)(s:Int):List Ed->Int->Int
 |[],z=>z
 |x::r,z=>if z<0 then z else msR n s r (if spP n x s<0 then -1 else max z (spP n x s))
theorem zxg (n:Nat)(s:Int):∀ (l:List Ed) (z:Int),z<0->msR n s l z=z
 |[],z,_=>rfl
 |x::r,z,h=>by unfold msR;rw [if_pos h]
theorem zzv (n:Nat)(s:Int):∀ (l:List Ed) (z:Int),(l.foldl (lmS n s) (z,false)).2=false
 |[],z=>rfl
 |x::r,z=>by
  rw [aR]
  unfold lmS
  simp only [Bool.false_and]
  exact zzv n s r _
theorem zvz (n:Nat)(hn:10000000<n)(s:Int):∀ (l:List Ed),(∀ x∈l,LimR x)->∀ z:Int,0<=z->msR n s l z=if (l.foldl (lmS n s) (z,true)).2=true then (l.foldl (lmS n s) (z,true)).1 else -1
 |[],_,z,_=>by unfold msR;simp
 |x::r,h,z,hz=>by
  have hl:=(h x (by simp)).lim n hn s
  unfold msR
  rw [if_neg (by omega),aR]
  unfold lmS spP
  simp only [Bool.true_and]
  cases q:(limP n x s).2 with
  |true =>
   simp only [if_true]
   rw [if_neg (by omega)]
   exact zvz n hn s r (fun y hy=>h y (bC _ hy)) _ (by omega)
  |false =>
   simp only [aY,if_false]
   rw [if_pos (by omega),zxg n s r (-1) (by omega),if_neg]
   have:=zzv n s r (max z (limP n x s).1)
   unfold lmS at this
   rw [this]
   simp
theorem zfo (n:Nat)(hn:10000000<n)(row:List Bool)(a:Aut)(l:List Ed)(hl:l.length<=1100000)(h:∀ x∈l,LimR x)(b s:Int)(K:Int->Option Int):∀ (m k:Nat) (z:Int),k<=l.length->l.length<m+k->Jn n row a (l,b,s) K m (z,(k:Int))=K (msR n s (l.drop k) z)
 |0,k,z,h1,h2=>by omega
 |m+1,k,z,h1,h2=>by
  unfold Jn
  simp only [Am,Aa,aE,Md]
  rw [A3]
  by_cases hk:k<l.length
  ·have hx:=h _ (aK hk)
   rw [if_pos (by omega),aC hk]
   unfold msR
   rw [A3]
   by_cases q:0<=z
   ·rw [if_pos q,if_neg (by omega),Ad hk,zzw n hn _ hx.o hx.l,A0,A3,Ae k (by omega)]
    by_cases q2:spP n l[k] s<0
    ·rw [if_pos q2,if_pos q2]
     exact zfo n hn row a l hl h b s K m (k+1) _ (by omega) (by omega)
    ·rw [if_neg q2,if_neg q2]
     exact zfo n hn row a l hl h b s K m (k+1) _ (by omega) (by omega)
   ·rw [if_neg q,if_pos (by omega)]
  ·rw [if_neg (by omega),A7,aG (by omega)]
   rfl
def scl:Nat->List Bool->Mp
 |_,[]=>[]
 |k,b::r=>(if b=true then [((k:Int),true)] else [])++scl (k+1) r
theorem Ye:∀ (k:Nat) (r:List Bool) (v:Int),has (scl k r) v ↔ (k:Int)<=v/\r[(v-k).toNat]? = some true
 |k,[],v=>by unfold scl;simp [has]
 |k,b::r,v=>by
  have ih:=Ye (k+1) r v
  have e:has (scl k (b::r)) v ↔ (b=true/\v=(k:Int))\/has (scl (k+1) r) v:=by
   show has ((if b=true then [((k:Int),true)] else [])++scl (k+1) r) v ↔ _
   unfold has
   cases b<;>simp
  rw [e,ih]
  by_cases ev:v=(k:Int)
  ·subst ev
   rw [Int.sub_self]
   simp
   omega
  ·constructor
   ·rintro (⟨_,q⟩|⟨q1,q2⟩)
    ·exact absurd q ev
    ·refine ⟨by omega,?_⟩
     rw [show (v-(k:Int)).toNat=(v-((k+1:Nat):Int)).toNat+1 from by omega,List.getElem?_cons_succ]
     exact q2
   ·rintro ⟨q1,q2⟩
    refine aL ⟨by omega,?_⟩
    rw [show (v-(k:Int)).toNat=(v-((k+1:Nat):Int)).toNat+1 from by omega,List.getElem?_cons_succ] at q2
    exact q2
theorem zq9:∀ (k:Nat) (r:List Bool),MK (scl k r)
 |k,[]=>MK.nil
 |k,b::r=>by
  have ih:=zq9 (k+1) r
  unfold scl
  cases b with
  |false=>simpa using ih
  |true =>
   rw [if_pos rfl,bK]
   refine ⟨?_,fun p hp=>(aZ.1 hp).elim (fun e=>by rw [e]) (ih.tr p)⟩
   rw [bE]
   refine nodup_cons.2 ⟨fun q=>?_,ih.nd⟩
   have:=(Ye (k+1) r (k:Int)).1 q
   omega
theorem MK.same {A B:Mp}(h:MK A)(h':MK B)(e:∀ v,has A v ↔ has B v):A.Perm B:=by
 have s:=h.sort
 have s':=h'.sort
 have:=zq7 s.2.1 s'.2.1 s.1.tr s'.1.tr (fun v=>by rw [s.2.2.2,s'.2.2.2,e])
 exact (Nq h.nd).symm.trans (this▸Nq h'.nd)
theorem y0k (n:Nat)(l:List Ed):∀ (M:Mp) (z:Int×Bool),(z.2=false->z.1=0)->((M.foldl (agS n l) z).2=false->(M.foldl (agS n l) z).1=0)
 |[],z,h=>h
 |p::r,z,h=>by
  rw [aR]
  refine y0k n l r _ (fun q=>?_)
  unfold agS at q ⊢
  split
  ·rename_i c;rw [if_pos c] at q;cases q
  ·rename_i c;rw [if_neg c] at q;exact h q
theorem y0l (n:Nat)(hn:10000000<n)(l:List Ed)(h:∀ x∈l,LimR x)(M:Mp):0<=(M.foldl (agS n l) (0,false)).1/\(M.foldl (agS n l) (0,false)).1<=mxT:=(zwa n hn l h M (0,false) ⟨by decide,by decide⟩).1
def enZ (z:Int×Bool):Int:=if z.2=true then z.1 else -1
theorem V1 (n:Nat)(hn:10000000<n)(row:List Bool)(a:Aut)(hS:a.fScopes=(row.length:Int))(hS2:row.length<=64)(l:List Ed)(hl:l.length<=1100000)(h:∀ x∈l,LimR x):∀ (m k:Nat) (z:Int×Bool),k<=row.length->row.length<m+k->(z.2=true->0<=z.1)->Ds n row a (fun b=>some b) m (l,enZ z,(k:Int))=some (enZ ((scl k (row.drop k)).foldl (agS n l) z))
 |0,k,z,h1,h2,h3=>by omega
 |m+1,k,z,h1,h2,h3=>by
  unfold Ds
  simp only [hS]
  rw [A3]
  by_cases hk:k<row.length
  ·rw [if_pos (by omega),Ad hk,Ae k (by omega),aC hk]
   unfold scl
   cases q:row[k] with
   |false =>
    simp only [aJ,A8,aY,if_false,nil_append]
    exact V1 n hn row a hS hS2 l hl h m (k+1) z (by omega) (by omega) h3
   |true =>
    simp only [aN,A7,if_true,bK,aR]
    have h2:=zfo n hn row a l hl h (enZ z) (k:Int) (fun d=>reg <| cnd (decide (0<=d)) (cnd (decide (enZ z<0)) ((Ds n row a (fun b=>some b) m) (l,d,((k+1:Nat):Int))) <| cnd (decide (d<enZ z)) ((Ds n row a (fun b=>some b) m) (l,d,((k+1:Nat):Int))) <| (Ds n row a (fun b=>some b) m) (l,enZ z,((k+1:Nat):Int))) <| (Ds n row a (fun b=>some b) m) (l,enZ z,((k+1:Nat):Int))) n 0 0 (by omega) (by omega)
    simp only [aD,aX] at h2
    rw [h2,zvz n hn (k:Int) l h 0 (by omega)]
    have hm:=(zw1 n hn (k:Int) l h (0,true) ⟨by decide,by decide⟩).1
    have hag:agS n l z ((k:Int),true)=if (E2 n l (k:Int)).2=true/\(z.2=false\/(E2 n l (k:Int)).1<z.1) then ((E2 n l (k:Int)).1,true) else z:=rfl
    rw [hag]
    unfold E2
    generalize l.foldl (lmS n (k:Int)) (0,true)=M at hm ⊢
    simp only [Aa]
    rw [A3]
    obtain ⟨z1,z2⟩:=z
    obtain ⟨m1,m2⟩:=M
    simp only at hm h3 ⊢
    cases m2 with
    |false =>
     simp only [aY,if_false,false_and]
     rw [if_neg (by omega)]
     exact V1 n hn row a hS hS2 l hl h m (k+1) (z1,z2) (by omega) (by omega) h3
    |true =>
     simp only [if_true,true_and]
     rw [if_pos hm.1,A3]
     have i1:=V1 n hn row a hS hS2 l hl h m (k+1) (m1,true) (by omega) (by omega) (fun _=>hm.1)
     have i2:=V1 n hn row a hS hS2 l hl h m (k+1) (z1,z2) (by omega) (by omega) h3
     have e1:enZ (m1,true)=m1:=rfl
     rw [e1] at i1
     cases z2 with
     |false =>
      have e2:enZ (z1,false)=-1:=rfl
      rw [if_pos (by rw [e2];omega),if_pos (aM rfl)]
      exact i1
     |true =>
      have e2:enZ (z1,true)=z1:=rfl
      have h4:=h3 rfl
      rw [e2] at i2 ⊢
      rw [if_neg (by omega),A3]
      by_cases q2:m1<z1
      ·rw [if_pos q2,if_pos (aL q2)];exact i1
      ·rw [if_neg q2,if_neg (by simp [q2])];exact i2
  ·rw [if_neg (by omega),aG (by omega)]
   rfl
theorem zrs (n:Nat)(s:Int)(l:List Ed)(z:Int×Bool):(l.foldl (lmS n s) z).2=true ↔ z.2=true/\∀ x∈l,(limP n x s).2=true:=by
 induction l generalizing z with
 |nil=>simp
 |cons x r ih =>
  rw [aR,ih]
  unfold lmS
  simp only [Bool.and_eq_true,aZ,forall_eq_or_imp]
  exact and_assoc
theorem zw2 (n:Nat)(s:Int)(l:List Ed)(z:Int×Bool)(B:Int):(l.foldl (lmS n s) z).1<=B ↔ z.1<=B/\∀ x∈l,(limP n x s).1<=B:=by
 induction l generalizing z with
 |nil=>simp
 |cons x r ih =>
  rw [aR,ih]
  unfold lmS
  simp only [aZ,forall_eq_or_imp]
  rw [Int.max_le]
  exact and_assoc
theorem zrh (n:Nat){l l':List Ed}(h:∀ x,x∈l ↔ x∈l'):E2 n l=E2 n l':=by
 funext s
 unfold E2
 have h2:∀ B,(l.foldl (lmS n s) (0,true)).1<=B ↔ (l'.foldl (lmS n s) (0,true)).1<=B:=fun B=>by
  rw [zw2,zw2]
  simp only [h]
 have h1:(l.foldl (lmS n s) (0,true)).2=true ↔ (l'.foldl (lmS n s) (0,true)).2=true:=by
  rw [zrs,zrs]
  simp only [h]
 refine Prod.ext (Int.le_antisymm ((h2 _).2 (bL _)) ((h2 _).1 (bL _))) ?_
 cases q:(l.foldl (lmS n s) (0,true)).2<;>cases q2:(l'.foldl (lmS n s) (0,true)).2<;>simp_all
theorem zyj (n:Nat){l l':List Ed}(h:∀ x,x∈l ↔ x∈l'):agS n l=agS n l':=by
 funext z p
 unfold agS
 rw [zrh n h]
theorem zc3 (a:Aut)(h:AutR a)(hw:WfA a)(hle':a.fEdges.length<=1000000)(hc:C1 N0 a=some 0)(p:B8)(hp:PtX a p)(out:List Mp)(ho:Bt a.fStates.length out)(hol:∀ M∈out,M.length<N0)(hox:∀ (i:Nat) (hi:i<out.length) (s:Int),has out[i] s ↔ An56 a (i:Int) s)(r inner:List Bool)(hil:inner.length=a.fStates.length)(hi:∀ t,hs inner t ↔ In56 a t)(V:List (List Bool))(hVl:V.length=a.fStates.length)(hVr:∀ (i:Nat) q,V[i]? = some q->(q.length:Int)=a.fScopes)(hV:∀ t s,an2 V t s ↔ An56 a t s):∀ (m k:Nat) (ag:List Int) (bd:List Bool),k<=a.fStates.length->a.fStates.length<m+k->ag.length=a.fStates.length->bd.length=a.fStates.length->(∀ v∈ag,0<=v/\v<=mxT)->(∀ i:Nat,i<k->inner[i]? = some false->bd[i]? = some true)->∃ ag' bd',I4 N0 a p out (fun y z=>some (y,z,0)) m ((k:Int),ag,bd)=some (ag',bd',0)/\Lz N0 a (r,inner) V (fun b c=>some (b,c,0)) m ((k:Int),ag,bd)=some (ag',bd',0)/\ag'.length=a.fStates.length/\bd'.length=a.fStates.length/\(∀ v∈ag',0<=v/\v<=mxT)/\∀ i:Nat,i<a.fStates.length->inner[i]? = some false->bd'[i]? = some true
 |0,k,ag,bd,h1,h2,l1,l2,l3,l4=>by omega
 |m+1,k,ag,bd,h1,h2,l1,l2,l3,l4=>by
  have hN:30000000<N0:=by unfold N0;omega
  have hst:=h.st
  have hsc:=h.sc
  have hle:=h.le
  unfold I4 Lz
  simp only [aE,Aa]
  rw [A3,A3]
  by_cases hk:k<a.fStates.length
  ·have hki:k<inner.length:=by omega
   rw [if_pos (by omega),if_pos (by omega),Ej (by omega),Bv (by omega),Ft,Ae k (by omega),Ej (by omega),Bv (by omega),Ad hki]
   have hin:inner[k]=true ↔ In56 a (k:Int):=by
    rw [<-hi]
    unfold hs
    rw [aF,aA hki]
    simp
   have hin2:(mlk p.finner (k:Int)).getD false=inner[k]:=by
    cases q:inner[k] with
    |true=>exact (hp.i.get _).2 ((hp.ix _).2 (hin.1 q))
    |false =>
     cases q2:(mlk p.finner (k:Int)).getD false with
     |false=>rfl
     |true=>have:=hin.2 ((hp.ix _).1 ((hp.i.get _).1 q2));rw [q] at this;cases this
   rw [hin2]
   cases hq:inner[k] with
   |false =>
    rw [A7,A7]
    exact zc3 a h hw hle' hc p hp out ho hol hox r inner hil hi V hVl hVr hV m (k+1) ag _ (by omega) (by omega) l1 (by rw [aP];exact l2) l3 (fun i hi q=>by
     by_cases e:k=i
     ·subst e;exact aB (by omega)
     ·rw [aH e];exact l4 i (by omega) q)
   |true =>
    obtain ⟨R,r1,r2,r3⟩:=zrc N0 (by omega) a hw hc k hk
    have ho':k<out.length:=by rw [ho.len];exact hk
    have hv':k<V.length:=by omega
    have hR:∀ x∈R,LimR x:=fun x hx=>by
     have hx':=((r3 x).1 hx).1
     have:=h.lo x hx'
     exact ⟨this.1,this.2.2.2,h.sp x hx'⟩
    have hRf:∀ x,x∈R ↔ x∈Dn a (k:Int):=fun x=>by
     rw [r3]
     unfold Dn
     rw [mem_filter,decide_eq_true_eq]
    have hF:∀ x∈Dn a (k:Int),LimR x:=fun x hx=>hR x ((hRf x).2 hx)
    have hFl:(Dn a (k:Int)).length<=1100000:=bP (length_filter_le _ _) (by omega)
    have hrow:=hVr _ _ (aA hv')
    have e1:=zfh N0 (by omega) R r2 hR N0 out[k] (0,false) (hol _ (aK ho'))
    have e2:=V1 N0 (by omega) V[k] a hrow.symm (by omega) (Dn a (k:Int)) hFl hF N0 0 (0,false) (by omega) (by unfold N0;omega) (fun e=>by cases e)
    have hperm:(out[k]).Perm (scl 0 V[k]):=(ho.mks _ (aK ho')).same (zq9 0 _) (fun v=>by
     rw [hox,<-hV,Ye]
     unfold an2 hs
     rw [aF,aA hv']
     simp)
    have e3:out[k].foldl (agS N0 R) (0,false)=(scl 0 V[k]).foldl (agS N0 (Dn a (k:Int))) (0,false):=by
     rw [zyj N0 hRf]
     exact Perm.foldl_eq' hperm (fun x _ y _ z=>zop N0 _ z x y) _
    have e4:=y0k N0 (Dn a (k:Int)) (scl 0 V[k]) (0,false) (fun _=>rfl)
    have e5:=y0l N0 (by omega) (Dn a (k:Int)) hF (scl 0 V[k])
    rw [e3] at e1
    simp only [aD,aX] at e2
    generalize (scl 0 V[k]).foldl (agS N0 (Dn a (k:Int))) (0,false)=z at e1 e2 e4 e5
    have e1':Ug N0 R out[k]=some z:=e1
    have e2':Th N0 a (k:Int) V[k]=some (enZ z):=by
     unfold Th
     rw [zzj (k:Int) a hle',A0]
     exact e2
    rw [A8,A8,r1,A0,Ad ho',e1',A0,Ej (by omega),Bv (by omega),Ej (by rw [aP];omega),Bv (by rw [aP];omega),Ad hv',e2',A0,Ej (by rw [aP];omega),Bv (by rw [aP];omega),Ej (by omega),Bv (by omega)]
    have f1:max (0:Int) (enZ z)=z.1:=by
     unfold enZ
     cases q:z.2 with
     |true=>rw [if_pos rfl];omega
     |false=>rw [if_neg (by simp),e4 q];rfl
    have f2:decide (0<=enZ z)=z.2:=by
     unfold enZ
     cases q:z.2 with
     |true=>rw [if_pos rfl];exact decide_eq_true e5.1
     |false=>rw [if_neg (by simp)];rfl
    rw [f1,f2]
    exact zc3 a h hw hle' hc p hp out ho hol hox r inner hil hi V hVl hVr hV m (k+1) _ _ (by omega) (by omega) (by rw [aP];exact l1) (by rw [aP,aP];exact l2) (fun v hv=>(bF hv).elim (l3 v) (fun e=>e▸e5)) (fun i hi q=>by
     by_cases e:k=i
     ·subst e;rw [aA hki,hq] at q;cases q
     ·rw [aH e,aH e];exact l4 i (by omega) q)
  ·rw [if_neg (by omega),if_neg (by omega)]
   exact ⟨ag,bd,rfl,rfl,l1,l2,l3,fun i hi=>l4 i (by omega)⟩
theorem y07 (a:Aut)(h:AutR a)(hw:WfA a)(hle':a.fEdges.length<=1000000)(hc:C1 N0 a=some 0)(hd:E9 N0 a=some 0):∃ ag bd p r inner,Nl N0 a=some (ag,bd,0)/\Td N0 a=some (ag,bd,0)/\ag.length=a.fStates.length/\bd.length=a.fStates.length/\(∀ v∈ag,0<=v/\v<=mxT)/\I6 N0 a=some p/\PtX a p/\Mw N0 a=some (r,inner)/\inner.length=a.fStates.length/\(∀ t,hs inner t ↔ In56 a t)/\∀ i:Nat,i<a.fStates.length->inner[i]? = some false->bd[i]? = some true:=by
 have hN:30000000<N0:=by unfold N0;omega
 have hst:=h.st
 obtain ⟨p,p1,p2⟩:=zxp N0 hN a h.toEdR hc
 obtain ⟨out,o1,o2,o3,o4⟩:=zsa N0 (by omega) a h p p2
 obtain ⟨r,inner,b1,b2,b3,b4,b5⟩:=y06 N0 (by omega) a h.toEdR hd
 obtain ⟨V,v1,v2,v3,v4⟩:=zxr N0 (by omega) a h r inner b2 b4 b3 b5
 obtain ⟨ag,bd,e1,e2,e3,e4,e5,e6⟩:=zc3 a h hw hle' hc p p2 out o2 o3 o4 r inner b3 b5 V v2 v3 v4 N0 0 (aO a.fStates.length 0) (aO a.fStates.length false) (by omega) (by unfold N0;omega) (by simp) (by simp) (fun v hv=>by rw [aW hv];exact ⟨by decide,by decide⟩) (fun i hi=>by omega)
 simp only [aD] at e1 e2
 refine ⟨ag,bd,p,r,inner,?_,?_,e3,e4,e5,p1,p2,b1,b3,b5,e6⟩
 ·unfold Nl
  rw [hc,A0,show (!decide ((0:Int)=0))=false from rfl,A7,p1,A0,o1,A0]
  simp only [aE]
  rw [Cg (by omega) (by decide),Cg (by omega) (by decide),e1]
 ·unfold Td
  rw [hd,A0,show (!decide ((0:Int)=0))=false from rfl,A7,b1,A0]
  simp only [aE]
  rw [v1,A0,Cg (by omega) (by decide),Cg (by omega) (by decide),e2]
theorem De:30000000<N0:=by unfold N0;omega
section
variable {α β:Type}
def Ole (x y:Option β):Prop:=∀ r,x=some r->y=some r
theorem Br (x:Option β):Ole x x:=fun _ h=>h
theorem Fo (y:Option β):Ole none y:=fun _ h=>by cases h
theorem C0 {b:Bool}{x x' y y':Option β}(h:Ole x x')(g:Ole y y'):Ole (cnd b x y) (cnd b x' y'):=by
 cases b
 ·rw [A7,A7];exact g
 ·rw [A8,A8];exact h
variable {k':α->Option β}
theorem Cn {o o':Option α}{k:α->Option β}(h:Ole o o')(g:∀ a,Ole (k a) (k' a)):Ole (bnd o k) (bnd o' k'):=fun r q=>by
 obtain ⟨a,a1,a2⟩:=Ih q
 rw [h a a1,A0]
 exact g a r a2
theorem Ig {l:List α}{i:Int}{k:α->Option β}(g:∀ a,Ole (k a) (k' a)):Ole (idx l i k) (idx l i k'):=fun r q=>by
 unfold idx at q ⊢
 split at q
 ·rename_i h
  rw [if_pos h]
  split at q
  ·exact g _ r q
  ·cases q
 ·cases q
theorem V0 {de:AV->Option α}{l:List AV}{i:Int}{k:α->Option β}(g:∀ a,Ole (k a) (k' a)):Ole (idxD de l i k) (idxD de l i k'):=fun r q=>by
 unfold idxD at q ⊢
 split at q
 ·rename_i h
  rw [if_pos h]
  split at q
  ·split at q
   ·exact g _ r q
   ·cases q
  ·cases q
 ·cases q
theorem zm2 {l m:List α}{b:Nat}{k k':List α->Option β}(g:∀ a,Ole (k a) (k' a)):Ole (app l m b k) (app l m b k'):=fun r q=>by
 unfold app at q ⊢
 split at q
 ·rename_i h
  rw [if_pos h]
  exact g _ r q
 ·cases q
end
theorem zuo (n n':Nat)(a:Exn):Mx n a=Mx n' a:=by with_unfolding_all rfl
theorem zxx (n n':Nat)(a:Bj)(v:A6):N3 n a v=N3 n' a v:=by with_unfolding_all rfl
theorem zxv (n n':Nat)(a:Bj)(v:A6):Jq n a v=Jq n' a v:=by with_unfolding_all rfl
theorem zuq (n n':Nat)(k:Int):K1 n k=K1 n' k:=by with_unfolding_all rfl
theorem zxw (n n':Nat)(k:Int):Lo n k=Lo n' k:=by with_unfolding_all rfl
theorem zsd (n n':Nat)(k:Int)(l:List A6):Hp n k l=Hp n' k l:=by with_unfolding_all rfl
theorem zpa (n n':Nat)(e:B5)(k:Int):Hl n e k=Hl n' e k:=by with_unfolding_all rfl
theorem zup (n n':Nat)(e:B5)(k q:Int)(v:Ev):Qn n e k q v=Qn n' e k q v:=by with_unfolding_all rfl
theorem zxu (n n':Nat)(v:A6):Ec n v=Ec n' v:=by with_unfolding_all rfl
theorem zur (n n':Nat)(b:Bool):D7 n b=D7 n' b:=by with_unfolding_all rfl
variable {n n':Nat}
theorem z9s {b b':Exn->Int->Option Int}(hb:∀ y z,Ole (b y z) (b' y z))(q:Int)(a:Exn)(c:Int->Option Int):∀ (m m':Nat) (d:Int×Int),m<=m'->Ole (Ep n b q a c m d) (Ep n' b' q a c m' d)
 |0,m',d,h=>by unfold Ep;exact Fo _
 |m+1,0,d,h=>by omega
 |m+1,m' + 1,d,h=>by
  unfold Ep
  simp only [Am,Aa]
  unfold J7
  exact C0 (C0 (V0 fun y=>Cn (hb y q) fun v=>z9s hb q a c m m' _ (by omega)) (Br _)) (C0 (V0 fun y=>Cn (hb y q) fun v=>z9s hb q a c m m' _ (by omega)) (Br _))
theorem zrq:∀ (n n':Nat) (a:Exn) (q:Int),n<=n'->Ole (Du n a q) (Du n' a q)
 |0,n',a,q,h=>by unfold Du;exact Fo _
 |n+1,0,a,q,h=>by omega
 |n+1,n' + 1,a,q,h=>by
  unfold Du
  exact z9s (fun y z=>zrq n n' y z (by omega)) q a _ n n' _ (by omega)
variable {b b':Exn->Option Int}
theorem zee (hb:∀ y,Ole (b y) (b' y))(a:Exn)(c:Int->Option Int):∀ (m m':Nat) (d:Int×Int),m<=m'->Ole (G7 n b a c m d) (G7 n' b' a c m' d)
 |0,m',d,h=>by unfold G7;exact Fo _
 |m+1,0,d,h=>by omega
 |m+1,m' + 1,d,h=>by
  unfold G7
  exact C0 (V0 fun y=>Cn (hb y) fun v=>zee hb a c m m' _ (by omega)) (Br _)
theorem zrp:∀ (n n':Nat) (a:Exn),n<=n'->Ole (Dt n a) (Dt n' a)
 |0,n',a,h=>by unfold Dt;exact Fo _
 |n+1,0,a,h=>by omega
 |n+1,n' + 1,a,h=>by
  unfold Dt
  exact zee (fun y=>zrp n n' y (by omega)) a _ n n' _ (by omega)
theorem zed (hb:∀ y,Ole (b y) (b' y))(a:Exn)(c:Option Int):∀ (m m':Nat) (d:Int),m<=m'->Ole (G5 n b a c m d) (G5 n' b' a c m' d)
 |0,m',d,h=>by unfold G5;exact Fo _
 |m+1,0,d,h=>by omega
 |m+1,m' + 1,d,h=>by
  unfold G5
  exact C0 (V0 fun y=>Cn (hb y) fun v=>C0 (Br _) (zed hb a c m m' _ (by omega))) (Br _)
theorem zro:∀ (n n':Nat) (a:Exn),n<=n'->Ole (Ea n a) (Ea n' a)
 |0,n',a,h=>by unfold Ea;exact Fo _
 |n+1,0,a,h=>by omega
 |n+1,n' + 1,a,h=>by
  unfold Ea
  rw [zuo n n']
  exact Cn (Br _) fun v=>C0 (Br _) (zed (fun y=>zro n n' y (by omega)) a _ n n' _ (by omega))
theorem zxk (n n':Nat)(h:n<=n')(a:Exn):Ole (Eb n a) (Eb n' a):=by
 unfold Eb
 exact Cn (zrq n n' a 64 h) fun v=>C0 (Br _) (Cn (zrp n n' a h) fun v=>C0 (Br _) (Cn (zro n n' a h) fun v=>Br _))
theorem zrn (v:A6)(l:List A6)(c:Int->Int->Int->Int->ByteArray->Option (A6×Int)):∀ (m m':Nat) (d:Int×Int×Int×Int×Int×ByteArray),m<=m'->Ole (Gi n v l c m d) (Gi n' v l c m' d)
 |0,m',d,h=>by unfold Gi;exact Fo _
 |m+1,0,d,h=>by omega
 |m+1,m' + 1,d,h=>by
  unfold Gi
  refine C0 (Ig fun y=>?_) (Br _)
  rw [zxx n n']
  exact Cn (Br _) fun v=>C0 (Br _) (zrn _ l c m m' _ (by omega))
theorem m_of (n n':Nat)(h:n<=n')(k:Int)(l:List A6)(v:A6):Ole (I0 n k l v) (I0 n' k l v):=by
 unfold I0
 rw [zuq n n']
 simp only [zxv n n']
 exact Cn (Br _) fun w=>C0 (Br _) (C0 (Br _) (zrn v l _ n n' _ h))
theorem ziv (a:Exn)(l:List Ev){c c':List A6->Option (A6×Int)}(hc:∀ y,Ole (c y) (c' y)):∀ (m m':Nat) (d:Int×List A6),m<=m'->Ole (Gc n a l c m d) (Gc n' a l c' m' d)
 |0,m',d,h=>by unfold Gc;exact Fo _
 |m+1,0,d,h=>by omega
 |m+1,m' + 1,d,h=>by
  unfold Gc
  exact C0 (Ig fun y=>C0 (Br _) (Ig fun z=>Ig fun u=>zm2 fun w=>ziv a l hc m m' _ (by omega))) (hc _)
theorem zzt (n n':Nat)(h:n<=n')(a:Exn)(e:B5)(k:Int)(ev:Ev):Ole (Hu n a e k ev) (Hu n' a e k ev):=by
 unfold Hu
 simp only [zpa n n',zup n n',zxu n n']
 exact C0 (Br _) (C0 (Br _) (C0 (Cn (Br _) fun l=>ziv a l (fun y=>Cn (m_of n n' h _ y _) fun z=>Br _) n n' _ h) (Br _)))
theorem ziw (l:List Int)(k:Int)(c:Option Int):∀ (m m':Nat) (d:Int),m<=m'->Ole (Cw n l k c m d) (Cw n' l k c m' d)
 |0,m',d,h=>by unfold Cw;exact Fo _
 |m+1,0,d,h=>by omega
 |m+1,m' + 1,d,h=>by
  unfold Cw
  simp only [Am,Aa,zxw n n']
  have key:∀ b,Ole (E5 n l k d (Cw n l k c m) b) (E5 n' l k d (Cw n' l k c m') b):=fun b=>by
   unfold E5
   exact C0 (Br _) (ziw l k c m m' _ (by omega))
  exact C0 (Cn (Br _) fun e=>C0 (Ig fun f=>C0 (key _) (C0 (Ig fun g=>Ig fun h=>key _) (key _))) (C0 (Ig fun g=>Ig fun h=>key _) (key _))) (Br _)
theorem zix {b b':Exn->B5->Int->Ev->Option (A6×Int)}(hb:∀ y e k v,Ole (b y e k v) (b' y e k v))(ev:Ev)(k:Int)(e:B5)(a:Exn){c c':List A6->List Int->Option (A6×Int)}(hc:∀ y z,Ole (c y z) (c' y z)):∀ (m m':Nat) (d:Int×List A6×List Int),m<=m'->Ole (Ge n b ev k e a c m d) (Ge n' b' ev k e a c' m' d)
 |0,m',d,h=>by unfold Ge;exact Fo _
 |m+1,0,d,h=>by omega
 |m+1,m' + 1,d,h=>by
  unfold Ge
  exact C0 (V0 fun y=>Cn (hb y _ _ _) fun v=>C0 (Br _) (zm2 fun u=>zm2 fun w=>zix hb ev k e a hc m m' _ (by omega))) (hc _ _)
theorem zw0:∀ (n n':Nat) (a:Exn) (e:B5) (k:Int) (ev:Ev),n<=n'->Ole (Ee n a e k ev) (Ee n' a e k ev)
 |0,n',a,e,k,ev,h=>by unfold Ee;exact Fo _
 |n+1,0,a,e,k,ev,h=>by omega
 |n+1,n' + 1,a,e,k,ev,h=>by
  unfold Ee
  refine C0 (Cn (zzt n n' (by omega) _ _ _ _) fun v=>Br _) (zix (fun y e k v=>zw0 n n' y e k v (by omega)) ev k e a (fun y z=>?_) n n' _ (by omega))
  rw [zsd n n']
  exact Cn (by unfold Sj;exact ziw z _ _ n n' _ (by omega)) fun d=>Br _
theorem zxj (n n':Nat)(h:n<=n')(a:Exn)(e:B5)(k:Int)(ev:Ev):Ole (Hq n a e k ev) (Hq n' a e k ev):=by
 unfold Hq Tg
 simp only [Am,Aa,J6]
 rw [zur n n']
 exact Cn (Cn (zxk n n' h a) fun c=>C0 (Br _) (Cn (zw0 n n' a _ k ev h) fun v=>Br _)) fun v=>Br _
theorem zqg (n:Nat)(f:Exn->List Bool->Option (List Bool))(e:Exn)(K:List Bool->Option (List Bool)):∀ m v,P6 n f e K m v=Dp n f e K m v
 |0,v=>rfl
 |m+1,v=>by unfold P6 Dp;simp only [zqg n f e K m]
theorem zqf (n:Nat)(f:Exn->List Bool->Option (List Bool))(e:Exn)(K:List Bool->Option (List Bool)):∀ m v,P5 n f e K m v=Dp n f e K m v
 |0,v=>rfl
 |m+1,v=>by unfold P5 Dp;simp only [zqf n f e K m]
theorem zqe (n:Nat)(f:Exn->List Bool->Option (List Bool))(e:Exn)(K:List Bool->Option (List Bool)):∀ m v,P4 n f e K m v=Dp n f e K m v
 |0,v=>rfl
 |m+1,v=>by unfold P4 Dp;simp only [zqe n f e K m]
theorem zy8 {α:Type}{l:List α}(h:k<l.length)(P:α->Prop):(∃ x∈l.drop k,P x) ↔ P l[k]\/∃ x∈l.drop (k+1),P x:=by
 rw [aC h]
 grind
def MkB (P:Nat->Prop)(t t':List Bool):Prop:=t'.length=16/\∀ i,t'[i]? = some true ↔ t[i]? = some true\/(i<16/\P i)
variable {P:Nat->Prop}{t:List Bool}
theorem MkB.comp {Q R:Nat->Prop}{t1 t2:List Bool}(h:MkB P t t1)(k:MkB Q t1 t2)(hr:∀ i,i<16->(R i ↔ P i\/Q i)):MkB R t t2:=⟨k.1,fun i=>by
 rw [k.2,h.2]
 have:=hr i
 grind⟩
theorem MkB.nil (h:t.length=16)(hp:∀ i,i<16->¬P i):MkB P t t:=⟨h,fun i=>by
 have:=hp i
 grind⟩
theorem MkB.set {j:Nat}(h:t.length=16)(hj:j<16)(hp:∀ i,i<16->(P i ↔ i=j)):MkB P t (t.set j true):=⟨by simpa using h,fun i=>by
 grind⟩
theorem MkB.congr {Q:Nat->Prop}{t':List Bool}(h:MkB P t t')(hp:∀ i,i<16->(P i ↔ Q i)):MkB Q t t':=⟨h.1,fun i=>by
 rw [h.2]
 have:=hp i
 grind⟩
theorem zi8 (n:Nat)(f:Exn->List Bool->Option (List Bool))(l:List (Nat×Exn))(e:Exn)(ha:e.fArgs=l.map (fun p=>Ao p.2))(hl:l.length<=4000000)(ih:∀ p∈l,∀ t:List Bool,t.length=16->∃ t',f p.2 t=some t'/\MkB (fun i=>Occ i p.2) t t') :
  ∀ (m k:Nat) (t:List Bool),k<=l.length->l.length<m+k->t.length=16->∃ t',Dp n f e (fun y=>some y) m ((k:Int),t)=some t'/\MkB (fun i=>∃ p∈l.drop k,Occ i p.2) t t'
 |0,k,t,h1,h2,_=>by omega
 |m+1,k,t,h1,h2,h3=>by
  unfold Dp
  simp only [ha,aE,A3]
  by_cases h:k<l.length
  ·rw [if_pos (by omega),Gz h]
   obtain ⟨t1,q1,q2⟩:=ih l[k] (aK h) t h3
   rw [q1,Cr,Ae k (by omega)]
   obtain ⟨t',r1,r2⟩:=zi8 n f l e ha hl ih m (k+1) t1 (by omega) (by omega) q2.1
   exact ⟨t',r1,q2.comp r2 (fun i _=>zy8 h _)⟩
  ·rw [if_neg (by omega)]
   exact ⟨t,rfl,MkB.nil h3 (fun i _ ⟨p,hp,_⟩=>by rw [aG (by omega)] at hp;cases hp)⟩
theorem zzb:∀ (s:Nat) (e:Exn),ETr s e->s<=4000000->∀ n,s+1<n->∀ t:List Bool,t.length=16->∃ t',E8 n e t=some t'/\MkB (fun i=>Occ i e) t t':=by
 intro s
 induction s using Nat.strongRecOn with
 |ind s IH =>
  intro e ht hs n hn t h16
  cases ht with
  |mk l e h ha =>
   obtain ⟨n',rfl⟩:∃ n',n=n' + 1:=⟨n-1,by omega⟩
   have hl:=O2 (l:=l) (fun p hp=>(h p hp).pos)
   have go:∀ t:List Bool,t.length=16->∃ t',Dp n' (E8 n') e (fun y=>some y) n' (0,t)=some t'/\MkB (fun i=>∃ p∈l,Occ i p.2) t t':=fun t h16=>zi8 n' (E8 n') l e ha (by omega) (fun p hp t h16=>by
    have:=Ie hp
    exact IH p.1 (by omega) p.2 (h p hp) (by omega) n' (by omega) t h16) n' 0 t (by omega) (by omega) h16
   simp only [E8,zqg,zqf,zqe]
   rw [zqv,A0]
   have no:(∀ i,i<16->¬own1 i e)->∃ t',Dp n' (E8 n') e (fun y=>some y) n' (0,t)=some t'/\MkB (fun i=>Occ i e) t t':=fun hno=>by
    obtain ⟨t',q1,q2⟩:=go t h16
    refine ⟨t',q1,q2.congr (fun i hi=>?_)⟩
    rw [zm3 ha]
    simp_all
   simp only [A3,aE,h16]
   by_cases hu:usV e.fOp=true
   rotate_left
   ·have hu':usV e.fOp=false:=by cases h:usV e.fOp<;>simp_all
    rw [hu',A7]
    exact no (fun i _ h=>hu h.1)
   rw [hu,A8]
   by_cases h0:0<=e.fVar
   rotate_left
   ·rw [if_neg h0]
    exact no (fun i _ h=>by have:=h.2;omega)
   rw [if_pos h0]
   by_cases h1:e.fVar<16
   rotate_left
   ·rw [if_neg (by omega)]
    exact no (fun i hi h=>by have:=h.2;omega)
   rw [if_pos (by omega),Bl h0 (by omega),Bv (by omega)]
   obtain ⟨t',q1,q2⟩:=go (t.set e.fVar.toNat true) (by simpa using h16)
   refine ⟨t',q1,(MkB.set (P:=fun i=>own1 i e) h16 (by omega) (fun i hi=>⟨fun h=>by have:=h.2;omega,fun h=>⟨hu,by omega⟩⟩)).comp q2 (fun i hi=>?_)⟩
   rw [zm3 ha]
def filB (t:List Bool)(k:Nat):List Int:=(t.zipIdx.drop k).filterMap (fun p=>if p.1 then some (p.2:Int) else none)
theorem zsl (t:List Bool)(k:Nat)(h:k<t.length):filB t k=(if t[k]=true then [(k:Int)] else [])++filB t (k+1):=by
 unfold filB
 have hk:k<t.zipIdx.length:=by rw [length_zipIdx];exact h
 rw [aC hk,filterMap_cons]
 grind
theorem zv0 (t:List Bool)(v:Int):v∈filB t 0 ↔ ∃ i:Nat,v=(i:Int)/\t[i]? = some true:=by
 unfold filB
 rw [aX,mem_filterMap]
 constructor
 ·grind
 ·rintro ⟨i,rfl,h⟩
  exact ⟨(true,i),List.mem_zipIdx_iff_getElem?.2 h,by simp⟩
theorem z9m (n:Nat)(t:List Bool)(h16:t.length=16)(K:List Int->Option (List Int)):∀ (m k:Nat) (out:List Int),k<=16->16<m+k->out.length<=k->Ir n t K m ((k:Int),out)=K (out++filB t k)
 |0,k,out,h1,h2,_=>by omega
 |m+1,k,out,h1,h2,h3=>by
  unfold Ir
  simp only [A3,aE,h16]
  by_cases h:k<16
  ·rw [if_pos (by omega),Aa,Ej (by omega),Cc (by omega),zsl t k (by omega),Ae k (by omega)]
   cases hb:t[k] with
   |true =>
    rw [A8,Bs (by simp;omega) (by omega),z9m n t h16 K m (k+1) _ (by omega) (by omega) (by simp;omega)]
    simp
   |false =>
    rw [A7,z9m n t h16 K m (k+1) _ (by omega) (by omega) (by omega)]
    simp
  ·rw [if_neg (by omega)]
   unfold filB
   rw [aG (by rw [length_zipIdx];omega)]
   simp
theorem zd6 {e:Exn}(hw:WfE e)(n:Nat)(hn:10000000<n):∃ vs:List Int,Si n e=some vs/\vs.length<=16/\∀ v,v∈vs ↔ OccV v e:=by
 obtain ⟨z,hz,ht⟩:=hw
 obtain ⟨t,q1,q2,q3⟩:=zzb z e ht hz n (by omega) (aO 16 false) (by simp)
 refine ⟨filB t 0,?_,?_,fun v=>?_⟩
 ·unfold Si
  have hm:=Cg (n:=16) (bytes:=1) (by omega) (by omega) false (fun x1=>bndM 9 (E8 n e x1) fun x2=>Ir n x2 (fun k1_0_0y=>some k1_0_0y) n (0,[]))
  refine Eq.trans hm ?_
  rw [q1,Cr]
  have:=z9m n t q2 (fun y=>some y) n 0 [] (by omega) (by omega) (by simp)
  simpa using this
 ·unfold filB
  refine bP (length_filterMap_le _ _) ?_
  simp_all
 ·rw [zv0]
  unfold OccV
  grind
end Go.Proofs.YthbogefcfhmpgaaGreat
