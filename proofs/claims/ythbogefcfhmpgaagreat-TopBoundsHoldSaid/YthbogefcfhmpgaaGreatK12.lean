/- Layer 56, plainly. -/
import Derived.Test.YthbogefcfhmpgaaGreatK11
import Derived.Test.YthbogefcfhmpgaaGreatRows
import Derived.ProofKit
import Derived.Lib.SmallJoins
import Derived.Deep.Slices
import Derived.Below
import Derived.OpenShut
import Derived.JoinedCond
set_option linter.unusedVariables false
set_option linter.unusedSimpArgs false
set_option maxRecDepth 100000
namespace Go.Proofs.YthbogefcfhmpgaaGreat
open Go.RowKit List
open _root_.Go.Proofs.Tryz renaming prog->aA,underlying3->aB,underlying43->bC,underlying9->bG,underlying4->bH,underlying142->bR,underlying28->bU,checked->cK
open List renaming length_map->aC,getElem?_eq_getElem->aE,drop_eq_nil_of_le->aF,drop_eq_getElem_cons->aG,getElem_mem->aH,take_succ_eq_append_getElem->aK,mem_singleton->aM,map_cons->aP,mem_cons->aR,getD_eq_getElem?_getD->aU,length_take->aX,drop_zero->aY,mem_iff_getElem->aZ,mem_cons_of_mem->bA,range->bB,mem_map->bD,length_cons->bE,take_append_drop->bI,nodup_cons->bJ,map_nil->bK,getElem_take->bL,getElem_map->bM,mem_range->bN,getElem_range->bP,length_append->bQ,mem_append->bS,take_of_length_le->bV,length_filter_le->bW,singleton_append->bX,mem_append_right->bY,all_eq_true->cA,mem_filter->cG,sum_cons->cH,replicate->cI
open Int renaming natCast_zero->aD,toNat_natCast->bT,le_refl->bZ,le_trans->cJ
open Option.some renaming inj->aJ
open Bool renaming not_true->aL,and_eq_true->aQ,not_false->aV,or_eq_true->cB,eq_iff_iff->cC
open Nat renaming zero_le->aN,le_refl->aW,mul_le_mul_left->bO,div_add_mod->cD,mod_lt->cF
open IntKind renaming wrap->aO
open Or renaming inr->aS,inl->aT
open Option renaming getD_some->bF,map_some->cE
abbrev Scn:=Bf
theorem y2m (n:Nat)(f:10000000<n)(e:Exn)(c:WfE e):∃r,T5 n e=some r:=by
 obtain⟨vs,g,m,_⟩:=zvz c n f;obtain⟨z,j,k⟩:=c;obtain⟨r,_,h⟩:=y21 [] [] (λv=>by unfold evs;split<;>simp) (-1) ⟨0,0,0,0,[]⟩ z e (λ_ _=>rfl) k j n f;unfold T5;simp only[Ay,Ak,N4];rw[g,A0,h,A0,A4];split
 ·exact⟨_,rfl⟩
 ·exact⟨_,rfl⟩
theorem y97 (n:Nat)(c:10000000<n)(g:Bb)(x:Ed)(h:x.fInside.length<=1100000):Vt n g x=some (decide (g.fType=x.fType) && !(x.fInside.any λy=>decide (g.fScope=y))):=by
 unfold Vt;simp only[Ay,Ak,La,A4,I4 n g.fScope x.fInside Ω Ω,A0];by_cases q:g.fType=x.fType<;>simp[q]
theorem zsd (n:Nat)(c:10000000<n)(x:Ed)(h:x.fInside.length<=1100000)(l:List Bb)(e:l.length<=1000000000):∀(m k:Nat),k<=l.length->l.length<m+k->∃r,Po n x l (some (-1)) m (k:Int)=some r
 |0,k,h1,g=>by omega
 |m+1,k,h1,g=>by
  unfold Po;simp only[aC];rw[A4];by_cases f:k<l.length
  ·rw[if_pos Ω,Ae f,y97 n c _ x h,A0,Af k Ω,Az];split
   ·exact⟨_,rfl⟩
   ·exact zsd n c x h l e m (k+1) Ω Ω
  ·rw[if_neg Ω];exact⟨_,rfl⟩
theorem zsi (n:Nat)(D:10000000<n)(x:Ed)(sc:Scn)(C:x.fOpens.length<=1100000)(E:x.fLimits.length<=1100000)(K:Option Bool)(c:Bool)(j:K=some c):∀(m k:Nat),k<=x.fLimits.length->x.fLimits.length<m+k->∃r,R6 n x sc K m (k:Int)=some r/\(r=true->∀l∈x.fLimits.drop k,l.fScope∈x.fOpens)
 |0,k,h1,F=>by omega
 |m+1,k,h1,F=>by
  unfold R6;simp only[aC];rw[A4];by_cases g:k<x.fLimits.length
  ·rw[if_pos Ω,Ae g,I4 n _ x.fOpens Ω Ω,A0,Af k Ω,Ar,Az,aG g];split
   ·rename_i q;obtain⟨r,A,z⟩:=zsi n D x sc C E K c j m (k+1) Ω Ω;refine⟨r,A,λB l f=>(aR.1 f).elim (λe=>?_) (z B l)⟩;obtain⟨y,w,o⟩:=any_eq_true.1 q;rw[e,of_decide_eq_true o];exact w
   ·exact⟨false,rfl,λh=>by cases h⟩
  ·rw[if_neg Ω,aF Ω,j];exact⟨c,rfl,λ_=>by simp⟩
theorem zsj (n:Nat)(q:10000000<n)(x:Ed)(j:WfX x)(sc:Scn)(K:Option Bool)(P:Prop)(g:Bool)(z:K=some g)(y:g=true->P):∀(m k:Nat),k<=x.fChecks.length->x.fChecks.length<m+k->∃r,R7 n x sc K m (k:Int)=some r/\(r=true->P)
 |0,k,h1,C=>by omega
 |m+1,k,h1,C=>by
  obtain⟨ys,o,A⟩:=j.checks;have B:=j.lc;unfold R7;simp only[aC];rw[A4];by_cases w:k<x.fChecks.length
  ·have f:k<ys.length:=by rw[o,aC]at w;exact w
   obtain⟨c,D⟩:=y2m n q ys[k] (A _ (aH f));have e:∀K:Exn->Option Bool,idxD C7 x.fChecks (k:Int) K=K ys[k]:=λK=>by rw[o];exact y3b f K
   rw[if_pos Ω,e,D,A0,Af k Ω,Ar,Az];split
   ·exact zsj n q x j sc K P g z y m (k+1) Ω Ω
   ·exact⟨false,rfl,λh=>by cases h⟩
  ·rw[if_neg Ω,z];exact⟨g,rfl,y⟩
theorem ybf (n:Nat)(j:10000000<n)(sc:Scn)(x:Ed)(e:WfX x)(k:0<=x.fFrom/\x.fFrom.toNat<sc.fa.fStates.length)(B:∀s∈sc.fa.fStates,s.fGuards.length<=1100000):∃r,Hl n sc x=some r/\(r=true->x.fType<(sc.ftypes.length:Int)/\∀l∈x.fLimits,l.fScope∈x.fOpens):=by
 obtain⟨c,J⟩:=y2m n j x.fCond e.cond;have D:=e.lo;have F:=e.li;have E:=e.ll;have G:=e.lc;obtain⟨i,A⟩:=zsd n j x Ω sc.fa.fStates[x.fFrom.toNat].fGuards (by have:=B _ (aH k.2);omega) n 0 Ω (by have:=B _ (aH k.2);omega);simp only[aD]at A;have key:∀b,∃r,Jd n x sc b=some r/\(r=true->b=false/\∀l∈x.fLimits,l.fScope∈x.fOpens):=λb=>by
  unfold Jd;cases b with
  |true=>rw[Aj];exact⟨false,rfl,λh=>by cases h⟩
  |false =>
   rw[Al];have I:(idx sc.fa.fStates x.fFrom λo=>bnd (Ux n o.fGuards x) λm=>some !(m))=some (!(decide (0<=i))):=by
    rw[Ov k.1 k.2];unfold Ux Zz;rw[A,A0,A0]
   obtain⟨f,z,y⟩:=zsi n j x sc Ω Ω _ _ I n 0 Ω Ω;simp only[aD,aY]at z y;obtain⟨g,w,C⟩:=zsj n j x e sc _ (∀l∈x.fLimits,l.fScope∈x.fOpens) f z y n 0 Ω Ω;simp only[aD]at w;exact⟨g,w,λh=>⟨rfl,C h⟩⟩
 unfold Hl;simp only[Ay,Ak,aC];rw[A4];by_cases q:(sc.ftypes.length:Int)<=x.fType
 ·rw[if_pos q];obtain⟨r,g,f⟩:=key true;exact⟨r,g,λh=>absurd (f h).1 Δ⟩
 ·rw[if_neg q,J,A0];obtain⟨r,g,f⟩:=key (!c);exact⟨r,g,λh=>⟨Ω,(f h).2⟩⟩
def frP (n:Nat)(sc:Scn)(x:Ed):Bool:=(Hl n sc x).getD false
structure ScR (q:Scn):Prop extends AutR q.fa where
 w:WfA q.fa
theorem ScR.free {sc:Scn}(h:ScR sc)(n:Nat)(g:10000000<n){x:Ed}(e:x∈sc.fa.fEdges):Hl n sc x=some (frP n sc x)/\(frP n sc x=true->x.fType<(sc.ftypes.length:Int)/\∀l∈x.fLimits,l.fScope∈x.fOpens):=by
 have j:=h.ed x e;obtain⟨r,c,f⟩:=ybf n g sc x (h.w.ed x e) Ω (λs hs=>(h.w.st s hs).1);have:frP n sc x=r:=by unfold frP;rw[c];rfl
 rw[this];exact⟨c,f⟩
def gdk (a:Aut)(s k:Int):Bool:=match a.fStates[s.toNat]? with|some q=>q.fGuards.any (λg=>decide (g.fType=k))|none=>false
theorem zsc (n:Nat)(kd:Int)(l:List Bb)(c:l.length<=1000000000):∀(m k:Nat),k<=l.length->l.length<m+k->Pn n kd l (some (-1)) m (k:Int)=some (Eb (λy=>decide (y.fType=kd)) k (l.drop k))
 |0,k,h1,e=>by omega
 |m+1,k,h1,e=>by
  unfold Pn Zj;simp only[aC,A4];by_cases h:k<l.length
  ·rw[if_pos Ω,Ae h,B6 l k h,I6,A0,Af k Ω,zsc n kd l c m (k+1) Ω Ω];rw[A4];grind
  ·rw[if_neg Ω,aF Ω];rfl
theorem zsh (n:Nat)(e:10000000<n)(sc:Scn)(h:ScR sc)(s k:Int)(hs:0<=s/\s.toNat<sc.fa.fStates.length):M6 n sc s k=some (gdk sc.fa s k):=by
 have f:=(h.w.st _ (aH hs.2)).1;have c:=zsc n k sc.fa.fStates[s.toNat].fGuards Ω n 0 Ω Ω;simp only[aD,aY,I5]at c;unfold M6 Za Zy gdk;rw[Ov hs.1 hs.2,c,A0,A0,U0,aE hs.2]
theorem zer (n:Nat)(c:10000000<n)(sc:Scn)(h:ScR sc):∀(m k:Nat) (acc:List Ed),k<=sc.fa.fEdges.length->sc.fa.fEdges.length<m+k->acc.length<=k->J5 n sc (λy=>some y) m ((k:Int),acc)=some (acc++(sc.fa.fEdges.drop k).filter (frP n sc))
 |0,k,acc,h1,j,g=>by omega
 |m+1,k,acc,h1,j,g=>by
  have f:=h.le;unfold J5 z0c;simp only[aC,Ak];rw[A4];by_cases e:k<sc.fa.fEdges.length
  ·rw[if_pos Ω,Ae e,(h.free n c (aH e)).1,A0,Af k Ω,aG e,filter_cons,Az];split
   ·rename_i q;rw[A0,Aj,Bo Ψ Θ,zer n c sc h m (k+1) _ Ω Ω Ψ];simp
   ·exact zer n c sc h m (k+1) _ Ω Ω Ω
  ·rw[if_neg Ω,aF Ω];simp
theorem y5w (n:Nat)(c:10000000<n)(sc:Scn)(h:ScR sc):W0 n sc=some (sc.fa.fEdges.filter (frP n sc)):=by
 have e:=h.le;have:=zer n c sc h n 0 [] Ω Ω Δ;simpa[W0]using this
def ptP (a:Aut)(tt:Int)(x:Ed):Bool:=decide (0<=x.fTo) && (!gdk a 0 x.fType && !gdk a tt x.fType)
theorem y92 (n:Nat)(c:10000000<n)(sc:Scn)(h:ScR sc)(tt:Int)(e:0<=tt/\tt.toNat<sc.fa.fStates.length)(x:Ed):Rp n x sc tt=some (ptP sc.fa tt x,sc,tt):=by
 have f:=h.st;unfold Rp ptP;rw[A4];by_cases q:0<=x.fTo
 ·rw[if_pos q,zsh n c sc h 0 _ Ω,A0,Ar];cases gdk sc.fa 0 x.fType with
  |true=>rw[Aj];simp
  |false=>rw[Al,zsh n c sc h tt _ e,A0];simp[q]
 ·rw[if_neg q];simp[q]
theorem zes (n:Nat)(e:10000000<n)(sc:Scn)(h:ScR sc)(tt:Int)(g:0<=tt/\tt.toNat<sc.fa.fStates.length)(K:List Ba->Int->Int->List Dm->List Ed->Int->List Ed->Option (List Ed×Scn×Int)):∀(m k:Nat) (acc:List Ed),k<=sc.fa.fEdges.length->sc.fa.fEdges.length<m+k->acc.length<=k->Im n sc K m ((k:Int),sc.ftypes,sc.fa.fVars,sc.fa.fScopes,sc.fa.fStates,sc.fa.fEdges,tt,acc)=K sc.ftypes sc.fa.fVars sc.fa.fScopes sc.fa.fStates sc.fa.fEdges tt (acc++(sc.fa.fEdges.drop k).filter (λx=>frP n sc x && ptP sc.fa tt x))
 |0,k,acc,h1,y,w=>by omega
 |m+1,k,acc,h1,y,w=>by
  have r:=h.le;unfold Im;simp only[aC];rw[A4];by_cases j:k<sc.fa.fEdges.length
  ·rw[if_pos Ω,Ae j,(h.free n e (aH j)).1,A0,Af k Ω,aG j,filter_cons];have c:=zes n e sc h tt g K m (k+1) acc Ω Ω Ω;have f:=zes n e sc h tt g K m (k+1) (acc++[sc.fa.fEdges[k]]) Ω Ω Ψ;cases q:frP n sc sc.fa.fEdges[k]with
   |false=>rw[Al,Bool.false_and,c];rfl
   |true =>
    have o:Rp n sc.fa.fEdges[k] (⟨sc.ftypes,⟨sc.fa.fVars,sc.fa.fScopes,sc.fa.fStates,sc.fa.fEdges⟩⟩:Bf) tt=some (ptP sc.fa tt sc.fa.fEdges[k],sc,tt):=y92 n e sc h tt g _;rw[Aj,o,Ck,Bool.true_and];simp only;cases ptP sc.fa tt sc.fa.fEdges[k]with
    |false=>rw[Al,c];rfl
    |true=>rw[Aj,Bo Ψ Θ,f];simp
  ·rw[if_neg Ω,aF Ω];simp
theorem y5v (n:Nat)(e:10000000<n)(sc:Scn)(h:ScR sc)(tt:Int)(c:0<=tt/\tt.toNat<sc.fa.fStates.length):V0 n sc sc tt=some (sc.fa.fEdges.filter (λx=>frP n sc x && ptP sc.fa tt x),sc,tt):=by
 have f:=h.le;unfold V0;have:=zes n e sc h tt c (λk1_0_0y0 k1_0_0y1 k1_0_0y2 k1_0_0y3 k1_0_0y4 k1_0_0y5 k1_0_0y6=>frz 7027 <| reg <| some (k1_0_0y6,⟨k1_0_0y0,⟨k1_0_0y1,k1_0_0y2,k1_0_0y3,k1_0_0y4⟩⟩,k1_0_0y5)) n 0 [] Ω Ω Δ;simp only[aD,aY,nil_append]at this;rw[this,Yt,Ak]
inductive OpP (E:List Ed):Int->Prop
 |last (x:Ed) (hx:x∈E) (h:x.fTo<0):OpP E x.fFrom
 |step (x:Ed) (hx:x∈E) (h:OpP E x.fTo):OpP E x.fFrom
theorem MK.len_le {l:Mp}(h:MK l)(N:Nat)(f:∀t,has l t->-1<=t/\t<(N:Int)):l.length<=N+1:=by
 have c:(l.map (·.1)).length<=((bB (N+1)).map (λ(i:Nat)=>(i:Int)-1)).length:=by
  refine Yj h.nd (λt e=>?_);have:=f t e;exact bD.2 ⟨(t+1).toNat,bN.2 Ω,Ω⟩
 simpa using c
structure OpOk (E:List Ed) (N:Nat) (M:Mp):Prop where
 mks:MK M
 rg:∀t,has M t->-1<=t/\t<(N:Int)
 op:∀t,has M t->t=-1\/OpP E t
theorem zs0 (n:Nat)(E:List Ed)(F:E.length<=1100000)(N:Nat)(z:∀x∈E,0<=x.fFrom/\x.fFrom<(N:Int))(V:List Ed×Bool×Mp)(y:V.1=E)(K:Bool->Mp->Option Mp):∀(m k:Nat) (b:Bool) (M:Mp),k<=E.length->E.length<m+k->OpOk E N M->∃g M',Jc n V K m (b,(k:Int),M)=K g M'/\OpOk E N M'/\M.length<=M'.length/\(g=true->b=true\/M.length<M'.length)
 |0,k,b,M,h1,G,c=>by omega
 |m+1,k,b,M,h1,G,c=>by
  unfold Jc;simp only[aC,Ak,y];rw[A4];by_cases w:k<E.length
  ·have h:=λb M D=>zs0 n E F N z V y K m (k+1) b M Ω Ω D
   rw[if_pos Ω,Ae w,Ki,Af k Ω];cases q:(mlk M E[k].fTo).getD false with
   |false=>rw[Al];exact h b M c
   |true =>
    rw[Aj,Ki,Ar];cases r:(mlk M E[k].fFrom).getD false with
    |true=>rw[Aj];exact h b M c
    |false =>
     rw[Al,E8];have o:¬has M E[k].fFrom:=λf=>by rw[(c.mks.get _).2 f]at r;cases r
     have B:=(c.mks.get _).1 q;have j:=aH w;obtain⟨g,M',J,I,O,L⟩:=h true (mput M E[k].fFrom true) ⟨c.mks.put _,λt f=>((c.mks.has_put _ _).1 f).elim (λe=>by have:=z _ j;rw[e];omega) (c.rg t),λt f=>((c.mks.has_put _ _).1 f).elim (λe=>by
      rw[e];refine aS ?_;rcases c.op _ B with A|A
      ·exact .last _ j Ω
      ·exact .step _ j A) (c.op t)⟩
     have C:=c.mks.put_len E[k].fFrom;rw[if_neg o]at C;exact⟨g,M',J,I,Ω,λ_=>aS Ω⟩
  ·rw[if_neg Ω];exact⟨b,M,rfl,c,aW _,aT⟩
theorem zs1 (n:Nat)(o:10000000<n)(E:List Ed)(g:E.length<=1100000)(N:Nat)(e:N<=1000000)(f:∀x∈E,0<=x.fFrom/\x.fFrom<(N:Int))(K:Mp->Option Mp):∀(m:Nat) (b:Bool) (M:Mp),(N+3<m+M.length\/(b=false/\N+2<m+M.length))->OpOk E N M->∃M',M5 n K m (E,b,M)=K M'/\OpOk E N M'
 |0,b,M,h1,c=>by have:=c.mks.len_le N c.rg;omega
 |m+1,b,M,h1,c=>by
  unfold M5;simp only;cases b with
  |false=>rw[Al];exact⟨M,rfl,c⟩
  |true =>
   rw[Aj];obtain⟨k,M',j,w,y,r⟩:=zs0 n E g N f (E,true,M) rfl (λk2_1_0y0 k2_1_0y1=>(M5 n K m) (E,k2_1_0y0,k2_1_0y1)) n 0 false M Ω Ω c;simp only[aD]at j;rw[j];have q:N+3<m+1+M.length:=by
    rcases h1 with h|h
    ·exact h
    ·exact absurd h.1 Δ
   refine zs1 n o E g N e f K m k M' ?_ w;cases k with
   |false=>exact aS ⟨rfl,Ω⟩
   |true=>have:=(r rfl).resolve_left Δ;exact aT Ω
theorem y9m {l:Mp}(h:MK l)(k:Int):MK (mdl l k)/\∀v,has (mdl l k) v ↔ has l v/\v≠k:=by
 induction l with
 |nil=>exact⟨MK.nil,λv=>by simp[mdl,has]⟩
 |cons p r o =>
  obtain⟨a,b⟩:=p;have f:¬has r a:=(bJ.1 h.nd).1;unfold mdl;by_cases e:k=a
  ·rw[if_pos e];refine⟨h.tail,λv=>?_⟩;rw[Gs];constructor
   ·intro q;exact⟨aS q,λg=>f (by rw[<-e,<-g];exact q)⟩
   ·rintro ⟨q|q,c⟩
    ·exact absurd (q.trans e.symm) c
    ·exact q
  ·rw[if_neg e];obtain⟨m,j⟩:=o h.tail;refine⟨⟨bJ.2 ⟨λq=>f ((j a).1 q).1,m.nd⟩,λq w=>(aR.1 w).elim (λe=>e▸h.tr _ Δ) (m.tr q)⟩,λv=>?_⟩;rw[Gs,Gs,j];constructor
   ·rintro (q|⟨q,c⟩)
    ·exact⟨aT q,λg=>e (g.symm.trans q)⟩
    ·exact⟨aS q,c⟩
   ·rintro ⟨q|q,c⟩
    ·exact aT q
    ·exact aS ⟨q,c⟩
def frE (n:Nat)(sc:Scn):List Ed:=sc.fa.fEdges.filter (frP n sc)
theorem yb7 (n:Nat)(j:10000000<n)(sc:Scn)(h:ScR sc):∃M,N3 n sc=some M/\MK M/\∀t,has M t->0<=t/\t.toNat<sc.fa.fStates.length/\OpP (frE n sc) t:=by
 have r:=h.le;have q:=h.st;have A:(frE n sc).length<=sc.fa.fEdges.length:=bW _ _;unfold N3;rw[y5w n j sc h,A0,E8];have w:mput ([]:Mp) (-1) true=[((-1:Int),true)]:=rfl;rw[w];obtain⟨M,k,f⟩:=zs1 n j (frE n sc) Ω sc.fa.fStates.length Ω (λx o=>by
  have:=h.ed x (cG.1 o).1;omega) (λk1_0_0y=>mde k1_0_0y (-1) λe=>some e) n true [((-1:Int),true)] (aT Ω) ⟨⟨Δ,Δ⟩,λt c=>by simp[has]at c;omega,λt c=>by simp[has]at c;exact aT c⟩
 unfold frE at k;rw[k];obtain⟨z,y⟩:=y9m f.mks (-1);refine⟨mdl M (-1),by unfold mde;rfl,z,λt c=>?_⟩;obtain⟨g,m⟩:=(y t).1 c;have:=f.rg t g;exact⟨Ω,Ω,(f.op t g).resolve_left m⟩
inductive Pth (E:List Ed) (tt:Int):Int->List Int->Prop
 |one (x:Ed) (hx:x∈E) (h:x.fTo=tt):Pth E tt x.fFrom [x.fType]
 |cons (x:Ed) (hx:x∈E) {w:List Int} (h:Pth E tt x.fTo w):Pth E tt x.fFrom (x.fType::w)
def Cls (E:List Ed)(tt:Int)(M M':Mp):Prop:=∀t,has M' t->has M t\/∀x∈E,x.fFrom=t->has M' x.fTo/\x.fTo≠tt
structure SnOk (N:Nat) (tt:Int) (M:Mp):Prop where
 mks:MK M
 rg:∀t,has M t->-1<=t/\t<(N:Int)
 no:¬has M tt
structure PRes (E:List Ed) (tt:Int) (N f:Nat) (s:Int) (M:Mp) (w:List Int) (M':Mp):Prop where
 ok:SnOk N tt M'
 mono:∀t,has M t->has M' t
 ml:M.length<=M'.length
 len:w.length<=f
 yes:w≠[]->Pth E tt s w
variable {α β:Type}
theorem zys (a:α)(l:List α)(x:Option β):nlz (a::l) x=x:=by unfold nlz;rfl
theorem y4b (l:List α)(k:List α->Option β):bld l k=k l:=rfl
theorem zmv (n:Nat)(rF:Int->List Ed->Mp->Int->Option (List Int×List Ed×Mp×Int))(E:List Ed)(hE:E.length<=1100000)(tt:Int)(N:Nat)(T:∀x∈E,0<=x.fTo/\x.fTo<(N:Int))(f:Nat)(hf:f<=1000000)(s:Int)
  (rec:∀t M,SnOk N tt M->N+1<f+M.length->∃w M',rF t E M tt=some (w,E,M',tt)/\PRes E tt N f t M w M'/\(w=[]->Cls E tt M M'/\∀x∈E,x.fFrom=t->has M' x.fTo/\x.fTo≠tt)) :
  ∀(m k:Nat) (M:Mp),k<=E.length->E.length<m+k->SnOk N tt M->N+1<f+1+M.length->∃w M',J2 n rF E s (λX V U=>some ([],X,U,V)) m ((k:Int),E,tt,M)=some (w,E,M',tt)/\PRes E tt N (f+1) s M w M'/\(w=[]->Cls E tt M M'/\∀x∈E.drop k,x.fFrom=s->has M' x.fTo/\x.fTo≠tt)
 |0,k,M,h1,h2,o,R=>by omega
 |m+1,k,M,h1,h2,o,R=>by
  unfold J2;simp only[aC];rw[A4];by_cases O:k<E.length
  ·have J:=λM hM hc=>zmv n rF E hE tt N T f hf s rec m (k+1) M Ω Ω hM hc
   have K:=aH O;rw[if_pos Ω,Ae O,Af k Ω,Ar,A4,aG O];by_cases q:E[k].fFrom=s
   ·rw[if_pos q,Ki];cases I:(mlk M E[k].fTo).getD false with
    |true =>
     rw[Aj];have hm:=(o.mks.get _).1 I;obtain⟨w,M',G,r,A⟩:=J M o R;refine⟨w,M',G,r,λz=>⟨(A z).1,λx g j=>(aR.1 g).elim (λe=>?_) (λg=>(A z).2 x g j)⟩⟩;rw[e];exact⟨r.mono _ hm,λe'=>o.no (e'▸hm)⟩
    |false =>
     rw[Al,A4];have L:¬has M E[k].fTo:=λD=>by rw[(o.mks.get _).2 D]at I;cases I
     by_cases C:E[k].fTo=tt
     ·rw[if_pos C,y4b,zys];refine⟨[E[k].fType],M,rfl,⟨o,λ_ h=>h,aW _,Δ,λ_=>?_⟩,λh=>by cases h⟩;rw[<-q];exact .one _ K C
     ·rw[if_neg C,E8];have hl:=o.mks.put_len E[k].fTo;rw[if_neg L]at hl;have B:=o.mks.has_put E[k].fTo;have P:SnOk N tt (mput M E[k].fTo true):=⟨o.mks.put _,λt D=>((B t).1 D).elim (λe=>by have:=T _ K;rw[e];omega) (o.rg t),λD=>((B tt).1 D).elim (λe=>C e.symm) o.no⟩;obtain⟨w1,M2,Z,y,Y⟩:=rec E[k].fTo _ P Ω;have aa:=y.ml;rw[Z,Ck];simp only;cases w1 with
      |cons a w1 =>
       have F:=y.len;simp only[bE]at F;rw[aP,List.isEmpty_cons,aV,Aj,Ox,Ak,y4b,Bo Ψ Θ,bX,zys];refine⟨_,M2,rfl,⟨y.ok,λt h=>y.mono t ((B t).2 (aS h)),Ω,by simp only[bE];omega,λ_=>?_⟩,λh=>by cases h⟩;rw[<-q];exact .cons _ K (y.yes Δ)
      |nil =>
       rw[bK,List.isEmpty_nil,aL,Al];obtain⟨c1,c2⟩:=Y rfl;obtain⟨w,M',G,r,A⟩:=J M2 y.ok Ω;have ab:=r.ml;refine⟨w,M',G,⟨r.ok,λt h=>r.mono t (y.mono t ((B t).2 (aS h))),Ω,r.len,r.yes⟩,λz=>?_⟩;obtain⟨d1,d2⟩:=A z;refine⟨λt ht=>?_,λx g j=>(aR.1 g).elim (λe=>?_) (λg=>d2 x g j)⟩
       ·rcases d1 t ht with d|d
        ·rcases c1 t d with c|c
         ·rcases(B t).1 c with e|e
          ·refine aS λx g j=>?_
           have:=c2 x g (j.trans e);exact⟨r.mono _ this.1,this.2⟩
          ·exact aT e
         ·exact aS λx g j=>⟨r.mono _ (c x g j).1,(c x g j).2⟩
        ·exact aS d
       ·rw[e];exact⟨r.mono _ (y.mono _ ((B _).2 (aT rfl))),C⟩
   ·rw[if_neg q];obtain⟨w,M',G,r,A⟩:=J M o R;refine⟨w,M',G,r,λz=>⟨(A z).1,λx g j=>(aR.1 g).elim (λe=>absurd (e▸j) q) (λg=>(A z).2 x g j)⟩⟩
  ·rw[if_neg Ω,aF Ω];exact⟨[],M,rfl,⟨o,λ_ h=>h,aW _,Δ,λh=>absurd rfl h⟩,λ_=>⟨λt h=>aT h,Δ⟩⟩
theorem y2d (E:List Ed)(e:E.length<=1100000)(tt:Int)(N:Nat)(c:∀x∈E,0<=x.fTo/\x.fTo<(N:Int)):∀(f:Nat),f<=1000000->∀(s:Int) (M:Mp),SnOk N tt M->N+1<f+M.length->∀n,20000000+f<n->∃w M',Mo n s E M tt=some (w,E,M',tt)/\PRes E tt N f s M w M'/\(w=[]->Cls E tt M M'/\∀x∈E,x.fFrom=s->has M' x.fTo/\x.fTo≠tt)
 |0,_,s,M,h1,m,n,h=>by have:=h1.mks.len_le N h1.rg;omega
 |f+1,o,s,M,h1,m,n,h=>by
  obtain⟨n,rfl⟩:∃g,n=g + 1:=⟨n-1,Ω⟩;simp only[Mo];have:=zmv n (Mo n) E e tt N c f Ω s (λt M k j=>y2d E e tt N c f Ω t M k j n Ω) n 0 M Ω Ω h1 Ω;simpa only[aD,aY]using this
def ptE (n:Nat)(sc:Scn)(tt:Int):List Ed:=sc.fa.fEdges.filter (λx=>frP n sc x && ptP sc.fa tt x)
theorem yb6 (n:Nat)(r:30000000<n)(sc:Scn)(h:ScR sc)(tt:Int)(c:0<=tt/\tt.toNat<sc.fa.fStates.length):∃w M,Sf n sc tt=some w/\w.length<=300/\(w≠[]->Pth (ptE n sc tt) tt 0 w)/\(w=[]->(∀t,has M t->∀x∈ptE n sc tt,x.fFrom=t->has M x.fTo/\x.fTo≠tt)/\∀x∈ptE n sc tt,x.fFrom=0->has M x.fTo/\x.fTo≠tt):=by
 have o:=h.st;have q:=h.le;have y:(ptE n sc tt).length<=sc.fa.fEdges.length:=bW _ _;obtain⟨w,M,k,j,g⟩:=y2d (ptE n sc tt) Ω tt sc.fa.fStates.length (λx m=>by
  obtain⟨h1,f⟩:=cG.1 m;have:=h.ed x h1;unfold ptP at f;simp only[aQ,decide_eq_true_eq]at f;omega) 300 Ω 0 [] ⟨MK.nil,λt c=>absurd c (Gu t),Gu tt⟩ Ψ n Ω
 unfold Sf;unfold ptE at k;rw[y5v n Ω sc h tt c,Ck];simp only;rw[k,Ck];refine⟨w,M,rfl,j.len,j.yes,λe=>⟨λt c=>((g e).1 t c).resolve_left (Gu t),(g e).2⟩⟩
structure AtOk (N:Nat) (M:Mp):Prop where
 mks:MK M
 rg:∀t,has M t->0<=t/\t<(N:Int)
def pfxE (types:List Ba)(i:Nat)(k:Int):Ev:=⟨0,(i:Int),k,(i:Int),(((types[k.toNat]?).map (·.fFields)).getD []).map λf=>⟨f.fKind,0,ByteArray.empty⟩⟩
def pfxL (types:List Ba):Nat->List Int->List Ev |_,[]=>[] |i,k::r=>pfxE types i k::pfxL types (i+1) r
theorem zjh (n:Nat)(w:List Int)(sc:Scn)(V:Int×List Ev)(kd:Int)(S:Ba)(e:S.fFields.length<=1000000)(K:Int->List A9->Option (List Ev)):∀(m k:Nat) (acc:List A9),k<=S.fFields.length->S.fFields.length<m+k->acc.length<=k->Q6 n w sc V kd S K m ((k:Int),acc)=K kd (acc++(S.fFields.drop k).map λf=>⟨f.fKind,0,ByteArray.empty⟩)
 |0,k,acc,h1,h,g=>by omega
 |m+1,k,acc,h1,h,g=>by
  unfold Q6;simp only[aC];rw[A4];by_cases c:k<S.fFields.length
  ·rw[if_pos Ω,Ae c,Bo Ψ Θ,Af k Ω,aG c,zjh n w sc V kd S e K m (k+1) _ Ω Ω Ψ,append_assoc];rfl
  ·rw[if_neg Ω,aF Ω];simp
theorem zjj (n:Nat)(q:10000000<n)(w:List Int)(o:w.length<=1000000)(sc:Scn)(g:∀k∈w,0<=k/\k.toNat<sc.ftypes.length)(h:∀S∈sc.ftypes,S.fFields.length<=1000000):∀(m k:Nat) (acc:List Ev),k<=w.length->w.length<m+k->acc.length<=k->Q7 n w sc (λy=>some y) m ((k:Int),acc)=some (acc++pfxL sc.ftypes k (w.drop k))
 |0,k,acc,h1,c,x=>by omega
 |m+1,k,acc,h1,c,x=>by
  unfold Q7;simp only[aC];rw[A4];by_cases f:k<w.length
  ·obtain⟨j,e⟩:=g _ (aH f);have r:=h _ (aH e);have c:=λK=>zjh n w sc ((k:Int),acc) w[k] sc.ftypes[w[k].toNat] r K n 0 [] Ω Ω Δ
   simp only[aD,aY,nil_append]at c;rw[if_pos Ω,Ae f,Ov j e,c,Yt,Ak,Bo Ψ Θ,Af k Ω,aG f,zjj n q w o sc g h m (k+1) _ Ω Ω Ψ];simp only[pfxL,append_assoc,bX];congr 3;unfold pfxE;rw[aE e];rfl
  ·rw[if_neg Ω,aF Ω];simp[pfxL]
theorem y5n (n:Nat)(f:10000000<n)(w:List Int)(c:w.length<=1000000)(sc:Scn)(e:∀k∈w,0<=k/\k.toNat<sc.ftypes.length)(g:∀S∈sc.ftypes,S.fFields.length<=1000000):Vs n sc w=some (pfxL sc.ftypes 0 w):=by
 have:=zjj n f w c sc e g n 0 [] Ω Ω Δ;simpa[Vs]using this
variable {s:ByteArray}{i:Nat}
theorem zum (h:i<s.size):Uj s i≠none:=by
 unfold Uj;rw[Array.getElem?_eq_getElem (show i<s.data.size from h)];simp
theorem zov (h:i<s.size)(k:Int->Option β):∃b,idb s (i:Int) k=k b:=by
 unfold idb;rw[if_pos Ω];simp only[bT];cases e:Uj s i with
 |some b=>exact⟨_,rfl⟩
 |none=>exact absurd e (zum h)
theorem y5r (n:Nat)(c:Int):∃ r,K3 n c=some r:=by
 unfold K3
 simp only [Ay,Ak,Er,A4]
 repeat' split
 all_goals exact ⟨_,rfl⟩
theorem y2k (n:Nat)(c:Int):∃r,Fj n c=some r:=by
 unfold Fj;simp only[Ay,Ak,Jz,A4];repeat' split;all_goals exact⟨_,rfl⟩
theorem zs3 (n:Nat)(s:ByteArray)(hs:s.size<=24):∀(m k:Nat),k<=s.size->s.size<m+k->∃r,E5 n s (some true) m (k:Int)=some r
 |0,k,h1,z=>by omega
 |m+1,k,h1,z=>by
  unfold E5;rw[A4];by_cases h:k<s.size
  ·have q:=zs3 n s hs m (k+1) Ω Ω;have key:∀b,∃r,Et n s (k:Int) (E5 n s (some true) m) b=some r:=λb=>by
    unfold Et;rw[Af k Ω];cases b with
    |true=>rw[Aj];exact⟨_,rfl⟩
    |false=>rw[Al];exact q
   rw[if_pos Ω];simp only[Ay,Ak];obtain⟨b,y⟩:=zov h (λj=>bnd (K3 n j) λg =>
   cnd (!(g))
    (idb s (k:Int) λf =>
    bnd (Fj n f) λe =>
    Et n s (k:Int) (E5 n s (some true) m) !(e))
   <| Et n s (k:Int) (E5 n s (some true) m) false)
   rw[y];obtain⟨c,x⟩:=y5r n b;rw[x,A0,Ar];cases c with
   |true=>rw[Aj];exact key _
   |false =>
    rw[Al];obtain⟨A,o⟩:=zov h (λf=>bnd (Fj n f) λe=>Et n s (k:Int) (E5 n s (some true) m) !(e));obtain⟨d,w⟩:=y2k n A;rw[o,w,A0];exact key _
  ·rw[if_neg Ω];exact⟨_,rfl⟩
theorem y7j (n:Nat)(k:10000000<n)(s:ByteArray):∃r,K9 n s=some r:=by
 unfold K9;simp only[Ay,Ak,A4];have h:∀b,(s.size<=24)->∃r,Dl n s b=some r:=λb hs=>by
  unfold Dl;cases b with
  |true=>rw[Aj];exact⟨_,rfl⟩
  |false =>
   rw[Al];have:=zs3 n s hs n 0 Ω Ω;simpa using this
 have f:∃r,Dl n s true=some r:=by
  unfold Dl;rw[Aj];exact⟨_,rfl⟩
 split
 ·exact f
 ·split
  ·exact f
  ·obtain⟨b,g⟩:=zov (s:=s) (i:=0) Ω (λe=>bnd (Fj n e) λc=>Dl n s c);obtain⟨d,j⟩:=y2k n b;simp only[aD]at g;rw[g,j,A0];exact h d Ω
def FdOk (S:Ba):Prop:=S.fFields.length<=8/\∀f∈S.fFields,0<=f.fKind/\f.fKind<3
theorem zjf (n:Nat)(q:10000000<n)(S:Ba)(w:S.fFields.length<=8):∀(m k:Nat) (M:List (ByteArray×Bool)),k<=S.fFields.length->S.fFields.length<m+k->(∀f∈S.fFields.take k,0<=f.fKind/\f.fKind<3)->∃r,Fg n S (some 0) m ((k:Int),M)=some r/\(r=0->FdOk S)
 |0,k,M,h1,A,j=>by omega
 |m+1,k,M,h1,A,j=>by
  unfold Fg;simp only[aC];rw[A4];by_cases h:k<S.fFields.length
  ·rw[if_pos Ω,Ae h];obtain⟨c,y⟩:=y7j n q S.fFields[k].fName;have g:∃r,Sr n S.fFields[k].fName=some r:=by
    unfold Sr;simp only[Ay,Ak,Jo];rw[y,A0];cases c with
    |true=>rw[Aj];exact⟨_,rfl⟩
    |false=>rw[Al];exact⟨_,rfl⟩
   obtain⟨d,x⟩:=g;have o:∀b M',(b=false->0<=S.fFields[k].fKind/\S.fFields[k].fKind<3)->∃r,Hs n S ((k:Int),M') (Fg n S (some 0) m) S.fFields[k] b=some r/\(r=0->FdOk S):=λb M' z=>by
    unfold Hs;cases b with
    |true=>rw[Aj];exact⟨_,rfl,λh=>by cases h⟩
    |false =>
     rw[Al,E8,Af k Ω];refine zjf n q S w m (k+1) _ Ω Ω (λf g=>?_);rw[aK h,bS,aM]at g;exact g.elim (j f) (λe=>e▸z rfl)
   rw[x,A0,Ar];cases d with
   |false=>rw[Al];exact⟨_,rfl,λh=>by cases h⟩
   |true =>
    rw[Aj,Ki];cases (mlk M S.fFields[k].fName).getD false with
    |true=>rw[Aj];exact⟨_,rfl,λh=>by cases h⟩
    |false =>
     rw[Al];simp only[Ay,Ak];rw[A4];split
     ·exact o true M (λh=>by cases h)
     ·exact o _ M (λh=>by simp at h;omega)
  ·rw[if_neg Ω];rw[bV Ω]at j;exact⟨0,rfl,λ_=>⟨w,j⟩⟩
theorem y5g (n:Nat)(e:10000000<n)(S:Ba):∃r,Nx n S=some r/\(r=0->FdOk S):=by
 obtain⟨c,f⟩:=y7j n e S.fName;unfold Nx;simp only[aC];rw[f,A0,Ar];cases c with
 |false=>rw[Al];exact⟨_,rfl,λh=>by cases h⟩
 |true =>
  rw[Aj,A4];split
  ·exact⟨_,rfl,λh=>by cases h⟩
  ·have:=zjf n e S Ω n 0 [] Ω Ω Δ;simpa using this
theorem zst (n:Nat)(j:10000000<n)(T:List Ba)(x:T.length<=16):∀(m k:Nat) (M:List (ByteArray×Bool)),k<=T.length->T.length<m+k->(∀S∈T.take k,FdOk S)->∃r,Js n T (some 0) m ((k:Int),M)=some r/\(r=0->∀S∈T,FdOk S)
 |0,k,M,h1,y,f=>by omega
 |m+1,k,M,h1,y,f=>by
  unfold Js;simp only[aC];rw[A4];by_cases h:k<T.length
  ·obtain⟨c,w,g⟩:=y5g n j T[k];rw[if_pos Ω,Ae h,w,A0,Ar,A4];split
   ·rename_i q;rw[Ki];cases (mlk M T[k].fName).getD false with
    |true=>rw[Aj];exact⟨_,rfl,λh=>by cases h⟩
    |false =>
     rw[Al,E8,Af k Ω];refine zst n j T x m (k+1) _ Ω Ω (λS o=>?_);rw[aK h,bS,aM]at o;exact o.elim (f S) (λe=>e▸g q)
   ·rename_i q;exact⟨c,rfl,λe=>absurd e q⟩
  ·rw[if_neg Ω];rw[bV Ω]at f;exact⟨0,rfl,λ_=>f⟩
theorem ybu (n:Nat)(g:10000000<n)(T:List Ba):∃r,Ht n T=some r/\(r=0->T.length<=16/\∀S∈T,FdOk S):=by
 unfold Ht;simp only[aC];rw[A4];split
 ·exact⟨_,rfl,λh=>by cases h⟩
 ·have e:T.length<=16:=Ω
  obtain⟨r,c,f⟩:=zst n g T e n 0 [] Ω Ω Δ;simp only[aD]at c;exact⟨r,c,λh=>⟨e,f h⟩⟩
theorem y8y (n:Nat)(f:10000000<n)(T:List Ba)(a:Aut)(g:WfA a)(rate:Int):∃r,Hx n T a rate=some r/\(r=0->Ht n T=some 0/\(T.length<=16/\∀S∈T,FdOk S)/\Cp n a=some 0/\AOk a/\1<=rate/\rate<=4096):=by
 obtain⟨c,o,m⟩:=ybu n f T;obtain⟨d,_,k,j⟩:=Yh n f a g;unfold Hx;simp only[Ar,A4,Ay,Ak,K0];rw[o,A0];by_cases q:c=0
 ·rw[if_pos q,k,A0];by_cases e:d=0
  ·rw[if_pos e];subst q e;split
   ·rw[Aj];exact⟨_,rfl,λh=>by cases h⟩
   ·split
    ·exact⟨_,rfl,λh=>by cases h⟩
    ·exact⟨_,rfl,λ_=>⟨rfl,m rfl,rfl,j rfl,Ω,Ω⟩⟩
  ·rw[if_neg e];exact⟨d,rfl,λh=>absurd h e⟩
 ·rw[if_neg q];exact⟨c,rfl,λh=>absurd h q⟩
theorem Ua {o:Option α}{k:α->Option β}{r:β}(h:bnd o k=some r):∃a,o=some a/\k a=some r:=by
 unfold bnd at h;cases o with
 |none=>cases h
 |some a=>exact⟨a,rfl,h⟩
theorem cnd_inv {b:Bool}{x y:Option β}{r:β}(h:cnd b x y=some r):(b=true/\x=some r)\/(b=false/\y=some r):=by
 cases b with
 |true=>rw[Aj]at h;exact aT ⟨rfl,h⟩
 |false=>rw[Al]at h;exact aS ⟨rfl,h⟩
variable {n:Nat}{a:Aut}
theorem zke {x:Ed}{K:Option Int}:∀(m:Nat) (k:Int),Hq n x a K m k=some 0->K=some 0
 |0,k,h=>by unfold Hq at h;cases h
 |m+1,k,h=>by
  unfold Hq at h;rcases cnd_inv h with⟨_,h⟩|⟨_,h⟩
  ·unfold idxD at h;split at h
   ·split at h
    ·split at h
     ·obtain⟨c,_,h⟩:=Ua h;rcases cnd_inv h with⟨q,h⟩|⟨_,h⟩
      ·injection h with h;subst h;simp at q
      ·exact zke m _ h
     ·cases h
    ·cases h
   ·cases h
  ·exact h
theorem y6q (m:10000000<n){x:Ed}(g:WfX x){bf:Int}(h:K2 n a x bf=some 0):0<=x.fType/\∀l∈x.fLimits,0<=l.fSpan/\l.fSpan<=1099511627776:=by
 have e:Dk n bf x a true≠some 0:=by
  unfold Dk;rw[Aj];intro h;cases h
 have j:=g.ll;unfold K2 at h;simp only[Ay,Ak,Yg,A0]at h;rcases cnd_inv h with⟨_,h⟩|⟨_,h⟩
 ·exact absurd h e
 rcases cnd_inv h with⟨_,h⟩|⟨_,h⟩
 ·exact absurd h e
 rcases cnd_inv h with⟨_,h⟩|⟨_,h⟩
 ·exact absurd h e
 rcases cnd_inv h with⟨_,h⟩|⟨_,h⟩
 ·exact absurd h e
 cases q:(decide (0<=x.fType) && decide (x.fType<16))with
 |false=>rw[q]at h;exact absurd h e
 |true =>
  rw[q]at h;simp only[aQ,decide_eq_true_eq]at q;refine⟨q.1,?_⟩;unfold Dk at h;rw[aL,Al]at h;rcases cnd_inv h with⟨_,h⟩|⟨_,h⟩
  ·cases h
  obtain⟨c,_,h⟩:=Ua h;rcases cnd_inv h with⟨f,h⟩|⟨_,h⟩
  ·injection h with h;subst h;simp at f
  rcases cnd_inv h with⟨_,h⟩|⟨_,h⟩
  ·cases h
  have h:=zke _ _ h;obtain⟨_,_,h⟩:=Ua h;obtain⟨c,_,h⟩:=Ua h;rcases cnd_inv h with⟨f,h⟩|⟨_,h⟩
  ·injection h with h;subst h;simp at f
  rw[zn1 n (λl=>decide (l.fSpan<0) || decide (1099511627776<l.fSpan)) x.fLimits Ω Ω (λl _=>by
   unfold Jx;simp only[Ay,Ak,Jr,A4];by_cases q:l.fSpan<0<;>simp[q]),A0]at h
  rcases cnd_inv h with⟨_,h⟩|⟨f,_⟩
  ·cases h
  intro l k;have:=any_eq_false.1 f l k;simp only[cB,decide_eq_true_eq,not_or]at this;omega
theorem zhl (o:a.fEdges.length<=1100000):∀(m k:Nat) (bf:Int),Hm n a (some 0) m (bf,(k:Int))=some 0->∀x∈a.fEdges.drop k,∃bf,K2 n a x bf=some 0
 |0,k,bf,h=>by unfold Hm at h;cases h
 |m+1,k,bf,h=>by
  unfold Hm at h;simp only[aC]at h;rcases cnd_inv h with⟨q,h⟩|⟨q,_⟩
  ·have j:k<a.fEdges.length:=by have:=of_decide_eq_true q;omega
   rw[Ae j,Af k Ω]at h;obtain⟨c,r,h⟩:=Ua h;rcases cnd_inv h with⟨f,h⟩|⟨f,h⟩
   ·injection h with h;subst h;simp at f
   ·intro x g;rw[aG j]at g;rcases aR.1 g with e|g
    ·rw[e];refine⟨bf,?_⟩;rw[r];simp at f;rw[f]
    ·exact zhl o m (k+1) _ h x g
  ·have:¬(k:Int)<(a.fEdges.length:Int):=of_decide_eq_false q;rw[aF Ω];simp
theorem zhm {K:Option Int}:∀(m:Nat) (k:Int),Hn n a K m k=some 0->K=some 0
 |0,k,h=>by unfold Hn at h;cases h
 |m+1,k,h=>by
  unfold Hn at h;rcases cnd_inv h with⟨_,h⟩|⟨_,h⟩
  ·unfold idx at h;split at h
   ·split at h
    ·obtain⟨c,_,h⟩:=Ua h;rcases cnd_inv h with⟨q,h⟩|⟨_,h⟩
     ·injection h with h;subst h;simp at q
     ·exact zhm m _ h
    ·cases h
   ·cases h
  ·exact h
theorem zuj (o:10000000<n)(m:WfA a)(h:Cp n a=some 0):(0<=a.fScopes/\a.fScopes<=64)/\∀x∈a.fEdges,0<=x.fType/\∀l∈x.fLimits,0<=l.fSpan/\l.fSpan<=1099511627776:=by
 have c:E2 n a true≠some 0:=by
  unfold E2;rw[Aj];intro h;cases h
 have e:E1 n a true≠some 0:=by
  unfold E1;rw[Aj];intro h;cases h
 unfold Cp at h;simp only[Ay,Ak]at h;rcases cnd_inv h with⟨_,h⟩|⟨_,h⟩
 ·exact absurd h c
 rcases cnd_inv h with⟨_,h⟩|⟨_,h⟩
 ·exact absurd h c
 rcases cnd_inv h with⟨_,h⟩|⟨j,h⟩
 ·exact absurd h c
 cases q:decide (64<a.fScopes)with
 |true=>rw[q]at h;exact absurd h c
 |false =>
  rw[q]at h;have z:=of_decide_eq_false q;have j:=of_decide_eq_false j;refine⟨Ω,λx k=>?_⟩;unfold E2 at h;rw[Al]at h;simp only[Ay,Ak]at h;have f:E1 n a false=some 0:=by
   rcases cnd_inv h with⟨_,h⟩|⟨_,h⟩
   ·exact absurd h e
   rcases cnd_inv h with⟨_,h⟩|⟨_,h⟩
   ·exact absurd h e
   cases g:decide ((2048:Int)<((List.map Aa a.fEdges).length:Int))with
   |true=>rw[g]at h;exact absurd h e
   |false=>rw[g]at h;exact h
  unfold E1 at f;rw[Al]at f;have y:=zhm _ _ f;have w:=zhl m.le n 0 0 (by simpa using y);obtain⟨bf,r⟩:=w x (by simpa using k);exact y6q o (m.ed x k) r
theorem scR {T:List Ba}(e:WfA a)(h:AOk a)(f:10000000<n)(g:Cp n a=some 0):ScR ⟨T,a⟩:=by
 obtain⟨k,j⟩:=zuj f e g;exact⟨⟨⟨h.st,λx c=>⟨(h.ed x c).frm.1,(h.ed x c).frm.2,(h.ed x c).tgt.1,(h.ed x c).tgt.2⟩,e.le⟩,k,λx c=>⟨(e.ed x c).lo,(e.ed x c).lcl,(e.ed x c).li,(e.ed x c).ll⟩,λx c=>(j x c).2⟩,e⟩
def NoP (n:Nat)(sc:Scn)(tt:Int):Prop:=∃M:Mp,(∀t,has M t->∀x∈ptE n sc tt,x.fFrom=t->has M x.fTo/\x.fTo≠tt)/\∀x∈ptE n sc tt,x.fFrom=0->has M x.fTo/\x.fTo≠tt
structure YesP (n:Nat) (sc:Scn) (M:Mp) (w:List Int):Prop where
 ne:w≠[]
 len:w.length<=300
 tt:∃t,has M t/\Pth (ptE n sc t) t 0 w
theorem y1w {T:List Ba}(h:ScR ⟨T,a⟩)(q:10000000<n)(o:∀x∈a.fEdges,0<=x.fType){tt s:Int}{w:List Int}(p:Pth (ptE n ⟨T,a⟩ tt) tt s w):∀k∈w,0<=k/\k.toNat<T.length:=by
 have g:∀x∈ptE n ⟨T,a⟩ tt,0<=x.fType/\x.fType.toNat<T.length:=λx c=>by
  obtain⟨h1,j⟩:=cG.1 c;simp only[aQ]at j;have r:=((h.free n q h1).2 j.1).1;have y:=o x h1;simp only at r;omega
 induction p with
 |one x c e=>exactλk f=>by rw[aM]at f;rw[f];exact g x c
 |cons x c _ m=>exactλk f=>(aR.1 f).elim (λe=>e▸g x c) (m k)
theorem zoe (n:Nat)(B:30000000<n)(T:List Ba)(a:Aut)(h:ScR ⟨T,a⟩)(C:∀S∈T,FdOk S)(r:∀x∈a.fEdges,0<=x.fType)(M:Mp)(f:MK M):∀(m k:Nat),k<=a.fStates.length->a.fStates.length<m+k->(∀t:Nat,t<k->has M (t:Int)->NoP n ⟨T,a⟩ (t:Int))->(∃w,Ju n a T M (some (⟨0,0,[],0⟩,0)) m (k:Int)=some (⟨2,0,pfxL T 0 w,(w.length:Int)⟩,0)/\YesP n ⟨T,a⟩ M w)\/(Ju n a T M (some (⟨0,0,[],0⟩,0)) m (k:Int)=some (⟨0,0,[],0⟩,0)/\∀t:Nat,t<a.fStates.length->has M (t:Int)->NoP n ⟨T,a⟩ (t:Int))
 |0,k,h1,L,j=>by omega
 |m+1,k,h1,L,j=>by
  unfold Ju;simp only[aC];rw[A4];have y:=h.st;simp only at y;by_cases J:k<a.fStates.length
  ·rw[if_pos Ω,Oy,Ar,Af k Ω];cases q:(mlk M (k:Int)).getD false with
   |false =>
    rw[Al];refine zoe n B T a h C r M f m (k+1) Ω Ω (λt E g=>?_);by_cases e:t=k
    ·subst e;rw[(f.get _).2 g]at q;cases q
    ·exact j t Ω g
   |true =>
    obtain⟨w,A,w1,I,G,F⟩:=yb6 n B ⟨T,a⟩ h (k:Int) ⟨Ω,by simpa using J⟩;rw[Aj,w1,A0];cases w with
    |nil =>
     rw[bK,List.isEmpty_nil,aL,Al];refine zoe n B T a h C r M f m (k+1) Ω Ω (λt E g=>?_);by_cases e:t=k
     ·subst e;exact⟨A,F rfl⟩
     ·exact j t Ω g
    |cons c w =>
     have D:=G Δ;have o:=y1w h Ω r D;have z:=y5n n Ω (c::w) Ω ⟨T,a⟩ o (λS K=>by have:=(C S K).1;omega);refine aT ⟨c::w,?_,Δ,I,(k:Int),(f.get _).1 q,D⟩;rw[aP,List.isEmpty_cons,aV,Aj,Ox,Ak,z,A0]
  ·rw[if_neg Ω];exact aS ⟨rfl,λt E=>j t Ω⟩
theorem y0d (n:Nat)(j:30000000<n)(T:List Ba)(a:Aut)(rate:Int)(h:ScR ⟨T,a⟩)(m:Hx n T a rate=some 0)(k:∀S∈T,FdOk S)(g:∀x∈a.fEdges,0<=x.fType)(b:Int)(ok:Bool)(o:K7 n a rate=some (b,ok)):∃M,N3 n ⟨T,a⟩=some M/\((ok=true/\Fh n T a rate=some (⟨1,b,[],0⟩,0))\/(ok=false/\((∃w,Fh n T a rate=some (⟨2,0,pfxL T 0 w,(w.length:Int)⟩,0)/\YesP n ⟨T,a⟩ M w)\/(Fh n T a rate=some (⟨0,0,[],0⟩,0)/\∀t:Nat,t<a.fStates.length->has M (t:Int)->NoP n ⟨T,a⟩ (t:Int))))):=by
 obtain⟨M,e,f,q⟩:=yb7 n Ω ⟨T,a⟩ h;have c:=h.st;simp only at c;refine⟨M,e,?_⟩;unfold Fh;rw[m,A0];simp only[Ar,A4,if_true];rw[o,A0];cases ok with
 |true=>simp only;rw[Aj];exact aT ⟨by trivial,rfl⟩
 |false =>
  simp only;rw[Al,e,A0];have:=zoe n j T a h k g M f n 0 Ω Ω (λt h=>by omega);simp only[aD]at this;exact aS ⟨by trivial,this⟩
def ltP (c:Int):Bool:=(decide (97<=c) && decide (c<=122)) || (decide (65<=c) && decide (c<=90)) || decide (c=95)
def dgP (c:Int):Bool:=decide (48<=c) && decide (c<=57)
theorem ybb (n:Nat)(c:Int):K3 n c=some (ltP c):=by
 unfold K3 ltP;simp only[Ay,Ak,Er,A4];repeat' split;all_goals (simp_all<;>try omega)
theorem y27 (n:Nat)(c:Int):Rl n c=some (ltP c):=by
 unfold Rl ltP;simp only[Ay,Ak,Eo,A4];repeat' split;all_goals (simp_all<;>try omega)
theorem y7k (n:Nat)(c:Int):Fj n c=some (dgP c):=by
 unfold Fj dgP;simp only[Ay,Ak,Jz,A4];by_cases h:48<=c<;>simp[h]
theorem y3c (h:i<s.size):∃b:Int,∀k:Int->Option Bool,idb s (i:Int) k=k b:=by
 unfold idb;cases e:Uj s i with
 |none=>exact absurd e (zum h)
 |some b =>
  refine⟨b.toNat,λk=>?_⟩;rw[if_pos Ω];simp only[bT,e]
theorem zy7 (n:Nat)(s:ByteArray)(hs:s.size<=24):∀(m k:Nat),k<=s.size->s.size<m+k->∃r,Ha n s (some true) m (k:Int)=some r/\E5 n s (some true) m (k:Int)=some r/\∀h:k<s.size,∀b:Int,(∀K:Int->Option Bool,idb s (k:Int) K=K b)->ltP b=false->dgP b=false->r=false
 |0,k,h1,j=>by omega
 |m+1,k,h1,j=>by
  unfold Ha E5;rw[A4,A4];by_cases h:k<s.size
  ·obtain⟨b,A⟩:=y3c h;obtain⟨r,y,w,_⟩:=zy7 n s hs m (k+1) Ω Ω;rw[if_pos Ω,if_pos Ω];simp only[Ay,Ak,A,ybb,y27,y7k,A0,Ar,J9,Et,Af k (by omega:k<=1000000000000),y,w];have g:∀e:Int,(∀K:Int->Option Bool,K b=K e)->e=b:=λe c=>by
    have h1:=aJ (c (λx=>some (decide (x=b))));simp only[decide_true]at h1;exact of_decide_eq_true h1.symm
   cases z:ltP b with
   |true=>simp only[Aj,Al];exact⟨r,rfl,rfl,λ_ e c h1=>by rw[g e c,z]at h1;cases h1⟩
   |false =>
    simp only[Aj,Al,A4];by_cases q:b<48
    ·have f:dgP b=false:=by unfold dgP;simp;omega
     rw[if_pos q,f];simp only[Aj,Al,aV];exact⟨false,rfl,rfl,λ_ _ _ _ _=>rfl⟩
    ·rw[if_neg q];by_cases o:57<b
     ·have f:dgP b=false:=by unfold dgP;simp;omega
      rw[if_pos o,f];simp only[Aj,Al,aV];exact⟨false,rfl,rfl,λ_ _ _ _ _=>rfl⟩
     ·have f:dgP b=true:=by unfold dgP;simp;omega
      rw[if_neg o,f];simp only[Aj,Al,aL];exact⟨r,rfl,rfl,λ_ e c _ j=>by rw[g e c,f]at j;cases j⟩
  ·rw[if_neg Ω,if_neg Ω];exact⟨true,rfl,rfl,λB=>absurd B h⟩
theorem yb9 (n:Nat)(z:10000000<n)(s:ByteArray):∃r,Sa n s=some r/\K9 n s=some r:=by
 unfold Sa K9;simp only[Ay,Ak,A4];have h:Fe n s true=some false:=by unfold Fe;rw[Aj]
 have g:Dl n s true=some false:=by unfold Dl;rw[Aj]
 by_cases f:(s.size:Int)=0
 ·rw[if_pos f,if_pos f];exact⟨_,h,g⟩
 rw[if_neg f,if_neg f];by_cases c:(24:Int)<(s.size:Int)
 ·rw[if_pos c,if_pos c];exact⟨_,h,g⟩
 rw[if_neg c,if_neg c];obtain⟨b,e⟩:=y3c (s:=s) (i:=0) Ω;obtain⟨r,q,o,x⟩:=zy7 n s Ω n 0 Ω Ω;have j:=x Ω b e;simp only[aD]at e q o;rw[e,e,y27,A0,y7k,A0];have y:Fe n s false=some r:=by unfold Fe;rw[Al];exact q
 have w:Dl n s false=some r:=by unfold Dl;rw[Al];exact o
 cases k:ltP b with
 |true =>
  have m:dgP b=false:=by
   unfold ltP at k;unfold dgP;simp only[cB,aQ,decide_eq_true_eq]at k;simp;omega
  rw[m,aL];exact⟨r,y,w⟩
 |false =>
  rw[aV,h];cases m:dgP b with
  |true=>exact⟨false,rfl,g⟩
  |false=>exact⟨false,rfl,by rw[w,j k m]⟩
theorem zzn (a b:ByteArray):(a.toList == b.toList)=decide (a=b):=I8 a b
theorem zy5 (n:Nat)(nm:ByteArray)(S:Ba)(z:S.fFields.length<=8)(i:Nat)(hi:i<S.fFields.length)(c:S.fFields[i].fName=nm):∀(m k:Nat),k<=i->i<m+k->∃j:Nat,Pe n nm S (some (-1)) m (k:Int)=some (j:Int)/\j<=i/\(j<i ↔ ∃q,k<=q/\∃h:q<i,S.fFields[q].fName=nm)
 |0,k,h1,A=>by omega
 |m+1,k,h1,A=>by
  unfold Pe;simp only[aC];rw[A4,if_pos Ω,Ae (by omega:k<S.fFields.length),zzn,A4,Af k Ω];by_cases q:S.fFields[k].fName=nm
  ·rw[if_pos q];exact⟨k,rfl,h1,λh=>⟨k,aW _,h,q⟩,λ⟨x,o,f,_⟩=>by omega⟩
  ·rw[if_neg q];have B:k≠i:=λe=>by subst e;exact q c
   obtain⟨j,y,w,r⟩:=zy5 n nm S z i hi c m (k+1) Ω Ω;refine⟨j,y,w,?_⟩;rw[r];constructor
   ·rintro ⟨x,o,f⟩;exact⟨x,Ω,f⟩
   ·rintro ⟨x,o,f,g⟩;by_cases e:x=k
    ·subst e;exact absurd g q
    ·exact⟨x,Ω,f,g⟩
def SnM (M:List (ByteArray×Bool))(l:List ByteArray):Prop:=∀k,(mlk M k).getD false=true ↔ k∈l
theorem SnM.put {M:List (ByteArray×Bool)}{l:List ByteArray}(h:SnM M l)(k:ByteArray):SnM (mput M k true) (l++[k]):=λx=>by
 rw[zok];by_cases e:x=k
 ·simp[e]
 ·rw[if_neg e,h];simp[e]
theorem zrp (n:Nat)(A:10000000<n)(S:Ba)(C:S.fFields.length<=8):∀(m k:Nat) (M:List (ByteArray×Bool)),k<=S.fFields.length->S.fFields.length<m+k->SnM M ((S.fFields.take k).map (·.fName))->∃r,H7 n S (some 0) m (k:Int)=some r/\Fg n S (some 0) m ((k:Int),M)=some r
 |0,k,M,h1,J,x=>by omega
 |m+1,k,M,h1,J,x=>by
  unfold H7 Fg;simp only[aC];rw[A4,A4];by_cases h:k<S.fFields.length
  ·have w:SnM (mput M S.fFields[k].fName true) ((S.fFields.take (k+1)).map (·.fName)):=by
    rw[aK h,map_append];exact x.put _
   obtain⟨r,F,E⟩:=zrp n A S C m (k+1) _ Ω Ω w;obtain⟨c,L,K⟩:=yb9 n A S.fFields[k].fName;obtain⟨j,y,N,G⟩:=zy5 n S.fFields[k].fName S C k h rfl n 0 Ω Ω;simp only[aD]at y;rw[if_pos Ω,if_pos Ω,Ae h,Ae h];have g:H8 n S (k:Int) (H7 n S (some 0) m) S.fFields[k] true=some 8:=by
    unfold H8;rw[Aj]
   have o:(mlk M S.fFields[k].fName).getD false=decide (j<k):=by
    refine cC.2 ?_;rw[x,decide_eq_true_eq,G];simp only[bD];constructor
    ·rintro ⟨f,I,e⟩;obtain⟨q,z,D⟩:=aZ.1 I;rw[aX]at z;rw[bL]at D;exact⟨q,aN _,Ω,by rw[D];exact e⟩
    ·rintro ⟨q,_,z,e⟩;exact⟨S.fFields[q],aZ.2 ⟨q,by rw[aX];omega,by rw[bL]⟩,e⟩
   simp only[Ay,Ak,L,A0,Ar];unfold Sr;simp only[Ay,Ak,Jo,K,A0];cases c with
   |false=>rw[Al,Al,A0,Al,g];exact⟨8,rfl,rfl⟩
   |true =>
    rw[Aj,Aj,A0,Ar];cases O:(S.fFields[k].fName.toList == (ByteArray.mk #[116,105,109,101]).toList)with
    |true=>rw[Aj,g];exact⟨8,rfl,rfl⟩
    |false =>
     rw[Al];unfold H8 Zl;rw[Al,y,A0,Ki,o,A4];by_cases B:j<k
     ·rw[if_pos Ω,decide_eq_true B,Aj];exact⟨7,rfl,rfl⟩
     ·rw[if_neg Ω,decide_eq_false B,Al];simp only[Ay,Ak,J4,Hs,E8,Af k (by omega:k<=1000000000000),F,E,Ar,A4,Az,decide_eq_true_eq,Bool.not_eq_true',decide_eq_false_iff_not];rcases(show S.fFields[k].fKind=0\/S.fFields[k].fKind=1\/S.fFields[k].fKind=2\/S.fFields[k].fKind<0\/3<=S.fFields[k].fKind by omega)with e|e|e|e|e
      ·simp[e]
      ·simp[e]
      ·simp[e]
      ·simp[e,show¬S.fFields[k].fKind=0 by omega,show¬S.fFields[k].fKind=1 by omega,show¬S.fFields[k].fKind=2 by omega]
      ·simp[e,show¬S.fFields[k].fKind=0 by omega,show¬S.fFields[k].fKind=1 by omega,show¬S.fFields[k].fKind=2 by omega,show¬S.fFields[k].fKind<0 by omega]
  ·rw[if_neg Ω,if_neg Ω];exact⟨0,rfl,rfl⟩
theorem yb3 (n:Nat)(e:10000000<n)(S:Ba):∃r,Vz n S=some r/\Nx n S=some r:=by
 obtain⟨c,g,f⟩:=yb9 n e S.fName;unfold Vz Nx;simp only[aC];rw[g,f,A0,A0,Ar,Ar];cases c with
 |false=>rw[Al,Al];exact⟨8,rfl,rfl⟩
 |true =>
  rw[Aj,Aj,A4,A4];split
  ·exact⟨5,rfl,rfl⟩
  ·have:=zrp n e S Ω n 0 [] Ω Ω (λk=>by simp[mlk]);simpa using this
theorem zxx (n:Nat)(nm:ByteArray)(T:List Ba)(z:T.length<=16)(i:Nat)(hi:i<T.length)(c:T[i].fName=nm):∀(m k:Nat),k<=i->i<m+k->∃j:Nat,Ql n nm T (some (-1)) m (k:Int)=some (j:Int)/\j<=i/\(j<i ↔ ∃q,k<=q/\∃h:q<i,T[q].fName=nm)
 |0,k,h1,A=>by omega
 |m+1,k,h1,A=>by
  unfold Ql;simp only[aC];rw[A4,if_pos Ω,Ae (by omega:k<T.length),zzn,A4,Af k Ω];by_cases q:T[k].fName=nm
  ·rw[if_pos q];exact⟨k,rfl,h1,λh=>⟨k,aW _,h,q⟩,λ⟨x,o,f,_⟩=>by omega⟩
  ·rw[if_neg q];have B:k≠i:=λe=>by subst e;exact q c
   obtain⟨j,y,w,r⟩:=zxx n nm T z i hi c m (k+1) Ω Ω;refine⟨j,y,w,?_⟩;rw[r];constructor
   ·rintro ⟨x,o,f⟩;exact⟨x,Ω,f⟩
   ·rintro ⟨x,o,f,g⟩;by_cases e:x=k
    ·subst e;exact absurd g q
    ·exact⟨x,Ω,f,g⟩
theorem zsu (n:Nat)(z:10000000<n)(T:List Ba)(B:T.length<=16):∀(m k:Nat) (M:List (ByteArray×Bool)),k<=T.length->T.length<m+k->SnM M ((T.take k).map (·.fName))->∃r,Pf n T (some 0) m (k:Int)=some r/\Js n T (some 0) m ((k:Int),M)=some r
 |0,k,M,h1,I,w=>by omega
 |m+1,k,M,h1,I,w=>by
  unfold Pf Js;simp only[aC];rw[A4,A4];by_cases h:k<T.length
  ·have o:SnM (mput M T[k].fName true) ((T.take (k+1)).map (·.fName)):=by
    rw[aK h,map_append];exact w.put _
   obtain⟨r,E,D⟩:=zsu n z T B m (k+1) _ Ω Ω o;obtain⟨c,K,J⟩:=yb3 n z T[k];obtain⟨j,x,L,F⟩:=zxx n T[k].fName T B k h rfl n 0 Ω Ω;simp only[aD]at x;have g:(mlk M T[k].fName).getD false=decide (j<k):=by
    refine cC.2 ?_;rw[w,decide_eq_true_eq,F];simp only[bD];constructor
    ·rintro ⟨f,G,e⟩;obtain⟨q,y,C⟩:=aZ.1 G;rw[aX]at y;rw[bL]at C;exact⟨q,aN _,Ω,by rw[C];exact e⟩
    ·rintro ⟨q,_,y,e⟩;exact⟨T[q],aZ.2 ⟨q,by rw[aX];omega,by rw[bL]⟩,e⟩
   rw[if_pos Ω,if_pos Ω];simp only[Ae h,K,J,A0,Ar,A4];by_cases e:c=0
   ·unfold z0q;rw[if_pos e,if_pos e,x,A0,Ki,g,A4,Af k Ω];by_cases A:j<k
    ·rw[if_pos Ω,if_pos A];exact⟨7,rfl,rfl⟩
    ·rw[if_neg Ω,if_neg A,E8];exact⟨r,E,D⟩
   ·rw[if_neg e,if_neg e];exact⟨c,rfl,rfl⟩
  ·rw[if_neg Ω,if_neg Ω];exact⟨0,rfl,rfl⟩
theorem ybv (n:Nat)(c:10000000<n)(T:List Ba):∃r,V7 n T=some r/\Ht n T=some r:=by
 unfold V7 Ht;simp only[aC];rw[A4,A4];split
 ·exact⟨5,rfl,rfl⟩
 ·have:=zsu n c T Ω n 0 [] Ω Ω (λk=>by simp[mlk]);simpa using this
theorem y7p {α:Type}[DecidableEq α]:∀{l m:List α},l.Nodup->(∀x∈l,x∈m)->l.length<=m.length
 |[],m,_,_=>by simp
 |x::r,m,h1,h=>by
  have f:=h x Δ;have g:=bJ.1 h1;have j:=y7p (m:=m.erase x) g.2 (λy c=>(mem_erase_of_ne (λe=>g.1 (by rw[<-e];exact c))).2 (h y (bA _ c)));rw[length_erase_of_mem f]at j;have:0<m.length:=length_pos_of_mem f;simp only[bE];omega
variable {l:List α}
theorem yap {c:α->α->Int}(h:TO c)(g:Str c l):l.Nodup:=by
 refine Pairwise.imp (λ{x y} f e=>?_) g;subst e;have:=(h.zero x x).2 rfl;omega
theorem y7d {held:List Ev}:∀(p r:List Ev) (cs:List Cf) (c:List Ma),(wiP 150 a held (p++r) cs c).2.2=true->(wiP 150 a held p cs c).2.2=true
 |[],r,cs,c,h=>rfl
 |f::p,r,cs,c,h=>by
  rw[cons_append]at h;unfold wiP at h ⊢;split at h
  ·cases h
  ·rename_i q;rw[if_neg q];exact y7d p r _ _ h
noncomputable def xsI (a:Aut)(l:List Ev)(i:Nat):List Cf:=(wiP 150 a l (l.take i) [cf0] []).1
noncomputable def msI (a:Aut)(l:List Ev)(i:Nat):List Ma:=(wiP 150 a l (l.take i) [cf0] []).2.1
theorem y4w {l:List Ev}(h:GS a l)(i:Nat):wiP 150 a l (l.take i) [cf0] []=(xsI a l i,msI a l i,true):=by
 have h1:=h.sm;rw[<-bI i l]at h1;have c:=y7d (l.take i) (l.drop i) [cf0] [] (by rw[bI]at h1 ⊢;exact h1);unfold xsI msI;rw[<-c]
theorem zvb (a:Aut)(l:List Ev):xsI a l 0=[cf0]/\msI a l 0=[]:=by unfold xsI msI;rw[take_zero];exact⟨rfl,rfl⟩
theorem zo2 {l:List Ev}(h:GS a l)(hi:i<l.length):xsI a l (i+1)=cfN a l (xsI a l i) l[i]/\msI a l (i+1)=puts B7 (msI a l i) (maN a l (xsI a l i) l[i])/\(xsI a l (i+1)).length<=150/\(msI a l (i+1)).length<=150:=by
 have e:l.take (i+1)=l.take i++[l[i]]:=by rw[take_append_getElem]
 have h1:=y4w h (i+1);rw[e]at h1;obtain⟨x,m,q,g,k,f⟩:=zxi (l.take i) [cf0] [] (by rw[h1]);rw[y4w h i]at q;injection q with w1 j
 injection j with j _
 rw[<-w1]at g k f;rw[<-j]at g f;rw[h1]at g;injection g with o c
 injection c with c _
 rw[<-o]at k;rw[<-c]at f;exact⟨o,c,k,f⟩
theorem y7c {l:List Ev}(h:GS a l)(hi:i<=l.length):(xsI a l i).length<=150:=by
 cases i with
 |zero=>rw[(zvb a l).1];simp
 |succ i=>exact(zo2 h Ω).2.2.1
theorem y8a {l:List Ev}(h:GS a l):∀{i:Nat},i<=l.length->∀c∈xsI a l i,Gd57 a l i c
 |0,hi=>λc e=>by
  rw[(zvb a l).1]at e;rw[aM.1 e];exact gd0 h
 |i+1,hi=>λc e=>by
  rw[(zo2 h Ω).1]at e;exact Gd57.next h Ω (y8a h Ω) c e
variable {cs:List Cf}
theorem y74 {held:List Ev}{xs:List Cf}(h:∀c∈cs,c∈xs)(e:Ev):∀d∈cfN a held cs e,d∈cfN a held xs e:=λd f=>by
 unfold cfN at f ⊢;rw[Gq Ex,mem_flatMap]at f ⊢;obtain⟨c,h1,g⟩:=f;exact⟨c,h c h1,g⟩
structure Sb (a:Aut) (l:List Ev) (i:Nat) (cs:List Cf):Prop where
 sub:∀c∈cs,c∈xsI a l i
 str:Str Bp cs
theorem Sb.len {l:List Ev}(h:GS a l)(hi:i<=l.length)(c:Sb a l i cs):cs.length<=150 :=
 Nat.le_trans (y7p (yap Ex c.str) c.sub) (y7c h hi)
theorem Sb.gd {l:List Ev}(h:GS a l)(hi:i<=l.length)(f:Sb a l i cs):∀c∈cs,Gd57 a l i c:=λc e=>y8a h hi c (f.sub c e)
theorem Sb.next {l:List Ev}(h:GS a l)(hi:i<l.length)(c:Sb a l i cs):Sb a l (i+1) (cfN a l cs l[i]) :=
 ⟨by rw[(zo2 h hi).1];exact y74 c.sub _,Tx Ex _⟩
theorem GS.of25 (e:WfA a){l:List Ev}(h1:Rv N0 a l=some true)(B:Hj N0 a l=some 0):GS a l:=by
 obtain⟨b,m,D⟩:=y22 a e l;rw[h1]at m;obtain rfl:=aJ m;obtain⟨z,y,q,g,hs⟩:=D rfl;have k:q=0:=by
  rw[B]at g;exact(aJ g).symm
 obtain⟨p,j,w⟩:=zw7 a e l Ω;rw[g]at j;obtain rfl:=aJ j;rcases w with⟨C,_⟩|⟨_,A,x,c,f,_⟩
 ·exact absurd k C
 obtain⟨r,h,o,E⟩:=Yh N0 Θ a e;rw[c]at h;obtain rfl:=aJ h;exact⟨e,z,A,c,o,f,y,hs k⟩
noncomputable def tS (f:List Cf->List Cf)(a:Aut)(l:List Ev):List Ev->List Cf->List (List Cf) |[],_=>[] |e::r,cs=>f (cfN a l cs e)::tS f a l r (f (cfN a l cs e))
structure Ch (a:Aut) (l:List Ev) (f:List Cf->List Cf):Prop where
 sub:∀i cs,Sb a l i cs->Sb a l i (f cs)
 cov:∀cs,∀c∈cs,covd (Ig a) (f cs) c=true
theorem y8e {l:List Ev}(k:Nat):∀x∈l.take k,x∈l:=λx c=>mem_of_mem_take c
theorem yc1 {l:List Ev}(h:GS a l)(k:Nat)(p:List Ev)(f:∀e∈p,e∈l.take k):wiP 150 a (l.take k) p [cf0] []=wiP 150 a l p [cf0] [] :=
 zxj (h.cxp k) (zel (h.pre k)).st h.so.st (y8e k) p 0 [cf0] [] f (λc g=>by rw[aM.1 g];exact cb0 h.ok)
theorem y9v {l:List Ev}(h:GS a l)(k:Nat):GS a (l.take k) :=
 ⟨h.wf,h.few,h.ok,h.chk,h.acheck,h.pre k,by have:=h.len;rw[aX];omega,by rw[yc1 h k _ (λe c=>c),y4w h k]⟩
theorem y89 {l:List Ev}(h:GS a l){k:Nat}(c:i<=k):xsI a (l.take k) i=xsI a l i/\msI a (l.take k) i=msI a l i:=by
 have e:(l.take k).take i=l.take i:=by rw[take_take,Nat.min_eq_left c]
 unfold xsI msI;rw[e,yc1 h k _ (λx f=>by grind)];exact⟨rfl,rfl⟩
def TmS (l:List Sta):Prop:=∀s∈l,0<=s.fTime/\s.fTime<=1099511627776
structure Cvd (a:Aut) (c d:Cf):Prop where
 cov:cov (Ig a) c d=true
 st:0<=c.fState/\c.fState<a.fStates.length
 lc:c.fBindings.length<=900000
 ld:d.fBindings.length<=900000
 tc:TmS c.fStarts
 td:TmS d.fStarts
theorem Cvd.out {c d:Cf}(h:Cvd a c d):c.fState=d.fState/\cvL c.fStarts d.fStarts=true/\rdB ((Ig a).getD c.fState.toNat []) c.fBindings=rdB ((Ig a).getD c.fState.toNat []) d.fBindings:=by
 have h1:=h.cov;unfold Go.Proofs.YthbogefcfhmpgaaGreat.cov rdC at h1;grind
structure FewR (S:List (List Cf)):Prop where
 ln:S.length<=14
 st:∀s∈S,s.length<=60/\∀c∈s,c.fBindings.length<=12/\c.fStarts.length<=12
theorem zvx:V5 2000000000=some true:=by kernel_rfl
theorem zsn (n:Nat)(T:List Ba)(f:T.length<=1100000)(K:Option Bool)(c:Bool)(e:K=some c):∀(m k:Nat),k<=T.length->T.length<m+k->∃r,He n T K m (k:Int)=some r
 |0,k,h1,g=>by omega
 |m+1,k,h1,g=>by
  unfold He;simp only[aC];rw[A4];by_cases h:k<T.length
  ·have key:∀b,∃r,Jl n T (k:Int) (He n T K m) b=some r:=λb=>by
    unfold Jl;cases b with
    |true=>rw[Aj];exact⟨_,rfl⟩
    |false=>rw[Al,Af k Ω];exact zsn n T f K c e m (k+1) Ω Ω
   rw[if_pos Ω];simp only[Ay,Ak];rw[Ae h,Ae h,A4];split
   ·exact key _
   ·exact key _
  ·rw[if_neg Ω];exact⟨c,e⟩
theorem y98 (T:List Ba)(g:T.length<=1100000)(a:Aut)(f:WfA a):∃r,We N0 T a=some r:=by
 obtain⟨b,e⟩:=zsn N0 T g (some (decide ((T.length:Int)<=20))) _ rfl N0 0 Ω (by unfold N0;omega);obtain⟨c,h,_⟩:=y2j a f;simp only[aD]at e;unfold We z1f;simp only[Ay,Ak,Hd,aC];rw[e,A0];cases b with
 |false=>rw[Al];exact⟨_,rfl⟩
 |true =>
  rw[Aj,h,A0];cases c with
  |false=>rw[Al];exact⟨_,rfl⟩
  |true=>rw[Aj,A4];split<;>exact⟨_,rfl⟩
def UsC (a:Aut)(U:Int->Prop):Prop:=∀x∈a.fEdges,x.fTo<0\/U x.fTo->U x.fFrom
theorem zjn (n:Nat)(a:Aut)(h:EdR a)(U:Int->Prop)(o:UsC a U)(e:Int×List Bool)(K:List Bool->Option (List Bool)):∀(m k:Nat) (w:List Bool),k<=a.fEdges.length->a.fEdges.length<m+k->w.length=a.fStates.length->(∀t,hs w t->U t)->∃w',Gy n a e K m ((k:Int),w)=K w'/\w'.length=a.fStates.length/\∀t,hs w' t->U t
 |0,k,w,h1,B,r,j=>by omega
 |m+1,k,w,h1,B,r,j=>by
  have A:=h.le;unfold Gy;simp only[aC,Ak];rw[A4];by_cases y:k<a.fEdges.length
  ·have hm:=aH y;obtain⟨x,E,D,C⟩:=h.ed _ hm;rw[if_pos Ω,Ae y,A4];have g:a.fEdges[k].fFrom.toNat<w.length:=Ω
   have key:U a.fEdges[k].fFrom->∃w',Gy n a e K m ((aO .i64 ((k:Int)+1)),w.set a.fEdges[k].fFrom.toNat true)=K w'/\w'.length=a.fStates.length/\∀t,hs w' t->U t:=λz=>by
    rw[Af k Ω];refine zjn n a h U o e K m (k+1) _ Ω Ω (by rw[length_set];exact r) (λt f=>?_);rcases(y3d g t).1 f with q|q
    ·rw[q,Int.toNat_of_nonneg x];exact z
    ·exact j t q
   by_cases f:a.fEdges[k].fTo<0
   ·rw[if_pos f,Ft x g,E7 g];exact key (o _ hm (aT f))
   ·have c:a.fEdges[k].fTo.toNat<w.length:=Ω
    rw[if_neg f,Ft Ω c,Cu c];cases q:w[a.fEdges[k].fTo.toNat]with
    |true =>
     rw[Aj,Ft x g,E7 g];exact key (o _ hm (aS (j _ ⟨Ω,by rw[aE c,q]⟩)))
    |false =>
     rw[Al,Af k Ω];exact zjn n a h U o e K m (k+1) w Ω Ω r j
  ·rw[if_neg Ω];exact⟨w,rfl,r,j⟩
theorem zsf (n:Nat)(o:10000000<n)(a:Aut)(h:EdR a)(U:Int->Prop)(f:UsC a U):∀(m k:Nat) (w:List Bool),k<=a.fStates.length->a.fStates.length<m+k->w.length=a.fStates.length->(∀t,hs w t->U t)->∃w',Kw n a (λb=>some b) m ((k:Int),w)=some w'/\w'.length=a.fStates.length/\∀t,hs w' t->U t
 |0,k,w,h1,r,e,c=>by omega
 |m+1,k,w,h1,r,e,c=>by
  have q:=h.le;have j:=h.st;unfold Kw;simp only[aC];rw[A4];by_cases z:k<a.fStates.length
  ·rw[if_pos Ω];obtain⟨w1,g,y,x⟩:=zjn n a h U f ((k:Int),w) (λd=>(Kw n a (λb=>some b) m) ((aO .i64 ((k:Int)+1)),d)) n 0 w (aN _) Ω e c;simp only[aD]at g;rw[g,Af k Ω];exact zsf n o a h U f m (k+1) w1 Ω Ω y x
  ·rw[if_neg Ω];exact⟨w,rfl,e,c⟩
theorem zeq (n:Nat)(w:List Bool)(f:w.length<=1000)(K:List Int->Option (List Int)):∀(m k:Nat) (acc:List Int),k<=w.length->w.length<m+k->acc.length<=k->∃L,L6 n w K m ((k:Int),acc)=K L/\L.length=acc.length+(w.drop k).countP id
 |0,k,acc,h1,j,h=>by omega
 |m+1,k,acc,h1,j,h=>by
  unfold L6;simp only[aC,Ak];rw[A4];by_cases g:k<w.length
  ·rw[if_pos Ω,Ae g,aG g,countP_cons];cases q:w[k]with
   |true =>
    rw[Aj,Bo Ψ Ω,Af k Ω];obtain⟨L,e,c⟩:=zeq n w f K m (k+1) (acc++[(k:Int)]) Ω Ω Ψ;refine⟨L,e,?_⟩;rw[c];simp;omega
   |false =>
    rw[Al,Af k Ω];obtain⟨L,e,c⟩:=zeq n w f K m (k+1) acc Ω Ω Ω;refine⟨L,e,?_⟩;rw[c];simp
  ·rw[if_neg Ω,aF Ω];exact⟨acc,rfl,Δ⟩
theorem y0a (n:Nat)(A:10000000<n)(a:Aut)(h:EdR a)(B:Ff n a=some 0):∃L,Me n a=some (L,0)/\(L.length=a.fStates.length->∀U,UsC a U->∀t:Int,0<=t->t<a.fStates.length->U t):=by
 have y:=h.st;have c:UsC a (λt=>∀V,UsC a V->V t):=λx r q V k=>k x r (q.imp id (λq=>q V k))
 obtain⟨w,m,G,D⟩:=zsf n A a h _ c n 0 (cI a.fStates.length false) (aN _) Ω Δ (λt f=>absurd f (y3e _ t));obtain⟨L,j,g⟩:=zeq n w Ω (λb=>some b) n 0 [] (aN _) Ω Δ;simp only[aD]at m j;refine⟨L,?_,λF U C t o E=>?_⟩
 ·unfold Me Zx z09;simp only[aC];rw[B,A0,Yr Ω Θ,m,A0,j,A0,show(!decide ((0:Int)=0))=false from rfl,Al]
 ·have e:w.countP id=w.length:=by
   rw[aY]at g;simp only[length_nil]at g;omega
  have f:t.toNat<w.length:=Ω
  have z:=List.countP_eq_length.1 e _ (aH f);exact D t ⟨o,by rw[aE f];exact congrArg some z⟩ U C
theorem y35 (rate:Int)(ag:List Int):∀(rem:Mp) (z:Int),z<=rem.foldl (lsS rate ag) z/\∀p∈rem,aO .i64 (rate*aO .i64 (ag.getD p.1.toNat 0+1))<=rem.foldl (lsS rate ag) z
 |[],z=>⟨bZ _,Δ⟩
 |p::r,z=>by
  obtain⟨c,f⟩:=y35 rate ag r (lsS rate ag z p);rw[foldl_cons];have h1:z<=lsS rate ag z p/\aO .i64 (rate*aO .i64 (ag.getD p.1.toNat 0+1))<=lsS rate ag z p:=by unfold lsS;omega
  refine⟨cJ h1.1 c,λq g=>?_⟩;rcases aR.1 g with e|e
  ·rw[e];exact cJ h1.2 c
  ·exact f q e
theorem y63 (n:Nat)(J:30000000<n)(a:Aut)(h:AutR a)(D:WfA a)(y:Cp n a=some 0)(rate:Int)(I:1<=rate/\rate<=4096):∃ag bd p b ok,Hy n a=some (ag,bd,0)/\K7 n a rate=some (b,ok)/\PtOk a p/\ag.length=a.fStates.length/\bd.length=a.fStates.length/\(∀v∈ag,0<=v/\v<=mxT)/\(ok=true->0<=b/\∀t,has p.finner t->bd[t.toNat]? = some true/\rate*(ag.getD t.toNat 0+1)<=b):=by
 have G:=h.st;obtain⟨p,A,j⟩:=y8t n J a h.toEdR y;obtain⟨out,C,o2,o3⟩:=y2q n Ω a h p j;obtain⟨ag,bd,B,c⟩:=zjw n Ω a h D y p j out o2 o3 n 0 (cI a.fStates.length 0) (cI a.fStates.length false) Ω Ω ⟨Δ,Δ,λv E=>by rw[eq_of_mem_replicate E];exact⟨Θ,Θ⟩,λi hi=>by omega⟩;simp only[aD]at B;have z:Hy n a=some (ag,bd,0):=by
  unfold Hy;rw[y,A0];simp only[Ar,A4,if_true,aC];rw[A,A0,C,A0,Yr Ω Θ,Yr Ω Θ,B]
 have x:p.finner.length<n:=by
  have m:(p.finner.map (·.1)).length<=((bB a.fStates.length).map (λ(i:Nat)=>(i:Int))).length:=by
   refine Yj j.i.nd (λt w=>?_);have:=j.ir t w;exact bD.2 ⟨t.toNat,bN.2 this.2,Ω⟩
  simp only[aC,length_range]at m;omega
 have r:K7 n a rate=some (if∀q∈p.finner,bd[q.1.toNat]? = some true then(p.finner.foldl (lsS rate ag) 0,true)else(0,false)):=by
  unfold K7;rw[z,A0,A,A0,zmw n rate ag bd a.fStates.length c.l1 c.l2 n p.finner 0 x j.ir]
 by_cases q:∀f∈p.finner,bd[f.1.toNat]? = some true
 ·rw[if_pos q]at r;refine⟨ag,bd,p,_,_,z,r,j,c.l1,c.l2,c.rng,λ_=>⟨(y35 rate ag p.finner 0).1,λt F=>?_⟩⟩;obtain⟨f,o,rfl⟩:=bD.1 F;refine⟨q f o,?_⟩;have k:=(y35 rate ag p.finner 0).2 f o;have K:0<=ag.getD f.1.toNat 0/\ag.getD f.1.toNat 0<=mxT:=by
   rw[aU];cases e:ag[f.1.toNat]? with
   |none=>exact⟨Θ,Θ⟩
   |some v=>exact c.rng v (mem_of_getElem? e)
  generalize ag.getD f.1.toNat 0=g at K k ⊢;have hm:mxT=1099511627776:=rfl;have h1:rate*(g+1)<=4096*1099511627777:=Int.mul_le_mul I.2 Ω Ω Ω;have L:0<=rate*(g+1):=Int.mul_nonneg Ω Ω;rw[Cl (g+1) Ω,Cl _ Ω]at k;exact k
 ·rw[if_neg q]at r;exact⟨ag,bd,p,0,false,z,r,j,c.l1,c.l2,c.rng,λh=>by cases h⟩
structure Rc (a:Aut) (l:List Ev) (R:Int->Prop) (i:Nat) (c:Cf):Prop where
 r:R c.fState
 st:c.fBindings=[]\/∃x∈a.fEdges,R x.fFrom/\x.fTo=c.fState
 bd:∀b∈c.fBindings,∃j,∃hj:j<l.length,j<i/\Bn l[j]=b.fRef
theorem yam {l:List Ev}(h:GS a l){R:Int->Prop}(R0:R 0)(w:∀x∈a.fEdges,R x.fFrom->0<=x.fTo->R x.fTo):∀{i:Nat},i<=l.length->∀c∈xsI a l i,Rc a l R i c
 |0,hi=>λc r=>by
  rw[(zvb a l).1]at r;rw[aM.1 r];exact⟨R0,aT rfl,Δ⟩
 |i+1,hi=>λd q=>by
  rw[(zo2 h Ω).1]at q;obtain⟨c,h1,f,A⟩:=zxa q;have k:=yam h R0 w (by omega:i<=l.length) c h1;have up:∀b∈c.fBindings,∃j,∃o:j<l.length,j<i+1/\Bn l[j]=b.fRef:=λb g=>by
   obtain⟨j,o,B,y⟩:=k.bd b g;exact⟨j,o,Ω,y⟩
  unfold outP at f;rcases bS.1 f with f|f
  ·split at f
   ·rw[aM.1 f];exact⟨k.r,k.st,up⟩
   ·simp at f
  ·obtain⟨x,z,m⟩:=mem_filterMap.1 f;have hm:=Yc z;have e:=ziq m;subst e;refine⟨w x hm.1 (hm.2▸k.r) A,aS ⟨x,hm.1,hm.2▸k.r,rfl⟩,λb g=>?_⟩;rcases bS.1 g with g|g
   ·exact up b g
   ·rw[aM.1 g];exact⟨i,Ω,Ω,rfl⟩
theorem y8v {l:List Ev}(h:GS a l):∃x,Oh N0 a l=some (xsI a l l.length,x,0):=by
 have z:=h.len;obtain⟨y,hm,e⟩:=h.begin l.length;rw[take_length]at hm e;have m:setL B7 ([]:List Ma)=[]:=rfl;have j:=h.sm;obtain⟨cs,all,D,o,C,I,G,F,E⟩:=zxz (r:=⟨a,y⟩) h.cx hm h.so.st h.edges Ω (λw q=>bndM 62 (Nk N0 q) λg=>some (w,g,0)) N0 0 [cf0] [] (aN _) (by unfold N0;omega) Δ Δ (λc A=>by rw[aM.1 A];exact cb0 h.ok) Δ (by rw[aY,m];exact j);rw[aY,m]at o;have k:wiP 150 a l l [cf0] []=(cs,setL B7 all,true):=o;have f:=y4w h l.length;rw[take_length,k]at f;injection f with f _
 rw[<-f];refine⟨setL B7 all,?_⟩;unfold Oh bndP;rw[e];simp only[Ar,A4];have B:O8 N0=some cf0:=rfl;rw[if_pos trivial,B,A0];refine D.trans ?_;rw[y20 N0 Θ all C Ω,Ck]
theorem y5i {l:List Ev}(h:GS a l){k:Nat}(g:k<=l.length):∃c,Oh N0 a (l.take k)=some (xsI a l k,c,0):=by
 obtain⟨c,e⟩:=y8v (y9v h k);have f:(l.take k).length=k:=by rw[aX];omega
 rw[f,(y89 h (aW k)).1]at e;exact⟨c,e⟩
theorem y1u {a b:Bh}(h:rCmp a b<0):a.fTime<=b.fTime:=by
 refine Int.not_lt.1 λq=>?_
 have h1:cmpI a.fTime b.fTime=1:=by unfold cmpI;rw[if_neg Ω,if_pos q]
 unfold rCmp or3 at h;rw[h1,if_neg Θ]at h;omega
theorem y8d {l:List Ev}(c:Str Ce l){j:Nat}(e:i<=j)(f:j<l.length):(l[i]' Ω).fTime<=l[j].fTime:=by
 rcases Nat.lt_or_eq_of_le e with q|q
 ·exact y1u (pairwise_iff_getElem.1 c i j Ω f q)
 ·subst q;exact bZ _
theorem ydg {l:List Ev}(g:Str Ce l)(rt:Nat)(h1:1<=rt)(F:∀i (hi:i<l.length),rt<=i->l[i].fTime≠(l[i-rt]' Ω).fTime)(lo:Int)(D:Nat)(L:List Rf)(G:L.Nodup)(M:∀r∈L,∃j,∃c:j<l.length,Bn l[j]=r/\lo<=l[j].fTime/\l[j].fTime<lo+D):L.length<=rt*D:=by
 have m:∀r:Rf,∃j:Nat,r∈L->∃c:j<l.length,Bn l[j]=r/\lo<=l[j].fTime/\l[j].fTime<lo+D:=λr=>by
  by_cases q:r∈L
  ·obtain⟨j,c⟩:=M r q;exact⟨j,λ_=>c⟩
  ·exact⟨0,λh=>absurd h q⟩
 obtain⟨f,m⟩:=Classical.skolem.1 m;have k:∀i j,(y:i<j)->(c:j<l.length)->i % rt=j % rt->(l[i]' Ω).fTime≠l[j].fTime:=λi j y c hm e=>by
  have I:i+rt<=j:=by
   refine Nat.not_lt.1 λq=>?_
   have:=cD i rt;have:=cD j rt;have B:rt*(j / rt)<rt*(i / rt)+rt:=Ω
   have P:rt*(i / rt)<rt*(j / rt):=Ω
   have O:i / rt<j / rt:=Nat.lt_of_mul_lt_mul_left P;have N:rt*(i / rt+1)<=rt*(j / rt):=bO rt O;rw[Nat.mul_add]at N;omega
  have X:=y8d g (i:=i) (j:=j-rt) Ω Ω;have V:=y8d g (i:=j-rt) (j:=j) Ω c;exact F j c Ω Ω
 have w:(L.map λr=>(((l[f r]?).map (·.fTime)).getD 0-lo).toNat*rt+f r % rt).Nodup:=by
  unfold List.Nodup;rw[pairwise_map];refine Pairwise.imp_of_mem (λ{a b} K J z e=>?_) G;obtain⟨ja,ra,la,ua⟩:=m a K;obtain⟨jb,rb,lb,ub⟩:=m b J;rw[aE ja,aE jb]at e;simp only[cE,bF]at e;have C:=cF (f a) (by omega:0<rt);have T:=cF (f b) (by omega:0<rt);have hm:f a % rt=f b % rt:=by
   have:=congrArg (· % rt) e;simp only[Nat.mul_add_mod_self_right,Nat.mod_mod]at this;exact this
  have U:(l[f a].fTime-lo).toNat=(l[f b].fTime-lo).toNat:=by
   rw[hm]at e;exact Nat.eq_of_mul_eq_mul_right (by omega:0<rt) Ω
  have A:l[f a].fTime=l[f b].fTime:=Ω
  rcases Nat.lt_trichotomy (f a) (f b)with q|q|q
  ·exact k _ _ q jb hm A
  ·refine z ?_;rw[<-ra,<-rb];simp only[q]
  ·exact k _ _ q ja hm.symm A.symm
 have:=Yj (l':=bB (rt*D)) w (λx E=>by
  obtain⟨r,o,rfl⟩:=bD.1 E;obtain⟨j,_,lr,ur⟩:=m r o;rw[aE j];simp only[cE,bF];have C:=cF (f r) (by omega:0<rt);have R:(l[f r].fTime-lo).toNat+1<=D:=Ω
  have B:=bO rt R;rw[Nat.mul_add]at B;rw[bN,Nat.mul_comm];omega)
 rw[aC,length_range]at this;exact this
theorem zjx {c f:Type}[DecidableEq c]:∀(l:List (c×f)) (k:c) (v:f),(l.map (·.1)).Nodup->((mput l k v).map (·.1)).Nodup/\∀y,y∈(mput l k v).map (·.1) ↔ y=k\/y∈l.map (·.1)
 |[],k,v,h=>by unfold mput;simp
 |(a,b)::r,k,v,h=>by
  unfold mput;rw[aP]at h;obtain⟨h1,m⟩:=bJ.1 h;by_cases e:k=a
  ·rw[if_pos e];subst e;simp only[aP,aR];exact⟨h,λy=>by grind⟩
  ·rw[if_neg e];obtain⟨j,g⟩:=zjx r k v m;simp only[aP,aR];refine⟨bJ.2 ⟨λq=>?_,j⟩,λy=>by rw[g];grind⟩;rcases(g _).1 q with q|q
   ·exact e q.symm
   ·exact h1 q
structure HK (S:Rf->Prop) (M:List (Rf×Bool)):Prop where
 nd:(M.map (·.1)).Nodup
 s:∀y∈M.map (·.1),S y
variable {S:Rf->Prop}
theorem HK.put {M:List (Rf×Bool)}(h:HK S M){r:Rf}(e:S r):HK S (mput M r true) :=
 ⟨(zjx M r true h.nd).1,λy c=>by
   rcases((zjx M r true h.nd).2 y).1 c with q|q
   ·rw[q];exact e
   ·exact h.s y q⟩
theorem zsg (n:Nat)(now:Int)(bd:List Bool)(ag:List Int)(cs:List Cf)(g:Int×List (Rf×Bool))(d:Cf)(f:d.fBindings.length<=1000000)(e:∀b∈d.fBindings,S b.fRef)(K:List (Rf×Bool)->Option Int):∀(m k:Nat) (M:List (Rf×Bool)),k<=d.fBindings.length->d.fBindings.length<m+k->HK S M->∃M',Py n now bd ag cs g d K m ((k:Int),M)=K M'/\HK S M'
 |0,k,M,h1,j,c=>by omega
 |m+1,k,M,h1,j,c=>by
  unfold Py;simp only[aC];rw[A4];by_cases h:k<d.fBindings.length
  ·rw[if_pos Ω,Ae h,E8,Af k Ω];exact zsg n now bd ag cs g d f e K m (k+1) _ Ω Ω (c.put (e _ (aH h)))
  ·rw[if_neg Ω];exact⟨M,rfl,c⟩
structure Hc (S:Rf->Prop) (now:Int) (bd:List Bool) (ag:List Int) (c:Cf):Prop where
 lb:c.fBindings.length<=1000000
 ok:c.fBindings=[]\/∃s:Nat,c.fState=(s:Int)/\bd[s]? = some true/\∃g,ag[s]? = some g/\∃b r,c.fBindings=b::r/\0<=b.fRef.fTime/\b.fRef.fTime<=1099511627776/\(now-b.fRef.fTime<=g->∀x∈c.fBindings,S x.fRef)
theorem zjo (n:Nat)(A:10000000<n)(now:Int)(j:0<=now/\now<=1099511627776)(bd:List Bool)(ag:List Int)(cs:List Cf)(o:cs.length<=1000000)(y:∀c∈cs,Hc S now bd ag c)(K:List (Rf×Bool)->Option Int):∀(m k:Nat) (M:List (Rf×Bool)),k<=cs.length->cs.length<m+k->HK S M->∃M',Ef n now bd ag cs K m ((k:Int),M)=K M'/\HK S M'
 |0,k,M,h1,F,w=>by omega
 |m+1,k,M,h1,F,w=>by
  unfold Ef;simp only[aC,Ay,Ak];rw[A4];by_cases h:k<cs.length
  ·rw[if_pos Ω,Ae h,A4];have x:=y _ (aH h);have f:∃M',En n now bd ag cs ((k:Int),M) (Ef n now bd ag cs K m) cs[k] true=K M'/\HK S M':=by
    unfold En;rw[Aj,Af k Ω];exact zjo n A now j bd ag cs o y K m (k+1) M Ω Ω w
   rcases x.ok with e|⟨s,O,N,g,L,b,r,B,R,P,J⟩
   ·rw[if_pos (by rw[e];rfl)];exact f
   ·obtain⟨D,C⟩:=List.getElem?_eq_some_iff.1 N;obtain⟨I,G⟩:=List.getElem?_eq_some_iff.1 L;rw[if_neg (by rw[B];simp;omega),O,A4,if_neg Ω,A4,if_neg Ω,Ae D,C,Aj,B,zou,Ae I,G,Cl _ Ω];by_cases q:g<now-b.fRef.fTime
    ·rw[decide_eq_true q];exact f
    ·rw[decide_eq_false q];unfold En;rw[Al];obtain⟨M1,z,E⟩:=zsg (S:=S) n now bd ag cs ((k:Int),M) cs[k] x.lb (J Ω) (λd=>Ef n now bd ag cs K m ((aO .i64 ((k:Int)+1)),d)) n 0 M (aN _) (by have:=x.lb;omega) w;simp only[aD]at z;rw[z,Af k Ω];exact zjo n A now j bd ag cs o y K m (k+1) M1 Ω Ω E
  ·rw[if_neg Ω];exact⟨M,rfl,w⟩
theorem y5t (n:Nat)(j:10000000<n)(now:Int)(e:0<=now/\now<=1099511627776)(bd:List Bool)(ag:List Int)(cs:List Cf)(f:cs.length<=1000000)(k:∀c∈cs,Hc S now bd ag c):∃L:List Rf,M8 n cs ag bd now=some (L.length:Int)/\L.Nodup/\∀r∈L,S r:=by
 obtain⟨M,h,g⟩:=zjo (S:=S) n j now e bd ag cs f k (λb=>some (((List.map (encM Bj AV.bool) (b)).length:Nat):Int)) n 0 [] (aN _) Ω ⟨Δ,Δ⟩;simp only[aD,aC]at h;refine⟨M.map (·.1),?_,g.nd,g.s⟩;unfold M8;simp only[aC];exact h
theorem zy3 (l:List Ev):Jn N0 l=some (De l):=by
 by_cases h:l.length<=1000000
 ·exact y2a N0 l (by unfold N0;omega) h
 ·unfold Jn De;simp only[aC,A4];rw[if_pos Ω,if_pos Ω]
theorem y9a (T:List Ba)(a:Aut)(j:WfA a)(rate:Int):∃r,Vu N0 T a rate=some r/\(r=0->Hx N0 T a rate=some 0):=by
 obtain⟨c,w,o⟩:=ybv N0 Θ T;obtain⟨d,m,k,_⟩:=Yh N0 Θ a j;unfold Vu Hx;simp only[Ar,A4,Ay,Ak,K0,Lg];rw[w,o,A0,A0];by_cases q:c=0
 ·simp only[if_pos q,m,k,A0];by_cases e:d=0
  ·simp only[if_pos e];by_cases g:rate<1
   ·simp only[if_pos g,Aj];exact⟨2,rfl,λh=>by cases h⟩
   ·simp only[if_neg g];by_cases f:4096<rate
    ·simp only[if_pos f];exact⟨2,rfl,λh=>by cases h⟩
    ·simp only[if_neg f];exact⟨0,rfl,λ_=>trivial⟩
  ·simp only[if_neg e];exact⟨d,rfl,λh=>absurd h e⟩
 ·simp only[if_neg q];exact⟨c,rfl,λh=>absurd h q⟩
theorem p_rate_l1 (l:List Ev)(c:Dy)(rt:Nat)(j:c.fRate=(rt:Int))(o:l.length<=1000000)(K:Option Bool):∀(m k:Nat),rt<=k->k<=2000000->l.length<m+k->0<m->Ko N0 l c K m (k:Int)=some true\/(Ko N0 l c K m (k:Int)=K/\∀i (hi:i<l.length),k<=i->l[i].fTime≠(l[i-rt]' Ω).fTime)
 |0,k,h1,y,x,w=>by omega
 |m+1,k,h1,y,x,w=>by
  unfold Ko;simp only[aC];rw[A4];by_cases h:k<l.length
  ·have e:aO .i64 ((k:Int)-c.fRate)=((k-rt:Nat):Int):=by rw[j,Cl _ Ω];omega
   rw[if_pos Ω,Ae h,e,Ae Ω,A4];by_cases q:l[k].fTime=(l[k-rt]' Ω).fTime
   ·rw[if_pos q];exact aT rfl
   ·rw[if_neg q,Af k Ω];rcases p_rate_l1 l c rt j o K m (k+1) Ω Ω Ω Ω with g|⟨g,f⟩
    ·exact aT g
    ·refine aS ⟨g,λi hi r=>?_⟩;by_cases ei:i=k
     ·subst ei;exact q
     ·exact f i hi Ω
  ·rw[if_neg Ω];exact aS ⟨rfl,λi hi r=>by omega⟩
theorem zse {l:List Ev}(h:GS a l)(T:List Ba)(rate:Int)(g:Dc×Int)(d:List Int×List Bool×Int)(H:∀k,(h1:1<=k)->(c:k<=l.length)->∃q:Int,M8 N0 (xsI a l k) d.1 d.2.1 (l[k-1]' Ω).fTime=some q/\q<=g.1.fBound):∀m k:Nat,1<=k->k<=l.length+1->l.length+1<m+k->Ik N0 l ⟨T,a,rate⟩ g d (some true) m (k:Int)=some true
 |0,k,h1,x,w=>by omega
 |m+1,k,h1,x,w=>by
  have r:=h.len;unfold Ik;simp only[aC,Ay,Ak,Kp];rw[A4];by_cases c:k<=l.length
  ·have f:∀(K:List Ev->Option Bool),sls l 0 (k:Int) K=K (l.take k):=λK=>by
    have:=Fu (l:=l) (a:=0) (b:=k) (aN _) c K;simpa using this
   obtain⟨z,j⟩:=y5i h c;obtain⟨q,o,y⟩:=H k h1 c;have e:aO .i64 ((k:Int)-1)=((k-1:Nat):Int):=by rw[Cl _ Ω];omega
   rw[if_pos Ω,f,j,A0,Ar,A4,if_pos rfl,e,Ae Ω,o,A0,A4,if_neg Ω,Af k Ω];exact zse h T rate g d H m (k+1) Ω Ω Ω
  ·rw[if_neg Ω]
theorem y2o {l:List Ev}(h:GS a l){p:Cg}(E:PtOk a p)(hU:∀U,UsC a U->∀t:Int,0<=t->t<a.fStates.length->U t){ag:List Int}{bd:List Bool}(la:ag.length=a.fStates.length)(rt:Nat)(h1:1<=rt)(hv:∀v∈ag,0<=v/\v<=mxT)(b:Int)(hb:0<=b/\∀t,has p.finner t->bd[t.toNat]? = some true/\(rt:Int)*(ag.getD t.toNat 0+1)<=b)(hr:∀i (hi:i<l.length),rt<=i->l[i].fTime≠(l[i-rt]' Ω).fTime)(k:Nat)(ab:1<=k)(F:k<=l.length):∃q:Int,M8 N0 (xsI a l k) ag bd (l[k-1]' Ω).fTime=some q/\q<=b:=by
 have aa:=h.len;have o:∀j (z:j<l.length),0<=l[j].fTime/\l[j].fTime<=1099511627776:=λj z=>by
  have:=h.so.pl _ (aH z);unfold D6 at this;simp only[aQ,decide_eq_true_eq]at this;exact⟨this.1,this.2.1⟩
 obtain⟨U,Y,X⟩:=E.us;have N:=hU U (λx C q=>Y x C q);have w:=o (k-1) Ω;obtain⟨L,e1,e2,e3⟩:=y5t (S:=λr=>∃j,∃z:j<l.length,Bn l[j]=r/\(l[k-1]' Ω).fTime-((b.toNat / rt:Nat):Int)+1<=l[j].fTime/\l[j].fTime<((l[k-1]' Ω).fTime-((b.toNat / rt:Nat):Int)+1)+((b.toNat / rt:Nat):Int)) N0 Θ (l[k-1]' Ω).fTime w bd ag (xsI a l k) (by have:=y7c h F;omega) (λc M=>by
  have K:=y8a h F c M;have f:=yam h (R:=λt=>has p.freachable t) E.r0 E.rn F c M;refine⟨by have:=K.cb.lb;omega,?_⟩;rcases f.st with q|⟨x,C,V,T⟩
  ·exact aT q
  ·cases m:c.fBindings with
   |nil=>exact aT rfl
   |cons A r =>
    refine aS ?_;obtain⟨s0,s1⟩:=K.cb.st;have I:has p.finner c.fState:=(X _).2 ⟨x,C,Ω,V,N x.fTo Ω Ω,T⟩;obtain⟨Z,B⟩:=hb.2 _ I;have hs:c.fState.toNat<ag.length:=Ω
    rw[aU,aE hs,bF]at B;have e:=K.ci.asc;rw[m]at e;have e:=(pairwise_cons.1 e).1;obtain⟨O,G,_,e0⟩:=f.bd A (by rw[m];simp);have ac:=o O G;have e0t:l[O].fTime=A.fRef.fTime:=congrArg Bh.fTime e0;refine⟨c.fState.toNat,Ω,Z,ag[c.fState.toNat],aE hs,A,r,rfl,Ω,Ω,λhq y P=>?_⟩;obtain⟨j,z,jk,ej⟩:=f.bd y (by rw[m];exact P);have ejt:l[j].fTime=y.fRef.fTime:=congrArg Bh.fTime ej;have t1:=y8d h.so.st (i:=j) (j:=k-1) Ω Ω;have t2:A.fRef.fTime<=y.fRef.fTime:=by
     rcases aR.1 P with q|q
     ·rw[q];exact bZ _
     ·exact y1u (e y q)
    have J:=hv _ (aH hs);generalize ag[c.fState.toNat]=g at hq B J;have hD:g.toNat+1<=b.toNat / rt:=by
     rw[Nat.le_div_iff_mul_le Ω];have e4:((g.toNat+1:Nat):Int)=g+1:=Ω
     have:(((g.toNat+1)*rt:Nat):Int)<=b:=by
      rw[Int.natCast_mul,e4,Int.mul_comm];exact B
     omega
    generalize b.toNat / rt=D at hD ⊢;exact⟨j,z,ej,Ω,Ω⟩)
 refine⟨L.length,e1,?_⟩;have M:=ydg h.so.st rt h1 hr ((l[k-1]' Ω).fTime-((b.toNat / rt:Nat):Int)+1) (b.toNat / rt) L e2 e3;have:=Nat.mul_div_le b.toNat rt;omega
theorem zwg (c:Dy)(j:WfA c.fA)(R:c.fTypes.length<=1100000)(l:List Ev):Z2 N0 c l=some true:=by
 have V:30000000<N0:=by unfold N0;omega
 have F:V5 N0=some true:=zvx;obtain⟨T,a,rate⟩:=c;simp only at j R;have skip:Fa N0 l ⟨T,a,rate⟩ true=some true:=by
  unfold Fa;rw[Aj]
 obtain⟨f,f1⟩:=y98 T R a j;obtain⟨er,N,L⟩:=y9a T a j rate;obtain⟨b,Y,b2⟩:=y22 a j l;unfold Z2;simp only[Ay,Ak];rw[F,A0,f1,A0,N,A0,zy3,A0,Y,A0];simp only[aL,Al,Ar,A4];cases f with
 |false=>rw[Al];exact skip
 |true =>
  rw[Aj];by_cases G:er=0;rotate_left
  ·rw[if_neg G];exact skip
  rw[if_pos G];by_cases hs:De l=0;rotate_left
  ·rw[if_neg hs];exact skip
  rw[if_pos hs];cases b with
  |false=>exact skip
  |true =>
   have U:=L G;obtain⟨r,O,r2⟩:=y8y N0 Ω T a j rate;rw[U]at O;obtain⟨hc,J,C,hA,D⟩:=r2 (aJ O).symm;have A:Ff N0 a=some 0:=by
    obtain⟨d,d1,X,_⟩:=Yh N0 Θ a j;rw[C]at X;rw[d1,<-X]
   have h:GS a l:=GS.of25 j Y (by unfold Hj;rw[A,A0,Ar,A4,if_pos rfl,zy3,hs,A0]);have aa:=h.len;have m:=scR (T:=T) j hA (by omega:10000000<N0) C;have ht:=λx hx=>((zuj (by omega:10000000<N0) j C).2 x hx).1
   obtain⟨ag,bd,p,B,ok,K,hL,hp,la,lb,hv,hB⟩:=y63 N0 V a m.toAutR j C rate D;obtain⟨M,m1,y⟩:=y0d N0 V T a rate m U J.2 ht B ok hL;obtain⟨us,us1,us2⟩:=y0a N0 Ω a m.toEdR A;obtain⟨rt,rfl⟩:∃rt:Nat,rate=(rt:Int):=⟨rate.toNat,Ω⟩;unfold Fa;simp only[aL];rw[Al];rcases p_rate_l1 l ⟨T,a,(rt:Int)⟩ rt rfl Ω (bnd (Fh N0 T a (rt:Int)) λc => bnd (Hy N0 a) λb => bnd (Me N0 a) λd => jon (Co N0 l ⟨T,a,(rt:Int)⟩ c b d) <| reg <| cnd (!decide (c.2=0)) (Co N0 l ⟨T,a,(rt:Int)⟩ c b d true) <| cnd (!decide (b.2.2=0)) (Co N0 l ⟨T,a,(rt:Int)⟩ c b d true) <| cnd (!decide (d.2=0)) (Co N0 l ⟨T,a,(rt:Int)⟩ c b d true) <| cnd (!decide (((b.1.map aI).length:Int)=((a.fStates.map Am).length:Int))) (Co N0 l ⟨T,a,(rt:Int)⟩ c b d true) <| Co N0 l ⟨T,a,(rt:Int)⟩ c b d (!decide (((b.2.1.map AV.bool).length:Int)=((b.1.map aI).length:Int)))) N0 rt (aW _) Ω (by unfold N0;omega) Θ with q|⟨q,o⟩
   ·exact q
   refine q.trans ?_;have fin:∀(g:Dc),(g.fVerdict=1->ok=true/\g.fBound=B)->Fh N0 T a (rt:Int)=some (g,0)->(bnd (Fh N0 T a (rt:Int)) λc => bnd (Hy N0 a) λb => bnd (Me N0 a) λd => jon (Co N0 l ⟨T,a,(rt:Int)⟩ c b d) <| reg <| cnd (!decide (c.2=0)) (Co N0 l ⟨T,a,(rt:Int)⟩ c b d true) <| cnd (!decide (b.2.2=0)) (Co N0 l ⟨T,a,(rt:Int)⟩ c b d true) <| cnd (!decide (d.2=0)) (Co N0 l ⟨T,a,(rt:Int)⟩ c b d true) <| cnd (!decide (((b.1.map aI).length:Int)=((a.fStates.map Am).length:Int))) (Co N0 l ⟨T,a,(rt:Int)⟩ c b d true) <| Co N0 l ⟨T,a,(rt:Int)⟩ c b d (!decide (((b.2.1.map AV.bool).length:Int)=((b.1.map aI).length:Int))))=some true:=λg hg I=>by
    rw[I,K,us1,A0,A0,A0];simp only[Ay,Ak,aC,la,lb,Ar,A4,if_true,decide_true,aL];unfold Co;simp only[Ay,Ak,aC,la,Al,Ar,A4];by_cases v:g.fVerdict=1
    ·rw[if_pos v];obtain⟨v1,Z⟩:=hg v;unfold Il;by_cases P:us.length=a.fStates.length
     ·rw[decide_eq_true Ω,aL,Al];have:=zse h T (rt:Int) (g,0) (ag,bd,0) (λk k1 k2=>by
       simp only;rw[Z];exact y2o h hp (us2 P) la rt Ω hv B (hB v1) (λi hi E=>o i hi E) k k1 k2) N0 1 Ω Ω (by unfold N0;omega)
      exact this
     ·rw[decide_eq_false Ω,aV,Aj]
    ·rw[if_neg v];unfold Il;rw[Aj]
   rcases y with⟨z,y⟩|⟨z,⟨w,y,hy⟩|⟨y,P⟩⟩
   ·exact fin _ (λ_=>⟨z,rfl⟩) y
   ·exact fin _ (λe=>absurd e Δ) y
   ·exact fin _ (λe=>absurd e Δ) y
open Go.ChangeShapes Go.WideShapes Go.ChangeAt
theorem y76 {w:World}{S:Nat->Prop}{a b:AV}{x y:Value}(f:Rep w S G0 a x)(e:Rep w S G0 b y):Args w S [a,b] #[x,y] :=
 ⟨rfl,λi hi=>by
  have c:i<2:=hi;rcases i with _|_|i
  ·exact f
  ·exact e
  ·omega⟩
theorem y65:ownKnob Tryz.prog.godebug=none:=by kernel_rfl
theorem y6b:laidOutB aA=true:=by kernel_rfl
section
variable {H:Type} {enc:TypeId×Value->H}
theorem zfb {W W':World}{sp':Nat->Bool}(m:Below W.heap.size W W')(e:List TypeId):∀(vs:List Value) (ds:List (DataW H)) (p:List MemPlace),e.all (λt=>Tryz.prog.readableRec t && decide (t<Tryz.prog.types.size))=true ->
  DataW.TrodAll enc aA W 0 (λ_=>true) true e vs ds p->(∀x∈p,x.block<W.heap.size)->(∀x∈p,sp' x.block=true)->DataW.TrodAll enc aA W' 0 sp' true e vs ds p:=by
 induction e with
 |nil =>
  intro vs ds p _ h _ _
  match vs,ds,h with
  |[],[],h=>exact h
  |_::_,_,h=>exact h.elim
  |[],_::_,h=>exact h.elim
 |cons t e ih =>
  intro vs ds p k h g hs
  match vs,ds,h with
  |v::vs,d::ds,h =>
   obtain⟨q,r,h1,o,rfl⟩:=h;have f:Tryz.prog.readableRec t=true/\t<Tryz.prog.types.size:=by
    have:=cA.mp k t (mem_cons_self ..);rw[aQ,decide_eq_true_eq]at this;exact this
   have j:e.all (λt=>Tryz.prog.readableRec t && decide (t<Tryz.prog.types.size))=true :=
    cA.mpr λx c=>cA.mp k x (bA _ c)
   exact⟨q,r,WideElems.Trod_stays y6b f.1 f.2 h1 (λx c=>m.same (g x (mem_append_left _ c))) (λx c=>hs x (mem_append_left _ c)),
    ih vs ds r j o (λx c=>g x (bY _ c)) (λx c=>hs x (bY _ c)),rfl⟩
  |[],_,h=>exact h.elim
  |_::_,[],h=>exact h.elim
theorem zvc {W:World}{b:Nat}{sp:Nat->Bool}(c:List TypeId):∀(vs:List Value) (ds:List (DataW H)) (p:List MemPlace),DataW.TrodAll enc aA W b sp true c vs ds p->ds.length=c.length:=by
 induction c with
 |nil =>
  intro vs ds p h
  match vs,ds,h with
  |[],[],h=>rfl
  |_::_,_,h=>exact h.elim
  |[],_::_,h=>exact h.elim
 |cons t c e =>
  intro vs ds p h
  match vs,ds,h with
  |v::vs,d::ds,h =>
   obtain⟨q,r,h1,f,rfl⟩:=h;simp only[bE];rw[e vs ds r f]
  |[],_,h=>exact h.elim
  |_::_,[],h=>exact h.elim
end
open Go.Joins Go.Deep
section
variable {H:Type} {enc:TypeId×Value->H} {W:World} {base:Nat} {v:Value} {d:DataW H} {p:List MemPlace}
variable {u:Value}
theorem zr4 {a:Addr}(h:W.cell? a=some u):a.spot=none/\a.block<W.heap.size:=by
 unfold World.cell? at h;split at h
 ·rename_i c _ _ g;split at h
  ·cases h
  ·rename_i hs;refine⟨by cases j:a.spot with|none=>rfl|some _=>simp[j]at hs,?_⟩;rcases Nat.lt_or_ge a.block W.heap.size with e|f
   ·exact e
   ·rw[Array.getElem?_eq_none f]at g;cases g
 ·cases h
theorem Kj (b off k:Nat):(⟨b,off,none⟩:Addr).add k=⟨b,off+k,none⟩:=by
 by_cases h:k=0<;>simp[Addr.add,h]
theorem zsw {f:α->Option β}:∀{l:List α} {r:List β},l.mapM f=some r->r.length=l.length/\∀k (c:k<l.length) (j:k<r.length),f l[k]=some r[k]
 |[],r,h=>by simp at h;subst h;exact⟨rfl,λk c=>absurd c Δ⟩
 |a::l,r,h=>by
  simp only[mapM_cons]at h;cases g:f a with
  |none=>rw[g]at h;simp at h
  |some b =>
   rw[g]at h;cases e:l.mapM f with
   |none=>rw[e]at h;simp at h
   |some s =>
    rw[e]at h;simp at h;subst h;obtain⟨o,m⟩:=zsw e;refine⟨by simp[o],λk c j=>?_⟩;cases k with
    |zero=>exact g
    |succ k=>exact m k (by simpa using c) (by simpa using j)
theorem zdq {a:Addr}{cs:List Value}(h:W.cells? 0 a n=some cs):cs.length=n/\∀j,j<n->W.cell? (a.add j)=some (cs.getD j undef):=by
 unfold World.cells? at h;rw[if_pos (aN _)]at h;obtain⟨e,c⟩:=zsw h;have f:cs.length=n:=by simpa using e
 refine⟨f,λj g=>?_⟩;have:=c j (by simpa using g) Ω;rw[bP]at this;rw[this];simp[aE (show j<cs.length by omega)]
def Ub (W:World)(a:α->AV)(m:α)(cs:List Value):Prop:=cs.length=(a m).cells.length/\∀j (c:j<(a m).cells.length),Rep W (λ_=>True) G0 ((a m).cells[j]) (cs.getD j undef)/\(cs.getD j undef).oneCell'=true
variable {sz:Nat}
theorem y1i {a:α->AV}{t e:TypeId}(O:Tryz.prog.underlying t=some (.slice e))(B:Tryz.prog.cellsOf e=sz)(P:0<sz)(N:Inhabited α)(g:∀m,(a m).cells.length=sz)
  (each:∀(n:Nat) (cs:List Value) (x:DataW H×List MemPlace),cs.length=sz->DataW.trod enc aA W 0 (λ_=>true) true n e cs=some x->∃m:α,Ub W a m cs)
    {x:DataW H×List MemPlace} (h:DataW.trod enc aA W 0 (λ_=>true) true n t [u]=some x):∃l:List α,Rep W (λ_=>True) G0 (.sl sz (l.map a)) u:=by
 rcases open_slice O h with⟨h1,_⟩|⟨A,len,T,m,M,D,Pl,h1,_,E,hm,z,_,K⟩
 ·simp only[List.cons.injEq,and_true]at h1;subst h1;exact⟨[],.sl none 0 (λ_ _=>.bool true) Δ (λk c=>absurd c Δ) (λh=>absurd h Δ) (λk c=>absurd c Δ) (λ_ _=>rfl)⟩
 ·simp only[List.cons.injEq,and_true]at h1;subst h1;simp only[if_true]at z;subst z;rw[B]at K;have every:∀i,∃q:α×List Value,i<len->W.cells? 0 (A.add (i*sz)) sz=some q.2/\Ub W a q.1 q.2:=λi=>by
   by_cases hi:i<len
   ·obtain⟨cs,L,U⟩:=K i Ω;obtain⟨k,c⟩:=each M cs _ (zdq L).1 U;exact⟨(k,cs),λ_=>⟨L,c⟩⟩
   ·exact⟨(N.default,[]),λh=>absurd h hi⟩
  obtain⟨f,G⟩:=Classical.axiomOfChoice every;have V:((bB len).map λi=>(f i).1).length=len:=Δ
  refine⟨(bB len).map λi=>(f i).1,?_⟩;have e:len=(((bB len).map λi=>(f i).1).map a).length:=Δ
  have r:∀k j,k<len->j<sz->W.cell? ((A.add (k*sz)).add j)=some ((f k).2.getD j undef):=λk j c y=>(zdq (G k c).1).2 j y
  have:Rep W (λ_=>True) G0 (.sl sz (((bB len).map λi=>(f i).1).map a)) (.slice (some A) (((bB len).map λi=>(f i).1).map a).length m):=by
   refine .sl (some A) m (λk j=>if k<len/\j<sz then(f k).2.getD j undef else .bool true) (by simpa using E) (λk c=>?_) (λI=>?_) (λk c j y=>?_) (λk j=>?_)
   ·simp only[bM];exact g _
   ·have C:0<len:=by simpa using I
    have J:=zr4 (r 0 0 C P);obtain⟨b,off,sp⟩:=A;have R:sp=none:=by simpa[Addr.add]using J.1
    subst R;rw[Kj,Kj]at J;refine⟨b,off,rfl,trivial,J.2,λk j c y=>?_⟩;have o:k<len:=by simpa using c
    have:=r k j o y;rw[Kj,Kj]at this;rw[if_pos ⟨o,y⟩,<-this];congr 2;omega
   ·have o:k<len:=by simpa using c
    simp only[bM,bP]at y ⊢;have F:j<sz:=by rw[g]at y;exact y
    rw[if_pos ⟨o,F⟩];exact((G k o).2.2 j y).1
   ·by_cases w:k<len/\j<sz
    ·rw[if_pos w];exact((G k w.1).2.2 j (by rw[g];exact w.2)).2
    ·rw[if_neg w];rfl
  rw[<-e]at this;exact this
theorem Rep.one_sl {xs:List AV}(h:Rep W (λ_=>True) G0 (.sl sz xs) u):u.oneCell'=true:=by
 cases h;rfl
theorem zzw {a:α->AV}{t e:TypeId}(g:Tryz.prog.underlying t=some (.slice e))(f:Tryz.prog.cellsOf e=sz)(q:0<sz)(j:Inhabited α)(c:∀m,(a m).cells.length=sz)
  (each:∀(n:Nat) (cs:List Value) (x:DataW H×List MemPlace),cs.length=sz->DataW.trod enc aA W 0 (λ_=>true) true n e cs=some x->∃m:α,Ub W a m cs)
  (k:Value.okWide aA W .any base t v) (h:DataW.Trod enc aA W 0 (λ_=>true) true t v d p):∃l:List α,Rep W (λ_=>True) G0 (.sl sz (l.map a)) v:=by
 obtain⟨A,len,r,rfl⟩:=okWide_slice g k;obtain⟨fuel,o⟩:=h;exact y1i g f q j c each o
theorem ycm {a:α->AV}{m:α}{cs:Array Value}{xs:List AV}(hm:a m=.agg xs)(h:Ub W a m cs.toList):Rep W (λ_=>True) G0 (a m) (.agg cs):=by
 obtain⟨h1,c⟩:=h;rw[hm]at h1 c ⊢;have e:cs.size=xs.length:=by simpa[AV.cells]using h1
 have g:∀i,cs.toList.getD i undef=cs.getD i undef:=λi=>by
  by_cases hi:i<cs.size
  ·simp[Array.getD,hi]
  ·simp[Array.getD,hi]
 refine .agg _ e (λi hi=>?_) (λi hi=>?_)
 ·have:=(c i hi).1;rw[g]at this;exact this
 ·have:=(c i (show i<xs.length by rw[<-e];exact hi)).2;rw[g]at this;exact this
end
section
variable {H:Type} {enc:TypeId×Value->H} {W:World} {base:Nat} {v:Value} {d:DataW H} {p:List MemPlace}
def Bz (W:World)(xs:List AV)(cs:List Value):Prop:=cs.length=xs.length/\∀j (c:j<xs.length),Rep W (λ_=>True) G0 (xs[j]) (cs.getD j undef)/\(cs.getD j undef).oneCell'=true
theorem Bz.one {a:AV}{c:Value}(h:Rep W (λ_=>True) G0 a c)(h1:c.oneCell'=true):Bz W [a] [c]:=by
 refine⟨rfl,λj f=>?_⟩;have e:j<1:=f;rcases j with _|j
 ·exact⟨h,h1⟩
 ·omega
theorem Bz.append {xs ys:List AV}{cs ds:List Value}(h1:Bz W xs cs)(f:Bz W ys ds):Bz W (xs++ys) (cs++ds):=by
 refine⟨by rw[bQ,bQ,h1.1,f.1],λj g=>?_⟩;by_cases h:j<xs.length
 ·have:=h1.2 j h;rw[getElem_append_left h];have e:(cs++ds).getD j undef=cs.getD j undef:=by
   simp only[aU];rw[getElem?_append_left (by rw[h1.1];exact h)]
  rw[e];exact this
 ·have c:j-xs.length<ys.length:=by rw[bQ]at g;omega
  have:=f.2 (j-xs.length) c;rw[getElem_append_right Ω];have e:(cs++ds).getD j undef=ds.getD (j-xs.length) undef:=by
   simp only[aU];rw[getElem?_append_right (by rw[h1.1];omega),h1.1]
  rw[e];exact this
theorem Bz.cut {cs:List Value}{o s:Nat}{xs ys:List AV}(h1:Bz W xs ((cs.drop o).take s))(c:Bz W ys (cs.drop (o+s))):Bz W (xs++ys) (cs.drop o):=by
 have:cs.drop o=(cs.drop o).take s++cs.drop (o+s):=by rw[<-drop_drop,bI]
 rw[this];exact h1.append c
theorem Bz.done {cs:List Value}{o:Nat}(h:cs.length<=o):Bz W [] (cs.drop o):=by
 rw[aF h];exact⟨rfl,λj c=>absurd c Δ⟩
theorem Bq {cs:List Value}{o s:Nat}(h:o+s<=cs.length):((cs.drop o).take s).length=s:=by rw[aX,length_drop];omega
abbrev FO (enc:TypeId×Value->H)(W:World)(t:TypeId)(sz:Nat){α:Type}(e:α->List AV):Prop:=∀(n:Nat) (cs:List Value) (x:DataW H×List MemPlace),cs.length=sz->DataW.trod enc aA W 0 (λ_=>true) true n t cs=some x->∃m:α,Bz W (e m) cs
variable {t:TypeId}
theorem Cm (c:Tryz.prog.underlying t=some (.int .i64)):FO enc W t 1 (λz:Int=>[aI z]):=λn cs x e h=>by
 obtain⟨z,rfl,_⟩:=DataW.trod_int (k:=.i64) c h;exact⟨z,.one (.int _ _) rfl⟩
theorem y3h (c:Tryz.prog.underlying t=some .string):FO enc W t 1 (λz:ByteArray=>[AV.str z]):=λn cs x e h=>by
 obtain⟨z,rfl,_⟩:=DataW.trod_string c h;exact⟨z,.one (.str _) rfl⟩
theorem yc4 {e:TypeId}{sz:Nat}{a:α->AV}(o:Tryz.prog.underlying t=some (.slice e))(j:Tryz.prog.cellsOf e=sz)(q:0<sz)(k:Inhabited α)(f:∀m,(a m).cells.length=sz)
  (each:FO enc W e sz (λm:α=>(a m).cells)):FO enc W t 1 (λl:List α=>[AV.sl sz (l.map a)]):=λn cs x g h=>by
 match cs,g with
 |[c],_ =>
  obtain⟨l,g⟩:=y1i (a:=a) o j q k f each h;exact⟨l,.one g g.one_sl⟩
theorem y9y (c:Tryz.prog.underlying t=some (.int .i64)):FO enc W t 1 (λz:Int=>(aI z).cells):=Cm c
theorem y4d {a:α->AV}{e:TypeId}{sz:Nat}(k:Tryz.prog.underlying t=some (.slice e))(f:Tryz.prog.cellsOf e=sz)(o:0<sz)(g:Inhabited α)(c:∀m,(a m).cells.length=sz)
  (each:FO enc W e sz (λm:α=>(a m).cells)) (j:Value.okWide aA W .any base t v) (h:DataW.Trod enc aA W 0 (λ_=>true) true t v d p):∃l:List α,Rep W (λ_=>True) G0 (.sl sz (l.map a)) v :=
 zzw k f o g c each j h
end
theorem yci {H:Type}(d:DataW H):1<=Rows.uptoBulk d:=by
 cases d with
 |lit l=>cases l<;>simp[Rows.uptoBulk]
 |nil=>simp[Rows.uptoBulk]
 |ptr d=>simp[Rows.uptoBulk]
 |slice elems spare=>simp[Rows.uptoBulk]
 |agg parts=>simp[Rows.uptoBulk]
 |iface t d=>simp[Rows.uptoBulk]
 |map entries=>simp[Rows.uptoBulk]
 |held h=>simp[Rows.uptoBulk]
theorem ycj {H:Type}{d:DataW H}{l:List (DataW H)}(h:d∈l):Rows.uptoBulk d<=Rows.uptoBulkAll l:=by
 induction l with
 |nil=>cases h
 |cons x r ih =>
  simp only[Rows.uptoBulkAll];rcases aR.1 h with e|e
  ·subst e;omega
  ·have:=ih e;omega
def SlQ (Q:Nat->α->Prop)(b:Nat)(l:List α):Prop:=∃c:List (Nat×α),c.map (·.2)=l/\(∀p∈c,1<=p.1/\Q p.1 p.2)/\(c.map (·.1)).sum<b
variable {Q:Nat->α->Prop}{b:Nat}
theorem SlQ.len (h:SlQ Q b l):l.length<b:=by
 obtain⟨c,rfl,f,e⟩:=h;rw[aC];refine Nat.lt_of_le_of_lt ?_ e;clear e
 induction c with
 |nil=>simp
 |cons p c ih =>
  have:=(f p Δ).1;have:=ih (λq g=>f q (bA _ g));simp only[aP,cH,bE];omega
theorem SlQ.mem (h:SlQ Q b l):∀m∈l,∃j,j < b/\Q j m:=λm hm=>by
 obtain⟨c,rfl,g,k⟩:=h;obtain⟨p,f,rfl⟩:=bD.1 hm;refine⟨p.1,?_,(g p f).2⟩;have:p.1<=(c.map (·.1)).sum:=by
  clear g k hm
  induction c with
  |nil=>cases f
  |cons x c ih =>
   simp only[aP,cH];rcases aR.1 f with e|e
   ·subst e;omega
   ·have:=ih e;omega
 omega
section
variable {H:Type} {enc:TypeId×Value->H} {W:World} {base:Nat} {v:Value} {d:DataW H} {p:List MemPlace}
variable {t:TypeId}{sz:Nat}
theorem y55 {a:α->AV}{e:TypeId}(V:Tryz.prog.underlying t=some (.slice e))(F:Tryz.prog.cellsOf e=sz)(Z:0<sz)(U:Inhabited α)(g:∀m,(a m).cells.length=sz)
    {u:Value} {x:DataW H×List MemPlace} (each:∀(n:Nat) (cs:List Value) (y:DataW H×List MemPlace),Rows.uptoBulk y.1<Rows.uptoBulk x.1->cs.length=sz->DataW.trod enc aA W 0 (λ_=>true) true n e cs=some y->∃m:α,Ub W a m cs/\Q (Rows.uptoBulk y.1) m)
  (h:DataW.trod enc aA W 0 (λ_=>true) true n t [u]=some x):∃l:List α,Rep W (λ_=>True) G0 (.sl sz (l.map a)) u/\SlQ Q (Rows.uptoBulk x.1) l:=by
 rcases open_slice V h with⟨h1,E⟩|⟨A,len,aa,m,R,D,Pl,h1,_,J,hm,B,E,O⟩
 ·simp only[List.cons.injEq,and_true]at h1;subst h1;exact⟨[],.sl none 0 (λ_ _=>.bool true) Δ (λk c=>absurd c Δ) (λh=>absurd h Δ) (λk c=>absurd c Δ) (λ_ _=>rfl),[],rfl,Δ,by rw[E];simp[Rows.uptoBulk]⟩
 ·simp only[List.cons.injEq,and_true]at h1;subst h1;simp only[if_true]at B;subst B;rw[F]at O;have L:Rows.uptoBulkAll ((bB len).map D)<Rows.uptoBulk x.1:=by
   rw[E];simp only[Rows.uptoBulk];omega
  have every:∀i,∃q:α×List Value,i<len->W.cells? 0 (A.add (i*sz)) sz=some q.2/\Ub W a q.1 q.2/\Q (Rows.uptoBulk (D i)) q.1:=λi=>by
   by_cases hi:i<len
   ·obtain⟨cs,P,c2⟩:=O i Ω;have G:Rows.uptoBulk (D i)<Rows.uptoBulk x.1:=by
     have:=ycj (l:=(bB len).map D) (bD.2 ⟨i,bN.2 hi,rfl⟩);omega
    obtain⟨k,c,X⟩:=each R cs _ G (zdq P).1 c2;exact⟨(k,cs),λ_=>⟨P,c,X⟩⟩
   ·exact⟨(U.default,[]),λh=>absurd h hi⟩
  obtain⟨f,C⟩:=Classical.axiomOfChoice every;have hl:((bB len).map λi=>(f i).1).length=len:=Δ
  refine⟨(bB len).map λi=>(f i).1,?_,(bB len).map (λi=>(Rows.uptoBulk (D i),(f i).1)),Δ,?_,?_⟩;rotate_left
  ·intro p Y;obtain⟨i,hi,rfl⟩:=bD.1 Y;exact⟨yci _,(C i (bN.1 hi)).2.2⟩
  ·rw[map_map];have:∀l:List Nat,(l.map ((λp:Nat×α=>p.1) ∘ λi=>(Rows.uptoBulk (D i),(f i).1))).sum=Rows.uptoBulkAll (l.map D):=λl=>by
    induction l with
    |nil=>simp[Rows.uptoBulkAll]
    |cons i l T=>simp only[aP,cH,T,Rows.uptoBulkAll,Function.comp]
   rw[this];exact L
  have e:len=(((bB len).map λi=>(f i).1).map a).length:=Δ
  have r:∀k j,k<len->j<sz->W.cell? ((A.add (k*sz)).add j)=some ((f k).2.getD j undef):=λk j c z=>(zdq (C k c).1).2 j z
  have:Rep W (λ_=>True) G0 (.sl sz (((bB len).map λi=>(f i).1).map a)) (.slice (some A) (((bB len).map λi=>(f i).1).map a).length m):=by
   refine .sl (some A) m (λk j=>if k<len/\j<sz then(f k).2.getD j undef else .bool true) (by simpa using J) (λk c=>?_) (λM=>?_) (λk c j z=>?_) (λk j=>?_)
   ·simp only[bM];exact g _
   ·have I:0<len:=by simpa using M
    have N:=zr4 (r 0 0 I Z);obtain⟨b,off,sp⟩:=A;have e1:sp=none:=by simpa[Addr.add]using N.1
    subst e1;rw[Kj,Kj]at N;refine⟨b,off,rfl,trivial,N.2,λk j c z=>?_⟩;have o:k<len:=by simpa using c
    have:=r k j o z;rw[Kj,Kj]at this;rw[if_pos ⟨o,z⟩,<-this];congr 2;omega
   ·have o:k<len:=by simpa using c
    simp only[bM,bP]at z ⊢;have K:j<sz:=by rw[g]at z;exact z
    rw[if_pos ⟨o,K⟩];exact((C k o).2.1.2 j z).1
   ·by_cases w:k<len/\j<sz
    ·rw[if_pos w];exact((C k w.1).2.1.2 j (by rw[g];exact w.2)).2
    ·rw[if_neg w];rfl
  rw[<-e]at this;exact this
abbrev FQ (enc:TypeId×Value->H)(W:World)(t:TypeId)(sz:Nat){α:Type}(e:α->List AV)(Q:Nat->α->Prop)(B:Nat):Prop:=∀(n:Nat) (cs:List Value) (x:DataW H×List MemPlace),Rows.uptoBulk x.1<B->cs.length=sz->DataW.trod enc aA W 0 (λ_=>true) true n t cs=some x->∃m:α,Bz W (e m) cs/\Q (Rows.uptoBulk x.1) m
theorem Cy {B:Nat}{e:α->List AV}(h:FO enc W t sz e):FQ enc W t sz e (λ_ _=>True) B:=λn cs x _ f c=>by
 obtain⟨m,hm⟩:=h n cs x f c;exact⟨m,hm,trivial⟩
theorem Gw {e:TypeId}{B:Nat}{a:α->AV}(o:Tryz.prog.underlying t=some (.slice e))(j:Tryz.prog.cellsOf e=sz)(r:0<sz)(k:Inhabited α)(g:∀m,(a m).cells.length=sz)
  (each:FQ enc W e sz (λm:α=>(a m).cells) Q B):FQ enc W t 1 (λl:List α=>[AV.sl sz (l.map a)]) (SlQ Q) B:=λn cs x z f h=>by
 match cs,f with
 |[c],_ =>
  obtain⟨l,f,q⟩:=y55 (a:=a) o j r k g (λn cs y w f h=>each n cs y Ω f h) h;exact⟨l,.one f f.one_sl,q⟩
theorem zxc {fs:Array Field}{a:α->AV}(j:Tryz.prog.underlying t=some (.struct fs))(c:Tryz.prog.cellsOf t=sz)(q:∀m,∃xs,a m=.agg xs)(each:∀B,FQ enc W t sz (λm:α=>(a m).cells) Q B)
  (g:Value.okWide aA W .any base t v) (h:DataW.Trod enc aA W 0 (λ_=>true) true t v d p):∃m:α,Rep W (λ_=>True) G0 (a m) v/\Q (Rows.uptoBulk d) m:=by
 obtain⟨cs,rfl,e⟩:=okWide_struct j g;obtain⟨fuel,o⟩:=h;obtain⟨m,hm,k⟩:=each (Rows.uptoBulk d+1) fuel cs.toList _ (by show Rows.uptoBulk d<Rows.uptoBulk d+1;omega) (by simpa using e.trans c) o;obtain⟨xs,f⟩:=q m;exact⟨m,ycm f hm,k⟩
def QE (b:Nat)(m:Exn):Prop:=∃z,z<=b/\ETr z m
def QG (b:Nat)(g:Gd):Prop:=∃c,c < b/\QE c g.fCond
def QS (b:Nat)(s:Stt):Prop:=∃c,c < b/\SlQ QG c s.fGuards
abbrev QT {α:Type}(_:Nat)(_:α):Prop:=True
def QX (b:Nat)(x:Ed):Prop:=(∃c,c < b/\QE c x.fCond)/\(∃c,c < b/\SlQ QT c x.fOpens)/\(∃c,c < b/\SlQ QT c x.fCloses)/\(∃c,c < b/\∃l:List Exn,x.fChecks=l.map Aw/\SlQ QE c l)/\(∃c,c < b/\SlQ QT c x.fLimits)/\(∃c,c < b/\SlQ QT c x.fInside)
def QA (b:Nat)(a:Aut):Prop:=(∃c,c < b/\SlQ QS c a.fStates)/\(∃c,c < b/\SlQ QX c a.fEdges)
theorem yc9 {l:List Exn}(h:SlQ QE b l):∃c:List (Nat×Exn),c.map (·.2)=l/\(∀q∈c,ETr q.1 q.2)/\(c.map (·.1)).sum<b:=by
 obtain⟨f,rfl,m,x⟩:=h;have:∃c:List (Nat×Exn),c.map (·.2)=f.map (·.2)/\(∀q∈c,ETr q.1 q.2)/\(c.map (·.1)).sum<=(f.map (·.1)).sum:=by
  clear x
  induction f with
  |nil=>exact⟨[],rfl,Δ,Δ⟩
  |cons p f r =>
   obtain⟨c,j,g,o⟩:=r (λq k=>m q (bA _ k));obtain⟨z,y,w⟩:=(m p Δ).2;refine⟨(z,p.2)::c,by simp[j],λq k=>?_,by simp only[aP,cH];omega⟩;rcases aR.1 k with e|e
   ·rw[e];exact w
   ·exact g q e
 obtain⟨c,j,g,o⟩:=this;exact⟨c,j,g,Ω⟩
theorem y1d {e:Exn}(h:QE b e)(g:b<=1048576):WfE e:=by
 obtain⟨z,f,c⟩:=h;exact⟨z,Ω,c⟩
theorem yan (h:QA b a)(F:b<=1048576):WfA a:=by
 obtain⟨⟨b1,h1,j⟩,⟨b2,L,f⟩⟩:=h;refine⟨by have:=j.len;omega,by have:=f.len;omega,λs hs=>?_,λx B=>?_⟩
 ·obtain⟨E,D,b4,K,e⟩:=j.mem s hs;refine⟨by have:=e.len;omega,λg C=>?_⟩;obtain⟨b5,J,b6,I,c⟩:=e.mem g C;exact y1d c Ω
 ·obtain⟨E,D,⟨c1,T,z⟩,⟨Z,R,w⟩,⟨Y,P,r⟩,⟨X,O,l,m,k⟩,⟨V,N,q⟩,⟨U,M,c⟩⟩:=f.mem x B;refine⟨y1d z Ω,⟨l,m,λy A=>?_⟩,?_,?_,?_,?_,?_⟩
  ·obtain⟨b7,G,o⟩:=k.mem y A;exact y1d o Ω
  ·rw[m,aC];have:=k.len;omega
  ·have:=w.len;omega
  ·have:=r.len;omega
  ·have:=c.len;omega
  ·have:=q.len;omega
theorem zz4:FO enc W 144 3 (λm:A9=>(Ag m).cells):=λn cs x I h=>by
 obtain⟨xs,c,_,G,_,e,f⟩:=DataW.trod_struct Tryz.underlying144 h
 match xs,e with
 |[w,q,o],_ =>
  have F:Tryz.prog.cellsOf 3=1:=by kernel_rfl
  have k:DataW.trod enc aA W 0 (λ_=>true) true c 3 ((cs.drop 0).take (Tryz.prog.cellsOf 3))=some w:=f 0 _ rfl;rw[F]at k;obtain⟨A,C⟩:=(Cm aB) c _ _ (Bq Ω) k;have E:Tryz.prog.cellsOf 3=1:=by kernel_rfl
  have j:DataW.trod enc aA W 0 (λ_=>true) true c 3 ((cs.drop 1).take (Tryz.prog.cellsOf 3))=some q:=f 1 _ rfl;rw[E]at j;obtain⟨z,h1⟩:=(Cm aB) c _ _ (Bq Ω) j;have D:Tryz.prog.cellsOf 9=1:=by kernel_rfl
  have g:DataW.trod enc aA W 0 (λ_=>true) true c 9 ((cs.drop 2).take (Tryz.prog.cellsOf 9))=some o:=f 2 _ rfl;rw[D]at g;obtain⟨y,B⟩:=(y3h bG) c _ _ (Bq Ω) g;have r:=(show Bz W _ (cs.drop 0) from(.cut C (.cut h1 (.cut B (Bz.done Ω)))));exact⟨⟨A,z,y⟩,r⟩
theorem zox:∀B,FQ enc W 146 8 (λm:Exn=>(Aw m).cells) QE B
 |0=>λn cs x A U h=>absurd A (Nat.not_lt_zero _)
 |B+1=>λn cs x A U h=>by
  obtain⟨xs,c,_,T,_,f,e⟩:=DataW.trod_struct Tryz.underlying146 h
  match xs,f with
  |[w,q,o,k,j,g],_ =>
   have hk:Rows.uptoBulk x.1=Rows.uptoBulk w.1+Rows.uptoBulk q.1+Rows.uptoBulk o.1+Rows.uptoBulk k.1+Rows.uptoBulk j.1+Rows.uptoBulk g.1+1:=by rw[T];simp only[Rows.uptoBulk,Rows.uptoBulkAll,aP,bK]<;>omega
   have c0:Tryz.prog.cellsOf 3=1:=by kernel_rfl
   have I:DataW.trod enc aA W 0 (λ_=>true) true c 3 ((cs.drop 0).take (Tryz.prog.cellsOf 3))=some w:=e 0 _ rfl;rw[c0]at I;obtain⟨R,h0,q0⟩:=(Cy (Cm aB)) c _ _ (show Rows.uptoBulk w.1<B by omega) (Bq Ω) I;have c1:Tryz.prog.cellsOf 142=1:=by kernel_rfl
   have G:DataW.trod enc aA W 0 (λ_=>true) true c 142 ((cs.drop 1).take (Tryz.prog.cellsOf 142))=some q:=e 1 _ rfl;rw[c1]at G;obtain⟨y,h1,L⟩:=(Gw (sz:=8) (a:=Aw) bR (by kernel_rfl) Ω inferInstance (λ_=>rfl) (zox B)) c _ _ (show Rows.uptoBulk q.1<B by omega) (Bq Ω) G;have c2:Tryz.prog.cellsOf 3=1:=by kernel_rfl
   have F:DataW.trod enc aA W 0 (λ_=>true) true c 3 ((cs.drop 2).take (Tryz.prog.cellsOf 3))=some o:=e 2 _ rfl;rw[c2]at F;obtain⟨P,Z,q2⟩:=(Cy (Cm aB)) c _ _ (show Rows.uptoBulk o.1<B by omega) (Bq Ω) F;have c3:Tryz.prog.cellsOf 3=1:=by kernel_rfl
   have E:DataW.trod enc aA W 0 (λ_=>true) true c 3 ((cs.drop 3).take (Tryz.prog.cellsOf 3))=some k:=e 3 _ rfl;rw[c3]at E;obtain⟨O,Y,q3⟩:=(Cy (Cm aB)) c _ _ (show Rows.uptoBulk k.1<B by omega) (Bq Ω) E;have c4:Tryz.prog.cellsOf 3=1:=by kernel_rfl
   have D:DataW.trod enc aA W 0 (λ_=>true) true c 3 ((cs.drop 4).take (Tryz.prog.cellsOf 3))=some j:=e 4 _ rfl;rw[c4]at D;obtain⟨N,X,q4⟩:=(Cy (Cm aB)) c _ _ (show Rows.uptoBulk j.1<B by omega) (Bq Ω) D;have c5:Tryz.prog.cellsOf 144=3:=by kernel_rfl
   have C:DataW.trod enc aA W 0 (λ_=>true) true c 144 ((cs.drop 5).take (Tryz.prog.cellsOf 144))=some g:=e 5 _ rfl;rw[c5]at C;obtain⟨M,V,q5⟩:=(Cy zz4) c _ _ (show Rows.uptoBulk g.1<B by omega) (Bq Ω) C;have h1:Bz W [AV.sl 8 (List.map idA (List.map Aw y))] ((cs.drop 1).take 1):=by rw[U5];exact h1
   have r:=(show Bz W _ (cs.drop 0) from(.cut h0 (.cut h1 (.cut Z (.cut Y (.cut X (.cut V (Bz.done Ω))))))));obtain⟨z,K,J,r3⟩:=yc9 L;refine⟨⟨R,y.map Aw,P,O,N,M⟩,r,1+(z.map (·.1)).sum,Ω,.mk z _ J ?_⟩;show y.map Aw=_;rw[<-K,map_map];rfl
theorem y6f (B:Nat):FQ enc W 216 11 (λm:Gd=>(B9 m).cells) QG B:=λn cs x X U h=>by
 obtain⟨xs,c,_,G,_,e,g⟩:=DataW.trod_struct Tryz.underlying216 h
 match xs,e with
 |[o,k,j,f],_ =>
  have V:Rows.uptoBulk x.1=Rows.uptoBulk o.1+Rows.uptoBulk k.1+Rows.uptoBulk j.1+Rows.uptoBulk f.1+1:=by rw[G];simp only[Rows.uptoBulk,Rows.uptoBulkAll,aP,bK]<;>omega
  have O:Tryz.prog.cellsOf 3=1:=by kernel_rfl
  have z:DataW.trod enc aA W 0 (λ_=>true) true c 3 ((cs.drop 0).take (Tryz.prog.cellsOf 3))=some o:=g 0 _ rfl;rw[O]at z;obtain⟨F,K,T⟩:=(Cy (Cm aB)) c _ _ (show Rows.uptoBulk o.1<B by omega) (Bq Ω) z;have N:Tryz.prog.cellsOf 3=1:=by kernel_rfl
  have y:DataW.trod enc aA W 0 (λ_=>true) true c 3 ((cs.drop 1).take (Tryz.prog.cellsOf 3))=some k:=g 1 _ rfl;rw[N]at y;obtain⟨E,h1,R⟩:=(Cy (Cm aB)) c _ _ (show Rows.uptoBulk k.1<B by omega) (Bq Ω) y;have M:Tryz.prog.cellsOf 3=1:=by kernel_rfl
  have w:DataW.trod enc aA W 0 (λ_=>true) true c 3 ((cs.drop 2).take (Tryz.prog.cellsOf 3))=some j:=g 2 _ rfl;rw[M]at w;obtain⟨D,J,P⟩:=(Cy (Cm aB)) c _ _ (show Rows.uptoBulk j.1<B by omega) (Bq Ω) w;have L:Tryz.prog.cellsOf 146=8:=by kernel_rfl
  have q:DataW.trod enc aA W 0 (λ_=>true) true c 146 ((cs.drop 3).take (Tryz.prog.cellsOf 146))=some f:=g 3 _ rfl;rw[L]at q;obtain⟨C,I,A⟩:=(zox B) c _ _ (show Rows.uptoBulk f.1<B by omega) (Bq Ω) q;have r:=(show Bz W _ (cs.drop 0) from(.cut K (.cut h1 (.cut J (.cut I (Bz.done Ω))))));exact⟨⟨F,E,D,C⟩,r,_,(show Rows.uptoBulk f.1<_ by omega),A⟩
theorem y6e (B:Nat):FQ enc W 140 1 (λm:Stt=>(Am m).cells) QS B:=λn cs x C z h=>by
 obtain⟨xs,f,_,o,_,c,q⟩:=DataW.trod_struct Tryz.underlying140 h
 match xs,c with
 |[e],_ =>
  have A:Rows.uptoBulk x.1=Rows.uptoBulk e.1+1:=by rw[o];simp only[Rows.uptoBulk,Rows.uptoBulkAll,aP,bK]<;>omega
  have y:Tryz.prog.cellsOf 138=1:=by kernel_rfl
  have g:DataW.trod enc aA W 0 (λ_=>true) true f 138 ((cs.drop 0).take (Tryz.prog.cellsOf 138))=some e:=q 0 _ rfl;rw[y]at g;obtain⟨k,w,j⟩:=(Gw (sz:=11) (a:=B9) Tryz.underlying138 (by kernel_rfl) Ω inferInstance (λ_=>rfl) (y6f B)) f _ _ (show Rows.uptoBulk e.1<B by omega) (Bq Ω) g;have r:=(show Bz W _ (cs.drop 0) from(.cut w (Bz.done Ω)));exact⟨⟨k⟩,r,_,(show Rows.uptoBulk e.1<_ by omega),j⟩
theorem y6g:FO enc W 230 2 (λm:C2=>(Bw m).cells):=λn cs x C h=>by
 obtain⟨xs,e,_,B,_,c,f⟩:=DataW.trod_struct Tryz.underlying230 h
 match xs,c with
 |[o,k],_ =>
  have A:Tryz.prog.cellsOf 3=1:=by kernel_rfl
  have j:DataW.trod enc aA W 0 (λ_=>true) true e 3 ((cs.drop 0).take (Tryz.prog.cellsOf 3))=some o:=f 0 _ rfl;rw[A]at j;obtain⟨w,y⟩:=(Cm aB) e _ _ (Bq Ω) j;have z:Tryz.prog.cellsOf 3=1:=by kernel_rfl
  have g:DataW.trod enc aA W 0 (λ_=>true) true e 3 ((cs.drop 1).take (Tryz.prog.cellsOf 3))=some k:=f 1 _ rfl;rw[z]at g;obtain⟨q,h1⟩:=(Cm aB) e _ _ (Bq Ω) g;have r:=(show Bz W _ (cs.drop 0) from(.cut y (.cut h1 (Bz.done Ω))));exact⟨⟨w,q⟩,r⟩
theorem y9w (B:Nat):FQ enc W 149 17 (λm:Ed=>(Aa m).cells) QX B:=λn cs x hb hl h=>by
 obtain⟨xs,c,_,hx,_,f,e⟩:=DataW.trod_struct Tryz.underlying149 h
 match xs,f with
 |[C,A,z,y,w,q,o,k,j,g],_ =>
  have hk:Rows.uptoBulk x.1=Rows.uptoBulk C.1+Rows.uptoBulk A.1+Rows.uptoBulk z.1+Rows.uptoBulk y.1+Rows.uptoBulk w.1+Rows.uptoBulk q.1+Rows.uptoBulk o.1+Rows.uptoBulk k.1+Rows.uptoBulk j.1+Rows.uptoBulk g.1+1:=by rw[hx];simp only[Rows.uptoBulk,Rows.uptoBulkAll,aP,bK]<;>omega
  have c0:Tryz.prog.cellsOf 3=1:=by kernel_rfl
  have P:DataW.trod enc aA W 0 (λ_=>true) true c 3 ((cs.drop 0).take (Tryz.prog.cellsOf 3))=some C:=e 0 _ rfl;rw[c0]at P;obtain⟨m0,h0,q0⟩:=(Cy (Cm aB)) c _ _ (show Rows.uptoBulk C.1<B by omega) (Bq Ω) P;have c1:Tryz.prog.cellsOf 3=1:=by kernel_rfl
  have O:DataW.trod enc aA W 0 (λ_=>true) true c 3 ((cs.drop 1).take (Tryz.prog.cellsOf 3))=some A:=e 1 _ rfl;rw[c1]at O;obtain⟨m1,h1,q1⟩:=(Cy (Cm aB)) c _ _ (show Rows.uptoBulk A.1<B by omega) (Bq Ω) O;have c2:Tryz.prog.cellsOf 3=1:=by kernel_rfl
  have N:DataW.trod enc aA W 0 (λ_=>true) true c 3 ((cs.drop 2).take (Tryz.prog.cellsOf 3))=some z:=e 2 _ rfl;rw[c2]at N;obtain⟨m2,h2,q2⟩:=(Cy (Cm aB)) c _ _ (show Rows.uptoBulk z.1<B by omega) (Bq Ω) N;have c3:Tryz.prog.cellsOf 3=1:=by kernel_rfl
  have M:DataW.trod enc aA W 0 (λ_=>true) true c 3 ((cs.drop 3).take (Tryz.prog.cellsOf 3))=some y:=e 3 _ rfl;rw[c3]at M;obtain⟨m3,h3,q3⟩:=(Cy (Cm aB)) c _ _ (show Rows.uptoBulk y.1<B by omega) (Bq Ω) M;have c4:Tryz.prog.cellsOf 146=8:=by kernel_rfl
  have L:DataW.trod enc aA W 0 (λ_=>true) true c 146 ((cs.drop 4).take (Tryz.prog.cellsOf 146))=some w:=e 4 _ rfl;rw[c4]at L;obtain⟨m4,h4,Y⟩:=(zox B) c _ _ (show Rows.uptoBulk w.1<B by omega) (Bq Ω) L;have c5:Tryz.prog.cellsOf 43=1:=by kernel_rfl
  have K:DataW.trod enc aA W 0 (λ_=>true) true c 43 ((cs.drop 12).take (Tryz.prog.cellsOf 43))=some q:=e 5 _ rfl;rw[c5]at K;obtain⟨m5,h5,X⟩:=(Gw (sz:=1) (a:=aI) bC (by kernel_rfl) Ω inferInstance (λ_=>rfl) (Cy (y9y aB))) c _ _ (show Rows.uptoBulk q.1<B by omega) (Bq Ω) K;have c6:Tryz.prog.cellsOf 43=1:=by kernel_rfl
  have J:DataW.trod enc aA W 0 (λ_=>true) true c 43 ((cs.drop 13).take (Tryz.prog.cellsOf 43))=some o:=e 6 _ rfl;rw[c6]at J;obtain⟨m6,h6,V⟩:=(Gw (sz:=1) (a:=aI) bC (by kernel_rfl) Ω inferInstance (λ_=>rfl) (Cy (y9y aB))) c _ _ (show Rows.uptoBulk o.1<B by omega) (Bq Ω) J;have c7:Tryz.prog.cellsOf 142=1:=by kernel_rfl
  have I:DataW.trod enc aA W 0 (λ_=>true) true c 142 ((cs.drop 14).take (Tryz.prog.cellsOf 142))=some k:=e 7 _ rfl;rw[c7]at I;obtain⟨D,E,U⟩:=(Gw (sz:=8) (a:=Aw) bR (by kernel_rfl) Ω inferInstance (λ_=>rfl) (zox B)) c _ _ (show Rows.uptoBulk k.1<B by omega) (Bq Ω) I;have c8:Tryz.prog.cellsOf 147=1:=by kernel_rfl
  have G:DataW.trod enc aA W 0 (λ_=>true) true c 147 ((cs.drop 15).take (Tryz.prog.cellsOf 147))=some j:=e 8 _ rfl;rw[c8]at G;obtain⟨m8,h8,T⟩:=(Gw (sz:=2) (a:=Bw) Tryz.underlying147 (by kernel_rfl) Ω inferInstance (λ_=>rfl) (Cy y6g)) c _ _ (show Rows.uptoBulk j.1<B by omega) (Bq Ω) G;have c9:Tryz.prog.cellsOf 43=1:=by kernel_rfl
  have F:DataW.trod enc aA W 0 (λ_=>true) true c 43 ((cs.drop 16).take (Tryz.prog.cellsOf 43))=some g:=e 9 _ rfl;rw[c9]at F;obtain⟨Z,h9,R⟩:=(Gw (sz:=1) (a:=aI) bC (by kernel_rfl) Ω inferInstance (λ_=>rfl) (Cy (y9y aB))) c _ _ (show Rows.uptoBulk g.1<B by omega) (Bq Ω) F;have E:Bz W [AV.sl 8 (List.map idA (List.map Aw D))] ((cs.drop 14).take 1):=by rw[U5];exact E
  have r:=(show Bz W _ (cs.drop 0) from(.cut h0 (.cut h1 (.cut h2 (.cut h3 (.cut h4 (.cut h5 (.cut h6 (.cut E (.cut h8 (.cut h9 (Bz.done Ω))))))))))));exact⟨⟨m0,m1,m2,m3,m4,m5,m6,D.map Aw,m8,Z⟩,r,⟨_,(show Rows.uptoBulk w.1<_ by omega),Y⟩,⟨_,(show Rows.uptoBulk q.1<_ by omega),X⟩,⟨_,(show Rows.uptoBulk o.1<_ by omega),V⟩,⟨_,(show Rows.uptoBulk k.1<_ by omega),D,rfl,U⟩,⟨_,(show Rows.uptoBulk j.1<_ by omega),T⟩,⟨_,(show Rows.uptoBulk g.1<_ by omega),R⟩⟩
theorem yc3 (B:Nat):FQ enc W 26 4 (λm:Aut=>(Bi m).cells) QA B:=λn cs x X U h=>by
 obtain⟨xs,c,_,I,_,e,j⟩:=DataW.trod_struct Tryz.underlying26 h
 match xs,e with
 |[o,k,g,f],_ =>
  have V:Rows.uptoBulk x.1=Rows.uptoBulk o.1+Rows.uptoBulk k.1+Rows.uptoBulk g.1+Rows.uptoBulk f.1+1:=by rw[I];simp only[Rows.uptoBulk,Rows.uptoBulkAll,aP,bK]<;>omega
  have P:Tryz.prog.cellsOf 3=1:=by kernel_rfl
  have z:DataW.trod enc aA W 0 (λ_=>true) true c 3 ((cs.drop 0).take (Tryz.prog.cellsOf 3))=some o:=j 0 _ rfl;rw[P]at z;obtain⟨G,L,T⟩:=(Cy (Cm aB)) c _ _ (show Rows.uptoBulk o.1<B by omega) (Bq Ω) z;have O:Tryz.prog.cellsOf 3=1:=by kernel_rfl
  have y:DataW.trod enc aA W 0 (λ_=>true) true c 3 ((cs.drop 1).take (Tryz.prog.cellsOf 3))=some k:=j 1 _ rfl;rw[O]at y;obtain⟨F,h1,R⟩:=(Cy (Cm aB)) c _ _ (show Rows.uptoBulk k.1<B by omega) (Bq Ω) y;have N:Tryz.prog.cellsOf 23=1:=by kernel_rfl
  have w:DataW.trod enc aA W 0 (λ_=>true) true c 23 ((cs.drop 2).take (Tryz.prog.cellsOf 23))=some g:=j 2 _ rfl;rw[N]at w;obtain⟨E,K,C⟩:=(Gw (sz:=1) (a:=Am) Tryz.underlying23 (by kernel_rfl) Ω inferInstance (λ_=>rfl) (y6e B)) c _ _ (show Rows.uptoBulk g.1<B by omega) (Bq Ω) w;have M:Tryz.prog.cellsOf 24=1:=by kernel_rfl
  have q:DataW.trod enc aA W 0 (λ_=>true) true c 24 ((cs.drop 3).take (Tryz.prog.cellsOf 24))=some f:=j 3 _ rfl;rw[M]at q;obtain⟨D,J,A⟩:=(Gw (sz:=17) (a:=Aa) Tryz.underlying24 (by kernel_rfl) Ω inferInstance (λ_=>rfl) (y9w B)) c _ _ (show Rows.uptoBulk f.1<B by omega) (Bq Ω) q;have r:=(show Bz W _ (cs.drop 0) from(.cut L (.cut h1 (.cut K (.cut J (Bz.done Ω))))));exact⟨⟨G,F,E,D⟩,r,⟨_,(show Rows.uptoBulk g.1<_ by omega),C⟩,⟨_,(show Rows.uptoBulk f.1<_ by omega),A⟩⟩
theorem y6i:FO enc W 37 5 (λm:A8=>(A5 m).cells):=λn cs x U h=>by
 obtain⟨xs,c,_,T,_,e,f⟩:=DataW.trod_struct Tryz.underlying37 h
 match xs,e with
 |[B,A,z,y,w],_ =>
  have R:Tryz.prog.cellsOf 3=1:=by kernel_rfl
  have q:DataW.trod enc aA W 0 (λ_=>true) true c 3 ((cs.drop 0).take (Tryz.prog.cellsOf 3))=some B:=f 0 _ rfl;rw[R]at q;obtain⟨G,L⟩:=(Cm aB) c _ _ (Bq Ω) q;have P:Tryz.prog.cellsOf 3=1:=by kernel_rfl
  have o:DataW.trod enc aA W 0 (λ_=>true) true c 3 ((cs.drop 1).take (Tryz.prog.cellsOf 3))=some A:=f 1 _ rfl;rw[P]at o;obtain⟨F,h1⟩:=(Cm aB) c _ _ (Bq Ω) o;have O:Tryz.prog.cellsOf 3=1:=by kernel_rfl
  have k:DataW.trod enc aA W 0 (λ_=>true) true c 3 ((cs.drop 2).take (Tryz.prog.cellsOf 3))=some z:=f 2 _ rfl;rw[O]at k;obtain⟨E,K⟩:=(Cm aB) c _ _ (Bq Ω) k;have N:Tryz.prog.cellsOf 3=1:=by kernel_rfl
  have j:DataW.trod enc aA W 0 (λ_=>true) true c 3 ((cs.drop 3).take (Tryz.prog.cellsOf 3))=some y:=f 3 _ rfl;rw[N]at j;obtain⟨D,J⟩:=(Cm aB) c _ _ (Bq Ω) j;have M:Tryz.prog.cellsOf 35=1:=by kernel_rfl
  have g:DataW.trod enc aA W 0 (λ_=>true) true c 35 ((cs.drop 4).take (Tryz.prog.cellsOf 35))=some w:=f 4 _ rfl;rw[M]at g;obtain⟨C,I⟩:=(yc4 (sz:=3) (a:=Ag) Tryz.underlying35 (by kernel_rfl) Ω inferInstance (λ_=>rfl) zz4) c _ _ (Bq Ω) g;have r:=(show Bz W _ (cs.drop 0) from(.cut L (.cut h1 (.cut K (.cut J (.cut I (Bz.done Ω)))))));exact⟨⟨G,F,E,D,C⟩,r⟩
theorem zo0 (c:Value.okWide aA W .any base 29 v)(h:DataW.Trod enc aA W 0 (λ_=>true) true 29 v d p):∃l:List A8,Rep W (λ_=>True) G0 (.sl 5 (l.map A5)) v :=
 y4d Tryz.underlying29 (by kernel_rfl) Ω inferInstance (λ_=>rfl) y6i c h
end
def z16 (x:Dy):AV:=.agg [.sl 2 (x.fTypes.map B2),aI x.fA.fVars,aI x.fA.fScopes,.sl 1 (x.fA.fStates.map Am),.sl 17 (x.fA.fEdges.map Aa),aI x.fRate]
section
variable {H:Type} {enc:TypeId×Value->H} {W:World} {base:Nat} {v:Value} {d:DataW H} {p:List MemPlace}
theorem y6h:FO enc W 164 2 (λm:Ts=>(D0 m).cells):=λn cs x B h=>by
 obtain⟨xs,e,_,_,_,c,f⟩:=DataW.trod_struct Tryz.underlying164 h
 match xs,c with
 |[o,k],_ =>
  have A:Tryz.prog.cellsOf 9=1:=by kernel_rfl
  have j:DataW.trod enc aA W 0 (λ_=>true) true e 9 ((cs.drop 0).take (Tryz.prog.cellsOf 9))=some o:=f 0 _ rfl;rw[A]at j;obtain⟨w,y⟩:=(y3h bG) e _ _ (Bq Ω) j;have z:Tryz.prog.cellsOf 3=1:=by kernel_rfl
  have g:DataW.trod enc aA W 0 (λ_=>true) true e 3 ((cs.drop 1).take (Tryz.prog.cellsOf 3))=some k:=f 1 _ rfl;rw[z]at g;obtain⟨q,h1⟩:=(Cm aB) e _ _ (Bq Ω) g;have r:=(show Bz W _ (cs.drop 0) from(.cut y (.cut h1 (Bz.done Ω))));exact⟨⟨w,q⟩,r⟩
theorem y3i:FO enc W 99 2 (λm:Ba=>(B2 m).cells):=λn cs x B h=>by
 obtain⟨xs,e,_,_,_,c,f⟩:=DataW.trod_struct Tryz.underlying99 h
 match xs,c with
 |[o,k],_ =>
  have A:Tryz.prog.cellsOf 9=1:=by kernel_rfl
  have j:DataW.trod enc aA W 0 (λ_=>true) true e 9 ((cs.drop 0).take (Tryz.prog.cellsOf 9))=some o:=f 0 _ rfl;rw[A]at j;obtain⟨w,y⟩:=(y3h bG) e _ _ (Bq Ω) j;have z:Tryz.prog.cellsOf 97=1:=by kernel_rfl
  have g:DataW.trod enc aA W 0 (λ_=>true) true e 97 ((cs.drop 1).take (Tryz.prog.cellsOf 97))=some k:=f 1 _ rfl;rw[z]at g;obtain⟨q,h1⟩:=(yc4 (sz:=2) (a:=D0) Tryz.underlying97 (by kernel_rfl) Ω inferInstance (λ_=>rfl) (y6h)) e _ _ (Bq Ω) g;have r:=(show Bz W _ (cs.drop 0) from(.cut y (.cut h1 (Bz.done Ω))));exact⟨⟨w,q⟩,r⟩
def ydi (b:Nat)(m:Dy):Prop:=(∃c,c < b/\SlQ (λ_ _=>True) c m.fTypes)/\∃c,c < b/\QA c m.fA
theorem y9x (B:Nat):FQ enc W 28 6 (λm:Dy=>(z16 m).cells) ydi B:=λn cs x O M h=>by
 obtain⟨xs,c,_,E,_,e,k⟩:=DataW.trod_struct bU h
 match xs,e with
 |[g,f,j],_ =>
  have N:Rows.uptoBulk x.1=Rows.uptoBulk g.1+Rows.uptoBulk f.1+Rows.uptoBulk j.1+1:=by rw[E];simp only[Rows.uptoBulk,Rows.uptoBulkAll,aP,bK]<;>omega
  have K:Tryz.prog.cellsOf 22=1:=by kernel_rfl
  have w:DataW.trod enc aA W 0 (λ_=>true) true c 22 ((cs.drop 0).take (Tryz.prog.cellsOf 22))=some g:=k 0 _ rfl;rw[K]at w;obtain⟨D,G,z⟩:=(Gw (sz:=2) (a:=B2) Tryz.underlying22 (by kernel_rfl) Ω inferInstance (λ_=>rfl) (Cy y3i)) c _ _ (show Rows.uptoBulk g.1<B by omega) (Bq Ω) w;have J:Tryz.prog.cellsOf 26=4:=by kernel_rfl
  have q:DataW.trod enc aA W 0 (λ_=>true) true c 26 ((cs.drop 1).take (Tryz.prog.cellsOf 26))=some f:=k 1 _ rfl;rw[J]at q;obtain⟨C,h1,y⟩:=(yc3 B) c _ _ (show Rows.uptoBulk f.1<B by omega) (Bq Ω) q;have I:Tryz.prog.cellsOf 3=1:=by kernel_rfl
  have o:DataW.trod enc aA W 0 (λ_=>true) true c 3 ((cs.drop 5).take (Tryz.prog.cellsOf 3))=some j:=k 2 _ rfl;rw[I]at o;obtain⟨A,F,L⟩:=(Cy (Cm aB)) c _ _ (show Rows.uptoBulk j.1<B by omega) (Bq Ω) o;have r:=(show Bz W _ (cs.drop 0) from(.cut G (.cut h1 (.cut F (Bz.done Ω)))));exact⟨⟨D,C,A⟩,r,⟨_,(show Rows.uptoBulk g.1<_ by omega),z⟩,⟨_,(show Rows.uptoBulk f.1<_ by omega),y⟩⟩
theorem y7a (f:Value.okWide aA W .any base 28 v)(h:DataW.Trod enc aA W 0 (λ_=>true) true 28 v d p)(k:Rows.uptoBulk d<=1048576):∃m:Dy,Rep W (λ_=>True) G0 (z16 m) v/\WfA m.fA/\m.fTypes.length<=1100000:=by
 obtain⟨m,r,⟨q,j,e⟩,⟨o,g,c⟩⟩:=zxc (sz:=6) (a:=z16) bU (by kernel_rfl) (λ_=>⟨_,rfl⟩) (λB=>y9x B) f h;have:=e.len;exact⟨m,r,yan c Ω,Ω⟩
end
theorem zwj (c:Dy)(e:WfA c.fA)(f:c.fTypes.length<=1100000)(l:List A8):Con E0 true 3 [z16 c,.sl 5 (l.map A5)] (.bool true):=z3q (zwg c e f l)
section
variable {H:Type} {enc:TypeId×Value->H}
set_option maxRecDepth 100000 in
theorem zk0 (F:Stop.Interp)(P:Os)(started:P.Started){f:FuncId}{fn:Func}{s:ChangeSpec}{fr:Bool}(hf:Tryz.prog.funcs[f]? = some fn)(T:Tryz.prog.inits.idxOf? f=none)
  (hw:∃(w:World) (tape:Tape) (i:Input),w.os=P/\(w.forCall tape i).Shaped Tryz.checked.prog/\i.vars=[]/\Input.okWide Tryz.checked.prog (w.forCall tape i) .any w.heap.size f i /\
    (Rows.OpenSpec.upto s).pre6 enc Tryz.checked.prog fn [] false (w.forCall tape i).memory i.args/\Assume.holds {} Tryz.checked.prog (lone (Frame.enter Tryz.checked.prog f i.args .normal) [] (w.forCall tape i)))
  (c:s.vars=[]) (m:fn.resultTypes=#[4]) (o:fn.params.toList.all (λt=>Tryz.prog.readableRec t && decide (t<Tryz.prog.types.size))=true)
  (z:∀ds:List (DataW H),ds.length=fn.params.size->s.fn H ds={ results:=[.lit (.bool true)],args:=ds })
  (B:∀(W:World) (base:Nat) (args:Array Value) (ds:List (DataW H)) (p:List MemPlace),(∀(j:Nat) t v,fn.params[j]? = some t->args[j]? = some v->Value.okWide aA W .any base t v) ->
    DataW.TrodAll enc aA W 0 (λ_=>true) true fn.params.toList args.toList ds p->Rows.uptoBulkAll ds<=1048576->∃avs,Args W (λ_=>True) avs args/\Con E0 fr f avs (.bool true)) :
  ReturnsInHanded {} cK P f .any ((Rows.OpenSpec.upto s).pre6 enc aA fn [] false) (((Rows.OpenSpec.upto s).at F).post enc aA fn false true false false):=by
 refine returnsInHanded_of_cond (C:=cK) (s:=Rows.OpenSpec.upto s) (k:=Rows.uptoSmall) rfl y65 started T hf hw ?_;intro W base args ds gs before E hW Z hk _;show Calls Tryz.checked.prog f args W λe W'=>∃v,e=.returned v/\s.post enc aA fn false true false false W args v W'
 have M:=hW;obtain⟨p,q,O,hV,rfl,U,aa⟩:=hW;have J:∀x∈p++q,x.block<W.heap.size:=λx g=>DataW.Whole.lt M x g
 rw[show(Rows.OpenSpec.upto s).vars=s.vars from rfl,c]at hV;obtain⟨rfl,rfl⟩:=trodVars_none hV;have X:Rows.uptoBulkAll ds<=1048576:=by
  have:=of_decide_eq_true hk
  rwa [append_nil]at this
 obtain⟨avs,D,L⟩:=B W base args ds p E O X;refine(L.2 (λ_=>True) W args D).mono λe W' ⟨v,he,⟨N,_⟩,R⟩=>?_
 have R:=R.bool_inv;subst R;subst he;have V:ds.length=fn.params.size:=(zvc _ _ _ _ O).trans Δ;have A:s.fn H (ds++[])={ results:=[.lit (.bool true)],args:=ds }:=by rw[append_nil];exact z ds V
 have y:∀x∈p,x.block<W.heap.size:=λx g=>J x (by simp[g])
 have k0:=zfb (sp':=λb=>decide (b<W.heap.size)) N _ _ _ _ o O y (λx g=>by simpa using y x g);have k1:=zfb (sp':=λ_=>true) N _ _ _ _ o O y (λx g=>rfl);have I:(Value.bool true).resultList fn.resultTypes.size=[.bool true]:=by rw[m];rfl
 have G:fn.resultTypes.toList=[4]:=by rw[m]
 refine⟨_,rfl,ds,[],_,[],p,[],M,?_,?_,?_,World.keptBut_mono (λx g=>⟨g,?_⟩) (N.frame (·∈p++[])),λh=>?_⟩
 ·rw[A,G,I];exact trodAll_mk1 (shut_bool bH true)
 ·rw[A];exact k0
 ·rw[A,c];exact rfl
 ·exact aS (aT (by simpa using g))
 ·rw[G,I,c];refine⟨?_,[.lit (.bool true)]++ds,[],p,⟨p,[],?_,rfl,Δ,?_,λh=>by simp at h⟩,?_⟩
  ·rw[m];intro j t r ht Y
   match j with
   |0 =>
    obtain rfl:4=t:=aJ ht;obtain rfl:Value.bool true=r:=aJ Y;exact okWide_bool_mk bH true
   |j+1=>exact absurd Y Δ
  ·exact trodAll_append k1 (trodAll_mk1 (shut_bool bH true))
  ·intro b off hp;have K:MemPlace.cell b off∈p++[]:=by simpa using hp
   rw[N.frozen (J _ K)];exact U b off K
  ·intro x g _;simpa using g
end
section
variable {H:Type} {enc:TypeId×Value->H} {W:World} {base:Nat} {v:Value} {d:DataW H} {p:List MemPlace}
end
section
variable {H:Type} {enc:TypeId×Value->H} {W:World} {base:Nat} {v:Value} {d:DataW H} {p:List MemPlace}
end
end Go.Proofs.YthbogefcfhmpgaaGreat
