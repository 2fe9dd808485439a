/- The statement MemoryExpires, plainly. -/
import Derived.Test.YthbogefcfhmpgaaGreatK24
import Derived.Test.YthbogefcfhmpgaaGreatRows
import Derived.ProofKit
import Derived.Lib.SmallJoins
import Derived.Deep.Slices
import Derived.Below
import Derived.OpenShut
import Derived.JoinedCond
set_option linter.unusedVariables false
set_option linter.unusedSimpArgs false
set_option maxRecDepth 100000
namespace Go.Proofs.YthbogefcfhmpgaaGreat
open Go.RowKit List
open _root_.Go.Proofs.Tryz renaming prog->aA,underlying3->aB,underlying43->aK,underlying4->aM,underlying142->aW,underlying26->aY,underlying37->aZ,checked->bH
open List renaming mem_singleton->aC,getElem?_eq_getElem->aD,length_map->aE,map_cons->aG,mem_cons_of_mem->aH,range->aN,getD_eq_getElem?_getD->aO,all_eq_true->aS,getElem_map->aT,getElem_range->aU,length_append->aV,append_nil->aX,mem_append_right->bC,length_cons->bD,map_nil->bF,sum_cons->bG,mem_map->bI
open Bool renaming and_eq_true->aF,not_true->aL,not_false->aR
open Nat renaming le_refl->aJ,zero_le->aQ
open Or renaming inr->aP,inl->bA
def st1 (l:List Sta)(s:Int):Option Sta:=l.find? (fun x=>decide (x.fScope=s))
theorem y2v (l:List Sta)(s t c:Int):st1 (opS l s t) c=if c=s then some ⟨s,t⟩ else st1 l c:=by
 have A:(l.filter (fun x=>decide (x.fScope<s))).find? (fun x=>decide (x.fScope=c))=if c < s then st1 l c else none:=by
  rw [List.find?_filter];by_cases q:c < s
  ·rw [if_pos q];refine congrArg (fun f=>l.find? f) (funext fun a=>?_);simp only [decide_eq_true_eq,decide_eq_decide];omega
  ·rw [if_neg q];refine find?_eq_none.2 (fun a _=>?_);simp only [decide_eq_true_eq];omega
 have B:(l.filter (fun x=>decide (s<x.fScope))).find? (fun x=>decide (x.fScope=c))=if s<c then st1 l c else none:=by
  rw [List.find?_filter];by_cases q:s<c
  ·rw [if_pos q];refine congrArg (fun f=>l.find? f) (funext fun a=>?_);simp only [decide_eq_true_eq,decide_eq_decide];omega
  ·rw [if_neg q];refine find?_eq_none.2 (fun a _=>?_);simp only [decide_eq_true_eq];omega
 have e:st1 (opS l s t) c=((l.filter (fun x=>decide (x.fScope<s))).find? (fun x=>decide (x.fScope=c))).or (if s=c then some ⟨s,t⟩ else (l.filter (fun x=>decide (s<x.fScope))).find? (fun x=>decide (x.fScope=c))):=by
  unfold st1 opS;rw [find?_append,find?_cons];by_cases q:s=c
  ·rw [if_pos q];simp [q]
  ·rw [if_neg q];simp [q]
 rw [e,A,B];rcases Int.lt_trichotomy c s with q|q|q
 ·rw [if_pos q,if_neg (by omega),if_neg (by omega),if_neg (by omega)];simp
 ·rw [if_neg (by omega),if_pos q.symm,if_pos q];simp
 ·rw [if_neg (by omega),if_neg (by omega),if_pos q,if_neg (by omega)];simp
theorem zqi (t c:Int):∀ (g:List Int) (l:List Sta),st1 (opL l g t) c=if c∈g then some ⟨c,t⟩ else st1 l c
 |[],l=>by unfold opL;simp
 |s::r,l=>by
  have e:opL l (s::r) t=opL (opS l s t) r t:=rfl;rw [e,zqi t c r,y2v];by_cases q:c∈r
  ·rw [if_pos q,if_pos (aH _ q)]
  ·rw [if_neg q];by_cases f:c=s
   ·subst f;rw [if_pos rfl,if_pos (by simp)]
   ·rw [if_neg f,if_neg (by simp [q,f])]
theorem y30 (x:Ed)(l:List Sta)(s:Int)(h:¬s∈x.fCloses):st1 (l.filter (ncl x)) s=st1 l s:=by
 unfold st1;rw [List.find?_filter];refine congrArg (fun f=>l.find? f) (funext fun a=>?_);by_cases e:a.fScope=s
 ·have:ncl x a=true:=by
   unfold ncl clP;rw [Bool.not_eq_true',any_eq_false];intro y c;rw [decide_eq_true_eq,e];exact fun q=>h (q▸c)
  simp [this,e]
 ·simp [e]
structure An (p:C5) (out:List Mp) (c:Cf):Prop where
 z:c.fBindings=[]->c.fState=0
 a:∀ b r,c.fBindings=b::r->has p.finner c.fState->∀ M s,out[c.fState.toNat]? = some M->has M s->st1 c.fStarts s=some ⟨s,b.fRef.fTime⟩
variable {a:Aut}{l:List Ev}
theorem y3z (h:GS a l){p:C5}(B:PtOk a p){out:List Mp}(L:∀ x∈a.fEdges,Fx p out x):∀ {i:Nat},i<=l.length->∀ c∈xsI a l i,An p out c
 |0,hi=>fun c K=>by
  rw [(ziy a l).1] at K;rw [aC.1 K];exact ⟨fun _=>rfl,fun b r h=>by cases h⟩
 |i+1,hi=>fun d J=>by
  rw [(Ww h (by omega)).1] at J;obtain ⟨c,h1,m,h3⟩:=X0 J;have D:=y3z h B L (by omega:i<=l.length) c h1;have o:=y1q h (R:=fun t=>has p.freachable t) B.r0 B.rn (by omega:i<=l.length) c h1;unfold outP at m;rcases mem_append.1 m with m|m
  ·split at m
   ·rw [aC.1 m];exact D
   ·simp at m
  ·obtain ⟨x,hx,E⟩:=mem_filterMap.1 m;obtain ⟨hm,f⟩:=Mw hx;have e:=Wu E;subst e;have A:bdN c x l[i]=c.fBindings++[⟨x.fVar,Bb l[i]⟩]:=rfl;refine ⟨fun q=>by simp [A] at q,fun b r j w M s hM hs=>?_⟩;obtain ⟨p1,Z,Y⟩:=L x hm h3 (f▸o.r) w M s hM hs;show st1 ((stN c x l[i]).filter (ncl x)) s=_;rw [y30 x _ s p1];unfold stN;rw [zqi];simp only [A] at j;cases g:c.fBindings with
   |nil =>
    rw [g] at j;injection j with j _
    rw [if_pos (Z (by rw [f];exact D.z g)),<-j];rfl
   |cons b0 S =>
    rw [g] at j;injection j with j _
    obtain ⟨U,P,I⟩:=B.us;obtain ⟨z,_,_,_,zU,ze⟩:=(I _).1 w;have C:z.fTo=x.fTo:=ze;rw [C] at zU;have F:U x.fFrom:=P x hm (aP zU);rcases o.st with q|⟨y,O,N,G⟩
    ·rw [g] at q;cases q
    ·have aa:=(zym h (by omega:i<=l.length) c h1).cb.st;have k:has p.finner c.fState:=(I _).2 ⟨y,O,by omega,N,by rw [G,<-f];exact F,G⟩;obtain ⟨X,M',V,T⟩:=Y (f▸k);rw [if_neg X,<-j];exact D.a b0 S g k M' s (f▸V) T
variable {e:Ev}
theorem zz7 (h:GS a l){c:Cf}(o:Gd57 a l l.length c)(C:Cg e=true)(A:∀ y∈l,rCmp (Bb y) (Bb e)<0):Rz N0 a l c e=some (cfN a l [c] e,maN a l [c] e,0):=by
 obtain ⟨x,hm,j⟩:=h.begin l.length;have f:=o.held h;rw [take_length] at hm j f;have D:=h.len;have m:∀ y∈l,Bb y=Bb e->y=e:=fun y k q=>absurd q (N8.lt_ne (A y k))
 have i:CIv a [e] c:=⟨o.ci.asc,fun b s y k=>by
  rw [aC.1 k];obtain ⟨z,B⟩:=Option.isSome_iff_exists.1 (f.bd b s).2;obtain ⟨F,E⟩:=zjn (by simpa using B);rw [<-F];exact A z E,o.ci.scp⟩
 have w:=znc (r:=⟨a,x⟩) h.cx hm (by omega:l.length+20<=1000) m h.edges [c] (fun d g=>by rw [aC.1 g];exact f) (by simp);unfold Rz bndP;rw [j];simp only [Aw,A3];rw [if_pos trivial,zzc (r:=⟨a,x⟩) hm (by omega:l.length+20<=1000) f i,A0,if_pos rfl,y4t (a:=a) (r:=[]) C [c] (by simp) (fun d g=>by rw [aC.1 g];have:=f.lb;omega) (fun d g=>by rw [aC.1 g];exact i),A0,if_pos rfl,w,A0]
theorem zwp {c:Cf}(F:0<=c.fState)(s:∀ x∈Ef a c.fState,coP a l c x e=none):maN a l [c] e=[]/\(cfN a l [c] e=[]\/cfN a l [c] e=[c]):=by
 have o:(Ef a c.fState).filterMap (fun x=>coP a l c x e)=[]:=by
  rw [filterMap_eq_nil_iff];exact s
 have j:∀ d∈outP a l c e,d=c:=fun d f=>by
  unfold outP at f;rw [o,aX] at f;split at f
  ·exact aC.1 f
  ·simp at f
 have k:(outP a l c e).length<=1:=by
  unfold outP;rw [o,aX];split<;>simp
 constructor
 ·refine eq_nil_iff_forall_not_mem.2 (fun z i=>?_);unfold maN at i;obtain ⟨B,h1,g⟩:=mem_flatMap.1 ((Fd D5 _ _).1 i);rw [aC.1 h1] at g;unfold maO at g;obtain ⟨d,A,_⟩:=bI.1 g;obtain ⟨y,w⟩:=mem_filter.1 A;rw [j d y,decide_eq_true_eq] at w;omega
 ·have hm:∀ d∈cfN a l [c] e,d=c:=fun d f=>by
   obtain ⟨B,h1,g,_⟩:=X0 f;rw [aC.1 h1] at g;exact j d g
  have m:(cfN a l [c] e).length<=1:=by
   unfold cfN;have E:=zdk (c:=Bl) ([c].flatMap (fun c=>cfO (outP a l c e)));have D:=Nb (outP a l c e);have C:([c].flatMap (fun c=>cfO (outP a l c e))).length=(cfO (outP a l c e)).length:=by simp
   omega
  cases h:cfN a l [c] e with
  |nil=>exact bA rfl
  |cons d r =>
   rw [h] at hm m;have q:r=[]:=by
    cases r with
    |nil=>rfl
    |cons _ _=>simp only [bD] at m;omega
   exact aP (by rw [q,hm d (by simp)])
theorem zah (n:Nat)(w:List Bool)(g:w.length<=1000)(K:List Int->Option (List Int)):∀ (m k:Nat) (acc:List Int),k<=w.length->w.length<m+k->acc.length<=k->∃ L,K3 n w K m ((k:Int),acc)=K L/\L.length<=w.length/\∀ t∈L,t∈acc\/hs w t
 |0,k,acc,h1,j,i=>by omega
 |m+1,k,acc,h1,j,i=>by
  unfold K3;simp only [aE,Ak];rw [A3];by_cases h:k<w.length
  ·rw [if_pos (by omega),Af h];cases q:w[k] with
   |true =>
    rw [Am,Bv (by simp;omega) (by omega),Ag k (by omega)];obtain ⟨L,s,r,o⟩:=zah n w g K m (k+1) (acc++[(k:Int)]) (by omega) (by omega) (by simp;omega);refine ⟨L,s,r,fun t f=>?_⟩;rcases o t f with c|c
    ·rcases mem_append.1 c with c|c
     ·exact bA c
     ·rw [aC.1 c];exact aP ⟨by omega,by rw [Int.toNat_natCast,aD h,q]⟩
    ·exact aP c
   |false =>
    rw [Ar,Ag k (by omega)];exact zah n w g K m (k+1) acc (by omega) (by omega) (by omega)
  ·rw [if_neg (by omega)];exact ⟨acc,rfl,by omega,fun t f=>bA f⟩
theorem zz2 (n:Nat)(r:10000000<n)(a:Aut)(h:EdR a)(s:G3 n a=some 0):∃ L,Tz n a=some (L,0)/\L.length<=1000/\∀ t∈L,∀ U,UsC a U->U t:=by
 have o:=h.st;have c:UsC a (fun t=>∀ V,UsC a V->V t):=fun x m q V i=>i x m (q.imp id (fun q=>q V i))
 obtain ⟨w,j,A,y⟩:=zn1 n r a h _ c n 0 (replicate a.fStates.length false) (aQ _) (by omega) (by simp) (fun t f=>absurd f (zx5 _ t));obtain ⟨L,g,z,k⟩:=zah n w (by omega) (fun b=>some b) n 0 [] (aQ _) (by omega) (by simp);simp only [Int.natCast_zero] at j g;refine ⟨L,?_,by omega,fun t f=>y t ((k t f).resolve_left (by simp))⟩;unfold Tz Xs Y0;simp only [aE];rw [s,A0,X2 (by omega) (by decide),j,A0,g,A0,show (!decide ((0:Int)=0))=false from rfl,Ar]
structure Xc (a:Aut) (l:List Ev) (e:Ev) (ag:List Int) (bd:List Bool) (us:List Int) (c:Cf):Prop where
 ok:cfOk c=true
 x:c.fBindings=[]\/¬c.fState∈us\/∃ s:Nat,c.fState=(s:Int)/\∃ k,bd[s]? = some k/\(k=false\/∃ b r g,c.fBindings=b::r/\ag[s]? = some g/\(0<=b.fRef.fTime/\b.fRef.fTime<=1099511627776)/\(¬e.fTime-b.fRef.fTime<=g->∃ S,Rz N0 a l c e=some (S,[],0)/\(S=[]\/S=[c])))
theorem zsf (P:0<=e.fTime/\e.fTime<=1099511627776){ag:List Int}{bd:List Bool}{us:List Int}(D:us.length<=1000)(z:Int)(cs:List Cf)(E:cs.length<=1000000)(A:List Ma)(x w:Int)(F:∀ c∈cs,Xc a l e ag bd us c)(K:Option Bool):∀ (m k:Nat),k<=cs.length->cs.length<m+k->Ey N0 e l a (ag,bd,z) (cs,A,x) (us,w) K m (k:Int)=K
 |0,k,h1,R=>by omega
 |m+1,k,h1,R=>by
  unfold Ey;simp only [aE,B2,Ak];rw [A3];by_cases h:k<cs.length
  ·have C:=zsf P D z cs E A x w F K m (k+1) (by omega) (by omega);obtain ⟨i,f⟩:=F _ (getElem_mem h);have skip:Ez N0 e l a (ag,bd,z) (cs,A,x) (us,w) (k:Int) (Ey N0 e l a (ag,bd,z) (cs,A,x) (us,w) K m) cs[k] true=K:=by
    unfold Ez;rw [Am,Ag k (by omega)];exact C
   rw [if_pos (by omega),Af h,A3];by_cases B:cs[k].fBindings=[]
   ·rw [if_pos (by rw [B];rfl)];exact skip
   have O:0<cs[k].fBindings.length:=length_pos_iff.2 B;rw [if_neg (by omega),Fa N0 cs[k].fState us (by omega) (by unfold N0;omega),A0];cases M:(us.any fun y=>decide (cs[k].fState=y)) with
   |false=>rw [aR,Am];exact skip
   |true =>
    rw [aL,Ar];obtain ⟨y,L,G⟩:=any_eq_true.1 M;rw [decide_eq_true_eq] at G;rcases f with f|f|⟨s,e1,kb,Z,f⟩
    ·exact absurd f B
    ·exact absurd (G▸L) f
    ·obtain ⟨b1,b2⟩:=List.getElem?_eq_some_iff.1 Z;rw [e1,Af b1,b2];rcases f with f|⟨b,r,g,Y,X,f3,V⟩
     ·rw [f,aR,Am];exact skip
     ·cases kb with
      |false=>rw [aR,Am];exact skip
      |true =>
       obtain ⟨U,T⟩:=List.getElem?_eq_some_iff.1 X;rw [aL,Ar,Y,zdt,Af U,T,Cl _ (by omega)];by_cases q:e.fTime-b.fRef.fTime<=g
       ·rw [decide_eq_true q];exact skip
       ·obtain ⟨S,I,j⟩:=V q;rw [decide_eq_false q];unfold Ez;rw [Ar,I,A0];simp only [B2,Ak,Aw,A3,if_true,aE,length_nil,Fn,Ag k (by omega:k<=1000000000000)];rcases j with j|j
        ·subst j;simpa [Ar] using C
        ·subst j;have J:Bl cs[k] cs[k]=0:=(Ea.zero _ _).2 rfl;have N:=(En _).1 i;have o:I7 N0 cs[k] cs[k]=some 0:=by rw [y2g N0 _ _ i i (by unfold N0;omega) (by unfold N0;omega),J]
         simpa [zdt,o,A0,Ar] using C
  ·rw [if_neg (by omega)]
variable {n:Nat}
theorem zzi (h:GS a l)(O:Cg e=true)(hb:∀ y∈l,rCmp (Bb y) (Bb e)<0){p:C5}(f:PtOk a p){out:List Mp}(hF:∀ x∈a.fEdges,Fx p out x)(hA:AutR a)(hn:10000000<n){ag:List Int}{bd:List Bool}(P:AgQ n a p out a.fStates.length ag bd){us:List Int}(F:∀ t∈us,∀ U,UsC a U->U t):∀ c∈xsI a l l.length,Xc a l e ag bd us c:=fun c I=>by
 have k:=zym h (aJ _) c I;have z:=y1q h (R:=fun t=>has p.freachable t) f.r0 f.rn (aJ _) c I;have J:=y3z h f hF (aJ _) c I;have aa:=h.len;refine ⟨k.ok h (by omega),?_⟩;by_cases N:c.fState∈us;rotate_left
 ·exact aP (bA N)
 cases m:c.fBindings with
 |nil=>exact bA rfl
 |cons b r =>
  refine aP (aP ?_);obtain ⟨s0,s1⟩:=k.cb.st;have w:c.fState.toNat<bd.length:=by rw [P.l2];omega
  refine ⟨c.fState.toNat,by omega,bd[c.fState.toNat],aD w,?_⟩;cases o:bd[c.fState.toNat] with
  |false=>exact bA rfl
  |true =>
   refine aP ?_;obtain ⟨U,Y,X⟩:=f.us;rcases z.st with q|⟨y,T,S,K⟩
   ·rw [m] at q;cases q
   have D:has p.finner c.fState:=(X _).2 ⟨y,T,by omega,S,by rw [K];exact F _ N U (fun x E q=>Y x E q),K⟩;have et:((c.fState.toNat:Nat):Int)=c.fState:=by omega
   obtain ⟨M,s,g,m1,m2,m3,m4⟩:=P.bdd c.fState.toNat (by omega) (by rw [et];exact D) (by rw [aD w,o]);have G:=J.a b r m D M s m1 m2;obtain ⟨j,hj,_,ej⟩:=z.bd b (by rw [m];simp);have A:=h.so.pl _ (getElem_mem hj);have ejt:l[j].fTime=b.fRef.fTime:=congrArg Bm.fTime ej;unfold Cg at A;simp only [aF,decide_eq_true_eq] at A;have B:=O;unfold Cg at B;simp only [aF,decide_eq_true_eq] at B;refine ⟨b,r,g,rfl,m3,⟨by omega,by omega⟩,fun hq=>?_⟩;have i:∀ x∈Ef a c.fState,coP a l c x e=none:=fun x E=>by
    obtain ⟨L,V⟩:=Mw E;obtain ⟨k1,k2⟩:=m4 x L (by rw [V,et]);have C:=hA.lo x L;obtain ⟨lm,l1,l2,l3,l4⟩:=y23 n hn x C.1 C.2.2.2 s k1;unfold coP;rw [if_neg];rintro ⟨_,_,_,ha,_⟩;have o:=aS.1 ha lm l1;unfold keP at o;have hf:(stN c x e).find? (fun y=>decide (y.fScope=lm.fScope))=some ⟨s,b.fRef.fTime⟩:=by
     rw [l2];have:=zqi e.fTime s x.fOpens c.fStarts;rw [if_neg l3,G] at this;exact this
    rw [hf] at o;simp only [decide_eq_true_eq] at o;rw [Cl _ (by omega)] at o;omega
   obtain ⟨t1,Z⟩:=zwp s0 i;exact ⟨_,by rw [zz7 h k O hb,t1],Z⟩
theorem zjr (a:Aut)(m:WfA a)(l:List Ev)(e:Ev):X9 N0 a l e=some true:=by
 have L:30000000<N0:=by unfold N0;omega
 have i:Ip N0=some true:=zuu;have skip2:F0 N0 e l a true=some true:=by
  unfold F0;rw [Am,i,A0]
 have skip1:Eh N0 e l a true=some true:=by
  unfold Eh;rw [Am,i,A0]
 obtain ⟨b,A,S⟩:=zw3 a m l;obtain ⟨d,r,z,M⟩:=zjb N0 (by decide) a m;unfold X9;simp only [B2,Ak];rw [A,A0,r,A0,zs5,A0,zmh,A0,y10 N0 [e] (by unfold N0;omega),A0];simp only [Aw,A3];cases b with
 |false=>rw [Ar];exact skip1
 |true =>
  rw [Am];by_cases q:d=0;rotate_left
  ·rw [if_neg q];exact skip1
  rw [if_pos q];by_cases hs:D7 l=0;rotate_left
  ·rw [if_neg hs];exact skip1
  rw [if_pos hs];cases x:Cg e with
  |false=>rw [Ar];exact skip1
  |true =>
   rw [Am];cases J:fewE [e] with
   |false=>exact skip1
   |true =>
    subst q;have h:GS a l:=GS.of25 m A (by unfold H5;rw [r,A0,Aw,A3,if_pos rfl,zs5,hs,A0]);have G:=h.len;have k:=scR (T:=[]) m (M rfl) (by omega:10000000<N0) z;have g:=x;unfold Cg at g;simp only [aF,decide_eq_true_eq] at g;have fin:(∀ y∈l,rCmp (Bb y) (Bb e)<0)->F0 N0 e l a false=some true:=fun K=>by
     obtain ⟨ag,bd,p,out,P,O,N,U,s⟩:=y4e N0 L a k.toAutR m z;obtain ⟨F,E⟩:=y2b h;obtain ⟨us,D,C,B⟩:=zz2 N0 (by omega) a k.toEdR r;unfold F0;rw [Ar,P,A0,E,A0,D,A0];simp only [B2,Ak,aE,s.l1,s.l2,Aw,A3,if_true,decide_true,aL];unfold Fo;simp only [Ar];have:=zsf (a:=a) (l:=l) (e:=e) ⟨g.1,g.2.1⟩ C 0 (xsI a l l.length) (by have:=zvc h (aJ _);omega) F 0 0 (zzi h x K O N k.toAutR (by omega:10000000<N0) s B) (bnd (Ip N0) fun f=>some f) N0 0 (aQ _) (by have:=zvc h (aJ _);unfold N0;omega);rw [i,A0] at this;simp only [Int.natCast_zero] at this;rw [i,A0];exact this
    unfold Eh;rw [aL,Ar];simp only [B2,Ak,aE];rw [A3];by_cases R:0<l.length
    ·have ew:IntKind.wrap .i64 ((l.length:Int)-1)=((l.length-1:Nat):Int):=by rw [Cl _ (by omega)];omega
     rw [if_pos (by omega),ew,Af (by omega),X7,X7,A0,A0,zj8,A0];show F0 N0 e l a (decide (0<=rCmp (Bb (l[l.length-1]'(by omega))) (Bb e)))=some true;by_cases w:0<=rCmp (Bb (l[l.length-1]'(by omega))) (Bb e)
     ·rw [decide_eq_true w];exact skip2
     ·rw [decide_eq_false w];refine fin (fun y o=>?_);obtain ⟨j,I,rfl⟩:=mem_iff_getElem.1 o;have c:rCmp (Bb (l[l.length-1]'(by omega))) (Bb e)<0:=by omega
      by_cases ej:j=l.length-1
      ·subst ej;exact c
      ·have:=pairwise_iff_getElem.1 h.so.st j (l.length-1) I (by omega) (by omega);exact N8.trans _ _ _ this c
    ·rw [if_neg (by omega)];refine fin (fun y o=>?_);have:=length_pos_of_mem o;omega
open Go.ChangeShapes Go.WideShapes Go.ChangeAt
theorem zuv {w:World}{S:Nat->Prop}{a b c:AV}{x y z:Value}(j:Rep w S G0 a x)(h:Rep w S G0 b y)(g:Rep w S G0 c z):Args w S [a,b,c] #[x,y,z] :=
 ⟨rfl,fun i hi=>by
  have f:i<3:=hi;rcases i with _|_|_|i
  ·exact j
  ·exact h
  ·exact g
  ·omega⟩
theorem zzq:ownKnob Tryz.prog.godebug=none:=by kernel_rfl
theorem zzv:laidOutB aA=true:=by kernel_rfl
section
variable {H:Type} {enc:TypeId×Value->H}
theorem zb0 {W W':World}{sp':Nat->Bool}(m:Below W.heap.size W W')(f:List TypeId):∀ (vs:List Value) (ds:List (DataW H)) (p:List MemPlace),f.all (fun t=>Tryz.prog.readableRec t && decide (t<Tryz.prog.types.size))=true ->
  DataW.TrodAll enc aA W 0 (fun _=>true) true f vs ds p->(∀ x∈p,x.block<W.heap.size)->(∀ x∈p,sp' x.block=true)->DataW.TrodAll enc aA W' 0 sp' true f vs ds p:=by
 induction f with
 |nil =>
  intro vs ds p _ h _ _
  match vs,ds,h with
  |[],[],h=>exact h
  |_::_,_,h=>exact h.elim
  |[],_::_,h=>exact h.elim
 |cons t f ih =>
  intro vs ds p k h i hs
  match vs,ds,h with
  |v::vs,d::ds,h =>
   obtain ⟨q,r,h1,o,rfl⟩:=h;have g:Tryz.prog.readableRec t=true/\t<Tryz.prog.types.size:=by
    have:=aS.mp k t (mem_cons_self ..);rw [aF,decide_eq_true_eq] at this;exact this
   have j:f.all (fun t=>Tryz.prog.readableRec t && decide (t<Tryz.prog.types.size))=true :=
    aS.mpr fun x c=>aS.mp k x (aH _ c)
   exact ⟨q,r,WideElems.Trod_stays zzv g.1 g.2 h1 (fun x c=>m.same (i x (mem_append_left _ c))) (fun x c=>hs x (mem_append_left _ c)),
    ih vs ds r j o (fun x c=>i x (bC _ c)) (fun x c=>hs x (bC _ c)),rfl⟩
  |[],_,h=>exact h.elim
  |_::_,[],h=>exact h.elim
theorem zpi {W:World}{b:Nat}{sp:Nat->Bool}(c:List TypeId):∀ (vs:List Value) (ds:List (DataW H)) (p:List MemPlace),DataW.TrodAll enc aA W b sp true c vs ds p->ds.length=c.length:=by
 induction c with
 |nil =>
  intro vs ds p h
  match vs,ds,h with
  |[],[],h=>rfl
  |_::_,_,h=>exact h.elim
  |[],_::_,h=>exact h.elim
 |cons t c f =>
  intro vs ds p h
  match vs,ds,h with
  |v::vs,d::ds,h =>
   obtain ⟨q,r,h1,g,rfl⟩:=h;simp only [bD];rw [f vs ds r g]
  |[],_,h=>exact h.elim
  |_::_,[],h=>exact h.elim
end
open Go.Joins Go.Deep
section
variable {H:Type} {enc:TypeId×Value->H} {W:World} {base:Nat} {v:Value} {d:DataW H} {p:List MemPlace}
variable {u:Value}
theorem zlx {a:Addr}(h:W.cell? a=some u):a.spot=none/\a.block<W.heap.size:=by
 unfold World.cell? at h;split at h
 ·rename_i c _ _ i;split at h
  ·cases h
  ·rename_i hs;refine ⟨by cases j:a.spot with|none=>rfl|some _=>simp [j] at hs,?_⟩;rcases Nat.lt_or_ge a.block W.heap.size with f|g
   ·exact f
   ·rw [Array.getElem?_eq_none g] at i;cases i
 ·cases h
theorem Jk (b off k:Nat):(⟨b,off,none⟩:Addr).add k=⟨b,off+k,none⟩:=by
 by_cases h:k=0<;>simp [Addr.add,h]
variable {α:Type}
theorem zne {j:Type}{f:α->Option j}:∀ {l:List α} {r:List j},l.mapM f=some r->r.length=l.length/\∀ k (c:k<l.length) (m:k<r.length),f l[k]=some r[k]
 |[],r,h=>by simp at h;subst h;exact ⟨rfl,fun k c=>absurd c (by simp)⟩
 |a::l,r,h=>by
  simp only [mapM_cons] at h;cases i:f a with
  |none=>rw [i] at h;simp at h
  |some b =>
   rw [i] at h;cases g:l.mapM f with
   |none=>rw [g] at h;simp at h
   |some s =>
    rw [g] at h;simp at h;subst h;obtain ⟨q,o⟩:=zne g;refine ⟨by simp [q],fun k c m=>?_⟩;cases k with
    |zero=>exact i
    |succ k=>exact o k (by simpa using c) (by simpa using m)
theorem Zv {a:Addr}{cs:List Value}(h:W.cells? 0 a n=some cs):cs.length=n/\∀ j,j<n->W.cell? (a.add j)=some (cs.getD j undef):=by
 unfold World.cells? at h;rw [if_pos (aQ _)] at h;obtain ⟨f,c⟩:=zne h;have g:cs.length=n:=by simpa using f
 refine ⟨g,fun j i=>?_⟩;have:=c j (by simpa using i) (by omega);rw [aU] at this;rw [this];simp [aD (show j<cs.length by omega)]
def Si (W:World)(a:α->AV)(m:α)(cs:List Value):Prop:=cs.length=(a m).cells.length/\∀ j (c:j<(a m).cells.length),Rep W (fun _=>True) G0 ((a m).cells[j]) (cs.getD j undef)/\(cs.getD j undef).oneCell'=true
variable {sz:Nat}
theorem zvj {a:α->AV}{t e:TypeId}(N:Tryz.prog.underlying t=some (.slice e))(z:Tryz.prog.cellsOf e=sz)(O:0<sz)(M:Inhabited α)(g:∀ m,(a m).cells.length=sz)
  (each:∀ (n:Nat) (cs:List Value) (x:DataW H×List MemPlace),cs.length=sz->DataW.trod enc aA W 0 (fun _=>true) true n e cs=some x->∃ m:α,Si W a m cs)
    {x:DataW H×List MemPlace} (h:DataW.trod enc aA W 0 (fun _=>true) true n t [u]=some x):∃ l:List α,Rep W (fun _=>True) G0 (.sl sz (l.map a)) u:=by
 rcases open_slice N h with ⟨h1,_⟩|⟨A,len,R,m,L,D,Pl,h1,_,C,hm,y,_,J⟩
 ·simp only [List.cons.injEq,and_true] at h1;subst h1;exact ⟨[],.sl none 0 (fun _ _=>.bool true) (by simp) (fun k c=>absurd c (by simp)) (fun h=>absurd h (by simp)) (fun k c=>absurd c (by simp)) (fun _ _=>rfl)⟩
 ·simp only [List.cons.injEq,and_true] at h1;subst h1;simp only [if_true] at y;subst y;rw [z] at J;have every:∀ i,∃ q:α×List Value,i<len->W.cells? 0 (A.add (i*sz)) sz=some q.2/\Si W a q.1 q.2:=fun i=>by
   by_cases hi:i<len
   ·obtain ⟨cs,K,S⟩:=J i (by omega);obtain ⟨k,c⟩:=each L cs _ (Zv K).1 S;exact ⟨(k,cs),fun _=>⟨K,c⟩⟩
   ·exact ⟨(M.default,[]),fun h=>absurd h hi⟩
  obtain ⟨f,F⟩:=Classical.axiomOfChoice every;have T:((aN len).map fun i=>(f i).1).length=len:=by simp
  refine ⟨(aN len).map fun i=>(f i).1,?_⟩;have e:len=(((aN len).map fun i=>(f i).1).map a).length:=by simp
  have r:∀ k j,k<len->j<sz->W.cell? ((A.add (k*sz)).add j)=some ((f k).2.getD j undef):=fun k j c w=>(Zv (F k c).1).2 j w
  have:Rep W (fun _=>True) G0 (.sl sz (((aN len).map fun i=>(f i).1).map a)) (.slice (some A) (((aN len).map fun i=>(f i).1).map a).length m):=by
   refine .sl (some A) m (fun k j=>if k<len/\j<sz then (f k).2.getD j undef else .bool true) (by simpa using C) (fun k c=>?_) (fun G=>?_) (fun k c j w=>?_) (fun k j=>?_)
   ·simp only [aT];exact g _
   ·have B:0<len:=by simpa using G
    have I:=zlx (r 0 0 B O);obtain ⟨b,off,sp⟩:=A;have P:sp=none:=by simpa [Addr.add] using I.1
    subst P;rw [Jk,Jk] at I;refine ⟨b,off,rfl,trivial,I.2,fun k j c w=>?_⟩;have o:k<len:=by simpa using c
    have:=r k j o w;rw [Jk,Jk] at this;rw [if_pos ⟨o,w⟩,<-this];congr 2;omega
   ·have o:k<len:=by simpa using c
    simp only [aT,aU] at w ⊢;have E:j<sz:=by rw [g] at w;exact w
    rw [if_pos ⟨o,E⟩];exact ((F k o).2.2 j w).1
   ·by_cases s:k<len/\j<sz
    ·rw [if_pos s];exact ((F k s.1).2.2 j (by rw [g];exact s.2)).2
    ·rw [if_neg s];rfl
  rw [<-e] at this;exact this
theorem Rep.one_sl {xs:List AV}(h:Rep W (fun _=>True) G0 (.sl sz xs) u):u.oneCell'=true:=by
 cases h;rfl
theorem ztu {a:α->AV}{t e:TypeId}(g:Tryz.prog.underlying t=some (.slice e))(f:Tryz.prog.cellsOf e=sz)(o:0<sz)(i:Inhabited α)(c:∀ m,(a m).cells.length=sz)
  (each:∀ (n:Nat) (cs:List Value) (x:DataW H×List MemPlace),cs.length=sz->DataW.trod enc aA W 0 (fun _=>true) true n e cs=some x->∃ m:α,Si W a m cs)
  (j:Value.okWide aA W .any base t v) (h:DataW.Trod enc aA W 0 (fun _=>true) true t v d p):∃ l:List α,Rep W (fun _=>True) G0 (.sl sz (l.map a)) v:=by
 obtain ⟨A,len,q,rfl⟩:=okWide_slice g j;obtain ⟨fuel,k⟩:=h;exact zvj g f o i c each k
theorem y1n {a:α->AV}{m:α}{cs:Array Value}{xs:List AV}(hm:a m=.agg xs)(h:Si W a m cs.toList):Rep W (fun _=>True) G0 (a m) (.agg cs):=by
 obtain ⟨h1,c⟩:=h;rw [hm] at h1 c ⊢;have f:cs.size=xs.length:=by simpa [AV.cells] using h1
 have g:∀ i,cs.toList.getD i undef=cs.getD i undef:=fun i=>by
  by_cases hi:i<cs.size
  ·simp [Array.getD,hi]
  ·simp [Array.getD,hi]
 refine .agg _ f (fun i hi=>?_) (fun i hi=>?_)
 ·have:=(c i hi).1;rw [g] at this;exact this
 ·have:=(c i (show i<xs.length by rw [<-f];exact hi)).2;rw [g] at this;exact this
end
section
variable {H:Type} {enc:TypeId×Value->H} {W:World} {base:Nat} {v:Value} {d:DataW H} {p:List MemPlace}
def C3 (W:World)(xs:List AV)(cs:List Value):Prop:=cs.length=xs.length/\∀ j (c:j<xs.length),Rep W (fun _=>True) G0 (xs[j]) (cs.getD j undef)/\(cs.getD j undef).oneCell'=true
theorem C3.one {a:AV}{c:Value}(h:Rep W (fun _=>True) G0 a c)(h1:c.oneCell'=true):C3 W [a] [c]:=by
 refine ⟨rfl,fun j g=>?_⟩;have f:j<1:=g;rcases j with _|j
 ·exact ⟨h,h1⟩
 ·omega
variable {cs:List Value}
theorem C3.append {xs ys:List AV}{ds:List Value}(h1:C3 W xs cs)(f:C3 W ys ds):C3 W (xs++ys) (cs++ds):=by
 refine ⟨by rw [aV,aV,h1.1,f.1],fun j g=>?_⟩;by_cases h:j<xs.length
 ·have:=h1.2 j h;rw [getElem_append_left h];have e:(cs++ds).getD j undef=cs.getD j undef:=by
   simp only [aO];rw [getElem?_append_left (by rw [h1.1];exact h)]
  rw [e];exact this
 ·have c:j-xs.length<ys.length:=by rw [aV] at g;omega
  have:=f.2 (j-xs.length) c;rw [getElem_append_right (by omega)];have e:(cs++ds).getD j undef=ds.getD (j-xs.length) undef:=by
   simp only [aO];rw [getElem?_append_right (by rw [h1.1];omega),h1.1]
  rw [e];exact this
theorem C3.cut {o s:Nat}{xs ys:List AV}(h1:C3 W xs ((cs.drop o).take s))(c:C3 W ys (cs.drop (o+s))):C3 W (xs++ys) (cs.drop o):=by
 have:cs.drop o=(cs.drop o).take s++cs.drop (o+s):=by rw [<-drop_drop,take_append_drop]
 rw [this];exact h1.append c
theorem C3.done {o:Nat}(h:cs.length<=o):C3 W [] (cs.drop o):=by
 rw [drop_eq_nil_of_le h];exact ⟨rfl,fun j c=>absurd c (by simp)⟩
theorem C0 {o s:Nat}(h:o+s<=cs.length):((cs.drop o).take s).length=s:=by rw [length_take,length_drop];omega
abbrev FO (enc:TypeId×Value->H)(W:World)(t:TypeId)(sz:Nat){α:Type}(e:α->List AV):Prop:=∀ (n:Nat) (cs:List Value) (x:DataW H×List MemPlace),cs.length=sz->DataW.trod enc aA W 0 (fun _=>true) true n t cs=some x->∃ m:α,C3 W (e m) cs
variable {t:TypeId}
theorem Co (c:Tryz.prog.underlying t=some (.int .i64)):FO enc W t 1 (fun z:Int=>[aI z]):=fun n cs x f h=>by
 obtain ⟨z,rfl,_⟩:=DataW.trod_int (k:=.i64) c h;exact ⟨z,.one (.int _ _) rfl⟩
theorem y5b (c:Tryz.prog.underlying t=some .string):FO enc W t 1 (fun z:ByteArray=>[AV.str z]):=fun n cs x f h=>by
 obtain ⟨z,rfl,_⟩:=DataW.trod_string c h;exact ⟨z,.one (.str _) rfl⟩
variable {sz:Nat}{α:Type}
theorem y6h {e:TypeId}{a:α->AV}(k:Tryz.prog.underlying t=some (.slice e))(i:Tryz.prog.cellsOf e=sz)(o:0<sz)(j:Inhabited α)(f:∀ m,(a m).cells.length=sz)
  (each:FO enc W e sz (fun m:α=>(a m).cells)):FO enc W t 1 (fun l:List α=>[AV.sl sz (l.map a)]):=fun n cs x g h=>by
 match cs,g with
 |[c],_ =>
  obtain ⟨l,g⟩:=zvj (a:=a) k i o j f each h;exact ⟨l,.one g g.one_sl⟩
theorem y3c (c:Tryz.prog.underlying t=some (.int .i64)):FO enc W t 1 (fun z:Int=>(aI z).cells):=Co c
theorem zuw {fs:Array Field}{a:α->AV}(j:Tryz.prog.underlying t=some (.struct fs))(c:Tryz.prog.cellsOf t=sz)(o:∀ m,∃ xs,a m=.agg xs)(each:FO enc W t sz (fun m:α=>(a m).cells))
  (i:Value.okWide aA W .any base t v) (h:DataW.Trod enc aA W 0 (fun _=>true) true t v d p):∃ m:α,Rep W (fun _=>True) G0 (a m) v:=by
 obtain ⟨cs,rfl,f⟩:=okWide_struct j i;obtain ⟨fuel,k⟩:=h;obtain ⟨m,hm⟩:=each fuel cs.toList _ (by simpa using f.trans c) k;obtain ⟨xs,g⟩:=o m;exact ⟨m,y1n g hm⟩
theorem zy1 {a:α->AV}{e:TypeId}(j:Tryz.prog.underlying t=some (.slice e))(f:Tryz.prog.cellsOf e=sz)(k:0<sz)(g:Inhabited α)(c:∀ m,(a m).cells.length=sz)
  (each:FO enc W e sz (fun m:α=>(a m).cells)) (i:Value.okWide aA W .any base t v) (h:DataW.Trod enc aA W 0 (fun _=>true) true t v d p):∃ l:List α,Rep W (fun _=>True) G0 (.sl sz (l.map a)) v :=
 ztu j f k g c each i h
end
variable {H:Type}
theorem y5o (d:DataW H):1<=Rows.uptoBulk d:=by
 cases d with
 |lit l=>cases l<;>simp [Rows.uptoBulk]
 |nil=>simp [Rows.uptoBulk]
 |ptr d=>simp [Rows.uptoBulk]
 |slice elems spare=>simp [Rows.uptoBulk]
 |agg parts=>simp [Rows.uptoBulk]
 |iface t d=>simp [Rows.uptoBulk]
 |map entries=>simp [Rows.uptoBulk]
 |held h=>simp [Rows.uptoBulk]
theorem y5p {d:DataW H}{l:List (DataW H)}(h:d∈l):Rows.uptoBulk d<=Rows.uptoBulkAll l:=by
 induction l with
 |nil=>cases h
 |cons x r ih =>
  simp only [Rows.uptoBulkAll];rcases mem_cons.1 h with e|e
  ·subst e;omega
  ·have:=ih e;omega
variable {α:Type}
def SlQ (Q:Nat->α->Prop)(b:Nat)(l:List α):Prop:=∃ c:List (Nat×α),c.map (·.2)=l/\(∀ p∈c,1<=p.1/\Q p.1 p.2)/\(c.map (·.1)).sum<b
variable {Q:Nat->α->Prop}{b:Nat}
theorem SlQ.len {l:List α}(h:SlQ Q b l):l.length<b:=by
 obtain ⟨c,rfl,g,f⟩:=h;rw [aE];refine Nat.lt_of_le_of_lt ?_ f;clear f
 induction c with
 |nil=>simp
 |cons p c ih =>
  have:=(g p (by simp)).1;have:=ih (fun q i=>g q (aH _ i));simp only [aG,bG,bD];omega
theorem SlQ.mem {l:List α}(h:SlQ Q b l):∀ m∈l,∃ i,i < b/\Q i m:=fun m hm=>by
 obtain ⟨c,rfl,g,j⟩:=h;obtain ⟨p,f,rfl⟩:=bI.1 hm;refine ⟨p.1,?_,(g p f).2⟩;have:p.1<=(c.map (·.1)).sum:=by
  clear g j hm
  induction c with
  |nil=>cases f
  |cons x c ih =>
   simp only [aG,bG];rcases mem_cons.1 f with e|e
   ·subst e;omega
   ·have:=ih e;omega
 omega
section
variable {H:Type} {enc:TypeId×Value->H} {W:World} {base:Nat} {v:Value} {d:DataW H} {p:List MemPlace}
variable {t:TypeId}{sz:Nat}
theorem zyu {a:α->AV}{e:TypeId}(T:Tryz.prog.underlying t=some (.slice e))(E:Tryz.prog.cellsOf e=sz)(X:0<sz)(S:Inhabited α)(g:∀ m,(a m).cells.length=sz)
    {u:Value} {x:DataW H×List MemPlace} (each:∀ (n:Nat) (cs:List Value) (y:DataW H×List MemPlace),Rows.uptoBulk y.1<Rows.uptoBulk x.1->cs.length=sz->DataW.trod enc aA W 0 (fun _=>true) true n e cs=some y->∃ m:α,Si W a m cs/\Q (Rows.uptoBulk y.1) m)
  (h:DataW.trod enc aA W 0 (fun _=>true) true n t [u]=some x):∃ l:List α,Rep W (fun _=>True) G0 (.sl sz (l.map a)) u/\SlQ Q (Rows.uptoBulk x.1) l:=by
 rcases open_slice T h with ⟨h1,C⟩|⟨A,len,Z,m,P,D,Pl,h1,_,I,hm,z,C,N⟩
 ·simp only [List.cons.injEq,and_true] at h1;subst h1;exact ⟨[],.sl none 0 (fun _ _=>.bool true) (by simp) (fun k c=>absurd c (by simp)) (fun h=>absurd h (by simp)) (fun k c=>absurd c (by simp)) (fun _ _=>rfl),[],rfl,by simp,by rw [C];simp [Rows.uptoBulk]⟩
 ·simp only [List.cons.injEq,and_true] at h1;subst h1;simp only [if_true] at z;subst z;rw [E] at N;have K:Rows.uptoBulkAll ((aN len).map D)<Rows.uptoBulk x.1:=by
   rw [C];simp only [Rows.uptoBulk];omega
  have every:∀ i,∃ q:α×List Value,i<len->W.cells? 0 (A.add (i*sz)) sz=some q.2/\Si W a q.1 q.2/\Q (Rows.uptoBulk (D i)) q.1:=fun i=>by
   by_cases hi:i<len
   ·obtain ⟨cs,O,c2⟩:=N i (by omega);have F:Rows.uptoBulk (D i)<Rows.uptoBulk x.1:=by
     have:=y5p (l:=(aN len).map D) (bI.2 ⟨i,mem_range.2 hi,rfl⟩);omega
    obtain ⟨k,c,U⟩:=each P cs _ F (Zv O).1 c2;exact ⟨(k,cs),fun _=>⟨O,c,U⟩⟩
   ·exact ⟨(S.default,[]),fun h=>absurd h hi⟩
  obtain ⟨f,B⟩:=Classical.axiomOfChoice every;have hl:((aN len).map fun i=>(f i).1).length=len:=by simp
  refine ⟨(aN len).map fun i=>(f i).1,?_,(aN len).map (fun i=>(Rows.uptoBulk (D i),(f i).1)),by simp,?_,?_⟩;rotate_left
  ·intro p V;obtain ⟨i,hi,rfl⟩:=bI.1 V;exact ⟨y5o _,(B i (mem_range.1 hi)).2.2⟩
  ·rw [map_map];have:∀ l:List Nat,(l.map ((fun p:Nat×α=>p.1) ∘ fun i=>(Rows.uptoBulk (D i),(f i).1))).sum=Rows.uptoBulkAll (l.map D):=fun l=>by
    induction l with
    |nil=>simp [Rows.uptoBulkAll]
    |cons i l R=>simp only [aG,bG,R,Rows.uptoBulkAll,Function.comp]
   rw [this];exact K
  have e:len=(((aN len).map fun i=>(f i).1).map a).length:=by simp
  have r:∀ k j,k<len->j<sz->W.cell? ((A.add (k*sz)).add j)=some ((f k).2.getD j undef):=fun k j c w=>(Zv (B k c).1).2 j w
  have:Rep W (fun _=>True) G0 (.sl sz (((aN len).map fun i=>(f i).1).map a)) (.slice (some A) (((aN len).map fun i=>(f i).1).map a).length m):=by
   refine .sl (some A) m (fun k j=>if k<len/\j<sz then (f k).2.getD j undef else .bool true) (by simpa using I) (fun k c=>?_) (fun L=>?_) (fun k c j w=>?_) (fun k j=>?_)
   ·simp only [aT];exact g _
   ·have G:0<len:=by simpa using L
    have M:=zlx (r 0 0 G X);obtain ⟨b,off,sp⟩:=A;have Y:sp=none:=by simpa [Addr.add] using M.1
    subst Y;rw [Jk,Jk] at M;refine ⟨b,off,rfl,trivial,M.2,fun k j c w=>?_⟩;have o:k<len:=by simpa using c
    have:=r k j o w;rw [Jk,Jk] at this;rw [if_pos ⟨o,w⟩,<-this];congr 2;omega
   ·have o:k<len:=by simpa using c
    simp only [aT,aU] at w ⊢;have J:j<sz:=by rw [g] at w;exact w
    rw [if_pos ⟨o,J⟩];exact ((B k o).2.1.2 j w).1
   ·by_cases s:k<len/\j<sz
    ·rw [if_pos s];exact ((B k s.1).2.1.2 j (by rw [g];exact s.2)).2
    ·rw [if_neg s];rfl
  rw [<-e] at this;exact this
abbrev FQ (enc:TypeId×Value->H)(W:World)(t:TypeId)(sz:Nat){α:Type}(e:α->List AV)(Q:Nat->α->Prop)(B:Nat):Prop:=∀ (n:Nat) (cs:List Value) (x:DataW H×List MemPlace),Rows.uptoBulk x.1<B->cs.length=sz->DataW.trod enc aA W 0 (fun _=>true) true n t cs=some x->∃ m:α,C3 W (e m) cs/\Q (Rows.uptoBulk x.1) m
theorem D3 {B:Nat}{e:α->List AV}(h:FO enc W t sz e):FQ enc W t sz e (fun _ _=>True) B:=fun n cs x _ f c=>by
 obtain ⟨m,hm⟩:=h n cs x f c;exact ⟨m,hm,trivial⟩
theorem Hs {e:TypeId}{B:Nat}{a:α->AV}(k:Tryz.prog.underlying t=some (.slice e))(i:Tryz.prog.cellsOf e=sz)(q:0<sz)(j:Inhabited α)(g:∀ m,(a m).cells.length=sz)
  (each:FQ enc W e sz (fun m:α=>(a m).cells) Q B):FQ enc W t 1 (fun l:List α=>[AV.sl sz (l.map a)]) (SlQ Q) B:=fun n cs x s f h=>by
 match cs,f with
 |[c],_ =>
  obtain ⟨l,f,o⟩:=zyu (a:=a) k i q j g (fun n cs y r f h=>each n cs y (by omega) f h) h;exact ⟨l,.one f f.one_sl,o⟩
theorem zrg {fs:Array Field}{a:α->AV}(j:Tryz.prog.underlying t=some (.struct fs))(c:Tryz.prog.cellsOf t=sz)(q:∀ m,∃ xs,a m=.agg xs)(each:∀ B,FQ enc W t sz (fun m:α=>(a m).cells) Q B)
  (i:Value.okWide aA W .any base t v) (h:DataW.Trod enc aA W 0 (fun _=>true) true t v d p):∃ m:α,Rep W (fun _=>True) G0 (a m) v/\Q (Rows.uptoBulk d) m:=by
 obtain ⟨cs,rfl,f⟩:=okWide_struct j i;obtain ⟨fuel,o⟩:=h;obtain ⟨m,hm,k⟩:=each (Rows.uptoBulk d+1) fuel cs.toList _ (by show Rows.uptoBulk d<Rows.uptoBulk d+1;omega) (by simpa using f.trans c) o;obtain ⟨xs,g⟩:=q m;exact ⟨m,y1n g hm,k⟩
def QE (b:Nat)(m:Exn):Prop:=∃ z,z<=b/\ETr z m
def QG (b:Nat)(g:Gd):Prop:=∃ c,c < b/\QE c g.fCond
def QS (b:Nat)(s:Stt):Prop:=∃ c,c < b/\SlQ QG c s.fGuards
abbrev QT {α:Type}(_:Nat)(_:α):Prop:=True
def QX (b:Nat)(x:Ed):Prop:=(∃ c,c < b/\QE c x.fCond)/\(∃ c,c < b/\SlQ QT c x.fOpens)/\(∃ c,c < b/\SlQ QT c x.fCloses)/\(∃ c,c < b/\∃ l:List Exn,x.fChecks=l.map Au/\SlQ QE c l)/\(∃ c,c < b/\SlQ QT c x.fLimits)/\(∃ c,c < b/\SlQ QT c x.fInside)
def QA (b:Nat)(a:Aut):Prop:=(∃ c,c < b/\SlQ QS c a.fStates)/\(∃ c,c < b/\SlQ QX c a.fEdges)
theorem y5g {l:List Exn}(h:SlQ QE b l):∃ c:List (Nat×Exn),c.map (·.2)=l/\(∀ q∈c,ETr q.1 q.2)/\(c.map (·.1)).sum<b:=by
 obtain ⟨f,rfl,k,s⟩:=h;have:∃ c:List (Nat×Exn),c.map (·.2)=f.map (·.2)/\(∀ q∈c,ETr q.1 q.2)/\(c.map (·.1)).sum<=(f.map (·.1)).sum:=by
  clear s
  induction f with
  |nil=>exact ⟨[],rfl,by simp,by simp⟩
  |cons p f o =>
   obtain ⟨c,i,g,m⟩:=o (fun q j=>k q (aH _ j));obtain ⟨z,w,r⟩:=(k p (by simp)).2;refine ⟨(z,p.2)::c,by simp [i],fun q j=>?_,by simp only [aG,bG];omega⟩;rcases mem_cons.1 j with e|e
   ·rw [e];exact r
   ·exact g q e
 obtain ⟨c,i,g,m⟩:=this;exact ⟨c,i,g,by omega⟩
theorem zve {e:Exn}(h:QE b e)(g:b<=1048576):WfE e:=by
 obtain ⟨z,f,c⟩:=h;exact ⟨z,by omega,c⟩
theorem y40 (h:QA b a)(F:b<=1048576):WfA a:=by
 obtain ⟨⟨b1,h1,j⟩,⟨b2,L,i⟩⟩:=h;refine ⟨by have:=j.len;omega,by have:=i.len;omega,fun s hs=>?_,fun x B=>?_⟩
 ·obtain ⟨E,D,b4,K,f⟩:=j.mem s hs;refine ⟨by have:=f.len;omega,fun g C=>?_⟩;obtain ⟨b5,J,b6,I,c⟩:=f.mem g C;exact zve c (by omega)
 ·obtain ⟨E,D,⟨Z,S,z⟩,⟨Y,R,w⟩,⟨X,P,r⟩,⟨V,O,l,m,k⟩,⟨U,N,q⟩,⟨T,M,c⟩⟩:=i.mem x B;refine ⟨zve z (by omega),⟨l,m,fun y A=>?_⟩,?_,?_,?_,?_,?_⟩
  ·obtain ⟨b7,G,o⟩:=k.mem y A;exact zve o (by omega)
  ·rw [m,aE];have:=k.len;omega
  ·have:=w.len;omega
  ·have:=r.len;omega
  ·have:=c.len;omega
  ·have:=q.len;omega
theorem zt5:FO enc W 144 3 (fun m:A8=>(Ac m).cells):=fun n cs x G h=>by
 obtain ⟨xs,c,_,F,_,f,g⟩:=DataW.trod_struct Tryz.underlying144 h
 match xs,f with
 |[s,q,o],_ =>
  have E:Tryz.prog.cellsOf 3=1:=by kernel_rfl
  have k:DataW.trod enc aA W 0 (fun _=>true) true c 3 ((cs.drop 0).take (Tryz.prog.cellsOf 3))=some s:=g 0 _ rfl;rw [E] at k;obtain ⟨z,B⟩:=(Co aB) c _ _ (C0 (by omega)) k;have D:Tryz.prog.cellsOf 3=1:=by kernel_rfl
  have j:DataW.trod enc aA W 0 (fun _=>true) true c 3 ((cs.drop 1).take (Tryz.prog.cellsOf 3))=some q:=g 1 _ rfl;rw [D] at j;obtain ⟨y,h1⟩:=(Co aB) c _ _ (C0 (by omega)) j;have C:Tryz.prog.cellsOf 9=1:=by kernel_rfl
  have i:DataW.trod enc aA W 0 (fun _=>true) true c 9 ((cs.drop 2).take (Tryz.prog.cellsOf 9))=some o:=g 2 _ rfl;rw [C] at i;obtain ⟨w,A⟩:=(y5b Tryz.underlying9) c _ _ (C0 (by omega)) i;have r:=(show C3 W _ (cs.drop 0) from (.cut B (.cut h1 (.cut A (C3.done (by omega))))));exact ⟨⟨z,y,w⟩,r⟩
theorem zjv:∀ B,FQ enc W 146 8 (fun m:Exn=>(Au m).cells) QE B
 |0=>fun n cs x z S h=>absurd z (Nat.not_lt_zero _)
 |B+1=>fun n cs x z S h=>by
  obtain ⟨xs,c,_,R,_,g,f⟩:=DataW.trod_struct Tryz.underlying146 h
  match xs,g with
  |[s,q,o,k,j,i],_ =>
   have hk:Rows.uptoBulk x.1=Rows.uptoBulk s.1+Rows.uptoBulk q.1+Rows.uptoBulk o.1+Rows.uptoBulk k.1+Rows.uptoBulk j.1+Rows.uptoBulk i.1+1:=by rw [R];simp only [Rows.uptoBulk,Rows.uptoBulkAll,aG,bF]<;>omega
   have c0:Tryz.prog.cellsOf 3=1:=by kernel_rfl
   have G:DataW.trod enc aA W 0 (fun _=>true) true c 3 ((cs.drop 0).take (Tryz.prog.cellsOf 3))=some s:=f 0 _ rfl;rw [c0] at G;obtain ⟨P,Y,q0⟩:=(D3 (Co aB)) c _ _ (show Rows.uptoBulk s.1<B by omega) (C0 (by omega)) G;have c1:Tryz.prog.cellsOf 142=1:=by kernel_rfl
   have F:DataW.trod enc aA W 0 (fun _=>true) true c 142 ((cs.drop 1).take (Tryz.prog.cellsOf 142))=some q:=f 1 _ rfl;rw [c1] at F;obtain ⟨w,h1,K⟩:=(Hs (sz:=8) (a:=Au) aW (by kernel_rfl) (by omega) inferInstance (fun _=>rfl) (zjv B)) c _ _ (show Rows.uptoBulk q.1<B by omega) (C0 (by omega)) F;have c2:Tryz.prog.cellsOf 3=1:=by kernel_rfl
   have E:DataW.trod enc aA W 0 (fun _=>true) true c 3 ((cs.drop 2).take (Tryz.prog.cellsOf 3))=some o:=f 2 _ rfl;rw [c2] at E;obtain ⟨O,X,q2⟩:=(D3 (Co aB)) c _ _ (show Rows.uptoBulk o.1<B by omega) (C0 (by omega)) E;have c3:Tryz.prog.cellsOf 3=1:=by kernel_rfl
   have D:DataW.trod enc aA W 0 (fun _=>true) true c 3 ((cs.drop 3).take (Tryz.prog.cellsOf 3))=some k:=f 3 _ rfl;rw [c3] at D;obtain ⟨N,V,q3⟩:=(D3 (Co aB)) c _ _ (show Rows.uptoBulk k.1<B by omega) (C0 (by omega)) D;have c4:Tryz.prog.cellsOf 3=1:=by kernel_rfl
   have C:DataW.trod enc aA W 0 (fun _=>true) true c 3 ((cs.drop 4).take (Tryz.prog.cellsOf 3))=some j:=f 4 _ rfl;rw [c4] at C;obtain ⟨M,U,q4⟩:=(D3 (Co aB)) c _ _ (show Rows.uptoBulk j.1<B by omega) (C0 (by omega)) C;have Z:Tryz.prog.cellsOf 144=3:=by kernel_rfl
   have A:DataW.trod enc aA W 0 (fun _=>true) true c 144 ((cs.drop 5).take (Tryz.prog.cellsOf 144))=some i:=f 5 _ rfl;rw [Z] at A;obtain ⟨L,T,q5⟩:=(D3 zt5) c _ _ (show Rows.uptoBulk i.1<B by omega) (C0 (by omega)) A;have h1:C3 W [AV.sl 8 (List.map idA (List.map Au w))] ((cs.drop 1).take 1):=by rw [Sc];exact h1
   have r:=(show C3 W _ (cs.drop 0) from (.cut Y (.cut h1 (.cut X (.cut V (.cut U (.cut T (C3.done (by omega)))))))));obtain ⟨y,J,I,r3⟩:=y5g K;refine ⟨⟨P,w.map Au,O,N,M,L⟩,r,1+(y.map (·.1)).sum,by omega,.mk y _ I ?_⟩;show w.map Au=_;rw [<-J,map_map];rfl
theorem y00 (B:Nat):FQ enc W 216 11 (fun m:Gd=>(B8 m).cells) QG B:=fun n cs x U S h=>by
 obtain ⟨xs,c,_,F,_,f,i⟩:=DataW.trod_struct Tryz.underlying216 h
 match xs,f with
 |[o,k,j,g],_ =>
  have T:Rows.uptoBulk x.1=Rows.uptoBulk o.1+Rows.uptoBulk k.1+Rows.uptoBulk j.1+Rows.uptoBulk g.1+1:=by rw [F];simp only [Rows.uptoBulk,Rows.uptoBulkAll,aG,bF]<;>omega
  have N:Tryz.prog.cellsOf 3=1:=by kernel_rfl
  have y:DataW.trod enc aA W 0 (fun _=>true) true c 3 ((cs.drop 0).take (Tryz.prog.cellsOf 3))=some o:=i 0 _ rfl;rw [N] at y;obtain ⟨E,J,R⟩:=(D3 (Co aB)) c _ _ (show Rows.uptoBulk o.1<B by omega) (C0 (by omega)) y;have M:Tryz.prog.cellsOf 3=1:=by kernel_rfl
  have w:DataW.trod enc aA W 0 (fun _=>true) true c 3 ((cs.drop 1).take (Tryz.prog.cellsOf 3))=some k:=i 1 _ rfl;rw [M] at w;obtain ⟨D,h1,P⟩:=(D3 (Co aB)) c _ _ (show Rows.uptoBulk k.1<B by omega) (C0 (by omega)) w;have L:Tryz.prog.cellsOf 3=1:=by kernel_rfl
  have s:DataW.trod enc aA W 0 (fun _=>true) true c 3 ((cs.drop 2).take (Tryz.prog.cellsOf 3))=some j:=i 2 _ rfl;rw [L] at s;obtain ⟨C,I,O⟩:=(D3 (Co aB)) c _ _ (show Rows.uptoBulk j.1<B by omega) (C0 (by omega)) s;have K:Tryz.prog.cellsOf 146=8:=by kernel_rfl
  have q:DataW.trod enc aA W 0 (fun _=>true) true c 146 ((cs.drop 3).take (Tryz.prog.cellsOf 146))=some g:=i 3 _ rfl;rw [K] at q;obtain ⟨A,G,z⟩:=(zjv B) c _ _ (show Rows.uptoBulk g.1<B by omega) (C0 (by omega)) q;have r:=(show C3 W _ (cs.drop 0) from (.cut J (.cut h1 (.cut I (.cut G (C3.done (by omega)))))));exact ⟨⟨E,D,C,A⟩,r,_,(show Rows.uptoBulk g.1<_ by omega),z⟩
theorem zzz (B:Nat):FQ enc W 140 1 (fun m:Stt=>(Ao m).cells) QS B:=fun n cs x A y h=>by
 obtain ⟨xs,g,_,o,_,c,q⟩:=DataW.trod_struct Tryz.underlying140 h
 match xs,c with
 |[f],_ =>
  have z:Rows.uptoBulk x.1=Rows.uptoBulk f.1+1:=by rw [o];simp only [Rows.uptoBulk,Rows.uptoBulkAll,aG,bF]<;>omega
  have w:Tryz.prog.cellsOf 138=1:=by kernel_rfl
  have i:DataW.trod enc aA W 0 (fun _=>true) true g 138 ((cs.drop 0).take (Tryz.prog.cellsOf 138))=some f:=q 0 _ rfl;rw [w] at i;obtain ⟨k,s,j⟩:=(Hs (sz:=11) (a:=B8) Tryz.underlying138 (by kernel_rfl) (by omega) inferInstance (fun _=>rfl) (y00 B)) g _ _ (show Rows.uptoBulk f.1<B by omega) (C0 (by omega)) i;have r:=(show C3 W _ (cs.drop 0) from (.cut s (C3.done (by omega))));exact ⟨⟨k⟩,r,_,(show Rows.uptoBulk f.1<_ by omega),j⟩
theorem y01:FO enc W 230 2 (fun m:Bx=>(Bu m).cells):=fun n cs x B h=>by
 obtain ⟨xs,f,_,A,_,c,g⟩:=DataW.trod_struct Tryz.underlying230 h
 match xs,c with
 |[o,k],_ =>
  have z:Tryz.prog.cellsOf 3=1:=by kernel_rfl
  have j:DataW.trod enc aA W 0 (fun _=>true) true f 3 ((cs.drop 0).take (Tryz.prog.cellsOf 3))=some o:=g 0 _ rfl;rw [z] at j;obtain ⟨s,w⟩:=(Co aB) f _ _ (C0 (by omega)) j;have y:Tryz.prog.cellsOf 3=1:=by kernel_rfl
  have i:DataW.trod enc aA W 0 (fun _=>true) true f 3 ((cs.drop 1).take (Tryz.prog.cellsOf 3))=some k:=g 1 _ rfl;rw [y] at i;obtain ⟨q,h1⟩:=(Co aB) f _ _ (C0 (by omega)) i;have r:=(show C3 W _ (cs.drop 0) from (.cut w (.cut h1 (C3.done (by omega)))));exact ⟨⟨s,q⟩,r⟩
theorem y3b (B:Nat):FQ enc W 149 17 (fun m:Ed=>(A9 m).cells) QX B:=fun n cs x hb hl h=>by
 obtain ⟨xs,c,_,hx,_,g,f⟩:=DataW.trod_struct Tryz.underlying149 h
 match xs,g with
 |[A,z,y,w,s,q,o,k,j,i],_ =>
  have hk:Rows.uptoBulk x.1=Rows.uptoBulk A.1+Rows.uptoBulk z.1+Rows.uptoBulk y.1+Rows.uptoBulk w.1+Rows.uptoBulk s.1+Rows.uptoBulk q.1+Rows.uptoBulk o.1+Rows.uptoBulk k.1+Rows.uptoBulk j.1+Rows.uptoBulk i.1+1:=by rw [hx];simp only [Rows.uptoBulk,Rows.uptoBulkAll,aG,bF]<;>omega
  have c0:Tryz.prog.cellsOf 3=1:=by kernel_rfl
  have O:DataW.trod enc aA W 0 (fun _=>true) true c 3 ((cs.drop 0).take (Tryz.prog.cellsOf 3))=some A:=f 0 _ rfl;rw [c0] at O;obtain ⟨m0,h0,q0⟩:=(D3 (Co aB)) c _ _ (show Rows.uptoBulk A.1<B by omega) (C0 (by omega)) O;have c1:Tryz.prog.cellsOf 3=1:=by kernel_rfl
  have N:DataW.trod enc aA W 0 (fun _=>true) true c 3 ((cs.drop 1).take (Tryz.prog.cellsOf 3))=some z:=f 1 _ rfl;rw [c1] at N;obtain ⟨m1,h1,q1⟩:=(D3 (Co aB)) c _ _ (show Rows.uptoBulk z.1<B by omega) (C0 (by omega)) N;have c2:Tryz.prog.cellsOf 3=1:=by kernel_rfl
  have M:DataW.trod enc aA W 0 (fun _=>true) true c 3 ((cs.drop 2).take (Tryz.prog.cellsOf 3))=some y:=f 2 _ rfl;rw [c2] at M;obtain ⟨m2,h2,q2⟩:=(D3 (Co aB)) c _ _ (show Rows.uptoBulk y.1<B by omega) (C0 (by omega)) M;have c3:Tryz.prog.cellsOf 3=1:=by kernel_rfl
  have L:DataW.trod enc aA W 0 (fun _=>true) true c 3 ((cs.drop 3).take (Tryz.prog.cellsOf 3))=some w:=f 3 _ rfl;rw [c3] at L;obtain ⟨m3,h3,q3⟩:=(D3 (Co aB)) c _ _ (show Rows.uptoBulk w.1<B by omega) (C0 (by omega)) L;have c4:Tryz.prog.cellsOf 146=8:=by kernel_rfl
  have K:DataW.trod enc aA W 0 (fun _=>true) true c 146 ((cs.drop 4).take (Tryz.prog.cellsOf 146))=some s:=f 4 _ rfl;rw [c4] at K;obtain ⟨m4,h4,V⟩:=(zjv B) c _ _ (show Rows.uptoBulk s.1<B by omega) (C0 (by omega)) K;have c5:Tryz.prog.cellsOf 43=1:=by kernel_rfl
  have J:DataW.trod enc aA W 0 (fun _=>true) true c 43 ((cs.drop 12).take (Tryz.prog.cellsOf 43))=some q:=f 5 _ rfl;rw [c5] at J;obtain ⟨m5,h5,U⟩:=(Hs (sz:=1) (a:=aI) aK (by kernel_rfl) (by omega) inferInstance (fun _=>rfl) (D3 (y3c aB))) c _ _ (show Rows.uptoBulk q.1<B by omega) (C0 (by omega)) J;have c6:Tryz.prog.cellsOf 43=1:=by kernel_rfl
  have I:DataW.trod enc aA W 0 (fun _=>true) true c 43 ((cs.drop 13).take (Tryz.prog.cellsOf 43))=some o:=f 6 _ rfl;rw [c6] at I;obtain ⟨Z,h6,T⟩:=(Hs (sz:=1) (a:=aI) aK (by kernel_rfl) (by omega) inferInstance (fun _=>rfl) (D3 (y3c aB))) c _ _ (show Rows.uptoBulk o.1<B by omega) (C0 (by omega)) I;have c7:Tryz.prog.cellsOf 142=1:=by kernel_rfl
  have G:DataW.trod enc aA W 0 (fun _=>true) true c 142 ((cs.drop 14).take (Tryz.prog.cellsOf 142))=some k:=f 7 _ rfl;rw [c7] at G;obtain ⟨C,D,S⟩:=(Hs (sz:=8) (a:=Au) aW (by kernel_rfl) (by omega) inferInstance (fun _=>rfl) (zjv B)) c _ _ (show Rows.uptoBulk k.1<B by omega) (C0 (by omega)) G;have c8:Tryz.prog.cellsOf 147=1:=by kernel_rfl
  have F:DataW.trod enc aA W 0 (fun _=>true) true c 147 ((cs.drop 15).take (Tryz.prog.cellsOf 147))=some j:=f 8 _ rfl;rw [c8] at F;obtain ⟨Y,h8,R⟩:=(Hs (sz:=2) (a:=Bu) Tryz.underlying147 (by kernel_rfl) (by omega) inferInstance (fun _=>rfl) (D3 y01)) c _ _ (show Rows.uptoBulk j.1<B by omega) (C0 (by omega)) F;have c9:Tryz.prog.cellsOf 43=1:=by kernel_rfl
  have E:DataW.trod enc aA W 0 (fun _=>true) true c 43 ((cs.drop 16).take (Tryz.prog.cellsOf 43))=some i:=f 9 _ rfl;rw [c9] at E;obtain ⟨X,h9,P⟩:=(Hs (sz:=1) (a:=aI) aK (by kernel_rfl) (by omega) inferInstance (fun _=>rfl) (D3 (y3c aB))) c _ _ (show Rows.uptoBulk i.1<B by omega) (C0 (by omega)) E;have D:C3 W [AV.sl 8 (List.map idA (List.map Au C))] ((cs.drop 14).take 1):=by rw [Sc];exact D
  have r:=(show C3 W _ (cs.drop 0) from (.cut h0 (.cut h1 (.cut h2 (.cut h3 (.cut h4 (.cut h5 (.cut h6 (.cut D (.cut h8 (.cut h9 (C3.done (by omega)))))))))))));exact ⟨⟨m0,m1,m2,m3,m4,m5,Z,C.map Au,Y,X⟩,r,⟨_,(show Rows.uptoBulk s.1<_ by omega),V⟩,⟨_,(show Rows.uptoBulk q.1<_ by omega),U⟩,⟨_,(show Rows.uptoBulk o.1<_ by omega),T⟩,⟨_,(show Rows.uptoBulk k.1<_ by omega),C,rfl,S⟩,⟨_,(show Rows.uptoBulk j.1<_ by omega),R⟩,⟨_,(show Rows.uptoBulk i.1<_ by omega),P⟩⟩
theorem y5a (B:Nat):FQ enc W 26 4 (fun m:Aut=>(Bi m).cells) QA B:=fun n cs x U S h=>by
 obtain ⟨xs,c,_,G,_,f,j⟩:=DataW.trod_struct aY h
 match xs,f with
 |[o,k,i,g],_ =>
  have T:Rows.uptoBulk x.1=Rows.uptoBulk o.1+Rows.uptoBulk k.1+Rows.uptoBulk i.1+Rows.uptoBulk g.1+1:=by rw [G];simp only [Rows.uptoBulk,Rows.uptoBulkAll,aG,bF]<;>omega
  have O:Tryz.prog.cellsOf 3=1:=by kernel_rfl
  have y:DataW.trod enc aA W 0 (fun _=>true) true c 3 ((cs.drop 0).take (Tryz.prog.cellsOf 3))=some o:=j 0 _ rfl;rw [O] at y;obtain ⟨F,K,R⟩:=(D3 (Co aB)) c _ _ (show Rows.uptoBulk o.1<B by omega) (C0 (by omega)) y;have N:Tryz.prog.cellsOf 3=1:=by kernel_rfl
  have w:DataW.trod enc aA W 0 (fun _=>true) true c 3 ((cs.drop 1).take (Tryz.prog.cellsOf 3))=some k:=j 1 _ rfl;rw [N] at w;obtain ⟨E,h1,P⟩:=(D3 (Co aB)) c _ _ (show Rows.uptoBulk k.1<B by omega) (C0 (by omega)) w;have M:Tryz.prog.cellsOf 23=1:=by kernel_rfl
  have s:DataW.trod enc aA W 0 (fun _=>true) true c 23 ((cs.drop 2).take (Tryz.prog.cellsOf 23))=some i:=j 2 _ rfl;rw [M] at s;obtain ⟨D,J,A⟩:=(Hs (sz:=1) (a:=Ao) Tryz.underlying23 (by kernel_rfl) (by omega) inferInstance (fun _=>rfl) (zzz B)) c _ _ (show Rows.uptoBulk i.1<B by omega) (C0 (by omega)) s;have L:Tryz.prog.cellsOf 24=1:=by kernel_rfl
  have q:DataW.trod enc aA W 0 (fun _=>true) true c 24 ((cs.drop 3).take (Tryz.prog.cellsOf 24))=some g:=j 3 _ rfl;rw [L] at q;obtain ⟨C,I,z⟩:=(Hs (sz:=17) (a:=A9) Tryz.underlying24 (by kernel_rfl) (by omega) inferInstance (fun _=>rfl) (y3b B)) c _ _ (show Rows.uptoBulk g.1<B by omega) (C0 (by omega)) q;have r:=(show C3 W _ (cs.drop 0) from (.cut K (.cut h1 (.cut J (.cut I (C3.done (by omega)))))));exact ⟨⟨F,E,D,C⟩,r,⟨_,(show Rows.uptoBulk i.1<_ by omega),A⟩,⟨_,(show Rows.uptoBulk g.1<_ by omega),z⟩⟩
theorem zy8 (c:Value.okWide aA W .any base 26 v)(h:DataW.Trod enc aA W 0 (fun _=>true) true 26 v d p)(f:Rows.uptoBulk d<=1048576):∃ m:Aut,Rep W (fun _=>True) G0 (Bi m) v/\WfA m:=by
 obtain ⟨m,r,q⟩:=zrg (sz:=4) (a:=Bi) aY (by kernel_rfl) (fun _=>⟨_,rfl⟩) (fun B=>y5a B) c h;exact ⟨m,r,y40 q f⟩
theorem zt6:FO enc W 37 5 (fun m:A6=>(A7 m).cells):=fun n cs x S h=>by
 obtain ⟨xs,c,_,R,_,f,g⟩:=DataW.trod_struct aZ h
 match xs,f with
 |[A,z,y,w,s],_ =>
  have P:Tryz.prog.cellsOf 3=1:=by kernel_rfl
  have q:DataW.trod enc aA W 0 (fun _=>true) true c 3 ((cs.drop 0).take (Tryz.prog.cellsOf 3))=some A:=g 0 _ rfl;rw [P] at q;obtain ⟨F,K⟩:=(Co aB) c _ _ (C0 (by omega)) q;have O:Tryz.prog.cellsOf 3=1:=by kernel_rfl
  have o:DataW.trod enc aA W 0 (fun _=>true) true c 3 ((cs.drop 1).take (Tryz.prog.cellsOf 3))=some z:=g 1 _ rfl;rw [O] at o;obtain ⟨E,h1⟩:=(Co aB) c _ _ (C0 (by omega)) o;have N:Tryz.prog.cellsOf 3=1:=by kernel_rfl
  have k:DataW.trod enc aA W 0 (fun _=>true) true c 3 ((cs.drop 2).take (Tryz.prog.cellsOf 3))=some y:=g 2 _ rfl;rw [N] at k;obtain ⟨D,J⟩:=(Co aB) c _ _ (C0 (by omega)) k;have M:Tryz.prog.cellsOf 3=1:=by kernel_rfl
  have j:DataW.trod enc aA W 0 (fun _=>true) true c 3 ((cs.drop 3).take (Tryz.prog.cellsOf 3))=some w:=g 3 _ rfl;rw [M] at j;obtain ⟨C,I⟩:=(Co aB) c _ _ (C0 (by omega)) j;have L:Tryz.prog.cellsOf 35=1:=by kernel_rfl
  have i:DataW.trod enc aA W 0 (fun _=>true) true c 35 ((cs.drop 4).take (Tryz.prog.cellsOf 35))=some s:=g 4 _ rfl;rw [L] at i;obtain ⟨B,G⟩:=(y6h (sz:=3) (a:=Ac) Tryz.underlying35 (by kernel_rfl) (by omega) inferInstance (fun _=>rfl) zt5) c _ _ (C0 (by omega)) i;have r:=(show C3 W _ (cs.drop 0) from (.cut K (.cut h1 (.cut J (.cut I (.cut G (C3.done (by omega))))))));exact ⟨⟨F,E,D,C,B⟩,r⟩
theorem ziw (c:Value.okWide aA W .any base 29 v)(h:DataW.Trod enc aA W 0 (fun _=>true) true 29 v d p):∃ l:List A6,Rep W (fun _=>True) G0 (.sl 5 (l.map A7)) v :=
 zy1 Tryz.underlying29 (by kernel_rfl) (by omega) inferInstance (fun _=>rfl) zt6 c h
end
theorem zy7 {enc:TypeId×Value->H}{W:World}{base:Nat}{v:Value}{d:DataW H}{p:List MemPlace}(c:Value.okWide aA W .any base 37 v)(h:DataW.Trod enc aA W 0 (fun _=>true) true 37 v d p):∃ m:A6,Rep W (fun _=>True) G0 (A7 m) v :=
 zuw aZ (by kernel_rfl) (fun _=>⟨_,rfl⟩) zt6 c h
theorem zjx (a:Ad)(c:WfA a)(l:List A6)(e:A6):Con E0 true 8 [Bi a,.sl 5 (l.map A7),A7 e] (.bool true):=z1f (zjr a c l e)
section
variable {H:Type} {enc:TypeId×Value->H}
set_option maxRecDepth 100000 in
theorem zal (F:Stop.Interp)(P:Os)(started:P.Started){f:FuncId}{fn:Func}{s:ChangeSpec}{fr:Bool}(hf:Tryz.prog.funcs[f]? = some fn)(S:Tryz.prog.inits.idxOf? f=none)
  (hw:∃ (w:World) (tape:Tape) (i:Input),w.os=P/\(w.forCall tape i).Shaped Tryz.checked.prog/\i.vars=[]/\Input.okWide Tryz.checked.prog (w.forCall tape i) .any w.heap.size f i /\
    (Rows.OpenSpec.upto s).pre6 enc Tryz.checked.prog fn [] false (w.forCall tape i).memory i.args/\Assume.holds {} Tryz.checked.prog (lone (Frame.enter Tryz.checked.prog f i.args .normal) [] (w.forCall tape i)))
  (c:s.vars=[]) (m:fn.resultTypes=#[4]) (o:fn.params.toList.all (fun t=>Tryz.prog.readableRec t && decide (t<Tryz.prog.types.size))=true)
  (z:∀ ds:List (DataW H),ds.length=fn.params.size->s.fn H ds={ results:=[.lit (.bool true)],args:=ds })
  (B:∀ (W:World) (base:Nat) (args:Array Value) (ds:List (DataW H)) (p:List MemPlace),(∀ (j:Nat) t v,fn.params[j]? = some t->args[j]? = some v->Value.okWide aA W .any base t v) ->
    DataW.TrodAll enc aA W 0 (fun _=>true) true fn.params.toList args.toList ds p->Rows.uptoBulkAll ds<=1048576->∃ avs,Args W (fun _=>True) avs args/\Con E0 fr f avs (.bool true)) :
  ReturnsInHanded {} bH P f .any ((Rows.OpenSpec.upto s).pre6 enc aA fn [] false) (((Rows.OpenSpec.upto s).at F).post enc aA fn false true false false):=by
 refine returnsInHanded_of_cond (C:=bH) (s:=Rows.OpenSpec.upto s) (k:=Rows.uptoSmall) rfl zzq started S hf hw ?_;intro W base args ds gs before E Z Y hk _;show Calls Tryz.checked.prog f args W fun e W'=>∃ v,e=.returned v/\s.post enc aA fn false true false false W args v W'
 have M:=Z;obtain ⟨p,q,O,hV,rfl,T,aa⟩:=Z;have J:∀ x∈p++q,x.block<W.heap.size:=fun x g=>DataW.Whole.lt M x g
 rw [show (Rows.OpenSpec.upto s).vars=s.vars from rfl,c] at hV;obtain ⟨rfl,rfl⟩:=trodVars_none hV;have V:Rows.uptoBulkAll ds<=1048576:=by
  have:=of_decide_eq_true hk
  rwa [aX] at this
 obtain ⟨avs,D,L⟩:=B W base args ds p E O V;refine (L.2 (fun _=>True) W args D).mono fun e W' ⟨v,he,⟨N,_⟩,R⟩=>?_
 have R:=R.bool_inv;subst R;subst he;have U:ds.length=fn.params.size:=(zpi _ _ _ _ O).trans (by simp);have A:s.fn H (ds++[])={ results:=[.lit (.bool true)],args:=ds }:=by rw [aX];exact z ds U
 have y:∀ x∈p,x.block<W.heap.size:=fun x g=>J x (by simp [g])
 have k0:=zb0 (sp':=fun b=>decide (b<W.heap.size)) N _ _ _ _ o O y (fun x g=>by simpa using y x g);have k1:=zb0 (sp':=fun _=>true) N _ _ _ _ o O y (fun x g=>rfl);have I:(Value.bool true).resultList fn.resultTypes.size=[.bool true]:=by rw [m];rfl
 have G:fn.resultTypes.toList=[4]:=by rw [m]
 refine ⟨_,rfl,ds,[],_,[],p,[],M,?_,?_,?_,World.keptBut_mono (fun x g=>⟨g,?_⟩) (N.frame (·∈p++[])),fun h=>?_⟩
 ·rw [A,G,I];exact trodAll_mk1 (shut_bool aM true)
 ·rw [A];exact k0
 ·rw [A,c];exact rfl
 ·exact aP (bA (by simpa using g))
 ·rw [G,I,c];refine ⟨?_,[.lit (.bool true)]++ds,[],p,⟨p,[],?_,rfl,by simp,?_,fun h=>by simp at h⟩,?_⟩
  ·rw [m];intro j t r ht X
   match j with
   |0 =>
    obtain rfl:4=t:=Option.some.inj ht;obtain rfl:Value.bool true=r:=Option.some.inj X;exact okWide_bool_mk aM true
   |j+1=>exact absurd X (by simp)
  ·exact trodAll_append k1 (trodAll_mk1 (shut_bool aM true))
  ·intro b off hp;have K:MemPlace.cell b off∈p++[]:=by simpa using hp
   rw [N.frozen (J _ K)];exact T b off K
  ·intro x g _;simpa using g
end
section
variable {H:Type} {enc:TypeId×Value->H} {W:World} {base:Nat} {v:Value} {d:DataW H} {p:List MemPlace}
end
section
variable {H:Type} {enc:TypeId×Value->H} {W:World} {base:Nat} {v:Value} {d:DataW H} {p:List MemPlace}
end
end Go.Proofs.YthbogefcfhmpgaaGreat
