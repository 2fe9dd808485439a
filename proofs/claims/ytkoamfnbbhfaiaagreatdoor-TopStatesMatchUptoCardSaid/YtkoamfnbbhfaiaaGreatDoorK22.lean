/- Layer 23, plainly. -/
import Derived.Test.YtkoamfnbbhfaiaaGreatDoorK21
set_option linter.unusedVariables false
set_option linter.unusedSimpArgs false
namespace Go.Proofs.YtkoamfnbbhfaiaaGreatDoor
open Go.RowKit List
open _root_.Go.Proofs.Tryz renaming underlying3->aA,prog->aB,underlying43->aS,underlying38->aZ,underlying25->bA
open List renaming take_succ_eq_append_getElem->aC,length_map->aD,getElem_mem->aE,drop_eq_nil_of_le->aG,drop_zero->aK,length_take->aL,getElem?_eq_getElem->aM,getLast_eq_getElem->aN,take_of_length_le->aO,map_cons->aQ,getElem_take->aR,length_nil->aU,mem_singleton->aX,append_nil->aY,getElem_cons_zero->bB,getElem_set_self->bD,getElem_map->bE,map_nil->bH,mem_append->bI,sum_cons->bJ,range->bK
open Int renaming natCast_zero->aF
open IntKind renaming wrap->aH
open Nat renaming lt_of_le_of_lt->aJ,zero_le->aP,le_refl->aW
open Bz renaming done->aT
open Bool renaming and_eq_false_iff->aV,and_eq_true->bC,or_eq_true->bF
abbrev Gd:=B2
abbrev Stt:=Cp
abbrev Ed:=Am
abbrev Aut:=Ao
def WfE (e:Exn):Prop:=∃ z,z<=4000000/\ETr z e
structure WfX (x:Ed):Prop where
 cond:WfE x.fCond
 checks:∃ ys:List Exn,x.fChecks=ys.map Al/\∀ y∈ys,WfE y
 lc:x.fChecks.length<=1100000
 lo:x.fOpens.length<=1100000
 lcl:x.fCloses.length<=1100000
 li:x.fInside.length<=1100000
 ll:x.fLimits.length<=1100000
structure WfA (a:Aut):Prop where
 ls:a.fStates.length<=1100000
 le:a.fEdges.length<=1100000
 st:∀ s∈a.fStates,s.fGuards.length<=1100000/\∀ g∈s.fGuards,WfE g.fCond
 ed:∀ x∈a.fEdges,WfX x
theorem WfE.check {e:Exn}(h:WfE e)(n:Nat)(j:10000000<n):∃ r:Int,G9 n e=some r/\Hg n e=some r:=by
 obtain ⟨z,g,i⟩:=h;obtain ⟨r,f,c,_⟩:=zpm z e i g n (by omega);exact ⟨r,f,c⟩
theorem V6 (n:Nat)(a b:Int):De n a b=some (decide (a<0) || decide (b<a)):=by
 unfold De;simp only [B1,Ar,L0,A3];by_cases h:a<0<;>simp [h]
theorem Uk (n:Nat)(a b:Int):F8 n a b=some (decide (0<=a) && decide (a<b)):=by
 unfold F8;simp only [B1,Ar,Lf,A3];by_cases h:0<=a<;>simp [h]
theorem Ua (a b:Int):(decide (a<0) || decide (b-1<a))=!(decide (0<=a) && decide (a<b)):=by
 grind
variable {α:Type}{l:List α}
theorem zn3 {q:α->Bool}{i k:Nat}(c:k<i)(hi:i<=l.length):((l.take i).drop k).any q=(q (l[k]'(by omega)) || ((l.take i).drop (k+1)).any q):=by
 rw [Aw _ k (by simp;omega),any_cons,aR]
theorem z8c (n:Nat)(l:List Gd)(a:Aut)(i:Nat)(hi:i<l.length)(c:l.length<=1100000)(K:Option Int):∀ (m k:Nat),k<=i->i<m+k->Nm n l a (i:Int) K m (k:Int)=if ((l.take i).drop k).any (fun h=>decide (h.fScope=l[i].fScope))=true then some 7 else K
 |0,k,h1,e=>by omega
 |m+1,k,h1,e=>by
  unfold Nm;simp only [A3];by_cases h:k<i
  ·rw [if_pos (by omega),Ab (by omega:k<l.length),Ab hi,zn3 h (by omega),Ad k (by omega),z8c n l a i hi c K m (k+1) (by omega) (by omega)];grind
  ·rw [if_neg (by omega),aG (by simp;omega)];simp
theorem z9l (n:Nat)(w:10000000<n)(a:Aut)(E:0<=a.fScopes/\a.fScopes<=64)(D:0<=a.fVars/\a.fVars<=16)(l:List Gd)(y:l.length<=1100000)(u:∀ g∈l,WfE g.fCond):∀ (m k:Nat),k<=l.length->l.length<m+k->∃ r:Int,Fy n l a (some 0) m (k:Int)=some r/\E8 n l a (some 0) m (k:Int)=some r
 |0,k,h1,F=>by omega
 |m+1,k,h1,F=>by
  unfold Fy E8;simp only [aD,A3,Af,B1,Ar,I6,H7,V6,Uk];by_cases h:k<l.length
  ·have e:((k:Nat):Int)<((l.length:Nat):Int):=by omega
   simp only [e,if_true,Ab h,A1];have wS:aH .i64 (a.fScopes-1)=a.fScopes-1:=Cu _ (by omega);have wV:aH .i64 (a.fVars-1)=a.fVars-1:=Cu _ (by omega);have s:∀ x:Int,(decide (x<0) || decide (15<x))=!(decide (0<=x) && decide (x<16)):=fun x=>Ua x 16
   simp only [wS,wV,Ua,s];obtain ⟨r,C,B⟩:=z9l n w a E D l y u m (k+1) (by omega) (by omega);obtain ⟨c,I,G⟩:=(u _ (aE h)).check n w;have A:=z8c n l a k h y (bnd (G9 n l[k].fCond) fun f=>if f=0 then Fy n l a (some 0) m (aH .i64 ((k:Int)+1)) else some f) n 0 (by omega) (by omega);simp only [aF,aK] at A;rw [A,I,G];have z:=Gm (l:=l) (a:=0) (b:=k) (aP _) (by omega) (fun q=>bnd (Pb n q l[k]) fun o=>cnd o (some (7:Int)) (bnd (some c) fun i=>if i=0 then E8 n l a (some 0) m (aH .i64 ((k:Int)+1)) else some i));simp only [aF,aK] at z;rw [z,zy0 n l[k] (fun h=>decide (h.fScope=l[k].fScope)) (l.take k) (by simp;omega) (by simp;omega) (fun x _=>rfl),A1,Ad k (by omega),C,B];simp only [A1];generalize (decide (0<=l[k].fScope) && decide (l[k].fScope<a.fScopes))=M;generalize (decide (0<=l[k].fType) && decide (l[k].fType<16))=L;generalize (decide (0<=l[k].fVar) && decide (l[k].fVar<a.fVars))=K;generalize ((l.take k).any fun h=>decide (h.fScope=l[k].fScope))=J;cases M with
   |false=>exact ⟨2,by simp [Aq],by simp [Aq]⟩
   |true=>cases L with
    |false=>exact ⟨2,by simp [Aq],by simp [Aq]⟩
    |true=>cases K with
     |false=>exact ⟨2,by simp [Aq],by simp [Aq]⟩
     |true=>cases J with
      |true=>exact ⟨7,by simp [Aq],by simp [Aq]⟩
      |false =>
       by_cases j:c=0
       ·exact ⟨r,by simp [Aq,j],by simp [Aq,j]⟩
       ·exact ⟨c,by simp [Aq,j],by simp [Aq,j]⟩
  ·have e:¬((k:Nat):Int)<((l.length:Nat):Int):=by omega
   simp only [e,if_false];exact ⟨0,rfl,rfl⟩
theorem zs6 (n:Nat)(i:10000000<n)(a:Aut)(f:0<=a.fScopes/\a.fScopes<=64)(e:0<=a.fVars/\a.fVars<=16)(l:List Gd)(j:l.length<=1100000)(c:∀ g∈l,WfE g.fCond):∃ r:Int,Rz n a l=some r/\Fh n a l=some r:=by
 unfold Rz Fh;simp only [aD,A3];by_cases h:64<((l.length:Nat):Int)
 ·simp_all
 ·simp only [h,if_false];have:=z9l n i a f e l j c n 0 (by omega) (by omega);omega
theorem zg6 (n:Nat)(sc:Int)(l:List Int)(i:Nat)(hi:i<l.length)(c:l.length<=1100000)(K:Option Int):∀ (m k:Nat),k<=i->i<m+k->Nl n sc l (i:Int) K m (k:Int)=if ((l.take i).drop k).any (fun h=>decide (l[i]=h))=true then some 7 else K
 |0,k,h1,e=>by omega
 |m+1,k,h1,e=>by
  unfold Nl;simp only [A3];by_cases h:k<i
  ·rw [if_pos (by omega),Ab (by omega:k<l.length),Ab hi,zn3 h (by omega),Ad k (by omega),zg6 n sc l i hi c K m (k+1) (by omega) (by omega)];grind
  ·rw [if_neg (by omega),aG (by simp;omega)];simp
theorem z9i (n:Nat)(x:10000000<n)(a:Aut)(w:0<=a.fScopes/\a.fScopes<=64)(A:List (List Int))(j:Int)(l:List Int)(i:l.length<=1100000)(K:Option Int):∀ (m k:Nat),k<=l.length->l.length<m+k->∃ r:Int,K9 n a.fScopes l (some 0) m (k:Int)=some r/\Ek n A a j l K m (k:Int)=(if r=0 then K else some r)/\(r=0->∀ y∈l.drop k,0<=y/\y<a.fScopes)
 |0,k,h1,z=>by omega
 |m+1,k,h1,z=>by
  unfold K9 Ek;simp only [aD,A3,Af,V6,Uk];by_cases h:k<l.length
  ·have c:((k:Nat):Int)<((l.length:Nat):Int):=by omega
   simp only [c,if_true,Ab h,A1];rw [Cu _ (by omega),Ua];obtain ⟨r,u,s,D⟩:=z9i n x a w A j l i K m (k+1) (by omega) (by omega);have q:=zg6 n a.fScopes l k h i (K9 n a.fScopes l (some 0) m (aH .i64 ((k:Int)+1))) n 0 (by omega) (by omega);simp only [aF,aK] at q;have o:=Gm (l:=l) (a:=0) (b:=k) (aP _) (by omega) (fun f=>bnd (Hc n f l[k]) fun e=>cnd e (some (7:Int)) (Ek n A a j l K m (aH .i64 ((k:Int)+1))));simp only [aF,aK] at o;rw [q,o,Wu n l[k] (l.take k) (by simp;omega) (by simp;omega),A1,Ad k (by omega),u,s];have g:(decide (0<=l[k]) && decide (l[k]<a.fScopes))=true->0<=l[k]/\l[k]<a.fScopes:=fun h=>by simpa using h
   rw [Aw l k h];revert g;generalize (decide (0<=l[k]) && decide (l[k]<a.fScopes))=C;generalize ((l.take k).any fun y=>decide (l[k]=y))=B;intro g;cases C with
   |false=>exact ⟨2,by simp [Aq],by simp [Aq],fun h=>by cases h⟩
   |true=>cases B with
    |true=>exact ⟨7,by simp [Aq],by simp [Aq],fun h=>by cases h⟩
    |false =>
     refine ⟨r,by simp [Aq],by simp [Aq],fun h y E=>?_⟩;grind
  ·have c:¬((k:Nat):Int)<((l.length:Nat):Int):=by omega
   simp only [c,if_false];grind
theorem zlx (n:Nat)(x:Ed)(a:Aut)(e:x.fLimits.length<=1100000)(K K':List Int->Option Int)(r:Option Int)(h1:K (x.fLimits.map (·.fScope))=r):∀ (m k:Nat) (acc:List Int),k<=x.fLimits.length->x.fLimits.length<m+k->acc=(x.fLimits.take k).map (·.fScope)->Ny n x a K m ((k:Int),acc)=r
 |0,k,acc,g,f,_=>by omega
 |m+1,k,acc,g,f,c=>by
  unfold Ny;simp only [aD,A3];by_cases h:k<x.fLimits.length
  ·rw [if_pos (by omega),Ab h,Bu (by subst c;simp;omega) (by omega),Ad k (by omega)];exact zlx n x a e K K' r h1 m (k+1) _ (by omega) (by omega) (by subst c;rw [aC h,map_append];rfl)
  grind
theorem z8d (n:Nat)(l:List Bm)(e:l.length<=1100000):∀ (m k:Nat) (acc:List Int),k<=l.length->l.length<m+k->acc=(l.take k).map (·.fScope)->P3 n l (fun y=>some y) m ((k:Int),acc)=some (l.map (·.fScope))
 |0,k,acc,g,f,_=>by omega
 |m+1,k,acc,g,f,c=>by
  unfold P3;simp only [aD,A3];by_cases h:k<l.length
  ·rw [if_pos (by omega),Ab h,Bu (by subst c;simp;omega) (by omega),Ad k (by omega)];exact z8d n l e m (k+1) _ (by omega) (by omega) (by subst c;rw [aC h,map_append];rfl)
  grind
theorem zpi (n:Nat)(e:10000000<n)(l:List Bm)(c:l.length<=1100000):Pq n l=some (l.map (·.fScope)):=by
 unfold Pq;exact z8d n l c n 0 [] (by omega) (by omega) (by simp)
theorem zg7 (n:Nat)(x:Ed)(c:x.fLimits.length<=1100000):∀ (m k:Nat),k<=x.fLimits.length->x.fLimits.length<m+k->Kg n x (some 0) m (k:Int)=some (if (x.fLimits.drop k).any (fun l=>decide (l.fSpan<0) || decide (1099511627776<l.fSpan))=true then 2 else 0)
 |0,k,h1,e=>by omega
 |m+1,k,h1,e=>by
  unfold Kg;simp only [aD,A3,V6,A1];by_cases h:k<x.fLimits.length
  ·rw [if_pos (by omega),Ab h,Aw _ k h,any_cons,Ad k (by omega),zg7 n x c m (k+1) (by omega) (by omega)];generalize (decide (x.fLimits[k].fSpan<0) || decide (1099511627776<x.fLimits[k].fSpan))=b;cases b<;>simp [Aq]
  grind
theorem zvf (n:Nat)(N:10000000<n)(a:Aut)(U:0<=a.fScopes/\a.fScopes<=64)(x:Ed)(f:WfX x):∃ r:Int,P4 n a x=some r /\
  (bnd (Pq n x.fLimits) fun C=>bnd (Iw n a ([x.fOpens,x.fCloses,x.fInside,C])) fun w=>if w=0 then (bnd (Nq n x.fLimits) fun B=>cnd B (some (2:Int)) (some 0)) else some w)=some r/\(r=0->∀ y∈x.fOpens,0<=y/\y<a.fScopes):=by
 have z:=zg7 n x f.ll n 0 (by omega) (by have:=f.ll;omega);simp only [aF,aK] at z;rw [zpi n N x.fLimits f.ll,A1];have E:=znn n (fun l=>decide (l.fSpan<0) || decide (1099511627776<l.fSpan)) x.fLimits (by have:=f.ll;omega) (by have:=f.ll;omega) (fun y _=>by
  unfold Lq;simp only [B1,Ar,Lg,A3];grind)
 rw [E];simp only [A1];have D:(x.fLimits.map (·.fScope)).length<=1100000:=by rw [aD];exact f.ll
 generalize V:x.fLimits.map (·.fScope)=S at *;generalize (x.fLimits.any fun l=>decide (l.fSpan<0) || decide (1099511627776<l.fSpan))=sp at *;unfold Iw
 -- the four lists
 have step:∀ (l:List Int),l.length<=1100000->∀ (j:Int) (K:Option Int),∃ r:Int,Ot n l a.fScopes=some r/\Ek n [x.fOpens,x.fCloses,x.fInside,S] a j l K n 0=(if r=0 then K else some r)/\(r=0->∀ y∈l,0<=y/\y<a.fScopes):=fun l A j K=>by
  have:=z9i n N a U [x.fOpens,x.fCloses,x.fInside,S] j l A K n 0 (by omega) (by omega);unfold Ot;simp_all
 have uq:∀ l:List Int,l.length<=1100000->∃ r:Int,Ot n l a.fScopes=some r/\(∀ (j:Int) (K:Option Int),Ek n [x.fOpens,x.fCloses,x.fInside,S] a j l K n 0=if r=0 then K else some r)/\(r=0->∀ y∈l,0<=y/\y<a.fScopes):=fun l A=>by
  obtain ⟨r,T,_,O⟩:=step l A 0 none;refine ⟨r,T,fun j K=>?_,O⟩;obtain ⟨r',R,P,_⟩:=step l A j K;simp_all
 obtain ⟨u,a1,b1,X⟩:=uq x.fOpens f.lo;obtain ⟨s,a2,b2,_⟩:=uq x.fCloses f.lcl;obtain ⟨q,a3,Z,_⟩:=uq x.fInside f.li;obtain ⟨o,a4,Y,_⟩:=uq S D;have w0:aH .i64 ((0:Int)+1)=1:=by decide
 have w1:aH .i64 ((1:Int)+1)=2:=by decide
 have G:aH .i64 ((2:Int)+1)=3:=by decide
 have F:aH .i64 ((3:Int)+1)=4:=by decide
 have M:∀ K:List Int->Option Int,idx ([x.fOpens,x.fCloses,x.fInside,S]:List (List Int)) 0 K=K x.fOpens:=fun K=>by have:=Ab (l:=[x.fOpens,x.fCloses,x.fInside,S]) (i:=0) (by simp) K;simpa using this
 have L:∀ K:List Int->Option Int,idx ([x.fOpens,x.fCloses,x.fInside,S]:List (List Int)) 1 K=K x.fCloses:=fun K=>by have:=Ab (l:=[x.fOpens,x.fCloses,x.fInside,S]) (i:=1) (by simp) K;simpa using this
 have J:∀ K:List Int->Option Int,idx ([x.fOpens,x.fCloses,x.fInside,S]:List (List Int)) 2 K=K x.fInside:=fun K=>by have:=Ab (l:=[x.fOpens,x.fCloses,x.fInside,S]) (i:=2) (by simp) K;simpa using this
 have I:∀ K:List Int->Option Int,idx ([x.fOpens,x.fCloses,x.fInside,S]:List (List Int)) 3 K=K S:=fun K=>by have:=Ab (l:=[x.fOpens,x.fCloses,x.fInside,S]) (i:=3) (by simp) K;simpa using this
 have hm:∃ m,n=m+1+1+1+1+1:=⟨n-5,by omega⟩;have rl:∀ K:Option Int,Gw n x a S K n 0=if u=0 then (if s=0 then (if q=0 then (if o=0 then K else some o) else some q) else some s) else some u:=fun K=>by
  obtain ⟨m,hm⟩:=hm;conv=>lhs;rw [show Gw n x a S K n 0=Gw n x a S K (m+1+1+1+1+1) 0 by rw [<-hm]]
  simp only [Gw,A3,Af,M,L,J,I,w0,w1,G,F,a1,a2,a3,a4,A1];simp
 have pl:∀ K:Option Int,F5 n [x.fOpens,x.fCloses,x.fInside,S] a K n 0=if u=0 then (if s=0 then (if q=0 then (if o=0 then K else some o) else some q) else some s) else some u:=fun K=>by
  obtain ⟨m,hm⟩:=hm;conv=>lhs;rw [show F5 n [x.fOpens,x.fCloses,x.fInside,S] a K n 0=F5 n [x.fOpens,x.fCloses,x.fInside,S] a K (m+1+1+1+1+1) 0 by rw [<-hm]]
  simp only [F5,A3,M,L,J,I,w0,w1,G,F,aD,length_cons,aU,b1,b2,Z,Y];simp
 unfold P4;have el:=zlx n x a f.ll (fun k1_0_0y=>frz 7026 <| reg <| Gw n x a k1_0_0y (Kg n x (some 0) n 0) n 0) (fun _=>none) _ rfl n 0 [] (by omega) (by have:=f.ll;omega) (by simp);simp only [aF] at el;rw [el,V,zu5,Ar,rl,z,pl];by_cases c:u=0;rotate_left
 ·exact ⟨u,by simp [c],by simp [c,A1],fun h=>absurd h c⟩
 by_cases e:s=0;rotate_left
 ·exact ⟨s,by simp [c,e],by simp [c,e,A1],fun h=>absurd h e⟩
 by_cases g:q=0;rotate_left
 ·exact ⟨q,by simp [c,e,g],by simp [c,e,g,A1],fun h=>absurd h g⟩
 by_cases k:o=0;rotate_left
 ·exact ⟨o,by simp [c,e,g,k],by simp [c,e,g,k,A1],fun h=>absurd h k⟩
 cases sp with
 |true=>exact ⟨2,by simp [c,e,g,k],by simp [c,e,g,k,A1,Aq],fun h=>by cases h⟩
 |false=>exact ⟨0,by simp [c,e,g,k],by simp [c,e,g,k,A1,Aq],fun _=>X c⟩
theorem z9n (n:Nat)(i:10000000<n)(x:Ed)(a:Aut)(ys:List Exn)(f:x.fChecks=ys.map Al)(g:∀ y∈ys,WfE y)(q:ys.length<=1100000)(P:Prop)(K K':Option Int)(s:∃ r:Int,K=some r/\K'=some r/\(r=0->P)):∀ (m k:Nat),k<=ys.length->ys.length<m+k->∃ r:Int,Oc n x a K m (k:Int)=some r/\Gb n x a K' m (k:Int)=some r/\(r=0->P)
 |0,k,h1,u=>by omega
 |m+1,k,h1,u=>by
  unfold Oc Gb;simp only [f,aD,A3,Af];by_cases h:k<ys.length
  ·have e:((k:Nat):Int)<((ys.length:Nat):Int):=by omega
   simp only [e,if_true];have hi:∀ (Q:Exn->Option Int),idxD C8 (ys.map Al) (k:Int) Q=Q ys[k]:=fun Q=>by
    have:=Jh (l:=ys.map fun y=>(0,y)) (k:=k) (by simpa using h) Q;simp only [map_map,bE] at this;exact this
   rw [hi,hi];obtain ⟨c,z,w⟩:=(g _ (aE h)).check n i;obtain ⟨r,o,j,A⟩:=z9n n i x a ys f g q P K K' s m (k+1) (by omega) (by omega);rw [z,w,A1,A1,Ad k (by omega),o,j];grind
  grind
structure EdOk (a:Aut) (x:Ed):Prop where
 frm:0<=x.fFrom/\x.fFrom<a.fStates.length
 tgt:-1<=x.fTo/\x.fTo<a.fStates.length
 var:0<=x.fVar/\x.fVar<a.fVars
 opn:∀ y∈x.fOpens,0<=y/\y<a.fScopes
theorem zxx (n:Nat)(s:10000000<n)(a:Aut)(L:0<=a.fScopes/\a.fScopes<=64)(U:0<=a.fVars/\a.fVars<=16)(K:1<=a.fStates.length/\a.fStates.length<=256)(x:Ed)(g:WfX x)(before:Int):∃ r:Int,Sb n a x before=some r/\Fi n a x before=some r/\(r=0->EdOk a x):=by
 unfold Sb Fi;simp only [aD,A3,Af,B1,Ar,V6,Uk,A1];have wS:aH .i64 (((a.fStates.length:Nat):Int)-1)=((a.fStates.length:Nat):Int)-1:=Cu _ (by omega);have wV:aH .i64 (a.fVars-1)=a.fVars-1:=Cu _ (by omega);have w:∀ x:Int,(decide (x<0) || decide (15<x))=!(decide (0<=x) && decide (x<16)):=fun x=>Ua x 16
 simp only [wS,wV,Ua,w];have tailE:∃ r:Int,E6 n before x a false=some r/\Dm n before x a false=some r/\(r=0->∀ y∈x.fOpens,0<=y/\y<a.fScopes):=by
  unfold E6 Dm;simp only [aD,A3,Af,B3];by_cases O:x.fFrom<before
  ·simp_all
  simp only [O,if_false];obtain ⟨c,R,P⟩:=g.cond.check n s;rw [R,P,A1,A1];by_cases N:c=0;rotate_left
  ·simp_all
  simp only [N,if_true];by_cases u:64<((x.fChecks.length:Nat):Int)
  ·simp_all
  simp only [u,if_false];obtain ⟨ys,B,J⟩:=g.checks;obtain ⟨r,f,m,k⟩:=zvf n s a L x g;have o:ys.length<=1100000:=by have:=g.lc;rw [B,aD] at this;exact this
  have:=z9n n s x a ys B J o (∀ y∈x.fOpens,0<=y/\y<a.fScopes) (bnd (P4 n a x) fun j=>some j) _ ⟨r,by rw [f,A1],m,k⟩ n 0 (by omega) (by omega);simpa only [aF] using this
 have e:E6 n before x a true=some 2/\Dm n before x a true=some 2:=by
  unfold E6 Dm;exact ⟨Au _ _,Au _ _⟩
 obtain ⟨r,f,m,k⟩:=tailE;rw [e.1,e.2];by_cases h1:0<=x.fFrom/\x.fFrom<((a.fStates.length:Nat):Int);rotate_left
 ·have:(decide (0<=x.fFrom) && decide (x.fFrom<((a.fStates.length:Nat):Int)))=false:=by
   rw [aV,decide_eq_false_iff_not,decide_eq_false_iff_not];omega
  exact ⟨2,by simp [this,Aq],by simp [this,Aq],fun h=>by cases h⟩
 have i:(decide (0<=x.fFrom) && decide (x.fFrom<((a.fStates.length:Nat):Int)))=true:=by simp [h1.1];omega
 by_cases C:-1<=x.fTo/\x.fTo<((a.fStates.length:Nat):Int);rotate_left
 ·have F:¬x.fTo=-1:=by omega
  have E:(decide (0<=x.fTo) && decide (x.fTo<((a.fStates.length:Nat):Int)))=false:=by
   rw [aV,decide_eq_false_iff_not,decide_eq_false_iff_not];omega
  refine ⟨2,by simp [i,F,E,Aq],?_,fun h=>by cases h⟩;by_cases A:x.fTo < -1
  ·simp [i,A,Aq]
  ·have D:((a.fStates.length:Nat):Int)<=x.fTo:=by omega
   simp [i,A,D,Aq]
 have I:¬x.fTo < -1:=by omega
 have G:¬((a.fStates.length:Nat):Int)<=x.fTo:=by omega
 have ok:(decide (0<=x.fVar) && decide (x.fVar<a.fVars))=true->r=0->EdOk a x:=fun h M=>by
  simp only [bC,decide_eq_true_eq] at h;exact ⟨⟨h1.1,h1.2⟩,⟨C.1,C.2⟩,h,k M⟩
 have z:¬x.fTo=-1->(decide (0<=x.fTo) && decide (x.fTo<((a.fStates.length:Nat):Int)))=true:=fun h=>by grind
 revert ok;generalize (decide (0<=x.fVar) && decide (x.fVar<a.fVars))=T;generalize (decide (0<=x.fType) && decide (x.fType<16))=S;intro ok;simp only [i,I,G,if_false,Au,Bool.not_true];cases T with
 |false =>
  refine ⟨2,?_,by simp [Aq],fun h=>by cases h⟩;by_cases q:x.fTo=-1
  ·simp [q,Aq]
  ·simp [q,z q,Aq]
 |true =>
  cases S with
  |false =>
   refine ⟨2,?_,by simp [Aq,e.2],fun h=>by cases h⟩;by_cases q:x.fTo=-1
   ·simp [q,Aq,e.1]
   ·simp [q,z q,Aq,e.1]
  |true =>
   refine ⟨r,?_,by simp [Aq,m],fun q=>ok rfl q⟩;by_cases q:x.fTo=-1
   ·simp [q,Aq,f]
   ·simp [q,z q,Aq,f]
theorem zc2 (n:Nat)(s:10000000<n)(a:Aut)(o:0<=a.fScopes/\a.fScopes<=64)(j:0<=a.fVars/\a.fVars<=16)(f:1<=a.fStates.length/\a.fStates.length<=256)(i:WfA a):∀ (m k:Nat) (before:Int),k<=a.fEdges.length->a.fEdges.length<m+k->(∀ x∈a.fEdges.take k,EdOk a x)->∃ r:Int,Nz n a (some 0) m (before,(k:Int))=some r/\En n a (some 0) m (before,(k:Int))=some r/\(r=0->∀ x∈a.fEdges,EdOk a x)
 |0,k,before,h1,y,_=>by omega
 |m+1,k,before,h1,y,B=>by
  have w:=i.le;unfold Nz En;simp only [aD,A3,Af];by_cases h:k<a.fEdges.length
  ·have e:((k:Nat):Int)<((a.fEdges.length:Nat):Int):=by omega
   simp only [e,if_true,Ab h];obtain ⟨c,A,z,C⟩:=zxx n s a o j f _ (i.ed _ (aE h)) before;rw [A,z,A1,A1,Ad k (by omega)];by_cases g:c=0
   ·simp only [g,if_true];refine zc2 n s a o j f i m (k+1) _ (by omega) (by omega) (fun x u=>?_);rw [aC h,bI,aX] at u;grind
   ·exact ⟨c,by simp [g],by simp [g],fun q=>absurd q g⟩
  ·have e:¬((k:Nat):Int)<((a.fEdges.length:Nat):Int):=by omega
   simp only [e,if_false];grind
theorem z9h (n:Nat)(j:10000000<n)(a:Aut)(i:0<=a.fScopes/\a.fScopes<=64)(g:0<=a.fVars/\a.fVars<=16)(e:WfA a)(K K':Option Int)(P:Prop)(s:∃ r:Int,K=some r/\K'=some r/\(r=0->P)):∀ (m k:Nat),k<=a.fStates.length->a.fStates.length<m+k->∃ r:Int,O0 n a K m (k:Int)=some r/\F6 n a K' m (k:Int)=some r/\(r=0->P)
 |0,k,h1,u=>by omega
 |m+1,k,h1,u=>by
  have o:=e.ls;unfold O0 F6;simp only [aD,A3,Af];by_cases h:k<a.fStates.length
  ·have f:((k:Nat):Int)<((a.fStates.length:Nat):Int):=by omega
   simp only [f,if_true,Ab h];obtain ⟨x,w⟩:=e.st _ (aE h);obtain ⟨c,z,y⟩:=zs6 n j a i g _ x w;rw [z,y,A1,A1,Ad k (by omega)];by_cases q:c=0
   ·simp only [q,if_true];exact z9h n j a i g e K K' P s m (k+1) (by omega) (by omega)
   simp_all
  grind
structure AOk (a:Aut):Prop where
 vars:0<=a.fVars/\a.fVars<=16
 st:1<=a.fStates.length/\a.fStates.length<=256
 ed:∀ x∈a.fEdges,EdOk a x
theorem zdh (n:Nat)(m:10000000<n)(a:Aut)(e:WfA a):∃ r:Int,Lb n a=some r/\D5 n a=some r/\(r=0->AOk a):=by
 have y:=e.ls;have z:=e.le;unfold Lb D5;simp only [B1,Ar,V6,A1,A3];have g:Gx n a true=some 2/\F7 n a true=some 2:=by
  unfold Gx F7;exact ⟨Au _ _,Au _ _⟩
 rw [g.1,g.2];by_cases f:0<=a.fVars/\a.fVars<=16;rotate_left
 ·refine ⟨2,?_,?_,fun h=>by cases h⟩
  ·have:(decide (a.fVars<0) || decide (16<a.fVars))=true:=by
    rw [bF,decide_eq_true_eq,decide_eq_true_eq];omega
   rw [this,Au]
  simp_all
 have j:¬a.fVars<0:=by omega
 have i:¬16<a.fVars:=by omega
 by_cases k:0<=a.fScopes/\a.fScopes<=64;rotate_left
 ·have:(decide (a.fScopes<0) || decide (64<a.fScopes))=true:=by
   rw [bF,decide_eq_true_eq,decide_eq_true_eq];omega
  refine ⟨2,by simp [j,i,this,Aq,g.1],?_,fun h=>by cases h⟩;simp_all
 have x:¬a.fScopes<0:=by omega
 have w:¬64<a.fScopes:=by omega
 simp only [j,i,x,w,if_false,decide_false,Bool.or_false,B3];unfold Gx F7;simp only [B1,Ar,aD,A3,B3];have o:Fz n a true=some 5/\Fg n a true=some 5:=by
  unfold Fz Fg;exact ⟨Au _ _,Au _ _⟩
 rw [o.1,o.2];by_cases h1:((a.fStates.length:Nat):Int)<1
 ·simp_all
 by_cases B:256<((a.fStates.length:Nat):Int)
 ·simp_all
 simp only [h1,B,if_false];by_cases A:2048<((a.fEdges.length:Nat):Int)
 ·simp_all
 simp only [A,decide_false];unfold Fz Fg;simp only [B3];have c:1<=a.fStates.length/\a.fStates.length<=256:=by omega
 obtain ⟨r,u,s,q⟩:=zc2 n m a k f c e n 0 0 (by omega) (by omega) (by simp);have:=z9h n m a k f e _ _ (AOk a) ⟨r,u,s,fun h=>⟨f,c,q h⟩⟩ n 0 (by omega) (by omega);omega
open Go.ChangeShapes Go.WideShapes Go.ChangeAt Go.Joins Go.Deep
theorem zyn {H:Type}(d:DataW H):1<=Rows.uptoBulk d:=by
 cases d with
 |lit l=>cases l<;>simp [Rows.uptoBulk]
 |nil=>simp [Rows.uptoBulk]
 |ptr d=>simp [Rows.uptoBulk]
 |slice elems spare=>simp [Rows.uptoBulk]
 |agg parts=>simp [Rows.uptoBulk]
 |iface t d=>simp [Rows.uptoBulk]
 |map entries=>simp [Rows.uptoBulk]
 |held h=>simp [Rows.uptoBulk]
theorem zyo {H:Type}{d:DataW H}{l:List (DataW H)}(h:d∈l):Rows.uptoBulk d<=Rows.uptoBulkAll l:=by
 induction l with
 |nil=>cases h
 |cons x r ih =>
  simp only [Rows.uptoBulkAll];rcases mem_cons.1 h with e|e
  ·subst e;omega
  ·have:=ih e;omega
def SlQ (Q:Nat->α->Prop)(b:Nat)(l:List α):Prop:=∃ ps:List (Nat×α),ps.map (·.2)=l/\(∀ p∈ps,1<=p.1/\Q p.1 p.2)/\(ps.map (·.1)).sum<b
variable {Q:Nat->α->Prop}{b:Nat}
theorem SlQ.len (h:SlQ Q b l):l.length<b:=by
 obtain ⟨ps,rfl,e,c⟩:=h;rw [aD];refine aJ ?_ c;clear c
 induction ps with
 |nil=>simp
 |cons p ps ih =>
  have:=(e p (by simp)).1;have:=ih (fun q f=>e q (mem_cons_of_mem _ f));simp only [aQ,bJ,length_cons];omega
theorem SlQ.mem (h:SlQ Q b l):∀ m∈l,∃ g,g < b/\Q g m:=fun m hm=>by
 obtain ⟨ps,rfl,f,i⟩:=h;obtain ⟨p,c,rfl⟩:=mem_map.1 hm;refine ⟨p.1,?_,(f p c).2⟩;have:p.1<=(ps.map (·.1)).sum:=by
  clear f i hm
  induction ps with
  |nil=>cases c
  |cons x ps ih =>
   simp only [aQ,bJ];rcases mem_cons.1 c with e|e
   ·subst e;omega
   ·have:=ih e;omega
 omega
section
variable {H:Type} {enc:TypeId×Value->H} {W:World} {base:Nat} {v:Value} {d:DataW H} {p:List MemPlace}
set_option maxRecDepth 100000
variable {a:α->AV}{t:TypeId}{sz:Nat}
theorem zrs {e:TypeId}(T:Tryz.prog.underlying t=some (.slice e))(E:Tryz.prog.cellsOf e=sz)(X:0<sz)(S:Inhabited α)(g:∀ m,(a m).cells.length=sz)
   {n:Nat} {u:Value} {x:DataW H×List MemPlace} (each:∀ (n:Nat) (cs:List Value) (y:DataW H×List MemPlace),Rows.uptoBulk y.1<Rows.uptoBulk x.1->cs.length=sz->DataW.trod enc aB W 0 (fun _=>true) true n e cs=some y->∃ m:α,R1 W a m cs/\Q (Rows.uptoBulk y.1) m)
  (h:DataW.trod enc aB W 0 (fun _=>true) true n t [u]=some x):∃ l:List α,Rep W (fun _=>True) G0 (.sl sz (l.map a)) u/\SlQ Q (Rows.uptoBulk x.1) l:=by
 rcases open_slice T h with ⟨h1,C⟩|⟨A,len,cap,m,P,D,Pl,h1,_,I,hm,z,C,N⟩
 ·simp only [List.cons.injEq,and_true] at h1;subst h1;exact ⟨[],.sl none 0 (fun _ _=>.bool true) (by simp) (fun k c=>absurd c (by simp)) (fun h=>absurd h (by simp)) (fun k c=>absurd c (by simp)) (fun _ _=>rfl),[],rfl,by simp,by rw [C];simp [Rows.uptoBulk]⟩
 ·simp only [List.cons.injEq,and_true] at h1;subst h1;simp only [if_true] at z;subst z;rw [E] at N;have K:Rows.uptoBulkAll ((bK len).map D)<Rows.uptoBulk x.1:=by
   rw [C];simp only [Rows.uptoBulk];omega
  have every:∀ i,∃ q:α×List Value,i<len->W.cells? 0 (A.add (i*sz)) sz=some q.2/\R1 W a q.1 q.2/\Q (Rows.uptoBulk (D i)) q.1:=fun i=>by
   by_cases hi:i<len
   ·obtain ⟨cs,O,Z⟩:=N i (by omega);have F:Rows.uptoBulk (D i)<Rows.uptoBulk x.1:=by
     have:=zyo (l:=(bK len).map D) (mem_map.2 ⟨i,mem_range.2 hi,rfl⟩);omega
    obtain ⟨k,c,U⟩:=each P cs _ F (Wy O).1 Z;exact ⟨(k,cs),fun _=>⟨O,c,U⟩⟩
   ·exact ⟨(S.default,[]),fun h=>absurd h hi⟩
  obtain ⟨f,B⟩:=Classical.axiomOfChoice every;have hl:((bK len).map fun i=>(f i).1).length=len:=by simp
  refine ⟨(bK len).map fun i=>(f i).1,?_,(bK len).map (fun i=>(Rows.uptoBulk (D i),(f i).1)),by simp,?_,?_⟩;rotate_left
  ·intro p V;obtain ⟨i,hi,rfl⟩:=mem_map.1 V;exact ⟨zyn _,(B i (mem_range.1 hi)).2.2⟩
  ·rw [map_map];have:∀ l:List Nat,(l.map ((fun p:Nat×α=>p.1) ∘ fun i=>(Rows.uptoBulk (D i),(f i).1))).sum=Rows.uptoBulkAll (l.map D):=fun l=>by
    induction l with
    |nil=>simp [Rows.uptoBulkAll]
    |cons i l R=>simp only [aQ,bJ,R,Rows.uptoBulkAll,Function.comp]
   rw [this];exact K
  have e:len=(((bK len).map fun i=>(f i).1).map a).length:=by simp
  have r:∀ k j,k<len->j<sz->W.cell? ((A.add (k*sz)).add j)=some ((f k).2.getD j undef):=fun k j c w=>(Wy (B k c).1).2 j w
  have:Rep W (fun _=>True) G0 (.sl sz (((bK len).map fun i=>(f i).1).map a)) (.slice (some A) (((bK len).map fun i=>(f i).1).map a).length m):=by
   refine .sl (some A) m (fun k j=>if k<len/\j<sz then (f k).2.getD j undef else .bool true) (by simpa using I) (fun k c=>?_) (fun L=>?_) (fun k c j w=>?_) (fun k j=>?_)
   ·simp only [bE];exact g _
   ·have G:0<len:=by simpa using L
    have M:=zfh (r 0 0 G X);obtain ⟨b,off,sp⟩:=A;have Y:sp=none:=by simpa [Addr.add] using M.1
    subst Y;rw [Jr,Jr] at M;refine ⟨b,off,rfl,trivial,M.2,fun k j c w=>?_⟩;have o:k<len:=by simpa using c
    have:=r k j o w;rw [Jr,Jr] at this;rw [if_pos ⟨o,w⟩,<-this];congr 2;omega
   ·have o:k<len:=by simpa using c
    simp only [bE,getElem_range] at w ⊢;have J:j<sz:=by rw [g] at w;exact w
    rw [if_pos ⟨o,J⟩];exact ((B k o).2.1.2 j w).1
   ·by_cases s:k<len/\j<sz
    ·rw [if_pos s];exact ((B k s.1).2.1.2 j (by rw [g];exact s.2)).2
    ·rw [if_neg s];rfl
  rw [<-e] at this;exact this
abbrev FQ (enc:TypeId×Value->H)(W:World)(t:TypeId)(sz:Nat){α:Type}(e:α->List AV)(Q:Nat->α->Prop)(B:Nat):Prop:=∀ (n:Nat) (cs:List Value) (x:DataW H×List MemPlace),Rows.uptoBulk x.1<B->cs.length=sz->DataW.trod enc aB W 0 (fun _=>true) true n t cs=some x->∃ m:α,Bz W (e m) cs/\Q (Rows.uptoBulk x.1) m
theorem Dd {B:Nat}{e:α->List AV}(h:FO enc W t sz e):FQ enc W t sz e (fun _ _=>True) B:=fun n cs x _ f c=>by
 obtain ⟨m,hm⟩:=h n cs x f c;exact ⟨m,hm,trivial⟩
theorem Hq {e:TypeId}{B:Nat}(k:Tryz.prog.underlying t=some (.slice e))(i:Tryz.prog.cellsOf e=sz)(q:0<sz)(j:Inhabited α)(g:∀ m,(a m).cells.length=sz)
  (each:FQ enc W e sz (fun m:α=>(a m).cells) Q B):FQ enc W t 1 (fun l:List α=>[AV.sl sz (l.map a)]) (SlQ Q) B:=fun n cs x s f h=>by
 match cs,f with
 |[c],_ =>
  obtain ⟨l,f,o⟩:=zrs (a:=a) k i q j g (fun n cs y r f h=>each n cs y (by omega) f h) h;exact ⟨l,.one f f.one_sl,o⟩
theorem zl7 {fs:Array Field}(i:Tryz.prog.underlying t=some (.struct fs))(c:Tryz.prog.cellsOf t=sz)(n:∀ m,∃ xs,a m=.agg xs)(each:∀ B,FQ enc W t sz (fun m:α=>(a m).cells) Q B)
  (g:Value.okWide aB W .any base t v) (h:DataW.Trod enc aB W 0 (fun _=>true) true t v d p):∃ m:α,Rep W (fun _=>True) G0 (a m) v/\Q (Rows.uptoBulk d) m:=by
 obtain ⟨cs,rfl,e⟩:=okWide_struct i g;obtain ⟨fuel,k⟩:=h;obtain ⟨m,hm,j⟩:=each (Rows.uptoBulk d+1) fuel cs.toList _ (by show Rows.uptoBulk d<Rows.uptoBulk d+1;omega) (by simpa using e.trans c) k;obtain ⟨xs,f⟩:=n m;exact ⟨m,zyq f hm,j⟩
def QE (b:Nat)(m:Exn):Prop:=∃ z,z<=b/\ETr z m
def QG (b:Nat)(g:Gd):Prop:=∃ c,c < b/\QE c g.fCond
def QS (b:Nat)(s:Stt):Prop:=∃ c,c < b/\SlQ QG c s.fGuards
abbrev QT {α:Type}(_:Nat)(_:α):Prop:=True
def QX (b:Nat)(x:Ed):Prop:=(∃ c,c < b/\QE c x.fCond)/\(∃ c,c < b/\SlQ QT c x.fOpens)/\(∃ c,c < b/\SlQ QT c x.fCloses)/\(∃ c,c < b/\∃ l:List Exn,x.fChecks=l.map Al/\SlQ QE c l)/\(∃ c,c < b/\SlQ QT c x.fLimits)/\(∃ c,c < b/\SlQ QT c x.fInside)
def QA (b:Nat)(a:Aut):Prop:=(∃ c,c < b/\SlQ QS c a.fStates)/\(∃ c,c < b/\SlQ QX c a.fEdges)
theorem zyh {l:List Exn}(h:SlQ QE b l):∃ c:List (Nat×Exn),c.map (·.2)=l/\(∀ q∈c,ETr q.1 q.2)/\(c.map (·.1)).sum<b:=by
 obtain ⟨ps,rfl,j,o⟩:=h;have:∃ c:List (Nat×Exn),c.map (·.2)=ps.map (·.2)/\(∀ q∈c,ETr q.1 q.2)/\(c.map (·.1)).sum<=(ps.map (·.1)).sum:=by
  clear o
  induction ps with
  |nil=>exact ⟨[],rfl,by simp,by simp⟩
  |cons p ps m =>
   obtain ⟨c,g,f,k⟩:=m (fun q i=>j q (mem_cons_of_mem _ i));obtain ⟨z,r,n⟩:=(j p (by simp)).2;refine ⟨(z,p.2)::c,by simp [g],fun q i=>?_,by simp only [aQ,bJ];omega⟩;rcases mem_cons.1 i with e|e
   ·rw [e];exact n
   ·exact f q e
 obtain ⟨c,g,f,k⟩:=this;exact ⟨c,g,f,by omega⟩
theorem zoj {e:Exn}(h:QE b e)(g:b<=1048576):WfE e:=by
 obtain ⟨z,f,c⟩:=h;exact ⟨z,by omega,c⟩
theorem zx0 {a:Aut}(h:QA b a)(D:b<=1048576):WfA a:=by
 obtain ⟨⟨b1,h1,i⟩,⟨b2,J,f⟩⟩:=h;refine ⟨by have:=i.len;omega,by have:=f.len;omega,fun s z=>?_,fun x w=>?_⟩
 ·obtain ⟨C,B,b4,I,e⟩:=i.mem s z;refine ⟨by have:=e.len;omega,fun g A=>?_⟩;obtain ⟨b5,G,Z,F,c⟩:=e.mem g A;exact zoj c (by omega)
 ·obtain ⟨C,B,⟨X,P,r⟩,⟨V,O,q⟩,⟨U,N,o⟩,⟨T,M,l,k,j⟩,⟨S,L,n⟩,⟨R,K,c⟩⟩:=f.mem x w;refine ⟨zoj r (by omega),⟨l,k,fun y u=>?_⟩,?_,?_,?_,?_,?_⟩
  ·obtain ⟨Y,E,m⟩:=j.mem y u;exact zoj m (by omega)
  ·rw [k,aD];have:=j.len;omega
  ·have:=q.len;omega
  ·have:=o.len;omega
  ·have:=c.len;omega
  ·have:=n.len;omega
theorem zmk:FO enc W 40 3 (fun m:A5=>(Aa m).cells):=fun n cs x E h=>by
 obtain ⟨xs,c,_,D,_,e,f⟩:=DataW.trod_struct Tryz.underlying40 h
 match xs,e with
 |[q,o,k],_ =>
  have C:Tryz.prog.cellsOf 3=1:=by kernel_rfl
  have j:DataW.trod enc aB W 0 (fun _=>true) true c 3 ((cs.drop 0).take (Tryz.prog.cellsOf 3))=some q:=f 0 _ rfl;rw [C] at j;obtain ⟨w,z⟩:=(Cn aA) c _ _ (Bs (by omega)) j;have B:Tryz.prog.cellsOf 3=1:=by kernel_rfl
  have i:DataW.trod enc aB W 0 (fun _=>true) true c 3 ((cs.drop 1).take (Tryz.prog.cellsOf 3))=some o:=f 1 _ rfl;rw [B] at i;obtain ⟨u,h1⟩:=(Cn aA) c _ _ (Bs (by omega)) i;have A:Tryz.prog.cellsOf 9=1:=by kernel_rfl
  have g:DataW.trod enc aB W 0 (fun _=>true) true c 9 ((cs.drop 2).take (Tryz.prog.cellsOf 9))=some k:=f 2 _ rfl;rw [A] at g;obtain ⟨s,y⟩:=(zyb Tryz.underlying9) c _ _ (Bs (by omega)) g;have r:=(show Bz W _ (cs.drop 0) from (.cut z (.cut h1 (.cut y (aT (by omega))))));exact ⟨⟨w,u,s⟩,r⟩
theorem Xw:∀ B,FQ enc W 42 8 (fun m:Exn=>(Al m).cells) QE B
 |0=>fun n cs x w P h=>absurd w (Nat.not_lt_zero _)
 |B+1=>fun n cs x w P h=>by
  obtain ⟨xs,c,_,O,_,f,e⟩:=DataW.trod_struct Tryz.underlying42 h
  match xs,f with
  |[q,o,k,j,i,g],_ =>
   have hk:Rows.uptoBulk x.1=Rows.uptoBulk q.1+Rows.uptoBulk o.1+Rows.uptoBulk k.1+Rows.uptoBulk j.1+Rows.uptoBulk i.1+Rows.uptoBulk g.1+1:=by rw [O];simp only [Rows.uptoBulk,Rows.uptoBulkAll,aQ,bH]<;>omega
   have c0:Tryz.prog.cellsOf 3=1:=by kernel_rfl
   have E:DataW.trod enc aB W 0 (fun _=>true) true c 3 ((cs.drop 0).take (Tryz.prog.cellsOf 3))=some q:=e 0 _ rfl;rw [c0] at E;obtain ⟨N,V,q0⟩:=(Dd (Cn aA)) c _ _ (show Rows.uptoBulk q.1<B by omega) (Bs (by omega)) E;have c1:Tryz.prog.cellsOf 38=1:=by kernel_rfl
   have D:DataW.trod enc aB W 0 (fun _=>true) true c 38 ((cs.drop 1).take (Tryz.prog.cellsOf 38))=some o:=e 1 _ rfl;rw [c1] at D;obtain ⟨s,h1,I⟩:=(Hq (sz:=8) (a:=Al) aZ (by kernel_rfl) (by omega) inferInstance (fun _=>rfl) (Xw B)) c _ _ (show Rows.uptoBulk o.1<B by omega) (Bs (by omega)) D;have c2:Tryz.prog.cellsOf 3=1:=by kernel_rfl
   have C:DataW.trod enc aB W 0 (fun _=>true) true c 3 ((cs.drop 2).take (Tryz.prog.cellsOf 3))=some k:=e 2 _ rfl;rw [c2] at C;obtain ⟨M,U,q2⟩:=(Dd (Cn aA)) c _ _ (show Rows.uptoBulk k.1<B by omega) (Bs (by omega)) C;have Z:Tryz.prog.cellsOf 3=1:=by kernel_rfl
   have A:DataW.trod enc aB W 0 (fun _=>true) true c 3 ((cs.drop 3).take (Tryz.prog.cellsOf 3))=some j:=e 3 _ rfl;rw [Z] at A;obtain ⟨L,T,q3⟩:=(Dd (Cn aA)) c _ _ (show Rows.uptoBulk j.1<B by omega) (Bs (by omega)) A;have Y:Tryz.prog.cellsOf 3=1:=by kernel_rfl
   have z:DataW.trod enc aB W 0 (fun _=>true) true c 3 ((cs.drop 4).take (Tryz.prog.cellsOf 3))=some i:=e 4 _ rfl;rw [Y] at z;obtain ⟨K,S,q4⟩:=(Dd (Cn aA)) c _ _ (show Rows.uptoBulk i.1<B by omega) (Bs (by omega)) z;have X:Tryz.prog.cellsOf 40=3:=by kernel_rfl
   have y:DataW.trod enc aB W 0 (fun _=>true) true c 40 ((cs.drop 5).take (Tryz.prog.cellsOf 40))=some g:=e 5 _ rfl;rw [X] at y;obtain ⟨J,R,q5⟩:=(Dd zmk) c _ _ (show Rows.uptoBulk g.1<B by omega) (Bs (by omega)) y;have h1:Bz W [AV.sl 8 (List.map idA (List.map Al s))] ((cs.drop 1).take 1):=by rw [Qw];exact h1
   have r:=(show Bz W _ (cs.drop 0) from (.cut V (.cut h1 (.cut U (.cut T (.cut S (.cut R (aT (by omega)))))))));obtain ⟨u,G,F,r3⟩:=zyh I;refine ⟨⟨N,s.map Al,M,L,K,J⟩,r,1+(u.map (·.1)).sum,by omega,.mk u _ F ?_⟩;show s.map Al=_;rw [<-G,map_map];rfl
theorem zsp (B:Nat):FQ enc W 105 11 (fun m:Gd=>(B0 m).cells) QG B:=fun n cs x S P h=>by
 obtain ⟨xs,c,_,D,_,e,g⟩:=DataW.trod_struct Tryz.underlying105 h
 match xs,e with
 |[k,j,i,f],_ =>
  have R:Rows.uptoBulk x.1=Rows.uptoBulk k.1+Rows.uptoBulk j.1+Rows.uptoBulk i.1+Rows.uptoBulk f.1+1:=by rw [D];simp only [Rows.uptoBulk,Rows.uptoBulkAll,aQ,bH]<;>omega
  have L:Tryz.prog.cellsOf 3=1:=by kernel_rfl
  have u:DataW.trod enc aB W 0 (fun _=>true) true c 3 ((cs.drop 0).take (Tryz.prog.cellsOf 3))=some k:=g 0 _ rfl;rw [L] at u;obtain ⟨C,G,O⟩:=(Dd (Cn aA)) c _ _ (show Rows.uptoBulk k.1<B by omega) (Bs (by omega)) u;have K:Tryz.prog.cellsOf 3=1:=by kernel_rfl
  have s:DataW.trod enc aB W 0 (fun _=>true) true c 3 ((cs.drop 1).take (Tryz.prog.cellsOf 3))=some j:=g 1 _ rfl;rw [K] at s;obtain ⟨A,h1,N⟩:=(Dd (Cn aA)) c _ _ (show Rows.uptoBulk j.1<B by omega) (Bs (by omega)) s;have J:Tryz.prog.cellsOf 3=1:=by kernel_rfl
  have q:DataW.trod enc aB W 0 (fun _=>true) true c 3 ((cs.drop 2).take (Tryz.prog.cellsOf 3))=some i:=g 2 _ rfl;rw [J] at q;obtain ⟨z,F,M⟩:=(Dd (Cn aA)) c _ _ (show Rows.uptoBulk i.1<B by omega) (Bs (by omega)) q;have I:Tryz.prog.cellsOf 42=8:=by kernel_rfl
  have o:DataW.trod enc aB W 0 (fun _=>true) true c 42 ((cs.drop 3).take (Tryz.prog.cellsOf 42))=some f:=g 3 _ rfl;rw [I] at o;obtain ⟨y,E,w⟩:=(Xw B) c _ _ (show Rows.uptoBulk f.1<B by omega) (Bs (by omega)) o;have r:=(show Bz W _ (cs.drop 0) from (.cut G (.cut h1 (.cut F (.cut E (aT (by omega)))))));exact ⟨⟨C,A,z,y⟩,r,_,(show Rows.uptoBulk f.1<_ by omega),w⟩
theorem zso (B:Nat):FQ enc W 34 1 (fun m:Stt=>(B6 m).cells) QS B:=fun n cs x y u h=>by
 obtain ⟨xs,f,_,k,_,c,o⟩:=DataW.trod_struct Tryz.underlying34 h
 match xs,c with
 |[e],_ =>
  have w:Rows.uptoBulk x.1=Rows.uptoBulk e.1+1:=by rw [k];simp only [Rows.uptoBulk,Rows.uptoBulkAll,aQ,bH]<;>omega
  have s:Tryz.prog.cellsOf 32=1:=by kernel_rfl
  have g:DataW.trod enc aB W 0 (fun _=>true) true f 32 ((cs.drop 0).take (Tryz.prog.cellsOf 32))=some e:=o 0 _ rfl;rw [s] at g;obtain ⟨j,q,i⟩:=(Hq (sz:=11) (a:=B0) Tryz.underlying32 (by kernel_rfl) (by omega) inferInstance (fun _=>rfl) (zsp B)) f _ _ (show Rows.uptoBulk e.1<B by omega) (Bs (by omega)) g;have r:=(show Bz W _ (cs.drop 0) from (.cut q (aT (by omega))));exact ⟨⟨j⟩,r,_,(show Rows.uptoBulk e.1<_ by omega),i⟩
theorem zsq:FO enc W 115 2 (fun m:Bm=>(Bl m).cells):=fun n cs x z h=>by
 obtain ⟨xs,e,_,y,_,c,f⟩:=DataW.trod_struct Tryz.underlying115 h
 match xs,c with
 |[k,j],_ =>
  have w:Tryz.prog.cellsOf 3=1:=by kernel_rfl
  have i:DataW.trod enc aB W 0 (fun _=>true) true e 3 ((cs.drop 0).take (Tryz.prog.cellsOf 3))=some k:=f 0 _ rfl;rw [w] at i;obtain ⟨q,s⟩:=(Cn aA) e _ _ (Bs (by omega)) i;have u:Tryz.prog.cellsOf 3=1:=by kernel_rfl
  have g:DataW.trod enc aB W 0 (fun _=>true) true e 3 ((cs.drop 1).take (Tryz.prog.cellsOf 3))=some j:=f 1 _ rfl;rw [u] at g;obtain ⟨o,h1⟩:=(Cn aA) e _ _ (Bs (by omega)) g;have r:=(show Bz W _ (cs.drop 0) from (.cut s (.cut h1 (aT (by omega)))));exact ⟨⟨q,o⟩,r⟩
theorem zw6 (B:Nat):FQ enc W 46 17 (fun m:Ed=>(Ax m).cells) QX B:=fun n cs x hb hl h=>by
 obtain ⟨xs,c,_,hx,_,f,e⟩:=DataW.trod_struct Tryz.underlying46 h
 match xs,f with
 |[y,w,u,s,q,o,k,j,i,g],_ =>
  have hk:Rows.uptoBulk x.1=Rows.uptoBulk y.1+Rows.uptoBulk w.1+Rows.uptoBulk u.1+Rows.uptoBulk s.1+Rows.uptoBulk q.1+Rows.uptoBulk o.1+Rows.uptoBulk k.1+Rows.uptoBulk j.1+Rows.uptoBulk i.1+Rows.uptoBulk g.1+1:=by rw [hx];simp only [Rows.uptoBulk,Rows.uptoBulkAll,aQ,bH]<;>omega
  have c0:Tryz.prog.cellsOf 3=1:=by kernel_rfl
  have M:DataW.trod enc aB W 0 (fun _=>true) true c 3 ((cs.drop 0).take (Tryz.prog.cellsOf 3))=some y:=e 0 _ rfl;rw [c0] at M;obtain ⟨m0,h0,q0⟩:=(Dd (Cn aA)) c _ _ (show Rows.uptoBulk y.1<B by omega) (Bs (by omega)) M;have c1:Tryz.prog.cellsOf 3=1:=by kernel_rfl
  have L:DataW.trod enc aB W 0 (fun _=>true) true c 3 ((cs.drop 1).take (Tryz.prog.cellsOf 3))=some w:=e 1 _ rfl;rw [c1] at L;obtain ⟨m1,h1,q1⟩:=(Dd (Cn aA)) c _ _ (show Rows.uptoBulk w.1<B by omega) (Bs (by omega)) L;have c2:Tryz.prog.cellsOf 3=1:=by kernel_rfl
  have K:DataW.trod enc aB W 0 (fun _=>true) true c 3 ((cs.drop 2).take (Tryz.prog.cellsOf 3))=some u:=e 2 _ rfl;rw [c2] at K;obtain ⟨m2,h2,q2⟩:=(Dd (Cn aA)) c _ _ (show Rows.uptoBulk u.1<B by omega) (Bs (by omega)) K;have c3:Tryz.prog.cellsOf 3=1:=by kernel_rfl
  have J:DataW.trod enc aB W 0 (fun _=>true) true c 3 ((cs.drop 3).take (Tryz.prog.cellsOf 3))=some s:=e 3 _ rfl;rw [c3] at J;obtain ⟨m3,h3,q3⟩:=(Dd (Cn aA)) c _ _ (show Rows.uptoBulk s.1<B by omega) (Bs (by omega)) J;have c4:Tryz.prog.cellsOf 42=8:=by kernel_rfl
  have I:DataW.trod enc aB W 0 (fun _=>true) true c 42 ((cs.drop 4).take (Tryz.prog.cellsOf 42))=some q:=e 4 _ rfl;rw [c4] at I;obtain ⟨Z,h4,T⟩:=(Xw B) c _ _ (show Rows.uptoBulk q.1<B by omega) (Bs (by omega)) I;have c5:Tryz.prog.cellsOf 43=1:=by kernel_rfl
  have G:DataW.trod enc aB W 0 (fun _=>true) true c 43 ((cs.drop 12).take (Tryz.prog.cellsOf 43))=some o:=e 5 _ rfl;rw [c5] at G;obtain ⟨Y,h5,S⟩:=(Hq (sz:=1) (a:=aI) aS (by kernel_rfl) (by omega) inferInstance (fun _=>rfl) (Dd (zw7 aA))) c _ _ (show Rows.uptoBulk o.1<B by omega) (Bs (by omega)) G;have c6:Tryz.prog.cellsOf 43=1:=by kernel_rfl
  have F:DataW.trod enc aB W 0 (fun _=>true) true c 43 ((cs.drop 13).take (Tryz.prog.cellsOf 43))=some k:=e 6 _ rfl;rw [c6] at F;obtain ⟨X,h6,R⟩:=(Hq (sz:=1) (a:=aI) aS (by kernel_rfl) (by omega) inferInstance (fun _=>rfl) (Dd (zw7 aA))) c _ _ (show Rows.uptoBulk k.1<B by omega) (Bs (by omega)) F;have c7:Tryz.prog.cellsOf 38=1:=by kernel_rfl
  have E:DataW.trod enc aB W 0 (fun _=>true) true c 38 ((cs.drop 14).take (Tryz.prog.cellsOf 38))=some j:=e 7 _ rfl;rw [c7] at E;obtain ⟨z,A,P⟩:=(Hq (sz:=8) (a:=Al) aZ (by kernel_rfl) (by omega) inferInstance (fun _=>rfl) (Xw B)) c _ _ (show Rows.uptoBulk j.1<B by omega) (Bs (by omega)) E;have c8:Tryz.prog.cellsOf 44=1:=by kernel_rfl
  have D:DataW.trod enc aB W 0 (fun _=>true) true c 44 ((cs.drop 15).take (Tryz.prog.cellsOf 44))=some i:=e 8 _ rfl;rw [c8] at D;obtain ⟨V,h8,O⟩:=(Hq (sz:=2) (a:=Bl) Tryz.underlying44 (by kernel_rfl) (by omega) inferInstance (fun _=>rfl) (Dd zsq)) c _ _ (show Rows.uptoBulk i.1<B by omega) (Bs (by omega)) D;have c9:Tryz.prog.cellsOf 43=1:=by kernel_rfl
  have C:DataW.trod enc aB W 0 (fun _=>true) true c 43 ((cs.drop 16).take (Tryz.prog.cellsOf 43))=some g:=e 9 _ rfl;rw [c9] at C;obtain ⟨U,h9,N⟩:=(Hq (sz:=1) (a:=aI) aS (by kernel_rfl) (by omega) inferInstance (fun _=>rfl) (Dd (zw7 aA))) c _ _ (show Rows.uptoBulk g.1<B by omega) (Bs (by omega)) C;have A:Bz W [AV.sl 8 (List.map idA (List.map Al z))] ((cs.drop 14).take 1):=by rw [Qw];exact A
  have r:=(show Bz W _ (cs.drop 0) from (.cut h0 (.cut h1 (.cut h2 (.cut h3 (.cut h4 (.cut h5 (.cut h6 (.cut A (.cut h8 (.cut h9 (aT (by omega)))))))))))));exact ⟨⟨m0,m1,m2,m3,Z,Y,X,z.map Al,V,U⟩,r,⟨_,(show Rows.uptoBulk q.1<_ by omega),T⟩,⟨_,(show Rows.uptoBulk o.1<_ by omega),S⟩,⟨_,(show Rows.uptoBulk k.1<_ by omega),R⟩,⟨_,(show Rows.uptoBulk j.1<_ by omega),z,rfl,P⟩,⟨_,(show Rows.uptoBulk i.1<_ by omega),O⟩,⟨_,(show Rows.uptoBulk g.1<_ by omega),N⟩⟩
theorem zya (B:Nat):FQ enc W 25 4 (fun m:Aut=>(C1 m).cells) QA B:=fun n cs x S P h=>by
 obtain ⟨xs,c,_,E,_,e,i⟩:=DataW.trod_struct bA h
 match xs,e with
 |[k,j,g,f],_ =>
  have R:Rows.uptoBulk x.1=Rows.uptoBulk k.1+Rows.uptoBulk j.1+Rows.uptoBulk g.1+Rows.uptoBulk f.1+1:=by rw [E];simp only [Rows.uptoBulk,Rows.uptoBulkAll,aQ,bH]<;>omega
  have M:Tryz.prog.cellsOf 3=1:=by kernel_rfl
  have u:DataW.trod enc aB W 0 (fun _=>true) true c 3 ((cs.drop 0).take (Tryz.prog.cellsOf 3))=some k:=i 0 _ rfl;rw [M] at u;obtain ⟨D,I,O⟩:=(Dd (Cn aA)) c _ _ (show Rows.uptoBulk k.1<B by omega) (Bs (by omega)) u;have L:Tryz.prog.cellsOf 3=1:=by kernel_rfl
  have s:DataW.trod enc aB W 0 (fun _=>true) true c 3 ((cs.drop 1).take (Tryz.prog.cellsOf 3))=some j:=i 1 _ rfl;rw [L] at s;obtain ⟨C,h1,N⟩:=(Dd (Cn aA)) c _ _ (show Rows.uptoBulk j.1<B by omega) (Bs (by omega)) s;have K:Tryz.prog.cellsOf 22=1:=by kernel_rfl
  have q:DataW.trod enc aB W 0 (fun _=>true) true c 22 ((cs.drop 2).take (Tryz.prog.cellsOf 22))=some g:=i 2 _ rfl;rw [K] at q;obtain ⟨A,G,y⟩:=(Hq (sz:=1) (a:=B6) Tryz.underlying22 (by kernel_rfl) (by omega) inferInstance (fun _=>rfl) (zso B)) c _ _ (show Rows.uptoBulk g.1<B by omega) (Bs (by omega)) q;have J:Tryz.prog.cellsOf 23=1:=by kernel_rfl
  have o:DataW.trod enc aB W 0 (fun _=>true) true c 23 ((cs.drop 3).take (Tryz.prog.cellsOf 23))=some f:=i 3 _ rfl;rw [J] at o;obtain ⟨z,F,w⟩:=(Hq (sz:=17) (a:=Ax) Tryz.underlying23 (by kernel_rfl) (by omega) inferInstance (fun _=>rfl) (zw6 B)) c _ _ (show Rows.uptoBulk f.1<B by omega) (Bs (by omega)) o;have r:=(show Bz W _ (cs.drop 0) from (.cut I (.cut h1 (.cut G (.cut F (aT (by omega)))))));exact ⟨⟨D,C,A,z⟩,r,⟨_,(show Rows.uptoBulk g.1<_ by omega),y⟩,⟨_,(show Rows.uptoBulk f.1<_ by omega),w⟩⟩
theorem zwy (c:Value.okWide aB W .any base 25 v)(h:DataW.Trod enc aB W 0 (fun _=>true) true 25 v d p)(e:Rows.uptoBulk d<=1048576):∃ m:Aut,Rep W (fun _=>True) G0 (C1 m) v/\WfA m:=by
 obtain ⟨m,r,q⟩:=zl7 (sz:=4) (a:=C1) bA (by kernel_rfl) (fun _=>⟨_,rfl⟩) (fun B=>zya B) c h;exact ⟨m,r,zx0 q e⟩
theorem zsr:FO enc W 59 5 (fun m:A7=>(A6 m).cells):=fun n cs x P h=>by
 obtain ⟨xs,c,_,O,_,e,f⟩:=DataW.trod_struct Tryz.underlying59 h
 match xs,e with
 |[y,w,u,s,q],_ =>
  have N:Tryz.prog.cellsOf 3=1:=by kernel_rfl
  have o:DataW.trod enc aB W 0 (fun _=>true) true c 3 ((cs.drop 0).take (Tryz.prog.cellsOf 3))=some y:=f 0 _ rfl;rw [N] at o;obtain ⟨D,I⟩:=(Cn aA) c _ _ (Bs (by omega)) o;have M:Tryz.prog.cellsOf 3=1:=by kernel_rfl
  have k:DataW.trod enc aB W 0 (fun _=>true) true c 3 ((cs.drop 1).take (Tryz.prog.cellsOf 3))=some w:=f 1 _ rfl;rw [M] at k;obtain ⟨C,h1⟩:=(Cn aA) c _ _ (Bs (by omega)) k;have L:Tryz.prog.cellsOf 3=1:=by kernel_rfl
  have j:DataW.trod enc aB W 0 (fun _=>true) true c 3 ((cs.drop 2).take (Tryz.prog.cellsOf 3))=some u:=f 2 _ rfl;rw [L] at j;obtain ⟨B,G⟩:=(Cn aA) c _ _ (Bs (by omega)) j;have K:Tryz.prog.cellsOf 3=1:=by kernel_rfl
  have i:DataW.trod enc aB W 0 (fun _=>true) true c 3 ((cs.drop 3).take (Tryz.prog.cellsOf 3))=some s:=f 3 _ rfl;rw [K] at i;obtain ⟨A,F⟩:=(Cn aA) c _ _ (Bs (by omega)) i;have J:Tryz.prog.cellsOf 57=1:=by kernel_rfl
  have g:DataW.trod enc aB W 0 (fun _=>true) true c 57 ((cs.drop 4).take (Tryz.prog.cellsOf 57))=some q:=f 4 _ rfl;rw [J] at g;obtain ⟨z,E⟩:=(zz7 (sz:=3) (a:=Aa) Tryz.underlying57 (by kernel_rfl) (by omega) inferInstance (fun _=>rfl) zmk) c _ _ (Bs (by omega)) g;have r:=(show Bz W _ (cs.drop 0) from (.cut I (.cut h1 (.cut G (.cut F (.cut E (aT (by omega))))))));exact ⟨⟨D,C,B,A,z⟩,r⟩
theorem zo3 (c:Value.okWide aB W .any base 26 v)(h:DataW.Trod enc aB W 0 (fun _=>true) true 26 v d p):∃ l:List A7,Rep W (fun _=>True) G0 (.sl 5 (l.map A6)) v :=
 zr3 Tryz.underlying26 (by kernel_rfl) (by omega) inferInstance (fun _=>rfl) zsr c h
end
variable {β:Type}
theorem Ut {i len:Nat}(h:i<=len)(k:Nat->Option β):nle (i:Int) len k=k i:=by unfold nle;simp [h]
theorem zu4 {a:Nat}(h:a<=b)(x:Option β):gle a b x=x:=by unfold gle;simp [h]
theorem zqp {lo:Nat}(h:lo<=l.length)(z:α)(k:List α->Option β):clr l lo z k=k (clrL l lo z):=by unfold clr;simp [h]
theorem zu7 (i:Nat)(x:Option β):frb i x=x:=by unfold frb;rfl
theorem za2 (l:List α)(lo:Nat)(z:α)(h:lo<=l.length):(clrL l lo z).take lo=l.take lo:=by
 unfold clrL;simp_all
theorem zeq (l:List α)(lo:Nat)(z:α)(h:lo<=l.length):(clrL l lo z).length=l.length:=by
 unfold clrL;simp;omega
theorem Yc (k:Nat)(h:1<=k)(c:k<=1000000000000):aH .i64 ((k:Int)-1)=((k-1:Nat):Int):=by rw [Cu _ (by omega)];omega
theorem zlt (n:Nat)(a b:Bt):P8 n a b=some (rCmp a b):=by
 unfold P8 rCmp or3 cmpI;simp only [A3,Af];grind
theorem zs9 (n:Nat)(a b:Bd):S5 n a b=some (Dr a b):=by
 unfold S5;rw [zlt,A1];simp only [A3,Af,Dr,or2];have e:rCmp ⟨a.fRef.fTime,a.fRef.fSource,a.fRef.fSeq⟩ ⟨b.fRef.fTime,b.fRef.fSource,b.fRef.fSeq⟩=rCmp a.fRef b.fRef:=rfl;rw [e];unfold cmpI;grind
theorem zlv (n:Nat)(b a:Ma)(g:b.fBindings.length<=1000000000)(e:a.fBindings.length<=1000000000)(K:Option Int)(f:K=if a.fBindings.length<b.fBindings.length then some (-1) else if b.fBindings.length<a.fBindings.length then some 1 else some 0):∀ (m k:Nat),k<=a.fBindings.length->k<=b.fBindings.length->a.fBindings.length<m+k ->
  I2 n b a K m k=some (lexC Dr (a.fBindings.drop k) (b.fBindings.drop k))
 |0,k,h1,_,i=>by omega
 |m+1,k,h1,j,i=>by
  unfold I2;simp only [B1,Ar,K3,aD,A3,Au,B3,Af];by_cases h:k<a.fBindings.length
  ·rw [if_pos (by omega)];by_cases c:k<b.fBindings.length
   ·rw [if_pos (by omega),Ab h,Ab c,Aw _ k h,Aw _ k c];rw [zs9,A1,Ad k (by omega),zlv n b a g e K f m (k+1) (by omega) (by omega) (by omega)];show _=some (or2 (Dr _ _) _);unfold or2;split<;>rfl
   ·rw [if_neg (by omega),f,if_neg (by omega),if_pos (by omega),Aw _ k h,aG (by omega:b.fBindings.length<=k)];rfl
  ·rw [if_neg (by omega),f,aG (by omega:a.fBindings.length<=k)];by_cases c:a.fBindings.length<b.fBindings.length
   ·rw [if_pos c,Aw _ k (by omega:k<b.fBindings.length)];rfl
   ·rw [if_neg c,if_neg (by omega),aG (by omega)];rfl
theorem Yk (n:Nat)(a b:Ma)(f:a.fBindings.length<n)(e:b.fBindings.length<=1000000000)(c:a.fBindings.length<=1000000000):Ie n a b=some (Az a b):=by
 unfold Ie;have:=zlv n b a e c _ rfl n 0 (by omega) (by omega) (by omega);simp only [aF,aK] at this;rw [show Az a b=lexC Dr a.fBindings b.fBindings from rfl,<-this];congr 1;simp only [aD,A3];simp_all
theorem zlw (n:Nat)(b a:Cf)(g:b.fStarts.length<=1000000000)(e:a.fStarts.length<=1000000000)(K:Option Int)(f:K=if a.fStarts.length<b.fStarts.length then some (-1) else if b.fStarts.length<a.fStarts.length then some 1 else some 0):∀ (m k:Nat),k<=a.fStarts.length->k<=b.fStarts.length->a.fStarts.length<m+k ->
  I0 n b a K m k=some (lexC Ex (a.fStarts.drop k) (b.fStarts.drop k))
 |0,k,h1,_,i=>by omega
 |m+1,k,h1,j,i=>by
  unfold I0;simp only [B1,Ar,K2,I1,aD,A3,Au,B3,Af];by_cases h:k<a.fStarts.length
  ·rw [if_pos (by omega)];by_cases c:k<b.fStarts.length
   ·rw [if_pos (by omega),Ab h,Ab c,Aw _ k h,Aw _ k c];rw [Ad k (by omega),zlw n b a g e K f m (k+1) (by omega) (by omega) (by omega)];show _=some (or2 (Ex _ _) _);unfold Ex or2 cmpI;generalize a.fStarts[k]=x;generalize b.fStarts[k]=y;simp only [Aq,Bool.and_true,bC,decide_eq_true_eq];grind
   ·rw [if_neg (by omega),f,if_neg (by omega),if_pos (by omega),Aw _ k h,aG (by omega:b.fStarts.length<=k)];rfl
  ·rw [if_neg (by omega),f,aG (by omega:a.fStarts.length<=k)];by_cases c:a.fStarts.length<b.fStarts.length
   ·rw [if_pos c,Aw _ k (by omega:k<b.fStarts.length)];rfl
   ·rw [if_neg c,if_neg (by omega),aG (by omega)];rfl
theorem zxl (n:Nat)(a b:Cf)(h:cfOk a=true)(g:cfOk b=true)(f:a.fBindings.length<n)(c:a.fStarts.length<n):Ob n a b=some (Ba a b):=by
 obtain ⟨m,k⟩:=(Fo a).1 h;obtain ⟨j,i⟩:=(Fo b).1 g;unfold Ob;rw [Yk n _ _ f j m,A1];have:=zlw n b a i k _ rfl n 0 (by omega) (by omega) (by omega);simp only [aF,aK] at this;simp only [aD,A3,Af];have e:(if (a.fStarts.length:Int)<(b.fStarts.length:Int) then some (-1:Int) else if (b.fStarts.length:Int)<(a.fStarts.length:Int) then some 1 else some 0)=(if a.fStarts.length<b.fStarts.length then some (-1) else if b.fStarts.length<a.fStarts.length then some 1 else some 0):=by
  simp_all
 rw [e,this];show _=some (or3 (cmpI a.fState b.fState) (Az ⟨a.fBindings⟩ ⟨b.fBindings⟩) _);unfold or3 cmpI;grind
theorem zxw (n:Nat)(a b:Cf)(e:cfOk a=true)(c:cfOk b=true)(j:1000000000<n):Pw n a b=some (decide (a=b)):=by
 unfold Pw;obtain ⟨i,h⟩:=(Fo a).1 e;obtain ⟨g,f⟩:=(Fo b).1 c;rw [zz8 n a b (by omega) (by omega) (by omega) g i f h];rw [A1];congr 1;exact decide_eq_decide.2 (Cq.zero a b)
theorem Zu (n:Nat)(E:1000000000<n)(l:List Cf)(o:∀ x∈l,cfOk x=true)(L:l.length<=1000000000)(c:Nat)(J:1<=c)(K:Int->List Cf->Option (List Cf))(r:Option (List Cf))
  (F:∀ (i:Nat) (f:List Cf),f.length=l.length->i<=l.length->f.take i=dd l->K (i:Int) f=r) :
  ∀ (m k j:Nat) (f:List Cf),1<=j->k<=c+j-1->c+j<=l.length->l.length<m+j+c->f.length=l.length->f.take k=dd (l.take (c+j))->f.drop (c+j-1)=l.drop (c+j-1)->Kv n c K m ((k:Int),(j:Int),f)=r
 |0,k,j,f,N,h1,D,M,C,B,G=>by omega
 |m+1,k,j,f,N,h1,D,M,C,B,G=>by
  unfold Kv;simp only [aD];rw [zu4 (by omega)];simp only [A3];by_cases h:c+j<l.length
  ·have O:∀ i (h1:c+j-1<=i) (D:i<l.length),∃ M:i<f.length,f[i]=l[i]:=fun i h1 D=>by
    refine ⟨by omega,?_⟩;have:=congrArg (fun q=>q[i-(c+j-1)]?) G;simp only [getElem?_drop,show c+j-1+(i-(c+j-1))=i by omega] at this;rw [aM (by omega),aM D] at this;exact Option.some.inj this
   obtain ⟨R,P⟩:=O (c+j) (by omega) h;obtain ⟨U,T⟩:=O (c+(j-1)) (by omega) (by omega);rw [if_pos (by omega),Da (by omega),Cv R,Yc j N (by omega),Da (by omega),Cv U,P,T];rw [zxw n _ _ (o _ (aE _)) (o _ (aE _)) E,A1,Af,A3,Ad j (by omega)];have u:l.take (c+(j+1))=l.take (c+j)++[l[c+j]]:=by rw [show c+(j+1)=(c+j)+1 by omega,aC h]
   have s:l.take (c+j)≠[]:=by
    intro e;have:=congrArg length e;rw [aL,aU] at this;omega
   have g:(l.take (c+j)).getLast s=l[c+(j-1)]:=by
    rw [aN];simp only [aR];congr 1;simp only [aL];omega
   have y:f.drop (c+(j+1)-1)=l.drop (c+(j+1)-1):=by
    have:=congrArg List.tail G;simp only [tail_drop] at this;rw [show c+(j+1)-1=c+j-1+1 by omega];exact this
   by_cases A:l[c+j]=l[c+(j-1)]
   ·rw [if_pos A];refine Zu n E l o L c J K r F m k (j+1) f (by omega) (by omega) (by omega) (by omega) C ?_ y;rw [u,Ji _ _ s,g,if_pos A,aY,B]
   ·rw [if_neg A,Da (by omega),Cv R,Da (by omega),Hn (by omega),Ad k (by omega)];have w:∀ z:Cf,(f.set k z).take (k+1)=f.take k++[z]:=fun z=>by
     have S:k<f.length:=by omega
     rw [aC (by simpa using S),bD,take_set_of_le (aW _)]
    have I:f[c+j]=l[c+j]:=P;refine Zu n E l o L c J K r F m (k+1) (j+1) _ (by omega) (by omega) (by omega) (by omega) (by simpa using C) ?_ ?_
    ·rw [w,u,Ji _ _ s,g,if_neg A,B];exact congrArg (fun q=>dd (l.take (c+j))++[q]) I
    ·rw [drop_set_of_lt (by omega)];exact y
  ·rw [if_neg (by omega)];refine F k f C (by omega) ?_;rw [B,aO (by omega)]
theorem zgv (n:Nat)(y:1000000000<n)(l:List Cf)(g:∀ x∈l,cfOk x=true)(B:l.length<=1000000000)(z:1<=l.length):∀ (m k:Nat),1<=k->k<=l.length->l.length<m+k->dd (l.take k)=l.take k->Oj n l (some l) m (k:Int)=some (dd l)
 |0,k,A,h1,D,_=>by omega
 |m+1,k,A,h1,D,w=>by
  unfold Oj;simp only [aD,A3];by_cases h:k<l.length
  ·rw [if_pos (by omega),Da h,Cv h,Yc k A (by omega),Da (by omega),Cv (by omega)];rw [zxw n _ _ (g _ (aE _)) (g _ (aE _)) y,A1,A3,Ad k (by omega)];have s:l.take (k+1)=l.take k++[l[k]]:=aC h;have q:l.take k≠[]:=by
    intro e;have:=congrArg length e;rw [aL,aU] at this;omega
   have f:(l.take k).getLast q=l[k-1]:=by
    rw [aN];simp only [aR];congr 1;simp only [aL];omega
   by_cases u:l[k]=l[k-1]
   ·rw [if_pos u,Ut (by omega)];have:=Zu n y l g B k A (fun k2_1_0y0 k2_1_0y1=>nle k2_1_0y0 k2_1_0y1.length fun o =>
     clr k2_1_0y1 o (⟨0,[],[]⟩:A4) fun j =>
     sls j 0 k2_1_0y0 fun c=>some c) (some (dd l)) (fun i r F hi C=>by
      show nle (i:Int) r.length (fun o=>clr r o (⟨0,[],[]⟩:A4) fun j=>sls j 0 (i:Int) fun c=>some c)=some (dd l);rw [Ut (by omega),zqp (by omega)];have:=Gm (l:=clrL r i (⟨0,[],[]⟩:A4)) (a:=0) (b:=i) (aP _) (by rw [zeq _ _ _ (by omega)];omega) (fun c=>some c);simp only [aF] at this;rw [this,aK,za2 _ _ _ (by omega),C]) n k 1 l (by omega) (by omega) (by omega) (by omega) rfl (by rw [s,Ji _ _ q,f,if_pos u,aY,w]) rfl
    have E:((1:Nat):Int)=1:=rfl;rw [E] at this;exact this
   ·rw [if_neg u];refine zgv n y l g B z m (k+1) (by omega) (by omega) (by omega) ?_;rw [s,Ji _ _ q,f,if_neg u,w]
  ·rw [if_neg (by omega)];rw [aO (by omega)] at w;rw [w]
theorem zxz (n:Nat)(e:1000000000<n)(l:List Cf)(c:∀ x∈l,cfOk x=true)(f:l.length<=1000000000):Sh n l=some (dd l):=by
 unfold Sh;simp only [aD,A3];by_cases h:l.length<2
 ·rw [if_pos (by omega)]
  match l,h with
  |[],_=>rfl
  |[x],_=>rfl
 ·rw [if_neg (by omega)];refine zgv n e l c f (by omega) n 1 (by omega) (by omega) (by omega) ?_
  match l,h with
  |[],h=>exact absurd (by simp) h
  |[x],h=>exact absurd (by simp) h
  |x::y::q,_=>rfl
theorem zv0 (n:Nat)(h:1000000000<n)(l:List Cf)(c:∀ x∈l,cfOk x=true)(f:l.length<=1000000000):Tw n l=some (setL Ba l):=by
 unfold Tw;rw [zlg Cq n l c f];simp only [za8,zu7,Ar];have e:=Mb Ba l;rw [zxz n h _ (fun x g=>c x (e.mem_iff.1 g)) (by rw [e.length_eq];exact f),D7,zqj Cq]
theorem zgj (n:Nat)(q:1000000000<n)(x:Cf)(o:cfOk x=true)(l:List Cf)(c:∀ x∈l,cfOk x=true)(s:l.length<=1000000)(K:Int->Option (List Cf))(r:Option (List Cf))
  (g:∀ i:Nat,i<=l.length->(∀ y∈l.take i,Ba y x<0)->(∀ h:i<l.length,¬Ba l[i] x<0)->K i=r):∀ (m k:Nat),k<=l.length->l.length<m+k->(∀ y∈l.take k,Ba y x<0)->Ik n x l K m (k:Int)=r
 |0,k,h1,u,_=>by omega
 |m+1,k,h1,u,j=>by
  unfold Ik;simp only [B1,Ar,Kx,aD,A3,B3];by_cases h:k<l.length
  ·rw [if_pos (by omega),Ab h,zxl n _ x (c _ (aE h)) o (by have:=(Fo _).1 (c _ (aE h));omega) (by have:=(Fo _).1 (c _ (aE h));omega),A1];by_cases f:Ba l[k] x<0
   ·rw [if_pos f,Ad k (by omega)];refine zgj n q x o l c s K r g m (k+1) (by omega) (by omega) (fun y e=>?_);rw [aC h,bI,aX] at e;rcases e with e|e
    ·exact j y e
    ·rw [e];exact f
   ·rw [if_neg f];exact g k h1 j (fun _=>f)
  ·rw [if_neg (by omega)];exact g k h1 j (fun w=>absurd w h)
theorem zmh (x:Cf):∀ (l:List Cf) (i:Nat),i<=l.length->(∀ y∈l.take i,Ba y x<0)->(∀ h:i<l.length,¬Ba l[i] x<0)->insU Ba x l=if ∃ h:i<l.length,Ba l[i] x=0 then l else l.take i++x::l.drop i
 |[],i,h1,_,_=>by
  have:i=0:=by simpa using h1
  subst this;simp [insU]
 |y::l,0,_,_,c=>by
  have:=c (by simp);simp only [bB] at this;unfold insU;rw [if_neg this];simp_all
 |y::l,i+1,h1,e,c=>by
  have g:=e y (by simp);unfold insU;rw [if_pos g,zmh x l i (by simpa using h1) (fun z f=>e z (by simp [f])) (fun h=>by simp_all)];by_cases q:∃ h:i<l.length,Ba l[i] x=0;all_goals simp_all
theorem zpg (n:Nat)(u:1000000000<n)(x:Cf)(o:cfOk x=true)(l:List Cf)(c:∀ x∈l,cfOk x=true)(w:l.length<=1000000):Lj n l x=some (insU Ba x l):=by
 unfold Lj;refine zgj n u x o l c w _ _ (fun i hi h1 y=>?_) n 0 (by omega) (by omega) (by simp);rw [zmh x l i hi h1 y];simp only [B1,Ar,Ky,aD,A3,B3];have m:∀ z:Cf,z=x->(sls l 0 (i:Int) fun k=>app ([]:List Cf) k 56 fun j=>app j [z] 56 fun g=>sls l (i:Int) ((l.length:Nat):Int) fun f=>app g f 56 fun e=>some e)=some (l.take i++x::l.drop i):=fun z s=>by
  subst s;have r:=Gm (l:=l) (a:=0) (b:=i) (aP _) hi (fun k=>app ([]:List Cf) k 56 fun j=>app j [z] 56 fun g=>sls l (i:Int) ((l.length:Nat):Int) fun f=>app g f 56 fun e=>some e);simp only [aF] at r;rw [r,aK,Bu (by simp;omega) (by omega),nil_append,Bu (by simp;omega) (by omega),Gm hi (aW _),Bu (by simp;omega) (by omega),take_length];simp
 by_cases h:i<l.length
 ·rw [if_pos (by omega),Ab h,zxl n _ x (c _ (aE h)) o (by have:=(Fo _).1 (c _ (aE h));omega) (by have:=(Fo _).1 (c _ (aE h));omega),A1];by_cases q:Ba l[i] x=0;all_goals simp_all
 grind
theorem zmf {x:Cf}(e:cfOk x=true){l:List Cf}(f:∀ y∈l,cfOk y=true):∀ y∈insU Ba x l,cfOk y=true:=fun y c=>by
 rcases (Un Cq x y l).1 c with h|h
 all_goals simp_all
theorem zrx {s l:List Cf}(e:∀ y∈s,cfOk y=true)(f:∀ y∈l,cfOk y=true):∀ y∈puts Ba s l,cfOk y=true:=fun y c=>by
 rcases (Qk Cq y l s).1 c with h|h
 ·exact e y h
 ·exact f y h
theorem zxv (n:Nat)(a b:Ma)(c:maOk a=true)(f:maOk b=true)(e:1000000000<n):Pv n a b=some (decide (a=b)):=by
 unfold Pv;rw [f_ma n _ _ (by have:=(Dy _).1 c;exact aJ this e) (by omega) ((Dy _).1 f) ((Dy _).1 c)];rw [A1];congr 1;exact decide_eq_decide.2 (Ci.zero a b)
theorem Zt (n:Nat)(E:1000000000<n)(l:List Ma)(o:∀ x∈l,maOk x=true)(L:l.length<=1000000000)(c:Nat)(J:1<=c)(K:Int->List Ma->Option (List Ma))(r:Option (List Ma))
  (F:∀ (i:Nat) (f:List Ma),f.length=l.length->i<=l.length->f.take i=dd l->K (i:Int) f=r) :
  ∀ (m k j:Nat) (f:List Ma),1<=j->k<=c+j-1->c+j<=l.length->l.length<m+j+c->f.length=l.length->f.take k=dd (l.take (c+j))->f.drop (c+j-1)=l.drop (c+j-1)->Jx n c K m ((k:Int),(j:Int),f)=r
 |0,k,j,f,N,h1,D,M,C,B,G=>by omega
 |m+1,k,j,f,N,h1,D,M,C,B,G=>by
  unfold Jx;simp only [aD];rw [zu4 (by omega)];simp only [A3];by_cases h:c+j<l.length
  ·have O:∀ i (h1:c+j-1<=i) (D:i<l.length),∃ M:i<f.length,f[i]=l[i]:=fun i h1 D=>by
    refine ⟨by omega,?_⟩;have:=congrArg (fun q=>q[i-(c+j-1)]?) G;simp only [getElem?_drop,show c+j-1+(i-(c+j-1))=i by omega] at this;rw [aM (by omega),aM D] at this;exact Option.some.inj this
   obtain ⟨R,P⟩:=O (c+j) (by omega) h;obtain ⟨U,T⟩:=O (c+(j-1)) (by omega) (by omega);rw [if_pos (by omega),Da (by omega),Cv R,Yc j N (by omega),Da (by omega),Cv U,P,T];rw [zxv n _ _ (o _ (aE _)) (o _ (aE _)) E,A1,Af,A3,Ad j (by omega)];have u:l.take (c+(j+1))=l.take (c+j)++[l[c+j]]:=by rw [show c+(j+1)=(c+j)+1 by omega,aC h]
   have s:l.take (c+j)≠[]:=by
    intro e;have:=congrArg length e;rw [aL,aU] at this;omega
   have g:(l.take (c+j)).getLast s=l[c+(j-1)]:=by
    rw [aN];simp only [aR];congr 1;simp only [aL];omega
   have y:f.drop (c+(j+1)-1)=l.drop (c+(j+1)-1):=by
    have:=congrArg List.tail G;simp only [tail_drop] at this;rw [show c+(j+1)-1=c+j-1+1 by omega];exact this
   by_cases A:l[c+j]=l[c+(j-1)]
   ·rw [if_pos A];refine Zt n E l o L c J K r F m k (j+1) f (by omega) (by omega) (by omega) (by omega) C ?_ y;rw [u,Ji _ _ s,g,if_pos A,aY,B]
   ·rw [if_neg A,Da (by omega),Cv R,Da (by omega),Hn (by omega),Ad k (by omega)];have w:∀ z:Ma,(f.set k z).take (k+1)=f.take k++[z]:=fun z=>by
     have S:k<f.length:=by omega
     rw [aC (by simpa using S),bD,take_set_of_le (aW _)]
    have I:f[c+j]=l[c+j]:=P;refine Zt n E l o L c J K r F m (k+1) (j+1) _ (by omega) (by omega) (by omega) (by omega) (by simpa using C) ?_ ?_
    ·rw [w,u,Ji _ _ s,g,if_neg A,B];exact congrArg (fun q=>dd (l.take (c+j))++[q]) I
    ·rw [drop_set_of_lt (by omega)];exact y
  ·rw [if_neg (by omega)];refine F k f C (by omega) ?_;rw [B,aO (by omega)]
theorem zgu (n:Nat)(y:1000000000<n)(l:List Ma)(g:∀ x∈l,maOk x=true)(B:l.length<=1000000000)(z:1<=l.length):∀ (m k:Nat),1<=k->k<=l.length->l.length<m+k->dd (l.take k)=l.take k->N5 n l (some l) m (k:Int)=some (dd l)
 |0,k,A,h1,D,_=>by omega
 |m+1,k,A,h1,D,w=>by
  unfold N5;simp only [aD,A3];by_cases h:k<l.length
  ·rw [if_pos (by omega),Da h,Cv h,Yc k A (by omega),Da (by omega),Cv (by omega)];rw [zxv n _ _ (g _ (aE _)) (g _ (aE _)) y,A1,A3,Ad k (by omega)];have s:l.take (k+1)=l.take k++[l[k]]:=aC h;have q:l.take k≠[]:=by
    intro e;have:=congrArg length e;rw [aL,aU] at this;omega
   have f:(l.take k).getLast q=l[k-1]:=by
    rw [aN];simp only [aR];congr 1;simp only [aL];omega
   by_cases u:l[k]=l[k-1]
   ·rw [if_pos u,Ut (by omega)];have:=Zt n y l g B k A (fun k2_1_0y0 k2_1_0y1=>nle k2_1_0y0 k2_1_0y1.length fun o =>
     clr k2_1_0y1 o (⟨[]⟩:A8) fun j =>
     sls j 0 k2_1_0y0 fun c=>some c) (some (dd l)) (fun i r F hi C=>by
      show nle (i:Int) r.length (fun o=>clr r o (⟨[]⟩:A8) fun j=>sls j 0 (i:Int) fun c=>some c)=some (dd l);rw [Ut (by omega),zqp (by omega)];have:=Gm (l:=clrL r i (⟨[]⟩:A8)) (a:=0) (b:=i) (aP _) (by rw [zeq _ _ _ (by omega)];omega) (fun c=>some c);simp only [aF] at this;rw [this,aK,za2 _ _ _ (by omega),C]) n k 1 l (by omega) (by omega) (by omega) (by omega) rfl (by rw [s,Ji _ _ q,f,if_pos u,aY,w]) rfl
    have E:((1:Nat):Int)=1:=rfl;rw [E] at this;exact this
   ·rw [if_neg u];refine zgu n y l g B z m (k+1) (by omega) (by omega) (by omega) ?_;rw [s,Ji _ _ q,f,if_neg u,w]
  ·rw [if_neg (by omega)];rw [aO (by omega)] at w;rw [w]
theorem zxy (n:Nat)(e:1000000000<n)(l:List Ma)(c:∀ x∈l,maOk x=true)(f:l.length<=1000000000):Ro n l=some (dd l):=by
 unfold Ro;simp only [aD,A3];by_cases h:l.length<2
 ·rw [if_pos (by omega)]
  match l,h with
  |[],_=>rfl
  |[x],_=>rfl
 ·rw [if_neg (by omega)];refine zgu n e l c f (by omega) n 1 (by omega) (by omega) (by omega) ?_
  match l,h with
  |[],h=>exact absurd (by simp) h
  |[x],h=>exact absurd (by simp) h
  |x::y::q,_=>rfl
theorem zp6 (n:Nat)(h:1000000000<n)(l:List Ma)(c:∀ x∈l,maOk x=true)(f:l.length<=1000000000):Lu n l=some (setL Az l):=by
 unfold Lu;rw [zlg Ci n l c f];simp only [za8,zu7,Ar];have e:=Mb Az l;rw [zxy n h _ (fun x g=>c x (e.mem_iff.1 g)) (by rw [e.length_eq];exact f),D7,zqj Ci]
theorem zgi (n:Nat)(q:1000000000<n)(x:Ma)(o:maOk x=true)(l:List Ma)(c:∀ x∈l,maOk x=true)(s:l.length<=1000000)(K:Int->Option (List Ma))(r:Option (List Ma))
  (g:∀ i:Nat,i<=l.length->(∀ y∈l.take i,Az y x<0)->(∀ h:i<l.length,¬Az l[i] x<0)->K i=r):∀ (m k:Nat),k<=l.length->l.length<m+k->(∀ y∈l.take k,Az y x<0)->Ip n x l K m (k:Int)=r
 |0,k,h1,u,_=>by omega
 |m+1,k,h1,u,j=>by
  unfold Ip;simp only [B1,Ar,L1,aD,A3,B3];by_cases h:k<l.length
  ·rw [if_pos (by omega),Ab h,Yk n _ _ (by have:=(Dy _).1 (c _ (aE h));exact aJ this q) ((Dy _).1 o) ((Dy _).1 (c _ (aE h))),A1];by_cases f:Az l[k] x<0
   ·rw [if_pos f,Ad k (by omega)];refine zgi n q x o l c s K r g m (k+1) (by omega) (by omega) (fun y e=>?_);rw [aC h,bI,aX] at e;rcases e with e|e
    ·exact j y e
    ·rw [e];exact f
   ·rw [if_neg f];exact g k h1 j (fun _=>f)
  ·rw [if_neg (by omega)];exact g k h1 j (fun w=>absurd w h)
theorem zmg (x:Ma):∀ (l:List Ma) (i:Nat),i<=l.length->(∀ y∈l.take i,Az y x<0)->(∀ h:i<l.length,¬Az l[i] x<0)->insU Az x l=if ∃ h:i<l.length,Az l[i] x=0 then l else l.take i++x::l.drop i
 |[],i,h1,_,_=>by
  have:i=0:=by simpa using h1
  subst this;simp [insU]
 |y::l,0,_,_,c=>by
  have:=c (by simp);simp only [bB] at this;unfold insU;rw [if_neg this];simp_all
 |y::l,i+1,h1,e,c=>by
  have g:=e y (by simp);unfold insU;rw [if_pos g,zmg x l i (by simpa using h1) (fun z f=>e z (by simp [f])) (fun h=>by simp_all)];by_cases q:∃ h:i<l.length,Az l[i] x=0;all_goals simp_all
theorem zpf (n:Nat)(r:1000000000<n)(x:Ma)(o:maOk x=true)(l:List Ma)(k:∀ x∈l,maOk x=true)(w:l.length<=1000000):Lm n l x=some (insU Az x l):=by
 unfold Lm;refine zgi n r x o l k w _ _ (fun i hi h1 y=>?_) n 0 (by omega) (by omega) (by simp);rw [zmg x l i hi h1 y];simp only [B1,Ar,L2,aD,A3,B3];have m:∀ z:Ma,z=x->(sls l 0 (i:Int) fun j=>app ([]:List Ma) j 24 fun g=>app g [z] 24 fun f=>sls l (i:Int) ((l.length:Nat):Int) fun e=>app f e 24 fun c=>some c)=some (l.take i++x::l.drop i):=fun z u=>by
  subst u;have s:=Gm (l:=l) (a:=0) (b:=i) (aP _) hi (fun j=>app ([]:List Ma) j 24 fun g=>app g [z] 24 fun f=>sls l (i:Int) ((l.length:Nat):Int) fun e=>app f e 24 fun c=>some c);simp only [aF] at s;rw [s,aK,Bu (by simp;omega) (by omega),nil_append,Bu (by simp;omega) (by omega),Gm hi (aW _),Bu (by simp;omega) (by omega),take_length];simp
 by_cases h:i<l.length
 ·rw [if_pos (by omega),Ab h,Yk n _ _ (by have:=(Dy _).1 (k _ (aE h));exact aJ this r) ((Dy _).1 o) ((Dy _).1 (k _ (aE h))),A1];by_cases q:Az l[i] x=0;all_goals simp_all
 grind
theorem zbv (n:Nat)(g:1000000000<n)(b a:List Ma)(f:∀ x∈a,maOk x=true)(i:∀ x∈b,maOk x=true)(j:a.length=b.length)(r:a.length<=1000000):∀ (m k:Nat),k<=a.length->a.length<m+k->Od n b a (some true) m (k:Int)=some (decide (a.drop k=b.drop k))
 |0,k,h1,o=>by omega
 |m+1,k,h1,o=>by
  unfold Od;simp only [aD,A3,Af];by_cases h:k<a.length
  ·rw [if_pos (by omega),Ab h,Ab (by omega:k<b.length),Yk n _ _ (by have:=(Dy _).1 (f _ (aE h));exact aJ this g) ((Dy _).1 (i _ (aE _))) ((Dy _).1 (f _ (aE h))),A1,Ad k (by omega)];have e:(a.drop k=b.drop k) ↔ (a[k]=b[k]'(by omega)/\a.drop (k+1)=b.drop (k+1)):=by
    rw [Aw a k h,Aw b k (by omega),List.cons.injEq]
   by_cases c:a[k]=b[k]'(by omega)
   ·rw [if_pos ((Ci.zero _ _).2 c),zbv n g b a f i j r m (k+1) (by omega) (by omega)];congr 1;exact decide_eq_decide.2 ⟨fun q=>e.2 ⟨c,q⟩,fun q=>(e.1 q).2⟩
   ·rw [if_neg (fun q=>c ((Ci.zero _ _).1 q)),decide_eq_false (fun q=>c (e.1 q).1)]
  ·rw [if_neg (by omega),aG (by omega),aG (by omega)];simp
theorem zv4 (n:Nat)(c:1000000000<n)(a b:List Ma)(g:∀ x∈a,maOk x=true)(f:∀ x∈b,maOk x=true)(i:a.length<=1000000):Pf n a b=some (decide (a=b)):=by
 unfold Pf;simp only [aD,A3,Af];by_cases h:a.length=b.length
 ·rw [if_pos (by omega)];have:=zbv n c b a g f h i n 0 (by omega) (by omega);simpa using this
 ·rw [if_neg (by omega)];have:a≠b:=fun e=>h (by rw [e])
  simp [this]
theorem zdp {x:Ma}(e:maOk x=true){l:List Ma}(f:∀ y∈l,maOk y=true):∀ y∈insU Az x l,maOk y=true:=fun y c=>by
 rcases (Un Ci x y l).1 c with h|h
 all_goals simp_all
theorem zlo {s l:List Ma}(e:∀ y∈s,maOk y=true)(f:∀ y∈l,maOk y=true):∀ y∈puts Az s l,maOk y=true:=fun y c=>by
 rcases (Qk Ci y l s).1 c with h|h
 ·exact e y h
 ·exact f y h
theorem zus {l:List Cf}(h:∀ x∈l,cfOk x=true):∀ x∈setL Ba l,cfOk x=true:=fun x c=>h x ((Cs Cq x l).1 c)
end Go.Proofs.YtkoamfnbbhfaiaaGreatDoor
