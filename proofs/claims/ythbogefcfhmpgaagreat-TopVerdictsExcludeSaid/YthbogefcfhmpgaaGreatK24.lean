/- Layer 57, plainly. -/
import Derived.Test.YthbogefcfhmpgaaGreatK23
import Derived.Test.YthbogefcfhmpgaaGreatRows
import Derived.ProofKit
import Derived.Lib.SmallJoins
import Derived.Deep.Slices
import Derived.Below
import Derived.OpenShut
import Derived.JoinedCond
set_option linter.unusedVariables false
set_option linter.unusedSimpArgs false
set_option maxRecDepth 100000
namespace Go.Proofs.YthbogefcfhmpgaaGreat
open Go.RowKit List
open _root_.Go.Proofs.Tryz renaming prog->aA,underlying3->aF,underlying4->aV,underlying57->bD,checked->bL
open List renaming drop_eq_getElem_cons->aB,getD_eq_getElem?_getD->aE,eq_nil_iff_forall_not_mem->aG,length_map->aH,length_cons->aK,getElem_mem->aL,getElem?_eq_getElem->aM,drop_zero->aN,all_eq_true->aO,drop_eq_nil_of_le->aP,any_eq_true->aS,length_drop->aT,mem_singleton->aU,take_append_drop->aW,mem_cons_of_mem->aX,mem_append_left->aY,mem_iff_getElem->aZ,mem_flatMap->bB,length_append->bC,mem_append_right->bE,length_take->bF,append_nil->bH,mem_filter->bI
open Nat renaming zero_le->aC,le_refl->bA,min_eq_left->bG
open Bool renaming and_eq_true->aD,not_true->bJ
open Option.some renaming inj->aJ
open Option renaming getD_some->aQ
open Int renaming natCast_zero->aR
variable {a:Aut}{l:List Ev}
theorem GS.of25 (g:WfA a)(h1:Ql N0 a l=some true)(D:G6 N0 a l=some 0):GS a l:=by
 obtain ⟨b,s,F⟩:=y09 a g l;rw [h1] at s;obtain rfl:=aJ s;obtain ⟨B,A,q,j,z⟩:=F rfl;have o:q=0:=by
  rw [D] at j;exact (aJ j).symm
 obtain ⟨p,n,x⟩:=ztr a g l (by omega);rw [j] at n;obtain rfl:=aJ n;rcases x with ⟨E,_⟩|⟨_,C,y,e,h,_⟩
 ·exact absurd o E
 obtain ⟨r,m,w,G⟩:=zwc N0 (by decide) a g;rw [e] at m;obtain rfl:=aJ m;exact ⟨g,B,C,e,w,h,A,z o⟩
theorem ztj (h:GS a l):Se N0 a l=some (msI a l l.length,0)/\(∀ d∈msI a l l.length,maOk d=true):=by
 have z:=h.len;obtain ⟨x,hm,b⟩:=h.begin l.length;rw [take_length] at hm b;have n:setL B6 ([]:List Ma)=[]:=rfl;have j:=h.sm;obtain ⟨cs,all,C,q,o,G,F,E,D⟩:=zvm (r:=⟨a,x⟩) h.cx hm h.so.st h.edges (by omega) (fun w s=>bndM 62 (Mg N0 s) fun g=>some (w,g,0)) N0 0 [cf0] [] (aC _) (by unfold N0;omega) (by simp) (by simp) (fun c A=>by rw [aU.1 A];exact cb0 h.ok) (by simp) (by rw [aN,n];exact j);rw [aN,n] at q;have m:wiP 150 a l l [cf0] []=(cs,setL B6 all,true):=q;have e:=y3i h l.length;rw [take_length,m] at e;injection e with _ e
 injection e with e _
 have y:Xe N0 a l=some (cs,setL B6 all,0):=by
  unfold Xe bndP;rw [b];simp only [Am,A4];have B:He N0=some cf0:=rfl;rw [if_pos trivial,B,A0];refine C.trans ?_;rw [y06 N0 (by decide) all o (by omega),Cn]
 unfold Se;rw [y,A0,<-e];exact ⟨rfl,zzm o⟩
def NM (a:Aut)(l:List Ev)(i:Nat):Prop:=∀ j,i<=j->(b:j<l.length)->maN a l (xsI a l j) l[j]=[]
theorem y01 {s m:List Ma}:puts B6 s m=[] ↔ s=[]/\m=[]:=by
 constructor
 ·intro h;have k:=fun z=>Ji Cl z m s
  rw [h] at k;exact ⟨aG.2 (fun z b=>by simp_all),aG.2 (fun z b=>by have:=(k z).2 (Or.inr b);simp at this)⟩
 ·rintro ⟨rfl,rfl⟩;rfl
theorem zwg (h:GS a l):msI a l l.length=[] ↔ NM a l 0:=by
 have key:∀ i,i<=l.length->(msI a l i=[] ↔ ∀ j,(b:j<l.length)->j<i->maN a l (xsI a l j) l[j]=[]):=by
  intro i
  induction i with
  |zero=>intro _;rw [(Ss a l).2];simp
  |succ i g =>
   intro hi;rw [(Jl h (by omega)).2.1,y01,g (by omega)];grind
 rw [key l.length (bA _)];exact ⟨fun e j _ b=>e j b b,fun e j b _=>e j (aC _) b⟩
noncomputable def tS (f:List Cf->List Cf)(a:Aut)(l:List Ev):List Ev->List Cf->List (List Cf) |[],_=>[] |e::r,cs=>f (cfN a l cs e)::tS f a l r (f (cfN a l cs e))
theorem Su (f:List Cf->List Cf)(a:Aut)(l:List Ev)(e:Ev)(r:List Ev)(cs:List Cf):tS f a l (e::r) cs=f (cfN a l cs e)::tS f a l r (f (cfN a l cs e)):=rfl
theorem T2 (f:List Cf->List Cf)(a:Aut)(l:List Ev):∀ (r:List Ev) (cs:List Cf),(tS f a l r cs).length=r.length
 |[],_=>rfl
 |e::r,cs=>by rw [Su,aK,aK,T2 f a l r]
structure Ch (a:Aut) (l:List Ev) (f:List Cf->List Cf):Prop where
 sub:∀ i cs,Sb a l i cs->Sb a l i (f cs)
 cov:∀ cs,∀ c∈cs,covd (Be a) (f cs) c=true
theorem zxa (a:Aut)(l:List Ev):Ch a l (redP (Be a)):=⟨fun i cs h=>h.red _,fun cs c b=>by
 obtain ⟨y,h1,e⟩:=y6y (Be a) b;exact aS.2 ⟨y,h1,e⟩⟩
theorem y1b {cs xs:List Ma}(h:∀ c∈cs,c∈xs)(e:xs=[]):cs=[]:=aG.2 (fun z b=>by simp_all)
variable {f:List Cf->List Cf}
theorem y2t (h:GS a l)(m:Ch a l f):∀ (n i:Nat) (cs:List Cf) (acc:List (List Cf)),i+n=l.length->Sb a l i cs->NM a l i->bS f a l (l.drop i) cs acc=(acc++tS f a l (l.drop i) cs,0)
 |0,i,cs,acc,h1,g,e=>by
  rw [aP (by omega)];show (acc,(0:Int))=(acc++[],0);rw [bH]
 |n+1,i,cs,acc,h1,g,e=>by
  have hi:i<l.length:=by omega
  rw [aB hi,y2u,Su,if_pos (y1b (zme g.sub _) (e i (bA _) hi)),y2t h m n (i+1) _ _ (by omega) (m.sub _ _ (g.next h hi)) (fun j o b=>e j (by omega) b)];simp
variable {S:List (List Cf)}
theorem zze (h:GS a l)(q:Ch a l f):∀ (n i:Nat) (cs:List Cf),i+n=l.length->Sb a l i cs->S.drop i=cs::tS f a l (l.drop i) cs->∀ j (g:j<S.length),i<=j->Sb a l j S[j]
 |0,i,cs,h1,r,b,j,g,m=>by
  have w:(S.drop i).length=1:=by rw [b,aK,T2,aT];omega
  rw [aT] at w;obtain rfl:j=i:=by omega
  rw [aB g] at b;grind
 |n+1,i,cs,h1,r,b,j,g,m=>by
  have hi:i<l.length:=by omega
  have o:i<S.length:=by
   have:(S.drop i).length=l.length-i+1:=by rw [b,aK,T2,aT]
   rw [aT] at this;omega
  rw [aB o] at b;obtain ⟨x,s⟩:=List.cons.inj b;by_cases e:j=i
  ·simp_all
  ·rw [aB hi,Su] at s;exact zze h q n (i+1) _ (by omega) (q.sub _ _ (r.next h hi)) s j g (by omega)
theorem y5s (h:GS a l)(m:Ch a l f)(x:S.length=l.length+1):∀ (n i:Nat) (cs:List Cf),i+n=l.length->Sb a l i cs->NM a l i->S.drop i=cs::tS f a l (l.drop i) cs->vOk a l S (l.drop i) i=true
 |0,i,cs,h1,r,o,q=>by rw [aP (by omega)];rfl
 |n+1,i,cs,h1,r,o,q=>by
  have hi:i<l.length:=by omega
  rw [aB (by omega:i<S.length)] at q;obtain ⟨B,e⟩:=List.cons.inj q;rw [aB hi,Su] at e;have w:=y5s h m x n (i+1) _ (by omega) (m.sub _ _ (r.next h hi)) (fun j C g=>o j (by omega) g) e;rw [aB (by omega:i+1<S.length)] at e;have A:=(List.cons.inj e).1;have z:S.getD i []=cs:=by rw [aE,aM (by omega),aQ,B]
  have y:S.getD (i+1) []=f (cfN a l cs l[i]):=by rw [aE,aM (by omega),aQ,A]
  rw [aB hi,zg3,w,Bool.and_true,z,aO];intro c D;have s:∀ d∈[c],d∈cs:=fun d b=>by simp_all
  unfold okC;rw [y,aD,isEmpty_iff,aO];exact ⟨y1b (zme (fun d b=>r.sub d (s d b)) _) (o i (bA _) hi),fun d b=>m.cov _ d (zxb s _ d b)⟩
noncomputable def refS (f:List Cf->List Cf)(a:Aut)(l:List Ev):List (List Cf):=[cf0]::tS f a l l [cf0]
theorem y9a (h:GS a l)(g:Ch a l f):Eu a l (refS f a l)/\(∀ i (hi:i<(refS f a l).length),Sb a l i (refS f a l)[i]):=by
 have e:(refS f a l).length=l.length+1:=by unfold refS;rw [aK,T2]
 have b:∀ i (hi:i<(refS f a l).length),Sb a l i (refS f a l)[i]:=fun i hi=>zze h g l.length 0 [cf0] (by omega) (sb0 a l) (by rw [aN,aN];rfl) i hi (aC _)
 exact ⟨⟨e,fun i hi=>by have:=(b i hi).len h (by omega);omega,fun i hi=>(b i hi).gd h (by omega)⟩,b⟩
theorem zzq (h:GS a l)(e:Ch a l f)(g:NM a l 0):F9 N0 a l ⟨refS f a l⟩=some 0:=by
 obtain ⟨h1,m⟩:=y9a h e;rw [zvh h h1 (y9u h h1 (fun i hi=>(m i hi).str))];have b:=y5s h e h1.ln l.length 0 [cf0] (by omega) (sb0 a l) g (by rw [aN,aN];rfl);rw [aN] at b;have j:covd (Be a) ((refS f a l).getD 0 []) cf0=true:=aS.2 ⟨cf0,aU.2 rfl,zms _ _⟩;rw [b,j];rfl
theorem y7i (h:GS a l):Ix N0 a=some (Be a):=by
 unfold Ix;rw [zkk h.wf h.ok (fun x b=>(h.wf.ed x b).lc),A0]
theorem zhm (h:GS a l):M9 N0 a l=some 0:=by
 have:=zqa h l.length;simp_all
theorem y4i (h:GS a l):R9 N0 a l=some (match msI a l l.length with|[]=>(2,⟨[]⟩,⟨refS (redP (Be a)) a l⟩,0)|m::_=>(1,m,⟨[]⟩,0)):=by
 unfold R9;rw [zhm h,A0,Am,A4,if_pos rfl,(ztj h).1,A0,Am,A4,if_pos rfl,A4,aH];cases hm:msI a l l.length with
 |nil =>
  have e:=(zwg h).1 hm;have b:=y2t h (zxa a l) l.length 0 [cf0] [[cf0]] (by omega) (sb0 a l) e;rw [aN] at b;rw [if_neg (by simp),y7i h,Cn,T9,T9,Ar,y77 h,b,A0];rfl
 |cons m r =>
  rw [if_pos (by simp),Nk]
theorem y6u (k:Nat):∀ x∈l.take k,x∈l:=fun x b=>mem_of_mem_take b
theorem yae (h:GS a l)(k:Nat)(p:List Ev)(b:∀ e∈p,e∈l.take k):wiP 150 a (l.take k) p [cf0] []=wiP 150 a l p [cf0] [] :=
 zv3 (h.cxp k) (z8c (h.pre k)).st h.so.st (y6u k) p 0 [cf0] [] b (fun c g=>by rw [aU.1 g];exact cb0 h.ok)
theorem y87 (h:GS a l)(k:Nat):GS a (l.take k) :=
 ⟨h.wf,h.few,h.ok,h.chk,h.acheck,h.pre k,by have:=h.len;rw [bF];omega,by rw [yae h k _ (fun e b=>b),y3i h k]⟩
variable {k i:Nat}
theorem y6p (h:GS a l)(b:i<=k):xsI a (l.take k) i=xsI a l i/\msI a (l.take k) i=msI a l i:=by
 have e:(l.take k).take i=l.take i:=by rw [take_take,bG b]
 unfold xsI msI;rw [e,yae h k _ (fun x g=>by grind)];exact ⟨rfl,rfl⟩
theorem y65 (h:GS a l)(b:NM a l 0):∀ i,i<=l.length->msI a l i=[]
 |0,_=>(Ss a l).2
 |i+1,hi=>by
  rw [(Jl h (by omega)).2.1,y65 h b i (by omega),b i (aC _) (by omega)];rfl
theorem y8q (h:GS a l)(g:i<=k){cs:List Cf}(m:∀ c∈cs,Gd57 a l i c)(e:Ev):cfN a (l.take k) cs e=cfN a l cs e:=by
 have h1:=Gd57.lk h m;have q:=y8s (z8c (h.pre k)).st (l:=l.take i) (more:=l.take k) (fun y n=>by rw [<-bG g,<-take_take] at n;exact mem_of_mem_take n) (fun c j=>(m c j).held h);exact zeg (fun c m b o=>by grind) e
theorem zzg (h:GS a l)(e:Ch a l f)(g:k<=l.length):∀ (n i:Nat) (cs:List Cf),i+n=k->Sb a l i cs->tS f a (l.take k) ((l.drop i).take n) cs=(tS f a l (l.drop i) cs).take n
 |0,i,cs,h1,b=>by rw [take_zero,take_zero];rfl
 |n+1,i,cs,h1,b=>by
  have hi:i<l.length:=by omega
  rw [aB hi,take_succ_cons,Su,Su,take_succ_cons,y8q h (by omega) (b.gd h (by omega)),zzg h e g n (i+1) _ (by omega) (e.sub _ _ (b.next h hi))]
theorem y3t (h:GS a l)(e:Ch a l f)(b:k<=l.length):refS f a (l.take k)=(refS f a l).take (k+1):=by
 unfold refS;have:=zzg h e b k 0 [cf0] (by omega) (sb0 a l);simp_all
theorem zf8 {t:Nat}{v:Int}:(mlk ((Be a).getD t []) v).getD false=true ↔ t<a.fStates.length/\Rd a t v:=by
 obtain ⟨h1,o⟩:=zgo a;rw [<-o];by_cases m:t<a.fStates.length
 ·obtain ⟨l,g,hm⟩:=h1.at m;rw [aE,g,aQ,ztw hm];exact ⟨fun h=>⟨l,g,h⟩,fun ⟨j,b,n⟩=>by simp_all⟩
 ·have e:(Be a)[t]? = none:=getElem?_eq_none (by rw [h1.len];omega);rw [aE,e];refine ⟨fun h=>?_,fun ⟨j,b,n⟩=>by rw [e] at b;cases b⟩;have:mlk ([]:Mp) v=none:=rfl;simp [this] at h
theorem y1x {held:List Ev}{m:Mp}{v:Int}(g:(mlk m v).getD false=true):∀ l:List Bd,ev1 held (rdB m l) v=ev1 held l v
 |[]=>rfl
 |b::l=>by
  have e:=y1x (held:=held) g l;unfold rdB ev1 at e ⊢;grind
theorem zzs (m:Mp)(l k:List Bd):rdB m (l++k)=rdB m l++rdB m k:=by unfold rdB;rw [filter_append]
theorem zzr {m b:Mp}(h:∀ v,(mlk b v).getD false=true->(mlk m v).getD false=true)(l:List Bd):rdB b (rdB m l)=rdB b l:=by
 unfold rdB;rw [filter_filter];grind
variable {held:List Ev}
theorem zzf {t:Nat}(j:t<a.fStates.length){l k:List Bd}(h:rdB ((Be a).getD t []) l=rdB ((Be a).getD t []) k)(n:l.length<=1000000)(o:k.length<=1000000){e:Exn}(g:WfE e)(m:∀ v,OccV v e->Rd a t v)(own:Int)(ev:Ev):trR (enH held l) e own ev=trR (enH held k) e own ev:=by
 refine y6t (fun i hi=>?_) (Jm n) (Jm o) g own ev;rw [Jk,Jk];split
 ·rename_i q;have b:=zf8.2 ⟨j,m (i:Int) ⟨i,by omega,rfl,hi⟩⟩;rw [<-y1x b l,<-y1x b k,h]
 ·rfl
theorem y27:∀ {a b c d:List Sta},cvL a b=true->cvL c d=true->cvL (a++c) (b++d)=true
 |[],[],_,_,_,h=>h
 |x::r,y::s,c,d,h1,e=>by
  unfold cvL at h1;rw [aD] at h1;rw [cons_append,cons_append];unfold cvL;rw [h1.1,y27 h1.2 e];rfl
 |[],_::_,_,_,h,_=>by cases h
 |_::_,[],_,_,h,_=>by cases h
theorem zqt {x y:Sta}(h:cvS x y=true):x.fScope=y.fScope/\y.fTime<=x.fTime:=by
 unfold cvS at h;simp_all
theorem X3 {p:Sta->Bool}(b:∀ x y:Sta,x.fScope=y.fScope->p x=p y):∀ {l m:List Sta},cvL l m=true->cvL (l.filter p) (m.filter p)=true
 |[],[],_=>rfl
 |x::r,y::s,h=>by
  unfold cvL at h;rw [aD] at h;rw [filter_cons,filter_cons,b x y (zqt h.1).1];split
  ·unfold cvL;rw [h.1,X3 b h.2];rfl
  ·exact X3 b h.2
 |[],_::_,h=>by cases h
 |_::_,[],h=>by cases h
theorem y8l {l m:List Sta}(h:cvL l m=true)(s t:Int):cvL (opS l s t) (opS m s t)=true:=by
 unfold opS;refine y27 (X3 (fun x y q=>by rw [q]) h) ?_;unfold cvL;rw [X3 (fun x y q=>by rw [q]) h];unfold cvS;simp
theorem y24 (t:Int):∀ (b:List Int) {l m:List Sta},cvL l m=true->cvL (opL l b t) (opL m b t)=true
 |[],_,_,h=>h
 |s::b,l,m,h=>y24 t b (y8l h s t)
def TmS (l:List Sta):Prop:=∀ s∈l,0<=s.fTime/\s.fTime<=1099511627776
theorem y26 (t:Int)(o:0<=t/\t<=1099511627776)(x:Lim):∀ {l m:List Sta},cvL l m=true->TmS l->TmS m->keP m t x=true->keP l t x=true
 |[],[],_,_,_,h=>h
 |y::r,z::s,h,h1,e,b=>by
  unfold cvL at h;rw [aD] at h;obtain ⟨g,w⟩:=zqt h.1;have n:=y26 t o x h.2 (fun k b=>h1 k (aX _ b)) (fun k b=>e k (aX _ b));have B:=h1 y (by simp);have A:=e z (by simp);unfold keP at b n ⊢;rw [find?_cons] at b ⊢;by_cases q:z.fScope=x.fScope
  ·have j:y.fScope=x.fScope:=g.trans q;rw [decide_eq_true q] at b;rw [decide_eq_true j];simp only [decide_eq_true_eq] at b ⊢;rw [Cq _ (by omega)] at b ⊢;omega
  simp_all
 |[],_::_,h,_,_,_=>by cases h
 |_::_,[],h,_,_,_=>by cases h
theorem y62 {l:List Sta}(h:TmS l){t:Int}(g:0<=t/\t<=1099511627776)(b:List Int):TmS (opL l b t):=fun s j=>by
 rcases opL_mem t b j with ⟨_,e⟩|e
 ·rw [e];exact g
 ·exact h s e
structure Cvd (a:Aut) (c d:Cf):Prop where
 cov:cov (Be a) c d=true
 st:0<=c.fState/\c.fState<a.fStates.length
 lc:c.fBindings.length<=900000
 ld:d.fBindings.length<=900000
 tc:TmS c.fStarts
 td:TmS d.fStarts
variable {c d:Cf}
theorem Cvd.out (h:Cvd a c d):c.fState=d.fState/\cvL c.fStarts d.fStarts=true/\rdB ((Be a).getD c.fState.toNat []) c.fBindings=rdB ((Be a).getD c.fState.toNat []) d.fBindings:=by
 have h1:=h.cov;unfold Go.Proofs.YthbogefcfhmpgaaGreat.cov rdC at h1;grind
variable {α:Type}
theorem zlq {p q:α->Bool}:∀ {l:List α},(∀ x∈l,p x=q x)->l.any p=l.any q
 |[],_=>rfl
 |x::l,h=>by grind
theorem zys {p q:α->Bool}:∀ {l:List α},(∀ x∈l,p x=q x)->l.all p=l.all q
 |[],_=>rfl
 |x::l,h=>by grind
theorem zzc (m:WfA a)(h:Cvd a c d)(held:List Ev)(e:Ev):∀ g∈Xh a c.fState,vio (enH held c.fBindings) e g=vio (enH held d.fBindings) e g:=fun g b=>by
 obtain ⟨h1,w,o⟩:=h.out;obtain ⟨j,s,r,q⟩:=Xa h.st;rw [q] at b;unfold vio;have:=h.st;rw [zzf (by omega) o (by have:=h.lc;omega) (by have:=h.ld;omega) ((m.st j r).2 g b) (fun v n=>.own _ _ (Or.inl ⟨j,s,g,b,n⟩))]
theorem y8p (C:WfA a)(Z:AOk a)(h:Cvd a c d){e:Ev}(z:Co e=true){x:Ed}(w:x∈a.fEdges)(Y:x.fFrom=c.fState){B:Cf}(A:coP a held d x e=some B):∃ G,coP a held c x e=some G/\G.fState=B.fState/\(0<=B.fState->cov (Be a) G B=true):=by
 obtain ⟨h1,V,K⟩:=h.out;have Q:=h.st;have T:=h.lc;have R:=h.ld;have j:0<=e.fTime/\e.fTime<=1099511627776:=by
  unfold Co at z;simp only [aD,decide_eq_true_eq] at z;exact ⟨z.1,z.2.1⟩
 have b:∀ y∈chE x++[x.fCond],∀ v,OccV v y->Rd a c.fState.toNat v:=fun y m v D=>.own _ _ (Or.inr ⟨x,w,by omega,y,m,D⟩)
 have s:rdB ((Be a).getD c.fState.toNat []) (bdN c x e)=rdB ((Be a).getD c.fState.toNat []) (bdN d x e):=by
  unfold bdN;rw [zzs,zzs,K]
 have lbc:(bdN c x e).length<=1000000:=by unfold bdN;simp;omega
 have lbd:(bdN d x e).length<=1000000:=by unfold bdN;simp;omega
 have o:cvL (stN c x e) (stN d x e)=true:=by unfold stN;exact y24 _ _ V
 have F:=zos (C.ed x w);have r:=zgn A;unfold coP at A;split at A;rotate_left
 ·cases A
 rename_i q;obtain ⟨P,O,N,I,M⟩:=q;refine ⟨⟨x.fTo,bdN c x e,(stN c x e).filter (ncl x)⟩,?_,by rw [r],?_⟩
 ·unfold coP;refine if_pos ⟨P,?_,?_,?_,?_⟩
  ·rw [<-O];unfold gdP;rw [<-h1];refine zlq (fun g U=>?_);rw [zzc C h held e g U]
  ·rw [<-N];exact zzf (by omega) K (by omega) (by omega) (C.ed x w).cond (b _ (by simp)) _ _
  ·rw [aO] at I ⊢;exact fun y m=>y26 _ j y o (y62 h.tc j _) (y62 h.td j _) (I y m)
  ·rw [<-M];unfold ckP;exact zys (fun y m=>zzf (by omega) s lbc lbd (F.2 y m) (b y (by simp [m])) _ _)
 ·rw [r];intro n;have n:0<=x.fTo:=n;unfold cov rdC;simp only [aD,decide_eq_true_eq,true_and];refine ⟨X3 (fun u v E=>by unfold ncl clP;rw [E]) o,?_⟩;have J:∀ v,(mlk ((Be a).getD x.fTo.toNat []) v).getD false=true->(mlk ((Be a).getD c.fState.toNat []) v).getD false=true:=fun v D=>by
   obtain ⟨X,L⟩:=zf8.1 D;exact zf8.2 ⟨by omega,.step x w _ x.fTo.toNat v (by omega) (by omega) L⟩
  rw [<-zzr J,s,zzr J]
theorem y4o (r:WfA a)(y:AOk a)(h:Cvd a c d){e:Ev}(w:Co e=true){g:Cf}(b:g∈outP a held d e):∃ o∈outP a held c e,o.fState=g.fState/\(0<=g.fState->cov (Be a) o g=true):=by
 obtain ⟨h1,D,C⟩:=h.out;unfold outP at b ⊢;rcases mem_append.1 b with b|b
 ·have n:skP a held c e=skP a held d e:=by
   unfold skP;rw [<-h1,zlq (zzc r h held e)]
  rw [<-n] at b;split at b
  ·rename_i q;rw [aU.1 b];exact ⟨c,aY _ (by rw [if_pos q];simp),h1,fun _=>h.cov⟩
  ·simp at b
 ·obtain ⟨x,s,b⟩:=mem_filterMap.1 b;obtain ⟨m,j⟩:=Xb s;obtain ⟨o,B,A,z⟩:=y8p r y h w m (by rw [h1];exact j) b;grind
theorem Gd57.cvd (h:GS a l)(hi:i<=12)(g:Gd57 a l i c)(j:Gd57 a l i d)(e:cov (Be a) c d=true):Cvd a c d :=
 ⟨e,g.cb.st,by have:=g.cb.lb;omega,by have:=j.cb.lb;omega,fun s b=>(g.ci.scp s b).2,fun s b=>(j.ci.scp s b).2⟩
theorem y5q (e:vOk a l S l 0=true):∀ i,i<=l.length->vOk a l S (l.drop i) i=true
 |0,_=>e
 |i+1,hi=>by
  have b:=y5q e i (by omega);rw [aB (by omega),zg3,aD] at b;exact b.2
theorem y03 (h:GS a l)(F:Eu a l S)(N:covd (Be a) (S.getD 0 []) cf0=true)(J:vOk a l S l 0=true):∀ i,(hi:i<=l.length)->(∀ d∈xsI a l i,covd (Be a) (S.getD i []) d=true)/\∀ (M:i<l.length),maN a l (xsI a l i) l[i]=[]:=by
 have K:=h.len;have B:∀ i,i<=l.length->∀ c∈S.getD i [],Gd57 a l i c:=fun i hi c g=>by
  have w:i<S.length:=by have:=F.ln;omega
  rw [aE,aM w,aQ] at g;exact F.gd i w c g
 have step:∀ i,(hi:i<l.length)->(∀ d∈xsI a l i,covd (Be a) (S.getD i []) d=true)->(∀ j∈xsI a l (i+1),covd (Be a) (S.getD (i+1) []) j=true)/\maN a l (xsI a l i) l[i]=[]:=fun i hi E=>by
  have s:=y5q J i (by omega);rw [aB hi,zg3,aD,aO] at s;have z:=h.so.pl _ (aL hi);have key:∀ d∈xsI a l i,∀ j∈outP a l d l[i],∃ c∈S.getD i [],∃ e∈outP a l c l[i],e.fState=j.fState/\(0<=j.fState->cov (Be a) e j=true):=fun d n j b=>by
   obtain ⟨c,g,C⟩:=aS.1 (E d n);obtain ⟨e,r,x,y⟩:=y4o h.wf h.ok ((B i (by omega) c g).cvd h (by omega) (y6q h (by omega) d n) C) z b;exact ⟨c,g,e,r,x,y⟩
  have A:∀ c∈S.getD i [],maN a l [c] l[i]=[]/\∀ e∈cfN a l [c] l[i],covd (Be a) (S.getD (i+1) []) e=true:=fun c g=>by
   have:=s.1 c g;unfold okC at this;simp_all
  refine ⟨fun j b=>?_,aG.2 (fun m hm=>?_)⟩
  ·rw [(Jl h hi).1] at b;unfold cfN at b;rw [Di cfCmp_to,bB] at b;obtain ⟨d,n,b⟩:=b;obtain ⟨q,o⟩:=zut b;obtain ⟨c,g,e,r,x,y⟩:=key d n j q;have D:e∈cfN a l [c] l[i]:=by
    unfold cfN;rw [Di cfCmp_to,bB];refine ⟨c,by simp,?_⟩;unfold cfO;refine bI.2 ⟨r,?_⟩;rw [x,decide_eq_false (by omega)];rfl
   obtain ⟨L,I,G⟩:=aS.1 ((A c g).2 e D);exact aS.2 ⟨L,I,Xd G (y o)⟩
  ·unfold maN at hm;rw [Di Cl,bB] at hm;obtain ⟨d,n,hm⟩:=hm;unfold maO at hm;obtain ⟨j,b,_⟩:=mem_map.1 hm;obtain ⟨q,o⟩:=bI.1 b;rw [decide_eq_true_eq] at o;obtain ⟨c,g,e,r,x,_⟩:=key d n j q;have:(⟨e.fBindings⟩:Ma)∈maN a l [c] l[i]:=by
    unfold maN;rw [Di Cl,bB];refine ⟨c,by simp,?_⟩;unfold maO;exact mem_map.2 ⟨e,bI.2 ⟨r,by simp_all⟩,rfl⟩
   simp_all
 have all:∀ i,i<=l.length->∀ d∈xsI a l i,covd (Be a) (S.getD i []) d=true:=by
  intro i
  induction i with
  |zero =>
   intro _ d n;rw [(Ss a l).1] at n;simp_all
  |succ i E=>grind
 simp_all
theorem y43 (h:GS a l)(g:Eu a l S)(m:covd (Be a) (S.getD 0 []) cf0=true)(b:vOk a l S l 0=true):msI a l l.length=[] :=
 (zwg h).2 (fun j _ e=>(y03 h g m b j (by omega)).2 e)
theorem zkd (r:B9)(c:Cf)(A:c.fStarts.length<=1000000):∀ (m k:Nat),k<=c.fStarts.length->c.fStarts.length<m+k->∃ v:Int,Ei N0 c r (some 0) m (k:Int)=some v/\(v=0->∀ j (g:j<c.fStarts.length),k<=j->((0<=c.fStarts[j].fScope/\c.fStarts[j].fScope<r.fa.fScopes)/\0<=c.fStarts[j].fTime/\c.fStarts[j].fTime<=1099511627776)/\(0<j->(c.fStarts[j-1]'(by omega)).fScope<c.fStarts[j].fScope))
 |0,k,h1,B=>by omega
 |m+1,k,h1,B=>by
  unfold Ei;simp only [aH,A4,B5,Ar,Fx,Ie,Au,Aw];by_cases h:k<c.fStarts.length
  ·obtain ⟨v,o,n⟩:=zkd r c A m (k+1) (by omega) (by omega);rw [if_pos (by omega),Ae h];by_cases z:c.fStarts[k].fScope<0
   ·rw [if_pos z];exact ⟨_,rfl,fun q=>absurd q (by decide)⟩
   rw [if_neg z];by_cases y:r.fa.fScopes<=c.fStarts[k].fScope
   ·rw [if_pos y];exact ⟨_,rfl,fun q=>absurd q (by decide)⟩
   rw [if_neg y];by_cases x:c.fStarts[k].fTime<0
   ·rw [if_pos x];exact ⟨_,rfl,fun q=>absurd q (by decide)⟩
   rw [if_neg x];by_cases w:1099511627776<c.fStarts[k].fTime
   ·rw [if_pos w];exact ⟨_,rfl,fun q=>absurd q (by decide)⟩
   rw [if_neg w,Ai k (by omega)];by_cases C:0<k
   ·rw [if_pos (by omega),Ju k (by omega) (by omega),Ae (by omega:k-1<c.fStarts.length)];by_cases s:c.fStarts[k].fScope<=c.fStarts[k-1].fScope
    ·rw [if_pos s];exact ⟨_,rfl,fun q=>absurd q (by decide)⟩
    rw [if_neg s];refine ⟨v,o,fun q j g b=>?_⟩;by_cases e:j=k
    ·subst e;exact ⟨⟨⟨by omega,by omega⟩,by omega,by omega⟩,fun _=>by omega⟩
    ·exact n q j g (by omega)
   ·rw [if_neg (by omega)];refine ⟨v,o,fun q j g b=>?_⟩;by_cases e:j=k
    ·subst e;exact ⟨⟨⟨by omega,by omega⟩,by omega,by omega⟩,fun h=>absurd h C⟩
    ·exact n q j g (by omega)
  ·rw [if_neg (by omega)];exact ⟨0,rfl,fun _ j g b=>by omega⟩
theorem zke (r:B9)(held:List Ev)(hm:HM held r.fheld)(c:Cf)(D:c.fBindings.length<=1000000)(K:Option Int)(b:Int)(x:K=some b):∀ (m k:Nat),k<=c.fBindings.length->c.fBindings.length<m+k->∃ v:Int,Fy N0 c r K m (k:Int)=some v/\(v=0->b=0/\∀ j (g:j<c.fBindings.length),k<=j->((0<=c.fBindings[j].fVar/\c.fBindings[j].fVar<r.fa.fVars)/\(lkH held c.fBindings[j].fRef).isSome=true)/\(0<j->rCmp (c.fBindings[j-1]'(by omega)).fRef c.fBindings[j].fRef<0))
 |0,k,h1,E=>by omega
 |m+1,k,h1,E=>by
  unfold Fy;simp only [aH,A4,B5,Ar,Ic,Ib,Au,Aw,Am];by_cases h:k<c.fBindings.length
  ·obtain ⟨v,w,s⟩:=zke r held hm c D K b x m (k+1) (by omega) (by omega);have I:(⟨c.fBindings[k].fRef.fTime,c.fBindings[k].fRef.fSource,c.fBindings[k].fRef.fSeq⟩:Rf)=c.fBindings[k].fRef:=rfl;rw [if_pos (by omega),Ae h,I,zwm,hm];by_cases A:c.fBindings[k].fVar<0
   ·rw [if_pos A];exact ⟨_,rfl,fun q=>absurd q (by decide)⟩
   rw [if_neg A];by_cases z:r.fa.fVars<=c.fBindings[k].fVar
   ·rw [if_pos z];exact ⟨_,rfl,fun q=>absurd q (by decide)⟩
   rw [if_neg z,Ai k (by omega)];have fin:(lkH held c.fBindings[k].fRef).isSome=true->(0<k->rCmp (c.fBindings[k-1]'(by omega)).fRef c.fBindings[k].fRef<0)->v=0->b=0/\∀ j (g:j<c.fBindings.length),k<=j->((0<=c.fBindings[j].fVar/\c.fBindings[j].fVar<r.fa.fVars)/\(lkH held c.fBindings[j].fRef).isSome=true)/\(0<j->rCmp (c.fBindings[j-1]'(by omega)).fRef c.fBindings[j].fRef<0):=fun C B q=>by
    refine ⟨(s q).1,fun j g o=>?_⟩;by_cases e:j=k
    ·subst e;exact ⟨⟨⟨by omega,by omega⟩,C⟩,B⟩
    ·exact (s q).2 j g (by omega)
   by_cases F:0<k
   ·have G:(⟨c.fBindings[k-1].fRef.fTime,c.fBindings[k-1].fRef.fSource,c.fBindings[k-1].fRef.fSeq⟩:Rf)=c.fBindings[k-1].fRef:=rfl;rw [if_pos (by omega),Ju k (by omega) (by omega),Ae (by omega:k-1<c.fBindings.length),G,y0g,A0];by_cases y:0<=rCmp c.fBindings[k-1].fRef c.fBindings[k].fRef
    ·rw [if_pos y];exact ⟨_,rfl,fun q=>absurd q (by decide)⟩
    rw [if_neg y];cases n:(lkH held c.fBindings[k].fRef).isSome
    ·rw [Aw];exact ⟨_,rfl,fun q=>absurd q (by decide)⟩
    ·rw [Au];exact ⟨v,w,fin n (fun _=>by omega)⟩
   ·rw [if_neg (by omega)];cases n:(lkH held c.fBindings[k].fRef).isSome
    ·rw [Aw];exact ⟨_,rfl,fun q=>absurd q (by decide)⟩
    ·rw [Au];exact ⟨v,w,fin n (fun h=>absurd h F)⟩
  ·rw [if_neg (by omega)];exact ⟨b,x,fun q=>⟨q,fun j g o=>by omega⟩⟩
theorem zfq {R:α->α->Prop}(tr:∀ x y z,R x y->R y z->R x z){l:List α}(h:∀ j (g:j<l.length),0<j->R (l[j-1]'(by omega)) l[j]):l.Pairwise R:=by
 rw [pairwise_iff_getElem];intro i j hi g m
 induction j with
 |zero=>omega
 |succ j ih =>
  have b:=h (j+1) g (by omega);simp only [Nat.add_sub_cancel] at b;by_cases e:i=j
  ·subst e;exact b
  ·exact tr _ _ _ (ih (by omega) (by omega)) b
theorem zy0 (h:GS a l){B:List (Rf×Ev)}(hm:HM (l.take i) B)(c:Cf)(Y:c.fBindings.length<=12)(X:c.fStarts.length<=12):∃ v:Int,F8 N0 ⟨a,B⟩ c=some v/\(v=0->Gd57 a l i c):=by
 unfold F8;simp only [B5,Ar,Iq,A4,Au,aH];by_cases M:c.fState<0
 ·rw [if_pos M];exact ⟨_,rfl,fun q=>absurd q (by decide)⟩
 rw [if_neg M];by_cases L:(a.fStates.length:Int)<=c.fState
 ·rw [if_pos L];exact ⟨_,rfl,fun q=>absurd q (by decide)⟩
 rw [if_neg L,if_neg (by omega)];obtain ⟨P,w1,N⟩:=zkd ⟨a,B⟩ c (by omega) N0 0 (aC _) (by unfold N0;omega);simp only [aR] at w1;obtain ⟨v,I,O⟩:=zke ⟨a,B⟩ (l.take i) hm c (by omega) _ P w1 N0 0 (aC _) (by unfold N0;omega);simp only [aR] at I;refine ⟨v,I,fun q=>?_⟩;obtain ⟨Q,K⟩:=O q;have J:=N Q;have r:=h.so.st;have w:∀ b∈c.fBindings,(0<=b.fVar/\b.fVar<a.fVars)/\∃ e∈l.take i,Bl e=b.fRef/\lkH l b.fRef=some e:=fun b g=>by
  obtain ⟨j,m,rfl⟩:=aZ.1 g;obtain ⟨⟨o,n⟩,_⟩:=K j m (aC _);refine ⟨o,?_⟩;obtain ⟨e,C⟩:=Option.isSome_iff_exists.1 n;obtain ⟨U,T⟩:=zmg C;exact ⟨e,T,U,by rw [<-aW i l,y1l,C];rfl⟩
 have A:c.fBindings.Pairwise (fun x y=>rCmp x.fRef y.fRef<0):=by
  refine zfq (R:=fun x y:Bd=>rCmp x.fRef y.fRef<0) ?_ ?_
  ·intro x y z h1 F;exact Nr.trans _ _ _ h1 F
  ·intro j m G;exact (K j m (aC _)).2 G
 have D:SS c.fStarts:=by
  unfold SS;refine zfq (R:=fun x y:Sta=>x.fScope<y.fScope) ?_ ?_
  ·intro x y z h1 F;exact Int.lt_trans h1 F
  ·intro j m G;exact (J j m (aC _)).2 G
 refine ⟨⟨⟨by omega,by omega⟩,fun b g=>?_,D,by omega,by omega⟩,A,fun b g e C=>?_,fun s E=>?_⟩
 ·obtain ⟨o,e,_,_,n⟩:=w b g;exact ⟨o,by rw [n];rfl⟩
 ·obtain ⟨_,V,o,n,_⟩:=w b g;rw [<-n];rw [<-aW i l] at r;exact (pairwise_append.1 r).2.2 V o e C
 ·obtain ⟨j,m,rfl⟩:=aZ.1 E;exact (J j m (aC _)).1
theorem zp8 (h:GS a l)(c:Cf)(m:c.fBindings.length<=12)(j:c.fStarts.length<=12):∃ v:Int,N6 N0 a (l.take i) c=some v/\(v=0->Gd57 a l i c):=by
 obtain ⟨n,hm,b⟩:=h.begin i;obtain ⟨v,g,e⟩:=zy0 h hm c m j;refine ⟨v,?_,e⟩;unfold N6 bndP;rw [b];simp only [Am,A4];rw [if_pos trivial,g,A0]
structure FewR (S:List (List Cf)):Prop where
 ln:S.length<=14
 st:∀ s∈S,s.length<=60/\∀ c∈s,c.fBindings.length<=12/\c.fStarts.length<=12
theorem q_form_l2 (h:GS a l)(r:FewR S)(g:i<S.length)(y:i<=l.length)(K:Option Int):∀ (m k:Nat),k<=S[i].length->S[i].length<m+k->(∃ f:Int,f≠0/\Dn N0 ⟨S⟩ l a (i:Int) S[i] K m (k:Int)=some f)\/(Dn N0 ⟨S⟩ l a (i:Int) S[i] K m (k:Int)=K/\∀ j (n:j<S[i].length),k<=j->Gd57 a l i S[i][j])
 |0,k,h1,L=>by omega
 |m+1,k,h1,L=>by
  have P:=(r.st _ (aL g)).1;have I:=h.len;have G:=r.ln;unfold Dn;simp only [aH,A4,Am,B5,Ar,J2];by_cases A:k<S[i].length
  ·have B:=(r.st _ (aL g)).2 _ (aL A);have w:∀ (K:List Ev->Option Int),sls l 0 (i:Int) K=K (l.take i):=fun K=>by
    have:=Dk (l:=l) (a:=0) (b:=i) (aC _) (by omega) K;simpa using this
   obtain ⟨v,D,C⟩:=zp8 h (i:=i) S[i][k] B.1 B.2;rw [if_pos (by omega),Ae A,w,D,A0];by_cases s:v=0;rotate_left
   ·rw [if_neg s];exact Or.inl ⟨v,s,rfl⟩
   rw [if_pos s,Ai k (by omega)];have fin:((∃ f:Int,f≠0/\Dn N0 ⟨S⟩ l a (i:Int) S[i] K m ((k+1:Nat):Int)=some f)\/(Dn N0 ⟨S⟩ l a (i:Int) S[i] K m ((k+1:Nat):Int)=K/\∀ j (n:j<S[i].length),k+1<=j->Gd57 a l i S[i][j]))->((∃ f:Int,f≠0/\Dn N0 ⟨S⟩ l a (i:Int) S[i] K m ((k+1:Nat):Int)=some f)\/(Dn N0 ⟨S⟩ l a (i:Int) S[i] K m ((k+1:Nat):Int)=K/\∀ j (n:j<S[i].length),k<=j->Gd57 a l i S[i][j])):=fun q=>q.imp id (fun ⟨F,E⟩=>⟨F,fun j n x=>by
    by_cases e:j=k
    ·subst e;exact C s
    ·exact E j n (by omega)⟩)
   have z:=fin (q_form_l2 h r g y K m (k+1) (by omega) (by omega));by_cases M:k=0
   ·subst M;rw [if_neg (by simp),Aw];exact z
   ·obtain ⟨j,rfl⟩:∃ j,k=j+1:=⟨k-1,by omega⟩;have n:j<S[i].length:=by omega
    have J:=(r.st _ (aL g)).2 _ (aL n);have N:IntKind.wrap .i64 (((j+1:Nat):Int)-1)=(j:Int):=by rw [Cq _ (by omega)];omega
    obtain ⟨v',w1,O⟩:=y0z S[i][j] S[i][j+1] (by omega) (by omega) (by omega) (by omega);rw [if_pos (by omega),N,Ae n,w1,A0];by_cases o:0<=v'
    ·rw [if_pos o];exact Or.inl ⟨14,by decide,rfl⟩
    ·rw [if_neg o];exact z
  ·rw [if_neg (by omega)];exact Or.inr ⟨rfl,fun j n x=>by omega⟩
theorem zp9 (h:GS a l)(n:FewR S)(b:S.length=l.length+1):∀ (m i:Nat),i<=S.length->S.length<m+i->∃ f:Int,J1 N0 ⟨S⟩ l a (some 0) m (i:Int)=some f/\(f=0->∀ j (o:j<S.length),i<=j->∀ c∈S[j],Gd57 a l j c)
 |0,i,h1,B=>by omega
 |m+1,i,h1,B=>by
  have z:=h.len;have y:=n.ln;unfold J1;simp only [aH,A4];by_cases hi:i<S.length
  ·have E:=(n.st _ (aL hi)).1;obtain ⟨f,D,C⟩:=zp9 h n b m (i+1) (by omega) (by omega);rw [if_pos (by omega),Ae hi,if_neg (by omega),Ai i (by omega),D];rcases q_form_l2 h n hi (by omega) (some f) N0 0 (aC _) (by unfold N0;omega) with ⟨g,w,s⟩|⟨w,s⟩
   ·exact ⟨g,s,fun q=>absurd q w⟩
   ·refine ⟨f,w,fun q j o r c x=>?_⟩;by_cases e:j=i
    ·subst e;obtain ⟨k,A,rfl⟩:=aZ.1 x;exact s k A (aC _)
    ·exact C q j o (by omega) c x
  ·rw [if_neg (by omega)];exact ⟨0,rfl,fun _ j o r=>by omega⟩
theorem y9j (h:GS a l)(b:FewR S):∃ f:Int,J7 N0 a l ⟨S⟩=some f/\(f=0->Eu a l S):=by
 have j:=h.len;have g:=b.ln;unfold J7;simp only [aH,A4,Am];rw [Ai l.length (by omega)];by_cases e:S.length=l.length+1
 ·rw [if_pos (by omega)];obtain ⟨f,n,m⟩:=zp9 h b e N0 0 (aC _) (by unfold N0;omega);exact ⟨f,n,fun q=>⟨e,fun i hi=>by have:=(b.st _ (aL hi)).1;omega,fun i hi=>m q i hi (aC _)⟩⟩
 ·rw [if_neg (by omega)];exact ⟨_,rfl,fun q=>absurd q (by decide)⟩
theorem y40 (h:GS a l)(j:FewR S):∃ v:Int,F9 N0 a l ⟨S⟩=some v/\(v=0->msI a l l.length=[]):=by
 obtain ⟨f,g,m⟩:=y9j h j;by_cases b:f=0
 ·have ok:=m b;rw [b] at g;rw [zvh h ok g];refine ⟨_,rfl,fun q=>?_⟩;by_cases e:(covd (Be a) (S.getD 0 []) cf0 && vOk a l S l 0)=true
  ·rw [aD] at e;exact y43 h ok e.1 e.2
  ·rw [if_neg e] at q;cases q
 ·refine ⟨f,?_,fun q=>absurd q b⟩;unfold F9;rw [zhm h,A0,Am,A4,if_pos rfl,g,A0,Am,A4,if_neg b]
theorem ztf:Tz 2000000000=some true:=by kernel_rfl
theorem zyp {q:Int}(h:G6 N0 a l=some q):∃ c:Int,Fz N0 a=some c/\(c=0->Iv N0 l=some q):=by
 unfold G6 at h;cases b:Fz N0 a with
 |none=>rw [b] at h;exact absurd h (by unfold bnd;simp)
 |some c =>
  refine ⟨c,rfl,fun g=>?_⟩;subst g;rw [b,A0] at h;simp only [Am,A4] at h;simp at h;cases e:Iv N0 l with
  |none=>rw [e] at h;first|(cases h;done)|(exact absurd h (by unfold bnd;simp))
  |some s=>rw [e] at h;first|exact h|(rw [A0] at h;exact h)
theorem y0w (S:List (List Cf))(b:S.length<=1000)(K:Option Bool):∀ (m k:Nat),k<=S.length->S.length<m+k->O7 N0 ⟨S⟩ l a K m (k:Int)=if ∀ s∈S.drop k,s.length<=60/\∀ c∈s,Jo c=true then K else some true
 |0,k,h1,e=>by omega
 |m+1,k,h1,e=>by
  unfold O7;simp only [aH,A4,Am];by_cases h:k<S.length
  ·rw [if_pos (by omega),Ae h,ybm N0 (by decide),A0,Ai k (by omega),y0w S b K m (k+1) (by omega) (by omega),aB h];simp only [forall_mem_cons];by_cases q:S[k].length<=60/\∀ x∈S[k],Jo x=true
   ·rw [decide_eq_true q,Au];simp_all
   ·rw [decide_eq_false q,Aw];first|exact (if_neg (fun h=>q h.1)).symm|rw [if_neg (fun h=>q h.1)]
  ·rw [if_neg (by omega),aP (by omega)];simp
theorem y0v (h:GS a l)(r:NM a l 0)(u:Int)(q:Ma)(v:Int)(K:Option Bool):∀ (m k:Nat),k<=l.length->l.length<m+k->O6 N0 l a (u,q,⟨refS (redP (Be a)) a l⟩,v) K m (k:Int)=K
 |0,k,h1,z=>by omega
 |m+1,k,h1,z=>by
  have y:=h.len;unfold O6;simp only [aH,A4];by_cases A:k<l.length
  ·have s:(refS (redP (Be a)) a l).length=l.length+1:=by unfold refS;rw [aK,T2]
   have w:=y87 h k;have o:(l.take k).length=k:=by rw [bF];omega
   have n:msI a (l.take k) (l.take k).length=[]:=by rw [o,(y6p h (bA k)).2];exact y65 h r k (by omega)
   have j:=(zwg w).1 n;have x:=y3t h (zxa a l) (k:=k) (by omega);have e:∀ (K:List Ev->Option Bool),sls l 0 (k:Int) K=K (l.take k):=fun K=>by
    have:=Dk (l:=l) (a:=0) (b:=k) (aC _) (by omega) K;simpa using this
   have g:∀ (K:List (List Cf)->Option Bool),sls (refS (redP (Be a)) a l) 0 ((k+1:Nat):Int) K=K (refS (redP (Be a)) a (l.take k)):=fun K=>by
    have:=Dk (l:=refS (redP (Be a)) a l) (a:=0) (b:=k+1) (aC _) (by omega) K;rw [x];simpa using this
   rw [if_pos (by omega),e,Ai k (by omega),g,zzq w (zxa a (l.take k)) j,A0,y0v h r u q v K m (k+1) (by omega) (by omega)];simp [Aw]
  ·rw [if_neg (by omega)]
theorem zj7 (a:Aut)(D:WfA a)(l:List Ev)(r:Cd):Xw N0 a l r=some true:=by
 have B:Tz N0=some true:=ztf;obtain ⟨S⟩:=r;have skip:F4 N0 ⟨S⟩ l a true=some true:=by
  unfold F4;rw [Au]
 obtain ⟨b,G,X⟩:=y09 a D l;unfold Xw;simp only [B5,Ar];rw [B,A0,G,A0];simp only [bJ,Aw];cases b with
 |false=>simp only [Bool.not_false,Au,skip]
 |true =>
  obtain ⟨Z,Y,q,F,z⟩:=X rfl;obtain ⟨c,V,U⟩:=zyp F;simp only [bJ,Aw];rw [V,A0];simp only [Am,A4];by_cases y:c=0
  ·rw [if_pos y,U y,A0];by_cases A:q=0
   ·rw [if_pos A];have h:=GS.of25 D G (by rw [F,A]);have N:=h.len;unfold F4;simp only [aH];by_cases Q:12<S.length
    ·rw [decide_eq_true (by omega),Au]
    ·rw [decide_eq_false (by omega),Aw];have w:=fun K=>y0w (a:=a) (l:=l) S (by omega) K N0 0 (aC _) (by unfold N0;omega)
     simp only [aR,aN] at w;rw [w];by_cases g:∀ s∈S,s.length<=60/\∀ c∈s,Jo c=true
     ·rw [if_pos g];have P:FewR S:=⟨by omega,fun s z=>⟨(g s z).1,fun c y=>by
       have:=(g s z).2 c y;unfold Jo at this;rw [aD,decide_eq_true_eq,decide_eq_true_eq] at this;exact this⟩⟩
      obtain ⟨v,J,I⟩:=y40 h P;rw [(ztj h).1,A0,y4i h,A0];have j:=(ztj h).2;simp only [B5,Ar,Jz,Jy,Hr,Hq,J,A0,Am,A4,aH];cases hm:msI a l l.length with
      |cons m r =>
       have M:v≠0:=fun e=>by rw [I e] at hm;cases hm
       rw [hm] at j;have C:=j m (by simp);have x:Gt N0 m m=some 0:=by
        have L:B6 m m=0:=(Cl.zero m m).2 rfl;have O:=(Ec m).1 C;rw [y49 N0 m m (by unfold N0;omega) (by omega) (by omega),L]
       have T:(⟨m.fBindings⟩:Ma)=m:=rfl;simp [M,Nk,T,x,A0,Au,Aw]
      |nil =>
       have E:=(zwg h).1 hm;have n:(refS (redP (Be a)) a l).length=l.length+1:=by unfold refS;rw [aK,T2]
       have o:=fun K=>y0v h E 2 ⟨[]⟩ 0 K N0 0 (aC _) (by unfold N0;omega)
       simp only [aR] at o;have R:IntKind.wrap .i64 ((l.length:Int)+1)=((l.length+1:Nat):Int):=Ai _ (by omega);simp [n,R,zzq h (zxa a l) E,o,A0,Au,Aw]
     ·rw [if_neg g]
   ·rw [if_neg A,skip]
  ·rw [if_neg y,skip]
open Go.ChangeShapes Go.WideShapes Go.ChangeAt
theorem zyq {w:World}{S:Nat->Prop}{a b c:AV}{x y z:Value}(j:Rep w S G0 a x)(h:Rep w S G0 b y)(g:Rep w S G0 c z):Args w S [a,b,c] #[x,y,z] :=
 ⟨rfl,fun i hi=>by
  have e:i<3:=hi;rcases i with _|_|_|i
  ·exact j
  ·exact h
  ·exact g
  ·omega⟩
theorem y4n:ownKnob Tryz.prog.godebug=none:=by kernel_rfl
theorem y4t:laidOutB aA=true:=by kernel_rfl
section
variable {H:Type} {enc:TypeId×Value->H}
theorem zdn {W W':World}{sp':Nat->Bool}(s:Below W.heap.size W W')(e:List TypeId):∀ (vs:List Value) (ds:List (DataW H)) (p:List MemPlace),e.all (fun t=>Tryz.prog.readableRec t && decide (t<Tryz.prog.types.size))=true ->
  DataW.TrodAll enc aA W 0 (fun _=>true) true e vs ds p->(∀ x∈p,x.block<W.heap.size)->(∀ x∈p,sp' x.block=true)->DataW.TrodAll enc aA W' 0 sp' true e vs ds p:=by
 induction e with
 |nil =>
  intro vs ds p _ h _ _
  match vs,ds,h with
  |[],[],h=>exact h
  |_::_,_,h=>exact h.elim
  |[],_::_,h=>exact h.elim
 |cons t e ih =>
  intro vs ds p o h j n
  match vs,ds,h with
  |v::vs,d::ds,h =>
   obtain ⟨q,r,h1,w,rfl⟩:=h;have g:Tryz.prog.readableRec t=true/\t<Tryz.prog.types.size:=by
    have:=aO.mp o t (mem_cons_self ..);rw [aD,decide_eq_true_eq] at this;exact this
   have m:e.all (fun t=>Tryz.prog.readableRec t && decide (t<Tryz.prog.types.size))=true :=
    aO.mpr fun x b=>aO.mp o x (aX _ b)
   exact ⟨q,r,WideElems.Trod_stays y4t g.1 g.2 h1 (fun x b=>s.same (j x (aY _ b))) (fun x b=>n x (aY _ b)),
    ih vs ds r m w (fun x b=>j x (bE _ b)) (fun x b=>n x (bE _ b)),rfl⟩
  |[],_,h=>exact h.elim
  |_::_,[],h=>exact h.elim
theorem zsv {W:World}{b:Nat}{sp:Nat->Bool}(e:List TypeId):∀ (vs:List Value) (ds:List (DataW H)) (p:List MemPlace),DataW.TrodAll enc aA W b sp true e vs ds p->ds.length=e.length:=by
 induction e with
 |nil =>
  intro vs ds p h
  match vs,ds,h with
  |[],[],h=>rfl
  |_::_,_,h=>exact h.elim
  |[],_::_,h=>exact h.elim
 |cons t e g =>
  intro vs ds p h
  match vs,ds,h with
  |v::vs,d::ds,h =>
   obtain ⟨q,r,h1,j,rfl⟩:=h;simp only [aK];rw [g vs ds r j]
  |[],_,h=>exact h.elim
  |_::_,[],h=>exact h.elim
end
open Go.Joins Go.Deep
section
variable {H:Type} {enc:TypeId×Value->H} {W:World} {base:Nat} {v:Value} {d:DataW H} {p:List MemPlace}
variable {u:Value}
theorem zou {a:Addr}(h:W.cell? a=some u):a.spot=none/\a.block<W.heap.size:=by
 unfold World.cell? at h;split at h
 ·rename_i c _ _ g;split at h
  ·cases h
  ·rename_i j;refine ⟨by cases m:a.spot with|none=>rfl|some _=>simp [m] at j,?_⟩;rcases Nat.lt_or_ge a.block W.heap.size with b|e
   ·exact b
   ·rw [Array.getElem?_eq_none e] at g;cases g
 ·cases h
theorem Js (b off k:Nat):(⟨b,off,none⟩:Addr).add k=⟨b,off+k,none⟩:=by
 by_cases h:k=0<;>simp [Addr.add,h]
theorem zqf {m:Type}{f:α->Option m}:∀ {l:List α} {r:List m},l.mapM f=some r->r.length=l.length/\∀ k (e:k<l.length) (n:k<r.length),f l[k]=some r[k]
 |[],r,h=>by simp at h;subst h;exact ⟨rfl,fun k e=>absurd e (by simp)⟩
 |a::l,r,h=>by
  simp only [mapM_cons] at h;cases j:f a with
  |none=>rw [j] at h;simp at h
  |some b =>
   rw [j] at h;cases g:l.mapM f with
   |none=>rw [g] at h;simp at h
   |some s =>
    rw [g] at h;simp at h;subst h;obtain ⟨q,o⟩:=zqf g;refine ⟨by simp [q],fun k e n=>?_⟩;cases k with
    |zero=>exact j
    |succ k=>exact o k (by simpa using e) (by simpa using n)
theorem zc7 {a:Addr}{n:Nat}{cs:List Value}(h:W.cells? 0 a n=some cs):cs.length=n/\∀ j,j<n->W.cell? (a.add j)=some (cs.getD j undef):=by
 unfold World.cells? at h;rw [if_pos (aC _)] at h;obtain ⟨e,b⟩:=zqf h;have g:cs.length=n:=by simpa using e
 refine ⟨g,fun j m=>?_⟩;have:=b j (by simpa using m) (by omega);rw [getElem_range] at this;rw [this];simp [aM (show j<cs.length by omega)]
def T1 (W:World)(a:α->AV)(m:α)(cs:List Value):Prop:=cs.length=(a m).cells.length/\∀ j (b:j<(a m).cells.length),Rep W (fun _=>True) G0 ((a m).cells[j]) (cs.getD j undef)/\(cs.getD j undef).oneCell'=true
variable {sz:Nat}
theorem zzk {a:α->AV}{t e:TypeId}(O:Tryz.prog.underlying t=some (.slice e))(B:Tryz.prog.cellsOf e=sz)(P:0<sz)(N:Inhabited α)(o:∀ m,(a m).cells.length=sz)
  (each:∀ (n:Nat) (cs:List Value) (x:DataW H×List MemPlace),cs.length=sz->DataW.trod enc aA W 0 (fun _=>true) true n e cs=some x->∃ m:α,T1 W a m cs)
  {n:Nat}  {x:DataW H×List MemPlace} (h:DataW.trod enc aA W 0 (fun _=>true) true n t [u]=some x):∃ l:List α,Rep W (fun _=>True) G0 (.sl sz (l.map a)) u:=by
 rcases open_slice O h with ⟨h1,_⟩|⟨A,len,R,m,M,D,Pl,h1,_,E,hm,z,_,K⟩
 ·simp only [List.cons.injEq,and_true] at h1;subst h1;exact ⟨[],.sl none 0 (fun _ _=>.bool true) (by simp) (fun k g=>absurd g (by simp)) (fun h=>absurd h (by simp)) (fun k g=>absurd g (by simp)) (fun _ _=>rfl)⟩
 ·simp only [List.cons.injEq,and_true] at h1;subst h1;simp only [if_true] at z;subst z;rw [B] at K;have every:∀ i,∃ q:α×List Value,i<len->W.cells? 0 (A.add (i*sz)) sz=some q.2/\T1 W a q.1 q.2:=fun i=>by
   by_cases hi:i<len
   ·obtain ⟨cs,L,T⟩:=K i (by omega);obtain ⟨k,g⟩:=each M cs _ (zc7 L).1 T;exact ⟨(k,cs),fun _=>⟨L,g⟩⟩
   ·exact ⟨(N.default,[]),fun h=>absurd h hi⟩
  obtain ⟨f,G⟩:=Classical.axiomOfChoice every;have U:((range len).map fun i=>(f i).1).length=len:=by simp
  refine ⟨(range len).map fun i=>(f i).1,?_⟩;have e:len=(((range len).map fun i=>(f i).1).map a).length:=by simp
  have s:∀ k j,k<len->j<sz->W.cell? ((A.add (k*sz)).add j)=some ((f k).2.getD j undef):=fun k j g y=>(zc7 (G k g).1).2 j y
  have:Rep W (fun _=>True) G0 (.sl sz (((range len).map fun i=>(f i).1).map a)) (.slice (some A) (((range len).map fun i=>(f i).1).map a).length m):=by
   refine .sl (some A) m (fun k j=>if k<len/\j<sz then (f k).2.getD j undef else .bool true) (by simpa using E) (fun k g=>?_) (fun I=>?_) (fun k g j y=>?_) (fun k j=>?_)
   ·simp only [getElem_map];exact o _
   ·have C:0<len:=by simpa using I
    have J:=zou (s 0 0 C P);obtain ⟨b,off,sp⟩:=A;have Q:sp=none:=by simpa [Addr.add] using J.1
    subst Q;rw [Js,Js] at J;refine ⟨b,off,rfl,trivial,J.2,fun k j g y=>?_⟩;have r:k<len:=by simpa using g
    have:=s k j r y;rw [Js,Js] at this;rw [if_pos ⟨r,y⟩,<-this];congr 2;omega
   ·have r:k<len:=by simpa using g
    simp only [getElem_map,getElem_range] at y ⊢;have F:j<sz:=by rw [o] at y;exact y
    rw [if_pos ⟨r,F⟩];exact ((G k r).2.2 j y).1
   ·by_cases w:k<len/\j<sz
    ·rw [if_pos w];exact ((G k w.1).2.2 j (by rw [o];exact w.2)).2
    ·rw [if_neg w];rfl
  rw [<-e] at this;exact this
theorem Rep.one_sl {xs:List AV}(h:Rep W (fun _=>True) G0 (.sl sz xs) u):u.oneCell'=true:=by
 cases h;rfl
theorem zxm {a:α->AV}{t e:TypeId}(j:Tryz.prog.underlying t=some (.slice e))(g:Tryz.prog.cellsOf e=sz)(s:0<sz)(o:Inhabited α)(b:∀ m,(a m).cells.length=sz)
  (each:∀ (n:Nat) (cs:List Value) (x:DataW H×List MemPlace),cs.length=sz->DataW.trod enc aA W 0 (fun _=>true) true n e cs=some x->∃ m:α,T1 W a m cs)
  (q:Value.okWide aA W .any base t v) (h:DataW.Trod enc aA W 0 (fun _=>true) true t v d p):∃ l:List α,Rep W (fun _=>True) G0 (.sl sz (l.map a)) v:=by
 obtain ⟨A,len,w,rfl⟩:=okWide_slice j q;obtain ⟨fuel,r⟩:=h;exact zzk j g s o b each r
theorem y6o {a:α->AV}{m:α}{cs:Array Value}{xs:List AV}(hm:a m=.agg xs)(h:T1 W a m cs.toList):Rep W (fun _=>True) G0 (a m) (.agg cs):=by
 obtain ⟨h1,b⟩:=h;rw [hm] at h1 b ⊢;have e:cs.size=xs.length:=by simpa [AV.cells] using h1
 have g:∀ i,cs.toList.getD i undef=cs.getD i undef:=fun i=>by
  by_cases hi:i<cs.size
  ·simp [Array.getD,hi]
  ·simp [Array.getD,hi]
 refine .agg _ e (fun i hi=>?_) (fun i hi=>?_)
 ·have:=(b i hi).1;rw [g] at this;exact this
 ·have:=(b i (show i<xs.length by rw [<-e];exact hi)).2;rw [g] at this;exact this
end
section
variable {H:Type} {enc:TypeId×Value->H} {W:World} {base:Nat} {v:Value} {d:DataW H} {p:List MemPlace}
def Bq (W:World)(xs:List AV)(cs:List Value):Prop:=cs.length=xs.length/\∀ j (b:j<xs.length),Rep W (fun _=>True) G0 (xs[j]) (cs.getD j undef)/\(cs.getD j undef).oneCell'=true
theorem Bq.one {a:AV}{c:Value}(h:Rep W (fun _=>True) G0 a c)(h1:c.oneCell'=true):Bq W [a] [c]:=by
 refine ⟨rfl,fun j e=>?_⟩;have b:j<1:=e;rcases j with _|j
 ·exact ⟨h,h1⟩
 ·omega
variable {cs:List Value}
theorem Bq.append {xs ys:List AV}{ds:List Value}(h1:Bq W xs cs)(g:Bq W ys ds):Bq W (xs++ys) (cs++ds):=by
 refine ⟨by rw [bC,bC,h1.1,g.1],fun j m=>?_⟩;by_cases h:j<xs.length
 ·have:=h1.2 j h;rw [getElem_append_left h];have e:(cs++ds).getD j undef=cs.getD j undef:=by
   simp only [aE];rw [getElem?_append_left (by rw [h1.1];exact h)]
  rw [e];exact this
 ·have b:j-xs.length<ys.length:=by rw [bC] at m;omega
  have:=g.2 (j-xs.length) b;rw [getElem_append_right (by omega)];have e:(cs++ds).getD j undef=ds.getD (j-xs.length) undef:=by
   simp only [aE];rw [getElem?_append_right (by rw [h1.1];omega),h1.1]
  rw [e];exact this
theorem Bq.cut {o s:Nat}{xs ys:List AV}(h1:Bq W xs ((cs.drop o).take s))(b:Bq W ys (cs.drop (o+s))):Bq W (xs++ys) (cs.drop o):=by
 have:cs.drop o=(cs.drop o).take s++cs.drop (o+s):=by rw [<-drop_drop,aW]
 rw [this];exact h1.append b
theorem Bq.done {o:Nat}(h:cs.length<=o):Bq W [] (cs.drop o):=by
 rw [aP h];exact ⟨rfl,fun j b=>absurd b (by simp)⟩
theorem Bn {o s:Nat}(h:o+s<=cs.length):((cs.drop o).take s).length=s:=by rw [bF,aT];omega
abbrev FO (enc:TypeId×Value->H)(W:World)(t:TypeId)(sz:Nat){α:Type}(e:α->List AV):Prop:=∀ (n:Nat) (cs:List Value) (x:DataW H×List MemPlace),cs.length=sz->DataW.trod enc aA W 0 (fun _=>true) true n t cs=some x->∃ m:α,Bq W (e m) cs
variable {t:TypeId}
theorem Ca (b:Tryz.prog.underlying t=some (.int .i64)):FO enc W t 1 (fun z:Int=>[aI z]):=fun n cs x e h=>by
 obtain ⟨z,rfl,_⟩:=DataW.trod_int (k:=.i64) b h;exact ⟨z,.one (.int _ _) rfl⟩
theorem yah (b:Tryz.prog.underlying t=some .string):FO enc W t 1 (fun z:ByteArray=>[AV.str z]):=fun n cs x e h=>by
 obtain ⟨z,rfl,_⟩:=DataW.trod_string b h;exact ⟨z,.one (.str _) rfl⟩
variable {sz:Nat}
theorem Xv {e:TypeId}{a:α->AV}(q:Tryz.prog.underlying t=some (.slice e))(j:Tryz.prog.cellsOf e=sz)(r:0<sz)(o:Inhabited α)(b:∀ m,(a m).cells.length=sz)
  (each:FO enc W e sz (fun m:α=>(a m).cells)):FO enc W t 1 (fun l:List α=>[AV.sl sz (l.map a)]):=fun n cs x g h=>by
 match cs,g with
 |[c],_ =>
  obtain ⟨l,g⟩:=zzk (a:=a) q j r o b each h;exact ⟨l,.one g g.one_sl⟩
theorem y89 (b:Tryz.prog.underlying t=some (.int .i64)):FO enc W t 1 (fun z:Int=>(aI z).cells):=Ca b
theorem zyr {fs:Array Field}{a:α->AV}(n:Tryz.prog.underlying t=some (.struct fs))(b:Tryz.prog.cellsOf t=sz)(q:∀ m,∃ xs,a m=.agg xs)(each:FO enc W t sz (fun m:α=>(a m).cells))
  (j:Value.okWide aA W .any base t v) (h:DataW.Trod enc aA W 0 (fun _=>true) true t v d p):∃ m:α,Rep W (fun _=>True) G0 (a m) v:=by
 obtain ⟨cs,rfl,e⟩:=okWide_struct n j;obtain ⟨fuel,o⟩:=h;obtain ⟨m,hm⟩:=each fuel cs.toList _ (by simpa using e.trans b) o;obtain ⟨xs,g⟩:=q m;exact ⟨m,y6o g hm⟩
theorem y2x {a:α->AV}{e:TypeId}(o:Tryz.prog.underlying t=some (.slice e))(g:Tryz.prog.cellsOf e=sz)(q:0<sz)(j:Inhabited α)(b:∀ m,(a m).cells.length=sz)
  (each:FO enc W e sz (fun m:α=>(a m).cells)) (n:Value.okWide aA W .any base t v) (h:DataW.Trod enc aA W 0 (fun _=>true) true t v d p):∃ l:List α,Rep W (fun _=>True) G0 (.sl sz (l.map a)) v :=
 zxm o g q j b each n h
end
section
variable {H:Type} {enc:TypeId×Value->H} {W:World} {base:Nat} {v:Value} {d:DataW H} {p:List MemPlace}
def z2n (x:Cd):AV:=.agg [.sl 1 (List.map (fun q=>AV.sl 3 (List.map A5 q)) x.fSets)]
theorem yai:FO enc W 86 3 (fun m:Bp=>(Bm m).cells):=fun n cs x I h=>by
 obtain ⟨xs,b,_,_,_,e,g⟩:=DataW.trod_struct Tryz.underlying86 h
 match xs,e with
 |[y,w,s],_ =>
  have G:Tryz.prog.cellsOf 3=1:=by kernel_rfl
  have q:DataW.trod enc aA W 0 (fun _=>true) true b 3 ((cs.drop 0).take (Tryz.prog.cellsOf 3))=some y:=g 0 _ rfl;rw [G] at q;obtain ⟨B,D⟩:=(Ca aF) b _ _ (Bn (by omega)) q;have F:Tryz.prog.cellsOf 3=1:=by kernel_rfl
  have o:DataW.trod enc aA W 0 (fun _=>true) true b 3 ((cs.drop 1).take (Tryz.prog.cellsOf 3))=some w:=g 1 _ rfl;rw [F] at o;obtain ⟨A,h1⟩:=(Ca aF) b _ _ (Bn (by omega)) o;have E:Tryz.prog.cellsOf 3=1:=by kernel_rfl
  have j:DataW.trod enc aA W 0 (fun _=>true) true b 3 ((cs.drop 2).take (Tryz.prog.cellsOf 3))=some s:=g 2 _ rfl;rw [E] at j;obtain ⟨z,C⟩:=(Ca aF) b _ _ (Bn (by omega)) j;have r:=(show Bq W _ (cs.drop 0) from (.cut D (.cut h1 (.cut C (Bq.done (by omega))))));exact ⟨⟨B,A,z⟩,r⟩
theorem zya:FO enc W 93 4 (fun m:Bf=>(Az m).cells):=fun n cs x C h=>by
 obtain ⟨xs,e,_,_,_,b,g⟩:=DataW.trod_struct Tryz.underlying93 h
 match xs,b with
 |[s,q],_ =>
  have B:Tryz.prog.cellsOf 3=1:=by kernel_rfl
  have o:DataW.trod enc aA W 0 (fun _=>true) true e 3 ((cs.drop 0).take (Tryz.prog.cellsOf 3))=some s:=g 0 _ rfl;rw [B] at o;obtain ⟨y,z⟩:=(Ca aF) e _ _ (Bn (by omega)) o;have A:Tryz.prog.cellsOf 86=3:=by kernel_rfl
  have j:DataW.trod enc aA W 0 (fun _=>true) true e 86 ((cs.drop 1).take (Tryz.prog.cellsOf 86))=some q:=g 1 _ rfl;rw [A] at j;obtain ⟨w,h1⟩:=(yai) e _ _ (Bn (by omega)) j;have r:=(show Bq W _ (cs.drop 0) from (.cut z (.cut h1 (Bq.done (by omega)))));exact ⟨⟨y,w⟩,r⟩
theorem y4z:FO enc W 182 2 (fun m:Ak=>(Ah m).cells):=fun n cs x C h=>by
 obtain ⟨xs,e,_,_,_,b,g⟩:=DataW.trod_struct Tryz.underlying182 h
 match xs,b with
 |[s,q],_ =>
  have B:Tryz.prog.cellsOf 3=1:=by kernel_rfl
  have o:DataW.trod enc aA W 0 (fun _=>true) true e 3 ((cs.drop 0).take (Tryz.prog.cellsOf 3))=some s:=g 0 _ rfl;rw [B] at o;obtain ⟨y,z⟩:=(Ca aF) e _ _ (Bn (by omega)) o;have A:Tryz.prog.cellsOf 3=1:=by kernel_rfl
  have j:DataW.trod enc aA W 0 (fun _=>true) true e 3 ((cs.drop 1).take (Tryz.prog.cellsOf 3))=some q:=g 1 _ rfl;rw [A] at j;obtain ⟨w,h1⟩:=(Ca aF) e _ _ (Bn (by omega)) j;have r:=(show Bq W _ (cs.drop 0) from (.cut z (.cut h1 (Bq.done (by omega)))));exact ⟨⟨y,w⟩,r⟩
theorem y1s:FO enc W 90 3 (fun m:A1=>(A5 m).cells):=fun n cs x I h=>by
 obtain ⟨xs,b,_,_,_,e,g⟩:=DataW.trod_struct Tryz.underlying90 h
 match xs,e with
 |[y,w,s],_ =>
  have G:Tryz.prog.cellsOf 3=1:=by kernel_rfl
  have q:DataW.trod enc aA W 0 (fun _=>true) true b 3 ((cs.drop 0).take (Tryz.prog.cellsOf 3))=some y:=g 0 _ rfl;rw [G] at q;obtain ⟨B,D⟩:=(Ca aF) b _ _ (Bn (by omega)) q;have F:Tryz.prog.cellsOf 62=1:=by kernel_rfl
  have o:DataW.trod enc aA W 0 (fun _=>true) true b 62 ((cs.drop 1).take (Tryz.prog.cellsOf 62))=some w:=g 1 _ rfl;rw [F] at o;obtain ⟨A,h1⟩:=(Xv (sz:=4) (a:=Az) Tryz.underlying62 (by kernel_rfl) (by omega) inferInstance (fun _=>rfl) (zya)) b _ _ (Bn (by omega)) o;have E:Tryz.prog.cellsOf 88=1:=by kernel_rfl
  have j:DataW.trod enc aA W 0 (fun _=>true) true b 88 ((cs.drop 2).take (Tryz.prog.cellsOf 88))=some s:=g 2 _ rfl;rw [E] at j;obtain ⟨z,C⟩:=(Xv (sz:=2) (a:=Ah) Tryz.underlying88 (by kernel_rfl) (by omega) inferInstance (fun _=>rfl) (y4z)) b _ _ (Bn (by omega)) j;have r:=(show Bq W _ (cs.drop 0) from (.cut D (.cut h1 (.cut C (Bq.done (by omega))))));exact ⟨⟨B,A,z⟩,r⟩
theorem zmp:FO enc W 57 1 (fun m:Cd=>(z2n m).cells):=fun n cs x y h=>by
 obtain ⟨xs,e,_,_,_,b,q⟩:=DataW.trod_struct bD h
 match xs,b with
 |[j],_ =>
  have w:Tryz.prog.cellsOf 55=1:=by kernel_rfl
  have g:DataW.trod enc aA W 0 (fun _=>true) true e 55 ((cs.drop 0).take (Tryz.prog.cellsOf 55))=some j:=q 0 _ rfl;rw [w] at g;obtain ⟨o,s⟩:=(Xv (sz:=1) (a:=(fun l:List A1=>AV.sl 3 (l.map A5))) Tryz.underlying55 (by kernel_rfl) (by omega) inferInstance (fun _=>rfl) (Xv (sz:=3) (a:=A5) Tryz.underlying49 (by kernel_rfl) (by omega) inferInstance (fun _=>rfl) (y1s))) e _ _ (Bn (by omega)) g;have r:=(show Bq W _ (cs.drop 0) from (.cut s (Bq.done (by omega))));exact ⟨⟨o⟩,r⟩
theorem zk9 (b:Value.okWide aA W .any base 57 v)(h:DataW.Trod enc aA W 0 (fun _=>true) true 57 v d p):∃ m:Cd,Rep W (fun _=>True) G0 (z2n m) v :=
 zyr bD (by kernel_rfl) (fun _=>⟨_,rfl⟩) zmp b h
end
theorem zjh (a:Ad)(b:WfA a)(l:List A8)(q:Cd):Con E0 true 4 [Bh a,.sl 5 (l.map A7),z2n q] (.bool true):=z1r (zj7 a b l q)
section
variable {H:Type} {enc:TypeId×Value->H}
set_option maxRecDepth 100000 in
theorem ztz (F:Stop.Interp)(P:Os)(started:P.Started){f:FuncId}{fn:Func}{s:ChangeSpec}{fr:Bool}(hf:Tryz.prog.funcs[f]? = some fn)(R:Tryz.prog.inits.idxOf? f=none)
  (hw:∃ (w:World) (tape:Tape) (i:Input),w.os=P/\(w.forCall tape i).Shaped Tryz.checked.prog/\i.vars=[]/\Input.okWide Tryz.checked.prog (w.forCall tape i) .any w.heap.size f i /\
    (Rows.OpenSpec.upto s).pre6 enc Tryz.checked.prog fn [] false (w.forCall tape i).memory i.args/\Assume.holds {} Tryz.checked.prog (lone (Frame.enter Tryz.checked.prog f i.args .normal) [] (w.forCall tape i)))
  (g:s.vars=[]) (n:fn.resultTypes=#[4]) (o:fn.params.toList.all (fun t=>Tryz.prog.readableRec t && decide (t<Tryz.prog.types.size))=true)
  (z:∀ ds:List (DataW H),ds.length=fn.params.size->s.fn H ds={ results:=[.lit (.bool true)],args:=ds })
  (B:∀ (W:World) (base:Nat) (args:Array Value) (ds:List (DataW H)) (p:List MemPlace),(∀ (j:Nat) t v,fn.params[j]? = some t->args[j]? = some v->Value.okWide aA W .any base t v) ->
    DataW.TrodAll enc aA W 0 (fun _=>true) true fn.params.toList args.toList ds p->Rows.uptoBulkAll ds<=1048576->∃ avs,Args W (fun _=>True) avs args/\Con E0 fr f avs (.bool true)) :
  ReturnsInHanded {} bL P f .any ((Rows.OpenSpec.upto s).pre6 enc aA fn [] false) (((Rows.OpenSpec.upto s).at F).post enc aA fn false true false false):=by
 refine returnsInHanded_of_cond (C:=bL) (s:=Rows.OpenSpec.upto s) (k:=Rows.uptoSmall) rfl y4n started R hf hw ?_;intro W base args ds gs before E Z Y hk _;show Calls Tryz.checked.prog f args W fun e W'=>∃ v,e=.returned v/\s.post enc aA fn false true false false W args v W'
 have M:=Z;obtain ⟨p,q,O,hV,rfl,T,aa⟩:=Z;have J:∀ x∈p++q,x.block<W.heap.size:=fun x m=>DataW.Whole.lt M x m
 rw [show (Rows.OpenSpec.upto s).vars=s.vars from rfl,g] at hV;obtain ⟨rfl,rfl⟩:=trodVars_none hV;have V:Rows.uptoBulkAll ds<=1048576:=by
  have:=of_decide_eq_true hk
  rwa [bH] at this
 obtain ⟨avs,D,L⟩:=B W base args ds p E O V;refine (L.2 (fun _=>True) W args D).mono fun e W' ⟨v,he,⟨N,_⟩,Q⟩=>?_
 have Q:=Q.bool_inv;subst Q;subst he;have U:ds.length=fn.params.size:=(zsv _ _ _ _ O).trans (by simp);have A:s.fn H (ds++[])={ results:=[.lit (.bool true)],args:=ds }:=by rw [bH];exact z ds U
 have y:∀ x∈p,x.block<W.heap.size:=fun x m=>J x (by simp [m])
 have k0:=zdn (sp':=fun b=>decide (b<W.heap.size)) N _ _ _ _ o O y (fun x m=>by simpa using y x m);have k1:=zdn (sp':=fun _=>true) N _ _ _ _ o O y (fun x m=>rfl);have I:(Value.bool true).resultList fn.resultTypes.size=[.bool true]:=by rw [n];rfl
 have G:fn.resultTypes.toList=[4]:=by rw [n]
 refine ⟨_,rfl,ds,[],_,[],p,[],M,?_,?_,?_,World.keptBut_mono (fun x m=>⟨m,?_⟩) (N.frame (·∈p++[])),fun h=>?_⟩
 ·rw [A,G,I];exact trodAll_mk1 (shut_bool aV true)
 ·rw [A];exact k0
 ·rw [A,g];exact rfl
 ·exact Or.inr (Or.inl (by simpa using m))
 ·rw [G,I,g];refine ⟨?_,[.lit (.bool true)]++ds,[],p,⟨p,[],?_,rfl,by simp,?_,fun h=>by simp at h⟩,?_⟩
  ·rw [n];intro j t r ht X
   match j with
   |0 =>
    obtain rfl:4=t:=aJ ht;obtain rfl:Value.bool true=r:=aJ X;exact okWide_bool_mk aV true
   |j+1=>exact absurd X (by simp)
  ·exact trodAll_append k1 (trodAll_mk1 (shut_bool aV true))
  ·intro b off hp;have K:MemPlace.cell b off∈p++[]:=by simpa using hp
   rw [N.frozen (J _ K)];exact T b off K
  ·intro x m _;simpa using m
end
end Go.Proofs.YthbogefcfhmpgaaGreat
