/- Layer 57, plainly. -/
import Derived.Test.YtidhlpjgifoneaaGreatK38
import Derived.Test.YtidhlpjgifoneaaGreatRows
import Derived.ProofKit
import Derived.Lib.SmallJoins
import Derived.Deep.Slices
import Derived.Below
set_option linter.unusedVariables false
set_option linter.unusedSimpArgs false
namespace Go.Proofs.YtidhlpjgifoneaaGreat
open Go.RowKit List
open Nat renaming zero_le->aA
open List renaming length_map->aB,getElem_mem->aC,drop_eq_getElem_cons->aD,getD_eq_getElem?_getD->aF,drop_eq_nil_of_le->aH,getElem?_eq_getElem->aJ,all_eq_true->aK,mem_cons_of_mem->aL,mem_append_left->aM,mem_iff_getElem->aN,mem_flatMap->aO,take_append_drop->aR,mem_append_right->aS,any_eq_true->aT,mem_filter->aU,drop_zero->aW
open Bool renaming and_eq_true->aE,true_and->aV
open Int renaming natCast_zero->aG
variable {a:Aut}
theorem zbu {t:Nat}{v:Int}:(mlk ((Az a).getD t []) v).getD false=true ↔ t<a.fStates.length/\Rd a t v:=by
 obtain ⟨h1,m⟩:=O6 a;rw [<-m];by_cases j:t<a.fStates.length
 ·obtain ⟨l,f,hm⟩:=h1.at j;rw [aF,f,Option.getD_some,ziy hm];exact ⟨fun h=>⟨l,f,h⟩,fun ⟨g,b,k⟩=>by simp_all⟩
 ·have e:(Az a)[t]? = none:=getElem?_eq_none (by rw [h1.len];omega);rw [aF,e];refine ⟨fun h=>?_,fun ⟨g,b,k⟩=>by rw [e] at b;cases b⟩;have:mlk ([]:Mp) v=none:=rfl;simp [this] at h
theorem zyp {held:List Ev}{m:Mp}{v:Int}(f:(mlk m v).getD false=true):∀ l:List Bd,ev1 held (rdB m l) v=ev1 held l v
 |[]=>rfl
 |b::l=>by
  have e:=zyp (held:=held) f l;unfold rdB ev1 at e ⊢;grind
theorem zwf (m:Mp)(l k:List Bd):rdB m (l++k)=rdB m l++rdB m k:=by unfold rdB;rw [filter_append]
theorem zwe {m b:Mp}(h:∀ v,(mlk b v).getD false=true->(mlk m v).getD false=true)(l:List Bd):rdB b (rdB m l)=rdB b l:=by
 unfold rdB;rw [filter_filter];grind
variable {held:List Ev}
theorem zvy {t:Nat}(g:t<a.fStates.length){l k:List Bd}(h:rdB ((Az a).getD t []) l=rdB ((Az a).getD t []) k)(m:l.length<=1000000)(n:k.length<=1000000){e:Exn}(f:WfE e)(j:∀ v,OccV v e->Rd a t v)(own:Int)(ev:Ev):trR (enH held l) e own ev=trR (enH held k) e own ev:=by
 refine y3n (fun i hi=>?_) (Jv m) (Jv n) f own ev;rw [Jr,Jr];split
 ·rename_i q;have b:=zbu.2 ⟨g,j (i:Int) ⟨i,by omega,rfl,hi⟩⟩;rw [<-zyp b l,<-zyp b k,h]
 ·rfl
theorem zyy:∀ {a b c d:List Sta},cvL a b=true->cvL c d=true->cvL (a++c) (b++d)=true
 |[],[],_,_,_,h=>h
 |x::r,y::s,c,d,h1,e=>by
  unfold cvL at h1;rw [aE] at h1;rw [cons_append,cons_append];unfold cvL;rw [h1.1,zyy h1.2 e];rfl
 |[],_::_,_,_,h,_=>by cases h
 |_::_,[],_,_,h,_=>by cases h
theorem znj {x y:Sta}(h:cvS x y=true):x.fScope=y.fScope/\y.fTime<=x.fTime:=by
 unfold cvS at h;simp_all
theorem Wy {p:Sta->Bool}(b:∀ x y:Sta,x.fScope=y.fScope->p x=p y):∀ {l m:List Sta},cvL l m=true->cvL (l.filter p) (m.filter p)=true
 |[],[],_=>rfl
 |x::r,y::s,h=>by
  unfold cvL at h;rw [aE] at h;rw [filter_cons,filter_cons,b x y (znj h.1).1];split
  ·unfold cvL;rw [h.1,Wy b h.2];rfl
  ·exact Wy b h.2
 |[],_::_,h=>by cases h
 |_::_,[],h=>by cases h
theorem y5h {l m:List Sta}(h:cvL l m=true)(s t:Int):cvL (opS l s t) (opS m s t)=true:=by
 unfold opS;refine zyy (Wy (fun x y q=>by rw [q]) h) ?_;unfold cvL;rw [Wy (fun x y q=>by rw [q]) h];unfold cvS;simp
theorem zyv (t:Int):∀ (b:List Int) {l m:List Sta},cvL l m=true->cvL (opL l b t) (opL m b t)=true
 |[],_,_,h=>h
 |s::b,l,m,h=>zyv t b (y5h h s t)
def TmS (l:List Sta):Prop:=∀ s∈l,0<=s.fTime/\s.fTime<=1099511627776
theorem zyx (t:Int)(n:0<=t/\t<=1099511627776)(x:Lim):∀ {l m:List Sta},cvL l m=true->TmS l->TmS m->keP m t x=true->keP l t x=true
 |[],[],_,_,_,h=>h
 |y::r,z::s,h,h1,e,b=>by
  unfold cvL at h;rw [aE] at h;obtain ⟨f,o⟩:=znj h.1;have j:=zyx t n x h.2 (fun k b=>h1 k (aL _ b)) (fun k b=>e k (aL _ b));have u:=h1 y (by simp);have p:=e z (by simp);unfold keP at b j ⊢;rw [find?_cons] at b ⊢;by_cases q:z.fScope=x.fScope
  ·have g:y.fScope=x.fScope:=f.trans q;rw [decide_eq_true q] at b;rw [decide_eq_true g];simp only [decide_eq_true_eq] at b ⊢;rw [Cq _ (by omega)] at b ⊢;omega
  simp_all
 |[],_::_,h,_,_,_=>by cases h
 |_::_,[],h,_,_,_=>by cases h
theorem y2u {l:List Sta}(h:TmS l){t:Int}(f:0<=t/\t<=1099511627776)(b:List Int):TmS (opL l b t):=fun s g=>by
 rcases opL_mem t b g with ⟨_,e⟩|e
 ·rw [e];exact f
 ·exact h s e
structure Cvd (a:Aut) (c d:Cf):Prop where
 cov:cov (Az a) c d=true
 st:0<=c.fState/\c.fState<a.fStates.length
 lc:c.fBindings.length<=900000
 ld:d.fBindings.length<=900000
 tc:TmS c.fStarts
 td:TmS d.fStarts
variable {c d:Cf}
theorem Cvd.out (h:Cvd a c d):c.fState=d.fState/\cvL c.fStarts d.fStarts=true/\rdB ((Az a).getD c.fState.toNat []) c.fBindings=rdB ((Az a).getD c.fState.toNat []) d.fBindings:=by
 have h1:=h.cov;unfold Go.Proofs.YtidhlpjgifoneaaGreat.cov rdC at h1;grind
variable {α:Type}
theorem zib {p q:α->Bool}:∀ {l:List α},(∀ x∈l,p x=q x)->l.any p=l.any q
 |[],_=>rfl
 |x::l,h=>by grind
theorem zvg {p q:α->Bool}:∀ {l:List α},(∀ x∈l,p x=q x)->l.all p=l.all q
 |[],_=>rfl
 |x::l,h=>by grind
theorem zvu (j:WfA a)(h:Cvd a c d)(held:List Ev)(e:Ev):∀ g∈Xd a c.fState,vio (enH held c.fBindings) e g=vio (enH held d.fBindings) e g:=fun g b=>by
 obtain ⟨h1,q,m⟩:=h.out;obtain ⟨f,p,o,n⟩:=X5 h.st;rw [n] at b;unfold vio;have:=h.st;rw [zvy (by omega) m (by have:=h.lc;omega) (by have:=h.ld;omega) ((j.st f o).2 g b) (fun v k=>.own _ _ (Or.inl ⟨f,p,g,b,k⟩))]
theorem y5l (w:WfA a)(U:AOk a)(h:Cvd a c d){e:Ev}(r:Cl e=true){x:Ed}(p:x∈a.fEdges)(T:x.fFrom=c.fState){t:Cf}(s:coP a held d x e=some t):∃ C,coP a held c x e=some C/\C.fState=t.fState/\(0<=t.fState->cov (Az a) C t=true):=by
 obtain ⟨h1,Q,F⟩:=h.out;have M:=h.st;have O:=h.lc;have N:=h.ld;have f:0<=e.fTime/\e.fTime<=1099511627776:=by
  unfold Cl at r;simp only [aE,decide_eq_true_eq] at r;exact ⟨r.1,r.2.1⟩
 have b:∀ y∈chE x++[x.fCond],∀ v,OccV v y->Rd a c.fState.toNat v:=fun y j v z=>.own _ _ (Or.inr ⟨x,p,by omega,y,j,z⟩)
 have o:rdB ((Az a).getD c.fState.toNat []) (bdN c x e)=rdB ((Az a).getD c.fState.toNat []) (bdN d x e):=by
  unfold bdN;rw [zwf,zwf,F]
 have lbc:(bdN c x e).length<=1000000:=by unfold bdN;simp;omega
 have lbd:(bdN d x e).length<=1000000:=by unfold bdN;simp;omega
 have m:cvL (stN c x e) (stN d x e)=true:=by unfold stN;exact zyv _ _ Q
 have B:=zd8 (w.ed x p);have n:=zd5 s;unfold coP at s;split at s;rotate_left
 ·cases s
 rename_i q;obtain ⟨L,K,J,D,I⟩:=q;refine ⟨⟨x.fTo,bdN c x e,(stN c x e).filter (ncl x)⟩,?_,by rw [n],?_⟩
 ·unfold coP;refine if_pos ⟨L,?_,?_,?_,?_⟩
  ·rw [<-K];unfold gdP;rw [<-h1];refine zib (fun g P=>?_);rw [zvu w h held e g P]
  ·rw [<-J];exact zvy (by omega) F (by omega) (by omega) (w.ed x p).cond (b _ (by simp)) _ _
  ·rw [aK] at D ⊢;exact fun y j=>zyx _ f y m (y2u h.tc f _) (y2u h.td f _) (D y j)
  ·rw [<-I];unfold ckP;exact zvg (fun y j=>zvy (by omega) o lbc lbd (B.2 y j) (b y (by simp [j])) _ _)
 ·rw [n];intro k;have k:0<=x.fTo:=k;unfold cov rdC;simp only [aE,decide_eq_true_eq,true_and];refine ⟨Wy (fun u v A=>by unfold ncl clP;rw [A]) m,?_⟩;have E:∀ v,(mlk ((Az a).getD x.fTo.toNat []) v).getD false=true->(mlk ((Az a).getD c.fState.toNat []) v).getD false=true:=fun v z=>by
   obtain ⟨R,G⟩:=zbu.1 z;exact zbu.2 ⟨by omega,.step x p _ x.fTo.toNat v (by omega) (by omega) G⟩
  rw [<-zwe E,o,zwe E]
theorem y1g (n:WfA a)(r:AOk a)(h:Cvd a c d){e:Ev}(p:Cl e=true){f:Cf}(b:f∈outP a held d e):∃ m∈outP a held c e,m.fState=f.fState/\(0<=f.fState->cov (Az a) m f=true):=by
 obtain ⟨h1,w,v⟩:=h.out;unfold outP at b ⊢;rcases mem_append.1 b with b|b
 ·have k:skP a held c e=skP a held d e:=by
   unfold skP;rw [<-h1,zib (zvu n h held e)]
  rw [<-k] at b;split at b
  ·rename_i q;rw [mem_singleton.1 b];exact ⟨c,aM _ (by rw [if_pos q];simp),h1,fun _=>h.cov⟩
  ·simp at b
 ·obtain ⟨x,o,b⟩:=mem_filterMap.1 b;obtain ⟨j,g⟩:=X6 o;obtain ⟨m,u,t,s⟩:=y5l n r h p j (by rw [h1];exact g) b;grind
variable {l:List Ev}{i:Nat}
theorem Gd57.cvd (h:GS a l)(hi:i<=12)(f:Gd57 a l i c)(g:Gd57 a l i d)(e:cov (Az a) c d=true):Cvd a c d :=
 ⟨e,f.cb.st,by have:=f.cb.lb;omega,by have:=g.cb.lb;omega,fun s b=>(f.ci.scp s b).2,fun s b=>(g.ci.scp s b).2⟩
variable {S:List (List Cf)}
theorem y2h (e:vOk a l S l 0=true):∀ i,i<=l.length->vOk a l S (l.drop i) i=true
 |0,_=>e
 |i+1,hi=>by
  have b:=y2h e i (by omega);rw [aD (by omega),Zw,aE] at b;exact b.2
theorem zwt (h:GS a l)(z:Dc a l S)(G:covd (Az a) (S.getD 0 []) cf0=true)(C:vOk a l S l 0=true):∀ i,(hi:i<=l.length)->(∀ d∈xsI a l i,covd (Az a) (S.getD i []) d=true)/\∀ (F:i<l.length),maN a l (xsI a l i) l[i]=[]:=by
 have D:=h.len;have v:∀ i,i<=l.length->∀ c∈S.getD i [],Gd57 a l i c:=fun i hi c f=>by
  have q:i<S.length:=by have:=z.ln;omega
  rw [aF,aJ q,Option.getD_some] at f;exact z.gd i q c f
 have step:∀ i,(hi:i<l.length)->(∀ d∈xsI a l i,covd (Az a) (S.getD i []) d=true)->(∀ g∈xsI a l (i+1),covd (Az a) (S.getD (i+1) []) g=true)/\maN a l (xsI a l i) l[i]=[]:=fun i hi y=>by
  have p:=y2h C i (by omega);rw [aD hi,Zw,aE,aK] at p;have t:=h.so.pl _ (aC hi);have key:∀ d∈xsI a l i,∀ g∈outP a l d l[i],∃ c∈S.getD i [],∃ e∈outP a l c l[i],e.fState=g.fState/\(0<=g.fState->cov (Az a) e g=true):=fun d j g b=>by
   obtain ⟨c,f,w⟩:=aT.1 (y d j);obtain ⟨e,o,r,s⟩:=y1g h.wf h.ok ((v i (by omega) c f).cvd h (by omega) (y3l h (by omega) d j) w) t b;exact ⟨c,f,e,o,r,s⟩
  have u:∀ c∈S.getD i [],maN a l [c] l[i]=[]/\∀ e∈cfN a l [c] l[i],covd (Az a) (S.getD (i+1) []) e=true:=fun c f=>by
   have:=p.1 c f;unfold okC at this;simp_all
  refine ⟨fun g b=>?_,eq_nil_iff_forall_not_mem.2 (fun m hm=>?_)⟩
  ·rw [(Xg h hi).1] at b;unfold cfN at b;rw [Dm cfCmp_to,aO] at b;obtain ⟨d,j,b⟩:=b;obtain ⟨n,k⟩:=zrc b;obtain ⟨c,f,e,o,r,s⟩:=key d j g n;have x:e∈cfN a l [c] l[i]:=by
    unfold cfN;rw [Dm cfCmp_to,aO];refine ⟨c,by simp,?_⟩;unfold cfO;refine aU.2 ⟨o,?_⟩;rw [r,decide_eq_false (by omega)];rfl
   obtain ⟨E,B,A⟩:=aT.1 ((u c f).2 e x);exact aT.2 ⟨E,B,zyz A (s k)⟩
  ·unfold maN at hm;rw [Dm El,aO] at hm;obtain ⟨d,j,hm⟩:=hm;unfold maO at hm;obtain ⟨g,b,_⟩:=mem_map.1 hm;obtain ⟨n,k⟩:=aU.1 b;rw [decide_eq_true_eq] at k;obtain ⟨c,f,e,o,r,_⟩:=key d j g n;have:(⟨e.fBindings⟩:Ma)∈maN a l [c] l[i]:=by
    unfold maN;rw [Dm El,aO];refine ⟨c,by simp,?_⟩;unfold maO;exact mem_map.2 ⟨e,aU.2 ⟨o,by simp_all⟩,rfl⟩
   simp_all
 have all:∀ i,i<=l.length->∀ d∈xsI a l i,covd (Az a) (S.getD i []) d=true:=by
  intro i
  induction i with
  |zero =>
   intro _ d j;rw [(zid a l).1] at j;simp_all
  |succ i y=>grind
 simp_all
theorem y0s (h:GS a l)(f:Dc a l S)(g:covd (Az a) (S.getD 0 []) cf0=true)(b:vOk a l S l 0=true):msI a l l.length=[] :=
 (y78 h).2 (fun j _ e=>(zwt h f g b j (by omega)).2 e)
theorem zbm (r:Ba)(c:Cf)(w:c.fStarts.length<=1000000):∀ (m k:Nat),k<=c.fStarts.length->c.fStarts.length<m+k->∃ v:Int,Dh N0 c r (some 0) m (k:Int)=some v/\(v=0->∀ j (f:j<c.fStarts.length),k<=j->((0<=c.fStarts[j].fScope/\c.fStarts[j].fScope<r.fa.fScopes)/\0<=c.fStarts[j].fTime/\c.fStarts[j].fTime<=1099511627776)/\(0<j->(c.fStarts[j-1]'(by omega)).fScope<c.fStarts[j].fScope))
 |0,k,h1,x=>by omega
 |m+1,k,h1,x=>by
  unfold Dh;simp only [aB,A5,Ay,Al,F4,Gz,Ao,Ap];by_cases h:k<c.fStarts.length
  ·obtain ⟨v,n,g⟩:=zbm r c w m (k+1) (by omega) (by omega);rw [if_pos (by omega),A9 h];by_cases u:c.fStarts[k].fScope<0
   ·rw [if_pos u];exact ⟨_,rfl,fun q=>absurd q (by decide)⟩
   rw [if_neg u];by_cases t:r.fa.fScopes<=c.fStarts[k].fScope
   ·rw [if_pos t];exact ⟨_,rfl,fun q=>absurd q (by decide)⟩
   rw [if_neg t];by_cases s:c.fStarts[k].fTime<0
   ·rw [if_pos s];exact ⟨_,rfl,fun q=>absurd q (by decide)⟩
   rw [if_neg s];by_cases p:1099511627776<c.fStarts[k].fTime
   ·rw [if_pos p];exact ⟨_,rfl,fun q=>absurd q (by decide)⟩
   rw [if_neg p,Ad k (by omega)];by_cases y:0<k
   ·rw [if_pos (by omega),Gc k (by omega) (by omega),A9 (by omega:k-1<c.fStarts.length)];by_cases o:c.fStarts[k].fScope<=c.fStarts[k-1].fScope
    ·rw [if_pos o];exact ⟨_,rfl,fun q=>absurd q (by decide)⟩
    rw [if_neg o];refine ⟨v,n,fun q j f b=>?_⟩;by_cases e:j=k
    ·subst e;exact ⟨⟨⟨by omega,by omega⟩,by omega,by omega⟩,fun _=>by omega⟩
    ·exact g q j f (by omega)
   ·rw [if_neg (by omega)];refine ⟨v,n,fun q j f b=>?_⟩;by_cases e:j=k
    ·subst e;exact ⟨⟨⟨by omega,by omega⟩,by omega,by omega⟩,fun h=>absurd h y⟩
    ·exact g q j f (by omega)
  ·rw [if_neg (by omega)];exact ⟨0,rfl,fun _ j f b=>by omega⟩
theorem zgs (r:Ba)(held:List Ev)(hm:HM held r.fheld)(c:Cf)(z:c.fBindings.length<=1000000)(K:Option Int)(b:Int)(s:K=some b):∀ (m k:Nat),k<=c.fBindings.length->c.fBindings.length<m+k->∃ v:Int,E6 N0 c r K m (k:Int)=some v/\(v=0->b=0/\∀ j (f:j<c.fBindings.length),k<=j->((0<=c.fBindings[j].fVar/\c.fBindings[j].fVar<r.fa.fVars)/\(lkH held c.fBindings[j].fRef).isSome=true)/\(0<j->rCmp (c.fBindings[j-1]'(by omega)).fRef c.fBindings[j].fRef<0))
 |0,k,h1,A=>by omega
 |m+1,k,h1,A=>by
  unfold E6;simp only [aB,A5,Ay,Al,Gy,Gx,Ao,Ap,Ah];by_cases h:k<c.fBindings.length
  ·obtain ⟨v,p,o⟩:=zgs r held hm c z K b s m (k+1) (by omega) (by omega);have D:(⟨c.fBindings[k].fRef.fTime,c.fBindings[k].fRef.fSource,c.fBindings[k].fRef.fSeq⟩:Rf)=c.fBindings[k].fRef:=rfl;rw [if_pos (by omega),A9 h,D,Xl,hm];by_cases w:c.fBindings[k].fVar<0
   ·rw [if_pos w];exact ⟨_,rfl,fun q=>absurd q (by decide)⟩
   rw [if_neg w];by_cases u:r.fa.fVars<=c.fBindings[k].fVar
   ·rw [if_pos u];exact ⟨_,rfl,fun q=>absurd q (by decide)⟩
   rw [if_neg u,Ad k (by omega)];have fin:(lkH held c.fBindings[k].fRef).isSome=true->(0<k->rCmp (c.fBindings[k-1]'(by omega)).fRef c.fBindings[k].fRef<0)->v=0->b=0/\∀ j (f:j<c.fBindings.length),k<=j->((0<=c.fBindings[j].fVar/\c.fBindings[j].fVar<r.fa.fVars)/\(lkH held c.fBindings[j].fRef).isSome=true)/\(0<j->rCmp (c.fBindings[j-1]'(by omega)).fRef c.fBindings[j].fRef<0):=fun y x q=>by
    refine ⟨(o q).1,fun j f n=>?_⟩;by_cases e:j=k
    ·subst e;exact ⟨⟨⟨by omega,by omega⟩,y⟩,x⟩
    ·exact (o q).2 j f (by omega)
   by_cases B:0<k
   ·have C:(⟨c.fBindings[k-1].fRef.fTime,c.fBindings[k-1].fRef.fSource,c.fBindings[k-1].fRef.fSeq⟩:Rf)=c.fBindings[k-1].fRef:=rfl;rw [if_pos (by omega),Gc k (by omega) (by omega),A9 (by omega:k-1<c.fBindings.length),C,zsc,A3];by_cases t:0<=rCmp c.fBindings[k-1].fRef c.fBindings[k].fRef
    ·rw [if_pos t];exact ⟨_,rfl,fun q=>absurd q (by decide)⟩
    rw [if_neg t];cases g:(lkH held c.fBindings[k].fRef).isSome
    ·rw [Ap];exact ⟨_,rfl,fun q=>absurd q (by decide)⟩
    ·rw [Ao];exact ⟨v,p,fin g (fun _=>by omega)⟩
   ·rw [if_neg (by omega)];cases g:(lkH held c.fBindings[k].fRef).isSome
    ·rw [Ap];exact ⟨_,rfl,fun q=>absurd q (by decide)⟩
    ·rw [Ao];exact ⟨v,p,fin g (fun h=>absurd h B)⟩
  ·rw [if_neg (by omega)];exact ⟨b,s,fun q=>⟨q,fun j f n=>by omega⟩⟩
theorem zch {R:α->α->Prop}(tr:∀ x y z,R x y->R y z->R x z){l:List α}(h:∀ j (f:j<l.length),0<j->R (l[j-1]'(by omega)) l[j]):l.Pairwise R:=by
 rw [pairwise_iff_getElem];intro i j hi f g
 induction j with
 |zero=>omega
 |succ j ih =>
  have b:=h (j+1) f (by omega);simp only [Nat.add_sub_cancel] at b;by_cases e:i=j
  ·subst e;exact b
  ·exact tr _ _ _ (ih (by omega) (by omega)) b
variable {mp:List (Rf×Ev)}
theorem zgr (h:GS a l)(hm:HM (l.take i) mp)(c:Cf)(P:c.fBindings.length<=12)(O:c.fStarts.length<=12):∃ v:Int,Ei N0 ⟨a,mp⟩ c=some v/\(v=0->Gd57 a l i c):=by
 unfold Ei;simp only [Ay,Al,H5,A5,Ao,aB];by_cases F:c.fState<0
 ·rw [if_pos F];exact ⟨_,rfl,fun q=>absurd q (by decide)⟩
 rw [if_neg F];by_cases E:(a.fStates.length:Int)<=c.fState
 ·rw [if_pos E];exact ⟨_,rfl,fun q=>absurd q (by decide)⟩
 rw [if_neg E,if_neg (by omega)];obtain ⟨J,w1,G⟩:=zbm ⟨a,mp⟩ c (by omega) N0 0 (aA _) (by unfold N0;omega);simp only [aG] at w1;obtain ⟨v,B,I⟩:=zgs ⟨a,mp⟩ (l.take i) hm c (by omega) _ J w1 N0 0 (aA _) (by unfold N0;omega);simp only [aG] at B;refine ⟨v,B,fun q=>?_⟩;obtain ⟨K,D⟩:=I q;have C:=G K;have n:=h.so.st;have o:∀ b∈c.fBindings,(0<=b.fVar/\b.fVar<a.fVars)/\∃ e∈l.take i,Bo e=b.fRef/\lkH l b.fRef=some e:=fun b f=>by
  obtain ⟨j,g,rfl⟩:=aN.1 f;obtain ⟨⟨m,k⟩,_⟩:=D j g (aA _);refine ⟨m,?_⟩;obtain ⟨e,r⟩:=Option.isSome_iff_exists.1 k;obtain ⟨M,L⟩:=zj3 r;exact ⟨e,L,M,by rw [<-aR i l,zyc,r];rfl⟩
 have p:c.fBindings.Pairwise (fun x y=>rCmp x.fRef y.fRef<0):=by
  refine zch (R:=fun x y:Bd=>rCmp x.fRef y.fRef<0) ?_ ?_
  ·intro x y z h1 w;exact Ju.trans _ _ _ h1 w
  ·intro j g A;exact (D j g (aA _)).2 A
 have t:SS c.fStarts:=by
  unfold SS;refine zch (R:=fun x y:Sta=>x.fScope<y.fScope) ?_ ?_
  ·intro x y z h1 w;exact Int.lt_trans h1 w
  ·intro j g A;exact (C j g (aA _)).2 A
 refine ⟨⟨⟨by omega,by omega⟩,fun b f=>?_,t,by omega,by omega⟩,p,fun b f e r=>?_,fun s u=>?_⟩
 ·obtain ⟨m,e,_,_,k⟩:=o b f;exact ⟨m,by rw [k];rfl⟩
 ·obtain ⟨_,N,m,k,_⟩:=o b f;rw [<-k];rw [<-aR i l] at n;exact (pairwise_append.1 n).2.2 N m e r
 ·obtain ⟨j,g,rfl⟩:=aN.1 u;exact (C j g (aA _)).1
theorem zc7 (h:GS a l)(c:Cf)(j:c.fBindings.length<=12)(g:c.fStarts.length<=12):∃ v:Int,Ns N0 a (l.take i) c=some v/\(v=0->Gd57 a l i c):=by
 obtain ⟨mp,hm,b⟩:=h.begin i;obtain ⟨v,f,e⟩:=zgr h hm c j g;refine ⟨v,?_,e⟩;unfold Ns bndP;rw [b];simp only [Ah,A5];rw [if_pos trivial,f,A3]
structure FewR (S:List (List Cf)):Prop where
 ln:S.length<=14
 st:∀ s∈S,s.length<=60/\∀ c∈s,c.fBindings.length<=12/\c.fStarts.length<=12
theorem q_form_l2 (h:GS a l)(p:FewR S)(g:i<S.length)(u:i<=l.length)(K:Option Int):∀ (m k:Nat),k<=S[i].length->S[i].length<m+k->(∃ f:Int,f≠0/\Di N0 ⟨S⟩ l a (i:Int) S[i] K m (k:Int)=some f)\/(Di N0 ⟨S⟩ l a (i:Int) S[i] K m (k:Int)=K/\∀ j (n:j<S[i].length),k<=j->Gd57 a l i S[i][j])
 |0,k,h1,G=>by omega
 |m+1,k,h1,G=>by
  have M:=(p.st _ (aC g)).1;have E:=h.len;have D:=p.ln;unfold Di;simp only [aB,A5,Ah,Ay,Al,Ja];by_cases x:k<S[i].length
  ·have y:=(p.st _ (aC g)).2 _ (aC x);have s:∀ (K:List Ev->Option Int),sls l 0 (i:Int) K=K (l.take i):=fun K=>by
    have:=Eb (l:=l) (a:=0) (b:=i) (aA _) (by omega) K;simpa using this
   obtain ⟨v,A,z⟩:=zc7 h (i:=i) S[i][k] y.1 y.2;rw [if_pos (by omega),A9 x,s,A,A3];by_cases r:v=0;rotate_left
   ·rw [if_neg r];exact Or.inl ⟨v,r,rfl⟩
   rw [if_pos r,Ad k (by omega)];have fin:((∃ f:Int,f≠0/\Di N0 ⟨S⟩ l a (i:Int) S[i] K m ((k+1:Nat):Int)=some f)\/(Di N0 ⟨S⟩ l a (i:Int) S[i] K m ((k+1:Nat):Int)=K/\∀ j (n:j<S[i].length),k+1<=j->Gd57 a l i S[i][j]))->((∃ f:Int,f≠0/\Di N0 ⟨S⟩ l a (i:Int) S[i] K m ((k+1:Nat):Int)=some f)\/(Di N0 ⟨S⟩ l a (i:Int) S[i] K m ((k+1:Nat):Int)=K/\∀ j (n:j<S[i].length),k<=j->Gd57 a l i S[i][j])):=fun q=>q.imp id (fun ⟨C,B⟩=>⟨C,fun j n t=>by
    by_cases e:j=k
    ·subst e;exact z r
    ·exact B j n (by omega)⟩)
   have w:=fin (q_form_l2 h p g u K m (k+1) (by omega) (by omega));by_cases I:k=0
   ·subst I;rw [if_neg (by simp),Ap];exact w
   ·obtain ⟨j,rfl⟩:∃ j,k=j+1:=⟨k-1,by omega⟩;have n:j<S[i].length:=by omega
    have F:=(p.st _ (aC g)).2 _ (aC n);have J:IntKind.wrap .i64 (((j+1:Nat):Int)-1)=(j:Int):=by rw [Cq _ (by omega)];omega
    obtain ⟨v',w1,L⟩:=zxo S[i][j] S[i][j+1] (by omega) (by omega) (by omega) (by omega);rw [if_pos (by omega),J,A9 n,w1,A3];by_cases o:0<=v'
    ·rw [if_pos o];exact Or.inl ⟨14,by decide,rfl⟩
    ·rw [if_neg o];exact w
  ·rw [if_neg (by omega)];exact Or.inr ⟨rfl,fun j n t=>by omega⟩
theorem zly (h:GS a l)(n:FewR S)(b:S.length=l.length+1):∀ (m i:Nat),i<=S.length->S.length<m+i->∃ f:Int,J9 N0 ⟨S⟩ l a (some 0) m (i:Int)=some f/\(f=0->∀ j (o:j<S.length),i<=j->∀ c∈S[j],Gd57 a l j c)
 |0,i,h1,x=>by omega
 |m+1,i,h1,x=>by
  have v:=h.len;have u:=n.ln;unfold J9;simp only [aB,A5];by_cases hi:i<S.length
  ·have A:=(n.st _ (aC hi)).1;obtain ⟨f,z,y⟩:=zly h n b m (i+1) (by omega) (by omega);rw [if_pos (by omega),A9 hi,if_neg (by omega),Ad i (by omega),z];rcases q_form_l2 h n hi (by omega) (some f) N0 0 (aA _) (by unfold N0;omega) with ⟨g,s,r⟩|⟨s,r⟩
   ·exact ⟨g,r,fun q=>absurd q s⟩
   ·refine ⟨f,s,fun q j o p c t=>?_⟩;by_cases e:j=i
    ·subst e;obtain ⟨k,w,rfl⟩:=aN.1 t;exact r k w (aA _)
    ·exact y q j o (by omega) c t
  ·rw [if_neg (by omega)];exact ⟨0,rfl,fun _ j o p=>by omega⟩
theorem zwq (h:GS a l)(b:FewR S):∃ f:Int,Je N0 a l ⟨S⟩=some f/\(f=0->Dc a l S):=by
 have j:=h.len;have g:=b.ln;unfold Je;simp only [aB,A5,Ah];rw [Ad l.length (by omega)];by_cases e:S.length=l.length+1
 ·rw [if_pos (by omega)];obtain ⟨f,m,k⟩:=zly h b e N0 0 (aA _) (by unfold N0;omega);exact ⟨f,m,fun q=>⟨e,fun i hi=>by have:=(b.st _ (aC hi)).1;omega,fun i hi=>k q i hi (aA _)⟩⟩
 ·rw [if_neg (by omega)];exact ⟨_,rfl,fun q=>absurd q (by decide)⟩
theorem y0p (h:GS a l)(j:FewR S):∃ v:Int,Dj N0 a l ⟨S⟩=some v/\(v=0->msI a l l.length=[]):=by
 obtain ⟨f,g,k⟩:=zwq h j;by_cases b:f=0
 ·have ok:=k b;rw [b] at g;rw [zs5 h ok g];refine ⟨_,rfl,fun q=>?_⟩;by_cases e:(covd (Az a) (S.getD 0 []) cf0 && vOk a l S l 0)=true
  ·rw [aE] at e;exact y0s h ok e.1 e.2
  ·rw [if_neg e] at q;cases q
 ·refine ⟨f,?_,fun q=>absurd q b⟩;unfold Dj;rw [zaj h,A3,Ah,A5,if_pos rfl,g,A3,Ah,A5,if_neg b]
theorem zh6 (S:List (List Cf))(K:Option Bool):∀ (m k:Nat),k<=20->20<m+k->Iq N0 ⟨S⟩ K m (k:Int)=if ∀ s∈(S.take 20).drop k,(s.length<=60/\∀ x∈s,Oc x=true) then K else some false
 |0,k,h1,g=>by omega
 |m+1,k,h1,g=>by
  unfold Iq;simp only [Ay,Al,Lu,aB,A5,Ap,Ah,decide_eq_true_eq];by_cases h:k<S.length
  ·rw [if_pos (by omega)];by_cases j:k<20
   ·rw [if_pos (by omega),A9 h,Ad k (by omega),zh6 S K m (k+1) (by omega) (by omega),y8m N0 (by decide),A3];have f:(S.take 20).drop k=S[k]::(S.take 20).drop (k+1):=by
     rw [B2 _ k (by simp;omega),getElem_take]
    rw [f];simp only [forall_mem_cons];by_cases q:S[k].length<=60/\∀ x∈S[k],Oc x=true
    ·rw [decide_eq_true q,Ao];split
     ·rename_i b;rw [if_pos ⟨q,b⟩]
     ·rename_i b;rw [if_neg (fun e=>b e.2)]
    ·rw [decide_eq_false q,Ap,if_neg (fun e=>q e.1)]
   ·rw [if_neg (by omega),aH (by simp;omega)];simp
  ·rw [if_neg (by omega),aH (by simp;omega)];simp
theorem y4b (S:List (List Cf)):∃ b:Bool,V5 N0 ⟨S⟩=some b/\(b=true->FewR S):=by
 unfold V5;have:=zh6 S (some (decide ((((List.map (fun q=>AV.sl 3 (List.map A4 q)) S).length:Nat):Int)<=14))) N0 0 (by omega) (by decide);simp only [aG,aW] at this;rw [this];split
 ·rename_i q;refine ⟨_,rfl,fun h=>?_⟩;rw [decide_eq_true_eq,aB] at h;rw [take_of_length_le (by omega)] at q;refine ⟨by omega,fun s e=>⟨(q s e).1,fun c f=>?_⟩⟩;have:=(q s e).2 c f;unfold Oc at this;rw [aE,decide_eq_true_eq,decide_eq_true_eq] at this;exact this
 ·exact ⟨_,rfl,fun h=>by cases h⟩
theorem zdi (r:Ba)(c:Cf)(n:c.fStarts.length<=1000000):∀ (m k:Nat),k<=c.fStarts.length->c.fStarts.length<m+k->Dh N0 c r (some 0) m (k:Int)=Fn N0 c.fStarts r.fa (some 0) m (k:Int)
 |0,k,h1,o=>by omega
 |m+1,k,h1,o=>by
  unfold Dh Fn;simp only [aB,A5,Ay,Al,F4,Gz,Gj,Kp,Ao,Ap];by_cases h:k<c.fStarts.length
  ·have j:=zdi r c n m (k+1) (by omega) (by omega);rw [if_pos (by omega),if_pos (by omega),A9 h,A9 h,A9 h,A9 h,A9 h,Ad k (by omega),j];by_cases g:c.fStarts[k].fScope<0
   ·rw [if_pos g,if_pos g]
   rw [if_neg g,if_neg g];by_cases f:r.fa.fScopes<=c.fStarts[k].fScope
   ·rw [if_pos f,if_pos f]
   rw [if_neg f,if_neg f];by_cases e:c.fStarts[k].fTime<0
   ·rw [if_pos e,if_pos e]
   rw [if_neg e,if_neg e];by_cases b:1099511627776<c.fStarts[k].fTime
   ·rw [if_pos b,if_pos b]
   rw [if_neg b,if_neg b];by_cases p:0<k
   ·rw [if_pos (by omega),if_pos (by omega),Gc k (by omega) (by omega),A9 (by omega:k-1<c.fStarts.length),A9 (by omega:k-1<c.fStarts.length),A9 h]
   simp_all
  grind
theorem y3t (held:List Ev)(b:held.length<=1000000)(r:Rf):∃ x,Me N0 held r=some (x,(lkH held r).isSome):=by
 rw [zxl N0 r held b (by unfold N0;omega)];cases lkH held r<;>exact ⟨_,rfl⟩
theorem r_bind_rel (r:Ba)(held:List Ev)(hm:HM held r.fheld)(f:held.length<=1000000)(c:Cf)(q:c.fBindings.length<=1000000)(K K':Option Int):∀ (m k:Nat),k<=c.fBindings.length->c.fBindings.length<m+k->(E6 N0 c r K m (k:Int)=K/\Gf N0 c.fBindings held r.fa K' m (k:Int)=K')\/∃ e:Int,e≠0/\E6 N0 c r K m (k:Int)=some e/\Gf N0 c.fBindings held r.fa K' m (k:Int)=some e
 |0,k,h1,s=>by omega
 |m+1,k,h1,s=>by
  unfold E6 Gf;simp only [aB,A5,Ay,Al,Gy,Gx,Kb,Ka,Ao,Ap,Ah];by_cases h:k<c.fBindings.length
  ·have b:=r_bind_rel r held hm f c q K K' m (k+1) (by omega) (by omega);have o:(⟨c.fBindings[k].fRef.fTime,c.fBindings[k].fRef.fSource,c.fBindings[k].fRef.fSeq⟩:Rf)=c.fBindings[k].fRef:=rfl;obtain ⟨x,p⟩:=y3t held f c.fBindings[k].fRef;rw [if_pos (by omega),if_pos (by omega),A9 h,A9 h,A9 h,A9 h,o,Xl,hm,p,A3,Ad k (by omega)];by_cases n:c.fBindings[k].fVar<0
   ·simp_all
   rw [if_neg n,if_neg n];by_cases j:r.fa.fVars<=c.fBindings[k].fVar
   ·simp_all
   rw [if_neg j,if_neg j];by_cases u:0<k
   ·have t:(⟨c.fBindings[k-1].fRef.fTime,c.fBindings[k-1].fRef.fSource,c.fBindings[k-1].fRef.fSeq⟩:Rf)=c.fBindings[k-1].fRef:=rfl;rw [if_pos (by omega),if_pos (by omega),Gc k (by omega) (by omega),A9 (by omega:k-1<c.fBindings.length),A9 (by omega:k-1<c.fBindings.length),A9 h,t,o,zsc,zin,A3,A3];by_cases g:0<=rCmp c.fBindings[k-1].fRef c.fBindings[k].fRef
    ·simp_all
    rw [if_neg g,if_neg g];cases (lkH held c.fBindings[k].fRef).isSome
    ·rw [Ap,Ap];simp_all
    ·rw [Ao,Ao];exact b
   ·rw [if_neg (by omega),if_neg (by omega)];cases (lkH held c.fBindings[k].fRef).isSome
    ·rw [Ap,Ap];simp_all
    ·rw [Ao,Ao];exact b
  grind
theorem y0l (hm:HM held mp)(o:held.length<=1000000)(c:Cf)(q:c.fBindings.length<=12)(p:c.fStarts.length<=12){k:Int}(m:Dh N0 c ⟨a,mp⟩ (some 0) N0 0=some k):Qy N0 a held c=Ei N0 ⟨a,mp⟩ c:=by
 unfold Qy Ei;simp only [Ay,Al,H5,Kt,A5,Ao,aB];by_cases j:c.fState<0
 ·rw [if_pos j,if_pos j]
 rw [if_neg j,if_neg j];by_cases h:(a.fStates.length:Int)<=c.fState
 ·rw [if_pos h,if_pos h]
 rw [if_neg h,if_neg h,if_neg (by omega)];unfold Y0 Ya;rw [A5,aB,if_neg (by omega)];have g:=zdi ⟨a,mp⟩ c (by omega) N0 0 (aA _) (by unfold N0;omega);simp only [aG] at g;rw [g] at m ⊢;rw [m];rcases r_bind_rel ⟨a,mp⟩ held hm o c (by omega) (some k) (some 0) N0 0 (aA _) (by unfold N0;omega) with ⟨f,b⟩|⟨e,n,f,b⟩
 ·simp only [aG] at f b;rw [f,b,A3,Ah,A5,if_pos rfl,A3]
 ·simp only [aG] at f b;rw [f,b,A3,Ah,A5,if_neg n]
theorem zun (h:GS a l)(i:Nat)(c:Cf)(f:c.fBindings.length<=12)(e:c.fStarts.length<=12):Qy N0 a (l.take i) c=Ns N0 a (l.take i) c:=by
 obtain ⟨mp,hm,b⟩:=h.begin i;obtain ⟨j,w1,_⟩:=zbm ⟨a,mp⟩ c (by omega) N0 0 (aA _) (by unfold N0;omega);simp only [aG] at w1;obtain ⟨v,g,_⟩:=zgr h hm c f e;rw [y0l hm (by have:=h.len;rw [length_take];omega) c f e w1];unfold Ns bndP;rw [b];simp only [Ah,A5];rw [if_pos trivial,g,A3]
theorem zls (h:GS a l)(o:FewR S)(e:i<S.length)(t:i<=l.length)(K:Option Int):∀ (m k:Nat),k<=S[i].length->S[i].length<m+k->Ig N0 ⟨S⟩ l a (i:Int) S[i] K m (k:Int)=Di N0 ⟨S⟩ l a (i:Int) S[i] K m (k:Int)
 |0,k,h1,z=>by omega
 |m+1,k,h1,z=>by
  have C:=(o.st _ (aC e)).1;have x:=h.len;unfold Di Ig;simp only [aB,A5,Ah,Ay,Al,Ja,Lf];by_cases u:k<S[i].length
  ·have n:=(o.st _ (aC e)).2 _ (aC u);have r:∀ (K:List Ev->Option Int),sls l 0 (i:Int) K=K (l.take i):=fun K=>by
    have:=Eb (l:=l) (a:=0) (b:=i) (aA _) (by omega) K;simpa using this
   obtain ⟨v,w,_⟩:=zc7 h (i:=i) S[i][k] n.1 n.2;have f:((k:Nat):Int)<((S[i].length:Nat):Int):=by omega
   rw [if_pos f,if_pos f];simp only [r,A9 u,zun h i _ n.1 n.2,w,A3];by_cases g:v=0;rotate_left
   ·rw [if_neg g,if_neg g]
   rw [if_pos g,if_pos g,Ad k (by omega),zls h o e t K m (k+1) (by omega) (by omega)];by_cases D:k=0
   ·simp_all
   ·obtain ⟨j,rfl⟩:∃ j,k=j+1:=⟨k-1,by omega⟩;have s:j<S[i].length:=by omega
    have y:=(o.st _ (aC e)).2 _ (aC s);have A:IntKind.wrap .i64 (((j+1:Nat):Int)-1)=(j:Int):=by rw [Cq _ (by omega)];omega
    obtain ⟨v',w1,B⟩:=zxo S[i][j] S[i][j+1] (by omega) (by omega) (by omega) (by omega);have q:cfOk S[i][j]=true:=by unfold cfOk;simp;omega
    have p:cfOk S[i][j+1]=true:=by unfold cfOk;simp;omega
    rw [if_pos (by omega),if_pos (by omega),A,A9 s,A9 s,w1,y12 N0 _ _ q p (by unfold N0;omega) (by unfold N0;omega),A3,A3];grind
  grind
theorem zlt (h:GS a l)(e:FewR S)(b:S.length=l.length+1):∀ (m i:Nat),i<=S.length->S.length<m+i->Qj N0 ⟨S⟩ l a (some 0) m (i:Int)=J9 N0 ⟨S⟩ l a (some 0) m (i:Int)
 |0,i,h1,g=>by omega
 |m+1,i,h1,g=>by
  have f:=h.len;unfold J9 Qj;simp only [aB,A5];by_cases hi:i<S.length
  ·have j:=(e.st _ (aC hi)).1;rw [if_pos (by omega),if_pos (by omega),A9 hi,A9 hi,if_neg (by omega),if_neg (by omega),Ad i (by omega),zlt h e b m (i+1) (by omega) (by omega)];exact zls h e hi (by omega) _ N0 0 (aA _) (by unfold N0;omega)
  grind
theorem y69 (h:GS a l)(b:FewR S):Uu N0 a l ⟨S⟩=Je N0 a l ⟨S⟩:=by
 have g:=h.len;have f:=b.ln;unfold Je Uu;simp only [aB,A5,Ah];rw [Ad l.length (by omega)];by_cases e:S.length=l.length+1
 ·rw [if_pos (by omega),if_pos (by omega)];exact zlt h b e N0 0 (aA _) (by unfold N0;omega)
 grind
variable {rs:List (List Bool)}
theorem zc5 (g:AOk a)(e:RsOk a rs){l:List Cf}(j:l.length<=1000000)(b:∀ c∈l,CR a c)(f:CR a d):∀ (m k:Nat),k<=l.length->l.length<m+k->Oy N0 d l rs (some false) m (k:Int)=some (covd (Az a) (l.drop k) d)
 |0,k,h1,n=>by omega
 |m+1,k,h1,n=>by
  unfold Oy;rw [aB,A5];by_cases h:k<l.length
  ·rw [if_pos (by omega),A9 h,ze2 g e (b _ (aC h)) f,A3,Ad k (by omega),zc5 g e j b f m (k+1) (by omega) (by omega),aD h];unfold covd;rw [any_cons];cases cov (Az a) l[k] d
   ·rw [Ap,Bool.false_or]
   ·rw [Ao,Bool.true_or]
  ·rw [if_neg (by omega),aH (by omega)];rfl
theorem zlu (h:AOk a)(e:RsOk a rs){l:List Cf}(f:l.length<=1000000)(b:∀ c∈l,CR a c)(g:CR a d):Qk N0 rs l d=some (covd (Az a) l d):=by
 unfold Qk;have:=zc5 h e f b g N0 0 (aA _) (by unfold N0;omega);simpa using this
theorem zrw (j:AOk a)(g:RsOk a rs)(hi:i+1<S.length)(e:i<=1000)(n:S[i+1].length<=1000000)(b:∀ c∈S[i+1],CR a c)(v:Int)(x:List Cf×List Ma)(o:x.1.length<=1000000)(f:∀ c∈x.1,CR a c)(K:Option Bool):∀ (m k:Nat),k<=x.1.length->x.1.length<m+k->Pa N0 ⟨S⟩ l a (rs,(i:Int)) v x K m (k:Int)=if (x.1.drop k).all (covd (Az a) S[i+1])=true then K else some false
 |0,k,h1,p=>by omega
 |m+1,k,h1,p=>by
  unfold Pa;rw [aB,A5];by_cases h:k<x.1.length
  ·rw [if_pos (by omega),Ad i (by omega),A9 hi,A9 h,zlu j g n b (f _ (aC h)),A3,Ad k (by omega),zrw j g hi e n b v x o f K m (k+1) (by omega) (by omega),aD h,Ah,all_cons];cases covd (Az a) S[i+1] x.1[k]
   ·rw [Ap,Bool.false_and];rfl
   ·rw [Ao,aV]
  grind
theorem y88 (h:GS a l)(hi:i<=12)(b:Gd57 a l i c)(e:Ev):Mt N0 a l c e=some (cfN a l [c] e,maN a l [c] e):=by
 rw [y6o h.cx (by have:=h.edges;omega) (by omega:i+20<=1000) b.cb e];unfold cfN maN;simp
theorem zrx (h:GS a l)(o:RsOk a rs)(f:Dc a l S)(hi:i<l.length)(b:i<S.length)(K:Option Bool):∀ (m k:Nat),k<=S[i].length->S[i].length<m+k->Pb N0 ⟨S⟩ l a (rs,(i:Int)) K m (k:Int)=if (S[i].drop k).all (okC a l S i l[i])=true then K else some false
 |0,k,h1,v=>by omega
 |m+1,k,h1,v=>by
  have q:=h.len;have p:=f.ln;have x:=f.few i b;have e:i+1<S.length:=by omega
  unfold Pb;simp only [aB,A5];rw [A9 b];by_cases j:k<S[i].length
  ·have n:=f.gd i b _ (aC j);have w:=zze a l S[i][k] l[i];have s:=h.edges;have g:∀ d∈cfN a l [S[i][k]] l[i],CR a d:=fun d t=>(Gd57.next h hi (fun c u=>by simp_all) d t).cr h (by omega)
   have r:S.getD (i+1) []=S[i+1]:=by rw [aF,aJ e];rfl
   rw [if_pos (by omega),A9 b,A9 j,A9 hi,y88 h (by omega) n,A3,aD j,all_cons,Ad k (by omega),zrx h o f hi b K m (k+1) (by omega) (by omega)];unfold okC;rw [r];by_cases hm:maN a l [S[i][k]] l[i]=[]
   ·rw [if_neg (by simp [hm])];refine (zrw h.ok o e (by omega) (by have:=f.few (i+1) e;omega) (fun c n=>(f.gd (i+1) e c n).cr h (by omega)) (k:Int) (cfN a l [S[i][k]] l[i],maN a l [S[i][k]] l[i]) (by simp only;omega) g _ N0 0 (aA _) (by simp only;unfold N0;omega)).trans ?_;grind
   simp_all
  grind
theorem zry (h:GS a l)(f:RsOk a rs)(e:Dc a l S):∀ (m i:Nat),i<=l.length->l.length<m+i->Pc N0 ⟨S⟩ l a (some true) m (rs,(i:Int))=some (vOk a l S (l.drop i) i)
 |0,i,h1,n=>by omega
 |m+1,i,h1,n=>by
  have j:=h.len;have g:=e.ln;unfold Pc;simp only [aB,A5];by_cases hi:i<l.length
  ·have b:i<S.length:=by omega
   have o:=e.few i b;have k:S.getD i []=S[i]:=by rw [aF,aJ b];rfl
   rw [if_pos (by omega),aD hi,Zw,k];refine (zrx h f e hi b _ N0 0 (aA _) (by unfold N0;omega)).trans ?_;rw [aW,Ad i (by omega),zry h f e m (i+1) (by omega) (by omega)];grind
  ·rw [if_neg (by omega),aH (by omega)];rfl
theorem y0j (h:GS a l)(x:F5 N0 a l=some 0)(q:FewR S):Ip N0 a l ⟨S⟩=Dj N0 a l ⟨S⟩:=by
 obtain ⟨f,j,y⟩:=zwq h q;have m:=y69 h q;unfold Ip;rw [x,A3,Ah,A5,if_pos rfl,m,j,A3,Ah,A5];by_cases g:f=0
 ·have ok:=y g;rw [g] at j;rw [if_pos g,zs5 h ok j];obtain ⟨rs,t,o,n⟩:=zwh h;have e:RsOk a rs:=⟨o,n⟩;have s:=ok.ln;have b:0<S.length:=by omega
  have v:S.getD 0 []=S[0]:=by rw [aF,aJ b];rfl
  have z:Rc N0=some cf0:=rfl;have r:∀ (k:List Cf->Option Bool),idx S 0 k=k S[0]:=fun k=>A9 (i:=0) b k
  have u:Ue N0 a l ⟨S⟩=some (covd (Az a) S[0] cf0 && vOk a l S l 0):=by
   unfold Ue;have:=ok.few 0 b;rw [t,A3,r,z,A3,zlu h.ok e (by omega) (fun c w=>(ok.gd 0 b c w).cr h (by omega)) ((gd0 h).cr h (by omega)),A3,Ah];have p:=zry h e ok N0 0 (aA _) (by have:=h.len;unfold N0;omega);rw [aW] at p;cases covd (Az a) S[0] cf0
   ·rw [Ap];rfl
   ·rw [Ao,aV];exact p
  rw [u,A3,v,Ah];cases (covd (Az a) S[0] cf0 && vOk a l S l 0)
  ·rw [Ap];rfl
  ·rw [Ao];rfl
 ·rw [if_neg g];unfold Dj;rw [zaj h,A3,Ah,A5,if_pos rfl,j,A3,Ah,A5,if_neg g]
theorem zn2 (h:GS a l)(e:Dc a l S):∀ (m i:Nat) (out:List (List Cf)),i<=S.length->S.length<m+i->out.length<=i->Qf N0 ⟨S⟩ (Az a) (fun y=>some (⟨y⟩,0)) m ((i:Int),out)=some (⟨out++(S.drop i).map (redP (Az a))⟩,0)
 |0,i,out,h1,n,_=>by omega
 |m+1,i,out,h1,n,p=>by
  have j:=h.len;have f:=e.ln;unfold Qf;simp only [aB,A5,Al];by_cases hi:i<S.length
  ·have o:=e.few i hi;have b:=e.cs h hi;have g:=(zcs (Az a) S[i]).length_le;rw [if_pos (by omega),A9 hi,y8j (by omega) b,A3,y8k (by omega) (fun c k=>by have:=b c ((zcs _ _).subset k);exact ⟨this.lb,this.ls⟩),A3,Bu (by simp;omega) (by omega),Ad i (by omega),zn2 h e m (i+1) _ (by omega) (by omega) (by simp;omega),aD hi,map_cons,append_assoc];rfl
  ·rw [if_neg (by omega),aH (by omega)];simp
theorem y73 (h:GS a l)(b:Dc a l S)(e:Dj N0 a l ⟨S⟩=some 0):Mi N0 a l ⟨S⟩=some (⟨S.map (redP (Az a))⟩,0):=by
 unfold Mi;rw [e,A3,Ah,A5,if_pos rfl,y4d h,Cd];have:=zn2 h b N0 0 [] (aA _) (by have:=b.ln;have:=h.len;unfold N0;omega) (by simp);simpa using this
theorem zlv (h:GS a l)(e:RsOk a rs)(b:Dc a l S):∀ (m i:Nat) (out:List (List Cf)),i<=S.length->S.length<m+i->out.length<=i->Ow N0 ⟨S⟩ rs (fun y=>some (⟨y⟩,0)) m ((i:Int),out)=some (⟨out++(S.drop i).map (redP (Az a))⟩,0)
 |0,i,out,h1,k,_=>by omega
 |m+1,i,out,h1,k,o=>by
  have g:=h.len;have f:=b.ln;unfold Ow;simp only [aB,A5];by_cases hi:i<S.length
  ·have n:=b.few i hi;rw [if_pos (by omega),A9 hi,y6j h.ok e (by omega) (fun c j=>(b.gd i hi c j).cr h (by omega)),A3,Bu (by simp;omega) (by omega),Ad i (by omega),zlv h e b m (i+1) _ (by omega) (by omega) (by simp;omega),aD hi];grind
  grind
theorem y6b (h:GS a l)(f:Dc a l S)(g:Ip N0 a l ⟨S⟩=some 0):L1 N0 a l ⟨S⟩=some (⟨S.map (redP (Az a))⟩,0):=by
 obtain ⟨rs,k,e,b⟩:=zwh h;have m:=h.len;have j:=f.ln;unfold L1;rw [g,A3,Ah,A5,if_pos rfl,k,A3];have:=zlv h ⟨e,b⟩ f N0 0 [] (aA _) (by unfold N0;omega) (by simp);simpa using this
theorem zcl (a:Aut)(p:WfA a)(l:List Ev)(r:Bc):Xt N0 a l r=some true:=by
 have j:Rk N0=some true:=zvd;obtain ⟨b,u,_⟩:=zpy a p l;obtain ⟨S⟩:=r;obtain ⟨N,M,L⟩:=y4b S;have skip:Ey N0 ⟨S⟩ l a true=some true:=by
  unfold Ey;rw [Ao,j,A3]
 unfold Xt;rw [Ay,Al,u,A3,Ah];cases b with
 |false=>rw [Ap];exact skip
 |true =>
  rw [Ao,M,A3];cases N with
  |false=>exact skip
  |true =>
   have n:=L rfl;have key:∀ (T:List (List Cf)) (v:Int),Mn N0 ⟨T⟩ ⟨T⟩=some true->Mi N0 a l ⟨S⟩=some (⟨T⟩,v)->L1 N0 a l ⟨S⟩=some (⟨T⟩,v)->Ey N0 ⟨S⟩ l a (!true)=some true:=fun T v g h1 o=>by
    unfold Ey;rw [Bool.not_true,Ap,h1,o,A3,A3,Ay,Al,g,A3,Ao,A5,if_pos rfl,j,A3];unfold Hw;rfl
   have err:∀ v:Int,v≠0->Dj N0 a l ⟨S⟩=some v->Ip N0 a l ⟨S⟩=some v->Ey N0 ⟨S⟩ l a (!true)=some true:=fun v g h1 o=>by
    refine key [] v zus ?_ ?_
    ·unfold Mi;rw [h1,A3,Ah,A5,if_neg g]
    ·unfold L1;rw [o,A3,Ah,A5,if_neg g]
   obtain ⟨e,K,t,J⟩:=y7v p u;by_cases g:e=0
   ·have h:=J g;have F:F5 N0 a l=some 0:=by rw [t,g]
    have m:=y0j h F n;obtain ⟨v,k,_⟩:=y0p h n;by_cases A:v=0
    ·subst A;have ok:Dc a l S:=by
      obtain ⟨f,I,G⟩:=zwq h n;refine G (Decidable.byContradiction fun q=>?_);unfold Dj at k;rw [zaj h,A3,Ah,A5,if_pos rfl,I,A3,Ah,A5,if_neg q] at k;exact q (Option.some.inj k)
     have B:=ok.ln;have D:=h.len;refine key _ 0 (y2p (by simp;omega) (fun x z=>?_)) (y73 h ok k) (y6b h ok (m.trans k));obtain ⟨s,C,rfl⟩:=mem_map.1 z;obtain ⟨y,w⟩:=zw5 h ok s C;exact ⟨Nat.le_trans (zcs _ s).length_le y,fun c E=>w c ((zcs _ s).subset E)⟩
    grind
   ·refine err e g ?_ ?_
    ·unfold Dj;rw [K,A3,Ah,A5,if_neg g]
    ·unfold Ip;rw [t,A3,Ah,A5,if_neg g]
open Go.ChangeShapes Go.WideShapes Go.ChangeAt
theorem zve {w:World}{S:Nat->Prop}{a b c:AV}{x y z:Value}(h:Rep w S G0 a x)(g:Rep w S G0 b y)(f:Rep w S G0 c z):Args w S [a,b,c] #[x,y,z] :=
 ⟨rfl,fun i hi=>by
  have e:i<3:=hi;rcases i with _|_|_|i
  ·exact h
  ·exact g
  ·exact f
  ·omega⟩
theorem y1f:ownKnob Tryz.prog.godebug=none:=by kernel_rfl
theorem y1l:laidOutB Tryz.prog=true:=by kernel_rfl
section
variable {H:Type} {enc:TypeId×Value->H}
theorem zaz {W W':World}{sp':Nat->Bool}(n:Below W.heap.size W W')(e:List TypeId):∀ (vs:List Value) (ds:List (DataW H)) (p:List MemPlace),e.all (fun t=>Tryz.prog.readableRec t && decide (t<Tryz.prog.types.size))=true ->
  DataW.TrodAll enc Tryz.prog W 0 (fun _=>true) true e vs ds p->(∀ x∈p,x.block<W.heap.size)->(∀ x∈p,sp' x.block=true)->DataW.TrodAll enc Tryz.prog W' 0 sp' true e vs ds p:=by
 induction e with
 |nil =>
  intro vs ds p _ h _ _
  match vs,ds,h with
  |[],[],h=>exact h
  |_::_,_,h=>exact h.elim
  |[],_::_,h=>exact h.elim
 |cons t e ih =>
  intro vs ds p m h g k
  match vs,ds,h with
  |v::vs,d::ds,h =>
   obtain ⟨q,r,h1,o,rfl⟩:=h;have f:Tryz.prog.readableRec t=true/\t<Tryz.prog.types.size:=by
    have:=aK.mp m t (mem_cons_self ..);rw [aE,decide_eq_true_eq] at this;exact this
   have j:e.all (fun t=>Tryz.prog.readableRec t && decide (t<Tryz.prog.types.size))=true :=
    aK.mpr fun x b=>aK.mp m x (aL _ b)
   exact ⟨q,r,WideElems.Trod_stays y1l f.1 f.2 h1 (fun x b=>n.same (g x (aM _ b))) (fun x b=>k x (aM _ b)),
    ih vs ds r j o (fun x b=>g x (aS _ b)) (fun x b=>k x (aS _ b)),rfl⟩
  |[],_,h=>exact h.elim
  |_::_,[],h=>exact h.elim
theorem zpb {W:World}{b:Nat}{sp:Nat->Bool}(e:List TypeId):∀ (vs:List Value) (ds:List (DataW H)) (p:List MemPlace),DataW.TrodAll enc Tryz.prog W b sp true e vs ds p->ds.length=e.length:=by
 induction e with
 |nil =>
  intro vs ds p h
  match vs,ds,h with
  |[],[],h=>rfl
  |_::_,_,h=>exact h.elim
  |[],_::_,h=>exact h.elim
 |cons t e f =>
  intro vs ds p h
  match vs,ds,h with
  |v::vs,d::ds,h =>
   obtain ⟨q,r,h1,g,rfl⟩:=h;simp only [length_cons];rw [f vs ds r g]
  |[],_,h=>exact h.elim
  |_::_,[],h=>exact h.elim
end
end Go.Proofs.YtidhlpjgifoneaaGreat
