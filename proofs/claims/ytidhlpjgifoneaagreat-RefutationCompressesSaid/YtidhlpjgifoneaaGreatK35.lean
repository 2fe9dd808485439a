/- Layer 57, plainly. -/
import Derived.Test.YtidhlpjgifoneaaGreatK34
set_option linter.unusedVariables false
set_option linter.unusedSimpArgs false
namespace Go.Proofs.YtidhlpjgifoneaaGreat
open Go.RowKit List
open List renaming drop_eq_getElem_cons->aA,getElem_mem->aB,getElem?_eq_getElem->aC,length_map->aE,replicate->aF,drop_eq_nil_of_le->aH,getD_eq_getElem?_getD->aJ,mem_cons_of_mem->aN,countP_mono_left->aP,range->aQ,mem_map->aR,mem_range->aS
open Nat renaming zero_le->aD,le_trans->aO
open Int renaming toNat_natCast->aG
open Or renaming inl->aK,inr->aL
open Bool renaming and_eq_true->aM
open Classical in
noncomputable def unm (os:List Mp)(v:Int)(n:Nat):Nat:=(aQ n).countP (fun t=>decide (¬hasO os t v))
theorem zeq {α:Type}{p q:α->Bool}:∀ {l:List α},(∀ x∈l,q x=true->p x=true)->(∃ x∈l,p x=true/\q x=false)->l.countP q<l.countP p
 |[],_,h=>by simp_all
 |y::r,h1,c=>by
  have hm:r.countP q<=r.countP p:=aP (fun x b=>h1 x (aN _ b));obtain ⟨x,b,px,qx⟩:=c;rw [countP_cons,countP_cons];rcases mem_cons.1 b with e|e
  ·grind
  ·have d:=zeq (l:=r) (fun x b=>h1 x (aN _ b)) ⟨x,e,px,qx⟩;grind
variable {os os':List Mp}{v:Int}{n:Nat}
theorem y60 (h:∀ t,hasO os t v->hasO os' t v):unm os' v n<=unm os v n:=by
 unfold unm;refine aP (fun t _ b=>?_);grind
theorem y5z {s:Nat}(h:∀ t,hasO os t v->hasO os' t v)(b:s<n)(h1:¬hasO os s v)(c:hasO os' s v):unm os' v n<unm os v n:=by
 unfold unm;refine zeq (fun t _ d=>?_) ⟨s,aS.2 b,by simpa using h1,by simpa using c⟩;grind
theorem y83 (os:List Mp)(v:Int)(n:Nat):unm os v n<=n:=by
 unfold unm;exact aO (countP_le_length) (by simp)
inductive Bk (bk:List (List Int)):Nat->Nat->Prop
 |refl (s:Nat):Bk bk s s
 |step (t y s:Nat) (h:(y:Int)∈bk.getD s []) (ht:Bk bk t y):Bk bk t s
structure BkOk (n:Nat) (bk:List (List Int)):Prop where
 len:bk.length=n
 big:∀ q∈bk,q.length<=1100000
 mem:∀ q∈bk,∀ y∈q,0<=y/\y<(n:Int)
structure Sp (n:Nat) (bk:List (List Int)) (v:Int) (os:List Mp) (ss:Nat->Prop) (os':List Mp):Prop where
 ok:OsOk n os'
 mono:∀ t x,hasO os t x->hasO os' t x
 snd:∀ t x,hasO os' t x->hasO os t x\/(x=v/\∃ s,ss s/\Bk bk t s)
 mark:∀ s,ss s->hasO os' s v
 clo:∀ t,hasO os' t v->hasO os t v\/∀ y:Nat,(y:Int)∈bk.getD t []->hasO os' y v
def Spr (n:Nat)(bk:List (List Int))(v:Int)(u:Nat):Prop:=∀ (os:List Mp) (s:Nat),s<n->OsOk n os->unm os v n<=u->∀ f,u+2000000<f->∃ os',Im f (s:Int) v n (ixs n n,os) bk=some (n,(ixs n n,os'),bk)/\Sp n bk v os (fun x=>x=s) os'
variable {bk:List (List Int)}
theorem zs8 (G:BkOk n bk){u:Nat}(IH:Spr n bk v u)(f:Nat)(D:u+2000000<f)(c:List Int)(k:∀ y∈c,0<=y/\y<(n:Int))(z:c.length<=1100000)(K:Nat->Ars Mp->List (List Int)->Option (Nat×Ars Mp×List (List Int))) :
  ∀ (m j:Nat) (os:List Mp),j<=c.length->c.length<m+j->OsOk n os->unm os v n<=u->∃ os',P7 f (Im f) v c K m ((j:Int),n,bk,(ixs n n,os))=K n (ixs n n,os') bk/\Sp n bk v os (fun x=>(x:Int)∈c.drop j) os'
 |0,j,os,h1,H,_,_=>by omega
 |m+1,j,os,h1,H,C,B=>by
  unfold P7;simp only [aE,A5];by_cases h:j<c.length
  ·obtain ⟨y,q⟩:∃ y:Nat,c[j]=(y:Int):=⟨c[j].toNat,by have:=k _ (aB h);omega⟩;have w:y<n:=by have:=k _ (aB h);omega
   obtain ⟨r,F,p⟩:=IH os y w C B f D;rw [if_pos (by omega),A9 h,q,F,Cd,Ad j (by omega)];obtain ⟨os',E,g⟩:=zs8 G IH f D c k z K m (j+1) r (by omega) (by omega) p.ok (aO (y60 (fun t d=>p.mono t v d)) B);refine ⟨os',E,⟨g.ok,fun t x b=>g.mono t x (p.mono t x b),fun t x b=>?_,fun s i=>?_,fun t d=>?_⟩⟩
   ·rcases g.snd t x b with b|⟨e,s,i,o⟩
    ·rcases p.snd t x b with b|⟨e,s,i,o⟩
     ·exact aK b
     ·subst i;exact aL ⟨e,s,by rw [aA h,q];simp,o⟩
    ·exact aL ⟨e,s,by rw [aA h];exact aN _ i,o⟩
   ·rw [aA h,q] at i;rcases mem_cons.1 i with e|e
    ·have:s=y:=by omega
     exact g.mono s v (p.mark s this)
    ·exact g.mark s e
   ·rcases g.clo t d with d|A
    ·rcases p.clo t d with d|A
     ·exact aK d
     ·exact aL (fun y q=>g.mono y v (A y q))
    ·exact aL A
  ·rw [if_neg (by omega)];refine ⟨os,rfl,⟨C,fun t x b=>b,fun t x b=>aK b,fun s i=>?_,fun t d=>aK d⟩⟩;grind
theorem y8h (o:BkOk n bk)(H:0<=v/\v<16)(P:n<=1000):∀ u,Spr n bk v u:=by
 intro u
 induction u using Nat.strongRecOn with
 |ind u IH =>
  intro os s j z O f Q;obtain ⟨r,rfl⟩:∃ r,f=r + 1:=⟨f-1,by omega⟩;obtain ⟨l,q,hm⟩:=z.at j;simp only [Im];rw [Dp (by omega) (by rw [aG];exact j),aG,zu6 j,y80 q];have k:hasO os s v ↔ has l v:=⟨fun ⟨N,h1,S⟩=>by simp_all,fun h=>⟨l,q,h⟩⟩;by_cases g:has l v
  ·rw [(ziy hm v).2 g,Ao];exact ⟨os,rfl,⟨z,fun t x b=>b,fun t x b=>aK b,fun x b=>by rw [b];exact k.2 g,fun t d=>aK d⟩⟩
  ·have A:(mlk l v).getD false=false:=by
    cases h:(mlk l v).getD false with
    |false=>rfl
    |true=>exact absurd ((ziy hm v).1 h) g
   obtain ⟨G,o2⟩:=z.put q H;rw [A,Ap,Dp (by omega) (by rw [aG];exact j),zu6 j,zzi q hm.srt];have c:s<bk.length:=by rw [o.len];exact j
   rw [A9 c];have J:unm (os.set s (sput l v true)) v n<unm os v n:=y5z (fun t d=>(o2 t v).2 (aK d)) j (fun h=>g (k.1 h)) ((o2 s v).2 (aL ⟨rfl,rfl⟩));have m:bk.getD s []=bk[s]:=by rw [aJ,aC c];rfl
   obtain ⟨w,I⟩:∃ w,u=w + 1:=⟨u-1,by omega⟩;obtain ⟨os',F,i⟩:=zs8 o (IH w (by omega)) r (by omega) bk[s] (o.mem _ (aB c)) (o.big _ (aB c)) (fun E D C=>some (E,D,C)) r 0 _ (aD _) (by have:=o.big _ (aB c);omega) G (by omega);rw [drop_zero] at i;refine ⟨os',F,⟨i.ok,fun t x b=>i.mono t x ((o2 t x).2 (aK b)),fun t x b=>?_,fun x b=>?_,fun t d=>?_⟩⟩
   ·rcases i.snd t x b with b|⟨e,y,p,B⟩
    ·rcases (o2 t x).1 b with b|⟨M,L⟩
     ·exact aK b
     ·subst M;exact aL ⟨L,_,rfl,.refl _⟩
    ·refine aL ⟨e,s,rfl,.step t y s (by rw [m];exact p) B⟩
   ·subst b;exact i.mono _ v ((o2 _ v).2 (aL ⟨rfl,rfl⟩))
   ·rcases i.clo t d with d|K
    ·rcases (o2 t v).1 d with d|⟨e,_⟩
     ·exact aK d
     ·subst e;exact aL (fun y p=>i.mark y (by rw [m] at p;exact p))
    ·exact aL K
section
variable {β α:Type}
theorem y4p (a b:Option β):nxt ([]:List α) a b=a:=by unfold nxt;rfl
theorem y1h (x:α)(l:List α)(a b:Option β):nxt (x::l) a b=b:=by unfold nxt;rfl
end
structure Mk (a:Aut) (bk:List (List Int)) (os:List Mp):Prop where
 ok:OsOk a.fStates.length os
 snd:∀ t x,hasO os t x->Rd a t x
 clo:∀ t x,hasO os t x->∀ y:Nat,(y:Int)∈bk.getD t []->hasO os y x
structure BkA (a:Aut) (bk:List (List Int)):Prop where
 ok:BkOk a.fStates.length bk
 mem:∀ (t y:Nat),t<a.fStates.length->((y:Int)∈bk.getD t [] ↔ ∃ ed∈a.fEdges,ed.fTo=(t:Int)/\ed.fFrom=(y:Int))
variable {a:Aut}
theorem y91 (e:BkA a bk){t s:Nat}(h:Bk bk t s){x:Int}(d:Rd a s x):Rd a t x:=by
 induction h with
 |refl=>exact d
 |step y s b _ f =>
  have c:s<a.fStates.length:=by
   by_cases c:s<a.fStates.length
   ·exact c
   ·rw [aJ,getElem?_eq_none (by rw [e.ok.len];omega)] at b;simp at b
  obtain ⟨ed,h1,i,g⟩:=(e.mem s y c).1 b;exact f (.step ed h1 y s x g i d)
theorem Mk.spread (k:BkA a bk)(p:a.fStates.length<=1000)(h:Mk a bk os){i:Nat}(hi:i<a.fStates.length)(j:OwnV a i v):∃ os',Im N0 (i:Int) v a.fStates.length (ixs a.fStates.length a.fStates.length,os) bk=some (a.fStates.length,(ixs a.fStates.length a.fStates.length,os'),bk)/\Mk a bk os'/\(∀ t x,hasO os t x->hasO os' t x)/\hasO os' i v:=by
 obtain ⟨os',m,b⟩:=y8h k.ok (zhe j) p a.fStates.length os i hi h.ok (y83 _ _ _) N0 (by unfold N0;omega);refine ⟨os',m,⟨b.ok,fun t x d=>?_,fun t x d y f=>?_⟩,b.mono,b.mark i rfl⟩
 ·rcases b.snd t x d with d|⟨e,s,o,g⟩
  ·exact h.snd t x d
  ·subst o e;exact y91 k g (.own _ _ j)
 ·rcases b.snd t x d with c|⟨e,_⟩
  ·exact b.mono y x (h.clo t x c y f)
  ·subst e;rcases b.clo t d with c|q
   ·exact b.mono y x (h.clo t x c y f)
   ·exact q y f
theorem zx7 (w:BkA a bk)(s:a.fStates.length<=1000)(c:Ars Mp)(e:Int×Nat×List (List Int)×Ars Mp){i:Nat}(hi:i<a.fStates.length)(d:e.1=(i:Int))(K:Nat->Ars Mp->List (List Int)->Option (List Mp))(R:List Mp) :
  ∀ (m:Nat) (b:Mp) (os:List Mp),b.length<m->Mk a bk os->(∀ p∈b,OwnV a i p.1)->(∀ os',Mk a bk os'->(∀ t x,hasO os t x->hasO os' t x)->(∀ p∈b,hasO os' i p.1)->K a.fStates.length (ixs a.fStates.length a.fStates.length,os') bk=some R) ->
   Qe N0 c e K m (a.fStates.length,bk,b,(ixs a.fStates.length a.fStates.length,os))=some R
 |0,b,os,h1,_,_,_=>by omega
 |m+1,b,os,h1,E,k,F=>by
  unfold Qe;simp only;cases b with
  |nil =>
   rw [y4p];simp_all
  |cons p r =>
   rw [y1h];refine y0t (by simp) (fun j u=>?_);have g:=k _ (aB u);obtain ⟨f,C,B,A,H⟩:=E.spread w s hi g;rw [Al,d,C,Cd];refine zx7 w s c e hi d K R m _ f (by grind) B (fun q o=>k q (mem_of_mem_eraseIdx o)) (fun os' z y G=>?_);refine F os' z (fun t x D=>y t x (A t x D)) (fun q o=>?_);have h:=Zl u;grind
theorem zx8 (y:BkA a bk)(u:a.fStates.length<=1000)(own:List Mp)(q:own.length=a.fStates.length)(j:∀ l∈own,l.length<=1000)(d:∀ t x,hasO own t x->OwnV a t x)(c:Ars Mp)(w:aval c=own)(K:Nat->Ars Mp->Option (List Mp))(R:List Mp) :
  ∀ (m i:Nat) (os:List Mp),i<=a.fStates.length->a.fStates.length<m+i->Mk a bk os->(∀ os',Mk a bk os'->(∀ t x,hasO os t x->hasO os' t x)->(∀ t x,i<=t->hasO own t x->hasO os' t x)->K a.fStates.length (ixs a.fStates.length a.fStates.length,os')=some R) ->
   Gu N0 c K m ((i:Int),a.fStates.length,bk,(ixs a.fStates.length a.fStates.length,os))=some R
 |0,i,os,h1,H,_,_=>by omega
 |m+1,i,os,h1,H,s,z=>by
  unfold Gu;simp only [w,aE,A5];by_cases h:i<a.fStates.length
  ·have f:i<own.length:=by omega
   rw [if_pos (by omega),A9 f];have G:∀ p∈own[i],hasO own i p.1:=fun p g=>⟨_,aC f,aR.2 ⟨p,g,rfl⟩⟩
   refine zx7 y u c _ h rfl _ R N0 own[i] os (by grind) s (fun p g=>d _ _ (G p g)) (fun o E D C=>?_);rw [Ad i (by omega)];refine zx8 y u own q j d c w K R m (i+1) o (by omega) (by omega) E (fun os' B r A=>?_);refine z os' B (fun t x b=>r t x (D t x b)) (fun t x F b=>?_);by_cases e:t=i
   ·subst e;obtain ⟨l,k,b⟩:=b;rw [aC f] at k;injection k with k;subst k
    obtain ⟨p,g,rfl⟩:=aR.1 b;exact r _ _ (C p g)
   ·exact A t x (by omega) b
  ·rw [if_neg (by omega)];exact z os s (fun t x b=>b) (fun t x F b=>by
    obtain ⟨l,k,_⟩:=b;grind)
open Classical in
noncomputable def Az (a:Aut):List Mp:=(aQ a.fStates.length).map fun t=>((aQ 16).filter (fun i:Nat=>decide (Rd a t (i:Int)))).map (fun i:Nat=>((i:Int),true))
open Classical in
theorem O6 (a:Aut):OsOk a.fStates.length (Az a)/\∀ t x,hasO (Az a) t x ↔ t<a.fStates.length/\Rd a t x:=by
 unfold Az;refine ⟨⟨by simp,fun l c=>?_⟩,fun t x=>?_⟩
 ·obtain ⟨t,_,rfl⟩:=aR.1 c;refine ⟨?_,fun p e=>?_⟩
  ·unfold Srt;rw [map_map,pairwise_map];refine Pairwise.imp (fun {a b} (h:a<b)=>?_) (pairwise_lt_range.filter _);simp_all
  grind
 ·unfold hasO has;constructor
  ·grind
  ·rintro ⟨h1,d⟩;refine ⟨_,by rw [getElem?_map,getElem?_range h1];rfl,?_⟩;rw [map_map];have f:=y0i d;refine aR.2 ⟨x.toNat,mem_filter.2 ⟨aS.2 (by omega),?_⟩,?_⟩;all_goals grind
theorem y76 (h:OsOk n os)(c:OsOk n os')(f:∀ t x,hasO os t x ↔ hasO os' t x):os=os':=by
 apply ext_getElem
 ·rw [h.len,c.len]
 ·intro i h1 b;refine zy6 (h.map _ (aB h1)) (c.map _ (aB b)) (fun x=>?_);have j:hasO os i x ↔ has os[i] x:=⟨fun ⟨l,e,d⟩=>by simp_all,fun h=>⟨_,aC h1,h⟩⟩;have g:hasO os' i x ↔ has os'[i] x:=⟨fun ⟨l,e,d⟩=>by simp_all,fun h=>⟨_,aC b,h⟩⟩;rw [<-j,<-g,f]
theorem Ee.len {l:Mp}(h:Ee l):l.length<=16:=by
 have s:Str cmpI (l.map (·.1)):=h.srt.imp (fun q=>(Xf _ _).2 q);have key:∀ (q:List Int) (c:Int),q.Pairwise (· < ·)->(∀ x∈q,c<=x/\x<16)->(q.length:Int)<=max 0 (16-c):=fun q=>by
  induction q with
  |nil=>intro c _ _;simp;omega
  |cons y r f =>
   intro c b g;have h1:=g y (by simp);obtain ⟨i,e⟩:=pairwise_cons.1 b;have:=f (y+1) e (fun x d=>by grind);grind
 have:=key (l.map (·.1)) 0 (show (l.map (·.1)).Pairwise (· < ·) from h.srt) (fun x d=>by
  obtain ⟨p,b,rfl⟩:=aR.1 d;exact (h.all p b).2)
 grind
theorem zh2 (B:WfA a)(u:AOk a)(E:∀ x∈a.fEdges,x.fChecks.length<=1100000):Ur N0 a=some (Az a):=by
 have N:=u.st;have O:=B.le;unfold Ur;rw [aE,y2y (by omega),y3j,Al,zy3];obtain ⟨own1,Q,P,K⟩:=zxb B (by omega) (fun k1_0_0y0 k1_0_0y1=>mkn ((a.fStates.length:Nat):Int) 24 fun f =>
  nst 53 <| reg <| Gv N0 a f
   (fun k2_1_0y0 k2_1_0y1 k2_1_0y2=>mkm ((a.fStates.length:Nat):Int) 8 fun d =>
  are 92 <| reg <| Ie N0 f k2_1_0y0 k2_1_0y1 k2_1_0y2 d
   (fun k3_2_0y0 k3_2_0y1=>frr 53 <| reg <| frm 7021 <| reg <| Gu N0 k2_1_0y1
   (fun k4_3_0y0 k4_3_0y1=>frm 7092 <| reg <| some (aval k4_3_0y1)) N0 (0,k3_2_0y0,k2_1_0y2,k3_2_0y1)) N0 (0,(mkA Mp d))) N0 (0,k1_0_0y0,(aF (f) ([]:List Int)),k1_0_0y1)) N0 0 [] (aD _) (by unfold N0;omega) ⟨rfl,by simp⟩
 refine Eq.trans Q ?_;rw [zy2 (by omega) (by omega),aG,zxx,Al];obtain ⟨b,S,z,L⟩:=zxa B u E (fun k2_1_0y0 k2_1_0y1 k2_1_0y2=>mkm ((a.fStates.length:Nat):Int) 8 fun d =>
  are 92 <| reg <| Ie N0 a.fStates.length k2_1_0y0 k2_1_0y1 k2_1_0y2 d
   (fun k3_2_0y0 k3_2_0y1=>frr 53 <| reg <| frm 7021 <| reg <| Gu N0 k2_1_0y1
   (fun k4_3_0y0 k4_3_0y1=>frm 7092 <| reg <| some (aval k4_3_0y1)) N0 (0,k3_2_0y0,k2_1_0y2,k3_2_0y1)) N0 (0,(mkA Mp d))) N0 0 (aF a.fStates.length []) own1 (aD _) (by unfold N0;omega) P (by simp) (fun q e=>by simp_all)
 refine Eq.trans S ?_;rw [y2y (by omega),y3j,Al,zy3];have M:=zx9 (n:=a.fStates.length) (by omega) a.fStates.length a.fStates.length (ixs a.fStates.length a.fStates.length,b) ((a.fEdges.drop 0).foldl Cp (aF a.fStates.length [])) (fun k3_2_0y0 k3_2_0y1=>frr 53 <| reg <| frm 7021 <| reg <| Gu N0 (ixs a.fStates.length a.fStates.length,b)
   (fun k4_3_0y0 k4_3_0y1=>frm 7092 <| reg <| some (aval k4_3_0y1)) N0 (0,k3_2_0y0,((a.fEdges.drop 0).foldl Cp (aF a.fStates.length [])),k3_2_0y1)) N0 0 [] (aD _) (by unfold N0;omega) rfl
 refine Eq.trans M ?_;simp only [zyi,Al,y7e,nil_append,Nat.sub_zero];rw [drop_zero];have m:∀ t x,hasO b t x ↔ OwnV a t x/\t<a.fStates.length:=fun t x=>by
  rw [L,K];constructor
  ·intro h;refine ⟨?_,?_⟩
   ·rcases h with (⟨l,c,_⟩|⟨_,h⟩)|⟨ed,h1,w,I⟩
    ·simp at c
    ·exact aK h
    ·exact aL ⟨ed,by simpa using h1,w,I⟩
   ·have:hasO b t x:=by rw [L,K];exact h
    obtain ⟨l,c,_⟩:=this;rw [<-z.len];grind
  ·rintro ⟨h|⟨ed,h1,w,I⟩,_⟩;all_goals grind
 have o:(a.fEdges.foldl Cp (aF a.fStates.length [])).length=a.fStates.length:=by rw [zhl];simp
 have F:∀ (t:Nat) (y:Int),t<a.fStates.length->(y∈(a.fEdges.foldl Cp (aF a.fStates.length [])).getD t [] ↔ ∃ ed∈a.fEdges,ed.fTo=(t:Int)/\y=ed.fFrom):=fun t y g=>by
  rw [zhk _ _ (by simpa using g)];simp_all
 have p:BkA a (a.fEdges.foldl Cp (aF a.fStates.length [])):=by
  refine ⟨⟨o,fun q e=>?_,fun q e y U=>?_⟩,fun t y g=>?_⟩
  ·have big:∀ (l:List Ed) (bk:List (List Int)) (k:Nat),(∀ q∈bk,q.length<=k)->∀ q∈l.foldl Cp bk,q.length<=k+l.length:=fun l=>by
    induction l with
    |nil=>intro bk k h q e;exact h q e
    |cons x r A =>
     intro bk k h q e;have:=A (Cp bk x) (k+1) (zzq h) q e;grind
   have:=big a.fEdges (aF a.fStates.length []) 0 (fun q e=>by simp_all) q e;omega
  ·obtain ⟨t,g,rfl⟩:=mem_iff_getElem.1 e;have C:t<a.fStates.length:=by rw [o] at g;exact g
   obtain ⟨ed,h1,_,rfl⟩:=(F t y C).1 (by simp_all);exact (u.ed _ h1).frm
  ·grind
 have D:Mk a (a.fEdges.foldl Cp (aF a.fStates.length [])) (aF a.fStates.length []):=by
  have J:∀ t x,¬hasO (aF a.fStates.length ([]:Mp)) t x:=fun t x ⟨l,c,j⟩=>by
   rw [getElem?_replicate] at c;split at c
   ·injection c with c;subst c;simp [has] at j
   ·cases c
  exact ⟨⟨by simp,fun l c=>by rw [eq_of_mem_replicate c];exact zn6⟩,fun t x j=>absurd j (J t x),fun t x j=>absurd j (J t x)⟩
 refine zx8 p (by omega) b z.len (fun l c=>by have:=(z.map l c).len;omega) (fun t x h=>((m t x).1 h).1) (ixs a.fStates.length a.fStates.length,b) (zoo z.len) _ (Az a) N0 0 _ (aD _) (by unfold N0;omega) D (fun os' i _ T=>?_);rw [zoo i.ok.len];congr 1;refine y76 i.ok (O6 a).1 (fun t x=>?_);rw [(O6 a).2];constructor
 ·intro h;refine ⟨?_,i.snd t x h⟩;obtain ⟨l,c,_⟩:=h;rw [<-i.ok.len];grind
 ·rintro ⟨g,h⟩
  induction h with
  |own t x h=>grind
  |step ed H t s x h1 w h A =>
   have G:s<a.fStates.length:=by have:=(u.ed _ H).tgt;omega
   exact i.clo s x (A G) t ((p.mem s t G).2 ⟨ed,H,w,h1⟩)
def cvS (x y:Sta):Bool:=decide (x.fScope=y.fScope) && decide (y.fTime<=x.fTime)
def cvL:List Sta->List Sta->Bool |[],[]=>true |x::r,y::s=>cvS x y && cvL r s |_,_=>false
def rdB (m:Mp)(l:List Bd):List Bd:=l.filter (fun b=>(mlk m b.fVar).getD false)
def rdC (R:List Mp)(c:Cf):List Bd:=rdB (R.getD c.fState.toNat []) c.fBindings
def cov (R:List Mp)(c d:Cf):Bool:=decide (c.fState=d.fState) && (cvL c.fStarts d.fStarts && decide (rdC R c=rdC R d))
structure CS (R:List Mp) (c:Cf):Prop where
 st:0<=c.fState/\c.fState<(R.length:Int)
 lb:c.fBindings.length<=1000000
 ls:c.fStarts.length<=1000000
theorem zyw:∀ {l m:List Sta},cvL l m=true->l.length=m.length
 |[],[],_=>rfl
 |x::r,y::s,h=>by
  unfold cvL at h;rw [aM] at h;simp [zyw h.2]
 |[],_::_,h=>by cases h
 |_::_,[],h=>by cases h
theorem znk:∀ {a b c:List Sta},cvL a b=true->cvL b c=true->cvL a c=true
 |[],[],[],_,_=>rfl
 |x::a,y::b,z::c,h1,d=>by
  unfold cvL at h1 d ⊢;rw [aM] at h1 d ⊢;refine ⟨?_,znk h1.2 d.2⟩;have f:=h1.1;have e:=d.1;unfold cvS at f e ⊢;grind
 |[],_::_,_,h,_=>by cases h
 |_::_,[],_,h,_=>by cases h
 |_,[],_::_,_,h=>by cases h
 |_,_::_,[],_,h=>by cases h
variable {R:List Mp}
theorem zyz {a b c:Cf}(h1:cov R a b=true)(d:cov R b c=true):cov R a c=true:=by
 unfold cov at h1 d ⊢;simp only [aM,decide_eq_true_eq] at h1 d ⊢;exact ⟨h1.1.trans d.1,znk h1.2.1 d.2.1,h1.2.2.trans d.2.2⟩
theorem y8q (n:Nat)(x y:Sta):U5 n x y=some (cvS x y):=by
 unfold U5 cvS;simp only [Ay,Al,K9,A5];grind
theorem zsr (a b:List Sta)(e:a.length=b.length)(f:a.length<=1000000):∀ (m k:Nat),k<=a.length->a.length<m+k->Rm N0 b a (some true) m (k:Int)=some (cvL (a.drop k) (b.drop k))
 |0,k,h1,g=>by omega
 |m+1,k,h1,g=>by
  unfold Rm;simp only [aE,A5];by_cases h:k<a.length
  ·have c:k<b.length:=by omega
   rw [if_pos (by omega),A9 h,A9 c,y8q,A3,aA h,aA c,Ad k (by omega)];have d:=zsr a b e f m (k+1) (by omega) (by omega);unfold cvL;cases i:cvS a[k] b[k]
   ·rw [show (!false)=true from rfl,Ao];simp
   ·rw [show (!true)=false from rfl,Ap,d];simp
  ·rw [if_neg (by omega),aH (by omega),aH (by omega)];rfl
theorem y39 {a b:List Sta}(h:a.length≠b.length):cvL a b=false:=by
 cases c:cvL a b with
 |false=>rfl
 |true=>exact absurd (zyw c) h
theorem y8r (a b:List Sta)(c:a.length<=1000000):Vr N0 a b=some (cvL a b):=by
 unfold Vr;simp only [aE,Ah,A5];by_cases h:a.length=b.length
 ·rw [if_pos (by omega)];have:=zsr a b h c N0 0 (aD _) (by unfold N0;omega);simpa using this
 ·rw [if_neg (by omega),y39 h]
theorem ziq (m:Mp)(c:Cf)(b:c.fBindings.length<=1000000)(K:List Bd->Option (List Bd)):∀ (f k:Nat) (out:List Bd),k<=c.fBindings.length->c.fBindings.length<f+k->out.length<=k->Mq N0 m c K f ((k:Int),out)=K (out++rdB m (c.fBindings.drop k))
 |0,k,out,h1,d,_=>by omega
 |f+1,k,out,h1,d,g=>by
  unfold Mq;simp only [aE,A5,Al,Xl];by_cases h:k<c.fBindings.length
  ·rw [if_pos (by omega),A9 h,aA h,Ad k (by omega)];have iha:=ziq m c b K f (k+1) (out++[c.fBindings[k]]) (by omega) (by omega) (by simp;omega);have ihb:=ziq m c b K f (k+1) out (by omega) (by omega) (by omega);have e:(⟨c.fBindings[k].fVar,⟨c.fBindings[k].fRef.fTime,c.fBindings[k].fRef.fSource,c.fBindings[k].fRef.fSeq⟩⟩:Bd)=c.fBindings[k]:=rfl;simp only [e];unfold rdB;rw [filter_cons];cases hm:(mlk m c.fBindings[k].fVar).getD false
   ·rw [Ap,ihb];simp [rdB]
   ·rw [Ao,Bu (by simp;omega) (by omega),iha];simp [rdB]
  ·rw [if_neg (by omega),aH (by omega)];simp [rdB]
theorem y2r (m:Mp)(c:Cf)(b:c.fBindings.length<=1000000):Sf N0 c m=some (rdB m c.fBindings):=by
 unfold Sf;have:=ziq m c b (fun y=>some y) N0 0 [] (aD _) (by unfold N0;omega) (by simp);simpa using this
theorem y7y (x y:Bd):(decide (x.fVar=y.fVar) && (decide (x.fRef.fTime=y.fRef.fTime) && (decide (x.fRef.fSource=y.fRef.fSource) && (decide (x.fRef.fSeq=y.fRef.fSeq) && true))))=decide (x=y):=by
 obtain ⟨v,t,s,q⟩:=x;obtain ⟨v',b,c,d⟩:=y;simp
theorem zso (a b:List Bd)(d:a.length=b.length)(f:a.length<=1000000):∀ (m k:Nat),k<=a.length->a.length<m+k->Sa N0 b a (some true) m (k:Int)=some (decide (a.drop k=b.drop k))
 |0,k,h1,g=>by omega
 |m+1,k,h1,g=>by
  unfold Sa;simp only [aE,A5,y7y];by_cases h:k<a.length
  ·have c:k<b.length:=by omega
   rw [if_pos (by omega),A9 h,A9 c,aA h,aA c,Ad k (by omega)];have i:=zso a b d f m (k+1) (by omega) (by omega);rw [Ah,A5];by_cases e:a[k]=b[k]
   ·have q:(a[k]::a.drop (k+1)=b[k]::b.drop (k+1)) ↔ a.drop (k+1)=b.drop (k+1):=⟨fun h=>(List.cons.inj h).2,fun h=>by rw [e,h]⟩;simp_all
   ·have q:¬(a[k]::a.drop (k+1)=b[k]::b.drop (k+1)):=fun h=>e (List.cons.inj h).1
    rw [if_neg e,decide_eq_false q]
  grind
theorem y6y (a b:List Bd)(c:a.length<=1000000):Sr N0 a b=some (decide (a=b)):=by
 unfold Sr;simp only [aE,Ah,A5];by_cases h:a.length=b.length
 ·rw [if_pos (by omega)];have:=zso a b h c N0 0 (aD _) (by unfold N0;omega);simpa using this
 ·rw [if_neg (by omega)];have:a≠b:=fun e=>h (by rw [e])
  simp [this]
theorem y4e {c d:Cf}(e:CS R c)(g:CS R d):Lq N0 c d R=some (cov R c d):=by
 have h1:=e.st;unfold Lq cov;simp only [Ay,Al,I5,A5,y8r _ _ e.ls,A3];by_cases h:c.fState=d.fState
 ·rw [if_pos h];obtain ⟨s,f⟩:∃ s:Nat,c.fState=(s:Int):=⟨c.fState.toNat,by omega⟩;have b:s<R.length:=by omega
  have j:R.getD s []=R[s]:=by rw [aJ,aC b];rfl
  cases i:cvL c.fStarts d.fStarts
  ·rw [Ap];simp
  ·rw [Ao,<-h,f,A9 b,y2r _ _ e.lb,A3,A9 b,y2r _ _ g.lb,A3,y6y _ _ (aO (show (rdB R[s] c.fBindings).length<=c.fBindings.length from length_filter_le _ _) e.lb),A3];unfold rdC;grind
 ·rw [if_neg h];simp [h]
def cfD:Cf:=⟨0,[],[]⟩
def bet (R:List Mp)(l:List Cf)(k i:Nat):Bool:=decide (k≠i) && (cov R (l.getD k cfD) (l.getD i cfD) && (decide (k<i) || !cov R (l.getD i cfD) (l.getD k cfD)))
def Ht (R:List Mp)(l:List Cf)(i:Nat):Bool:=!(aQ l.length).any (fun k=>bet R l k i)
def redI (R:List Mp)(l:List Cf):List Nat:=(aQ l.length).filter (Ht R l)
def redP (R:List Mp)(l:List Cf):List Cf:=(redI R l).map (fun i=>l.getD i cfD)
variable {l:List Cf}
theorem Ta {k:Nat}(h:k<l.length):l.getD k cfD=l[k]:=by simp_all
theorem zsd (g:l.length<=1000000)(b:∀ c∈l,CS R c)(i:Nat)(hi:i<l.length)(out:List Cf)(K:Int->Int->List Bd->List Sta->Option (List Cf)) :
  ∀ (m k:Nat),k<=l.length->l.length<m+k->∃ y:Int,Fp N0 R l ((i:Int),out) l[i] K m (k:Int)=K y l[i].fState l[i].fBindings l[i].fStarts/\(y<0 ↔ ∀ j,k<=j->j<l.length->bet R l j i=false)
 |0,k,h1,r=>by omega
 |m+1,k,h1,r=>by
  unfold Fp;simp only [aE,A5,Ah,Ay,Al,Gl];by_cases h:k<l.length
  ·rw [if_pos (by omega),A9 h];obtain ⟨y,t,s⟩:=zsd g b i hi out K m (k+1) (by omega) (by omega);rw [Ad k (by omega),y4e (b _ (aB h)) (b _ (aB hi)),y4e (b _ (aB hi)) (b _ (aB h)),A3,A3];have d:bet R l k i=(decide (k≠i) && (cov R l[k] l[i] && (decide (k<i) || !cov R l[i] l[k]))):=by unfold bet;rw [Ta h,Ta hi]
   have yes:bet R l k i=true->(((k:Nat):Int)<0 ↔ ∀ j,k<=j->j<l.length->bet R l j i=false):=fun q=>⟨fun f=>by omega,fun f=>by simp_all⟩
   have no:bet R l k i=false->(y<0 ↔ ∀ j,k<=j->j<l.length->bet R l j i=false):=fun q=>by
    grind
   by_cases e:k=i
   ·rw [if_pos (by omega),Ap];grind
   ·rw [if_neg (by omega)];cases p:cov R l[k] l[i]
    ·rw [Ap,Ap];grind
    ·rw [Ao];by_cases u:k<i
     ·rw [if_pos (by omega),Ao];grind
     ·rw [if_neg (by omega)];cases o:cov R l[i] l[k]
      ·simp only [Ap];grind
      ·simp only [Ao];grind
  ·rw [if_neg (by omega)];grind
theorem zio (f:l.length<=1000000)(e:∀ c∈l,CS R c)(K:List Cf->Option (List Cf)) :
  ∀ (m i:Nat) (out:List Cf),i<=l.length->l.length<m+i->out.length<=i->Gk N0 R l K m ((i:Int),out)=K (out++(((aQ l.length).drop i).filter (Ht R l)).map (fun i=>l.getD i cfD))
 |0,i,out,h1,s,_=>by omega
 |m+1,i,out,h1,s,u=>by
  unfold Gk;simp only [aE,A5,Al];by_cases h:i<l.length
  ·rw [if_pos (by omega),A9 h];obtain ⟨y,q,p⟩:=zsd f e i h out (fun k2_1_0y0 k2_1_0y1 k2_1_0y2 k2_1_0y3=>if k2_1_0y0<0 then (app out ([⟨k2_1_0y1,k2_1_0y2,k2_1_0y3⟩]) 56 fun d=>(Gk N0 R l K m) ((IntKind.wrap .i64 ((i:Int)+1)),d)) else (Gk N0 R l K m) ((IntKind.wrap .i64 ((i:Int)+1)),out)) N0 0 (aD _) (by unfold N0;omega);refine Eq.trans q ?_;have r:(aQ l.length).drop i=i::(aQ l.length).drop (i+1):=by
    rw [aA (by simpa using h)];simp
   rw [r,filter_cons,Ad i (by omega)];have k:Ht R l i=true ↔ y<0:=by
    rw [p];unfold Ht;rw [Bool.not_eq_true',any_eq_false];exact ⟨fun g j _ o=>by simp_all,fun g j o=>by rw [g j (aD _) (aS.1 o)];simp⟩
   have t:(⟨l[i].fState,l[i].fBindings,l[i].fStarts⟩:Cf)=l[i]:=rfl;by_cases b:y<0
   ·rw [if_pos b,if_pos (k.2 b),t,Bu (by simp;omega) (by omega),zio f e K m (i+1) _ (by omega) (by omega) (by simp;omega),map_cons,Ta h];simp
   ·have:¬Ht R l i=true:=fun h=>b (k.1 h)
    rw [if_neg b,if_neg this,zio f e K m (i+1) _ (by omega) (by omega) (by omega)]
  ·rw [if_neg (by omega),aH (by simp;omega)];simp
theorem y8j (d:l.length<=1000000)(b:∀ c∈l,CS R c):R9 N0 l R=some (redP R l):=by
 unfold R9;have:=zio d b (fun y=>some y) N0 0 [] (aD _) (by unfold N0;omega) (by simp);simpa [redP,redI] using this
theorem zcs (R:List Mp)(l:List Cf):(redP R l).Sublist l:=by
 have h:((aQ l.length).map (fun i=>l.getD i cfD))=l:=by
  apply ext_getElem
  ·simp
  ·simp_all
 unfold redP redI;conv=>rhs;rw [<-h]
 exact filter_sublist.map _
end Go.Proofs.YtidhlpjgifoneaaGreat
