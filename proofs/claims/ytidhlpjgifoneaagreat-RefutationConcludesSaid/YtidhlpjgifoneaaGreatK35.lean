/- Layer 57, plainly. -/
import Derived.Test.YtidhlpjgifoneaaGreatK34
set_option linter.unusedVariables false
set_option linter.unusedSimpArgs false
namespace Go.Proofs.YtidhlpjgifoneaaGreat
open Go.RowKit List
open Classical in
noncomputable def unm (os:List Mp)(v:Int)(n:Nat):Nat:=(range n).countP (fun t=>decide (¬hasO os t v))
theorem Ys {α:Type}{p q:α->Bool}:∀ {l:List α},(∀ x∈l,q x=true->p x=true)->(∃ x∈l,p x=true/\q x=false)->l.countP q<l.countP p
 |[],_,h=>by simp_all
 |y::r,h1,c=>by
  have hm:r.countP q<=r.countP p:=countP_mono_left (fun x b=>h1 x (mem_cons_of_mem _ b));obtain ⟨x,b,px,qx⟩:=c;rw [countP_cons,countP_cons];rcases mem_cons.1 b with e|e
  ·grind
  ·have d:=Ys (l:=r) (fun x b=>h1 x (mem_cons_of_mem _ b)) ⟨x,e,px,qx⟩;grind
variable {os os':List Mp}{v:Int}{n:Nat}
theorem y3f (h:∀ t,hasO os t v->hasO os' t v):unm os' v n<=unm os v n:=by
 unfold unm;refine countP_mono_left (fun t _ b=>?_);grind
theorem y3e {s:Nat}(h:∀ t,hasO os t v->hasO os' t v)(b:s<n)(h1:¬hasO os s v)(c:hasO os' s v):unm os' v n<unm os v n:=by
 unfold unm;refine Ys (fun t _ d=>?_) ⟨s,mem_range.2 b,by simpa using h1,by simpa using c⟩;grind
theorem y5f (os:List Mp)(v:Int)(n:Nat):unm os v n<=n:=by
 unfold unm;exact Nat.le_trans (countP_le_length) (by simp)
inductive Bk (bk:List (List Int)):Nat->Nat->Prop
 |refl (s:Nat):Bk bk s s
 |step (t y s:Nat) (h:(y:Int)∈bk.getD s []) (ht:Bk bk t y):Bk bk t s
structure BkOk (n:Nat) (bk:List (List Int)):Prop where
 len:bk.length=n
 big:∀ q∈bk,q.length<=1100000
 mem:∀ q∈bk,∀ y∈q,0<=y/\y<(n:Int)
structure Sp (n:Nat) (bk:List (List Int)) (v:Int) (os:List Mp) (ss:Nat->Prop) (os':List Mp):Prop where
 ok:OsOk n os'
 mono:∀ t x,hasO os t x->hasO os' t x
 snd:∀ t x,hasO os' t x->hasO os t x\/(x=v/\∃ s,ss s/\Bk bk t s)
 mark:∀ s,ss s->hasO os' s v
 clo:∀ t,hasO os' t v->hasO os t v\/∀ y:Nat,(y:Int)∈bk.getD t []->hasO os' y v
def Spr (n:Nat)(bk:List (List Int))(v:Int)(u:Nat):Prop:=∀ (os:List Mp) (s:Nat),s<n->OsOk n os->unm os v n<=u->∀ f,u+2000000<f->∃ os',I9 f (s:Int) v n (ixs n n,os) bk=some (n,(ixs n n,os'),bk)/\Sp n bk v os (fun x=>x=s) os'
variable {bk:List (List Int)}
theorem zq9 (G:BkOk n bk){u:Nat}(IH:Spr n bk v u)(f:Nat)(D:u+2000000<f)(c:List Int)(k:∀ y∈c,0<=y/\y<(n:Int))(z:c.length<=1100000)(K:Nat->Ars Mp->List (List Int)->Option (Nat×Ars Mp×List (List Int))) :
  ∀ (m j:Nat) (os:List Mp),j<=c.length->c.length<m+j->OsOk n os->unm os v n<=u->∃ os',Oa f (I9 f) v c K m ((j:Int),n,bk,(ixs n n,os))=K n (ixs n n,os') bk/\Sp n bk v os (fun x=>(x:Int)∈c.drop j) os'
 |0,j,os,h1,H,_,_=>by omega
 |m+1,j,os,h1,H,C,B=>by
  unfold Oa;simp only [length_map,A5];by_cases h:j<c.length
  ·obtain ⟨y,q⟩:∃ y:Nat,c[j]=(y:Int):=⟨c[j].toNat,by have:=k _ (getElem_mem h);omega⟩;have w:y<n:=by have:=k _ (getElem_mem h);omega
   obtain ⟨r,F,p⟩:=IH os y w C B f D;rw [if_pos (by omega),Ac h,q,F,Cb,Ag j (by omega)];obtain ⟨os',E,g⟩:=zq9 G IH f D c k z K m (j+1) r (by omega) (by omega) p.ok (Nat.le_trans (y3f (fun t d=>p.mono t v d)) B);refine ⟨os',E,⟨g.ok,fun t x b=>g.mono t x (p.mono t x b),fun t x b=>?_,fun s i=>?_,fun t d=>?_⟩⟩
   ·rcases g.snd t x b with b|⟨e,s,i,o⟩
    ·rcases p.snd t x b with b|⟨e,s,i,o⟩
     ·exact Or.inl b
     ·subst i;exact Or.inr ⟨e,s,by rw [drop_eq_getElem_cons h,q];simp,o⟩
    ·exact Or.inr ⟨e,s,by rw [drop_eq_getElem_cons h];exact mem_cons_of_mem _ i,o⟩
   ·rw [drop_eq_getElem_cons h,q] at i;rcases mem_cons.1 i with e|e
    ·have:s=y:=by omega
     exact g.mono s v (p.mark s this)
    ·exact g.mark s e
   ·rcases g.clo t d with d|A
    ·rcases p.clo t d with d|A
     ·exact Or.inl d
     ·exact Or.inr (fun y q=>g.mono y v (A y q))
    ·exact Or.inr A
  ·rw [if_neg (by omega)];refine ⟨os,rfl,⟨C,fun t x b=>b,fun t x b=>Or.inl b,fun s i=>?_,fun t d=>Or.inl d⟩⟩;grind
theorem y5s (o:BkOk n bk)(H:0<=v/\v<16)(P:n<=1000):∀ u,Spr n bk v u:=by
 intro u
 induction u using Nat.strongRecOn with
 |ind u IH =>
  intro os s j z O f Q;obtain ⟨r,rfl⟩:∃ r,f=r + 1:=⟨f-1,by omega⟩;obtain ⟨l,q,hm⟩:=z.at j;simp only [I9];rw [Dk (by omega) (by rw [Int.toNat_natCast];exact j),Int.toNat_natCast,Zx j,y5b q];have k:hasO os s v ↔ has l v:=⟨fun ⟨N,h1,S⟩=>by simp_all,fun h=>⟨l,q,h⟩⟩;by_cases g:has l v
  ·rw [(zom hm v).2 g,Av];exact ⟨os,rfl,⟨z,fun t x b=>b,fun t x b=>Or.inl b,fun x b=>by rw [b];exact k.2 g,fun t d=>Or.inl d⟩⟩
  ·have A:(mlk l v).getD false=false:=by
    cases h:(mlk l v).getD false with
    |false=>rfl
    |true=>exact absurd ((zom hm v).1 h) g
   obtain ⟨G,o2⟩:=z.put q H;rw [A,Az,Dk (by omega) (by rw [Int.toNat_natCast];exact j),Zx j,zwz q hm.srt];have c:s<bk.length:=by rw [o.len];exact j
   rw [Ac c];have J:unm (os.set s (sput l v true)) v n<unm os v n:=y3e (fun t d=>(o2 t v).2 (Or.inl d)) j (fun h=>g (k.1 h)) ((o2 s v).2 (Or.inr ⟨rfl,rfl⟩));have m:bk.getD s []=bk[s]:=by rw [getD_eq_getElem?_getD,getElem?_eq_getElem c];rfl
   obtain ⟨w,I⟩:∃ w,u=w + 1:=⟨u-1,by omega⟩;obtain ⟨os',F,i⟩:=zq9 o (IH w (by omega)) r (by omega) bk[s] (o.mem _ (getElem_mem c)) (o.big _ (getElem_mem c)) (fun E D C=>some (E,D,C)) r 0 _ (Nat.zero_le _) (by have:=o.big _ (getElem_mem c);omega) G (by omega);rw [drop_zero] at i;refine ⟨os',F,⟨i.ok,fun t x b=>i.mono t x ((o2 t x).2 (Or.inl b)),fun t x b=>?_,fun x b=>?_,fun t d=>?_⟩⟩
   ·rcases i.snd t x b with b|⟨e,y,p,B⟩
    ·rcases (o2 t x).1 b with b|⟨M,L⟩
     ·exact Or.inl b
     ·subst M;exact Or.inr ⟨L,_,rfl,.refl _⟩
    ·refine Or.inr ⟨e,s,rfl,.step t y s (by rw [m];exact p) B⟩
   ·subst b;exact i.mono _ v ((o2 _ v).2 (Or.inr ⟨rfl,rfl⟩))
   ·rcases i.clo t d with d|K
    ·rcases (o2 t v).1 d with d|⟨e,_⟩
     ·exact Or.inl d
     ·subst e;exact Or.inr (fun y p=>i.mark y (by rw [m] at p;exact p))
    ·exact Or.inr K
section
variable {β α:Type}
theorem y20 (a b:Option β):nxt ([]:List α) a b=a:=by unfold nxt;rfl
theorem zys (x:α)(l:List α)(a b:Option β):nxt (x::l) a b=b:=by unfold nxt;rfl
end
structure Mk (a:Aut) (bk:List (List Int)) (os:List Mp):Prop where
 ok:OsOk a.fStates.length os
 snd:∀ t x,hasO os t x->Rd a t x
 clo:∀ t x,hasO os t x->∀ y:Nat,(y:Int)∈bk.getD t []->hasO os y x
structure BkA (a:Aut) (bk:List (List Int)):Prop where
 ok:BkOk a.fStates.length bk
 mem:∀ (t y:Nat),t<a.fStates.length->((y:Int)∈bk.getD t [] ↔ ∃ ed∈a.fEdges,ed.fTo=(t:Int)/\ed.fFrom=(y:Int))
variable {a:Aut}
theorem y6d (e:BkA a bk){t s:Nat}(h:Bk bk t s){x:Int}(d:Rd a s x):Rd a t x:=by
 induction h with
 |refl=>exact d
 |step y s b _ f =>
  have c:s<a.fStates.length:=by
   by_cases c:s<a.fStates.length
   ·exact c
   ·rw [getD_eq_getElem?_getD,getElem?_eq_none (by rw [e.ok.len];omega)] at b;simp at b
  obtain ⟨ed,h1,i,g⟩:=(e.mem s y c).1 b;exact f (.step ed h1 y s x g i d)
theorem Mk.spread (k:BkA a bk)(p:a.fStates.length<=1000)(h:Mk a bk os){i:Nat}(hi:i<a.fStates.length)(j:OwnV a i v):∃ os',I9 N0 (i:Int) v a.fStates.length (ixs a.fStates.length a.fStates.length,os) bk=some (a.fStates.length,(ixs a.fStates.length a.fStates.length,os'),bk)/\Mk a bk os'/\(∀ t x,hasO os t x->hasO os' t x)/\hasO os' i v:=by
 obtain ⟨os',m,b⟩:=y5s k.ok (zgb j) p a.fStates.length os i hi h.ok (y5f _ _ _) N0 (by unfold N0;omega);refine ⟨os',m,⟨b.ok,fun t x d=>?_,fun t x d y f=>?_⟩,b.mono,b.mark i rfl⟩
 ·rcases b.snd t x d with d|⟨e,s,o,g⟩
  ·exact h.snd t x d
  ·subst o e;exact y6d k g (.own _ _ j)
 ·rcases b.snd t x d with c|⟨e,_⟩
  ·exact b.mono y x (h.clo t x c y f)
  ·subst e;rcases b.clo t d with c|q
   ·exact b.mono y x (h.clo t x c y f)
   ·exact q y f
theorem zuk (w:BkA a bk)(s:a.fStates.length<=1000)(c:Ars Mp)(e:Int×Nat×List (List Int)×Ars Mp){i:Nat}(hi:i<a.fStates.length)(d:e.1=(i:Int))(K:Nat->Ars Mp->List (List Int)->Option (List Mp))(R:List Mp) :
  ∀ (m:Nat) (b:Mp) (os:List Mp),b.length<m->Mk a bk os->(∀ p∈b,OwnV a i p.1)->(∀ os',Mk a bk os'->(∀ t x,hasO os t x->hasO os' t x)->(∀ p∈b,hasO os' i p.1)->K a.fStates.length (ixs a.fStates.length a.fStates.length,os') bk=some R) ->
   Ph N0 c e K m (a.fStates.length,bk,b,(ixs a.fStates.length a.fStates.length,os))=some R
 |0,b,os,h1,_,_,_=>by omega
 |m+1,b,os,h1,E,k,F=>by
  unfold Ph;simp only;cases b with
  |nil =>
   rw [y20];simp_all
  |cons p r =>
   rw [zys];refine zy7 (by simp) (fun j u=>?_);have g:=k _ (getElem_mem u);obtain ⟨f,C,B,A,H⟩:=E.spread w s hi g;rw [Am,d,C,Cb];refine zuk w s c e hi d K R m _ f (by grind) B (fun q o=>k q (mem_of_mem_eraseIdx o)) (fun os' z y G=>?_);refine F os' z (fun t x D=>y t x (A t x D)) (fun q o=>?_);have h:=Ye u;grind
theorem zul (y:BkA a bk)(u:a.fStates.length<=1000)(own:List Mp)(q:own.length=a.fStates.length)(j:∀ l∈own,l.length<=1000)(d:∀ t x,hasO own t x->OwnV a t x)(c:Ars Mp)(w:aval c=own)(K:Nat->Ars Mp->Option (List Mp))(R:List Mp) :
  ∀ (m i:Nat) (os:List Mp),i<=a.fStates.length->a.fStates.length<m+i->Mk a bk os->(∀ os',Mk a bk os'->(∀ t x,hasO os t x->hasO os' t x)->(∀ t x,i<=t->hasO own t x->hasO os' t x)->K a.fStates.length (ixs a.fStates.length a.fStates.length,os')=some R) ->
   Gp N0 c K m ((i:Int),a.fStates.length,bk,(ixs a.fStates.length a.fStates.length,os))=some R
 |0,i,os,h1,H,_,_=>by omega
 |m+1,i,os,h1,H,s,z=>by
  unfold Gp;simp only [w,length_map,A5];by_cases h:i<a.fStates.length
  ·have f:i<own.length:=by omega
   rw [if_pos (by omega),Ac f];have G:∀ p∈own[i],hasO own i p.1:=fun p g=>⟨_,getElem?_eq_getElem f,mem_map.2 ⟨p,g,rfl⟩⟩
   refine zuk y u c _ h rfl _ R N0 own[i] os (by grind) s (fun p g=>d _ _ (G p g)) (fun o E D C=>?_);rw [Ag i (by omega)];refine zul y u own q j d c w K R m (i+1) o (by omega) (by omega) E (fun os' B r A=>?_);refine z os' B (fun t x b=>r t x (D t x b)) (fun t x F b=>?_);by_cases e:t=i
   ·subst e;obtain ⟨l,k,b⟩:=b;rw [getElem?_eq_getElem f] at k;injection k with k;subst k
    obtain ⟨p,g,rfl⟩:=mem_map.1 b;exact r _ _ (C p g)
   ·exact A t x (by omega) b
  ·rw [if_neg (by omega)];exact z os s (fun t x b=>b) (fun t x F b=>by
    obtain ⟨l,k,_⟩:=b;grind)
open Classical in
noncomputable def Bo (a:Aut):List Mp:=(range a.fStates.length).map fun t=>((range 16).filter (fun i:Nat=>decide (Rd a t (i:Int)))).map (fun i:Nat=>((i:Int),true))
open Classical in
theorem S2 (a:Aut):OsOk a.fStates.length (Bo a)/\∀ t x,hasO (Bo a) t x ↔ t<a.fStates.length/\Rd a t x:=by
 unfold Bo;refine ⟨⟨by simp,fun l c=>?_⟩,fun t x=>?_⟩
 ·obtain ⟨t,_,rfl⟩:=mem_map.1 c;refine ⟨?_,fun p e=>?_⟩
  ·unfold Srt;rw [map_map,pairwise_map];refine Pairwise.imp (fun {a b} (h:a<b)=>?_) (pairwise_lt_range.filter _);simp_all
  grind
 ·unfold hasO has;constructor
  ·grind
  ·rintro ⟨h1,d⟩;refine ⟨_,by rw [getElem?_map,getElem?_range h1];rfl,?_⟩;rw [map_map];have f:=zxy d;refine mem_map.2 ⟨x.toNat,mem_filter.2 ⟨mem_range.2 (by omega),?_⟩,?_⟩;all_goals grind
theorem y4i (h:OsOk n os)(c:OsOk n os')(f:∀ t x,hasO os t x ↔ hasO os' t x):os=os':=by
 apply ext_getElem
 ·rw [h.len,c.len]
 ·intro i h1 b;refine zvp (h.map _ (getElem_mem h1)) (c.map _ (getElem_mem b)) (fun x=>?_);have j:hasO os i x ↔ has os[i] x:=⟨fun ⟨l,e,d⟩=>by simp_all,fun h=>⟨_,getElem?_eq_getElem h1,h⟩⟩;have g:hasO os' i x ↔ has os'[i] x:=⟨fun ⟨l,e,d⟩=>by simp_all,fun h=>⟨_,getElem?_eq_getElem b,h⟩⟩;rw [<-j,<-g,f]
theorem Eb.len {l:Mp}(h:Eb l):l.length<=16:=by
 have s:Str cmpI (l.map (·.1)):=h.srt.imp (fun q=>(Wf _ _).2 q);have key:∀ (q:List Int) (c:Int),q.Pairwise (· < ·)->(∀ x∈q,c<=x/\x<16)->(q.length:Int)<=max 0 (16-c):=fun q=>by
  induction q with
  |nil=>intro c _ _;simp;omega
  |cons y r f =>
   intro c b g;have h1:=g y (by simp);obtain ⟨i,e⟩:=pairwise_cons.1 b;have:=f (y+1) e (fun x d=>by grind);grind
 have:=key (l.map (·.1)) 0 (show (l.map (·.1)).Pairwise (· < ·) from h.srt) (fun x d=>by
  obtain ⟨p,b,rfl⟩:=mem_map.1 d;exact (h.all p b).2)
 grind
theorem zsg (B:WfA a)(u:AOk a)(E:∀ x∈a.fEdges,x.fChecks.length<=1100000):U0 N0 a=some (Bo a):=by
 have N:=u.st;have O:=B.le;unfold U0;rw [length_map,y09 (by omega),y0u,Am,zvl];obtain ⟨own1,Q,P,K⟩:=zuo B (by omega) (fun k1_0_0y0 k1_0_0y1=>mkn ((a.fStates.length:Nat):Int) 24 fun f =>
  nst 53 <| reg <| Gq N0 a f
   (fun k2_1_0y0 k2_1_0y1 k2_1_0y2=>mkm ((a.fStates.length:Nat):Int) 8 fun d =>
  are 92 <| reg <| I3 N0 f k2_1_0y0 k2_1_0y1 k2_1_0y2 d
   (fun k3_2_0y0 k3_2_0y1=>frr 53 <| reg <| frm 7021 <| reg <| Gp N0 k2_1_0y1
   (fun k4_3_0y0 k4_3_0y1=>frm 7092 <| reg <| some (aval k4_3_0y1)) N0 (0,k3_2_0y0,k2_1_0y2,k3_2_0y1)) N0 (0,(mkA Mp d))) N0 (0,k1_0_0y0,(replicate (f) ([]:List Int)),k1_0_0y1)) N0 0 [] (Nat.zero_le _) (by unfold N0;omega) ⟨rfl,by simp⟩
 refine Eq.trans Q ?_;rw [zvi (by omega) (by omega),Int.toNat_natCast,zvb,Am];obtain ⟨b,S,z,L⟩:=zun B u E (fun k2_1_0y0 k2_1_0y1 k2_1_0y2=>mkm ((a.fStates.length:Nat):Int) 8 fun d =>
  are 92 <| reg <| I3 N0 a.fStates.length k2_1_0y0 k2_1_0y1 k2_1_0y2 d
   (fun k3_2_0y0 k3_2_0y1=>frr 53 <| reg <| frm 7021 <| reg <| Gp N0 k2_1_0y1
   (fun k4_3_0y0 k4_3_0y1=>frm 7092 <| reg <| some (aval k4_3_0y1)) N0 (0,k3_2_0y0,k2_1_0y2,k3_2_0y1)) N0 (0,(mkA Mp d))) N0 0 (replicate a.fStates.length []) own1 (Nat.zero_le _) (by unfold N0;omega) P (by simp) (fun q e=>by simp_all)
 refine Eq.trans S ?_;rw [y09 (by omega),y0u,Am,zvl];have M:=zum (n:=a.fStates.length) (by omega) a.fStates.length a.fStates.length (ixs a.fStates.length a.fStates.length,b) ((a.fEdges.drop 0).foldl Cq (replicate a.fStates.length [])) (fun k3_2_0y0 k3_2_0y1=>frr 53 <| reg <| frm 7021 <| reg <| Gp N0 (ixs a.fStates.length a.fStates.length,b)
   (fun k4_3_0y0 k4_3_0y1=>frm 7092 <| reg <| some (aval k4_3_0y1)) N0 (0,k3_2_0y0,((a.fEdges.drop 0).foldl Cq (replicate a.fStates.length [])),k3_2_0y1)) N0 0 [] (Nat.zero_le _) (by unfold N0;omega) rfl
 refine Eq.trans M ?_;simp only [zw0,Am,y4q,nil_append,Nat.sub_zero];rw [drop_zero];have m:∀ t x,hasO b t x ↔ OwnV a t x/\t<a.fStates.length:=fun t x=>by
  rw [L,K];constructor
  ·intro h;refine ⟨?_,?_⟩
   ·rcases h with (⟨l,c,_⟩|⟨_,h⟩)|⟨ed,h1,w,I⟩
    ·simp at c
    ·exact Or.inl h
    ·exact Or.inr ⟨ed,by simpa using h1,w,I⟩
   ·have:hasO b t x:=by rw [L,K];exact h
    obtain ⟨l,c,_⟩:=this;rw [<-z.len];grind
  ·rintro ⟨h|⟨ed,h1,w,I⟩,_⟩;all_goals grind
 have o:(a.fEdges.foldl Cq (replicate a.fStates.length [])).length=a.fStates.length:=by rw [zgi];simp
 have F:∀ (t:Nat) (y:Int),t<a.fStates.length->(y∈(a.fEdges.foldl Cq (replicate a.fStates.length [])).getD t [] ↔ ∃ ed∈a.fEdges,ed.fTo=(t:Int)/\y=ed.fFrom):=fun t y g=>by
  rw [zgh _ _ (by simpa using g)];simp_all
 have p:BkA a (a.fEdges.foldl Cq (replicate a.fStates.length [])):=by
  refine ⟨⟨o,fun q e=>?_,fun q e y U=>?_⟩,fun t y g=>?_⟩
  ·have big:∀ (l:List Ed) (bk:List (List Int)) (k:Nat),(∀ q∈bk,q.length<=k)->∀ q∈l.foldl Cq bk,q.length<=k+l.length:=fun l=>by
    induction l with
    |nil=>intro bk k h q e;exact h q e
    |cons x r A =>
     intro bk k h q e;have:=A (Cq bk x) (k+1) (zx7 h) q e;grind
   have:=big a.fEdges (replicate a.fStates.length []) 0 (fun q e=>by simp_all) q e;omega
  ·obtain ⟨t,g,rfl⟩:=mem_iff_getElem.1 e;have C:t<a.fStates.length:=by rw [o] at g;exact g
   obtain ⟨ed,h1,_,rfl⟩:=(F t y C).1 (by simp_all);exact (u.ed _ h1).frm
  ·grind
 have D:Mk a (a.fEdges.foldl Cq (replicate a.fStates.length [])) (replicate a.fStates.length []):=by
  have J:∀ t x,¬hasO (replicate a.fStates.length ([]:Mp)) t x:=fun t x ⟨l,c,j⟩=>by
   rw [getElem?_replicate] at c;split at c
   ·injection c with c;subst c;simp [has] at j
   ·cases c
  exact ⟨⟨by simp,fun l c=>by rw [eq_of_mem_replicate c];exact zlf⟩,fun t x j=>absurd j (J t x),fun t x j=>absurd j (J t x)⟩
 refine zul p (by omega) b z.len (fun l c=>by have:=(z.map l c).len;omega) (fun t x h=>((m t x).1 h).1) (ixs a.fStates.length a.fStates.length,b) (zmv z.len) _ (Bo a) N0 0 _ (Nat.zero_le _) (by unfold N0;omega) D (fun os' i _ T=>?_);rw [zmv i.ok.len];congr 1;refine y4i i.ok (S2 a).1 (fun t x=>?_);rw [(S2 a).2];constructor
 ·intro h;refine ⟨?_,i.snd t x h⟩;obtain ⟨l,c,_⟩:=h;rw [<-i.ok.len];grind
 ·rintro ⟨g,h⟩
  induction h with
  |own t x h=>grind
  |step ed H t s x h1 w h A =>
   have G:s<a.fStates.length:=by have:=(u.ed _ H).tgt;omega
   exact i.clo s x (A G) t ((p.mem s t G).2 ⟨ed,H,w,h1⟩)
def cvS (x y:Sta):Bool:=decide (x.fScope=y.fScope) && decide (y.fTime<=x.fTime)
def cvL:List Sta->List Sta->Bool |[],[]=>true |x::r,y::s=>cvS x y && cvL r s |_,_=>false
def rdB (m:Mp)(l:List Bd):List Bd:=l.filter (fun b=>(mlk m b.fVar).getD false)
def rdC (R:List Mp)(c:Cf):List Bd:=rdB (R.getD c.fState.toNat []) c.fBindings
def cov (R:List Mp)(c d:Cf):Bool:=decide (c.fState=d.fState) && (cvL c.fStarts d.fStarts && decide (rdC R c=rdC R d))
structure CS (R:List Mp) (c:Cf):Prop where
 st:0<=c.fState/\c.fState<(R.length:Int)
 lb:c.fBindings.length<=1000000
 ls:c.fStarts.length<=1000000
theorem zwd:∀ {l m:List Sta},cvL l m=true->l.length=m.length
 |[],[],_=>rfl
 |x::r,y::s,h=>by
  unfold cvL at h;rw [Bool.and_eq_true] at h;simp [zwd h.2]
 |[],_::_,h=>by cases h
 |_::_,[],h=>by cases h
theorem zrj:∀ l:List Sta,cvL l l=true
 |[]=>rfl
 |x::r=>by unfold cvL cvS;simp [zrj r]
theorem zlt:∀ {a b c:List Sta},cvL a b=true->cvL b c=true->cvL a c=true
 |[],[],[],_,_=>rfl
 |x::a,y::b,z::c,h1,d=>by
  unfold cvL at h1 d ⊢;rw [Bool.and_eq_true] at h1 d ⊢;refine ⟨?_,zlt h1.2 d.2⟩;have f:=h1.1;have e:=d.1;unfold cvS at f e ⊢;grind
 |[],_::_,_,h,_=>by cases h
 |_::_,[],_,h,_=>by cases h
 |_,[],_::_,_,h=>by cases h
 |_,_::_,[],_,h=>by cases h
theorem zrk (R:List Mp)(c:Cf):cov R c c=true:=by unfold cov;simp [zrj]
variable {R:List Mp}
theorem Yr {a b c:Cf}(h1:cov R a b=true)(d:cov R b c=true):cov R a c=true:=by
 unfold cov at h1 d ⊢;simp only [Bool.and_eq_true,decide_eq_true_eq] at h1 d ⊢;exact ⟨h1.1.trans d.1,zlt h1.2.1 d.2.1,h1.2.2.trans d.2.2⟩
theorem y62 (n:Nat)(x y:Sta):T9 n x y=some (cvS x y):=by
 unfold T9 cvS;simp only [B3,Am,Jn,A5];grind
theorem zqq (a b:List Sta)(e:a.length=b.length)(f:a.length<=1000000):∀ (m k:Nat),k<=a.length->a.length<m+k->Ql N0 b a (some true) m (k:Int)=some (cvL (a.drop k) (b.drop k))
 |0,k,h1,g=>by omega
 |m+1,k,h1,g=>by
  unfold Ql;simp only [length_map,A5];by_cases h:k<a.length
  ·have c:k<b.length:=by omega
   rw [if_pos (by omega),Ac h,Ac c,y62,A3,drop_eq_getElem_cons h,drop_eq_getElem_cons c,Ag k (by omega)];have d:=zqq a b e f m (k+1) (by omega) (by omega);unfold cvL;cases i:cvS a[k] b[k]
   ·rw [show (!false)=true from rfl,Av];simp
   ·rw [show (!true)=false from rfl,Az,d];simp
  ·rw [if_neg (by omega),drop_eq_nil_of_le (by omega),drop_eq_nil_of_le (by omega)];rfl
theorem y0j {a b:List Sta}(h:a.length≠b.length):cvL a b=false:=by
 cases c:cvL a b with
 |false=>rfl
 |true=>exact absurd (zwd c) h
theorem y63 (a b:List Sta)(c:a.length<=1000000):Uw N0 a b=some (cvL a b):=by
 unfold Uw;simp only [length_map,Al,A5];by_cases h:a.length=b.length
 ·rw [if_pos (by omega)];have:=zqq a b h c N0 0 (Nat.zero_le _) (by unfold N0;omega);simpa using this
 ·rw [if_neg (by omega),y0j h]
theorem zhf (m:Mp)(c:Cf)(b:c.fBindings.length<=1000000)(K:List Bd->Option (List Bd)):∀ (f k:Nat) (out:List Bd),k<=c.fBindings.length->c.fBindings.length<f+k->out.length<=k->Lx N0 m c K f ((k:Int),out)=K (out++rdB m (c.fBindings.drop k))
 |0,k,out,h1,d,_=>by omega
 |f+1,k,out,h1,d,g=>by
  unfold Lx;simp only [length_map,A5,Am,zvm];by_cases h:k<c.fBindings.length
  ·rw [if_pos (by omega),Ac h,drop_eq_getElem_cons h,Ag k (by omega)];have iha:=zhf m c b K f (k+1) (out++[c.fBindings[k]]) (by omega) (by omega) (by simp;omega);have ihb:=zhf m c b K f (k+1) out (by omega) (by omega) (by omega);have e:(⟨c.fBindings[k].fVar,⟨c.fBindings[k].fRef.fTime,c.fBindings[k].fRef.fSource,c.fBindings[k].fRef.fSeq⟩⟩:Bd)=c.fBindings[k]:=rfl;simp only [e];unfold rdB;rw [filter_cons];cases hm:(mlk m c.fBindings[k].fVar).getD false
   ·rw [Az,ihb];simp [rdB]
   ·rw [Av,Bq (by simp;omega) (by omega),iha];simp [rdB]
  ·rw [if_neg (by omega),drop_eq_nil_of_le (by omega)];simp [rdB]
theorem y04 (m:Mp)(c:Cf)(b:c.fBindings.length<=1000000):Rc N0 c m=some (rdB m c.fBindings):=by
 unfold Rc;have:=zhf m c b (fun y=>some y) N0 0 [] (Nat.zero_le _) (by unfold N0;omega) (by simp);simpa using this
theorem y59 (x y:Bd):(decide (x.fVar=y.fVar) && (decide (x.fRef.fTime=y.fRef.fTime) && (decide (x.fRef.fSource=y.fRef.fSource) && (decide (x.fRef.fSeq=y.fRef.fSeq) && true))))=decide (x=y):=by
 obtain ⟨v,t,s,q⟩:=x;obtain ⟨v',b,c,d⟩:=y;simp
theorem zqo (a b:List Bd)(d:a.length=b.length)(f:a.length<=1000000):∀ (m k:Nat),k<=a.length->a.length<m+k->R9 N0 b a (some true) m (k:Int)=some (decide (a.drop k=b.drop k))
 |0,k,h1,g=>by omega
 |m+1,k,h1,g=>by
  unfold R9;simp only [length_map,A5,y59];by_cases h:k<a.length
  ·have c:k<b.length:=by omega
   rw [if_pos (by omega),Ac h,Ac c,drop_eq_getElem_cons h,drop_eq_getElem_cons c,Ag k (by omega)];have i:=zqo a b d f m (k+1) (by omega) (by omega);rw [Al,A5];by_cases e:a[k]=b[k]
   ·have q:(a[k]::a.drop (k+1)=b[k]::b.drop (k+1)) ↔ a.drop (k+1)=b.drop (k+1):=⟨fun h=>(List.cons.inj h).2,fun h=>by rw [e,h]⟩;simp_all
   ·have q:¬(a[k]::a.drop (k+1)=b[k]::b.drop (k+1)):=fun h=>e (List.cons.inj h).1
    rw [if_neg e,decide_eq_false q]
  grind
theorem y60 (a b:List Bd)(c:a.length<=1000000):Ro N0 a b=some (decide (a=b)):=by
 unfold Ro;simp only [length_map,Al,A5];by_cases h:a.length=b.length
 ·rw [if_pos (by omega)];have:=zqo a b h c N0 0 (Nat.zero_le _) (by unfold N0;omega);simpa using this
 ·rw [if_neg (by omega)];have:a≠b:=fun e=>h (by rw [e])
  simp [this]
theorem y4d {c d:Cf}(e:CS R c)(g:CS R d):Kz N0 c d R=some (cov R c d):=by
 have h1:=e.st;unfold Kz cov;simp only [B3,Am,Hv,A5,y63 _ _ e.ls,A3];by_cases h:c.fState=d.fState
 ·rw [if_pos h];obtain ⟨s,f⟩:∃ s:Nat,c.fState=(s:Int):=⟨c.fState.toNat,by omega⟩;have b:s<R.length:=by omega
  have j:R.getD s []=R[s]:=by rw [getD_eq_getElem?_getD,getElem?_eq_getElem b];rfl
  cases i:cvL c.fStarts d.fStarts
  ·rw [Az];simp
  ·rw [Av,<-h,f,Ac b,y04 _ _ e.lb,A3,Ac b,y04 _ _ g.lb,A3,y60 _ _ (Nat.le_trans (show (rdB R[s] c.fBindings).length<=c.fBindings.length from length_filter_le _ _) e.lb),A3];unfold rdC;grind
 ·rw [if_neg h];simp [h]
def cfD:Cf:=⟨0,[],[]⟩
def bet (R:List Mp)(l:List Cf)(k i:Nat):Bool:=decide (k≠i) && (cov R (l.getD k cfD) (l.getD i cfD) && (decide (k<i) || !cov R (l.getD i cfD) (l.getD k cfD)))
def Es (R:List Mp)(l:List Cf)(i:Nat):Bool:=!(range l.length).any (fun k=>bet R l k i)
def redI (R:List Mp)(l:List Cf):List Nat:=(range l.length).filter (Es R l)
def redP (R:List Mp)(l:List Cf):List Cf:=(redI R l).map (fun i=>l.getD i cfD)
variable {l:List Cf}
theorem Nl {k:Nat}(h:k<l.length):l.getD k cfD=l[k]:=by simp_all
theorem zqf (g:l.length<=1000000)(b:∀ c∈l,CS R c)(i:Nat)(hi:i<l.length)(out:List Cf)(K:Int->Int->List Bd->List Sta->Option (List Cf)) :
  ∀ (m k:Nat),k<=l.length->l.length<m+k->∃ y:Int,Fm N0 R l ((i:Int),out) l[i] K m (k:Int)=K y l[i].fState l[i].fBindings l[i].fStarts/\(y<0 ↔ ∀ j,k<=j->j<l.length->bet R l j i=false)
 |0,k,h1,r=>by omega
 |m+1,k,h1,r=>by
  unfold Fm;simp only [length_map,A5,Al,B3,Am,Gg];by_cases h:k<l.length
  ·rw [if_pos (by omega),Ac h];obtain ⟨y,t,s⟩:=zqf g b i hi out K m (k+1) (by omega) (by omega);rw [Ag k (by omega),y4d (b _ (getElem_mem h)) (b _ (getElem_mem hi)),y4d (b _ (getElem_mem hi)) (b _ (getElem_mem h)),A3,A3];have d:bet R l k i=(decide (k≠i) && (cov R l[k] l[i] && (decide (k<i) || !cov R l[i] l[k]))):=by unfold bet;rw [Nl h,Nl hi]
   have yes:bet R l k i=true->(((k:Nat):Int)<0 ↔ ∀ j,k<=j->j<l.length->bet R l j i=false):=fun q=>⟨fun f=>by omega,fun f=>by simp_all⟩
   have no:bet R l k i=false->(y<0 ↔ ∀ j,k<=j->j<l.length->bet R l j i=false):=fun q=>by
    grind
   by_cases e:k=i
   ·rw [if_pos (by omega),Az];grind
   ·rw [if_neg (by omega)];cases p:cov R l[k] l[i]
    ·rw [Az,Az];grind
    ·rw [Av];by_cases u:k<i
     ·rw [if_pos (by omega),Av];grind
     ·rw [if_neg (by omega)];cases o:cov R l[i] l[k]
      ·simp only [Az];grind
      ·simp only [Av];grind
  ·rw [if_neg (by omega)];grind
theorem zhe (f:l.length<=1000000)(e:∀ c∈l,CS R c)(K:List Cf->Option (List Cf)) :
  ∀ (m i:Nat) (out:List Cf),i<=l.length->l.length<m+i->out.length<=i->Gf N0 R l K m ((i:Int),out)=K (out++(((range l.length).drop i).filter (Es R l)).map (fun i=>l.getD i cfD))
 |0,i,out,h1,s,_=>by omega
 |m+1,i,out,h1,s,u=>by
  unfold Gf;simp only [length_map,A5,Am];by_cases h:i<l.length
  ·rw [if_pos (by omega),Ac h];obtain ⟨y,q,p⟩:=zqf f e i h out (fun k2_1_0y0 k2_1_0y1 k2_1_0y2 k2_1_0y3=>if k2_1_0y0<0 then (app out ([⟨k2_1_0y1,k2_1_0y2,k2_1_0y3⟩]) 56 fun d=>(Gf N0 R l K m) ((IntKind.wrap .i64 ((i:Int)+1)),d)) else (Gf N0 R l K m) ((IntKind.wrap .i64 ((i:Int)+1)),out)) N0 0 (Nat.zero_le _) (by unfold N0;omega);refine Eq.trans q ?_;have r:(range l.length).drop i=i::(range l.length).drop (i+1):=by
    rw [drop_eq_getElem_cons (by simpa using h)];simp
   rw [r,filter_cons,Ag i (by omega)];have k:Es R l i=true ↔ y<0:=by
    rw [p];unfold Es;rw [Bool.not_eq_true',any_eq_false];exact ⟨fun g j _ o=>by simp_all,fun g j o=>by rw [g j (Nat.zero_le _) (mem_range.1 o)];simp⟩
   have t:(⟨l[i].fState,l[i].fBindings,l[i].fStarts⟩:Cf)=l[i]:=rfl;by_cases b:y<0
   ·rw [if_pos b,if_pos (k.2 b),t,Bq (by simp;omega) (by omega),zhe f e K m (i+1) _ (by omega) (by omega) (by simp;omega),map_cons,Nl h];simp
   ·have:¬Es R l i=true:=fun h=>b (k.1 h)
    rw [if_neg b,if_neg this,zhe f e K m (i+1) _ (by omega) (by omega) (by omega)]
  ·rw [if_neg (by omega),drop_eq_nil_of_le (by simp;omega)];simp
theorem y5v (d:l.length<=1000000)(b:∀ c∈l,CS R c):Tu N0 l R=some (redP R l):=by
 unfold Tu;have:=zhe d b (fun y=>some y) N0 0 [] (Nat.zero_le _) (by unfold N0;omega) (by simp);simpa [redP,redI] using this
theorem zq4 (R:List Mp)(l:List Cf):(redP R l).Sublist l:=by
 have h:((range l.length).map (fun i=>l.getD i cfD))=l:=by
  apply ext_getElem
  ·simp
  ·simp_all
 unfold redP redI;conv=>rhs;rw [<-h]
 exact filter_sublist.map _
theorem y2y (R:List Mp)(l:List Cf)(k:Nat):bet R l k k=false:=by unfold bet;simp
theorem zwx {k i j:Nat}(h1:bet R l k i=true)(d:bet R l i j=true):bet R l k j=true:=by
 unfold bet at *;simp only [Bool.and_eq_true,Bool.or_eq_true,decide_eq_true_eq,Bool.not_eq_true'] at h1 d ⊢;obtain ⟨q,f,p⟩:=h1;obtain ⟨o,e,m⟩:=d;have c:=Yr f e;by_cases b:cov R (l.getD j cfD) (l.getD k cfD)=true
 ·have h:cov R (l.getD i cfD) (l.getD k cfD)=true:=Yr e b;have g:cov R (l.getD j cfD) (l.getD i cfD)=true:=Yr b f;grind
 grind
theorem y11 (R:List Mp)(l:List Cf):∀ (u i:Nat),i<l.length->(range l.length).countP (fun k=>bet R l k i)<=u->∃ m∈redI R l,cov R (l.getD m cfD) (l.getD i cfD)=true:=by
 intro u
 induction u with
 |zero =>
  intro i hi h;refine ⟨i,mem_filter.2 ⟨mem_range.2 hi,?_⟩,zrk _ _⟩;unfold Es;simp_all
 |succ u g =>
  intro i hi h;by_cases e:Es R l i=true
  ·exact ⟨i,mem_filter.2 ⟨mem_range.2 hi,e⟩,zrk _ _⟩
  ·have d:(range l.length).any (fun k=>bet R l k i)=true:=by unfold Es at e;simpa using e
   obtain ⟨k,b,f⟩:=any_eq_true.1 d;have c:=mem_range.1 b;have o:(range l.length).countP (fun j=>bet R l j k)<(range l.length).countP (fun j=>bet R l j i):=Ys (fun j _ p=>zwx p f) ⟨k,b,f,y2y R l k⟩;obtain ⟨m,hm,q⟩:=g k c (by omega);refine ⟨m,hm,Yr q ?_⟩;unfold bet at f;simp_all
theorem y12 (R:List Mp){x:Cf}(c:x∈l):∃ y∈redP R l,cov R y x=true:=by
 obtain ⟨i,hi,rfl⟩:=mem_iff_getElem.1 c;obtain ⟨m,hm,b⟩:=y11 R l _ i hi (Nat.le_refl _);exact ⟨_,mem_map.2 ⟨m,hm,rfl⟩,by rw [Nl hi] at b;exact b⟩
end Go.Proofs.YtidhlpjgifoneaaGreat
