/- Layer 57, plainly. -/
import Derived.Test.YtidhlpjgifoneaaGreatK34
set_option linter.unusedVariables false
set_option linter.unusedSimpArgs false
namespace Go.Proofs.YtidhlpjgifoneaaGreat
open Go.RowKit List
open List renaming drop_eq_nil_of_le->aA,getElem_mem->aC,length_map->aD,drop_eq_getElem_cons->aE,getElem?_eq_getElem->aF,length_append->aG,replicate->aH,append_assoc->aJ,getD_eq_getElem?_getD->aL,drop_zero->aM,length_filter_le->aN,mem_cons_of_mem->aO,flatMap_cons->aP,length_singleton->aT,filter_cons->aU,filterMap_cons->aV,mem_flatMap->aW,mem_map->aY,countP_mono_left->aZ,mem_filter->bA,nil_append->bB
open Nat renaming zero_le->aB,le_trans->aX
open Int renaming toNat_natCast->aK
open Or renaming inl->aQ,inr->aR
open Bool renaming and_eq_true->aS
open Classical in
noncomputable def unm (os:List Mp)(v:Int)(n:Nat):Nat:=(range n).countP (fun t=>decide (¬hasO os t v))
theorem ze3 {α:Type}{p q:α->Bool}:∀ {l:List α},(∀ x∈l,q x=true->p x=true)->(∃ x∈l,p x=true/\q x=false)->l.countP q<l.countP p
 |[],_,h=>by simp_all
 |y::r,h1,f=>by
  have hm:r.countP q<=r.countP p:=aZ (fun x b=>h1 x (aO _ b));obtain ⟨x,b,px,qx⟩:=f;rw [countP_cons,countP_cons];rcases mem_cons.1 b with e|e
  ·grind
  ·have g:=ze3 (l:=r) (fun x b=>h1 x (aO _ b)) ⟨x,e,px,qx⟩;grind
variable {os os':List Mp}{v:Int}{n:Nat}
theorem y4r (h:∀ t,hasO os t v->hasO os' t v):unm os' v n<=unm os v n:=by
 unfold unm;refine aZ (fun t _ b=>?_);grind
theorem y4q {s:Nat}(h:∀ t,hasO os t v->hasO os' t v)(b:s<n)(h1:¬hasO os s v)(f:hasO os' s v):unm os' v n<unm os v n:=by
 unfold unm;refine ze3 (fun t _ g=>?_) ⟨s,mem_range.2 b,by simpa using h1,by simpa using f⟩;grind
theorem y6s (os:List Mp)(v:Int)(n:Nat):unm os v n<=n:=by
 unfold unm;exact aX (countP_le_length) (by simp)
inductive Bk (bk:List (List Int)):Nat->Nat->Prop
 |refl (s:Nat):Bk bk s s
 |step (t y s:Nat) (h:(y:Int)∈bk.getD s []) (ht:Bk bk t y):Bk bk t s
structure BkOk (n:Nat) (bk:List (List Int)):Prop where
 len:bk.length=n
 big:∀ q∈bk,q.length<=1100000
 mem:∀ q∈bk,∀ y∈q,0<=y/\y<(n:Int)
structure Sp (n:Nat) (bk:List (List Int)) (v:Int) (os:List Mp) (ss:Nat->Prop) (os':List Mp):Prop where
 ok:OsOk n os'
 mono:∀ t x,hasO os t x->hasO os' t x
 snd:∀ t x,hasO os' t x->hasO os t x\/(x=v/\∃ s,ss s/\Bk bk t s)
 mark:∀ s,ss s->hasO os' s v
 clo:∀ t,hasO os' t v->hasO os t v\/∀ y:Nat,(y:Int)∈bk.getD t []->hasO os' y v
def Spr (n:Nat)(bk:List (List Int))(v:Int)(u:Nat):Prop:=∀ (os:List Mp) (s:Nat),s<n->OsOk n os->unm os v n<=u->∀ f,u+2000000<f->∃ os',Ic f (s:Int) v n (ixs n n,os) bk=some (n,(ixs n n,os'),bk)/\Sp n bk v os (fun x=>x=s) os'
variable {bk:List (List Int)}
theorem zr4 (J:BkOk n bk){u:Nat}(IH:Spr n bk v u)(f:Nat)(G:u+2000000<f)(g:List Int)(p:∀ y∈g,0<=y/\y<(n:Int))(C:g.length<=1100000)(K:Nat->Ars Mp->List (List Int)->Option (Nat×Ars Mp×List (List Int))) :
  ∀ (m j:Nat) (os:List Mp),j<=g.length->g.length<m+j->OsOk n os->unm os v n<=u->∃ os',Ou f (Ic f) v g K m ((j:Int),n,bk,(ixs n n,os))=K n (ixs n n,os') bk/\Sp n bk v os (fun x=>(x:Int)∈g.drop j) os'
 |0,j,os,h1,L,_,_=>by omega
 |m+1,j,os,h1,L,F,E=>by
  unfold Ou;simp only [aD,A5];by_cases h:j<g.length
  ·obtain ⟨y,z⟩:∃ y:Nat,g[j]=(y:Int):=⟨g[j].toNat,by have:=p _ (aC h);omega⟩;have B:y<n:=by have:=p _ (aC h);omega
   obtain ⟨A,I,w⟩:=IH os y B F E f G;rw [if_pos (by omega),A9 h,z,I,Ce,Ae j (by omega)];obtain ⟨os',H,l⟩:=zr4 J IH f G g p C K m (j+1) A (by omega) (by omega) w.ok (aX (y4r (fun t i=>w.mono t v i)) E);refine ⟨os',H,⟨l.ok,fun t x b=>l.mono t x (w.mono t x b),fun t x b=>?_,fun s o=>?_,fun t i=>?_⟩⟩
   ·rcases l.snd t x b with b|⟨e,s,o,q⟩
    ·rcases w.snd t x b with b|⟨e,s,o,q⟩
     ·exact aQ b
     ·subst o;exact aR ⟨e,s,by rw [aE h,z];simp,q⟩
    ·exact aR ⟨e,s,by rw [aE h];exact aO _ o,q⟩
   ·rw [aE h,z] at o;rcases mem_cons.1 o with e|e
    ·have:s=y:=by omega
     exact l.mono s v (w.mark s this)
    ·exact l.mark s e
   ·rcases l.clo t i with i|D
    ·rcases w.clo t i with i|D
     ·exact aQ i
     ·exact aR (fun y z=>l.mono y v (D y z))
    ·exact aR D
  ·rw [if_neg (by omega)];refine ⟨os,rfl,⟨F,fun t x b=>b,fun t x b=>aQ b,fun s o=>?_,fun t i=>aQ i⟩⟩;grind
theorem y75 (w:BkOk n bk)(L:0<=v/\v<16)(T:n<=1000):∀ u,Spr n bk v u:=by
 intro u
 induction u using Nat.strongRecOn with
 |ind u IH =>
  intro os s o D S f U;obtain ⟨B,rfl⟩:∃ B,f=B + 1:=⟨f-1,by omega⟩;obtain ⟨l,A,hm⟩:=D.at o;simp only [Ic];rw [Dl (by omega) (by rw [aK];exact o),aK,zsv o,y6p A];have p:hasO os s v ↔ has l v:=⟨fun ⟨R,h1,V⟩=>by simp_all,fun h=>⟨l,A,h⟩⟩;by_cases j:has l v
  ·rw [(zi2 hm v).2 j,Ap];exact ⟨os,rfl,⟨D,fun t x b=>b,fun t x b=>aQ b,fun x b=>by rw [b];exact p.2 j,fun t i=>aQ i⟩⟩
  ·have E:(mlk l v).getD false=false:=by
    cases h:(mlk l v).getD false with
    |false=>rfl
    |true=>exact absurd ((zi2 hm v).1 h) j
   obtain ⟨K,o2⟩:=D.put A L;rw [E,Aq,Dl (by omega) (by rw [aK];exact o),zsv o,zyb A hm.srt];have g:s<bk.length:=by rw [w.len];exact o
   rw [A9 g];have N:unm (os.set s (sput l v true)) v n<unm os v n:=y4q (fun t i=>(o2 t v).2 (aQ i)) o (fun h=>j (p.1 h)) ((o2 s v).2 (aR ⟨rfl,rfl⟩));have q:bk.getD s []=bk[s]:=by rw [aL,aF g];rfl
   obtain ⟨C,M⟩:∃ C,u=C + 1:=⟨u-1,by omega⟩;obtain ⟨os',J,m⟩:=zr4 w (IH C (by omega)) B (by omega) bk[s] (w.mem _ (aC g)) (w.big _ (aC g)) (fun I H G=>some (I,H,G)) B 0 _ (aB _) (by have:=w.big _ (aC g);omega) K (by omega);rw [aM] at m;refine ⟨os',J,⟨m.ok,fun t x b=>m.mono t x ((o2 t x).2 (aQ b)),fun t x b=>?_,fun x b=>?_,fun t i=>?_⟩⟩
   ·rcases m.snd t x b with b|⟨e,y,z,F⟩
    ·rcases (o2 t x).1 b with b|⟨Q,P⟩
     ·exact aQ b
     ·subst Q;exact aR ⟨P,_,rfl,.refl _⟩
    ·refine aR ⟨e,s,rfl,.step t y s (by rw [q];exact z) F⟩
   ·subst b;exact m.mono _ v ((o2 _ v).2 (aR ⟨rfl,rfl⟩))
   ·rcases m.clo t i with i|O
    ·rcases (o2 t v).1 i with i|⟨e,_⟩
     ·exact aQ i
     ·subst e;exact aR (fun y z=>m.mark y (by rw [q] at z;exact z))
    ·exact aR O
section
variable {β α:Type}
theorem y3f (a b:Option β):nxt ([]:List α) a b=a:=by unfold nxt;rfl
theorem y07 (x:α)(l:List α)(a b:Option β):nxt (x::l) a b=b:=by unfold nxt;rfl
end
structure Mk (a:Aut) (bk:List (List Int)) (os:List Mp):Prop where
 ok:OsOk a.fStates.length os
 snd:∀ t x,hasO os t x->Rd a t x
 clo:∀ t x,hasO os t x->∀ y:Nat,(y:Int)∈bk.getD t []->hasO os y x
structure BkA (a:Aut) (bk:List (List Int)):Prop where
 ok:BkOk a.fStates.length bk
 mem:∀ (t y:Nat),t<a.fStates.length->((y:Int)∈bk.getD t [] ↔ ∃ ed∈a.fEdges,ed.fTo=(t:Int)/\ed.fFrom=(y:Int))
variable {a:Aut}
theorem y7o (i:BkA a bk){t s:Nat}(h:Bk bk t s){x:Int}(g:Rd a s x):Rd a t x:=by
 induction h with
 |refl=>exact g
 |step y s b _ j =>
  have f:s<a.fStates.length:=by
   by_cases f:s<a.fStates.length
   ·exact f
   ·rw [aL,getElem?_eq_none (by rw [i.ok.len];omega)] at b;simp at b
  obtain ⟨ed,h1,m,l⟩:=(i.mem s y f).1 b;exact j (.step ed h1 y s x l m g)
theorem Mk.spread (o:BkA a bk)(u:a.fStates.length<=1000)(h:Mk a bk os){i:Nat}(hi:i<a.fStates.length)(m:OwnV a i v):∃ os',Ic N0 (i:Int) v a.fStates.length (ixs a.fStates.length a.fStates.length,os) bk=some (a.fStates.length,(ixs a.fStates.length a.fStates.length,os'),bk)/\Mk a bk os'/\(∀ t x,hasO os t x->hasO os' t x)/\hasO os' i v:=by
 obtain ⟨os',p,b⟩:=y75 o.ok (zgp m) u a.fStates.length os i hi h.ok (y6s _ _ _) N0 (by unfold N0;omega);refine ⟨os',p,⟨b.ok,fun t x g=>?_,fun t x g y j=>?_⟩,b.mono,b.mark i rfl⟩
 ·rcases b.snd t x g with g|⟨e,s,q,l⟩
  ·exact h.snd t x g
  ·subst q e;exact y7o o l (.own _ _ m)
 ·rcases b.snd t x g with f|⟨e,_⟩
  ·exact b.mono y x (h.clo t x f y j)
  ·subst e;rcases b.clo t g with f|w
   ·exact b.mono y x (h.clo t x f y j)
   ·exact w y j
theorem zvu (A:BkA a bk)(y:a.fStates.length<=1000)(f:Ars Mp)(h:Int×Nat×List (List Int)×Ars Mp){i:Nat}(hi:i<a.fStates.length)(g:h.1=(i:Int))(K:Nat->Ars Mp->List (List Int)->Option (List Mp))(R:List Mp) :
  ∀ (m:Nat) (b:Mp) (os:List Mp),b.length<m->Mk a bk os->(∀ p∈b,OwnV a i p.1)->(∀ os',Mk a bk os'->(∀ t x,hasO os t x->hasO os' t x)->(∀ p∈b,hasO os' i p.1)->K a.fStates.length (ixs a.fStates.length a.fStates.length,os') bk=some R) ->
   Q1 N0 f h K m (a.fStates.length,bk,b,(ixs a.fStates.length a.fStates.length,os))=some R
 |0,b,os,h1,_,_,_=>by omega
 |m+1,b,os,h1,H,u,I=>by
  unfold Q1;simp only;cases b with
  |nil =>
   rw [y3f];simp_all
  |cons p r =>
   rw [y07];refine zzl (by simp) (fun j z=>?_);have o:=u _ (aC z);obtain ⟨l,F,E,D,L⟩:=H.spread A y hi o;rw [Am,g,F,Ce];refine zvu A y f h hi g K R m _ l (by grind) E (fun q w=>u q (mem_of_mem_eraseIdx w)) (fun os' C B J=>?_);refine I os' C (fun t x G=>B t x (D t x G)) (fun q w=>?_);have s:=Z5 z;grind
theorem zvv (C:BkA a bk)(A:a.fStates.length<=1000)(own:List Mp)(w:own.length=a.fStates.length)(q:∀ l∈own,l.length<=1000)(g:∀ t x,hasO own t x->OwnV a t x)(f:Ars Mp)(B:aval f=own)(K:Nat->Ars Mp->Option (List Mp))(R:List Mp) :
  ∀ (m i:Nat) (os:List Mp),i<=a.fStates.length->a.fStates.length<m+i->Mk a bk os->(∀ os',Mk a bk os'->(∀ t x,hasO os t x->hasO os' t x)->(∀ t x,i<=t->hasO own t x->hasO os' t x)->K a.fStates.length (ixs a.fStates.length a.fStates.length,os')=some R) ->
   Gp N0 f K m ((i:Int),a.fStates.length,bk,(ixs a.fStates.length a.fStates.length,os))=some R
 |0,i,os,h1,M,_,_=>by omega
 |m+1,i,os,h1,M,z,D=>by
  unfold Gp;simp only [B,aD,A5];by_cases h:i<a.fStates.length
  ·have j:i<own.length:=by omega
   rw [if_pos (by omega),A9 j];have L:∀ p∈own[i],hasO own i p.1:=fun p o=>⟨_,aF j,aY.2 ⟨p,o,rfl⟩⟩
   refine zvu C A f _ h rfl _ R N0 own[i] os (by grind) z (fun p o=>g _ _ (L p o)) (fun u I H G=>?_);rw [Ae i (by omega)];refine zvv C A own w q g f B K R m (i+1) u (by omega) (by omega) I (fun os' F y E=>?_);refine D os' F (fun t x b=>y t x (H t x b)) (fun t x J b=>?_);by_cases e:t=i
   ·subst e;obtain ⟨l,s,b⟩:=b;rw [aF j] at s;injection s with s;subst s
    obtain ⟨p,o,rfl⟩:=aY.1 b;exact y _ _ (G p o)
   ·exact E t x (by omega) b
  ·rw [if_neg (by omega)];exact D os z (fun t x b=>b) (fun t x J b=>by
    obtain ⟨l,s,_⟩:=b;grind)
open Classical in
noncomputable def Bb (a:Aut):List Mp:=(range a.fStates.length).map fun t=>((range 16).filter (fun i:Nat=>decide (Rd a t (i:Int)))).map (fun i:Nat=>((i:Int),true))
open Classical in
theorem Nt (a:Aut):OsOk a.fStates.length (Bb a)/\∀ t x,hasO (Bb a) t x ↔ t<a.fStates.length/\Rd a t x:=by
 unfold Bb;refine ⟨⟨by simp,fun l f=>?_⟩,fun t x=>?_⟩
 ·obtain ⟨t,_,rfl⟩:=aY.1 f;refine ⟨?_,fun p i=>?_⟩
  ·unfold Srt;rw [map_map,pairwise_map];refine Pairwise.imp (fun {a b} (h:a<b)=>?_) (pairwise_lt_range.filter _);simp_all
  grind
 ·unfold hasO has;constructor
  ·grind
  ·rintro ⟨h1,g⟩;refine ⟨_,by rw [getElem?_map,getElem?_range h1];rfl,?_⟩;rw [map_map];have j:=zza g;refine aY.2 ⟨x.toNat,bA.2 ⟨mem_range.2 (by omega),?_⟩,?_⟩;all_goals grind
theorem y5v (h:OsOk n os)(f:OsOk n os')(m:∀ t x,hasO os t x ↔ hasO os' t x):os=os':=by
 apply ext_getElem
 ·rw [h.len,f.len]
 ·intro i h1 b;refine zwz (h.map _ (aC h1)) (f.map _ (aC b)) (fun x=>?_);have p:hasO os i x ↔ has os[i] x:=⟨fun ⟨l,j,g⟩=>by simp_all,fun h=>⟨_,aF h1,h⟩⟩;have o:hasO os' i x ↔ has os'[i] x:=⟨fun ⟨l,j,g⟩=>by simp_all,fun h=>⟨_,aF b,h⟩⟩;rw [<-p,<-o,m]
theorem Ec.len {l:Mp}(h:Ec l):l.length<=16:=by
 have s:Str cmpI (l.map (·.1)):=h.srt.imp (fun q=>(Wy _ _).2 q);have key:∀ (q:List Int) (c:Int),q.Pairwise (· < ·)->(∀ x∈q,c<=x/\x<16)->(q.length:Int)<=max 0 (16-c):=fun q=>by
  induction q with
  |nil=>intro c _ _;simp;omega
  |cons y r i =>
   intro c b j;have h1:=j y (by simp);obtain ⟨m,g⟩:=pairwise_cons.1 b;have:=i (y+1) g (fun x f=>by grind);grind
 have:=key (l.map (·.1)) 0 (show (l.map (·.1)).Pairwise (· < ·) from h.srt) (fun x f=>by
  obtain ⟨p,b,rfl⟩:=aY.1 f;exact (h.all p b).2)
 grind
theorem zti (E:WfA a)(A:AOk a)(H:∀ x∈a.fEdges,x.fChecks.length<=1100000):Ua N0 a=some (Bb a):=by
 have Q:=A.st;have R:=E.le;unfold Ua;rw [aD,y1q (by omega),y28,Am,zww];obtain ⟨own1,T,S,N⟩:=zw0 E (by omega) (fun k1_0_0y0 k1_0_0y1=>mkn ((a.fStates.length:Nat):Int) 24 fun j =>
  nst 53 <| reg <| Gq N0 a j
   (fun k2_1_0y0 k2_1_0y1 k2_1_0y2=>mkm ((a.fStates.length:Nat):Int) 8 fun g =>
  are 92 <| reg <| I6 N0 j k2_1_0y0 k2_1_0y1 k2_1_0y2 g
   (fun k3_2_0y0 k3_2_0y1=>frr 53 <| reg <| frm 7021 <| reg <| Gp N0 k2_1_0y1
   (fun k4_3_0y0 k4_3_0y1=>frm 7092 <| reg <| some (aval k4_3_0y1)) N0 (0,k3_2_0y0,k2_1_0y2,k3_2_0y1)) N0 (0,(mkA Mp g))) N0 (0,k1_0_0y0,(aH (j) ([]:List Int)),k1_0_0y1)) N0 0 [] (aB _) (by unfold N0;omega) ⟨rfl,by simp⟩
 refine Eq.trans T ?_;rw [zwv (by omega) (by omega),aK,zwq,Am];obtain ⟨b,U,C,O⟩:=zvz E A H (fun k2_1_0y0 k2_1_0y1 k2_1_0y2=>mkm ((a.fStates.length:Nat):Int) 8 fun g =>
  are 92 <| reg <| I6 N0 a.fStates.length k2_1_0y0 k2_1_0y1 k2_1_0y2 g
   (fun k3_2_0y0 k3_2_0y1=>frr 53 <| reg <| frm 7021 <| reg <| Gp N0 k2_1_0y1
   (fun k4_3_0y0 k4_3_0y1=>frm 7092 <| reg <| some (aval k4_3_0y1)) N0 (0,k3_2_0y0,k2_1_0y2,k3_2_0y1)) N0 (0,(mkA Mp g))) N0 0 (aH a.fStates.length []) own1 (aB _) (by unfold N0;omega) S (by simp) (fun q i=>by simp_all)
 refine Eq.trans U ?_;rw [y1q (by omega),y28,Am,zww];have P:=zvy (n:=a.fStates.length) (by omega) a.fStates.length a.fStates.length (ixs a.fStates.length a.fStates.length,b) ((a.fEdges.drop 0).foldl Cp (aH a.fStates.length [])) (fun k3_2_0y0 k3_2_0y1=>frr 53 <| reg <| frm 7021 <| reg <| Gp N0 (ixs a.fStates.length a.fStates.length,b)
   (fun k4_3_0y0 k4_3_0y1=>frm 7092 <| reg <| some (aval k4_3_0y1)) N0 (0,k3_2_0y0,((a.fEdges.drop 0).foldl Cp (aH a.fStates.length [])),k3_2_0y1)) N0 0 [] (aB _) (by unfold N0;omega) rfl
 refine Eq.trans P ?_;simp only [zxb,Am,y63,bB,Nat.sub_zero];rw [aM];have u:∀ t x,hasO b t x ↔ OwnV a t x/\t<a.fStates.length:=fun t x=>by
  rw [O,N];constructor
  ·intro h;refine ⟨?_,?_⟩
   ·rcases h with (⟨l,f,_⟩|⟨_,h⟩)|⟨ed,h1,B,L⟩
    ·simp at f
    ·exact aQ h
    ·exact aR ⟨ed,by simpa using h1,B,L⟩
   ·have:hasO b t x:=by rw [O,N];exact h
    obtain ⟨l,f,_⟩:=this;rw [<-C.len];grind
  ·rintro ⟨h|⟨ed,h1,B,L⟩,_⟩;all_goals grind
 have w:(a.fEdges.foldl Cp (aH a.fStates.length [])).length=a.fStates.length:=by rw [zgw];simp
 have I:∀ (t:Nat) (y:Int),t<a.fStates.length->(y∈(a.fEdges.foldl Cp (aH a.fStates.length [])).getD t [] ↔ ∃ ed∈a.fEdges,ed.fTo=(t:Int)/\y=ed.fFrom):=fun t y m=>by
  rw [zgv _ _ (by simpa using m)];simp_all
 have z:BkA a (a.fEdges.foldl Cp (aH a.fStates.length [])):=by
  refine ⟨⟨w,fun q i=>?_,fun q i y W=>?_⟩,fun t y m=>?_⟩
  ·have big:∀ (l:List Ed) (bk:List (List Int)) (k:Nat),(∀ q∈bk,q.length<=k)->∀ q∈l.foldl Cp bk,q.length<=k+l.length:=fun l=>by
    induction l with
    |nil=>intro bk k h q i;exact h q i
    |cons x r D =>
     intro bk k h q i;have:=D (Cp bk x) (k+1) (zyi h) q i;grind
   have:=big a.fEdges (aH a.fStates.length []) 0 (fun q i=>by simp_all) q i;omega
  ·obtain ⟨t,m,rfl⟩:=mem_iff_getElem.1 i;have F:t<a.fStates.length:=by rw [w] at m;exact m
   obtain ⟨ed,h1,_,rfl⟩:=(I t y F).1 (by simp_all);exact (A.ed _ h1).frm
  ·grind
 have G:Mk a (a.fEdges.foldl Cp (aH a.fStates.length [])) (aH a.fStates.length []):=by
  have M:∀ t x,¬hasO (aH a.fStates.length ([]:Mp)) t x:=fun t x ⟨l,f,p⟩=>by
   rw [getElem?_replicate] at f;split at f
   ·injection f with f;subst f;simp [has] at p
   ·cases f
  exact ⟨⟨by simp,fun l f=>by rw [eq_of_mem_replicate f];exact zm4⟩,fun t x p=>absurd p (M t x),fun t x p=>absurd p (M t x)⟩
 refine zvv z (by omega) b C.len (fun l f=>by have:=(C.map l f).len;omega) (fun t x h=>((u t x).1 h).1) (ixs a.fStates.length a.fStates.length,b) (znl C.len) _ (Bb a) N0 0 _ (aB _) (by unfold N0;omega) G (fun os' o _ V=>?_);rw [znl o.ok.len];congr 1;refine y5v o.ok (Nt a).1 (fun t x=>?_);rw [(Nt a).2];constructor
 ·intro h;refine ⟨?_,o.snd t x h⟩;obtain ⟨l,f,_⟩:=h;rw [<-o.ok.len];grind
 ·rintro ⟨m,h⟩
  induction h with
  |own t x h=>grind
  |step ed K t s x h1 B h D =>
   have J:s<a.fStates.length:=by have:=(A.ed _ K).tgt;omega
   exact o.clo s x (D J) t ((z.mem s t J).2 ⟨ed,K,B,h1⟩)
def cvS (x y:Sta):Bool:=decide (x.fScope=y.fScope) && decide (y.fTime<=x.fTime)
def cvL:List Sta->List Sta->Bool |[],[]=>true |x::r,y::s=>cvS x y && cvL r s |_,_=>false
def rdB (m:Mp)(l:List Bd):List Bd:=l.filter (fun b=>(mlk m b.fVar).getD false)
def rdC (R:List Mp)(c:Cf):List Bd:=rdB (R.getD c.fState.toNat []) c.fBindings
def cov (R:List Mp)(c d:Cf):Bool:=decide (c.fState=d.fState) && (cvL c.fStarts d.fStarts && decide (rdC R c=rdC R d))
structure CS (R:List Mp) (c:Cf):Prop where
 st:0<=c.fState/\c.fState<(R.length:Int)
 lb:c.fBindings.length<=1000000
 ls:c.fStarts.length<=1000000
theorem zxp:∀ {l m:List Sta},cvL l m=true->l.length=m.length
 |[],[],_=>rfl
 |x::r,y::s,h=>by
  unfold cvL at h;rw [aS] at h;simp [zxp h.2]
 |[],_::_,h=>by cases h
 |_::_,[],h=>by cases h
theorem zmi:∀ {a b c:List Sta},cvL a b=true->cvL b c=true->cvL a c=true
 |[],[],[],_,_=>rfl
 |x::a,y::b,z::c,h1,f=>by
  unfold cvL at h1 f ⊢;rw [aS] at h1 f ⊢;refine ⟨?_,zmi h1.2 f.2⟩;have i:=h1.1;have g:=f.1;unfold cvS at i g ⊢;grind
 |[],_::_,_,h,_=>by cases h
 |_::_,[],_,h,_=>by cases h
 |_,[],_::_,_,h=>by cases h
 |_,_::_,[],_,h=>by cases h
variable {c:Cf}
theorem zxs {R:List Mp}{a b:Cf}(h1:cov R a b=true)(f:cov R b c=true):cov R a c=true:=by
 unfold cov at h1 f ⊢;simp only [aS,decide_eq_true_eq] at h1 f ⊢;exact ⟨h1.1.trans f.1,zmi h1.2.1 f.2.1,h1.2.2.trans f.2.2⟩
theorem y7c (n:Nat)(x y:Sta):Tl n x y=some (cvS x y):=by
 unfold Tl cvS;simp only [Ax,Am,K0,A5];grind
theorem zrj (a b:List Sta)(i:a.length=b.length)(j:a.length<=1000000):∀ (m k:Nat),k<=a.length->a.length<m+k->R3 N0 b a (some true) m (k:Int)=some (cvL (a.drop k) (b.drop k))
 |0,k,h1,l=>by omega
 |m+1,k,h1,l=>by
  unfold R3;simp only [aD,A5];by_cases h:k<a.length
  ·have f:k<b.length:=by omega
   rw [if_pos (by omega),A9 h,A9 f,y7c,A3,aE h,aE f,Ae k (by omega)];have g:=zrj a b i j m (k+1) (by omega) (by omega);unfold cvL;cases o:cvS a[k] b[k]
   ·rw [show (!false)=true from rfl,Ap];simp
   ·rw [show (!true)=false from rfl,Aq,g];simp
  ·rw [if_neg (by omega),aA (by omega),aA (by omega)];rfl
theorem y1y {a b:List Sta}(h:a.length≠b.length):cvL a b=false:=by
 cases f:cvL a b with
 |false=>rfl
 |true=>exact absurd (zxp f) h
theorem y7d (a b:List Sta)(f:a.length<=1000000):V9 N0 a b=some (cvL a b):=by
 unfold V9;simp only [aD,Aj,A5];by_cases h:a.length=b.length
 ·rw [if_pos (by omega)];have:=zrj a b h f N0 0 (aB _) (by unfold N0;omega);simpa using this
 ·rw [if_neg (by omega),y1y h]
theorem zhv (m:Mp)(c:Cf)(b:c.fBindings.length<=1000000)(K:List Bd->Option (List Bd)):∀ (f k:Nat) (out:List Bd),k<=c.fBindings.length->c.fBindings.length<f+k->out.length<=k->Md N0 m c K f ((k:Int),out)=K (out++rdB m (c.fBindings.drop k))
 |0,k,out,h1,g,_=>by omega
 |f+1,k,out,h1,g,j=>by
  unfold Md;simp only [aD,A5,Am,X3];by_cases h:k<c.fBindings.length
  ·rw [if_pos (by omega),A9 h,aE h,Ae k (by omega)];have iha:=zhv m c b K f (k+1) (out++[c.fBindings[k]]) (by omega) (by omega) (by simp;omega);have ihb:=zhv m c b K f (k+1) out (by omega) (by omega) (by omega);have i:(⟨c.fBindings[k].fVar,⟨c.fBindings[k].fRef.fTime,c.fBindings[k].fRef.fSource,c.fBindings[k].fRef.fSeq⟩⟩:Bd)=c.fBindings[k]:=rfl;simp only [i];unfold rdB;rw [aU];cases hm:(mlk m c.fBindings[k].fVar).getD false
   ·rw [Aq,ihb];simp [rdB]
   ·rw [Ap,C1 (by simp;omega) (by omega),iha];simp [rdB]
  ·rw [if_neg (by omega),aA (by omega)];simp [rdB]
theorem y1j (m:Mp)(c:Cf)(b:c.fBindings.length<=1000000):Rv N0 c m=some (rdB m c.fBindings):=by
 unfold Rv;have:=zhv m c b (fun y=>some y) N0 0 [] (aB _) (by unfold N0;omega) (by simp);simpa using this
theorem y6n (x y:Bd):(decide (x.fVar=y.fVar) && (decide (x.fRef.fTime=y.fRef.fTime) && (decide (x.fRef.fSource=y.fRef.fSource) && (decide (x.fRef.fSeq=y.fRef.fSeq) && true))))=decide (x=y):=by
 obtain ⟨v,t,s,q⟩:=x;obtain ⟨v',b,f,g⟩:=y;simp
theorem zrh (a b:List Bd)(g:a.length=b.length)(i:a.length<=1000000):∀ (m k:Nat),k<=a.length->a.length<m+k->Rr N0 b a (some true) m (k:Int)=some (decide (a.drop k=b.drop k))
 |0,k,h1,j=>by omega
 |m+1,k,h1,j=>by
  unfold Rr;simp only [aD,A5,y6n];by_cases h:k<a.length
  ·have f:k<b.length:=by omega
   rw [if_pos (by omega),A9 h,A9 f,aE h,aE f,Ae k (by omega)];have l:=zrh a b g i m (k+1) (by omega) (by omega);rw [Aj,A5];by_cases e:a[k]=b[k]
   ·have q:(a[k]::a.drop (k+1)=b[k]::b.drop (k+1)) ↔ a.drop (k+1)=b.drop (k+1):=⟨fun h=>(List.cons.inj h).2,fun h=>by rw [e,h]⟩;simp_all
   ·have q:¬(a[k]::a.drop (k+1)=b[k]::b.drop (k+1)):=fun h=>e (List.cons.inj h).1
    rw [if_neg e,decide_eq_false q]
  grind
theorem y5n (a b:List Bd)(f:a.length<=1000000):S5 N0 a b=some (decide (a=b)):=by
 unfold S5;simp only [aD,Aj,A5];by_cases h:a.length=b.length
 ·rw [if_pos (by omega)];have:=zrh a b h f N0 0 (aB _) (by unfold N0;omega);simpa using this
 ·rw [if_neg (by omega)];have:a≠b:=fun e=>h (by rw [e])
  simp [this]
variable {d:Cf}
theorem y7e {R:List Mp}(f:CS R c)(i:CS R d):Lh N0 c d R=some (cov R c d):=by
 have h1:=f.st;unfold Lh cov;simp only [Ax,Am,Hw,A5,y7d _ _ f.ls,A3];by_cases h:c.fState=d.fState
 ·rw [if_pos h];obtain ⟨s,g⟩:∃ s:Nat,c.fState=(s:Int):=⟨c.fState.toNat,by omega⟩;have b:s<R.length:=by omega
  have l:R.getD s []=R[s]:=by rw [aL,aF b];rfl
  cases j:cvL c.fStarts d.fStarts
  ·rw [Aq];simp
  ·rw [Ap,<-h,g,A9 b,y1j _ _ f.lb,A3,A9 b,y1j _ _ i.lb,A3,y5n _ _ (aX (show (rdB R[s] c.fBindings).length<=c.fBindings.length from aN _ _) f.lb),A3];unfold rdC;grind
 ·rw [if_neg h];simp [h]
def cfO (l:List Cf):List Cf:=l.filter (fun d=>!decide (d.fState<0))
def maO (l:List Cf):List Ma:=(l.filter (fun d=>decide (d.fState<0))).map (fun d=>⟨d.fBindings⟩)
def Dd (a:Aut)(s:Int):List Ed:=a.fEdges.filter (fun x=>decide (x.fFrom=s))
def skP (a:Aut)(held:List Ev)(c:Cf)(e:Ev):Bool:=!(Ww a c.fState).any (vio (enH held c.fBindings) e)
def outP (a:Aut)(held:List Ev)(c:Cf)(e:Ev):List Cf:=(if skP a held c e=true then [c] else [])++(Dd a c.fState).filterMap (fun x=>coP a held c x e)
theorem zjo (d:Cf)(l:List Cf):cfO (d::l)=if d.fState<0 then cfO l else d::cfO l:=by
 unfold cfO;grind
theorem zi4 (d:Cf)(l:List Cf):maO (d::l)=if d.fState<0 then (⟨d.fBindings⟩:Ma)::maO l else maO l:=by
 unfold maO;grind
theorem zjp (l m:List Cf):cfO (l++m)=cfO l++cfO m:=by unfold cfO;rw [filter_append]
theorem zi5 (l m:List Cf):maO (l++m)=maO l++maO m:=by unfold maO;simp_all
theorem Ss (l:List Cf):(cfO l).length<=l.length:=aN _ _
theorem Nz (l:List Cf):(maO l).length<=l.length:=by unfold maO;grind
theorem zq9 {l:List Cf}(h:d∈cfO l):d∈l/\0<=d.fState:=by
 have:=bA.1 h;exact ⟨this.1,by simpa using this.2⟩
theorem y3i {l:List Cf}{m:Ma}(h:m∈maO l):∃ d∈l,m=⟨d.fBindings⟩:=by
 obtain ⟨d,b,rfl⟩:=aY.1 h;grind
def Sz (k:Nat)(c:Cf):Prop:=c.fBindings.length<=k/\c.fStarts.length<=100*k
variable {k:Nat}
theorem Sz.ok (b:k<=1001)(h:Sz k c):cfOk c=true:=(E8 c).2 ⟨by have:=h.1;omega,by have:=h.2;omega⟩
variable {held:List Ev}{e:Ev}
theorem Zu {x:Ed}(h:coP a held c x e=some d):d=⟨x.fTo,bdN c x e,(stN c x e).filter (ncl x)⟩:=by
 unfold coP at h;simp_all
theorem zxy (g:CxA a held)(f:CB held a k c){x:Ed}(b:x∈a.fEdges)(h:coP a held c x e=some d):Sz (k+1) d:=by
 rw [Zu h];have h1:=f.lb;have m:=f.ls;have l:=g.lo x b;have j:=Zz e.fTime x.fOpens c.fStarts;have i:=aN (ncl x) (stN c x e);refine ⟨by unfold bdN;simp;omega,?_⟩;unfold stN at i ⊢;simp only;omega
theorem CB.sz (h:CB held a k c):Sz k c:=⟨h.lb,h.ls⟩
theorem Wp {s:Int}{x:Ed}(h:x∈Dd a s):x∈a.fEdges/\x.fFrom=s:=by
 have:=bA.1 h;exact ⟨this.1,by simpa using this.2⟩
theorem zwm (g:CxA a held)(f:CB held a k c)(h:d∈outP a held c e):Sz (k+1) d:=by
 unfold outP at h;rcases mem_append.1 h with h|h
 ·split at h
  ·rw [mem_singleton.1 h];have:=f.sz;exact ⟨by have:=this.1;omega,by have:=this.2;omega⟩
  ·simp at h
 ·obtain ⟨x,b,i⟩:=mem_filterMap.1 h;exact zxy g f (Wp b).1 i
theorem Si:(outP a held c e).length<=a.fEdges.length+1:=by
 unfold outP Dd;grind
theorem zpc (b:k<=1001)(h:Sz k c):maOk ⟨c.fBindings⟩=true:=(Ej _).2 (by have:=h.1;simp;omega)
theorem zg8 (e:Ev)(env:List (List Ev))(i:EvS env)(b:Stt)(j:b.fGuards.length<=1100000)(f:∀ g∈b.fGuards,WfE g.fCond):∀ (m k:Nat),k<=b.fGuards.length->b.fGuards.length<m+k->Pi N0 e ⟨env⟩ b (some true) m (k:Int)=some (!(b.fGuards.drop k).any (vio env e))
 |0,k,h1,l=>by omega
 |m+1,k,h1,l=>by
  unfold Pi;simp only [aD,A5];by_cases h:k<b.fGuards.length
  ·rw [if_pos (by omega),A9 h,B1 _ k h,any_cons,zvn i (f _ (aC h)),A3,Ae k (by omega),zg8 e env i b j f m (k+1) (by omega) (by omega)];cases vio env e b.fGuards[k]<;>simp [Ap,Aq]
  grind
theorem zzq (f:CxA a held)(o:k<=1000)(g:CB held a k c)(e:Ev):U7 N0 a held c e=some (skP a held c e):=by
 have j:=g.lb;have i:=f.lh;obtain ⟨b,m,h,l⟩:=Wo g.st;unfold U7 skP;rw [zvs N0 (by decide) held (by omega) c (by omega),A3,Zs g.st.1 m,l];have:=zg8 e (enH held c.fBindings) (Jl (by omega)) b (f.wf.st b h).1 (f.wf.st b h).2 N0 0 (aB _) (by have:=(f.wf.st b h).1;unfold N0;omega);simp_all
theorem zdj (s:Int)(a:Aut)(b:a.fEdges.length<=1000000)(K:List Ed->Option (List Ed)):∀ (m k:Nat) (out:List Ed),k<=a.fEdges.length->a.fEdges.length<m+k->out.length<=k->L7 N0 s a K m ((k:Int),out)=K (out++(a.fEdges.drop k).filter (fun x=>decide (x.fFrom=s)))
 |0,k,out,h1,j,i=>by omega
 |m+1,k,out,h1,j,i=>by
  unfold L7;simp only [aD,A5];by_cases h:k<a.fEdges.length
  ·have g:=zdj s a b K m (k+1) (out++[a.fEdges[k]]) (by omega) (by omega) (by simp_all);have f:=zdj s a b K m (k+1) out (by omega) (by omega) (by omega);rw [if_pos (by omega),Am,A9 h,A9 h,B1 _ k h,Ae k (by omega),C1 (by grind) (by omega),g,f,aU];grind
  ·rw [if_neg (by omega),aA (by omega)];simp
theorem y1l (s:Int)(a:Aut)(b:a.fEdges.length<=1000000):Ix N0 a s=some (Dd a s):=by
 have:=zdj s a b (fun y=>some y) N0 0 [] (aB _) (by unfold N0;omega) (by simp);unfold Ix Dd;exact this
variable {kk:Nat}
theorem Zo (p:CxA a held)(u:kk<=1000)(q:CB held a kk c)(e:Ev)(es:List Ed)(g:∀ x∈es,x∈a.fEdges)(y:es.length<=100000)(K:List Cf->List Ma->Option (List Cf×List Ma)) :
  ∀ (m k:Nat) (cs:List Cf) (f:List Ma),k<=es.length->es.length<m+k->cs.length<=k+1->f.length<=k->(∀ d∈cs,cfOk d=true)->(∀ d∈f,maOk d=true)->Ii N0 e c held a es K m (cs,f,(k:Int))=K (puts Bj cs (cfO ((es.drop k).filterMap (fun x=>coP a held c x e)))) (puts Bh f (maO ((es.drop k).filterMap (fun x=>coP a held c x e))))
 |0,k,cs,f,h1,C,B,A,t,s=>by omega
 |m+1,k,cs,f,h1,C,B,A,t,s=>by
  unfold Ii;simp only [aD,A5,Aj];by_cases h:k<es.length
  ·have o:=g _ (aC h);have i:=ztj p u q o e;rw [if_pos (by omega),A9 h,B1 _ k h,aV,Ae k (by omega)];cases j:coP a held c es[k] e with
   |none =>
    have b:L5 N0 a held c es[k] e=some (cf0,false):=i.trans (by rw [j];rfl);rw [b,A3];simp only [Aq];exact Zo p u q e es g y K m (k+1) cs f (by omega) (by omega) (by omega) (by omega) t s
   |some d =>
    have w:=zxy p q o j;have b:L5 N0 a held c es[k] e=some (d,true):=i.trans (by rw [j];rfl);rw [b,A3];simp only [Ap,Am];rw [zjo,zi4];by_cases l:d.fState<0
    ·rw [if_pos l,if_pos l,if_pos l,zw4 N0 (by decide) _ (zpc (by omega) w) f s (by omega),A3,Jd];have z:=Nq Bh (⟨d.fBindings⟩:Ma) f;exact Zo p u q e es g y K m (k+1) cs _ (by omega) (by omega) (by omega) (by omega) t (zic (zpc (by omega) w) s)
    ·rw [if_neg l,if_neg l,if_neg l,zw5 N0 (by decide) _ (w.ok (by omega)) cs t (by omega),A3,Jd];have z:=Nq Bj d cs;exact Zo p u q e es g y K m (k+1) _ f (by omega) (by omega) (by omega) (by omega) (zs4 (w.ok (by omega)) t) s
  ·rw [if_neg (by omega),aA (by omega)];rfl
theorem y5d (l:CxA a held)(o:a.fEdges.length<=100000)(m:kk<=1000)(g:CB held a kk c)(e:Ev):Mg N0 a held c e=some (setL Bj (cfO (outP a held c e)),setL Bh (maO (outP a held c e))):=by
 have i:(Dd a c.fState).length<=100000:=by
  have:=aN (fun x:Ed=>decide (x.fFrom=c.fState)) a.fEdges;unfold Dd;omega
 have j:=fun cs q p=>Zo l m g e (Dd a c.fState) (fun x h=>(Wp h).1) i (fun k1_1_0y0 k1_1_0y1=>some (k1_1_0y0,k1_1_0y1)) N0 0 cs [] (aB _) (by unfold N0;omega) q (by simp) p (by simp)
 have f:¬c.fState<0:=by have:=g.st;omega
 unfold Mg;simp only [Ax,Am,Lp];rw [zzq l m g e,A3,y1l _ a (by omega)];simp only [A3];unfold outP setL;rw [zjp,zi5,Yx,Yx];cases skP a held c e with
 |true =>
  have b:=zw5 N0 (by decide) c (g.sz.ok (by omega)) [] (by simp) (by simp);rw [Ap,b,A3];have:=j (insU Bj c []) (by simp [insU]) (by simp [insU];exact g.sz.ok (by omega));refine this.trans ?_;have t:puts Bj [] (cfO (if true=true then [c] else []))=insU Bj c []:=by
   rw [if_pos rfl,zjo,if_neg f];rfl
  have s:puts Bh [] (maO (if true=true then [c] else []))=[]:=by
   rw [if_pos rfl,zi4,if_neg f];rfl
  rw [t,s];rfl
 |false =>
  rw [Aq];refine (j [] (by simp) (by simp)).trans ?_;rfl
theorem zrp (e:Ev)(l:List Cf)(held:List Ev)(a:Aut)(v:List Cf×List Ma×Int)(x:List Cf×List Ma)(b:∀ d∈x.1,cfOk d=true)(i:x.1.length<=100000)(K:List Cf->List Ma->Option (List Cf×List Ma)):∀ (m k:Nat) (cs:List Cf),k<=x.1.length->x.1.length<m+k->cs.length+(x.1.length-k)<=1000000->(∀ d∈cs,cfOk d=true)->Qi N0 e l held a v x K m (cs,(k:Int))=K (puts Bj cs (x.1.drop k)) x.2
 |0,k,cs,h1,p,o,f=>by omega
 |m+1,k,cs,h1,p,o,f=>by
  unfold Qi;simp only [aD,A5];by_cases h:k<x.1.length
  ·have g:=b _ (aC h);have j:=Nq Bj x.1[k] cs;rw [if_pos (by omega),A9 h,zw5 N0 (by decide) _ g cs f (by omega),A3,B1 _ k h,Jd,Ae k (by omega)];exact zrp e l held a v x b i K m (k+1) _ (by omega) (by omega) (by omega) (zs4 g f)
  ·rw [if_neg (by omega),aA (by omega)];rfl
theorem zro (e:Ev)(l:List Cf)(held:List Ev)(a:Aut)(v:List Cf×List Ma×Int)(g:List Cf)(x:List Ma)(b:∀ d∈x,maOk d=true)(o:x.length<=100000)(K:List Ma->Option (List Cf×List Ma)):∀ (m k:Nat) (cs:List Ma),k<=x.length->x.length<m+k->cs.length+(x.length-k)<=1000000->(∀ d∈cs,maOk d=true)->Qh N0 e l held a v g x K m (cs,(k:Int))=K (puts Bh cs (x.drop k))
 |0,k,cs,h1,s,q,f=>by omega
 |m+1,k,cs,h1,s,q,f=>by
  unfold Qh;simp only [aD,A5];by_cases h:k<x.length
  ·have i:=b _ (aC h);have p:=Nq Bh x[k] cs;have j:=zw4 N0 (by decide) x[k] i cs f (by omega);rw [if_pos (by omega),A9 h,B1 _ k h,Jd,Ae k (by omega),j,A3];exact zro e l held a v g x b o K m (k+1) _ (by omega) (by omega) (by omega) (zic i f)
  ·rw [if_neg (by omega),aA (by omega)];rfl
theorem zl2 (most:Int)(l:List Ev)(a:Aut)(v:List Cf×List Ma×Int)(x:List Cf×List Ma)(b:∀ d∈x.2,maOk d=true)(j:x.2.length<=1000000)(K:List Ma->List Cf->Option (List Cf×List Ma×Bool)):∀ (m k:Nat) (cs:List Ma),k<=x.2.length->x.2.length<m+k->cs.length+(x.2.length-k)<=1000000->(∀ d∈cs,maOk d=true)->P1 N0 most l a v x K m (cs,(k:Int))=K (puts Bh cs (x.2.drop k)) x.1
 |0,k,cs,h1,q,p,f=>by omega
 |m+1,k,cs,h1,q,p,f=>by
  unfold P1;simp only [aD,A5];by_cases h:k<x.2.length
  ·have g:=b _ (aC h);have o:=Nq Bh x.2[k] cs;have i:=zw4 N0 (by decide) x.2[k] g cs f (by omega);rw [if_pos (by omega),A9 h,B1 _ k h,Jd,Ae k (by omega),i,A3];exact zl2 most l a v x b j K m (k+1) _ (by omega) (by omega) (by omega) (zic g f)
  ·rw [if_neg (by omega),aA (by omega)];rfl
theorem y2e {l:List Ma}(h:∀ x∈l,maOk x=true):∀ x∈setL Bh l,maOk x=true:=fun x b=>h x ((Dk Ek x l).1 b)
theorem y25 (b:CxA a held)(h:kk<=1000)(g:CB held a kk c)(e:Ev):∀ d∈cfO (outP a held c e),cfOk d=true:=fun d f=>(zwm b g (zq9 f).1).ok (by omega)
theorem zx0 (b:CxA a held)(i:kk<=1000)(h:CB held a kk c)(e:Ev):∀ d∈maO (outP a held c e),maOk d=true:=fun d g=>by
 obtain ⟨q,f,rfl⟩:=y3i g;exact zpc (by omega) (zwm b h f)
theorem zrq (g:CxA a held)(j:a.fEdges.length<=100)(i:kk<=1000)(e:Ev)(l:List Cf)(s:∀ c∈l,CB held a kk c)(x:l.length<=5000)(K:List Cf->List Ma->Option (List Cf×List Ma)) :
  ∀ (m k:Nat) (cs:List Cf) (b:List Ma),k<=l.length->l.length<m+k->cs.length<=101*k->b.length<=101*k->(∀ d∈cs,cfOk d=true)->(∀ d∈b,maOk d=true)->Qj N0 e l held a K m (cs,b,(k:Int))=K (puts Bj cs ((l.drop k).flatMap (fun c=>setL Bj (cfO (outP a held c e))))) (puts Bh b ((l.drop k).flatMap (fun c=>setL Bh (maO (outP a held c e)))))
 |0,k,cs,b,h1,A,z,y,p,o=>by omega
 |m+1,k,cs,b,h1,A,z,y,p,o=>by
  unfold Qj;simp only [aD,A5];by_cases h:k<l.length
  ·have f:=s _ (aC h);have F:=Zk (c:=Bj) (cfO (outP a held l[k] e));have E:=Zk (c:=Bh) (maO (outP a held l[k] e));have D:=Ss (outP a held l[k] e);have C:=Nz (outP a held l[k] e);have B:(outP a held l[k] e).length<=a.fEdges.length+1:=Si;have q:=y2f (y25 g i f e);have o2:=y2e (zx0 g i f e);have H:=Zm (c:=Bj) (setL Bj (cfO (outP a held l[k] e))) cs;have G:=Zm (c:=Bh) (setL Bh (maO (outP a held l[k] e))) b;rw [if_pos (by omega),A9 h,y5d g (by omega) i f e,A3,B1 _ k h,aP,aP,Yx,Yx,Ae k (by omega)];have w:=fun K=>zrp e l held a (cs,b,(k:Int)) (setL Bj (cfO (outP a held l[k] e)),setL Bh (maO (outP a held l[k] e))) q (by grind) K N0 0 cs (aB _) (by show (setL Bj (cfO (outP a held l[k] e))).length<2000000000+0;omega) (by show cs.length+((setL Bj (cfO (outP a held l[k] e))).length-0)<=1000000;omega) p
   refine (w _).trans ?_;have u:=fun v t K=>zro e l held a v t (setL Bh (maO (outP a held l[k] e))) o2 (by omega) K N0 0 b (aB _) (by unfold N0;omega) (by omega) o
   refine (u _ _ _).trans ?_;rw [aM,aM];exact zrq g j i e l s x K m (k+1) (puts Bj cs (setL Bj (cfO (outP a held l[k] e)))) (puts Bh b (setL Bh (maO (outP a held l[k] e)))) (by omega) (by omega) (by omega) (by omega) (zzi p q) (zqz o o2)
  ·rw [if_neg (by omega),aA (by omega)];rfl
theorem zkk {α β:Type}{c:α->α->Int}(h:TO c)(f:β->List α)(l:List β):setL c (l.flatMap (fun x=>setL c (f x)))=setL c (l.flatMap f):=by
 refine zut h (fun x=>?_);rw [aW,aW];constructor
 ·rintro ⟨y,b,g⟩;exact ⟨y,b,(Dk h _ _).1 g⟩
 ·rintro ⟨y,b,g⟩;exact ⟨y,b,(Dk h _ _).2 g⟩
def cfN (a:Aut)(held:List Ev)(l:List Cf)(e:Ev):List Cf:=setL Bj (l.flatMap (fun c=>cfO (outP a held c e)))
def maN (a:Aut)(held:List Ev)(l:List Cf)(e:Ev):List Ma:=setL Bh (l.flatMap (fun c=>maO (outP a held c e)))
theorem y7f (h:CxA a held)(b:a.fEdges.length<=100)(j:kk<=1000)(e:Ev)(l:List Cf)(m:∀ c∈l,CB held a kk c)(i:l.length<=5000):Up N0 a held l e=some (cfN a held l e,maN a held l e):=by
 have:=zrq h b j e l m i (fun g f=>some (g,f)) N0 0 [] [] (aB _) (by unfold N0;omega) (by simp) (by simp) (by simp) (by simp);unfold Up cfN maN;refine this.trans ?_;rw [aM,<-zkk cfCmp_to,<-zkk Ek];rfl
theorem zwk (d:Cf)(f:List Cf)(b:List Ma)(g:f.length<=100000000)(h1:b.length<=100000000):Pz N0 d f b=some (f++cfO [d],b++maO [d]):=by
 unfold Pz;rw [A5,zjo,zi4,C1 (by grind) (by omega),C1 (by simp only [aT];omega) (by omega)];by_cases h:d.fState<0
 ·simp [h,cfO,maO]
 ·simp [h,cfO,maO]
variable {r:B9}
theorem Zq (j:CxA r.fa held)(l:kk<=1000)(o:CB held r.fa kk c)(g:∀ y∈held,Bm y=Bm e->y=e)(i:r.fa.fEdges.length<=100)(K:List Cf->List Ma->Option (List Cf×List Ma×B9×Cf×Ev)) :
  ∀ (m k:Nat) (f:List Cf) (b:List Ma),k<=r.fa.fEdges.length->r.fa.fEdges.length<m+k->f.length<=90000000+k->b.length<=90000000+k->Hp N0 e c r ⟨bndV held r.fa.fVars.toNat c.fBindings⟩ K m ((k:Int),f,b)=K (f++cfO (((r.fa.fEdges.drop k).filter (fun x=>decide (x.fFrom=c.fState))).filterMap (fun x=>coP r.fa held c x e))) (b++maO (((r.fa.fEdges.drop k).filter (fun x=>decide (x.fFrom=c.fState))).filterMap (fun x=>coP r.fa held c x e)))
 |0,k,f,b,h1,B,A,z=>by omega
 |m+1,k,f,b,h1,B,A,z=>by
  unfold Hp;simp only [aD,A5,Aj];by_cases h:k<r.fa.fEdges.length
  ·have p:=aC h;rw [if_pos (by omega),A9 h,B1 _ k h,Ae k (by omega),aU];by_cases q:r.fa.fEdges[k].fFrom=c.fState;rotate_left
   ·rw [if_neg q,if_neg (by simpa using q)];exact Zq j l o g i K m (k+1) f b (by omega) (by omega) (by omega) (by omega)
   rw [if_pos q,if_pos (by simpa using q),zm1 j l o p g,A3,aV];cases w:coP r.fa held c r.fa.fEdges[k] e with
   |none =>
    simp only [rfC,Aq];exact Zq j l o g i K m (k+1) f b (by omega) (by omega) (by omega) (by omega)
   |some d =>
    simp only [rfC,Ap];have t:=Ss [d];have s:=Nz [d];simp only [aT] at t s;rw [zwk d f b (by omega) (by omega),Ce];have u:=Zq j l o g i K m (k+1) (f++cfO [d]) (b++maO [d]) (by omega) (by omega) (by rw [aG];omega) (by rw [aG];omega);refine u.trans ?_;rw [aJ,aJ,<-zjp,<-zi5];rfl
  ·rw [if_neg (by omega),aA (by omega)];simp [cfO,maO]
theorem Zp (j:CxA r.fa held)(l:kk<=1000)(o:CB held r.fa kk c)(g:∀ y∈held,Bm y=Bm e->y=e)(i:r.fa.fEdges.length<=100)(K:List Cf->List Ma->Option (List Cf×List Ma×B9×Cf×Ev)) :
  ∀ (m k:Nat) (f:List Cf) (b:List Ma),k<=r.fa.fEdges.length->r.fa.fEdges.length<m+k->f.length<=90000000+k->b.length<=90000000+k->Ho N0 e c r ⟨bndV held r.fa.fVars.toNat c.fBindings⟩ K m ((k:Int),f,b)=K (f++cfO (((r.fa.fEdges.drop k).filter (fun x=>decide (x.fFrom=c.fState))).filterMap (fun x=>coP r.fa held c x e))) (b++maO (((r.fa.fEdges.drop k).filter (fun x=>decide (x.fFrom=c.fState))).filterMap (fun x=>coP r.fa held c x e)))
 |0,k,f,b,h1,B,A,z=>by omega
 |m+1,k,f,b,h1,B,A,z=>by
  unfold Ho;simp only [aD,A5,Aj];by_cases h:k<r.fa.fEdges.length
  ·have p:=aC h;rw [if_pos (by omega),A9 h,B1 _ k h,Ae k (by omega),aU];by_cases q:r.fa.fEdges[k].fFrom=c.fState;rotate_left
   ·rw [if_neg q,if_neg (by simpa using q)];exact Zp j l o g i K m (k+1) f b (by omega) (by omega) (by omega) (by omega)
   rw [if_pos q,if_pos (by simpa using q),zm1 j l o p g,A3,aV];cases w:coP r.fa held c r.fa.fEdges[k] e with
   |none =>
    simp only [rfC,Aq];exact Zp j l o g i K m (k+1) f b (by omega) (by omega) (by omega) (by omega)
   |some d =>
    simp only [rfC,Ap];have t:=Ss [d];have s:=Nz [d];simp only [aT] at t s;rw [zwk d f b (by omega) (by omega),Ce];have u:=Zp j l o g i K m (k+1) (f++cfO [d]) (b++maO [d]) (by omega) (by omega) (by rw [aG];omega) (by rw [aG];omega);refine u.trans ?_;rw [aJ,aJ,<-zjp,<-zi5];rfl
  ·rw [if_neg (by omega),aA (by omega)];simp [cfO,maO]
theorem zwj (j:CxA r.fa held)(hm:HM held r.fheld)(u:kk<=1000)(b:CB held r.fa kk c)(m:∀ y∈held,Bm y=Bm e->y=e)(l:r.fa.fEdges.length<=100)(i:List Cf)(h:List Ma)(L:i.length<=10000000)(h1:h.length<=10000000):T9 N0 i h r c e=some (i++cfO (outP r.fa held c e),h++maO (outP r.fa held c e),r,c,e):=by
 have E:=b.lb;have D:=j.lh;have f:=j.ok.vars;have C:¬c.fState<0:=by have:=b.st;omega
 obtain ⟨p,I,w,H⟩:=Wo b.st;have s:EvS (enH held c.fBindings):=Jl (by omega);have t:=zxm ⟨f.1,f.2⟩ b.bd;have F:=(j.wf.st p w).1;unfold T9;rw [y7b N0 (by decide) held r hm f c.fBindings (by omega) b.bd,A3,Zs b.st.1 I];rw [zp3 N0 ⟨bndV held r.fa.fVars.toNat c.fBindings⟩ e (vio (enH held c.fBindings) e) p.fGuards (by omega) (by unfold N0;omega) (fun g G=>by
  unfold Ko;have:=y1e t s ((j.wf.st p w).2 g G) e;refine (congrArg (fun o=>bnd o fun z=>some z) this).trans ?_;rw [A3]),A3]
 have q:skP r.fa held c e=!(p.fGuards.any (vio (enH held c.fBindings) e)):=by unfold skP;rw [H]
 rw [<-q];unfold outP;rw [zjp,zi5];cases skP r.fa held c e with
 |true =>
  rw [Ap,zwk c i h (by omega) (by omega),Ce];have J:=Ss [c];have x:=Nz [c];have B:=fun K=>Zq j u b m l K N0 0 (i++cfO [c]) (h++maO [c]) (aB _) (by unfold N0;omega) (by grind) (by rw [aG];simp at x;omega)
  refine (B _).trans ?_;rw [aM];simp [aJ,Dd]
 |false =>
  rw [Aq];have A:=fun K=>Zp j u b m l K N0 0 i h (aB _) (by unfold N0;omega) (by omega) (by omega)
  refine (A _).trans ?_;rw [aM];simp [Dd,cfO,maO]
theorem zrs (o:CxA r.fa held)(hm:HM held r.fheld)(p:kk<=1000)(i:∀ y∈held,Bm y=Bm e->y=e)(g:r.fa.fEdges.length<=100)(l:List Cf)(q:∀ c∈l,CB held r.fa kk c)(s:l.length<=5000)(K:List Cf->List Ma->Option (List Cf×List Ma)):∀ (m k:Nat) (f:List Cf) (b:List Ma),k<=l.length->l.length<m+k->f.length<=101*k->b.length<=101*k->Py N0 e l r K m ((k:Int),f,b)=K (f++(l.drop k).flatMap (fun c=>cfO (outP r.fa held c e))) (b++(l.drop k).flatMap (fun c=>maO (outP r.fa held c e)))
 |0,k,f,b,h1,x,w,u=>by omega
 |m+1,k,f,b,h1,x,w,u=>by
  unfold Py;simp only [aD,A5];by_cases h:k<l.length
  ·have j:=q _ (aC h);have B:=Ss (outP r.fa held l[k] e);have A:=Nz (outP r.fa held l[k] e);have z:(outP r.fa held l[k] e).length<=r.fa.fEdges.length+1:=Si;have t:Y0 N0 r l[k] e=some (r,l[k],e):=rfl;rw [if_pos (by omega),A9 h,t,Ce];simp only;rw [zwj o hm p j i g f b (by omega) (by omega),Ce,B1 _ k h,aP,aP,<-aJ,<-aJ,Ae k (by omega)];exact zrs o hm p i g l q s K m (k+1) _ _ (by omega) (by omega) (by rw [aG];omega) (by rw [aG];omega)
  grind
theorem Zt {α β:Type}(f:α->List β)(n:Nat):∀ l:List α,(∀ x∈l,(f x).length<=n)->(l.flatMap f).length<=n*l.length
 |[],_=>by simp
 |x::l,h=>by
  have h1:=h x (by simp);have g:=Zt f n l (fun y b=>h y (aO _ b));rw [aP,aG,length_cons,Nat.mul_succ];omega
theorem zwl (g:CxA r.fa held)(hm:HM held r.fheld)(i:kk<=1000)(m:∀ y∈held,Bm y=Bm e->y=e)(h:r.fa.fEdges.length<=100)(l:List Cf)(o:∀ c∈l,CB held r.fa kk c)(q:l.length<=5000):Iu N0 r l e=some (cfN r.fa held l e,maN r.fa held l e):=by
 have p:=fun K=>zrs g hm i m h l o q K N0 0 [] [] (aB _) (by unfold N0;omega) (by simp) (by simp)
 unfold Iu;refine (p _).trans ?_;rw [aM,bB,bB];have t:=Zt (fun c=>cfO (outP r.fa held c e)) 101 l (fun c _=>by have:=Ss (outP r.fa held c e);have:(outP r.fa held c e).length<=r.fa.fEdges.length+1:=Si;omega);have s:=Zt (fun c=>maO (outP r.fa held c e)) 101 l (fun c _=>by have:=Nz (outP r.fa held c e);have:(outP r.fa held c e).length<=r.fa.fEdges.length+1:=Si;omega);rw [zvk N0 (by decide) _ (fun d j=>by
  obtain ⟨c,f,b⟩:=aW.1 j;exact y25 g i (o c f) e d b) (by omega),Ce,y2p N0 (by decide) _ (fun d j=>by
  obtain ⟨c,f,b⟩:=aW.1 j;exact zx0 g i (o c f) e d b) (by omega),Ce]
 rfl
end Go.Proofs.YtidhlpjgifoneaaGreat
