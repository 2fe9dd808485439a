/- Layer 57, plainly. -/
import Derived.Test.YtidhlpjgifoneaaGreatK32
set_option linter.unusedVariables false
set_option linter.unusedSimpArgs false
namespace Go.Proofs.YtidhlpjgifoneaaGreat
open Go.RowKit List
open Classical in
noncomputable def unm (os:List Mp)(v:Int)(n:Nat):Nat:=(range n).countP (fun t=>decide (¬zgs os t v))
theorem y65 {α:Type}{p q:α->Bool}:∀ {l:List α},(∀ x∈l,q x=true->p x=true)->(∃ x∈l,p x=true/\q x=false)->l.countP q<l.countP p
 |[],_,h=>by simp_all
 |y::r,h1,h2=>by
  have hm:r.countP q<=r.countP p:=countP_mono_left (fun x hx=>h1 x (mem_cons_of_mem _ hx))
  obtain ⟨x,hx,px,qx⟩:=h2
  rw [countP_cons,countP_cons]
  rcases mem_cons.1 hx with e|e
  ·grind
  ·have ih:=y65 (l:=r) (fun x hx=>h1 x (mem_cons_of_mem _ hx)) ⟨x,e,px,qx⟩
   grind
variable {os os':List Mp}{v:Int}{n:Nat}
theorem yq2 (h:∀ t,zgs os t v->zgs os' t v):unm os' v n<=unm os v n:=by
 unfold unm
 refine countP_mono_left (fun t _ ht=>?_)
 grind
theorem yq1 {s:Nat}(h:∀ t,zgs os t v->zgs os' t v)(hs:s<n)(h1:¬zgs os s v)(h2:zgs os' s v):unm os' v n<unm os v n:=by
 unfold unm
 refine y65 (fun t _ ht=>?_) ⟨s,mem_range.2 hs,by simpa using h1,by simpa using h2⟩
 grind
theorem ysh (os:List Mp)(v:Int)(n:Nat):unm os v n<=n:=by
 unfold unm
 exact Nat.le_trans (countP_le_length) (by simp)
inductive Bk (bk:List (List Int)):Nat->Nat->Prop
 |refl (s:Nat):Bk bk s s
 |step (t y s:Nat) (h:(y:Int)∈bk.getD s []) (ht:Bk bk t y):Bk bk t s
structure ytu (n:Nat) (bk:List (List Int)):Prop where
 len:bk.length=n
 big:∀ q∈bk,q.length<=1100000
 mem:∀ q∈bk,∀ y∈q,0<=y/\y<(n:Int)
structure Sp (n:Nat) (bk:List (List Int)) (v:Int) (os:List Mp) (ss:Nat->Prop) (os':List Mp):Prop where
 ok:znn n os'
 mono:∀ t x,zgs os t x->zgs os' t x
 snd:∀ t x,zgs os' t x->zgs os t x\/(x=v/\∃ s,ss s/\Bk bk t s)
 mark:∀ s,ss s->zgs os' s v
 clo:∀ t,zgs os' t v->zgs os t v\/∀ y:Nat,(y:Int)∈bk.getD t []->zgs os' y v
def Spr (n:Nat)(bk:List (List Int))(v:Int)(u:Nat):Prop:=∀ (os:List Mp) (s:Nat),s<n->znn n os->unm os v n<=u->∀ f,u+2000000<f->∃ os',z3x f (s:Int) v n (ixs n n,os) bk=some (n,(ixs n n,os'),bk)/\Sp n bk v os (fun x=>x=s) os'
variable {bk:List (List Int)}
theorem ybg (hb:ytu n bk){u:Nat}(IH:Spr n bk v u)(f:Nat)(hf:u+2000000<f)(ps:List Int)(hps:∀ y∈ps,0<=y/\y<(n:Int))(hpl:ps.length<=1100000)(K:Nat->Ars Mp->List (List Int)->Option (Nat×Ars Mp×List (List Int))) :
  ∀ (m j:Nat) (os:List Mp),j<=ps.length->ps.length<m+j->znn n os->unm os v n<=u->∃ os',z5q f (z3x f) v ps K m ((j:Int),n,bk,(ixs n n,os))=K n (ixs n n,os') bk/\Sp n bk v os (fun x=>(x:Int)∈ps.drop j) os'
 |0,j,os,h1,h2,_,_=>by omega
 |m+1,j,os,h1,h2,ho,hu=>by
  unfold z5q
  simp only [length_map,z0d]
  by_cases h:j<ps.length
  ·obtain ⟨y,hy⟩:∃ y:Nat,ps[j]=(y:Int):=⟨ps[j].toNat,by have:=hps _ (getElem_mem h);omega⟩
   have hyn:y<n:=by have:=hps _ (getElem_mem h);omega
   obtain ⟨os1,q1,q2⟩:=IH os y hyn ho hu f hf
   rw [if_pos (by omega),z0k h,hy,q1,z8e,z1s j (by omega)]
   obtain ⟨os',r1,r2⟩:=ybg hb IH f hf ps hps hpl K m (j+1) os1 (by omega) (by omega) q2.ok (Nat.le_trans (yq2 (fun t ht=>q2.mono t v ht)) hu)
   refine ⟨os',r1,⟨r2.ok,fun t x hx=>r2.mono t x (q2.mono t x hx),fun t x hx=>?_,fun s hs=>?_,fun t ht=>?_⟩⟩
   ·rcases r2.snd t x hx with hx|⟨e,s,hs,hbk⟩
    ·rcases q2.snd t x hx with hx|⟨e,s,hs,hbk⟩
     ·exact Or.inl hx
     ·subst hs
      exact Or.inr ⟨e,s,by rw [drop_eq_getElem_cons h,hy];simp,hbk⟩
    ·exact Or.inr ⟨e,s,by rw [drop_eq_getElem_cons h];exact mem_cons_of_mem _ hs,hbk⟩
   ·rw [drop_eq_getElem_cons h,hy] at hs
    rcases mem_cons.1 hs with e|e
    ·have:s=y:=by omega
     exact r2.mono s v (q2.mark s this)
    ·exact r2.mark s e
   ·rcases r2.clo t ht with ht|hc
    ·rcases q2.clo t ht with ht|hc
     ·exact Or.inl ht
     ·exact Or.inr (fun y hy=>r2.mono y v (hc y hy))
    ·exact Or.inr hc
  ·rw [if_neg (by omega)]
   refine ⟨os,rfl,⟨ho,fun t x hx=>hx,fun t x hx=>Or.inl hx,fun s hs=>?_,fun t ht=>Or.inl ht⟩⟩
   grind
theorem ysv (hb:ytu n bk)(hv:0<=v/\v<16)(hn:n<=1000):∀ u,Spr n bk v u:=by
 intro u
 induction u using Nat.strongRecOn with
 |ind u IH =>
  intro os s hs ho hu f hf
  obtain ⟨f',rfl⟩:∃ f',f=f' + 1:=⟨f-1,by omega⟩
  obtain ⟨l,hl,hm⟩:=ho.at hs
  simp only [z3x]
  rw [zlb (by omega) (by rw [Int.toNat_natCast];exact hs),Int.toNat_natCast,yd7 hs,yrz hl]
  have hst:zgs os s v ↔ has l v:=⟨fun ⟨l',h1,h2⟩=>by simp_all,fun h=>⟨l,hl,h⟩⟩
  by_cases hmk:has l v
  ·rw [(y9k hm v).2 hmk,z4u]
   exact ⟨os,rfl,⟨ho,fun t x hx=>hx,fun t x hx=>Or.inl hx,fun x hx=>by rw [hx];exact hst.2 hmk,fun t ht=>Or.inl ht⟩⟩
  ·have hf0:(mlk l v).getD false=false:=by
    cases h:(mlk l v).getD false with
    |false=>rfl
    |true=>exact absurd ((y9k hm v).1 h) hmk
   obtain ⟨o1,o2⟩:=ho.put hl hv
   rw [hf0,z5d,zlb (by omega) (by rw [Int.toNat_natCast];exact hs),yd7 hs,yiw hl hm.srt]
   have hsb:s<bk.length:=by rw [hb.len];exact hs
   rw [z0k hsb]
   have hlt:unm (os.set s (zv8 l v true)) v n<unm os v n:=yq1 (fun t ht=>(o2 t v).2 (Or.inl ht)) hs (fun h=>hmk (hst.1 h)) ((o2 s v).2 (Or.inr ⟨rfl,rfl⟩))
   have hgd:bk.getD s []=bk[s]:=by rw [getD_eq_getElem?_getD,getElem?_eq_getElem hsb];rfl
   obtain ⟨u',hu'⟩:∃ u',u=u' + 1:=⟨u-1,by omega⟩
   obtain ⟨os',r1,r2⟩:=ybg hb (IH u' (by omega)) f' (by omega) bk[s] (hb.mem _ (getElem_mem hsb)) (hb.big _ (getElem_mem hsb)) (fun y0 y1 y2=>some (y0,y1,y2)) f' 0 _ (Nat.zero_le _) (by have:=hb.big _ (getElem_mem hsb);omega) o1 (by omega)
   rw [drop_zero] at r2
   refine ⟨os',r1,⟨r2.ok,fun t x hx=>r2.mono t x ((o2 t x).2 (Or.inl hx)),fun t x hx=>?_,fun x hx=>?_,fun t ht=>?_⟩⟩
   ·rcases r2.snd t x hx with hx|⟨e,y,hy,hbk⟩
    ·rcases (o2 t x).1 hx with hx|⟨e1,e2⟩
     ·exact Or.inl hx
     ·subst e1;exact Or.inr ⟨e2,_,rfl,.refl _⟩
    ·refine Or.inr ⟨e,s,rfl,.step t y s (by rw [hgd];exact hy) hbk⟩
   ·subst hx
    exact r2.mono _ v ((o2 _ v).2 (Or.inr ⟨rfl,rfl⟩))
   ·rcases r2.clo t ht with ht|hc
    ·rcases (o2 t v).1 ht with ht|⟨e,_⟩
     ·exact Or.inl ht
     ·subst e
      exact Or.inr (fun y hy=>r2.mark y (by rw [hgd] at hy;exact hy))
    ·exact Or.inr hc
section
variable {β α:Type}
theorem yog (a b:Option β):nxt ([]:List α) a b=a:=by unfold nxt;rfl
theorem ylf (x:α)(l:List α)(a b:Option β):nxt (x::l) a b=b:=by unfold nxt;rfl
end
structure Mk (a:Aut) (bk:List (List Int)) (os:List Mp):Prop where
 ok:znn a.fStates.length os
 snd:∀ t x,zgs os t x->Rd a t x
 clo:∀ t x,zgs os t x->∀ y:Nat,(y:Int)∈bk.getD t []->zgs os y x
structure BkA (a:Aut) (bk:List (List Int)):Prop where
 ok:ytu a.fStates.length bk
 mem:∀ (t y:Nat),t<a.fStates.length->((y:Int)∈bk.getD t [] ↔ ∃ ed∈a.fEdges,ed.fTo=(t:Int)/\ed.fFrom=(y:Int))
variable {a:Aut}
theorem ytj (hb:BkA a bk){t s:Nat}(h:Bk bk t s){x:Int}(hx:Rd a s x):Rd a t x:=by
 induction h with
 |refl=>exact hx
 |step y s hy _ ih =>
  have hs:s<a.fStates.length:=by
   by_cases hs:s<a.fStates.length
   ·exact hs
   ·rw [getD_eq_getElem?_getD,getElem?_eq_none (by rw [hb.ok.len];omega)] at hy
    simp at hy
  obtain ⟨ed,h1,h2,h3⟩:=(hb.mem s y hs).1 hy
  exact ih (.step ed h1 y s x h3 h2 hx)
theorem Mk.spread (hb:BkA a bk)(hn:a.fStates.length<=1000)(h:Mk a bk os){i:Nat}(hi:i<a.fStates.length)(hv:ypt a i v):∃ os',z3x N0 (i:Int) v a.fStates.length (ixs a.fStates.length a.fStates.length,os) bk=some (a.fStates.length,(ixs a.fStates.length a.fStates.length,os'),bk)/\Mk a bk os'/\(∀ t x,zgs os t x->zgs os' t x)/\zgs os' i v:=by
 obtain ⟨os',q1,q2⟩:=ysv hb.ok (zy9 hv) hn a.fStates.length os i hi h.ok (ysh _ _ _) N0 (by unfold N0;omega)
 refine ⟨os',q1,⟨q2.ok,fun t x hx=>?_,fun t x hx y hy=>?_⟩,q2.mono,q2.mark i rfl⟩
 ·rcases q2.snd t x hx with hx|⟨e,s,hs,hbk⟩
  ·exact h.snd t x hx
  ·subst hs e
   exact ytj hb hbk (.own _ _ hv)
 ·rcases q2.snd t x hx with hx'|⟨e,_⟩
  ·exact q2.mono y x (h.clo t x hx' y hy)
  ·subst e
   rcases q2.clo t hx with hx'|hc
   ·exact q2.mono y x (h.clo t x hx' y hy)
   ·exact hc y hy
theorem ygk (hb:BkA a bk)(hn:a.fStates.length<=1000)(k21:Ars Mp)(v4:Int×Nat×List (List Int)×Ars Mp){i:Nat}(hi:i<a.fStates.length)(hv4:v4.1=(i:Int))(K:Nat->Ars Mp->List (List Int)->Option (List Mp))(R:List Mp) :
  ∀ (m:Nat) (rest:Mp) (os:List Mp),rest.length<m->Mk a bk os->(∀ p∈rest,ypt a i p.1)->(∀ os',Mk a bk os'->(∀ t x,zgs os t x->zgs os' t x)->(∀ p∈rest,zgs os' i p.1)->K a.fStates.length (ixs a.fStates.length a.fStates.length,os') bk=some R) ->
   z7s N0 k21 v4 K m (a.fStates.length,bk,rest,(ixs a.fStates.length a.fStates.length,os))=some R
 |0,rest,os,h1,_,_,_=>by omega
 |m+1,rest,os,h1,ho,hr,hK=>by
  unfold z7s
  simp only
  cases rest with
  |nil =>
   rw [yog]
   simp_all
  |cons p r =>
   rw [ylf]
   refine yks (by simp) (fun j hj=>?_)
   have hpj:=hr _ (getElem_mem hj)
   obtain ⟨os1,q1,q2,q3,q4⟩:=ho.spread hb hn hi hpj
   rw [z1d,hv4,q1,z8e]
   refine ygk hb hn k21 v4 hi hv4 K R m _ os1 (by grind) q2 (fun q hq=>hr q (mem_of_mem_eraseIdx hq)) (fun os' s1 s2 s3=>?_)
   refine hK os' s1 (fun t x hx=>s2 t x (q3 t x hx)) (fun q hq=>?_)
   have hperm:=zn2 hj
   grind
theorem ygl (hb:BkA a bk)(hn:a.fStates.length<=1000)(own:List Mp)(hol:own.length=a.fStates.length)(hol2:∀ l∈own,l.length<=1000)(hown:∀ t x,zgs own t x->ypt a t x)(k21:Ars Mp)(hk:zuu k21=own)(K:Nat->Ars Mp->Option (List Mp))(R:List Mp) :
  ∀ (m i:Nat) (os:List Mp),i<=a.fStates.length->a.fStates.length<m+i->Mk a bk os->(∀ os',Mk a bk os'->(∀ t x,zgs os t x->zgs os' t x)->(∀ t x,i<=t->zgs own t x->zgs os' t x)->K a.fStates.length (ixs a.fStates.length a.fStates.length,os')=some R) ->
   z2g N0 k21 K m ((i:Int),a.fStates.length,bk,(ixs a.fStates.length a.fStates.length,os))=some R
 |0,i,os,h1,h2,_,_=>by omega
 |m+1,i,os,h1,h2,ho,hK=>by
  unfold z2g
  simp only [hk,length_map,z0d]
  by_cases h:i<a.fStates.length
  ·have hio:i<own.length:=by omega
   rw [if_pos (by omega),z0k hio]
   have hh:∀ p∈own[i],zgs own i p.1:=fun p hp=>⟨_,getElem?_eq_getElem hio,mem_map.2 ⟨p,hp,rfl⟩⟩
   refine ygk hb hn k21 _ h rfl _ R N0 own[i] os (by grind) ho (fun p hp=>hown _ _ (hh p hp)) (fun os1 q1 q2 q3=>?_)
   rw [z1s i (by omega)]
   refine ygl hb hn own hol hol2 hown k21 hk K R m (i+1) os1 (by omega) (by omega) q1 (fun os' s1 s2 s3=>?_)
   refine hK os' s1 (fun t x hx=>s2 t x (q2 t x hx)) (fun t x ht hx=>?_)
   by_cases e:t=i
   ·subst e
    obtain ⟨l,hl,hx⟩:=hx
    rw [getElem?_eq_getElem hio] at hl;injection hl with hl;subst hl
    obtain ⟨p,hp,rfl⟩:=mem_map.1 hx
    exact s2 _ _ (q3 p hp)
   ·exact s3 t x (by omega) hx
  ·rw [if_neg (by omega)]
   exact hK os ho (fun t x hx=>hx) (fun t x ht hx=>by
    obtain ⟨l,hl,_⟩:=hx
    grind)
open Classical in
noncomputable def zeg (a:Aut):List Mp:=(range a.fStates.length).map fun t=>((range 16).filter (fun i:Nat=>decide (Rd a t (i:Int)))).map (fun i:Nat=>((i:Int),true))
open Classical in
theorem zrs (a:Aut):znn a.fStates.length (zeg a)/\∀ t x,zgs (zeg a) t x ↔ t<a.fStates.length/\Rd a t x:=by
 unfold zeg
 refine ⟨⟨by simp,fun l hl=>?_⟩,fun t x=>?_⟩
 ·obtain ⟨t,_,rfl⟩:=mem_map.1 hl
  refine ⟨?_,fun p hp=>?_⟩
  ·unfold Srt
   rw [map_map,pairwise_map]
   refine Pairwise.imp (fun {a b} (h:a<b)=>?_) (pairwise_lt_range.filter _)
   simp_all
  grind
 ·unfold zgs has
  constructor
  ·grind
  ·rintro ⟨h1,h2⟩
   refine ⟨_,by rw [getElem?_map,getElem?_range h1];rfl,?_⟩
   rw [map_map]
   have hb:=ykj h2
   refine mem_map.2 ⟨x.toNat,mem_filter.2 ⟨mem_range.2 (by omega),?_⟩,?_⟩
   all_goals grind
theorem yr5 (h:znn n os)(h':znn n os')(hk:∀ t x,zgs os t x ↔ zgs os' t x):os=os':=by
 apply ext_getElem
 ·rw [h.len,h'.len]
 ·intro i h1 h2
  refine yhg (h.map _ (getElem_mem h1)) (h'.map _ (getElem_mem h2)) (fun x=>?_)
  have a1:zgs os i x ↔ has os[i] x:=⟨fun ⟨l,hl,hx⟩=>by simp_all,fun h=>⟨_,getElem?_eq_getElem h1,h⟩⟩
  have a2:zgs os' i x ↔ has os'[i] x:=⟨fun ⟨l,hl,hx⟩=>by simp_all,fun h=>⟨_,getElem?_eq_getElem h2,h⟩⟩
  rw [<-a1,<-a2,hk]
theorem zr2.len {l:Mp}(h:zr2 l):l.length<=16:=by
 have s:Str zo7 (l.map (·.1)):=h.srt.imp (fun q=>(zp3 _ _).2 q)
 have key:∀ (q:List Int) (c:Int),q.Pairwise (· < ·)->(∀ x∈q,c<=x/\x<16)->(q.length:Int)<=max 0 (16-c):=fun q=>by
  induction q with
  |nil=>intro c _ _;simp;omega
  |cons y r ih =>
   intro c hp hb
   have h1:=hb y (by simp)
   obtain ⟨p1,p2⟩:=pairwise_cons.1 hp
   have:=ih (y+1) p2 (fun x hx=>by grind)
   grind
 have:=key (l.map (·.1)) 0 (show (l.map (·.1)).Pairwise (· < ·) from h.srt) (fun x hx=>by
  obtain ⟨p,hp,rfl⟩:=mem_map.1 hx
  exact (h.all p hp).2)
 grind
theorem ydv (hw:WfA a)(ha:AOk a)(hck:∀ x∈a.fEdges,x.fChecks.length<=1100000):zbk N0 a=some (zeg a):=by
 have hns:=ha.st
 have hle:=hw.le
 unfold zbk
 rw [length_map,ymu (by omega),ynb,z1d,yhd]
 obtain ⟨ylc,g1,g2,g3⟩:=ygo hw (by omega) (fun k1_0_0y0 k1_0_0y1=>mkn ((a.fStates.length:Nat):Int) 24 fun x44 =>
  nst 53 <| reg <| z2h N0 a x44
   (fun k2_1_0y0 k2_1_0y1 k2_1_0y2=>mkm ((a.fStates.length:Nat):Int) 8 fun x88 =>
  are 92 <| reg <| z3e N0 x44 k2_1_0y0 k2_1_0y1 k2_1_0y2 x88
   (fun k3_2_0y0 k3_2_0y1=>frr 53 <| reg <| frm 7021 <| reg <| z2g N0 k2_1_0y1
   (fun k4_3_0y0 k4_3_0y1=>frm 7092 <| reg <| some (zuu k4_3_0y1)) N0 (0,k3_2_0y0,k2_1_0y2,k3_2_0y1)) N0 (0,(mkA Mp x88))) N0 (0,k1_0_0y0,(replicate (x44) ([]:List Int)),k1_0_0y1)) N0 0 [] (Nat.zero_le _) (by unfold N0;omega) ⟨rfl,by simp⟩
 refine Eq.trans g1 ?_
 rw [yhc (by omega) (by omega),Int.toNat_natCast,yh7,z1d]
 obtain ⟨own2,e1,e2,e3⟩:=ygn hw ha hck (fun k2_1_0y0 k2_1_0y1 k2_1_0y2=>mkm ((a.fStates.length:Nat):Int) 8 fun x88 =>
  are 92 <| reg <| z3e N0 a.fStates.length k2_1_0y0 k2_1_0y1 k2_1_0y2 x88
   (fun k3_2_0y0 k3_2_0y1=>frr 53 <| reg <| frm 7021 <| reg <| z2g N0 k2_1_0y1
   (fun k4_3_0y0 k4_3_0y1=>frm 7092 <| reg <| some (zuu k4_3_0y1)) N0 (0,k3_2_0y0,k2_1_0y2,k3_2_0y1)) N0 (0,(mkA Mp x88))) N0 0 (replicate a.fStates.length []) ylc (Nat.zero_le _) (by unfold N0;omega) g2 (by simp) (fun q hq=>by simp_all)
 refine Eq.trans e1 ?_
 rw [ymu (by omega),ynb,z1d,yhd]
 have l3:=ygm (n:=a.fStates.length) (by omega) a.fStates.length a.fStates.length (ixs a.fStates.length a.fStates.length,own2) ((a.fEdges.drop 0).foldl zjp (replicate a.fStates.length [])) (fun k3_2_0y0 k3_2_0y1=>frr 53 <| reg <| frm 7021 <| reg <| z2g N0 (ixs a.fStates.length a.fStates.length,own2)
   (fun k4_3_0y0 k4_3_0y1=>frm 7092 <| reg <| some (zuu k4_3_0y1)) N0 (0,k3_2_0y0,((a.fEdges.drop 0).foldl zjp (replicate a.fStates.length [])),k3_2_0y1)) N0 0 [] (Nat.zero_le _) (by unfold N0;omega) rfl
 refine Eq.trans l3 ?_
 simp only [yhs,z1d,yrc,nil_append,Nat.sub_zero]
 rw [drop_zero]
 have hown:∀ t x,zgs own2 t x ↔ ypt a t x/\t<a.fStates.length:=fun t x=>by
  rw [e3,g3]
  constructor
  ·intro h
   refine ⟨?_,?_⟩
   ·rcases h with (⟨l,hl,_⟩|⟨_,h⟩)|⟨ed,h1,h2,h3⟩
    ·simp at hl
    ·exact Or.inl h
    ·exact Or.inr ⟨ed,by simpa using h1,h2,h3⟩
   ·have:zgs own2 t x:=by rw [e3,g3];exact h
    obtain ⟨l,hl,_⟩:=this
    rw [<-e2.len]
    grind
  ·rintro ⟨h|⟨ed,h1,h2,h3⟩,_⟩
   all_goals grind
 have hbl:(a.fEdges.foldl zjp (replicate a.fStates.length [])).length=a.fStates.length:=by rw [zyj];simp
 have hbm:∀ (t:Nat) (y:Int),t<a.fStates.length->(y∈(a.fEdges.foldl zjp (replicate a.fStates.length [])).getD t [] ↔ ∃ ed∈a.fEdges,ed.fTo=(t:Int)/\y=ed.fFrom):=fun t y ht=>by
  rw [zyi _ _ (by simpa using ht)]
  simp_all
 have hbk:BkA a (a.fEdges.foldl zjp (replicate a.fStates.length [])):=by
  refine ⟨⟨hbl,fun q hq=>?_,fun q hq y hy=>?_⟩,fun t y ht=>?_⟩
  ·have big:∀ (l:List Ed) (bk:List (List Int)) (k:Nat),(∀ q∈bk,q.length<=k)->∀ q∈l.foldl zjp bk,q.length<=k+l.length:=fun l=>by
    induction l with
    |nil=>intro bk k h q hq;exact h q hq
    |cons x r ih =>
     intro bk k h q hq
     have:=ih (zjp bk x) (k+1) (yj1 h) q hq
     grind
   have:=big a.fEdges (replicate a.fStates.length []) 0 (fun q hq=>by simp_all) q hq
   omega
  ·obtain ⟨t,ht,rfl⟩:=mem_iff_getElem.1 hq
   have ht':t<a.fStates.length:=by rw [hbl] at ht;exact ht
   obtain ⟨ed,h1,_,rfl⟩:=(hbm t y ht').1 (by simp_all)
   exact (ha.ed _ h1).frm
  ·grind
 have hm0:Mk a (a.fEdges.foldl zjp (replicate a.fStates.length [])) (replicate a.fStates.length []):=by
  have h0:∀ t x,¬zgs (replicate a.fStates.length ([]:Mp)) t x:=fun t x ⟨l,hl,hx⟩=>by
   rw [getElem?_replicate] at hl
   split at hl
   ·injection hl with hl;subst hl;simp [has] at hx
   ·cases hl
  exact ⟨⟨by simp,fun l hl=>by rw [eq_of_mem_replicate hl];exact y5l⟩,fun t x hx=>absurd hx (h0 t x),fun t x hx=>absurd hx (h0 t x)⟩
 refine ygl hbk (by omega) own2 e2.len (fun l hl=>by have:=(e2.map l hl).len;omega) (fun t x h=>((hown t x).1 h).1) (ixs a.fStates.length a.fStates.length,own2) (y77 e2.len) _ (zeg a) N0 0 _ (Nat.zero_le _) (by unfold N0;omega) hm0 (fun os' s1 _ s3=>?_)
 rw [y77 s1.ok.len]
 congr 1
 refine yr5 s1.ok (zrs a).1 (fun t x=>?_)
 rw [(zrs a).2]
 constructor
 ·intro h
  refine ⟨?_,s1.snd t x h⟩
  obtain ⟨l,hl,_⟩:=h
  rw [<-s1.ok.len]
  grind
 ·rintro ⟨ht,h⟩
  induction h with
  |own t x h=>grind
  |step ed he t s x h1 h2 h ih =>
   have hs:s<a.fStates.length:=by have:=(ha.ed _ he).tgt;omega
   exact s1.clo s x (ih hs) t ((hbk.mem s t hs).2 ⟨ed,he,h2,h1⟩)
def cvS (x y:Sta):Bool:=decide (x.fScope=y.fScope) && decide (y.fTime<=x.fTime)
def cvL:List Sta->List Sta->Bool
 |[],[]=>true
 |x::r,y::s=>cvS x y && cvL r s
 |_,_=>false
def rdB (m:Mp)(l:List Bd):List Bd:=l.filter (fun b=>(mlk m b.fVar).getD false)
def rdC (R:List Mp)(c:Cf):List Bd:=rdB (R.getD c.fState.toNat []) c.fBindings
def cov (R:List Mp)(c d:Cf):Bool:=decide (c.fState=d.fState) && (cvL c.fStarts d.fStarts && decide (rdC R c=rdC R d))
structure CS (R:List Mp) (c:Cf):Prop where
 st:0<=c.fState/\c.fState<(R.length:Int)
 lb:c.fBindings.length<=1000000
 ls:c.fStarts.length<=1000000
theorem yib:∀ {l m:List Sta},cvL l m=true->l.length=m.length
 |[],[],_=>rfl
 |x::r,y::s,h=>by
  unfold cvL at h
  rw [Bool.and_eq_true] at h
  simp [yib h.2]
 |[],_::_,h=>by cases h
 |_::_,[],h=>by cases h
theorem y63:∀ {a b c:List Sta},cvL a b=true->cvL b c=true->cvL a c=true
 |[],[],[],_,_=>rfl
 |x::a,y::b,z::c,h1,h2=>by
  unfold cvL at h1 h2 ⊢
  rw [Bool.and_eq_true] at h1 h2 ⊢
  refine ⟨?_,y63 h1.2 h2.2⟩
  have q1:=h1.1
  have q2:=h2.1
  unfold cvS at q1 q2 ⊢
  grind
 |[],_::_,_,h,_=>by cases h
 |_::_,[],_,h,_=>by cases h
 |_,[],_::_,_,h=>by cases h
 |_,_::_,[],_,h=>by cases h
variable {c:Cf}
theorem yie {R:List Mp}{a b:Cf}(h1:cov R a b=true)(h2:cov R b c=true):cov R a c=true:=by
 unfold cov at h1 h2 ⊢
 simp only [Bool.and_eq_true,decide_eq_true_eq] at h1 h2 ⊢
 exact ⟨h1.1.trans h2.1,y63 h1.2.1 h2.2.1,h1.2.2.trans h2.2.2⟩
theorem yt3 (n:Nat)(x y:Sta):z9c n x y=some (cvS x y):=by
 unfold z9c cvS
 simp only [z24,z1d,z2t,z0d]
 grind
theorem ybw (a b:List Sta)(hl:a.length=b.length)(hb:a.length<=1000000):∀ (m k:Nat),k<=a.length->a.length<m+k->z9w N0 b a (some true) m (k:Int)=some (cvL (a.drop k) (b.drop k))
 |0,k,h1,h2=>by omega
 |m+1,k,h1,h2=>by
  unfold z9w
  simp only [length_map,z0d]
  by_cases h:k<a.length
  ·have h':k<b.length:=by omega
   rw [if_pos (by omega),z0k h,z0k h',yt3,z04,drop_eq_getElem_cons h,drop_eq_getElem_cons h',z1s k (by omega)]
   have ih:=ybw a b hl hb m (k+1) (by omega) (by omega)
   unfold cvL
   cases hc:cvS a[k] b[k]
   ·rw [show (!false)=true from rfl,z4u];simp
   ·rw [show (!true)=false from rfl,z5d,ih];simp
  ·rw [if_neg (by omega),drop_eq_nil_of_le (by omega),drop_eq_nil_of_le (by omega)]
   rfl
theorem yrq {a b:List Sta}(h:a.length≠b.length):cvL a b=false:=by
 cases hc:cvL a b with
 |false=>rfl
 |true=>exact absurd (yib hc) h
theorem yt4 (a b:List Sta)(ha:a.length<=1000000):zdy N0 a b=some (cvL a b):=by
 unfold zdy
 simp only [length_map,z0y,z0d]
 by_cases h:a.length=b.length
 ·rw [if_pos (by omega)]
  have:=ybw a b h ha N0 0 (Nat.zero_le _) (by unfold N0;omega)
  simpa using this
 ·rw [if_neg (by omega),yrq h]
theorem y0e (m:Mp)(c:Cf)(hl:c.fBindings.length<=1000000)(K:List Bd->Option (List Bd)):∀ (f k:Nat) (out:List Bd),k<=c.fBindings.length->c.fBindings.length<f+k->out.length<=k->z8l N0 m c K f ((k:Int),out)=K (out++rdB m (c.fBindings.drop k))
 |0,k,out,h1,h2,_=>by omega
 |f+1,k,out,h1,h2,h3=>by
  unfold z8l
  simp only [length_map,z0d,z1d,yce]
  by_cases h:k<c.fBindings.length
  ·rw [if_pos (by omega),z0k h,drop_eq_getElem_cons h,z1s k (by omega)]
   have iha:=y0e m c hl K f (k+1) (out++[c.fBindings[k]]) (by omega) (by omega) (by simp;omega)
   have ihb:=y0e m c hl K f (k+1) out (by omega) (by omega) (by omega)
   have e1:(⟨c.fBindings[k].fVar,⟨c.fBindings[k].fRef.fTime,c.fBindings[k].fRef.fSource,c.fBindings[k].fRef.fSeq⟩⟩:Bd)=c.fBindings[k]:=rfl
   simp only [e1]
   unfold rdB
   rw [filter_cons]
   cases hm:(mlk m c.fBindings[k].fVar).getD false
   ·rw [z5d,ihb];simp [rdB]
   ·rw [z4u,zbr (by simp;omega) (by omega),iha];simp [rdB]
  ·rw [if_neg (by omega),drop_eq_nil_of_le (by omega)]
   simp [rdB]
theorem ymn (m:Mp)(c:Cf)(hl:c.fBindings.length<=1000000):zck N0 c m=some (rdB m c.fBindings):=by
 unfold zck
 have:=y0e m c hl (fun y=>some y) N0 0 [] (Nat.zero_le _) (by unfold N0;omega) (by simp)
 simpa using this
theorem yry (x y:Bd):(decide (x.fVar=y.fVar) && (decide (x.fRef.fTime=y.fRef.fTime) && (decide (x.fRef.fSource=y.fRef.fSource) && (decide (x.fRef.fSeq=y.fRef.fSeq) && true))))=decide (x=y):=by
 obtain ⟨v,t,s,q⟩:=x
 obtain ⟨v',t',s',q'⟩:=y
 simp
theorem ybu (a b:List Bd)(hl:a.length=b.length)(hb:a.length<=1000000):∀ (m k:Nat),k<=a.length->a.length<m+k->zch N0 b a (some true) m (k:Int)=some (decide (a.drop k=b.drop k))
 |0,k,h1,h2=>by omega
 |m+1,k,h1,h2=>by
  unfold zch
  simp only [length_map,z0d,yry]
  by_cases h:k<a.length
  ·have h':k<b.length:=by omega
   rw [if_pos (by omega),z0k h,z0k h',drop_eq_getElem_cons h,drop_eq_getElem_cons h',z1s k (by omega)]
   have ih:=ybu a b hl hb m (k+1) (by omega) (by omega)
   rw [z0y,z0d]
   by_cases e:a[k]=b[k]
   ·have q:(a[k]::a.drop (k+1)=b[k]::b.drop (k+1)) ↔ a.drop (k+1)=b.drop (k+1):=⟨fun h=>(List.cons.inj h).2,fun h=>by rw [e,h]⟩
    simp_all
   ·have q:¬(a[k]::a.drop (k+1)=b[k]::b.drop (k+1)):=fun h=>e (List.cons.inj h).1
    rw [if_neg e,decide_eq_false q]
  grind
theorem yqx (a b:List Bd)(ha:a.length<=1000000):zfr N0 a b=some (decide (a=b)):=by
 unfold zfr
 simp only [length_map,z0y,z0d]
 by_cases h:a.length=b.length
 ·rw [if_pos (by omega)]
  have:=ybu a b h ha N0 0 (Nat.zero_le _) (by unfold N0;omega)
  simpa using this
 ·rw [if_neg (by omega)]
  have:a≠b:=fun e=>h (by rw [e])
  simp [this]
variable {d:Cf}
theorem yt5 {R:List Mp}(hc:CS R c)(hd:CS R d):z67 N0 c d R=some (cov R c d):=by
 have h1:=hc.st
 unfold z67 cov
 simp only [z24,z1d,z2n,z0d,yt4 _ _ hc.ls,z04]
 by_cases h:c.fState=d.fState
 ·rw [if_pos h]
  obtain ⟨s,hs⟩:∃ s:Nat,c.fState=(s:Int):=⟨c.fState.toNat,by omega⟩
  have hsl:s<R.length:=by omega
  have hg:R.getD s []=R[s]:=by rw [getD_eq_getElem?_getD,getElem?_eq_getElem hsl];rfl
  cases hv:cvL c.fStarts d.fStarts
  ·rw [z5d];simp
  ·rw [z4u,<-h,hs,z0k hsl,ymn _ _ hc.lb,z04,z0k hsl,ymn _ _ hd.lb,z04,yqx _ _ (Nat.le_trans (show (rdB R[s] c.fBindings).length<=c.fBindings.length from length_filter_le _ _) hc.lb),z04]
   unfold rdC
   grind
 ·rw [if_neg h];simp [h]
def cfO (l:List Cf):List Cf:=l.filter (fun d=>!decide (d.fState<0))
def maO (l:List Cf):List Ma:=(l.filter (fun d=>decide (d.fState<0))).map (fun d=>⟨d.fBindings⟩)
def zt4 (a:Aut)(s:Int):List Ed:=a.fEdges.filter (fun x=>decide (x.fFrom=s))
def skP (a:Aut)(held:List Ev)(c:Cf)(e:Ev):Bool:=!(zou a c.fState).any (vio (enH held c.fBindings) e)
def zhp (a:Aut)(held:List Ev)(c:Cf)(e:Ev):List Cf:=(if skP a held c e=true then [c] else [])++(zt4 a c.fState).filterMap (fun x=>coP a held c x e)
theorem y1z (d:Cf)(l:List Cf):cfO (d::l)=if d.fState<0 then cfO l else d::cfO l:=by
 unfold cfO;grind
theorem y0l (d:Cf)(l:List Cf):maO (d::l)=if d.fState<0 then (⟨d.fBindings⟩:Ma)::maO l else maO l:=by
 unfold maO;grind
theorem y20 (l m:List Cf):cfO (l++m)=cfO l++cfO m:=by unfold cfO;rw [filter_append]
theorem y0m (l m:List Cf):maO (l++m)=maO l++maO m:=by unfold maO;simp_all
theorem zpv (l:List Cf):(cfO l).length<=l.length:=length_filter_le _ _
theorem znz (l:List Cf):(maO l).length<=l.length:=by unfold maO;grind
theorem yan {l:List Cf}(h:d∈cfO l):d∈l/\0<=d.fState:=by
 have:=mem_filter.1 h
 simp_all
theorem yok {l:List Cf}{m:Ma}(h:m∈maO l):∃ d∈l,m=⟨d.fBindings⟩:=by
 obtain ⟨d,hd,rfl⟩:=mem_map.1 h
 grind
def Sz (k:Nat)(c:Cf):Prop:=c.fBindings.length<=k/\c.fStarts.length<=100*k
variable {k:Nat}
theorem Sz.ok (hk:k<=1001)(h:Sz k c):zli c=true:=(zgo c).2 ⟨by have:=h.1;omega,by have:=h.2;omega⟩
variable {held:List Ev}{e:Ev}
theorem zrr {x:Ed}(h:coP a held c x e=some d):d=⟨x.fTo,bdN c x e,(stN c x e).filter (ncl x)⟩:=by
 unfold coP at h
 simp_all
theorem yik (hx:CxA a held)(hc:CB held a k c){x:Ed}(hxe:x∈a.fEdges)(h:coP a held c x e=some d):Sz (k+1) d:=by
 rw [zrr h]
 have h1:=hc.lb
 have h2:=hc.ls
 have h3:=hx.lo x hxe
 have h4:=y0i e.fTime x.fOpens c.fStarts
 have h5:=length_filter_le (ncl x) (stN c x e)
 refine ⟨by unfold bdN;simp;omega,?_⟩
 unfold stN at h5 ⊢
 simp only
 omega
theorem CB.sz (h:CB held a k c):Sz k c:=⟨h.lb,h.ls⟩
theorem zlu {s:Int}{x:Ed}(h:x∈zt4 a s):x∈a.fEdges/\x.fFrom=s:=by
 have:=mem_filter.1 h
 simp_all
theorem yh3 (hx:CxA a held)(hc:CB held a k c)(h:d∈zhp a held c e):Sz (k+1) d:=by
 unfold zhp at h
 rcases mem_append.1 h with h|h
 ·split at h
  ·rw [mem_singleton.1 h]
   have:=hc.sz
   exact ⟨by have:=this.1;omega,by have:=this.2;omega⟩
  ·simp at h
 ·obtain ⟨x,hx',hd⟩:=mem_filterMap.1 h
  exact yik hx hc (zlu hx').1 hd
theorem zmy:(zhp a held c e).length<=a.fEdges.length+1:=by
 unfold zhp zt4
 grind
theorem y9l (hk:k<=1001)(h:Sz k c):zle ⟨c.fBindings⟩=true:=(zh2 _).2 (by have:=h.1;simp;omega)
theorem zxx (e:Ev)(env:List (List Ev))(hs:EvS env)(st:Stt)(hg:st.fGuards.length<=1100000)(hw:∀ g∈st.fGuards,WfE g.fCond):∀ (m k:Nat),k<=st.fGuards.length->st.fGuards.length<m+k->z7c N0 e ⟨env⟩ st (some true) m (k:Int)=some (!(st.fGuards.drop k).any (vio env e))
 |0,k,h1,h2=>by omega
 |m+1,k,h1,h2=>by
  unfold z7c
  simp only [length_map,z0d]
  by_cases h:k<st.fGuards.length
  ·rw [if_pos (by omega),z0k h,z0e _ k h,any_cons,ygd hs (hw _ (getElem_mem h)),z04,z1s k (by omega),zxx e env hs st hg hw m (k+1) (by omega) (by omega)]
   cases vio env e st.fGuards[k]<;>simp [z4u,z5d]
  grind
theorem ykx (hx:CxA a held)(hk:k<=1000)(hc:CB held a k c)(e:Ev):zbe N0 a held c e=some (skP a held c e):=by
 have hlb:=hc.lb
 have hlh:=hx.lh
 obtain ⟨st,g1,g2,g3⟩:=zlt hc.st
 unfold zbe skP
 rw [ygh N0 (by decide) held (by omega) c (by omega),z04,zrk hc.st.1 g1,g3]
 have:=zxx e (enH held c.fBindings) (zlz (by omega)) st (hx.wf.st st g2).1 (hx.wf.st st g2).2 N0 0 (Nat.zero_le _) (by have:=(hx.wf.st st g2).1;unfold N0;omega)
 simp_all
theorem zss (s:Int)(a:Aut)(hl:a.fEdges.length<=1000000)(K:List Ed->Option (List Ed)):∀ (m k:Nat) (out:List Ed),k<=a.fEdges.length->a.fEdges.length<m+k->out.length<=k->z5w N0 s a K m ((k:Int),out)=K (out++(a.fEdges.drop k).filter (fun x=>decide (x.fFrom=s)))
 |0,k,out,h1,h2,h3=>by omega
 |m+1,k,out,h1,h2,h3=>by
  unfold z5w
  simp only [length_map,z0d]
  by_cases h:k<a.fEdges.length
  ·have i1:=zss s a hl K m (k+1) (out++[a.fEdges[k]]) (by omega) (by omega) (by simp_all)
   have i2:=zss s a hl K m (k+1) out (by omega) (by omega) (by omega)
   rw [if_pos (by omega),z1d,z0k h,z0k h,z0e _ k h,z1s k (by omega),zbr (by grind) (by omega),i1,i2,filter_cons]
   grind
  grind
theorem yqq (s:Int)(a:Aut)(hl:a.fEdges.length<=1000000):zbv N0 a s=some (zt4 a s):=by
 have:=zss s a hl (fun y=>some y) N0 0 [] (Nat.zero_le _) (by unfold N0;omega) (by simp)
 unfold zbv zt4
 exact this
variable {kk:Nat}
theorem zrf (hx:CxA a held)(hk:kk<=1000)(hc:CB held a kk c)(e:Ev)(es:List Ed)(hes:∀ x∈es,x∈a.fEdges)(hl:es.length<=100000)(K:List Cf->List Ma->Option (List Cf×List Ma)) :
  ∀ (m k:Nat) (cs:List Cf) (ms:List Ma),k<=es.length->es.length<m+k->cs.length<=k+1->ms.length<=k->(∀ d∈cs,zli d=true)->(∀ d∈ms,zle d=true)->z4j N0 e c held a es K m (cs,ms,(k:Int))=K (zki zdi cs (cfO ((es.drop k).filterMap (fun x=>coP a held c x e)))) (zki z7v ms (maO ((es.drop k).filterMap (fun x=>coP a held c x e))))
 |0,k,cs,ms,h1,h2,h3,h4,h5,h6=>by omega
 |m+1,k,cs,ms,h1,h2,h3,h4,h5,h6=>by
  unfold z4j
  simp only [length_map,z0d,z0y]
  by_cases h:k<es.length
  ·have hxe:=hes _ (getElem_mem h)
   have hcon:=ydw hx hk hc hxe e
   rw [if_pos (by omega),z0k h,z0e _ k h,filterMap_cons,z1s k (by omega)]
   cases hco:coP a held c es[k] e with
   |none =>
    have hcon':z5v N0 a held c es[k] e=some (cf0,false):=hcon.trans (by rw [hco];rfl)
    rw [hcon',z04]
    simp only [z5d]
    exact zrf hx hk hc e es hes hl K m (k+1) cs ms (by omega) (by omega) (by omega) (by omega) h5 h6
   |some d =>
    have hd:=yik hx hc hxe hco
    have hcon':z5v N0 a held c es[k] e=some (d,true):=hcon.trans (by rw [hco];rfl)
    rw [hcon',z04]
    simp only [z4u,z1d]
    rw [y1z,y0l]
    by_cases hs:d.fState<0
    ·rw [if_pos hs,if_pos hs,if_pos hs,ygp N0 (by decide) _ (y9l (by omega) hd) ms h6 (by omega),z04,zhf]
     have hil:=zko z7v (⟨d.fBindings⟩:Ma) ms
     exact zrf hx hk hc e es hes hl K m (k+1) cs _ (by omega) (by omega) (by omega) (by omega) h5 (y0t (y9l (by omega) hd) h6)
    ·rw [if_neg hs,if_neg hs,if_neg hs,ygq N0 (by decide) _ (hd.ok (by omega)) cs h5 (by omega),z04,zhf]
     have hil:=zko zdi d cs
     exact zrf hx hk hc e es hes hl K m (k+1) _ ms (by omega) (by omega) (by omega) (by omega) (ycg (hd.ok (by omega)) h5) h6
  ·rw [if_neg (by omega),drop_eq_nil_of_le (by omega)]
   rfl
theorem ysx (hx:CxA a held)(hle:a.fEdges.length<=100000)(hk:kk<=1000)(hc:CB held a kk c)(e:Ev):zcv N0 a held c e=some (zjn zdi (cfO (zhp a held c e)),zjn z7v (maO (zhp a held c e))):=by
 have hfl:(zt4 a c.fState).length<=100000:=by
  have:=length_filter_le (fun x:Ed=>decide (x.fFrom=c.fState)) a.fEdges
  unfold zt4;omega
 have l1:=fun cs h3 h5=>zrf hx hk hc e (zt4 a c.fState) (fun x h=>(zlu h).1) hfl (fun k1_1_0y0 k1_1_0y1=>some (k1_1_0y0,k1_1_0y1)) N0 0 cs [] (Nat.zero_le _) (by unfold N0;omega) h3 (by simp) h5 (by simp)
 have hns:¬c.fState<0:=by have:=hc.st;omega
 unfold zcv
 simp only [z24,z1d,z6r]
 rw [ykx hx hk hc e,z04,yqq _ a (by omega)]
 simp only [z04]
 unfold zhp zjn
 rw [y20,y0m,zj2,zj2]
 cases skP a held c e with
 |true =>
  have hput:=ygq N0 (by decide) c (hc.sz.ok (by omega)) [] (by simp) (by simp)
  rw [z4u,hput,z04]
  have:=l1 (znb zdi c []) (by simp [znb]) (by simp [znb];exact hc.sz.ok (by omega))
  refine this.trans ?_
  have e1:zki zdi [] (cfO (if true=true then [c] else []))=znb zdi c []:=by
   rw [if_pos rfl,y1z,if_neg hns];rfl
  have e2:zki z7v [] (maO (if true=true then [c] else []))=[]:=by
   rw [if_pos rfl,y0l,if_neg hns];rfl
  rw [e1,e2]
  rfl
 |false =>
  rw [z5d]
  refine (l1 [] (by simp) (by simp)).trans ?_
  rfl
theorem yc1 (e:Ev)(l:List Cf)(held:List Ev)(a:Aut)(v:List Cf×List Ma×Int)(x:List Cf×List Ma)(hok:∀ d∈x.1,zli d=true)(hl:x.1.length<=100000)(K:List Cf->List Ma->Option (List Cf×List Ma)):∀ (m k:Nat) (cs:List Cf),k<=x.1.length->x.1.length<m+k->cs.length+(x.1.length-k)<=1000000->(∀ d∈cs,zli d=true)->z8u N0 e l held a v x K m (cs,(k:Int))=K (zki zdi cs (x.1.drop k)) x.2
 |0,k,cs,h1,h2,h3,h4=>by omega
 |m+1,k,cs,h1,h2,h3,h4=>by
  unfold z8u
  simp only [length_map,z0d]
  by_cases h:k<x.1.length
  ·have ho:=hok _ (getElem_mem h)
   have hil:=zko zdi x.1[k] cs
   rw [if_pos (by omega),z0k h,ygq N0 (by decide) _ ho cs h4 (by omega),z04,z0e _ k h,zhf,z1s k (by omega)]
   exact yc1 e l held a v x hok hl K m (k+1) _ (by omega) (by omega) (by omega) (ycg ho h4)
  ·rw [if_neg (by omega),drop_eq_nil_of_le (by omega)]
   rfl
theorem yc0 (e:Ev)(l:List Cf)(held:List Ev)(a:Aut)(v:List Cf×List Ma×Int)(y0:List Cf)(x:List Ma)(hok:∀ d∈x,zle d=true)(hl:x.length<=100000)(K:List Ma->Option (List Cf×List Ma)):∀ (m k:Nat) (cs:List Ma),k<=x.length->x.length<m+k->cs.length+(x.length-k)<=1000000->(∀ d∈cs,zle d=true)->z8t N0 e l held a v y0 x K m (cs,(k:Int))=K (zki z7v cs (x.drop k))
 |0,k,cs,h1,h2,h3,h4=>by omega
 |m+1,k,cs,h1,h2,h3,h4=>by
  unfold z8t
  simp only [length_map,z0d]
  by_cases h:k<x.length
  ·have ho:=hok _ (getElem_mem h)
   have hil:=zko z7v x[k] cs
   have hp:=ygp N0 (by decide) x[k] ho cs h4 (by omega)
   rw [if_pos (by omega),z0k h,z0e _ k h,zhf,z1s k (by omega),hp,z04]
   exact yc0 e l held a v y0 x hok hl K m (k+1) _ (by omega) (by omega) (by omega) (y0t ho h4)
  ·rw [if_neg (by omega),drop_eq_nil_of_le (by omega)]
   rfl
theorem y4m (most:Int)(l:List Ev)(a:Aut)(v:List Cf×List Ma×Int)(x:List Cf×List Ma)(hok:∀ d∈x.2,zle d=true)(hl:x.2.length<=1000000)(K:List Ma->List Cf->Option (List Cf×List Ma×Bool)):∀ (m k:Nat) (cs:List Ma),k<=x.2.length->x.2.length<m+k->cs.length+(x.2.length-k)<=1000000->(∀ d∈cs,zle d=true)->z6a N0 most l a v x K m (cs,(k:Int))=K (zki z7v cs (x.2.drop k)) x.1
 |0,k,cs,h1,h2,h3,h4=>by omega
 |m+1,k,cs,h1,h2,h3,h4=>by
  unfold z6a
  simp only [length_map,z0d]
  by_cases h:k<x.2.length
  ·have ho:=hok _ (getElem_mem h)
   have hil:=zko z7v x.2[k] cs
   have hp:=ygp N0 (by decide) x.2[k] ho cs h4 (by omega)
   rw [if_pos (by omega),z0k h,z0e _ k h,zhf,z1s k (by omega),hp,z04]
   exact y4m most l a v x hok hl K m (k+1) _ (by omega) (by omega) (by omega) (y0t ho h4)
  ·rw [if_neg (by omega),drop_eq_nil_of_le (by omega)]
   rfl
theorem yfk {l:List Ma}(h:∀ x∈l,zle x=true):∀ x∈zjn z7v l,zle x=true:=fun x hx=>h x ((zfd zc3 x l).1 hx)
theorem yn9 (hx:CxA a held)(hk:kk<=1000)(hc:CB held a kk c)(e:Ev):∀ d∈cfO (zhp a held c e),zli d=true:=fun d hd=>(yh3 hx hc (yan hd).1).ok (by omega)
theorem yhh (hx:CxA a held)(hk:kk<=1000)(hc:CB held a kk c)(e:Ev):∀ d∈maO (zhp a held c e),zle d=true:=fun d hd=>by
 obtain ⟨q,hq,rfl⟩:=yok hd
 exact y9l (by omega) (yh3 hx hc hq)
theorem yc2 (hx:CxA a held)(hle:a.fEdges.length<=100)(hk:kk<=1000)(e:Ev)(l:List Cf)(hc:∀ c∈l,CB held a kk c)(hl:l.length<=5000)(K:List Cf->List Ma->Option (List Cf×List Ma)) :
  ∀ (m k:Nat) (cs:List Cf) (ms:List Ma),k<=l.length->l.length<m+k->cs.length<=101*k->ms.length<=101*k->(∀ d∈cs,zli d=true)->(∀ d∈ms,zle d=true)->z8v N0 e l held a K m (cs,ms,(k:Int))=K (zki zdi cs ((l.drop k).flatMap (fun c=>zjn zdi (cfO (zhp a held c e))))) (zki z7v ms ((l.drop k).flatMap (fun c=>zjn z7v (maO (zhp a held c e)))))
 |0,k,cs,ms,h1,h2,h3,h4,h5,h6=>by omega
 |m+1,k,cs,ms,h1,h2,h3,h4,h5,h6=>by
  unfold z8v
  simp only [length_map,z0d]
  by_cases h:k<l.length
  ·have hck:=hc _ (getElem_mem h)
   have z1:=zr9 (c:=zdi) (cfO (zhp a held l[k] e))
   have z2:=zr9 (c:=z7v) (maO (zhp a held l[k] e))
   have z3:=zpv (zhp a held l[k] e)
   have z4:=znz (zhp a held l[k] e)
   have z5:(zhp a held l[k] e).length<=a.fEdges.length+1:=zmy
   have o1:=ynm (yn9 hx hk hck e)
   have o2:=yfk (yhh hx hk hck e)
   have p1:=zrd (c:=zdi) (zjn zdi (cfO (zhp a held l[k] e))) cs
   have p2:=zrd (c:=z7v) (zjn z7v (maO (zhp a held l[k] e))) ms
   rw [if_pos (by omega),z0k h,ysx hx (by omega) hk hck e,z04,z0e _ k h,flatMap_cons,flatMap_cons,zj2,zj2,z1s k (by omega)]
   have l2:=fun K=>yc1 e l held a (cs,ms,(k:Int)) (zjn zdi (cfO (zhp a held l[k] e)),zjn z7v (maO (zhp a held l[k] e))) o1 (by grind) K N0 0 cs (Nat.zero_le _) (by grind) (by grind) h5
   refine (l2 _).trans ?_
   have l3:=fun v y0 K=>yc0 e l held a v y0 (zjn z7v (maO (zhp a held l[k] e))) o2 (by omega) K N0 0 ms (Nat.zero_le _) (by unfold N0;omega) (by omega) h6
   refine (l3 _ _ _).trans ?_
   rw [drop_zero,drop_zero]
   exact yc2 hx hle hk e l hc hl K m (k+1) (zki zdi cs (zjn zdi (cfO (zhp a held l[k] e)))) (zki z7v ms (zjn z7v (maO (zhp a held l[k] e)))) (by omega) (by omega) (by omega) (by omega) (ykp h5 o1) (ybb h6 o2)
  ·rw [if_neg (by omega),drop_eq_nil_of_le (by omega)]
   rfl
theorem y46 {α β:Type}{c:α->α->Int}(h:TO c)(f:β->List α)(l:List β):zjn c (l.flatMap (fun x=>zjn c (f x)))=zjn c (l.flatMap f):=by
 refine yfl h (fun x=>?_)
 rw [mem_flatMap,mem_flatMap]
 constructor
 ·rintro ⟨y,hy,hx⟩
  exact ⟨y,hy,(zfd h _ _).1 hx⟩
 ·rintro ⟨y,hy,hx⟩
  exact ⟨y,hy,(zfd h _ _).2 hx⟩
def cfN (a:Aut)(held:List Ev)(l:List Cf)(e:Ev):List Cf:=zjn zdi (l.flatMap (fun c=>cfO (zhp a held c e)))
def maN (a:Aut)(held:List Ev)(l:List Cf)(e:Ev):List Ma:=zjn z7v (l.flatMap (fun c=>maO (zhp a held c e)))
theorem yt6 (hx:CxA a held)(hle:a.fEdges.length<=100)(hk:kk<=1000)(e:Ev)(l:List Cf)(hc:∀ c∈l,CB held a kk c)(hl:l.length<=5000):zcx N0 a held l e=some (cfN a held l e,maN a held l e):=by
 have:=yc2 hx hle hk e l hc hl (fun y0 y1=>some (y0,y1)) N0 0 [] [] (Nat.zero_le _) (by unfold N0;omega) (by simp) (by simp) (by simp) (by simp)
 unfold zcx cfN maN
 refine this.trans ?_
 rw [drop_zero,<-y46 cfCmp_to,<-y46 zc3]
 rfl
theorem yh2 (d:Cf)(m0:List Cf)(m1:List Ma)(h0:m0.length<=100000000)(h1:m1.length<=100000000):z7q N0 d m0 m1=some (m0++cfO [d],m1++maO [d]):=by
 unfold z7q
 rw [z0d,y1z,y0l,zbr (by grind) (by omega),zbr (by grind) (by omega)]
 by_cases h:d.fState<0
 ·simp [h,cfO,maO]
 ·simp [h,cfO,maO]
variable {r:z0m}
theorem zrh (hx:CxA r.fa held)(hk:kk<=1000)(hc:CB held r.fa kk c)(hch:∀ y∈held,zc2 y=zc2 e->y=e)(hle:r.fa.fEdges.length<=100)(K:List Cf->List Ma->Option (List Cf×List Ma×z0m×Cf×Ev)) :
  ∀ (m k:Nat) (m0:List Cf) (m1:List Ma),k<=r.fa.fEdges.length->r.fa.fEdges.length<m+k->m0.length<=90000000+k->m1.length<=90000000+k->z1l N0 e c r ⟨zwe held r.fa.fVars.toNat c.fBindings⟩ K m ((k:Int),m0,m1)=K (m0++cfO (((r.fa.fEdges.drop k).filter (fun x=>decide (x.fFrom=c.fState))).filterMap (fun x=>coP r.fa held c x e))) (m1++maO (((r.fa.fEdges.drop k).filter (fun x=>decide (x.fFrom=c.fState))).filterMap (fun x=>coP r.fa held c x e)))
 |0,k,m0,m1,h1,h2,h3,h4=>by omega
 |m+1,k,m0,m1,h1,h2,h3,h4=>by
  unfold z1l
  simp only [length_map,z0d,z0y]
  by_cases h:k<r.fa.fEdges.length
  ·have hxe:=getElem_mem h
   rw [if_pos (by omega),z0k h,z0e _ k h,z1s k (by omega),filter_cons]
   by_cases q:r.fa.fEdges[k].fFrom=c.fState
   rotate_left
   ·rw [if_neg q,if_neg (by simpa using q)]
    exact zrh hx hk hc hch hle K m (k+1) m0 m1 (by omega) (by omega) (by omega) (by omega)
   rw [if_pos q,if_pos (by simpa using q),y5e hx hk hc hxe hch,z04,filterMap_cons]
   cases hco:coP r.fa held c r.fa.fEdges[k] e with
   |none =>
    simp only [rfC,z5d]
    exact zrh hx hk hc hch hle K m (k+1) m0 m1 (by omega) (by omega) (by omega) (by omega)
   |some d =>
    simp only [rfC,z4u]
    have z1:=zpv [d]
    have z2:=znz [d]
    simp only [length_singleton] at z1 z2
    rw [yh2 d m0 m1 (by omega) (by omega),z8e]
    have ih:=zrh hx hk hc hch hle K m (k+1) (m0++cfO [d]) (m1++maO [d]) (by omega) (by omega) (by rw [length_append];omega) (by rw [length_append];omega)
    refine ih.trans ?_
    rw [append_assoc,append_assoc,<-y20,<-y0m]
    rfl
  ·rw [if_neg (by omega),drop_eq_nil_of_le (by omega)]
   simp [cfO,maO]
theorem zrg (hx:CxA r.fa held)(hk:kk<=1000)(hc:CB held r.fa kk c)(hch:∀ y∈held,zc2 y=zc2 e->y=e)(hle:r.fa.fEdges.length<=100)(K:List Cf->List Ma->Option (List Cf×List Ma×z0m×Cf×Ev)) :
  ∀ (m k:Nat) (m0:List Cf) (m1:List Ma),k<=r.fa.fEdges.length->r.fa.fEdges.length<m+k->m0.length<=90000000+k->m1.length<=90000000+k->z1k N0 e c r ⟨zwe held r.fa.fVars.toNat c.fBindings⟩ K m ((k:Int),m0,m1)=K (m0++cfO (((r.fa.fEdges.drop k).filter (fun x=>decide (x.fFrom=c.fState))).filterMap (fun x=>coP r.fa held c x e))) (m1++maO (((r.fa.fEdges.drop k).filter (fun x=>decide (x.fFrom=c.fState))).filterMap (fun x=>coP r.fa held c x e)))
 |0,k,m0,m1,h1,h2,h3,h4=>by omega
 |m+1,k,m0,m1,h1,h2,h3,h4=>by
  unfold z1k
  simp only [length_map,z0d,z0y]
  by_cases h:k<r.fa.fEdges.length
  ·have hxe:=getElem_mem h
   rw [if_pos (by omega),z0k h,z0e _ k h,z1s k (by omega),filter_cons]
   by_cases q:r.fa.fEdges[k].fFrom=c.fState
   rotate_left
   ·rw [if_neg q,if_neg (by simpa using q)]
    exact zrg hx hk hc hch hle K m (k+1) m0 m1 (by omega) (by omega) (by omega) (by omega)
   rw [if_pos q,if_pos (by simpa using q),y5e hx hk hc hxe hch,z04,filterMap_cons]
   cases hco:coP r.fa held c r.fa.fEdges[k] e with
   |none =>
    simp only [rfC,z5d]
    exact zrg hx hk hc hch hle K m (k+1) m0 m1 (by omega) (by omega) (by omega) (by omega)
   |some d =>
    simp only [rfC,z4u]
    have z1:=zpv [d]
    have z2:=znz [d]
    simp only [length_singleton] at z1 z2
    rw [yh2 d m0 m1 (by omega) (by omega),z8e]
    have ih:=zrg hx hk hc hch hle K m (k+1) (m0++cfO [d]) (m1++maO [d]) (by omega) (by omega) (by rw [length_append];omega) (by rw [length_append];omega)
    refine ih.trans ?_
    rw [append_assoc,append_assoc,<-y20,<-y0m]
    rfl
  ·rw [if_neg (by omega),drop_eq_nil_of_le (by omega)]
   simp [cfO,maO]
theorem yh1 (hx:CxA r.fa held)(hm:HM held r.fheld)(hk:kk<=1000)(hc:CB held r.fa kk c)(hch:∀ y∈held,zc2 y=zc2 e->y=e)(hle:r.fa.fEdges.length<=100)(m0:List Cf)(m1:List Ma)(h0:m0.length<=10000000)(h1:m1.length<=10000000):z78 N0 m0 m1 r c e=some (m0++cfO (zhp r.fa held c e),m1++maO (zhp r.fa held c e),r,c,e):=by
 have hlb:=hc.lb
 have hlh:=hx.lh
 have hva:=hx.ok.vars
 have hns:¬c.fState<0:=by have:=hc.st;omega
 obtain ⟨st,g1,g2,g3⟩:=zlt hc.st
 have hes:EvS (enH held c.fBindings):=zlz (by omega)
 have hab:=yi7 ⟨hva.1,hva.2⟩ hc.bd
 have hgl:=(hx.wf.st st g2).1
 unfold z78
 rw [yt2 N0 (by decide) held r hm hva c.fBindings (by omega) hc.bd,z04,zrk hc.st.1 g1]
 rw [y9c N0 ⟨zwe held r.fa.fVars.toNat c.fBindings⟩ e (vio (enH held c.fBindings) e) st.fGuards (by omega) (by unfold N0;omega) (fun g hg=>by
  unfold z4a
  have:=ymj hab hes ((hx.wf.st st g2).2 g hg) e
  refine (congrArg (fun o=>bnd o fun x1=>some x1) this).trans ?_
  rw [z04]),z04]
 have hsk:skP r.fa held c e=!(st.fGuards.any (vio (enH held c.fBindings) e)):=by unfold skP;rw [g3]
 rw [<-hsk]
 unfold zhp
 rw [y20,y0m]
 cases skP r.fa held c e with
 |true =>
  rw [z4u,yh2 c m0 m1 (by omega) (by omega),z8e]
  have z1:=zpv [c]
  have z2:=znz [c]
  have l1:=fun K=>zrh hx hk hc hch hle K N0 0 (m0++cfO [c]) (m1++maO [c]) (Nat.zero_le _) (by unfold N0;omega) (by grind) (by grind)
  refine (l1 _).trans ?_
  rw [drop_zero]
  simp [append_assoc,zt4]
 |false =>
  rw [z5d]
  have l2:=fun K=>zrg hx hk hc hch hle K N0 0 m0 m1 (Nat.zero_le _) (by unfold N0;omega) (by omega) (by omega)
  refine (l2 _).trans ?_
  rw [drop_zero]
  simp [zt4,cfO,maO]
theorem yc3 (hx:CxA r.fa held)(hm:HM held r.fheld)(hk:kk<=1000)(hch:∀ y∈held,zc2 y=zc2 e->y=e)(hle:r.fa.fEdges.length<=100)(l:List Cf)(hc:∀ c∈l,CB held r.fa kk c)(hl:l.length<=5000)(K:List Cf->List Ma->Option (List Cf×List Ma)):∀ (m k:Nat) (m0:List Cf) (m1:List Ma),k<=l.length->l.length<m+k->m0.length<=101*k->m1.length<=101*k->z7p N0 e l r K m ((k:Int),m0,m1)=K (m0++(l.drop k).flatMap (fun c=>cfO (zhp r.fa held c e))) (m1++(l.drop k).flatMap (fun c=>maO (zhp r.fa held c e)))
 |0,k,m0,m1,h1,h2,h3,h4=>by omega
 |m+1,k,m0,m1,h1,h2,h3,h4=>by
  unfold z7p
  simp only [length_map,z0d]
  by_cases h:k<l.length
  ·have hck:=hc _ (getElem_mem h)
   have z3:=zpv (zhp r.fa held l[k] e)
   have z4:=znz (zhp r.fa held l[k] e)
   have z5:(zhp r.fa held l[k] e).length<=r.fa.fEdges.length+1:=zmy
   have hb:zdz N0 r l[k] e=some (r,l[k],e):=rfl
   rw [if_pos (by omega),z0k h,hb,z8e]
   simp only
   rw [yh1 hx hm hk hck hch hle m0 m1 (by omega) (by omega),z8e,z0e _ k h,flatMap_cons,flatMap_cons,<-append_assoc,<-append_assoc,z1s k (by omega)]
   exact yc3 hx hm hk hch hle l hc hl K m (k+1) _ _ (by omega) (by omega) (by rw [length_append];omega) (by rw [length_append];omega)
  grind
theorem zrm {α β:Type}(f:α->List β)(n:Nat):∀ l:List α,(∀ x∈l,(f x).length<=n)->(l.flatMap f).length<=n*l.length
 |[],_=>by simp
 |x::l,h=>by
  have h1:=h x (by simp)
  have h2:=zrm f n l (fun y hy=>h y (mem_cons_of_mem _ hy))
  rw [flatMap_cons,length_append,length_cons,Nat.mul_succ]
  omega
theorem y5g (hx:CxA r.fa held)(hm:HM held r.fheld)(hk:kk<=1000)(hch:∀ y∈held,zc2 y=zc2 e->y=e)(hle:r.fa.fEdges.length<=100)(l:List Cf)(hc:∀ c∈l,CB held r.fa kk c)(hl:l.length<=5000):z5f N0 r l e=some (cfN r.fa held l e,maN r.fa held l e):=by
 have l1:=fun K=>yc3 hx hm hk hch hle l hc hl K N0 0 [] [] (Nat.zero_le _) (by unfold N0;omega) (by simp) (by simp)
 unfold z5f
 refine (l1 _).trans ?_
 rw [drop_zero,nil_append,nil_append]
 have f1:=zrm (fun c=>cfO (zhp r.fa held c e)) 101 l (fun c _=>by have:=zpv (zhp r.fa held c e);have:(zhp r.fa held c e).length<=r.fa.fEdges.length+1:=zmy;omega)
 have f2:=zrm (fun c=>maO (zhp r.fa held c e)) 101 l (fun c _=>by have:=znz (zhp r.fa held c e);have:(zhp r.fa held c e).length<=r.fa.fEdges.length+1:=zmy;omega)
 rw [yg9 N0 (by decide) _ (fun d hd=>by
  obtain ⟨c,hc1,hc2⟩:=mem_flatMap.1 hd
  exact yn9 hx hk (hc c hc1) e d hc2) (by omega),z8e,yg8 N0 (by decide) _ (fun d hd=>by
  obtain ⟨c,hc1,hc2⟩:=mem_flatMap.1 hd
  exact yhh hx hk (hc c hc1) e d hc2) (by omega),z8e]
 rfl
end Go.Proofs.YtidhlpjgifoneaaGreat
