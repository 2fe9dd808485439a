/- Layer 57, plainly. -/
import Derived.Test.YtidhlpjgifoneaaGreatK31
set_option linter.unusedVariables false
set_option linter.unusedSimpArgs false
namespace Go.Proofs.YtidhlpjgifoneaaGreat
open Go.RowKit List
open Classical in
noncomputable def unm (os:List Mp)(v:Int)(n:Nat):Nat:=(range n).countP (fun t=>decide (¬hasO os t v))
theorem zz9 {α:Type}{p q:α->Bool}:∀ {l:List α},(∀ x∈l,q x=true->p x=true)->(∃ x∈l,p x=true/\q x=false)->l.countP q<l.countP p
 |[],_,h=>by simp_all
 |y::r,h1,h2=>by
  have hm:r.countP q<=r.countP p:=countP_mono_left (fun x hx=>h1 x (mem_cons_of_mem _ hx))
  obtain ⟨x,hx,px,qx⟩:=h2
  rw [countP_cons,countP_cons]
  rcases mem_cons.1 hx with e|e
  ·grind
  ·have ih:=zz9 (l:=r) (fun x hx=>h1 x (mem_cons_of_mem _ hx)) ⟨x,e,px,qx⟩
   grind
variable {os os':List Mp}{v:Int}{n:Nat}
theorem ypv (h:∀ t,hasO os t v->hasO os' t v):unm os' v n<=unm os v n:=by
 unfold unm
 refine countP_mono_left (fun t _ ht=>?_)
 grind
theorem ypu {s:Nat}(h:∀ t,hasO os t v->hasO os' t v)(hs:s<n)(h1:¬hasO os s v)(h2:hasO os' s v):unm os' v n<unm os v n:=by
 unfold unm
 refine zz9 (fun t _ ht=>?_) ⟨s,mem_range.2 hs,by simpa using h1,by simpa using h2⟩
 grind
theorem yru (os:List Mp)(v:Int)(n:Nat):unm os v n<=n:=by
 unfold unm
 exact Nat.le_trans (countP_le_length) (by simp)
inductive Bk (bk:List (List Int)):Nat->Nat->Prop
 |refl (s:Nat):Bk bk s s
 |step (t y s:Nat) (h:(y:Int)∈bk.getD s []) (ht:Bk bk t y):Bk bk t s
structure BkOk (n:Nat) (bk:List (List Int)):Prop where
 len:bk.length=n
 big:∀ q∈bk,q.length<=1100000
 mem:∀ q∈bk,∀ y∈q,0<=y/\y<(n:Int)
structure Sp (n:Nat) (bk:List (List Int)) (v:Int) (os:List Mp) (ss:Nat->Prop) (os':List Mp):Prop where
 ok:OsOk n os'
 mono:∀ t x,hasO os t x->hasO os' t x
 snd:∀ t x,hasO os' t x->hasO os t x\/(x=v/\∃ s,ss s/\Bk bk t s)
 mark:∀ s,ss s->hasO os' s v
 clo:∀ t,hasO os' t v->hasO os t v\/∀ y:Nat,(y:Int)∈bk.getD t []->hasO os' y v
def Spr (n:Nat)(bk:List (List Int))(v:Int)(u:Nat):Prop:=∀ (os:List Mp) (s:Nat),s<n->OsOk n os->unm os v n<=u->∀ f,u+2000000<f->∃ os',z3y f (s:Int) v n (ixs n n,os) bk=some (n,(ixs n n,os'),bk)/\Sp n bk v os (fun x=>x=s) os'
variable {bk:List (List Int)}
theorem ycn (hb:BkOk n bk){u:Nat}(IH:Spr n bk v u)(f:Nat)(hf:u+2000000<f)(ps:List Int)(hps:∀ y∈ps,0<=y/\y<(n:Int))(hpl:ps.length<=1100000)(K:Nat->Ars Mp->List (List Int)->Option (Nat×Ars Mp×List (List Int))) :
  ∀ (m j:Nat) (os:List Mp),j<=ps.length->ps.length<m+j->OsOk n os->unm os v n<=u->∃ os',z5o f (z3y f) v ps K m ((j:Int),n,bk,(ixs n n,os))=K n (ixs n n,os') bk/\Sp n bk v os (fun x=>(x:Int)∈ps.drop j) os'
 |0,j,os,h1,h2,_,_=>by omega
 |m+1,j,os,h1,h2,ho,hu=>by
  unfold z5o
  simp only [length_map,z0c]
  by_cases h:j<ps.length
  ·obtain ⟨y,hy⟩:∃ y:Nat,ps[j]=(y:Int):=⟨ps[j].toNat,by have:=hps _ (getElem_mem h);omega⟩
   have hyn:y<n:=by have:=hps _ (getElem_mem h);omega
   obtain ⟨os1,q1,q2⟩:=IH os y hyn ho hu f hf
   rw [if_pos (by omega),z0j h,hy,q1,z8n,z1o j (by omega)]
   obtain ⟨os',r1,r2⟩:=ycn hb IH f hf ps hps hpl K m (j+1) os1 (by omega) (by omega) q2.ok (Nat.le_trans (ypv (fun t ht=>q2.mono t v ht)) hu)
   refine ⟨os',r1,⟨r2.ok,fun t x hx=>r2.mono t x (q2.mono t x hx),fun t x hx=>?_,fun s hs=>?_,fun t ht=>?_⟩⟩
   ·rcases r2.snd t x hx with hx|⟨e,s,hs,hbk⟩
    ·rcases q2.snd t x hx with hx|⟨e,s,hs,hbk⟩
     ·exact Or.inl hx
     ·subst hs
      exact Or.inr ⟨e,s,by rw [drop_eq_getElem_cons h,hy];simp,hbk⟩
    ·exact Or.inr ⟨e,s,by rw [drop_eq_getElem_cons h];exact mem_cons_of_mem _ hs,hbk⟩
   ·rw [drop_eq_getElem_cons h,hy] at hs
    rcases mem_cons.1 hs with e|e
    ·have:s=y:=by omega
     exact r2.mono s v (q2.mark s this)
    ·exact r2.mark s e
   ·rcases r2.clo t ht with ht|hc
    ·rcases q2.clo t ht with ht|hc
     ·exact Or.inl ht
     ·exact Or.inr (fun y hy=>r2.mono y v (hc y hy))
    ·exact Or.inr hc
  ·rw [if_neg (by omega)]
   refine ⟨os,rfl,⟨ho,fun t x hx=>hx,fun t x hx=>Or.inl hx,fun s hs=>?_,fun t ht=>Or.inl ht⟩⟩
   grind
theorem ys6 (hb:BkOk n bk)(hv:0<=v/\v<16)(hn:n<=1000):∀ u,Spr n bk v u:=by
 intro u
 induction u using Nat.strongRecOn with
 |ind u IH =>
  intro os s hs ho hu f hf
  obtain ⟨f',rfl⟩:∃ f',f=f' + 1:=⟨f-1,by omega⟩
  obtain ⟨l,hl,hm⟩:=ho.at hs
  simp only [z3y]
  rw [zoz (by omega) (by rw [Int.toNat_natCast];exact hs),Int.toNat_natCast,yei hs,yrq hl]
  have hst:hasO os s v ↔ has l v:=⟨fun ⟨l',h1,h2⟩=>by simp_all,fun h=>⟨l,hl,h⟩⟩
  by_cases hmk:has l v
  ·rw [(yi5 hm v).2 hmk,z6c]
   exact ⟨os,rfl,⟨ho,fun t x hx=>hx,fun t x hx=>Or.inl hx,fun x hx=>by rw [hx];exact hst.2 hmk,fun t ht=>Or.inl ht⟩⟩
  ·have hf0:(mlk l v).getD false=false:=by
    cases h:(mlk l v).getD false with
    |false=>rfl
    |true=>exact absurd ((yi5 hm v).1 h) hmk
   obtain ⟨o1,o2⟩:=ho.put hl hv
   rw [hf0,z6e,zoz (by omega) (by rw [Int.toNat_natCast];exact hs),yei hs,yjk hl hm.srt]
   have hsb:s<bk.length:=by rw [hb.len];exact hs
   rw [z0j hsb]
   have hlt:unm (os.set s (sput l v true)) v n<unm os v n:=ypu (fun t ht=>(o2 t v).2 (Or.inl ht)) hs (fun h=>hmk (hst.1 h)) ((o2 s v).2 (Or.inr ⟨rfl,rfl⟩))
   have hgd:bk.getD s []=bk[s]:=by rw [getD_eq_getElem?_getD,getElem?_eq_getElem hsb];rfl
   obtain ⟨u',hu'⟩:∃ u',u=u' + 1:=⟨u-1,by omega⟩
   obtain ⟨os',r1,r2⟩:=ycn hb (IH u' (by omega)) f' (by omega) bk[s] (hb.mem _ (getElem_mem hsb)) (hb.big _ (getElem_mem hsb)) (fun y0 y1 y2=>some (y0,y1,y2)) f' 0 _ (Nat.zero_le _) (by have:=hb.big _ (getElem_mem hsb);omega) o1 (by omega)
   rw [drop_zero] at r2
   refine ⟨os',r1,⟨r2.ok,fun t x hx=>r2.mono t x ((o2 t x).2 (Or.inl hx)),fun t x hx=>?_,fun x hx=>?_,fun t ht=>?_⟩⟩
   ·rcases r2.snd t x hx with hx|⟨e,y,hy,hbk⟩
    ·rcases (o2 t x).1 hx with hx|⟨e1,e2⟩
     ·exact Or.inl hx
     ·subst e1;exact Or.inr ⟨e2,_,rfl,.refl _⟩
    ·refine Or.inr ⟨e,s,rfl,.step t y s (by rw [hgd];exact hy) hbk⟩
   ·subst hx
    exact r2.mono _ v ((o2 _ v).2 (Or.inr ⟨rfl,rfl⟩))
   ·rcases r2.clo t ht with ht|hc
    ·rcases (o2 t v).1 ht with ht|⟨e,_⟩
     ·exact Or.inl ht
     ·subst e
      exact Or.inr (fun y hy=>r2.mark y (by rw [hgd] at hy;exact hy))
    ·exact Or.inr hc
section
variable {β α:Type}
theorem yog (a b:Option β):nxt ([]:List α) a b=a:=by unfold nxt;rfl
theorem yl7 (x:α)(l:List α)(a b:Option β):nxt (x::l) a b=b:=by unfold nxt;rfl
end
structure Mk (a:Aut) (bk:List (List Int)) (os:List Mp):Prop where
 ok:OsOk a.fStates.length os
 snd:∀ t x,hasO os t x->Rd a t x
 clo:∀ t x,hasO os t x->∀ y:Nat,(y:Int)∈bk.getD t []->hasO os y x
structure BkA (a:Aut) (bk:List (List Int)):Prop where
 ok:BkOk a.fStates.length bk
 mem:∀ (t y:Nat),t<a.fStates.length->((y:Int)∈bk.getD t [] ↔ ∃ ed∈a.fEdges,ed.fTo=(t:Int)/\ed.fFrom=(y:Int))
variable {a:Aut}
theorem ysq (hb:BkA a bk){t s:Nat}(h:Bk bk t s){x:Int}(hx:Rd a s x):Rd a t x:=by
 induction h with
 |refl=>exact hx
 |step y s hy _ ih =>
  have hs:s<a.fStates.length:=by
   by_cases hs:s<a.fStates.length
   ·exact hs
   ·rw [getD_eq_getElem?_getD,getElem?_eq_none (by rw [hb.ok.len];omega)] at hy
    simp at hy
  obtain ⟨ed,h1,h2,h3⟩:=(hb.mem s y hs).1 hy
  exact ih (.step ed h1 y s x h3 h2 hx)
theorem Mk.spread (hb:BkA a bk)(hn:a.fStates.length<=1000)(h:Mk a bk os){i:Nat}(hi:i<a.fStates.length)(hv:OwnV a i v):∃ os',z3y N0 (i:Int) v a.fStates.length (ixs a.fStates.length a.fStates.length,os) bk=some (a.fStates.length,(ixs a.fStates.length a.fStates.length,os'),bk)/\Mk a bk os'/\(∀ t x,hasO os t x->hasO os' t x)/\hasO os' i v:=by
 obtain ⟨os',q1,q2⟩:=ys6 hb.ok (y1t hv) hn a.fStates.length os i hi h.ok (yru _ _ _) N0 (by unfold N0;omega)
 refine ⟨os',q1,⟨q2.ok,fun t x hx=>?_,fun t x hx y hy=>?_⟩,q2.mono,q2.mark i rfl⟩
 ·rcases q2.snd t x hx with hx|⟨e,s,hs,hbk⟩
  ·exact h.snd t x hx
  ·subst hs e
   exact ysq hb hbk (.own _ _ hv)
 ·rcases q2.snd t x hx with hx'|⟨e,_⟩
  ·exact q2.mono y x (h.clo t x hx' y hy)
  ·subst e
   rcases q2.clo t hx with hx'|hc
   ·exact q2.mono y x (h.clo t x hx' y hy)
   ·exact hc y hy
theorem yh7 (hb:BkA a bk)(hn:a.fStates.length<=1000)(k21:Ars Mp)(v4:Int×Nat×List (List Int)×Ars Mp){i:Nat}(hi:i<a.fStates.length)(hv4:v4.1=(i:Int))(K:Nat->Ars Mp->List (List Int)->Option (List Mp))(R:List Mp) :
  ∀ (m:Nat) (rest:Mp) (os:List Mp),rest.length<m->Mk a bk os->(∀ p∈rest,OwnV a i p.1)->(∀ os',Mk a bk os'->(∀ t x,hasO os t x->hasO os' t x)->(∀ p∈rest,hasO os' i p.1)->K a.fStates.length (ixs a.fStates.length a.fStates.length,os') bk=some R) ->
   z7w N0 k21 v4 K m (a.fStates.length,bk,rest,(ixs a.fStates.length a.fStates.length,os))=some R
 |0,rest,os,h1,_,_,_=>by omega
 |m+1,rest,os,h1,ho,hr,hK=>by
  unfold z7w
  simp only
  cases rest with
  |nil =>
   rw [yog]
   simp_all
  |cons p r =>
   rw [yl7]
   refine yko (by simp) (fun j hj=>?_)
   have hpj:=hr _ (getElem_mem hj)
   obtain ⟨os1,q1,q2,q3,q4⟩:=ho.spread hb hn hi hpj
   rw [z1d,hv4,q1,z8n]
   refine yh7 hb hn k21 v4 hi hv4 K R m _ os1 (by grind) q2 (fun q hq=>hr q (mem_of_mem_eraseIdx hq)) (fun os' s1 s2 s3=>?_)
   refine hK os' s1 (fun t x hx=>s2 t x (q3 t x hx)) (fun q hq=>?_)
   have hperm:=zrw hj
   grind
theorem yh8 (hb:BkA a bk)(hn:a.fStates.length<=1000)(own:List Mp)(hol:own.length=a.fStates.length)(hol2:∀ l∈own,l.length<=1000)(hown:∀ t x,hasO own t x->OwnV a t x)(k21:Ars Mp)(hk:aval k21=own)(K:Nat->Ars Mp->Option (List Mp))(R:List Mp) :
  ∀ (m i:Nat) (os:List Mp),i<=a.fStates.length->a.fStates.length<m+i->Mk a bk os->(∀ os',Mk a bk os'->(∀ t x,hasO os t x->hasO os' t x)->(∀ t x,i<=t->hasO own t x->hasO os' t x)->K a.fStates.length (ixs a.fStates.length a.fStates.length,os')=some R) ->
   z2h N0 k21 K m ((i:Int),a.fStates.length,bk,(ixs a.fStates.length a.fStates.length,os))=some R
 |0,i,os,h1,h2,_,_=>by omega
 |m+1,i,os,h1,h2,ho,hK=>by
  unfold z2h
  simp only [hk,length_map,z0c]
  by_cases h:i<a.fStates.length
  ·have hio:i<own.length:=by omega
   rw [if_pos (by omega),z0j hio]
   have hh:∀ p∈own[i],hasO own i p.1:=fun p hp=>⟨_,getElem?_eq_getElem hio,mem_map.2 ⟨p,hp,rfl⟩⟩
   refine yh7 hb hn k21 _ h rfl _ R N0 own[i] os (by grind) ho (fun p hp=>hown _ _ (hh p hp)) (fun os1 q1 q2 q3=>?_)
   rw [z1o i (by omega)]
   refine yh8 hb hn own hol hol2 hown k21 hk K R m (i+1) os1 (by omega) (by omega) q1 (fun os' s1 s2 s3=>?_)
   refine hK os' s1 (fun t x hx=>s2 t x (q2 t x hx)) (fun t x ht hx=>?_)
   by_cases e:t=i
   ·subst e
    obtain ⟨l,hl,hx⟩:=hx
    rw [getElem?_eq_getElem hio] at hl;injection hl with hl;subst hl
    obtain ⟨p,hp,rfl⟩:=mem_map.1 hx
    exact s2 _ _ (q3 p hp)
   ·exact s3 t x (by omega) hx
  ·rw [if_neg (by omega)]
   exact hK os ho (fun t x hx=>hx) (fun t x ht hx=>by
    obtain ⟨l,hl,_⟩:=hx
    grind)
open Classical in
noncomputable def zg7 (a:Aut):List Mp:=(range a.fStates.length).map fun t=>((range 16).filter (fun i:Nat=>decide (Rd a t (i:Int)))).map (fun i:Nat=>((i:Int),true))
open Classical in
theorem y51 (a:Aut):OsOk a.fStates.length (zg7 a)/\∀ t x,hasO (zg7 a) t x ↔ t<a.fStates.length/\Rd a t x:=by
 unfold zg7
 refine ⟨⟨by simp,fun l hl=>?_⟩,fun t x=>?_⟩
 ·obtain ⟨t,_,rfl⟩:=mem_map.1 hl
  refine ⟨?_,fun p hp=>?_⟩
  ·unfold Srt
   rw [map_map,pairwise_map]
   refine Pairwise.imp (fun {a b} (h:a<b)=>?_) (pairwise_lt_range.filter _)
   simp_all
  grind
 ·unfold hasO has
  constructor
  ·grind
  ·rintro ⟨h1,h2⟩
   refine ⟨_,by rw [getElem?_map,getElem?_range h1];rfl,?_⟩
   rw [map_map]
   have hb:=ykh h2
   refine mem_map.2 ⟨x.toNat,mem_filter.2 ⟨mem_range.2 (by omega),?_⟩,?_⟩
   all_goals grind
theorem yqw (h:OsOk n os)(h':OsOk n os')(hk:∀ t x,hasO os t x ↔ hasO os' t x):os=os':=by
 apply ext_getElem
 ·rw [h.len,h'.len]
 ·intro i h1 h2
  refine yib (h.map _ (getElem_mem h1)) (h'.map _ (getElem_mem h2)) (fun x=>?_)
  have a1:hasO os i x ↔ has os[i] x:=⟨fun ⟨l,hl,hx⟩=>by simp_all,fun h=>⟨_,getElem?_eq_getElem h1,h⟩⟩
  have a2:hasO os' i x ↔ has os'[i] x:=⟨fun ⟨l,hl,hx⟩=>by simp_all,fun h=>⟨_,getElem?_eq_getElem h2,h⟩⟩
  rw [<-a1,<-a2,hk]
theorem zwt.len {l:Mp}(h:zwt l):l.length<=16:=by
 have s:Str cmpI (l.map (·.1)):=h.srt.imp (fun q=>(zuj _ _).2 q)
 have key:∀ (q:List Int) (c:Int),q.Pairwise (· < ·)->(∀ x∈q,c<=x/\x<16)->(q.length:Int)<=max 0 (16-c):=fun q=>by
  induction q with
  |nil=>intro c _ _;simp;omega
  |cons y r ih =>
   intro c hp hb
   have h1:=hb y (by simp)
   obtain ⟨p1,p2⟩:=pairwise_cons.1 hp
   have:=ih (y+1) p2 (fun x hx=>by grind)
   grind
 have:=key (l.map (·.1)) 0 (show (l.map (·.1)).Pairwise (· < ·) from h.srt) (fun x hx=>by
  obtain ⟨p,hp,rfl⟩:=mem_map.1 hx
  exact (h.all p hp).2)
 grind
theorem y1i (hw:WfA a)(ha:AOk a)(hck:∀ x∈a.fEdges,x.fChecks.length<=1100000):zbt N0 a=some (zg7 a):=by
 have hns:=ha.st
 have hle:=hw.le
 unfold zbt
 rw [length_map,ymq (by omega),yn6,z1d,yi7]
 obtain ⟨own1,g1,g2,g3⟩:=yhb hw (by omega) (fun k1_0_0y0 k1_0_0y1=>mkn ((a.fStates.length:Nat):Int) 24 fun x44 =>
  nst 53 <| reg <| z2i N0 a x44
   (fun k2_1_0y0 k2_1_0y1 k2_1_0y2=>mkm ((a.fStates.length:Nat):Int) 8 fun x88 =>
  are 92 <| reg <| z3g N0 x44 k2_1_0y0 k2_1_0y1 k2_1_0y2 x88
   (fun k3_2_0y0 k3_2_0y1=>frr 53 <| reg <| frm 7021 <| reg <| z2h N0 k2_1_0y1
   (fun k4_3_0y0 k4_3_0y1=>frm 7092 <| reg <| some (aval k4_3_0y1)) N0 (0,k3_2_0y0,k2_1_0y2,k3_2_0y1)) N0 (0,(mkA Mp x88))) N0 (0,k1_0_0y0,(replicate (x44) ([]:List Int)),k1_0_0y1)) N0 0 [] (Nat.zero_le _) (by unfold N0;omega) ⟨rfl,by simp⟩
 refine Eq.trans g1 ?_
 rw [yi6 (by omega) (by omega),Int.toNat_natCast,yhx,z1d]
 obtain ⟨own2,e1,e2,e3⟩:=yha hw ha hck (fun k2_1_0y0 k2_1_0y1 k2_1_0y2=>mkm ((a.fStates.length:Nat):Int) 8 fun x88 =>
  are 92 <| reg <| z3g N0 a.fStates.length k2_1_0y0 k2_1_0y1 k2_1_0y2 x88
   (fun k3_2_0y0 k3_2_0y1=>frr 53 <| reg <| frm 7021 <| reg <| z2h N0 k2_1_0y1
   (fun k4_3_0y0 k4_3_0y1=>frm 7092 <| reg <| some (aval k4_3_0y1)) N0 (0,k3_2_0y0,k2_1_0y2,k3_2_0y1)) N0 (0,(mkA Mp x88))) N0 0 (replicate a.fStates.length []) own1 (Nat.zero_le _) (by unfold N0;omega) g2 (by simp) (fun q hq=>by simp_all)
 refine Eq.trans e1 ?_
 rw [ymq (by omega),yn6,z1d,yi7]
 have l3:=yh9 (n:=a.fStates.length) (by omega) a.fStates.length a.fStates.length (ixs a.fStates.length a.fStates.length,own2) ((a.fEdges.drop 0).foldl zkp (replicate a.fStates.length [])) (fun k3_2_0y0 k3_2_0y1=>frr 53 <| reg <| frm 7021 <| reg <| z2h N0 (ixs a.fStates.length a.fStates.length,own2)
   (fun k4_3_0y0 k4_3_0y1=>frm 7092 <| reg <| some (aval k4_3_0y1)) N0 (0,k3_2_0y0,((a.fEdges.drop 0).foldl zkp (replicate a.fStates.length [])),k3_2_0y1)) N0 0 [] (Nat.zero_le _) (by unfold N0;omega) rfl
 refine Eq.trans l3 ?_
 simp only [yim,z1d,yr3,nil_append,Nat.sub_zero]
 rw [drop_zero]
 have hown:∀ t x,hasO own2 t x ↔ OwnV a t x/\t<a.fStates.length:=fun t x=>by
  rw [e3,g3]
  constructor
  ·intro h
   refine ⟨?_,?_⟩
   ·rcases h with (⟨l,hl,_⟩|⟨_,h⟩)|⟨ed,h1,h2,h3⟩
    ·simp at hl
    ·exact Or.inl h
    ·exact Or.inr ⟨ed,by simpa using h1,h2,h3⟩
   ·have:hasO own2 t x:=by rw [e3,g3];exact h
    obtain ⟨l,hl,_⟩:=this
    rw [<-e2.len]
    grind
  ·rintro ⟨h|⟨ed,h1,h2,h3⟩,_⟩
   all_goals grind
 have hbl:(a.fEdges.foldl zkp (replicate a.fStates.length [])).length=a.fStates.length:=by rw [y23];simp
 have hbm:∀ (t:Nat) (y:Int),t<a.fStates.length->(y∈(a.fEdges.foldl zkp (replicate a.fStates.length [])).getD t [] ↔ ∃ ed∈a.fEdges,ed.fTo=(t:Int)/\y=ed.fFrom):=fun t y ht=>by
  rw [y22 _ _ (by simpa using ht)]
  simp_all
 have hbk:BkA a (a.fEdges.foldl zkp (replicate a.fStates.length [])):=by
  refine ⟨⟨hbl,fun q hq=>?_,fun q hq y hy=>?_⟩,fun t y ht=>?_⟩
  ·have big:∀ (l:List Ed) (bk:List (List Int)) (k:Nat),(∀ q∈bk,q.length<=k)->∀ q∈l.foldl zkp bk,q.length<=k+l.length:=fun l=>by
    induction l with
    |nil=>intro bk k h q hq;exact h q hq
    |cons x r ih =>
     intro bk k h q hq
     have:=ih (zkp bk x) (k+1) (yjp h) q hq
     grind
   have:=big a.fEdges (replicate a.fStates.length []) 0 (fun q hq=>by simp_all) q hq
   omega
  ·obtain ⟨t,ht,rfl⟩:=mem_iff_getElem.1 hq
   have ht':t<a.fStates.length:=by rw [hbl] at ht;exact ht
   obtain ⟨ed,h1,_,rfl⟩:=(hbm t y ht').1 (by simp_all)
   exact (ha.ed _ h1).frm
  ·grind
 have hm0:Mk a (a.fEdges.foldl zkp (replicate a.fStates.length [])) (replicate a.fStates.length []):=by
  have h0:∀ t x,¬hasO (replicate a.fStates.length ([]:Mp)) t x:=fun t x ⟨l,hl,hx⟩=>by
   rw [getElem?_replicate] at hl
   split at hl
   ·injection hl with hl;subst hl;simp [has] at hx
   ·cases hl
  exact ⟨⟨by simp,fun l hl=>by rw [eq_of_mem_replicate hl];exact y7g⟩,fun t x hx=>absurd hx (h0 t x),fun t x hx=>absurd hx (h0 t x)⟩
 refine yh8 hbk (by omega) own2 e2.len (fun l hl=>by have:=(e2.map l hl).len;omega) (fun t x h=>((hown t x).1 h).1) (ixs a.fStates.length a.fStates.length,own2) (y8y e2.len) _ (zg7 a) N0 0 _ (Nat.zero_le _) (by unfold N0;omega) hm0 (fun os' s1 _ s3=>?_)
 rw [y8y s1.ok.len]
 congr 1
 refine yqw s1.ok (y51 a).1 (fun t x=>?_)
 rw [(y51 a).2]
 constructor
 ·intro h
  refine ⟨?_,s1.snd t x h⟩
  obtain ⟨l,hl,_⟩:=h
  rw [<-s1.ok.len]
  grind
 ·rintro ⟨ht,h⟩
  induction h with
  |own t x h=>grind
  |step ed he t s x h1 h2 h ih =>
   have hs:s<a.fStates.length:=by have:=(ha.ed _ he).tgt;omega
   exact s1.clo s x (ih hs) t ((hbk.mem s t hs).2 ⟨ed,he,h2,h1⟩)
def cvS (x y:Sta):Bool:=decide (x.fScope=y.fScope) && decide (y.fTime<=x.fTime)
def cvL:List Sta->List Sta->Bool
 |[],[]=>true
 |x::r,y::s=>cvS x y && cvL r s
 |_,_=>false
def rdB (m:Mp)(l:List Bd):List Bd:=l.filter (fun b=>(mlk m b.fVar).getD false)
def rdC (R:List Mp)(c:Cf):List Bd:=rdB (R.getD c.fState.toNat []) c.fBindings
def cov (R:List Mp)(c d:Cf):Bool:=decide (c.fState=d.fState) && (cvL c.fStarts d.fStarts && decide (rdC R c=rdC R d))
structure CS (R:List Mp) (c:Cf):Prop where
 st:0<=c.fState/\c.fState<(R.length:Int)
 lb:c.fBindings.length<=1000000
 ls:c.fStarts.length<=1000000
theorem yiw:∀ {l m:List Sta},cvL l m=true->l.length=m.length
 |[],[],_=>rfl
 |x::r,y::s,h=>by
  unfold cvL at h
  rw [Bool.and_eq_true] at h
  simp [yiw h.2]
 |[],_::_,h=>by cases h
 |_::_,[],h=>by cases h
theorem ye5:∀ l:List Sta,cvL l l=true
 |[]=>rfl
 |x::r=>by unfold cvL cvS;simp [ye5 r]
theorem y7v:∀ {a b c:List Sta},cvL a b=true->cvL b c=true->cvL a c=true
 |[],[],[],_,_=>rfl
 |x::a,y::b,z::c,h1,h2=>by
  unfold cvL at h1 h2 ⊢
  rw [Bool.and_eq_true] at h1 h2 ⊢
  refine ⟨?_,y7v h1.2 h2.2⟩
  have q1:=h1.1
  have q2:=h2.1
  unfold cvS at q1 q2 ⊢
  grind
 |[],_::_,_,h,_=>by cases h
 |_::_,[],_,h,_=>by cases h
 |_,[],_::_,_,h=>by cases h
 |_,_::_,[],_,h=>by cases h
theorem zxc (R:List Mp)(c:Cf):cov R c c=true:=by unfold cov;simp [ye5]
variable {R:List Mp}
theorem zuh {a b c:Cf}(h1:cov R a b=true)(h2:cov R b c=true):cov R a c=true:=by
 unfold cov at h1 h2 ⊢
 simp only [Bool.and_eq_true,decide_eq_true_eq] at h1 h2 ⊢
 exact ⟨h1.1.trans h2.1,y7v h1.2.1 h2.2.1,h1.2.2.trans h2.2.2⟩
theorem yse (n:Nat)(x y:Sta):z9l n x y=some (cvS x y):=by
 unfold z9l cvS
 simp only [z2k,z1d,z2w,z0c]
 grind
theorem yd8 (a b:List Sta)(hl:a.length=b.length)(hb:a.length<=1000000):∀ (m k:Nat),k<=a.length->a.length<m+k->za2 N0 b a (some true) m (k:Int)=some (cvL (a.drop k) (b.drop k))
 |0,k,h1,h2=>by omega
 |m+1,k,h1,h2=>by
  unfold za2
  simp only [length_map,z0c]
  by_cases h:k<a.length
  ·have h':k<b.length:=by omega
   rw [if_pos (by omega),z0j h,z0j h',yse,z04,drop_eq_getElem_cons h,drop_eq_getElem_cons h',z1o k (by omega)]
   have ih:=yd8 a b hl hb m (k+1) (by omega) (by omega)
   unfold cvL
   cases hc:cvS a[k] b[k]
   ·rw [show (!false)=true from rfl,z6c];simp
   ·rw [show (!true)=false from rfl,z6e,ih];simp
  ·rw [if_neg (by omega),drop_eq_nil_of_le (by omega),drop_eq_nil_of_le (by omega)]
   rfl
theorem yrf {a b:List Sta}(h:a.length≠b.length):cvL a b=false:=by
 cases hc:cvL a b with
 |false=>rfl
 |true=>exact absurd (yiw hc) h
theorem ysf (a b:List Sta)(ha:a.length<=1000000):ze6 N0 a b=some (cvL a b):=by
 unfold ze6
 simp only [length_map,z0y,z0c]
 by_cases h:a.length=b.length
 ·rw [if_pos (by omega)]
  have:=yd8 a b h ha N0 0 (Nat.zero_le _) (by unfold N0;omega)
  simpa using this
 ·rw [if_neg (by omega),yrf h]
theorem y39 (m:Mp)(c:Cf)(hl:c.fBindings.length<=1000000)(K:List Bd->Option (List Bd)):∀ (f k:Nat) (out:List Bd),k<=c.fBindings.length->c.fBindings.length<f+k->out.length<=k->z8u N0 m c K f ((k:Int),out)=K (out++rdB m (c.fBindings.drop k))
 |0,k,out,h1,h2,_=>by omega
 |f+1,k,out,h1,h2,h3=>by
  unfold z8u
  simp only [length_map,z0c,z1d,yi8]
  by_cases h:k<c.fBindings.length
  ·rw [if_pos (by omega),z0j h,drop_eq_getElem_cons h,z1o k (by omega)]
   have iha:=y39 m c hl K f (k+1) (out++[c.fBindings[k]]) (by omega) (by omega) (by simp;omega)
   have ihb:=y39 m c hl K f (k+1) out (by omega) (by omega) (by omega)
   have e1:(⟨c.fBindings[k].fVar,⟨c.fBindings[k].fRef.fTime,c.fBindings[k].fRef.fSource,c.fBindings[k].fRef.fSeq⟩⟩:Bd)=c.fBindings[k]:=rfl
   simp only [e1]
   unfold rdB
   rw [filter_cons]
   cases hm:(mlk m c.fBindings[k].fVar).getD false
   ·rw [z6e,ihb];simp [rdB]
   ·rw [z6c,zbi (by simp;omega) (by omega),iha];simp [rdB]
  ·rw [if_neg (by omega),drop_eq_nil_of_le (by omega)]
   simp [rdB]
theorem ymi (m:Mp)(c:Cf)(hl:c.fBindings.length<=1000000):zcx N0 c m=some (rdB m c.fBindings):=by
 unfold zcx
 have:=y39 m c hl (fun y=>some y) N0 0 [] (Nat.zero_le _) (by unfold N0;omega) (by simp)
 simpa using this
theorem yrp (x y:Bd):(decide (x.fVar=y.fVar) && (decide (x.fRef.fTime=y.fRef.fTime) && (decide (x.fRef.fSource=y.fRef.fSource) && (decide (x.fRef.fSeq=y.fRef.fSeq) && true))))=decide (x=y):=by
 obtain ⟨v,t,s,q⟩:=x
 obtain ⟨v',t',s',q'⟩:=y
 simp
theorem yd6 (a b:List Bd)(hl:a.length=b.length)(hb:a.length<=1000000):∀ (m k:Nat),k<=a.length->a.length<m+k->zct N0 b a (some true) m (k:Int)=some (decide (a.drop k=b.drop k))
 |0,k,h1,h2=>by omega
 |m+1,k,h1,h2=>by
  unfold zct
  simp only [length_map,z0c,yrp]
  by_cases h:k<a.length
  ·have h':k<b.length:=by omega
   rw [if_pos (by omega),z0j h,z0j h',drop_eq_getElem_cons h,drop_eq_getElem_cons h',z1o k (by omega)]
   have ih:=yd6 a b hl hb m (k+1) (by omega) (by omega)
   rw [z0y,z0c]
   by_cases e:a[k]=b[k]
   ·have q:(a[k]::a.drop (k+1)=b[k]::b.drop (k+1)) ↔ a.drop (k+1)=b.drop (k+1):=⟨fun h=>(List.cons.inj h).2,fun h=>by rw [e,h]⟩
    simp_all
   ·have q:¬(a[k]::a.drop (k+1)=b[k]::b.drop (k+1)):=fun h=>e (List.cons.inj h).1
    rw [if_neg e,decide_eq_false q]
  grind
theorem yqp (a b:List Bd)(ha:a.length<=1000000):zft N0 a b=some (decide (a=b)):=by
 unfold zft
 simp only [length_map,z0y,z0c]
 by_cases h:a.length=b.length
 ·rw [if_pos (by omega)]
  have:=yd6 a b h ha N0 0 (Nat.zero_le _) (by unfold N0;omega)
  simpa using this
 ·rw [if_neg (by omega)]
  have:a≠b:=fun e=>h (by rw [e])
  simp [this]
theorem yo3 {c d:Cf}(hc:CS R c)(hd:CS R d):z6a N0 c d R=some (cov R c d):=by
 have h1:=hc.st
 unfold z6a cov
 simp only [z2k,z1d,z2p,z0c,ysf _ _ hc.ls,z04]
 by_cases h:c.fState=d.fState
 ·rw [if_pos h]
  obtain ⟨s,hs⟩:∃ s:Nat,c.fState=(s:Int):=⟨c.fState.toNat,by omega⟩
  have hsl:s<R.length:=by omega
  have hg:R.getD s []=R[s]:=by rw [getD_eq_getElem?_getD,getElem?_eq_getElem hsl];rfl
  cases hv:cvL c.fStarts d.fStarts
  ·rw [z6e];simp
  ·rw [z6c,<-h,hs,z0j hsl,ymi _ _ hc.lb,z04,z0j hsl,ymi _ _ hd.lb,z04,yqp _ _ (Nat.le_trans (show (rdB R[s] c.fBindings).length<=c.fBindings.length from length_filter_le _ _) hc.lb),z04]
   unfold rdC
   grind
 ·rw [if_neg h];simp [h]
def cfD:Cf:=⟨0,[],[]⟩
def bet (R:List Mp)(l:List Cf)(k i:Nat):Bool:=decide (k≠i) && (cov R (l.getD k cfD) (l.getD i cfD) && (decide (k<i) || !cov R (l.getD i cfD) (l.getD k cfD)))
def y0d (R:List Mp)(l:List Cf)(i:Nat):Bool:=!(range l.length).any (fun k=>bet R l k i)
def redI (R:List Mp)(l:List Cf):List Nat:=(range l.length).filter (y0d R l)
def redP (R:List Mp)(l:List Cf):List Cf:=(redI R l).map (fun i=>l.getD i cfD)
variable {l:List Cf}
theorem zyt {k:Nat}(h:k<l.length):l.getD k cfD=l[k]:=by simp_all
theorem ycv (hl:l.length<=1000000)(hs:∀ c∈l,CS R c)(i:Nat)(hi:i<l.length)(out:List Cf)(K:Int->Int->List Bd->List Sta->Option (List Cf)) :
  ∀ (m k:Nat),k<=l.length->l.length<m+k->∃ y:Int,z1q N0 R l ((i:Int),out) l[i] K m (k:Int)=K y l[i].fState l[i].fBindings l[i].fStarts/\(y<0 ↔ ∀ j,k<=j->j<l.length->bet R l j i=false)
 |0,k,h1,h2=>by omega
 |m+1,k,h1,h2=>by
  unfold z1q
  simp only [length_map,z0c,z0y,z2k,z1d,z26]
  by_cases h:k<l.length
  ·rw [if_pos (by omega),z0j h]
   obtain ⟨y,y1,y2⟩:=ycv hl hs i hi out K m (k+1) (by omega) (by omega)
   rw [z1o k (by omega),yo3 (hs _ (getElem_mem h)) (hs _ (getElem_mem hi)),yo3 (hs _ (getElem_mem hi)) (hs _ (getElem_mem h)),z04,z04]
   have hbet:bet R l k i=(decide (k≠i) && (cov R l[k] l[i] && (decide (k<i) || !cov R l[i] l[k]))):=by unfold bet;rw [zyt h,zyt hi]
   have yes:bet R l k i=true->(((k:Nat):Int)<0 ↔ ∀ j,k<=j->j<l.length->bet R l j i=false):=fun hb=>⟨fun hq=>by omega,fun hq=>by simp_all⟩
   have no:bet R l k i=false->(y<0 ↔ ∀ j,k<=j->j<l.length->bet R l j i=false):=fun hb=>by
    grind
   by_cases e:k=i
   ·rw [if_pos (by omega),z6e]
    grind
   ·rw [if_neg (by omega)]
    cases hc1:cov R l[k] l[i]
    ·rw [z6e,z6e]
     grind
    ·rw [z6c]
     by_cases e2:k<i
     ·rw [if_pos (by omega),z6c]
      grind
     ·rw [if_neg (by omega)]
      cases hc2:cov R l[i] l[k]
      ·simp only [z6e]
       grind
      ·simp only [z6c]
       grind
  ·rw [if_neg (by omega)]
   grind
theorem y38 (hl:l.length<=1000000)(hs:∀ c∈l,CS R c)(K:List Cf->Option (List Cf)) :
  ∀ (m i:Nat) (out:List Cf),i<=l.length->l.length<m+i->out.length<=i->z24 N0 R l K m ((i:Int),out)=K (out++(((range l.length).drop i).filter (y0d R l)).map (fun i=>l.getD i cfD))
 |0,i,out,h1,h2,_=>by omega
 |m+1,i,out,h1,h2,h3=>by
  unfold z24
  simp only [length_map,z0c,z1d]
  by_cases h:i<l.length
  ·rw [if_pos (by omega),z0j h]
   obtain ⟨y,y1,y2⟩:=ycv hl hs i h out (fun k2_1_0y0 k2_1_0y1 k2_1_0y2 k2_1_0y3=>if k2_1_0y0<0 then (app out ([⟨k2_1_0y1,k2_1_0y2,k2_1_0y3⟩]) 56 fun x88=>(z24 N0 R l K m) ((IntKind.wrap .i64 ((i:Int)+1)),x88)) else (z24 N0 R l K m) ((IntKind.wrap .i64 ((i:Int)+1)),out)) N0 0 (Nat.zero_le _) (by unfold N0;omega)
   refine Eq.trans y1 ?_
   have hr:(range l.length).drop i=i::(range l.length).drop (i+1):=by
    rw [drop_eq_getElem_cons (by simpa using h)]
    simp
   rw [hr,filter_cons,z1o i (by omega)]
   have hk:y0d R l i=true ↔ y<0:=by
    rw [y2]
    unfold y0d
    rw [Bool.not_eq_true',any_eq_false]
    exact ⟨fun hq j _ hj=>by simp_all,fun hq j hj=>by rw [hq j (Nat.zero_le _) (mem_range.1 hj)];simp⟩
   have e1:(⟨l[i].fState,l[i].fBindings,l[i].fStarts⟩:Cf)=l[i]:=rfl
   by_cases hy:y<0
   ·rw [if_pos hy,if_pos (hk.2 hy),e1,zbi (by simp;omega) (by omega),y38 hl hs K m (i+1) _ (by omega) (by omega) (by simp;omega),map_cons,zyt h]
    simp
   ·have:¬y0d R l i=true:=fun h=>hy (hk.1 h)
    rw [if_neg hy,if_neg this,y38 hl hs K m (i+1) _ (by omega) (by omega) (by omega)]
  ·rw [if_neg (by omega),drop_eq_nil_of_le (by simp;omega)]
   simp
theorem ys8 (hl:l.length<=1000000)(hs:∀ c∈l,CS R c):z9c N0 l R=some (redP R l):=by
 unfold z9c
 have:=y38 hl hs (fun y=>some y) N0 0 [] (Nat.zero_le _) (by unfold N0;omega) (by simp)
 simpa [redP,redI] using this
theorem zoa (R:List Mp)(l:List Cf):(redP R l).Sublist l:=by
 have h:((range l.length).map (fun i=>l.getD i cfD))=l:=by
  apply ext_getElem
  ·simp
  ·simp_all
 unfold redP redI
 conv=>rhs;rw [<-h]
 exact filter_sublist.map _
theorem ypf (R:List Mp)(l:List Cf)(k:Nat):bet R l k k=false:=by unfold bet;simp
theorem yjh {k i j:Nat}(h1:bet R l k i=true)(h2:bet R l i j=true):bet R l k j=true:=by
 unfold bet at *
 simp only [Bool.and_eq_true,Bool.or_eq_true,decide_eq_true_eq,Bool.not_eq_true'] at h1 h2 ⊢
 obtain ⟨a1,a2,a3⟩:=h1
 obtain ⟨b1,b2,b3⟩:=h2
 have c:=zuh a2 b2
 by_cases hjk:cov R (l.getD j cfD) (l.getD k cfD)=true
 ·have e1:cov R (l.getD i cfD) (l.getD k cfD)=true:=zuh b2 hjk
  have e2:cov R (l.getD j cfD) (l.getD i cfD)=true:=zuh hjk a2
  grind
 grind
theorem yne (R:List Mp)(l:List Cf):∀ (u i:Nat),i<l.length->(range l.length).countP (fun k=>bet R l k i)<=u->∃ m∈redI R l,cov R (l.getD m cfD) (l.getD i cfD)=true:=by
 intro u
 induction u with
 |zero =>
  intro i hi hu
  refine ⟨i,mem_filter.2 ⟨mem_range.2 hi,?_⟩,zxc _ _⟩
  unfold y0d
  simp_all
 |succ u ih =>
  intro i hi hu
  by_cases hk:y0d R l i=true
  ·exact ⟨i,mem_filter.2 ⟨mem_range.2 hi,hk⟩,zxc _ _⟩
  ·have hk':(range l.length).any (fun k=>bet R l k i)=true:=by unfold y0d at hk;simpa using hk
   obtain ⟨k,hkm,hb⟩:=any_eq_true.1 hk'
   have hkl:=mem_range.1 hkm
   have hlt:(range l.length).countP (fun j=>bet R l j k)<(range l.length).countP (fun j=>bet R l j i):=zz9 (fun j _ hj=>yjh hj hb) ⟨k,hkm,hb,ypf R l k⟩
   obtain ⟨m,hm,hc⟩:=ih k hkl (by omega)
   refine ⟨m,hm,zuh hc ?_⟩
   unfold bet at hb
   simp_all
theorem ynf (R:List Mp){x:Cf}(hx:x∈l):∃ y∈redP R l,cov R y x=true:=by
 obtain ⟨i,hi,rfl⟩:=mem_iff_getElem.1 hx
 obtain ⟨m,hm,hc⟩:=yne R l _ i hi (Nat.le_refl _)
 exact ⟨_,mem_map.2 ⟨m,hm,rfl⟩,by rw [zyt hi] at hc;exact hc⟩
theorem ynd (R:List Mp)(l:List Cf):redP R (redP R l)=redP R l:=by
 have hlen:(redP R l).length=(redI R l).length:=by unfold redP;rw [length_map]
 have hsrt:(redI R l).Pairwise (· < ·):=pairwise_lt_range.filter _
 have hget:∀ j (hj:j<(redI R l).length),(redP R l).getD j cfD=l.getD (redI R l)[j] cfD:=fun j hj=>by
  rw [zyt (by rw [hlen];exact hj)]
  unfold redP
  rw [getElem_map]
 have hkeep:redI R (redP R l)=range (redP R l).length:=by
  unfold redI
  rw [filter_eq_self]
  intro i hi
  have hi':i<(redI R l).length:=by rw [<-hlen];exact mem_range.1 hi
  unfold y0d
  rw [Bool.not_eq_true',any_eq_false]
  intro k hk hb
  have hk':k<(redI R l).length:=by rw [<-hlen];exact mem_range.1 hk
  have hb':bet R l (redI R l)[k] (redI R l)[i]=true:=by
   unfold bet at hb ⊢
   rw [hget k hk',hget i hi'] at hb
   simp only [Bool.and_eq_true,Bool.or_eq_true,decide_eq_true_eq] at hb ⊢
   obtain ⟨b1,b2,b3⟩:=hb
   have hord:k<i->(redI R l)[k]<(redI R l)[i]:=fun h=>pairwise_iff_getElem.1 hsrt k i hk' hi' h
   have hord':i<k->(redI R l)[i]<(redI R l)[k]:=fun h=>pairwise_iff_getElem.1 hsrt i k hi' hk' h
   refine ⟨fun e=>?_,b2,b3.imp hord id⟩
   rcases Nat.lt_or_gt_of_ne b1 with h|h
   ·have:=hord h;omega
   ·have:=hord' h;omega
  have hki:=(mem_filter.1 (getElem_mem hi')).2
  unfold y0d at hki
  rw [Bool.not_eq_true',any_eq_false] at hki
  exact hki _ (mem_filter.1 (getElem_mem hk')).1 hb'
 unfold redP at hkeep ⊢
 rw [hkeep]
 apply ext_getElem
 all_goals simp_all
end Go.Proofs.YtidhlpjgifoneaaGreat
