/- Layer 7, plainly. -/
import Derived.Test.YthbogefcfhmpgaaGreatK20
set_option linter.unusedVariables false
set_option linter.unusedSimpArgs false
namespace Go.Proofs.YthbogefcfhmpgaaGreat
open Go.RowKit List
open List renaming length_map->aA,drop_eq_nil_of_le->aD,take_succ_eq_append_getElem->aE,getElem_mem->aF,drop_zero->aG,length_zipIdx->aH,length_cons->aK,pairwise_cons->aL,getElem?_eq_getElem->aO,mem_singleton->aP,length_drop->aR,length_nil->aS,mem_append->aT,mem_map->aW
open Int renaming natCast_zero->aB
open IntKind renaming wrap->aC
open Bool renaming or_eq_true->aJ,and_eq_false_iff->aM,not_true->aU
open Or renaming inl->aN,inr->aQ
def wrP (k:Int)(v:Va):Int:=if vcP v=0 then (if suP k v=true then 0 else 9) else vcP v
theorem Xq (n:Nat)(k:Int)(hk:1<=k/\k<=5)(v:Va):Jj n k v=some (wrP k v):=by
 unfold Jj Mq wrP suP
 simp only [p_vc,A4,A6,Az,Ax,Ae,Fy]
 by_cases h:vcP v=0
 ·rw [if_pos h,if_pos h]
  by_cases h0:v.fKind=0
  ·simp [h0,Am,A4]
  ·by_cases h1:k=1
   ·simp [h0,h1,Am,A4]
   ·by_cases h2:k=2
    ·simp [h0,h1,h2,Am,A4]
    ·by_cases h3:k=3
     ·simp [h0,h1,h2,h3,Am,A4]
     ·have:k=4\/k=5:=by omega
      rcases this with rfl|rfl<;>simp [h0,Am,A4]
 ·rw [if_neg h,if_neg h]
theorem zf2 (n:Nat)(k:Int)(hk:1<=k/\k<=5)(v:Va):Rx n k v=some (wrP k v):=by
 unfold Rx wrP
 simp only [Up,X9,A4,A6,Az]
 have h0:decide (k=0)=false:=by rw [decide_eq_false];omega
 simp only [h0,Bool.false_or]
 by_cases h:vcP v=0
 ·rw [if_pos h,if_pos h]
  cases suP k v<;>simp [Am]
 ·rw [if_neg h,if_neg h]
def comb (k:Int)(a b:Va):Va:=if k=1 then ⟨0,aC .i64 (a.fNum+b.fNum),be⟩ else if k=2 then ⟨0,min a.fNum b.fNum,be⟩ else if k=3 then ⟨0,max a.fNum b.fNum,be⟩ else if k=4 then a else b
theorem zmj (n:Nat)(k:Int)(hk:1<=k/\k<=5)(a b:Va):V5 n k a b=some (comb k a b):=by
 unfold V5 comb
 simp only [A6]
 grind
theorem zoi (n:Nat)(k:Int)(hk:1<=k/\k<=5)(a b:Va):Pf n k a b=some (comb k a b):=by
 unfold Pf comb
 simp only [K8,Dx,A4,S6,S5,S4,S3,S2,S1]
 grind
def AInv (k:Int)(i:Nat)(V:Va):Prop:=if i=0 then V=va0 else if k=1 then V.fKind=0/\V.fText=be/\-((i:Int)*1099511627776)<=V.fNum/\V.fNum<=(i:Int)*1099511627776 else vcP V=0/\suP k V=true
variable {k:Int}{i:Nat}{V:Va}
theorem AInv.check (n:Nat)(hk:1<=k/\k<=5)(hi:i<=4096)(h:AInv k i V):Rz n ⟨k,(i:Int),V⟩=some 0/\Pr n ⟨k,(i:Int),V⟩=some 0:=by
 have w1:aC .i64 ((i:Int)*1099511627776)=(i:Int)*1099511627776:=D8 _ (by omega)
 have w2:aC .i64 (0-(i:Int)*1099511627776)=-((i:Int)*1099511627776):=by rw [D8 _ (by omega)];omega
 have k0:¬k=0:=by omega
 have ka:(0:Int)<=k:=by omega
 have c0:¬(i:Int)<0:=by omega
 have c1:¬4096<(i:Int):=by omega
 unfold Rz Pr S9 Mr
 simp only [A4,A6,Az,Ax,Ae,Lh,Hb,O9,O8,Ie,O7,J9,U6,p_vc,Up,w1,w2,ka,hk.2,if_true,decide_true,Af,c0,c1,if_false,decide_false,Ag,k0,Jy]
 unfold AInv at h
 by_cases hi0:i=0
 ·rw [if_pos hi0] at h
  subst hi0
  subst h
  simp [Am]
 ·rw [if_neg hi0] at h
  have hi1:¬(i:Int)=0:=by omega
  simp only [hi1,if_false,decide_false,Ag]
  by_cases k1:k=1
  ·grind
  ·rw [if_neg k1] at h
   obtain ⟨h1,h2⟩:=h
   simp only [k1,if_false,h1,X9,h2,A4,if_true,Bool.or_true]
   refine ⟨by simp [Am],?_⟩
   have:=Xq n k hk V
   unfold Jj wrP at this
   rw [p_vc,A4] at this
   simp only [h1,h2,if_true,decide_true,aU,Ag] at this
   cases hs:Mq n k V with
   |none=>rw [hs] at this;unfold bnd at this;cases this
   |some b =>
    rw [hs,A4] at this
    cases b with
    |true=>simp [A4,Am]
    |false=>simp [Am] at this
def Ei (k:Int)(i:Nat)(V x:Va):Va:=if i=0 then x else comb k V x
theorem AInv.step (hk:1<=k/\k<=5)(hi:i<=4096){x:Va}(h:AInv k i V)(hx:wrP k x=0):AInv k (i+1) (Ei k i V x):=by
 have hv:vcP x=0/\suP k x=true:=by
  unfold wrP at hx
  by_cases h1:vcP x=0
  ·simp_all
  ·omega
 have hn:x.fKind=0->x.fText=be/\-1099511627776<=x.fNum/\x.fNum<=1099511627776:=fun h0=>by
  have:=hv.1
  unfold vcP at this
  grind
 have hs:k=1\/k=2\/k=3->x.fKind=0:=fun h=>by
  have:=hv.2
  simp only [suP,aJ,decide_eq_true_eq] at this
  omega
 have nv:∀ q:Int,-1099511627776<=q->q<=1099511627776->vcP ⟨0,q,be⟩=0:=fun q h1 h2=>by
  unfold vcP
  grind
 unfold AInv at h ⊢
 rw [if_neg (by omega)]
 unfold Ei
 by_cases hi0:i=0
 ·simp_all
 ·rw [if_neg hi0] at h
  rw [if_neg hi0]
  by_cases k1:k=1
  ·rw [if_pos k1] at h ⊢
   obtain ⟨h1,h2,h3,h4⟩:=h
   obtain ⟨a,b,c⟩:=hn (hs (aN k1))
   unfold comb
   rw [if_pos k1]
   rw [D8 _ (by omega)]
   grind
  ·rw [if_neg k1] at h ⊢
   obtain ⟨h1,h2⟩:=h
   have hV:V.fKind=0->-1099511627776<=V.fNum/\V.fNum<=1099511627776:=fun h0=>by
    unfold vcP at h1
    omega
   have hVs:k=2\/k=3->V.fKind=0:=fun h=>by
    simp only [suP,aJ,decide_eq_true_eq] at h2
    omega
   unfold comb
   rw [if_neg k1]
   by_cases k2:k=2
   ·rw [if_pos k2]
    obtain ⟨a,b,c⟩:=hn (hs (aQ (aN k2)))
    obtain ⟨d,e⟩:=hV (hVs (aN k2))
    exact ⟨nv _ (by omega) (by omega),by simp [suP]⟩
   ·rw [if_neg k2]
    by_cases k3:k=3
    ·rw [if_pos k3]
     obtain ⟨a,b,c⟩:=hn (hs (aQ (aQ k3)))
     obtain ⟨d,e⟩:=hV (hVs (aQ k3))
     exact ⟨nv _ (by omega) (by omega),by simp [suP]⟩
    grind
theorem zoa (n:Nat)(hk:1<=k/\k<=5)(hi:i<4096)(h:AInv k i V)(x:Va):Vp n ⟨k,(i:Int),V⟩ x=some (if wrP k x=0 then (⟨k,((i+1:Nat):Int),Ei k i V x⟩,0) else (⟨0,0,⟨0,0,be⟩⟩,wrP k x)):=by
 unfold Vp
 rw [(h.check n hk (by omega)).1,A4]
 simp only [zf2 n k hk,A4,A6,Az,zmj n k hk,Ax,Ae,Lq,if_true]
 rw [Ai i (by omega)]
 by_cases hx:wrP k x=0
 ·rw [if_pos hx,if_pos hx,if_neg (by omega),if_neg (by omega)]
  unfold Ei
  by_cases h0:i=0
  all_goals simp_all
 ·rw [if_neg hx,if_neg hx]
def bad (k:Int):List Va->Option Int
 |[]=>none
 |x::l=>if wrP k x=0 then bad k l else some (wrP k x)
def fV (k:Int):Nat->Va->List Va->Va
 |_,V,[]=>V
 |i,V,x::l=>fV k (i+1) (Ei k i V x) l
theorem zf3 (n:Nat)(hk:1<=k/\k<=5)(init:Va)(l:List Va)(hl:l.length<=4096)(K:Int->Int->Int->Int->ByteArray->Option (Va×Int)):∀ (m i:Nat) (V:Va),i<=l.length->l.length<m+i->AInv k i V ->
  Ry n init l K m ((i:Int),k,(i:Int),V.fKind,V.fNum,V.fText)=(match bad k (l.drop i) with|some e=>some (va0,e)|none=>K k (l.length:Int) (fV k i V (l.drop i)).fKind (fV k i V (l.drop i)).fNum (fV k i V (l.drop i)).fText)/\(bad k (l.drop i)=none->AInv k l.length (fV k i V (l.drop i)))
 |0,i,V,h1,h2,_=>by omega
 |m+1,i,V,h1,h2,h3=>by
  unfold Ry
  simp only [aA,A6,Az]
  by_cases h:i<l.length
  ·rw [if_pos (by omega),Al h]
   have ha:=zoa n hk (i:=i) (by omega) h3 l[i]
   have hV:V=⟨V.fKind,V.fNum,V.fText⟩:=rfl
   rw [<-hV,ha,A4,Ee l i h]
   simp only [bad,fV]
   by_cases hx:wrP k l[i]=0
   ·simp only [hx,if_true]
    rw [Ai i (by omega)]
    exact zf3 n hk init l hl K m (i+1) _ (by omega) (by omega) (h3.step hk (by omega) hx)
   grind
  ·rw [if_neg (by omega),aD (by omega)]
   have:i=l.length:=by omega
   subst this
   exact ⟨rfl,fun _=>h3⟩
theorem zi8 (n:Nat)(hk:1<=k/\k<=5)(init:Va)(l:List Va)(hl:l.length<=4096)(K:Option (Va×Int)):∀ (m i:Nat),i<=l.length->l.length<m+i->Ms n init l k K m (i:Int)=(match bad k (l.drop i) with|some e=>some (va0,e)|none=>K)
 |0,i,h1,h2=>by omega
 |m+1,i,h1,h2=>by
  unfold Ms
  simp only [aA,A6,Az]
  by_cases h:i<l.length
  ·rw [if_pos (by omega),Al h,Xq n k hk,A4,Ee l i h]
   simp only [bad]
   by_cases hx:wrP k l[i]=0
   ·simp only [hx,if_true]
    rw [Ai i (by omega)]
    exact zi8 n hk init l hl K m (i+1) (by omega) (by omega)
   ·simp only [hx,if_false]
  ·rw [if_neg (by omega),aD (by omega)]
   rfl
theorem Wy (n:Nat)(hk:1<=k/\k<=5)(l:List Va)(hl:l.length<=4096)(K:Int->Int->Int->Int->ByteArray->Option Bg):∀ (m i:Nat) (V:Va),i<=l.length->l.length<m+i ->
  M0 n k l K m ((i:Int),k,(i:Int),V.fKind,V.fNum,V.fText)=K k (l.length:Int) (fV k i V (l.drop i)).fKind (fV k i V (l.drop i)).fNum (fV k i V (l.drop i)).fText
 |0,i,V,h1,h2=>by omega
 |m+1,i,V,h1,h2=>by
  unfold M0
  simp only [aA,A6]
  by_cases h:i<l.length
  ·rw [if_pos (by omega),Al h,Ee l i h]
   unfold Sr Sj Sk
   have k0:¬k=0:=by omega
   have hV:V=⟨V.fKind,V.fNum,V.fText⟩:=rfl
   simp only [A6,k0,if_false,A4]
   rw [<-hV,zoi n k hk]
   simp only [fV]
   by_cases h0:i=0
   ·have:((i:Nat):Int)=0:=by omega
    rw [if_pos this,A4,Ai i (by omega)]
    have e:=Wy n hk l hl K m (i+1) (Ei k i V l[i]) (by omega) (by omega)
    have e2:Ei k i V l[i]=l[i]:=by unfold Ei;rw [if_pos h0]
    rw [e2] at e ⊢
    have e3:((i+1:Nat):Int)=1:=by omega
    rw [e3] at e ⊢
    rw [A4]
    exact e
   ·rw [if_neg (by omega),if_neg (by omega),A4,A4,Ai i (by omega)]
    have e:=Wy n hk l hl K m (i+1) (Ei k i V l[i]) (by omega) (by omega)
    have e2:Ei k i V l[i]=comb k V l[i]:=by unfold Ei;rw [if_neg h0]
    rw [e2] at e ⊢
    rw [A4]
    exact e
  ·rw [if_neg (by omega),aD (by omega)]
   have:i=l.length:=by omega
   subst this
   rfl
theorem zkb (n:Nat)(hk:1<=k/\k<=5)(hi:i<=4096)(h:AInv k i V)(init:Va):∃ r,Ro n ⟨k,(i:Int),V⟩ init=some r/\Mg n ⟨k,(i:Int),V⟩ init=some r:=by
 obtain ⟨h1,h2⟩:=h.check n hk hi
 unfold Ro Mg
 rw [h1,h2]
 simp only [A4,zf2 n k hk,Xq n k hk,A6,Az,Ax,Ae,O3,J7,if_true,Am]
 repeat' split
 all_goals exact ⟨_,rfl,rfl⟩
theorem p_of (n:Nat)(hn:5000<n)(hk:1<=k/\k<=5)(l:List Va)(init:Va):∃ r,Sh n k l init=some r/\N3 n k l init=some r:=by
 unfold Sh N3 S9 Mr
 have ka:(0:Int)<=k:=by omega
 simp only [A4,A6,Az,Ax,Ae,Lh,Hb,ka,hk.2,if_true,aA,decide_true,Af]
 by_cases h:4096<l.length
 ·rw [if_pos (by omega),if_pos (by omega)]
  exact ⟨_,rfl,rfl⟩
 ·rw [if_neg (by omega),if_neg (by omega)]
  have e1:=zf3 n hk init l (by omega) (fun y0 y1 y2 y3 y4=>bnd (Ro n (⟨y0,y1,⟨y2,y3,y4⟩⟩:Bg) init) fun x47=>some (x47.1,x47.2)) n 0 va0 (by omega) (by omega) (by simp [AInv])
  have e2:=zi8 n hk init l (by omega) (bnd (Po n (⟨k,0,⟨0,0,ByteArray.empty⟩⟩:Bg) l k) fun x42=>bnd (Mg n x42 init) fun x43=>some (x43.1,x43.2)) n 0 (by omega) (by omega)
  simp only [aB,aG] at e1 e2
  rw [e1.1,e2]
  cases hb:bad k l with
  |some e=>exact ⟨_,rfl,rfl⟩
  |none =>
   have hi:=e1.2 hb
   have e3:=Wy n hk l (by omega) (fun y0 y1 y2 y3 y4=>some (⟨y0,y1,⟨y2,y3,y4⟩⟩:Bg)) n 0 va0 (by omega) (by omega)
   simp only [aB,aG] at e3
   unfold Po
   rw [e3]
   simp only [A4]
   obtain ⟨r,r1,r2⟩:=zkb n hk (i:=l.length) (by omega) hi init
   rw [r1,r2]
   simp only [A4]
   exact ⟨_,rfl,rfl⟩
def evs (vs:List (List Ev))(v:Int):List Ev:=if v<0 then [] else if (vs.length:Int)<=v then [] else vs.getD v.toNat []
variable {α β:Type}{l:List α}
theorem Hn {i:Int}(d:α)(k:α->Option β)(h0:0<=i)(h1:i<(l.length:Int)):idx l i k=k (l.getD i.toNat d):=by
 obtain ⟨m,rfl⟩:∃ m:Nat,i=m:=⟨i.toNat,by omega⟩
 have hm:m<l.length:=by omega
 rw [Al hm]
 simp_all
theorem Wv (n:Nat)(vs:List (List Ev))(v:Int):Ol n ⟨vs⟩ v=some (evs vs v):=by
 unfold Ol evs
 simp only [Ax,Ae,O2,aA,A6,Af]
 by_cases h:v<0
 ·rw [if_pos h,if_pos h]
 ·rw [if_neg h,if_neg h]
  by_cases h2:(vs.length:Int)<=v
  ·rw [if_pos h2,if_pos h2]
  ·rw [if_neg h2,if_neg h2,Hn [] _ (by omega) (by omega)]
theorem Xa (n:Nat)(vs:List (List Ev))(own:Int)(ev:Ev)(v:Int):Lc n ⟨vs⟩ own ev v=some (evs vs v):=by
 unfold Lc evs
 simp only [Ax,Ae,Hz,aA,A6,Af]
 by_cases h:v<0
 ·rw [if_pos h,if_pos h]
 ·rw [if_neg h,if_neg h]
  by_cases h2:(vs.length:Int)<=v
  ·rw [if_pos h2,if_pos h2]
  ·rw [if_neg h2,if_neg h2,Hn [] _ (by omega) (by omega)]
theorem zib (n:Nat)(ev:Ev)(f:Int)(hf:0<=f):Ju n ev f=some (if (ev.fValues.length:Int)<=f then (va0,6) else (ev.fValues.getD f.toNat va0,0)):=by
 unfold Ju
 simp only [aA,A6]
 by_cases h:(ev.fValues.length:Int)<=f
 ·rw [if_pos h,if_pos h]
 ·rw [if_neg h,if_neg h,Hn va0 _ hf (by omega)]
theorem z8y (n:Nat)(e:Exn)(hf:0<=e.fField)(es:List Ev)(hl:es.length<=1000000)(K K':List Va->Option (Va×Int))(hK:∀ l,∃ r,K l=some r/\K' l=some r):∀ (m i:Nat) (acc:List Va),i<=es.length->es.length<m+i->acc.length=i ->
  ∃ r,Rb n e es K m ((i:Int),acc)=some r/\Ks n e es K' m ((i:Int),acc)=some r
 |0,i,acc,h1,h2,_=>by omega
 |m+1,i,acc,h1,h2,h3=>by
  unfold Rb Ks
  simp only [aA,A6,Az]
  by_cases h:i<es.length
  ·rw [if_pos (by omega),if_pos (by omega)]
   simp only [Al h]
   rw [zib n _ _ hf,A4]
   by_cases hv:(es[i].fValues.length:Int)<=e.fField
   ·simp_all
   ·rw [if_neg hv,if_neg hv,Hn va0 _ hf (by omega)]
    simp only [if_true]
    rw [C8 (by simp;omega) (by omega),C8 (by simp;omega) (by omega),Ai i (by omega)]
    exact z8y n e hf es hl K K' hK m (i+1) _ (by omega) (by omega) (by simp;omega)
  ·rw [if_neg (by omega),if_neg (by omega)]
   exact hK acc
variable {e:Exn}
theorem zfg (h:ndP e=0):0<=arP e.fOp/\(e.fArgs.length:Int)=arP e.fOp/\(usF e.fOp=true->0<=e.fField)/\(e.fOp=4->1<=e.fKind/\e.fKind<=5):=by
 unfold ndP at h
 grind
inductive Occ (i:Nat):Exn->Prop
 |here (e:Exn) (h:usV e.fOp=true) (hv:e.fVar=(i:Int)):Occ i e
 |sub (e y:Exn) (hy:Ah y∈e.fArgs) (h:Occ i y):Occ i e
theorem zol (h:ndP e=0)(hu:usV e.fOp=true):0<=e.fVar/\e.fVar<16:=by
 unfold ndP at h
 grind
theorem zoc (n:Nat)(hn:2000000<n)(e:Exn)(hnd:ndP e=0)(h0:e.fArgs.length=0)(a b:List (List Ev))(hoc:∀ i:Nat,Occ i e->evs a (i:Int)=evs b (i:Int))(hb:∀ v,(evs a v).length<=1000000)(own:Int)(ev:Ev) :
  ∃ r,S8 n e ⟨a⟩ own ev=some r/\Lt n ⟨b⟩ own ev e=some r:=by
 obtain ⟨f1,f2,f3,f4⟩:=zfg hnd
 by_cases o0:e.fOp=0
 ·unfold S8 Lt
  simp only [Wv,Xa,A4,A6,o0,if_true]
  exact ⟨_,rfl,rfl⟩
 have hu:usV e.fOp=true:=by
  unfold arP at f1 f2
  by_cases q1:e.fOp<0
  ·rw [if_pos q1] at f1;omega
  by_cases q2:12<e.fOp
  ·rw [if_neg q1,if_pos q2] at f1;omega
  rw [if_neg q1,if_neg q2] at f2
  by_cases q3:e.fOp<5
  ·unfold usV
   grind
  ·rw [if_neg q3] at f2
   split at f2<;>omega
 have hab:evs a e.fVar=evs b e.fVar:=by
  have hv:=zol hnd hu
  have:=hoc e.fVar.toNat (.here e hu (by omega))
  rwa [show ((e.fVar.toNat:Nat):Int)=e.fVar by omega] at this
 unfold S8 Lt
 simp only [Wv,Xa,<-hab,A4,A6,Az,aA]
 rw [if_neg o0,if_neg o0]
 by_cases o3:e.fOp=3
 ·simp_all
 rw [if_neg o3,if_neg o3]
 by_cases o4:e.fOp=4
 ·rw [if_pos o4,if_pos o4]
  unfold Rk
  rw [Xa,<-hab,A4]
  have hf:=f3 (by rw [o4];decide)
  have hk:=f4 o4
  obtain ⟨r,r1,r2⟩:=z8y n e hf (evs a e.fVar) (hb _) (fun y=>bnd (Sh n e.fKind y e.fValue) fun x44=>some (x44.1,x44.2)) (fun y=>bnd (N3 n e.fKind y e.fValue) fun x43=>some (x43.1,x43.2)) (fun l=>by
   obtain ⟨r,r1,r2⟩:=p_of n (by omega) hk l e.fValue
   exact ⟨r,by rw [r1,A4],by rw [r2,A4]⟩) n 0 [] (by omega) (by have:=hb e.fVar;omega) rfl
  simp only [aB] at r1 r2
  rw [r1,r2]
  exact ⟨r,rfl,by rw [A4]⟩
 rw [if_neg o4,if_neg o4]
 have hop:e.fOp=1\/e.fOp=2:=by
  unfold arP at f1 f2
  by_cases q1:e.fOp<0
  ·rw [if_pos q1] at f1;omega
  by_cases q2:12<e.fOp
  ·rw [if_neg q1,if_pos q2] at f1;omega
  rw [if_neg q1,if_neg q2] at f2
  by_cases q3:e.fOp<5
  ·omega
  ·omega
 simp only [Ax,Ae,I9,I8]
 unfold Z6
 simp only [Wv,A4,A6,Az,aA]
 have tail:∀ x:Ev,∃ r,(if e.fOp=2 then some ((⟨0,x.fTime,be⟩:Va),(0:Int)) else if (x.fValues.length:Int)<=e.fField then some (va0,6) else idx x.fValues e.fField fun x50=>bnd (Fp n x50) fun x51=>if x51=0 then (idx x.fValues e.fField fun x52=>some (x52,0)) else some (va0,x51))=some r /\
   (if e.fOp=2 then some ((⟨0,x.fTime,be⟩:Va),(0:Int)) else bnd (Ju n (⟨x.fSource,x.fSeq,x.fType,x.fTime,x.fValues⟩:Aw) e.fField) fun x9=>if x9.2=0 then (bnd (F5 n x9.1) fun x12=>if x12=0 then some (x9.1,0) else some (va0,x12)) else if x9.2=0 then some (x9.1,0) else some (va0,x9.2))=some r:=fun x=>by
  by_cases o2:e.fOp=2
  ·simp_all
  rw [if_neg o2,if_neg o2]
  have o1:e.fOp=1:=by omega
  have hf:=f3 (by rw [o1];decide)
  rw [zib n _ _ hf,A4]
  by_cases hv:(x.fValues.length:Int)<=e.fField
  ·simp only [hv,if_true]
   exact ⟨_,rfl,rfl⟩
  ·simp only [hv,if_false]
   rw [Hn va0 _ hf (by omega),Hn va0 _ hf (by omega),Up,p_vc,A4]
   simp only [if_true,A4]
   split
   all_goals simp_all
 by_cases ho:e.fVar=own
 ·rw [if_pos ho,if_pos ho,A4]
  simp only [Af]
  exact tail ev
 ·rw [if_neg ho,if_neg ho]
  by_cases he:(evs a e.fVar).length=0
  ·rw [if_pos (by omega),if_pos (by omega),A4]
   simp only [Ag]
   exact ⟨_,rfl,rfl⟩
  ·rw [if_neg (by omega),if_neg (by omega),D8 _ (by have:=hb e.fVar;omega),Hn ev _ (by omega) (by omega),Hn ev _ (by omega) (by omega),A4]
   simp only [Af]
   exact tail _
theorem zgm (n:Nat)(op:Int)(h:5<=op/\op<=12):V3 n op=some (if op<9 then 0 else if op=9 then -1 else 1):=by
 have:op=5\/op=6\/op=7\/op=8\/op=9\/op=10\/op=11\/op=12:=by omega
 unfold V3
 simp only [Ax,Ae,Hy,Km,A6]
 grind
theorem Zh (n:Nat)(op:Int)(h:5<=op/\op<=12)(ks:List Int)(hl:ks.length<=4000000):∀ (m i:Nat),i<=ks.length->ks.length<m+i->∃ r,Ff n ks op (some 0) m (i:Int)=some r/\F0 n ks op (some 0) m (i:Int)=some r/\(r=0\/r=9)
 |0,i,h1,h2=>by omega
 |m+1,i,h1,h2=>by
  unfold Ff F0
  simp only [aA,A6,Az,zgm n op h,A4,Ax,Ae,Gk,G2,He]
  by_cases hi:i<ks.length
  ·have hlt:((i:Nat):Int)<((ks.length:Nat):Int):=by omega
   simp only [hlt,if_true]
   obtain ⟨r,r1,r2,r3⟩:=Zh n op h ks hl m (i+1) (by omega) (by omega)
   rw [Ai i (by omega),r1,r2]
   have hz:∀ (K:Int->Option Int),idx ks 0 K=K (ks.headD 0):=fun K=>by
    have:=Al (l:=ks) (i:=0) (by omega) K
    simp only [aB] at this
    rw [this]
    congr 1
    cases ks with
    |nil=>simp at hi
    |cons x q=>rfl
   have hx:∀ (K:Int->Option Int),idx ks (i:Int) K=K ks[i]:=fun K=>Al hi K
   simp only [hz,hx]
   generalize ks[i]=k
   generalize ks.headD 0=k0
   have:op=5\/op=6\/op=7\/op=8\/op=9\/op=10\/op=11\/op=12:=by omega
   clear r1 r2 hz hx h
   rcases this with rfl|rfl|rfl|rfl|rfl|rfl|rfl|rfl
   all_goals
    simp [Am]
    first
    |(by_cases q:k=0<;>simp [q,r3])
    |(by_cases q:k=1<;>simp [q,r3])
    |(by_cases q:k=k0<;>simp [q,r3])
  ·have hlt:¬((i:Nat):Int)<((ks.length:Nat):Int):=by omega
   simp only [hlt,if_false]
   exact ⟨0,rfl,rfl,aN rfl⟩
theorem Y5 (n:Nat)(b:Bool):D7 n b=some (if b=true then ⟨1,1,be⟩ else ⟨1,0,be⟩):=by
 unfold D7 T3
 cases b<;>simp [Am,A4]
theorem Xr (n:Nat)(b:Bool):D4 n b=some (if b=true then ⟨1,1,be⟩ else ⟨1,0,be⟩):=by
 unfold D4
 cases b<;>simp [Am]
section
variable {α β:Type}
theorem Xc {len:Nat}(h:0<len)(k:Nat->Option β):nat 0 len k=k 0:=by have:=Hp (i:=0) h k;simpa using this
theorem zfh {len:Nat}(h:1<len)(k:Nat->Option β):nat 1 len k=k 1:=by have:=Hp (i:=1) h k;simpa using this
theorem zn8 {x y:α}{l:List α}(k:α->Option β):idx (x::y::l) 1 k=k y:=by have:=Al (l:=x::y::l) (i:=1) (by simp) k;simpa using this
end
theorem w21:aC .i64 (((2:Nat):Int)-1)=1:=by decide
theorem w11:aC .i64 (((1:Nat):Int)-1)=0:=by decide
theorem zke (n:Nat)(op:Int)(h:5<=op/\op<=11)(x y:Va):∃ v,Ou n op [x,y]=some v /\
  (cnd (decide (op=9))
    (nat 0 (List.map Aa [x,y]).length fun x45=>elt [x,y] x45 fun x46=>nat 1 (List.map Aa [x,y]).length fun x47=>elt [x,y] x47 fun x48 =>
      bnd (D7 n (decide (x46.fKind=x48.fKind) && (decide (x46.fNum=x48.fNum) && ((x46.fText.toList == x48.fText.toList) && true)))) fun x49=>some (x49,(0:Int)))
  <| natc op 5 (bnd (Pb n x.fNum y.fNum) fun x54=>some (x54,0))
  <| natc op 6 (bnd (Pa n x.fNum y.fNum) fun x54=>some (x54,0))
  <| natc op 7 (bnd (P9 n x.fNum y.fNum) fun x54=>some (x54,0))
  <| natc op 8 (bnd (P8 n x.fNum y.fNum) fun x54=>some (x54,0))
  <| natc op 10 (bnd (P7 n x.fNum y.fNum) fun x54=>some (x54,0))
  <| natc op 11 (bnd (P6 n x.fNum y.fNum) fun x54=>some (x54,0))
  <| natc op 12 (bnd (Jc n x.fNum y.fNum) fun x54=>some (x54,0))
  <| none)=some (v,0):=by
 have:op=5\/op=6\/op=7\/op=8\/op=9\/op=10\/op=11:=by omega
 have l2:(List.map Aa [x,y]).length=2:=rfl
 have n0:∀ k:Nat->Option (Va×Int),nat 0 2 k=k 0:=fun k=>Xc (by omega) k
 have n1:∀ k:Nat->Option (Va×Int),nat 1 2 k=k 1:=fun k=>zfh (by omega) k
 have e0:∀ k:Va->Option (Va×Int),elt [x,y] 0 k=k x:=fun k=>D1 (by simp) k
 have e1:∀ k:Va->Option (Va×Int),elt [x,y] 1 k=k y:=fun k=>D1 (by simp) k
 unfold Ou Pb Pa P9 P8 P7 P6 Jc Pc
 simp only [l2,n0,n1,e0,e1,zfr,zn8,A6,K8,Y5,Xr,A4,Ax,Ae,Iz,Iy,O5,O4]
 rcases this with rfl|rfl|rfl|rfl|rfl|rfl|rfl
 ·exact ⟨_,rfl,rfl⟩
 ·exact ⟨_,rfl,rfl⟩
 ·exact ⟨_,rfl,rfl⟩
 ·exact ⟨_,rfl,rfl⟩
 ·exact ⟨_,rfl,rfl⟩
 ·by_cases q:x.fNum=1
  ·simp [q,A4]
  ·simp [q,A4]
 ·by_cases q:x.fNum=1
  ·simp [q,A4]
  ·simp [q,A4]
theorem zkf (n:Nat)(x:Va):∃ v,Ou n 12 [x]=some v/\Jc n x.fNum x.fNum=some v:=by
 unfold Ou Jc
 simp only [zfr,A6,Y5,Xr,A4]
 exact ⟨_,rfl,rfl⟩
theorem ETrO.pos {s:Nat}(h:ETrO s e):1<=s:=by cases h;omega
theorem zbh (n:Nat)(l:List (Nat×Exn))(e:Exn)(ha:e.fArgs=l.map (fun p=>Ah p.2))(hl:l.length<=4000000)(a b:List (List Ev))(own:Int)(ev:Ev)
  (ih:∀ p∈l,∃ r,M2 n p.2 ⟨a⟩ own ev=some r/\Fm n ⟨b⟩ own ev p.2=some r) (K K':List Va->List Int->Option (Va×Int)) (hK:∀ vs,vs.length=l.length->∃ r,K vs (vs.map (·.fKind))=some r/\K' vs (vs.map (·.fKind))=some r) :
  ∀ (m k:Nat) (vs:List Va),k<=l.length->l.length<m+k->vs.length=k->∃ r,Re n (M2 n) ev own ⟨a⟩ e K m ((k:Int),vs,vs.map (·.fKind))=some r/\L3 n (Fm n) e ev own ⟨b⟩ K' m ((k:Int),vs,vs.map (·.fKind))=some r
 |0,k,vs,h1,h2,_=>by omega
 |m+1,k,vs,h1,h2,h3=>by
  unfold Re L3
  simp only [ha,aA,A6,Az]
  by_cases h:k<l.length
  ·have hlt:((k:Nat):Int)<((l.length:Nat):Int):=by omega
   simp only [hlt,if_true]
   rw [Ge h,Ge h]
   obtain ⟨⟨v,x⟩,r1,r2⟩:=ih l[k] (aF h)
   rw [r1,r2,A4,A4]
   by_cases hx:x=0
   ·simp only [hx,if_true]
    rw [C8 (by simp;omega) (by omega),C8 (by simp;omega) (by omega),C8 (by simp;omega) (by omega),C8 (by simp;omega) (by omega),Ai k (by omega)]
    have:=zbh n l e ha hl a b own ev ih K K' hK m (k+1) (vs++[v]) (by omega) (by omega) (by simp;omega)
    simpa using this
   simp_all
  grind
theorem zof (a b:List (List Ev))(hb:∀ v,(evs a v).length<=1000000)(own:Int)(ev:Ev):∀ (s:Nat) (e:Exn),ETrO s e->(∀ i:Nat,Occ i e->evs a (i:Int)=evs b (i:Int))->s<=4000000->∀ n,s+5000000<n->∃ r,M2 n e ⟨a⟩ own ev=some r/\Fm n ⟨b⟩ own ev e=some r:=by
 intro s
 induction s using Nat.strongRecOn with
 |ind s IH =>
  intro e ht hab hs n hn
  cases ht with
  |mk l e hnd h ha =>
   obtain ⟨n',rfl⟩:∃ n',n=n' + 1:=⟨n-1,by omega⟩
   have hl:l.length<=(l.map (·.1)).sum:=Nc (l:=l) (fun p hp=>(h p hp).pos)
   obtain ⟨f1,f2,f3,f4⟩:=zfg hnd
   simp only [M2,Fm,aA,A6,Az]
   by_cases h0:e.fArgs.length=0
   ·have:((e.fArgs.length:Nat):Int)=0:=by omega
    simp only [this,if_true]
    obtain ⟨r,r1,r2⟩:=zoc n' (by omega) e hnd h0 a b hab hb own ev
    rw [r1,r2,A4]
    exact ⟨_,rfl,rfl⟩
   ·have:¬((e.fArgs.length:Nat):Int)=0:=by omega
    simp only [this,if_false]
    have hll:e.fArgs.length=l.length:=by rw [ha,aA]
    have hop:5<=e.fOp/\e.fOp<=12/\(e.fOp=12->l.length=1)/\(e.fOp≠12->l.length=2):=by
     unfold arP at f1 f2
     by_cases q1:e.fOp<0
     ·rw [if_pos q1] at f1;omega
     by_cases q2:12<e.fOp
     ·omega
     rw [if_neg q1,if_neg q2] at f2
     by_cases q3:e.fOp<5
     ·rw [if_pos q3] at f2;omega
     ·omega
    refine zbh n' l e ha (by omega) a b own ev (fun p hp=>by
     have:=Ho hp
     exact IH p.1 (by omega) p.2 (h p hp) (fun i hi=>hab i (.sub e p.2 (by grind) hi)) (by omega) n' (by omega)) _ _ (fun vs hvs=>?_) n' 0 [] (by omega) (by omega) rfl
    obtain ⟨r,r1,r2,r3⟩:=Zh n' e.fOp ⟨hop.1,hop.2.1⟩ (vs.map (·.fKind)) (by rw [aA];omega) n' 0 (by omega) (by rw [aA];omega)
    simp only [aB] at r1 r2
    unfold Z0 Su
    rw [r1,r2,A4,A4]
    by_cases hr:r=0
    ·simp only [hr,if_true]
     by_cases o12:e.fOp=12
     ·have hv1:vs.length=1:=by have:=hop.2.2.1 o12;omega
      match vs,hv1 with
      |[x],_ =>
       obtain ⟨v,v1,v2⟩:=zkf n' x
       rw [o12,v1,A4]
       have n0:∀ k:Nat->Option (Va×Int),nat 0 1 k=k 0:=fun k=>Xc (by omega) k
       have e0:∀ k:Va->Option (Va×Int),elt [x] 0 k=k x:=fun k=>D1 (by simp) k
       have l0:∀ z:Option (Va×Int),ltx 0 1 z=z:=fun z=>Y6 (by omega) z
       simp only [K8,aK,aS,Nat.zero_add,w11,n0,e0,l0,v2,A4]
       exact ⟨_,rfl,rfl⟩
     ·have hv2:vs.length=2:=by have:=hop.2.2.2 o12;omega
      match vs,hv2 with
      |[x,y],_ =>
       obtain ⟨v,v1,v2⟩:=zke n' e.fOp ⟨hop.1,by omega⟩ x y
       rw [v1,A4]
       refine ⟨(v,0),rfl,?_⟩
       rw [<-v2]
       have n0:∀ k:Nat->Option (Va×Int),nat 0 2 k=k 0:=fun k=>Xc (by omega) k
       have n1:∀ k:Nat->Option (Va×Int),nat 1 2 k=k 1:=fun k=>zfh (by omega) k
       have e0:∀ k:Va->Option (Va×Int),elt [x,y] 0 k=k x:=fun k=>D1 (by simp) k
       have e1:∀ k:Va->Option (Va×Int),elt [x,y] 1 k=k y:=fun k=>D1 (by simp) k
       have l0:∀ z:Option (Va×Int),ltx 0 2 z=z:=fun z=>Y6 (by omega) z
       have l1:∀ z:Option (Va×Int),ltx 1 2 z=z:=fun z=>Y6 (by omega) z
       simp only [K8,A6,aA,aK,aS,Nat.zero_add,Nat.reduceAdd,w21,n0,n1,e0,e1,l0,l1]
    simp_all
theorem zmd (a b:List (List Ev))(hb:∀ v,(evs a v).length<=1000000)(own:Int)(ev:Ev)(s:Nat)(e:Exn)(hab:∀ i:Nat,Occ i e->evs a (i:Int)=evs b (i:Int))(ht:ETr s e)(hs:s<=4000000)(n:Nat)(hn:10000000<n) :
  ∃ r,Vl n e ⟨a⟩ own ev=some r/\Q3 n e ⟨b⟩ own ev=some r:=by
 obtain ⟨c,c1,c2,c3⟩:=zie s e ht hs n (by omega)
 unfold Vl Q3 Z7 T8
 rw [c1,c2]
 simp only [A4,A6,Az,Y5,Xr,Ax,Ae,O6,Jo]
 by_cases hc:c=0
 ·simp only [hc,if_true]
  obtain ⟨r,r1,r2⟩:=zof a b hb own ev s e (c3 hc) hab hs n (by omega)
  rw [r1,r2]
  simp only [A4]
  split
  all_goals simp_all
 ·simp only [hc,if_false,A4]
  exact ⟨_,rfl,rfl⟩
def fidx (p:α->Bool)(l:List α):Int:=match l.findIdx? p with|some j=>(j:Int)|none=>-1
theorem Xi (p:α->Bool)(l:List α):decide (0<=fidx p l)=l.any p:=by
 unfold fidx
 grind
def Gh (p:α->Bool)(k:Nat)(l:List α):Int:=match l.findIdx? p with|some j=>((k+j:Nat):Int)|none=>-1
theorem Tg (p:α->Bool)(k:Nat)(x:α)(l:List α):Gh p k (x::l)=if p x=true then (k:Int) else Gh p (k+1) l:=by
 unfold Gh
 grind
theorem Qc (p:α->Bool)(l:List α):Gh p 0 l=fidx p l:=by
 unfold Gh fidx
 simp_all
theorem zbb (n:Nat)(x:Int)(l:List Int)(hl:l.length<=1000000000):∀ (m k:Nat),k<=l.length->l.length<m+k->Mi n x l (some (-1)) m (k:Int)=some (Gh (fun y=>decide (x=y)) k (l.drop k))
 |0,k,h1,h2=>by omega
 |m+1,k,h1,h2=>by
  unfold Mi
  simp only [aA,A6]
  by_cases h:k<l.length
  ·rw [if_pos (by omega),Al h,Ee l k h,Tg,Ai k (by omega),zbb n x l hl m (k+1) (by omega) (by omega)]
   grind
  ·rw [if_neg (by omega),aD (by omega)]
   rfl
theorem Gb (n:Nat)(x:Int)(l:List Int)(hl:l.length<=1000000000)(hn:l.length<n):Eb n l x=some (l.any fun y=>decide (x=y)):=by
 unfold Eb Sv
 have:=zbb n x l hl n 0 (by omega) (by omega)
 simp only [aB,aG,Qc] at this
 rw [this,A4,Xi]
theorem z8z (n:Nat)(a1c0:B5)(p:B5->Bool)(l:List B5)(hl:l.length<=1000000000)(hb:∀ x∈l,M4 n x a1c0=some (p x)):∀ (m k:Nat),k<=l.length->l.length<m+k->Lw n a1c0 l (some (-1)) m (k:Int)=some (Gh p k (l.drop k))
 |0,k,h1,h2=>by omega
 |m+1,k,h1,h2=>by
  unfold Lw
  simp only [aA,A6]
  by_cases h:k<l.length
  ·rw [if_pos (by omega),Al h,Ee l k h,Tg,hb _ (aF h),A4,Ai k (by omega),z8z n a1c0 p l hl hb m (k+1) (by omega) (by omega)]
   cases p l[k]<;>simp [Am]
  ·rw [if_neg (by omega),aD (by omega)]
   rfl
theorem zmm (n:Nat)(a1c0:B5)(p:B5->Bool)(l:List B5)(hl:l.length<=1000000000)(hn:l.length<n)(hb:∀ x∈l,M4 n x a1c0=some (p x)):Ph n l a1c0=some (fidx p l):=by
 unfold Ph
 have:=z8z n a1c0 p l hl hb n 0 (by omega) (by omega)
 simpa only [aB,aG,Qc] using this
theorem zoh (n:Nat)(a1c0:B5)(p:B5->Bool)(l:List B5)(hl:l.length<=1000000000)(hn:l.length<n)(hb:∀ x∈l,M4 n x a1c0=some (p x)):Lx n l a1c0=some (l.any p):=by
 unfold Lx
 rw [zmm n a1c0 p l hl hn hb,A4,Xi]
theorem Ze (n:Nat)(p:C0->Bool)(l:List C0)(hl:l.length<=1000000000)(hb:∀ x∈l,Hg n x=some (p x)):∀ (m k:Nat),k<=l.length->l.length<m+k->Ky n l (some (-1)) m (k:Int)=some (Gh p k (l.drop k))
 |0,k,h1,h2=>by omega
 |m+1,k,h1,h2=>by
  unfold Ky
  simp only [aA,A6]
  by_cases h:k<l.length
  ·rw [if_pos (by omega),Al h,Ee l k h,Tg,hb _ (aF h),A4,Ai k (by omega),Ze n p l hl hb m (k+1) (by omega) (by omega)]
   cases p l[k]<;>simp [Am]
  ·rw [if_neg (by omega),aD (by omega)]
   rfl
theorem zdy (n:Nat)(p:C0->Bool)(l:List C0)(hl:l.length<=1000000000)(hn:l.length<n)(hb:∀ x∈l,Hg n x=some (p x)):Om n l=some (fidx p l):=by
 unfold Om
 have:=Ze n p l hl hb n 0 (by omega) (by omega)
 simpa only [aB,aG,Qc] using this
theorem z92 (n:Nat)(p:C0->Bool)(l:List C0)(hl:l.length<=1000000000)(hn:l.length<n)(hb:∀ x∈l,Hg n x=some (p x)):Kz n l=some (l.any p):=by
 unfold Kz
 rw [zdy n p l hl hn hb,A4,Xi]
abbrev Gd:=B5
abbrev Stt:=Dw
abbrev Ed:=Ab
abbrev Aut:=A8
def WfE (e:Exn):Prop:=∃ z,z<=4000000/\ETr z e
structure WfX (x:Ed):Prop where
 cond:WfE x.fCond
 checks:∃ ys:List Exn,x.fChecks=ys.map Ah/\∀ y∈ys,WfE y
 lc:x.fChecks.length<=1100000
 lo:x.fOpens.length<=1100000
 lcl:x.fCloses.length<=1100000
 li:x.fInside.length<=1100000
 ll:x.fLimits.length<=1100000
structure WfA (a:Aut):Prop where
 ls:a.fStates.length<=1100000
 le:a.fEdges.length<=1100000
 st:∀ s∈a.fStates,s.fGuards.length<=1100000/\∀ g∈s.fGuards,WfE g.fCond
 ed:∀ x∈a.fEdges,WfX x
theorem WfE.check (h:WfE e)(n:Nat)(hn:10000000<n):∃ r:Int,Ew n e=some r/\G8 n e=some r:=by
 obtain ⟨z,hz,ht⟩:=h
 obtain ⟨r,r1,r2,_⟩:=zie z e ht hz n (by omega)
 exact ⟨r,r1,r2⟩
theorem Qv (n:Nat)(a b:Int):Ce n a b=some (decide (a<0) || decide (b<a)):=by
 unfold Ce
 simp only [Ax,Ae,Iv,A6]
 by_cases h:a<0<;>simp [h]
theorem Qg (n:Nat)(a b:Int):Dr n a b=some (decide (0<=a) && decide (a<b)):=by
 unfold Dr
 simp only [Ax,Ae,J4,A6]
 by_cases h:0<=a<;>simp [h]
theorem Qb (a b:Int):(decide (a<0) || decide (b-1<a))=!(decide (0<=a) && decide (a<b)):=by
 grind
theorem zg6 {q:α->Bool}{k:Nat}(hk:k<i)(hi:i<=l.length):((l.take i).drop k).any q=(q (l[k]'(by omega)) || ((l.take i).drop (k+1)).any q):=by
 rw [Ee _ k (by simp;omega),any_cons,getElem_take]
theorem Zq (n:Nat)(l:List Gd)(a:Aut)(i:Nat)(hi:i<l.length)(hl:l.length<=1100000)(K:Option Int):∀ (m k:Nat),k<=i->i<m+k->Kw n l a (i:Int) K m (k:Int)=if ((l.take i).drop k).any (fun h=>decide (h.fScope=l[i].fScope))=true then some 7 else K
 |0,k,h1,h2=>by omega
 |m+1,k,h1,h2=>by
  unfold Kw
  simp only [A6]
  by_cases h:k<i
  ·rw [if_pos (by omega),Al (by omega:k<l.length),Al hi,zg6 h (by omega),Ai k (by omega),Zq n l a i hi hl K m (k+1) (by omega) (by omega)]
   grind
  ·rw [if_neg (by omega),aD (by simp;omega)]
   simp
theorem z73 (n:Nat)(hn:10000000<n)(a:Aut)(hs:0<=a.fScopes/\a.fScopes<=64)(hv:0<=a.fVars/\a.fVars<=16)(l:List Gd)(hl:l.length<=1100000)(hw:∀ g∈l,WfE g.fCond):∀ (m k:Nat),k<=l.length->l.length<m+k->∃ r:Int,El n l a (some 0) m (k:Int)=some r/\Ex n l a (some 0) m (k:Int)=some r
 |0,k,h1,h2=>by omega
 |m+1,k,h1,h2=>by
  unfold El Ex
  simp only [aA,A6,Az,Ax,Ae,Gq,H7,Qv,Qg]
  by_cases h:k<l.length
  ·have hlt:((k:Nat):Int)<((l.length:Nat):Int):=by omega
   simp only [hlt,if_true,Al h,A4]
   have wS:aC .i64 (a.fScopes-1)=a.fScopes-1:=D8 _ (by omega)
   have wV:aC .i64 (a.fVars-1)=a.fVars-1:=D8 _ (by omega)
   have e16:∀ x:Int,(decide (x<0) || decide (15<x))=!(decide (0<=x) && decide (x<16)):=fun x=>Qb x 16
   simp only [wS,wV,Qb,e16]
   obtain ⟨r,r1,r2⟩:=z73 n hn a hs hv l hl hw m (k+1) (by omega) (by omega)
   obtain ⟨c,c1,c2⟩:=(hw _ (aF h)).check n hn
   have e1:=Zq n l a k h hl (bnd (Ew n l[k].fCond) fun x89=>if x89=0 then El n l a (some 0) m (aC .i64 ((k:Int)+1)) else some x89) n 0 (by omega) (by omega)
   simp only [aB,aG] at e1
   rw [e1,c1,c2]
   have e2:=zlg (l:=l) (a:=0) (b:=k) (Nat.zero_le _) (by omega) (fun x46=>bnd (Lx n x46 l[k]) fun x47=>cnd x47 (some (7:Int)) (bnd (some c) fun x48=>if x48=0 then Ex n l a (some 0) m (aC .i64 ((k:Int)+1)) else some x48))
   simp only [aB,aG] at e2
   rw [e2,zoh n l[k] (fun h=>decide (h.fScope=l[k].fScope)) (l.take k) (by simp;omega) (by simp;omega) (fun x _=>rfl),A4,Ai k (by omega),r1,r2]
   simp only [A4]
   generalize (decide (0<=l[k].fScope) && decide (l[k].fScope<a.fScopes))=b1
   generalize (decide (0<=l[k].fType) && decide (l[k].fType<16))=b2
   generalize (decide (0<=l[k].fVar) && decide (l[k].fVar<a.fVars))=b3
   generalize ((l.take k).any fun h=>decide (h.fScope=l[k].fScope))=b4
   cases b1 with
   |false=>exact ⟨2,by simp [Am],by simp [Am]⟩
   |true=>cases b2 with
    |false=>exact ⟨2,by simp [Am],by simp [Am]⟩
    |true=>cases b3 with
     |false=>exact ⟨2,by simp [Am],by simp [Am]⟩
     |true=>cases b4 with
      |true=>exact ⟨7,by simp [Am],by simp [Am]⟩
      |false =>
       by_cases hc:c=0
       ·exact ⟨r,by simp [Am,hc],by simp [Am,hc]⟩
       ·exact ⟨c,by simp [Am,hc],by simp [Am,hc]⟩
  ·have hlt:¬((k:Nat):Int)<((l.length:Nat):Int):=by omega
   simp only [hlt,if_false]
   exact ⟨0,rfl,rfl⟩
theorem zkd (n:Nat)(hn:10000000<n)(a:Aut)(hs:0<=a.fScopes/\a.fScopes<=64)(hv:0<=a.fVars/\a.fVars<=16)(l:List Gd)(hl:l.length<=1100000)(hw:∀ g∈l,WfE g.fCond):∃ r:Int,Ok n a l=some r/\Pn n a l=some r:=by
 unfold Ok Pn
 simp only [aA,A6]
 by_cases h:64<((l.length:Nat):Int)
 ·simp_all
 ·simp only [h,if_false]
  have:=z73 n hn a hs hv l hl hw n 0 (by omega) (by omega)
  omega
theorem zb7 (n:Nat)(sc:Int)(l:List Int)(i:Nat)(hi:i<l.length)(hl:l.length<=1100000)(K:Option Int):∀ (m k:Nat),k<=i->i<m+k->Kv n sc l (i:Int) K m (k:Int)=if ((l.take i).drop k).any (fun h=>decide (l[i]=h))=true then some 7 else K
 |0,k,h1,h2=>by omega
 |m+1,k,h1,h2=>by
  unfold Kv
  simp only [A6]
  by_cases h:k<i
  ·rw [if_pos (by omega),Al (by omega:k<l.length),Al hi,zg6 h (by omega),Ai k (by omega),zb7 n sc l i hi hl K m (k+1) (by omega) (by omega)]
   grind
  ·rw [if_neg (by omega),aD (by simp;omega)]
   simp
theorem z72 (n:Nat)(hn:10000000<n)(a:Aut)(hs:0<=a.fScopes/\a.fScopes<=64)(A:List (List Int))(j:Int)(l:List Int)(hl:l.length<=1100000)(K:Option Int):∀ (m k:Nat),k<=l.length->l.length<m+k->∃ r:Int,I5 n a.fScopes l (some 0) m (k:Int)=some r/\Ft n A a j l K m (k:Int)=(if r=0 then K else some r)/\(r=0->∀ y∈l.drop k,0<=y/\y<a.fScopes)
 |0,k,h1,h2=>by omega
 |m+1,k,h1,h2=>by
  unfold I5 Ft
  simp only [aA,A6,Az,Qv,Qg]
  by_cases h:k<l.length
  ·have hlt:((k:Nat):Int)<((l.length:Nat):Int):=by omega
   simp only [hlt,if_true,Al h,A4]
   rw [D8 _ (by omega),Qb]
   obtain ⟨r,r1,r2,r3⟩:=z72 n hn a hs A j l hl K m (k+1) (by omega) (by omega)
   have e1:=zb7 n a.fScopes l k h hl (I5 n a.fScopes l (some 0) m (aC .i64 ((k:Int)+1))) n 0 (by omega) (by omega)
   simp only [aB,aG] at e1
   have e2:=zlg (l:=l) (a:=0) (b:=k) (Nat.zero_le _) (by omega) (fun x84=>bnd (Eb n x84 l[k]) fun x85=>cnd x85 (some (7:Int)) (Ft n A a j l K m (aC .i64 ((k:Int)+1))))
   simp only [aB,aG] at e2
   rw [e1,e2,Gb n l[k] (l.take k) (by simp;omega) (by simp;omega),A4,Ai k (by omega),r1,r2]
   have hr:(decide (0<=l[k]) && decide (l[k]<a.fScopes))=true->0<=l[k]/\l[k]<a.fScopes:=fun h=>by simpa using h
   rw [Ee l k h]
   revert hr
   generalize (decide (0<=l[k]) && decide (l[k]<a.fScopes))=b1
   generalize ((l.take k).any fun y=>decide (l[k]=y))=b4
   intro hr
   cases b1 with
   |false=>exact ⟨2,by simp [Am],by simp [Am],fun h=>by cases h⟩
   |true=>cases b4 with
    |true=>exact ⟨7,by simp [Am],by simp [Am],fun h=>by cases h⟩
    |false =>
     refine ⟨r,by simp [Am],by simp [Am],fun h y hy=>?_⟩
     grind
  ·have hlt:¬((k:Nat):Int)<((l.length:Nat):Int):=by omega
   simp only [hlt,if_false]
   grind
theorem zf6 (n:Nat)(x:Ed)(a:Aut)(hl:x.fLimits.length<=1100000)(K K':List Int->Option Int)(r:Option Int)(h1:K (x.fLimits.map (·.fScope))=r):∀ (m k:Nat) (acc:List Int),k<=x.fLimits.length->x.fLimits.length<m+k->acc=(x.fLimits.take k).map (·.fScope)->L5 n x a K m ((k:Int),acc)=r
 |0,k,acc,h2,h3,_=>by omega
 |m+1,k,acc,h2,h3,h4=>by
  unfold L5
  simp only [aA,A6]
  by_cases h:k<x.fLimits.length
  ·rw [if_pos (by omega),Al h,C8 (by subst h4;simp;omega) (by omega),Ai k (by omega)]
   exact zf6 n x a hl K K' r h1 m (k+1) _ (by omega) (by omega) (by subst h4;rw [aE h,map_append];rfl)
  grind
theorem Zr (n:Nat)(l:List C0)(hl:l.length<=1100000):∀ (m k:Nat) (acc:List Int),k<=l.length->l.length<m+k->acc=(l.take k).map (·.fScope)->Lu n l (fun y=>some y) m ((k:Int),acc)=some (l.map (·.fScope))
 |0,k,acc,h2,h3,_=>by omega
 |m+1,k,acc,h2,h3,h4=>by
  unfold Lu
  simp only [aA,A6]
  by_cases h:k<l.length
  ·rw [if_pos (by omega),Al h,C8 (by subst h4;simp;omega) (by omega),Ai k (by omega)]
   exact Zr n l hl m (k+1) _ (by omega) (by omega) (by subst h4;rw [aE h,map_append];rfl)
  grind
theorem zi9 (n:Nat)(hn:10000000<n)(l:List C0)(hl:l.length<=1100000):M9 n l=some (l.map (·.fScope)):=by
 unfold M9
 exact Zr n l hl n 0 [] (by omega) (by omega) (by simp)
theorem zb8 (n:Nat)(x:Ed)(hl:x.fLimits.length<=1100000):∀ (m k:Nat),k<=x.fLimits.length->x.fLimits.length<m+k->Ib n x (some 0) m (k:Int)=some (if (x.fLimits.drop k).any (fun l=>decide (l.fSpan<0) || decide (1099511627776<l.fSpan))=true then 2 else 0)
 |0,k,h1,h2=>by omega
 |m+1,k,h1,h2=>by
  unfold Ib
  simp only [aA,A6,Qv,A4]
  by_cases h:k<x.fLimits.length
  ·rw [if_pos (by omega),Al h,Ee _ k h,any_cons,Ai k (by omega),zb8 n x hl m (k+1) (by omega) (by omega)]
   generalize (decide (x.fLimits[k].fSpan<0) || decide (1099511627776<x.fLimits[k].fSpan))=b
   cases b<;>simp [Am]
  grind
theorem zml (n:Nat)(hn:10000000<n)(a:Aut)(hs:0<=a.fScopes/\a.fScopes<=64)(x:Ed)(hx:WfX x):∃ r:Int,Lv n a x=some r /\
  (bnd (M9 n x.fLimits) fun x46=>bnd (Pm n a ([x.fOpens,x.fCloses,x.fInside,x46])) fun x47=>if x47=0 then (bnd (Kz n x.fLimits) fun x48=>cnd x48 (some (2:Int)) (some 0)) else some x47)=some r/\(r=0->∀ y∈x.fOpens,0<=y/\y<a.fScopes):=by
 have hsp:=zb8 n x hx.ll n 0 (by omega) (by have:=hx.ll;omega)
 simp only [aB,aG] at hsp
 rw [zi9 n hn x.fLimits hx.ll,A4]
 have hcs:=z92 n (fun l=>decide (l.fSpan<0) || decide (1099511627776<l.fSpan)) x.fLimits (by have:=hx.ll;omega) (by have:=hx.ll;omega) (fun y _=>by
  unfold Hg
  simp only [Ax,Ae,H8,A6]
  grind)
 rw [hcs]
 simp only [A4]
 have hlm:(x.fLimits.map (·.fScope)).length<=1100000:=by rw [aA];exact hx.ll
 generalize hS:x.fLimits.map (·.fScope)=S at *
 generalize (x.fLimits.any fun l=>decide (l.fSpan<0) || decide (1099511627776<l.fSpan))=sp at *
 unfold Pm
 -- the four lists
 have step:∀ (l:List Int),l.length<=1100000->∀ (j:Int) (K:Option Int),∃ r:Int,Ln n l a.fScopes=some r/\Ft n [x.fOpens,x.fCloses,x.fInside,S] a j l K n 0=(if r=0 then K else some r)/\(r=0->∀ y∈l,0<=y/\y<a.fScopes):=fun l hl j K=>by
  have:=z72 n hn a hs [x.fOpens,x.fCloses,x.fInside,S] j l hl K n 0 (by omega) (by omega)
  unfold Ln
  simp_all
 have uq:∀ l:List Int,l.length<=1100000->∃ r:Int,Ln n l a.fScopes=some r/\(∀ (j:Int) (K:Option Int),Ft n [x.fOpens,x.fCloses,x.fInside,S] a j l K n 0=if r=0 then K else some r)/\(r=0->∀ y∈l,0<=y/\y<a.fScopes):=fun l hl=>by
  obtain ⟨r,r1,_,r3⟩:=step l hl 0 none
  refine ⟨r,r1,fun j K=>?_,r3⟩
  obtain ⟨r',r1',r2',_⟩:=step l hl j K
  simp_all
 obtain ⟨u1,a1,b1,d1⟩:=uq x.fOpens hx.lo
 obtain ⟨u2,a2,b2,_⟩:=uq x.fCloses hx.lcl
 obtain ⟨u3,a3,b3,_⟩:=uq x.fInside hx.li
 obtain ⟨u4,a4,b4,_⟩:=uq S hlm
 have w0:aC .i64 ((0:Int)+1)=1:=by decide
 have w1:aC .i64 ((1:Int)+1)=2:=by decide
 have w2:aC .i64 ((2:Int)+1)=3:=by decide
 have w3:aC .i64 ((3:Int)+1)=4:=by decide
 have i0:∀ K:List Int->Option Int,idx ([x.fOpens,x.fCloses,x.fInside,S]:List (List Int)) 0 K=K x.fOpens:=fun K=>by have:=Al (l:=[x.fOpens,x.fCloses,x.fInside,S]) (i:=0) (by simp) K;simpa using this
 have i1:∀ K:List Int->Option Int,idx ([x.fOpens,x.fCloses,x.fInside,S]:List (List Int)) 1 K=K x.fCloses:=fun K=>by have:=Al (l:=[x.fOpens,x.fCloses,x.fInside,S]) (i:=1) (by simp) K;simpa using this
 have i2:∀ K:List Int->Option Int,idx ([x.fOpens,x.fCloses,x.fInside,S]:List (List Int)) 2 K=K x.fInside:=fun K=>by have:=Al (l:=[x.fOpens,x.fCloses,x.fInside,S]) (i:=2) (by simp) K;simpa using this
 have i3:∀ K:List Int->Option Int,idx ([x.fOpens,x.fCloses,x.fInside,S]:List (List Int)) 3 K=K S:=fun K=>by have:=Al (l:=[x.fOpens,x.fCloses,x.fInside,S]) (i:=3) (by simp) K;simpa using this
 have hm:∃ m,n=m+1+1+1+1+1:=⟨n-5,by omega⟩
 have rl:∀ K:Option Int,Fh n x a S K n 0=if u1=0 then (if u2=0 then (if u3=0 then (if u4=0 then K else some u4) else some u3) else some u2) else some u1:=fun K=>by
  obtain ⟨m,hm⟩:=hm
  conv=>lhs;rw [show Fh n x a S K n 0=Fh n x a S K (m+1+1+1+1+1) 0 by rw [<-hm]]
  simp only [Fh,A6,Az,i0,i1,i2,i3,w0,w1,w2,w3,a1,a2,a3,a4,A4]
  simp
 have pl:∀ K:Option Int,H6 n [x.fOpens,x.fCloses,x.fInside,S] a K n 0=if u1=0 then (if u2=0 then (if u3=0 then (if u4=0 then K else some u4) else some u3) else some u2) else some u1:=fun K=>by
  obtain ⟨m,hm⟩:=hm
  conv=>lhs;rw [show H6 n [x.fOpens,x.fCloses,x.fInside,S] a K n 0=H6 n [x.fOpens,x.fCloses,x.fInside,S] a K (m+1+1+1+1+1) 0 by rw [<-hm]]
  simp only [H6,A6,i0,i1,i2,i3,w0,w1,w2,w3,aA,aK,aS,b1,b2,b3,b4]
  simp
 unfold Lv
 have el:=zf6 n x a hx.ll (fun k1_0_0y=>frz 7026 <| reg <| Fh n x a k1_0_0y (Ib n x (some 0) n 0) n 0) (fun _=>none) _ rfl n 0 [] (by omega) (by have:=hx.ll;omega) (by simp)
 simp only [aB] at el
 rw [el,hS,Ya,Ae,rl,hsp,pl]
 by_cases q1:u1=0
 rotate_left
 ·exact ⟨u1,by simp [q1],by simp [q1,A4],fun h=>absurd h q1⟩
 by_cases q2:u2=0
 rotate_left
 ·exact ⟨u2,by simp [q1,q2],by simp [q1,q2,A4],fun h=>absurd h q2⟩
 by_cases q3:u3=0
 rotate_left
 ·exact ⟨u3,by simp [q1,q2,q3],by simp [q1,q2,q3,A4],fun h=>absurd h q3⟩
 by_cases q4:u4=0
 rotate_left
 ·exact ⟨u4,by simp [q1,q2,q3,q4],by simp [q1,q2,q3,q4,A4],fun h=>absurd h q4⟩
 cases sp with
 |true=>exact ⟨2,by simp [q1,q2,q3,q4],by simp [q1,q2,q3,q4,A4,Am],fun h=>by cases h⟩
 |false=>exact ⟨0,by simp [q1,q2,q3,q4],by simp [q1,q2,q3,q4,A4,Am],fun _=>d1 q1⟩
theorem z75 (n:Nat)(hn:10000000<n)(x:Ed)(a:Aut)(ys:List Exn)(hy:x.fChecks=ys.map Ah)(hw:∀ y∈ys,WfE y)(hl:ys.length<=1100000)(P:Prop)(K K':Option Int)(hK:∃ r:Int,K=some r/\K'=some r/\(r=0->P)):∀ (m k:Nat),k<=ys.length->ys.length<m+k->∃ r:Int,Lg n x a K m (k:Int)=some r/\G1 n x a K' m (k:Int)=some r/\(r=0->P)
 |0,k,h1,h2=>by omega
 |m+1,k,h1,h2=>by
  unfold Lg G1
  simp only [hy,aA,A6,Az]
  by_cases h:k<ys.length
  ·have hlt:((k:Nat):Int)<((ys.length:Nat):Int):=by omega
   simp only [hlt,if_true]
   have hi:∀ (Q:Exn->Option Int),idxD Bs (ys.map Ah) (k:Int) Q=Q ys[k]:=fun Q=>by
    have:=Ge (l:=ys.map fun y=>(0,y)) (k:=k) (by simpa using h) Q
    simp only [map_map,getElem_map] at this
    exact this
   rw [hi,hi]
   obtain ⟨c,c1,c2⟩:=(hw _ (aF h)).check n hn
   obtain ⟨r,r1,r2,r3⟩:=z75 n hn x a ys hy hw hl P K K' hK m (k+1) (by omega) (by omega)
   rw [c1,c2,A4,A4,Ai k (by omega),r1,r2]
   grind
  grind
structure EdOk (a:Aut) (x:Ed):Prop where
 frm:0<=x.fFrom/\x.fFrom<a.fStates.length
 tgt:-1<=x.fTo/\x.fTo<a.fStates.length
 var:0<=x.fVar/\x.fVar<a.fVars
 opn:∀ y∈x.fOpens,0<=y/\y<a.fScopes
theorem zog (n:Nat)(hn:10000000<n)(a:Aut)(hs:0<=a.fScopes/\a.fScopes<=64)(hv:0<=a.fVars/\a.fVars<=16)(hst:1<=a.fStates.length/\a.fStates.length<=256)(x:Ed)(hx:WfX x)(before:Int):∃ r:Int,Oz n a x before=some r/\Hj n a x before=some r/\(r=0->EdOk a x):=by
 unfold Oz Hj
 simp only [aA,A6,Az,Ax,Ae,Qv,Qg,A4]
 have wS:aC .i64 (((a.fStates.length:Nat):Int)-1)=((a.fStates.length:Nat):Int)-1:=D8 _ (by omega)
 have wV:aC .i64 (a.fVars-1)=a.fVars-1:=D8 _ (by omega)
 have e16:∀ x:Int,(decide (x<0) || decide (15<x))=!(decide (0<=x) && decide (x<16)):=fun x=>Qb x 16
 simp only [wS,wV,Qb,e16]
 have tailE:∃ r:Int,D2 n before x a false=some r/\Cn n before x a false=some r/\(r=0->∀ y∈x.fOpens,0<=y/\y<a.fScopes):=by
  unfold D2 Cn
  simp only [aA,A6,Az,Ag]
  by_cases hb:x.fFrom<before
  ·simp_all
  simp only [hb,if_false]
  obtain ⟨c,c1,c2⟩:=hx.cond.check n hn
  rw [c1,c2,A4,A4]
  by_cases hc:c=0
  rotate_left
  ·simp_all
  simp only [hc,if_true]
  by_cases h64:64<((x.fChecks.length:Nat):Int)
  ·simp_all
  simp only [h64,if_false]
  obtain ⟨ys,hy,hw⟩:=hx.checks
  obtain ⟨r,r1,r2,r3⟩:=zml n hn a hs x hx
  have hyl:ys.length<=1100000:=by have:=hx.lc;rw [hy,aA] at this;exact this
  have:=z75 n hn x a ys hy hw hyl (∀ y∈x.fOpens,0<=y/\y<a.fScopes) (bnd (Lv n a x) fun x49=>some x49) _ ⟨r,by rw [r1,A4],r2,r3⟩ n 0 (by omega) (by omega)
  simpa only [aB] using this
 have e2:D2 n before x a true=some 2/\Cn n before x a true=some 2:=by
  unfold D2 Cn
  exact ⟨Af _ _,Af _ _⟩
 obtain ⟨r,r1,r2,r3⟩:=tailE
 rw [e2.1,e2.2]
 by_cases h1:0<=x.fFrom/\x.fFrom<((a.fStates.length:Nat):Int)
 rotate_left
 ·have:(decide (0<=x.fFrom) && decide (x.fFrom<((a.fStates.length:Nat):Int)))=false:=by
   rw [aM,decide_eq_false_iff_not,decide_eq_false_iff_not];omega
  exact ⟨2,by simp [this,Am],by simp [this,Am],fun h=>by cases h⟩
 have b1:(decide (0<=x.fFrom) && decide (x.fFrom<((a.fStates.length:Nat):Int)))=true:=by simp [h1.1];omega
 by_cases h2:-1<=x.fTo/\x.fTo<((a.fStates.length:Nat):Int)
 rotate_left
 ·have q1:¬x.fTo=-1:=by omega
  have q2:(decide (0<=x.fTo) && decide (x.fTo<((a.fStates.length:Nat):Int)))=false:=by
   rw [aM,decide_eq_false_iff_not,decide_eq_false_iff_not];omega
  refine ⟨2,by simp [b1,q1,q2,Am],?_,fun h=>by cases h⟩
  by_cases q3:x.fTo < -1
  ·simp [b1,q3,Am]
  ·have q4:((a.fStates.length:Nat):Int)<=x.fTo:=by omega
   simp [b1,q3,q4,Am]
 have n1:¬x.fTo < -1:=by omega
 have n2:¬((a.fStates.length:Nat):Int)<=x.fTo:=by omega
 have ok:(decide (0<=x.fVar) && decide (x.fVar<a.fVars))=true->r=0->EdOk a x:=fun h hr=>by
  simp only [Bool.and_eq_true,decide_eq_true_eq] at h
  exact ⟨⟨h1.1,h1.2⟩,⟨h2.1,h2.2⟩,h,r3 hr⟩
 have b2:¬x.fTo=-1->(decide (0<=x.fTo) && decide (x.fTo<((a.fStates.length:Nat):Int)))=true:=fun h=>by grind
 revert ok
 generalize (decide (0<=x.fVar) && decide (x.fVar<a.fVars))=b3
 generalize (decide (0<=x.fType) && decide (x.fType<16))=b4
 intro ok
 simp only [b1,n1,n2,if_false,Af,aU]
 cases b3 with
 |false =>
  refine ⟨2,?_,by simp [Am],fun h=>by cases h⟩
  by_cases q:x.fTo=-1
  ·simp [q,Am]
  ·simp [q,b2 q,Am]
 |true =>
  cases b4 with
  |false =>
   refine ⟨2,?_,by simp [Am,e2.2],fun h=>by cases h⟩
   by_cases q:x.fTo=-1
   ·simp [q,Am,e2.1]
   ·simp [q,b2 q,Am,e2.1]
  |true =>
   refine ⟨r,?_,by simp [Am,r2],fun q=>ok rfl q⟩
   by_cases q:x.fTo=-1
   ·simp [q,Am,r1]
   ·simp [q,b2 q,Am,r1]
theorem z90 (n:Nat)(hn:10000000<n)(a:Aut)(hs:0<=a.fScopes/\a.fScopes<=64)(hv:0<=a.fVars/\a.fVars<=16)(hst:1<=a.fStates.length/\a.fStates.length<=256)(hw:WfA a):∀ (m k:Nat) (before:Int),k<=a.fEdges.length->a.fEdges.length<m+k->(∀ x∈a.fEdges.take k,EdOk a x)->∃ r:Int,L6 n a (some 0) m (before,(k:Int))=some r/\Fv n a (some 0) m (before,(k:Int))=some r/\(r=0->∀ x∈a.fEdges,EdOk a x)
 |0,k,before,h1,h2,_=>by omega
 |m+1,k,before,h1,h2,h3=>by
  have hle:=hw.le
  unfold L6 Fv
  simp only [aA,A6,Az]
  by_cases h:k<a.fEdges.length
  ·have hlt:((k:Nat):Int)<((a.fEdges.length:Nat):Int):=by omega
   simp only [hlt,if_true,Al h]
   obtain ⟨c,c1,c2,c3⟩:=zog n hn a hs hv hst _ (hw.ed _ (aF h)) before
   rw [c1,c2,A4,A4,Ai k (by omega)]
   by_cases hc:c=0
   ·simp only [hc,if_true]
    refine z90 n hn a hs hv hst hw m (k+1) _ (by omega) (by omega) (fun x hx=>?_)
    rw [aE h,aT,aP] at hx
    grind
   ·exact ⟨c,by simp [hc],by simp [hc],fun q=>absurd q hc⟩
  ·have hlt:¬((k:Nat):Int)<((a.fEdges.length:Nat):Int):=by omega
   simp only [hlt,if_false]
   grind
theorem z71 (n:Nat)(hn:10000000<n)(a:Aut)(hs:0<=a.fScopes/\a.fScopes<=64)(hv:0<=a.fVars/\a.fVars<=16)(hw:WfA a)(K K':Option Int)(P:Prop)(hK:∃ r:Int,K=some r/\K'=some r/\(r=0->P)):∀ (m k:Nat),k<=a.fStates.length->a.fStates.length<m+k->∃ r:Int,L7 n a K m (k:Int)=some r/\Fw n a K' m (k:Int)=some r/\(r=0->P)
 |0,k,h1,h2=>by omega
 |m+1,k,h1,h2=>by
  have hls:=hw.ls
  unfold L7 Fw
  simp only [aA,A6,Az]
  by_cases h:k<a.fStates.length
  ·have hlt:((k:Nat):Int)<((a.fStates.length:Nat):Int):=by omega
   simp only [hlt,if_true,Al h]
   obtain ⟨g1,g2⟩:=hw.st _ (aF h)
   obtain ⟨c,c1,c2⟩:=zkd n hn a hs hv _ g1 g2
   rw [c1,c2,A4,A4,Ai k (by omega)]
   by_cases hc:c=0
   ·simp only [hc,if_true]
    exact z71 n hn a hs hv hw K K' P hK m (k+1) (by omega) (by omega)
   simp_all
  grind
structure AOk (a:Aut):Prop where
 vars:0<=a.fVars/\a.fVars<=16
 st:1<=a.fStates.length/\a.fStates.length<=256
 ed:∀ x∈a.fEdges,EdOk a x
theorem zkg (n:Nat)(hn:10000000<n)(a:Aut)(hw:WfA a):∃ r:Int,Es n a=some r/\Bz n a=some r/\(r=0->AOk a):=by
 have hls:=hw.ls
 have hle:=hw.le
 unfold Es Bz
 simp only [Ax,Ae,Qv,A4,A6]
 have e2:Fi n a true=some 2/\D6 n a true=some 2:=by
  unfold Fi D6
  exact ⟨Af _ _,Af _ _⟩
 rw [e2.1,e2.2]
 by_cases hv:0<=a.fVars/\a.fVars<=16
 rotate_left
 ·refine ⟨2,?_,?_,fun h=>by cases h⟩
  ·have:(decide (a.fVars<0) || decide (16<a.fVars))=true:=by
    rw [aJ,decide_eq_true_eq,decide_eq_true_eq];omega
   rw [this,Af]
  simp_all
 have q1:¬a.fVars<0:=by omega
 have q2:¬16<a.fVars:=by omega
 by_cases hs:0<=a.fScopes/\a.fScopes<=64
 rotate_left
 ·have:(decide (a.fScopes<0) || decide (64<a.fScopes))=true:=by
   rw [aJ,decide_eq_true_eq,decide_eq_true_eq];omega
  refine ⟨2,by simp [q1,q2,this,Am,e2.1],?_,fun h=>by cases h⟩
  simp_all
 have q3:¬a.fScopes<0:=by omega
 have q4:¬64<a.fScopes:=by omega
 simp only [q1,q2,q3,q4,if_false,decide_false,Bool.or_false,Ag]
 unfold Fi D6
 simp only [Ax,Ae,aA,A6,Ag]
 have e5:Em n a true=some 5/\D5 n a true=some 5:=by
  unfold Em D5
  exact ⟨Af _ _,Af _ _⟩
 rw [e5.1,e5.2]
 by_cases h1:((a.fStates.length:Nat):Int)<1
 ·simp_all
 by_cases h2:256<((a.fStates.length:Nat):Int)
 ·simp_all
 simp only [h1,h2,if_false]
 by_cases h3:2048<((a.fEdges.length:Nat):Int)
 ·simp_all
 simp only [h3,decide_false]
 unfold Em D5
 simp only [Ag]
 have hst:1<=a.fStates.length/\a.fStates.length<=256:=by omega
 obtain ⟨r,r1,r2,r3⟩:=z90 n hn a hs hv hst hw n 0 0 (by omega) (by omega) (by simp)
 have:=z71 n hn a hs hv hw _ _ (AOk a) ⟨r,r1,r2,fun h=>⟨hv,hst,r3 h⟩⟩ n 0 (by omega) (by omega)
 omega
abbrev T16:=Bool×Bool×Bool×Bool×Bool×Bool×Bool×Bool×Bool×Bool×Bool×Bool×Bool×Bool×Bool×Bool
def l16 (t:T16):List Bool:=[t.1,t.2.1,t.2.2.1,t.2.2.2.1,t.2.2.2.2.1,t.2.2.2.2.2.1,t.2.2.2.2.2.2.1,t.2.2.2.2.2.2.2.1,t.2.2.2.2.2.2.2.2.1,t.2.2.2.2.2.2.2.2.2.1,t.2.2.2.2.2.2.2.2.2.2.1,t.2.2.2.2.2.2.2.2.2.2.2.1,t.2.2.2.2.2.2.2.2.2.2.2.2.1,t.2.2.2.2.2.2.2.2.2.2.2.2.2.1,t.2.2.2.2.2.2.2.2.2.2.2.2.2.2.1,t.2.2.2.2.2.2.2.2.2.2.2.2.2.2.2]
theorem Fb (t:T16):(l16 t).length=16:=rfl
def own1 (i:Nat)(e:Exn):Prop:=usV e.fOp=true/\e.fVar=(i:Int)
theorem zo9 (n:Nat)(e:Exn)(t:T16):∃ t':T16,Pj n e t=some (0,t')/\∀ i,i<16->((l16 t')[i]? = some true ↔ (l16 t)[i]? = some true\/own1 i e):=by
 unfold Pj
 rw [zlj,A4]
 simp only [A6,K8]
 by_cases hu:usV e.fOp=true
 rotate_left
 ·have hu':usV e.fOp=false:=by cases h:usV e.fOp<;>simp_all
  rw [hu',Ag]
  exact ⟨t,rfl,fun i _=>⟨aN,fun h=>h.elim id (fun h=>absurd h.1 hu)⟩⟩
 rw [hu,Af]
 have hno:¬(0<=e.fVar/\e.fVar<16)->∀ i,i<16->((l16 t)[i]? = some true ↔ (l16 t)[i]? = some true\/own1 i e):=fun h i hi=>⟨aN,fun h'=>h'.elim id (fun h'=>absurd h'.2 (by omega))⟩
 by_cases h0:0<=e.fVar
 rotate_left
 ·rw [if_neg h0];simp_all
 rw [if_pos h0]
 by_cases h1:e.fVar<16
 rotate_left
 ·rw [if_neg h1];simp_all
 rw [if_pos h1]
 have key:∀ (j:Nat) (t':T16),e.fVar=(j:Int)->j<16->l16 t'=(l16 t).set j true->∀ i,i<16->((l16 t')[i]? = some true ↔ (l16 t)[i]? = some true\/own1 i e):=fun j t' hj hlt hs i hi=>by
  rw [hs,getElem?_set]
  unfold own1
  by_cases hij:j=i
  ·subst hij
   simp [Fb,hlt,hu,hj]
  grind
 have:e.fVar=0\/e.fVar=1\/e.fVar=2\/e.fVar=3\/e.fVar=4\/e.fVar=5\/e.fVar=6\/e.fVar=7\/e.fVar=8\/e.fVar=9\/e.fVar=10\/e.fVar=11\/e.fVar=12\/e.fVar=13\/e.fVar=14\/e.fVar=15:=by omega
 rcases this with h|h|h|h|h|h|h|h|h|h|h|h|h|h|h|h
 ·rw [h];exact ⟨_,rfl,key 0 _ h (by decide) rfl⟩
 ·rw [h];exact ⟨_,rfl,key 1 _ h (by decide) rfl⟩
 ·rw [h];exact ⟨_,rfl,key 2 _ h (by decide) rfl⟩
 ·rw [h];exact ⟨_,rfl,key 3 _ h (by decide) rfl⟩
 ·rw [h];exact ⟨_,rfl,key 4 _ h (by decide) rfl⟩
 ·rw [h];exact ⟨_,rfl,key 5 _ h (by decide) rfl⟩
 ·rw [h];exact ⟨_,rfl,key 6 _ h (by decide) rfl⟩
 ·rw [h];exact ⟨_,rfl,key 7 _ h (by decide) rfl⟩
 ·rw [h];exact ⟨_,rfl,key 8 _ h (by decide) rfl⟩
 ·rw [h];exact ⟨_,rfl,key 9 _ h (by decide) rfl⟩
 ·rw [h];exact ⟨_,rfl,key 10 _ h (by decide) rfl⟩
 ·rw [h];exact ⟨_,rfl,key 11 _ h (by decide) rfl⟩
 ·rw [h];exact ⟨_,rfl,key 12 _ h (by decide) rfl⟩
 ·rw [h];exact ⟨_,rfl,key 13 _ h (by decide) rfl⟩
 ·rw [h];exact ⟨_,rfl,key 14 _ h (by decide) rfl⟩
 ·rw [h];exact ⟨_,rfl,key 15 _ h (by decide) rfl⟩
theorem zpr {x y:Exn}(h:Ah x=Ah y):x=y:=by
 have:=congrArg Bs h
 rw [Pw,Pw] at this
 exact Option.some.inj this
theorem zmu {l:List (Nat×Exn)}(ha:e.fArgs=l.map (fun p=>Ah p.2)):Occ i e ↔ own1 i e\/∃ p∈l,Occ i p.2:=by
 constructor
 ·intro h
  cases h with
  |here _ h hv=>exact aN ⟨h,hv⟩
  |sub _ y hy h =>
   rw [ha] at hy
   obtain ⟨p,hp,hpe⟩:=aW.1 hy
   exact aQ ⟨p,hp,by rw [zpr hpe];exact h⟩
 ·rintro (h|⟨p,hp,h⟩)
  ·exact .here _ h.1 h.2
  ·exact .sub _ p.2 (by grind) h
theorem z70 (n:Nat)(l:List (Nat×Exn))(e:Exn)(ha:e.fArgs=l.map (fun p=>Ah p.2))(hl:l.length<=4000000)
  (ih:∀ p∈l,∀ t:T16,∃ t':T16,Hi n p.2 t=some (0,t')/\∀ i,i<16->((l16 t')[i]? = some true ↔ (l16 t)[i]? = some true\/Occ i p.2)) (t0:T16) :
  ∀ (m k:Nat) (t:T16),k<=l.length->l.length<m+k->(∀ i,i<16->((l16 t)[i]? = some true ↔ (l16 t0)[i]? = some true\/own1 i e\/∃ p∈l.take k,Occ i p.2)) ->
   ∃ t':T16,M3 n (Hi n) e (fun k1_0_0y0 k1_0_0y1 k1_0_0y2 k1_0_0y3 k1_0_0y4 k1_0_0y5 k1_0_0y6 k1_0_0y7 k1_0_0y8 k1_0_0y9 k1_0_0y10 k1_0_0y11 k1_0_0y12 k1_0_0y13 k1_0_0y14 k1_0_0y15=>some (0,(k1_0_0y0,k1_0_0y1,k1_0_0y2,k1_0_0y3,k1_0_0y4,k1_0_0y5,k1_0_0y6,k1_0_0y7,k1_0_0y8,k1_0_0y9,k1_0_0y10,k1_0_0y11,k1_0_0y12,k1_0_0y13,k1_0_0y14,k1_0_0y15))) m ((k:Int),t)=some (0,t')/\∀ i,i<16->((l16 t')[i]? = some true ↔ (l16 t0)[i]? = some true\/own1 i e\/∃ p∈l,Occ i p.2)
 |0,k,t,h1,h2,_=>by omega
 |m+1,k,t,h1,h2,h3=>by
  unfold M3
  simp only [ha,aA,A6,Az]
  by_cases h:k<l.length
  ·rw [if_pos (by omega),Ge h]
   obtain ⟨t',q1,q2⟩:=ih l[k] (aF h) t
   rw [q1,Dx,if_pos rfl,Ai k (by omega)]
   refine z70 n l e ha hl ih t0 m (k+1) t' (by omega) (by omega) (fun i hi=>?_)
   rw [q2 i hi,h3 i hi,aE h]
   simp only [aT,aP]
   grind
  ·rw [if_neg (by omega)]
   grind
theorem zka:∀ (s:Nat) (e:Exn),ETr s e->s<=4000000->∀ n,s+1<n->∀ t:T16,∃ t':T16,Hi n e t=some (0,t')/\∀ i,i<16->((l16 t')[i]? = some true ↔ (l16 t)[i]? = some true\/Occ i e):=by
 intro s
 induction s using Nat.strongRecOn with
 |ind s IH =>
  intro e ht hs n hn t
  cases ht with
  |mk l e h ha =>
   obtain ⟨n',rfl⟩:∃ n',n=n' + 1:=⟨n-1,by omega⟩
   have hl:=Nc (l:=l) (fun p hp=>(h p hp).pos)
   simp only [Hi]
   obtain ⟨t1,q1,q2⟩:=zo9 n' e t
   rw [q1,Dx,Az,A6,if_pos rfl]
   obtain ⟨t',r1,r2⟩:=z70 n' l e ha (by omega) (fun p hp t=>by
    have:=Ho hp
    exact IH p.1 (by omega) p.2 (h p hp) (by omega) n' (by omega) t) t n' 0 t1 (by omega) (by omega) (fun i hi=>by
     rw [q2 i hi];simp)
   exact ⟨t',r1,fun i hi=>by rw [r2 i hi,zmu ha]⟩
def Ej (t:T16)(k:Nat):List Int:=((l16 t).zipIdx.drop k).filterMap (fun p=>if p.1 then some (p.2:Int) else none)
theorem zkv (t:T16)(k:Nat)(h:k<16):Ej t k=(if (l16 t)[k]'(by rw [Fb];exact h)=true then [(k:Int)] else [])++Ej t (k+1):=by
 unfold Ej
 have hk:k<(l16 t).zipIdx.length:=by rw [aH,Fb];exact h
 rw [drop_eq_getElem_cons hk,filterMap_cons]
 grind
theorem Wu (n:Nat)(t:T16)(K:List Int->Option (List Int)):∀ (m k:Nat) (out:List Int),k<=16->16<m+k->out.length<=k->B7 n (0,t) K m ((k:Int),out)=K (out++Ej t k)
 |0,k,out,h1,h2,_=>by omega
 |m+1,k,out,h1,h2,h3=>by
  by_cases h:k=16
  ·subst h
   unfold B7
   simp only [A6]
   rw [if_neg (by omega)]
   have:Ej t 16=[]:=by unfold Ej;rw [aD (by rw [aH,Fb];omega)];rfl
   rw [this,append_nil]
  ·have hk:k<16:=by omega
   have iha:=Wu n t K m (k+1) (out++[(k:Int)]) (by omega) (by omega) (by simp;omega)
   have ihb:=Wu n t K m (k+1) out (by omega) (by omega) (by omega)
   rw [zkv t k hk]
   have step:∀ (b:Bool),(l16 t)[k]'(by rw [Fb];exact hk)=b->reg (cnd b (app out [(k:Int)] 8 fun x=>B7 n (0,t) K m ((aC .i64 ((k:Int)+1)),x)) (B7 n (0,t) K m ((aC .i64 ((k:Int)+1)),out)))=K (out++((if (l16 t)[k]'(by rw [Fb];exact hk)=true then [(k:Int)] else [])++Ej t (k+1))):=fun b hb=>by
    rw [hb,Ae,C8 (by simp;omega) (by omega),Ai k (by omega),iha,ihb]
    cases b
    ·rw [Ag];simp
    ·rw [Af];simp
   unfold B7
   simp only [A6,K8]
   have:k=0\/k=1\/k=2\/k=3\/k=4\/k=5\/k=6\/k=7\/k=8\/k=9\/k=10\/k=11\/k=12\/k=13\/k=14\/k=15:=by omega
   rcases this with rfl|rfl|rfl|rfl|rfl|rfl|rfl|rfl|rfl|rfl|rfl|rfl|rfl|rfl|rfl|rfl<;>exact step _ rfl
theorem zn3 (t:T16)(k:Nat)(v:Int):v∈Ej t k ↔ ∃ i:Nat,k<=i/\i<16/\v=(i:Int)/\(l16 t)[i]? = some true:=by
 unfold Ej
 rw [mem_filterMap]
 constructor
 ·rintro ⟨⟨b,i⟩,hm,hv⟩
  obtain ⟨j,hj,he⟩:=mem_iff_getElem.1 hm
  rw [getElem_drop,getElem_zipIdx] at he
  injection he with e1 e2
  rw [aR,aH,Fb] at hj
  grind
 ·rintro ⟨i,h1,h2,rfl,h3⟩
  refine ⟨(true,i),?_,by simp⟩
  refine mem_iff_getElem.2 ⟨i-k,by rw [aR,aH,Fb];omega,?_⟩
  grind
theorem zdx (hw:WfE e)(n:Nat)(hn:10000000<n):∃ vs:List Int,Pu n e=some vs/\vs.length<=16/\∀ v,v∈vs ↔ ∃ i:Nat,i<16/\v=(i:Int)/\Occ i e:=by
 obtain ⟨z,hz,ht⟩:=hw
 obtain ⟨t,q1,q2⟩:=zka z e ht hz n (by omega) (false,false,false,false,false,false,false,false,false,false,false,false,false,false,false,false)
 have hf:∀ i:Nat,¬(l16 (false,false,false,false,false,false,false,false,false,false,false,false,false,false,false,false))[i]? = some true:=fun i h=>by
  obtain ⟨hi,h⟩:=List.getElem?_eq_some_iff.1 h
  rw [Fb] at hi
  have:i=0\/i=1\/i=2\/i=3\/i=4\/i=5\/i=6\/i=7\/i=8\/i=9\/i=10\/i=11\/i=12\/i=13\/i=14\/i=15:=by omega
  rcases this with rfl|rfl|rfl|rfl|rfl|rfl|rfl|rfl|rfl|rfl|rfl|rfl|rfl|rfl|rfl|rfl<;>cases h
 refine ⟨Ej t 0,?_,?_,fun v=>?_⟩
 ·unfold Pu
  rw [q1,Dx]
  have:=Wu n t (fun y=>some y) n 0 [] (by omega) (by omega) (by simp)
  simpa using this
 ·unfold Ej
  refine Nat.le_trans (length_filterMap_le _ _) ?_
  rw [aR,aH,Fb]
  omega
 ·rw [zn3]
  grind
theorem Ui (i:Nat)(x:Option β):frb i x=x:=by unfold frb;rfl
def K7 (e:Ev):Bool:=decide (0<=e.fTime) && (decide (e.fTime<=1099511627776) && (decide (0<=e.fSource) && (decide (e.fSource<8) && (decide (0<=e.fSeq) && decide (e.fSeq<=1099511627776)))))
def idt (e:Ev):Jg:=⟨e.fSource,e.fSeq⟩
def Fd (e:Ev):Dy:=⟨e.fTime,e.fSource,e.fSeq⟩
def Ct (a b:Ev):Int:=rCmp (Fd a) (Fd b)
def zlu:List Ev->Ev->Bool
 |[],_=>false
 |x::_,e=>decide (0<=Ct x e)
def chk:List Ev->List Ev->Int
 |_,[]=>0
 |p,e::r=>if K7 e=false then 2 else if zlu p e=true then 14 else if p.any (fun x=>decide (idt x=idt e)) then 7 else chk (e::p) r
def Y3 (l:List Ev):Int:=if 4096<l.length then 5 else chk [] l
def Yg (m:List (Jg×Bool))(p:List Ev):Prop:=∀ k,(mlk m k).getD false=p.any (fun x=>decide (idt x=k))
variable {κ ν:Type}
theorem zfj [DecidableEq κ](l:List (κ×ν))(k:κ)(v:ν)(k':κ):mlk (mput l k v) k'=if k'=k then some v else mlk l k':=by
 induction l with
 |nil=>simp [mput,mlk]
 |cons a r ih =>
  obtain ⟨a,x⟩:=a
  simp only [mput]
  by_cases h:k=a
  ·subst h
   rw [if_pos rfl]
   simp only [mlk]
   simp_all
  ·rw [if_neg h]
   simp only [mlk,ih]
   grind
theorem Yg.put {m:List (Jg×Bool)}{p:List Ev}(h:Yg m p)(e:Ev):Yg (mput m (idt e) true) (e::p):=fun k=>by
 rw [zfj,any_cons]
 by_cases hk:k=idt e
 ·subst hk;simp
 ·rw [if_neg hk,h k]
  grind
theorem Qq [DecidableEq κ](l:List (κ×ν))(k:κ)(v:ν)(c:List (κ×ν)->Option β):mst l k v c=c (mput l k v):=by unfold mst;rfl
abbrev Rf:=Dy
abbrev N0:Nat:=2000000000
abbrev ev0:Ev:=⟨0,0,0,0,[]⟩
theorem Kb [DecidableEq κ](l:List (κ×ν))(k:κ)(z:ν)(c:ν->Bool->Option β):mgv l k z c=c ((mlk l k).getD z) (mlk l k).isSome:=by unfold mgv;rfl
theorem zg3:∀ (l p:List Ev),chk p l=0->(∀ e∈l,K7 e=true)/\Str Ct l/\(∀ h t,p=h::t->∀ e∈l,Ct h e<0)
 |[],p,_=>⟨by simp,by simp [Str],by simp⟩
 |e::l,p,h=>by
  unfold chk at h
  split at h
  ·cases h
  split at h
  ·cases h
  split at h
  ·cases h
  rename_i h1 h2 h3
  obtain ⟨a1,a2,a3⟩:=zg3 l (e::p) h
  have h4:=a3 e p rfl
  refine ⟨fun x hx=>?_,aL.2 ⟨h4,a2⟩,fun q t hq x hx=>?_⟩
  ·grind
  ·have h5:Ct q e<0:=by
    subst hq
    simp only [zlu] at h2
    simpa using h2
   rcases mem_cons.1 hx with k|k
   ·rw [k];exact h5
   ·exact U8.trans _ _ _ h5 (h4 x k)
structure zpb (l:List Ev):Prop where
 pl:∀ e∈l,K7 e=true
 st:Str Ct l
 ln:l.length<=4096
theorem zdd {l:List Ev}(h:Y3 l=0):zpb l:=by
 unfold Y3 at h
 split at h
 ·cases h
 ·obtain ⟨a,b,_⟩:=zg3 l [] h
  exact ⟨a,b,by omega⟩
def lkH (held:List Ev)(r:Rf):Option Ev:=held.find? (fun e=>decide (Fd e=r))
theorem ziq {held:List Ev}{r:Rf}{e:Ev}(h:lkH held r=some e):Fd e=r/\e∈held:=by
 have h1:=find?_some h
 exact ⟨by simpa using h1,mem_of_find?_eq_some h⟩
theorem zir {held:List Ev}(h:Str Ct held){e:Ev}(he:e∈held):lkH held (Fd e)=some e:=by
 unfold lkH
 induction held with
 |nil=>simp at he
 |cons x l ih =>
  obtain ⟨h1,h2⟩:=aL.1 h
  rw [find?_cons]
  rcases mem_cons.1 he with k|k
  ·rw [k];simp
  ·have:Fd x≠Fd e:=fun q=>U8.lt_ne (h1 e k) q
   simp only [this,decide_false]
   exact ih h2 k
theorem zn2 (a b:List Ev)(r:Rf):lkH (a++b) r=(lkH a r).or (lkH b r):=by unfold lkH;rw [find?_append]
def addB (held:List Ev)(vs:List (List Ev))(b:Bd):List (List Ev):=match lkH held b.fRef with|some e=>(if 0<=b.fVar/\b.fVar.toNat<vs.length then vs.set b.fVar.toNat (vs.getD b.fVar.toNat []++[e]) else vs)|none=>vs
def bndV (held:List Ev)(m:Nat)(l:List Bd):List (List Ev):=l.foldl (addB held) (replicate m [])
def ev1 (held:List Ev)(l:List Bd)(v:Int):List Ev:=l.filterMap (fun b=>if b.fVar=v then lkH held b.fRef else none)
abbrev enH (held:List Ev)(l:List Bd):List (List Ev):=bndV held 16 l
def BdOk (held:List Ev)(x:Int)(l:List Bd):Prop:=∀ b∈l,(0<=b.fVar/\b.fVar<x)/\(lkH held b.fRef).isSome=true
def trR (a:List (List Ev))(e:Exn)(own:Int)(ev:Ev):Bool:=(Vl N0 e ⟨a⟩ own ev).getD false
def vio (a:List (List Ev))(e:Ev)(g:Gd):Bool:=decide (g.fType=e.fType) && trR a g.fCond g.fVar e
abbrev Lim:=C0
def SS (l:List Sta):Prop:=l.Pairwise (fun x y=>x.fScope<y.fScope)
def opS (l:List Sta)(s t:Int):List Sta:=l.filter (fun x=>decide (x.fScope<s))++(⟨s,t⟩:Sta)::l.filter (fun x=>decide (s<x.fScope))
theorem opS_mem {l:List Sta}{s t:Int}{x:Sta}(h:x∈opS l s t):x=⟨s,t⟩\/x∈l:=by
 unfold opS at h
 grind
theorem zoj {l:List Sta}(h:SS l)(s t:Int):SS (opS l s t):=by
 unfold opS SS
 rw [pairwise_append]
 refine ⟨h.filter _,aL.2 ⟨fun x hx=>by simp_all,h.filter _⟩,fun x hx y hy=>?_⟩
 grind
theorem zmt (l:List Sta)(s t:Int):(opS l s t).length<=l.length+1:=by
 unfold opS
 rw [length_append,aK]
 induction l with
 |nil=>simp
 |cons x l ih =>
  grind
def keP (l:List Sta)(t:Int)(x:Lim):Bool:=match l.find? (fun s=>decide (s.fScope=x.fScope)) with|some s=>decide (aC .i64 (t-s.fTime)<=x.fSpan)|none=>false
theorem Xl (a b:Int):cmpI a b<0 ↔ a<b:=by unfold cmpI;split<;>(try split)<;>omega
def opL (l:List Sta)(ss:List Int)(t:Int):List Sta:=ss.foldl (fun l s=>opS l s t) l
theorem zln (t:Int):∀ (ss:List Int) {l:List Sta},SS l->SS (opL l ss t)
 |[],_,h=>h
 |s::ss,l,h=>zln t ss (zoj h s t)
theorem zif (t:Int):∀ (ss:List Int) (l:List Sta),(opL l ss t).length<=l.length+ss.length
 |[],l=>by simp [opL]
 |s::ss,l=>by
  have h1:=zif t ss (opS l s t)
  have h2:=zmt l s t
  have h3:opL l (s::ss) t=opL (opS l s t) ss t:=rfl
  rw [h3,aK];omega
theorem opL_mem (t:Int):∀ (ss:List Int) {l:List Sta} {x:Sta},x∈opL l ss t->(x.fScope∈ss/\x.fTime=t)\/x∈l
 |[],l,x,h=>aQ h
 |s::ss,l,x,h=>by
  rcases opL_mem t ss (l:=opS l s t) h with k|k
  ·simp_all
  ·rcases opS_mem k with q|q
   all_goals simp_all
def clP (cs:List Int)(x:Sta):Bool:=cs.any fun y=>decide (x.fScope=y)
abbrev ncl (x:Ed)(s:Sta):Bool:=!clP x.fCloses s
abbrev cf0:Cf:=⟨0,[],[]⟩
def hasI (l:List Int)(n:Int):Bool:=l.any fun y=>decide (n=y)
def zfs (a:Aut)(s:Int):List Gd:=match a.fStates[s.toNat]? with|some s=>s.fGuards|none=>[]
def chE (x:Ed):List Exn:=x.fChecks.filterMap Bs
def ckP (x:Ed)(env:List (List Ev)):Bool:=(chE x).all (fun y=>trR env y (-1) ev0)
def gdP (a:Aut)(c:Cf)(x:Ed)(env:List (List Ev))(e:Ev):Bool:=(zfs a c.fState).any (fun g=>!hasI x.fInside g.fScope && vio env e g)
def stN (c:Cf)(x:Ed)(e:Ev):List Sta:=opL c.fStarts x.fOpens e.fTime
def bdN (c:Cf)(x:Ed)(e:Ev):List Bd:=c.fBindings++[⟨x.fVar,Fd e⟩]
def coP (a:Aut)(held:List Ev)(c:Cf)(x:Ed)(e:Ev):Option Cf :=
 if x.fType=e.fType/\gdP a c x (enH held c.fBindings) e=false/\trR (enH held c.fBindings) x.fCond x.fVar e=true/\x.fLimits.all (keP (stN c x e) e.fTime)=true/\ckP x (enH (e::held) (bdN c x e))=true then some ⟨x.fTo,bdN c x e,(stN c x e).filter (ncl x)⟩ else none
structure CB (held:List Ev) (a:Aut) (k:Nat) (c:Cf):Prop where
 st:0<=c.fState/\c.fState<a.fStates.length
 bd:BdOk held a.fVars c.fBindings
 ss:SS c.fStarts
 lb:c.fBindings.length<=k
 ls:c.fStarts.length<=100*k
structure CxA (a:Aut) (held:List Ev):Prop where
 wf:WfA a
 ok:AOk a
 lo:∀ x∈a.fEdges,x.fOpens.length<=100
 lh:held.length<=10000
theorem zn9 {x:Ed}{ys:List Exn}(h:x.fChecks=ys.map Ah){k:Nat}(hk:k<ys.length)(Q:Exn->Option β):idxD Bs x.fChecks (k:Int) Q=Q ys[k]:=by
 unfold idxD
 rw [if_pos (by omega),h]
 simp [hk,Pw]
abbrev Mp:=List (Int×Bool)
section
variable {β:Type}
theorem zp6 {ix:List (Option Nat)}{os:List Mp}{j:Nat}{l:Mp}(hl:os[j]? = some l)(hs:Srt l)(k:Int)(v:Bool)(c:Ars Mp->Option β):aup (ix,os) j k v c=c (ix,os.set j (sput l k v)):=by
 unfold aup
 simp only [hl]
 rw [if_pos (show (l.map (·.1)).Pairwise (· < ·) from hs)]
theorem zlq {n:Nat}(h:n<=1000000)(k:Nat->Option β):mkm (n:Int) 8 k=k n:=by unfold mkm;grind
theorem zm0 (i:Nat)(x:Option β):are i x=x:=by unfold are;rfl
end
structure Gj (l:Mp):Prop where
 srt:Srt l
 all:∀ p∈l,p.2=true/\0<=p.1/\p.1<16
def has (l:Mp)(v:Int):Prop:=v∈l.map (·.1)
theorem zer {l:Mp}{v:Bool}:∀ p,p∈sput l k v->p=(k,v)\/p∈l:=by
 induction l with
 |nil=>intro p hp;simpa [sput] using hp
 |cons q r ih =>
  obtain ⟨a,b⟩:=q
  intro p hp
  simp only [sput] at hp
  grind
theorem Gj.put {l:Mp}(h:Gj l){v:Int}(hv:0<=v/\v<16):Gj (sput l v true) :=
 ⟨K0 h.srt,fun p hp=>(zer p hp).elim (fun e=>by rw [e];exact ⟨rfl,hv⟩) (h.all p)⟩
variable {x:Int}
theorem has_put {l:Mp}{v:Int}:has (sput l v true) x ↔ x=v\/has l x:=zeq x
structure OsOk (k:Nat) (os:List Mp):Prop where
 len:os.length=k
 map:∀ l∈os,Gj l
def hasO (os:List Mp)(s:Nat)(v:Int):Prop:=∃ l,os[s]? = some l/\has l v
variable {os:List Mp}
theorem OsOk.at {k:Nat}(h:OsOk k os){s:Nat}(hs:s<k):∃ l,os[s]? = some l/\Gj l:=by
 have hs':s<os.length:=by rw [h.len];exact hs
 exact ⟨os[s],aO hs',h.map _ (aF hs')⟩
theorem OsOk.put {k:Nat}(h:OsOk k os){s:Nat}{l:Mp}(hl:os[s]? = some l){v:Int}(hv:0<=v/\v<16):OsOk k (os.set s (sput l v true))/\∀ t x,hasO (os.set s (sput l v true)) t x ↔ hasO os t x\/(t=s/\x=v):=by
 obtain ⟨hs,hg⟩:=List.getElem?_eq_some_iff.1 hl
 have hm:Gj l:=by rw [<-hg];exact h.map _ (aF hs)
 refine ⟨⟨by rw [length_set];exact h.len,fun q hq=>?_⟩,fun t x=>?_⟩
 ·rcases mem_or_eq_of_mem_set hq with h'|h'
  ·exact h.map q h'
  ·rw [h'];exact hm.put hv
 ·unfold hasO
  rw [getElem?_set]
  by_cases e:s=t
  ·subst e
   rw [if_pos rfl,if_pos hs]
   constructor
   ·rintro ⟨q,hq,hx⟩
    injection hq with hq
    subst hq
    exact (has_put.1 hx).elim (fun e=>aQ ⟨rfl,e⟩) (fun hx=>aN ⟨l,hl,hx⟩)
   ·rintro (⟨q,hq,hx⟩|⟨_,e⟩)
    ·rw [hl] at hq;injection hq with hq;subst hq
     exact ⟨_,rfl,has_put.2 (aQ hx)⟩
    ·exact ⟨_,rfl,has_put.2 (aN e)⟩
  grind
def OccV (v:Int)(e:Exn):Prop:=∃ i:Nat,i<16/\v=(i:Int)/\Occ i e
theorem Y9 {es:List Exn}{k:Nat}(h:k<es.length)(K:Exn->Option β):idxD Bs (es.map Ah) (k:Int) K=K es[k]:=by
 unfold idxD
 rw [if_pos (by omega)]
 simp only [Int.toNat_natCast,getElem?_map,aO h,Option.map_some,Pw]
def OwnG (a:Aut)(t:Nat)(x:Int):Prop:=∃ st,a.fStates[t]? = some st/\∃ g∈st.fGuards,OccV x g.fCond
def OwnX (ed:Ed)(x:Int):Prop:=∃ e∈chE ed++[ed.fCond],OccV x e
def OwnV (a:Aut)(t:Nat)(x:Int):Prop:=OwnG a t x\/∃ ed∈a.fEdges,ed.fFrom=(t:Int)/\OwnX ed x
inductive Rd (a:Aut):Nat->Int->Prop
 |own (t:Nat) (x:Int) (h:OwnV a t x):Rd a t x
 |step (ed:Ed) (he:ed∈a.fEdges) (t s:Nat) (x:Int) (ht:ed.fFrom=(t:Int)) (hs:ed.fTo=(s:Int)) (h:Rd a s x):Rd a t x
theorem zgo (h:OccV x e):0<=x/\x<16:=by obtain ⟨i,hi,e,_⟩:=h;omega
theorem zgn {a:Aut}{t:Nat}(h:OwnV a t x):0<=x/\x<16:=by
 rcases h with ⟨_,_,_,_,h⟩|⟨_,_,_,_,_,h⟩<;>exact zgo h
theorem zk2 {a:Aut}{t:Nat}(h:Rd a t x):0<=x/\x<16:=by
 induction h with
 |own t x h=>exact zgn h
 |step _ _ _ _ _ _ _ _ ih=>exact ih
theorem zim:Gj []:=⟨by simp [Srt],by simp⟩
theorem OsOk.push {k:Nat}(h:OsOk k os):OsOk (k+1) (os++[[]]):=⟨by rw [length_append,h.len];rfl,fun l hl=>(aT.1 hl).elim (h.map l) (fun hl=>by rw [aP.1 hl];exact zim)⟩
open Classical in
inductive Bk (bk:List (List Int)):Nat->Nat->Prop
 |refl (s:Nat):Bk bk s s
 |step (t y s:Nat) (h:(y:Int)∈bk.getD s []) (ht:Bk bk t y):Bk bk t s
structure BkOk (n:Nat) (bk:List (List Int)):Prop where
 len:bk.length=n
 big:∀ q∈bk,q.length<=1100000
 mem:∀ q∈bk,∀ y∈q,0<=y/\y<(n:Int)
structure Sp (n:Nat) (bk:List (List Int)) (v:Int) (os:List Mp) (ss:Nat->Prop) (os':List Mp):Prop where
 ok:OsOk n os'
 mono:∀ t x,hasO os t x->hasO os' t x
 snd:∀ t x,hasO os' t x->hasO os t x\/(x=v/\∃ s,ss s/\Bk bk t s)
 mark:∀ s,ss s->hasO os' s v
 clo:∀ t,hasO os' t v->hasO os t v\/∀ y:Nat,(y:Int)∈bk.getD t []->hasO os' y v
section
variable {β α:Type}
theorem Xt (a b:Option β):nxt ([]:List α) a b=a:=by unfold nxt;rfl
theorem Xb (x:α)(l:List α)(a b:Option β):nxt (x::l) a b=b:=by unfold nxt;rfl
end
structure Mk (a:Aut) (bk:List (List Int)) (os:List Mp):Prop where
 ok:OsOk a.fStates.length os
 snd:∀ t x,hasO os t x->Rd a t x
 clo:∀ t x,hasO os t x->∀ y:Nat,(y:Int)∈bk.getD t []->hasO os y x
structure BkA (a:Aut) (bk:List (List Int)):Prop where
 ok:BkOk a.fStates.length bk
 mem:∀ (t y:Nat),t<a.fStates.length->((y:Int)∈bk.getD t [] ↔ ∃ ed∈a.fEdges,ed.fTo=(t:Int)/\ed.fFrom=(y:Int))
open Classical in
noncomputable def Gi (a:Aut):List Mp:=(range a.fStates.length).map fun t=>((range 16).filter (fun i:Nat=>decide (Rd a t (i:Int)))).map (fun i:Nat=>((i:Int),true))
open Classical in
theorem zla (a:Aut):OsOk a.fStates.length (Gi a)/\∀ t x,hasO (Gi a) t x ↔ t<a.fStates.length/\Rd a t x:=by
 unfold Gi
 refine ⟨⟨by simp,fun l hl=>?_⟩,fun t x=>?_⟩
 ·obtain ⟨t,_,rfl⟩:=aW.1 hl
  refine ⟨?_,fun p hp=>?_⟩
  ·unfold Srt
   rw [map_map,pairwise_map]
   refine Pairwise.imp (fun {a b} (h:a<b)=>?_) (pairwise_lt_range.filter _)
   simp_all
  grind
 ·unfold hasO has
  constructor
  ·grind
  ·rintro ⟨h1,h2⟩
   refine ⟨_,by rw [getElem?_map,getElem?_range h1];rfl,?_⟩
   rw [map_map]
   have hb:=zk2 h2
   refine aW.2 ⟨x.toNat,mem_filter.2 ⟨mem_range.2 (by omega),?_⟩,?_⟩
   all_goals grind
theorem Gj.len {l:Mp}(h:Gj l):l.length<=16:=by
 have s:Str cmpI (l.map (·.1)):=h.srt.imp (fun q=>(Xl _ _).2 q)
 have key:∀ (q:List Int) (c:Int),q.Pairwise (· < ·)->(∀ x∈q,c<=x/\x<16)->(q.length:Int)<=max 0 (16-c):=fun q=>by
  induction q with
  |nil=>intro c _ _;simp;omega
  |cons y r ih =>
   intro c hp hb
   have h1:=hb y (by simp)
   obtain ⟨p1,p2⟩:=aL.1 hp
   have:=ih (y+1) p2 (fun x hx=>by grind)
   grind
 have:=key (l.map (·.1)) 0 (show (l.map (·.1)).Pairwise (· < ·) from h.srt) (fun x hx=>by
  obtain ⟨p,hp,rfl⟩:=aW.1 hx
  exact (h.all p hp).2)
 grind
end Go.Proofs.YthbogefcfhmpgaaGreat
