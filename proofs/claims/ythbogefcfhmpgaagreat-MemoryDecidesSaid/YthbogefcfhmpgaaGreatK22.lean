/- Layer 8, plainly. -/
import Derived.Test.YthbogefcfhmpgaaGreatK21
set_option linter.unusedVariables false
set_option linter.unusedSimpArgs false
namespace Go.Proofs.YthbogefcfhmpgaaGreat
open Go.RowKit List
open List renaming length_map->aA,drop_eq_nil_of_le->aD,take_succ_eq_append_getElem->aE,getElem_mem->aF,drop_zero->aG,length_zipIdx->aH,length_cons->aJ,pairwise_cons->aK,getElem?_eq_getElem->aM,mem_singleton->aN,any_cons->aO,getElem_take->aP,length_drop->aQ,length_take->aR,length_nil->aT,mem_append->aU,mem_map->aX
open Int renaming natCast_zero->aB
open IntKind renaming wrap->aC
open Bool renaming and_eq_false_iff->aL,or_eq_true->aS
open Or renaming inl->aW,inr->aY
section
variable {α β:Type}
theorem zfk {len:Nat}(h:0<len)(k:Nat->Option β):nat 0 len k=k 0:=by have:=Ej (i:=0) h k;simpa using this
theorem zny {len:Nat}(h:1<len)(k:Nat->Option β):nat 1 len k=k 1:=by have:=Ej (i:=1) h k;simpa using this
theorem zxy {x y:α}{l:List α}(k:α->Option β):idx (x::y::l) 1 k=k y:=by have:=Ad (l:=x::y::l) (i:=1) (by simp) k;simpa using this
end
theorem w21:aC .i64 (((2:Nat):Int)-1)=1:=by decide
theorem w11:aC .i64 (((1:Nat):Int)-1)=0:=by decide
theorem zue (n:Nat)(op:Int)(h:5<=op/\op<=11)(x y:Va):∃ v,Hp n op [x,y]=some v /\
  (cnd (decide (op=9))
    (nat 0 (List.map Ac [x,y]).length fun x45=>elt [x,y] x45 fun x46=>nat 1 (List.map Ac [x,y]).length fun x47=>elt [x,y] x47 fun x48 =>
      bnd (Dz n (decide (x46.fKind=x48.fKind) && (decide (x46.fNum=x48.fNum) && ((x46.fText.toList == x48.fText.toList) && true)))) fun x49=>some (x49,(0:Int)))
  <| natc op 5 (bnd (Ts n x.fNum y.fNum) fun x54=>some (x54,0))
  <| natc op 6 (bnd (Tq n x.fNum y.fNum) fun x54=>some (x54,0))
  <| natc op 7 (bnd (Tp n x.fNum y.fNum) fun x54=>some (x54,0))
  <| natc op 8 (bnd (Tn n x.fNum y.fNum) fun x54=>some (x54,0))
  <| natc op 10 (bnd (Tm n x.fNum y.fNum) fun x54=>some (x54,0))
  <| natc op 11 (bnd (Tl n x.fNum y.fNum) fun x54=>some (x54,0))
  <| natc op 12 (bnd (N5 n x.fNum y.fNum) fun x54=>some (x54,0))
  <| none)=some (v,0):=by
 have:op=5\/op=6\/op=7\/op=8\/op=9\/op=10\/op=11:=by omega
 have l2:(List.map Ac [x,y]).length=2:=rfl
 have n0:∀ k:Nat->Option (Va×Int),nat 0 2 k=k 0:=fun k=>zfk (by omega) k
 have n1:∀ k:Nat->Option (Va×Int),nat 1 2 k=k 1:=fun k=>zny (by omega) k
 have e0:∀ k:Va->Option (Va×Int),elt [x,y] 0 k=k x:=fun k=>Cc (by simp) k
 have e1:∀ k:Va->Option (Va×Int),elt [x,y] 1 k=k y:=fun k=>Cc (by simp) k
 unfold Hp Ts Tq Tp Tn Tm Tl N5 Tt
 simp only [l2,n0,n1,e0,e1,zo7,zxy,A3,O4,zr5,zlv,A0,Am,Aa,Ml,Mj,Lq,Lp]
 rcases this with rfl|rfl|rfl|rfl|rfl|rfl|rfl
 ·exact ⟨_,rfl,rfl⟩
 ·exact ⟨_,rfl,rfl⟩
 ·exact ⟨_,rfl,rfl⟩
 ·exact ⟨_,rfl,rfl⟩
 ·exact ⟨_,rfl,rfl⟩
 ·by_cases q:x.fNum=1
  ·simp [q,A0]
  ·simp [q,A0]
 ·by_cases q:x.fNum=1
  ·simp [q,A0]
  ·simp [q,A0]
theorem zuf (n:Nat)(x:Va):∃ v,Hp n 12 [x]=some v/\N5 n x.fNum x.fNum=some v:=by
 unfold Hp N5
 simp only [zo7,A3,zr5,zlv,A0]
 exact ⟨_,rfl,rfl⟩
variable {e:Exn}
theorem ETrO.pos {s:Nat}(h:ETrO s e):1<=s:=by cases h;omega
theorem ziq (n:Nat)(l:List (Nat×Exn))(e:Exn)(ha:e.fArgs=l.map (fun p=>Ao p.2))(hl:l.length<=4000000)(a b:List (List Ev))(own:Int)(ev:Ev)
  (ih:∀ p∈l,∃ r,Ee n p.2 ⟨a⟩ own ev=some r/\Hn n ⟨b⟩ own ev p.2=some r) (K K':List Va->List Int->Option (Va×Int)) (hK:∀ vs,vs.length=l.length->∃ r,K vs (vs.map (·.fKind))=some r/\K' vs (vs.map (·.fKind))=some r) :
  ∀ (m k:Nat) (vs:List Va),k<=l.length->l.length<m+k->vs.length=k->∃ r,Ge n (Ee n) ev own ⟨a⟩ e K m ((k:Int),vs,vs.map (·.fKind))=some r/\Pc n (Hn n) e ev own ⟨b⟩ K' m ((k:Int),vs,vs.map (·.fKind))=some r
 |0,k,vs,h1,h2,_=>by omega
 |m+1,k,vs,h1,h2,h3=>by
  unfold Ge Pc
  simp only [ha,aA,A3,Ax]
  by_cases h:k<l.length
  ·have hlt:((k:Nat):Int)<((l.length:Nat):Int):=by omega
   simp only [hlt,if_true]
   rw [Gz h,Gz h]
   obtain ⟨⟨v,x⟩,r1,r2⟩:=ih l[k] (aF h)
   rw [r1,r2,A0,A0]
   by_cases hx:x=0
   ·simp only [hx,if_true]
    rw [Bs (by simp;omega) (by omega),Bs (by simp;omega) (by omega),Bs (by simp;omega) (by omega),Bs (by simp;omega) (by omega),Ae k (by omega)]
    have:=ziq n l e ha hl a b own ev ih K K' hK m (k+1) (vs++[v]) (by omega) (by omega) (by simp;omega)
    simpa using this
   simp_all
  grind
theorem zzl (a b:List (List Ev))(hb:∀ v,(evs a v).length<=1000000)(own:Int)(ev:Ev):∀ (s:Nat) (e:Exn),ETrO s e->(∀ i:Nat,Occ i e->evs a (i:Int)=evs b (i:Int))->s<=4000000->∀ n,s+5000000<n->∃ r,Ee n e ⟨a⟩ own ev=some r/\Hn n ⟨b⟩ own ev e=some r:=by
 intro s
 induction s using Nat.strongRecOn with
 |ind s IH =>
  intro e ht hab hs n hn
  cases ht with
  |mk l e hnd h ha =>
   obtain ⟨n',rfl⟩:∃ n',n=n' + 1:=⟨n-1,by omega⟩
   have hl:l.length<=(l.map (·.1)).sum:=O2 (l:=l) (fun p hp=>(h p hp).pos)
   obtain ⟨f1,f2,f3,f4⟩:=znx hnd
   simp only [Ee,Hn,aA,A3,Ax]
   by_cases h0:e.fArgs.length=0
   ·have:((e.fArgs.length:Nat):Int)=0:=by omega
    simp only [this,if_true]
    obtain ⟨r,r1,r2⟩:=zzi n' (by omega) e hnd h0 a b hab hb own ev
    rw [r1,r2,A0]
    exact ⟨_,rfl,rfl⟩
   ·have:¬((e.fArgs.length:Nat):Int)=0:=by omega
    simp only [this,if_false]
    have hll:e.fArgs.length=l.length:=by rw [ha,aA]
    have hop:5<=e.fOp/\e.fOp<=12/\(e.fOp=12->l.length=1)/\(e.fOp≠12->l.length=2):=by
     unfold arP at f1 f2
     by_cases q1:e.fOp<0
     ·rw [if_pos q1] at f1;omega
     by_cases q2:12<e.fOp
     ·omega
     rw [if_neg q1,if_neg q2] at f2
     by_cases q3:e.fOp<5
     ·rw [if_pos q3] at f2;omega
     ·omega
    refine ziq n' l e ha (by omega) a b own ev (fun p hp=>by
     have:=Ie hp
     exact IH p.1 (by omega) p.2 (h p hp) (fun i hi=>hab i (.sub e p.2 (by grind) hi)) (by omega) n' (by omega)) _ _ (fun vs hvs=>?_) n' 0 [] (by omega) (by omega) rfl
    obtain ⟨r,r1,r2,r3⟩:=z8w n' e.fOp ⟨hop.1,hop.2.1⟩ (vs.map (·.fKind)) (by rw [aA];omega) n' 0 (by omega) (by rw [aA];omega)
    simp only [aB] at r1 r2
    unfold Sj X0
    rw [r1,r2,A0,A0]
    by_cases hr:r=0
    ·simp only [hr,if_true]
     by_cases o12:e.fOp=12
     ·have hv1:vs.length=1:=by have:=hop.2.2.1 o12;omega
      match vs,hv1 with
      |[x],_ =>
       obtain ⟨v,v1,v2⟩:=zuf n' x
       rw [o12,v1,A0]
       have n0:∀ k:Nat->Option (Va×Int),nat 0 1 k=k 0:=fun k=>zfk (by omega) k
       have e0:∀ k:Va->Option (Va×Int),elt [x] 0 k=k x:=fun k=>Cc (by simp) k
       have l0:∀ z:Option (Va×Int),ltx 0 1 z=z:=fun z=>zrr (by omega) z
       simp only [O4,aJ,aT,Nat.zero_add,w11,n0,e0,l0,v2,A0]
       exact ⟨_,rfl,rfl⟩
     ·have hv2:vs.length=2:=by have:=hop.2.2.2 o12;omega
      match vs,hv2 with
      |[x,y],_ =>
       obtain ⟨v,v1,v2⟩:=zue n' e.fOp ⟨hop.1,by omega⟩ x y
       rw [v1,A0]
       refine ⟨(v,0),rfl,?_⟩
       rw [<-v2]
       have n0:∀ k:Nat->Option (Va×Int),nat 0 2 k=k 0:=fun k=>zfk (by omega) k
       have n1:∀ k:Nat->Option (Va×Int),nat 1 2 k=k 1:=fun k=>zny (by omega) k
       have e0:∀ k:Va->Option (Va×Int),elt [x,y] 0 k=k x:=fun k=>Cc (by simp) k
       have e1:∀ k:Va->Option (Va×Int),elt [x,y] 1 k=k y:=fun k=>Cc (by simp) k
       have l0:∀ z:Option (Va×Int),ltx 0 2 z=z:=fun z=>zrr (by omega) z
       have l1:∀ z:Option (Va×Int),ltx 1 2 z=z:=fun z=>zrr (by omega) z
       simp only [O4,A3,aA,aJ,aT,Nat.zero_add,Nat.reduceAdd,w21,n0,n1,e0,e1,l0,l1]
    simp_all
theorem zlu (a b:List (List Ev))(hb:∀ v,(evs a v).length<=1000000)(own:Int)(ev:Ev)(s:Nat)(e:Exn)(hab:∀ i:Nat,Occ i e->evs a (i:Int)=evs b (i:Int))(ht:ETr s e)(hs:s<=4000000)(n:Nat)(hn:10000000<n) :
  ∃ r,Hq n e ⟨a⟩ own ev=some r/\Uj n e ⟨b⟩ own ev=some r:=by
 obtain ⟨c,c1,c2,c3⟩:=zra s e ht hs n (by omega)
 unfold Hq Uj Tg Xa
 rw [c1,c2]
 simp only [A0,A3,Ax,zr5,zlv,Am,Aa,J6,Nf]
 by_cases hc:c=0
 ·simp only [hc,if_true]
  obtain ⟨r,r1,r2⟩:=zzl a b hb own ev s e (c3 hc) hab hs n (by omega)
  rw [r1,r2]
  simp only [A0]
  split
  all_goals simp_all
 ·simp only [hc,if_false,A0]
  exact ⟨_,rfl,rfl⟩
variable {α:Type}
def fidx (p:α->Bool)(l:List α):Int:=match l.findIdx? p with|some j=>(j:Int)|none=>-1
theorem Ya (p:α->Bool)(l:List α):decide (0<=fidx p l)=l.any p:=by
 unfold fidx
 grind
def H4 (p:α->Bool)(k:Nat)(l:List α):Int:=match l.findIdx? p with|some j=>((k+j:Nat):Int)|none=>-1
theorem Uv (p:α->Bool)(k:Nat)(x:α)(l:List α):H4 p k (x::l)=if p x=true then (k:Int) else H4 p (k+1) l:=by
 unfold H4
 grind
theorem Rn (p:α->Bool)(l:List α):H4 p 0 l=fidx p l:=by
 unfold H4 fidx
 simp_all
theorem zig (n:Nat)(x:Int)(l:List Int)(hl:l.length<=1000000000):∀ (m k:Nat),k<=l.length->l.length<m+k->R4 n x l (some (-1)) m (k:Int)=some (H4 (fun y=>decide (x=y)) k (l.drop k))
 |0,k,h1,h2=>by omega
 |m+1,k,h1,h2=>by
  unfold R4
  simp only [aA,A3]
  by_cases h:k<l.length
  ·rw [if_pos (by omega),Ad h,Di l k h,Uv,Ae k (by omega),zig n x l hl m (k+1) (by omega) (by omega)]
   grind
  ·rw [if_neg (by omega),aD (by omega)]
   rfl
theorem Ey (n:Nat)(x:Int)(l:List Int)(hl:l.length<=1000000000)(hn:l.length<n):Fj n l x=some (l.any fun y=>decide (x=y)):=by
 unfold Fj X1
 have:=zig n x l hl n 0 (by omega) (by omega)
 simp only [aB,aG,Rn] at this
 rw [this,A0,Ya]
theorem ze7 (n:Nat)(a1c0:B7)(p:B7->Bool)(l:List B7)(hl:l.length<=1000000000)(hb:∀ x∈l,Qs n x a1c0=some (p x)):∀ (m k:Nat),k<=l.length->l.length<m+k->Qf n a1c0 l (some (-1)) m (k:Int)=some (H4 p k (l.drop k))
 |0,k,h1,h2=>by omega
 |m+1,k,h1,h2=>by
  unfold Qf
  simp only [aA,A3]
  by_cases h:k<l.length
  ·rw [if_pos (by omega),Ad h,Di l k h,Uv,hb _ (aF h),A0,Ae k (by omega),ze7 n a1c0 p l hl hb m (k+1) (by omega) (by omega)]
   cases p l[k]<;>simp [Au]
  ·rw [if_neg (by omega),aD (by omega)]
   rfl
theorem zx3 (n:Nat)(a1c0:B7)(p:B7->Bool)(l:List B7)(hl:l.length<=1000000000)(hn:l.length<n)(hb:∀ x∈l,Qs n x a1c0=some (p x)):Ty n l a1c0=some (fidx p l):=by
 unfold Ty
 have:=ze7 n a1c0 p l hl hb n 0 (by omega) (by omega)
 simpa only [aB,aG,Rn] using this
theorem zzn (n:Nat)(a1c0:B7)(p:B7->Bool)(l:List B7)(hl:l.length<=1000000000)(hn:l.length<n)(hb:∀ x∈l,Qs n x a1c0=some (p x)):Qg n l a1c0=some (l.any p):=by
 unfold Qg
 rw [zx3 n a1c0 p l hl hn hb,A0,Ya]
theorem z87 (n:Nat)(p:C8->Bool)(l:List C8)(hl:l.length<=1000000000)(hb:∀ x∈l,K9 n x=some (p x)):∀ (m k:Nat),k<=l.length->l.length<m+k->P8 n l (some (-1)) m (k:Int)=some (H4 p k (l.drop k))
 |0,k,h1,h2=>by omega
 |m+1,k,h1,h2=>by
  unfold P8
  simp only [aA,A3]
  by_cases h:k<l.length
  ·rw [if_pos (by omega),Ad h,Di l k h,Uv,hb _ (aF h),A0,Ae k (by omega),z87 n p l hl hb m (k+1) (by omega) (by omega)]
   cases p l[k]<;>simp [Au]
  ·rw [if_neg (by omega),aD (by omega)]
   rfl
theorem zlx (n:Nat)(p:C8->Bool)(l:List C8)(hl:l.length<=1000000000)(hn:l.length<n)(hb:∀ x∈l,K9 n x=some (p x)):T2 n l=some (fidx p l):=by
 unfold T2
 have:=z87 n p l hl hb n 0 (by omega) (by omega)
 simpa only [aB,aG,Rn] using this
theorem zea (n:Nat)(p:C8->Bool)(l:List C8)(hl:l.length<=1000000000)(hn:l.length<n)(hb:∀ x∈l,K9 n x=some (p x)):P9 n l=some (l.any p):=by
 unfold P9
 rw [zlx n p l hl hn hb,A0,Ya]
abbrev Gd:=B7
abbrev Stt:=Cb
abbrev Ed:=Ai
abbrev Aut:=A9
def WfE (e:Exn):Prop:=∃ z,z<=4000000/\ETr z e
structure WfX (x:Ed):Prop where
 cond:WfE x.fCond
 checks:∃ ys:List Exn,x.fChecks=ys.map Ao/\∀ y∈ys,WfE y
 lc:x.fChecks.length<=1100000
 lo:x.fOpens.length<=1100000
 lcl:x.fCloses.length<=1100000
 li:x.fInside.length<=1100000
 ll:x.fLimits.length<=1100000
structure WfA (a:Aut):Prop where
 ls:a.fStates.length<=1100000
 le:a.fEdges.length<=1100000
 st:∀ s∈a.fStates,s.fGuards.length<=1100000/\∀ g∈s.fGuards,WfE g.fCond
 ed:∀ x∈a.fEdges,WfX x
theorem WfE.check (h:WfE e)(n:Nat)(hn:10000000<n):∃ r:Int,Eb n e=some r/\I8 n e=some r:=by
 obtain ⟨z,hz,ht⟩:=h
 obtain ⟨r,r1,r2,_⟩:=zra z e ht hz n (by omega)
 exact ⟨r,r1,r2⟩
theorem Ve (n:Nat)(a b:Int):Cy n a b=some (decide (a<0) || decide (b<a)):=by
 unfold Cy
 simp only [Am,Aa,Mf,A3]
 by_cases h:a<0<;>simp [h]
theorem Uz (n:Nat)(a b:Int):Et n a b=some (decide (0<=a) && decide (a<b)):=by
 unfold Et
 simp only [Am,Aa,Ms,A3]
 by_cases h:0<=a<;>simp [h]
theorem Ur (a b:Int):(decide (a<0) || decide (b-1<a))=!(decide (0<=a) && decide (a<b)):=by
 grind
variable {k:Nat}
theorem zoo {q:α->Bool}{l:List α}{i:Nat}(hk:k<i)(hi:i<=l.length):((l.take i).drop k).any q=(q (l[k]'(by omega)) || ((l.take i).drop (k+1)).any q):=by
 rw [Di _ k (by simp;omega),aO,aP]
theorem zad (n:Nat)(l:List Gd)(a:Aut)(i:Nat)(hi:i<l.length)(hl:l.length<=1100000)(K:Option Int):∀ (m k:Nat),k<=i->i<m+k->P3 n l a (i:Int) K m (k:Int)=if ((l.take i).drop k).any (fun h=>decide (h.fScope=l[i].fScope))=true then some 7 else K
 |0,k,h1,h2=>by omega
 |m+1,k,h1,h2=>by
  unfold P3
  simp only [A3]
  by_cases h:k<i
  ·rw [if_pos (by omega),Ad (by omega:k<l.length),Ad hi,zoo h (by omega),Ae k (by omega),zad n l a i hi hl K m (k+1) (by omega) (by omega)]
   grind
  ·rw [if_neg (by omega),aD (by simp;omega)]
   simp
theorem zbr (n:Nat)(hn:10000000<n)(a:Aut)(hs:0<=a.fScopes/\a.fScopes<=64)(hv:0<=a.fVars/\a.fVars<=16)(l:List Gd)(hl:l.length<=1100000)(hw:∀ g∈l,WfE g.fCond):∀ (m k:Nat),k<=l.length->l.length<m+k->∃ r:Int,G1 n l a (some 0) m (k:Int)=some r/\Gj n l a (some 0) m (k:Int)=some r
 |0,k,h1,h2=>by omega
 |m+1,k,h1,h2=>by
  unfold G1 Gj
  simp only [aA,A3,Ax,Am,Aa,J1,Jy,Ve,Uz]
  by_cases h:k<l.length
  ·have hlt:((k:Nat):Int)<((l.length:Nat):Int):=by omega
   simp only [hlt,if_true,Ad h,A0]
   have wS:aC .i64 (a.fScopes-1)=a.fScopes-1:=Cd _ (by omega)
   have wV:aC .i64 (a.fVars-1)=a.fVars-1:=Cd _ (by omega)
   have e16:∀ x:Int,(decide (x<0) || decide (15<x))=!(decide (0<=x) && decide (x<16)):=fun x=>Ur x 16
   simp only [wS,wV,Ur,e16]
   obtain ⟨r,r1,r2⟩:=zbr n hn a hs hv l hl hw m (k+1) (by omega) (by omega)
   obtain ⟨c,c1,c2⟩:=(hw _ (aF h)).check n hn
   have e1:=zad n l a k h hl (bnd (Eb n l[k].fCond) fun x89=>if x89=0 then G1 n l a (some 0) m (aC .i64 ((k:Int)+1)) else some x89) n 0 (by omega) (by omega)
   simp only [aB,aG] at e1
   rw [e1,c1,c2]
   have e2:=zvm (l:=l) (a:=0) (b:=k) (Nat.zero_le _) (by omega) (fun x46=>bnd (Qg n x46 l[k]) fun x47=>cnd x47 (some (7:Int)) (bnd (some c) fun x48=>if x48=0 then Gj n l a (some 0) m (aC .i64 ((k:Int)+1)) else some x48))
   simp only [aB,aG] at e2
   rw [e2,zzn n l[k] (fun h=>decide (h.fScope=l[k].fScope)) (l.take k) (by simp;omega) (by simp;omega) (fun x _=>rfl),A0,Ae k (by omega),r1,r2]
   simp only [A0]
   generalize (decide (0<=l[k].fScope) && decide (l[k].fScope<a.fScopes))=b1
   generalize (decide (0<=l[k].fType) && decide (l[k].fType<16))=b2
   generalize (decide (0<=l[k].fVar) && decide (l[k].fVar<a.fVars))=b3
   generalize ((l.take k).any fun h=>decide (h.fScope=l[k].fScope))=b4
   cases b1 with
   |false=>exact ⟨2,by simp [Au],by simp [Au]⟩
   |true=>cases b2 with
    |false=>exact ⟨2,by simp [Au],by simp [Au]⟩
    |true=>cases b3 with
     |false=>exact ⟨2,by simp [Au],by simp [Au]⟩
     |true=>cases b4 with
      |true=>exact ⟨7,by simp [Au],by simp [Au]⟩
      |false =>
       by_cases hc:c=0
       ·exact ⟨r,by simp [Au,hc],by simp [Au,hc]⟩
       ·exact ⟨c,by simp [Au,hc],by simp [Au,hc]⟩
  ·have hlt:¬((k:Nat):Int)<((l.length:Nat):Int):=by omega
   simp only [hlt,if_false]
   exact ⟨0,rfl,rfl⟩
theorem zuc (n:Nat)(hn:10000000<n)(a:Aut)(hs:0<=a.fScopes/\a.fScopes<=64)(hv:0<=a.fVars/\a.fVars<=16)(l:List Gd)(hl:l.length<=1100000)(hw:∀ g∈l,WfE g.fCond):∃ r:Int,T0 n a l=some r/\U2 n a l=some r:=by
 unfold T0 U2
 simp only [aA,A3]
 by_cases h:64<((l.length:Nat):Int)
 ·simp_all
 ·simp only [h,if_false]
  have:=zbr n hn a hs hv l hl hw n 0 (by omega) (by omega)
  omega
theorem zi4 (n:Nat)(sc:Int)(l:List Int)(i:Nat)(hi:i<l.length)(hl:l.length<=1100000)(K:Option Int):∀ (m k:Nat),k<=i->i<m+k->P2 n sc l (i:Int) K m (k:Int)=if ((l.take i).drop k).any (fun h=>decide (l[i]=h))=true then some 7 else K
 |0,k,h1,h2=>by omega
 |m+1,k,h1,h2=>by
  unfold P2
  simp only [A3]
  by_cases h:k<i
  ·rw [if_pos (by omega),Ad (by omega:k<l.length),Ad hi,zoo h (by omega),Ae k (by omega),zi4 n sc l i hi hl K m (k+1) (by omega) (by omega)]
   grind
  ·rw [if_neg (by omega),aD (by simp;omega)]
   simp
theorem zbl (n:Nat)(hn:10000000<n)(a:Aut)(hs:0<=a.fScopes/\a.fScopes<=64)(A:List (List Int))(j:Int)(l:List Int)(hl:l.length<=1100000)(K:Option Int):∀ (m k:Nat),k<=l.length->l.length<m+k->∃ r:Int,Lb n a.fScopes l (some 0) m (k:Int)=some r/\Hs n A a j l K m (k:Int)=(if r=0 then K else some r)/\(r=0->∀ y∈l.drop k,0<=y/\y<a.fScopes)
 |0,k,h1,h2=>by omega
 |m+1,k,h1,h2=>by
  unfold Lb Hs
  simp only [aA,A3,Ax,Ve,Uz]
  by_cases h:k<l.length
  ·have hlt:((k:Nat):Int)<((l.length:Nat):Int):=by omega
   simp only [hlt,if_true,Ad h,A0]
   rw [Cd _ (by omega),Ur]
   obtain ⟨r,r1,r2,r3⟩:=zbl n hn a hs A j l hl K m (k+1) (by omega) (by omega)
   have e1:=zi4 n a.fScopes l k h hl (Lb n a.fScopes l (some 0) m (aC .i64 ((k:Int)+1))) n 0 (by omega) (by omega)
   simp only [aB,aG] at e1
   have e2:=zvm (l:=l) (a:=0) (b:=k) (Nat.zero_le _) (by omega) (fun x84=>bnd (Fj n x84 l[k]) fun x85=>cnd x85 (some (7:Int)) (Hs n A a j l K m (aC .i64 ((k:Int)+1))))
   simp only [aB,aG] at e2
   rw [e1,e2,Ey n l[k] (l.take k) (by simp;omega) (by simp;omega),A0,Ae k (by omega),r1,r2]
   have hr:(decide (0<=l[k]) && decide (l[k]<a.fScopes))=true->0<=l[k]/\l[k]<a.fScopes:=fun h=>by simpa using h
   rw [Di l k h]
   revert hr
   generalize (decide (0<=l[k]) && decide (l[k]<a.fScopes))=b1
   generalize ((l.take k).any fun y=>decide (l[k]=y))=b4
   intro hr
   cases b1 with
   |false=>exact ⟨2,by simp [Au],by simp [Au],fun h=>by cases h⟩
   |true=>cases b4 with
    |true=>exact ⟨7,by simp [Au],by simp [Au],fun h=>by cases h⟩
    |false =>
     refine ⟨r,by simp [Au],by simp [Au],fun h y hy=>?_⟩
     grind
  ·have hlt:¬((k:Nat):Int)<((l.length:Nat):Int):=by omega
   simp only [hlt,if_false]
   grind
theorem znn (n:Nat)(x:Ed)(a:Aut)(hl:x.fLimits.length<=1100000)(K K':List Int->Option Int)(r:Option Int)(h1:K (x.fLimits.map (·.fScope))=r):∀ (m k:Nat) (acc:List Int),k<=x.fLimits.length->x.fLimits.length<m+k->acc=(x.fLimits.take k).map (·.fScope)->Pf n x a K m ((k:Int),acc)=r
 |0,k,acc,h2,h3,_=>by omega
 |m+1,k,acc,h2,h3,h4=>by
  unfold Pf
  simp only [aA,A3]
  by_cases h:k<x.fLimits.length
  ·rw [if_pos (by omega),Ad h,Bs (by subst h4;simp;omega) (by omega),Ae k (by omega)]
   exact znn n x a hl K K' r h1 m (k+1) _ (by omega) (by omega) (by subst h4;rw [aE h,map_append];rfl)
  grind
theorem zae (n:Nat)(l:List C8)(hl:l.length<=1100000):∀ (m k:Nat) (acc:List Int),k<=l.length->l.length<m+k->acc=(l.take k).map (·.fScope)->Q8 n l (fun y=>some y) m ((k:Int),acc)=some (l.map (·.fScope))
 |0,k,acc,h2,h3,_=>by omega
 |m+1,k,acc,h2,h3,h4=>by
  unfold Q8
  simp only [aA,A3]
  by_cases h:k<l.length
  ·rw [if_pos (by omega),Ad h,Bs (by subst h4;simp;omega) (by omega),Ae k (by omega)]
   exact zae n l hl m (k+1) _ (by omega) (by omega) (by subst h4;rw [aE h,map_append];rfl)
  grind
theorem zr2 (n:Nat)(hn:10000000<n)(l:List C8)(hl:l.length<=1100000):Qv n l=some (l.map (·.fScope)):=by
 unfold Qv
 exact zae n l hl n 0 [] (by omega) (by omega) (by simp)
theorem zi5 (n:Nat)(x:Ed)(hl:x.fLimits.length<=1100000):∀ (m k:Nat),k<=x.fLimits.length->x.fLimits.length<m+k->Ln n x (some 0) m (k:Int)=some (if (x.fLimits.drop k).any (fun l=>decide (l.fSpan<0) || decide (1099511627776<l.fSpan))=true then 2 else 0)
 |0,k,h1,h2=>by omega
 |m+1,k,h1,h2=>by
  unfold Ln
  simp only [aA,A3,Ve,A0]
  by_cases h:k<x.fLimits.length
  ·rw [if_pos (by omega),Ad h,Di _ k h,aO,Ae k (by omega),zi5 n x hl m (k+1) (by omega) (by omega)]
   generalize (decide (x.fLimits[k].fSpan<0) || decide (1099511627776<x.fLimits[k].fSpan))=b
   cases b<;>simp [Au]
  grind
theorem zx1 (n:Nat)(hn:10000000<n)(a:Aut)(hs:0<=a.fScopes/\a.fScopes<=64)(x:Ed)(hx:WfX x):∃ r:Int,Qb n a x=some r /\
  (bnd (Qv n x.fLimits) fun x46=>bnd (U1 n a ([x.fOpens,x.fCloses,x.fInside,x46])) fun x47=>if x47=0 then (bnd (P9 n x.fLimits) fun x48=>cnd x48 (some (2:Int)) (some 0)) else some x47)=some r/\(r=0->∀ y∈x.fOpens,0<=y/\y<a.fScopes):=by
 have hsp:=zi5 n x hx.ll n 0 (by omega) (by have:=hx.ll;omega)
 simp only [aB,aG] at hsp
 rw [zr2 n hn x.fLimits hx.ll,A0]
 have hcs:=zea n (fun l=>decide (l.fSpan<0) || decide (1099511627776<l.fSpan)) x.fLimits (by have:=hx.ll;omega) (by have:=hx.ll;omega) (fun y _=>by
  unfold K9
  simp only [Am,Aa,Jz,A3]
  grind)
 rw [hcs]
 simp only [A0]
 have hlm:(x.fLimits.map (·.fScope)).length<=1100000:=by rw [aA];exact hx.ll
 generalize hS:x.fLimits.map (·.fScope)=S at *
 generalize (x.fLimits.any fun l=>decide (l.fSpan<0) || decide (1099511627776<l.fSpan))=sp at *
 unfold U1
 -- the four lists
 have step:∀ (l:List Int),l.length<=1100000->∀ (j:Int) (K:Option Int),∃ r:Int,Q1 n l a.fScopes=some r/\Hs n [x.fOpens,x.fCloses,x.fInside,S] a j l K n 0=(if r=0 then K else some r)/\(r=0->∀ y∈l,0<=y/\y<a.fScopes):=fun l hl j K=>by
  have:=zbl n hn a hs [x.fOpens,x.fCloses,x.fInside,S] j l hl K n 0 (by omega) (by omega)
  unfold Q1
  simp_all
 have uq:∀ l:List Int,l.length<=1100000->∃ r:Int,Q1 n l a.fScopes=some r/\(∀ (j:Int) (K:Option Int),Hs n [x.fOpens,x.fCloses,x.fInside,S] a j l K n 0=if r=0 then K else some r)/\(r=0->∀ y∈l,0<=y/\y<a.fScopes):=fun l hl=>by
  obtain ⟨r,r1,_,r3⟩:=step l hl 0 none
  refine ⟨r,r1,fun j K=>?_,r3⟩
  obtain ⟨r',r1',r2',_⟩:=step l hl j K
  simp_all
 obtain ⟨u1,a1,b1,d1⟩:=uq x.fOpens hx.lo
 obtain ⟨u2,a2,b2,_⟩:=uq x.fCloses hx.lcl
 obtain ⟨u3,a3,b3,_⟩:=uq x.fInside hx.li
 obtain ⟨u4,a4,b4,_⟩:=uq S hlm
 have w0:aC .i64 ((0:Int)+1)=1:=by decide
 have w1:aC .i64 ((1:Int)+1)=2:=by decide
 have w2:aC .i64 ((2:Int)+1)=3:=by decide
 have w3:aC .i64 ((3:Int)+1)=4:=by decide
 have i0:∀ K:List Int->Option Int,idx ([x.fOpens,x.fCloses,x.fInside,S]:List (List Int)) 0 K=K x.fOpens:=fun K=>by have:=Ad (l:=[x.fOpens,x.fCloses,x.fInside,S]) (i:=0) (by simp) K;simpa using this
 have i1:∀ K:List Int->Option Int,idx ([x.fOpens,x.fCloses,x.fInside,S]:List (List Int)) 1 K=K x.fCloses:=fun K=>by have:=Ad (l:=[x.fOpens,x.fCloses,x.fInside,S]) (i:=1) (by simp) K;simpa using this
 have i2:∀ K:List Int->Option Int,idx ([x.fOpens,x.fCloses,x.fInside,S]:List (List Int)) 2 K=K x.fInside:=fun K=>by have:=Ad (l:=[x.fOpens,x.fCloses,x.fInside,S]) (i:=2) (by simp) K;simpa using this
 have i3:∀ K:List Int->Option Int,idx ([x.fOpens,x.fCloses,x.fInside,S]:List (List Int)) 3 K=K S:=fun K=>by have:=Ad (l:=[x.fOpens,x.fCloses,x.fInside,S]) (i:=3) (by simp) K;simpa using this
 have hm:∃ m,n=m+1+1+1+1+1:=⟨n-5,by omega⟩
 have rl:∀ K:Option Int,H7 n x a S K n 0=if u1=0 then (if u2=0 then (if u3=0 then (if u4=0 then K else some u4) else some u3) else some u2) else some u1:=fun K=>by
  obtain ⟨m,hm⟩:=hm
  conv=>lhs;rw [show H7 n x a S K n 0=H7 n x a S K (m+1+1+1+1+1) 0 by rw [<-hm]]
  simp only [H7,A3,Ax,i0,i1,i2,i3,w0,w1,w2,w3,a1,a2,a3,a4,A0]
  simp
 have pl:∀ K:Option Int,Jx n [x.fOpens,x.fCloses,x.fInside,S] a K n 0=if u1=0 then (if u2=0 then (if u3=0 then (if u4=0 then K else some u4) else some u3) else some u2) else some u1:=fun K=>by
  obtain ⟨m,hm⟩:=hm
  conv=>lhs;rw [show Jx n [x.fOpens,x.fCloses,x.fInside,S] a K n 0=Jx n [x.fOpens,x.fCloses,x.fInside,S] a K (m+1+1+1+1+1) 0 by rw [<-hm]]
  simp only [Jx,A3,i0,i1,i2,i3,w0,w1,w2,w3,aA,aJ,aT,b1,b2,b3,b4]
  simp
 unfold Qb
 have el:=znn n x a hx.ll (fun k1_0_0y=>frz 7026 <| reg <| H7 n x a k1_0_0y (Ln n x (some 0) n 0) n 0) (fun _=>none) _ rfl n 0 [] (by omega) (by have:=hx.ll;omega) (by simp)
 simp only [aB] at el
 rw [el,hS,O9,Aa,rl,hsp,pl]
 by_cases q1:u1=0
 rotate_left
 ·exact ⟨u1,by simp [q1],by simp [q1,A0],fun h=>absurd h q1⟩
 by_cases q2:u2=0
 rotate_left
 ·exact ⟨u2,by simp [q1,q2],by simp [q1,q2,A0],fun h=>absurd h q2⟩
 by_cases q3:u3=0
 rotate_left
 ·exact ⟨u3,by simp [q1,q2,q3],by simp [q1,q2,q3,A0],fun h=>absurd h q3⟩
 by_cases q4:u4=0
 rotate_left
 ·exact ⟨u4,by simp [q1,q2,q3,q4],by simp [q1,q2,q3,q4,A0],fun h=>absurd h q4⟩
 cases sp with
 |true=>exact ⟨2,by simp [q1,q2,q3,q4],by simp [q1,q2,q3,q4,A0,Au],fun h=>by cases h⟩
 |false=>exact ⟨0,by simp [q1,q2,q3,q4],by simp [q1,q2,q3,q4,A0,Au],fun _=>d1 q1⟩
theorem zbv (n:Nat)(hn:10000000<n)(x:Ed)(a:Aut)(ys:List Exn)(hy:x.fChecks=ys.map Ao)(hw:∀ y∈ys,WfE y)(hl:ys.length<=1100000)(P:Prop)(K K':Option Int)(hK:∃ r:Int,K=some r/\K'=some r/\(r=0->P)):∀ (m k:Nat),k<=ys.length->ys.length<m+k->∃ r:Int,Pw n x a K m (k:Int)=some r/\Hz n x a K' m (k:Int)=some r/\(r=0->P)
 |0,k,h1,h2=>by omega
 |m+1,k,h1,h2=>by
  unfold Pw Hz
  simp only [hy,aA,A3,Ax]
  by_cases h:k<ys.length
  ·have hlt:((k:Nat):Int)<((ys.length:Nat):Int):=by omega
   simp only [hlt,if_true]
   have hi:∀ (Q:Exn->Option Int),idxD Bp (ys.map Ao) (k:Int) Q=Q ys[k]:=fun Q=>by
    have:=Gz (l:=ys.map fun y=>(0,y)) (k:=k) (by simpa using h) Q
    simp only [map_map,getElem_map] at this
    exact this
   rw [hi,hi]
   obtain ⟨c,c1,c2⟩:=(hw _ (aF h)).check n hn
   obtain ⟨r,r1,r2,r3⟩:=zbv n hn x a ys hy hw hl P K K' hK m (k+1) (by omega) (by omega)
   rw [c1,c2,A0,A0,Ae k (by omega),r1,r2]
   grind
  grind
structure EdOk (a:Aut) (x:Ed):Prop where
 frm:0<=x.fFrom/\x.fFrom<a.fStates.length
 tgt:-1<=x.fTo/\x.fTo<a.fStates.length
 var:0<=x.fVar/\x.fVar<a.fVars
 opn:∀ y∈x.fOpens,0<=y/\y<a.fScopes
theorem zzm (n:Nat)(hn:10000000<n)(a:Aut)(hs:0<=a.fScopes/\a.fScopes<=64)(hv:0<=a.fVars/\a.fVars<=16)(hst:1<=a.fStates.length/\a.fStates.length<=256)(x:Ed)(hx:WfX x)(before:Int):∃ r:Int,Te n a x before=some r/\Kg n a x before=some r/\(r=0->EdOk a x):=by
 unfold Te Kg
 simp only [aA,A3,Ax,Am,Aa,Ve,Uz,A0]
 have wS:aC .i64 (((a.fStates.length:Nat):Int)-1)=((a.fStates.length:Nat):Int)-1:=Cd _ (by omega)
 have wV:aC .i64 (a.fVars-1)=a.fVars-1:=Cd _ (by omega)
 have e16:∀ x:Int,(decide (x<0) || decide (15<x))=!(decide (0<=x) && decide (x<16)):=fun x=>Ur x 16
 simp only [wS,wV,Ur,e16]
 have tailE:∃ r:Int,Dr n before x a false=some r/\D8 n before x a false=some r/\(r=0->∀ y∈x.fOpens,0<=y/\y<a.fScopes):=by
  unfold Dr D8
  simp only [aA,A3,Ax,A7]
  by_cases hb:x.fFrom<before
  ·simp_all
  simp only [hb,if_false]
  obtain ⟨c,c1,c2⟩:=hx.cond.check n hn
  rw [c1,c2,A0,A0]
  by_cases hc:c=0
  rotate_left
  ·simp_all
  simp only [hc,if_true]
  by_cases h64:64<((x.fChecks.length:Nat):Int)
  ·simp_all
  simp only [h64,if_false]
  obtain ⟨ys,hy,hw⟩:=hx.checks
  obtain ⟨r,r1,r2,r3⟩:=zx1 n hn a hs x hx
  have hyl:ys.length<=1100000:=by have:=hx.lc;rw [hy,aA] at this;exact this
  have:=zbv n hn x a ys hy hw hyl (∀ y∈x.fOpens,0<=y/\y<a.fScopes) (bnd (Qb n a x) fun x49=>some x49) _ ⟨r,by rw [r1,A0],r2,r3⟩ n 0 (by omega) (by omega)
  simpa only [aB] using this
 have e2:Dr n before x a true=some 2/\D8 n before x a true=some 2:=by
  unfold Dr D8
  exact ⟨A8 _ _,A8 _ _⟩
 obtain ⟨r,r1,r2,r3⟩:=tailE
 rw [e2.1,e2.2]
 by_cases h1:0<=x.fFrom/\x.fFrom<((a.fStates.length:Nat):Int)
 rotate_left
 ·have:(decide (0<=x.fFrom) && decide (x.fFrom<((a.fStates.length:Nat):Int)))=false:=by
   rw [aL,decide_eq_false_iff_not,decide_eq_false_iff_not];omega
  exact ⟨2,by simp [this,Au],by simp [this,Au],fun h=>by cases h⟩
 have b1:(decide (0<=x.fFrom) && decide (x.fFrom<((a.fStates.length:Nat):Int)))=true:=by simp [h1.1];omega
 by_cases h2:-1<=x.fTo/\x.fTo<((a.fStates.length:Nat):Int)
 rotate_left
 ·have q1:¬x.fTo=-1:=by omega
  have q2:(decide (0<=x.fTo) && decide (x.fTo<((a.fStates.length:Nat):Int)))=false:=by
   rw [aL,decide_eq_false_iff_not,decide_eq_false_iff_not];omega
  refine ⟨2,by simp [b1,q1,q2,Au],?_,fun h=>by cases h⟩
  by_cases q3:x.fTo < -1
  ·simp [b1,q3,Au]
  ·have q4:((a.fStates.length:Nat):Int)<=x.fTo:=by omega
   simp [b1,q3,q4,Au]
 have n1:¬x.fTo < -1:=by omega
 have n2:¬((a.fStates.length:Nat):Int)<=x.fTo:=by omega
 have ok:(decide (0<=x.fVar) && decide (x.fVar<a.fVars))=true->r=0->EdOk a x:=fun h hr=>by
  simp only [Bool.and_eq_true,decide_eq_true_eq] at h
  exact ⟨⟨h1.1,h1.2⟩,⟨h2.1,h2.2⟩,h,r3 hr⟩
 have b2:¬x.fTo=-1->(decide (0<=x.fTo) && decide (x.fTo<((a.fStates.length:Nat):Int)))=true:=fun h=>by grind
 revert ok
 generalize (decide (0<=x.fVar) && decide (x.fVar<a.fVars))=b3
 generalize (decide (0<=x.fType) && decide (x.fType<16))=b4
 intro ok
 simp only [b1,n1,n2,if_false,A8,Bool.not_true]
 cases b3 with
 |false =>
  refine ⟨2,?_,by simp [Au],fun h=>by cases h⟩
  by_cases q:x.fTo=-1
  ·simp [q,Au]
  ·simp [q,b2 q,Au]
 |true =>
  cases b4 with
  |false =>
   refine ⟨2,?_,by simp [Au,e2.2],fun h=>by cases h⟩
   by_cases q:x.fTo=-1
   ·simp [q,Au,e2.1]
   ·simp [q,b2 q,Au,e2.1]
  |true =>
   refine ⟨r,?_,by simp [Au,r2],fun q=>ok rfl q⟩
   by_cases q:x.fTo=-1
   ·simp [q,Au,r1]
   ·simp [q,b2 q,Au,r1]
theorem ze8 (n:Nat)(hn:10000000<n)(a:Aut)(hs:0<=a.fScopes/\a.fScopes<=64)(hv:0<=a.fVars/\a.fVars<=16)(hst:1<=a.fStates.length/\a.fStates.length<=256)(hw:WfA a):∀ (m k:Nat) (before:Int),k<=a.fEdges.length->a.fEdges.length<m+k->(∀ x∈a.fEdges.take k,EdOk a x)->∃ r:Int,Pg n a (some 0) m (before,(k:Int))=some r/\Hv n a (some 0) m (before,(k:Int))=some r/\(r=0->∀ x∈a.fEdges,EdOk a x)
 |0,k,before,h1,h2,_=>by omega
 |m+1,k,before,h1,h2,h3=>by
  have hle:=hw.le
  unfold Pg Hv
  simp only [aA,A3,Ax]
  by_cases h:k<a.fEdges.length
  ·have hlt:((k:Nat):Int)<((a.fEdges.length:Nat):Int):=by omega
   simp only [hlt,if_true,Ad h]
   obtain ⟨c,c1,c2,c3⟩:=zzm n hn a hs hv hst _ (hw.ed _ (aF h)) before
   rw [c1,c2,A0,A0,Ae k (by omega)]
   by_cases hc:c=0
   ·simp only [hc,if_true]
    refine ze8 n hn a hs hv hst hw m (k+1) _ (by omega) (by omega) (fun x hx=>?_)
    rw [aE h,aU,aN] at hx
    grind
   ·exact ⟨c,by simp [hc],by simp [hc],fun q=>absurd q hc⟩
  ·have hlt:¬((k:Nat):Int)<((a.fEdges.length:Nat):Int):=by omega
   simp only [hlt,if_false]
   grind
theorem zbk (n:Nat)(hn:10000000<n)(a:Aut)(hs:0<=a.fScopes/\a.fScopes<=64)(hv:0<=a.fVars/\a.fVars<=16)(hw:WfA a)(K K':Option Int)(P:Prop)(hK:∃ r:Int,K=some r/\K'=some r/\(r=0->P)):∀ (m k:Nat),k<=a.fStates.length->a.fStates.length<m+k->∃ r:Int,Ph n a K m (k:Int)=some r/\Hw n a K' m (k:Int)=some r/\(r=0->P)
 |0,k,h1,h2=>by omega
 |m+1,k,h1,h2=>by
  have hls:=hw.ls
  unfold Ph Hw
  simp only [aA,A3,Ax]
  by_cases h:k<a.fStates.length
  ·have hlt:((k:Nat):Int)<((a.fStates.length:Nat):Int):=by omega
   simp only [hlt,if_true,Ad h]
   obtain ⟨g1,g2⟩:=hw.st _ (aF h)
   obtain ⟨c,c1,c2⟩:=zuc n hn a hs hv _ g1 g2
   rw [c1,c2,A0,A0,Ae k (by omega)]
   by_cases hc:c=0
   ·simp only [hc,if_true]
    exact zbk n hn a hs hv hw K K' P hK m (k+1) (by omega) (by omega)
   simp_all
  grind
structure AOk (a:Aut):Prop where
 vars:0<=a.fVars/\a.fVars<=16
 st:1<=a.fStates.length/\a.fStates.length<=256
 ed:∀ x∈a.fEdges,EdOk a x
theorem zfi (n:Nat)(hn:10000000<n)(a:Aut)(hw:WfA a):∃ r:Int,E9 n a=some r/\C1 n a=some r/\(r=0->AOk a):=by
 have hls:=hw.ls
 have hle:=hw.le
 unfold E9 C1
 simp only [Am,Aa,Ve,A0,A3]
 have e2:H8 n a true=some 2/\Dx n a true=some 2:=by
  unfold H8 Dx
  exact ⟨A8 _ _,A8 _ _⟩
 rw [e2.1,e2.2]
 by_cases hv:0<=a.fVars/\a.fVars<=16
 rotate_left
 ·refine ⟨2,?_,?_,fun h=>by cases h⟩
  ·have:(decide (a.fVars<0) || decide (16<a.fVars))=true:=by
    rw [aS,decide_eq_true_eq,decide_eq_true_eq];omega
   rw [this,A8]
  simp_all
 have q1:¬a.fVars<0:=by omega
 have q2:¬16<a.fVars:=by omega
 by_cases hs:0<=a.fScopes/\a.fScopes<=64
 rotate_left
 ·have:(decide (a.fScopes<0) || decide (64<a.fScopes))=true:=by
   rw [aS,decide_eq_true_eq,decide_eq_true_eq];omega
  refine ⟨2,by simp [q1,q2,this,Au,e2.1],?_,fun h=>by cases h⟩
  simp_all
 have q3:¬a.fScopes<0:=by omega
 have q4:¬64<a.fScopes:=by omega
 simp only [q1,q2,q3,q4,if_false,decide_false,Bool.or_false,A7]
 unfold H8 Dx
 simp only [Am,Aa,aA,A3,A7]
 have e5:G4 n a true=some 5/\Dw n a true=some 5:=by
  unfold G4 Dw
  exact ⟨A8 _ _,A8 _ _⟩
 rw [e5.1,e5.2]
 by_cases h1:((a.fStates.length:Nat):Int)<1
 ·simp_all
 by_cases h2:256<((a.fStates.length:Nat):Int)
 ·simp_all
 simp only [h1,h2,if_false]
 by_cases h3:2048<((a.fEdges.length:Nat):Int)
 ·simp_all
 simp only [h3,decide_false]
 unfold G4 Dw
 simp only [A7]
 have hst:1<=a.fStates.length/\a.fStates.length<=256:=by omega
 obtain ⟨r,r1,r2,r3⟩:=ze8 n hn a hs hv hst hw n 0 0 (by omega) (by omega) (by simp)
 have:=zbk n hn a hs hv hw _ _ (AOk a) ⟨r,r1,r2,fun h=>⟨hv,hst,r3 h⟩⟩ n 0 (by omega) (by omega)
 omega
abbrev T16:=Bool×Bool×Bool×Bool×Bool×Bool×Bool×Bool×Bool×Bool×Bool×Bool×Bool×Bool×Bool×Bool
def l16 (t:T16):List Bool:=[t.1,t.2.1,t.2.2.1,t.2.2.2.1,t.2.2.2.2.1,t.2.2.2.2.2.1,t.2.2.2.2.2.2.1,t.2.2.2.2.2.2.2.1,t.2.2.2.2.2.2.2.2.1,t.2.2.2.2.2.2.2.2.2.1,t.2.2.2.2.2.2.2.2.2.2.1,t.2.2.2.2.2.2.2.2.2.2.2.1,t.2.2.2.2.2.2.2.2.2.2.2.2.1,t.2.2.2.2.2.2.2.2.2.2.2.2.2.1,t.2.2.2.2.2.2.2.2.2.2.2.2.2.2.1,t.2.2.2.2.2.2.2.2.2.2.2.2.2.2.2]
theorem Gy (t:T16):(l16 t).length=16:=rfl
def own1 (i:Nat)(e:Exn):Prop:=usV e.fOp=true/\e.fVar=(i:Int)
theorem zz9 (n:Nat)(e:Exn)(t:T16):∃ t':T16,Tz n e t=some (0,t')/\∀ i,i<16->((l16 t')[i]? = some true ↔ (l16 t)[i]? = some true\/own1 i e):=by
 unfold Tz
 rw [zvp,A0]
 simp only [A3,O4]
 by_cases hu:usV e.fOp=true
 rotate_left
 ·have hu':usV e.fOp=false:=by cases h:usV e.fOp<;>simp_all
  rw [hu',A7]
  exact ⟨t,rfl,fun i _=>⟨aW,fun h=>h.elim id (fun h=>absurd h.1 hu)⟩⟩
 rw [hu,A8]
 have hno:¬(0<=e.fVar/\e.fVar<16)->∀ i,i<16->((l16 t)[i]? = some true ↔ (l16 t)[i]? = some true\/own1 i e):=fun h i hi=>⟨aW,fun h'=>h'.elim id (fun h'=>absurd h'.2 (by omega))⟩
 by_cases h0:0<=e.fVar
 rotate_left
 ·rw [if_neg h0];simp_all
 rw [if_pos h0]
 by_cases h1:e.fVar<16
 rotate_left
 ·rw [if_neg h1];simp_all
 rw [if_pos h1]
 have key:∀ (j:Nat) (t':T16),e.fVar=(j:Int)->j<16->l16 t'=(l16 t).set j true->∀ i,i<16->((l16 t')[i]? = some true ↔ (l16 t)[i]? = some true\/own1 i e):=fun j t' hj hlt hs i hi=>by
  rw [hs,getElem?_set]
  unfold own1
  by_cases hij:j=i
  ·subst hij
   simp [Gy,hlt,hu,hj]
  grind
 have:e.fVar=0\/e.fVar=1\/e.fVar=2\/e.fVar=3\/e.fVar=4\/e.fVar=5\/e.fVar=6\/e.fVar=7\/e.fVar=8\/e.fVar=9\/e.fVar=10\/e.fVar=11\/e.fVar=12\/e.fVar=13\/e.fVar=14\/e.fVar=15:=by omega
 rcases this with h|h|h|h|h|h|h|h|h|h|h|h|h|h|h|h
 ·rw [h];exact ⟨_,rfl,key 0 _ h (by decide) rfl⟩
 ·rw [h];exact ⟨_,rfl,key 1 _ h (by decide) rfl⟩
 ·rw [h];exact ⟨_,rfl,key 2 _ h (by decide) rfl⟩
 ·rw [h];exact ⟨_,rfl,key 3 _ h (by decide) rfl⟩
 ·rw [h];exact ⟨_,rfl,key 4 _ h (by decide) rfl⟩
 ·rw [h];exact ⟨_,rfl,key 5 _ h (by decide) rfl⟩
 ·rw [h];exact ⟨_,rfl,key 6 _ h (by decide) rfl⟩
 ·rw [h];exact ⟨_,rfl,key 7 _ h (by decide) rfl⟩
 ·rw [h];exact ⟨_,rfl,key 8 _ h (by decide) rfl⟩
 ·rw [h];exact ⟨_,rfl,key 9 _ h (by decide) rfl⟩
 ·rw [h];exact ⟨_,rfl,key 10 _ h (by decide) rfl⟩
 ·rw [h];exact ⟨_,rfl,key 11 _ h (by decide) rfl⟩
 ·rw [h];exact ⟨_,rfl,key 12 _ h (by decide) rfl⟩
 ·rw [h];exact ⟨_,rfl,key 13 _ h (by decide) rfl⟩
 ·rw [h];exact ⟨_,rfl,key 14 _ h (by decide) rfl⟩
 ·rw [h];exact ⟨_,rfl,key 15 _ h (by decide) rfl⟩
theorem y17 {x y:Exn}(h:Ao x=Ao y):x=y:=by
 have:=congrArg Bp h
 rw [Ub,Ub] at this
 exact Option.some.inj this
theorem zm3 {i:Nat}{l:List (Nat×Exn)}(ha:e.fArgs=l.map (fun p=>Ao p.2)):Occ i e ↔ own1 i e\/∃ p∈l,Occ i p.2:=by
 constructor
 ·intro h
  cases h with
  |here _ h hv=>exact aW ⟨h,hv⟩
  |sub _ y hy h =>
   rw [ha] at hy
   obtain ⟨p,hp,hpe⟩:=aX.1 hy
   exact aY ⟨p,hp,by rw [y17 hpe];exact h⟩
 ·rintro (h|⟨p,hp,h⟩)
  ·exact .here _ h.1 h.2
  ·exact .sub _ p.2 (by grind) h
theorem zbh (n:Nat)(l:List (Nat×Exn))(e:Exn)(ha:e.fArgs=l.map (fun p=>Ao p.2))(hl:l.length<=4000000)
  (ih:∀ p∈l,∀ t:T16,∃ t':T16,Kf n p.2 t=some (0,t')/\∀ i,i<16->((l16 t')[i]? = some true ↔ (l16 t)[i]? = some true\/Occ i p.2)) (t0:T16) :
  ∀ (m k:Nat) (t:T16),k<=l.length->l.length<m+k->(∀ i,i<16->((l16 t)[i]? = some true ↔ (l16 t0)[i]? = some true\/own1 i e\/∃ p∈l.take k,Occ i p.2)) ->
   ∃ t':T16,Qr n (Kf n) e (fun k1_0_0y0 k1_0_0y1 k1_0_0y2 k1_0_0y3 k1_0_0y4 k1_0_0y5 k1_0_0y6 k1_0_0y7 k1_0_0y8 k1_0_0y9 k1_0_0y10 k1_0_0y11 k1_0_0y12 k1_0_0y13 k1_0_0y14 k1_0_0y15=>some (0,(k1_0_0y0,k1_0_0y1,k1_0_0y2,k1_0_0y3,k1_0_0y4,k1_0_0y5,k1_0_0y6,k1_0_0y7,k1_0_0y8,k1_0_0y9,k1_0_0y10,k1_0_0y11,k1_0_0y12,k1_0_0y13,k1_0_0y14,k1_0_0y15))) m ((k:Int),t)=some (0,t')/\∀ i,i<16->((l16 t')[i]? = some true ↔ (l16 t0)[i]? = some true\/own1 i e\/∃ p∈l,Occ i p.2)
 |0,k,t,h1,h2,_=>by omega
 |m+1,k,t,h1,h2,h3=>by
  unfold Qr
  simp only [ha,aA,A3,Ax]
  by_cases h:k<l.length
  ·rw [if_pos (by omega),Gz h]
   obtain ⟨t',q1,q2⟩:=ih l[k] (aF h) t
   rw [q1,Cr,if_pos rfl,Ae k (by omega)]
   refine zbh n l e ha hl ih t0 m (k+1) t' (by omega) (by omega) (fun i hi=>?_)
   rw [q2 i hi,h3 i hi,aE h]
   simp only [aU,aN]
   grind
  ·rw [if_neg (by omega)]
   grind
theorem zu3:∀ (s:Nat) (e:Exn),ETr s e->s<=4000000->∀ n,s+1<n->∀ t:T16,∃ t':T16,Kf n e t=some (0,t')/\∀ i,i<16->((l16 t')[i]? = some true ↔ (l16 t)[i]? = some true\/Occ i e):=by
 intro s
 induction s using Nat.strongRecOn with
 |ind s IH =>
  intro e ht hs n hn t
  cases ht with
  |mk l e h ha =>
   obtain ⟨n',rfl⟩:∃ n',n=n' + 1:=⟨n-1,by omega⟩
   have hl:=O2 (l:=l) (fun p hp=>(h p hp).pos)
   simp only [Kf]
   obtain ⟨t1,q1,q2⟩:=zz9 n' e t
   rw [q1,Cr,Ax,A3,if_pos rfl]
   obtain ⟨t',r1,r2⟩:=zbh n' l e ha (by omega) (fun p hp t=>by
    have:=Ie hp
    exact IH p.1 (by omega) p.2 (h p hp) (by omega) n' (by omega) t) t n' 0 t1 (by omega) (by omega) (fun i hi=>by
     rw [q2 i hi];simp)
   exact ⟨t',r1,fun i hi=>by rw [r2 i hi,zm3 ha]⟩
def Fw (t:T16)(k:Nat):List Int:=((l16 t).zipIdx.drop k).filterMap (fun p=>if p.1 then some (p.2:Int) else none)
theorem zuz (t:T16)(k:Nat)(h:k<16):Fw t k=(if (l16 t)[k]'(by rw [Gy];exact h)=true then [(k:Int)] else [])++Fw t (k+1):=by
 unfold Fw
 have hk:k<(l16 t).zipIdx.length:=by rw [aH,Gy];exact h
 rw [drop_eq_getElem_cons hk,filterMap_cons]
 grind
theorem zbi (n:Nat)(t:T16)(K:List Int->Option (List Int)):∀ (m k:Nat) (out:List Int),k<=16->16<m+k->out.length<=k->Bb n (0,t) K m ((k:Int),out)=K (out++Fw t k)
 |0,k,out,h1,h2,_=>by omega
 |m+1,k,out,h1,h2,h3=>by
  by_cases h:k=16
  ·subst h
   unfold Bb
   simp only [A3]
   rw [if_neg (by omega)]
   have:Fw t 16=[]:=by unfold Fw;rw [aD (by rw [aH,Gy];omega)];rfl
   rw [this,append_nil]
  ·have hk:k<16:=by omega
   have iha:=zbi n t K m (k+1) (out++[(k:Int)]) (by omega) (by omega) (by simp;omega)
   have ihb:=zbi n t K m (k+1) out (by omega) (by omega) (by omega)
   rw [zuz t k hk]
   have step:∀ (b:Bool),(l16 t)[k]'(by rw [Gy];exact hk)=b->reg (cnd b (app out [(k:Int)] 8 fun x=>Bb n (0,t) K m ((aC .i64 ((k:Int)+1)),x)) (Bb n (0,t) K m ((aC .i64 ((k:Int)+1)),out)))=K (out++((if (l16 t)[k]'(by rw [Gy];exact hk)=true then [(k:Int)] else [])++Fw t (k+1))):=fun b hb=>by
    rw [hb,Aa,Bs (by simp;omega) (by omega),Ae k (by omega),iha,ihb]
    cases b
    ·rw [A7];simp
    ·rw [A8];simp
   unfold Bb
   simp only [A3,O4]
   have:k=0\/k=1\/k=2\/k=3\/k=4\/k=5\/k=6\/k=7\/k=8\/k=9\/k=10\/k=11\/k=12\/k=13\/k=14\/k=15:=by omega
   rcases this with rfl|rfl|rfl|rfl|rfl|rfl|rfl|rfl|rfl|rfl|rfl|rfl|rfl|rfl|rfl|rfl<;>exact step _ rfl
theorem zxn (t:T16)(k:Nat)(v:Int):v∈Fw t k ↔ ∃ i:Nat,k<=i/\i<16/\v=(i:Int)/\(l16 t)[i]? = some true:=by
 unfold Fw
 rw [mem_filterMap]
 constructor
 ·rintro ⟨⟨b,i⟩,hm,hv⟩
  obtain ⟨j,hj,he⟩:=mem_iff_getElem.1 hm
  rw [getElem_drop,getElem_zipIdx] at he
  injection he with e1 e2
  rw [aQ,aH,Gy] at hj
  grind
 ·rintro ⟨i,h1,h2,rfl,h3⟩
  refine ⟨(true,i),?_,by simp⟩
  refine mem_iff_getElem.2 ⟨i-k,by rw [aQ,aH,Gy];omega,?_⟩
  grind
theorem zbj (hw:WfE e)(n:Nat)(hn:10000000<n):∃ vs:List Int,U9 n e=some vs/\vs.length<=16/\∀ v,v∈vs ↔ ∃ i:Nat,i<16/\v=(i:Int)/\Occ i e:=by
 obtain ⟨z,hz,ht⟩:=hw
 obtain ⟨t,q1,q2⟩:=zu3 z e ht hz n (by omega) (false,false,false,false,false,false,false,false,false,false,false,false,false,false,false,false)
 have hf:∀ i:Nat,¬(l16 (false,false,false,false,false,false,false,false,false,false,false,false,false,false,false,false))[i]? = some true:=fun i h=>by
  obtain ⟨hi,h⟩:=List.getElem?_eq_some_iff.1 h
  rw [Gy] at hi
  have:i=0\/i=1\/i=2\/i=3\/i=4\/i=5\/i=6\/i=7\/i=8\/i=9\/i=10\/i=11\/i=12\/i=13\/i=14\/i=15:=by omega
  rcases this with rfl|rfl|rfl|rfl|rfl|rfl|rfl|rfl|rfl|rfl|rfl|rfl|rfl|rfl|rfl|rfl<;>cases h
 refine ⟨Fw t 0,?_,?_,fun v=>?_⟩
 ·unfold U9
  rw [q1,Cr]
  have:=zbi n t (fun y=>some y) n 0 [] (by omega) (by omega) (by simp)
  simpa using this
 ·unfold Fw
  refine Nat.le_trans (length_filterMap_le _ _) ?_
  rw [aQ,aH,Gy]
  omega
 ·rw [zxn]
  grind
variable {β:Type}
theorem Yt (i:Nat)(x:Option β):frb i x=x:=by unfold frb;rfl
theorem zu5 (n:Nat)(a b:Cm):T6 n a b=some (rCmp a b):=by
 unfold T6 rCmp or3 cmpI
 simp only [A3,Ax]
 grind
def E1 (e:Ev):Bool:=decide (0<=e.fTime) && (decide (e.fTime<=1099511627776) && (decide (0<=e.fSource) && (decide (e.fSource<8) && (decide (0<=e.fSeq) && decide (e.fSeq<=1099511627776)))))
def idt (e:Ev):Ka:=⟨e.fSource,e.fSeq⟩
theorem zqw (n:Nat)(e:Ev):T1 n e=some (E1 e):=by
 unfold T1 E1
 simp only [A3]
 repeat' split
 all_goals (simp_all<;>omega)
theorem y10 (n:Nat)(e:Ev):N4 n e=some ⟨e.fTime,e.fSource,e.fSeq⟩:=rfl
def F7 (e:Ev):Cm:=⟨e.fTime,e.fSource,e.fSeq⟩
def Cv (a b:Ev):Int:=rCmp (F7 a) (F7 b)
theorem zvq (n:Nat)(a b:Ev):Qo n a b=some (decide (idt a=idt b)):=by
 unfold Qo
 simp only [A3]
 split
 ·rename_i h;simp [idt,h]
 ·rename_i h;simp [idt,h]
def S3:List Ev->Ev->Bool
 |[],_=>false
 |x::_,e=>decide (0<=Cv x e)
def chk:List Ev->List Ev->Int
 |_,[]=>0
 |p,e::r=>if E1 e=false then 2 else if S3 p e=true then 14 else if p.any (fun x=>decide (idt x=idt e)) then 7 else chk (e::p) r
def Ii (l:List Ev):Int:=if 4096<l.length then 5 else chk [] l
def zt8 (m:List (Ka×Bool))(p:List Ev):Prop:=∀ k,(mlk m k).getD false=p.any (fun x=>decide (idt x=k))
variable {κ ν:Type}
theorem zo0 [DecidableEq κ](l:List (κ×ν))(k:κ)(v:ν)(k':κ):mlk (mput l k v) k'=if k'=k then some v else mlk l k':=by
 induction l with
 |nil=>simp [mput,mlk]
 |cons a r ih =>
  obtain ⟨a,x⟩:=a
  simp only [mput]
  by_cases h:k=a
  ·subst h
   rw [if_pos rfl]
   simp only [mlk]
   simp_all
  ·rw [if_neg h]
   simp only [mlk,ih]
   grind
theorem zt8.put {m:List (Ka×Bool)}{p:List Ev}(h:zt8 m p)(e:Ev):zt8 (mput m (idt e) true) (e::p):=fun k=>by
 rw [zo0,aO]
 by_cases hk:k=idt e
 ·subst hk;simp
 ·rw [if_neg hk,h k]
  grind
variable {l:List Ev}
theorem zn9 (h:k<l.length):(l.take (k+1)).reverse=l[k]::(l.take k).reverse:=by
 simp_all
theorem ztu (h0:0<k)(h:k<=l.length):∃ t,(l.take k).reverse=l[k-1]::t:=by
 obtain ⟨j,rfl⟩:∃ j,k=j+1:=⟨k-1,by omega⟩
 exact ⟨_,by rw [zn9 (by omega)];rfl⟩
theorem zq2 (h0:0<k)(h:k<=1000000):aC .i64 ((k:Int)-1)=((k-1:Nat):Int):=by rw [Cd _ (by omega)];omega
theorem Ij [DecidableEq κ](l:List (κ×ν))(k:κ)(z:ν)(c:ν->Bool->Option β):mgt l k z c=c ((mlk l k).getD z) (mlk l k).isSome:=by unfold mgt;rfl
theorem Dm [DecidableEq κ](l:List (κ×ν))(k:κ)(v:ν)(c:List (κ×ν)->Option β):mst l k v c=c (mput l k v):=by unfold mst;rfl
theorem zia (n:Nat)(l:List Ev)(i:Nat)(hi:i<l.length)(K:Option Int):∀ (m k:Nat),k<=i->l.length<=1000000->i<m+k->Pj n l (i:Int) K m k=if ((l.take i).drop k).any (fun x=>decide (idt x=idt l[i])) then some 7 else K
 |0,k,h1,h2,h3=>by omega
 |m+1,k,h1,h2,h3=>by
  unfold Pj
  simp only [A3]
  by_cases h:k<i
  ·rw [if_pos (by omega),Ad (by omega:k<l.length),Ad hi,Ae k (by omega),zvq,A0,A3]
   have hk:k<(l.take i).length:=by rw [aR];omega
   rw [Di (l.take i) k hk,aO,aP,zia n l i hi K m (k+1) (by omega) h2 (by omega)]
   grind
  ·rw [if_neg (by omega),aD (by rw [aR];omega)];simp
theorem zi9 (n:Nat)(l:List Ev)(i:Nat)(hi:i<l.length)(K:Option Int):∀ (m k:Nat),k<=i->l.length<=1000000->i<m+k->Pi n l (i:Int) K m k=if ((l.take i).drop k).any (fun x=>decide (idt x=idt l[i])) then some 7 else K
 |0,k,h1,h2,h3=>by omega
 |m+1,k,h1,h2,h3=>by
  unfold Pi
  simp only [A3]
  by_cases h:k<i
  ·rw [if_pos (by omega),Ad (by omega:k<l.length),Ad hi,Ae k (by omega),zvq,A0,A3]
   have hk:k<(l.take i).length:=by rw [aR];omega
   rw [Di (l.take i) k hk,aO,aP,zi9 n l i hi K m (k+1) (by omega) h2 (by omega)]
   grind
  grind
theorem zib (n:Nat)(l:List Ev)(hn:l.length<n):∀ (m k:Nat),k<=l.length->l.length<=1000000->l.length<m+k->Hb n l (some 0) m (k:Int)=some (chk (l.take k).reverse (l.drop k))
 |0,k,h1,h2,h3=>by omega
 |m+1,k,h1,h2,h3=>by
  unfold Hb
  simp only [aA,A3,Ax]
  by_cases h:k<l.length
  ·rw [if_pos (by omega),Ad h,Ae k (by omega)]
   rw [Di l k h]
   conv=>rhs;unfold chk
   have ih:=zib n l hn m (k+1) (by omega) h2 (by omega)
   rw [zn9 h] at ih
   simp only [zqw,A0,Au]
   by_cases hp:E1 l[k]=true
   ·have hp':¬E1 l[k]=false:=by rw [hp];simp
    rw [if_pos hp,if_neg hp']
    by_cases hk0:0<k
    ·rw [if_pos (by omega),zq2 hk0 (by omega),Ad (by omega:k-1<l.length)]
     obtain ⟨t,ht⟩:=ztu (l:=l) hk0 h1
     simp only [A0,y10]
     rw [Ad h]
     simp only [A0,zu5]
     have ec:rCmp ⟨l[k-1].fTime,l[k-1].fSource,l[k-1].fSeq⟩ ⟨l[k].fTime,l[k].fSource,l[k].fSeq⟩=Cv l[k-1] l[k]:=rfl
     rw [ec]
     have hl2:=zia n l k h (Hb n l (some 0) m ((k+1:Nat):Int)) n 0 (by omega) h2 (by omega)
     simp only [aB,aG] at hl2
     rw [hl2,ih]
     have hany:(l.take k).any (fun x=>decide (idt x=idt l[k]))=(l.take k).reverse.any (fun x=>decide (idt x=idt l[k])):=by rw [any_reverse]
     rw [hany,ht]
     simp only [S3,decide_eq_true_eq]
     grind
    ·have hk:k=0:=by omega
     subst hk
     rw [if_neg (by omega)]
     have hl3:=zi9 n l 0 h (Hb n l (some 0) m ((0+1:Nat):Int)) n 0 (by omega) h2 (by omega)
     simp only [aB,aG] at hl3
     simp only [aB] at hl3 ⊢
     rw [hl3]
     simp only [take_zero,reverse_nil,any_nil,S3,Bool.false_eq_true,if_false] at ih ⊢
     rw [ih]
   ·have hp':E1 l[k]=false:=by simpa using hp
    rw [if_neg hp,if_pos hp']
  ·rw [if_neg (by omega),aD (by omega)];rfl
theorem zzc (n:Nat)(l:List Ev)(hn:l.length<n)(h2:l.length<=1000000):Mr n l=some (Ii l):=by
 unfold Mr Ii
 simp only [aA,A3]
 by_cases h:4096<l.length
 ·rw [if_pos (by omega),if_pos h]
 ·rw [if_neg (by omega),if_neg h]
  have:=zib n l hn n 0 (by omega) h2 (by omega)
  simpa using this
abbrev Rf:=Cm
abbrev N0:Nat:=2000000000
abbrev ev0:Ev:=⟨0,0,0,0,[]⟩
theorem Ft [DecidableEq κ](l:List (κ×ν))(k:κ)(z:ν)(c:ν->Bool->Option β):mgv l k z c=c ((mlk l k).getD z) (mlk l k).isSome:=by unfold mgv;rfl
theorem zoj:∀ (l p:List Ev),chk p l=0->(∀ e∈l,E1 e=true)/\Str Cv l/\(∀ h t,p=h::t->∀ e∈l,Cv h e<0)
 |[],p,_=>⟨by simp,by simp [Str],by simp⟩
 |e::l,p,h=>by
  unfold chk at h
  split at h
  ·cases h
  split at h
  ·cases h
  split at h
  ·cases h
  rename_i h1 h2 h3
  obtain ⟨a1,a2,a3⟩:=zoj l (e::p) h
  have h4:=a3 e p rfl
  refine ⟨fun x hx=>?_,aK.2 ⟨h4,a2⟩,fun q t hq x hx=>?_⟩
  ·grind
  ·have h5:Cv q e<0:=by
    subst hq
    simp only [S3] at h2
    simpa using h2
   rcases mem_cons.1 hx with k|k
   ·rw [k];exact h5
   ·exact Yg.trans _ _ _ h5 (h4 x k)
structure y0m (l:List Ev):Prop where
 pl:∀ e∈l,E1 e=true
 st:Str Cv l
 ln:l.length<=4096
theorem zl7 (h:Ii l=0):y0m l:=by
 unfold Ii at h
 split at h
 ·cases h
 ·obtain ⟨a,b,_⟩:=zoj l [] h
  exact ⟨a,b,by omega⟩
def lkH (held:List Ev)(r:Rf):Option Ev:=held.find? (fun e=>decide (F7 e=r))
theorem zru {held:List Ev}{r:Rf}{e:Ev}(h:lkH held r=some e):F7 e=r/\e∈held:=by
 have h1:=find?_some h
 exact ⟨by simpa using h1,mem_of_find?_eq_some h⟩
theorem zrv {held:List Ev}(h:Str Cv held){e:Ev}(he:e∈held):lkH held (F7 e)=some e:=by
 unfold lkH
 induction held with
 |nil=>simp at he
 |cons x l ih =>
  obtain ⟨h1,h2⟩:=aK.1 h
  rw [find?_cons]
  rcases mem_cons.1 he with k|k
  ·rw [k];simp
  ·have:F7 x≠F7 e:=fun q=>Yg.lt_ne (h1 e k) q
   simp only [this,decide_false]
   exact ih h2 k
theorem zxm (a b:List Ev)(r:Rf):lkH (a++b) r=(lkH a r).or (lkH b r):=by unfold lkH;rw [find?_append]
def addB (held:List Ev)(vs:List (List Ev))(b:Bd):List (List Ev):=match lkH held b.fRef with|some e=>(if 0<=b.fVar/\b.fVar.toNat<vs.length then vs.set b.fVar.toNat (vs.getD b.fVar.toNat []++[e]) else vs)|none=>vs
def bndV (held:List Ev)(m:Nat)(l:List Bd):List (List Ev):=l.foldl (addB held) (replicate m [])
def ev1 (held:List Ev)(l:List Bd)(v:Int):List Ev:=l.filterMap (fun b=>if b.fVar=v then lkH held b.fRef else none)
abbrev enH (held:List Ev)(l:List Bd):List (List Ev):=bndV held 16 l
def BdOk (held:List Ev)(x:Int)(l:List Bd):Prop:=∀ b∈l,(0<=b.fVar/\b.fVar<x)/\(lkH held b.fRef).isSome=true
def trR (a:List (List Ev))(e:Exn)(own:Int)(ev:Ev):Bool:=(Hq N0 e ⟨a⟩ own ev).getD false
def vio (a:List (List Ev))(e:Ev)(g:Gd):Bool:=decide (g.fType=e.fType) && trR a g.fCond g.fVar e
abbrev Lim:=C8
def SS (l:List Sta):Prop:=l.Pairwise (fun x y=>x.fScope<y.fScope)
def opS (l:List Sta)(s t:Int):List Sta:=l.filter (fun x=>decide (x.fScope<s))++(⟨s,t⟩:Sta)::l.filter (fun x=>decide (s<x.fScope))
theorem opS_mem {l:List Sta}{s t:Int}{x:Sta}(h:x∈opS l s t):x=⟨s,t⟩\/x∈l:=by
 unfold opS at h
 grind
theorem zzq {l:List Sta}(h:SS l)(s t:Int):SS (opS l s t):=by
 unfold opS SS
 rw [pairwise_append]
 refine ⟨h.filter _,aK.2 ⟨fun x hx=>by simp_all,h.filter _⟩,fun x hx y hy=>?_⟩
 grind
theorem zxc (l:List Sta)(s t:Int):(opS l s t).length<=l.length+1:=by
 unfold opS
 rw [length_append,aJ]
 induction l with
 |nil=>simp
 |cons x l ih =>
  grind
def keP (l:List Sta)(t:Int)(x:Lim):Bool:=match l.find? (fun s=>decide (s.fScope=x.fScope)) with|some s=>decide (aC .i64 (t-s.fTime)<=x.fSpan)|none=>false
theorem zgs (a b:Int):cmpI a b<0 ↔ a<b:=by unfold cmpI;split<;>(try split)<;>omega
def opL (l:List Sta)(ss:List Int)(t:Int):List Sta:=ss.foldl (fun l s=>opS l s t) l
theorem zvx (t:Int):∀ (ss:List Int) {l:List Sta},SS l->SS (opL l ss t)
 |[],_,h=>h
 |s::ss,l,h=>zvx t ss (zzq h s t)
theorem zrd (t:Int):∀ (ss:List Int) (l:List Sta),(opL l ss t).length<=l.length+ss.length
 |[],l=>by simp [opL]
 |s::ss,l=>by
  have h1:=zrd t ss (opS l s t)
  have h2:=zxc l s t
  have h3:opL l (s::ss) t=opL (opS l s t) ss t:=rfl
  rw [h3,aJ];omega
theorem opL_mem (t:Int):∀ (ss:List Int) {l:List Sta} {x:Sta},x∈opL l ss t->(x.fScope∈ss/\x.fTime=t)\/x∈l
 |[],l,x,h=>aY h
 |s::ss,l,x,h=>by
  rcases opL_mem t ss (l:=opS l s t) h with k|k
  ·simp_all
  ·rcases opS_mem k with q|q
   all_goals simp_all
def clP (cs:List Int)(x:Sta):Bool:=cs.any fun y=>decide (x.fScope=y)
abbrev ncl (x:Ed)(s:Sta):Bool:=!clP x.fCloses s
abbrev cf0:Cf:=⟨0,[],[]⟩
def hasI (l:List Int)(n:Int):Bool:=l.any fun y=>decide (n=y)
def zo8 (a:Aut)(s:Int):List Gd:=match a.fStates[s.toNat]? with|some s=>s.fGuards|none=>[]
def chE (x:Ed):List Exn:=x.fChecks.filterMap Bp
def ckP (x:Ed)(env:List (List Ev)):Bool:=(chE x).all (fun y=>trR env y (-1) ev0)
def gdP (a:Aut)(c:Cf)(x:Ed)(env:List (List Ev))(e:Ev):Bool:=(zo8 a c.fState).any (fun g=>!hasI x.fInside g.fScope && vio env e g)
def stN (c:Cf)(x:Ed)(e:Ev):List Sta:=opL c.fStarts x.fOpens e.fTime
def bdN (c:Cf)(x:Ed)(e:Ev):List Bd:=c.fBindings++[⟨x.fVar,F7 e⟩]
def coP (a:Aut)(held:List Ev)(c:Cf)(x:Ed)(e:Ev):Option Cf :=
 if x.fType=e.fType/\gdP a c x (enH held c.fBindings) e=false/\trR (enH held c.fBindings) x.fCond x.fVar e=true/\x.fLimits.all (keP (stN c x e) e.fTime)=true/\ckP x (enH (e::held) (bdN c x e))=true then some ⟨x.fTo,bdN c x e,(stN c x e).filter (ncl x)⟩ else none
structure CB (held:List Ev) (a:Aut) (k:Nat) (c:Cf):Prop where
 st:0<=c.fState/\c.fState<a.fStates.length
 bd:BdOk held a.fVars c.fBindings
 ss:SS c.fStarts
 lb:c.fBindings.length<=k
 ls:c.fStarts.length<=100*k
structure CxA (a:Aut) (held:List Ev):Prop where
 wf:WfA a
 ok:AOk a
 lo:∀ x∈a.fEdges,x.fOpens.length<=100
 lh:held.length<=10000
theorem zxz {x:Ed}{ys:List Exn}(h:x.fChecks=ys.map Ao)(hk:k<ys.length)(Q:Exn->Option β):idxD Bp x.fChecks (k:Int) Q=Q ys[k]:=by
 unfold idxD
 rw [if_pos (by omega),h]
 simp [hk,Ub]
abbrev Mp:=List (Int×Bool)
section
variable {β:Type}
theorem y0h {ix:List (Option Nat)}{os:List Mp}{j:Nat}{l:Mp}(hl:os[j]? = some l)(hs:Srt l)(k:Int)(v:Bool)(c:Ars Mp->Option β):aup (ix,os) j k v c=c (ix,os.set j (sput l k v)):=by
 unfold aup
 simp only [hl]
 rw [if_pos (show (l.map (·.1)).Pairwise (· < ·) from hs)]
theorem zri {n:Nat}(h:n<=1000000)(k:Nat->Option β):mkm (n:Int) 8 k=k n:=by unfold mkm;grind
theorem zt1 (i:Nat)(x:Option β):are i x=x:=by unfold are;rfl
end
structure Im (l:Mp):Prop where
 srt:Srt l
 all:∀ p∈l,p.2=true/\0<=p.1/\p.1<16
def has (l:Mp)(v:Int):Prop:=v∈l.map (·.1)
theorem zn4 {l:Mp}{k:Int}{v:Bool}:∀ p,p∈sput l k v->p=(k,v)\/p∈l:=by
 induction l with
 |nil=>intro p hp;simpa [sput] using hp
 |cons q r ih =>
  obtain ⟨a,b⟩:=q
  intro p hp
  simp only [sput] at hp
  grind
theorem Im.put {l:Mp}(h:Im l){v:Int}(hv:0<=v/\v<16):Im (sput l v true) :=
 ⟨Nv h.srt,fun p hp=>(zn4 p hp).elim (fun e=>by rw [e];exact ⟨rfl,hv⟩) (h.all p)⟩
variable {x:Int}
theorem has_put {l:Mp}{v:Int}:has (sput l v true) x ↔ x=v\/has l x:=zn3 x
structure OsOk (k:Nat) (os:List Mp):Prop where
 len:os.length=k
 map:∀ l∈os,Im l
def hasO (os:List Mp)(s:Nat)(v:Int):Prop:=∃ l,os[s]? = some l/\has l v
variable {os:List Mp}
theorem OsOk.at (h:OsOk k os){s:Nat}(hs:s<k):∃ l,os[s]? = some l/\Im l:=by
 have hs':s<os.length:=by rw [h.len];exact hs
 exact ⟨os[s],aM hs',h.map _ (aF hs')⟩
theorem OsOk.put (h:OsOk k os){s:Nat}{l:Mp}(hl:os[s]? = some l){v:Int}(hv:0<=v/\v<16):OsOk k (os.set s (sput l v true))/\∀ t x,hasO (os.set s (sput l v true)) t x ↔ hasO os t x\/(t=s/\x=v):=by
 obtain ⟨hs,hg⟩:=List.getElem?_eq_some_iff.1 hl
 have hm:Im l:=by rw [<-hg];exact h.map _ (aF hs)
 refine ⟨⟨by rw [length_set];exact h.len,fun q hq=>?_⟩,fun t x=>?_⟩
 ·rcases mem_or_eq_of_mem_set hq with h'|h'
  ·exact h.map q h'
  ·rw [h'];exact hm.put hv
 ·unfold hasO
  rw [getElem?_set]
  by_cases e:s=t
  ·subst e
   rw [if_pos rfl,if_pos hs]
   constructor
   ·rintro ⟨q,hq,hx⟩
    injection hq with hq
    subst hq
    exact (has_put.1 hx).elim (fun e=>aY ⟨rfl,e⟩) (fun hx=>aW ⟨l,hl,hx⟩)
   ·rintro (⟨q,hq,hx⟩|⟨_,e⟩)
    ·rw [hl] at hq;injection hq with hq;subst hq
     exact ⟨_,rfl,has_put.2 (aY hx)⟩
    ·exact ⟨_,rfl,has_put.2 (aW e)⟩
  grind
def OccV (v:Int)(e:Exn):Prop:=∃ i:Nat,i<16/\v=(i:Int)/\Occ i e
theorem Ys {es:List Exn}(h:k<es.length)(K:Exn->Option β):idxD Bp (es.map Ao) (k:Int) K=K es[k]:=by
 unfold idxD
 rw [if_pos (by omega)]
 simp only [Int.toNat_natCast,getElem?_map,aM h,Option.map_some,Ub]
def OwnG (a:Aut)(t:Nat)(x:Int):Prop:=∃ st,a.fStates[t]? = some st/\∃ g∈st.fGuards,OccV x g.fCond
def OwnX (ed:Ed)(x:Int):Prop:=∃ e∈chE ed++[ed.fCond],OccV x e
def OwnV (a:Aut)(t:Nat)(x:Int):Prop:=OwnG a t x\/∃ ed∈a.fEdges,ed.fFrom=(t:Int)/\OwnX ed x
inductive Rd (a:Aut):Nat->Int->Prop
 |own (t:Nat) (x:Int) (h:OwnV a t x):Rd a t x
 |step (ed:Ed) (he:ed∈a.fEdges) (t s:Nat) (x:Int) (ht:ed.fFrom=(t:Int)) (hs:ed.fTo=(s:Int)) (h:Rd a s x):Rd a t x
theorem zp7 (h:OccV x e):0<=x/\x<16:=by obtain ⟨i,hi,e,_⟩:=h;omega
theorem zp6 {a:Aut}{t:Nat}(h:OwnV a t x):0<=x/\x<16:=by
 rcases h with ⟨_,_,_,_,h⟩|⟨_,_,_,_,_,h⟩<;>exact zp7 h
theorem ztv {a:Aut}{t:Nat}(h:Rd a t x):0<=x/\x<16:=by
 induction h with
 |own t x h=>exact zp6 h
 |step _ _ _ _ _ _ _ _ ih=>exact ih
theorem zrm:Im []:=⟨by simp [Srt],by simp⟩
theorem OsOk.push (h:OsOk k os):OsOk (k+1) (os++[[]]):=⟨by rw [length_append,h.len];rfl,fun l hl=>(aU.1 hl).elim (h.map l) (fun hl=>by rw [aN.1 hl];exact zrm)⟩
open Classical in
inductive Bk (bk:List (List Int)):Nat->Nat->Prop
 |refl (s:Nat):Bk bk s s
 |step (t y s:Nat) (h:(y:Int)∈bk.getD s []) (ht:Bk bk t y):Bk bk t s
structure BkOk (n:Nat) (bk:List (List Int)):Prop where
 len:bk.length=n
 big:∀ q∈bk,q.length<=1100000
 mem:∀ q∈bk,∀ y∈q,0<=y/\y<(n:Int)
structure Sp (n:Nat) (bk:List (List Int)) (v:Int) (os:List Mp) (ss:Nat->Prop) (os':List Mp):Prop where
 ok:OsOk n os'
 mono:∀ t x,hasO os t x->hasO os' t x
 snd:∀ t x,hasO os' t x->hasO os t x\/(x=v/\∃ s,ss s/\Bk bk t s)
 mark:∀ s,ss s->hasO os' s v
 clo:∀ t,hasO os' t v->hasO os t v\/∀ y:Nat,(y:Int)∈bk.getD t []->hasO os' y v
section
variable {β α:Type}
theorem Yh (a b:Option β):nxt ([]:List α) a b=a:=by unfold nxt;rfl
theorem Y9 (x:α)(l:List α)(a b:Option β):nxt (x::l) a b=b:=by unfold nxt;rfl
end
structure Mk (a:Aut) (bk:List (List Int)) (os:List Mp):Prop where
 ok:OsOk a.fStates.length os
 snd:∀ t x,hasO os t x->Rd a t x
 clo:∀ t x,hasO os t x->∀ y:Nat,(y:Int)∈bk.getD t []->hasO os y x
structure BkA (a:Aut) (bk:List (List Int)):Prop where
 ok:BkOk a.fStates.length bk
 mem:∀ (t y:Nat),t<a.fStates.length->((y:Int)∈bk.getD t [] ↔ ∃ ed∈a.fEdges,ed.fTo=(t:Int)/\ed.fFrom=(y:Int))
open Classical in
noncomputable def Il (a:Aut):List Mp:=(range a.fStates.length).map fun t=>((range 16).filter (fun i:Nat=>decide (Rd a t (i:Int)))).map (fun i:Nat=>((i:Int),true))
open Classical in
theorem zvf (a:Aut):OsOk a.fStates.length (Il a)/\∀ t x,hasO (Il a) t x ↔ t<a.fStates.length/\Rd a t x:=by
 unfold Il
 refine ⟨⟨by simp,fun l hl=>?_⟩,fun t x=>?_⟩
 ·obtain ⟨t,_,rfl⟩:=aX.1 hl
  refine ⟨?_,fun p hp=>?_⟩
  ·unfold Srt
   rw [map_map,pairwise_map]
   refine Pairwise.imp (fun {a b} (h:a<b)=>?_) (pairwise_lt_range.filter _)
   simp_all
  grind
 ·unfold hasO has
  constructor
  ·grind
  ·rintro ⟨h1,h2⟩
   refine ⟨_,by rw [getElem?_map,getElem?_range h1];rfl,?_⟩
   rw [map_map]
   have hb:=ztv h2
   refine aX.2 ⟨x.toNat,mem_filter.2 ⟨mem_range.2 (by omega),?_⟩,?_⟩
   all_goals grind
theorem Im.len {l:Mp}(h:Im l):l.length<=16:=by
 have s:Str cmpI (l.map (·.1)):=h.srt.imp (fun q=>(zgs _ _).2 q)
 have key:∀ (q:List Int) (c:Int),q.Pairwise (· < ·)->(∀ x∈q,c<=x/\x<16)->(q.length:Int)<=max 0 (16-c):=fun q=>by
  induction q with
  |nil=>intro c _ _;simp;omega
  |cons y r ih =>
   intro c hp hb
   have h1:=hb y (by simp)
   obtain ⟨p1,p2⟩:=aK.1 hp
   have:=ih (y+1) p2 (fun x hx=>by grind)
   grind
 have:=key (l.map (·.1)) 0 (show (l.map (·.1)).Pairwise (· < ·) from h.srt) (fun x hx=>by
  obtain ⟨p,hp,rfl⟩:=aX.1 hx
  exact (h.all p hp).2)
 grind
end Go.Proofs.YthbogefcfhmpgaaGreat
