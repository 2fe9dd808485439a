/- Layer 8, plainly. -/
import Derived.Test.YthbogefcfhmpgaaGreatK20
set_option linter.unusedVariables false
set_option linter.unusedSimpArgs false
namespace Go.Proofs.YthbogefcfhmpgaaGreat
open Go.RowKit List
open List renaming take_succ_eq_append_getElem->aA,length_map->aB,drop_eq_nil_of_le->aC,getElem_mem->aD,length_take->aF,getElem?_eq_getElem->aG,getElem_take->aJ,take_of_length_le->aK,drop_zero->aL,filter_eq_self->aM,getLast_eq_getElem->aN,foldl_cons->aO,length_zipIdx->aP,pairwise_cons->aQ,mem_iff_getElem->aR,append_nil->aT,filter_eq_nil_iff->aW,find?_cons->aZ,getD_eq_getElem?_getD->bB,take_set_of_le->bC,drop_set_of_lt->bD,length_filterMap_le->bE,mem_singleton->bF,getElem?_drop->bG,filter_append->bH,filter_filter->bI,length_nil->bK,nil_append->bL,getElem_cons_zero->bM,getElem_set_self->bO,length_drop->bP,take_length->bQ,filter_cons->bR,mem_append->bU,replicate->bX
open Int renaming natCast_zero->aE,toNat->bW
open IntKind renaming wrap->aH,bits->bZ
open Nat renaming lt_of_le_of_lt->aS,le_refl->aU,zero_le->aV
open Bool renaming and_eq_true->aX,false_eq_true->bJ,not_eq_true->bN,and_true->bV
open Option renaming getD_some->aY
open Option.some renaming inj->bA
open Or renaming inl->bT,inr->bY
abbrev T16:=Bool×Bool×Bool×Bool×Bool×Bool×Bool×Bool×Bool×Bool×Bool×Bool×Bool×Bool×Bool×Bool
def l16 (t:T16):List Bool:=[t.1,t.2.1,t.2.2.1,t.2.2.2.1,t.2.2.2.2.1,t.2.2.2.2.2.1,t.2.2.2.2.2.2.1,t.2.2.2.2.2.2.2.1,t.2.2.2.2.2.2.2.2.1,t.2.2.2.2.2.2.2.2.2.1,t.2.2.2.2.2.2.2.2.2.2.1,t.2.2.2.2.2.2.2.2.2.2.2.1,t.2.2.2.2.2.2.2.2.2.2.2.2.1,t.2.2.2.2.2.2.2.2.2.2.2.2.2.1,t.2.2.2.2.2.2.2.2.2.2.2.2.2.2.1,t.2.2.2.2.2.2.2.2.2.2.2.2.2.2.2]
theorem Gg (t:T16):(l16 t).length=16:=rfl
def own1 (i:Nat)(e:Exn):Prop:=usV e.fOp=true/\e.fVar=(i:Int)
theorem y9l (n:Nat)(e:Exn)(t:T16):∃ c:T16,Vw n e t=some (0,c)/\∀ i,i<16->((l16 c)[i]? = some true ↔ (l16 t)[i]? = some true\/own1 i e):=by
 unfold Vw;rw [y5v,A0];simp only [A4,Ns];by_cases f:usV e.fOp=true;rotate_left
 ·have d:usV e.fOp=false:=by cases h:usV e.fOp<;>simp_all
  rw [d,Aw];exact ⟨t,rfl,fun i _=>⟨bT,fun h=>h.elim id (fun h=>absurd h.1 f)⟩⟩
 rw [f,Au];have r:¬(0<=e.fVar/\e.fVar<16)->∀ i,i<16->((l16 t)[i]? = some true ↔ (l16 t)[i]? = some true\/own1 i e):=fun h i hi=>⟨bT,fun o=>o.elim id (fun o=>absurd o.2 (by omega))⟩
 by_cases p:0<=e.fVar;rotate_left
 ·rw [if_neg p];simp_all
 rw [if_pos p];by_cases h1:e.fVar<16;rotate_left
 ·rw [if_neg h1];simp_all
 rw [if_pos h1];have key:∀ (j:Nat) (c:T16),e.fVar=(j:Int)->j<16->l16 c=(l16 t).set j true->∀ i,i<16->((l16 c)[i]? = some true ↔ (l16 t)[i]? = some true\/own1 i e):=fun j c s g q i hi=>by
  rw [q,getElem?_set];unfold own1;by_cases m:j=i
  ·subst m;simp [Gg,g,f,s]
  grind
 have:e.fVar=0\/e.fVar=1\/e.fVar=2\/e.fVar=3\/e.fVar=4\/e.fVar=5\/e.fVar=6\/e.fVar=7\/e.fVar=8\/e.fVar=9\/e.fVar=10\/e.fVar=11\/e.fVar=12\/e.fVar=13\/e.fVar=14\/e.fVar=15:=by omega
 rcases this with h|h|h|h|h|h|h|h|h|h|h|h|h|h|h|h
 ·rw [h];exact ⟨_,rfl,key 0 _ h (by decide) rfl⟩
 ·rw [h];exact ⟨_,rfl,key 1 _ h (by decide) rfl⟩
 ·rw [h];exact ⟨_,rfl,key 2 _ h (by decide) rfl⟩
 ·rw [h];exact ⟨_,rfl,key 3 _ h (by decide) rfl⟩
 ·rw [h];exact ⟨_,rfl,key 4 _ h (by decide) rfl⟩
 ·rw [h];exact ⟨_,rfl,key 5 _ h (by decide) rfl⟩
 ·rw [h];exact ⟨_,rfl,key 6 _ h (by decide) rfl⟩
 ·rw [h];exact ⟨_,rfl,key 7 _ h (by decide) rfl⟩
 ·rw [h];exact ⟨_,rfl,key 8 _ h (by decide) rfl⟩
 ·rw [h];exact ⟨_,rfl,key 9 _ h (by decide) rfl⟩
 ·rw [h];exact ⟨_,rfl,key 10 _ h (by decide) rfl⟩
 ·rw [h];exact ⟨_,rfl,key 11 _ h (by decide) rfl⟩
 ·rw [h];exact ⟨_,rfl,key 12 _ h (by decide) rfl⟩
 ·rw [h];exact ⟨_,rfl,key 13 _ h (by decide) rfl⟩
 ·rw [h];exact ⟨_,rfl,key 14 _ h (by decide) rfl⟩
 ·rw [h];exact ⟨_,rfl,key 15 _ h (by decide) rfl⟩
theorem yc0 {x y:Exn}(h:Ay x=Ay y):x=y:=by
 have:=congrArg C8 h;rw [Mn,Mn] at this;exact bA this
variable {e:Exn}
theorem y7r {i:Nat}{l:List (Nat×Exn)}(j:e.fArgs=l.map (fun p=>Ay p.2)):Occ i e ↔ own1 i e\/∃ p∈l,Occ i p.2:=by
 constructor
 ·intro h;cases h with
  |here _ h g=>exact bT ⟨h,g⟩
  |sub _ y d h =>
   rw [j] at d;obtain ⟨p,f,c⟩:=mem_map.1 d;exact bY ⟨p,f,by rw [yc0 c];exact h⟩
 ·rintro (h|⟨p,f,h⟩)
  ·exact .here _ h.1 h.2
  ·exact .sub _ p.2 (by grind) h
theorem zh8 (n:Nat)(l:List (Nat×Exn))(e:Exn)(g:e.fArgs=l.map (fun p=>Ay p.2))(q:l.length<=4000000)
  (f:∀ p∈l,∀ t:T16,∃ c:T16,J8 n p.2 t=some (0,c)/\∀ i,i<16->((l16 c)[i]? = some true ↔ (l16 t)[i]? = some true\/Occ i p.2)) (d:T16) :
  ∀ (m k:Nat) (t:T16),k<=l.length->l.length<m+k->(∀ i,i<16->((l16 t)[i]? = some true ↔ (l16 d)[i]? = some true\/own1 i e\/∃ p∈l.take k,Occ i p.2)) ->
   ∃ c:T16,R3 n (J8 n) e (fun k1_0_0y0 k1_0_0y1 k1_0_0y2 k1_0_0y3 k1_0_0y4 k1_0_0y5 k1_0_0y6 k1_0_0y7 k1_0_0y8 k1_0_0y9 k1_0_0y10 k1_0_0y11 k1_0_0y12 k1_0_0y13 k1_0_0y14 k1_0_0y15=>some (0,(k1_0_0y0,k1_0_0y1,k1_0_0y2,k1_0_0y3,k1_0_0y4,k1_0_0y5,k1_0_0y6,k1_0_0y7,k1_0_0y8,k1_0_0y9,k1_0_0y10,k1_0_0y11,k1_0_0y12,k1_0_0y13,k1_0_0y14,k1_0_0y15))) m ((k:Int),t)=some (0,c)/\∀ i,i<16->((l16 c)[i]? = some true ↔ (l16 d)[i]? = some true\/own1 i e\/∃ p∈l,Occ i p.2)
 |0,k,t,h1,s,_=>by omega
 |m+1,k,t,h1,s,r=>by
  unfold R3;simp only [g,aB,A4,Am];by_cases h:k<l.length
  ·rw [if_pos (by omega),Hk h];obtain ⟨c,o,j⟩:=f l[k] (aD h) t;rw [o,Cn,if_pos rfl,Ai k (by omega)];refine zh8 n l e g q f d m (k+1) c (by omega) (by omega) (fun i hi=>?_);rw [j i hi,r i hi,aA h];simp only [bU,bF];grind
  ·rw [if_neg (by omega)];grind
theorem y45:∀ (s:Nat) (e:Exn),ETr s e->s<=4000000->∀ n,s+1<n->∀ t:T16,∃ d:T16,J8 n e t=some (0,d)/\∀ i,i<16->((l16 d)[i]? = some true ↔ (l16 t)[i]? = some true\/Occ i e):=by
 intro s
 induction s using Nat.strongRecOn with
 |ind s IH =>
  intro e u v n w t;cases u with
  |mk l e h g =>
   obtain ⟨c,rfl⟩:∃ c,n=c + 1:=⟨n-1,by omega⟩;have x:=Xl (l:=l) (fun p f=>(h p f).pos);simp only [J8];obtain ⟨j,r,q⟩:=y9l c e t;rw [r,Cn,Am,A4,if_pos rfl];obtain ⟨d,o,m⟩:=zh8 c l e g (by omega) (fun p f t=>by
    have:=Np f;exact IH p.1 (by omega) p.2 (h p f) (by omega) c (by omega) t) t c 0 j (by omega) (by omega) (fun i hi=>by
     rw [q i hi];simp)
   exact ⟨d,o,fun i hi=>by rw [m i hi,y7r g]⟩
def Fm (t:T16)(k:Nat):List Int:=((l16 t).zipIdx.drop k).filterMap (fun p=>if p.1 then some (p.2:Int) else none)
theorem y52 (t:T16)(k:Nat)(h:k<16):Fm t k=(if (l16 t)[k]'(by rw [Gg];exact h)=true then [(k:Int)] else [])++Fm t (k+1):=by
 unfold Fm;have c:k<(l16 t).zipIdx.length:=by rw [aP,Gg];exact h
 rw [drop_eq_getElem_cons c,filterMap_cons];grind
theorem zh9 (n:Nat)(t:T16)(K:List Int->Option (List Int)):∀ (m k:Nat) (out:List Int),k<=16->16<m+k->out.length<=k->Bv n (0,t) K m ((k:Int),out)=K (out++Fm t k)
 |0,k,out,h1,f,_=>by omega
 |m+1,k,out,h1,f,g=>by
  by_cases h:k=16
  ·subst h;unfold Bv;simp only [A4];rw [if_neg (by omega)];have:Fm t 16=[]:=by unfold Fm;rw [aC (by rw [aP,Gg];omega)];rfl
   rw [this,aT]
  ·have c:k<16:=by omega
   have iha:=zh9 n t K m (k+1) (out++[(k:Int)]) (by omega) (by omega) (by simp;omega);have ihb:=zh9 n t K m (k+1) out (by omega) (by omega) (by omega);rw [y52 t k c];have step:∀ (b:Bool),(l16 t)[k]'(by rw [Gg];exact c)=b->reg (cnd b (app out [(k:Int)] 8 fun x=>Bv n (0,t) K m ((aH .i64 ((k:Int)+1)),x)) (Bv n (0,t) K m ((aH .i64 ((k:Int)+1)),out)))=K (out++((if (l16 t)[k]'(by rw [Gg];exact c)=true then [(k:Int)] else [])++Fm t (k+1))):=fun b d=>by
    rw [d,Ar,C1 (by simp;omega) (by omega),Ai k (by omega),iha,ihb];cases b
    ·rw [Aw];simp
    ·rw [Au];simp
   unfold Bv;simp only [A4,Ns];have:k=0\/k=1\/k=2\/k=3\/k=4\/k=5\/k=6\/k=7\/k=8\/k=9\/k=10\/k=11\/k=12\/k=13\/k=14\/k=15:=by omega
   rcases this with rfl|rfl|rfl|rfl|rfl|rfl|rfl|rfl|rfl|rfl|rfl|rfl|rfl|rfl|rfl|rfl<;>exact step _ rfl
theorem y7z (t:T16)(k:Nat)(v:Int):v∈Fm t k ↔ ∃ i:Nat,k<=i/\i<16/\v=(i:Int)/\(l16 t)[i]? = some true:=by
 unfold Fm;rw [mem_filterMap];constructor
 ·rintro ⟨⟨b,i⟩,hm,f⟩;obtain ⟨j,d,c⟩:=aR.1 hm;rw [getElem_drop,getElem_zipIdx] at c;injection c with n m
  rw [bP,aP,Gg] at d;grind
 ·rintro ⟨i,h1,h,rfl,g⟩;refine ⟨(true,i),?_,by simp⟩;refine aR.2 ⟨i-k,by rw [bP,aP,Gg];omega,?_⟩;grind
theorem zha (f:WfE e)(n:Nat)(m:10000000<n):∃ vs:List Int,Mm n e=some vs/\vs.length<=16/\∀ v,v∈vs ↔ ∃ i:Nat,i<16/\v=(i:Int)/\Occ i e:=by
 obtain ⟨z,d,g⟩:=f;obtain ⟨t,c,j⟩:=y45 z e g d n (by omega) (false,false,false,false,false,false,false,false,false,false,false,false,false,false,false,false);have o:∀ i:Nat,¬(l16 (false,false,false,false,false,false,false,false,false,false,false,false,false,false,false,false))[i]? = some true:=fun i h=>by
  obtain ⟨hi,h⟩:=List.getElem?_eq_some_iff.1 h;rw [Gg] at hi;have:i=0\/i=1\/i=2\/i=3\/i=4\/i=5\/i=6\/i=7\/i=8\/i=9\/i=10\/i=11\/i=12\/i=13\/i=14\/i=15:=by omega
  rcases this with rfl|rfl|rfl|rfl|rfl|rfl|rfl|rfl|rfl|rfl|rfl|rfl|rfl|rfl|rfl|rfl<;>cases h
 refine ⟨Fm t 0,?_,?_,fun v=>?_⟩
 ·unfold Mm;rw [c,Cn];have:=zh9 n t (fun y=>some y) n 0 [] (by omega) (by omega) (by simp);simpa using this
 ·unfold Fm;refine Nat.le_trans (bE _ _) ?_;rw [bP,aP,Gg];omega
 ·rw [y7z];grind
variable {β:Type}
theorem Xm {i len:Nat}(h:i<=len)(k:Nat->Option β):nle (i:Int) len k=k i:=by unfold nle;simp [h]
theorem y68 {a b:Nat}(h:a<=b)(x:Option β):gle a b x=x:=by unfold gle;simp [h]
variable {α:Type}
theorem y2j {l:List α}{lo:Nat}(h:lo<=l.length)(z:α)(k:List α->Option β):clr l lo z k=k (clrL l lo z):=by unfold clr;simp [h]
theorem T9 (i:Nat)(x:Option β):frb i x=x:=by unfold frb;rfl
theorem zie (l:List α)(lo:Nat)(z:α)(h:lo<=l.length):(clrL l lo z).take lo=l.take lo:=by
 unfold clrL;simp_all
theorem znw (l:List α)(lo:Nat)(z:α)(h:lo<=l.length):(clrL l lo z).length=l.length:=by
 unfold clrL;simp;omega
theorem Ju (k:Nat)(h:1<=k)(c:k<=1000000000000):aH .i64 ((k:Int)-1)=((k-1:Nat):Int):=by rw [Cq _ (by omega)];omega
theorem zvn (n:Nat)(a b:Bp):Qq n a b=some (rCmp a b):=by
 unfold Qq rCmp or3 cmpI;simp only [A4,Am];grind
theorem y4k (n:Nat)(a b:Bd):Up n a b=some (Dl a b):=by
 unfold Up;rw [zvn,A0];simp only [A4,Am,Dl,or2];have e:rCmp ⟨a.fRef.fTime,a.fRef.fSource,a.fRef.fSeq⟩ ⟨b.fRef.fTime,b.fRef.fSource,b.fRef.fSeq⟩=rCmp a.fRef b.fRef:=rfl;rw [e];unfold cmpI;grind
theorem zvp (n:Nat)(b a:Ma)(g:b.fBindings.length<=1000000000)(d:a.fBindings.length<=1000000000)(K:Option Int)(f:K=if a.fBindings.length<b.fBindings.length then some (-1) else if b.fBindings.length<a.fBindings.length then some 1 else some 0):∀ (m k:Nat),k<=a.fBindings.length->k<=b.fBindings.length->a.fBindings.length<m+k ->
  Hz n b a K m k=some (lexC Dl (a.fBindings.drop k) (b.fBindings.drop k))
 |0,k,h1,_,i=>by omega
 |m+1,k,h1,j,i=>by
  unfold Hz;simp only [B5,Ar,K8,aB,A4,Au,Aw,Am];by_cases h:k<a.fBindings.length
  ·rw [if_pos (by omega)];by_cases c:k<b.fBindings.length
   ·rw [if_pos (by omega),Ae h,Ae c,B4 _ k h,B4 _ k c];rw [y4k,A0,Ai k (by omega),zvp n b a g d K f m (k+1) (by omega) (by omega) (by omega)];show _=some (or2 (Dl _ _) _);unfold or2;split<;>rfl
   ·rw [if_neg (by omega),f,if_neg (by omega),if_pos (by omega),B4 _ k h,aC (by omega:b.fBindings.length<=k)];rfl
  ·rw [if_neg (by omega),f,aC (by omega:a.fBindings.length<=k)];by_cases c:a.fBindings.length<b.fBindings.length
   ·rw [if_pos c,B4 _ k (by omega:k<b.fBindings.length)];rfl
   ·rw [if_neg c,if_neg (by omega),aC (by omega)];rfl
theorem y49 (n:Nat)(a b:Ma)(f:a.fBindings.length<n)(d:b.fBindings.length<=1000000000)(c:a.fBindings.length<=1000000000):Gt n a b=some (B6 a b):=by
 unfold Gt;have:=zvp n b a d c _ rfl n 0 (by omega) (by omega) (by omega);simp only [aE,aL] at this;rw [show B6 a b=lexC Dl a.fBindings b.fBindings from rfl,<-this];congr 1;simp only [aB,A4];simp_all
theorem zvr (n:Nat)(b a:Cf)(g:b.fStarts.length<=1000000000)(d:a.fStarts.length<=1000000000)(K:Option Int)(f:K=if a.fStarts.length<b.fStarts.length then some (-1) else if b.fStarts.length<a.fStarts.length then some 1 else some 0):∀ (m k:Nat),k<=a.fStarts.length->k<=b.fStarts.length->a.fStarts.length<m+k ->
  Hx n b a K m k=some (lexC Ef (a.fStarts.drop k) (b.fStarts.drop k))
 |0,k,h1,_,i=>by omega
 |m+1,k,h1,j,i=>by
  unfold Hx;simp only [B5,Ar,K7,Hy,aB,A4,Au,Aw,Am];by_cases h:k<a.fStarts.length
  ·rw [if_pos (by omega)];by_cases c:k<b.fStarts.length
   ·rw [if_pos (by omega),Ae h,Ae c,B4 _ k h,B4 _ k c];rw [Ai k (by omega),zvr n b a g d K f m (k+1) (by omega) (by omega) (by omega)];show _=some (or2 (Ef _ _) _);unfold Ef or2 cmpI;generalize a.fStarts[k]=x;generalize b.fStarts[k]=y;simp only [B0,bV,aX,decide_eq_true_eq];grind
   ·rw [if_neg (by omega),f,if_neg (by omega),if_pos (by omega),B4 _ k h,aC (by omega:b.fStarts.length<=k)];rfl
  ·rw [if_neg (by omega),f,aC (by omega:a.fStarts.length<=k)];by_cases c:a.fStarts.length<b.fStarts.length
   ·rw [if_pos c,B4 _ k (by omega:k<b.fStarts.length)];rfl
   ·rw [if_neg c,if_neg (by omega),aC (by omega)];rfl
theorem y9o (n:Nat)(a b:Cf)(g:cfOk a=true)(f:cfOk b=true)(d:a.fBindings.length<n)(c:a.fStarts.length<n):Py n a b=some (Bi a b):=by
 obtain ⟨m,j⟩:=(Ee a).1 g;obtain ⟨i,h⟩:=(Ee b).1 f;unfold Py;rw [y49 n _ _ d i m,A0];have:=zvr n b a h j _ rfl n 0 (by omega) (by omega) (by omega);simp only [aE,aL] at this;simp only [aB,A4,Am];have e:(if (a.fStarts.length:Int)<(b.fStarts.length:Int) then some (-1:Int) else if (b.fStarts.length:Int)<(a.fStarts.length:Int) then some 1 else some 0)=(if a.fStarts.length<b.fStarts.length then some (-1) else if b.fStarts.length<a.fStarts.length then some 1 else some 0):=by
  simp_all
 rw [e,this];show _=some (or3 (cmpI a.fState b.fState) (B6 ⟨a.fBindings⟩ ⟨b.fBindings⟩) _);unfold or3 cmpI;grind
theorem ya0 (n:Nat)(a b:Cf)(d:cfOk a=true)(c:cfOk b=true)(j:1000000000<n):Rt n a b=some (decide (a=b)):=by
 unfold Rt;obtain ⟨i,h⟩:=(Ee a).1 d;obtain ⟨g,f⟩:=(Ee b).1 c;rw [ybx n a b (by omega) (by omega) (by omega) g i f h];rw [A0];congr 1;exact decide_eq_decide.2 (cfCmp_to.zero a b)
theorem zhk (n:Nat)(A:1000000000<n)(l:List Cf)(g:∀ x∈l,cfOk x=true)(F:l.length<=1000000000)(c:Nat)(E:1<=c)(K:Int->List Cf->Option (List Cf))(r:Option (List Cf))
  (B:∀ (i:Nat) (d:List Cf),d.length=l.length->i<=l.length->d.take i=dd l->K (i:Int) d=r) :
  ∀ (m k j:Nat) (d:List Cf),1<=j->k<=c+j-1->c+j<=l.length->l.length<m+j+c->d.length=l.length->d.take k=dd (l.take (c+j))->d.drop (c+j-1)=l.drop (c+j-1)->Lc n c K m ((k:Int),(j:Int),d)=r
 |0,k,j,d,H,h1,y,G,w,v,C=>by omega
 |m+1,k,j,d,H,h1,y,G,w,v,C=>by
  unfold Lc;simp only [aB];rw [y68 (by omega)];simp only [A4];by_cases h:c+j<l.length
  ·have I:∀ i (h1:c+j-1<=i) (y:i<l.length),∃ G:i<d.length,d[i]=l[i]:=fun i h1 y=>by
    refine ⟨by omega,?_⟩;have:=congrArg (fun q=>q[i-(c+j-1)]?) C;simp only [bG,show c+j-1+(i-(c+j-1))=i by omega] at this;rw [aG (by omega),aG y] at this;exact bA this
   obtain ⟨L,J⟩:=I (c+j) (by omega) h;obtain ⟨O,N⟩:=I (c+(j-1)) (by omega) (by omega);rw [if_pos (by omega),Cv (by omega),Dc L,Ju j H (by omega),Cv (by omega),Dc O,J,N];rw [ya0 n _ _ (g _ (aD _)) (g _ (aD _)) A,A0,Am,A4,Ai j (by omega)];have p:l.take (c+(j+1))=l.take (c+j)++[l[c+j]]:=by rw [show c+(j+1)=(c+j)+1 by omega,aA h]
   have o:l.take (c+j)≠[]:=by
    intro e;have:=congrArg length e;rw [aF,bK] at this;omega
   have f:(l.take (c+j)).getLast o=l[c+(j-1)]:=by
    rw [aN];simp only [aJ];congr 1;simp only [aF];omega
   have t:d.drop (c+(j+1)-1)=l.drop (c+(j+1)-1):=by
    have:=congrArg List.tail C;simp only [tail_drop] at this;rw [show c+(j+1)-1=c+j-1+1 by omega];exact this
   by_cases u:l[c+j]=l[c+(j-1)]
   ·rw [if_pos u];refine zhk n A l g F c E K r B m k (j+1) d (by omega) (by omega) (by omega) (by omega) w ?_ t;rw [p,Jn _ _ o,f,if_pos u,aT,v]
   ·rw [if_neg u,Cv (by omega),Dc L,Cv (by omega),T3 (by omega),Ai k (by omega)];have s:∀ z:Cf,(d.set k z).take (k+1)=d.take k++[z]:=fun z=>by
     have M:k<d.length:=by omega
     rw [aA (by simpa using M),bO,bC (aU _)]
    have D:d[c+j]=l[c+j]:=J;refine zhk n A l g F c E K r B m (k+1) (j+1) _ (by omega) (by omega) (by omega) (by omega) (by simpa using w) ?_ ?_
    ·rw [s,p,Jn _ _ o,f,if_neg u,v];exact congrArg (fun q=>dd (l.take (c+j))++[q]) D
    ·rw [bD (by omega)];exact t
  ·rw [if_neg (by omega)];refine B k d w (by omega) ?_;rw [v,aK (by omega)]
theorem zq6 (n:Nat)(t:1000000000<n)(l:List Cf)(f:∀ x∈l,cfOk x=true)(w:l.length<=1000000000)(u:1<=l.length):∀ (m k:Nat),1<=k->k<=l.length->l.length<m+k->dd (l.take k)=l.take k->Q3 n l (some l) m (k:Int)=some (dd l)
 |0,k,v,h1,z,_=>by omega
 |m+1,k,v,h1,z,s=>by
  unfold Q3;simp only [aB,A4];by_cases h:k<l.length
  ·rw [if_pos (by omega),Cv h,Dc h,Ju k v (by omega),Cv (by omega),Dc (by omega)];rw [ya0 n _ _ (f _ (aD _)) (f _ (aD _)) t,A0,A4,Ai k (by omega)];have q:l.take (k+1)=l.take k++[l[k]]:=aA h;have o:l.take k≠[]:=by
    intro e;have:=congrArg length e;rw [aF,bK] at this;omega
   have d:(l.take k).getLast o=l[k-1]:=by
    rw [aN];simp only [aJ];congr 1;simp only [aF];omega
   by_cases r:l[k]=l[k-1]
   ·rw [if_pos r,Xm (by omega)];have:=zhk n t l f w k v (fun k2_1_0y0 k2_1_0y1=>nle k2_1_0y0 k2_1_0y1.length fun j =>
     clr k2_1_0y1 j (⟨0,[],[]⟩:A1) fun g =>
     sls g 0 k2_1_0y0 fun c=>some c) (some (dd l)) (fun i p B hi y=>by
      show nle (i:Int) p.length (fun j=>clr p j (⟨0,[],[]⟩:A1) fun g=>sls g 0 (i:Int) fun c=>some c)=some (dd l);rw [Xm (by omega),y2j (by omega)];have:=Dk (l:=clrL p i (⟨0,[],[]⟩:A1)) (a:=0) (b:=i) (aV _) (by rw [znw _ _ _ (by omega)];omega) (fun c=>some c);simp only [aE] at this;rw [this,aL,zie _ _ _ (by omega),y]) n k 1 l (by omega) (by omega) (by omega) (by omega) rfl (by rw [q,Jn _ _ o,d,if_pos r,aT,s]) rfl
    have A:((1:Nat):Int)=1:=rfl;rw [A] at this;exact this
   ·rw [if_neg r];refine zq6 n t l f w u m (k+1) (by omega) (by omega) (by omega) ?_;rw [q,Jn _ _ o,d,if_neg r,s]
  ·rw [if_neg (by omega)];rw [aK (by omega)] at s;rw [s]
theorem ya4 (n:Nat)(d:1000000000<n)(l:List Cf)(c:∀ x∈l,cfOk x=true)(f:l.length<=1000000000):V2 n l=some (dd l):=by
 unfold V2;simp only [aB,A4];by_cases h:l.length<2
 ·rw [if_pos (by omega)]
  match l,h with
  |[],_=>rfl
  |[x],_=>rfl
 ·rw [if_neg (by omega)];refine zq6 n d l c f (by omega) n 1 (by omega) (by omega) (by omega) ?_
  match l,h with
  |[],h=>exact absurd (by simp) h
  |[x],h=>exact absurd (by simp) h
  |x::y::q,_=>rfl
theorem y07 (n:Nat)(h:1000000000<n)(l:List Cf)(c:∀ x∈l,cfOk x=true)(f:l.length<=1000000000):Si n l=some (setL Bi l):=by
 unfold Si;rw [zv8 cfCmp_to n l c f];simp only [zij,T9,Ar];have d:=N7 Bi l;rw [ya4 n h _ (fun x g=>c x (d.mem_iff.1 g)) (by rw [d.length_eq];exact f),Cn,y23 cfCmp_to]
theorem zpr (n:Nat)(p:1000000000<n)(x:Cf)(o:cfOk x=true)(l:List Cf)(c:∀ x∈l,cfOk x=true)(q:l.length<=1000000)(K:Int->Option (List Cf))(r:Option (List Cf))
  (g:∀ i:Nat,i<=l.length->(∀ y∈l.take i,Bi y x<0)->(∀ h:i<l.length,¬Bi l[i] x<0)->K i=r):∀ (m k:Nat),k<=l.length->l.length<m+k->(∀ y∈l.take k,Bi y x<0)->Ii n x l K m (k:Int)=r
 |0,k,h1,s,_=>by omega
 |m+1,k,h1,s,j=>by
  unfold Ii;simp only [B5,Ar,Lg,aB,A4,Aw];by_cases h:k<l.length
  ·rw [if_pos (by omega),Ae h,y9o n _ x (c _ (aD h)) o (by have:=(Ee _).1 (c _ (aD h));omega) (by have:=(Ee _).1 (c _ (aD h));omega),A0];by_cases f:Bi l[k] x<0
   ·rw [if_pos f,Ai k (by omega)];refine zpr n p x o l c q K r g m (k+1) (by omega) (by omega) (fun y d=>?_);rw [aA h,bU,bF] at d;rcases d with d|d
    ·exact j y d
    ·rw [d];exact f
   ·rw [if_neg f];exact g k h1 j (fun _=>f)
  ·rw [if_neg (by omega)];exact g k h1 j (fun t=>absurd t h)
theorem zwq (x:Cf):∀ (l:List Cf) (i:Nat),i<=l.length->(∀ y∈l.take i,Bi y x<0)->(∀ h:i<l.length,¬Bi l[i] x<0)->insU Bi x l=if ∃ h:i<l.length,Bi l[i] x=0 then l else l.take i++x::l.drop i
 |[],i,h1,_,_=>by
  have:i=0:=by simpa using h1
  subst this;simp [insU]
 |y::l,0,_,_,c=>by
  have:=c (by simp);simp only [bM] at this;unfold insU;rw [if_neg this];simp_all
 |y::l,i+1,h1,d,c=>by
  have g:=d y (by simp);unfold insU;rw [if_pos g,zwq x l i (by simpa using h1) (fun z f=>d z (by simp [f])) (fun h=>by simp_all)];by_cases q:∃ h:i<l.length,Bi l[i] x=0;all_goals simp_all
theorem y0o (n:Nat)(t:1000000000<n)(x:Cf)(p:cfOk x=true)(l:List Cf)(c:∀ x∈l,cfOk x=true)(u:l.length<=1000000):M3 n l x=some (insU Bi x l):=by
 unfold M3;refine zpr n t x p l c u _ _ (fun i hi h1 v=>?_) n 0 (by omega) (by omega) (by simp);rw [zwq x l i hi h1 v];simp only [B5,Ar,Lh,aB,A4,Aw];have o:∀ z:Cf,z=x->(sls l 0 (i:Int) fun m=>app ([]:List Cf) m 56 fun j=>app j [z] 56 fun g=>sls l (i:Int) ((l.length:Nat):Int) fun f=>app g f 56 fun d=>some d)=some (l.take i++x::l.drop i):=fun z s=>by
  subst s;have r:=Dk (l:=l) (a:=0) (b:=i) (aV _) hi (fun m=>app ([]:List Cf) m 56 fun j=>app j [z] 56 fun g=>sls l (i:Int) ((l.length:Nat):Int) fun f=>app g f 56 fun d=>some d);simp only [aE] at r;rw [r,aL,C1 (by simp;omega) (by omega),bL,C1 (by simp;omega) (by omega),Dk hi (aU _),C1 (by simp;omega) (by omega),bQ];simp
 by_cases h:i<l.length
 ·rw [if_pos (by omega),Ae h,y9o n _ x (c _ (aD h)) p (by have:=(Ee _).1 (c _ (aD h));omega) (by have:=(Ee _).1 (c _ (aD h));omega),A0];by_cases q:Bi l[i] x=0;all_goals simp_all
 grind
variable {l:List Cf}
theorem zwo {x:Cf}(d:cfOk x=true)(f:∀ y∈l,cfOk y=true):∀ y∈insU Bi x l,cfOk y=true:=fun y c=>by
 rcases (Xg cfCmp_to x y l).1 c with h|h
 all_goals simp_all
theorem y41 {s:List Cf}(d:∀ y∈s,cfOk y=true)(f:∀ y∈l,cfOk y=true):∀ y∈puts Bi s l,cfOk y=true:=fun y c=>by
 rcases (Ji cfCmp_to y l s).1 c with h|h
 ·exact d y h
 ·exact f y h
theorem y9z (n:Nat)(a b:Ma)(c:maOk a=true)(f:maOk b=true)(d:1000000000<n):Rs n a b=some (decide (a=b)):=by
 unfold Rs;rw [f_ma n _ _ (by have:=(Ec _).1 c;exact aS this d) (by omega) ((Ec _).1 f) ((Ec _).1 c)];rw [A0];congr 1;exact decide_eq_decide.2 (Cl.zero a b)
theorem zhj (n:Nat)(A:1000000000<n)(l:List Ma)(g:∀ x∈l,maOk x=true)(F:l.length<=1000000000)(c:Nat)(E:1<=c)(K:Int->List Ma->Option (List Ma))(r:Option (List Ma))
  (B:∀ (i:Nat) (d:List Ma),d.length=l.length->i<=l.length->d.take i=dd l->K (i:Int) d=r) :
  ∀ (m k j:Nat) (d:List Ma),1<=j->k<=c+j-1->c+j<=l.length->l.length<m+j+c->d.length=l.length->d.take k=dd (l.take (c+j))->d.drop (c+j-1)=l.drop (c+j-1)->K1 n c K m ((k:Int),(j:Int),d)=r
 |0,k,j,d,H,h1,y,G,w,v,C=>by omega
 |m+1,k,j,d,H,h1,y,G,w,v,C=>by
  unfold K1;simp only [aB];rw [y68 (by omega)];simp only [A4];by_cases h:c+j<l.length
  ·have I:∀ i (h1:c+j-1<=i) (y:i<l.length),∃ G:i<d.length,d[i]=l[i]:=fun i h1 y=>by
    refine ⟨by omega,?_⟩;have:=congrArg (fun q=>q[i-(c+j-1)]?) C;simp only [bG,show c+j-1+(i-(c+j-1))=i by omega] at this;rw [aG (by omega),aG y] at this;exact bA this
   obtain ⟨L,J⟩:=I (c+j) (by omega) h;obtain ⟨O,N⟩:=I (c+(j-1)) (by omega) (by omega);rw [if_pos (by omega),Cv (by omega),Dc L,Ju j H (by omega),Cv (by omega),Dc O,J,N];rw [y9z n _ _ (g _ (aD _)) (g _ (aD _)) A,A0,Am,A4,Ai j (by omega)];have p:l.take (c+(j+1))=l.take (c+j)++[l[c+j]]:=by rw [show c+(j+1)=(c+j)+1 by omega,aA h]
   have o:l.take (c+j)≠[]:=by
    intro e;have:=congrArg length e;rw [aF,bK] at this;omega
   have f:(l.take (c+j)).getLast o=l[c+(j-1)]:=by
    rw [aN];simp only [aJ];congr 1;simp only [aF];omega
   have t:d.drop (c+(j+1)-1)=l.drop (c+(j+1)-1):=by
    have:=congrArg List.tail C;simp only [tail_drop] at this;rw [show c+(j+1)-1=c+j-1+1 by omega];exact this
   by_cases u:l[c+j]=l[c+(j-1)]
   ·rw [if_pos u];refine zhj n A l g F c E K r B m k (j+1) d (by omega) (by omega) (by omega) (by omega) w ?_ t;rw [p,Jn _ _ o,f,if_pos u,aT,v]
   ·rw [if_neg u,Cv (by omega),Dc L,Cv (by omega),T3 (by omega),Ai k (by omega)];have s:∀ z:Ma,(d.set k z).take (k+1)=d.take k++[z]:=fun z=>by
     have M:k<d.length:=by omega
     rw [aA (by simpa using M),bO,bC (aU _)]
    have D:d[c+j]=l[c+j]:=J;refine zhj n A l g F c E K r B m (k+1) (j+1) _ (by omega) (by omega) (by omega) (by omega) (by simpa using w) ?_ ?_
    ·rw [s,p,Jn _ _ o,f,if_neg u,v];exact congrArg (fun q=>dd (l.take (c+j))++[q]) D
    ·rw [bD (by omega)];exact t
  ·rw [if_neg (by omega)];refine B k d w (by omega) ?_;rw [v,aK (by omega)]
theorem zq5 (n:Nat)(t:1000000000<n)(l:List Ma)(f:∀ x∈l,maOk x=true)(w:l.length<=1000000000)(u:1<=l.length):∀ (m k:Nat),1<=k->k<=l.length->l.length<m+k->dd (l.take k)=l.take k->Oc n l (some l) m (k:Int)=some (dd l)
 |0,k,v,h1,z,_=>by omega
 |m+1,k,v,h1,z,s=>by
  unfold Oc;simp only [aB,A4];by_cases h:k<l.length
  ·rw [if_pos (by omega),Cv h,Dc h,Ju k v (by omega),Cv (by omega),Dc (by omega)];rw [y9z n _ _ (f _ (aD _)) (f _ (aD _)) t,A0,A4,Ai k (by omega)];have q:l.take (k+1)=l.take k++[l[k]]:=aA h;have o:l.take k≠[]:=by
    intro e;have:=congrArg length e;rw [aF,bK] at this;omega
   have d:(l.take k).getLast o=l[k-1]:=by
    rw [aN];simp only [aJ];congr 1;simp only [aF];omega
   by_cases r:l[k]=l[k-1]
   ·rw [if_pos r,Xm (by omega)];have:=zhj n t l f w k v (fun k2_1_0y0 k2_1_0y1=>nle k2_1_0y0 k2_1_0y1.length fun j =>
     clr k2_1_0y1 j (⟨[]⟩:Aa) fun g =>
     sls g 0 k2_1_0y0 fun c=>some c) (some (dd l)) (fun i p B hi y=>by
      show nle (i:Int) p.length (fun j=>clr p j (⟨[]⟩:Aa) fun g=>sls g 0 (i:Int) fun c=>some c)=some (dd l);rw [Xm (by omega),y2j (by omega)];have:=Dk (l:=clrL p i (⟨[]⟩:Aa)) (a:=0) (b:=i) (aV _) (by rw [znw _ _ _ (by omega)];omega) (fun c=>some c);simp only [aE] at this;rw [this,aL,zie _ _ _ (by omega),y]) n k 1 l (by omega) (by omega) (by omega) (by omega) rfl (by rw [q,Jn _ _ o,d,if_pos r,aT,s]) rfl
    have A:((1:Nat):Int)=1:=rfl;rw [A] at this;exact this
   ·rw [if_neg r];refine zq5 n t l f w u m (k+1) (by omega) (by omega) (by omega) ?_;rw [q,Jn _ _ o,d,if_neg r,s]
  ·rw [if_neg (by omega)];rw [aK (by omega)] at s;rw [s]
theorem ya3 (n:Nat)(d:1000000000<n)(l:List Ma)(c:∀ x∈l,maOk x=true)(f:l.length<=1000000000):Tx n l=some (dd l):=by
 unfold Tx;simp only [aB,A4];by_cases h:l.length<2
 ·rw [if_pos (by omega)]
  match l,h with
  |[],_=>rfl
  |[x],_=>rfl
 ·rw [if_neg (by omega)];refine zq5 n d l c f (by omega) n 1 (by omega) (by omega) (by omega) ?_
  match l,h with
  |[],h=>exact absurd (by simp) h
  |[x],h=>exact absurd (by simp) h
  |x::y::q,_=>rfl
theorem y06 (n:Nat)(h:1000000000<n)(l:List Ma)(c:∀ x∈l,maOk x=true)(f:l.length<=1000000000):Mg n l=some (setL B6 l):=by
 unfold Mg;rw [zv8 Cl n l c f];simp only [zij,T9,Ar];have d:=N7 B6 l;rw [ya3 n h _ (fun x g=>c x (d.mem_iff.1 g)) (by rw [d.length_eq];exact f),Cn,y23 Cl]
theorem zpq (n:Nat)(p:1000000000<n)(x:Ma)(o:maOk x=true)(l:List Ma)(c:∀ x∈l,maOk x=true)(q:l.length<=1000000)(K:Int->Option (List Ma))(r:Option (List Ma))
  (g:∀ i:Nat,i<=l.length->(∀ y∈l.take i,B6 y x<0)->(∀ h:i<l.length,¬B6 l[i] x<0)->K i=r):∀ (m k:Nat),k<=l.length->l.length<m+k->(∀ y∈l.take k,B6 y x<0)->Io n x l K m (k:Int)=r
 |0,k,h1,s,_=>by omega
 |m+1,k,h1,s,j=>by
  unfold Io;simp only [B5,Ar,Ln,aB,A4,Aw];by_cases h:k<l.length
  ·rw [if_pos (by omega),Ae h,y49 n _ _ (by have:=(Ec _).1 (c _ (aD h));exact aS this p) ((Ec _).1 o) ((Ec _).1 (c _ (aD h))),A0];by_cases f:B6 l[k] x<0
   ·rw [if_pos f,Ai k (by omega)];refine zpq n p x o l c q K r g m (k+1) (by omega) (by omega) (fun y d=>?_);rw [aA h,bU,bF] at d;rcases d with d|d
    ·exact j y d
    ·rw [d];exact f
   ·rw [if_neg f];exact g k h1 j (fun _=>f)
  ·rw [if_neg (by omega)];exact g k h1 j (fun t=>absurd t h)
theorem zwp (x:Ma):∀ (l:List Ma) (i:Nat),i<=l.length->(∀ y∈l.take i,B6 y x<0)->(∀ h:i<l.length,¬B6 l[i] x<0)->insU B6 x l=if ∃ h:i<l.length,B6 l[i] x=0 then l else l.take i++x::l.drop i
 |[],i,h1,_,_=>by
  have:i=0:=by simpa using h1
  subst this;simp [insU]
 |y::l,0,_,_,c=>by
  have:=c (by simp);simp only [bM] at this;unfold insU;rw [if_neg this];simp_all
 |y::l,i+1,h1,d,c=>by
  have g:=d y (by simp);unfold insU;rw [if_pos g,zwp x l i (by simpa using h1) (fun z f=>d z (by simp [f])) (fun h=>by simp_all)];by_cases q:∃ h:i<l.length,B6 l[i] x=0;all_goals simp_all
theorem y0n (n:Nat)(r:1000000000<n)(x:Ma)(p:maOk x=true)(l:List Ma)(m:∀ x∈l,maOk x=true)(u:l.length<=1000000):M5 n l x=some (insU B6 x l):=by
 unfold M5;refine zpq n r x p l m u _ _ (fun i hi h1 v=>?_) n 0 (by omega) (by omega) (by simp);rw [zwp x l i hi h1 v];simp only [B5,Ar,Lo,aB,A4,Aw];have o:∀ z:Ma,z=x->(sls l 0 (i:Int) fun j=>app ([]:List Ma) j 24 fun g=>app g [z] 24 fun f=>sls l (i:Int) ((l.length:Nat):Int) fun d=>app f d 24 fun c=>some c)=some (l.take i++x::l.drop i):=fun z t=>by
  subst t;have s:=Dk (l:=l) (a:=0) (b:=i) (aV _) hi (fun j=>app ([]:List Ma) j 24 fun g=>app g [z] 24 fun f=>sls l (i:Int) ((l.length:Nat):Int) fun d=>app f d 24 fun c=>some c);simp only [aE] at s;rw [s,aL,C1 (by simp;omega) (by omega),bL,C1 (by simp;omega) (by omega),Dk hi (aU _),C1 (by simp;omega) (by omega),bQ];simp
 by_cases h:i<l.length
 ·rw [if_pos (by omega),Ae h,y49 n _ _ (by have:=(Ec _).1 (m _ (aD h));exact aS this r) ((Ec _).1 p) ((Ec _).1 (m _ (aD h))),A0];by_cases q:B6 l[i] x=0;all_goals simp_all
 grind
theorem zml {x:Ma}(d:maOk x=true){l:List Ma}(f:∀ y∈l,maOk y=true):∀ y∈insU B6 x l,maOk y=true:=fun y c=>by
 rcases (Xg Cl x y l).1 c with h|h
 all_goals simp_all
theorem zvf {s l:List Ma}(d:∀ y∈s,maOk y=true)(f:∀ y∈l,maOk y=true):∀ y∈puts B6 s l,maOk y=true:=fun y c=>by
 rcases (Ji Cl y l s).1 c with h|h
 ·exact d y h
 ·exact f y h
theorem y9m (n:Nat)(d:1000000000<n)(l:List Cf)(c:∀ x∈l,cfOk x=true)(g:l.length<=100000):X7 n l=some (if 4096<(setL Bi l).length then ([],5) else (setL Bi l,0)):=by
 unfold X7;have f:C4 n l=some l:=by unfold C4;exact if_pos (by omega)
 rw [f,Nd,y07 n d l c (by omega)];simp only [Cn,A0,aB,A4];grind
theorem y6w (h:∀ x∈l,cfOk x=true):∀ x∈setL Bi l,cfOk x=true:=fun x c=>h x ((Di cfCmp_to x l).1 c)
def Jo (c:Cf):Bool:=decide (c.fBindings.length<=12) && decide (c.fStarts.length<=12)
theorem zvy (n:Nat)(l:List Cf)(K:Option Bool):∀ (m k:Nat),k<=80->80<m+k->Ik n l K m (k:Int)=if ∀ x∈(l.take 80).drop k,Jo x=true then K else some false
 |0,k,h1,f=>by omega
 |m+1,k,h1,f=>by
  unfold Ik;simp only [B5,Ar,Lk,Lj,aB,A4,Aw,Au];by_cases h:k<l.length
  ·rw [if_pos (by omega)];by_cases i:k<80
   ·rw [if_pos (by omega),Ae h,Ai k (by omega),zvy n l K m (k+1) (by omega) (by omega)];have d:(l.take 80).drop k=l[k]::(l.take 80).drop (k+1):=by
     rw [B4 _ k (by simp;omega),aJ]
    rw [d];simp only [forall_mem_cons];have c:Jo l[k]=true ↔ l[k].fBindings.length<=12/\l[k].fStarts.length<=12:=by simp [Jo]
    simp only [c];by_cases g:l[k].fBindings.length<=12
    ·rw [if_neg (by omega),Ae h];grind
    grind
   grind
  ·rw [if_neg (by omega),aC (by simp;omega)];simp
theorem ybm (n:Nat)(c:80<n)(l:List Cf):V8 n l=some (decide (l.length<=60/\∀ x∈l,Jo x=true)):=by
 unfold V8;have:=zvy n l (some (decide ((((List.map A5 (l)).length:Nat):Int)<=60))) n 0 (by omega) (by omega);simp only [aE,aL] at this;rw [this];simp only [aB];by_cases h:l.length<=60
 ·rw [aK (by omega)];grind
 grind
def Co (e:Ev):Bool:=decide (0<=e.fTime) && (decide (e.fTime<=1099511627776) && (decide (0<=e.fSource) && (decide (e.fSource<8) && (decide (0<=e.fSeq) && decide (e.fSeq<=1099511627776)))))
def idt (e:Ev):J6:=⟨e.fSource,e.fSeq⟩
theorem y4d (n:Nat)(e:Ev):Wg n e=some (Co e):=by
 unfold Wg Co
 simp only [A4]
 repeat' split
 all_goals (simp_all<;>omega)
theorem y0c (n:Nat)(e:Ev):Uf n e=some (Co e):=by
 unfold Uf Co
 simp only [A4]
 repeat' split
 all_goals (simp_all<;>omega)
theorem ybh (n:Nat)(e:Ev):N5 n e=some (idt e):=rfl
theorem y7b (n:Nat)(e:Ev):M7 n e=some ⟨e.fTime,e.fSource,e.fSeq⟩:=rfl
def Bl (e:Ev):Bp:=⟨e.fTime,e.fSource,e.fSeq⟩
def Ck (a b:Ev):Int:=rCmp (Bl a) (Bl b)
theorem ybn (n:Nat)(f:4<=n)(a b:Ev):Wj n a b=some (Ck a b):=by
 obtain ⟨m,rfl⟩:∃ m,n=m+4:=⟨n-4,by omega⟩;unfold Wj Wz;simp only [A0,O2,y55,bV,B0,aX,decide_eq_true_eq];split
 ·rename_i h;obtain ⟨h1,d,c⟩:=h;simp [Ck,rCmp,Bl,or3,cmpI,h1,d,c]
 ·rfl
theorem y5w (n:Nat)(a b:Ev):R0 n a b=some (decide (idt a=idt b)):=by
 unfold R0;simp only [A4];split
 ·rename_i h;simp [idt,h]
 ·rename_i h;simp [idt,h]
def few1 (l:List A9):Bool:=(l.take 40).all (fun v=>decide (v.fText.size<=128)) && decide (l.length<40)
theorem zq3 (n:Nat)(l:List A9)(K:Option Bool):∀ (m k:Nat),k<=l.length->k<=40->40<m+k->Qg n l K m k=if ((l.take 40).drop k).all (fun v=>decide (v.fText.size<=128)) then K else some false
 |0,k,h1,g,f=>by omega
 |m+1,k,h1,g,f=>by
  unfold Qg;simp only [aB,A4];by_cases h:k<l.length
  ·rw [if_pos (by omega)];by_cases i:k<40
   ·rw [if_pos (by omega),Ae h,Ai k (by omega)];have c:k<(l.take 40).length:=by rw [aF];omega
    rw [B4 (l.take 40) k c,all_cons,aJ];by_cases d:l[k].fText.size<=128
    ·rw [if_neg (by omega),zq3 n l K m (k+1) (by omega) (by omega) (by omega)];simp [d]
    grind
   grind
  ·rw [if_neg (by omega),aC (by rw [aF];omega)];simp
theorem y9x (n:Nat)(l:List A9)(c:41<=n):Vf n l=some (few1 l):=by
 unfold Vf few1;have:=zq3 n l (some (decide ((((List.map Af l).length:Nat):Int)<40))) n 0 (by omega) (by omega) (by omega);simp only [aE,aL] at this;rw [this];simp only [aB];split
 ·rename_i h;rw [h];simp;omega
 ·rename_i h;simp only [bN] at h;rw [h];rfl
def fewE (l:List Ev):Bool:=(l.take 20).all (fun e=>decide (e.fValues.length<=12) && few1 e.fValues) && decide (l.length<=12)
theorem zq2 (n:Nat)(l:List Ev)(K:Option Bool)(c:41<=n):∀ (m k:Nat),k<=l.length->k<=20->20<m+k->Qf n l K m k=if ((l.take 20).drop k).all (fun e=>decide (e.fValues.length<=12) && few1 e.fValues) then K else some false
 |0,k,h1,g,f=>by omega
 |m+1,k,h1,g,f=>by
  unfold Qf;simp only [aB,A4,Am];by_cases h:k<l.length
  ·rw [if_pos (by omega)];by_cases j:k<20
   ·rw [if_pos (by omega),Ae h,Ai k (by omega)];have d:k<(l.take 20).length:=by rw [aF];omega
    rw [B4 (l.take 20) k d,all_cons,aJ];by_cases i:l[k].fValues.length<=12
    ·rw [if_neg (by omega),Ae h,y9x n _ c,A0,B0,zq2 n l K c m (k+1) (by omega) (by omega) (by omega)];grind
    grind
   grind
  ·rw [if_neg (by omega),aC (by rw [aF];omega)];simp
theorem y9w (n:Nat)(l:List Ev)(c:41<=n):Ve n l=some (fewE l):=by
 unfold Ve fewE;have:=zq2 n l (some (decide ((((List.map A7 l).length:Nat):Int)<=12))) c n 0 (by omega) (by omega) (by omega);simp only [aE,aL] at this;rw [this];simp only [aB];split
 ·rename_i h;rw [h];simp;omega
 ·rename_i h;simp only [bN] at h;rw [h];rfl
theorem y53 {l:List Ev}(h:fewE l=true):l.length<=12/\∀ e∈l,e.fValues.length<=12:=by
 unfold fewE at h;simp only [aX,decide_eq_true_eq,all_eq_true] at h;refine ⟨h.2,fun e c=>(h.1 e ?_).1⟩;rw [aK (by omega)];exact c
def T8:List Ev->Ev->Bool |[],_=>false |x::_,e=>decide (0<=Ck x e)
def chk:List Ev->List Ev->Int
 |_,[]=>0
 |p,e::r=>if Co e=false then 2 else if T8 p e=true then 14 else if p.any (fun x=>decide (idt x=idt e)) then 7 else chk (e::p) r
def Dz (l:List Ev):Int:=if 4096<l.length then 5 else chk [] l
def Xs (m:List (J6×Bool))(p:List Ev):Prop:=∀ k,(mlk m k).getD false=p.any (fun x=>decide (idt x=k))
variable {κ ν:Type}
theorem zwl [DecidableEq κ](l:List (κ×ν))(k:κ)(v:ν)(c:κ):mlk (mput l k v) c=if c=k then some v else mlk l c:=by
 induction l with
 |nil=>simp [mput,mlk]
 |cons a r ih =>
  obtain ⟨a,x⟩:=a;simp only [mput];by_cases h:k=a
  ·subst h;rw [if_pos rfl];simp only [mlk];simp_all
  ·rw [if_neg h];simp only [mlk,ih];grind
theorem Xs.put {m:List (J6×Bool)}{p:List Ev}(h:Xs m p)(e:Ev):Xs (mput m (idt e) true) (e::p):=fun k=>by
 rw [zwl,any_cons];by_cases c:k=idt e
 ·subst c;simp
 ·rw [if_neg c,h k];grind
variable {k:Nat}
theorem zg6 {l:List Ev}(h:k<l.length):(l.take (k+1)).reverse=l[k]::(l.take k).reverse:=by
 simp_all
theorem zvb {l:List Ev}(c:0<k)(h:k<=l.length):∃ t,(l.take k).reverse=l[k-1]::t:=by
 obtain ⟨j,rfl⟩:∃ j,k=j+1:=⟨k-1,by omega⟩;exact ⟨_,by rw [zg6 (by omega)];rfl⟩
theorem zor (c:0<k)(h:k<=1000000):aH .i64 ((k:Int)-1)=((k-1:Nat):Int):=by rw [Cq _ (by omega)];omega
theorem yab [DecidableEq κ](l:List (κ×ν))(k:κ)(z:ν)(c:ν->Bool->Option β):mgt l k z c=c ((mlk l k).getD z) (mlk l k).isSome:=by unfold mgt;rfl
theorem y64 [DecidableEq κ](l:List (κ×ν))(k:κ)(v:ν)(c:List (κ×ν)->Option β):mst l k v c=c (mput l k v):=by unfold mst;rfl
theorem zw6 (n:Nat)(g:4<=n)(l:List Ev):∀ (m k:Nat) (c:List (J6×Bool)),k<=l.length->l.length<=1000000->l.length<m+k->Xs c (l.take k).reverse ->
  Me n l (some 0) m ((k:Int),c)=some (chk (l.take k).reverse (l.drop k))
 |0,k,_,h1,r,v,_=>by omega
 |m+1,k,c,h1,r,v,q=>by
  unfold Me;simp only [aB,A4,Am];by_cases h:k<l.length
  ·rw [if_pos (by omega),Ae h,Ai k (by omega)];rw [B4 l k h];conv=>rhs;unfold chk
   have p:Xs (mput c (idt l[k]) true) (l.take (k+1)).reverse:=by rw [zg6 h];exact q.put _
   have j:=zw6 n g l m (k+1) _ (by omega) r (by omega) p;rw [zg6 h] at j;have d:=q (idt l[k]);simp only [y4d,A0,ybh,B0,yab,y64,d,ybn n g];by_cases o:Co l[k]=true
   ·have f:¬Co l[k]=false:=by rw [o];simp
    rw [if_pos o,if_neg f];by_cases i:0<k
    ·rw [if_pos (by omega),zor i (by omega),Ae (by omega:k-1<l.length)];obtain ⟨t,s⟩:=zvb (l:=l) i h1
     try simp only [A0,decide_eq_true_eq]
     rw [s] at j ⊢;simp only [T8,decide_eq_true_eq];grind
    ·have u:k=0:=by omega
     subst u;rw [if_neg (by omega)];simp only [take_zero,reverse_nil,any_nil,T8,bJ,if_false] at j ⊢;rw [j]
   ·have f:Co l[k]=false:=by simpa using o
    rw [if_neg o,if_pos f]
  ·rw [if_neg (by omega),aC (by omega)];rfl
theorem ya7 (n:Nat)(l:List Ev)(f:l.length<n)(c:4<=n)(d:l.length<=1000000):Mu n l=some (Dz l):=by
 unfold Mu Dz;simp only [aB,A4];by_cases h:4096<l.length
 ·rw [if_pos (by omega),if_pos h]
 ·rw [if_neg (by omega),if_neg h];have:=zw6 n c l n 0 [] (by omega) d (by omega) (fun k=>rfl);simpa using this
theorem zpo (n:Nat)(l:List Ev)(i:Nat)(hi:i<l.length)(K:Option Int):∀ (m k:Nat),k<=i->l.length<=1000000->i<m+k->Pj n l (i:Int) K m k=if ((l.take i).drop k).any (fun x=>decide (idt x=idt l[i])) then some 7 else K
 |0,k,h1,c,f=>by omega
 |m+1,k,h1,c,f=>by
  unfold Pj;simp only [A4];by_cases h:k<i
  ·rw [if_pos (by omega),Ae (by omega:k<l.length),Ae hi,Ai k (by omega),y5w,A0,A4];have d:k<(l.take i).length:=by rw [aF];omega
   rw [B4 (l.take i) k d,any_cons,aJ,zpo n l i hi K m (k+1) (by omega) c (by omega)];grind
  ·rw [if_neg (by omega),aC (by rw [aF];omega)];simp
theorem zpn (n:Nat)(l:List Ev)(i:Nat)(hi:i<l.length)(K:Option Int):∀ (m k:Nat),k<=i->l.length<=1000000->i<m+k->Pi n l (i:Int) K m k=if ((l.take i).drop k).any (fun x=>decide (idt x=idt l[i])) then some 7 else K
 |0,k,h1,c,f=>by omega
 |m+1,k,h1,c,f=>by
  unfold Pi;simp only [A4];by_cases h:k<i
  ·rw [if_pos (by omega),Ae (by omega:k<l.length),Ae hi,Ai k (by omega),y5w,A0,A4];have d:k<(l.take i).length:=by rw [aF];omega
   rw [B4 (l.take i) k d,any_cons,aJ,zpn n l i hi K m (k+1) (by omega) c (by omega)];grind
  grind
theorem zpp (n:Nat)(l:List Ev)(r:l.length<n):∀ (m k:Nat),k<=l.length->l.length<=1000000->l.length<m+k->Gq n l (some 0) m (k:Int)=some (chk (l.take k).reverse (l.drop k))
 |0,k,h1,p,u=>by omega
 |m+1,k,h1,p,u=>by
  unfold Gq;simp only [aB,A4,Am];by_cases h:k<l.length
  ·rw [if_pos (by omega),Ae h,Ai k (by omega)];rw [B4 l k h];conv=>rhs;unfold chk
   have j:=zpp n l r m (k+1) (by omega) p (by omega);rw [zg6 h] at j;simp only [y0c,A0,B0];by_cases o:Co l[k]=true
   ·have c:¬Co l[k]=false:=by rw [o];simp
    rw [if_pos o,if_neg c];by_cases g:0<k
    ·rw [if_pos (by omega),zor g (by omega),Ae (by omega:k-1<l.length)];obtain ⟨t,q⟩:=zvb (l:=l) g h1;simp only [A0,y7b];rw [Ae h];simp only [A0,zvn];have ec:rCmp ⟨l[k-1].fTime,l[k-1].fSource,l[k-1].fSeq⟩ ⟨l[k].fTime,l[k].fSource,l[k].fSeq⟩=Ck l[k-1] l[k]:=rfl;rw [ec];have f:=zpo n l k h (Gq n l (some 0) m ((k+1:Nat):Int)) n 0 (by omega) p (by omega);simp only [aE,aL] at f;rw [f,j];have i:(l.take k).any (fun x=>decide (idt x=idt l[k]))=(l.take k).reverse.any (fun x=>decide (idt x=idt l[k])):=by rw [any_reverse]
     rw [i,q];simp only [T8,decide_eq_true_eq];grind
    ·have s:k=0:=by omega
     subst s;rw [if_neg (by omega)];have d:=zpn n l 0 h (Gq n l (some 0) m ((0+1:Nat):Int)) n 0 (by omega) p (by omega);simp only [aE,aL] at d;simp only [aE] at d ⊢;rw [d];simp only [take_zero,reverse_nil,any_nil,T8,bJ,if_false] at j ⊢;rw [j]
   ·have c:Co l[k]=false:=by simpa using o
    rw [if_neg o,if_pos c]
  ·rw [if_neg (by omega),aC (by omega)];rfl
theorem y5z (n:Nat)(l:List Ev)(c:l.length<n)(d:l.length<=1000000):Iv n l=some (Dz l):=by
 unfold Iv Dz;simp only [aB,A4];by_cases h:4096<l.length
 ·rw [if_pos (by omega),if_pos h]
 ·rw [if_neg (by omega),if_neg h];have:=zpp n l c n 0 (by omega) d (by omega);simpa using this
abbrev Rf:=Bp
abbrev N0:Nat:=2000000000
abbrev ev0:Ev:=⟨0,0,0,0,[]⟩
theorem zwm [DecidableEq κ](l:List (κ×ν))(k:κ)(z:ν)(c:ν->Bool->Option β):mgv l k z c=c ((mlk l k).getD z) (mlk l k).isSome:=by unfold mgv;rfl
theorem y1e {n:Int}(c:0<=n)(h:n<=1000)(k:Nat->Option β):mkn n 24 k=k n.toNat:=by unfold mkn;grind
theorem y17 (i:Nat)(x:Option β):nst i x=x:=by unfold nst;rfl
theorem y1r (i:Nat)(x:Option β):frr i x=x:=by unfold frr;rfl
theorem Ep {n:Int}{len:Nat}(c:0<=n)(h:n.toNat<len)(x:Option β):ncx n len x=x:=by unfold ncx;rw [if_pos ⟨c,h⟩]
theorem y16 {l:List (List α)}(h:k<l.length)(c:List α->Option β):ntk l k c=c (l.getD k []):=by unfold ntk;simp [h]
theorem y19 {l:List (List α)}(h:k<l.length)(v:List α)(c:List (List α)->Option β):npt l k v c=c (l.set k v):=by unfold npt;rw [if_pos h]
theorem zx8:∀ (l p:List Ev),chk p l=0->(∀ e∈l,Co e=true)/\Str Ck l/\(∀ h t,p=h::t->∀ e∈l,Ck h e<0)
 |[],p,_=>⟨by simp,by simp [Str],by simp⟩
 |e::l,p,h=>by
  unfold chk at h;split at h
  ·cases h
  split at h
  ·cases h
  split at h
  ·cases h
  rename_i h1 g n;obtain ⟨o,m,j⟩:=zx8 l (e::p) h;have f:=j e p rfl;refine ⟨fun x c=>?_,aQ.2 ⟨f,m⟩,fun q t i x c=>?_⟩
  ·grind
  ·have d:Ck q e<0:=by
    subst i;simp only [T8] at g;simpa using g
   rcases mem_cons.1 c with k|k
   ·rw [k];exact d
   ·exact Nr.trans _ _ _ d (f x k)
structure y8w (l:List Ev):Prop where
 pl:∀ e∈l,Co e=true
 st:Str Ck l
 ln:l.length<=4096
theorem z8c {l:List Ev}(h:Dz l=0):y8w l:=by
 unfold Dz at h;split at h
 ·cases h
 ·obtain ⟨a,b,_⟩:=zx8 l [] h;exact ⟨a,b,by omega⟩
def lkH (held:List Ev)(r:Rf):Option Ev:=held.find? (fun e=>decide (Bl e=r))
variable {held:List Ev}
theorem zmg {r:Rf}{e:Ev}(h:lkH held r=some e):Bl e=r/\e∈held:=by
 have h1:=find?_some h;exact ⟨by simpa using h1,mem_of_find?_eq_some h⟩
theorem zmh (h:Str Ck held){e:Ev}(c:e∈held):lkH held (Bl e)=some e:=by
 unfold lkH
 induction held with
 |nil=>simp at c
 |cons x l ih =>
  obtain ⟨h1,d⟩:=aQ.1 h;rw [aZ];rcases mem_cons.1 c with k|k
  ·rw [k];simp
  ·have:Bl x≠Bl e:=fun q=>Nr.lt_ne (h1 e k) q
   simp only [this,decide_false];exact ih d k
theorem y1l (a b:List Ev)(r:Rf):lkH (a++b) r=(lkH a r).or (lkH b r):=by unfold lkH;rw [find?_append]
theorem zko (n:Nat)(r:Rf)(l:List Ev)(c:l.length<=1000000):∀ (m k:Nat),k<=l.length->l.length<m+k->Pf n r l (some (ev0,false)) m (k:Int)=some (match lkH (l.drop k) r with|some e=>(e,true)|none=>(ev0,false))
 |0,k,h1,d=>by omega
 |m+1,k,h1,d=>by
  unfold Pf;simp only [aB,A4];by_cases h:k<l.length
  ·rw [if_pos (by omega),Ae h,B4 l k h,Ai k (by omega),zko n r l c m (k+1) (by omega) (by omega),y7b,A0,Ae h];have:(decide (l[k].fTime=r.fTime) && (decide (l[k].fSource=r.fSource) && (decide (l[k].fSeq=r.fSeq) && true)))=decide (Bl l[k]=r):=by
    cases r;simp [Bl]
   rw [this,A4];unfold lkH;grind
  ·rw [if_neg (by omega),aC (by omega)];rfl
theorem y7h (n:Nat)(r:Rf)(l:List Ev)(c:l.length<=1000000)(d:l.length<n):Uq n l r=some (match lkH l r with|some e=>(e,true)|none=>(ev0,false)):=by
 have:=zko n r l c n 0 (by omega) (by omega);unfold Uq;simp_all
def HM (held:List Ev)(c:List (Rf×Ev)):Prop:=∀ r,mlk c r=lkH held r
theorem y1q (r:Rf):∀ (l:List Ev) (m:List (Rf×Ev)),Str Ck l->mlk (l.foldl (fun m e=>mput m (Bl e) e) m) r=(lkH l r).or (mlk m r)
 |[],m,_=>by simp [lkH]
 |e::l,m,h=>by
  obtain ⟨h1,f⟩:=aQ.1 h;rw [aO,y1q r l _ f,zwl];unfold lkH;rw [aZ];by_cases q:Bl e=r
  ·have:lkH l r=none:=by
    unfold lkH;rw [find?_eq_none];intro x d c;simp only [decide_eq_true_eq] at c;exact Nr.lt_ne (h1 x d) (by rw [q,c])
   unfold lkH at this;rw [this];simp [q]
  grind
def addB (held:List Ev)(vs:List (List Ev))(b:Bd):List (List Ev):=match lkH held b.fRef with|some e=>(if 0<=b.fVar/\b.fVar.toNat<vs.length then vs.set b.fVar.toNat (vs.getD b.fVar.toNat []++[e]) else vs)|none=>vs
def bndV (held:List Ev)(m:Nat)(l:List Bd):List (List Ev):=l.foldl (addB held) (bX m [])
def ev1 (held:List Ev)(l:List Bd)(v:Int):List Ev:=l.filterMap (fun b=>if b.fVar=v then lkH held b.fRef else none)
theorem zgp (held:List Ev)(vs:List (List Ev))(b:Bd):(addB held vs b).length=vs.length:=by
 unfold addB;grind
theorem zxi {vs:List (List Ev)}{b:Bd}(h:∀ q∈vs,q.length<=k):∀ q∈addB held vs b,q.length<=k+1:=by
 unfold addB;grind
theorem zqm (held:List Ev):∀ (l:List Bd) (vs:List (List Ev)),(l.foldl (addB held) vs).length=vs.length
 |[],vs=>rfl
 |b::l,vs=>by rw [aO,zqm held l,zgp]
theorem Nm (held:List Ev)(m:Nat)(l:List Bd):(bndV held m l).length=m:=by unfold bndV;rw [zqm];simp
theorem y5n (held:List Ev)(vs:List (List Ev))(b:Bd)(i:Nat)(hi:i<vs.length):(addB held vs b).getD i []=vs.getD i []++(if b.fVar=(i:Int) then lkH held b.fRef else none).toList:=by
 unfold addB;grind
theorem zqn (held:List Ev)(i:Nat):∀ (l:List Bd) (vs:List (List Ev)),i<vs.length->(l.foldl (addB held) vs).getD i []=vs.getD i []++ev1 held l (i:Int)
 |[],vs,hi=>by simp [ev1]
 |b::l,vs,hi=>by
  rw [aO,zqn held i l _ (by rw [zgp];exact hi),y5n held vs b i hi];unfold ev1;grind
theorem Jk (held:List Ev)(m:Nat)(l:List Bd)(v:Int):evs (bndV held m l) v=if 0<=v/\v<(m:Int) then ev1 held l v else []:=by
 unfold evs;rw [Nm];by_cases h1:v<0
 ·rw [if_pos h1,if_neg (by omega)]
 rw [if_neg h1];by_cases c:(m:Int)<=v
 ·rw [if_pos c,if_neg (by omega)]
 rw [if_neg c,if_pos (by omega)];unfold bndV;rw [zqn held v.toNat l _ (by simp;omega)];grind
theorem y8h (held:List Ev)(l:List Bd)(v:Int):(ev1 held l v).length<=l.length:=bE _ _
theorem y56 {l:List Bd}{v:Int}(h:∀ b∈l,b.fVar≠v):ev1 held l v=[]:=by
 unfold ev1;simp_all
abbrev enH (held:List Ev)(l:List Bd):List (List Ev):=bndV held 16 l
theorem Jm {l:List Bd}(h:l.length<=1000000)(v:Int):(evs (enH held l) v).length<=1000000:=by
 rw [Jk];split
 ·have:=y8h held l v;omega
 ·simp
theorem zkt (n:Nat)(held:List Ev)(j:held.length<=1000000)(u:1000000<n)(x:Nat)(p:x<=16)(l:List Bd)(w:l.length<=1000000)(K:List (List Ev)->Option Aq):∀ (m k:Nat) (vs:List (List Ev)),k<=l.length->l.length<m+k->vs.length=x->(∀ q∈vs,q.length<=k)->Ft n l (x:Int) held x K m ((k:Int),vs)=K ((l.drop k).foldl (addB held) vs)
 |0,k,vs,h1,y,o,g=>by omega
 |m+1,k,vs,h1,y,o,g=>by
  unfold Ft;simp only [aB,A4];by_cases h:k<l.length
  ·rw [if_pos (by omega),Ae h,B4 l k h,Ai k (by omega),y7h n _ held j (by omega),A0,Ar,aO];have s:(⟨l[k].fRef.fTime,l[k].fRef.fSource,l[k].fRef.fSeq⟩:Rf)=l[k].fRef:=rfl;rw [s];have f:∀ c,c=addB held vs l[k]->Ft n l (x:Int) held x K m (((k+1:Nat):Int),c)=K ((l.drop (k+1)).foldl (addB held) (addB held vs l[k])):=fun c r=>by
    subst r;exact zkt n held j u x p l w K m (k+1) _ (by omega) (by omega) (by rw [zgp];exact o) (zxi g)
   cases t:lkH held l[k].fRef with
   |none =>
    simp only [Aw];exact f vs (by unfold addB;rw [t])
   |some e =>
    simp only [Au];by_cases d:0<=l[k].fVar
    ·rw [if_pos d];by_cases i:l[k].fVar<(x:Int)
     ·rw [if_pos i,Ep d (by omega),y16 (by omega)];have v:(vs.getD l[k].fVar.toNat []).length<=k:=by
       rw [bB,aG (by omega),aY];exact g _ (aD _)
      rw [C1 (by grind) (by omega),Ep d (by omega),y19 (by omega)];exact f _ (by unfold addB;simp_all)
     ·rw [if_neg i];exact f vs (by unfold addB;grind)
    ·rw [if_neg d];exact f vs (by unfold addB;grind)
  ·rw [if_neg (by omega),aC (by omega)];rfl
theorem y0f (n:Nat)(g:1000000<n)(held:List Ev)(i:held.length<=1000000)(c:Cf)(h:c.fBindings.length<=1000000):M4 n held c=some ⟨enH held c.fBindings⟩:=by
 unfold M4 Za;rw [y1e (by omega) (by omega),y17,Ar];have:=zkt n held i g 16 (by omega) c.fBindings h (fun k1_0_0y=>frr 13 <| reg <| some ⟨k1_0_0y⟩) n 0 (bX 16 []) (by omega) (by omega) (by simp) (by simp);simp only [aE] at this;have f:bW 16=16:=rfl;have d:((16:Nat):Int)=16:=rfl;rw [f];rw [d] at this;rw [this,y1r,Ar,A0];rfl
def BdOk (held:List Ev)(x:Int)(l:List Bd):Prop:=∀ b∈l,(0<=b.fVar/\b.fVar<x)/\(lkH held b.fRef).isSome=true
theorem zw2 (n:Nat)(held:List Ev)(r:B9)(hm:HM held r.fheld)(x:Nat)(o:x<=16)(l:List Bd)(t:l.length<=1000000)(g:BdOk held (x:Int) l)(K:List (List Ev)->Option Aq):∀ (m k:Nat) (vs:List (List Ev)),k<=l.length->l.length<m+k->vs.length=x->(∀ q∈vs,q.length<=k)->R1 n l r x K m ((k:Int),vs)=K ((l.drop k).foldl (addB held) vs)
 |0,k,vs,h1,v,i,d=>by omega
 |m+1,k,vs,h1,v,i,d=>by
  unfold R1;simp only [aB,A4];by_cases h:k<l.length
  ·obtain ⟨⟨c,w⟩,j⟩:=g _ (aD h);obtain ⟨e,f⟩:=Option.isSome_iff_exists.1 j;have p:(⟨l[k].fRef.fTime,l[k].fRef.fSource,l[k].fRef.fSeq⟩:Rf)=l[k].fRef:=rfl;have s:(vs.getD l[k].fVar.toNat []).length<=k:=by
    rw [bB,aG (by omega),aY];exact d _ (aD _)
   rw [if_pos (by omega),Ae h,B4 l k h,Ai k (by omega),aO,Ep c (by omega),y16 (by omega),p,zwm,hm,f,aY,C1 (by grind) (by omega),Ep c (by omega),y19 (by omega)];have u:addB held vs l[k]=vs.set l[k].fVar.toNat (vs.getD l[k].fVar.toNat []++[e]):=by
    unfold addB;rw [f];simp only;rw [if_pos ⟨c,by omega⟩]
   rw [<-u];exact zw2 n held r hm x o l t g K m (k+1) _ (by omega) (by omega) (by rw [zgp];exact i) (zxi d)
  grind
theorem ybp (n:Nat)(h:1000000<n)(held:List Ev)(r:B9)(hm:HM held r.fheld)(d:0<=r.fa.fVars/\r.fa.fVars<=16)(l:List Bd)(f:l.length<=1000000)(g:BdOk held r.fa.fVars l):W4 n r l=some ⟨bndV held r.fa.fVars.toNat l⟩:=by
 unfold W4;rw [y1e d.1 (by omega),y17,Ar];have c:((r.fa.fVars.toNat:Nat):Int)=r.fa.fVars:=by omega
 have:=zw2 n held r hm r.fa.fVars.toNat (by omega) l f (by rw [c];exact g) (fun k1_0_0y=>frr 13 <| reg <| some ⟨k1_0_0y⟩) n 0 (bX r.fa.fVars.toNat []) (by omega) (by omega) (by simp) (by simp);simp only [aE] at this;rw [this,y1r,Ar];rfl
def EvEq (a b:List (List Ev)):Prop:=∀ v,evs a v=evs b v
theorem y21 {x:Int}(f:0<=x/\x<=16){l:List Bd}(d:BdOk held x l):EvEq (enH held l) (bndV held x.toNat l):=fun v=>by
 rw [Jk,Jk];by_cases h:0<=v/\v<x
 ·grind
 ·rw [if_neg (by omega:¬(0<=v/\v<((x.toNat:Nat):Int)))];split
  ·exact y56 (fun b c q=>by have:=(d b c).1;omega)
  ·rfl
def EvS (a:List (List Ev)):Prop:=∀ v,(evs a v).length<=1000000
def trR (a:List (List Ev))(e:Exn)(own:Int)(ev:Ev):Bool:=(G1 N0 e ⟨a⟩ own ev).getD false
variable {a b:List (List Ev)}
theorem O0 (c:EvEq a b)(m:EvS a)(h:WfE e)(own:Int)(ev:Ev):G1 N0 e ⟨a⟩ own ev=some (trR a e own ev)/\Hb N0 e ⟨b⟩ own ev=some (trR a e own ev):=by
 obtain ⟨z,g,j⟩:=h;obtain ⟨r,d,f⟩:=y08 a b m own ev z e (fun i _=>c i) j g N0 (by decide);have:trR a e own ev=r:=by unfold trR;rw [d];rfl
 rw [this];exact ⟨d,f⟩
theorem y6t (d:∀ i:Nat,Occ i e->evs a (i:Int)=evs b (i:Int))(m:EvS a)(c:EvS b)(j:WfE e)(own:Int)(ev:Ev):trR a e own ev=trR b e own ev:=by
 obtain ⟨z,f,g⟩:=j;obtain ⟨r,h,n⟩:=y08 a b m own ev z e d g f N0 (by decide);have h1:trR a e own ev=r:=by unfold trR;rw [h];rfl
 have o:=(O0 (fun v=>rfl:EvEq b b) c ⟨z,f,g⟩ own ev).2;simp_all
def vio (a:List (List Ev))(e:Ev)(g:Gd):Bool:=decide (g.fType=e.fType) && trR a g.fCond g.fVar e
theorem y0b (d:EvS a){g:Gd}(c:WfE g.fCond)(e:Ev):Pa N0 g ⟨a⟩ e=some (vio a e g):=by
 unfold Pa vio;simp only [B5,Ar,K4,A4];have:=(O0 (fun v=>rfl:EvEq a a) d c g.fVar e).1;rw [this,A0];by_cases h:g.fType=e.fType<;>simp [h]
theorem y5u (c:EvEq a b)(f:EvS a){g:Gd}(d:WfE g.fCond)(e:Ev):S9 N0 g ⟨b⟩ e=some (vio a e g):=by
 unfold S9 vio;simp only [B5,Ar,Mf,A4];have:=(O0 c f d g.fVar e).2;rw [this,A0];by_cases h:g.fType=e.fType<;>simp [h]
abbrev Lim:=C3
def SS (l:List Sta):Prop:=l.Pairwise (fun x y=>x.fScope<y.fScope)
def opS (l:List Sta)(s t:Int):List Sta:=l.filter (fun x=>decide (x.fScope<s))++(⟨s,t⟩:Sta)::l.filter (fun x=>decide (s<x.fScope))
def clS (l:List Sta)(s:Int):List Sta:=l.filter (fun x=>!decide (x.fScope=s))
theorem opS_mem {l:List Sta}{s t:Int}{x:Sta}(h:x∈opS l s t):x=⟨s,t⟩\/x∈l:=by
 unfold opS at h;grind
theorem y14 {l:List Sta}(h:SS l)(s t:Int):SS (opS l s t):=by
 unfold opS SS;rw [pairwise_append];refine ⟨h.filter _,aQ.2 ⟨fun x c=>by simp_all,h.filter _⟩,fun x c y d=>?_⟩;grind
theorem ztu (l:List Sta)(s t:Int):(opS l s t).length<=l.length+1:=by
 unfold opS;rw [length_append,length_cons]
 induction l with
 |nil=>simp
 |cons x l ih =>
  grind
theorem zv6 {l:List Sta}(h:SS l){s:Int}{i:Nat}(hi:i<=l.length)(h1:∀ k (d:k<l.length),k<i->l[k].fScope<s)(q:∀ d:i<l.length,¬l[i].fScope<s):l.take i=l.filter (fun x=>decide (x.fScope<s))/\((∀ d:i<l.length,l[i].fScope≠s)->l.drop i=l.filter (fun x=>decide (s<x.fScope)))/\(∀ d:i<l.length,l[i].fScope=s->l.drop (i+1)=l.filter (fun x=>decide (s<x.fScope))):=by
 have g:∀ x∈l.take i,x.fScope<s:=fun x c=>by
  obtain ⟨k,d,rfl⟩:=aR.1 c;grind
 have n:∀ d:i<l.length,∀ x∈l.drop (i+1),l[i].fScope<x.fScope:=fun d x c=>by
  have:=h.drop (i:=i);rw [B4 l i d] at this;exact (aQ.1 this).1 x c
 have m:∀ x∈l.drop i,s<=x.fScope:=fun x c=>by
  by_cases d:i<l.length
  ·rw [B4 l i d] at c;grind
  grind
 have f:∀ p:Sta->Bool,l.filter p=(l.take i).filter p++(l.drop i).filter p:=fun p=>by rw [<-bH,take_append_drop]
 refine ⟨?_,fun j=>?_,fun d o=>?_⟩
 ·rw [f,aM.2 (fun x c=>by simpa using g x c),aW.2 (fun x c=>by have:=m x c;simp;omega),aT]
 ·rw [f,aW.2 (fun x c=>by have:=g x c;simp;omega),bL,aM.2 (fun x c=>?_)];by_cases d:i<l.length
  ·rw [B4 l i d] at c;grind
  grind
 ·rw [f,aW.2 (fun x c=>by have:=g x c;simp;omega),bL,B4 l i d,bR,if_neg (by simp;omega),aM.2 (fun x c=>by have:=n d x c;simp;omega)]
theorem zd6 (n:Nat)(s:Int)(l:List Sta)(c:l.length<=1100000)(K:List Sta->Option (List Sta)):∀ (m k:Nat) (out:List Sta),k<=l.length->l.length<m+k->out.length<=k->Kg n s l K m ((k:Int),out)=K (out++(l.drop k).filter (fun x=>!decide (x.fScope=s)))
 |0,k,out,h1,i,g=>by omega
 |m+1,k,out,h1,i,g=>by
  unfold Kg;simp only [aB,A4,Am];by_cases h:k<l.length
  ·have f:=zd6 n s l c K m (k+1) (out++[l[k]]) (by omega) (by omega) (by simp_all);have d:=zd6 n s l c K m (k+1) out (by omega) (by omega) (by omega);rw [if_pos (by omega),Ar,Ae h,Ae h,B4 l k h,Ai k (by omega),C1 (by grind) (by omega),f,d,bR];grind
  grind
theorem zw5 (n:Nat)(s:Int)(l:List Sta)(c:l.length<=1100000)(d:l.length<n):Q7 n l s=some (clS l s):=by
 have:=zd6 n s l c (fun y=>some y) n 0 [] (by omega) (by omega) (by simp);unfold Q7 clS;simp_all
theorem zfl (n:Nat)(s t:Int)(l:List Sta)(g:l.length<=1100000)(K:List Sta->Int->List Sta->Option (List Sta))(r:Option (List Sta))
  (d:∀ i:Nat,i<=l.length->(∀ k (c:k<l.length),k<i->l[k].fScope<s)->(∀ c:i<l.length,¬l[i].fScope<s)->K l (i:Int) (l.take i)=r) :
  ∀ (m k:Nat),k<=l.length->l.length<m+k->(∀ j (p:j<l.length),j<k->l[j].fScope<s)->I1 n t s l K m ((k:Int),l.take k)=r
 |0,k,h1,u,f=>by omega
 |m+1,k,h1,u,f=>by
  unfold I1;simp only [aB,A4,B5,Ar,Kf];by_cases h:k<l.length
  ·rw [if_pos (by omega),Ae h];by_cases q:l[k].fScope<s
   ·rw [if_pos q,Ae h,C1 (by grind) (by omega),Ai k (by omega),<-aA h];exact zfl n s t l g K r d m (k+1) (by omega) (by omega) (fun j p o=>by
     grind)
   ·rw [if_neg q];exact d k h1 f (fun _=>q)
  ·rw [if_neg (by omega),Aw];exact d k h1 f (fun c=>absurd c h)
theorem yau {l:List Sta}(h:SS l)(s:Int):SS (clS l s):=h.filter _
theorem y2l (l:List Sta)(s:Int):(clS l s).length<=l.length:=length_filter_le _ _
theorem y0d (n:Nat)(s t:Int)(l:List Sta)(h:SS l)(o:l.length<=1100000)(m:l.length<n):Uc n l s t=some (opS l s t):=by
 unfold Uc;rw [zw5 n s l o m,A0];have v:=y2l l s;refine zfl n s t (clS l s) (by omega) _ _ (fun i hi h1 p=>?_) n 0 (by omega) (by omega) (fun j _ u=>by omega);obtain ⟨r,q,_⟩:=zv6 (yau h s) hi h1 p;have f:∀ g:i<(clS l s).length,(clS l s)[i].fScope≠s:=fun g=>by
  have:=(mem_filter.1 (aD g)).2;simpa using this
 have:=Dk (l:=clS l s) hi (aU _) (fun d=>app ((clS l s).take i++[⟨s,t⟩]) d 16 fun c=>some c);rw [C1 (by grind) (by omega)];simp only [aB];rw [this,bQ,C1 (by grind) (by omega),r,q f];unfold opS clS;rw [bI,bI,append_assoc];congr 2;all_goals grind
def keP (l:List Sta)(t:Int)(x:Lim):Bool:=match l.find? (fun s=>decide (s.fScope=x.fScope)) with|some s=>decide (aH .i64 (t-s.fTime)<=x.fSpan)|none=>false
theorem zpu (n:Nat)(t:Int)(x:Lim)(l:List Sta)(c:l.length<=1100000):∀ (m k:Nat),k<=l.length->l.length<m+k->Px n t x l (some false) m (k:Int)=some (keP (l.drop k) t x)
 |0,k,h1,d=>by omega
 |m+1,k,h1,d=>by
  unfold Px;simp only [aB,A4];by_cases h:k<l.length
  ·rw [if_pos (by omega),Ae h,Ae h,B4 l k h,Ai k (by omega),zpu n t x l c m (k+1) (by omega) (by omega)];unfold keP;grind
  ·rw [if_neg (by omega),aC (by omega)];rfl
theorem y9s (n:Nat)(t:Int)(x:Lim)(l:List Sta)(c:l.length<=1100000)(d:l.length<n):Uw n l x t=some (keP l t x):=by
 have:=zpu n t x l c n 0 (by omega) (by omega);unfold Uw;simp_all
theorem yb3 (x:Int)(c:0<=x)(h1:x<=18446744073709551615):aH .u64 x=x:=IntWalk.u64_in _ ⟨c,h1⟩
theorem y86 (i j:Nat)(h:i+j<=3000000):aH .i64 (Int.fdiv (aH .u64 (aH .i64 ((i:Int)+(j:Int)))) (2 ^ min (bW (1:Int)) (bZ .u64)))=(((i+j) / 2:Nat):Int):=by
 have f:aH .i64 ((i:Int)+(j:Int))=((i+j:Nat):Int):=by rw [Cq _ (by omega)];omega
 rw [f,yb3 _ (by omega) (by omega)];have d:(2:Int) ^ min (bW (1:Int)) (bZ .u64)=2:=by decide
 rw [d];have c:Int.fdiv ((i+j:Nat):Int) 2=(((i+j) / 2:Nat):Int):=by
  rw [Int.fdiv_eq_ediv_of_nonneg _ (by omega)];omega
 rw [c,Cq _ (by omega)]
theorem y7d (n:Nat)(a:Sta)(s:Int):Mv n a s=some (cmpI a.fScope s):=by
 unfold Mv;rw [O2,A0]
theorem Xj (a b:Int):cmpI a b<0 ↔ a<b:=by unfold cmpI;split<;>(try split)<;>omega
theorem y6j (a b:Int):cmpI a b=0 ↔ a=b:=Hl.zero a b
theorem ztq (n:Nat)(l:List Sta)(s:Int)(d:SS l)(p:l.length<=1100000)(K:Int->Option (Int×Bool))(r:Option (Int×Bool))
  (w:∀ i:Nat,i<=l.length->(∀ k (g:k<l.length),k<i->l[k].fScope<s)->(∀ g:i<l.length,¬l[i].fScope<s)->K (i:Int)=r) :
  ∀ (m i j:Nat),i<=j->j<=l.length->j-i<m->(∀ k (h:k<l.length),k<i->l[k].fScope<s)->(∀ k (h:k<l.length),j<=k->¬l[k].fScope<s)->K2 n s l K m ((i:Int),(j:Int))=r
 |0,i,j,h1,x,C,_,_=>by omega
 |m+1,i,j,h1,x,C,f,o=>by
  have mono:∀ a b (v:a<l.length) (u:b<l.length),a<=b->l[a].fScope<=l[b].fScope:=fun a b v u c=>by
   rcases Nat.eq_or_lt_of_le c with rfl|c
   ·exact Int.le_refl _
   ·have:=pairwise_iff_getElem.1 d a b v u c;omega
  unfold K2;simp only [A4];by_cases h:i<j
  ·rw [if_pos (by omega),y98 (by omega),y86 i j (by omega)];have B:(i+j) / 2<l.length:=by omega
   rw [Ae B,y7d,A0,Ai _ (by omega)];by_cases t:l[(i+j) / 2].fScope<s
   ·rw [if_pos ((Xj _ _).2 t)];exact ztq n l s d p K r w m ((i+j) / 2+1) j (by omega) x (by omega) (fun k g y=>by grind) o
   ·rw [if_neg (fun q=>t ((Xj _ _).1 q))];exact ztq n l s d p K r w m i ((i+j) / 2) (by omega) (by omega) (by omega) f (fun k g z=>by grind)
  ·have A:i=j:=by omega
   simp_all
theorem p_bs (n:Nat)(l:List Sta)(s:Int)(t:SS l)(u:l.length<=1100000)(v:l.length<n):∃ i:Nat,i<=l.length/\l.take i=l.filter (fun x=>decide (x.fScope<s))/\((P4 n l s=some ((i:Int),false)/\l.drop i=l.filter (fun x=>decide (s<x.fScope)))\/∃ c:i<l.length,l[i].fScope=s/\P4 n l s=some ((i:Int),true)/\l.drop (i+1)=l.filter (fun x=>decide (s<x.fScope))):=by
 have key:∃ i:Nat,i<=l.length/\(∀ k (c:k<l.length),k<i->l[k].fScope<s)/\(∀ c:i<l.length,¬l[i].fScope<s):=by
  refine ⟨(l.takeWhile (fun x=>decide (x.fScope<s))).length,(takeWhile_sublist _).length_le,?_⟩;clear t u v
  induction l with
  |nil=>simp_all
  |cons x l ih =>
   rw [takeWhile_cons];grind
 obtain ⟨i,hi,h1,y⟩:=key;have uq:∀ j:Nat,j<=l.length->(∀ k (c:k<l.length),k<j->l[k].fScope<s)->(∀ c:j<l.length,¬l[j].fScope<s)->j=i:=fun j f m g=>by
  grind
 obtain ⟨B,A,z⟩:=zv6 t hi h1 y;refine ⟨i,hi,B,?_⟩;unfold P4;simp only [aB,A4];have bs:=fun r w=>ztq n l s t u (fun k1_0_0y=>if k1_0_0y<((l.length:Nat):Int) then (idx l k1_0_0y fun p=>bnd (Mv n p s) fun o=>some (k1_0_0y,decide (o=0))) else some (k1_0_0y,false)) r w n 0 l.length (by omega) (by omega) (by omega) (fun k _ h=>by omega) (fun k c h=>by omega)
 by_cases e:∃ c:i<l.length,l[i].fScope=s
 ·obtain ⟨c,d⟩:=e;refine bY ⟨c,d,bs _ (fun j f m g=>?_),z c d⟩;obtain rfl:=uq j f m g;rw [if_pos (by omega),Ae c,y7d,A0];have:cmpI l[j].fScope s=0:=(y6j _ _).2 d;simp [this]
 ·refine bT ⟨bs _ (fun j f m g=>?_),A (fun c d=>e ⟨c,d⟩)⟩;obtain rfl:=uq j f m g;by_cases c:j<l.length
  ·rw [if_pos (by omega),Ae c,y7d,A0];have:¬cmpI l[j].fScope s=0:=fun q=>e ⟨c,(y6j _ _).1 q⟩
   simp [this]
  ·rw [if_neg (by omega)]
theorem yac {n c:Nat}{a:List α}{x:α}(h:c<=a.length)(d:a.length<=1000000000):Sr n a (c:Int) [x]=some (a.take c++x::a.drop c):=by
 unfold Sr;simp [h,d]
theorem zhe (n:Nat)(t:Int)(d:List Int)(x:d.length<=1100000)(K:List Sta->Option (List Sta)):∀ (m k:Nat) (c:List Sta),k<=d.length->d.length<m+k->SS c->c.length+(d.length-k)<=1100000->c.length+(d.length-k)<n->J9 n t d K m ((k:Int),c)=K ((d.drop k).foldl (fun l s=>opS l s t) c)
 |0,k,c,h1,A,p,z,y=>by omega
 |m+1,k,c,h1,A,p,z,y=>by
  unfold J9;simp only [aB,A4,Am,B5,Ar,Mo];by_cases h:k<d.length
  ·rw [if_pos (by omega),Ae h,B4 d k h,aO];have w:=ztu c d[k] t;have u:=zhe n t d x K m (k+1) (opS c d[k] t) (by omega) (by omega) (y14 p _ _) (by omega) (by omega);obtain ⟨i,hi,v,C⟩:=p_bs n c d[k] p (by omega) (by omega);rcases C with ⟨r,q⟩|⟨o,B,r,q⟩
   ·rw [r,A0];simp only [Aw];rw [yac hi (by omega),zij];have f:i<(c.take i++(⟨d[k],0⟩:Sta)::c.drop i).length:=by simp;omega
    rw [Cv f,Xq f,T3 f,Ai k (by omega)];have e:(c.take i++(⟨d[k],0⟩:Sta)::c.drop i).set i (⟨(c.take i++(⟨d[k],0⟩:Sta)::c.drop i)[i].fScope,t⟩:Sta)=opS c d[k] t:=by
     have j:(c.take i).length=i:=by rw [aF];omega
     have g:(c.take i++(⟨d[k],0⟩:Sta)::c.drop i)[i].fScope=d[k]:=by
      rw [getElem_append_right (by omega)];simp [j]
     rw [g,set_append_right _ _ (by omega),j,Nat.sub_self,set_cons_zero];unfold opS;rw [v,q]
    rw [e];exact u
   ·rw [r,A0];simp only [Au];rw [Cv o,Xq o,T3 o,Ai k (by omega)];have e:c.set i (⟨c[i].fScope,t⟩:Sta)=opS c d[k] t:=by
     rw [set_eq_take_append_cons_drop,if_pos o,B,v,q];rfl
    rw [e];exact u
  grind
def opL (l:List Sta)(c:List Int)(t:Int):List Sta:=c.foldl (fun l s=>opS l s t) l
theorem y4e (n:Nat)(t:Int)(c:List Int)(l:List Sta)(d:SS l)(g:l.length+c.length<=1100000)(f:1100000<n):Wr n l c t=some (opL l c t):=by
 unfold Wr C4;rw [if_pos (by omega),Nd];have:=zhe n t c (by omega) (fun y=>some y) n 0 l (aV _) (by omega) d (by omega) (by omega);exact this
theorem y63 (t:Int):∀ (c:List Int) {l:List Sta},SS l->SS (opL l c t)
 |[],_,h=>h
 |s::c,l,h=>y63 t c (y14 h s t)
theorem zm8 (t:Int):∀ (c:List Int) (l:List Sta),(opL l c t).length<=l.length+c.length
 |[],l=>by simp [opL]
 |s::c,l=>by
  have h1:=zm8 t c (opS l s t);have f:=ztu l s t;have d:opL l (s::c) t=opL (opS l s t) c t:=rfl;rw [d,length_cons];omega
theorem opL_mem (t:Int):∀ (c:List Int) {l:List Sta} {x:Sta},x∈opL l c t->(x.fScope∈c/\x.fTime=t)\/x∈l
 |[],l,x,h=>bY h
 |s::c,l,x,h=>by
  rcases opL_mem t c (l:=opS l s t) h with k|k
  ·simp_all
  ·rcases opS_mem k with q|q
   all_goals simp_all
theorem fidx_cases (p:α->Bool):∀ l:List α,(l.find? p=none/\fidx p l=-1)\/∃ i,∃ h:i<l.length,fidx p l=(i:Int)/\l.find? p=some l[i]
 |[]=>bT ⟨rfl,rfl⟩
 |x::l=>by
  by_cases q:p x=true
  ·refine bY ⟨0,by simp,?_,?_⟩
   ·unfold fidx;rw [findIdx?_cons,if_pos q]
   ·rw [aZ];simp [q]
  ·rcases fidx_cases p l with ⟨h1,c⟩|⟨i,hi,h1,c⟩
   ·refine bT ⟨by rw [aZ];simp [q,h1],?_⟩;unfold fidx at c ⊢;grind
   ·refine bY ⟨i+1,by simp;omega,?_,by rw [aZ];simp [q,c]⟩;unfold fidx at h1 ⊢;grind
theorem zhf (n:Nat)(t:Int)(l:List Sta)(j:l.length<=1100000)(f:l.length<n)(xs:List Lim)(g:xs.length<=1100000):∀ (m k:Nat),k<=xs.length->xs.length<m+k->Ja n t xs l (some true) m (k:Int)=some ((xs.drop k).all (keP l t))
 |0,k,h1,o=>by omega
 |m+1,k,h1,o=>by
  unfold Ja;simp only [aB,A4,B5,Ar,Mq,Au];by_cases h:k<xs.length
  ·rw [if_pos (by omega),Ae h,B4 xs k h,all_cons,Ai k (by omega),zhf n t l j f xs g m (k+1) (by omega) (by omega),zpw n _ (fun s=>decide (s.fScope=xs[k].fScope)) l (by omega) f (fun s _=>rfl),A0];rcases fidx_cases (fun s:Sta=>decide (s.fScope=xs[k].fScope)) l with ⟨d,c⟩|⟨i,hi,d,c⟩
   ·rw [c,if_pos (by omega)];unfold keP;rw [d];rfl
   ·rw [d,if_neg (by omega),Ae hi];have e:keP l t xs[k]=decide (aH .i64 (t-l[i].fTime)<=xs[k].fSpan):=by unfold keP;rw [c]
    grind
  ·rw [if_neg (by omega),aC (by omega)];rfl
theorem y4f (n:Nat)(t:Int)(l:List Sta)(d:l.length<=1100000)(f:1100000<n)(xs:List Lim)(c:xs.length<=1100000):Ws n l xs t=some (xs.all (keP l t)):=by
 have:=zhf n t l d (by omega) xs c n 0 (by omega) (by omega);unfold Ws;simp_all
def clP (cs:List Int)(x:Sta):Bool:=cs.any fun y=>decide (x.fScope=y)
theorem y7k (n:Nat)(x:Ed)(c:x.fCloses.length<=1100000)(d:1100000<n)(s:Sta):Ld n s x=some (clP x.fCloses s):=by
 unfold Ld;rw [zc2 n _ _ (by omega) (by omega),A0];rfl
theorem y4j (n:Nat)(x:Ed)(c:x.fCloses.length<=1100000)(d:1100000<n)(s:Sta):Od n s x=some (clP x.fCloses s,x):=by
 unfold Od;rw [zc2 n _ _ (by omega) (by omega),A0];rfl
abbrev ncl (x:Ed)(s:Sta):Bool:=!clP x.fCloses s
theorem zm6 (n:Nat)(x:Ed)(g:x.fCloses.length<=1100000)(o:1100000<n)(l:List Sta)(w:l.length<=1100000)(K:Int->Int->Int->Int->Int->Int->List AV->Int->Int->Int->Int->Int->ByteArray->List Int->List Int->List AV->List C3->List Int->List Sta->Option (List Sta×Ed))(r:Option (List Sta×Ed))
  (A:∀ (i:Nat) (c:List Sta),c.length=l.length->i<=l.length->c.take i=l.filter (ncl x)->K (i:Int) x.fFrom x.fTo x.fVar x.fType x.fCond.fOp x.fCond.fArgs x.fCond.fVar x.fCond.fField x.fCond.fKind x.fCond.fValue.fKind x.fCond.fValue.fNum x.fCond.fValue.fText x.fOpens x.fCloses x.fChecks x.fLimits x.fInside c=r) :
  ∀ (m i j:Nat) (c:List Sta),i<=j->j<=l.length->l.length<m+j->c.length=l.length->c.take i=(l.take j).filter (ncl x)->c.drop j=l.drop j->Lr n K m ((i:Int),(j:Int),x.fFrom,x.fTo,x.fVar,x.fType,x.fCond.fOp,x.fCond.fArgs,x.fCond.fVar,x.fCond.fField,x.fCond.fKind,x.fCond.fValue.fKind,x.fCond.fValue.fNum,x.fCond.fValue.fText,x.fOpens,x.fCloses,x.fChecks,x.fLimits,x.fInside,c)=r
 |0,i,j,c,C,h1,B,v,u,t=>by omega
 |m+1,i,j,c,C,h1,B,v,u,t=>by
  unfold Lr;simp only [aB,A4];by_cases h:j<l.length
  ·have s:j<c.length:=by omega
   rw [if_pos (by omega),Cv s,Dc s,Ai i (by omega),Ai j (by omega)];have D:Od n c[j] (⟨x.fFrom,x.fTo,x.fVar,x.fType,⟨x.fCond.fOp,x.fCond.fArgs,x.fCond.fVar,x.fCond.fField,x.fCond.fKind,⟨x.fCond.fValue.fKind,x.fCond.fValue.fNum,x.fCond.fValue.fText⟩⟩,x.fOpens,x.fCloses,x.fChecks,x.fLimits,x.fInside⟩:Ed)=some (clP x.fCloses c[j],x):=y4j n x g o c[j];rw [D,Cn];simp only;have p:c[j]=l[j]:=by
    have:=congrArg (fun q=>q[0]?) t;simp only [bG,Nat.add_zero,aG s,aG h,Option.some.injEq] at this;exact this
   have z:c.drop (j+1)=l.drop (j+1):=by
    have:=congrArg List.tail t;simpa using this
   have f:(l.take (j+1)).filter (ncl x)=(l.take j).filter (ncl x)++(if ncl x l[j]=true then [l[j]] else []):=by
    rw [aA h,bH,bR];rfl
   rw [p];cases y:clP x.fCloses l[j] with
   |false =>
    have hi:i<c.length:=by omega
    simp only [Bool.not_false,Au];rw [Cv hi,T3 hi];have d:ncl x l[j]=true:=by unfold ncl;rw [y];rfl
    rw [d] at f;refine zm6 n x g o l w K r A m (i+1) (j+1) _ (by omega) (by omega) (by omega) (by simp [v]) ?_ ?_
    ·rw [f,if_pos rfl,<-u,aA (by simpa using hi)];simp [bC]
    ·rw [<-z,bD (by omega)]
   |true =>
    simp only [Bool.not_true,Aw];have d:ncl x l[j]=false:=by unfold ncl;rw [y];rfl
    rw [d] at f;exact zm6 n x g o l w K r A m i (j+1) _ (by omega) (by omega) (by omega) v (by rw [f,u];simp) z
  grind
theorem y4h (n:Nat)(x:Ed)(o:x.fCloses.length<=1100000)(r:1100000<n)(l:List Sta)(v:l.length<=1100000):Vh n x l=some (l.filter (ncl x),x):=by
 unfold Vh;rw [zpv n x (clP x.fCloses) l (by omega) (by omega) (fun s _=>y7k n x o r s),A0];rcases fidx_cases (clP x.fCloses) l with ⟨m,h⟩|⟨i,hi,m,h⟩
 ·rw [h,A4,if_pos rfl,aM.2 (fun s p=>?_)];simp_all
 ·rw [m,A4,if_neg (by omega),Ai i (by omega)];have d:∀ s∈l.take i,ncl x s=true:=fun s p=>by
   obtain ⟨k,w,rfl⟩:=aR.1 p;rw [aF] at w;rw [aJ];have y:l.findIdx? (clP x.fCloses)=some i:=by
    unfold fidx at m;cases A:l.findIdx? (clP x.fCloses) with
    |none=>simp_all
    |some j=>grind
   have:=(findIdx?_eq_some_iff_getElem.1 y).2.2 k (by omega);simpa [ncl] using this
  have g:ncl x l[i]=false:=by
   have:=find?_some h;simp [ncl,this]
  refine zm6 n x o r l v _ _ (fun q c B z u=>?_) n i (i+1) l (by omega) (by omega) (by omega) rfl ?_ rfl
  ·simp only [aB];rw [Xm (by omega),y2j (by omega)];have t:=znw c q (⟨0,0⟩:Sta) (by omega);have:=Dk (l:=clrL c q (⟨0,0⟩:Sta)) (a:=0) (b:=q) (by omega) (by omega) (fun f=>some (f,x));refine this.trans ?_;rw [aL,zie c q _ (by omega),u]
  ·rw [aA hi,bH,aM.2 d];simp [g]
theorem yav (cs:List Int):∀ l:List Sta,cs.foldl clS l=l.filter (fun s=>!clP cs s):=by
 induction cs with
 |nil=>intro l;exact (aM.2 (fun _ _=>rfl)).symm
 |cons c cs d =>
  intro l;rw [aO,d];unfold clS;rw [bI];refine filter_congr (fun s _=>?_);unfold clP;grind
end Go.Proofs.YthbogefcfhmpgaaGreat
