/- Layer 8, plainly. -/
import Derived.Test.YthbogefcfhmpgaaGreatK19
set_option linter.unusedVariables false
set_option linter.unusedSimpArgs false
namespace Go.Proofs.YthbogefcfhmpgaaGreat
open Go.RowKit List
open List renaming length_map->aA,drop_eq_nil_of_le->aC,getElem_mem->aE,take_succ_eq_append_getElem->aF,drop_zero->aG,length_cons->aK,map_append->aL,length_nil->aM
open Int renaming natCast_zero->aB
open IntKind renaming wrap->aD
open Bool renaming or_eq_true->aH,and_eq_false_iff->aJ,not_true->aN
open Or renaming inl->aO,inr->aQ
theorem ztp (n:Nat)(e:Exn):Wc n e=some (if vcP e.fValue=0 then (if decide (e.fOp=4) && (!(suP e.fKind e.fValue) || (decide (e.fKind=1) && !decide (e.fValue=va0))) then 9 else 0) else vcP e.fValue):=by
 unfold Wc;rw [p_vc,A0];simp only [A4,Am,y76,A0,B5,Ar,H6,zls];obtain ⟨op,args,var,field,kind,val⟩:=e;simp only;by_cases h:op=4
 ·subst h;simp [B0];grind
 ·simp [h,B0];split<;>rfl
theorem y9q (n:Nat)(e:Exn):Wy n e=some (ndP e):=by
 unfold Wy;rw [y7m,A0,y5v];simp only [A0,aA,A4,Am,ztp,B5,Ar,Ea,Jc,Mz,My,Ce,zls];unfold ndP;by_cases a:arP e.fOp<0
 ·rw [if_pos a];have:e.fOp<0\/12<e.fOp:=by
   unfold arP at a;by_cases h1:e.fOp<0
   ·exact aO h1
   ·omega
  rcases this with h|h
  ·rw [if_pos h,Aw]
  ·by_cases d:e.fOp<0
   ·rw [if_pos d,Aw]
   ·rw [if_neg d,if_pos h,Aw]
 have c:¬e.fOp<0/\¬12<e.fOp:=by
  unfold arP at a;refine ⟨fun h=>a (by rw [if_pos h];decide),fun h=>a ?_⟩;by_cases h1:e.fOp<0
  ·rw [if_pos h1];decide
  ·rw [if_neg h1,if_pos h];decide
 rw [if_neg c.1,if_neg c.2,if_neg a,Au];by_cases b:(e.fArgs.length:Int)=arP e.fOp;rotate_left
 ·rw [if_neg b,if_pos b]
 rw [if_pos b,if_neg (show ¬((e.fArgs.length:Int)≠arP e.fOp) from fun h=>h b)];have f:=zxf e.fOp a;obtain ⟨op,args,var,field,kind,val⟩:=e;simp only at *;clear b a c;rcases f with rfl|rfl|rfl|rfl|rfl|⟨h1,m,j,g⟩
 ·simp [us0,B0];grind
 ·simp [us1,B0];grind
 ·simp [us2,B0];grind
 ·simp [us3,B0];grind
 ·simp [us4,B0];grind
 ·simp [h1,m,j,g,B0];grind
inductive ETr:Nat->Exn->Prop
 |mk (l:List (Nat×Exn)) (e:Exn) (h:∀ p∈l,ETr p.1 p.2) (ha:e.fArgs=l.map (fun p=>Ay p.2)):ETr (1+(l.map (·.1)).sum) e
inductive ETrO:Nat->Exn->Prop
 |mk (l:List (Nat×Exn)) (e:Exn) (hn:ndP e=0) (h:∀ p∈l,ETrO p.1 p.2) (ha:e.fArgs=l.map (fun p=>Ay p.2)):ETrO (1+(l.map (·.1)).sum) e
variable {e:Exn}
theorem ETr.pos {s:Nat}(h:ETr s e):1<=s:=by cases h;omega
variable {l:List (Nat×Exn)}
theorem Np {p:Nat×Exn}(h:p∈l):p.1<=(l.map (·.1)).sum:=by
 induction l with
 |nil=>cases h
 |cons x l ih =>
  grind
theorem Xl (h:∀ p∈l,1<=p.1):l.length<=(l.map (·.1)).sum:=by
 induction l with
 |nil=>simp
 |cons x l ih =>
  grind
def preS (l:List (Nat×Exn))(k:Nat):Nat:=((l.take k).map (·.1)).sum
variable {k:Nat}
theorem zpc (h:k<l.length):preS l (k+1)=preS l k+l[k].1:=by
 unfold preS;rw [aF h,aL,sum_append];simp_all
theorem zvg (h:l.length<=k):preS l k=(l.map (·.1)).sum:=by unfold preS;rw [take_of_length_le h]
theorem y04 (l:List (Nat×Exn))(k:Nat):preS l k<=(l.map (·.1)).sum:=by
 unfold preS;conv=>rhs;rw [<-take_append_drop k l]
 grind
theorem Hk {β:Type}(h:k<l.length)(K:Exn->Option β):idxD C8 (l.map fun p=>Ay p.2) (k:Int) K=K l[k].2:=by
 unfold idxD;rw [if_pos (by omega)];simp only [Int.toNat_natCast,getElem?_map,getElem?_eq_getElem h,Option.map_some,Mn]
theorem zkq (most:Int)(hm:0<=most)(a:most<=1000000)(n:Nat)(l:List (Nat×Exn))(e:Exn)(f:e.fArgs=l.map (fun p=>Ay p.2))(j:(l.map (·.1)).sum<=4000000)(r:l.length<=4000000)
  (b:∀ p∈l,∃ c:Int,G3 n p.2 most=some c/\1<=c/\c<=p.1/\(c<=most->c=p.1)) :
  ∀ (m k:Nat) (v:Int),k<=l.length->l.length<m+k->1<=v->v<=1+preS l k->(v<=most->v=1+preS l k) ->
   ∃ c:Int,I5 n (G3 n) most e (fun y=>some y) m (v,(k:Int))=some c/\1<=c/\c<=1+(l.map (·.1)).sum/\(c<=most->c=1+(l.map (·.1)).sum)
 |0,k,v,h1,t,_,_,_=>by omega
 |m+1,k,v,h1,t,A,z,s=>by
  unfold I5;simp only [B5,Ar,Ky,f,aA,A4,Aw];have q:=y04 l k;by_cases h:k<l.length
  ·rw [if_pos (by omega)];by_cases d:v<=most
   ·rw [if_pos d,Hk h];obtain ⟨c,w,C,B,u⟩:=b l[k] (aE h);rw [w,A0,Ai k (by omega),Cq _ (by have:=Np (aE h);omega)];have o:=zpc h;have g:=s d;exact zkq most hm a n l e f j r b m (k+1) (v+c) (by omega) (by omega) (by omega) (by omega) (fun x=>by have:=u (by omega);omega)
   grind
  ·rw [if_neg (by omega)];have o:=zvg (l:=l) (k:=k) (by omega);grind
theorem y0x (most:Int)(hm:0<=most)(d:most<=1000000):∀ (s:Nat) (e:Exn),ETr s e->s<=4000000->∀ n,s+1<n->∃ c:Int,G3 n e most=some c/\1<=c/\c<=s/\(c<=most->c=s):=by
 intro s
 induction s using Nat.strongRecOn with
 |ind s IH =>
  intro e f j n m;cases f with
  |mk l e h g =>
   obtain ⟨a,rfl⟩:∃ a,n=a + 1:=⟨n-1,by omega⟩;have o:=Xl (l:=l) (fun p b=>(h p b).pos);simp only [G3];obtain ⟨c,u,t,r,q⟩:=zkq most hm d a l e g (by omega) (by omega) (fun p b=>by
    have:=Np b;exact IH p.1 (by omega) p.2 (h p b) (by omega) a (by omega)) a 0 1 (by omega) (by omega) (by omega) (by omega) (fun _=>by simp [preS])
   grind
theorem zpg (n:Nat)(l:List (Nat×Exn))(e:Exn)(f:e.fArgs=l.map (fun p=>Ay p.2))(o:(l.map (·.1)).sum<=4000000)(r:l.length<=4000000)
  (a:∀ p∈l,∃ d:Int,G2 n p.2=some d/\Hf n p.2=some ((p.1:Int),d)/\0<=d/\d<=p.1) :
  ∀ (m k:Nat) (d:Int),k<=l.length->l.length<m+k->0<=d->d<=preS l k ->
   ∃ D:Int,Ph n (G2 n) e (fun y=>some (aD .i64 (y+1))) m (d,(k:Int))=some (D+1)/\Sc n (Hf n) e (fun j g=>some (j,(aD .i64 (g+1)))) m (((1+preS l k:Nat):Int),d,(k:Int))=some (((1+(l.map (·.1)).sum:Nat):Int),D+1)/\0<=D/\D<=(l.map (·.1)).sum
 |0,k,d,h1,t,_,_=>by omega
 |m+1,k,d,h1,t,s,x=>by
  unfold Ph Sc;simp only [f,aA,A4];have q:=y04 l k;by_cases h:k<l.length
  ·rw [if_pos (by omega),if_pos (by omega),Hk h,Hk h];obtain ⟨c,w,v,A,z⟩:=a l[k] (aE h);have b:=zpc h;have hm:=Np (aE h);rw [w,v,A0,A0,Ai k (by omega),Cq _ (by omega)];have u:(((1+preS l k:Nat):Int)+((l[k].1:Nat):Int))=((1+preS l (k+1):Nat):Int):=by omega
   simp only;rw [u];exact zpg n l e f o r a m (k+1) (max d c) (by omega) (by omega) (by omega) (by omega)
  ·rw [if_neg (by omega),if_neg (by omega)];have b:=zvg (l:=l) (k:=k) (by omega);refine ⟨d,by rw [Cq _ (by omega)],?_,s,by omega⟩;rw [Cq _ (by omega),b]
theorem y5x:∀ (s:Nat) (e:Exn),ETr s e->s<=4000000->∀ n,s+1<n->∃ d:Int,G2 n e=some d/\Hf n e=some ((s:Int),d)/\0<=d/\d<=s:=by
 intro s
 induction s using Nat.strongRecOn with
 |ind s IH =>
  intro e c m n o;cases c with
  |mk l e h f =>
   obtain ⟨a,rfl⟩:∃ a,n=a + 1:=⟨n-1,by omega⟩;have q:=Xl (l:=l) (fun p b=>(h p b).pos);simp only [G2,Hf];obtain ⟨D,j,g,t,r⟩:=zpg a l e f (by omega) (by omega) (fun p b=>by
    have:=Np b;exact IH p.1 (by omega) p.2 (h p b) (by omega) a (by omega)) a 0 0 (by omega) (by omega) (by omega) (by simp)
   exact ⟨D+1,j,g,by omega,by push_cast;omega⟩
theorem zkg (n:Nat)(l:List (Nat×Exn))(e:Exn)(c:e.fArgs=l.map (fun p=>Ay p.2))(j:l.length<=4000000)
  (a:∀ p∈l,∃ r:Int,Gz n p.2=some r/\Ha n p.2=some r/\(r=0->ETrO p.1 p.2)) :
  ∀ (m k:Nat),k<=l.length->l.length<m+k->(∀ p∈l.take k,ETrO p.1 p.2) ->
   ∃ r:Int,Pg n (Gz n) e (some 0) m (k:Int)=some r/\S7 n (Ha n) e (some 0) m (k:Int)=some r/\(r=0->∀ p∈l,ETrO p.1 p.2)
 |0,k,h1,o,_=>by omega
 |m+1,k,h1,o,s=>by
  unfold Pg S7;simp only [c,aA,A4,Am];by_cases h:k<l.length
  ·rw [if_pos (by omega),if_pos (by omega),Hk h,Hk h];obtain ⟨r,f,d,q⟩:=a l[k] (aE h);rw [f,d,A0,A0,Ai k (by omega)];by_cases b:r=0
   ·rw [if_pos b,if_pos b];refine zkg n l e c j a m (k+1) (by omega) (by omega) (fun p g=>?_);rw [aF h,mem_append,mem_singleton] at g;grind
   simp_all
  ·rw [if_neg (by omega),if_neg (by omega)];grind
theorem y75:∀ (s:Nat) (e:Exn),ETr s e->s<=4000000->∀ n,s+1<n->∃ r:Int,Gz n e=some r/\Ha n e=some r/\(r=0->ETrO s e):=by
 intro s
 induction s using Nat.strongRecOn with
 |ind s IH =>
  intro e m q n t;cases m with
  |mk l e h d =>
   obtain ⟨b,rfl⟩:∃ b,n=b + 1:=⟨n-1,by omega⟩;have u:=Xl (l:=l) (fun p c=>(h p c).pos);simp only [Gz,Ha,y79,y9q,A0,Am,A4];by_cases a:ndP e=0
   ·rw [if_pos a,if_pos a];obtain ⟨r,j,g,f⟩:=zkg b l e d (by omega) (fun p c=>by
     have:=Np c;exact IH p.1 (by omega) p.2 (h p c) (by omega) b (by omega)) b 0 (by omega) (by omega) (by simp)
    exact ⟨r,j,g,fun o=>.mk l e a (f o) d⟩
   simp_all
theorem y10 (s:Nat)(e:Exn)(a:ETr s e)(b:s<=4000000)(n:Nat)(f:s+1<n):∃ r:Int,G4 n e=some r/\Hc n e=some r/\(r=0->ETrO s e):=by
 obtain ⟨c,o,w,v,u⟩:=y0x 64 (by omega) (by omega) s e a b n f;obtain ⟨d,m,j,t,q⟩:=y5x s e a b n f;obtain ⟨r,h,g,p⟩:=y75 s e a b n f;unfold G4 Hc;rw [o,m,j,h,g];simp only [A0,A4];grind
def wrP (k:Int)(v:Va):Int:=if vcP v=0 then (if suP k v=true then 0 else 9) else vcP v
theorem ztg (n:Nat)(k:Int)(d:1<=k/\k<=5)(v:Va):Mi n k v=some (wrP k v):=by
 unfold Mi Rx wrP suP;simp only [p_vc,A0,A4,Am,B5,Ar,H5];by_cases h:vcP v=0
 ·rw [if_pos h,if_pos h];by_cases a:v.fKind=0
  ·simp [a,B0,A0]
  ·by_cases h1:k=1
   ·simp [a,h1,B0,A0]
   ·by_cases b:k=2
    ·simp [a,h1,b,B0,A0]
    ·by_cases c:k=3
     ·simp [a,h1,b,c,B0,A0]
     ·have:k=4\/k=5:=by omega
      rcases this with rfl|rfl<;>simp [a,B0,A0]
 ·rw [if_neg h,if_neg h]
theorem zvl (n:Nat)(k:Int)(b:1<=k/\k<=5)(v:Va):Qn n k v=some (wrP k v):=by
 unfold Qn wrP;simp only [y47,zm2,A0,A4,Am];have a:decide (k=0)=false:=by rw [decide_eq_false];omega
 simp only [a,Bool.false_or];by_cases h:vcP v=0
 ·rw [if_pos h,if_pos h];cases suP k v<;>simp [B0]
 ·rw [if_neg h,if_neg h]
def comb (k:Int)(a b:Va):Va:=if k=1 then ⟨0,aD .i64 (a.fNum+b.fNum),be⟩ else if k=2 then ⟨0,min a.fNum b.fNum,be⟩ else if k=3 then ⟨0,max a.fNum b.fNum,be⟩ else if k=4 then a else b
theorem y7c (n:Nat)(k:Int)(c:1<=k/\k<=5)(a b:Va):U4 n k a b=some (comb k a b):=by
 unfold U4 comb;simp only [A4];grind
theorem ya6 (n:Nat)(k:Int)(c:1<=k/\k<=5)(a b:Va):Vq n k a b=some (comb k a b):=by
 unfold Vq comb;simp only [Ns,Cn,A0,Zk,Zj,Zi,Zh,Zg,Zf];grind
def AInv (k:Int)(i:Nat)(V:Va):Prop:=if i=0 then V=va0 else if k=1 then V.fKind=0/\V.fText=be/\-((i:Int)*1099511627776)<=V.fNum/\V.fNum<=(i:Int)*1099511627776 else vcP V=0/\suP k V=true
variable {i:Nat}{V:Va}
theorem AInv.check (n:Nat){k:Int}(g:1<=k/\k<=5)(hi:i<=4096)(h:AInv k i V):Qp n ⟨k,(i:Int),V⟩=some 0/\W9 n ⟨k,(i:Int),V⟩=some 0:=by
 have w1:aD .i64 ((i:Int)*1099511627776)=(i:Int)*1099511627776:=Cq _ (by omega);have m:aD .i64 (0-(i:Int)*1099511627776)=-((i:Int)*1099511627776):=by rw [Cq _ (by omega)];omega
 have o:¬k=0:=by omega
 have ka:(0:Int)<=k:=by omega
 have q:¬(i:Int)<0:=by omega
 have p:¬4096<(i:Int):=by omega
 unfold Qp W9 Qz Ry;simp only [A0,A4,Am,B5,Ar,I9,J3,L1,L0,Gp,Kz,M1,zls,p_vc,y47,w1,m,ka,g.2,if_true,decide_true,Au,q,p,if_false,decide_false,Aw,o,Jf];unfold AInv at h;by_cases a:i=0
 ·rw [if_pos a] at h;subst a;subst h;simp [B0]
 ·rw [if_neg a] at h;have c:¬(i:Int)=0:=by omega
  simp only [c,if_false,decide_false,Aw];by_cases d:k=1
  ·grind
  ·rw [if_neg d] at h;obtain ⟨h1,j⟩:=h;simp only [d,if_false,h1,zm2,j,A0,if_true,Bool.or_true];refine ⟨by simp [B0],?_⟩;have:=ztg n k g V;unfold Mi wrP at this;rw [p_vc,A0] at this;simp only [h1,j,if_true,decide_true,aN,Aw] at this;cases f:Rx n k V with
   |none=>rw [f] at this;unfold bnd at this;cases this
   |some b =>
    rw [f,A0] at this;cases b with
    |true=>simp [A0,B0]
    |false=>simp [B0] at this
def Fk (k:Int)(i:Nat)(V x:Va):Va:=if i=0 then x else comb k V x
theorem AInv.step {k:Int}(w:1<=k/\k<=5)(hi:i<=4096){x:Va}(h:AInv k i V)(u:wrP k x=0):AInv k (i+1) (Fk k i V x):=by
 have s:vcP x=0/\suP k x=true:=by
  unfold wrP at u;by_cases h1:vcP x=0
  ·simp_all
  ·omega
 have p:x.fKind=0->x.fText=be/\-1099511627776<=x.fNum/\x.fNum<=1099511627776:=fun v=>by
  have:=s.1;unfold vcP at this;grind
 have o:k=1\/k=2\/k=3->x.fKind=0:=fun h=>by
  have:=s.2;simp only [suP,aH,decide_eq_true_eq] at this;omega
 have nv:∀ q:Int,-1099511627776<=q->q<=1099511627776->vcP ⟨0,q,be⟩=0:=fun q h1 r=>by
  unfold vcP;grind
 unfold AInv at h ⊢;rw [if_neg (by omega)];unfold Fk;by_cases g:i=0
 ·simp_all
 ·rw [if_neg g] at h;rw [if_neg g];by_cases f:k=1
  ·rw [if_pos f] at h ⊢;obtain ⟨h1,r,z,y⟩:=h;obtain ⟨a,b,c⟩:=p (o (aO f));unfold comb;rw [if_pos f];rw [Cq _ (by omega)];grind
  ·rw [if_neg f] at h ⊢;obtain ⟨h1,r⟩:=h;have t:V.fKind=0->-1099511627776<=V.fNum/\V.fNum<=1099511627776:=fun v=>by
    unfold vcP at h1;omega
   have j:k=2\/k=3->V.fKind=0:=fun h=>by
    simp only [suP,aH,decide_eq_true_eq] at r;omega
   unfold comb;rw [if_neg f];by_cases m:k=2
   ·rw [if_pos m];obtain ⟨a,b,c⟩:=p (o (aQ (aO m)));obtain ⟨d,e⟩:=t (j (aO m));exact ⟨nv _ (by omega) (by omega),by simp [suP]⟩
   ·rw [if_neg m];by_cases n:k=3
    ·rw [if_pos n];obtain ⟨a,b,c⟩:=p (o (aQ (aQ n)));obtain ⟨d,e⟩:=t (j (aQ n));exact ⟨nv _ (by omega) (by omega),by simp [suP]⟩
    grind
theorem y9p (n:Nat){k:Int}(b:1<=k/\k<=5)(hi:i<4096)(h:AInv k i V)(x:Va):Vd n ⟨k,(i:Int),V⟩ x=some (if wrP k x=0 then (⟨k,((i+1:Nat):Int),Fk k i V x⟩,0) else (⟨0,0,⟨0,0,be⟩⟩,wrP k x)):=by
 unfold Vd;rw [(h.check n b (by omega)).1,A0];simp only [zvl n k b,A0,A4,Am,y7c n k b,B5,Ar,Ip,if_true];rw [Ai i (by omega)];by_cases a:wrP k x=0
 ·rw [if_pos a,if_pos a,if_neg (by omega),if_neg (by omega)];unfold Fk;by_cases c:i=0;all_goals simp_all
 ·rw [if_neg a,if_neg a]
def bad (k:Int):List Va->Option Int
 |[]=>none
 |x::l=>if wrP k x=0 then bad k l else some (wrP k x)
def fV (k:Int):Nat->Va->List Va->Va |_,V,[]=>V |i,V,x::l=>fV k (i+1) (Fk k i V x) l
theorem zvo (n:Nat){k:Int}(a:1<=k/\k<=5)(init:Va)(l:List Va)(d:l.length<=4096)(K:Int->Int->Int->Int->ByteArray->Option (Va×Int)):∀ (m i:Nat) (V:Va),i<=l.length->l.length<m+i->AInv k i V ->
  Qo n init l K m ((i:Int),k,(i:Int),V.fKind,V.fNum,V.fText)=(match bad k (l.drop i) with|some e=>some (va0,e)|none=>K k (l.length:Int) (fV k i V (l.drop i)).fKind (fV k i V (l.drop i)).fNum (fV k i V (l.drop i)).fText)/\(bad k (l.drop i)=none->AInv k l.length (fV k i V (l.drop i)))
 |0,i,V,h1,j,_=>by omega
 |m+1,i,V,h1,j,b=>by
  unfold Qo;simp only [aA,A4,Am];by_cases h:i<l.length
  ·rw [if_pos (by omega),Ae h];have f:=y9p n a (i:=i) (by omega) b l[i];have g:V=⟨V.fKind,V.fNum,V.fText⟩:=rfl;rw [<-g,f,A0,B4 l i h];simp only [bad,fV];by_cases c:wrP k l[i]=0
   ·simp only [c,if_true];rw [Ai i (by omega)];exact zvo n a init l d K m (i+1) _ (by omega) (by omega) (b.step a (by omega) c)
   grind
  ·rw [if_neg (by omega),aC (by omega)];have:i=l.length:=by omega
   subst this;exact ⟨rfl,fun _=>b⟩
theorem y0p (n:Nat){k:Int}(b:1<=k/\k<=5)(init:Va)(l:List Va)(c:l.length<=4096)(K:Option (Va×Int)):∀ (m i:Nat),i<=l.length->l.length<m+i->Rz n init l k K m (i:Int)=(match bad k (l.drop i) with|some e=>some (va0,e)|none=>K)
 |0,i,h1,d=>by omega
 |m+1,i,h1,d=>by
  unfold Rz;simp only [aA,A4,Am];by_cases h:i<l.length
  ·rw [if_pos (by omega),Ae h,ztg n k b,A0,B4 l i h];simp only [bad];by_cases a:wrP k l[i]=0
   ·simp only [a,if_true];rw [Ai i (by omega)];exact y0p n b init l c K m (i+1) (by omega) (by omega)
   ·simp only [a,if_false]
  ·rw [if_neg (by omega),aC (by omega)];rfl
theorem zhi (n:Nat){k:Int}(a:1<=k/\k<=5)(l:List Va)(c:l.length<=4096)(K:Int->Int->Int->Int->ByteArray->Option C5):∀ (m i:Nat) (V:Va),i<=l.length->l.length<m+i ->
  Qx n k l K m ((i:Int),k,(i:Int),V.fKind,V.fNum,V.fText)=K k (l.length:Int) (fV k i V (l.drop i)).fKind (fV k i V (l.drop i)).fNum (fV k i V (l.drop i)).fText
 |0,i,V,h1,j=>by omega
 |m+1,i,V,h1,j=>by
  unfold Qx;simp only [aA,A4];by_cases h:i<l.length
  ·rw [if_pos (by omega),Ae h,B4 l i h];unfold z1g Zy Zz;have f:¬k=0:=by omega
   have g:V=⟨V.fKind,V.fNum,V.fText⟩:=rfl;simp only [A4,f,if_false,A0];rw [<-g,ya6 n k a];simp only [fV];by_cases d:i=0
   ·have:((i:Nat):Int)=0:=by omega
    rw [if_pos this,A0,Ai i (by omega)];have e:=zhi n a l c K m (i+1) (Fk k i V l[i]) (by omega) (by omega);have b:Fk k i V l[i]=l[i]:=by unfold Fk;rw [if_pos d]
    rw [b] at e ⊢;have o:((i+1:Nat):Int)=1:=by omega
    rw [o] at e ⊢;rw [A0];exact e
   ·rw [if_neg (by omega),if_neg (by omega),A0,A0,Ai i (by omega)];have e:=zhi n a l c K m (i+1) (Fk k i V l[i]) (by omega) (by omega);have b:Fk k i V l[i]=comb k V l[i]:=by unfold Fk;rw [if_neg d]
    rw [b] at e ⊢;rw [A0];exact e
  ·rw [if_neg (by omega),aC (by omega)];have:i=l.length:=by omega
   subst this;rfl
theorem y4a (n:Nat){k:Int}(hk:1<=k/\k<=5)(hi:i<=4096)(h:AInv k i V)(init:Va):∃ r,Qe n ⟨k,(i:Int),V⟩ init=some r/\Rl n ⟨k,(i:Int),V⟩ init=some r:=by
 obtain ⟨h1,h2⟩:=h.check n hk hi
 unfold Qe Rl
 rw [h1,h2]
 simp only [A0,zvl n k hk,ztg n k hk,A4,Am,B5,Ar,Kk,Lz,if_true,B0]
 repeat' split
 all_goals exact ⟨_,rfl,rfl⟩
theorem p_of (n:Nat)(w:5000<n){k:Int}(c:1<=k/\k<=5)(l:List Va)(init:Va):∃ r,Rc n k l init=some r/\Sd n k l init=some r:=by
 unfold Rc Sd Qz Ry;have ka:(0:Int)<=k:=by omega
 simp only [A0,A4,Am,B5,Ar,I9,J3,ka,c.2,if_true,aA,decide_true,Au];by_cases h:4096<l.length
 ·rw [if_pos (by omega),if_pos (by omega)];exact ⟨_,rfl,rfl⟩
 ·rw [if_neg (by omega),if_neg (by omega)];have p:=zvo n c init l (by omega) (fun m j g f d=>bnd (Qe n (⟨m,j,⟨g,f,d⟩⟩:C5) init) fun a=>some (a.1,a.2)) n 0 va0 (by omega) (by omega) (by simp [AInv]);have s:=y0p n c init l (by omega) (bnd (Vz n (⟨k,0,⟨0,0,ByteArray.empty⟩⟩:C5) l k) fun o=>bnd (Rl n o init) fun b=>some (b.1,b.2)) n 0 (by omega) (by omega);simp only [aB,aG] at p s;rw [p.1,s];cases v:bad k l with
  |some e=>exact ⟨_,rfl,rfl⟩
  |none =>
   have hi:=p.2 v;have q:=zhi n c l (by omega) (fun m j g f d=>some (⟨m,j,⟨g,f,d⟩⟩:C5)) n 0 va0 (by omega) (by omega);simp only [aB,aG] at q;unfold Vz;rw [q];simp only [A0];obtain ⟨r,u,t⟩:=y4a n c (i:=l.length) (by omega) hi init;rw [u,t];simp only [A0];exact ⟨_,rfl,rfl⟩
def evs (vs:List (List Ev))(v:Int):List Ev:=if v<0 then [] else if (vs.length:Int)<=v then [] else vs.getD v.toNat []
variable {α:Type}
theorem Jj {β:Type}{l:List α}{i:Int}(d:α)(k:α->Option β)(a:0<=i)(h1:i<(l.length:Int)):idx l i k=k (l.getD i.toNat d):=by
 obtain ⟨m,rfl⟩:∃ m:Nat,i=m:=⟨i.toNat,by omega⟩;have hm:m<l.length:=by omega
 rw [Ae hm];simp_all
theorem zhd (n:Nat)(vs:List (List Ev))(v:Int):Lq n ⟨vs⟩ v=some (evs vs v):=by
 unfold Lq evs;simp only [B5,Ar,Kj,aA,A4,Au];by_cases h:v<0
 ·rw [if_pos h,if_pos h]
 ·rw [if_neg h,if_neg h];by_cases a:(vs.length:Int)<=v
  ·rw [if_pos a,if_pos a]
  ·rw [if_neg a,if_neg a,Jj [] _ (by omega) (by omega)]
theorem zm5 (n:Nat)(vs:List (List Ev))(own:Int)(ev:Ev)(v:Int):Ps n ⟨vs⟩ own ev v=some (evs vs v):=by
 unfold Ps evs;simp only [B5,Ar,K5,aA,A4,Au];by_cases h:v<0
 ·rw [if_pos h,if_pos h]
 ·rw [if_neg h,if_neg h];by_cases a:(vs.length:Int)<=v
  ·rw [if_pos a,if_pos a]
  ·rw [if_neg a,if_neg a,Jj [] _ (by omega) (by omega)]
theorem y0u (n:Nat)(ev:Ev)(f:Int)(a:0<=f):N4 n ev f=some (if (ev.fValues.length:Int)<=f then (va0,6) else (ev.fValues.getD f.toNat va0,0)):=by
 unfold N4;simp only [aA,A4];by_cases h:(ev.fValues.length:Int)<=f
 ·rw [if_pos h,if_pos h]
 ·rw [if_neg h,if_neg h,Jj va0 _ a (by omega)]
theorem zkh (n:Nat)(e:Exn)(a:0<=e.fField)(es:List Ev)(d:es.length<=1000000)(K K':List Va->Option (Va×Int))(c:∀ l,∃ r,K l=some r/\K' l=some r):∀ (m i:Nat) (acc:List Va),i<=es.length->es.length<m+i->acc.length=i ->
  ∃ r,Q0 n e es K m ((i:Int),acc)=some r/\Ov n e es K' m ((i:Int),acc)=some r
 |0,i,acc,h1,f,_=>by omega
 |m+1,i,acc,h1,f,g=>by
  unfold Q0 Ov;simp only [aA,A4,Am];by_cases h:i<es.length
  ·rw [if_pos (by omega),if_pos (by omega)];simp only [Ae h];rw [y0u n _ _ a,A0];by_cases b:(es[i].fValues.length:Int)<=e.fField
   ·simp_all
   ·rw [if_neg b,if_neg b,Jj va0 _ a (by omega)];simp only [if_true];rw [C1 (by simp;omega) (by omega),C1 (by simp;omega) (by omega),Ai i (by omega)];exact zkh n e a es d K K' c m (i+1) _ (by omega) (by omega) (by simp;omega)
  ·rw [if_neg (by omega),if_neg (by omega)];exact c acc
theorem zwi (h:ndP e=0):0<=arP e.fOp/\(e.fArgs.length:Int)=arP e.fOp/\(usF e.fOp=true->0<=e.fField)/\(e.fOp=4->1<=e.fKind/\e.fKind<=5):=by
 unfold ndP at h;grind
inductive Occ (i:Nat):Exn->Prop
 |here (e:Exn) (h:usV e.fOp=true) (hv:e.fVar=(i:Int)):Occ i e
 |sub (e y:Exn) (hy:Ay y∈e.fArgs) (h:Occ i y):Occ i e
theorem yaa (h:ndP e=0)(a:usV e.fOp=true):0<=e.fVar/\e.fVar<16:=by
 unfold ndP at h;grind
theorem y9r (n:Nat)(N:2000000<n)(e:Exn)(s:ndP e=0)(P:e.fArgs.length=0)(a b:List (List Ev))(E:∀ i:Nat,Occ i e->evs a (i:Int)=evs b (i:Int))(F:∀ v,(evs a v).length<=1000000)(own:Int)(ev:Ev) :
  ∃ r,Qy n e ⟨a⟩ own ev=some r/\Qi n ⟨b⟩ own ev e=some r:=by
 obtain ⟨h,g,I,M⟩:=zwi s;by_cases o0:e.fOp=0
 ·unfold Qy Qi;simp only [zhd,zm5,A0,A4,o0,if_true];exact ⟨_,rfl,rfl⟩
 have H:usV e.fOp=true:=by
  unfold arP at h g;by_cases c:e.fOp<0
  ·rw [if_pos c] at h;omega
  by_cases q:12<e.fOp
  ·rw [if_neg c,if_pos q] at h;omega
  rw [if_neg c,if_neg q] at g;by_cases G:e.fOp<5
  ·unfold usV;grind
  ·rw [if_neg G] at g;split at g<;>omega
 have u:evs a e.fVar=evs b e.fVar:=by
  have D:=yaa s H;have:=E e.fVar.toNat (.here e H (by omega))
  rwa [show ((e.fVar.toNat:Nat):Int)=e.fVar by omega] at this
 unfold Qy Qi;simp only [zhd,zm5,<-u,A0,A4,Am,aA];rw [if_neg o0,if_neg o0];by_cases o3:e.fOp=3
 ·simp_all
 rw [if_neg o3,if_neg o3];by_cases f:e.fOp=4
 ·rw [if_pos f,if_pos f];unfold Yz;rw [zm5,<-u,A0];have t:=I (by rw [f];decide);have L:=M f;obtain ⟨r,z,w⟩:=zkh n e t (evs a e.fVar) (F _) (fun y=>bnd (Rc n e.fKind y e.fValue) fun m=>some (m.1,m.2)) (fun y=>bnd (Sd n e.fKind y e.fValue) fun o=>some (o.1,o.2)) (fun l=>by
   obtain ⟨r,z,w⟩:=p_of n (by omega) L l e.fValue;exact ⟨r,by rw [z,A0],by rw [w,A0]⟩) n 0 [] (by omega) (by have:=F e.fVar;omega) rfl
  simp only [aB] at z w;rw [z,w];exact ⟨r,rfl,by rw [A0]⟩
 rw [if_neg f,if_neg f];have K:e.fOp=1\/e.fOp=2:=by
  unfold arP at h g;by_cases c:e.fOp<0
  ·rw [if_pos c] at h;omega
  by_cases q:12<e.fOp
  ·rw [if_neg c,if_pos q] at h;omega
  rw [if_neg c,if_neg q] at g;by_cases G:e.fOp<5
  ·omega
  ·omega
 simp only [B5,Ar,Kq,Kp];unfold Zm;simp only [zhd,A0,A4,Am,aA];have tail:∀ x:Ev,∃ r,(if e.fOp=2 then some ((⟨0,x.fTime,be⟩:Va),(0:Int)) else if (x.fValues.length:Int)<=e.fField then some (va0,6) else idx x.fValues e.fField fun C=>bnd (H0 n C) fun j=>if j=0 then (idx x.fValues e.fField fun B=>some (B,0)) else some (va0,j))=some r /\
   (if e.fOp=2 then some ((⟨0,x.fTime,be⟩:Va),(0:Int)) else bnd (N4 n (⟨x.fSource,x.fSeq,x.fType,x.fTime,x.fValues⟩:A8) e.fField) fun d=>if d.2=0 then (bnd (Gb n d.1) fun p=>if p=0 then some (d.1,0) else some (va0,p)) else if d.2=0 then some (d.1,0) else some (va0,d.2))=some r:=fun x=>by
  by_cases o2:e.fOp=2
  ·simp_all
  rw [if_neg o2,if_neg o2];have J:e.fOp=1:=by omega
  have t:=I (by rw [J];decide);rw [y0u n _ _ t,A0];by_cases D:(x.fValues.length:Int)<=e.fField
  ·simp only [D,if_true];exact ⟨_,rfl,rfl⟩
  ·simp only [D,if_false];rw [Jj va0 _ t (by omega),Jj va0 _ t (by omega),y47,p_vc,A0];simp only [if_true,A0];split;all_goals simp_all
 by_cases A:e.fVar=own
 ·rw [if_pos A,if_pos A,A0];simp only [Au];exact tail ev
 ·rw [if_neg A,if_neg A];by_cases O:(evs a e.fVar).length=0
  ·rw [if_pos (by omega),if_pos (by omega),A0];simp only [Aw];exact ⟨_,rfl,rfl⟩
  ·rw [if_neg (by omega),if_neg (by omega),Cq _ (by have:=F e.fVar;omega),Jj ev _ (by omega) (by omega),Jj ev _ (by omega) (by omega),A0];simp only [Au];exact tail _
theorem zy2 (n:Nat)(op:Int)(h:5<=op/\op<=12):U0 n op=some (if op<9 then 0 else if op=9 then -1 else 1):=by
 have:op=5\/op=6\/op=7\/op=8\/op=9\/op=10\/op=11\/op=12:=by omega
 unfold U0;simp only [B5,Ar,Gi,Hv,A4];grind
theorem zdr (n:Nat)(op:Int)(h:5<=op/\op<=12)(a:List Int)(p:a.length<=4000000):∀ (m i:Nat),i<=a.length->a.length<m+i->∃ r,F5 n a op (some 0) m (i:Int)=some r/\G9 n a op (some 0) m (i:Int)=some r/\(r=0\/r=9)
 |0,i,h1,s=>by omega
 |m+1,i,h1,s=>by
  unfold F5 G9;simp only [aA,A4,Am,zy2 n op h,A0,B5,Ar,Fn,H7,J4];by_cases hi:i<a.length
  ·have b:((i:Nat):Int)<((a.length:Nat):Int):=by omega
   simp only [b,if_true];obtain ⟨r,f,d,c⟩:=zdr n op h a p m (i+1) (by omega) (by omega);rw [Ai i (by omega),f,d];have g:∀ (K:Int->Option Int),idx a 0 K=K (a.headD 0):=fun K=>by
    have:=Ae (l:=a) (i:=0) (by omega) K;simp only [aB] at this;rw [this];congr 1;cases a with
    |nil=>simp at hi
    |cons x q=>rfl
   have j:∀ (K:Int->Option Int),idx a (i:Int) K=K a[i]:=fun K=>Ae hi K
   simp only [g,j];generalize a[i]=k;generalize a.headD 0=o;have:op=5\/op=6\/op=7\/op=8\/op=9\/op=10\/op=11\/op=12:=by omega
   clear f d g j h;rcases this with rfl|rfl|rfl|rfl|rfl|rfl|rfl|rfl
   all_goals
    simp [B0];first
    |(by_cases q:k=0<;>simp [q,c])
    |(by_cases q:k=1<;>simp [q,c])
    |(by_cases q:k=o<;>simp [q,c])
  ·have b:¬((i:Nat):Int)<((a.length:Nat):Int):=by omega
   simp only [b,if_false];exact ⟨0,rfl,rfl,aO rfl⟩
theorem y0t (n:Nat)(b:Bool):Dy n b=some (if b=true then ⟨1,1,be⟩ else ⟨1,0,be⟩):=by
 unfold Dy z57;cases b<;>simp [B0,A0]
theorem zth (n:Nat)(b:Bool):Du n b=some (if b=true then ⟨1,1,be⟩ else ⟨1,0,be⟩):=by
 unfold Du;cases b<;>simp [B0]
section
variable {α β:Type}
theorem zma {len:Nat}(h:0<len)(k:Nat->Option β):nat 0 len k=k 0:=by have:=Cv (i:=0) h k;simpa using this
theorem zwj {len:Nat}(h:1<len)(k:Nat->Option β):nat 1 len k=k 1:=by have:=Cv (i:=1) h k;simpa using this
theorem y84 {x y:α}{l:List α}(k:α->Option β):idx (x::y::l) 1 k=k y:=by have:=Ae (l:=x::y::l) (i:=1) (by simp) k;simpa using this
end
theorem w21:aD .i64 (((2:Nat):Int)-1)=1:=by decide
theorem w11:aD .i64 (((1:Nat):Int)-1)=0:=by decide
theorem y4l (n:Nat)(op:Int)(h:5<=op/\op<=11)(x y:Va):∃ v,Lv n op [x,y]=some v /\
  (cnd (decide (op=9))
    (nat 0 (List.map Af [x,y]).length fun g=>elt [x,y] g fun c=>nat 1 (List.map Af [x,y]).length fun f=>elt [x,y] f fun b =>
      bnd (Dy n (decide (c.fKind=b.fKind) && (decide (c.fNum=b.fNum) && ((c.fText.toList == b.fText.toList) && true)))) fun d=>some (d,(0:Int)))
  <| natc op 5 (bnd (Vo n x.fNum y.fNum) fun a=>some (a,0))
  <| natc op 6 (bnd (Vn n x.fNum y.fNum) fun a=>some (a,0))
  <| natc op 7 (bnd (Vm n x.fNum y.fNum) fun a=>some (a,0))
  <| natc op 8 (bnd (Vl n x.fNum y.fNum) fun a=>some (a,0))
  <| natc op 10 (bnd (Vk n x.fNum y.fNum) fun a=>some (a,0))
  <| natc op 11 (bnd (Vj n x.fNum y.fNum) fun a=>some (a,0))
  <| natc op 12 (bnd (M8 n x.fNum y.fNum) fun a=>some (a,0))
  <| none)=some (v,0):=by
 have:op=5\/op=6\/op=7\/op=8\/op=9\/op=10\/op=11:=by omega
 have o:(List.map Af [x,y]).length=2:=rfl;have m:∀ k:Nat->Option (Va×Int),nat 0 2 k=k 0:=fun k=>zma (by omega) k
 have j:∀ k:Nat->Option (Va×Int),nat 1 2 k=k 1:=fun k=>zwj (by omega) k
 have r:∀ k:Va->Option (Va×Int),elt [x,y] 0 k=k x:=fun k=>Dc (by simp) k
 have p:∀ k:Va->Option (Va×Int),elt [x,y] 1 k=k y:=fun k=>Dc (by simp) k
 unfold Lv Vo Vn Vm Vl Vk Vj M8 Vp;simp only [o,m,j,r,p,Nk,y84,A4,Ns,y0t,zth,A0,B5,Ar,Lt,Ls,Kw,Kv];rcases this with rfl|rfl|rfl|rfl|rfl|rfl|rfl
 ·exact ⟨_,rfl,rfl⟩
 ·exact ⟨_,rfl,rfl⟩
 ·exact ⟨_,rfl,rfl⟩
 ·exact ⟨_,rfl,rfl⟩
 ·exact ⟨_,rfl,rfl⟩
 ·by_cases q:x.fNum=1
  ·simp [q,A0]
  ·simp [q,A0]
 ·by_cases q:x.fNum=1
  ·simp [q,A0]
  ·simp [q,A0]
theorem y4m (n:Nat)(x:Va):∃ v,Lv n 12 [x]=some v/\M8 n x.fNum x.fNum=some v:=by
 unfold Lv M8;simp only [Nk,A4,y0t,zth,A0];exact ⟨_,rfl,rfl⟩
theorem ETrO.pos {s:Nat}(h:ETrO s e):1<=s:=by cases h;omega
theorem zq4 (n:Nat)(l:List (Nat×Exn))(e:Exn)(f:e.fArgs=l.map (fun p=>Ay p.2))(q:l.length<=4000000)(a b:List (List Ev))(own:Int)(ev:Ev)
  (d:∀ p∈l,∃ r,H4 n p.2 ⟨a⟩ own ev=some r/\Gy n ⟨b⟩ own ev p.2=some r) (K K':List Va->List Int->Option (Va×Int)) (s:∀ vs,vs.length=l.length->∃ r,K vs (vs.map (·.fKind))=some r/\K' vs (vs.map (·.fKind))=some r) :
  ∀ (m k:Nat) (vs:List Va),k<=l.length->l.length<m+k->vs.length=k->∃ r,Q1 n (H4 n) ev own ⟨a⟩ e K m ((k:Int),vs,vs.map (·.fKind))=some r/\P8 n (Gy n) e ev own ⟨b⟩ K' m ((k:Int),vs,vs.map (·.fKind))=some r
 |0,k,vs,h1,t,_=>by omega
 |m+1,k,vs,h1,t,u=>by
  unfold Q1 P8;simp only [f,aA,A4,Am];by_cases h:k<l.length
  ·have c:((k:Nat):Int)<((l.length:Nat):Int):=by omega
   simp only [c,if_true];rw [Hk h,Hk h];obtain ⟨⟨v,x⟩,j,g⟩:=d l[k] (aE h);rw [j,g,A0,A0];by_cases o:x=0
   ·simp only [o,if_true];rw [C1 (by simp;omega) (by omega),C1 (by simp;omega) (by omega),C1 (by simp;omega) (by omega),C1 (by simp;omega) (by omega),Ai k (by omega)];have:=zq4 n l e f q a b own ev d K K' s m (k+1) (vs++[v]) (by omega) (by omega) (by simp;omega);simpa using this
   simp_all
  grind
theorem y9y (a b:List (List Ev))(Q:∀ v,(evs a v).length<=1000000)(own:Int)(ev:Ev):∀ (s:Nat) (e:Exn),ETrO s e->(∀ i:Nat,Occ i e->evs a (i:Int)=evs b (i:Int))->s<=4000000->∀ n,s+5000000<n->∃ r,H4 n e ⟨a⟩ own ev=some r/\Gy n ⟨b⟩ own ev e=some r:=by
 intro s
 induction s using Nat.strongRecOn with
 |ind s IH =>
  intro e N j U n W;cases N with
  |mk l e g h G =>
   obtain ⟨d,rfl⟩:∃ d,n=d + 1:=⟨n-1,by omega⟩;have X:l.length<=(l.map (·.1)).sum:=Xl (l:=l) (fun p q=>(h p q).pos);obtain ⟨H,D,Z,Y⟩:=zwi g;simp only [H4,Gy,aA,A4,Am];by_cases R:e.fArgs.length=0
   ·have:((e.fArgs.length:Nat):Int)=0:=by omega
    simp only [this,if_true];obtain ⟨r,o,m⟩:=y9r d (by omega) e g R a b j Q own ev;rw [o,m,A0];exact ⟨_,rfl,rfl⟩
   ·have:¬((e.fArgs.length:Nat):Int)=0:=by omega
    simp only [this,if_false];have P:e.fArgs.length=l.length:=by rw [G,aA]
    have c:5<=e.fOp/\e.fOp<=12/\(e.fOp=12->l.length=1)/\(e.fOp≠12->l.length=2):=by
     unfold arP at H D;by_cases F:e.fOp<0
     ·rw [if_pos F] at H;omega
     by_cases J:12<e.fOp
     ·omega
     rw [if_neg F,if_neg J] at D;by_cases I:e.fOp<5
     ·rw [if_pos I] at D;omega
     ·omega
    refine zq4 d l e G (by omega) a b own ev (fun p q=>by
     have:=Np q;exact IH p.1 (by omega) p.2 (h p q) (fun i hi=>j i (.sub e p.2 (by grind) hi)) (by omega) d (by omega)) _ _ (fun vs M=>?_) d 0 [] (by omega) (by omega) rfl
    obtain ⟨r,o,m,T⟩:=zdr d e.fOp ⟨c.1,c.2.1⟩ (vs.map (·.fKind)) (by rw [aA];omega) d 0 (by omega) (by rw [aA];omega);simp only [aB] at o m;unfold Yj z1v;rw [o,m,A0,A0];by_cases O:r=0
    ·simp only [O,if_true];by_cases f:e.fOp=12
     ·have C:vs.length=1:=by have:=c.2.2.1 f;omega
      match vs,C with
      |[x],_ =>
       obtain ⟨v,u,t⟩:=y4m d x;rw [f,u,A0];have w:∀ k:Nat->Option (Va×Int),nat 0 1 k=k 0:=fun k=>zma (by omega) k
       have E:∀ k:Va->Option (Va×Int),elt [x] 0 k=k x:=fun k=>Dc (by simp) k
       have A:∀ z:Option (Va×Int),ltx 0 1 z=z:=fun z=>Xq (by omega) z
       simp only [Ns,aK,aM,Nat.zero_add,w11,w,E,A,t,A0];exact ⟨_,rfl,rfl⟩
     ·have B:vs.length=2:=by have:=c.2.2.2 f;omega
      match vs,B with
      |[x,y],_ =>
       obtain ⟨v,u,t⟩:=y4l d e.fOp ⟨c.1,by omega⟩ x y;rw [u,A0];refine ⟨(v,0),rfl,?_⟩;rw [<-t];have w:∀ k:Nat->Option (Va×Int),nat 0 2 k=k 0:=fun k=>zma (by omega) k
       have K:∀ k:Nat->Option (Va×Int),nat 1 2 k=k 1:=fun k=>zwj (by omega) k
       have E:∀ k:Va->Option (Va×Int),elt [x,y] 0 k=k x:=fun k=>Dc (by simp) k
       have S:∀ k:Va->Option (Va×Int),elt [x,y] 1 k=k y:=fun k=>Dc (by simp) k
       have A:∀ z:Option (Va×Int),ltx 0 2 z=z:=fun z=>Xq (by omega) z
       have L:∀ z:Option (Va×Int),ltx 1 2 z=z:=fun z=>Xq (by omega) z
       simp only [Ns,A4,aA,aK,aM,Nat.zero_add,Nat.reduceAdd,w21,w,K,E,S,A,L]
    simp_all
theorem y08 (a b:List (List Ev))(o:∀ v,(evs a v).length<=1000000)(own:Int)(ev:Ev)(s:Nat)(e:Exn)(f:∀ i:Nat,Occ i e->evs a (i:Int)=evs b (i:Int))(m:ETr s e)(g:s<=4000000)(n:Nat)(u:10000000<n) :
  ∃ r,G1 n e ⟨a⟩ own ev=some r/\Hb n e ⟨b⟩ own ev=some r:=by
 obtain ⟨c,t,q,p⟩:=y10 s e m g n (by omega);unfold G1 Hb Zn z9b;rw [t,q];simp only [A0,A4,Am,y0t,zth,B5,Ar,Kx,Mt];by_cases d:c=0
 ·simp only [d,if_true];obtain ⟨r,j,h⟩:=y9y a b o own ev s e (p d) f g n (by omega);rw [j,h];simp only [A0];split;all_goals simp_all
 ·simp only [d,if_false,A0];exact ⟨_,rfl,rfl⟩
def fidx (p:α->Bool)(l:List α):Int:=match l.findIdx? p with|some j=>(j:Int)|none=>-1
theorem Nl (p:α->Bool)(l:List α):decide (0<=fidx p l)=l.any p:=by
 unfold fidx;grind
def E4 (p:α->Bool)(k:Nat)(l:List α):Int:=match l.findIdx? p with|some j=>((k+j:Nat):Int)|none=>-1
theorem Hh (p:α->Bool)(k:Nat)(x:α)(l:List α):E4 p k (x::l)=if p x=true then (k:Int) else E4 p (k+1) l:=by
 unfold E4;grind
theorem Hg (p:α->Bool)(l:List α):E4 p 0 l=fidx p l:=by
 unfold E4 fidx;simp_all
theorem zpz (n:Nat)(x:Int)(l:List Int)(a:l.length<=1000000000):∀ (m k:Nat),k<=l.length->l.length<m+k->Rn n x l (some (-1)) m (k:Int)=some (E4 (fun y=>decide (x=y)) k (l.drop k))
 |0,k,h1,b=>by omega
 |m+1,k,h1,b=>by
  unfold Rn;simp only [aA,A4];by_cases h:k<l.length
  ·rw [if_pos (by omega),Ae h,B4 l k h,Hh,Ai k (by omega),zpz n x l a m (k+1) (by omega) (by omega)];grind
  ·rw [if_neg (by omega),aC (by omega)];rfl
theorem zc2 (n:Nat)(x:Int)(l:List Int)(a:l.length<=1000000000)(b:l.length<n):Dw n l x=some (l.any fun y=>decide (x=y)):=by
 unfold Dw z2c;have:=zpz n x l a n 0 (by omega) (by omega);simp only [aB,aG,Hg] at this;rw [this,A0,Nl]
theorem zkn (n:Nat)(a1c0:Ba)(p:Ba->Bool)(l:List Ba)(b:l.length<=1000000000)(a:∀ x∈l,R4 n x a1c0=some (p x)):∀ (m k:Nat),k<=l.length->l.length<m+k->Qr n a1c0 l (some (-1)) m (k:Int)=some (E4 p k (l.drop k))
 |0,k,h1,c=>by omega
 |m+1,k,h1,c=>by
  unfold Qr;simp only [aA,A4];by_cases h:k<l.length
  ·rw [if_pos (by omega),Ae h,B4 l k h,Hh,a _ (aE h),A0,Ai k (by omega),zkn n a1c0 p l b a m (k+1) (by omega) (by omega)];cases p l[k]<;>simp [B0]
  ·rw [if_neg (by omega),aC (by omega)];rfl
theorem y7f (n:Nat)(a1c0:Ba)(p:Ba->Bool)(l:List Ba)(a:l.length<=1000000000)(c:l.length<n)(b:∀ x∈l,R4 n x a1c0=some (p x)):Vs n l a1c0=some (fidx p l):=by
 unfold Vs;have:=zkn n a1c0 p l a b n 0 (by omega) (by omega);simpa only [aB,aG,Hg] using this
theorem ya5 (n:Nat)(a1c0:Ba)(p:Ba->Bool)(l:List Ba)(b:l.length<=1000000000)(a:l.length<n)(c:∀ x∈l,R4 n x a1c0=some (p x)):Qt n l a1c0=some (l.any p):=by
 unfold Qt;rw [y7f n a1c0 p l b a c,A0,Nl]
theorem zcz (n:Nat)(p:C3->Bool)(l:List C3)(b:l.length<=1000000000)(a:∀ x∈l,Mb n x=some (p x)):∀ (m k:Nat),k<=l.length->l.length<m+k->P1 n l (some (-1)) m (k:Int)=some (E4 p k (l.drop k))
 |0,k,h1,c=>by omega
 |m+1,k,h1,c=>by
  unfold P1;simp only [aA,A4];by_cases h:k<l.length
  ·rw [if_pos (by omega),Ae h,B4 l k h,Hh,a _ (aE h),A0,Ai k (by omega),zcz n p l b a m (k+1) (by omega) (by omega)];cases p l[k]<;>simp [B0]
  ·rw [if_neg (by omega),aC (by omega)];rfl
theorem ztm (n:Nat)(p:C3->Bool)(l:List C3)(a:l.length<=1000000000)(c:l.length<n)(b:∀ x∈l,Mb n x=some (p x)):Ui n l=some (fidx p l):=by
 unfold Ui;have:=zcz n p l a b n 0 (by omega) (by omega);simpa only [aB,aG,Hg] using this
theorem zy5 (n:Nat)(p:C3->Bool)(l:List C3)(b:l.length<=1000000000)(a:l.length<n)(c:∀ x∈l,Mb n x=some (p x)):P2 n l=some (l.any p):=by
 unfold P2;rw [ztm n p l b a c,A0,Nl]
theorem zcx (n:Nat)(a1c0:A8)(p:Bf->Bool)(l:List Bf)(b:l.length<=1000000000)(a:∀ x∈l,N2 n (⟨x.fVar,⟨x.fRef.fTime,x.fRef.fSource,x.fRef.fSeq⟩⟩:Bf) a1c0=some (p x)):∀ (m k:Nat),k<=l.length->l.length<m+k->Oz n a1c0 l (some (-1)) m (k:Int)=some (E4 p k (l.drop k))
 |0,k,h1,c=>by omega
 |m+1,k,h1,c=>by
  unfold Oz;simp only [aA,A4];by_cases h:k<l.length
  ·rw [if_pos (by omega),Ae h,B4 l k h,Hh,a _ (aE h),A0,Ai k (by omega),zcx n a1c0 p l b a m (k+1) (by omega) (by omega)];cases p l[k]<;>simp [B0]
  ·rw [if_neg (by omega),aC (by omega)];rfl
theorem ztk (n:Nat)(a1c0:A8)(p:Bf->Bool)(l:List Bf)(a:l.length<=1000000000)(c:l.length<n)(b:∀ x∈l,N2 n (⟨x.fVar,⟨x.fRef.fTime,x.fRef.fSource,x.fRef.fSeq⟩⟩:Bf) a1c0=some (p x)):Ug n l a1c0=some (fidx p l):=by
 unfold Ug;have:=zcx n a1c0 p l a b n 0 (by omega) (by omega);simpa only [aB,aG,Hg] using this
theorem zy3 (n:Nat)(a1c0:A8)(p:Bf->Bool)(l:List Bf)(b:l.length<=1000000000)(a:l.length<n)(c:∀ x∈l,N2 n (⟨x.fVar,⟨x.fRef.fTime,x.fRef.fSource,x.fRef.fSeq⟩⟩:Bf) a1c0=some (p x)):Tu n l a1c0=some (l.any p):=by
 unfold Tu;rw [ztk n a1c0 p l b a c,A0,Nl]
theorem zcy (n:Nat)(a1c0:A8)(p:A1->Bool)(l:List A1)(b:l.length<=1000000000)(a:∀ x∈l,N3 n x a1c0=some (p x)):∀ (m k:Nat),k<=l.length->l.length<m+k->P0 n a1c0 l (some (-1)) m (k:Int)=some (E4 p k (l.drop k))
 |0,k,h1,c=>by omega
 |m+1,k,h1,c=>by
  unfold P0;simp only [aA,A4];by_cases h:k<l.length
  ·rw [if_pos (by omega),Ae h,B4 l k h,Hh,a _ (aE h),A0,Ai k (by omega),zcy n a1c0 p l b a m (k+1) (by omega) (by omega)];cases p l[k]<;>simp [B0]
  ·rw [if_neg (by omega),aC (by omega)];rfl
theorem ztl (n:Nat)(a1c0:A8)(p:A1->Bool)(l:List A1)(a:l.length<=1000000000)(c:l.length<n)(b:∀ x∈l,N3 n x a1c0=some (p x)):Uh n l a1c0=some (fidx p l):=by
 unfold Uh;have:=zcy n a1c0 p l a b n 0 (by omega) (by omega);simpa only [aB,aG,Hg] using this
theorem zy4 (n:Nat)(a1c0:A8)(p:A1->Bool)(l:List A1)(b:l.length<=1000000000)(a:l.length<n)(c:∀ x∈l,N3 n x a1c0=some (p x)):Tv n l a1c0=some (l.any p):=by
 unfold Tv;rw [ztl n a1c0 p l b a c,A0,Nl]
theorem zax (n:Nat)(a1c0:Aq)(a1c1:A8)(p:Ba->Bool)(l:List Ba)(b:l.length<=1000000000)(a:∀ x∈l,Kl n x (⟨a1c0.fVars⟩:Aq) a1c1=some (p x)):∀ (m k:Nat),k<=l.length->l.length<m+k->Oq n a1c1 a1c0 l (some (-1)) m (k:Int)=some (E4 p k (l.drop k))
 |0,k,h1,c=>by omega
 |m+1,k,h1,c=>by
  unfold Oq;simp only [aA,A4];by_cases h:k<l.length
  ·rw [if_pos (by omega),Ae h,B4 l k h,Hh,a _ (aE h),A0,Ai k (by omega),zax n a1c0 a1c1 p l b a m (k+1) (by omega) (by omega)];cases p l[k]<;>simp [B0]
  ·rw [if_neg (by omega),aC (by omega)];rfl
theorem zpy (n:Nat)(a1c0:Aq)(a1c1:A8)(p:Ba->Bool)(l:List Ba)(a:l.length<=1000000000)(c:l.length<n)(b:∀ x∈l,Kl n x (⟨a1c0.fVars⟩:Aq) a1c1=some (p x)):U8 n l a1c0 a1c1=some (fidx p l):=by
 unfold U8;have:=zax n a1c0 a1c1 p l a b n 0 (by omega) (by omega);simpa only [aB,aG,Hg] using this
theorem zto (n:Nat)(a1c0:Aq)(a1c1:A8)(p:Ba->Bool)(l:List Ba)(b:l.length<=1000000000)(a:l.length<n)(c:∀ x∈l,Kl n x (⟨a1c0.fVars⟩:Aq) a1c1=some (p x)):Tq n l a1c0 a1c1=some (l.any p):=by
 unfold Tq;rw [zpy n a1c0 a1c1 p l b a c,A0,Nl]
theorem zaw (n:Nat)(a1c0:Ag)(a1c1:Aq)(a1c2:A8)(p:Ba->Bool)(l:List Ba)(b:l.length<=1000000000)(a:∀ x∈l,Ia n x a1c0 (⟨a1c1.fVars⟩:Aq) a1c2=some (p x)):∀ (m k:Nat),k<=l.length->l.length<m+k->Oo n a1c2 a1c1 a1c0 l (some (-1)) m (k:Int)=some (E4 p k (l.drop k))
 |0,k,h1,c=>by omega
 |m+1,k,h1,c=>by
  unfold Oo;simp only [aA,A4];by_cases h:k<l.length
  ·rw [if_pos (by omega),Ae h,B4 l k h,Hh,a _ (aE h),A0,Ai k (by omega),zaw n a1c0 a1c1 a1c2 p l b a m (k+1) (by omega) (by omega)];cases p l[k]<;>simp [B0]
  ·rw [if_neg (by omega),aC (by omega)];rfl
theorem zpx (n:Nat)(a1c0:Ag)(a1c1:Aq)(a1c2:A8)(p:Ba->Bool)(l:List Ba)(a:l.length<=1000000000)(c:l.length<n)(b:∀ x∈l,Ia n x a1c0 (⟨a1c1.fVars⟩:Aq) a1c2=some (p x)):U7 n l a1c0 a1c1 a1c2=some (fidx p l):=by
 unfold U7;have:=zaw n a1c0 a1c1 a1c2 p l a b n 0 (by omega) (by omega);simpa only [aB,aG,Hg] using this
theorem ztn (n:Nat)(a1c0:Ag)(a1c1:Aq)(a1c2:A8)(p:Ba->Bool)(l:List Ba)(b:l.length<=1000000000)(a:l.length<n)(c:∀ x∈l,Ia n x a1c0 (⟨a1c1.fVars⟩:Aq) a1c2=some (p x)):Tp n l a1c0 a1c1 a1c2=some (l.any p):=by
 unfold Tp;rw [zpx n a1c0 a1c1 a1c2 p l b a c,A0,Nl]
theorem zav (n:Nat)(a1c0:C3)(p:Ak->Bool)(l:List Ak)(b:l.length<=1000000000)(a:∀ x∈l,Wk n x a1c0=some (p x)):∀ (m k:Nat),k<=l.length->l.length<m+k->Om n a1c0 l (some (-1)) m (k:Int)=some (E4 p k (l.drop k))
 |0,k,h1,c=>by omega
 |m+1,k,h1,c=>by
  unfold Om;simp only [aA,A4];by_cases h:k<l.length
  ·rw [if_pos (by omega),Ae h,B4 l k h,Hh,a _ (aE h),A0,Ai k (by omega),zav n a1c0 p l b a m (k+1) (by omega) (by omega)];cases p l[k]<;>simp [B0]
  ·rw [if_neg (by omega),aC (by omega)];rfl
theorem zpw (n:Nat)(a1c0:C3)(p:Ak->Bool)(l:List Ak)(a:l.length<=1000000000)(c:l.length<n)(b:∀ x∈l,Wk n x a1c0=some (p x)):U6 n l a1c0=some (fidx p l):=by
 unfold U6;have:=zav n a1c0 p l a b n 0 (by omega) (by omega);simpa only [aB,aG,Hg] using this
theorem zau (n:Nat)(a1c0:Ag)(p:Ak->Bool)(l:List Ak)(b:l.length<=1000000000)(a:∀ x∈l,Ld n x a1c0=some (p x)):∀ (m k:Nat),k<=l.length->l.length<m+k->Ol n a1c0 l (some (-1)) m (k:Int)=some (E4 p k (l.drop k))
 |0,k,h1,c=>by omega
 |m+1,k,h1,c=>by
  unfold Ol;simp only [aA,A4];by_cases h:k<l.length
  ·rw [if_pos (by omega),Ae h,B4 l k h,Hh,a _ (aE h),A0,Ai k (by omega),zau n a1c0 p l b a m (k+1) (by omega) (by omega)];cases p l[k]<;>simp [B0]
  ·rw [if_neg (by omega),aC (by omega)];rfl
theorem zpv (n:Nat)(a1c0:Ag)(p:Ak->Bool)(l:List Ak)(a:l.length<=1000000000)(c:l.length<n)(b:∀ x∈l,Ld n x a1c0=some (p x)):U5 n l a1c0=some (fidx p l):=by
 unfold U5;have:=zau n a1c0 p l a b n 0 (by omega) (by omega);simpa only [aB,aG,Hg] using this
abbrev Gd:=Ba
abbrev Stt:=Dh
abbrev Ed:=Ag
abbrev Aut:=Ad
def WfE (e:Exn):Prop:=∃ z,z<=4000000/\ETr z e
structure WfX (x:Ed):Prop where
 cond:WfE x.fCond
 checks:∃ ys:List Exn,x.fChecks=ys.map Ay/\∀ y∈ys,WfE y
 lc:x.fChecks.length<=1100000
 lo:x.fOpens.length<=1100000
 lcl:x.fCloses.length<=1100000
 li:x.fInside.length<=1100000
 ll:x.fLimits.length<=1100000
structure WfA (a:Aut):Prop where
 ls:a.fStates.length<=1100000
 le:a.fEdges.length<=1100000
 st:∀ s∈a.fStates,s.fGuards.length<=1100000/\∀ g∈s.fGuards,WfE g.fCond
 ed:∀ x∈a.fEdges,WfX x
theorem WfE.check (h:WfE e)(n:Nat)(f:10000000<n):∃ r:Int,G4 n e=some r/\Hc n e=some r:=by
 obtain ⟨z,c,d⟩:=h;obtain ⟨r,b,a,_⟩:=y10 z e d c n (by omega);exact ⟨r,b,a⟩
theorem Xu (n:Nat)(a b:Int):D9 n a b=some (decide (a<0) || decide (b<a)):=by
 unfold D9;simp only [B5,Ar,Ll,A4];by_cases h:a<0<;>simp [h]
theorem zm0 (n:Nat)(a b:Int):Ej n a b=some (decide (0<=a) && decide (a<b)):=by
 unfold Ej;simp only [B5,Ar,Lx,A4];by_cases h:0<=a<;>simp [h]
theorem X1 (a b:Int):(decide (a<0) || decide (b-1<a))=!(decide (0<=a) && decide (a<b)):=by
 grind
theorem zxh {q:α->Bool}{l:List α}(a:k<i)(hi:i<=l.length):((l.take i).drop k).any q=(q (l[k]'(by omega)) || ((l.take i).drop (k+1)).any q):=by
 rw [B4 _ k (by simp;omega),any_cons,getElem_take]
theorem zfm (n:Nat)(l:List Gd)(a:Aut)(i:Nat)(hi:i<l.length)(b:l.length<=1100000)(K:Option Int):∀ (m k:Nat),k<=i->i<m+k->Oy n l a (i:Int) K m (k:Int)=if ((l.take i).drop k).any (fun h=>decide (h.fScope=l[i].fScope))=true then some 7 else K
 |0,k,h1,c=>by omega
 |m+1,k,h1,c=>by
  unfold Oy;simp only [A4];by_cases h:k<i
  ·rw [if_pos (by omega),Ae (by omega:k<l.length),Ae hi,zxh h (by omega),Ai k (by omega),zfm n l a i hi b K m (k+1) (by omega) (by omega)];grind
  ·rw [if_neg (by omega),aC (by simp;omega)];simp
theorem zhg (n:Nat)(u:10000000<n)(a:Aut)(C:0<=a.fScopes/\a.fScopes<=64)(B:0<=a.fVars/\a.fVars<=16)(l:List Gd)(v:l.length<=1100000)(t:∀ g∈l,WfE g.fCond):∀ (m k:Nat),k<=l.length->l.length<m+k->∃ r:Int,Fo n l a (some 0) m (k:Int)=some r/\G5 n l a (some 0) m (k:Int)=some r
 |0,k,h1,D=>by omega
 |m+1,k,h1,D=>by
  unfold Fo G5;simp only [aA,A4,Am,B5,Ar,I3,Iz,Xu,zm0];by_cases h:k<l.length
  ·have d:((k:Nat):Int)<((l.length:Nat):Int):=by omega
   simp only [d,if_true,Ae h,A0];have wS:aD .i64 (a.fScopes-1)=a.fScopes-1:=Cq _ (by omega);have wV:aD .i64 (a.fVars-1)=a.fVars-1:=Cq _ (by omega);have s:∀ x:Int,(decide (x<0) || decide (15<x))=!(decide (0<=x) && decide (x<16)):=fun x=>X1 x 16
   simp only [wS,wV,X1,s];obtain ⟨r,A,z⟩:=zhg n u a C B l v t m (k+1) (by omega) (by omega);obtain ⟨c,F,E⟩:=(t _ (aE h)).check n u;have y:=zfm n l a k h v (bnd (G4 n l[k].fCond) fun f=>if f=0 then Fo n l a (some 0) m (aD .i64 ((k:Int)+1)) else some f) n 0 (by omega) (by omega);simp only [aB,aG] at y;rw [y,F,E];have w:=Dk (l:=l) (a:=0) (b:=k) (Nat.zero_le _) (by omega) (fun q=>bnd (Qt n q l[k]) fun p=>cnd p (some (7:Int)) (bnd (some c) fun j=>if j=0 then G5 n l a (some 0) m (aD .i64 ((k:Int)+1)) else some j));simp only [aB,aG] at w;rw [w,ya5 n l[k] (fun h=>decide (h.fScope=l[k].fScope)) (l.take k) (by simp;omega) (by simp;omega) (fun x _=>rfl),A0,Ai k (by omega),A,z];simp only [A0];generalize (decide (0<=l[k].fScope) && decide (l[k].fScope<a.fScopes))=J;generalize (decide (0<=l[k].fType) && decide (l[k].fType<16))=I;generalize (decide (0<=l[k].fVar) && decide (l[k].fVar<a.fVars))=H;generalize ((l.take k).any fun h=>decide (h.fScope=l[k].fScope))=G;cases J with
   |false=>exact ⟨2,by simp [B0],by simp [B0]⟩
   |true=>cases I with
    |false=>exact ⟨2,by simp [B0],by simp [B0]⟩
    |true=>cases H with
     |false=>exact ⟨2,by simp [B0],by simp [B0]⟩
     |true=>cases G with
      |true=>exact ⟨7,by simp [B0],by simp [B0]⟩
      |false =>
       by_cases o:c=0
       ·exact ⟨r,by simp [B0,o],by simp [B0,o]⟩
       ·exact ⟨c,by simp [B0,o],by simp [B0,o]⟩
  ·have d:¬((k:Nat):Int)<((l.length:Nat):Int):=by omega
   simp only [d,if_false];exact ⟨0,rfl,rfl⟩
theorem y4g (n:Nat)(f:10000000<n)(a:Aut)(d:0<=a.fScopes/\a.fScopes<=64)(c:0<=a.fVars/\a.fVars<=16)(l:List Gd)(j:l.length<=1100000)(b:∀ g∈l,WfE g.fCond):∃ r:Int,Ue n a l=some r/\Vy n a l=some r:=by
 unfold Ue Vy;simp only [aA,A4];by_cases h:64<((l.length:Nat):Int)
 ·simp_all
 ·simp only [h,if_false];have:=zhg n f a d c l j b n 0 (by omega) (by omega);omega
theorem zpe (n:Nat)(sc:Int)(l:List Int)(i:Nat)(hi:i<l.length)(a:l.length<=1100000)(K:Option Int):∀ (m k:Nat),k<=i->i<m+k->Ox n sc l (i:Int) K m (k:Int)=if ((l.take i).drop k).any (fun h=>decide (l[i]=h))=true then some 7 else K
 |0,k,h1,b=>by omega
 |m+1,k,h1,b=>by
  unfold Ox;simp only [A4];by_cases h:k<i
  ·rw [if_pos (by omega),Ae (by omega:k<l.length),Ae hi,zxh h (by omega),Ai k (by omega),zpe n sc l i hi a K m (k+1) (by omega) (by omega)];grind
  ·rw [if_neg (by omega),aC (by simp;omega)];simp
theorem zhc (n:Nat)(v:10000000<n)(a:Aut)(u:0<=a.fScopes/\a.fScopes<=64)(A:List (List Int))(j:Int)(l:List Int)(o:l.length<=1100000)(K:Option Int):∀ (m k:Nat),k<=l.length->l.length<m+k->∃ r:Int,Ki n a.fScopes l (some 0) m (k:Int)=some r/\H3 n A a j l K m (k:Int)=(if r=0 then K else some r)/\(r=0->∀ y∈l.drop k,0<=y/\y<a.fScopes)
 |0,k,h1,w=>by omega
 |m+1,k,h1,w=>by
  unfold Ki H3;simp only [aA,A4,Am,Xu,zm0];by_cases h:k<l.length
  ·have c:((k:Nat):Int)<((l.length:Nat):Int):=by omega
   simp only [c,if_true,Ae h,A0];rw [Cq _ (by omega),X1];obtain ⟨r,t,s,B⟩:=zhc n v a u A j l o K m (k+1) (by omega) (by omega);have q:=zpe n a.fScopes l k h o (Ki n a.fScopes l (some 0) m (aD .i64 ((k:Int)+1))) n 0 (by omega) (by omega);simp only [aB,aG] at q;have p:=Dk (l:=l) (a:=0) (b:=k) (Nat.zero_le _) (by omega) (fun f=>bnd (Dw n f l[k]) fun d=>cnd d (some (7:Int)) (H3 n A a j l K m (aD .i64 ((k:Int)+1))));simp only [aB,aG] at p;rw [q,p,zc2 n l[k] (l.take k) (by simp;omega) (by simp;omega),A0,Ai k (by omega),t,s];have g:(decide (0<=l[k]) && decide (l[k]<a.fScopes))=true->0<=l[k]/\l[k]<a.fScopes:=fun h=>by simpa using h
   rw [B4 l k h];revert g;generalize (decide (0<=l[k]) && decide (l[k]<a.fScopes))=z;generalize ((l.take k).any fun y=>decide (l[k]=y))=x;intro g;cases z with
   |false=>exact ⟨2,by simp [B0],by simp [B0],fun h=>by cases h⟩
   |true=>cases x with
    |true=>exact ⟨7,by simp [B0],by simp [B0],fun h=>by cases h⟩
    |false =>
     refine ⟨r,by simp [B0],by simp [B0],fun h y C=>?_⟩;grind
  ·have c:¬((k:Nat):Int)<((l.length:Nat):Int):=by omega
   simp only [c,if_false];grind
theorem zvt (n:Nat)(x:Ed)(a:Aut)(c:x.fLimits.length<=1100000)(K K':List Int->Option Int)(r:Option Int)(h1:K (x.fLimits.map (·.fScope))=r):∀ (m k:Nat) (acc:List Int),k<=x.fLimits.length->x.fLimits.length<m+k->acc=(x.fLimits.take k).map (·.fScope)->Pc n x a K m ((k:Int),acc)=r
 |0,k,acc,f,d,_=>by omega
 |m+1,k,acc,f,d,b=>by
  unfold Pc;simp only [aA,A4];by_cases h:k<x.fLimits.length
  ·rw [if_pos (by omega),Ae h,C1 (by subst b;simp;omega) (by omega),Ai k (by omega)];exact zvt n x a c K K' r h1 m (k+1) _ (by omega) (by omega) (by subst b;rw [aF h,aL];rfl)
  grind
theorem zfn (n:Nat)(l:List C3)(b:l.length<=1100000):∀ (m k:Nat) (acc:List Int),k<=l.length->l.length<m+k->acc=(l.take k).map (·.fScope)->Qj n l (fun y=>some y) m ((k:Int),acc)=some (l.map (·.fScope))
 |0,k,acc,d,c,_=>by omega
 |m+1,k,acc,d,c,a=>by
  unfold Qj;simp only [aA,A4];by_cases h:k<l.length
  ·rw [if_pos (by omega),Ae h,C1 (by subst a;simp;omega) (by omega),Ai k (by omega)];exact zfn n l b m (k+1) _ (by omega) (by omega) (by subst a;rw [aF h,aL];rfl)
  grind
theorem y0q (n:Nat)(b:10000000<n)(l:List C3)(a:l.length<=1100000):Ra n l=some (l.map (·.fScope)):=by
 unfold Ra;exact zfn n l a n 0 [] (by omega) (by omega) (by simp)
theorem zpf (n:Nat)(x:Ed)(a:x.fLimits.length<=1100000):∀ (m k:Nat),k<=x.fLimits.length->x.fLimits.length<m+k->Ku n x (some 0) m (k:Int)=some (if (x.fLimits.drop k).any (fun l=>decide (l.fSpan<0) || decide (1099511627776<l.fSpan))=true then 2 else 0)
 |0,k,h1,c=>by omega
 |m+1,k,h1,c=>by
  unfold Ku;simp only [aA,A4,Xu,A0];by_cases h:k<x.fLimits.length
  ·rw [if_pos (by omega),Ae h,B4 _ k h,any_cons,Ai k (by omega),zpf n x a m (k+1) (by omega) (by omega)];generalize (decide (x.fLimits[k].fSpan<0) || decide (1099511627776<x.fLimits[k].fSpan))=b;cases b<;>simp [B0]
  grind
theorem y7e (n:Nat)(I:10000000<n)(a:Aut)(O:0<=a.fScopes/\a.fScopes<=64)(x:Ed)(d:WfX x):∃ r:Int,Qm n a x=some r /\
  (bnd (Ra n x.fLimits) fun z=>bnd (Vx n a ([x.fOpens,x.fCloses,x.fInside,z])) fun t=>if t=0 then (bnd (P2 n x.fLimits) fun w=>cnd w (some (2:Int)) (some 0)) else some t)=some r/\(r=0->∀ y∈x.fOpens,0<=y/\y<a.fScopes):=by
 have u:=zpf n x d.ll n 0 (by omega) (by have:=d.ll;omega);simp only [aB,aG] at u;rw [y0q n I x.fLimits d.ll,A0];have B:=zy5 n (fun l=>decide (l.fSpan<0) || decide (1099511627776<l.fSpan)) x.fLimits (by have:=d.ll;omega) (by have:=d.ll;omega) (fun y _=>by
  unfold Mb;simp only [B5,Ar,Ly,A4];grind)
 rw [B];simp only [A0];have A:(x.fLimits.map (·.fScope)).length<=1100000:=by rw [aA];exact d.ll
 generalize P:x.fLimits.map (·.fScope)=S at *;generalize (x.fLimits.any fun l=>decide (l.fSpan<0) || decide (1099511627776<l.fSpan))=sp at *;unfold Vx
 -- the four lists
 have step:∀ (l:List Int),l.length<=1100000->∀ (j:Int) (K:Option Int),∃ r:Int,Qb n l a.fScopes=some r/\H3 n [x.fOpens,x.fCloses,x.fInside,S] a j l K n 0=(if r=0 then K else some r)/\(r=0->∀ y∈l,0<=y/\y<a.fScopes):=fun l v j K=>by
  have:=zhc n I a O [x.fOpens,x.fCloses,x.fInside,S] j l v K n 0 (by omega) (by omega);unfold Qb;simp_all
 have uq:∀ l:List Int,l.length<=1100000->∃ r:Int,Qb n l a.fScopes=some r/\(∀ (j:Int) (K:Option Int),H3 n [x.fOpens,x.fCloses,x.fInside,S] a j l K n 0=if r=0 then K else some r)/\(r=0->∀ y∈l,0<=y/\y<a.fScopes):=fun l v=>by
  obtain ⟨r,N,_,J⟩:=step l v 0 none;refine ⟨r,N,fun j K=>?_,J⟩;obtain ⟨r',M,L,_⟩:=step l v j K;simp_all
 obtain ⟨s,a1,W,Q⟩:=uq x.fOpens d.lo;obtain ⟨q,Z,U,_⟩:=uq x.fCloses d.lcl;obtain ⟨p,Y,T,_⟩:=uq x.fInside d.li;obtain ⟨o,X,R,_⟩:=uq S A;have w0:aD .i64 ((0:Int)+1)=1:=by decide
 have w1:aD .i64 ((1:Int)+1)=2:=by decide
 have D:aD .i64 ((2:Int)+1)=3:=by decide
 have C:aD .i64 ((3:Int)+1)=4:=by decide
 have H:∀ K:List Int->Option Int,idx ([x.fOpens,x.fCloses,x.fInside,S]:List (List Int)) 0 K=K x.fOpens:=fun K=>by have:=Ae (l:=[x.fOpens,x.fCloses,x.fInside,S]) (i:=0) (by simp) K;simpa using this
 have G:∀ K:List Int->Option Int,idx ([x.fOpens,x.fCloses,x.fInside,S]:List (List Int)) 1 K=K x.fCloses:=fun K=>by have:=Ae (l:=[x.fOpens,x.fCloses,x.fInside,S]) (i:=1) (by simp) K;simpa using this
 have F:∀ K:List Int->Option Int,idx ([x.fOpens,x.fCloses,x.fInside,S]:List (List Int)) 2 K=K x.fInside:=fun K=>by have:=Ae (l:=[x.fOpens,x.fCloses,x.fInside,S]) (i:=2) (by simp) K;simpa using this
 have E:∀ K:List Int->Option Int,idx ([x.fOpens,x.fCloses,x.fInside,S]:List (List Int)) 3 K=K S:=fun K=>by have:=Ae (l:=[x.fOpens,x.fCloses,x.fInside,S]) (i:=3) (by simp) K;simpa using this
 have hm:∃ m,n=m+1+1+1+1+1:=⟨n-5,by omega⟩;have rl:∀ K:Option Int,Gl n x a S K n 0=if s=0 then (if q=0 then (if p=0 then (if o=0 then K else some o) else some p) else some q) else some s:=fun K=>by
  obtain ⟨m,hm⟩:=hm;conv=>lhs;rw [show Gl n x a S K n 0=Gl n x a S K (m+1+1+1+1+1) 0 by rw [<-hm]]
  simp only [Gl,A4,Am,H,G,F,E,w0,w1,D,C,a1,Z,Y,X,A0];simp
 have pl:∀ K:Option Int,Iy n [x.fOpens,x.fCloses,x.fInside,S] a K n 0=if s=0 then (if q=0 then (if p=0 then (if o=0 then K else some o) else some p) else some q) else some s:=fun K=>by
  obtain ⟨m,hm⟩:=hm;conv=>lhs;rw [show Iy n [x.fOpens,x.fCloses,x.fInside,S] a K n 0=Iy n [x.fOpens,x.fCloses,x.fInside,S] a K (m+1+1+1+1+1) 0 by rw [<-hm]]
  simp only [Iy,A4,H,G,F,E,w0,w1,D,C,aA,aK,aM,W,U,T,R];simp
 unfold Qm;have el:=zvt n x a d.ll (fun k1_0_0y=>frz 7026 <| reg <| Gl n x a k1_0_0y (Ku n x (some 0) n 0) n 0) (fun _=>none) _ rfl n 0 [] (by omega) (by have:=d.ll;omega) (by simp);simp only [aB] at el;rw [el,P,y69,Ar,rl,u,pl];by_cases b:s=0;rotate_left
 ·exact ⟨s,by simp [b],by simp [b,A0],fun h=>absurd h b⟩
 by_cases c:q=0;rotate_left
 ·exact ⟨q,by simp [b,c],by simp [b,c,A0],fun h=>absurd h c⟩
 by_cases f:p=0;rotate_left
 ·exact ⟨p,by simp [b,c,f],by simp [b,c,f,A0],fun h=>absurd h f⟩
 by_cases g:o=0;rotate_left
 ·exact ⟨o,by simp [b,c,f,g],by simp [b,c,f,g,A0],fun h=>absurd h g⟩
 cases sp with
 |true=>exact ⟨2,by simp [b,c,f,g],by simp [b,c,f,g,A0,B0],fun h=>by cases h⟩
 |false=>exact ⟨0,by simp [b,c,f,g],by simp [b,c,f,g,A0,B0],fun _=>Q b⟩
theorem zhl (n:Nat)(g:10000000<n)(x:Ed)(a:Aut)(ys:List Exn)(d:x.fChecks=ys.map Ay)(f:∀ y∈ys,WfE y)(p:ys.length<=1100000)(P:Prop)(K K':Option Int)(q:∃ r:Int,K=some r/\K'=some r/\(r=0->P)):∀ (m k:Nat),k<=ys.length->ys.length<m+k->∃ r:Int,Pz n x a K m (k:Int)=some r/\Rb n x a K' m (k:Int)=some r/\(r=0->P)
 |0,k,h1,s=>by omega
 |m+1,k,h1,s=>by
  unfold Pz Rb;simp only [d,aA,A4,Am];by_cases h:k<ys.length
  ·have b:((k:Nat):Int)<((ys.length:Nat):Int):=by omega
   simp only [b,if_true];have hi:∀ (Q:Exn->Option Int),idxD C8 (ys.map Ay) (k:Int) Q=Q ys[k]:=fun Q=>by
    have:=Hk (l:=ys.map fun y=>(0,y)) (k:=k) (by simpa using h) Q;simp only [map_map,getElem_map] at this;exact this
   rw [hi,hi];obtain ⟨c,u,t⟩:=(f _ (aE h)).check n g;obtain ⟨r,o,j,v⟩:=zhl n g x a ys d f p P K K' q m (k+1) (by omega) (by omega);rw [u,t,A0,A0,Ai k (by omega),o,j];grind
  grind
structure EdOk (a:Aut) (x:Ed):Prop where
 frm:0<=x.fFrom/\x.fFrom<a.fStates.length
 tgt:-1<=x.fTo/\x.fTo<a.fStates.length
 var:0<=x.fVar/\x.fVar<a.fVars
 opn:∀ y∈x.fOpens,0<=y/\y<a.fScopes
theorem ya2 (n:Nat)(s:10000000<n)(a:Aut)(I:0<=a.fScopes/\a.fScopes<=64)(Q:0<=a.fVars/\a.fVars<=16)(H:1<=a.fStates.length/\a.fStates.length<=256)(x:Ed)(f:WfX x)(before:Int):∃ r:Int,Ux n a x before=some r/\Wd n a x before=some r/\(r=0->EdOk a x):=by
 unfold Ux Wd;simp only [aA,A4,Am,B5,Ar,Xu,zm0,A0];have wS:aD .i64 (((a.fStates.length:Nat):Int)-1)=((a.fStates.length:Nat):Int)-1:=Cq _ (by omega);have wV:aD .i64 (a.fVars-1)=a.fVars-1:=Cq _ (by omega);have u:∀ x:Int,(decide (x<0) || decide (15<x))=!(decide (0<=x) && decide (x<16)):=fun x=>X1 x 16
 simp only [wS,wV,X1,u];have tailE:∃ r:Int,Dt n before x a false=some r/\E8 n before x a false=some r/\(r=0->∀ y∈x.fOpens,0<=y/\y<a.fScopes):=by
  unfold Dt E8;simp only [aA,A4,Am,Aw];by_cases L:x.fFrom<before
  ·simp_all
  simp only [L,if_false];obtain ⟨c,N,M⟩:=f.cond.check n s;rw [N,M,A0,A0];by_cases K:c=0;rotate_left
  ·simp_all
  simp only [K,if_true];by_cases t:64<((x.fChecks.length:Nat):Int)
  ·simp_all
  simp only [t,if_false];obtain ⟨ys,z,G⟩:=f.checks;obtain ⟨r,d,o,m⟩:=y7e n s a I x f;have p:ys.length<=1100000:=by have:=f.lc;rw [z,aA] at this;exact this
  have:=zhl n s x a ys z G p (∀ y∈x.fOpens,0<=y/\y<a.fScopes) (bnd (Qm n a x) fun j=>some j) _ ⟨r,by rw [d,A0],o,m⟩ n 0 (by omega) (by omega);simpa only [aB] using this
 have b:Dt n before x a true=some 2/\E8 n before x a true=some 2:=by
  unfold Dt E8;exact ⟨Au _ _,Au _ _⟩
 obtain ⟨r,d,o,m⟩:=tailE;rw [b.1,b.2];by_cases h1:0<=x.fFrom/\x.fFrom<((a.fStates.length:Nat):Int);rotate_left
 ·have:(decide (0<=x.fFrom) && decide (x.fFrom<((a.fStates.length:Nat):Int)))=false:=by
   rw [aJ,decide_eq_false_iff_not,decide_eq_false_iff_not];omega
  exact ⟨2,by simp [this,B0],by simp [this,B0],fun h=>by cases h⟩
 have g:(decide (0<=x.fFrom) && decide (x.fFrom<((a.fStates.length:Nat):Int)))=true:=by simp [h1.1];omega
 by_cases A:-1<=x.fTo/\x.fTo<((a.fStates.length:Nat):Int);rotate_left
 ·have D:¬x.fTo=-1:=by omega
  have C:(decide (0<=x.fTo) && decide (x.fTo<((a.fStates.length:Nat):Int)))=false:=by
   rw [aJ,decide_eq_false_iff_not,decide_eq_false_iff_not];omega
  refine ⟨2,by simp [g,D,C,B0],?_,fun h=>by cases h⟩;by_cases w:x.fTo < -1
  ·simp [g,w,B0]
  ·have B:((a.fStates.length:Nat):Int)<=x.fTo:=by omega
   simp [g,w,B,B0]
 have F:¬x.fTo < -1:=by omega
 have E:¬((a.fStates.length:Nat):Int)<=x.fTo:=by omega
 have ok:(decide (0<=x.fVar) && decide (x.fVar<a.fVars))=true->r=0->EdOk a x:=fun h J=>by
  simp only [Bool.and_eq_true,decide_eq_true_eq] at h;exact ⟨⟨h1.1,h1.2⟩,⟨A.1,A.2⟩,h,m J⟩
 have v:¬x.fTo=-1->(decide (0<=x.fTo) && decide (x.fTo<((a.fStates.length:Nat):Int)))=true:=fun h=>by grind
 revert ok;generalize (decide (0<=x.fVar) && decide (x.fVar<a.fVars))=P;generalize (decide (0<=x.fType) && decide (x.fType<16))=O;intro ok;simp only [g,F,E,if_false,Au,aN];cases P with
 |false =>
  refine ⟨2,?_,by simp [B0],fun h=>by cases h⟩;by_cases q:x.fTo=-1
  ·simp [q,B0]
  ·simp [q,v q,B0]
 |true =>
  cases O with
  |false =>
   refine ⟨2,?_,by simp [B0,b.2],fun h=>by cases h⟩;by_cases q:x.fTo=-1
   ·simp [q,B0,b.1]
   ·simp [q,v q,B0,b.1]
  |true =>
   refine ⟨r,?_,by simp [B0,o],fun q=>ok rfl q⟩;by_cases q:x.fTo=-1
   ·simp [q,B0,d]
   ·simp [q,v q,B0,d]
theorem zkp (n:Nat)(p:10000000<n)(a:Aut)(o:0<=a.fScopes/\a.fScopes<=64)(j:0<=a.fVars/\a.fVars<=16)(d:1<=a.fStates.length/\a.fStates.length<=256)(g:WfA a):∀ (m k:Nat) (before:Int),k<=a.fEdges.length->a.fEdges.length<m+k->(∀ x∈a.fEdges.take k,EdOk a x)->∃ r:Int,Pd n a (some 0) m (before,(k:Int))=some r/\R5 n a (some 0) m (before,(k:Int))=some r/\(r=0->∀ x∈a.fEdges,EdOk a x)
 |0,k,before,h1,u,_=>by omega
 |m+1,k,before,h1,u,y=>by
  have t:=g.le;unfold Pd R5;simp only [aA,A4,Am];by_cases h:k<a.fEdges.length
  ·have b:((k:Nat):Int)<((a.fEdges.length:Nat):Int):=by omega
   simp only [b,if_true,Ae h];obtain ⟨c,w,v,z⟩:=ya2 n p a o j d _ (g.ed _ (aE h)) before;rw [w,v,A0,A0,Ai k (by omega)];by_cases f:c=0
   ·simp only [f,if_true];refine zkp n p a o j d g m (k+1) _ (by omega) (by omega) (fun x s=>?_);rw [aF h,mem_append,mem_singleton] at s;grind
   ·exact ⟨c,by simp [f],by simp [f],fun q=>absurd q f⟩
  ·have b:¬((k:Nat):Int)<((a.fEdges.length:Nat):Int):=by omega
   simp only [b,if_false];grind
theorem zhb (n:Nat)(j:10000000<n)(a:Aut)(g:0<=a.fScopes/\a.fScopes<=64)(f:0<=a.fVars/\a.fVars<=16)(b:WfA a)(K K':Option Int)(P:Prop)(q:∃ r:Int,K=some r/\K'=some r/\(r=0->P)):∀ (m k:Nat),k<=a.fStates.length->a.fStates.length<m+k->∃ r:Int,Pe n a K m (k:Int)=some r/\R6 n a K' m (k:Int)=some r/\(r=0->P)
 |0,k,h1,s=>by omega
 |m+1,k,h1,s=>by
  have o:=b.ls;unfold Pe R6;simp only [aA,A4,Am];by_cases h:k<a.fStates.length
  ·have d:((k:Nat):Int)<((a.fStates.length:Nat):Int):=by omega
   simp only [d,if_true,Ae h];obtain ⟨u,t⟩:=b.st _ (aE h);obtain ⟨c,w,v⟩:=y4g n j a g f _ u t;rw [w,v,A0,A0,Ai k (by omega)];by_cases p:c=0
   ·simp only [p,if_true];exact zhb n j a g f b K K' P q m (k+1) (by omega) (by omega)
   simp_all
  grind
structure AOk (a:Aut):Prop where
 vars:0<=a.fVars/\a.fVars<=16
 st:1<=a.fStates.length/\a.fStates.length<=256
 ed:∀ x∈a.fEdges,EdOk a x
theorem zwc (n:Nat)(o:10000000<n)(a:Aut)(c:WfA a):∃ r:Int,Fz n a=some r/\Ek n a=some r/\(r=0->AOk a):=by
 have w:=c.ls;have x:=c.le;unfold Fz Ek;simp only [B5,Ar,Xu,A0,A4];have f:Gm n a true=some 2/\F7 n a true=some 2:=by
  unfold Gm F7;exact ⟨Au _ _,Au _ _⟩
 rw [f.1,f.2];by_cases d:0<=a.fVars/\a.fVars<=16;rotate_left
 ·refine ⟨2,?_,?_,fun h=>by cases h⟩
  ·have:(decide (a.fVars<0) || decide (16<a.fVars))=true:=by
    rw [aH,decide_eq_true_eq,decide_eq_true_eq];omega
   rw [this,Au]
  simp_all
 have j:¬a.fVars<0:=by omega
 have g:¬16<a.fVars:=by omega
 by_cases m:0<=a.fScopes/\a.fScopes<=64;rotate_left
 ·have:(decide (a.fScopes<0) || decide (64<a.fScopes))=true:=by
   rw [aH,decide_eq_true_eq,decide_eq_true_eq];omega
  refine ⟨2,by simp [j,g,this,B0,f.1],?_,fun h=>by cases h⟩;simp_all
 have v:¬a.fScopes<0:=by omega
 have u:¬64<a.fScopes:=by omega
 simp only [j,g,v,u,if_false,decide_false,Bool.or_false,Aw];unfold Gm F7;simp only [B5,Ar,aA,A4,Aw];have p:Fq n a true=some 5/\G7 n a true=some 5:=by
  unfold Fq G7;exact ⟨Au _ _,Au _ _⟩
 rw [p.1,p.2];by_cases h1:((a.fStates.length:Nat):Int)<1
 ·simp_all
 by_cases z:256<((a.fStates.length:Nat):Int)
 ·simp_all
 simp only [h1,z,if_false];by_cases y:2048<((a.fEdges.length:Nat):Int)
 ·simp_all
 simp only [y,decide_false];unfold Fq G7;simp only [Aw];have b:1<=a.fStates.length/\a.fStates.length<=256:=by omega
 obtain ⟨r,t,s,q⟩:=zkp n o a m d b c n 0 0 (by omega) (by omega) (by simp);have:=zhb n o a m d c _ _ (AOk a) ⟨r,t,s,fun h=>⟨d,b,q h⟩⟩ n 0 (by omega) (by omega);omega
end Go.Proofs.YthbogefcfhmpgaaGreat
