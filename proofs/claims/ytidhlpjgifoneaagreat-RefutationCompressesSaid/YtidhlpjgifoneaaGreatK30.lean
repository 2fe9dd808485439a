/- Layer 8, plainly. -/
import Derived.Test.YtidhlpjgifoneaaGreatK29
set_option linter.unusedVariables false
set_option linter.unusedSimpArgs false
namespace Go.Proofs.YtidhlpjgifoneaaGreat
open Go.RowKit List
open List renaming length_map->aA,getElem_mem->aD,take_succ_eq_append_getElem->aE,drop_eq_nil_of_le->aF
open IntKind renaming wrap->aB
open Int renaming natCast_zero->aC
open Or renaming inl->aH,inr->aK
theorem zq7 (n:Nat)(e:Exn):W6 n e=some (if vcP e.fValue=0 then (if decide (e.fOp=4) && (!(suP e.fKind e.fValue) || (decide (e.fKind=1) && !decide (e.fValue=va0))) then 9 else 0) else vcP e.fValue):=by
 unfold W6;rw [p_vc,A3];simp only [A5,Ah,y40,A3,Ay,Al,Hg,zie];obtain ⟨op,args,var,field,kind,val⟩:=e;simp only;by_cases h:op=4
 ·subst h;simp [Aw];grind
 ·simp [h,Aw];split<;>rfl
theorem y6p (n:Nat)(e:Exn):Ws n e=some (ndP e):=by
 unfold Ws;rw [y4i,A3,y2m];simp only [A3,aA,A5,Ah,zq7,Ay,Al,E9,Jk,Nj,Ni,Cb,zie];unfold ndP;by_cases a:arP e.fOp<0
 ·rw [if_pos a];have:e.fOp<0\/12<e.fOp:=by
   unfold arP at a;by_cases h1:e.fOp<0
   ·exact aH h1
   ·omega
  rcases this with h|h
  ·rw [if_pos h,Ap]
  ·by_cases d:e.fOp<0
   ·rw [if_pos d,Ap]
   ·rw [if_neg d,if_pos h,Ap]
 have c:¬e.fOp<0/\¬12<e.fOp:=by
  unfold arP at a;refine ⟨fun h=>a (by rw [if_pos h];decide),fun h=>a ?_⟩;by_cases h1:e.fOp<0
  ·rw [if_pos h1];decide
  ·rw [if_neg h1,if_pos h];decide
 rw [if_neg c.1,if_neg c.2,if_neg a,Ao];by_cases b:(e.fArgs.length:Int)=arP e.fOp;rotate_left
 ·rw [if_neg b,if_pos b]
 rw [if_pos b,if_neg (show ¬((e.fArgs.length:Int)≠arP e.fOp) from fun h=>h b)];have f:=zu5 e.fOp a;obtain ⟨op,args,var,field,kind,val⟩:=e;simp only at *;clear b a c;rcases f with rfl|rfl|rfl|rfl|rfl|⟨h1,m,j,g⟩
 ·simp [us0,Aw];grind
 ·simp [us1,Aw];grind
 ·simp [us2,Aw];grind
 ·simp [us3,Aw];grind
 ·simp [us4,Aw];grind
 ·simp [h1,m,j,g,Aw];grind
inductive ETr:Nat->Exn->Prop
 |mk (l:List (Nat×Exn)) (e:Exn) (h:∀ p∈l,ETr p.1 p.2) (ha:e.fArgs=l.map (fun p=>Av p.2)):ETr (1+(l.map (·.1)).sum) e
inductive ETrO:Nat->Exn->Prop
 |mk (l:List (Nat×Exn)) (e:Exn) (hn:ndP e=0) (h:∀ p∈l,ETrO p.1 p.2) (ha:e.fArgs=l.map (fun p=>Av p.2)):ETrO (1+(l.map (·.1)).sum) e
variable {e:Exn}
theorem ETr.pos {s:Nat}(h:ETr s e):1<=s:=by cases h;omega
variable {l:List (Nat×Exn)}
theorem Jt {p:Nat×Exn}(h:p∈l):p.1<=(l.map (·.1)).sum:=by
 induction l with
 |nil=>cases h
 |cons x l ih =>
  grind
theorem T7 (h:∀ p∈l,1<=p.1):l.length<=(l.map (·.1)).sum:=by
 induction l with
 |nil=>simp
 |cons x l ih =>
  grind
def preS (l:List (Nat×Exn))(k:Nat):Nat:=((l.take k).map (·.1)).sum
theorem zm0 {k:Nat}(h:k<l.length):preS l (k+1)=preS l k+l[k].1:=by
 unfold preS;rw [aE h,map_append,sum_append];simp_all
theorem zs4 {k:Nat}(h:l.length<=k):preS l k=(l.map (·.1)).sum:=by unfold preS;rw [take_of_length_le h]
theorem zwu (l:List (Nat×Exn))(k:Nat):preS l k<=(l.map (·.1)).sum:=by
 unfold preS;conv=>rhs;rw [<-take_append_drop k l]
 grind
theorem Gb {β:Type}{k:Nat}(h:k<l.length)(K:Exn->Option β):idxD C3 (l.map fun p=>Av p.2) (k:Int) K=K l[k].2:=by
 unfold idxD;rw [if_pos (by omega)];simp only [Int.toNat_natCast,getElem?_map,getElem?_eq_getElem h,Option.map_some,N9]
theorem zh9 (most:Int)(hm:0<=most)(a:most<=1000000)(n:Nat)(l:List (Nat×Exn))(e:Exn)(f:e.fArgs=l.map (fun p=>Av p.2))(j:(l.map (·.1)).sum<=4000000)(r:l.length<=4000000)
  (b:∀ p∈l,∃ c:Int,Fz n p.2 most=some c/\1<=c/\c<=p.1/\(c<=most->c=p.1)) :
  ∀ (m k:Nat) (v:Int),k<=l.length->l.length<m+k->1<=v->v<=1+preS l k->(v<=most->v=1+preS l k) ->
   ∃ c:Int,Ic n (Fz n) most e (fun y=>some y) m (v,(k:Int))=some c/\1<=c/\c<=1+(l.map (·.1)).sum/\(c<=most->c=1+(l.map (·.1)).sum)
 |0,k,v,h1,t,_,_,_=>by omega
 |m+1,k,v,h1,t,A,z,s=>by
  unfold Ic;simp only [Ay,Al,L7,f,aA,A5,Ap];have q:=zwu l k;by_cases h:k<l.length
  ·rw [if_pos (by omega)];by_cases d:v<=most
   ·rw [if_pos d,Gb h];obtain ⟨c,w,C,B,u⟩:=b l[k] (aD h);rw [w,A3,Ad k (by omega),Cq _ (by have:=Jt (aD h);omega)];have o:=zm0 h;have g:=s d;exact zh9 most hm a n l e f j r b m (k+1) (v+c) (by omega) (by omega) (by omega) (by omega) (fun x=>by have:=u (by omega);omega)
   grind
  ·rw [if_neg (by omega)];have o:=zs4 (l:=l) (k:=k) (by omega);grind
theorem zxm (most:Int)(hm:0<=most)(d:most<=1000000):∀ (s:Nat) (e:Exn),ETr s e->s<=4000000->∀ n,s+1<n->∃ c:Int,Fz n e most=some c/\1<=c/\c<=s/\(c<=most->c=s):=by
 intro s
 induction s using Nat.strongRecOn with
 |ind s IH =>
  intro e f j n m;cases f with
  |mk l e h g =>
   obtain ⟨a,rfl⟩:∃ a,n=a + 1:=⟨n-1,by omega⟩;have o:=T7 (l:=l) (fun p b=>(h p b).pos);simp only [Fz];obtain ⟨c,u,t,r,q⟩:=zh9 most hm d a l e g (by omega) (by omega) (fun p b=>by
    have:=Jt b;exact IH p.1 (by omega) p.2 (h p b) (by omega) a (by omega)) a 0 1 (by omega) (by omega) (by omega) (by omega) (fun _=>by simp [preS])
   grind
theorem zm4 (n:Nat)(l:List (Nat×Exn))(e:Exn)(f:e.fArgs=l.map (fun p=>Av p.2))(o:(l.map (·.1)).sum<=4000000)(r:l.length<=4000000)
  (a:∀ p∈l,∃ d:Int,Fy n p.2=some d/\Hm n p.2=some ((p.1:Int),d)/\0<=d/\d<=p.1) :
  ∀ (m k:Nat) (d:Int),k<=l.length->l.length<m+k->0<=d->d<=preS l k ->
   ∃ D:Int,Q4 n (Fy n) e (fun y=>some (aB .i64 (y+1))) m (d,(k:Int))=some (D+1)/\Sv n (Hm n) e (fun j g=>some (j,(aB .i64 (g+1)))) m (((1+preS l k:Nat):Int),d,(k:Int))=some (((1+(l.map (·.1)).sum:Nat):Int),D+1)/\0<=D/\D<=(l.map (·.1)).sum
 |0,k,d,h1,t,_,_=>by omega
 |m+1,k,d,h1,t,s,x=>by
  unfold Q4 Sv;simp only [f,aA,A5];have q:=zwu l k;by_cases h:k<l.length
  ·rw [if_pos (by omega),if_pos (by omega),Gb h,Gb h];obtain ⟨c,w,v,A,z⟩:=a l[k] (aD h);have b:=zm0 h;have hm:=Jt (aD h);rw [w,v,A3,A3,Ad k (by omega),Cq _ (by omega)];have u:(((1+preS l k:Nat):Int)+((l[k].1:Nat):Int))=((1+preS l (k+1):Nat):Int):=by omega
   simp only;rw [u];exact zm4 n l e f o r a m (k+1) (max d c) (by omega) (by omega) (by omega) (by omega)
  ·rw [if_neg (by omega),if_neg (by omega)];have b:=zs4 (l:=l) (k:=k) (by omega);refine ⟨d,by rw [Cq _ (by omega)],?_,s,by omega⟩;rw [Cq _ (by omega),b]
theorem y2o:∀ (s:Nat) (e:Exn),ETr s e->s<=4000000->∀ n,s+1<n->∃ d:Int,Fy n e=some d/\Hm n e=some ((s:Int),d)/\0<=d/\d<=s:=by
 intro s
 induction s using Nat.strongRecOn with
 |ind s IH =>
  intro e c m n o;cases c with
  |mk l e h f =>
   obtain ⟨a,rfl⟩:∃ a,n=a + 1:=⟨n-1,by omega⟩;have q:=T7 (l:=l) (fun p b=>(h p b).pos);simp only [Fy,Hm];obtain ⟨D,j,g,t,r⟩:=zm4 a l e f (by omega) (by omega) (fun p b=>by
    have:=Jt b;exact IH p.1 (by omega) p.2 (h p b) (by omega) a (by omega)) a 0 0 (by omega) (by omega) (by omega) (by simp)
   exact ⟨D+1,j,g,by omega,by push_cast;omega⟩
theorem zgu (n:Nat)(l:List (Nat×Exn))(e:Exn)(c:e.fArgs=l.map (fun p=>Av p.2))(j:l.length<=4000000)
  (a:∀ p∈l,∃ r:Int,H9 n p.2=some r/\Hk n p.2=some r/\(r=0->ETrO p.1 p.2)) :
  ∀ (m k:Nat),k<=l.length->l.length<m+k->(∀ p∈l.take k,ETrO p.1 p.2) ->
   ∃ r:Int,Q3 n (H9 n) e (some 0) m (k:Int)=some r/\So n (Hk n) e (some 0) m (k:Int)=some r/\(r=0->∀ p∈l,ETrO p.1 p.2)
 |0,k,h1,o,_=>by omega
 |m+1,k,h1,o,s=>by
  unfold Q3 So;simp only [c,aA,A5,Ah];by_cases h:k<l.length
  ·rw [if_pos (by omega),if_pos (by omega),Gb h,Gb h];obtain ⟨r,f,d,q⟩:=a l[k] (aD h);rw [f,d,A3,A3,Ad k (by omega)];by_cases b:r=0
   ·rw [if_pos b,if_pos b];refine zgu n l e c j a m (k+1) (by omega) (by omega) (fun p g=>?_);rw [aE h,mem_append,mem_singleton] at g;grind
   simp_all
  ·rw [if_neg (by omega),if_neg (by omega)];grind
theorem y3y:∀ (s:Nat) (e:Exn),ETr s e->s<=4000000->∀ n,s+1<n->∃ r:Int,H9 n e=some r/\Hk n e=some r/\(r=0->ETrO s e):=by
 intro s
 induction s using Nat.strongRecOn with
 |ind s IH =>
  intro e m q n t;cases m with
  |mk l e h d =>
   obtain ⟨b,rfl⟩:∃ b,n=b + 1:=⟨n-1,by omega⟩;have u:=T7 (l:=l) (fun p c=>(h p c).pos);simp only [H9,Hk,y42,y6p,A3,Ah,A5];by_cases a:ndP e=0
   ·rw [if_pos a,if_pos a];obtain ⟨r,j,g,f⟩:=zgu b l e d (by omega) (fun p c=>by
     have:=Jt c;exact IH p.1 (by omega) p.2 (h p c) (by omega) b (by omega)) b 0 (by omega) (by omega) (by simp)
    exact ⟨r,j,g,fun o=>.mk l e a (f o) d⟩
   simp_all
theorem zxp (s:Nat)(e:Exn)(a:ETr s e)(b:s<=4000000)(n:Nat)(f:s+1<n):∃ r:Int,G1 n e=some r/\Hl n e=some r/\(r=0->ETrO s e):=by
 obtain ⟨c,o,w,v,u⟩:=zxm 64 (by omega) (by omega) s e a b n f;obtain ⟨d,m,j,t,q⟩:=y2o s e a b n f;obtain ⟨r,h,g,p⟩:=y3y s e a b n f;unfold G1 Hl;rw [o,m,j,h,g];simp only [A3,A5];grind
def wrP (k:Int)(v:Va):Int:=if vcP v=0 then (if suP k v=true then 0 else 9) else vcP v
theorem zpx (n:Nat)(k:Int)(d:1<=k/\k<=5)(v:Va):N6 n k v=some (wrP k v):=by
 unfold N6 Sh wrP suP;simp only [p_vc,A3,A5,Ah,Ay,Al,Hf];by_cases h:vcP v=0
 ·rw [if_pos h,if_pos h];by_cases a:v.fKind=0
  ·simp [a,Aw,A3]
  ·by_cases h1:k=1
   ·simp [a,h1,Aw,A3]
   ·by_cases b:k=2
    ·simp [a,h1,b,Aw,A3]
    ·by_cases c:k=3
     ·simp [a,h1,b,c,Aw,A3]
     ·have:k=4\/k=5:=by omega
      rcases this with rfl|rfl<;>simp [a,Aw,A3]
 ·rw [if_neg h,if_neg h]
theorem zs9 (n:Nat)(k:Int)(b:1<=k/\k<=5)(v:Va):Rg n k v=some (wrP k v):=by
 unfold Rg wrP;simp only [y0y,zim,A3,A5,Ah];have a:decide (k=0)=false:=by rw [decide_eq_false];omega
 simp only [a,Bool.false_or];by_cases h:vcP v=0
 ·rw [if_pos h,if_pos h];cases suP k v<;>simp [Aw]
 ·rw [if_neg h,if_neg h]
def comb (k:Int)(a b:Va):Va:=if k=1 then ⟨0,aB .i64 (a.fNum+b.fNum),be⟩ else if k=2 then ⟨0,min a.fNum b.fNum,be⟩ else if k=3 then ⟨0,max a.fNum b.fNum,be⟩ else if k=4 then a else b
theorem y47 (n:Nat)(k:Int)(c:1<=k/\k<=5)(a b:Va):U9 n k a b=some (comb k a b):=by
 unfold U9 comb;simp only [A5];grind
theorem y74 (n:Nat)(k:Int)(c:1<=k/\k<=5)(a b:Va):Vo n k a b=some (comb k a b):=by
 unfold Vo comb;simp only [Oa,Cd,A3,Yp,Yo,Yn,Ym,Yl,Yk];grind
def AInv (k:Int)(i:Nat)(V:Va):Prop:=if i=0 then V=va0 else if k=1 then V.fKind=0/\V.fText=be/\-((i:Int)*1099511627776)<=V.fNum/\V.fNum<=(i:Int)*1099511627776 else vcP V=0/\suP k V=true
variable {k:Int}{i:Nat}{V:Va}
theorem AInv.check (n:Nat)(g:1<=k/\k<=5)(hi:i<=4096)(h:AInv k i V):Ri n ⟨k,(i:Int),V⟩=some 0/\W5 n ⟨k,(i:Int),V⟩=some 0:=by
 have w1:aB .i64 ((i:Int)*1099511627776)=(i:Int)*1099511627776:=Cq _ (by omega);have m:aB .i64 (0-(i:Int)*1099511627776)=-((i:Int)*1099511627776):=by rw [Cq _ (by omega)];omega
 have o:¬k=0:=by omega
 have ka:(0:Int)<=k:=by omega
 have q:¬(i:Int)<0:=by omega
 have p:¬4096<(i:Int):=by omega
 unfold Ri W5 Rt Si;simp only [A3,A5,Ah,Ay,Al,Ik,Jb,La,L9,Gr,L8,Mr,zie,p_vc,y0y,w1,m,ka,g.2,if_true,decide_true,Ao,q,p,if_false,decide_false,Ap,o,Nz];unfold AInv at h;by_cases a:i=0
 ·rw [if_pos a] at h;subst a;subst h;simp [Aw]
 ·rw [if_neg a] at h;have c:¬(i:Int)=0:=by omega
  simp only [c,if_false,decide_false,Ap];by_cases d:k=1
  ·grind
  ·rw [if_neg d] at h;obtain ⟨h1,j⟩:=h;simp only [d,if_false,h1,zim,j,A3,if_true,Bool.or_true];refine ⟨by simp [Aw],?_⟩;have:=zpx n k g V;unfold N6 wrP at this;rw [p_vc,A3] at this;simp only [h1,j,if_true,decide_true,Bool.not_true,Ap] at this;cases f:Sh n k V with
   |none=>rw [f] at this;unfold bnd at this;cases this
   |some b =>
    rw [f,A3] at this;cases b with
    |true=>simp [A3,Aw]
    |false=>simp [Aw] at this
def Fj (k:Int)(i:Nat)(V x:Va):Va:=if i=0 then x else comb k V x
theorem AInv.step (w:1<=k/\k<=5)(hi:i<=4096){x:Va}(h:AInv k i V)(u:wrP k x=0):AInv k (i+1) (Fj k i V x):=by
 have s:vcP x=0/\suP k x=true:=by
  unfold wrP at u;by_cases h1:vcP x=0
  ·simp_all
  ·omega
 have p:x.fKind=0->x.fText=be/\-1099511627776<=x.fNum/\x.fNum<=1099511627776:=fun v=>by
  have:=s.1;unfold vcP at this;grind
 have o:k=1\/k=2\/k=3->x.fKind=0:=fun h=>by
  have:=s.2;simp only [suP,Bool.or_eq_true,decide_eq_true_eq] at this;omega
 have nv:∀ q:Int,-1099511627776<=q->q<=1099511627776->vcP ⟨0,q,be⟩=0:=fun q h1 r=>by
  unfold vcP;grind
 unfold AInv at h ⊢;rw [if_neg (by omega)];unfold Fj;by_cases g:i=0
 ·simp_all
 ·rw [if_neg g] at h;rw [if_neg g];by_cases f:k=1
  ·rw [if_pos f] at h ⊢;obtain ⟨h1,r,z,y⟩:=h;obtain ⟨a,b,c⟩:=p (o (aH f));unfold comb;rw [if_pos f];rw [Cq _ (by omega)];grind
  ·rw [if_neg f] at h ⊢;obtain ⟨h1,r⟩:=h;have t:V.fKind=0->-1099511627776<=V.fNum/\V.fNum<=1099511627776:=fun v=>by
    unfold vcP at h1;omega
   have j:k=2\/k=3->V.fKind=0:=fun h=>by
    simp only [suP,Bool.or_eq_true,decide_eq_true_eq] at r;omega
   unfold comb;rw [if_neg f];by_cases m:k=2
   ·rw [if_pos m];obtain ⟨a,b,c⟩:=p (o (aK (aH m)));obtain ⟨d,e⟩:=t (j (aH m));exact ⟨nv _ (by omega) (by omega),by simp [suP]⟩
   ·rw [if_neg m];by_cases n:k=3
    ·rw [if_pos n];obtain ⟨a,b,c⟩:=p (o (aK (aK n)));obtain ⟨d,e⟩:=t (j (aK n));exact ⟨nv _ (by omega) (by omega),by simp [suP]⟩
    grind
theorem y6n (n:Nat)(b:1<=k/\k<=5)(hi:i<4096)(h:AInv k i V)(x:Va):Vb n ⟨k,(i:Int),V⟩ x=some (if wrP k x=0 then (⟨k,((i+1:Nat):Int),Fj k i V x⟩,0) else (⟨0,0,⟨0,0,be⟩⟩,wrP k x)):=by
 unfold Vb;rw [(h.check n b (by omega)).1,A3];simp only [zs9 n k b,A3,A5,Ah,y47 n k b,Ay,Al,Iz,if_true];rw [Ad i (by omega)];by_cases a:wrP k x=0
 ·rw [if_pos a,if_pos a,if_neg (by omega),if_neg (by omega)];unfold Fj;by_cases c:i=0;all_goals simp_all
 ·rw [if_neg a,if_neg a]
def bad (k:Int):List Va->Option Int
 |[]=>none
 |x::l=>if wrP k x=0 then bad k l else some (wrP k x)
def fV (k:Int):Nat->Va->List Va->Va |_,V,[]=>V |i,V,x::l=>fV k (i+1) (Fj k i V x) l
theorem zsa (n:Nat)(a:1<=k/\k<=5)(init:Va)(l:List Va)(d:l.length<=4096)(K:Int->Int->Int->Int->ByteArray->Option (Va×Int)):∀ (m i:Nat) (V:Va),i<=l.length->l.length<m+i->AInv k i V ->
  Rh n init l K m ((i:Int),k,(i:Int),V.fKind,V.fNum,V.fText)=(match bad k (l.drop i) with|some e=>some (va0,e)|none=>K k (l.length:Int) (fV k i V (l.drop i)).fKind (fV k i V (l.drop i)).fNum (fV k i V (l.drop i)).fText)/\(bad k (l.drop i)=none->AInv k l.length (fV k i V (l.drop i)))
 |0,i,V,h1,j,_=>by omega
 |m+1,i,V,h1,j,b=>by
  unfold Rh;simp only [aA,A5,Ah];by_cases h:i<l.length
  ·rw [if_pos (by omega),A9 h];have f:=y6n n a (i:=i) (by omega) b l[i];have g:V=⟨V.fKind,V.fNum,V.fText⟩:=rfl;rw [<-g,f,A3,B2 l i h];simp only [bad,fV];by_cases c:wrP k l[i]=0
   ·simp only [c,if_true];rw [Ad i (by omega)];exact zsa n a init l d K m (i+1) _ (by omega) (by omega) (b.step a (by omega) c)
   grind
  ·rw [if_neg (by omega),aF (by omega)];have:i=l.length:=by omega
   subst this;exact ⟨rfl,fun _=>b⟩
theorem zxf (n:Nat)(b:1<=k/\k<=5)(init:Va)(l:List Va)(c:l.length<=4096)(K:Option (Va×Int)):∀ (m i:Nat),i<=l.length->l.length<m+i->Sj n init l k K m (i:Int)=(match bad k (l.drop i) with|some e=>some (va0,e)|none=>K)
 |0,i,h1,d=>by omega
 |m+1,i,h1,d=>by
  unfold Sj;simp only [aA,A5,Ah];by_cases h:i<l.length
  ·rw [if_pos (by omega),A9 h,zpx n k b,A3,B2 l i h];simp only [bad];by_cases a:wrP k l[i]=0
   ·simp only [a,if_true];rw [Ad i (by omega)];exact zxf n b init l c K m (i+1) (by omega) (by omega)
   ·simp only [a,if_false]
  ·rw [if_neg (by omega),aF (by omega)];rfl
theorem ze9 (n:Nat)(a:1<=k/\k<=5)(l:List Va)(c:l.length<=4096)(K:Int->Int->Int->Int->ByteArray->Option C2):∀ (m i:Nat) (V:Va),i<=l.length->l.length<m+i ->
  Rq n k l K m ((i:Int),k,(i:Int),V.fKind,V.fNum,V.fText)=K k (l.length:Int) (fV k i V (l.drop i)).fKind (fV k i V (l.drop i)).fNum (fV k i V (l.drop i)).fText
 |0,i,V,h1,j=>by omega
 |m+1,i,V,h1,j=>by
  unfold Rq;simp only [aA,A5];by_cases h:i<l.length
  ·rw [if_pos (by omega),A9 h,B2 l i h];unfold Z2 Yx Yy;have f:¬k=0:=by omega
   have g:V=⟨V.fKind,V.fNum,V.fText⟩:=rfl;simp only [A5,f,if_false,A3];rw [<-g,y74 n k a];simp only [fV];by_cases d:i=0
   ·have:((i:Nat):Int)=0:=by omega
    rw [if_pos this,A3,Ad i (by omega)];have e:=ze9 n a l c K m (i+1) (Fj k i V l[i]) (by omega) (by omega);have b:Fj k i V l[i]=l[i]:=by unfold Fj;rw [if_pos d]
    rw [b] at e ⊢;have o:((i+1:Nat):Int)=1:=by omega
    rw [o] at e ⊢;rw [A3];exact e
   ·rw [if_neg (by omega),if_neg (by omega),A3,A3,Ad i (by omega)];have e:=ze9 n a l c K m (i+1) (Fj k i V l[i]) (by omega) (by omega);have b:Fj k i V l[i]=comb k V l[i]:=by unfold Fj;rw [if_neg d]
    rw [b] at e ⊢;rw [A3];exact e
  ·rw [if_neg (by omega),aF (by omega)];have:i=l.length:=by omega
   subst this;rfl
theorem y10 (n:Nat)(hk:1<=k/\k<=5)(hi:i<=4096)(h:AInv k i V)(init:Va):∃ r,R5 n ⟨k,(i:Int),V⟩ init=some r/\S7 n ⟨k,(i:Int),V⟩ init=some r:=by
 obtain ⟨h1,h2⟩:=h.check n hk hi
 unfold R5 S7
 rw [h1,h2]
 simp only [A3,zs9 n k hk,zpx n k hk,A5,Ah,Ay,Al,Kw,Mm,if_true,Aw]
 repeat' split
 all_goals exact ⟨_,rfl,rfl⟩
theorem p_of (n:Nat)(w:5000<n)(c:1<=k/\k<=5)(l:List Va)(init:Va):∃ r,S6 n k l init=some r/\Sw n k l init=some r:=by
 unfold S6 Sw Rt Si;have ka:(0:Int)<=k:=by omega
 simp only [A3,A5,Ah,Ay,Al,Ik,Jb,ka,c.2,if_true,aA,decide_true,Ao];by_cases h:4096<l.length
 ·rw [if_pos (by omega),if_pos (by omega)];exact ⟨_,rfl,rfl⟩
 ·rw [if_neg (by omega),if_neg (by omega)];have p:=zsa n c init l (by omega) (fun m j g f d=>bnd (R5 n (⟨m,j,⟨g,f,d⟩⟩:C2) init) fun a=>some (a.1,a.2)) n 0 va0 (by omega) (by omega) (by simp [AInv]);have s:=zxf n c init l (by omega) (bnd (Vv n (⟨k,0,⟨0,0,ByteArray.empty⟩⟩:C2) l k) fun o=>bnd (S7 n o init) fun b=>some (b.1,b.2)) n 0 (by omega) (by omega);simp only [aC,drop_zero] at p s;rw [p.1,s];cases v:bad k l with
  |some e=>exact ⟨_,rfl,rfl⟩
  |none =>
   have hi:=p.2 v;have q:=ze9 n c l (by omega) (fun m j g f d=>some (⟨m,j,⟨g,f,d⟩⟩:C2)) n 0 va0 (by omega) (by omega);simp only [aC,drop_zero] at q;unfold Vv;rw [q];simp only [A3];obtain ⟨r,u,t⟩:=y10 n c (i:=l.length) (by omega) hi init;rw [u,t];simp only [A3];exact ⟨_,rfl,rfl⟩
def evs (vs:List (List Ev))(v:Int):List Ev:=if v<0 then [] else if (vs.length:Int)<=v then [] else vs.getD v.toNat []
theorem Jq {α β:Type}{l:List α}{i:Int}(d:α)(k:α->Option β)(a:0<=i)(h1:i<(l.length:Int)):idx l i k=k (l.getD i.toNat d):=by
 obtain ⟨m,rfl⟩:∃ m:Nat,i=m:=⟨i.toNat,by omega⟩;have hm:m<l.length:=by omega
 rw [A9 hm];simp_all
theorem ze1 (n:Nat)(vs:List (List Ev))(v:Int):M6 n ⟨vs⟩ v=some (evs vs v):=by
 unfold M6 evs;simp only [Ay,Al,Kv,aA,A5,Ao];by_cases h:v<0
 ·rw [if_pos h,if_pos h]
 ·rw [if_neg h,if_neg h];by_cases a:(vs.length:Int)<=v
  ·rw [if_pos a,if_pos a]
  ·rw [if_neg a,if_neg a,Jq [] _ (by omega) (by omega)]
theorem zis (n:Nat)(vs:List (List Ev))(own:Int)(ev:Ev)(v:Int):Qg n ⟨vs⟩ own ev v=some (evs vs v):=by
 unfold Qg evs;simp only [Ay,Al,Kd,aA,A5,Ao];by_cases h:v<0
 ·rw [if_pos h,if_pos h]
 ·rw [if_neg h,if_neg h];by_cases a:(vs.length:Int)<=v
  ·rw [if_pos a,if_pos a]
  ·rw [if_neg a,if_neg a,Jq [] _ (by omega) (by omega)]
theorem zxk (n:Nat)(ev:Ev)(f:Int)(a:0<=f):Nq n ev f=some (if (ev.fValues.length:Int)<=f then (va0,6) else (ev.fValues.getD f.toNat va0,0)):=by
 unfold Nq;simp only [aA,A5];by_cases h:(ev.fValues.length:Int)<=f
 ·rw [if_pos h,if_pos h]
 ·rw [if_neg h,if_neg h,Jq va0 _ a (by omega)]
theorem zgv (n:Nat)(e:Exn)(a:0<=e.fField)(es:List Ev)(d:es.length<=1000000)(K K':List Va->Option (Va×Int))(c:∀ l,∃ r,K l=some r/\K' l=some r):∀ (m i:Nat) (acc:List Va),i<=es.length->es.length<m+i->acc.length=i ->
  ∃ r,Qp n e es K m ((i:Int),acc)=some r/\P9 n e es K' m ((i:Int),acc)=some r
 |0,i,acc,h1,f,_=>by omega
 |m+1,i,acc,h1,f,g=>by
  unfold Qp P9;simp only [aA,A5,Ah];by_cases h:i<es.length
  ·rw [if_pos (by omega),if_pos (by omega)];simp only [A9 h];rw [zxk n _ _ a,A3];by_cases b:(es[i].fValues.length:Int)<=e.fField
   ·simp_all
   ·rw [if_neg b,if_neg b,Jq va0 _ a (by omega)];simp only [if_true];rw [Bu (by simp;omega) (by omega),Bu (by simp;omega) (by omega),Ad i (by omega)];exact zgv n e a es d K K' c m (i+1) _ (by omega) (by omega) (by simp;omega)
  ·rw [if_neg (by omega),if_neg (by omega)];exact c acc
theorem zt6 (h:ndP e=0):0<=arP e.fOp/\(e.fArgs.length:Int)=arP e.fOp/\(usF e.fOp=true->0<=e.fField)/\(e.fOp=4->1<=e.fKind/\e.fKind<=5):=by
 unfold ndP at h;grind
inductive Occ (i:Nat):Exn->Prop
 |here (e:Exn) (h:usV e.fOp=true) (hv:e.fVar=(i:Int)):Occ i e
 |sub (e y:Exn) (hy:Av y∈e.fArgs) (h:Occ i y):Occ i e
theorem y79 (h:ndP e=0)(a:usV e.fOp=true):0<=e.fVar/\e.fVar<16:=by
 unfold ndP at h;grind
theorem y6q (n:Nat)(N:2000000<n)(e:Exn)(s:ndP e=0)(P:e.fArgs.length=0)(a b:List (List Ev))(E:∀ i:Nat,Occ i e->evs a (i:Int)=evs b (i:Int))(F:∀ v,(evs a v).length<=1000000)(own:Int)(ev:Ev) :
  ∃ r,Rs n e ⟨a⟩ own ev=some r/\Ra n ⟨b⟩ own ev e=some r:=by
 obtain ⟨h,g,I,M⟩:=zt6 s;by_cases o0:e.fOp=0
 ·unfold Rs Ra;simp only [ze1,zis,A3,A5,o0,if_true];exact ⟨_,rfl,rfl⟩
 have H:usV e.fOp=true:=by
  unfold arP at h g;by_cases c:e.fOp<0
  ·rw [if_pos c] at h;omega
  by_cases q:12<e.fOp
  ·rw [if_neg c,if_pos q] at h;omega
  rw [if_neg c,if_neg q] at g;by_cases G:e.fOp<5
  ·unfold usV;grind
  ·rw [if_neg G] at g;split at g<;>omega
 have u:evs a e.fVar=evs b e.fVar:=by
  have D:=y79 s H;have:=E e.fVar.toNat (.here e H (by omega))
  rwa [show ((e.fVar.toNat:Nat):Int)=e.fVar by omega] at this
 unfold Rs Ra;simp only [ze1,zis,<-u,A3,A5,Ah,aA];rw [if_neg o0,if_neg o0];by_cases o3:e.fOp=3
 ·simp_all
 rw [if_neg o3,if_neg o3];by_cases f:e.fOp=4
 ·rw [if_pos f,if_pos f];unfold Y9;rw [zis,<-u,A3];have t:=I (by rw [f];decide);have L:=M f;obtain ⟨r,z,w⟩:=zgv n e t (evs a e.fVar) (F _) (fun y=>bnd (S6 n e.fKind y e.fValue) fun m=>some (m.1,m.2)) (fun y=>bnd (Sw n e.fKind y e.fValue) fun o=>some (o.1,o.2)) (fun l=>by
   obtain ⟨r,z,w⟩:=p_of n (by omega) L l e.fValue;exact ⟨r,by rw [z,A3],by rw [w,A3]⟩) n 0 [] (by omega) (by have:=F e.fVar;omega) rfl
  simp only [aC] at z w;rw [z,w];exact ⟨r,rfl,by rw [A3]⟩
 rw [if_neg f,if_neg f];have K:e.fOp=1\/e.fOp=2:=by
  unfold arP at h g;by_cases c:e.fOp<0
  ·rw [if_pos c] at h;omega
  by_cases q:12<e.fOp
  ·rw [if_neg c,if_pos q] at h;omega
  rw [if_neg c,if_neg q] at g;by_cases G:e.fOp<5
  ·omega
  ·omega
 simp only [Ay,Al,Kz,Ky];unfold Yr;simp only [ze1,A3,A5,Ah,aA];have tail:∀ x:Ev,∃ r,(if e.fOp=2 then some ((⟨0,x.fTime,be⟩:Va),(0:Int)) else if (x.fValues.length:Int)<=e.fField then some (va0,6) else idx x.fValues e.fField fun C=>bnd (Ha n C) fun j=>if j=0 then (idx x.fValues e.fField fun B=>some (B,0)) else some (va0,j))=some r /\
   (if e.fOp=2 then some ((⟨0,x.fTime,be⟩:Va),(0:Int)) else bnd (Nq n (⟨x.fSource,x.fSeq,x.fType,x.fTime,x.fValues⟩:A8) e.fField) fun d=>if d.2=0 then (bnd (Hj n d.1) fun p=>if p=0 then some (d.1,0) else some (va0,p)) else if d.2=0 then some (d.1,0) else some (va0,d.2))=some r:=fun x=>by
  by_cases o2:e.fOp=2
  ·simp_all
  rw [if_neg o2,if_neg o2];have J:e.fOp=1:=by omega
  have t:=I (by rw [J];decide);rw [zxk n _ _ t,A3];by_cases D:(x.fValues.length:Int)<=e.fField
  ·simp only [D,if_true];exact ⟨_,rfl,rfl⟩
  ·simp only [D,if_false];rw [Jq va0 _ t (by omega),Jq va0 _ t (by omega),y0y,p_vc,A3];simp only [if_true,A3];split;all_goals simp_all
 by_cases A:e.fVar=own
 ·rw [if_pos A,if_pos A,A3];simp only [Ao];exact tail ev
 ·rw [if_neg A,if_neg A];by_cases O:(evs a e.fVar).length=0
  ·rw [if_pos (by omega),if_pos (by omega),A3];simp only [Ap];exact ⟨_,rfl,rfl⟩
  ·rw [if_neg (by omega),if_neg (by omega),Cq _ (by have:=F e.fVar;omega),Jq ev _ (by omega) (by omega),Jq ev _ (by omega) (by omega),A3];simp only [Ao];exact tail _
theorem zuv (n:Nat)(op:Int)(h:5<=op/\op<=12):U6 n op=some (if op<9 then 0 else if op=9 then -1 else 1):=by
 have:op=5\/op=6\/op=7\/op=8\/op=9\/op=10\/op=11\/op=12:=by omega
 unfold U6;simp only [Ay,Al,Gg,I0,A5];grind
theorem zb1 (n:Nat)(op:Int)(h:5<=op/\op<=12)(a:List Int)(p:a.length<=4000000):∀ (m i:Nat),i<=a.length->a.length<m+i->∃ r,Ez n a op (some 0) m (i:Int)=some r/\G4 n a op (some 0) m (i:Int)=some r/\(r=0\/r=9)
 |0,i,h1,s=>by omega
 |m+1,i,h1,s=>by
  unfold Ez G4;simp only [aA,A5,Ah,zuv n op h,A3,Ay,Al,Fl,Hh,Jc];by_cases hi:i<a.length
  ·have b:((i:Nat):Int)<((a.length:Nat):Int):=by omega
   simp only [b,if_true];obtain ⟨r,f,d,c⟩:=zb1 n op h a p m (i+1) (by omega) (by omega);rw [Ad i (by omega),f,d];have g:∀ (K:Int->Option Int),idx a 0 K=K (a.headD 0):=fun K=>by
    have:=A9 (l:=a) (i:=0) (by omega) K;simp only [aC] at this;rw [this];congr 1;cases a with
    |nil=>simp at hi
    |cons x q=>rfl
   have j:∀ (K:Int->Option Int),idx a (i:Int) K=K a[i]:=fun K=>A9 hi K
   simp only [g,j];generalize a[i]=k;generalize a.headD 0=o;have:op=5\/op=6\/op=7\/op=8\/op=9\/op=10\/op=11\/op=12:=by omega
   clear f d g j h;rcases this with rfl|rfl|rfl|rfl|rfl|rfl|rfl|rfl
   all_goals
    simp [Aw];first
    |(by_cases q:k=0<;>simp [q,c])
    |(by_cases q:k=1<;>simp [q,c])
    |(by_cases q:k=o<;>simp [q,c])
  ·have b:¬((i:Nat):Int)<((a.length:Nat):Int):=by omega
   simp only [b,if_false];exact ⟨0,rfl,rfl,aH rfl⟩
theorem zxj (n:Nat)(b:Bool):Dw n b=some (if b=true then ⟨1,1,be⟩ else ⟨1,0,be⟩):=by
 unfold Dw Zc;cases b<;>simp [Aw,A3]
theorem zpz (n:Nat)(b:Bool):Dt n b=some (if b=true then ⟨1,1,be⟩ else ⟨1,0,be⟩):=by
 unfold Dt;cases b<;>simp [Aw]
section
variable {α β:Type}
theorem zix {len:Nat}(h:0<len)(k:Nat->Option β):nat 0 len k=k 0:=by have:=Ct (i:=0) h k;simpa using this
theorem zt7 {len:Nat}(h:1<len)(k:Nat->Option β):nat 1 len k=k 1:=by have:=Ct (i:=1) h k;simpa using this
theorem y50 {x y:α}{l:List α}(k:α->Option β):idx (x::y::l) 1 k=k y:=by have:=A9 (l:=x::y::l) (i:=1) (by simp) k;simpa using this
end
theorem w21:aB .i64 (((2:Nat):Int)-1)=1:=by decide
theorem w11:aB .i64 (((1:Nat):Int)-1)=0:=by decide
theorem y1d (n:Nat)(op:Int)(h:5<=op/\op<=11)(x y:Va):∃ v,Mf n op [x,y]=some v /\
  (cnd (decide (op=9))
    (nat 0 (List.map Ag [x,y]).length fun g=>elt [x,y] g fun c=>nat 1 (List.map Ag [x,y]).length fun f=>elt [x,y] f fun b =>
      bnd (Dw n (decide (c.fKind=b.fKind) && (decide (c.fNum=b.fNum) && ((c.fText.toList == b.fText.toList) && true)))) fun d=>some (d,(0:Int)))
  <| natc op 5 (bnd (Vm n x.fNum y.fNum) fun a=>some (a,0))
  <| natc op 6 (bnd (Vl n x.fNum y.fNum) fun a=>some (a,0))
  <| natc op 7 (bnd (Vk n x.fNum y.fNum) fun a=>some (a,0))
  <| natc op 8 (bnd (Vj n x.fNum y.fNum) fun a=>some (a,0))
  <| natc op 10 (bnd (Vi n x.fNum y.fNum) fun a=>some (a,0))
  <| natc op 11 (bnd (Vh n x.fNum y.fNum) fun a=>some (a,0))
  <| natc op 12 (bnd (My n x.fNum y.fNum) fun a=>some (a,0))
  <| none)=some (v,0):=by
 have:op=5\/op=6\/op=7\/op=8\/op=9\/op=10\/op=11:=by omega
 have o:(List.map Ag [x,y]).length=2:=rfl;have m:∀ k:Nat->Option (Va×Int),nat 0 2 k=k 0:=fun k=>zix (by omega) k
 have j:∀ k:Nat->Option (Va×Int),nat 1 2 k=k 1:=fun k=>zt7 (by omega) k
 have r:∀ k:Va->Option (Va×Int),elt [x,y] 0 k=k x:=fun k=>D7 (by simp) k
 have p:∀ k:Va->Option (Va×Int),elt [x,y] 1 k=k y:=fun k=>D7 (by simp) k
 unfold Mf Vm Vl Vk Vj Vi Vh My Vn;simp only [o,m,j,r,p,Xc,y50,A5,Oa,zxj,zpz,A3,Ay,Al,M9,M8,L5,L4];rcases this with rfl|rfl|rfl|rfl|rfl|rfl|rfl
 ·exact ⟨_,rfl,rfl⟩
 ·exact ⟨_,rfl,rfl⟩
 ·exact ⟨_,rfl,rfl⟩
 ·exact ⟨_,rfl,rfl⟩
 ·exact ⟨_,rfl,rfl⟩
 ·by_cases q:x.fNum=1
  ·simp [q,A3]
  ·simp [q,A3]
 ·by_cases q:x.fNum=1
  ·simp [q,A3]
  ·simp [q,A3]
theorem y1e (n:Nat)(x:Va):∃ v,Mf n 12 [x]=some v/\My n x.fNum x.fNum=some v:=by
 unfold Mf My;simp only [Xc,A5,zxj,zpz,A3];exact ⟨_,rfl,rfl⟩
theorem ETrO.pos {s:Nat}(h:ETrO s e):1<=s:=by cases h;omega
theorem zmx (n:Nat)(l:List (Nat×Exn))(e:Exn)(f:e.fArgs=l.map (fun p=>Av p.2))(q:l.length<=4000000)(a b:List (List Ev))(own:Int)(ev:Ev)
  (d:∀ p∈l,∃ r,He n p.2 ⟨a⟩ own ev=some r/\H7 n ⟨b⟩ own ev p.2=some r) (K K':List Va->List Int->Option (Va×Int)) (s:∀ vs,vs.length=l.length->∃ r,K vs (vs.map (·.fKind))=some r/\K' vs (vs.map (·.fKind))=some r) :
  ∀ (m k:Nat) (vs:List Va),k<=l.length->l.length<m+k->vs.length=k->∃ r,Qq n (He n) ev own ⟨a⟩ e K m ((k:Int),vs,vs.map (·.fKind))=some r/\Pr n (H7 n) e ev own ⟨b⟩ K' m ((k:Int),vs,vs.map (·.fKind))=some r
 |0,k,vs,h1,t,_=>by omega
 |m+1,k,vs,h1,t,u=>by
  unfold Qq Pr;simp only [f,aA,A5,Ah];by_cases h:k<l.length
  ·have c:((k:Nat):Int)<((l.length:Nat):Int):=by omega
   simp only [c,if_true];rw [Gb h,Gb h];obtain ⟨⟨v,x⟩,j,g⟩:=d l[k] (aD h);rw [j,g,A3,A3];by_cases o:x=0
   ·simp only [o,if_true];rw [Bu (by simp;omega) (by omega),Bu (by simp;omega) (by omega),Bu (by simp;omega) (by omega),Bu (by simp;omega) (by omega),Ad k (by omega)];have:=zmx n l e f q a b own ev d K K' s m (k+1) (vs++[v]) (by omega) (by omega) (by simp;omega);simpa using this
   simp_all
  grind
theorem y6v (a b:List (List Ev))(Q:∀ v,(evs a v).length<=1000000)(own:Int)(ev:Ev):∀ (s:Nat) (e:Exn),ETrO s e->(∀ i:Nat,Occ i e->evs a (i:Int)=evs b (i:Int))->s<=4000000->∀ n,s+5000000<n->∃ r,He n e ⟨a⟩ own ev=some r/\H7 n ⟨b⟩ own ev e=some r:=by
 intro s
 induction s using Nat.strongRecOn with
 |ind s IH =>
  intro e N j U n W;cases N with
  |mk l e g h G =>
   obtain ⟨d,rfl⟩:∃ d,n=d + 1:=⟨n-1,by omega⟩;have X:l.length<=(l.map (·.1)).sum:=T7 (l:=l) (fun p q=>(h p q).pos);obtain ⟨H,D,Z,Y⟩:=zt6 g;simp only [He,H7,aA,A5,Ah];by_cases R:e.fArgs.length=0
   ·have:((e.fArgs.length:Nat):Int)=0:=by omega
    simp only [this,if_true];obtain ⟨r,o,m⟩:=y6q d (by omega) e g R a b j Q own ev;rw [o,m,A3];exact ⟨_,rfl,rfl⟩
   ·have:¬((e.fArgs.length:Nat):Int)=0:=by omega
    simp only [this,if_false];have P:e.fArgs.length=l.length:=by rw [G,aA]
    have c:5<=e.fOp/\e.fOp<=12/\(e.fOp=12->l.length=1)/\(e.fOp≠12->l.length=2):=by
     unfold arP at H D;by_cases F:e.fOp<0
     ·rw [if_pos F] at H;omega
     by_cases J:12<e.fOp
     ·omega
     rw [if_neg F,if_neg J] at D;by_cases I:e.fOp<5
     ·rw [if_pos I] at D;omega
     ·omega
    refine zmx d l e G (by omega) a b own ev (fun p q=>by
     have:=Jt q;exact IH p.1 (by omega) p.2 (h p q) (fun i hi=>j i (.sub e p.2 (by grind) hi)) (by omega) d (by omega)) _ _ (fun vs M=>?_) d 0 [] (by omega) (by omega) rfl
    obtain ⟨r,o,m,T⟩:=zb1 d e.fOp ⟨c.1,c.2.1⟩ (vs.map (·.fKind)) (by rw [aA];omega) d 0 (by omega) (by rw [aA];omega);simp only [aC] at o m;unfold Y1 Z4;rw [o,m,A3,A3];by_cases O:r=0
    ·simp only [O,if_true];by_cases f:e.fOp=12
     ·have C:vs.length=1:=by have:=c.2.2.1 f;omega
      match vs,C with
      |[x],_ =>
       obtain ⟨v,u,t⟩:=y1e d x;rw [f,u,A3];have w:∀ k:Nat->Option (Va×Int),nat 0 1 k=k 0:=fun k=>zix (by omega) k
       have E:∀ k:Va->Option (Va×Int),elt [x] 0 k=k x:=fun k=>D7 (by simp) k
       have A:∀ z:Option (Va×Int),ltx 0 1 z=z:=fun z=>Xm (by omega) z
       simp only [Oa,length_cons,length_nil,Nat.zero_add,w11,w,E,A,t,A3];exact ⟨_,rfl,rfl⟩
     ·have B:vs.length=2:=by have:=c.2.2.2 f;omega
      match vs,B with
      |[x,y],_ =>
       obtain ⟨v,u,t⟩:=y1d d e.fOp ⟨c.1,by omega⟩ x y;rw [u,A3];refine ⟨(v,0),rfl,?_⟩;rw [<-t];have w:∀ k:Nat->Option (Va×Int),nat 0 2 k=k 0:=fun k=>zix (by omega) k
       have K:∀ k:Nat->Option (Va×Int),nat 1 2 k=k 1:=fun k=>zt7 (by omega) k
       have E:∀ k:Va->Option (Va×Int),elt [x,y] 0 k=k x:=fun k=>D7 (by simp) k
       have S:∀ k:Va->Option (Va×Int),elt [x,y] 1 k=k y:=fun k=>D7 (by simp) k
       have A:∀ z:Option (Va×Int),ltx 0 2 z=z:=fun z=>Xm (by omega) z
       have L:∀ z:Option (Va×Int),ltx 1 2 z=z:=fun z=>Xm (by omega) z
       simp only [Oa,A5,aA,length_cons,length_nil,Nat.zero_add,Nat.reduceAdd,w21,w,K,E,S,A,L]
    simp_all
theorem zwx (a b:List (List Ev))(o:∀ v,(evs a v).length<=1000000)(own:Int)(ev:Ev)(s:Nat)(e:Exn)(f:∀ i:Nat,Occ i e->evs a (i:Int)=evs b (i:Int))(m:ETr s e)(g:s<=4000000)(n:Nat)(u:10000000<n) :
  ∃ r,Fx n e ⟨a⟩ own ev=some r/\Jl n e ⟨b⟩ own ev=some r:=by
 obtain ⟨c,t,q,p⟩:=zxp s e m g n (by omega);unfold Fx Jl Ys Zf;rw [t,q];simp only [A3,A5,Ah,zxj,zpz,Ay,Al,L6,Nd];by_cases d:c=0
 ·simp only [d,if_true];obtain ⟨r,j,h⟩:=y6v a b o own ev s e (p d) f g n (by omega);rw [j,h];simp only [A3];split;all_goals simp_all
 ·simp only [d,if_false,A3];exact ⟨_,rfl,rfl⟩
end Go.Proofs.YtidhlpjgifoneaaGreat
