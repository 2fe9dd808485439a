/- Layer 8, plainly. -/
import Derived.Test.YtidhlpjgifoneaaGreatK29
set_option linter.unusedVariables false
set_option linter.unusedSimpArgs false
namespace Go.Proofs.YtidhlpjgifoneaaGreat
open Go.RowKit List
theorem zoe (n:Nat)(e:Exn):V8 n e=some (if vcP e.fValue=0 then (if decide (e.fOp=4) && (!(suP e.fKind e.fValue) || (decide (e.fKind=1) && !decide (e.fValue=va0))) then 9 else 0) else vcP e.fValue):=by
 unfold V8;rw [p_vc,A3];simp only [A5,Al,y1d,A3,B3,Am,H5,Z9];obtain ⟨op,args,var,field,kind,val⟩:=e;simp only;by_cases h:op=4
 ·subst h;simp [Au];grind
 ·simp [h,Au];split<;>rfl
theorem y41 (n:Nat)(e:Exn):Vx n e=some (ndP e):=by
 unfold Vx;rw [y1t,A3,zzy];simp only [A3,length_map,A5,Al,zoe,B3,Am,E6,J2,Ms,Mr,Ca,Z9];unfold ndP;by_cases a:arP e.fOp<0
 ·rw [if_pos a];have:e.fOp<0\/12<e.fOp:=by
   unfold arP at a;by_cases h1:e.fOp<0
   ·exact Or.inl h1
   ·omega
  rcases this with h|h
  ·rw [if_pos h,Az]
  ·by_cases d:e.fOp<0
   ·rw [if_pos d,Az]
   ·rw [if_neg d,if_pos h,Az]
 have c:¬e.fOp<0/\¬12<e.fOp:=by
  unfold arP at a;refine ⟨fun h=>a (by rw [if_pos h];decide),fun h=>a ?_⟩;by_cases h1:e.fOp<0
  ·rw [if_pos h1];decide
  ·rw [if_neg h1,if_pos h];decide
 rw [if_neg c.1,if_neg c.2,if_neg a,Av];by_cases b:(e.fArgs.length:Int)=arP e.fOp;rotate_left
 ·rw [if_neg b,if_pos b]
 rw [if_pos b,if_neg (show ¬((e.fArgs.length:Int)≠arP e.fOp) from fun h=>h b)];have f:=zrw e.fOp a;obtain ⟨op,args,var,field,kind,val⟩:=e;simp only at *;clear b a c;rcases f with rfl|rfl|rfl|rfl|rfl|⟨h1,m,j,g⟩
 ·simp [us0,Au];grind
 ·simp [us1,Au];grind
 ·simp [us2,Au];grind
 ·simp [us3,Au];grind
 ·simp [us4,Au];grind
 ·simp [h1,m,j,g,Au];grind
inductive ETr:Nat->Exn->Prop
 |mk (l:List (Nat×Exn)) (e:Exn) (h:∀ p∈l,ETr p.1 p.2) (ha:e.fArgs=l.map (fun p=>Ar p.2)):ETr (1+(l.map (·.1)).sum) e
inductive ETrO:Nat->Exn->Prop
 |mk (l:List (Nat×Exn)) (e:Exn) (hn:ndP e=0) (h:∀ p∈l,ETrO p.1 p.2) (ha:e.fArgs=l.map (fun p=>Ar p.2)):ETrO (1+(l.map (·.1)).sum) e
variable {e:Exn}
theorem ETr.pos {s:Nat}(h:ETr s e):1<=s:=by cases h;omega
variable {l:List (Nat×Exn)}
theorem J9 {p:Nat×Exn}(h:p∈l):p.1<=(l.map (·.1)).sum:=by
 induction l with
 |nil=>cases h
 |cons x l ih =>
  grind
theorem S5 (h:∀ p∈l,1<=p.1):l.length<=(l.map (·.1)).sum:=by
 induction l with
 |nil=>simp
 |cons x l ih =>
  grind
def preS (l:List (Nat×Exn))(k:Nat):Nat:=((l.take k).map (·.1)).sum
theorem zk9 {k:Nat}(h:k<l.length):preS l (k+1)=preS l k+l[k].1:=by
 unfold preS;rw [take_succ_eq_append_getElem h,map_append,sum_append];simp_all
theorem zq8 {k:Nat}(h:l.length<=k):preS l k=(l.map (·.1)).sum:=by unfold preS;rw [take_of_length_le h]
theorem zu8 (l:List (Nat×Exn))(k:Nat):preS l k<=(l.map (·.1)).sum:=by
 unfold preS;conv=>rhs;rw [<-take_append_drop k l]
 grind
theorem G9 {β:Type}{k:Nat}(h:k<l.length)(K:Exn->Option β):idxD C1 (l.map fun p=>Ar p.2) (k:Int) K=K l[k].2:=by
 unfold idxD;rw [if_pos (by omega)];simp only [Int.toNat_natCast,getElem?_map,getElem?_eq_getElem h,Option.map_some,Mh]
theorem zg6 (most:Int)(hm:0<=most)(a:most<=1000000)(n:Nat)(l:List (Nat×Exn))(e:Exn)(f:e.fArgs=l.map (fun p=>Ar p.2))(j:(l.map (·.1)).sum<=4000000)(r:l.length<=4000000)
  (b:∀ p∈l,∃ c:Int,Fy n p.2 most=some c/\1<=c/\c<=p.1/\(c<=most->c=p.1)) :
  ∀ (m k:Nat) (v:Int),k<=l.length->l.length<m+k->1<=v->v<=1+preS l k->(v<=most->v=1+preS l k) ->
   ∃ c:Int,I2 n (Fy n) most e (fun y=>some y) m (v,(k:Int))=some c/\1<=c/\c<=1+(l.map (·.1)).sum/\(c<=most->c=1+(l.map (·.1)).sum)
 |0,k,v,h1,t,_,_,_=>by omega
 |m+1,k,v,h1,t,A,z,s=>by
  unfold I2;simp only [B3,Am,Kd,f,length_map,A5,Az];have q:=zu8 l k;by_cases h:k<l.length
  ·rw [if_pos (by omega)];by_cases d:v<=most
   ·rw [if_pos d,G9 h];obtain ⟨c,w,C,B,u⟩:=b l[k] (getElem_mem h);rw [w,A3,Ag k (by omega),Cy _ (by have:=J9 (getElem_mem h);omega)];have o:=zk9 h;have g:=s d;exact zg6 most hm a n l e f j r b m (k+1) (v+c) (by omega) (by omega) (by omega) (by omega) (fun x=>by have:=u (by omega);omega)
   grind
  ·rw [if_neg (by omega)];have o:=zq8 (l:=l) (k:=k) (by omega);grind
theorem zv2 (most:Int)(hm:0<=most)(d:most<=1000000):∀ (s:Nat) (e:Exn),ETr s e->s<=4000000->∀ n,s+1<n->∃ c:Int,Fy n e most=some c/\1<=c/\c<=s/\(c<=most->c=s):=by
 intro s
 induction s using Nat.strongRecOn with
 |ind s IH =>
  intro e f j n m;cases f with
  |mk l e h g =>
   obtain ⟨a,rfl⟩:∃ a,n=a + 1:=⟨n-1,by omega⟩;have o:=S5 (l:=l) (fun p b=>(h p b).pos);simp only [Fy];obtain ⟨c,u,t,r,q⟩:=zg6 most hm d a l e g (by omega) (by omega) (fun p b=>by
    have:=J9 b;exact IH p.1 (by omega) p.2 (h p b) (by omega) a (by omega)) a 0 1 (by omega) (by omega) (by omega) (by omega) (fun _=>by simp [preS])
   grind
theorem zkd (n:Nat)(l:List (Nat×Exn))(e:Exn)(f:e.fArgs=l.map (fun p=>Ar p.2))(o:(l.map (·.1)).sum<=4000000)(r:l.length<=4000000)
  (a:∀ p∈l,∃ d:Int,Fx n p.2=some d/\Hd n p.2=some ((p.1:Int),d)/\0<=d/\d<=p.1) :
  ∀ (m k:Nat) (d:Int),k<=l.length->l.length<m+k->0<=d->d<=preS l k ->
   ∃ D:Int,P7 n (Fx n) e (fun y=>some (IntKind.wrap .i64 (y+1))) m (d,(k:Int))=some (D+1)/\Rr n (Hd n) e (fun j g=>some (j,(IntKind.wrap .i64 (g+1)))) m (((1+preS l k:Nat):Int),d,(k:Int))=some (((1+(l.map (·.1)).sum:Nat):Int),D+1)/\0<=D/\D<=(l.map (·.1)).sum
 |0,k,d,h1,t,_,_=>by omega
 |m+1,k,d,h1,t,s,x=>by
  unfold P7 Rr;simp only [f,length_map,A5];have q:=zu8 l k;by_cases h:k<l.length
  ·rw [if_pos (by omega),if_pos (by omega),G9 h,G9 h];obtain ⟨c,w,v,A,z⟩:=a l[k] (getElem_mem h);have b:=zk9 h;have hm:=J9 (getElem_mem h);rw [w,v,A3,A3,Ag k (by omega),Cy _ (by omega)];have u:(((1+preS l k:Nat):Int)+((l[k].1:Nat):Int))=((1+preS l (k+1):Nat):Int):=by omega
   simp only;rw [u];exact zkd n l e f o r a m (k+1) (max d c) (by omega) (by omega) (by omega) (by omega)
  ·rw [if_neg (by omega),if_neg (by omega)];have b:=zq8 (l:=l) (k:=k) (by omega);refine ⟨d,by rw [Cy _ (by omega)],?_,s,by omega⟩;rw [Cy _ (by omega),b]
theorem y00:∀ (s:Nat) (e:Exn),ETr s e->s<=4000000->∀ n,s+1<n->∃ d:Int,Fx n e=some d/\Hd n e=some ((s:Int),d)/\0<=d/\d<=s:=by
 intro s
 induction s using Nat.strongRecOn with
 |ind s IH =>
  intro e c m n o;cases c with
  |mk l e h f =>
   obtain ⟨a,rfl⟩:∃ a,n=a + 1:=⟨n-1,by omega⟩;have q:=S5 (l:=l) (fun p b=>(h p b).pos);simp only [Fx,Hd];obtain ⟨D,j,g,t,r⟩:=zkd a l e f (by omega) (by omega) (fun p b=>by
    have:=J9 b;exact IH p.1 (by omega) p.2 (h p b) (by omega) a (by omega)) a 0 0 (by omega) (by omega) (by omega) (by simp)
   exact ⟨D+1,j,g,by omega,by push_cast;omega⟩
theorem zfq (n:Nat)(l:List (Nat×Exn))(e:Exn)(c:e.fArgs=l.map (fun p=>Ar p.2))(j:l.length<=4000000)
  (a:∀ p∈l,∃ r:Int,Gx n p.2=some r/\Ha n p.2=some r/\(r=0->ETrO p.1 p.2)) :
  ∀ (m k:Nat),k<=l.length->l.length<m+k->(∀ p∈l.take k,ETrO p.1 p.2) ->
   ∃ r:Int,P6 n (Gx n) e (some 0) m (k:Int)=some r/\Rm n (Ha n) e (some 0) m (k:Int)=some r/\(r=0->∀ p∈l,ETrO p.1 p.2)
 |0,k,h1,o,_=>by omega
 |m+1,k,h1,o,s=>by
  unfold P6 Rm;simp only [c,length_map,A5,Al];by_cases h:k<l.length
  ·rw [if_pos (by omega),if_pos (by omega),G9 h,G9 h];obtain ⟨r,f,d,q⟩:=a l[k] (getElem_mem h);rw [f,d,A3,A3,Ag k (by omega)];by_cases b:r=0
   ·rw [if_pos b,if_pos b];refine zfq n l e c j a m (k+1) (by omega) (by omega) (fun p g=>?_);rw [take_succ_eq_append_getElem h,mem_append,mem_singleton] at g;grind
   simp_all
  ·rw [if_neg (by omega),if_neg (by omega)];grind
theorem y1a:∀ (s:Nat) (e:Exn),ETr s e->s<=4000000->∀ n,s+1<n->∃ r:Int,Gx n e=some r/\Ha n e=some r/\(r=0->ETrO s e):=by
 intro s
 induction s using Nat.strongRecOn with
 |ind s IH =>
  intro e m q n t;cases m with
  |mk l e h d =>
   obtain ⟨b,rfl⟩:∃ b,n=b + 1:=⟨n-1,by omega⟩;have u:=S5 (l:=l) (fun p c=>(h p c).pos);simp only [Gx,Ha,y1f,y41,A3,Al,A5];by_cases a:ndP e=0
   ·rw [if_pos a,if_pos a];obtain ⟨r,j,g,f⟩:=zfq b l e d (by omega) (fun p c=>by
     have:=J9 c;exact IH p.1 (by omega) p.2 (h p c) (by omega) b (by omega)) b 0 (by omega) (by omega) (by simp)
    exact ⟨r,j,g,fun o=>.mk l e a (f o) d⟩
   simp_all
theorem zv4 (s:Nat)(e:Exn)(a:ETr s e)(b:s<=4000000)(n:Nat)(f:s+1<n):∃ r:Int,Fz n e=some r/\Hb n e=some r/\(r=0->ETrO s e):=by
 obtain ⟨c,o,w,v,u⟩:=zv2 64 (by omega) (by omega) s e a b n f;obtain ⟨d,m,j,t,q⟩:=y00 s e a b n f;obtain ⟨r,h,g,p⟩:=y1a s e a b n f;unfold Fz Hb;rw [o,m,j,h,g];simp only [A3,A5];grind
def wrP (k:Int)(v:Va):Int:=if vcP v=0 then (if suP k v=true then 0 else 9) else vcP v
theorem zo3 (n:Nat)(k:Int)(d:1<=k/\k<=5)(v:Va):Me n k v=some (wrP k v):=by
 unfold Me Re wrP suP;simp only [p_vc,A3,A5,Al,B3,Am,H3];by_cases h:vcP v=0
 ·rw [if_pos h,if_pos h];by_cases a:v.fKind=0
  ·simp [a,Au,A3]
  ·by_cases h1:k=1
   ·simp [a,h1,Au,A3]
   ·by_cases b:k=2
    ·simp [a,h1,b,Au,A3]
    ·by_cases c:k=3
     ·simp [a,h1,b,c,Au,A3]
     ·have:k=4\/k=5:=by omega
      rcases this with rfl|rfl<;>simp [a,Au,A3]
 ·rw [if_neg h,if_neg h]
theorem zqa (n:Nat)(k:Int)(b:1<=k/\k<=5)(v:Va):Qf n k v=some (wrP k v):=by
 unfold Qf wrP;simp only [zya,zhd,A3,A5,Al];have a:decide (k=0)=false:=by rw [decide_eq_false];omega
 simp only [a,Bool.false_or];by_cases h:vcP v=0
 ·rw [if_pos h,if_pos h];cases suP k v<;>simp [Au]
 ·rw [if_neg h,if_neg h]
def comb (k:Int)(a b:Va):Va:=if k=1 then ⟨0,IntKind.wrap .i64 (a.fNum+b.fNum),be⟩ else if k=2 then ⟨0,min a.fNum b.fNum,be⟩ else if k=3 then ⟨0,max a.fNum b.fNum,be⟩ else if k=4 then a else b
theorem y1j (n:Nat)(k:Int)(c:1<=k/\k<=5)(a b:Va):Te n k a b=some (comb k a b):=by
 unfold Te comb;simp only [A5];grind
theorem y4f (n:Nat)(k:Int)(c:1<=k/\k<=5)(a b:Va):Ut n k a b=some (comb k a b):=by
 unfold Ut comb;simp only [Nj,Cb,A3,Xi,Xh,Xg,Xf,Xe,Xd];grind
def AInv (k:Int)(i:Nat)(V:Va):Prop:=if i=0 then V=va0 else if k=1 then V.fKind=0/\V.fText=be/\-((i:Int)*1099511627776)<=V.fNum/\V.fNum<=(i:Int)*1099511627776 else vcP V=0/\suP k V=true
variable {k:Int}{i:Nat}{V:Va}
theorem AInv.check (n:Nat)(g:1<=k/\k<=5)(hi:i<=4096)(h:AInv k i V):Qh n ⟨k,(i:Int),V⟩=some 0/\V7 n ⟨k,(i:Int),V⟩=some 0:=by
 have w1:IntKind.wrap .i64 ((i:Int)*1099511627776)=(i:Int)*1099511627776:=Cy _ (by omega);have m:IntKind.wrap .i64 (0-(i:Int)*1099511627776)=-((i:Int)*1099511627776):=by rw [Cy _ (by omega)];omega
 have o:¬k=0:=by omega
 have ka:(0:Int)<=k:=by omega
 have q:¬(i:Int)<0:=by omega
 have p:¬4096<(i:Int):=by omega
 unfold Qh V7 Qs Rg;simp only [A3,A5,Al,B3,Am,I7,Iu,Kg,Kf,Gl,Ke,Ly,Z9,p_vc,zya,w1,m,ka,g.2,if_true,decide_true,Av,q,p,if_false,decide_false,Az,o,N5];unfold AInv at h;by_cases a:i=0
 ·rw [if_pos a] at h;subst a;subst h;simp [Au]
 ·rw [if_neg a] at h;have c:¬(i:Int)=0:=by omega
  simp only [c,if_false,decide_false,Az];by_cases d:k=1
  ·grind
  ·rw [if_neg d] at h;obtain ⟨h1,j⟩:=h;simp only [d,if_false,h1,zhd,j,A3,if_true,Bool.or_true];refine ⟨by simp [Au],?_⟩;have:=zo3 n k g V;unfold Me wrP at this;rw [p_vc,A3] at this;simp only [h1,j,if_true,decide_true,Bool.not_true,Az] at this;cases f:Re n k V with
   |none=>rw [f] at this;unfold bnd at this;cases this
   |some b =>
    rw [f,A3] at this;cases b with
    |true=>simp [A3,Au]
    |false=>simp [Au] at this
def Fh (k:Int)(i:Nat)(V x:Va):Va:=if i=0 then x else comb k V x
theorem AInv.step (w:1<=k/\k<=5)(hi:i<=4096){x:Va}(h:AInv k i V)(u:wrP k x=0):AInv k (i+1) (Fh k i V x):=by
 have s:vcP x=0/\suP k x=true:=by
  unfold wrP at u;by_cases h1:vcP x=0
  ·simp_all
  ·omega
 have p:x.fKind=0->x.fText=be/\-1099511627776<=x.fNum/\x.fNum<=1099511627776:=fun v=>by
  have:=s.1;unfold vcP at this;grind
 have o:k=1\/k=2\/k=3->x.fKind=0:=fun h=>by
  have:=s.2;simp only [suP,Bool.or_eq_true,decide_eq_true_eq] at this;omega
 have nv:∀ q:Int,-1099511627776<=q->q<=1099511627776->vcP ⟨0,q,be⟩=0:=fun q h1 r=>by
  unfold vcP;grind
 unfold AInv at h ⊢;rw [if_neg (by omega)];unfold Fh;by_cases g:i=0
 ·simp_all
 ·rw [if_neg g] at h;rw [if_neg g];by_cases f:k=1
  ·rw [if_pos f] at h ⊢;obtain ⟨h1,r,z,y⟩:=h;obtain ⟨a,b,c⟩:=p (o (Or.inl f));unfold comb;rw [if_pos f];rw [Cy _ (by omega)];grind
  ·rw [if_neg f] at h ⊢;obtain ⟨h1,r⟩:=h;have t:V.fKind=0->-1099511627776<=V.fNum/\V.fNum<=1099511627776:=fun v=>by
    unfold vcP at h1;omega
   have j:k=2\/k=3->V.fKind=0:=fun h=>by
    simp only [suP,Bool.or_eq_true,decide_eq_true_eq] at r;omega
   unfold comb;rw [if_neg f];by_cases m:k=2
   ·rw [if_pos m];obtain ⟨a,b,c⟩:=p (o (Or.inr (Or.inl m)));obtain ⟨d,e⟩:=t (j (Or.inl m));exact ⟨nv _ (by omega) (by omega),by simp [suP]⟩
   ·rw [if_neg m];by_cases n:k=3
    ·rw [if_pos n];obtain ⟨a,b,c⟩:=p (o (Or.inr (Or.inr n)));obtain ⟨d,e⟩:=t (j (Or.inr n));exact ⟨nv _ (by omega) (by omega),by simp [suP]⟩
    grind
theorem y40 (n:Nat)(b:1<=k/\k<=5)(hi:i<4096)(h:AInv k i V)(x:Va):Ug n ⟨k,(i:Int),V⟩ x=some (if wrP k x=0 then (⟨k,((i+1:Nat):Int),Fh k i V x⟩,0) else (⟨0,0,⟨0,0,be⟩⟩,wrP k x)):=by
 unfold Ug;rw [(h.check n b (by omega)).1,A3];simp only [zqa n k b,A3,A5,Al,y1j n k b,B3,Am,Ij,if_true];rw [Ag i (by omega)];by_cases a:wrP k x=0
 ·rw [if_pos a,if_pos a,if_neg (by omega),if_neg (by omega)];unfold Fh;by_cases c:i=0;all_goals simp_all
 ·rw [if_neg a,if_neg a]
def bad (k:Int):List Va->Option Int
 |[]=>none
 |x::l=>if wrP k x=0 then bad k l else some (wrP k x)
def fV (k:Int):Nat->Va->List Va->Va |_,V,[]=>V |i,V,x::l=>fV k (i+1) (Fh k i V x) l
theorem zqd (n:Nat)(a:1<=k/\k<=5)(init:Va)(l:List Va)(d:l.length<=4096)(K:Int->Int->Int->Int->ByteArray->Option (Va×Int)):∀ (m i:Nat) (V:Va),i<=l.length->l.length<m+i->AInv k i V ->
  Qg n init l K m ((i:Int),k,(i:Int),V.fKind,V.fNum,V.fText)=(match bad k (l.drop i) with|some e=>some (va0,e)|none=>K k (l.length:Int) (fV k i V (l.drop i)).fKind (fV k i V (l.drop i)).fNum (fV k i V (l.drop i)).fText)/\(bad k (l.drop i)=none->AInv k l.length (fV k i V (l.drop i)))
 |0,i,V,h1,j,_=>by omega
 |m+1,i,V,h1,j,b=>by
  unfold Qg;simp only [length_map,A5,Al];by_cases h:i<l.length
  ·rw [if_pos (by omega),Ac h];have f:=y40 n a (i:=i) (by omega) b l[i];have g:V=⟨V.fKind,V.fNum,V.fText⟩:=rfl;rw [<-g,f,A3,B0 l i h];simp only [bad,fV];by_cases c:wrP k l[i]=0
   ·simp only [c,if_true];rw [Ag i (by omega)];exact zqd n a init l d K m (i+1) _ (by omega) (by omega) (b.step a (by omega) c)
   grind
  ·rw [if_neg (by omega),drop_eq_nil_of_le (by omega)];have:i=l.length:=by omega
   subst this;exact ⟨rfl,fun _=>b⟩
theorem zut (n:Nat)(b:1<=k/\k<=5)(init:Va)(l:List Va)(c:l.length<=4096)(K:Option (Va×Int)):∀ (m i:Nat),i<=l.length->l.length<m+i->Rh n init l k K m (i:Int)=(match bad k (l.drop i) with|some e=>some (va0,e)|none=>K)
 |0,i,h1,d=>by omega
 |m+1,i,h1,d=>by
  unfold Rh;simp only [length_map,A5,Al];by_cases h:i<l.length
  ·rw [if_pos (by omega),Ac h,zo3 n k b,A3,B0 l i h];simp only [bad];by_cases a:wrP k l[i]=0
   ·simp only [a,if_true];rw [Ag i (by omega)];exact zut n b init l c K m (i+1) (by omega) (by omega)
   ·simp only [a,if_false]
  ·rw [if_neg (by omega),drop_eq_nil_of_le (by omega)];rfl
theorem zda (n:Nat)(a:1<=k/\k<=5)(l:List Va)(c:l.length<=4096)(K:Int->Int->Int->Int->ByteArray->Option C0):∀ (m i:Nat) (V:Va),i<=l.length->l.length<m+i ->
  Qp n k l K m ((i:Int),k,(i:Int),V.fKind,V.fNum,V.fText)=K k (l.length:Int) (fV k i V (l.drop i)).fKind (fV k i V (l.drop i)).fNum (fV k i V (l.drop i)).fText
 |0,i,V,h1,j=>by omega
 |m+1,i,V,h1,j=>by
  unfold Qp;simp only [length_map,A5];by_cases h:i<l.length
  ·rw [if_pos (by omega),Ac h,B0 l i h];unfold Xx Xt Xu;have f:¬k=0:=by omega
   have g:V=⟨V.fKind,V.fNum,V.fText⟩:=rfl;simp only [A5,f,if_false,A3];rw [<-g,y4f n k a];simp only [fV];by_cases d:i=0
   ·have:((i:Nat):Int)=0:=by omega
    rw [if_pos this,A3,Ag i (by omega)];have e:=zda n a l c K m (i+1) (Fh k i V l[i]) (by omega) (by omega);have b:Fh k i V l[i]=l[i]:=by unfold Fh;rw [if_pos d]
    rw [b] at e ⊢;have o:((i+1:Nat):Int)=1:=by omega
    rw [o] at e ⊢;rw [A3];exact e
   ·rw [if_neg (by omega),if_neg (by omega),A3,A3,Ag i (by omega)];have e:=zda n a l c K m (i+1) (Fh k i V l[i]) (by omega) (by omega);have b:Fh k i V l[i]=comb k V l[i]:=by unfold Fh;rw [if_neg d]
    rw [b] at e ⊢;rw [A3];exact e
  ·rw [if_neg (by omega),drop_eq_nil_of_le (by omega)];have:i=l.length:=by omega
   subst this;rfl
theorem zyc (n:Nat)(hk:1<=k/\k<=5)(hi:i<=4096)(h:AInv k i V)(init:Va):∃ r,Q7 n ⟨k,(i:Int),V⟩ init=some r/\R6 n ⟨k,(i:Int),V⟩ init=some r:=by
 obtain ⟨h1,h2⟩:=h.check n hk hi
 unfold Q7 R6
 rw [h1,h2]
 simp only [A3,zqa n k hk,zo3 n k hk,A5,Al,B3,Am,K3,Lu,if_true,Au]
 repeat' split
 all_goals exact ⟨_,rfl,rfl⟩
theorem p_of (n:Nat)(w:5000<n)(c:1<=k/\k<=5)(l:List Va)(init:Va):∃ r,R5 n k l init=some r/\Rs n k l init=some r:=by
 unfold R5 Rs Qs Rg;have ka:(0:Int)<=k:=by omega
 simp only [A3,A5,Al,B3,Am,I7,Iu,ka,c.2,if_true,length_map,decide_true,Av];by_cases h:4096<l.length
 ·rw [if_pos (by omega),if_pos (by omega)];exact ⟨_,rfl,rfl⟩
 ·rw [if_neg (by omega),if_neg (by omega)];have p:=zqd n c init l (by omega) (fun m j g f d=>bnd (Q7 n (⟨m,j,⟨g,f,d⟩⟩:C0) init) fun a=>some (a.1,a.2)) n 0 va0 (by omega) (by omega) (by simp [AInv]);have s:=zut n c init l (by omega) (bnd (V0 n (⟨k,0,⟨0,0,ByteArray.empty⟩⟩:C0) l k) fun o=>bnd (R6 n o init) fun b=>some (b.1,b.2)) n 0 (by omega) (by omega);simp only [Int.natCast_zero,drop_zero] at p s;rw [p.1,s];cases v:bad k l with
  |some e=>exact ⟨_,rfl,rfl⟩
  |none =>
   have hi:=p.2 v;have q:=zda n c l (by omega) (fun m j g f d=>some (⟨m,j,⟨g,f,d⟩⟩:C0)) n 0 va0 (by omega) (by omega);simp only [Int.natCast_zero,drop_zero] at q;unfold V0;rw [q];simp only [A3];obtain ⟨r,u,t⟩:=zyc n c (i:=l.length) (by omega) hi init;rw [u,t];simp only [A3];exact ⟨_,rfl,rfl⟩
def evs (vs:List (List Ev))(v:Int):List Ev:=if v<0 then [] else if (vs.length:Int)<=v then [] else vs.getD v.toNat []
theorem J7 {α β:Type}{l:List α}{i:Int}(d:α)(k:α->Option β)(a:0<=i)(h1:i<(l.length:Int)):idx l i k=k (l.getD i.toNat d):=by
 obtain ⟨m,rfl⟩:∃ m:Nat,i=m:=⟨i.toNat,by omega⟩;have hm:m<l.length:=by omega
 rw [Ac hm];simp_all
theorem zd3 (n:Nat)(vs:List (List Ev))(v:Int):Ld n ⟨vs⟩ v=some (evs vs v):=by
 unfold Ld evs;simp only [B3,Am,K2,length_map,A5,Av];by_cases h:v<0
 ·rw [if_pos h,if_pos h]
 ·rw [if_neg h,if_neg h];by_cases a:(vs.length:Int)<=v
  ·rw [if_pos a,if_pos a]
  ·rw [if_neg a,if_neg a,J7 [] _ (by omega) (by omega)]
theorem zhh (n:Nat)(vs:List (List Ev))(own:Int)(ev:Ev)(v:Int):Pi n ⟨vs⟩ own ev v=some (evs vs v):=by
 unfold Pi evs;simp only [B3,Am,Jp,length_map,A5,Av];by_cases h:v<0
 ·rw [if_pos h,if_pos h]
 ·rw [if_neg h,if_neg h];by_cases a:(vs.length:Int)<=v
  ·rw [if_pos a,if_pos a]
  ·rw [if_neg a,if_neg a,J7 [] _ (by omega) (by omega)]
theorem zuy (n:Nat)(ev:Ev)(f:Int)(a:0<=f):Mx n ev f=some (if (ev.fValues.length:Int)<=f then (va0,6) else (ev.fValues.getD f.toNat va0,0)):=by
 unfold Mx;simp only [length_map,A5];by_cases h:(ev.fValues.length:Int)<=f
 ·rw [if_pos h,if_pos h]
 ·rw [if_neg h,if_neg h,J7 va0 _ a (by omega)]
theorem zfr (n:Nat)(e:Exn)(a:0<=e.fField)(es:List Ev)(d:es.length<=1000000)(K K':List Va->Option (Va×Int))(c:∀ l,∃ r,K l=some r/\K' l=some r):∀ (m i:Nat) (acc:List Va),i<=es.length->es.length<m+i->acc.length=i ->
  ∃ r,Pp n e es K m ((i:Int),acc)=some r/\Oc n e es K' m ((i:Int),acc)=some r
 |0,i,acc,h1,f,_=>by omega
 |m+1,i,acc,h1,f,g=>by
  unfold Pp Oc;simp only [length_map,A5,Al];by_cases h:i<es.length
  ·rw [if_pos (by omega),if_pos (by omega)];simp only [Ac h];rw [zuy n _ _ a,A3];by_cases b:(es[i].fValues.length:Int)<=e.fField
   ·simp_all
   ·rw [if_neg b,if_neg b,J7 va0 _ a (by omega)];simp only [if_true];rw [Bq (by simp;omega) (by omega),Bq (by simp;omega) (by omega),Ag i (by omega)];exact zfr n e a es d K K' c m (i+1) _ (by omega) (by omega) (by simp;omega)
  ·rw [if_neg (by omega),if_neg (by omega)];exact c acc
theorem zr2 (h:ndP e=0):0<=arP e.fOp/\(e.fArgs.length:Int)=arP e.fOp/\(usF e.fOp=true->0<=e.fField)/\(e.fOp=4->1<=e.fKind/\e.fKind<=5):=by
 unfold ndP at h;grind
inductive Occ (i:Nat):Exn->Prop
 |here (e:Exn) (h:usV e.fOp=true) (hv:e.fVar=(i:Int)):Occ i e
 |sub (e y:Exn) (hy:Ar y∈e.fArgs) (h:Occ i y):Occ i e
theorem y4m (h:ndP e=0)(a:usV e.fOp=true):0<=e.fVar/\e.fVar<16:=by
 unfold ndP at h;grind
theorem y42 (n:Nat)(N:2000000<n)(e:Exn)(s:ndP e=0)(P:e.fArgs.length=0)(a b:List (List Ev))(E:∀ i:Nat,Occ i e->evs a (i:Int)=evs b (i:Int))(F:∀ v,(evs a v).length<=1000000)(own:Int)(ev:Ev) :
  ∃ r,Qr n e ⟨a⟩ own ev=some r/\Qa n ⟨b⟩ own ev e=some r:=by
 obtain ⟨h,g,I,M⟩:=zr2 s;by_cases o0:e.fOp=0
 ·unfold Qr Qa;simp only [zd3,zhh,A3,A5,o0,if_true];exact ⟨_,rfl,rfl⟩
 have H:usV e.fOp=true:=by
  unfold arP at h g;by_cases c:e.fOp<0
  ·rw [if_pos c] at h;omega
  by_cases q:12<e.fOp
  ·rw [if_neg c,if_pos q] at h;omega
  rw [if_neg c,if_neg q] at g;by_cases G:e.fOp<5
  ·unfold usV;grind
  ·rw [if_neg G] at g;split at g<;>omega
 have u:evs a e.fVar=evs b e.fVar:=by
  have D:=y4m s H;have:=E e.fVar.toNat (.here e H (by omega))
  rwa [show ((e.fVar.toNat:Nat):Int)=e.fVar by omega] at this
 unfold Qr Qa;simp only [zd3,zhh,<-u,A3,A5,Al,length_map];rw [if_neg o0,if_neg o0];by_cases o3:e.fOp=3
 ·simp_all
 rw [if_neg o3,if_neg o3];by_cases f:e.fOp=4
 ·rw [if_pos f,if_pos f];unfold X0;rw [zhh,<-u,A3];have t:=I (by rw [f];decide);have L:=M f;obtain ⟨r,z,w⟩:=zfr n e t (evs a e.fVar) (F _) (fun y=>bnd (R5 n e.fKind y e.fValue) fun m=>some (m.1,m.2)) (fun y=>bnd (Rs n e.fKind y e.fValue) fun o=>some (o.1,o.2)) (fun l=>by
   obtain ⟨r,z,w⟩:=p_of n (by omega) L l e.fValue;exact ⟨r,by rw [z,A3],by rw [w,A3]⟩) n 0 [] (by omega) (by have:=F e.fVar;omega) rfl
  simp only [Int.natCast_zero] at z w;rw [z,w];exact ⟨r,rfl,by rw [A3]⟩
 rw [if_neg f,if_neg f];have K:e.fOp=1\/e.fOp=2:=by
  unfold arP at h g;by_cases c:e.fOp<0
  ·rw [if_pos c] at h;omega
  by_cases q:12<e.fOp
  ·rw [if_neg c,if_pos q] at h;omega
  rw [if_neg c,if_neg q] at g;by_cases G:e.fOp<5
  ·omega
  ·omega
 simp only [B3,Am,K6,K5];unfold Xl;simp only [zd3,A3,A5,Al,length_map];have tail:∀ x:Ev,∃ r,(if e.fOp=2 then some ((⟨0,x.fTime,be⟩:Va),(0:Int)) else if (x.fValues.length:Int)<=e.fField then some (va0,6) else idx x.fValues e.fField fun C=>bnd (Gy n C) fun j=>if j=0 then (idx x.fValues e.fField fun B=>some (B,0)) else some (va0,j))=some r /\
   (if e.fOp=2 then some ((⟨0,x.fTime,be⟩:Va),(0:Int)) else bnd (Mx n (⟨x.fSource,x.fSeq,x.fType,x.fTime,x.fValues⟩:A8) e.fField) fun d=>if d.2=0 then (bnd (H8 n d.1) fun p=>if p=0 then some (d.1,0) else some (va0,p)) else if d.2=0 then some (d.1,0) else some (va0,d.2))=some r:=fun x=>by
  by_cases o2:e.fOp=2
  ·simp_all
  rw [if_neg o2,if_neg o2];have J:e.fOp=1:=by omega
  have t:=I (by rw [J];decide);rw [zuy n _ _ t,A3];by_cases D:(x.fValues.length:Int)<=e.fField
  ·simp only [D,if_true];exact ⟨_,rfl,rfl⟩
  ·simp only [D,if_false];rw [J7 va0 _ t (by omega),J7 va0 _ t (by omega),zya,p_vc,A3];simp only [if_true,A3];split;all_goals simp_all
 by_cases A:e.fVar=own
 ·rw [if_pos A,if_pos A,A3];simp only [Av];exact tail ev
 ·rw [if_neg A,if_neg A];by_cases O:(evs a e.fVar).length=0
  ·rw [if_pos (by omega),if_pos (by omega),A3];simp only [Az];exact ⟨_,rfl,rfl⟩
  ·rw [if_neg (by omega),if_neg (by omega),Cy _ (by have:=F e.fVar;omega),J7 ev _ (by omega) (by omega),J7 ev _ (by omega) (by omega),A3];simp only [Av];exact tail _
theorem zsk (n:Nat)(op:Int)(h:5<=op/\op<=12):Ta n op=some (if op<9 then 0 else if op=9 then -1 else 1):=by
 have:op=5\/op=6\/op=7\/op=8\/op=9\/op=10\/op=11\/op=12:=by omega
 unfold Ta;simp only [B3,Am,Gb,Hq,A5];grind
theorem zal (n:Nat)(op:Int)(h:5<=op/\op<=12)(a:List Int)(p:a.length<=4000000):∀ (m i:Nat),i<=a.length->a.length<m+i->∃ r,Ew n a op (some 0) m (i:Int)=some r/\G3 n a op (some 0) m (i:Int)=some r/\(r=0\/r=9)
 |0,i,h1,s=>by omega
 |m+1,i,h1,s=>by
  unfold Ew G3;simp only [length_map,A5,Al,zsk n op h,A3,B3,Am,Fj,H6,Iv];by_cases hi:i<a.length
  ·have b:((i:Nat):Int)<((a.length:Nat):Int):=by omega
   simp only [b,if_true];obtain ⟨r,f,d,c⟩:=zal n op h a p m (i+1) (by omega) (by omega);rw [Ag i (by omega),f,d];have g:∀ (K:Int->Option Int),idx a 0 K=K (a.headD 0):=fun K=>by
    have:=Ac (l:=a) (i:=0) (by omega) K;simp only [Int.natCast_zero] at this;rw [this];congr 1;cases a with
    |nil=>simp at hi
    |cons x q=>rfl
   have j:∀ (K:Int->Option Int),idx a (i:Int) K=K a[i]:=fun K=>Ac hi K
   simp only [g,j];generalize a[i]=k;generalize a.headD 0=o;have:op=5\/op=6\/op=7\/op=8\/op=9\/op=10\/op=11\/op=12:=by omega
   clear f d g j h;rcases this with rfl|rfl|rfl|rfl|rfl|rfl|rfl|rfl
   all_goals
    simp [Au];first
    |(by_cases q:k=0<;>simp [q,c])
    |(by_cases q:k=1<;>simp [q,c])
    |(by_cases q:k=o<;>simp [q,c])
  ·have b:¬((i:Nat):Int)<((a.length:Nat):Int):=by omega
   simp only [b,if_false];exact ⟨0,rfl,rfl,Or.inl rfl⟩
theorem zuv (n:Nat)(b:Bool):Dr n b=some (if b=true then ⟨1,1,be⟩ else ⟨1,0,be⟩):=by
 unfold Dr Y6;cases b<;>simp [Au,A3]
theorem zo5 (n:Nat)(b:Bool):Dp n b=some (if b=true then ⟨1,1,be⟩ else ⟨1,0,be⟩):=by
 unfold Dp;cases b<;>simp [Au]
section
variable {α β:Type}
theorem zhl {len:Nat}(h:0<len)(k:Nat->Option β):nat 0 len k=k 0:=by have:=Co (i:=0) h k;simpa using this
theorem zr3 {len:Nat}(h:1<len)(k:Nat->Option β):nat 1 len k=k 1:=by have:=Co (i:=1) h k;simpa using this
theorem y2d {x y:α}{l:List α}(k:α->Option β):idx (x::y::l) 1 k=k y:=by have:=Ac (l:=x::y::l) (i:=1) (by simp) k;simpa using this
end
theorem w21:IntKind.wrap .i64 (((2:Nat):Int)-1)=1:=by decide
theorem w11:IntKind.wrap .i64 (((1:Nat):Int)-1)=0:=by decide
theorem zyp (n:Nat)(op:Int)(h:5<=op/\op<=11)(x y:Va):∃ v,Lp n op [x,y]=some v /\
  (cnd (decide (op=9))
    (nat 0 (List.map Af [x,y]).length fun g=>elt [x,y] g fun c=>nat 1 (List.map Af [x,y]).length fun f=>elt [x,y] f fun b =>
      bnd (Dr n (decide (c.fKind=b.fKind) && (decide (c.fNum=b.fNum) && ((c.fText.toList == b.fText.toList) && true)))) fun d=>some (d,(0:Int)))
  <| natc op 5 (bnd (Uq n x.fNum y.fNum) fun a=>some (a,0))
  <| natc op 6 (bnd (Up n x.fNum y.fNum) fun a=>some (a,0))
  <| natc op 7 (bnd (Uo n x.fNum y.fNum) fun a=>some (a,0))
  <| natc op 8 (bnd (Un n x.fNum y.fNum) fun a=>some (a,0))
  <| natc op 10 (bnd (Um n x.fNum y.fNum) fun a=>some (a,0))
  <| natc op 11 (bnd (Ul n x.fNum y.fNum) fun a=>some (a,0))
  <| natc op 12 (bnd (M5 n x.fNum y.fNum) fun a=>some (a,0))
  <| none)=some (v,0):=by
 have:op=5\/op=6\/op=7\/op=8\/op=9\/op=10\/op=11:=by omega
 have o:(List.map Af [x,y]).length=2:=rfl;have m:∀ k:Nat->Option (Va×Int),nat 0 2 k=k 0:=fun k=>zhl (by omega) k
 have j:∀ k:Nat->Option (Va×Int),nat 1 2 k=k 1:=fun k=>zr3 (by omega) k
 have r:∀ k:Va->Option (Va×Int),elt [x,y] 0 k=k x:=fun k=>Cz (by simp) k
 have p:∀ k:Va->Option (Va×Int),elt [x,y] 1 k=k y:=fun k=>Cz (by simp) k
 unfold Lp Uq Up Uo Un Um Ul M5 Ur;simp only [o,m,j,r,p,zhr,y2d,A5,Nj,zuv,zo5,A3,B3,Am,Lk,Lj,Kb,Ka];rcases this with rfl|rfl|rfl|rfl|rfl|rfl|rfl
 ·exact ⟨_,rfl,rfl⟩
 ·exact ⟨_,rfl,rfl⟩
 ·exact ⟨_,rfl,rfl⟩
 ·exact ⟨_,rfl,rfl⟩
 ·exact ⟨_,rfl,rfl⟩
 ·by_cases q:x.fNum=1
  ·simp [q,A3]
  ·simp [q,A3]
 ·by_cases q:x.fNum=1
  ·simp [q,A3]
  ·simp [q,A3]
theorem zyq (n:Nat)(x:Va):∃ v,Lp n 12 [x]=some v/\M5 n x.fNum x.fNum=some v:=by
 unfold Lp M5;simp only [zhr,A5,zuv,zo5,A3];exact ⟨_,rfl,rfl⟩
theorem ETrO.pos {s:Nat}(h:ETrO s e):1<=s:=by cases h;omega
theorem zl8 (n:Nat)(l:List (Nat×Exn))(e:Exn)(f:e.fArgs=l.map (fun p=>Ar p.2))(q:l.length<=4000000)(a b:List (List Ev))(own:Int)(ev:Ev)
  (d:∀ p∈l,∃ r,H0 n p.2 ⟨a⟩ own ev=some r/\Gw n ⟨b⟩ own ev p.2=some r) (K K':List Va->List Int->Option (Va×Int)) (s:∀ vs,vs.length=l.length->∃ r,K vs (vs.map (·.fKind))=some r/\K' vs (vs.map (·.fKind))=some r) :
  ∀ (m k:Nat) (vs:List Va),k<=l.length->l.length<m+k->vs.length=k->∃ r,Pq n (H0 n) ev own ⟨a⟩ e K m ((k:Int),vs,vs.map (·.fKind))=some r/\Ow n (Gw n) e ev own ⟨b⟩ K' m ((k:Int),vs,vs.map (·.fKind))=some r
 |0,k,vs,h1,t,_=>by omega
 |m+1,k,vs,h1,t,u=>by
  unfold Pq Ow;simp only [f,length_map,A5,Al];by_cases h:k<l.length
  ·have c:((k:Nat):Int)<((l.length:Nat):Int):=by omega
   simp only [c,if_true];rw [G9 h,G9 h];obtain ⟨⟨v,x⟩,j,g⟩:=d l[k] (getElem_mem h);rw [j,g,A3,A3];by_cases o:x=0
   ·simp only [o,if_true];rw [Bq (by simp;omega) (by omega),Bq (by simp;omega) (by omega),Bq (by simp;omega) (by omega),Bq (by simp;omega) (by omega),Ag k (by omega)];have:=zl8 n l e f q a b own ev d K K' s m (k+1) (vs++[v]) (by omega) (by omega) (by simp;omega);simpa using this
   simp_all
  grind
theorem y47 (a b:List (List Ev))(Q:∀ v,(evs a v).length<=1000000)(own:Int)(ev:Ev):∀ (s:Nat) (e:Exn),ETrO s e->(∀ i:Nat,Occ i e->evs a (i:Int)=evs b (i:Int))->s<=4000000->∀ n,s+5000000<n->∃ r,H0 n e ⟨a⟩ own ev=some r/\Gw n ⟨b⟩ own ev e=some r:=by
 intro s
 induction s using Nat.strongRecOn with
 |ind s IH =>
  intro e N j U n W;cases N with
  |mk l e g h G =>
   obtain ⟨d,rfl⟩:∃ d,n=d + 1:=⟨n-1,by omega⟩;have X:l.length<=(l.map (·.1)).sum:=S5 (l:=l) (fun p q=>(h p q).pos);obtain ⟨H,D,Z,Y⟩:=zr2 g;simp only [H0,Gw,length_map,A5,Al];by_cases R:e.fArgs.length=0
   ·have:((e.fArgs.length:Nat):Int)=0:=by omega
    simp only [this,if_true];obtain ⟨r,o,m⟩:=y42 d (by omega) e g R a b j Q own ev;rw [o,m,A3];exact ⟨_,rfl,rfl⟩
   ·have:¬((e.fArgs.length:Nat):Int)=0:=by omega
    simp only [this,if_false];have P:e.fArgs.length=l.length:=by rw [G,length_map]
    have c:5<=e.fOp/\e.fOp<=12/\(e.fOp=12->l.length=1)/\(e.fOp≠12->l.length=2):=by
     unfold arP at H D;by_cases F:e.fOp<0
     ·rw [if_pos F] at H;omega
     by_cases J:12<e.fOp
     ·omega
     rw [if_neg F,if_neg J] at D;by_cases I:e.fOp<5
     ·rw [if_pos I] at D;omega
     ·omega
    refine zl8 d l e G (by omega) a b own ev (fun p q=>by
     have:=J9 q;exact IH p.1 (by omega) p.2 (h p q) (fun i hi=>j i (.sub e p.2 (by grind) hi)) (by omega) d (by omega)) _ _ (fun vs M=>?_) d 0 [] (by omega) (by omega) rfl
    obtain ⟨r,o,m,T⟩:=zal d e.fOp ⟨c.1,c.2.1⟩ (vs.map (·.fKind)) (by rw [length_map];omega) d 0 (by omega) (by rw [length_map];omega);simp only [Int.natCast_zero] at o m;unfold Ww Xz;rw [o,m,A3,A3];by_cases O:r=0
    ·simp only [O,if_true];by_cases f:e.fOp=12
     ·have C:vs.length=1:=by have:=c.2.2.1 f;omega
      match vs,C with
      |[x],_ =>
       obtain ⟨v,u,t⟩:=zyq d x;rw [f,u,A3];have w:∀ k:Nat->Option (Va×Int),nat 0 1 k=k 0:=fun k=>zhl (by omega) k
       have E:∀ k:Va->Option (Va×Int),elt [x] 0 k=k x:=fun k=>Cz (by simp) k
       have A:∀ z:Option (Va×Int),ltx 0 1 z=z:=fun z=>Wj (by omega) z
       simp only [Nj,length_cons,length_nil,Nat.zero_add,w11,w,E,A,t,A3];exact ⟨_,rfl,rfl⟩
     ·have B:vs.length=2:=by have:=c.2.2.2 f;omega
      match vs,B with
      |[x,y],_ =>
       obtain ⟨v,u,t⟩:=zyp d e.fOp ⟨c.1,by omega⟩ x y;rw [u,A3];refine ⟨(v,0),rfl,?_⟩;rw [<-t];have w:∀ k:Nat->Option (Va×Int),nat 0 2 k=k 0:=fun k=>zhl (by omega) k
       have K:∀ k:Nat->Option (Va×Int),nat 1 2 k=k 1:=fun k=>zr3 (by omega) k
       have E:∀ k:Va->Option (Va×Int),elt [x,y] 0 k=k x:=fun k=>Cz (by simp) k
       have S:∀ k:Va->Option (Va×Int),elt [x,y] 1 k=k y:=fun k=>Cz (by simp) k
       have A:∀ z:Option (Va×Int),ltx 0 2 z=z:=fun z=>Wj (by omega) z
       have L:∀ z:Option (Va×Int),ltx 1 2 z=z:=fun z=>Wj (by omega) z
       simp only [Nj,A5,length_map,length_cons,length_nil,Nat.zero_add,Nat.reduceAdd,w21,w,K,E,S,A,L]
    simp_all
theorem y1c (a b:List (List Ev))(o:∀ v,(evs a v).length<=1000000)(own:Int)(ev:Ev)(s:Nat)(e:Exn)(f:∀ i:Nat,Occ i e->evs a (i:Int)=evs b (i:Int))(m:ETr s e)(g:s<=4000000)(n:Nat)(u:10000000<n) :
  ∃ r,Fw n e ⟨a⟩ own ev=some r/\J4 n e ⟨b⟩ own ev=some r:=by
 obtain ⟨c,t,q,p⟩:=zv4 s e m g n (by omega);unfold Fw J4 Xm Y8;rw [t,q];simp only [A3,A5,Al,zuv,zo5,B3,Am,Kc,Mm];by_cases d:c=0
 ·simp only [d,if_true];obtain ⟨r,j,h⟩:=y47 a b o own ev s e (p d) f g n (by omega);rw [j,h];simp only [A3];split;all_goals simp_all
 ·simp only [d,if_false,A3];exact ⟨_,rfl,rfl⟩
end Go.Proofs.YtidhlpjgifoneaaGreat
