/- Layer 8, plainly. -/
import Derived.Test.YtidhlpjgifoneaaGreatK29
set_option linter.unusedVariables false
set_option linter.unusedSimpArgs false
namespace Go.Proofs.YtidhlpjgifoneaaGreat
open Go.RowKit List
open List renaming length_map->aA,getElem_mem->aD,take_succ_eq_append_getElem->aE,drop_eq_nil_of_le->aF
open IntKind renaming wrap->aB
open Int renaming natCast_zero->aC
open Or renaming inl->aH,inr->aK
theorem zp4 (n:Nat)(e:Exn):Vn n e=some (if vcP e.fValue=0 then (if decide (e.fOp=4) && (!(suP e.fKind e.fValue) || (decide (e.fKind=1) && !decide (e.fValue=va0))) then 9 else 0) else vcP e.fValue):=by
 unfold Vn;rw [p_vc,A3];simp only [A5,Aj,y2q,A3,Ax,Am,H9,Zx];obtain ⟨op,args,var,field,kind,val⟩:=e;simp only;by_cases h:op=4
 ·subst h;simp [Aw];grind
 ·simp [h,Aw];split<;>rfl
theorem y5e (n:Nat)(e:Exn):Wb n e=some (ndP e):=by
 unfold Wb;rw [y39,A3,y1f];simp only [A3,aA,A5,Aj,zp4,Ax,Am,E7,Ja,N6,N5,Cb,Zx];unfold ndP;by_cases a:arP e.fOp<0
 ·rw [if_pos a];have:e.fOp<0\/12<e.fOp:=by
   unfold arP at a;by_cases h1:e.fOp<0
   ·exact aH h1
   ·omega
  rcases this with h|h
  ·rw [if_pos h,Aq]
  ·by_cases d:e.fOp<0
   ·rw [if_pos d,Aq]
   ·rw [if_neg d,if_pos h,Aq]
 have c:¬e.fOp<0/\¬12<e.fOp:=by
  unfold arP at a;refine ⟨fun h=>a (by rw [if_pos h];decide),fun h=>a ?_⟩;by_cases h1:e.fOp<0
  ·rw [if_pos h1];decide
  ·rw [if_neg h1,if_pos h];decide
 rw [if_neg c.1,if_neg c.2,if_neg a,Ap];by_cases b:(e.fArgs.length:Int)=arP e.fOp;rotate_left
 ·rw [if_neg b,if_pos b]
 rw [if_pos b,if_neg (show ¬((e.fArgs.length:Int)≠arP e.fOp) from fun h=>h b)];have f:=zsu e.fOp a;obtain ⟨op,args,var,field,kind,val⟩:=e;simp only at *;clear b a c;rcases f with rfl|rfl|rfl|rfl|rfl|⟨h1,m,j,g⟩
 ·simp [us0,Aw];grind
 ·simp [us1,Aw];grind
 ·simp [us2,Aw];grind
 ·simp [us3,Aw];grind
 ·simp [us4,Aw];grind
 ·simp [h1,m,j,g,Aw];grind
inductive ETr:Nat->Exn->Prop
 |mk (l:List (Nat×Exn)) (e:Exn) (h:∀ p∈l,ETr p.1 p.2) (ha:e.fArgs=l.map (fun p=>Av p.2)):ETr (1+(l.map (·.1)).sum) e
inductive ETrO:Nat->Exn->Prop
 |mk (l:List (Nat×Exn)) (e:Exn) (hn:ndP e=0) (h:∀ p∈l,ETrO p.1 p.2) (ha:e.fArgs=l.map (fun p=>Av p.2)):ETrO (1+(l.map (·.1)).sum) e
variable {e:Exn}
theorem ETr.pos {s:Nat}(h:ETr s e):1<=s:=by cases h;omega
variable {l:List (Nat×Exn)}
theorem Jj {p:Nat×Exn}(h:p∈l):p.1<=(l.map (·.1)).sum:=by
 induction l with
 |nil=>cases h
 |cons x l ih =>
  grind
theorem Sm (h:∀ p∈l,1<=p.1):l.length<=(l.map (·.1)).sum:=by
 induction l with
 |nil=>simp
 |cons x l ih =>
  grind
def preS (l:List (Nat×Exn))(k:Nat):Nat:=((l.take k).map (·.1)).sum
theorem zl1 {k:Nat}(h:k<l.length):preS l (k+1)=preS l k+l[k].1:=by
 unfold preS;rw [aE h,map_append,sum_append];simp_all
theorem zr0 {k:Nat}(h:l.length<=k):preS l k=(l.map (·.1)).sum:=by unfold preS;rw [take_of_length_le h]
theorem zvh (l:List (Nat×Exn))(k:Nat):preS l k<=(l.map (·.1)).sum:=by
 unfold preS;conv=>rhs;rw [<-take_append_drop k l]
 grind
theorem G8 {β:Type}{k:Nat}(h:k<l.length)(K:Exn->Option β):idxD C3 (l.map fun p=>Av p.2) (k:Int) K=K l[k].2:=by
 unfold idxD;rw [if_pos (by omega)];simp only [Int.toNat_natCast,getElem?_map,getElem?_eq_getElem h,Option.map_some,Mw]
theorem zgj (most:Int)(hm:0<=most)(a:most<=1000000)(n:Nat)(l:List (Nat×Exn))(e:Exn)(f:e.fArgs=l.map (fun p=>Av p.2))(j:(l.map (·.1)).sum<=4000000)(r:l.length<=4000000)
  (b:∀ p∈l,∃ c:Int,Fv n p.2 most=some c/\1<=c/\c<=p.1/\(c<=most->c=p.1)) :
  ∀ (m k:Nat) (v:Int),k<=l.length->l.length<m+k->1<=v->v<=1+preS l k->(v<=most->v=1+preS l k) ->
   ∃ c:Int,I5 n (Fv n) most e (fun y=>some y) m (v,(k:Int))=some c/\1<=c/\c<=1+(l.map (·.1)).sum/\(c<=most->c=1+(l.map (·.1)).sum)
 |0,k,v,h1,t,_,_,_=>by omega
 |m+1,k,v,h1,t,A,z,s=>by
  unfold I5;simp only [Ax,Am,Kx,f,aA,A5,Aq];have q:=zvh l k;by_cases h:k<l.length
  ·rw [if_pos (by omega)];by_cases d:v<=most
   ·rw [if_pos d,G8 h];obtain ⟨c,w,C,B,u⟩:=b l[k] (aD h);rw [w,A3,Ae k (by omega),Cq _ (by have:=Jj (aD h);omega)];have o:=zl1 h;have g:=s d;exact zgj most hm a n l e f j r b m (k+1) (v+c) (by omega) (by omega) (by omega) (by omega) (fun x=>by have:=u (by omega);omega)
   grind
  ·rw [if_neg (by omega)];have o:=zr0 (l:=l) (k:=k) (by omega);grind
theorem zwe (most:Int)(hm:0<=most)(d:most<=1000000):∀ (s:Nat) (e:Exn),ETr s e->s<=4000000->∀ n,s+1<n->∃ c:Int,Fv n e most=some c/\1<=c/\c<=s/\(c<=most->c=s):=by
 intro s
 induction s using Nat.strongRecOn with
 |ind s IH =>
  intro e f j n m;cases f with
  |mk l e h g =>
   obtain ⟨a,rfl⟩:∃ a,n=a + 1:=⟨n-1,by omega⟩;have o:=Sm (l:=l) (fun p b=>(h p b).pos);simp only [Fv];obtain ⟨c,u,t,r,q⟩:=zgj most hm d a l e g (by omega) (by omega) (fun p b=>by
    have:=Jj b;exact IH p.1 (by omega) p.2 (h p b) (by omega) a (by omega)) a 0 1 (by omega) (by omega) (by omega) (by omega) (fun _=>by simp [preS])
   grind
theorem zl5 (n:Nat)(l:List (Nat×Exn))(e:Exn)(f:e.fArgs=l.map (fun p=>Av p.2))(o:(l.map (·.1)).sum<=4000000)(r:l.length<=4000000)
  (a:∀ p∈l,∃ d:Int,Fu n p.2=some d/\Hf n p.2=some ((p.1:Int),d)/\0<=d/\d<=p.1) :
  ∀ (m k:Nat) (d:Int),k<=l.length->l.length<m+k->0<=d->d<=preS l k ->
   ∃ D:Int,Pp n (Fu n) e (fun y=>some (aB .i64 (y+1))) m (d,(k:Int))=some (D+1)/\S8 n (Hf n) e (fun j g=>some (j,(aB .i64 (g+1)))) m (((1+preS l k:Nat):Int),d,(k:Int))=some (((1+(l.map (·.1)).sum:Nat):Int),D+1)/\0<=D/\D<=(l.map (·.1)).sum
 |0,k,d,h1,t,_,_=>by omega
 |m+1,k,d,h1,t,s,x=>by
  unfold Pp S8;simp only [f,aA,A5];have q:=zvh l k;by_cases h:k<l.length
  ·rw [if_pos (by omega),if_pos (by omega),G8 h,G8 h];obtain ⟨c,w,v,A,z⟩:=a l[k] (aD h);have b:=zl1 h;have hm:=Jj (aD h);rw [w,v,A3,A3,Ae k (by omega),Cq _ (by omega)];have u:(((1+preS l k:Nat):Int)+((l[k].1:Nat):Int))=((1+preS l (k+1):Nat):Int):=by omega
   simp only;rw [u];exact zl5 n l e f o r a m (k+1) (max d c) (by omega) (by omega) (by omega) (by omega)
  ·rw [if_neg (by omega),if_neg (by omega)];have b:=zr0 (l:=l) (k:=k) (by omega);refine ⟨d,by rw [Cq _ (by omega)],?_,s,by omega⟩;rw [Cq _ (by omega),b]
theorem y1h:∀ (s:Nat) (e:Exn),ETr s e->s<=4000000->∀ n,s+1<n->∃ d:Int,Fu n e=some d/\Hf n e=some ((s:Int),d)/\0<=d/\d<=s:=by
 intro s
 induction s using Nat.strongRecOn with
 |ind s IH =>
  intro e c m n o;cases c with
  |mk l e h f =>
   obtain ⟨a,rfl⟩:∃ a,n=a + 1:=⟨n-1,by omega⟩;have q:=Sm (l:=l) (fun p b=>(h p b).pos);simp only [Fu,Hf];obtain ⟨D,j,g,t,r⟩:=zl5 a l e f (by omega) (by omega) (fun p b=>by
    have:=Jj b;exact IH p.1 (by omega) p.2 (h p b) (by omega) a (by omega)) a 0 0 (by omega) (by omega) (by omega) (by simp)
   exact ⟨D+1,j,g,by omega,by push_cast;omega⟩
theorem zg6 (n:Nat)(l:List (Nat×Exn))(e:Exn)(c:e.fArgs=l.map (fun p=>Av p.2))(j:l.length<=4000000)
  (a:∀ p∈l,∃ r:Int,H3 n p.2=some r/\Hd n p.2=some r/\(r=0->ETrO p.1 p.2)) :
  ∀ (m k:Nat),k<=l.length->l.length<m+k->(∀ p∈l.take k,ETrO p.1 p.2) ->
   ∃ r:Int,Po n (H3 n) e (some 0) m (k:Int)=some r/\S3 n (Hd n) e (some 0) m (k:Int)=some r/\(r=0->∀ p∈l,ETrO p.1 p.2)
 |0,k,h1,o,_=>by omega
 |m+1,k,h1,o,s=>by
  unfold Po S3;simp only [c,aA,A5,Aj];by_cases h:k<l.length
  ·rw [if_pos (by omega),if_pos (by omega),G8 h,G8 h];obtain ⟨r,f,d,q⟩:=a l[k] (aD h);rw [f,d,A3,A3,Ae k (by omega)];by_cases b:r=0
   ·rw [if_pos b,if_pos b];refine zg6 n l e c j a m (k+1) (by omega) (by omega) (fun p g=>?_);rw [aE h,mem_append,mem_singleton] at g;grind
   simp_all
  ·rw [if_neg (by omega),if_neg (by omega)];grind
theorem y2o:∀ (s:Nat) (e:Exn),ETr s e->s<=4000000->∀ n,s+1<n->∃ r:Int,H3 n e=some r/\Hd n e=some r/\(r=0->ETrO s e):=by
 intro s
 induction s using Nat.strongRecOn with
 |ind s IH =>
  intro e m q n t;cases m with
  |mk l e h d =>
   obtain ⟨b,rfl⟩:∃ b,n=b + 1:=⟨n-1,by omega⟩;have u:=Sm (l:=l) (fun p c=>(h p c).pos);simp only [H3,Hd,y2r,y5e,A3,Aj,A5];by_cases a:ndP e=0
   ·rw [if_pos a,if_pos a];obtain ⟨r,j,g,f⟩:=zg6 b l e d (by omega) (fun p c=>by
     have:=Jj c;exact IH p.1 (by omega) p.2 (h p c) (by omega) b (by omega)) b 0 (by omega) (by omega) (by simp)
    exact ⟨r,j,g,fun o=>.mk l e a (f o) d⟩
   simp_all
theorem zwh (s:Nat)(e:Exn)(a:ETr s e)(b:s<=4000000)(n:Nat)(f:s+1<n):∃ r:Int,Fw n e=some r/\He n e=some r/\(r=0->ETrO s e):=by
 obtain ⟨c,o,w,v,u⟩:=zwe 64 (by omega) (by omega) s e a b n f;obtain ⟨d,m,j,t,q⟩:=y1h s e a b n f;obtain ⟨r,h,g,p⟩:=y2o s e a b n f;unfold Fw He;rw [o,m,j,h,g];simp only [A3,A5];grind
def wrP (k:Int)(v:Va):Int:=if vcP v=0 then (if suP k v=true then 0 else 9) else vcP v
theorem zou (n:Nat)(k:Int)(d:1<=k/\k<=5)(v:Va):Mu n k v=some (wrP k v):=by
 unfold Mu Rw wrP suP;simp only [p_vc,A3,A5,Aj,Ax,Am,H8];by_cases h:vcP v=0
 ·rw [if_pos h,if_pos h];by_cases a:v.fKind=0
  ·simp [a,Aw,A3]
  ·by_cases h1:k=1
   ·simp [a,h1,Aw,A3]
   ·by_cases b:k=2
    ·simp [a,h1,b,Aw,A3]
    ·by_cases c:k=3
     ·simp [a,h1,b,c,Aw,A3]
     ·have:k=4\/k=5:=by omega
      rcases this with rfl|rfl<;>simp [a,Aw,A3]
 ·rw [if_neg h,if_neg h]
theorem zr5 (n:Nat)(k:Int)(b:1<=k/\k<=5)(v:Va):Qx n k v=some (wrP k v):=by
 unfold Qx wrP;simp only [zzo,zht,A3,A5,Aj];have a:decide (k=0)=false:=by rw [decide_eq_false];omega
 simp only [a,Bool.false_or];by_cases h:vcP v=0
 ·rw [if_pos h,if_pos h];cases suP k v<;>simp [Aw]
 ·rw [if_neg h,if_neg h]
def comb (k:Int)(a b:Va):Va:=if k=1 then ⟨0,aB .i64 (a.fNum+b.fNum),be⟩ else if k=2 then ⟨0,min a.fNum b.fNum,be⟩ else if k=3 then ⟨0,max a.fNum b.fNum,be⟩ else if k=4 then a else b
theorem y2w (n:Nat)(k:Int)(c:1<=k/\k<=5)(a b:Va):Tq n k a b=some (comb k a b):=by
 unfold Tq comb;simp only [A5];grind
theorem y5s (n:Nat)(k:Int)(c:1<=k/\k<=5)(a b:Va):V6 n k a b=some (comb k a b):=by
 unfold V6 comb;simp only [Ny,Ce,A3,Y7,Y6,Y5,Y4,Y3,Y2];grind
def AInv (k:Int)(i:Nat)(V:Va):Prop:=if i=0 then V=va0 else if k=1 then V.fKind=0/\V.fText=be/\-((i:Int)*1099511627776)<=V.fNum/\V.fNum<=(i:Int)*1099511627776 else vcP V=0/\suP k V=true
variable {k:Int}{i:Nat}{V:Va}
theorem AInv.check (n:Nat)(g:1<=k/\k<=5)(hi:i<=4096)(h:AInv k i V):Qz n ⟨k,(i:Int),V⟩=some 0/\Vm n ⟨k,(i:Int),V⟩=some 0:=by
 have w1:aB .i64 ((i:Int)*1099511627776)=(i:Int)*1099511627776:=Cq _ (by omega);have m:aB .i64 (0-(i:Int)*1099511627776)=-((i:Int)*1099511627776):=by rw [Cq _ (by omega)];omega
 have o:¬k=0:=by omega
 have ka:(0:Int)<=k:=by omega
 have q:¬(i:Int)<0:=by omega
 have p:¬4096<(i:Int):=by omega
 unfold Qz Vm Rb Rx;simp only [A3,A5,Aj,Ax,Am,Ia,J1,L0,Kz,Gl,Ky,Me,Zx,p_vc,zzo,w1,m,ka,g.2,if_true,decide_true,Ap,q,p,if_false,decide_false,Aq,o,Nl];unfold AInv at h;by_cases a:i=0
 ·rw [if_pos a] at h;subst a;subst h;simp [Aw]
 ·rw [if_neg a] at h;have c:¬(i:Int)=0:=by omega
  simp only [c,if_false,decide_false,Aq];by_cases d:k=1
  ·grind
  ·rw [if_neg d] at h;obtain ⟨h1,j⟩:=h;simp only [d,if_false,h1,zht,j,A3,if_true,Bool.or_true];refine ⟨by simp [Aw],?_⟩;have:=zou n k g V;unfold Mu wrP at this;rw [p_vc,A3] at this;simp only [h1,j,if_true,decide_true,Bool.not_true,Aq] at this;cases f:Rw n k V with
   |none=>rw [f] at this;unfold bnd at this;cases this
   |some b =>
    rw [f,A3] at this;cases b with
    |true=>simp [A3,Aw]
    |false=>simp [Aw] at this
def Fg (k:Int)(i:Nat)(V x:Va):Va:=if i=0 then x else comb k V x
theorem AInv.step (w:1<=k/\k<=5)(hi:i<=4096){x:Va}(h:AInv k i V)(u:wrP k x=0):AInv k (i+1) (Fg k i V x):=by
 have s:vcP x=0/\suP k x=true:=by
  unfold wrP at u;by_cases h1:vcP x=0
  ·simp_all
  ·omega
 have p:x.fKind=0->x.fText=be/\-1099511627776<=x.fNum/\x.fNum<=1099511627776:=fun v=>by
  have:=s.1;unfold vcP at this;grind
 have o:k=1\/k=2\/k=3->x.fKind=0:=fun h=>by
  have:=s.2;simp only [suP,Bool.or_eq_true,decide_eq_true_eq] at this;omega
 have nv:∀ q:Int,-1099511627776<=q->q<=1099511627776->vcP ⟨0,q,be⟩=0:=fun q h1 r=>by
  unfold vcP;grind
 unfold AInv at h ⊢;rw [if_neg (by omega)];unfold Fg;by_cases g:i=0
 ·simp_all
 ·rw [if_neg g] at h;rw [if_neg g];by_cases f:k=1
  ·rw [if_pos f] at h ⊢;obtain ⟨h1,r,z,y⟩:=h;obtain ⟨a,b,c⟩:=p (o (aH f));unfold comb;rw [if_pos f];rw [Cq _ (by omega)];grind
  ·rw [if_neg f] at h ⊢;obtain ⟨h1,r⟩:=h;have t:V.fKind=0->-1099511627776<=V.fNum/\V.fNum<=1099511627776:=fun v=>by
    unfold vcP at h1;omega
   have j:k=2\/k=3->V.fKind=0:=fun h=>by
    simp only [suP,Bool.or_eq_true,decide_eq_true_eq] at r;omega
   unfold comb;rw [if_neg f];by_cases m:k=2
   ·rw [if_pos m];obtain ⟨a,b,c⟩:=p (o (aK (aH m)));obtain ⟨d,e⟩:=t (j (aH m));exact ⟨nv _ (by omega) (by omega),by simp [suP]⟩
   ·rw [if_neg m];by_cases n:k=3
    ·rw [if_pos n];obtain ⟨a,b,c⟩:=p (o (aK (aK n)));obtain ⟨d,e⟩:=t (j (aK n));exact ⟨nv _ (by omega) (by omega),by simp [suP]⟩
    grind
theorem y5c (n:Nat)(b:1<=k/\k<=5)(hi:i<4096)(h:AInv k i V)(x:Va):Ut n ⟨k,(i:Int),V⟩ x=some (if wrP k x=0 then (⟨k,((i+1:Nat):Int),Fg k i V x⟩,0) else (⟨0,0,⟨0,0,be⟩⟩,wrP k x)):=by
 unfold Ut;rw [(h.check n b (by omega)).1,A3];simp only [zr5 n k b,A3,A5,Aj,y2w n k b,Ax,Am,Io,if_true];rw [Ae i (by omega)];by_cases a:wrP k x=0
 ·rw [if_pos a,if_pos a,if_neg (by omega),if_neg (by omega)];unfold Fg;by_cases c:i=0;all_goals simp_all
 ·rw [if_neg a,if_neg a]
def bad (k:Int):List Va->Option Int
 |[]=>none
 |x::l=>if wrP k x=0 then bad k l else some (wrP k x)
def fV (k:Int):Nat->Va->List Va->Va |_,V,[]=>V |i,V,x::l=>fV k (i+1) (Fg k i V x) l
theorem zr6 (n:Nat)(a:1<=k/\k<=5)(init:Va)(l:List Va)(d:l.length<=4096)(K:Int->Int->Int->Int->ByteArray->Option (Va×Int)):∀ (m i:Nat) (V:Va),i<=l.length->l.length<m+i->AInv k i V ->
  Qy n init l K m ((i:Int),k,(i:Int),V.fKind,V.fNum,V.fText)=(match bad k (l.drop i) with|some e=>some (va0,e)|none=>K k (l.length:Int) (fV k i V (l.drop i)).fKind (fV k i V (l.drop i)).fNum (fV k i V (l.drop i)).fText)/\(bad k (l.drop i)=none->AInv k l.length (fV k i V (l.drop i)))
 |0,i,V,h1,j,_=>by omega
 |m+1,i,V,h1,j,b=>by
  unfold Qy;simp only [aA,A5,Aj];by_cases h:i<l.length
  ·rw [if_pos (by omega),A9 h];have f:=y5c n a (i:=i) (by omega) b l[i];have g:V=⟨V.fKind,V.fNum,V.fText⟩:=rfl;rw [<-g,f,A3,B1 l i h];simp only [bad,fV];by_cases c:wrP k l[i]=0
   ·simp only [c,if_true];rw [Ae i (by omega)];exact zr6 n a init l d K m (i+1) _ (by omega) (by omega) (b.step a (by omega) c)
   grind
  ·rw [if_neg (by omega),aF (by omega)];have:i=l.length:=by omega
   subst this;exact ⟨rfl,fun _=>b⟩
theorem zw6 (n:Nat)(b:1<=k/\k<=5)(init:Va)(l:List Va)(c:l.length<=4096)(K:Option (Va×Int)):∀ (m i:Nat),i<=l.length->l.length<m+i->Ry n init l k K m (i:Int)=(match bad k (l.drop i) with|some e=>some (va0,e)|none=>K)
 |0,i,h1,d=>by omega
 |m+1,i,h1,d=>by
  unfold Ry;simp only [aA,A5,Aj];by_cases h:i<l.length
  ·rw [if_pos (by omega),A9 h,zou n k b,A3,B1 l i h];simp only [bad];by_cases a:wrP k l[i]=0
   ·simp only [a,if_true];rw [Ae i (by omega)];exact zw6 n b init l c K m (i+1) (by omega) (by omega)
   ·simp only [a,if_false]
  ·rw [if_neg (by omega),aF (by omega)];rfl
theorem zdk (n:Nat)(a:1<=k/\k<=5)(l:List Va)(c:l.length<=4096)(K:Int->Int->Int->Int->ByteArray->Option C2):∀ (m i:Nat) (V:Va),i<=l.length->l.length<m+i ->
  R8 n k l K m ((i:Int),k,(i:Int),V.fKind,V.fNum,V.fText)=K k (l.length:Int) (fV k i V (l.drop i)).fKind (fV k i V (l.drop i)).fNum (fV k i V (l.drop i)).fText
 |0,i,V,h1,j=>by omega
 |m+1,i,V,h1,j=>by
  unfold R8;simp only [aA,A5];by_cases h:i<l.length
  ·rw [if_pos (by omega),A9 h,B1 l i h];unfold Ym Yg Yh;have f:¬k=0:=by omega
   have g:V=⟨V.fKind,V.fNum,V.fText⟩:=rfl;simp only [A5,f,if_false,A3];rw [<-g,y5s n k a];simp only [fV];by_cases d:i=0
   ·have:((i:Nat):Int)=0:=by omega
    rw [if_pos this,A3,Ae i (by omega)];have e:=zdk n a l c K m (i+1) (Fg k i V l[i]) (by omega) (by omega);have b:Fg k i V l[i]=l[i]:=by unfold Fg;rw [if_pos d]
    rw [b] at e ⊢;have o:((i+1:Nat):Int)=1:=by omega
    rw [o] at e ⊢;rw [A3];exact e
   ·rw [if_neg (by omega),if_neg (by omega),A3,A3,Ae i (by omega)];have e:=zdk n a l c K m (i+1) (Fg k i V l[i]) (by omega) (by omega);have b:Fg k i V l[i]=comb k V l[i]:=by unfold Fg;rw [if_neg d]
    rw [b] at e ⊢;rw [A3];exact e
  ·rw [if_neg (by omega),aF (by omega)];have:i=l.length:=by omega
   subst this;rfl
theorem zzr (n:Nat)(hk:1<=k/\k<=5)(hi:i<=4096)(h:AInv k i V)(init:Va):∃ r,Qn n ⟨k,(i:Int),V⟩ init=some r/\Ro n ⟨k,(i:Int),V⟩ init=some r:=by
 obtain ⟨h1,h2⟩:=h.check n hk hi
 unfold Qn Ro
 rw [h1,h2]
 simp only [A3,zr5 n k hk,zou n k hk,A5,Aj,Ax,Am,Km,Mb,if_true,Aw]
 repeat' split
 all_goals exact ⟨_,rfl,rfl⟩
theorem p_of (n:Nat)(w:5000<n)(c:1<=k/\k<=5)(l:List Va)(init:Va):∃ r,Rn n k l init=some r/\S9 n k l init=some r:=by
 unfold Rn S9 Rb Rx;have ka:(0:Int)<=k:=by omega
 simp only [A3,A5,Aj,Ax,Am,Ia,J1,ka,c.2,if_true,aA,decide_true,Ap];by_cases h:4096<l.length
 ·rw [if_pos (by omega),if_pos (by omega)];exact ⟨_,rfl,rfl⟩
 ·rw [if_neg (by omega),if_neg (by omega)];have p:=zr6 n c init l (by omega) (fun m j g f d=>bnd (Qn n (⟨m,j,⟨g,f,d⟩⟩:C2) init) fun a=>some (a.1,a.2)) n 0 va0 (by omega) (by omega) (by simp [AInv]);have s:=zw6 n c init l (by omega) (bnd (Ve n (⟨k,0,⟨0,0,ByteArray.empty⟩⟩:C2) l k) fun o=>bnd (Ro n o init) fun b=>some (b.1,b.2)) n 0 (by omega) (by omega);simp only [aC,drop_zero] at p s;rw [p.1,s];cases v:bad k l with
  |some e=>exact ⟨_,rfl,rfl⟩
  |none =>
   have hi:=p.2 v;have q:=zdk n c l (by omega) (fun m j g f d=>some (⟨m,j,⟨g,f,d⟩⟩:C2)) n 0 va0 (by omega) (by omega);simp only [aC,drop_zero] at q;unfold Ve;rw [q];simp only [A3];obtain ⟨r,u,t⟩:=zzr n c (i:=l.length) (by omega) hi init;rw [u,t];simp only [A3];exact ⟨_,rfl,rfl⟩
def evs (vs:List (List Ev))(v:Int):List Ev:=if v<0 then [] else if (vs.length:Int)<=v then [] else vs.getD v.toNat []
theorem Jg {α β:Type}{l:List α}{i:Int}(d:α)(k:α->Option β)(a:0<=i)(h1:i<(l.length:Int)):idx l i k=k (l.getD i.toNat d):=by
 obtain ⟨m,rfl⟩:∃ m:Nat,i=m:=⟨i.toNat,by omega⟩;have hm:m<l.length:=by omega
 rw [A9 hm];simp_all
theorem zdd (n:Nat)(vs:List (List Ev))(v:Int):Lx n ⟨vs⟩ v=some (evs vs v):=by
 unfold Lx evs;simp only [Ax,Am,Kl,aA,A5,Ap];by_cases h:v<0
 ·rw [if_pos h,if_pos h]
 ·rw [if_neg h,if_neg h];by_cases a:(vs.length:Int)<=v
  ·rw [if_pos a,if_pos a]
  ·rw [if_neg a,if_neg a,Jg [] _ (by omega) (by omega)]
theorem zhx (n:Nat)(vs:List (List Ev))(own:Int)(ev:Ev)(v:Int):Q2 n ⟨vs⟩ own ev v=some (evs vs v):=by
 unfold Q2 evs;simp only [Ax,Am,K4,aA,A5,Ap];by_cases h:v<0
 ·rw [if_pos h,if_pos h]
 ·rw [if_neg h,if_neg h];by_cases a:(vs.length:Int)<=v
  ·rw [if_pos a,if_pos a]
  ·rw [if_neg a,if_neg a,Jg [] _ (by omega) (by omega)]
theorem zwc (n:Nat)(ev:Ev)(f:Int)(a:0<=f):Nc n ev f=some (if (ev.fValues.length:Int)<=f then (va0,6) else (ev.fValues.getD f.toNat va0,0)):=by
 unfold Nc;simp only [aA,A5];by_cases h:(ev.fValues.length:Int)<=f
 ·rw [if_pos h,if_pos h]
 ·rw [if_neg h,if_neg h,Jg va0 _ a (by omega)]
theorem zg7 (n:Nat)(e:Exn)(a:0<=e.fField)(es:List Ev)(d:es.length<=1000000)(K K':List Va->Option (Va×Int))(c:∀ l,∃ r,K l=some r/\K' l=some r):∀ (m i:Nat) (acc:List Va),i<=es.length->es.length<m+i->acc.length=i ->
  ∃ r,Q8 n e es K m ((i:Int),acc)=some r/\Ow n e es K' m ((i:Int),acc)=some r
 |0,i,acc,h1,f,_=>by omega
 |m+1,i,acc,h1,f,g=>by
  unfold Q8 Ow;simp only [aA,A5,Aj];by_cases h:i<es.length
  ·rw [if_pos (by omega),if_pos (by omega)];simp only [A9 h];rw [zwc n _ _ a,A3];by_cases b:(es[i].fValues.length:Int)<=e.fField
   ·simp_all
   ·rw [if_neg b,if_neg b,Jg va0 _ a (by omega)];simp only [if_true];rw [C1 (by simp;omega) (by omega),C1 (by simp;omega) (by omega),Ae i (by omega)];exact zg7 n e a es d K K' c m (i+1) _ (by omega) (by omega) (by simp;omega)
  ·rw [if_neg (by omega),if_neg (by omega)];exact c acc
theorem zrx (h:ndP e=0):0<=arP e.fOp/\(e.fArgs.length:Int)=arP e.fOp/\(usF e.fOp=true->0<=e.fField)/\(e.fOp=4->1<=e.fKind/\e.fKind<=5):=by
 unfold ndP at h;grind
inductive Occ (i:Nat):Exn->Prop
 |here (e:Exn) (h:usV e.fOp=true) (hv:e.fVar=(i:Int)):Occ i e
 |sub (e y:Exn) (hy:Av y∈e.fArgs) (h:Occ i y):Occ i e
theorem y5y (h:ndP e=0)(a:usV e.fOp=true):0<=e.fVar/\e.fVar<16:=by
 unfold ndP at h;grind
theorem y5f (n:Nat)(N:2000000<n)(e:Exn)(s:ndP e=0)(P:e.fArgs.length=0)(a b:List (List Ev))(E:∀ i:Nat,Occ i e->evs a (i:Int)=evs b (i:Int))(F:∀ v,(evs a v).length<=1000000)(own:Int)(ev:Ev) :
  ∃ r,Ra n e ⟨a⟩ own ev=some r/\Qr n ⟨b⟩ own ev e=some r:=by
 obtain ⟨h,g,I,M⟩:=zrx s;by_cases o0:e.fOp=0
 ·unfold Ra Qr;simp only [zdd,zhx,A3,A5,o0,if_true];exact ⟨_,rfl,rfl⟩
 have H:usV e.fOp=true:=by
  unfold arP at h g;by_cases c:e.fOp<0
  ·rw [if_pos c] at h;omega
  by_cases q:12<e.fOp
  ·rw [if_neg c,if_pos q] at h;omega
  rw [if_neg c,if_neg q] at g;by_cases G:e.fOp<5
  ·unfold usV;grind
  ·rw [if_neg G] at g;split at g<;>omega
 have u:evs a e.fVar=evs b e.fVar:=by
  have D:=y5y s H;have:=E e.fVar.toNat (.here e H (by omega))
  rwa [show ((e.fVar.toNat:Nat):Int)=e.fVar by omega] at this
 unfold Ra Qr;simp only [zdd,zhx,<-u,A3,A5,Aj,aA];rw [if_neg o0,if_neg o0];by_cases o3:e.fOp=3
 ·simp_all
 rw [if_neg o3,if_neg o3];by_cases f:e.fOp=4
 ·rw [if_pos f,if_pos f];unfold Xr;rw [zhx,<-u,A3];have t:=I (by rw [f];decide);have L:=M f;obtain ⟨r,z,w⟩:=zg7 n e t (evs a e.fVar) (F _) (fun y=>bnd (Rn n e.fKind y e.fValue) fun m=>some (m.1,m.2)) (fun y=>bnd (S9 n e.fKind y e.fValue) fun o=>some (o.1,o.2)) (fun l=>by
   obtain ⟨r,z,w⟩:=p_of n (by omega) L l e.fValue;exact ⟨r,by rw [z,A3],by rw [w,A3]⟩) n 0 [] (by omega) (by have:=F e.fVar;omega) rfl
  simp only [aC] at z w;rw [z,w];exact ⟨r,rfl,by rw [A3]⟩
 rw [if_neg f,if_neg f];have K:e.fOp=1\/e.fOp=2:=by
  unfold arP at h g;by_cases c:e.fOp<0
  ·rw [if_pos c] at h;omega
  by_cases q:12<e.fOp
  ·rw [if_neg c,if_pos q] at h;omega
  rw [if_neg c,if_neg q] at g;by_cases G:e.fOp<5
  ·omega
  ·omega
 simp only [Ax,Am,Kq,Kp];unfold Y9;simp only [zdd,A3,A5,Aj,aA];have tail:∀ x:Ev,∃ r,(if e.fOp=2 then some ((⟨0,x.fTime,be⟩:Va),(0:Int)) else if (x.fValues.length:Int)<=e.fField then some (va0,6) else idx x.fValues e.fField fun C=>bnd (H4 n C) fun j=>if j=0 then (idx x.fValues e.fField fun B=>some (B,0)) else some (va0,j))=some r /\
   (if e.fOp=2 then some ((⟨0,x.fTime,be⟩:Va),(0:Int)) else bnd (Nc n (⟨x.fSource,x.fSeq,x.fType,x.fTime,x.fValues⟩:A8) e.fField) fun d=>if d.2=0 then (bnd (Hc n d.1) fun p=>if p=0 then some (d.1,0) else some (va0,p)) else if d.2=0 then some (d.1,0) else some (va0,d.2))=some r:=fun x=>by
  by_cases o2:e.fOp=2
  ·simp_all
  rw [if_neg o2,if_neg o2];have J:e.fOp=1:=by omega
  have t:=I (by rw [J];decide);rw [zwc n _ _ t,A3];by_cases D:(x.fValues.length:Int)<=e.fField
  ·simp only [D,if_true];exact ⟨_,rfl,rfl⟩
  ·simp only [D,if_false];rw [Jg va0 _ t (by omega),Jg va0 _ t (by omega),zzo,p_vc,A3];simp only [if_true,A3];split;all_goals simp_all
 by_cases A:e.fVar=own
 ·rw [if_pos A,if_pos A,A3];simp only [Ap];exact tail ev
 ·rw [if_neg A,if_neg A];by_cases O:(evs a e.fVar).length=0
  ·rw [if_pos (by omega),if_pos (by omega),A3];simp only [Aq];exact ⟨_,rfl,rfl⟩
  ·rw [if_neg (by omega),if_neg (by omega),Cq _ (by have:=F e.fVar;omega),Jg ev _ (by omega) (by omega),Jg ev _ (by omega) (by omega),A3];simp only [Ap];exact tail _
theorem ztl (n:Nat)(op:Int)(h:5<=op/\op<=12):Tm n op=some (if op<9 then 0 else if op=9 then -1 else 1):=by
 have:op=5\/op=6\/op=7\/op=8\/op=9\/op=10\/op=11\/op=12:=by omega
 unfold Tm;simp only [Ax,Am,Ge,Hr,A5];grind
theorem zau (n:Nat)(op:Int)(h:5<=op/\op<=12)(a:List Int)(p:a.length<=4000000):∀ (m i:Nat),i<=a.length->a.length<m+i->∃ r,Ex n a op (some 0) m (i:Int)=some r/\G1 n a op (some 0) m (i:Int)=some r/\(r=0\/r=9)
 |0,i,h1,s=>by omega
 |m+1,i,h1,s=>by
  unfold Ex G1;simp only [aA,A5,Aj,ztl n op h,A3,Ax,Am,Fj,Ha,J2];by_cases hi:i<a.length
  ·have b:((i:Nat):Int)<((a.length:Nat):Int):=by omega
   simp only [b,if_true];obtain ⟨r,f,d,c⟩:=zau n op h a p m (i+1) (by omega) (by omega);rw [Ae i (by omega),f,d];have g:∀ (K:Int->Option Int),idx a 0 K=K (a.headD 0):=fun K=>by
    have:=A9 (l:=a) (i:=0) (by omega) K;simp only [aC] at this;rw [this];congr 1;cases a with
    |nil=>simp at hi
    |cons x q=>rfl
   have j:∀ (K:Int->Option Int),idx a (i:Int) K=K a[i]:=fun K=>A9 hi K
   simp only [g,j];generalize a[i]=k;generalize a.headD 0=o;have:op=5\/op=6\/op=7\/op=8\/op=9\/op=10\/op=11\/op=12:=by omega
   clear f d g j h;rcases this with rfl|rfl|rfl|rfl|rfl|rfl|rfl|rfl
   all_goals
    simp [Aw];first
    |(by_cases q:k=0<;>simp [q,c])
    |(by_cases q:k=1<;>simp [q,c])
    |(by_cases q:k=o<;>simp [q,c])
  ·have b:¬((i:Nat):Int)<((a.length:Nat):Int):=by omega
   simp only [b,if_false];exact ⟨0,rfl,rfl,aH rfl⟩
theorem zwb (n:Nat)(b:Bool):Ds n b=some (if b=true then ⟨1,1,be⟩ else ⟨1,0,be⟩):=by
 unfold Ds Yw;cases b<;>simp [Aw,A3]
theorem zow (n:Nat)(b:Bool):Dq n b=some (if b=true then ⟨1,1,be⟩ else ⟨1,0,be⟩):=by
 unfold Dq;cases b<;>simp [Aw]
section
variable {α β:Type}
theorem zi1 {len:Nat}(h:0<len)(k:Nat->Option β):nat 0 len k=k 0:=by have:=Ct (i:=0) h k;simpa using this
theorem zry {len:Nat}(h:1<len)(k:Nat->Option β):nat 1 len k=k 1:=by have:=Ct (i:=1) h k;simpa using this
theorem y3q {x y:α}{l:List α}(k:α->Option β):idx (x::y::l) 1 k=k y:=by have:=A9 (l:=x::y::l) (i:=1) (by simp) k;simpa using this
end
theorem w21:aB .i64 (((2:Nat):Int)-1)=1:=by decide
theorem w11:aB .i64 (((1:Nat):Int)-1)=0:=by decide
theorem y03 (n:Nat)(op:Int)(h:5<=op/\op<=11)(x y:Va):∃ v,M5 n op [x,y]=some v /\
  (cnd (decide (op=9))
    (nat 0 (List.map Ag [x,y]).length fun g=>elt [x,y] g fun c=>nat 1 (List.map Ag [x,y]).length fun f=>elt [x,y] f fun b =>
      bnd (Ds n (decide (c.fKind=b.fKind) && (decide (c.fNum=b.fNum) && ((c.fText.toList == b.fText.toList) && true)))) fun d=>some (d,(0:Int)))
  <| natc op 5 (bnd (V4 n x.fNum y.fNum) fun a=>some (a,0))
  <| natc op 6 (bnd (V3 n x.fNum y.fNum) fun a=>some (a,0))
  <| natc op 7 (bnd (V2 n x.fNum y.fNum) fun a=>some (a,0))
  <| natc op 8 (bnd (V1 n x.fNum y.fNum) fun a=>some (a,0))
  <| natc op 10 (bnd (V0 n x.fNum y.fNum) fun a=>some (a,0))
  <| natc op 11 (bnd (Uz n x.fNum y.fNum) fun a=>some (a,0))
  <| natc op 12 (bnd (Mm n x.fNum y.fNum) fun a=>some (a,0))
  <| none)=some (v,0):=by
 have:op=5\/op=6\/op=7\/op=8\/op=9\/op=10\/op=11:=by omega
 have o:(List.map Ag [x,y]).length=2:=rfl;have m:∀ k:Nat->Option (Va×Int),nat 0 2 k=k 0:=fun k=>zi1 (by omega) k
 have j:∀ k:Nat->Option (Va×Int),nat 1 2 k=k 1:=fun k=>zry (by omega) k
 have r:∀ k:Va->Option (Va×Int),elt [x,y] 0 k=k x:=fun k=>D7 (by simp) k
 have p:∀ k:Va->Option (Va×Int),elt [x,y] 1 k=k y:=fun k=>D7 (by simp) k
 unfold M5 V4 V3 V2 V1 V0 Uz Mm V5;simp only [o,m,j,r,p,Wv,y3q,A5,Ny,zwb,zow,A3,Ax,Am,M0,Lz,Kv,Ku];rcases this with rfl|rfl|rfl|rfl|rfl|rfl|rfl
 ·exact ⟨_,rfl,rfl⟩
 ·exact ⟨_,rfl,rfl⟩
 ·exact ⟨_,rfl,rfl⟩
 ·exact ⟨_,rfl,rfl⟩
 ·exact ⟨_,rfl,rfl⟩
 ·by_cases q:x.fNum=1
  ·simp [q,A3]
  ·simp [q,A3]
 ·by_cases q:x.fNum=1
  ·simp [q,A3]
  ·simp [q,A3]
theorem y04 (n:Nat)(x:Va):∃ v,M5 n 12 [x]=some v/\Mm n x.fNum x.fNum=some v:=by
 unfold M5 Mm;simp only [Wv,A5,zwb,zow,A3];exact ⟨_,rfl,rfl⟩
theorem ETrO.pos {s:Nat}(h:ETrO s e):1<=s:=by cases h;omega
theorem zlx (n:Nat)(l:List (Nat×Exn))(e:Exn)(f:e.fArgs=l.map (fun p=>Av p.2))(q:l.length<=4000000)(a b:List (List Ev))(own:Int)(ev:Ev)
  (d:∀ p∈l,∃ r,H7 n p.2 ⟨a⟩ own ev=some r/\H0 n ⟨b⟩ own ev p.2=some r) (K K':List Va->List Int->Option (Va×Int)) (s:∀ vs,vs.length=l.length->∃ r,K vs (vs.map (·.fKind))=some r/\K' vs (vs.map (·.fKind))=some r) :
  ∀ (m k:Nat) (vs:List Va),k<=l.length->l.length<m+k->vs.length=k->∃ r,Q9 n (H7 n) ev own ⟨a⟩ e K m ((k:Int),vs,vs.map (·.fKind))=some r/\Pd n (H0 n) e ev own ⟨b⟩ K' m ((k:Int),vs,vs.map (·.fKind))=some r
 |0,k,vs,h1,t,_=>by omega
 |m+1,k,vs,h1,t,u=>by
  unfold Q9 Pd;simp only [f,aA,A5,Aj];by_cases h:k<l.length
  ·have c:((k:Nat):Int)<((l.length:Nat):Int):=by omega
   simp only [c,if_true];rw [G8 h,G8 h];obtain ⟨⟨v,x⟩,j,g⟩:=d l[k] (aD h);rw [j,g,A3,A3];by_cases o:x=0
   ·simp only [o,if_true];rw [C1 (by simp;omega) (by omega),C1 (by simp;omega) (by omega),C1 (by simp;omega) (by omega),C1 (by simp;omega) (by omega),Ae k (by omega)];have:=zlx n l e f q a b own ev d K K' s m (k+1) (vs++[v]) (by omega) (by omega) (by simp;omega);simpa using this
   simp_all
  grind
theorem y5k (a b:List (List Ev))(Q:∀ v,(evs a v).length<=1000000)(own:Int)(ev:Ev):∀ (s:Nat) (e:Exn),ETrO s e->(∀ i:Nat,Occ i e->evs a (i:Int)=evs b (i:Int))->s<=4000000->∀ n,s+5000000<n->∃ r,H7 n e ⟨a⟩ own ev=some r/\H0 n ⟨b⟩ own ev e=some r:=by
 intro s
 induction s using Nat.strongRecOn with
 |ind s IH =>
  intro e N j U n W;cases N with
  |mk l e g h G =>
   obtain ⟨d,rfl⟩:∃ d,n=d + 1:=⟨n-1,by omega⟩;have X:l.length<=(l.map (·.1)).sum:=Sm (l:=l) (fun p q=>(h p q).pos);obtain ⟨H,D,Z,Y⟩:=zrx g;simp only [H7,H0,aA,A5,Aj];by_cases R:e.fArgs.length=0
   ·have:((e.fArgs.length:Nat):Int)=0:=by omega
    simp only [this,if_true];obtain ⟨r,o,m⟩:=y5f d (by omega) e g R a b j Q own ev;rw [o,m,A3];exact ⟨_,rfl,rfl⟩
   ·have:¬((e.fArgs.length:Nat):Int)=0:=by omega
    simp only [this,if_false];have P:e.fArgs.length=l.length:=by rw [G,aA]
    have c:5<=e.fOp/\e.fOp<=12/\(e.fOp=12->l.length=1)/\(e.fOp≠12->l.length=2):=by
     unfold arP at H D;by_cases F:e.fOp<0
     ·rw [if_pos F] at H;omega
     by_cases J:12<e.fOp
     ·omega
     rw [if_neg F,if_neg J] at D;by_cases I:e.fOp<5
     ·rw [if_pos I] at D;omega
     ·omega
    refine zlx d l e G (by omega) a b own ev (fun p q=>by
     have:=Jj q;exact IH p.1 (by omega) p.2 (h p q) (fun i hi=>j i (.sub e p.2 (by grind) hi)) (by omega) d (by omega)) _ _ (fun vs M=>?_) d 0 [] (by omega) (by omega) rfl
    obtain ⟨r,o,m,T⟩:=zau d e.fOp ⟨c.1,c.2.1⟩ (vs.map (·.fKind)) (by rw [aA];omega) d 0 (by omega) (by rw [aA];omega);simp only [aC] at o m;unfold Xj Yo;rw [o,m,A3,A3];by_cases O:r=0
    ·simp only [O,if_true];by_cases f:e.fOp=12
     ·have C:vs.length=1:=by have:=c.2.2.1 f;omega
      match vs,C with
      |[x],_ =>
       obtain ⟨v,u,t⟩:=y04 d x;rw [f,u,A3];have w:∀ k:Nat->Option (Va×Int),nat 0 1 k=k 0:=fun k=>zi1 (by omega) k
       have E:∀ k:Va->Option (Va×Int),elt [x] 0 k=k x:=fun k=>D7 (by simp) k
       have A:∀ z:Option (Va×Int),ltx 0 1 z=z:=fun z=>X4 (by omega) z
       simp only [Ny,length_cons,length_nil,Nat.zero_add,w11,w,E,A,t,A3];exact ⟨_,rfl,rfl⟩
     ·have B:vs.length=2:=by have:=c.2.2.2 f;omega
      match vs,B with
      |[x,y],_ =>
       obtain ⟨v,u,t⟩:=y03 d e.fOp ⟨c.1,by omega⟩ x y;rw [u,A3];refine ⟨(v,0),rfl,?_⟩;rw [<-t];have w:∀ k:Nat->Option (Va×Int),nat 0 2 k=k 0:=fun k=>zi1 (by omega) k
       have K:∀ k:Nat->Option (Va×Int),nat 1 2 k=k 1:=fun k=>zry (by omega) k
       have E:∀ k:Va->Option (Va×Int),elt [x,y] 0 k=k x:=fun k=>D7 (by simp) k
       have S:∀ k:Va->Option (Va×Int),elt [x,y] 1 k=k y:=fun k=>D7 (by simp) k
       have A:∀ z:Option (Va×Int),ltx 0 2 z=z:=fun z=>X4 (by omega) z
       have L:∀ z:Option (Va×Int),ltx 1 2 z=z:=fun z=>X4 (by omega) z
       simp only [Ny,A5,aA,length_cons,length_nil,Nat.zero_add,Nat.reduceAdd,w21,w,K,E,S,A,L]
    simp_all
theorem zvl (a b:List (List Ev))(o:∀ v,(evs a v).length<=1000000)(own:Int)(ev:Ev)(s:Nat)(e:Exn)(f:∀ i:Nat,Occ i e->evs a (i:Int)=evs b (i:Int))(m:ETr s e)(g:s<=4000000)(n:Nat)(u:10000000<n) :
  ∃ r,Ft n e ⟨a⟩ own ev=some r/\Jb n e ⟨b⟩ own ev=some r:=by
 obtain ⟨c,t,q,p⟩:=zwh s e m g n (by omega);unfold Ft Jb Ya Yz;rw [t,q];simp only [A3,A5,Aj,zwb,zow,Ax,Am,Kw,N1];by_cases d:c=0
 ·simp only [d,if_true];obtain ⟨r,j,h⟩:=y5k a b o own ev s e (p d) f g n (by omega);rw [j,h];simp only [A3];split;all_goals simp_all
 ·simp only [d,if_false,A3];exact ⟨_,rfl,rfl⟩
end Go.Proofs.YtidhlpjgifoneaaGreat
