/- Layers 1, 7, 8, plainly. -/
import Derived.Test.YtidhlpjgifoneaaGreatK28
set_option linter.unusedVariables false
set_option linter.unusedSimpArgs false
namespace Go.Proofs.YtidhlpjgifoneaaGreat
open Go.RowKit List
abbrev Va:=z04
abbrev Ev:=z03
abbrev Exn:=z0k
abbrev be:ByteArray:=ByteArray.empty
abbrev va0:Va:=⟨0,0,ByteArray.empty⟩
def vcP (v:Va):Int :=
 if v.fKind<0 then 1 else if 2<v.fKind then 1 else if v.fKind=2 then (if v.fNum=0 then (if 64<v.fText.size then 13 else 0) else 3) else
 if v.fText=be then (if v.fKind=1 then (if v.fNum<0 then 2 else if 1<v.fNum then 2 else 0) else if v.fNum < -1099511627776 then 2 else if 1099511627776<v.fNum then 2 else 0) else 3
theorem ykx (n:Nat)(v:Va):z3r n v=some (vcP v):=by
 unfold z3r vcP;simp only [z0f,z12,zkk];grind
variable {β:Type}
theorem ycx {α:Type}(p:Prop)[Decidable p](x y:Option α)(k:α->Option β):bnd (if p then x else y) k=if p then bnd x k else bnd y k:=by split<;>rfl
theorem p_vc (n:Nat)(v:Va):zcp n v=some (vcP v):=by
 obtain ⟨k,x,t⟩:=v;unfold zcp zgv vcP;simp only [z0f,z12,zkk];by_cases f:k=0
 ·subst f;by_cases a:t=be
  ·subst a;have b:be.size=0:=rfl;simp [b,z05,ycx];grind
  ·simp [a]
 ·by_cases d:k=1
  ·subst d;by_cases a:t=be
   ·subst a;have b:be.size=0:=rfl;simp [b,z05,ycx];grind
   ·simp [a]
  ·by_cases c:k=2
   ·subst c;simp [z05,ycx];grind
   grind
theorem yps (x y:Va):(decide (x.fKind=y.fKind) && (decide (x.fNum=y.fNum) && ((x.fText.toList == y.fText.toList) && true)))=decide (x=y):=by
 cases x;cases y;simp [zkk]
theorem y3z (x:Va):(decide (x.fKind=0) && (decide (x.fNum=0) && ((x.fText.toList == ByteArray.empty.toList) && true)))=decide (x=va0):=yps x va0
def arP (op:Int):Int:=if op<0 then -1 else if 12<op then -1 else if op<5 then 0 else if op=12 then 1 else 2
theorem yl1 (n:Nat)(op:Int):zbw n op=some (arP op):=by
 unfold zbw arP;simp only [z3g,z1s,z1w,z1g,z0f,z52,decide_eq_true_eq];by_cases h1:op<0
 ·simp [h1,show op≠0 by omega,show op≠1 by omega,show op≠2 by omega,show op≠3 by omega,show op≠4 by omega,show op≠5 by omega,show op≠6 by omega,show op≠7 by omega,show op≠8 by omega,show op≠9 by omega,show op≠10 by omega,show op≠11 by omega,show op≠12 by omega]
 ·by_cases a:12<op
  ·simp [h1,a,show op≠0 by omega,show op≠1 by omega,show op≠2 by omega,show op≠3 by omega,show op≠4 by omega,show op≠5 by omega,show op≠6 by omega,show op≠7 by omega,show op≠8 by omega,show op≠9 by omega,show op≠10 by omega,show op≠11 by omega,show op≠12 by omega]
  ·have:op=0\/op=1\/op=2\/op=3\/op=4\/op=5\/op=6\/op=7\/op=8\/op=9\/op=10\/op=11\/op=12:=by omega
   rcases this with rfl|rfl|rfl|rfl|rfl|rfl|rfl|rfl|rfl|rfl|rfl|rfl|rfl<;>rfl
theorem yof (n:Nat)(op:Int):zjk n op=some (if op<0 then (0,false) else if 12<op then (0,false) else (arP op,true)):=by
 unfold zjk arP;simp only [z3g,z1s,zdu,z0f,z52,decide_eq_true_eq,if_true];grind
def usV (op:Int):Bool:=decide (op=1) || decide (op=2) || decide (op=3) || decide (op=4)
def usF (op:Int):Bool:=decide (op=1) || decide (op=4)
theorem yhv (n:Nat)(op:Int):zap n op=some (usV op,usF op):=by
 unfold zap;simp only [z3g,z1s,z5t,z3n,z0f,z52,decide_eq_true_eq,if_true];by_cases h1:op=1
 ·subst h1;rfl
 ·by_cases c:op=2
  ·subst c;rfl
  ·by_cases b:op=3
   ·subst b;rfl
   ·by_cases a:op=4
    ·subst a;rfl
    ·simp [usV,usF,h1,c,b,a]
theorem yq5 (n:Nat)(op:Int):zj2 n op=some (usV op,usF op):=by
 unfold zj2;simp only [z3g,z1s,zf1,zf0,z0f,z52,decide_eq_true_eq,if_true];by_cases h1:op=1
 ·subst h1;rfl
 ·by_cases c:op=2
  ·subst c;rfl
  ·by_cases b:op=3
   ·subst b;rfl
   ·by_cases a:op=4
    ·subst a;rfl
    ·simp [usV,usF,h1,c,b,a]
def suP (k:Int)(v:Va):Bool:=decide (v.fKind=0) || decide (k=4) || decide (k=5)
theorem ynv (n:Nat)(k:Int)(v:Va):zjj n k v=some (suP k v):=by
 unfold zjj;simp only [z3g,z1s,zbz,z0f];by_cases h1:v.fKind=0
 ·simp [suP,h1]
 ·by_cases a:k=4
  ·simp [suP,h1,a]
  ·simp [suP,h1,a]
theorem y49 (n:Nat)(k:Int)(v:Va):z89 n k v=some (decide (k=0) || suP k v):=by
 unfold z89;simp only [z3g,z1s,z2b,z0f];by_cases h1:v.fKind=0
 ·simp [suP,h1]
 ·by_cases b:k=4
  ·by_cases a:k=0
   ·simp [suP,h1,b,a]
   ·simp [suP,h1,b]
  ·by_cases a:k=0
   ·simp [suP,h1,b,a]
   ·simp [suP,h1,b,a]
def ndP (e:Exn):Int :=
 if arP e.fOp<0 then 1 else if (e.fArgs.length:Int)≠arP e.fOp then 15 else
 if (usV e.fOp && (decide (e.fVar<0) || decide (16<=e.fVar))) || (usF e.fOp && (decide (e.fField<0) || decide (8<=e.fField))) then 2 else
 if decide (e.fOp=4) && (decide (e.fKind<1) || decide (5<e.fKind)) then 1 else
 if (decide (e.fOp=4) || decide (e.fOp=0)) && !decide (vcP e.fValue=0) then vcP e.fValue else
 if decide (e.fOp=4) && (!(suP e.fKind e.fValue) || (decide (e.fKind=1) && !decide (e.fValue=va0))) then 9 else
 if (!(usV e.fOp) && !decide (e.fVar=0)) || (!(usF e.fOp) && !decide (e.fField=0)) || (!decide (e.fOp=4) && !decide (e.fKind=0)) || (!(decide (e.fOp=4) || decide (e.fOp=0)) && !decide (e.fValue=va0)) then 3 else 0
theorem yfc (op:Int)(h:¬arP op<0):op=0\/op=1\/op=2\/op=3\/op=4\/(usV op=false/\usF op=false/\op≠0/\op≠4):=by
 unfold arP at h;by_cases c:op=0
 ·exact Or.inl c
 by_cases h1:op=1
 ·exact Or.inr (Or.inl h1)
 by_cases b:op=2
 ·exact Or.inr (Or.inr (Or.inl b))
 by_cases d:op=3
 ·omega
 by_cases a:op=4
 ·omega
 exact Or.inr (Or.inr (Or.inr (Or.inr (Or.inr ⟨by simp [usV,h1,b,d,a],by simp [usF,h1,a],c,a⟩))))
theorem us0:usV 0=false/\usF 0=false:=by decide
theorem us1:usV 1=true/\usF 1=true:=by decide
theorem us2:usV 2=true/\usF 2=false:=by decide
theorem us3:usV 3=true/\usF 3=false:=by decide
theorem us4:usV 4=true/\usF 4=true:=by decide
theorem ynx (n:Nat)(e:Exn):zch n e=some (ndP e):=by
 unfold zch;rw [yl1,z05,yhv];simp only [z05,length_map,z0f,z12,ykx,y49,z3g,z1s,z1e,z3p,z5v,z5u,z2m,z0i,y3z];unfold ndP;by_cases a:arP e.fOp<0
 ·rw [if_pos a,if_pos a]
 rw [if_neg a,if_neg a];by_cases b:(e.fArgs.length:Int)=arP e.fOp;rotate_left
 ·rw [if_neg b,if_pos b]
 rw [if_pos b,if_neg (show ¬((e.fArgs.length:Int)≠arP e.fOp) from fun h=>h b)];have c:=yfc e.fOp a;obtain ⟨op,args,var,field,kind,val⟩:=e;simp only at *;clear b a;rcases c with rfl|rfl|rfl|rfl|rfl|⟨h1,g,f,d⟩
 ·simp [us0,z52];grind
 ·simp [us1,z52];grind
 ·simp [us2,z52];grind
 ·simp [us3,z52];grind
 ·simp [us4,z52];grind
 ·simp [h1,g,f,d,z52];grind
theorem ybp (n:Nat)(e:Exn):zg2 n e=some (if vcP e.fValue=0 then (if decide (e.fOp=4) && (!(suP e.fKind e.fValue) || (decide (e.fKind=1) && !decide (e.fValue=va0))) then 9 else 0) else vcP e.fValue):=by
 unfold zg2;rw [p_vc,z05];simp only [z0f,z12,ynv,z05,z3g,z1s,z62,y3z];obtain ⟨op,args,var,field,kind,val⟩:=e;simp only;by_cases h:op=4
 ·subst h;simp [z52];grind
 ·simp [h,z52];split<;>rfl
theorem yqa (n:Nat)(e:Exn):zko n e=some (ndP e):=by
 unfold zko;rw [yof,z05,yq5];simp only [z05,length_map,z0f,z12,ybp,z3g,z1s,z6n,zcv,zf3,zf2,z17,y3z];unfold ndP;by_cases a:arP e.fOp<0
 ·rw [if_pos a];have:e.fOp<0\/12<e.fOp:=by
   unfold arP at a;by_cases h1:e.fOp<0
   ·exact Or.inl h1
   ·omega
  rcases this with h|h
  ·rw [if_pos h,zae]
  ·by_cases d:e.fOp<0
   ·rw [if_pos d,zae]
   ·rw [if_neg d,if_pos h,zae]
 have c:¬e.fOp<0/\¬12<e.fOp:=by
  unfold arP at a;refine ⟨fun h=>a (by rw [if_pos h];decide),fun h=>a ?_⟩;by_cases h1:e.fOp<0
  ·rw [if_pos h1];decide
  ·rw [if_neg h1,if_pos h];decide
 rw [if_neg c.1,if_neg c.2,if_neg a,z9u];by_cases b:(e.fArgs.length:Int)=arP e.fOp;rotate_left
 ·rw [if_neg b,if_pos b]
 rw [if_pos b,if_neg (show ¬((e.fArgs.length:Int)≠arP e.fOp) from fun h=>h b)];have f:=yfc e.fOp a;obtain ⟨op,args,var,field,kind,val⟩:=e;simp only at *;clear b a c;rcases f with rfl|rfl|rfl|rfl|rfl|⟨h1,m,j,g⟩
 ·simp [us0,z52];grind
 ·simp [us1,z52];grind
 ·simp [us2,z52];grind
 ·simp [us3,z52];grind
 ·simp [us4,z52];grind
 ·simp [h1,m,j,g,z52];grind
inductive ETr:Nat->Exn->Prop
 |mk (l:List (Nat×Exn)) (e:Exn) (h:∀ p∈l,ETr p.1 p.2) (ha:e.fArgs=l.map (fun p=>z0n p.2)):ETr (1+(l.map (·.1)).sum) e
inductive ETrO:Nat->Exn->Prop
 |mk (l:List (Nat×Exn)) (e:Exn) (hn:ndP e=0) (h:∀ p∈l,ETrO p.1 p.2) (ha:e.fArgs=l.map (fun p=>z0n p.2)):ETrO (1+(l.map (·.1)).sum) e
variable {e:Exn}
theorem ETr.pos {s:Nat}(h:ETr s e):1<=s:=by cases h;omega
variable {l:List (Nat×Exn)}
theorem zui {p:Nat×Exn}(h:p∈l):p.1<=(l.map (·.1)).sum:=by
 induction l with
 |nil=>cases h
 |cons x l ih =>
  grind
theorem zyu (h:∀ p∈l,1<=p.1):l.length<=(l.map (·.1)).sum:=by
 induction l with
 |nil=>simp
 |cons x l ih =>
  grind
def preS (l:List (Nat×Exn))(k:Nat):Nat:=((l.take k).map (·.1)).sum
theorem y7k {k:Nat}(h:k<l.length):preS l (k+1)=preS l k+l[k].1:=by
 unfold preS;rw [take_succ_eq_append_getElem h,map_append,sum_append];simp_all
theorem ydo {k:Nat}(h:l.length<=k):preS l k=(l.map (·.1)).sum:=by unfold preS;rw [take_of_length_le h]
theorem yhr (l:List (Nat×Exn))(k:Nat):preS l k<=(l.map (·.1)).sum:=by
 unfold preS;conv=>rhs;rw [<-take_append_drop k l]
 grind
theorem zpg {k:Nat}(h:k<l.length)(K:Exn->Option β):idxD z1l (l.map fun p=>z0n p.2) (k:Int) K=K l[k].2:=by
 unfold idxD;rw [if_pos (by omega)];simp only [Int.toNat_natCast,getElem?_map,getElem?_eq_getElem h,Option.map_some,zfb]
theorem y2t (most:Int)(hm:0<=most)(a:most<=1000000)(n:Nat)(l:List (Nat×Exn))(e:Exn)(f:e.fArgs=l.map (fun p=>z0n p.2))(j:(l.map (·.1)).sum<=4000000)(r:l.length<=4000000)
  (b:∀ p∈l,∃ c:Int,z2y n p.2 most=some c/\1<=c/\c<=p.1/\(c<=most->c=p.1)) :
  ∀ (m k:Nat) (v:Int),k<=l.length->l.length<m+k->1<=v->v<=1+preS l k->(v<=most->v=1+preS l k) ->
   ∃ c:Int,z3c n (z2y n) most e (fun y=>some y) m (v,(k:Int))=some c/\1<=c/\c<=1+(l.map (·.1)).sum/\(c<=most->c=1+(l.map (·.1)).sum)
 |0,k,v,h1,t,_,_,_=>by omega
 |m+1,k,v,h1,t,A,z,s=>by
  unfold z3c;simp only [z3g,z1s,z4u,f,length_map,z0f,zae];have q:=yhr l k;by_cases h:k<l.length
  ·rw [if_pos (by omega)];by_cases d:v<=most
   ·rw [if_pos d,zpg h];obtain ⟨c,w,C,B,u⟩:=b l[k] (getElem_mem h);rw [w,z05,z27 k (by omega),zga _ (by have:=zui (getElem_mem h);omega)];have o:=y7k h;have g:=s d;exact y2t most hm a n l e f j r b m (k+1) (v+c) (by omega) (by omega) (by omega) (by omega) (fun x=>by have:=u (by omega);omega)
   grind
  ·rw [if_neg (by omega)];have o:=ydo (l:=l) (k:=k) (by omega);grind
theorem yi9 (most:Int)(hm:0<=most)(d:most<=1000000):∀ (s:Nat) (e:Exn),ETr s e->s<=4000000->∀ n,s+1<n->∃ c:Int,z2y n e most=some c/\1<=c/\c<=s/\(c<=most->c=s):=by
 intro s
 induction s using Nat.strongRecOn with
 |ind s IH =>
  intro e f j n m;cases f with
  |mk l e h g =>
   obtain ⟨a,rfl⟩:∃ a,n=a + 1:=⟨n-1,by omega⟩;have o:=zyu (l:=l) (fun p b=>(h p b).pos);simp only [z2y];obtain ⟨c,u,t,r,q⟩:=y2t most hm d a l e g (by omega) (by omega) (fun p b=>by
    have:=zui b;exact IH p.1 (by omega) p.2 (h p b) (by omega) a (by omega)) a 0 1 (by omega) (by omega) (by omega) (by omega) (fun _=>by simp [preS])
   grind
theorem y7p (n:Nat)(l:List (Nat×Exn))(e:Exn)(f:e.fArgs=l.map (fun p=>z0n p.2))(o:(l.map (·.1)).sum<=4000000)(r:l.length<=4000000)
  (a:∀ p∈l,∃ d:Int,z2x n p.2=some d/\zg0 n p.2=some ((p.1:Int),d)/\0<=d/\d<=p.1) :
  ∀ (m k:Nat) (d:Int),k<=l.length->l.length<m+k->0<=d->d<=preS l k ->
   ∃ D:Int,z7r n (z2x n) e (fun y=>some (IntKind.wrap .i64 (y+1))) m (d,(k:Int))=some (D+1)/\zg7 n (zg0 n) e (fun j g=>some (j,(IntKind.wrap .i64 (g+1)))) m (((1+preS l k:Nat):Int),d,(k:Int))=some (((1+(l.map (·.1)).sum:Nat):Int),D+1)/\0<=D/\D<=(l.map (·.1)).sum
 |0,k,d,h1,t,_,_=>by omega
 |m+1,k,d,h1,t,s,x=>by
  unfold z7r zg7;simp only [f,length_map,z0f];have q:=yhr l k;by_cases h:k<l.length
  ·rw [if_pos (by omega),if_pos (by omega),zpg h,zpg h];obtain ⟨c,w,v,A,z⟩:=a l[k] (getElem_mem h);have b:=y7k h;have hm:=zui (getElem_mem h);rw [w,v,z05,z05,z27 k (by omega),zga _ (by omega)];have u:(((1+preS l k:Nat):Int)+((l[k].1:Nat):Int))=((1+preS l (k+1):Nat):Int):=by omega
   simp only;rw [u];exact y7p n l e f o r a m (k+1) (max d c) (by omega) (by omega) (by omega) (by omega)
  ·rw [if_neg (by omega),if_neg (by omega)];have b:=ydo (l:=l) (k:=k) (by omega);refine ⟨d,by rw [zga _ (by omega)],?_,s,by omega⟩;rw [zga _ (by omega),b]
theorem ymk:∀ (s:Nat) (e:Exn),ETr s e->s<=4000000->∀ n,s+1<n->∃ d:Int,z2x n e=some d/\zg0 n e=some ((s:Int),d)/\0<=d/\d<=s:=by
 intro s
 induction s using Nat.strongRecOn with
 |ind s IH =>
  intro e c m n o;cases c with
  |mk l e h f =>
   obtain ⟨a,rfl⟩:∃ a,n=a + 1:=⟨n-1,by omega⟩;have q:=zyu (l:=l) (fun p b=>(h p b).pos);simp only [z2x,zg0];obtain ⟨D,j,g,t,r⟩:=y7p a l e f (by omega) (by omega) (fun p b=>by
    have:=zui b;exact IH p.1 (by omega) p.2 (h p b) (by omega) a (by omega)) a 0 0 (by omega) (by omega) (by omega) (by simp)
   exact ⟨D+1,j,g,by omega,by push_cast;omega⟩
theorem y2g (n:Nat)(l:List (Nat×Exn))(e:Exn)(c:e.fArgs=l.map (fun p=>z0n p.2))(j:l.length<=4000000)
  (a:∀ p∈l,∃ r:Int,z3o n p.2=some r/\zej n p.2=some r/\(r=0->ETrO p.1 p.2)) :
  ∀ (m k:Nat),k<=l.length->l.length<m+k->(∀ p∈l.take k,ETrO p.1 p.2) ->
   ∃ r:Int,z7q n (z3o n) e (some 0) m (k:Int)=some r/\zfl n (zej n) e (some 0) m (k:Int)=some r/\(r=0->∀ p∈l,ETrO p.1 p.2)
 |0,k,h1,o,_=>by omega
 |m+1,k,h1,o,s=>by
  unfold z7q zfl;simp only [c,length_map,z0f,z12];by_cases h:k<l.length
  ·rw [if_pos (by omega),if_pos (by omega),zpg h,zpg h];obtain ⟨r,f,d,q⟩:=a l[k] (getElem_mem h);rw [f,d,z05,z05,z27 k (by omega)];by_cases b:r=0
   ·rw [if_pos b,if_pos b];refine y2g n l e c j a m (k+1) (by omega) (by omega) (fun p g=>?_);rw [take_succ_eq_append_getElem h,mem_append,mem_singleton] at g;grind
   simp_all
  ·rw [if_neg (by omega),if_neg (by omega)];grind
theorem ynr:∀ (s:Nat) (e:Exn),ETr s e->s<=4000000->∀ n,s+1<n->∃ r:Int,z3o n e=some r/\zej n e=some r/\(r=0->ETrO s e):=by
 intro s
 induction s using Nat.strongRecOn with
 |ind s IH =>
  intro e m q n t;cases m with
  |mk l e h d =>
   obtain ⟨b,rfl⟩:∃ b,n=b + 1:=⟨n-1,by omega⟩;have u:=zyu (l:=l) (fun p c=>(h p c).pos);simp only [z3o,zej,ynx,yqa,z05,z12,z0f];by_cases a:ndP e=0
   ·rw [if_pos a,if_pos a];obtain ⟨r,j,g,f⟩:=y2g b l e d (by omega) (fun p c=>by
     have:=zui c;exact IH p.1 (by omega) p.2 (h p c) (by omega) b (by omega)) b 0 (by omega) (by omega) (by simp)
    exact ⟨r,j,g,fun o=>.mk l e a (f o) d⟩
   simp_all
theorem yib (s:Nat)(e:Exn)(a:ETr s e)(b:s<=4000000)(n:Nat)(f:s+1<n):∃ r:Int,z2z n e=some r/\zek n e=some r/\(r=0->ETrO s e):=by
 obtain ⟨c,o,w,v,u⟩:=yi9 64 (by omega) (by omega) s e a b n f;obtain ⟨d,m,j,t,q⟩:=ymk s e a b n f;obtain ⟨r,h,g,p⟩:=ynr s e a b n f;unfold z2z zek;rw [o,m,j,h,g];simp only [z05,z0f];grind
def wrP (k:Int)(v:Va):Int:=if vcP v=0 then (if suP k v=true then 0 else 9) else vcP v
theorem ybf (n:Nat)(k:Int)(d:1<=k/\k<=5)(v:Va):zbn n k v=some (wrP k v):=by
 unfold zbn zd2 wrP suP;simp only [p_vc,z05,z0f,z12,z3g,z1s,z4n];by_cases h:vcP v=0
 ·rw [if_pos h,if_pos h];by_cases a:v.fKind=0
  ·simp [a,z52,z05]
  ·by_cases h1:k=1
   ·simp [a,h1,z52,z05]
   ·by_cases b:k=2
    ·simp [a,h1,b,z52,z05]
    ·by_cases c:k=3
     ·simp [a,h1,b,c,z52,z05]
     ·have:k=4\/k=5:=by omega
      rcases this with rfl|rfl<;>simp [a,z52,z05]
 ·rw [if_neg h,if_neg h]
theorem ydp (n:Nat)(k:Int)(b:1<=k/\k<=5)(v:Va):za0 n k v=some (wrP k v):=by
 unfold za0 wrP;simp only [ykx,y49,z05,z0f,z12];have a:decide (k=0)=false:=by rw [decide_eq_false];omega
 simp only [a,Bool.false_or];by_cases h:vcP v=0
 ·rw [if_pos h,if_pos h];cases suP k v<;>simp [z52]
 ·rw [if_neg h,if_neg h]
def comb (k:Int)(a b:Va):Va:=if k=1 then ⟨0,IntKind.wrap .i64 (a.fNum+b.fNum),be⟩ else if k=2 then ⟨0,min a.fNum b.fNum,be⟩ else if k=3 then ⟨0,max a.fNum b.fNum,be⟩ else if k=4 then a else b
theorem yo2 (n:Nat)(k:Int)(c:1<=k/\k<=5)(a b:Va):zah n k a b=some (comb k a b):=by
 unfold zah comb;simp only [z0f];grind
theorem yqn (n:Nat)(k:Int)(c:1<=k/\k<=5)(a b:Va):zdw n k a b=some (comb k a b):=by
 unfold zdw comb;simp only [zzw,zbr,z05,zet,zes,zer,zeq,zep,zeo];grind
def AInv (k:Int)(i:Nat)(V:Va):Prop:=if i=0 then V=va0 else if k=1 then V.fKind=0/\V.fText=be/\-((i:Int)*1099511627776)<=V.fNum/\V.fNum<=(i:Int)*1099511627776 else vcP V=0/\suP k V=true
variable {k:Int}{i:Nat}{V:Va}
theorem AInv.check (n:Nat)(g:1<=k/\k<=5)(hi:i<=4096)(h:AInv k i V):za2 n ⟨k,(i:Int),V⟩=some 0/\zfm n ⟨k,(i:Int),V⟩=some 0:=by
 have o:IntKind.wrap .i64 ((i:Int)*1099511627776)=(i:Int)*1099511627776:=zga _ (by omega);have m:IntKind.wrap .i64 (0-(i:Int)*1099511627776)=-((i:Int)*1099511627776):=by rw [zga _ (by omega)];omega
 have p:¬k=0:=by omega
 have ka:(0:Int)<=k:=by omega
 have r:¬(i:Int)<0:=by omega
 have q:¬4096<(i:Int):=by omega
 unfold za2 zfm zar zd3;simp only [z05,z0f,z12,z3g,z1s,z3q,z6r,z4x,z4w,z2c,z4v,z8y,y3z,p_vc,ykx,o,m,ka,g.2,if_true,decide_true,z9u,r,q,if_false,decide_false,zae,p,zkk];unfold AInv at h;by_cases a:i=0
 ·rw [if_pos a] at h;subst a;subst h;simp [z52]
 ·rw [if_neg a] at h;have c:¬(i:Int)=0:=by omega
  simp only [c,if_false,decide_false,zae];by_cases d:k=1
  ·grind
  ·rw [if_neg d] at h;obtain ⟨h1,j⟩:=h;simp only [d,if_false,h1,y49,j,z05,if_true,Bool.or_true];refine ⟨by simp [z52],?_⟩;have:=ybf n k g V;unfold zbn wrP at this;rw [p_vc,z05] at this;simp only [h1,j,if_true,decide_true,Bool.not_true,zae] at this;cases f:zd2 n k V with
   |none=>rw [f] at this;unfold bnd at this;cases this
   |some b =>
    rw [f,z05] at this;cases b with
    |true=>simp [z05,z52]
    |false=>simp [z52] at this
def zyw (k:Int)(i:Nat)(V x:Va):Va:=if i=0 then x else comb k V x
theorem AInv.step (w:1<=k/\k<=5)(hi:i<=4096){x:Va}(h:AInv k i V)(u:wrP k x=0):AInv k (i+1) (zyw k i V x):=by
 have s:vcP x=0/\suP k x=true:=by
  unfold wrP at u;by_cases h1:vcP x=0
  ·simp_all
  ·omega
 have p:x.fKind=0->x.fText=be/\-1099511627776<=x.fNum/\x.fNum<=1099511627776:=fun v=>by
  have:=s.1;unfold vcP at this;grind
 have o:k=1\/k=2\/k=3->x.fKind=0:=fun h=>by
  have:=s.2;simp only [suP,Bool.or_eq_true,decide_eq_true_eq] at this;omega
 have nv:∀ q:Int,-1099511627776<=q->q<=1099511627776->vcP ⟨0,q,be⟩=0:=fun q h1 r=>by
  unfold vcP;grind
 unfold AInv at h ⊢;rw [if_neg (by omega)];unfold zyw;by_cases g:i=0
 ·simp_all
 ·rw [if_neg g] at h;rw [if_neg g];by_cases f:k=1
  ·rw [if_pos f] at h ⊢;obtain ⟨h1,r,z,y⟩:=h;obtain ⟨a,b,c⟩:=p (o (Or.inl f));unfold comb;rw [if_pos f];rw [zga _ (by omega)];grind
  ·rw [if_neg f] at h ⊢;obtain ⟨h1,r⟩:=h;have t:V.fKind=0->-1099511627776<=V.fNum/\V.fNum<=1099511627776:=fun v=>by
    unfold vcP at h1;omega
   have j:k=2\/k=3->V.fKind=0:=fun h=>by
    simp only [suP,Bool.or_eq_true,decide_eq_true_eq] at r;omega
   unfold comb;rw [if_neg f];by_cases m:k=2
   ·rw [if_pos m];obtain ⟨a,b,c⟩:=p (o (Or.inr (Or.inl m)));obtain ⟨d,e⟩:=t (j (Or.inl m));exact ⟨nv _ (by omega) (by omega),by simp [suP]⟩
   ·rw [if_neg m];by_cases n:k=3
    ·rw [if_pos n];obtain ⟨a,b,c⟩:=p (o (Or.inr (Or.inr n)));obtain ⟨d,e⟩:=t (j (Or.inr n));exact ⟨nv _ (by omega) (by omega),by simp [suP]⟩
    grind
theorem yq9 (n:Nat)(b:1<=k/\k<=5)(hi:i<4096)(h:AInv k i V)(x:Va):zdg n ⟨k,(i:Int),V⟩ x=some (if wrP k x=0 then (⟨k,((i+1:Nat):Int),zyw k i V x⟩,0) else (⟨0,0,⟨0,0,be⟩⟩,wrP k x)):=by
 unfold zdg;rw [(h.check n b (by omega)).1,z05];simp only [ydp n k b,z05,z0f,z12,yo2 n k b,z3g,z1s,z4j,if_true];rw [z27 i (by omega)];by_cases a:wrP k x=0
 ·rw [if_pos a,if_pos a,if_neg (by omega),if_neg (by omega)];unfold zyw;by_cases c:i=0;all_goals simp_all
 ·rw [if_neg a,if_neg a]
def bad (k:Int):List Va->Option Int
 |[]=>none
 |x::l=>if wrP k x=0 then bad k l else some (wrP k x)
def fV (k:Int):Nat->Va->List Va->Va |_,V,[]=>V |i,V,x::l=>fV k (i+1) (zyw k i V x) l
theorem ydr (n:Nat)(a:1<=k/\k<=5)(init:Va)(l:List Va)(d:l.length<=4096)(K:Int->Int->Int->Int->ByteArray->Option (Va×Int)):∀ (m i:Nat) (V:Va),i<=l.length->l.length<m+i->AInv k i V ->
  za1 n init l K m ((i:Int),k,(i:Int),V.fKind,V.fNum,V.fText)=(match bad k (l.drop i) with|some e=>some (va0,e)|none=>K k (l.length:Int) (fV k i V (l.drop i)).fKind (fV k i V (l.drop i)).fNum (fV k i V (l.drop i)).fText)/\(bad k (l.drop i)=none->AInv k l.length (fV k i V (l.drop i)))
 |0,i,V,h1,j,_=>by omega
 |m+1,i,V,h1,j,b=>by
  unfold za1;simp only [length_map,z0f,z12];by_cases h:i<l.length
  ·rw [if_pos (by omega),z0r h];have f:=yq9 n a (i:=i) (by omega) b l[i];have g:V=⟨V.fKind,V.fNum,V.fText⟩:=rfl;rw [<-g,f,z05,z0e l i h];simp only [bad,fV];by_cases c:wrP k l[i]=0
   ·simp only [c,if_true];rw [z27 i (by omega)];exact ydr n a init l d K m (i+1) _ (by omega) (by omega) (b.step a (by omega) c)
   grind
  ·rw [if_neg (by omega),drop_eq_nil_of_le (by omega)];have:i=l.length:=by omega
   subst this;exact ⟨rfl,fun _=>b⟩
theorem yi5 (n:Nat)(b:1<=k/\k<=5)(init:Va)(l:List Va)(c:l.length<=4096)(K:Option (Va×Int)):∀ (m i:Nat),i<=l.length->l.length<m+i->zd4 n init l k K m (i:Int)=(match bad k (l.drop i) with|some e=>some (va0,e)|none=>K)
 |0,i,h1,d=>by omega
 |m+1,i,h1,d=>by
  unfold zd4;simp only [length_map,z0f,z12];by_cases h:i<l.length
  ·rw [if_pos (by omega),z0r h,ybf n k b,z05,z0e l i h];simp only [bad];by_cases a:wrP k l[i]=0
   ·simp only [a,if_true];rw [z27 i (by omega)];exact yi5 n b init l c K m (i+1) (by omega) (by omega)
   ·simp only [a,if_false]
  ·rw [if_neg (by omega),drop_eq_nil_of_le (by omega)];rfl
theorem zzo (n:Nat)(a:1<=k/\k<=5)(l:List Va)(c:l.length<=4096)(K:Int->Int->Int->Int->ByteArray->Option z0p):∀ (m i:Nat) (V:Va),i<=l.length->l.length<m+i ->
  zaa n k l K m ((i:Int),k,(i:Int),V.fKind,V.fNum,V.fText)=K k (l.length:Int) (fV k i V (l.drop i)).fKind (fV k i V (l.drop i)).fNum (fV k i V (l.drop i)).fText
 |0,i,V,h1,j=>by omega
 |m+1,i,V,h1,j=>by
  unfold zaa;simp only [length_map,z0f];by_cases h:i<l.length
  ·rw [if_pos (by omega),z0r h,z0e l i h];unfold zhy zgj zgk;have f:¬k=0:=by omega
   have g:V=⟨V.fKind,V.fNum,V.fText⟩:=rfl;simp only [z0f,f,if_false,z05];rw [<-g,yqn n k a];simp only [fV];by_cases d:i=0
   ·have:((i:Nat):Int)=0:=by omega
    rw [if_pos this,z05,z27 i (by omega)];have e:=zzo n a l c K m (i+1) (zyw k i V l[i]) (by omega) (by omega);have b:zyw k i V l[i]=l[i]:=by unfold zyw;rw [if_pos d]
    rw [b] at e ⊢;have o:((i+1:Nat):Int)=1:=by omega
    rw [o] at e ⊢;rw [z05];exact e
   ·rw [if_neg (by omega),if_neg (by omega),z05,z05,z27 i (by omega)];have e:=zzo n a l c K m (i+1) (zyw k i V l[i]) (by omega) (by omega);have b:zyw k i V l[i]=comb k V l[i]:=by unfold zyw;rw [if_neg d]
    rw [b] at e ⊢;rw [z05];exact e
  ·rw [if_neg (by omega),drop_eq_nil_of_le (by omega)];have:i=l.length:=by omega
   subst this;rfl
theorem ykz (n:Nat)(hk:1<=k/\k<=5)(hi:i<=4096)(h:AInv k i V)(init:Va):∃ r,z9a n ⟨k,(i:Int),V⟩ init=some r/\zc9 n ⟨k,(i:Int),V⟩ init=some r:=by
 obtain ⟨h1,h2⟩:=h.check n hk hi
 unfold z9a zc9
 rw [h1,h2]
 simp only [z05,ydp n k hk,ybf n k hk,z0f,z12,z3g,z1s,z42,z8f,if_true,z52]
 repeat' split
 all_goals exact ⟨_,rfl,rfl⟩
theorem p_of (n:Nat)(w:5000<n)(c:1<=k/\k<=5)(l:List Va)(init:Va):∃ r,zc3 n k l init=some r/\zg9 n k l init=some r:=by
 unfold zc3 zg9 zar zd3;have ka:(0:Int)<=k:=by omega
 simp only [z05,z0f,z12,z3g,z1s,z3q,z6r,ka,c.2,if_true,length_map,decide_true,z9u];by_cases h:4096<l.length
 ·rw [if_pos (by omega),if_pos (by omega)];exact ⟨_,rfl,rfl⟩
 ·rw [if_neg (by omega),if_neg (by omega)];have p:=ydr n c init l (by omega) (fun m j g f d=>bnd (z9a n (⟨m,j,⟨g,f,d⟩⟩:z0p) init) fun a=>some (a.1,a.2)) n 0 va0 (by omega) (by omega) (by simp [AInv]);have s:=yi5 n c init l (by omega) (bnd (zen n (⟨k,0,⟨0,0,ByteArray.empty⟩⟩:z0p) l k) fun o=>bnd (zc9 n o init) fun b=>some (b.1,b.2)) n 0 (by omega) (by omega);simp only [Int.natCast_zero,drop_zero] at p s;rw [p.1,s];cases v:bad k l with
  |some e=>exact ⟨_,rfl,rfl⟩
  |none =>
   have hi:=p.2 v;have q:=zzo n c l (by omega) (fun m j g f d=>some (⟨m,j,⟨g,f,d⟩⟩:z0p)) n 0 va0 (by omega) (by omega);simp only [Int.natCast_zero,drop_zero] at q;unfold zen;rw [q];simp only [z05];obtain ⟨r,u,t⟩:=ykz n c (i:=l.length) (by omega) hi init;rw [u,t];simp only [z05];exact ⟨_,rfl,rfl⟩
def evs (vs:List (List Ev))(v:Int):List Ev:=if v<0 then [] else if (vs.length:Int)<=v then [] else vs.getD v.toNat []
theorem zli {α:Type}{l:List α}{i:Int}(d:α)(k:α->Option β)(a:0<=i)(h1:i<(l.length:Int)):idx l i k=k (l.getD i.toNat d):=by
 obtain ⟨m,rfl⟩:∃ m:Nat,i=m:=⟨i.toNat,by omega⟩;have hm:m<l.length:=by omega
 rw [z0r hm];simp_all
theorem zzi (n:Nat)(vs:List (List Ev))(v:Int):z74 n ⟨vs⟩ v=some (evs vs v):=by
 unfold z74 evs;simp only [z3g,z1s,z41,length_map,z0f,z9u];by_cases h:v<0
 ·rw [if_pos h,if_pos h]
 ·rw [if_neg h,if_neg h];by_cases a:(vs.length:Int)<=v
  ·rw [if_pos a,if_pos a]
  ·rw [if_neg a,if_neg a,zli [] _ (by omega) (by omega)]
theorem y4b (n:Nat)(vs:List (List Ev))(own:Int)(ev:Ev)(v:Int):z80 n ⟨vs⟩ own ev v=some (evs vs v):=by
 unfold z80 evs;simp only [z3g,z1s,z35,length_map,z0f,z9u];by_cases h:v<0
 ·rw [if_pos h,if_pos h]
 ·rw [if_neg h,if_neg h];by_cases a:(vs.length:Int)<=v
  ·rw [if_pos a,if_pos a]
  ·rw [if_neg a,if_neg a,zli [] _ (by omega) (by omega)]
theorem yi8 (n:Nat)(ev:Ev)(f:Int)(a:0<=f):zh7 n ev f=some (if (ev.fValues.length:Int)<=f then (va0,6) else (ev.fValues.getD f.toNat va0,0)):=by
 unfold zh7;simp only [length_map,z0f];by_cases h:(ev.fValues.length:Int)<=f
 ·rw [if_pos h,if_pos h]
 ·rw [if_neg h,if_neg h,zli va0 _ a (by omega)]
theorem y2h (n:Nat)(e:Exn)(a:0<=e.fField)(es:List Ev)(d:es.length<=1000000)(K K':List Va->Option (Va×Int))(c:∀ l,∃ r,K l=some r/\K' l=some r):∀ (m i:Nat) (acc:List Va),i<=es.length->es.length<m+i->acc.length=i ->
  ∃ r,z8m n e es K m ((i:Int),acc)=some r/\z5j n e es K' m ((i:Int),acc)=some r
 |0,i,acc,h1,f,_=>by omega
 |m+1,i,acc,h1,f,g=>by
  unfold z8m z5j;simp only [length_map,z0f,z12];by_cases h:i<es.length
  ·rw [if_pos (by omega),if_pos (by omega)];simp only [z0r h];rw [yi8 n _ _ a,z05];by_cases b:(es[i].fValues.length:Int)<=e.fField
   ·simp_all
   ·rw [if_neg b,if_neg b,zli va0 _ a (by omega)];simp only [if_true];rw [zcu (by simp;omega) (by omega),zcu (by simp;omega) (by omega),z27 i (by omega)];exact y2h n e a es d K K' c m (i+1) _ (by omega) (by omega) (by simp;omega)
  ·rw [if_neg (by omega),if_neg (by omega)];exact c acc
theorem yed (h:ndP e=0):0<=arP e.fOp/\(e.fArgs.length:Int)=arP e.fOp/\(usF e.fOp=true->0<=e.fField)/\(e.fOp=4->1<=e.fKind/\e.fKind<=5):=by
 unfold ndP at h;grind
inductive Occ (i:Nat):Exn->Prop
 |here (e:Exn) (h:usV e.fOp=true) (hv:e.fVar=(i:Int)):Occ i e
 |sub (e y:Exn) (hy:z0n y∈e.fArgs) (h:Occ i y):Occ i e
theorem yqr (h:ndP e=0)(a:usV e.fOp=true):0<=e.fVar/\e.fVar<16:=by
 unfold ndP at h;grind
theorem yqb (n:Nat)(N:2000000<n)(e:Exn)(s:ndP e=0)(P:e.fArgs.length=0)(a b:List (List Ev))(E:∀ i:Nat,Occ i e->evs a (i:Int)=evs b (i:Int))(F:∀ v,(evs a v).length<=1000000)(own:Int)(ev:Ev) :
  ∃ r,zaq n e ⟨a⟩ own ev=some r/\z9d n ⟨b⟩ own ev e=some r:=by
 obtain ⟨h,g,I,M⟩:=yed s;by_cases o0:e.fOp=0
 ·unfold zaq z9d;simp only [zzi,y4b,z05,z0f,o0,if_true];exact ⟨_,rfl,rfl⟩
 have H:usV e.fOp=true:=by
  unfold arP at h g;by_cases c:e.fOp<0
  ·rw [if_pos c] at h;omega
  by_cases q:12<e.fOp
  ·rw [if_neg c,if_pos q] at h;omega
  rw [if_neg c,if_neg q] at g;by_cases G:e.fOp<5
  ·unfold usV;grind
  ·rw [if_neg G] at g;split at g<;>omega
 have u:evs a e.fVar=evs b e.fVar:=by
  have D:=yqr s H;have:=E e.fVar.toNat (.here e H (by omega))
  rwa [show ((e.fVar.toNat:Nat):Int)=e.fVar by omega] at this
 unfold zaq z9d;simp only [zzi,y4b,<-u,z05,z0f,z12,length_map];rw [if_neg o0,if_neg o0];by_cases o3:e.fOp=3
 ·simp_all
 rw [if_neg o3,if_neg o3];by_cases f:e.fOp=4
 ·rw [if_pos f,if_pos f];unfold zcs;rw [y4b,<-u,z05];have t:=I (by rw [f];decide);have L:=M f;obtain ⟨r,z,w⟩:=y2h n e t (evs a e.fVar) (F _) (fun y=>bnd (zc3 n e.fKind y e.fValue) fun m=>some (m.1,m.2)) (fun y=>bnd (zg9 n e.fKind y e.fValue) fun o=>some (o.1,o.2)) (fun l=>by
   obtain ⟨r,z,w⟩:=p_of n (by omega) L l e.fValue;exact ⟨r,by rw [z,z05],by rw [w,z05]⟩) n 0 [] (by omega) (by have:=F e.fVar;omega) rfl
  simp only [Int.natCast_zero] at z w;rw [z,w];exact ⟨r,rfl,by rw [z05]⟩
 rw [if_neg f,if_neg f];have K:e.fOp=1\/e.fOp=2:=by
  unfold arP at h g;by_cases c:e.fOp<0
  ·rw [if_pos c] at h;omega
  by_cases q:12<e.fOp
  ·rw [if_neg c,if_pos q] at h;omega
  rw [if_neg c,if_neg q] at g;by_cases G:e.fOp<5
  ·omega
  ·omega
 simp only [z3g,z1s,z47,z44];unfold zf6;simp only [zzi,z05,z0f,z12,length_map];have tail:∀ x:Ev,∃ r,(if e.fOp=2 then some ((⟨0,x.fTime,be⟩:Va),(0:Int)) else if (x.fValues.length:Int)<=e.fField then some (va0,6) else idx x.fValues e.fField fun C=>bnd (z3r n C) fun j=>if j=0 then (idx x.fValues e.fField fun B=>some (B,0)) else some (va0,j))=some r /\
   (if e.fOp=2 then some ((⟨0,x.fTime,be⟩:Va),(0:Int)) else bnd (zh7 n (⟨x.fSource,x.fSeq,x.fType,x.fTime,x.fValues⟩:z03) e.fField) fun d=>if d.2=0 then (bnd (zcp n d.1) fun p=>if p=0 then some (d.1,0) else some (va0,p)) else if d.2=0 then some (d.1,0) else some (va0,d.2))=some r:=fun x=>by
  by_cases o2:e.fOp=2
  ·simp_all
  rw [if_neg o2,if_neg o2];have J:e.fOp=1:=by omega
  have t:=I (by rw [J];decide);rw [yi8 n _ _ t,z05];by_cases D:(x.fValues.length:Int)<=e.fField
  ·simp only [D,if_true];exact ⟨_,rfl,rfl⟩
  ·simp only [D,if_false];rw [zli va0 _ t (by omega),zli va0 _ t (by omega),ykx,p_vc,z05];simp only [if_true,z05];split;all_goals simp_all
 by_cases A:e.fVar=own
 ·rw [if_pos A,if_pos A,z05];simp only [z9u];exact tail ev
 ·rw [if_neg A,if_neg A];by_cases O:(evs a e.fVar).length=0
  ·rw [if_pos (by omega),if_pos (by omega),z05];simp only [zae];exact ⟨_,rfl,rfl⟩
  ·rw [if_neg (by omega),if_neg (by omega),zga _ (by have:=F e.fVar;omega),zli ev _ (by omega) (by omega),zli ev _ (by omega) (by omega),z05];simp only [z9u];exact tail _
theorem yg2 (n:Nat)(op:Int)(h:5<=op/\op<=12):z9z n op=some (if op<9 then 0 else if op=9 then -1 else 1):=by
 have:op=5\/op=6\/op=7\/op=8\/op=9\/op=10\/op=11\/op=12:=by omega
 unfold z9z;simp only [z3g,z1s,z1r,z26,z0f];grind
theorem zvf (n:Nat)(op:Int)(h:5<=op/\op<=12)(a:List Int)(p:a.length<=4000000):∀ (m i:Nat),i<=a.length->a.length<m+i->∃ r,z1d n a op (some 0) m (i:Int)=some r/\z51 n a op (some 0) m (i:Int)=some r/\(r=0\/r=9)
 |0,i,h1,s=>by omega
 |m+1,i,h1,s=>by
  unfold z1d z51;simp only [length_map,z0f,z12,yg2 n op h,z05,z3g,z1s,z1k,z7h,z8z];by_cases hi:i<a.length
  ·have b:((i:Nat):Int)<((a.length:Nat):Int):=by omega
   simp only [b,if_true];obtain ⟨r,f,d,c⟩:=zvf n op h a p m (i+1) (by omega) (by omega);rw [z27 i (by omega),f,d];have g:∀ (K:Int->Option Int),idx a 0 K=K (a.headD 0):=fun K=>by
    have:=z0r (l:=a) (i:=0) (by omega) K;simp only [Int.natCast_zero] at this;rw [this];congr 1;cases a with
    |nil=>simp at hi
    |cons x q=>rfl
   have j:∀ (K:Int->Option Int),idx a (i:Int) K=K a[i]:=fun K=>z0r hi K
   simp only [g,j];generalize a[i]=k;generalize a.headD 0=o;have:op=5\/op=6\/op=7\/op=8\/op=9\/op=10\/op=11\/op=12:=by omega
   clear f d g j h;rcases this with rfl|rfl|rfl|rfl|rfl|rfl|rfl|rfl
   all_goals
    simp [z52];first
    |(by_cases q:k=0<;>simp [q,c])
    |(by_cases q:k=1<;>simp [q,c])
    |(by_cases q:k=o<;>simp [q,c])
  ·have b:¬((i:Nat):Int)<((a.length:Nat):Int):=by omega
   simp only [b,if_false];exact ⟨0,rfl,rfl,Or.inl rfl⟩
theorem yi7 (n:Nat)(b:Bool):zan n b=some (if b=true then ⟨1,1,be⟩ else ⟨1,0,be⟩):=by
 unfold zan zll;cases b<;>simp [z52,z05]
theorem ybh (n:Nat)(b:Bool):z1m n b=some (if b=true then ⟨1,1,be⟩ else ⟨1,0,be⟩):=by
 unfold z1m;cases b<;>simp [z52]
section
variable {α β:Type}
theorem y4g {len:Nat}(h:0<len)(k:Nat->Option β):nat 0 len k=k 0:=by have:=zeu (i:=0) h k;simpa using this
theorem yee {len:Nat}(h:1<len)(k:Nat->Option β):nat 1 len k=k 1:=by have:=zeu (i:=1) h k;simpa using this
theorem yot {x y:α}{l:List α}(k:α->Option β):idx (x::y::l) 1 k=k y:=by have:=z0r (l:=x::y::l) (i:=1) (by simp) k;simpa using this
end
theorem w21:IntKind.wrap .i64 (((2:Nat):Int)-1)=1:=by decide
theorem w11:IntKind.wrap .i64 (((1:Nat):Int)-1)=0:=by decide
theorem yla (n:Nat)(op:Int)(h:5<=op/\op<=11)(x y:Va):∃ v,z88 n op [x,y]=some v /\
  (cnd (decide (op=9))
    (nat 0 (List.map z09 [x,y]).length fun g=>elt [x,y] g fun c=>nat 1 (List.map z09 [x,y]).length fun f=>elt [x,y] f fun b =>
      bnd (zan n (decide (c.fKind=b.fKind) && (decide (c.fNum=b.fNum) && ((c.fText.toList == b.fText.toList) && true)))) fun d=>some (d,(0:Int)))
  <| natc op 5 (bnd (zds n x.fNum y.fNum) fun a=>some (a,0))
  <| natc op 6 (bnd (zdr n x.fNum y.fNum) fun a=>some (a,0))
  <| natc op 7 (bnd (zdq n x.fNum y.fNum) fun a=>some (a,0))
  <| natc op 8 (bnd (zdp n x.fNum y.fNum) fun a=>some (a,0))
  <| natc op 10 (bnd (zdo n x.fNum y.fNum) fun a=>some (a,0))
  <| natc op 11 (bnd (zdn n x.fNum y.fNum) fun a=>some (a,0))
  <| natc op 12 (bnd (z9t n x.fNum y.fNum) fun a=>some (a,0))
  <| none)=some (v,0):=by
 have:op=5\/op=6\/op=7\/op=8\/op=9\/op=10\/op=11:=by omega
 have o:(List.map z09 [x,y]).length=2:=rfl;have m:∀ k:Nat->Option (Va×Int),nat 0 2 k=k 0:=fun k=>y4g (by omega) k
 have j:∀ k:Nat->Option (Va×Int),nat 1 2 k=k 1:=fun k=>yee (by omega) k
 have r:∀ k:Va->Option (Va×Int),elt [x,y] 0 k=k x:=fun k=>zia (by simp) k
 have p:∀ k:Va->Option (Va×Int),elt [x,y] 1 k=k y:=fun k=>zia (by simp) k
 unfold z88 zds zdr zdq zdp zdo zdn z9t zdt;simp only [o,m,j,r,p,yeo,yot,z0f,zzw,yi7,ybh,z05,z3g,z1s,z7c,z7b,z4s,z4r];rcases this with rfl|rfl|rfl|rfl|rfl|rfl|rfl
 ·exact ⟨_,rfl,rfl⟩
 ·exact ⟨_,rfl,rfl⟩
 ·exact ⟨_,rfl,rfl⟩
 ·exact ⟨_,rfl,rfl⟩
 ·exact ⟨_,rfl,rfl⟩
 ·by_cases q:x.fNum=1
  ·simp [q,z05]
  ·simp [q,z05]
 ·by_cases q:x.fNum=1
  ·simp [q,z05]
  ·simp [q,z05]
theorem ylb (n:Nat)(x:Va):∃ v,z88 n 12 [x]=some v/\z9t n x.fNum x.fNum=some v:=by
 unfold z88 z9t;simp only [yeo,z0f,yi7,ybh,z05];exact ⟨_,rfl,rfl⟩
theorem ETrO.pos {s:Nat}(h:ETrO s e):1<=s:=by cases h;omega
theorem y8g (n:Nat)(l:List (Nat×Exn))(e:Exn)(f:e.fArgs=l.map (fun p=>z0n p.2))(q:l.length<=4000000)(a b:List (List Ev))(own:Int)(ev:Ev)
  (d:∀ p∈l,∃ r,z4m n p.2 ⟨a⟩ own ev=some r/\z38 n ⟨b⟩ own ev p.2=some r) (K K':List Va->List Int->Option (Va×Int)) (s:∀ vs,vs.length=l.length->∃ r,K vs (vs.map (·.fKind))=some r/\K' vs (vs.map (·.fKind))=some r) :
  ∀ (m k:Nat) (vs:List Va),k<=l.length->l.length<m+k->vs.length=k->∃ r,z8n n (z4m n) ev own ⟨a⟩ e K m ((k:Int),vs,vs.map (·.fKind))=some r/\z6o n (z38 n) e ev own ⟨b⟩ K' m ((k:Int),vs,vs.map (·.fKind))=some r
 |0,k,vs,h1,t,_=>by omega
 |m+1,k,vs,h1,t,u=>by
  unfold z8n z6o;simp only [f,length_map,z0f,z12];by_cases h:k<l.length
  ·have c:((k:Nat):Int)<((l.length:Nat):Int):=by omega
   simp only [c,if_true];rw [zpg h,zpg h];obtain ⟨⟨v,x⟩,j,g⟩:=d l[k] (getElem_mem h);rw [j,g,z05,z05];by_cases o:x=0
   ·simp only [o,if_true];rw [zcu (by simp;omega) (by omega),zcu (by simp;omega) (by omega),zcu (by simp;omega) (by omega),zcu (by simp;omega) (by omega),z27 k (by omega)];have:=y8g n l e f q a b own ev d K K' s m (k+1) (vs++[v]) (by omega) (by omega) (by simp;omega);simpa using this
   simp_all
  grind
theorem yqg (a b:List (List Ev))(Q:∀ v,(evs a v).length<=1000000)(own:Int)(ev:Ev):∀ (s:Nat) (e:Exn),ETrO s e->(∀ i:Nat,Occ i e->evs a (i:Int)=evs b (i:Int))->s<=4000000->∀ n,s+5000000<n->∃ r,z4m n e ⟨a⟩ own ev=some r/\z38 n ⟨b⟩ own ev e=some r:=by
 intro s
 induction s using Nat.strongRecOn with
 |ind s IH =>
  intro e N j U n W;cases N with
  |mk l e g h G =>
   obtain ⟨d,rfl⟩:∃ d,n=d + 1:=⟨n-1,by omega⟩;have X:l.length<=(l.map (·.1)).sum:=zyu (l:=l) (fun p q=>(h p q).pos);obtain ⟨H,D,Z,Y⟩:=yed g;simp only [z4m,z38,length_map,z0f,z12];by_cases R:e.fArgs.length=0
   ·have:((e.fArgs.length:Nat):Int)=0:=by omega
    simp only [this,if_true];obtain ⟨r,o,m⟩:=yqb d (by omega) e g R a b j Q own ev;rw [o,m,z05];exact ⟨_,rfl,rfl⟩
   ·have:¬((e.fArgs.length:Nat):Int)=0:=by omega
    simp only [this,if_false];have P:e.fArgs.length=l.length:=by rw [G,length_map]
    have c:5<=e.fOp/\e.fOp<=12/\(e.fOp=12->l.length=1)/\(e.fOp≠12->l.length=2):=by
     unfold arP at H D;by_cases F:e.fOp<0
     ·rw [if_pos F] at H;omega
     by_cases J:12<e.fOp
     ·omega
     rw [if_neg F,if_neg J] at D;by_cases I:e.fOp<5
     ·rw [if_pos I] at D;omega
     ·omega
    refine y8g d l e G (by omega) a b own ev (fun p q=>by
     have:=zui q;exact IH p.1 (by omega) p.2 (h p q) (fun i hi=>j i (.sub e p.2 (by grind) hi)) (by omega) d (by omega)) _ _ (fun vs M=>?_) d 0 [] (by omega) (by omega) rfl
    obtain ⟨r,o,m,T⟩:=zvf d e.fOp ⟨c.1,c.2.1⟩ (vs.map (·.fKind)) (by rw [length_map];omega) d 0 (by omega) (by rw [length_map];omega);simp only [Int.natCast_zero] at o m;unfold zc2 zig;rw [o,m,z05,z05];by_cases O:r=0
    ·simp only [O,if_true];by_cases f:e.fOp=12
     ·have C:vs.length=1:=by have:=c.2.2.1 f;omega
      match vs,C with
      |[x],_ =>
       obtain ⟨v,u,t⟩:=ylb d x;rw [f,u,z05];have w:∀ k:Nat->Option (Va×Int),nat 0 1 k=k 0:=fun k=>y4g (by omega) k
       have E:∀ k:Va->Option (Va×Int),elt [x] 0 k=k x:=fun k=>zia (by simp) k
       have A:∀ z:Option (Va×Int),ltx 0 1 z=z:=fun z=>y8n (by omega) z
       simp only [zzw,length_cons,length_nil,Nat.zero_add,w11,w,E,A,t,z05];exact ⟨_,rfl,rfl⟩
     ·have B:vs.length=2:=by have:=c.2.2.2 f;omega
      match vs,B with
      |[x,y],_ =>
       obtain ⟨v,u,t⟩:=yla d e.fOp ⟨c.1,by omega⟩ x y;rw [u,z05];refine ⟨(v,0),rfl,?_⟩;rw [<-t];have w:∀ k:Nat->Option (Va×Int),nat 0 2 k=k 0:=fun k=>y4g (by omega) k
       have K:∀ k:Nat->Option (Va×Int),nat 1 2 k=k 1:=fun k=>yee (by omega) k
       have E:∀ k:Va->Option (Va×Int),elt [x,y] 0 k=k x:=fun k=>zia (by simp) k
       have S:∀ k:Va->Option (Va×Int),elt [x,y] 1 k=k y:=fun k=>zia (by simp) k
       have A:∀ z:Option (Va×Int),ltx 0 2 z=z:=fun z=>y8n (by omega) z
       have L:∀ z:Option (Va×Int),ltx 1 2 z=z:=fun z=>y8n (by omega) z
       simp only [zzw,z0f,length_map,length_cons,length_nil,Nat.zero_add,Nat.reduceAdd,w21,w,K,E,S,A,L]
    simp_all
theorem ynu (a b:List (List Ev))(o:∀ v,(evs a v).length<=1000000)(own:Int)(ev:Ev)(s:Nat)(e:Exn)(f:∀ i:Nat,Occ i e->evs a (i:Int)=evs b (i:Int))(m:ETr s e)(g:s<=4000000)(n:Nat)(u:10000000<n) :
  ∃ r,z2w n e ⟨a⟩ own ev=some r/\zfp n e ⟨b⟩ own ev=some r:=by
 obtain ⟨c,t,q,p⟩:=yib s e m g n (by omega);unfold z2w zfp zf7 zpy;rw [t,q];simp only [z05,z0f,z12,yi7,ybh,z3g,z1s,z4t,zdv];by_cases d:c=0
 ·simp only [d,if_true];obtain ⟨r,j,h⟩:=yqg a b o own ev s e (p d) f g n (by omega);rw [j,h];simp only [z05];split;all_goals simp_all
 ·simp only [d,if_false,z05];exact ⟨_,rfl,rfl⟩
end Go.Proofs.YtidhlpjgifoneaaGreat
