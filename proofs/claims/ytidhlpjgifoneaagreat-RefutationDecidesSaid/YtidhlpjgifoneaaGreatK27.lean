/- Layers 1, 7, 8, plainly. -/
import Derived.Test.YtidhlpjgifoneaaGreatK26
set_option linter.unusedVariables false
set_option linter.unusedSimpArgs false
namespace Go.Proofs.YtidhlpjgifoneaaGreat
open Go.RowKit List
abbrev Va:=z05
abbrev Ev:=z03
abbrev Exn:=z0r
abbrev be:ByteArray:=ByteArray.empty
abbrev va0:Va:=⟨0,0,ByteArray.empty⟩
def vcP (v:Va):Int :=
 if v.fKind<0 then 1 else if 2<v.fKind then 1 else if v.fKind=2 then (if v.fNum=0 then (if 64<v.fText.size then 13 else 0) else 3) else
 if v.fText=be then (if v.fKind=1 then (if v.fNum<0 then 2 else if 1<v.fNum then 2 else 0) else if v.fNum < -1099511627776 then 2 else if 1099511627776<v.fNum then 2 else 0) else 3
theorem yiw (n:Nat)(v:Va):z3u n v=some (vcP v):=by
 unfold z3u vcP
 simp only [z0d,z0w,zjc]
 grind
variable {β:Type}
theorem yab {α:Type}(p:Prop)[Decidable p](x y:Option α)(k:α->Option β):bnd (if p then x else y) k=if p then bnd x k else bnd y k:=by split<;>rfl
theorem p_vc (n:Nat)(v:Va):zca n v=some (vcP v):=by
 obtain ⟨k,x,t⟩:=v
 unfold zca zg3 vcP
 simp only [z0d,z0w,zjc]
 by_cases k0:k=0
 ·subst k0
  by_cases ht:t=be
  ·subst ht
   have hs:be.size=0:=rfl
   simp [hs,z04,yab]
   grind
  ·simp [ht]
 ·by_cases k1:k=1
  ·subst k1
   by_cases ht:t=be
   ·subst ht
    have hs:be.size=0:=rfl
    simp [hs,z04,yab]
    grind
   ·simp [ht]
  ·by_cases k2:k=2
   ·subst k2
    simp [z04,yab]
    grind
   grind
theorem yng (x y:Va):(decide (x.fKind=y.fKind) && (decide (x.fNum=y.fNum) && ((x.fText.toList == y.fText.toList) && true)))=decide (x=y):=by
 cases x;cases y
 simp [zjc]
theorem y1l (x:Va):(decide (x.fKind=0) && (decide (x.fNum=0) && ((x.fText.toList == ByteArray.empty.toList) && true)))=decide (x=va0):=yng x va0
def arP (op:Int):Int:=if op<0 then -1 else if 12<op then -1 else if op<5 then 0 else if op=12 then 1 else 2
theorem yj1 (n:Nat)(op:Int):zbl n op=some (arP op):=by
 unfold zbl arP
 simp only [z29,z1d,z1w,z1g,z0d,z58,decide_eq_true_eq]
 by_cases h1:op<0
 ·simp [h1,show op≠0 by omega,show op≠1 by omega,show op≠2 by omega,show op≠3 by omega,show op≠4 by omega,show op≠5 by omega,show op≠6 by omega,show op≠7 by omega,show op≠8 by omega,show op≠9 by omega,show op≠10 by omega,show op≠11 by omega,show op≠12 by omega]
 ·by_cases h2:12<op
  ·simp [h1,h2,show op≠0 by omega,show op≠1 by omega,show op≠2 by omega,show op≠3 by omega,show op≠4 by omega,show op≠5 by omega,show op≠6 by omega,show op≠7 by omega,show op≠8 by omega,show op≠9 by omega,show op≠10 by omega,show op≠11 by omega,show op≠12 by omega]
  ·have:op=0\/op=1\/op=2\/op=3\/op=4\/op=5\/op=6\/op=7\/op=8\/op=9\/op=10\/op=11\/op=12:=by omega
   rcases this with rfl|rfl|rfl|rfl|rfl|rfl|rfl|rfl|rfl|rfl|rfl|rfl|rfl<;>rfl
theorem ym2 (n:Nat)(op:Int):zi8 n op=some (if op<0 then (0,false) else if 12<op then (0,false) else (arP op,true)):=by
 unfold zi8 arP
 simp only [z29,z1d,zdi,z0d,z58,decide_eq_true_eq,if_true]
 grind
def usV (op:Int):Bool:=decide (op=1) || decide (op=2) || decide (op=3) || decide (op=4)
def usF (op:Int):Bool:=decide (op=1) || decide (op=4)
theorem ylm (n:Nat)(op:Int):zc1 n op=some (usV op,usF op):=by
 unfold zc1
 simp only [z29,z1d,z5v,z3q,z0d,z58,decide_eq_true_eq,if_true]
 by_cases h1:op=1
 ·subst h1;rfl
 ·by_cases h2:op=2
  ·subst h2;rfl
  ·by_cases h3:op=3
   ·subst h3;rfl
   ·by_cases h4:op=4
    ·subst h4;rfl
    ·simp [usV,usF,h1,h2,h3,h4]
theorem ykd (n:Nat)(op:Int):zhu n op=some (usV op,usF op):=by
 unfold zhu
 simp only [z29,z1d,zek,zej,z0d,z58,decide_eq_true_eq,if_true]
 by_cases h1:op=1
 ·subst h1;rfl
 ·by_cases h2:op=2
  ·subst h2;rfl
  ·by_cases h3:op=3
   ·subst h3;rfl
   ·by_cases h4:op=4
    ·subst h4;rfl
    ·simp [usV,usF,h1,h2,h3,h4]
def suP (k:Int)(v:Va):Bool:=decide (v.fKind=0) || decide (k=4) || decide (k=5)
theorem ylk (n:Nat)(k:Int)(v:Va):zi7 n k v=some (suP k v):=by
 unfold zi7
 simp only [z29,z1d,zbp,z0d]
 by_cases h1:v.fKind=0
 ·simp [suP,h1]
 ·by_cases h2:k=4
  ·simp [suP,h1,h2]
  ·simp [suP,h1,h2]
theorem y1w (n:Nat)(k:Int)(v:Va):z7z n k v=some (decide (k=0) || suP k v):=by
 unfold z7z
 simp only [z29,z1d,z2d,z0d]
 by_cases h1:v.fKind=0
 ·simp [suP,h1]
 ·by_cases h2:k=4
  ·by_cases h3:k=0
   ·simp [suP,h1,h2,h3]
   ·simp [suP,h1,h2]
  ·by_cases h3:k=0
   ·simp [suP,h1,h2,h3]
   ·simp [suP,h1,h2,h3]
def ndP (e:Exn):Int :=
 if arP e.fOp<0 then 1 else if (e.fArgs.length:Int)≠arP e.fOp then 15 else
 if (usV e.fOp && (decide (e.fVar<0) || decide (16<=e.fVar))) || (usF e.fOp && (decide (e.fField<0) || decide (8<=e.fField))) then 2 else
 if decide (e.fOp=4) && (decide (e.fKind<1) || decide (5<e.fKind)) then 1 else
 if (decide (e.fOp=4) || decide (e.fOp=0)) && !decide (vcP e.fValue=0) then vcP e.fValue else
 if decide (e.fOp=4) && (!(suP e.fKind e.fValue) || (decide (e.fKind=1) && !decide (e.fValue=va0))) then 9 else
 if (!(usV e.fOp) && !decide (e.fVar=0)) || (!(usF e.fOp) && !decide (e.fField=0)) || (!decide (e.fOp=4) && !decide (e.fKind=0)) || (!(decide (e.fOp=4) || decide (e.fOp=0)) && !decide (e.fValue=va0)) then 3 else 0
theorem ycx (op:Int)(h:¬arP op<0):op=0\/op=1\/op=2\/op=3\/op=4\/(usV op=false/\usF op=false/\op≠0/\op≠4):=by
 unfold arP at h
 by_cases h0:op=0
 ·exact Or.inl h0
 by_cases h1:op=1
 ·exact Or.inr (Or.inl h1)
 by_cases h2:op=2
 ·exact Or.inr (Or.inr (Or.inl h2))
 by_cases h3:op=3
 ·omega
 by_cases h4:op=4
 ·omega
 exact Or.inr (Or.inr (Or.inr (Or.inr (Or.inr ⟨by simp [usV,h1,h2,h3,h4],by simp [usF,h1,h4],h0,h4⟩))))
theorem us0:usV 0=false/\usF 0=false:=by decide
theorem us1:usV 1=true/\usF 1=true:=by decide
theorem us2:usV 2=true/\usF 2=false:=by decide
theorem us3:usV 3=true/\usF 3=false:=by decide
theorem us4:usV 4=true/\usF 4=true:=by decide
theorem yln (n:Nat)(e:Exn):zc2 n e=some (ndP e):=by
 unfold zc2
 rw [yj1,z04,ylm]
 simp only [z04,length_map,z0d,z0w,yiw,y1w,z29,z1d,z1f,z3s,z5x,z5w,z2t,z0j,y1l]
 unfold ndP
 by_cases ha:arP e.fOp<0
 ·rw [if_pos ha,if_pos ha]
 rw [if_neg ha,if_neg ha]
 by_cases hl:(e.fArgs.length:Int)=arP e.fOp
 rotate_left
 ·rw [if_neg hl,if_pos hl]
 rw [if_pos hl,if_neg (show ¬((e.fArgs.length:Int)≠arP e.fOp) from fun h=>h hl)]
 have hc:=ycx e.fOp ha
 obtain ⟨op,args,var,field,kind,val⟩:=e
 simp only at *
 clear hl ha
 rcases hc with rfl|rfl|rfl|rfl|rfl|⟨h1,h2,h3,h4⟩
 ·simp [us0,z58]
  grind
 ·simp [us1,z58]
  grind
 ·simp [us2,z58]
  grind
 ·simp [us3,z58]
  grind
 ·simp [us4,z58]
  grind
 ·simp [h1,h2,h3,h4,z58]
  grind
theorem y93 (n:Nat)(e:Exn):zfh n e=some (if vcP e.fValue=0 then (if decide (e.fOp=4) && (!(suP e.fKind e.fValue) || (decide (e.fKind=1) && !decide (e.fValue=va0))) then 9 else 0) else vcP e.fValue):=by
 unfold zfh
 rw [p_vc,z04]
 simp only [z0d,z0w,ylk,z04,z29,z1d,z65,y1l]
 obtain ⟨op,args,var,field,kind,val⟩:=e
 simp only
 by_cases h:op=4
 ·subst h
  simp [z58]
  grind
 ·simp [h,z58]
  split<;>rfl
theorem yo2 (n:Nat)(e:Exn):zji n e=some (ndP e):=by
 unfold zji
 rw [ym2,z04,ykd]
 simp only [z04,length_map,z0d,z0w,y93,z29,z1d,z6j,zcg,zem,zel,z13,y1l]
 unfold ndP
 by_cases ha:arP e.fOp<0
 ·rw [if_pos ha]
  have:e.fOp<0\/12<e.fOp:=by
   unfold arP at ha
   by_cases h1:e.fOp<0
   ·exact Or.inl h1
   ·omega
  rcases this with h|h
  ·rw [if_pos h,z68]
  ·by_cases h':e.fOp<0
   ·rw [if_pos h',z68]
   ·rw [if_neg h',if_pos h,z68]
 have hb:¬e.fOp<0/\¬12<e.fOp:=by
  unfold arP at ha
  refine ⟨fun h=>ha (by rw [if_pos h];decide),fun h=>ha ?_⟩
  by_cases h1:e.fOp<0
  ·rw [if_pos h1];decide
  ·rw [if_neg h1,if_pos h];decide
 rw [if_neg hb.1,if_neg hb.2,if_neg ha,z67]
 by_cases hl:(e.fArgs.length:Int)=arP e.fOp
 rotate_left
 ·rw [if_neg hl,if_pos hl]
 rw [if_pos hl,if_neg (show ¬((e.fArgs.length:Int)≠arP e.fOp) from fun h=>h hl)]
 have hc:=ycx e.fOp ha
 obtain ⟨op,args,var,field,kind,val⟩:=e
 simp only at *
 clear hl ha hb
 rcases hc with rfl|rfl|rfl|rfl|rfl|⟨h1,h2,h3,h4⟩
 ·simp [us0,z58]
  grind
 ·simp [us1,z58]
  grind
 ·simp [us2,z58]
  grind
 ·simp [us3,z58]
  grind
 ·simp [us4,z58]
  grind
 ·simp [h1,h2,h3,h4,z58]
  grind
inductive ETr:Nat->Exn->Prop
 |mk (l:List (Nat×Exn)) (e:Exn) (h:∀ p∈l,ETr p.1 p.2) (ha:e.fArgs=l.map (fun p=>z0l p.2)):ETr (1+(l.map (·.1)).sum) e
inductive ETrO:Nat->Exn->Prop
 |mk (l:List (Nat×Exn)) (e:Exn) (hn:ndP e=0) (h:∀ p∈l,ETrO p.1 p.2) (ha:e.fArgs=l.map (fun p=>z0l p.2)):ETrO (1+(l.map (·.1)).sum) e
variable {e:Exn}
theorem ETr.pos {s:Nat}(h:ETr s e):1<=s:=by cases h;omega
variable {l:List (Nat×Exn)}
theorem zs9 {p:Nat×Exn}(h:p∈l):p.1<=(l.map (·.1)).sum:=by
 induction l with
 |nil=>cases h
 |cons x l ih =>
  grind
theorem zwp (h:∀ p∈l,1<=p.1):l.length<=(l.map (·.1)).sum:=by
 induction l with
 |nil=>simp
 |cons x l ih =>
  grind
def preS (l:List (Nat×Exn))(k:Nat):Nat:=((l.take k).map (·.1)).sum
theorem y51 {k:Nat}(h:k<l.length):preS l (k+1)=preS l k+l[k].1:=by
 unfold preS
 rw [take_succ_eq_append_getElem h,map_append,sum_append]
 simp_all
theorem yb2 {k:Nat}(h:l.length<=k):preS l k=(l.map (·.1)).sum:=by unfold preS;rw [take_of_length_le h]
theorem yf6 (l:List (Nat×Exn))(k:Nat):preS l k<=(l.map (·.1)).sum:=by
 unfold preS
 conv=>rhs;rw [<-take_append_drop k l]
 grind
theorem znu {k:Nat}(h:k<l.length)(K:Exn->Option β):idxD z1y (l.map fun p=>z0l p.2) (k:Int) K=K l[k].2:=by
 unfold idxD
 rw [if_pos (by omega)]
 simp only [Int.toNat_natCast,getElem?_map,getElem?_eq_getElem h,Option.map_some,zct]
theorem y0h (most:Int)(hm:0<=most)(hm2:most<=1000000)(n:Nat)(l:List (Nat×Exn))(e:Exn)(ha:e.fArgs=l.map (fun p=>z0l p.2))(hs:(l.map (·.1)).sum<=4000000)(hl:l.length<=4000000)
  (ih:∀ p∈l,∃ c:Int,z34 n p.2 most=some c/\1<=c/\c<=p.1/\(c<=most->c=p.1)) :
  ∀ (m k:Nat) (v:Int),k<=l.length->l.length<m+k->1<=v->v<=1+preS l k->(v<=most->v=1+preS l k) ->
   ∃ c:Int,z3f n (z34 n) most e (fun y=>some y) m (v,(k:Int))=some c/\1<=c/\c<=1+(l.map (·.1)).sum/\(c<=most->c=1+(l.map (·.1)).sum)
 |0,k,v,h1,h2,_,_,_=>by omega
 |m+1,k,v,h1,h2,h3,h4,h5=>by
  unfold z3f
  simp only [z29,z1d,z4x,ha,length_map,z0d,z68]
  have hle:=yf6 l k
  by_cases h:k<l.length
  ·rw [if_pos (by omega)]
   by_cases hv:v<=most
   ·rw [if_pos hv,znu h]
    obtain ⟨c,c1,c2,c3,c4⟩:=ih l[k] (getElem_mem h)
    rw [c1,z04,z1o k (by omega),zer _ (by have:=zs9 (getElem_mem h);omega)]
    have hp:=y51 h
    have hv5:=h5 hv
    exact y0h most hm hm2 n l e ha hs hl ih m (k+1) (v+c) (by omega) (by omega) (by omega) (by omega) (fun hq=>by have:=c4 (by omega);omega)
   grind
  ·rw [if_neg (by omega)]
   have hp:=yb2 (l:=l) (k:=k) (by omega)
   grind
theorem yfx (most:Int)(hm:0<=most)(hm2:most<=1000000):∀ (s:Nat) (e:Exn),ETr s e->s<=4000000->∀ n,s+1<n->∃ c:Int,z34 n e most=some c/\1<=c/\c<=s/\(c<=most->c=s):=by
 intro s
 induction s using Nat.strongRecOn with
 |ind s IH =>
  intro e ht hs n hn
  cases ht with
  |mk l e h ha =>
   obtain ⟨n',rfl⟩:∃ n',n=n' + 1:=⟨n-1,by omega⟩
   have hl:=zwp (l:=l) (fun p hp=>(h p hp).pos)
   simp only [z34]
   obtain ⟨c,c1,c2,c3,c4⟩:=y0h most hm hm2 n' l e ha (by omega) (by omega) (fun p hp=>by
    have:=zs9 hp
    exact IH p.1 (by omega) p.2 (h p hp) (by omega) n' (by omega)) n' 0 1 (by omega) (by omega) (by omega) (by omega) (fun _=>by simp [preS])
   grind
theorem y56 (n:Nat)(l:List (Nat×Exn))(e:Exn)(ha:e.fArgs=l.map (fun p=>z0l p.2))(hs:(l.map (·.1)).sum<=4000000)(hl:l.length<=4000000)
  (ih:∀ p∈l,∃ d:Int,z33 n p.2=some d/\zff n p.2=some ((p.1:Int),d)/\0<=d/\d<=p.1) :
  ∀ (m k:Nat) (d:Int),k<=l.length->l.length<m+k->0<=d->d<=preS l k ->
   ∃ D:Int,z7h n (z33 n) e (fun y=>some (IntKind.wrap .i64 (y+1))) m (d,(k:Int))=some (D+1)/\zfn n (zff n) e (fun y0 y1=>some (y0,(IntKind.wrap .i64 (y1+1)))) m (((1+preS l k:Nat):Int),d,(k:Int))=some (((1+(l.map (·.1)).sum:Nat):Int),D+1)/\0<=D/\D<=(l.map (·.1)).sum
 |0,k,d,h1,h2,_,_=>by omega
 |m+1,k,d,h1,h2,h3,h4=>by
  unfold z7h zfn
  simp only [ha,length_map,z0d]
  have hle:=yf6 l k
  by_cases h:k<l.length
  ·rw [if_pos (by omega),if_pos (by omega),znu h,znu h]
   obtain ⟨c,c1,c2,c3,c4⟩:=ih l[k] (getElem_mem h)
   have hp:=y51 h
   have hm:=zs9 (getElem_mem h)
   rw [c1,c2,z04,z04,z1o k (by omega),zer _ (by omega)]
   have e1:(((1+preS l k:Nat):Int)+((l[k].1:Nat):Int))=((1+preS l (k+1):Nat):Int):=by omega
   simp only
   rw [e1]
   exact y56 n l e ha hs hl ih m (k+1) (max d c) (by omega) (by omega) (by omega) (by omega)
  ·rw [if_neg (by omega),if_neg (by omega)]
   have hp:=yb2 (l:=l) (k:=k) (by omega)
   refine ⟨d,by rw [zer _ (by omega)],?_,h3,by omega⟩
   rw [zer _ (by omega),hp]
theorem ykf:∀ (s:Nat) (e:Exn),ETr s e->s<=4000000->∀ n,s+1<n->∃ d:Int,z33 n e=some d/\zff n e=some ((s:Int),d)/\0<=d/\d<=s:=by
 intro s
 induction s using Nat.strongRecOn with
 |ind s IH =>
  intro e ht hs n hn
  cases ht with
  |mk l e h ha =>
   obtain ⟨n',rfl⟩:∃ n',n=n' + 1:=⟨n-1,by omega⟩
   have hl:=zwp (l:=l) (fun p hp=>(h p hp).pos)
   simp only [z33,zff]
   obtain ⟨D,d1,d2,d3,d4⟩:=y56 n' l e ha (by omega) (by omega) (fun p hp=>by
    have:=zs9 hp
    exact IH p.1 (by omega) p.2 (h p hp) (by omega) n' (by omega)) n' 0 0 (by omega) (by omega) (by omega) (by simp)
   exact ⟨D+1,d1,d2,by omega,by push_cast;omega⟩
theorem y07 (n:Nat)(l:List (Nat×Exn))(e:Exn)(ha:e.fArgs=l.map (fun p=>z0l p.2))(hl:l.length<=4000000)
  (ih:∀ p∈l,∃ r:Int,z3r n p.2=some r/\ze3 n p.2=some r/\(r=0->ETrO p.1 p.2)) :
  ∀ (m k:Nat),k<=l.length->l.length<m+k->(∀ p∈l.take k,ETrO p.1 p.2) ->
   ∃ r:Int,z7g n (z3r n) e (some 0) m (k:Int)=some r/\zf5 n (ze3 n) e (some 0) m (k:Int)=some r/\(r=0->∀ p∈l,ETrO p.1 p.2)
 |0,k,h1,h2,_=>by omega
 |m+1,k,h1,h2,h3=>by
  unfold z7g zf5
  simp only [ha,length_map,z0d,z0w]
  by_cases h:k<l.length
  ·rw [if_pos (by omega),if_pos (by omega),znu h,znu h]
   obtain ⟨r,r1,r2,r3⟩:=ih l[k] (getElem_mem h)
   rw [r1,r2,z04,z04,z1o k (by omega)]
   by_cases hr:r=0
   ·rw [if_pos hr,if_pos hr]
    refine y07 n l e ha hl ih m (k+1) (by omega) (by omega) (fun p hp=>?_)
    rw [take_succ_eq_append_getElem h,mem_append,mem_singleton] at hp
    grind
   simp_all
  ·rw [if_neg (by omega),if_neg (by omega)]
   grind
theorem yli:∀ (s:Nat) (e:Exn),ETr s e->s<=4000000->∀ n,s+1<n->∃ r:Int,z3r n e=some r/\ze3 n e=some r/\(r=0->ETrO s e):=by
 intro s
 induction s using Nat.strongRecOn with
 |ind s IH =>
  intro e ht hs n hn
  cases ht with
  |mk l e h ha =>
   obtain ⟨n',rfl⟩:∃ n',n=n' + 1:=⟨n-1,by omega⟩
   have hl:=zwp (l:=l) (fun p hp=>(h p hp).pos)
   simp only [z3r,ze3,yln,yo2,z04,z0w,z0d]
   by_cases hn0:ndP e=0
   ·rw [if_pos hn0,if_pos hn0]
    obtain ⟨r,r1,r2,r3⟩:=y07 n' l e ha (by omega) (fun p hp=>by
     have:=zs9 hp
     exact IH p.1 (by omega) p.2 (h p hp) (by omega) n' (by omega)) n' 0 (by omega) (by omega) (by simp)
    exact ⟨r,r1,r2,fun hr=>.mk l e hn0 (r3 hr) ha⟩
   simp_all
theorem yfz (s:Nat)(e:Exn)(ht:ETr s e)(hs:s<=4000000)(n:Nat)(hn:s+1<n):∃ r:Int,z35 n e=some r/\ze5 n e=some r/\(r=0->ETrO s e):=by
 obtain ⟨c,c1,c2,c3,c4⟩:=yfx 64 (by omega) (by omega) s e ht hs n hn
 obtain ⟨d,d1,d2,d3,d4⟩:=ykf s e ht hs n hn
 obtain ⟨r,r1,r2,r3⟩:=yli s e ht hs n hn
 unfold z35 ze5
 rw [c1,d1,d2,r1,r2]
 simp only [z04,z0d]
 grind
def wrP (k:Int)(v:Va):Int:=if vcP v=0 then (if suP k v=true then 0 else 9) else vcP v
theorem y8u (n:Nat)(k:Int)(hk:1<=k/\k<=5)(v:Va):zbf n k v=some (wrP k v):=by
 unfold zbf zcp wrP suP
 simp only [p_vc,z04,z0d,z0w,z29,z1d,z4q]
 by_cases h:vcP v=0
 ·rw [if_pos h,if_pos h]
  by_cases h0:v.fKind=0
  ·simp [h0,z58,z04]
  ·by_cases h1:k=1
   ·simp [h0,h1,z58,z04]
   ·by_cases h2:k=2
    ·simp [h0,h1,h2,z58,z04]
    ·by_cases h3:k=3
     ·simp [h0,h1,h2,h3,z58,z04]
     ·have:k=4\/k=5:=by omega
      rcases this with rfl|rfl<;>simp [h0,z58,z04]
 ·rw [if_neg h,if_neg h]
theorem yb6 (n:Nat)(k:Int)(hk:1<=k/\k<=5)(v:Va):z9p n k v=some (wrP k v):=by
 unfold z9p wrP
 simp only [yiw,y1w,z04,z0d,z0w]
 have h0:decide (k=0)=false:=by rw [decide_eq_false];omega
 simp only [h0,Bool.false_or]
 by_cases h:vcP v=0
 ·rw [if_pos h,if_pos h]
  cases suP k v<;>simp [z58]
 ·rw [if_neg h,if_neg h]
def comb (k:Int)(a b:Va):Va:=if k=1 then ⟨0,IntKind.wrap .i64 (a.fNum+b.fNum),be⟩ else if k=2 then ⟨0,min a.fNum b.fNum,be⟩ else if k=3 then ⟨0,max a.fNum b.fNum,be⟩ else if k=4 then a else b
theorem ylq (n:Nat)(k:Int)(hk:1<=k/\k<=5)(a b:Va):za6 n k a b=some (comb k a b):=by
 unfold za6 comb
 simp only [z0d]
 grind
theorem yoi (n:Nat)(k:Int)(hk:1<=k/\k<=5)(a b:Va):zdk n k a b=some (comb k a b):=by
 unfold zdk comb
 simp only [zsh,z7v,z04,zee,zed,zec,zeb,zea,ze9]
 grind
def AInv (k:Int)(i:Nat)(V:Va):Prop:=if i=0 then V=va0 else if k=1 then V.fKind=0/\V.fText=be/\-((i:Int)*1099511627776)<=V.fNum/\V.fNum<=(i:Int)*1099511627776 else vcP V=0/\suP k V=true
variable {k:Int}{i:Nat}{V:Va}
theorem AInv.check (n:Nat)(hk:1<=k/\k<=5)(hi:i<=4096)(h:AInv k i V):z9r n ⟨k,(i:Int),V⟩=some 0/\zf6 n ⟨k,(i:Int),V⟩=some 0:=by
 have w1:IntKind.wrap .i64 ((i:Int)*1099511627776)=(i:Int)*1099511627776:=zer _ (by omega)
 have w2:IntKind.wrap .i64 (0-(i:Int)*1099511627776)=-((i:Int)*1099511627776):=by rw [zer _ (by omega)];omega
 have k0:¬k=0:=by omega
 have ka:(0:Int)<=k:=by omega
 have c0:¬(i:Int)<0:=by omega
 have c1:¬4096<(i:Int):=by omega
 unfold z9r zf6 zae zcq
 simp only [z04,z0d,z0w,z29,z1d,z3t,z6n,z51,z4z,z2e,z4y,z8p,y1l,p_vc,yiw,w1,w2,ka,hk.2,if_true,decide_true,z67,c0,c1,if_false,decide_false,z68,k0,zjc]
 unfold AInv at h
 by_cases hi0:i=0
 ·rw [if_pos hi0] at h
  subst hi0
  subst h
  simp [z58]
 ·rw [if_neg hi0] at h
  have hi1:¬(i:Int)=0:=by omega
  simp only [hi1,if_false,decide_false,z68]
  by_cases k1:k=1
  ·grind
  ·rw [if_neg k1] at h
   obtain ⟨h1,h2⟩:=h
   simp only [k1,if_false,h1,y1w,h2,z04,if_true,Bool.or_true]
   refine ⟨by simp [z58],?_⟩
   have:=y8u n k hk V
   unfold zbf wrP at this
   rw [p_vc,z04] at this
   simp only [h1,h2,if_true,decide_true,Bool.not_true,z68] at this
   cases hs:zcp n k V with
   |none=>rw [hs] at this;unfold bnd at this;cases this
   |some b =>
    rw [hs,z04] at this
    cases b with
    |true=>simp [z04,z58]
    |false=>simp [z58] at this
def zwr (k:Int)(i:Nat)(V x:Va):Va:=if i=0 then x else comb k V x
theorem AInv.step (hk:1<=k/\k<=5)(hi:i<=4096){x:Va}(h:AInv k i V)(hx:wrP k x=0):AInv k (i+1) (zwr k i V x):=by
 have hv:vcP x=0/\suP k x=true:=by
  unfold wrP at hx
  by_cases h1:vcP x=0
  ·simp_all
  ·omega
 have hn:x.fKind=0->x.fText=be/\-1099511627776<=x.fNum/\x.fNum<=1099511627776:=fun h0=>by
  have:=hv.1
  unfold vcP at this
  grind
 have hs:k=1\/k=2\/k=3->x.fKind=0:=fun h=>by
  have:=hv.2
  simp only [suP,Bool.or_eq_true,decide_eq_true_eq] at this
  omega
 have nv:∀ q:Int,-1099511627776<=q->q<=1099511627776->vcP ⟨0,q,be⟩=0:=fun q h1 h2=>by
  unfold vcP
  grind
 unfold AInv at h ⊢
 rw [if_neg (by omega)]
 unfold zwr
 by_cases hi0:i=0
 ·simp_all
 ·rw [if_neg hi0] at h
  rw [if_neg hi0]
  by_cases k1:k=1
  ·rw [if_pos k1] at h ⊢
   obtain ⟨h1,h2,h3,h4⟩:=h
   obtain ⟨a,b,c⟩:=hn (hs (Or.inl k1))
   unfold comb
   rw [if_pos k1]
   rw [zer _ (by omega)]
   grind
  ·rw [if_neg k1] at h ⊢
   obtain ⟨h1,h2⟩:=h
   have hV:V.fKind=0->-1099511627776<=V.fNum/\V.fNum<=1099511627776:=fun h0=>by
    unfold vcP at h1
    omega
   have hVs:k=2\/k=3->V.fKind=0:=fun h=>by
    simp only [suP,Bool.or_eq_true,decide_eq_true_eq] at h2
    omega
   unfold comb
   rw [if_neg k1]
   by_cases k2:k=2
   ·rw [if_pos k2]
    obtain ⟨a,b,c⟩:=hn (hs (Or.inr (Or.inl k2)))
    obtain ⟨d,e⟩:=hV (hVs (Or.inl k2))
    exact ⟨nv _ (by omega) (by omega),by simp [suP]⟩
   ·rw [if_neg k2]
    by_cases k3:k=3
    ·rw [if_pos k3]
     obtain ⟨a,b,c⟩:=hn (hs (Or.inr (Or.inr k3)))
     obtain ⟨d,e⟩:=hV (hVs (Or.inr k3))
     exact ⟨nv _ (by omega) (by omega),by simp [suP]⟩
    grind
theorem yo0 (n:Nat)(hk:1<=k/\k<=5)(hi:i<4096)(h:AInv k i V)(x:Va):zd2 n ⟨k,(i:Int),V⟩ x=some (if wrP k x=0 then (⟨k,((i+1:Nat):Int),zwr k i V x⟩,0) else (⟨0,0,⟨0,0,be⟩⟩,wrP k x)):=by
 unfold zd2
 rw [(h.check n hk (by omega)).1,z04]
 simp only [yb6 n k hk,z04,z0d,z0w,ylq n k hk,z29,z1d,z4l,if_true]
 rw [z1o i (by omega)]
 by_cases hx:wrP k x=0
 ·rw [if_pos hx,if_pos hx,if_neg (by omega),if_neg (by omega)]
  unfold zwr
  by_cases h0:i=0
  all_goals simp_all
 ·rw [if_neg hx,if_neg hx]
def bad (k:Int):List Va->Option Int
 |[]=>none
 |x::l=>if wrP k x=0 then bad k l else some (wrP k x)
def fV (k:Int):Nat->Va->List Va->Va
 |_,V,[]=>V
 |i,V,x::l=>fV k (i+1) (zwr k i V x) l
theorem yb9 (n:Nat)(hk:1<=k/\k<=5)(init:Va)(l:List Va)(hl:l.length<=4096)(K:Int->Int->Int->Int->ByteArray->Option (Va×Int)):∀ (m i:Nat) (V:Va),i<=l.length->l.length<m+i->AInv k i V ->
  z9q n init l K m ((i:Int),k,(i:Int),V.fKind,V.fNum,V.fText)=(match bad k (l.drop i) with|some e=>some (va0,e)|none=>K k (l.length:Int) (fV k i V (l.drop i)).fKind (fV k i V (l.drop i)).fNum (fV k i V (l.drop i)).fText)/\(bad k (l.drop i)=none->AInv k l.length (fV k i V (l.drop i)))
 |0,i,V,h1,h2,_=>by omega
 |m+1,i,V,h1,h2,h3=>by
  unfold z9q
  simp only [length_map,z0d,z0w]
  by_cases h:i<l.length
  ·rw [if_pos (by omega),z0k h]
   have ha:=yo0 n hk (i:=i) (by omega) h3 l[i]
   have hV:V=⟨V.fKind,V.fNum,V.fText⟩:=rfl
   rw [<-hV,ha,z04,z0e l i h]
   simp only [bad,fV]
   by_cases hx:wrP k l[i]=0
   ·simp only [hx,if_true]
    rw [z1o i (by omega)]
    exact yb9 n hk init l hl K m (i+1) _ (by omega) (by omega) (h3.step hk (by omega) hx)
   grind
  ·rw [if_neg (by omega),drop_eq_nil_of_le (by omega)]
   have:i=l.length:=by omega
   subst this
   exact ⟨rfl,fun _=>h3⟩
theorem yfr (n:Nat)(hk:1<=k/\k<=5)(init:Va)(l:List Va)(hl:l.length<=4096)(K:Option (Va×Int)):∀ (m i:Nat),i<=l.length->l.length<m+i->zcr n init l k K m (i:Int)=(match bad k (l.drop i) with|some e=>some (va0,e)|none=>K)
 |0,i,h1,h2=>by omega
 |m+1,i,h1,h2=>by
  unfold zcr
  simp only [length_map,z0d,z0w]
  by_cases h:i<l.length
  ·rw [if_pos (by omega),z0k h,y8u n k hk,z04,z0e l i h]
   simp only [bad]
   by_cases hx:wrP k l[i]=0
   ·simp only [hx,if_true]
    rw [z1o i (by omega)]
    exact yfr n hk init l hl K m (i+1) (by omega) (by omega)
   ·simp only [hx,if_false]
  ·rw [if_neg (by omega),drop_eq_nil_of_le (by omega)]
   rfl
theorem zxj (n:Nat)(hk:1<=k/\k<=5)(l:List Va)(hl:l.length<=4096)(K:Int->Int->Int->Int->ByteArray->Option z0o):∀ (m i:Nat) (V:Va),i<=l.length->l.length<m+i ->
  za1 n k l K m ((i:Int),k,(i:Int),V.fKind,V.fNum,V.fText)=K k (l.length:Int) (fV k i V (l.drop i)).fKind (fV k i V (l.drop i)).fNum (fV k i V (l.drop i)).fText
 |0,i,V,h1,h2=>by omega
 |m+1,i,V,h1,h2=>by
  unfold za1
  simp only [length_map,z0d]
  by_cases h:i<l.length
  ·rw [if_pos (by omega),z0k h,z0e l i h]
   unfold zgx zft zfu
   have k0:¬k=0:=by omega
   have hV:V=⟨V.fKind,V.fNum,V.fText⟩:=rfl
   simp only [z0d,k0,if_false,z04]
   rw [<-hV,yoi n k hk]
   simp only [fV]
   by_cases h0:i=0
   ·have:((i:Nat):Int)=0:=by omega
    rw [if_pos this,z04,z1o i (by omega)]
    have e:=zxj n hk l hl K m (i+1) (zwr k i V l[i]) (by omega) (by omega)
    have e2:zwr k i V l[i]=l[i]:=by unfold zwr;rw [if_pos h0]
    rw [e2] at e ⊢
    have e3:((i+1:Nat):Int)=1:=by omega
    rw [e3] at e ⊢
    rw [z04]
    exact e
   ·rw [if_neg (by omega),if_neg (by omega),z04,z04,z1o i (by omega)]
    have e:=zxj n hk l hl K m (i+1) (zwr k i V l[i]) (by omega) (by omega)
    have e2:zwr k i V l[i]=comb k V l[i]:=by unfold zwr;rw [if_neg h0]
    rw [e2] at e ⊢
    rw [z04]
    exact e
  ·rw [if_neg (by omega),drop_eq_nil_of_le (by omega)]
   have:i=l.length:=by omega
   subst this
   rfl
theorem yiz (n:Nat)(hk:1<=k/\k<=5)(hi:i<=4096)(h:AInv k i V)(init:Va):∃ r,z91 n ⟨k,(i:Int),V⟩ init=some r/\zbu n ⟨k,(i:Int),V⟩ init=some r:=by
 obtain ⟨h1,h2⟩:=h.check n hk hi
 unfold z91 zbu
 rw [h1,h2]
 simp only [z04,yb6 n k hk,y8u n k hk,z0d,z0w,z29,z1d,z48,z85,if_true,z58]
 repeat' split
 all_goals exact ⟨_,rfl,rfl⟩
theorem p_of (n:Nat)(hn:5000<n)(hk:1<=k/\k<=5)(l:List Va)(init:Va):∃ r,zbs n k l init=some r/\zfp n k l init=some r:=by
 unfold zbs zfp zae zcq
 have ka:(0:Int)<=k:=by omega
 simp only [z04,z0d,z0w,z29,z1d,z3t,z6n,ka,hk.2,if_true,length_map,decide_true,z67]
 by_cases h:4096<l.length
 ·rw [if_pos (by omega),if_pos (by omega)]
  exact ⟨_,rfl,rfl⟩
 ·rw [if_neg (by omega),if_neg (by omega)]
  have e1:=yb9 n hk init l (by omega) (fun y0 y1 y2 y3 y4=>bnd (z91 n (⟨y0,y1,⟨y2,y3,y4⟩⟩:z0o) init) fun x47=>some (x47.1,x47.2)) n 0 va0 (by omega) (by omega) (by simp [AInv])
  have e2:=yfr n hk init l (by omega) (bnd (ze8 n (⟨k,0,⟨0,0,ByteArray.empty⟩⟩:z0o) l k) fun x42=>bnd (zbu n x42 init) fun x43=>some (x43.1,x43.2)) n 0 (by omega) (by omega)
  simp only [Int.natCast_zero,drop_zero] at e1 e2
  rw [e1.1,e2]
  cases hb:bad k l with
  |some e=>exact ⟨_,rfl,rfl⟩
  |none =>
   have hi:=e1.2 hb
   have e3:=zxj n hk l (by omega) (fun y0 y1 y2 y3 y4=>some (⟨y0,y1,⟨y2,y3,y4⟩⟩:z0o)) n 0 va0 (by omega) (by omega)
   simp only [Int.natCast_zero,drop_zero] at e3
   unfold ze8
   rw [e3]
   simp only [z04]
   obtain ⟨r,r1,r2⟩:=yiz n hk (i:=l.length) (by omega) hi init
   rw [r1,r2]
   simp only [z04]
   exact ⟨_,rfl,rfl⟩
def evs (vs:List (List Ev))(v:Int):List Ev:=if v<0 then [] else if (vs.length:Int)<=v then [] else vs.getD v.toNat []
theorem zkg {α:Type}{l:List α}{i:Int}(d:α)(k:α->Option β)(h0:0<=i)(h1:i<(l.length:Int)):idx l i k=k (l.getD i.toNat d):=by
 obtain ⟨m,rfl⟩:∃ m:Nat,i=m:=⟨i.toNat,by omega⟩
 have hm:m<l.length:=by omega
 rw [z0k hm]
 simp_all
theorem zxe (n:Nat)(vs:List (List Ev))(v:Int):z6w n ⟨vs⟩ v=some (evs vs v):=by
 unfold z6w evs
 simp only [z29,z1d,z47,length_map,z0d,z67]
 by_cases h:v<0
 ·rw [if_pos h,if_pos h]
 ·rw [if_neg h,if_neg h]
  by_cases h2:(vs.length:Int)<=v
  ·rw [if_pos h2,if_pos h2]
  ·rw [if_neg h2,if_neg h2,zkg [] _ (by omega) (by omega)]
theorem y1z (n:Nat)(vs:List (List Ev))(own:Int)(ev:Ev)(v:Int):z7s n ⟨vs⟩ own ev v=some (evs vs v):=by
 unfold z7s evs
 simp only [z29,z1d,z3b,length_map,z0d,z67]
 by_cases h:v<0
 ·rw [if_pos h,if_pos h]
 ·rw [if_neg h,if_neg h]
  by_cases h2:(vs.length:Int)<=v
  ·rw [if_pos h2,if_pos h2]
  ·rw [if_neg h2,if_neg h2,zkg [] _ (by omega) (by omega)]
theorem yfw (n:Nat)(ev:Ev)(f:Int)(hf:0<=f):zg8 n ev f=some (if (ev.fValues.length:Int)<=f then (va0,6) else (ev.fValues.getD f.toNat va0,0)):=by
 unfold zg8
 simp only [length_map,z0d]
 by_cases h:(ev.fValues.length:Int)<=f
 ·rw [if_pos h,if_pos h]
 ·rw [if_neg h,if_neg h,zkg va0 _ hf (by omega)]
theorem y08 (n:Nat)(e:Exn)(hf:0<=e.fField)(es:List Ev)(hl:es.length<=1000000)(K K':List Va->Option (Va×Int))(hK:∀ l,∃ r,K l=some r/\K' l=some r):∀ (m i:Nat) (acc:List Va),i<=es.length->es.length<m+i->acc.length=i ->
  ∃ r,z8b n e es K m ((i:Int),acc)=some r/\z5o n e es K' m ((i:Int),acc)=some r
 |0,i,acc,h1,h2,_=>by omega
 |m+1,i,acc,h1,h2,h3=>by
  unfold z8b z5o
  simp only [length_map,z0d,z0w]
  by_cases h:i<es.length
  ·rw [if_pos (by omega),if_pos (by omega)]
   simp only [z0k h]
   rw [yfw n _ _ hf,z04]
   by_cases hv:(es[i].fValues.length:Int)<=e.fField
   ·simp_all
   ·rw [if_neg hv,if_neg hv,zkg va0 _ hf (by omega)]
    simp only [if_true]
    rw [zau (by simp;omega) (by omega),zau (by simp;omega) (by omega),z1o i (by omega)]
    exact y08 n e hf es hl K K' hK m (i+1) _ (by omega) (by omega) (by simp;omega)
  ·rw [if_neg (by omega),if_neg (by omega)]
   exact hK acc
theorem yc2 (h:ndP e=0):0<=arP e.fOp/\(e.fArgs.length:Int)=arP e.fOp/\(usF e.fOp=true->0<=e.fField)/\(e.fOp=4->1<=e.fKind/\e.fKind<=5):=by
 unfold ndP at h
 grind
inductive Occ (i:Nat):Exn->Prop
 |here (e:Exn) (h:usV e.fOp=true) (hv:e.fVar=(i:Int)):Occ i e
 |sub (e y:Exn) (hy:z0l y∈e.fArgs) (h:Occ i y):Occ i e
theorem yom (h:ndP e=0)(hu:usV e.fOp=true):0<=e.fVar/\e.fVar<16:=by
 unfold ndP at h
 grind
theorem yo3 (n:Nat)(hn:2000000<n)(e:Exn)(hnd:ndP e=0)(h0:e.fArgs.length=0)(a b:List (List Ev))(hoc:∀ i:Nat,Occ i e->evs a (i:Int)=evs b (i:Int))(hb:∀ v,(evs a v).length<=1000000)(own:Int)(ev:Ev) :
  ∃ r,zad n e ⟨a⟩ own ev=some r/\z95 n ⟨b⟩ own ev e=some r:=by
 obtain ⟨f1,f2,f3,f4⟩:=yc2 hnd
 by_cases o0:e.fOp=0
 ·unfold zad z95
  simp only [zxe,y1z,z04,z0d,o0,if_true]
  exact ⟨_,rfl,rfl⟩
 have hu:usV e.fOp=true:=by
  unfold arP at f1 f2
  by_cases q1:e.fOp<0
  ·rw [if_pos q1] at f1;omega
  by_cases q2:12<e.fOp
  ·rw [if_neg q1,if_pos q2] at f1;omega
  rw [if_neg q1,if_neg q2] at f2
  by_cases q3:e.fOp<5
  ·unfold usV
   grind
  ·rw [if_neg q3] at f2
   split at f2<;>omega
 have hab:evs a e.fVar=evs b e.fVar:=by
  have hv:=yom hnd hu
  have:=hoc e.fVar.toNat (.here e hu (by omega))
  rwa [show ((e.fVar.toNat:Nat):Int)=e.fVar by omega] at this
 unfold zad z95
 simp only [zxe,y1z,<-hab,z04,z0d,z0w,length_map]
 rw [if_neg o0,if_neg o0]
 by_cases o3:e.fOp=3
 ·simp_all
 rw [if_neg o3,if_neg o3]
 by_cases o4:e.fOp=4
 ·rw [if_pos o4,if_pos o4]
  unfold zcf
  rw [y1z,<-hab,z04]
  have hf:=f3 (by rw [o4];decide)
  have hk:=f4 o4
  obtain ⟨r,r1,r2⟩:=y08 n e hf (evs a e.fVar) (hb _) (fun y=>bnd (zbs n e.fKind y e.fValue) fun x44=>some (x44.1,x44.2)) (fun y=>bnd (zfp n e.fKind y e.fValue) fun x43=>some (x43.1,x43.2)) (fun l=>by
   obtain ⟨r,r1,r2⟩:=p_of n (by omega) hk l e.fValue
   exact ⟨r,by rw [r1,z04],by rw [r2,z04]⟩) n 0 [] (by omega) (by have:=hb e.fVar;omega) rfl
  simp only [Int.natCast_zero] at r1 r2
  rw [r1,r2]
  exact ⟨r,rfl,by rw [z04]⟩
 rw [if_neg o4,if_neg o4]
 have hop:e.fOp=1\/e.fOp=2:=by
  unfold arP at f1 f2
  by_cases q1:e.fOp<0
  ·rw [if_pos q1] at f1;omega
  by_cases q2:12<e.fOp
  ·rw [if_neg q1,if_pos q2] at f1;omega
  rw [if_neg q1,if_neg q2] at f2
  by_cases q3:e.fOp<5
  ·omega
  ·omega
 simp only [z29,z1d,z4b,z4a]
 unfold zep
 simp only [zxe,z04,z0d,z0w,length_map]
 have tail:∀ x:Ev,∃ r,(if e.fOp=2 then some ((⟨0,x.fTime,be⟩:Va),(0:Int)) else if (x.fValues.length:Int)<=e.fField then some (va0,6) else idx x.fValues e.fField fun x50=>bnd (z3u n x50) fun x51=>if x51=0 then (idx x.fValues e.fField fun x52=>some (x52,0)) else some (va0,x51))=some r /\
   (if e.fOp=2 then some ((⟨0,x.fTime,be⟩:Va),(0:Int)) else bnd (zg8 n (⟨x.fSource,x.fSeq,x.fType,x.fTime,x.fValues⟩:z03) e.fField) fun x9=>if x9.2=0 then (bnd (zca n x9.1) fun x12=>if x12=0 then some (x9.1,0) else some (va0,x12)) else if x9.2=0 then some (x9.1,0) else some (va0,x9.2))=some r:=fun x=>by
  by_cases o2:e.fOp=2
  ·simp_all
  rw [if_neg o2,if_neg o2]
  have o1:e.fOp=1:=by omega
  have hf:=f3 (by rw [o1];decide)
  rw [yfw n _ _ hf,z04]
  by_cases hv:(x.fValues.length:Int)<=e.fField
  ·simp only [hv,if_true]
   exact ⟨_,rfl,rfl⟩
  ·simp only [hv,if_false]
   rw [zkg va0 _ hf (by omega),zkg va0 _ hf (by omega),yiw,p_vc,z04]
   simp only [if_true,z04]
   split
   all_goals simp_all
 by_cases ho:e.fVar=own
 ·rw [if_pos ho,if_pos ho,z04]
  simp only [z67]
  exact tail ev
 ·rw [if_neg ho,if_neg ho]
  by_cases he:(evs a e.fVar).length=0
  ·rw [if_pos (by omega),if_pos (by omega),z04]
   simp only [z68]
   exact ⟨_,rfl,rfl⟩
  ·rw [if_neg (by omega),if_neg (by omega),zer _ (by have:=hb e.fVar;omega),zkg ev _ (by omega) (by omega),zkg ev _ (by omega) (by omega),z04]
   simp only [z67]
   exact tail _
theorem ydk (n:Nat)(op:Int)(h:5<=op/\op<=12):z9o n op=some (if op<9 then 0 else if op=9 then -1 else 1):=by
 have:op=5\/op=6\/op=7\/op=8\/op=9\/op=10\/op=11\/op=12:=by omega
 unfold z9o
 simp only [z29,z1d,z1s,z28,z0d]
 grind
theorem zt8 (n:Nat)(op:Int)(h:5<=op/\op<=12)(ks:List Int)(hl:ks.length<=4000000):∀ (m i:Nat),i<=ks.length->ks.length<m+i->∃ r,z1c n ks op (some 0) m (i:Int)=some r/\z57 n ks op (some 0) m (i:Int)=some r/\(r=0\/r=9)
 |0,i,h1,h2=>by omega
 |m+1,i,h1,h2=>by
  unfold z1c z57
  simp only [length_map,z0d,z0w,ydk n op h,z04,z29,z1d,z1j,z78,z8r]
  by_cases hi:i<ks.length
  ·have hlt:((i:Nat):Int)<((ks.length:Nat):Int):=by omega
   simp only [hlt,if_true]
   obtain ⟨r,r1,r2,r3⟩:=zt8 n op h ks hl m (i+1) (by omega) (by omega)
   rw [z1o i (by omega),r1,r2]
   have hz:∀ (K:Int->Option Int),idx ks 0 K=K (ks.headD 0):=fun K=>by
    have:=z0k (l:=ks) (i:=0) (by omega) K
    simp only [Int.natCast_zero] at this
    rw [this]
    congr 1
    cases ks with
    |nil=>simp at hi
    |cons x q=>rfl
   have hx:∀ (K:Int->Option Int),idx ks (i:Int) K=K ks[i]:=fun K=>z0k hi K
   simp only [hz,hx]
   generalize ks[i]=k
   generalize ks.headD 0=k0
   have:op=5\/op=6\/op=7\/op=8\/op=9\/op=10\/op=11\/op=12:=by omega
   clear r1 r2 hz hx h
   rcases this with rfl|rfl|rfl|rfl|rfl|rfl|rfl|rfl
   all_goals
    simp [z58]
    first
    |(by_cases q:k=0<;>simp [q,r3])
    |(by_cases q:k=1<;>simp [q,r3])
    |(by_cases q:k=k0<;>simp [q,r3])
  ·have hlt:¬((i:Nat):Int)<((ks.length:Nat):Int):=by omega
   simp only [hlt,if_false]
   exact ⟨0,rfl,rfl,Or.inl rfl⟩
theorem yfv (n:Nat)(b:Bool):zab n b=some (if b=true then ⟨1,1,be⟩ else ⟨1,0,be⟩):=by
 unfold zab zkj
 cases b<;>simp [z58,z04]
theorem y8v (n:Nat)(b:Bool):z1k n b=some (if b=true then ⟨1,1,be⟩ else ⟨1,0,be⟩):=by
 unfold z1k
 cases b<;>simp [z58]
section
variable {α β:Type}
theorem y23 {len:Nat}(h:0<len)(k:Nat->Option β):nat 0 len k=k 0:=by have:=zef (i:=0) h k;simpa using this
theorem yc3 {len:Nat}(h:1<len)(k:Nat->Option β):nat 1 len k=k 1:=by have:=zef (i:=1) h k;simpa using this
theorem yml {x y:α}{l:List α}(k:α->Option β):idx (x::y::l) 1 k=k y:=by have:=z0k (l:=x::y::l) (i:=1) (by simp) k;simpa using this
end
theorem w21:IntKind.wrap .i64 (((2:Nat):Int)-1)=1:=by decide
theorem w11:IntKind.wrap .i64 (((1:Nat):Int)-1)=0:=by decide
theorem yja (n:Nat)(op:Int)(h:5<=op/\op<=11)(x y:Va):∃ v,z7y n op [x,y]=some v /\
  (cnd (decide (op=9))
    (nat 0 (List.map z08 [x,y]).length fun x45=>elt [x,y] x45 fun x46=>nat 1 (List.map z08 [x,y]).length fun x47=>elt [x,y] x47 fun x48 =>
      bnd (zab n (decide (x46.fKind=x48.fKind) && (decide (x46.fNum=x48.fNum) && ((x46.fText.toList == x48.fText.toList) && true)))) fun x49=>some (x49,(0:Int)))
  <| natc op 5 (bnd (zdg n x.fNum y.fNum) fun x54=>some (x54,0))
  <| natc op 6 (bnd (zdf n x.fNum y.fNum) fun x54=>some (x54,0))
  <| natc op 7 (bnd (zde n x.fNum y.fNum) fun x54=>some (x54,0))
  <| natc op 8 (bnd (zdd n x.fNum y.fNum) fun x54=>some (x54,0))
  <| natc op 10 (bnd (zdc n x.fNum y.fNum) fun x54=>some (x54,0))
  <| natc op 11 (bnd (zdb n x.fNum y.fNum) fun x54=>some (x54,0))
  <| natc op 12 (bnd (z9k n x.fNum y.fNum) fun x54=>some (x54,0))
  <| none)=some (v,0):=by
 have:op=5\/op=6\/op=7\/op=8\/op=9\/op=10\/op=11:=by omega
 have l2:(List.map z08 [x,y]).length=2:=rfl
 have n0:∀ k:Nat->Option (Va×Int),nat 0 2 k=k 0:=fun k=>y23 (by omega) k
 have n1:∀ k:Nat->Option (Va×Int),nat 1 2 k=k 1:=fun k=>yc3 (by omega) k
 have e0:∀ k:Va->Option (Va×Int),elt [x,y] 0 k=k x:=fun k=>zhf (by simp) k
 have e1:∀ k:Va->Option (Va×Int),elt [x,y] 1 k=k y:=fun k=>zhf (by simp) k
 unfold z7y zdg zdf zde zdd zdc zdb z9k zdh
 simp only [l2,n0,n1,e0,e1,znt,yml,z0d,zsh,yfv,y8v,z04,z29,z1d,z71,z6z,z4v,z4u]
 rcases this with rfl|rfl|rfl|rfl|rfl|rfl|rfl
 ·exact ⟨_,rfl,rfl⟩
 ·exact ⟨_,rfl,rfl⟩
 ·exact ⟨_,rfl,rfl⟩
 ·exact ⟨_,rfl,rfl⟩
 ·exact ⟨_,rfl,rfl⟩
 ·by_cases q:x.fNum=1
  ·simp [q,z04]
  ·simp [q,z04]
 ·by_cases q:x.fNum=1
  ·simp [q,z04]
  ·simp [q,z04]
theorem yjb (n:Nat)(x:Va):∃ v,z7y n 12 [x]=some v/\z9k n x.fNum x.fNum=some v:=by
 unfold z7y z9k
 simp only [znt,z0d,yfv,y8v,z04]
 exact ⟨_,rfl,rfl⟩
theorem ETrO.pos {s:Nat}(h:ETrO s e):1<=s:=by cases h;omega
theorem y5v (n:Nat)(l:List (Nat×Exn))(e:Exn)(ha:e.fArgs=l.map (fun p=>z0l p.2))(hl:l.length<=4000000)(a b:List (List Ev))(own:Int)(ev:Ev)
  (ih:∀ p∈l,∃ r,z4p n p.2 ⟨a⟩ own ev=some r/\z3d n ⟨b⟩ own ev p.2=some r) (K K':List Va->List Int->Option (Va×Int)) (hK:∀ vs,vs.length=l.length->∃ r,K vs (vs.map (·.fKind))=some r/\K' vs (vs.map (·.fKind))=some r) :
  ∀ (m k:Nat) (vs:List Va),k<=l.length->l.length<m+k->vs.length=k->∃ r,z8c n (z4p n) ev own ⟨a⟩ e K m ((k:Int),vs,vs.map (·.fKind))=some r/\z6k n (z3d n) e ev own ⟨b⟩ K' m ((k:Int),vs,vs.map (·.fKind))=some r
 |0,k,vs,h1,h2,_=>by omega
 |m+1,k,vs,h1,h2,h3=>by
  unfold z8c z6k
  simp only [ha,length_map,z0d,z0w]
  by_cases h:k<l.length
  ·have hlt:((k:Nat):Int)<((l.length:Nat):Int):=by omega
   simp only [hlt,if_true]
   rw [znu h,znu h]
   obtain ⟨⟨v,x⟩,r1,r2⟩:=ih l[k] (getElem_mem h)
   rw [r1,r2,z04,z04]
   by_cases hx:x=0
   ·simp only [hx,if_true]
    rw [zau (by simp;omega) (by omega),zau (by simp;omega) (by omega),zau (by simp;omega) (by omega),zau (by simp;omega) (by omega),z1o k (by omega)]
    have:=y5v n l e ha hl a b own ev ih K K' hK m (k+1) (vs++[v]) (by omega) (by omega) (by simp;omega)
    simpa using this
   simp_all
  grind
theorem yoa (a b:List (List Ev))(hb:∀ v,(evs a v).length<=1000000)(own:Int)(ev:Ev):∀ (s:Nat) (e:Exn),ETrO s e->(∀ i:Nat,Occ i e->evs a (i:Int)=evs b (i:Int))->s<=4000000->∀ n,s+5000000<n->∃ r,z4p n e ⟨a⟩ own ev=some r/\z3d n ⟨b⟩ own ev e=some r:=by
 intro s
 induction s using Nat.strongRecOn with
 |ind s IH =>
  intro e ht hab hs n hn
  cases ht with
  |mk l e hnd h ha =>
   obtain ⟨n',rfl⟩:∃ n',n=n' + 1:=⟨n-1,by omega⟩
   have hl:l.length<=(l.map (·.1)).sum:=zwp (l:=l) (fun p hp=>(h p hp).pos)
   obtain ⟨f1,f2,f3,f4⟩:=yc2 hnd
   simp only [z4p,z3d,length_map,z0d,z0w]
   by_cases h0:e.fArgs.length=0
   ·have:((e.fArgs.length:Nat):Int)=0:=by omega
    simp only [this,if_true]
    obtain ⟨r,r1,r2⟩:=yo3 n' (by omega) e hnd h0 a b hab hb own ev
    rw [r1,r2,z04]
    exact ⟨_,rfl,rfl⟩
   ·have:¬((e.fArgs.length:Nat):Int)=0:=by omega
    simp only [this,if_false]
    have hll:e.fArgs.length=l.length:=by rw [ha,length_map]
    have hop:5<=e.fOp/\e.fOp<=12/\(e.fOp=12->l.length=1)/\(e.fOp≠12->l.length=2):=by
     unfold arP at f1 f2
     by_cases q1:e.fOp<0
     ·rw [if_pos q1] at f1;omega
     by_cases q2:12<e.fOp
     ·omega
     rw [if_neg q1,if_neg q2] at f2
     by_cases q3:e.fOp<5
     ·rw [if_pos q3] at f2;omega
     ·omega
    refine y5v n' l e ha (by omega) a b own ev (fun p hp=>by
     have:=zs9 hp
     exact IH p.1 (by omega) p.2 (h p hp) (fun i hi=>hab i (.sub e p.2 (by grind) hi)) (by omega) n' (by omega)) _ _ (fun vs hvs=>?_) n' 0 [] (by omega) (by omega) rfl
    obtain ⟨r,r1,r2,r3⟩:=zt8 n' e.fOp ⟨hop.1,hop.2.1⟩ (vs.map (·.fKind)) (by rw [length_map];omega) n' 0 (by omega) (by rw [length_map];omega)
    simp only [Int.natCast_zero] at r1 r2
    unfold zbr zhd
    rw [r1,r2,z04,z04]
    by_cases hr:r=0
    ·simp only [hr,if_true]
     by_cases o12:e.fOp=12
     ·have hv1:vs.length=1:=by have:=hop.2.2.1 o12;omega
      match vs,hv1 with
      |[x],_ =>
       obtain ⟨v,v1,v2⟩:=yjb n' x
       rw [o12,v1,z04]
       have n0:∀ k:Nat->Option (Va×Int),nat 0 1 k=k 0:=fun k=>y23 (by omega) k
       have e0:∀ k:Va->Option (Va×Int),elt [x] 0 k=k x:=fun k=>zhf (by simp) k
       have l0:∀ z:Option (Va×Int),ltx 0 1 z=z:=fun z=>y66 (by omega) z
       simp only [zsh,length_cons,length_nil,Nat.zero_add,w11,n0,e0,l0,v2,z04]
       exact ⟨_,rfl,rfl⟩
     ·have hv2:vs.length=2:=by have:=hop.2.2.2 o12;omega
      match vs,hv2 with
      |[x,y],_ =>
       obtain ⟨v,v1,v2⟩:=yja n' e.fOp ⟨hop.1,by omega⟩ x y
       rw [v1,z04]
       refine ⟨(v,0),rfl,?_⟩
       rw [<-v2]
       have n0:∀ k:Nat->Option (Va×Int),nat 0 2 k=k 0:=fun k=>y23 (by omega) k
       have n1:∀ k:Nat->Option (Va×Int),nat 1 2 k=k 1:=fun k=>yc3 (by omega) k
       have e0:∀ k:Va->Option (Va×Int),elt [x,y] 0 k=k x:=fun k=>zhf (by simp) k
       have e1:∀ k:Va->Option (Va×Int),elt [x,y] 1 k=k y:=fun k=>zhf (by simp) k
       have l0:∀ z:Option (Va×Int),ltx 0 2 z=z:=fun z=>y66 (by omega) z
       have l1:∀ z:Option (Va×Int),ltx 1 2 z=z:=fun z=>y66 (by omega) z
       simp only [zsh,z0d,length_map,length_cons,length_nil,Nat.zero_add,Nat.reduceAdd,w21,n0,n1,e0,e1,l0,l1]
    simp_all
theorem ylj (a b:List (List Ev))(hb:∀ v,(evs a v).length<=1000000)(own:Int)(ev:Ev)(s:Nat)(e:Exn)(hab:∀ i:Nat,Occ i e->evs a (i:Int)=evs b (i:Int))(ht:ETr s e)(hs:s<=4000000)(n:Nat)(hn:10000000<n) :
  ∃ r,z32 n e ⟨a⟩ own ev=some r/\zf9 n e ⟨b⟩ own ev=some r:=by
 obtain ⟨c,c1,c2,c3⟩:=yfz s e ht hs n (by omega)
 unfold z32 zf9 zeq zob
 rw [c1,c2]
 simp only [z04,z0d,z0w,yfv,y8v,z29,z1d,z4w,zdj]
 by_cases hc:c=0
 ·simp only [hc,if_true]
  obtain ⟨r,r1,r2⟩:=yoa a b hb own ev s e (c3 hc) hab hs n (by omega)
  rw [r1,r2]
  simp only [z04]
  split
  all_goals simp_all
 ·simp only [hc,if_false,z04]
  exact ⟨_,rfl,rfl⟩
end Go.Proofs.YtidhlpjgifoneaaGreat
