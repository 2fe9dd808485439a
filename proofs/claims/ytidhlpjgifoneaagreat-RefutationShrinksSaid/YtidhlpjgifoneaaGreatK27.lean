/- Layers 1, 7, 8, plainly. -/
import Derived.Test.YtidhlpjgifoneaaGreatK26
set_option linter.unusedVariables false
set_option linter.unusedSimpArgs false
namespace Go.Proofs.YtidhlpjgifoneaaGreat
open Go.RowKit List
abbrev Va:=z05
abbrev Ev:=z03
abbrev Exn:=z0s
abbrev be:ByteArray:=ByteArray.empty
abbrev va0:Va:=⟨0,0,ByteArray.empty⟩
def vcP (v:Va):Int :=
 if v.fKind<0 then 1 else if 2<v.fKind then 1 else if v.fKind=2 then (if v.fNum=0 then (if 64<v.fText.size then 13 else 0) else 3) else
 if v.fText=be then (if v.fKind=1 then (if v.fNum<0 then 2 else if 1<v.fNum then 2 else 0) else if v.fNum < -1099511627776 then 2 else if 1099511627776<v.fNum then 2 else 0) else 3
theorem ykr (n:Nat)(v:Va):z3w n v=some (vcP v):=by
 unfold z3w vcP
 simp only [z0c,z0y,zjp]
 grind
variable {β:Type}
theorem ybr {α:Type}(p:Prop)[Decidable p](x y:Option α)(k:α->Option β):bnd (if p then x else y) k=if p then bnd x k else bnd y k:=by split<;>rfl
theorem p_vc (n:Nat)(v:Va):zci n v=some (vcP v):=by
 obtain ⟨k,x,t⟩:=v
 unfold zci zgf vcP
 simp only [z0c,z0y,zjp]
 by_cases k0:k=0
 ·subst k0
  by_cases ht:t=be
  ·subst ht
   have hs:be.size=0:=rfl
   simp [hs,z04,ybr]
   grind
  ·simp [ht]
 ·by_cases k1:k=1
  ·subst k1
   by_cases ht:t=be
   ·subst ht
    have hs:be.size=0:=rfl
    simp [hs,z04,ybr]
    grind
   ·simp [ht]
  ·by_cases k2:k=2
   ·subst k2
    simp [z04,ybr]
    grind
   grind
theorem ypt (x y:Va):(decide (x.fKind=y.fKind) && (decide (x.fNum=y.fNum) && ((x.fText.toList == y.fText.toList) && true)))=decide (x=y):=by
 cases x;cases y
 simp [zjp]
theorem y2u (x:Va):(decide (x.fKind=0) && (decide (x.fNum=0) && ((x.fText.toList == ByteArray.empty.toList) && true)))=decide (x=va0):=ypt x va0
def arP (op:Int):Int:=if op<0 then -1 else if 12<op then -1 else if op<5 then 0 else if op=12 then 1 else 2
theorem ykw (n:Nat)(op:Int):zbq n op=some (arP op):=by
 unfold zbq arP
 simp only [z2k,z1d,z1w,z1e,z0c,z5a,decide_eq_true_eq]
 by_cases h1:op<0
 ·simp [h1,show op≠0 by omega,show op≠1 by omega,show op≠2 by omega,show op≠3 by omega,show op≠4 by omega,show op≠5 by omega,show op≠6 by omega,show op≠7 by omega,show op≠8 by omega,show op≠9 by omega,show op≠10 by omega,show op≠11 by omega,show op≠12 by omega]
 ·by_cases h2:12<op
  ·simp [h1,h2,show op≠0 by omega,show op≠1 by omega,show op≠2 by omega,show op≠3 by omega,show op≠4 by omega,show op≠5 by omega,show op≠6 by omega,show op≠7 by omega,show op≠8 by omega,show op≠9 by omega,show op≠10 by omega,show op≠11 by omega,show op≠12 by omega]
  ·have:op=0\/op=1\/op=2\/op=3\/op=4\/op=5\/op=6\/op=7\/op=8\/op=9\/op=10\/op=11\/op=12:=by omega
   rcases this with rfl|rfl|rfl|rfl|rfl|rfl|rfl|rfl|rfl|rfl|rfl|rfl|rfl<;>rfl
theorem yoa (n:Nat)(op:Int):zin n op=some (if op<0 then (0,false) else if 12<op then (0,false) else (arP op,true)):=by
 unfold zin arP
 simp only [z2k,z1d,zdq,z0c,z5a,decide_eq_true_eq,if_true]
 grind
def usV (op:Int):Bool:=decide (op=1) || decide (op=2) || decide (op=3) || decide (op=4)
def usF (op:Int):Bool:=decide (op=1) || decide (op=4)
theorem ynr (n:Nat)(op:Int):zc9 n op=some (usV op,usF op):=by
 unfold zc9
 simp only [z2k,z1d,z5y,z3s,z0c,z5a,decide_eq_true_eq,if_true]
 by_cases h1:op=1
 ·subst h1;rfl
 ·by_cases h2:op=2
  ·subst h2;rfl
  ·by_cases h3:op=3
   ·subst h3;rfl
   ·by_cases h4:op=4
    ·subst h4;rfl
    ·simp [usV,usF,h1,h2,h3,h4]
theorem ymd (n:Nat)(op:Int):zi7 n op=some (usV op,usF op):=by
 unfold zi7
 simp only [z2k,z1d,zeq,zep,z0c,z5a,decide_eq_true_eq,if_true]
 by_cases h1:op=1
 ·subst h1;rfl
 ·by_cases h2:op=2
  ·subst h2;rfl
  ·by_cases h3:op=3
   ·subst h3;rfl
   ·by_cases h4:op=4
    ·subst h4;rfl
    ·simp [usV,usF,h1,h2,h3,h4]
def suP (k:Int)(v:Va):Bool:=decide (v.fKind=0) || decide (k=4) || decide (k=5)
theorem yno (n:Nat)(k:Int)(v:Va):zim n k v=some (suP k v):=by
 unfold zim
 simp only [z2k,z1d,zbu,z0c]
 by_cases h1:v.fKind=0
 ·simp [suP,h1]
 ·by_cases h2:k=4
  ·simp [suP,h1,h2]
  ·simp [suP,h1,h2]
theorem y37 (n:Nat)(k:Int)(v:Va):z82 n k v=some (decide (k=0) || suP k v):=by
 unfold z82
 simp only [z2k,z1d,z2d,z0c]
 by_cases h1:v.fKind=0
 ·simp [suP,h1]
 ·by_cases h2:k=4
  ·by_cases h3:k=0
   ·simp [suP,h1,h2,h3]
   ·simp [suP,h1,h2]
  ·by_cases h3:k=0
   ·simp [suP,h1,h2,h3]
   ·simp [suP,h1,h2,h3]
def ndP (e:Exn):Int :=
 if arP e.fOp<0 then 1 else if (e.fArgs.length:Int)≠arP e.fOp then 15 else
 if (usV e.fOp && (decide (e.fVar<0) || decide (16<=e.fVar))) || (usF e.fOp && (decide (e.fField<0) || decide (8<=e.fField))) then 2 else
 if decide (e.fOp=4) && (decide (e.fKind<1) || decide (5<e.fKind)) then 1 else
 if (decide (e.fOp=4) || decide (e.fOp=0)) && !decide (vcP e.fValue=0) then vcP e.fValue else
 if decide (e.fOp=4) && (!(suP e.fKind e.fValue) || (decide (e.fKind=1) && !decide (e.fValue=va0))) then 9 else
 if (!(usV e.fOp) && !decide (e.fVar=0)) || (!(usF e.fOp) && !decide (e.fField=0)) || (!decide (e.fOp=4) && !decide (e.fKind=0)) || (!(decide (e.fOp=4) || decide (e.fOp=0)) && !decide (e.fValue=va0)) then 3 else 0
theorem yeh (op:Int)(h:¬arP op<0):op=0\/op=1\/op=2\/op=3\/op=4\/(usV op=false/\usF op=false/\op≠0/\op≠4):=by
 unfold arP at h
 by_cases h0:op=0
 ·exact Or.inl h0
 by_cases h1:op=1
 ·exact Or.inr (Or.inl h1)
 by_cases h2:op=2
 ·exact Or.inr (Or.inr (Or.inl h2))
 by_cases h3:op=3
 ·omega
 by_cases h4:op=4
 ·omega
 exact Or.inr (Or.inr (Or.inr (Or.inr (Or.inr ⟨by simp [usV,h1,h2,h3,h4],by simp [usF,h1,h4],h0,h4⟩))))
theorem us0:usV 0=false/\usF 0=false:=by decide
theorem us1:usV 1=true/\usF 1=true:=by decide
theorem us2:usV 2=true/\usF 2=false:=by decide
theorem us3:usV 3=true/\usF 3=false:=by decide
theorem us4:usV 4=true/\usF 4=true:=by decide
theorem yns (n:Nat)(e:Exn):zca n e=some (ndP e):=by
 unfold zca
 rw [ykw,z04,ynr]
 simp only [z04,length_map,z0c,z0y,ykr,y37,z2k,z1d,z1c,z3u,z60,z5z,z2s,z0k,y2u]
 unfold ndP
 by_cases ha:arP e.fOp<0
 ·rw [if_pos ha,if_pos ha]
 rw [if_neg ha,if_neg ha]
 by_cases hl:(e.fArgs.length:Int)=arP e.fOp
 rotate_left
 ·rw [if_neg hl,if_pos hl]
 rw [if_pos hl,if_neg (show ¬((e.fArgs.length:Int)≠arP e.fOp) from fun h=>h hl)]
 have hc:=yeh e.fOp ha
 obtain ⟨op,args,var,field,kind,val⟩:=e
 simp only at *
 clear hl ha
 rcases hc with rfl|rfl|rfl|rfl|rfl|⟨h1,h2,h3,h4⟩
 ·simp [us0,z5a]
  grind
 ·simp [us1,z5a]
  grind
 ·simp [us2,z5a]
  grind
 ·simp [us3,z5a]
  grind
 ·simp [us4,z5a]
  grind
 ·simp [h1,h2,h3,h4,z5a]
  grind
theorem yag (n:Nat)(e:Exn):zfq n e=some (if vcP e.fValue=0 then (if decide (e.fOp=4) && (!(suP e.fKind e.fValue) || (decide (e.fKind=1) && !decide (e.fValue=va0))) then 9 else 0) else vcP e.fValue):=by
 unfold zfq
 rw [p_vc,z04]
 simp only [z0c,z0y,yno,z04,z2k,z1d,z6b,y2u]
 obtain ⟨op,args,var,field,kind,val⟩:=e
 simp only
 by_cases h:op=4
 ·subst h
  simp [z5a]
  grind
 ·simp [h,z5a]
  split<;>rfl
theorem yqf (n:Nat)(e:Exn):zjv n e=some (ndP e):=by
 unfold zjv
 rw [yoa,z04,ymd]
 simp only [z04,length_map,z0c,z0y,yag,z2k,z1d,z6o,zcp,zes,zer,z13,y2u]
 unfold ndP
 by_cases ha:arP e.fOp<0
 ·rw [if_pos ha]
  have:e.fOp<0\/12<e.fOp:=by
   unfold arP at ha
   by_cases h1:e.fOp<0
   ·exact Or.inl h1
   ·omega
  rcases this with h|h
  ·rw [if_pos h,z6e]
  ·by_cases h':e.fOp<0
   ·rw [if_pos h',z6e]
   ·rw [if_neg h',if_pos h,z6e]
 have hb:¬e.fOp<0/\¬12<e.fOp:=by
  unfold arP at ha
  refine ⟨fun h=>ha (by rw [if_pos h];decide),fun h=>ha ?_⟩
  by_cases h1:e.fOp<0
  ·rw [if_pos h1];decide
  ·rw [if_neg h1,if_pos h];decide
 rw [if_neg hb.1,if_neg hb.2,if_neg ha,z6c]
 by_cases hl:(e.fArgs.length:Int)=arP e.fOp
 rotate_left
 ·rw [if_neg hl,if_pos hl]
 rw [if_pos hl,if_neg (show ¬((e.fArgs.length:Int)≠arP e.fOp) from fun h=>h hl)]
 have hc:=yeh e.fOp ha
 obtain ⟨op,args,var,field,kind,val⟩:=e
 simp only at *
 clear hl ha hb
 rcases hc with rfl|rfl|rfl|rfl|rfl|⟨h1,h2,h3,h4⟩
 ·simp [us0,z5a]
  grind
 ·simp [us1,z5a]
  grind
 ·simp [us2,z5a]
  grind
 ·simp [us3,z5a]
  grind
 ·simp [us4,z5a]
  grind
 ·simp [h1,h2,h3,h4,z5a]
  grind
inductive ETr:Nat->Exn->Prop
 |mk (l:List (Nat×Exn)) (e:Exn) (h:∀ p∈l,ETr p.1 p.2) (ha:e.fArgs=l.map (fun p=>z0l p.2)):ETr (1+(l.map (·.1)).sum) e
inductive ETrO:Nat->Exn->Prop
 |mk (l:List (Nat×Exn)) (e:Exn) (hn:ndP e=0) (h:∀ p∈l,ETrO p.1 p.2) (ha:e.fArgs=l.map (fun p=>z0l p.2)):ETrO (1+(l.map (·.1)).sum) e
variable {e:Exn}
theorem ETr.pos {s:Nat}(h:ETr s e):1<=s:=by cases h;omega
variable {l:List (Nat×Exn)}
theorem zsz {p:Nat×Exn}(h:p∈l):p.1<=(l.map (·.1)).sum:=by
 induction l with
 |nil=>cases h
 |cons x l ih =>
  grind
theorem zxm (h:∀ p∈l,1<=p.1):l.length<=(l.map (·.1)).sum:=by
 induction l with
 |nil=>simp
 |cons x l ih =>
  grind
def preS (l:List (Nat×Exn))(k:Nat):Nat:=((l.take k).map (·.1)).sum
theorem y6b {k:Nat}(h:k<l.length):preS l (k+1)=preS l k+l[k].1:=by
 unfold preS
 rw [take_succ_eq_append_getElem h,map_append,sum_append]
 simp_all
theorem ycj {k:Nat}(h:l.length<=k):preS l k=(l.map (·.1)).sum:=by unfold preS;rw [take_of_length_le h]
theorem ygw (l:List (Nat×Exn))(k:Nat):preS l k<=(l.map (·.1)).sum:=by
 unfold preS
 conv=>rhs;rw [<-take_append_drop k l]
 grind
theorem zof {k:Nat}(h:k<l.length)(K:Exn->Option β):idxD z1z (l.map fun p=>z0l p.2) (k:Int) K=K l[k].2:=by
 unfold idxD
 rw [if_pos (by omega)]
 simp only [Int.toNat_natCast,getElem?_map,getElem?_eq_getElem h,Option.map_some,zd3]
theorem y1o (most:Int)(hm:0<=most)(hm2:most<=1000000)(n:Nat)(l:List (Nat×Exn))(e:Exn)(ha:e.fArgs=l.map (fun p=>z0l p.2))(hs:(l.map (·.1)).sum<=4000000)(hl:l.length<=4000000)
  (ih:∀ p∈l,∃ c:Int,z33 n p.2 most=some c/\1<=c/\c<=p.1/\(c<=most->c=p.1)) :
  ∀ (m k:Nat) (v:Int),k<=l.length->l.length<m+k->1<=v->v<=1+preS l k->(v<=most->v=1+preS l k) ->
   ∃ c:Int,z3f n (z33 n) most e (fun y=>some y) m (v,(k:Int))=some c/\1<=c/\c<=1+(l.map (·.1)).sum/\(c<=most->c=1+(l.map (·.1)).sum)
 |0,k,v,h1,h2,_,_,_=>by omega
 |m+1,k,v,h1,h2,h3,h4,h5=>by
  unfold z3f
  simp only [z2k,z1d,z4z,ha,length_map,z0c,z6e]
  have hle:=ygw l k
  by_cases h:k<l.length
  ·rw [if_pos (by omega)]
   by_cases hv:v<=most
   ·rw [if_pos hv,zof h]
    obtain ⟨c,c1,c2,c3,c4⟩:=ih l[k] (getElem_mem h)
    rw [c1,z04,z1o k (by omega),zex _ (by have:=zsz (getElem_mem h);omega)]
    have hp:=y6b h
    have hv5:=h5 hv
    exact y1o most hm hm2 n l e ha hs hl ih m (k+1) (v+c) (by omega) (by omega) (by omega) (by omega) (fun hq=>by have:=c4 (by omega);omega)
   grind
  ·rw [if_neg (by omega)]
   have hp:=ycj (l:=l) (k:=k) (by omega)
   grind
theorem yhm (most:Int)(hm:0<=most)(hm2:most<=1000000):∀ (s:Nat) (e:Exn),ETr s e->s<=4000000->∀ n,s+1<n->∃ c:Int,z33 n e most=some c/\1<=c/\c<=s/\(c<=most->c=s):=by
 intro s
 induction s using Nat.strongRecOn with
 |ind s IH =>
  intro e ht hs n hn
  cases ht with
  |mk l e h ha =>
   obtain ⟨n',rfl⟩:∃ n',n=n' + 1:=⟨n-1,by omega⟩
   have hl:=zxm (l:=l) (fun p hp=>(h p hp).pos)
   simp only [z33]
   obtain ⟨c,c1,c2,c3,c4⟩:=y1o most hm hm2 n' l e ha (by omega) (by omega) (fun p hp=>by
    have:=zsz hp
    exact IH p.1 (by omega) p.2 (h p hp) (by omega) n' (by omega)) n' 0 1 (by omega) (by omega) (by omega) (by omega) (fun _=>by simp [preS])
   grind
theorem y6g (n:Nat)(l:List (Nat×Exn))(e:Exn)(ha:e.fArgs=l.map (fun p=>z0l p.2))(hs:(l.map (·.1)).sum<=4000000)(hl:l.length<=4000000)
  (ih:∀ p∈l,∃ d:Int,z32 n p.2=some d/\zfo n p.2=some ((p.1:Int),d)/\0<=d/\d<=p.1) :
  ∀ (m k:Nat) (d:Int),k<=l.length->l.length<m+k->0<=d->d<=preS l k ->
   ∃ D:Int,z7m n (z32 n) e (fun y=>some (IntKind.wrap .i64 (y+1))) m (d,(k:Int))=some (D+1)/\zfw n (zfo n) e (fun y0 y1=>some (y0,(IntKind.wrap .i64 (y1+1)))) m (((1+preS l k:Nat):Int),d,(k:Int))=some (((1+(l.map (·.1)).sum:Nat):Int),D+1)/\0<=D/\D<=(l.map (·.1)).sum
 |0,k,d,h1,h2,_,_=>by omega
 |m+1,k,d,h1,h2,h3,h4=>by
  unfold z7m zfw
  simp only [ha,length_map,z0c]
  have hle:=ygw l k
  by_cases h:k<l.length
  ·rw [if_pos (by omega),if_pos (by omega),zof h,zof h]
   obtain ⟨c,c1,c2,c3,c4⟩:=ih l[k] (getElem_mem h)
   have hp:=y6b h
   have hm:=zsz (getElem_mem h)
   rw [c1,c2,z04,z04,z1o k (by omega),zex _ (by omega)]
   have e1:(((1+preS l k:Nat):Int)+((l[k].1:Nat):Int))=((1+preS l (k+1):Nat):Int):=by omega
   simp only
   rw [e1]
   exact y6g n l e ha hs hl ih m (k+1) (max d c) (by omega) (by omega) (by omega) (by omega)
  ·rw [if_neg (by omega),if_neg (by omega)]
   have hp:=ycj (l:=l) (k:=k) (by omega)
   refine ⟨d,by rw [zex _ (by omega)],?_,h3,by omega⟩
   rw [zex _ (by omega),hp]
theorem ymg:∀ (s:Nat) (e:Exn),ETr s e->s<=4000000->∀ n,s+1<n->∃ d:Int,z32 n e=some d/\zfo n e=some ((s:Int),d)/\0<=d/\d<=s:=by
 intro s
 induction s using Nat.strongRecOn with
 |ind s IH =>
  intro e ht hs n hn
  cases ht with
  |mk l e h ha =>
   obtain ⟨n',rfl⟩:∃ n',n=n' + 1:=⟨n-1,by omega⟩
   have hl:=zxm (l:=l) (fun p hp=>(h p hp).pos)
   simp only [z32,zfo]
   obtain ⟨D,d1,d2,d3,d4⟩:=y6g n' l e ha (by omega) (by omega) (fun p hp=>by
    have:=zsz hp
    exact IH p.1 (by omega) p.2 (h p hp) (by omega) n' (by omega)) n' 0 0 (by omega) (by omega) (by omega) (by simp)
   exact ⟨D+1,d1,d2,by omega,by push_cast;omega⟩
theorem y1e (n:Nat)(l:List (Nat×Exn))(e:Exn)(ha:e.fArgs=l.map (fun p=>z0l p.2))(hl:l.length<=4000000)
  (ih:∀ p∈l,∃ r:Int,z3t n p.2=some r/\ze9 n p.2=some r/\(r=0->ETrO p.1 p.2)) :
  ∀ (m k:Nat),k<=l.length->l.length<m+k->(∀ p∈l.take k,ETrO p.1 p.2) ->
   ∃ r:Int,z7l n (z3t n) e (some 0) m (k:Int)=some r/\zfc n (ze9 n) e (some 0) m (k:Int)=some r/\(r=0->∀ p∈l,ETrO p.1 p.2)
 |0,k,h1,h2,_=>by omega
 |m+1,k,h1,h2,h3=>by
  unfold z7l zfc
  simp only [ha,length_map,z0c,z0y]
  by_cases h:k<l.length
  ·rw [if_pos (by omega),if_pos (by omega),zof h,zof h]
   obtain ⟨r,r1,r2,r3⟩:=ih l[k] (getElem_mem h)
   rw [r1,r2,z04,z04,z1o k (by omega)]
   by_cases hr:r=0
   ·rw [if_pos hr,if_pos hr]
    refine y1e n l e ha hl ih m (k+1) (by omega) (by omega) (fun p hp=>?_)
    rw [take_succ_eq_append_getElem h,mem_append,mem_singleton] at hp
    grind
   simp_all
  ·rw [if_neg (by omega),if_neg (by omega)]
   grind
theorem ynl:∀ (s:Nat) (e:Exn),ETr s e->s<=4000000->∀ n,s+1<n->∃ r:Int,z3t n e=some r/\ze9 n e=some r/\(r=0->ETrO s e):=by
 intro s
 induction s using Nat.strongRecOn with
 |ind s IH =>
  intro e ht hs n hn
  cases ht with
  |mk l e h ha =>
   obtain ⟨n',rfl⟩:∃ n',n=n' + 1:=⟨n-1,by omega⟩
   have hl:=zxm (l:=l) (fun p hp=>(h p hp).pos)
   simp only [z3t,ze9,yns,yqf,z04,z0y,z0c]
   by_cases hn0:ndP e=0
   ·rw [if_pos hn0,if_pos hn0]
    obtain ⟨r,r1,r2,r3⟩:=y1e n' l e ha (by omega) (fun p hp=>by
     have:=zsz hp
     exact IH p.1 (by omega) p.2 (h p hp) (by omega) n' (by omega)) n' 0 (by omega) (by omega) (by simp)
    exact ⟨r,r1,r2,fun hr=>.mk l e hn0 (r3 hr) ha⟩
   simp_all
theorem yhp (s:Nat)(e:Exn)(ht:ETr s e)(hs:s<=4000000)(n:Nat)(hn:s+1<n):∃ r:Int,z34 n e=some r/\zeb n e=some r/\(r=0->ETrO s e):=by
 obtain ⟨c,c1,c2,c3,c4⟩:=yhm 64 (by omega) (by omega) s e ht hs n hn
 obtain ⟨d,d1,d2,d3,d4⟩:=ymg s e ht hs n hn
 obtain ⟨r,r1,r2,r3⟩:=ynl s e ht hs n hn
 unfold z34 zeb
 rw [c1,d1,d2,r1,r2]
 simp only [z04,z0c]
 grind
def wrP (k:Int)(v:Va):Int:=if vcP v=0 then (if suP k v=true then 0 else 9) else vcP v
theorem ya8 (n:Nat)(k:Int)(hk:1<=k/\k<=5)(v:Va):zbh n k v=some (wrP k v):=by
 unfold zbh zcz wrP suP
 simp only [p_vc,z04,z0c,z0y,z2k,z1d,z4s]
 by_cases h:vcP v=0
 ·rw [if_pos h,if_pos h]
  by_cases h0:v.fKind=0
  ·simp [h0,z5a,z04]
  ·by_cases h1:k=1
   ·simp [h0,h1,z5a,z04]
   ·by_cases h2:k=2
    ·simp [h0,h1,h2,z5a,z04]
    ·by_cases h3:k=3
     ·simp [h0,h1,h2,h3,z5a,z04]
     ·have:k=4\/k=5:=by omega
      rcases this with rfl|rfl<;>simp [h0,z5a,z04]
 ·rw [if_neg h,if_neg h]
theorem ycr (n:Nat)(k:Int)(hk:1<=k/\k<=5)(v:Va):z9w n k v=some (wrP k v):=by
 unfold z9w wrP
 simp only [ykr,y37,z04,z0c,z0y]
 have h0:decide (k=0)=false:=by rw [decide_eq_false];omega
 simp only [h0,Bool.false_or]
 by_cases h:vcP v=0
 ·rw [if_pos h,if_pos h]
  cases suP k v<;>simp [z5a]
 ·rw [if_neg h,if_neg h]
def comb (k:Int)(a b:Va):Va:=if k=1 then ⟨0,IntKind.wrap .i64 (a.fNum+b.fNum),be⟩ else if k=2 then ⟨0,min a.fNum b.fNum,be⟩ else if k=3 then ⟨0,max a.fNum b.fNum,be⟩ else if k=4 then a else b
theorem ynw (n:Nat)(k:Int)(hk:1<=k/\k<=5)(a b:Va):zad n k a b=some (comb k a b):=by
 unfold zad comb
 simp only [z0c]
 grind
theorem yqu (n:Nat)(k:Int)(hk:1<=k/\k<=5)(a b:Va):zds n k a b=some (comb k a b):=by
 unfold zds comb
 simp only [zt6,z8n,z04,zek,zej,zei,zeh,zeg,zef]
 grind
def AInv (k:Int)(i:Nat)(V:Va):Prop:=if i=0 then V=va0 else if k=1 then V.fKind=0/\V.fText=be/\-((i:Int)*1099511627776)<=V.fNum/\V.fNum<=(i:Int)*1099511627776 else vcP V=0/\suP k V=true
variable {k:Int}{i:Nat}{V:Va}
theorem AInv.check (n:Nat)(hk:1<=k/\k<=5)(hi:i<=4096)(h:AInv k i V):z9y n ⟨k,(i:Int),V⟩=some 0/\zfd n ⟨k,(i:Int),V⟩=some 0:=by
 have w1:IntKind.wrap .i64 ((i:Int)*1099511627776)=(i:Int)*1099511627776:=zex _ (by omega)
 have w2:IntKind.wrap .i64 (0-(i:Int)*1099511627776)=-((i:Int)*1099511627776):=by rw [zex _ (by omega)];omega
 have k0:¬k=0:=by omega
 have ka:(0:Int)<=k:=by omega
 have c0:¬(i:Int)<0:=by omega
 have c1:¬4096<(i:Int):=by omega
 unfold z9y zfd zam zd0
 simp only [z04,z0c,z0y,z2k,z1d,z3v,z6t,z54,z52,z2e,z51,z8w,y2u,p_vc,ykr,w1,w2,ka,hk.2,if_true,decide_true,z6c,c0,c1,if_false,decide_false,z6e,k0,zjp]
 unfold AInv at h
 by_cases hi0:i=0
 ·rw [if_pos hi0] at h
  subst hi0
  subst h
  simp [z5a]
 ·rw [if_neg hi0] at h
  have hi1:¬(i:Int)=0:=by omega
  simp only [hi1,if_false,decide_false,z6e]
  by_cases k1:k=1
  ·grind
  ·rw [if_neg k1] at h
   obtain ⟨h1,h2⟩:=h
   simp only [k1,if_false,h1,y37,h2,z04,if_true,Bool.or_true]
   refine ⟨by simp [z5a],?_⟩
   have:=ya8 n k hk V
   unfold zbh wrP at this
   rw [p_vc,z04] at this
   simp only [h1,h2,if_true,decide_true,Bool.not_true,z6e] at this
   cases hs:zcz n k V with
   |none=>rw [hs] at this;unfold bnd at this;cases this
   |some b =>
    rw [hs,z04] at this
    cases b with
    |true=>simp [z04,z5a]
    |false=>simp [z5a] at this
def zxo (k:Int)(i:Nat)(V x:Va):Va:=if i=0 then x else comb k V x
theorem AInv.step (hk:1<=k/\k<=5)(hi:i<=4096){x:Va}(h:AInv k i V)(hx:wrP k x=0):AInv k (i+1) (zxo k i V x):=by
 have hv:vcP x=0/\suP k x=true:=by
  unfold wrP at hx
  by_cases h1:vcP x=0
  ·simp_all
  ·omega
 have hn:x.fKind=0->x.fText=be/\-1099511627776<=x.fNum/\x.fNum<=1099511627776:=fun h0=>by
  have:=hv.1
  unfold vcP at this
  grind
 have hs:k=1\/k=2\/k=3->x.fKind=0:=fun h=>by
  have:=hv.2
  simp only [suP,Bool.or_eq_true,decide_eq_true_eq] at this
  omega
 have nv:∀ q:Int,-1099511627776<=q->q<=1099511627776->vcP ⟨0,q,be⟩=0:=fun q h1 h2=>by
  unfold vcP
  grind
 unfold AInv at h ⊢
 rw [if_neg (by omega)]
 unfold zxo
 by_cases hi0:i=0
 ·simp_all
 ·rw [if_neg hi0] at h
  rw [if_neg hi0]
  by_cases k1:k=1
  ·rw [if_pos k1] at h ⊢
   obtain ⟨h1,h2,h3,h4⟩:=h
   obtain ⟨a,b,c⟩:=hn (hs (Or.inl k1))
   unfold comb
   rw [if_pos k1]
   rw [zex _ (by omega)]
   grind
  ·rw [if_neg k1] at h ⊢
   obtain ⟨h1,h2⟩:=h
   have hV:V.fKind=0->-1099511627776<=V.fNum/\V.fNum<=1099511627776:=fun h0=>by
    unfold vcP at h1
    omega
   have hVs:k=2\/k=3->V.fKind=0:=fun h=>by
    simp only [suP,Bool.or_eq_true,decide_eq_true_eq] at h2
    omega
   unfold comb
   rw [if_neg k1]
   by_cases k2:k=2
   ·rw [if_pos k2]
    obtain ⟨a,b,c⟩:=hn (hs (Or.inr (Or.inl k2)))
    obtain ⟨d,e⟩:=hV (hVs (Or.inl k2))
    exact ⟨nv _ (by omega) (by omega),by simp [suP]⟩
   ·rw [if_neg k2]
    by_cases k3:k=3
    ·rw [if_pos k3]
     obtain ⟨a,b,c⟩:=hn (hs (Or.inr (Or.inr k3)))
     obtain ⟨d,e⟩:=hV (hVs (Or.inr k3))
     exact ⟨nv _ (by omega) (by omega),by simp [suP]⟩
    grind
theorem yqd (n:Nat)(hk:1<=k/\k<=5)(hi:i<4096)(h:AInv k i V)(x:Va):zdb n ⟨k,(i:Int),V⟩ x=some (if wrP k x=0 then (⟨k,((i+1:Nat):Int),zxo k i V x⟩,0) else (⟨0,0,⟨0,0,be⟩⟩,wrP k x)):=by
 unfold zdb
 rw [(h.check n hk (by omega)).1,z04]
 simp only [ycr n k hk,z04,z0c,z0y,ynw n k hk,z2k,z1d,z4n,if_true]
 rw [z1o i (by omega)]
 by_cases hx:wrP k x=0
 ·rw [if_pos hx,if_pos hx,if_neg (by omega),if_neg (by omega)]
  unfold zxo
  by_cases h0:i=0
  all_goals simp_all
 ·rw [if_neg hx,if_neg hx]
def bad (k:Int):List Va->Option Int
 |[]=>none
 |x::l=>if wrP k x=0 then bad k l else some (wrP k x)
def fV (k:Int):Nat->Va->List Va->Va
 |_,V,[]=>V
 |i,V,x::l=>fV k (i+1) (zxo k i V x) l
theorem yct (n:Nat)(hk:1<=k/\k<=5)(init:Va)(l:List Va)(hl:l.length<=4096)(K:Int->Int->Int->Int->ByteArray->Option (Va×Int)):∀ (m i:Nat) (V:Va),i<=l.length->l.length<m+i->AInv k i V ->
  z9x n init l K m ((i:Int),k,(i:Int),V.fKind,V.fNum,V.fText)=(match bad k (l.drop i) with|some e=>some (va0,e)|none=>K k (l.length:Int) (fV k i V (l.drop i)).fKind (fV k i V (l.drop i)).fNum (fV k i V (l.drop i)).fText)/\(bad k (l.drop i)=none->AInv k l.length (fV k i V (l.drop i)))
 |0,i,V,h1,h2,_=>by omega
 |m+1,i,V,h1,h2,h3=>by
  unfold z9x
  simp only [length_map,z0c,z0y]
  by_cases h:i<l.length
  ·rw [if_pos (by omega),z0j h]
   have ha:=yqd n hk (i:=i) (by omega) h3 l[i]
   have hV:V=⟨V.fKind,V.fNum,V.fText⟩:=rfl
   rw [<-hV,ha,z04,z0e l i h]
   simp only [bad,fV]
   by_cases hx:wrP k l[i]=0
   ·simp only [hx,if_true]
    rw [z1o i (by omega)]
    exact yct n hk init l hl K m (i+1) _ (by omega) (by omega) (h3.step hk (by omega) hx)
   grind
  ·rw [if_neg (by omega),drop_eq_nil_of_le (by omega)]
   have:i=l.length:=by omega
   subst this
   exact ⟨rfl,fun _=>h3⟩
theorem yhf (n:Nat)(hk:1<=k/\k<=5)(init:Va)(l:List Va)(hl:l.length<=4096)(K:Option (Va×Int)):∀ (m i:Nat),i<=l.length->l.length<m+i->zd1 n init l k K m (i:Int)=(match bad k (l.drop i) with|some e=>some (va0,e)|none=>K)
 |0,i,h1,h2=>by omega
 |m+1,i,h1,h2=>by
  unfold zd1
  simp only [length_map,z0c,z0y]
  by_cases h:i<l.length
  ·rw [if_pos (by omega),z0j h,ya8 n k hk,z04,z0e l i h]
   simp only [bad]
   by_cases hx:wrP k l[i]=0
   ·simp only [hx,if_true]
    rw [z1o i (by omega)]
    exact yhf n hk init l hl K m (i+1) (by omega) (by omega)
   ·simp only [hx,if_false]
  ·rw [if_neg (by omega),drop_eq_nil_of_le (by omega)]
   rfl
theorem zyj (n:Nat)(hk:1<=k/\k<=5)(l:List Va)(hl:l.length<=4096)(K:Int->Int->Int->Int->ByteArray->Option z0p):∀ (m i:Nat) (V:Va),i<=l.length->l.length<m+i ->
  za8 n k l K m ((i:Int),k,(i:Int),V.fKind,V.fNum,V.fText)=K k (l.length:Int) (fV k i V (l.drop i)).fKind (fV k i V (l.drop i)).fNum (fV k i V (l.drop i)).fText
 |0,i,V,h1,h2=>by omega
 |m+1,i,V,h1,h2=>by
  unfold za8
  simp only [length_map,z0c]
  by_cases h:i<l.length
  ·rw [if_pos (by omega),z0j h,z0e l i h]
   unfold zhc zg4 zg5
   have k0:¬k=0:=by omega
   have hV:V=⟨V.fKind,V.fNum,V.fText⟩:=rfl
   simp only [z0c,k0,if_false,z04]
   rw [<-hV,yqu n k hk]
   simp only [fV]
   by_cases h0:i=0
   ·have:((i:Nat):Int)=0:=by omega
    rw [if_pos this,z04,z1o i (by omega)]
    have e:=zyj n hk l hl K m (i+1) (zxo k i V l[i]) (by omega) (by omega)
    have e2:zxo k i V l[i]=l[i]:=by unfold zxo;rw [if_pos h0]
    rw [e2] at e ⊢
    have e3:((i+1:Nat):Int)=1:=by omega
    rw [e3] at e ⊢
    rw [z04]
    exact e
   ·rw [if_neg (by omega),if_neg (by omega),z04,z04,z1o i (by omega)]
    have e:=zyj n hk l hl K m (i+1) (zxo k i V l[i]) (by omega) (by omega)
    have e2:zxo k i V l[i]=comb k V l[i]:=by unfold zxo;rw [if_neg h0]
    rw [e2] at e ⊢
    rw [z04]
    exact e
  ·rw [if_neg (by omega),drop_eq_nil_of_le (by omega)]
   have:i=l.length:=by omega
   subst this
   rfl
theorem ykt (n:Nat)(hk:1<=k/\k<=5)(hi:i<=4096)(h:AInv k i V)(init:Va):∃ r,z98 n ⟨k,(i:Int),V⟩ init=some r/\zbz n ⟨k,(i:Int),V⟩ init=some r:=by
 obtain ⟨h1,h2⟩:=h.check n hk hi
 unfold z98 zbz
 rw [h1,h2]
 simp only [z04,ycr n k hk,ya8 n k hk,z0c,z0y,z2k,z1d,z4a,z89,if_true,z5a]
 repeat' split
 all_goals exact ⟨_,rfl,rfl⟩
theorem p_of (n:Nat)(hn:5000<n)(hk:1<=k/\k<=5)(l:List Va)(init:Va):∃ r,zbx n k l init=some r/\zfy n k l init=some r:=by
 unfold zbx zfy zam zd0
 have ka:(0:Int)<=k:=by omega
 simp only [z04,z0c,z0y,z2k,z1d,z3v,z6t,ka,hk.2,if_true,length_map,decide_true,z6c]
 by_cases h:4096<l.length
 ·rw [if_pos (by omega),if_pos (by omega)]
  exact ⟨_,rfl,rfl⟩
 ·rw [if_neg (by omega),if_neg (by omega)]
  have e1:=yct n hk init l (by omega) (fun y0 y1 y2 y3 y4=>bnd (z98 n (⟨y0,y1,⟨y2,y3,y4⟩⟩:z0p) init) fun x47=>some (x47.1,x47.2)) n 0 va0 (by omega) (by omega) (by simp [AInv])
  have e2:=yhf n hk init l (by omega) (bnd (zee n (⟨k,0,⟨0,0,ByteArray.empty⟩⟩:z0p) l k) fun x42=>bnd (zbz n x42 init) fun x43=>some (x43.1,x43.2)) n 0 (by omega) (by omega)
  simp only [Int.natCast_zero,drop_zero] at e1 e2
  rw [e1.1,e2]
  cases hb:bad k l with
  |some e=>exact ⟨_,rfl,rfl⟩
  |none =>
   have hi:=e1.2 hb
   have e3:=zyj n hk l (by omega) (fun y0 y1 y2 y3 y4=>some (⟨y0,y1,⟨y2,y3,y4⟩⟩:z0p)) n 0 va0 (by omega) (by omega)
   simp only [Int.natCast_zero,drop_zero] at e3
   unfold zee
   rw [e3]
   simp only [z04]
   obtain ⟨r,r1,r2⟩:=ykt n hk (i:=l.length) (by omega) hi init
   rw [r1,r2]
   simp only [z04]
   exact ⟨_,rfl,rfl⟩
def evs (vs:List (List Ev))(v:Int):List Ev:=if v<0 then [] else if (vs.length:Int)<=v then [] else vs.getD v.toNat []
theorem zks {α:Type}{l:List α}{i:Int}(d:α)(k:α->Option β)(h0:0<=i)(h1:i<(l.length:Int)):idx l i k=k (l.getD i.toNat d):=by
 obtain ⟨m,rfl⟩:∃ m:Nat,i=m:=⟨i.toNat,by omega⟩
 have hm:m<l.length:=by omega
 rw [z0j hm]
 simp_all
theorem zye (n:Nat)(vs:List (List Ev))(v:Int):z73 n ⟨vs⟩ v=some (evs vs v):=by
 unfold z73 evs
 simp only [z2k,z1d,z49,length_map,z0c,z6c]
 by_cases h:v<0
 ·rw [if_pos h,if_pos h]
 ·rw [if_neg h,if_neg h]
  by_cases h2:(vs.length:Int)<=v
  ·rw [if_pos h2,if_pos h2]
  ·rw [if_neg h2,if_neg h2,zks [] _ (by omega) (by omega)]
theorem y3a (n:Nat)(vs:List (List Ev))(own:Int)(ev:Ev)(v:Int):z7y n ⟨vs⟩ own ev v=some (evs vs v):=by
 unfold z7y evs
 simp only [z2k,z1d,z3b,length_map,z0c,z6c]
 by_cases h:v<0
 ·rw [if_pos h,if_pos h]
 ·rw [if_neg h,if_neg h]
  by_cases h2:(vs.length:Int)<=v
  ·rw [if_pos h2,if_pos h2]
  ·rw [if_neg h2,if_neg h2,zks [] _ (by omega) (by omega)]
theorem yhl (n:Nat)(ev:Ev)(f:Int)(hf:0<=f):zgn n ev f=some (if (ev.fValues.length:Int)<=f then (va0,6) else (ev.fValues.getD f.toNat va0,0)):=by
 unfold zgn
 simp only [length_map,z0c]
 by_cases h:(ev.fValues.length:Int)<=f
 ·rw [if_pos h,if_pos h]
 ·rw [if_neg h,if_neg h,zks va0 _ hf (by omega)]
theorem y1f (n:Nat)(e:Exn)(hf:0<=e.fField)(es:List Ev)(hl:es.length<=1000000)(K K':List Va->Option (Va×Int))(hK:∀ l,∃ r,K l=some r/\K' l=some r):∀ (m i:Nat) (acc:List Va),i<=es.length->es.length<m+i->acc.length=i ->
  ∃ r,z8h n e es K m ((i:Int),acc)=some r/\z5q n e es K' m ((i:Int),acc)=some r
 |0,i,acc,h1,h2,_=>by omega
 |m+1,i,acc,h1,h2,h3=>by
  unfold z8h z5q
  simp only [length_map,z0c,z0y]
  by_cases h:i<es.length
  ·rw [if_pos (by omega),if_pos (by omega)]
   simp only [z0j h]
   rw [yhl n _ _ hf,z04]
   by_cases hv:(es[i].fValues.length:Int)<=e.fField
   ·simp_all
   ·rw [if_neg hv,if_neg hv,zks va0 _ hf (by omega)]
    simp only [if_true]
    rw [zbi (by simp;omega) (by omega),zbi (by simp;omega) (by omega),z1o i (by omega)]
    exact y1f n e hf es hl K K' hK m (i+1) _ (by omega) (by omega) (by simp;omega)
  ·rw [if_neg (by omega),if_neg (by omega)]
   exact hK acc
theorem ydm (h:ndP e=0):0<=arP e.fOp/\(e.fArgs.length:Int)=arP e.fOp/\(usF e.fOp=true->0<=e.fField)/\(e.fOp=4->1<=e.fKind/\e.fKind<=5):=by
 unfold ndP at h
 grind
inductive Occ (i:Nat):Exn->Prop
 |here (e:Exn) (h:usV e.fOp=true) (hv:e.fVar=(i:Int)):Occ i e
 |sub (e y:Exn) (hy:z0l y∈e.fArgs) (h:Occ i y):Occ i e
theorem yqy (h:ndP e=0)(hu:usV e.fOp=true):0<=e.fVar/\e.fVar<16:=by
 unfold ndP at h
 grind
theorem yqg (n:Nat)(hn:2000000<n)(e:Exn)(hnd:ndP e=0)(h0:e.fArgs.length=0)(a b:List (List Ev))(hoc:∀ i:Nat,Occ i e->evs a (i:Int)=evs b (i:Int))(hb:∀ v,(evs a v).length<=1000000)(own:Int)(ev:Ev) :
  ∃ r,zal n e ⟨a⟩ own ev=some r/\z9d n ⟨b⟩ own ev e=some r:=by
 obtain ⟨f1,f2,f3,f4⟩:=ydm hnd
 by_cases o0:e.fOp=0
 ·unfold zal z9d
  simp only [zye,y3a,z04,z0c,o0,if_true]
  exact ⟨_,rfl,rfl⟩
 have hu:usV e.fOp=true:=by
  unfold arP at f1 f2
  by_cases q1:e.fOp<0
  ·rw [if_pos q1] at f1;omega
  by_cases q2:12<e.fOp
  ·rw [if_neg q1,if_pos q2] at f1;omega
  rw [if_neg q1,if_neg q2] at f2
  by_cases q3:e.fOp<5
  ·unfold usV
   grind
  ·rw [if_neg q3] at f2
   split at f2<;>omega
 have hab:evs a e.fVar=evs b e.fVar:=by
  have hv:=yqy hnd hu
  have:=hoc e.fVar.toNat (.here e hu (by omega))
  rwa [show ((e.fVar.toNat:Nat):Int)=e.fVar by omega] at this
 unfold zal z9d
 simp only [zye,y3a,<-hab,z04,z0c,z0y,length_map]
 rw [if_neg o0,if_neg o0]
 by_cases o3:e.fOp=3
 ·simp_all
 rw [if_neg o3,if_neg o3]
 by_cases o4:e.fOp=4
 ·rw [if_pos o4,if_pos o4]
  unfold zco
  rw [y3a,<-hab,z04]
  have hf:=f3 (by rw [o4];decide)
  have hk:=f4 o4
  obtain ⟨r,r1,r2⟩:=y1f n e hf (evs a e.fVar) (hb _) (fun y=>bnd (zbx n e.fKind y e.fValue) fun x44=>some (x44.1,x44.2)) (fun y=>bnd (zfy n e.fKind y e.fValue) fun x43=>some (x43.1,x43.2)) (fun l=>by
   obtain ⟨r,r1,r2⟩:=p_of n (by omega) hk l e.fValue
   exact ⟨r,by rw [r1,z04],by rw [r2,z04]⟩) n 0 [] (by omega) (by have:=hb e.fVar;omega) rfl
  simp only [Int.natCast_zero] at r1 r2
  rw [r1,r2]
  exact ⟨r,rfl,by rw [z04]⟩
 rw [if_neg o4,if_neg o4]
 have hop:e.fOp=1\/e.fOp=2:=by
  unfold arP at f1 f2
  by_cases q1:e.fOp<0
  ·rw [if_pos q1] at f1;omega
  by_cases q2:12<e.fOp
  ·rw [if_neg q1,if_pos q2] at f1;omega
  rw [if_neg q1,if_neg q2] at f2
  by_cases q3:e.fOp<5
  ·omega
  ·omega
 simp only [z2k,z1d,z4d,z4c]
 unfold zev
 simp only [zye,z04,z0c,z0y,length_map]
 have tail:∀ x:Ev,∃ r,(if e.fOp=2 then some ((⟨0,x.fTime,be⟩:Va),(0:Int)) else if (x.fValues.length:Int)<=e.fField then some (va0,6) else idx x.fValues e.fField fun x50=>bnd (z3w n x50) fun x51=>if x51=0 then (idx x.fValues e.fField fun x52=>some (x52,0)) else some (va0,x51))=some r /\
   (if e.fOp=2 then some ((⟨0,x.fTime,be⟩:Va),(0:Int)) else bnd (zgn n (⟨x.fSource,x.fSeq,x.fType,x.fTime,x.fValues⟩:z03) e.fField) fun x9=>if x9.2=0 then (bnd (zci n x9.1) fun x12=>if x12=0 then some (x9.1,0) else some (va0,x12)) else if x9.2=0 then some (x9.1,0) else some (va0,x9.2))=some r:=fun x=>by
  by_cases o2:e.fOp=2
  ·simp_all
  rw [if_neg o2,if_neg o2]
  have o1:e.fOp=1:=by omega
  have hf:=f3 (by rw [o1];decide)
  rw [yhl n _ _ hf,z04]
  by_cases hv:(x.fValues.length:Int)<=e.fField
  ·simp only [hv,if_true]
   exact ⟨_,rfl,rfl⟩
  ·simp only [hv,if_false]
   rw [zks va0 _ hf (by omega),zks va0 _ hf (by omega),ykr,p_vc,z04]
   simp only [if_true,z04]
   split
   all_goals simp_all
 by_cases ho:e.fVar=own
 ·rw [if_pos ho,if_pos ho,z04]
  simp only [z6c]
  exact tail ev
 ·rw [if_neg ho,if_neg ho]
  by_cases he:(evs a e.fVar).length=0
  ·rw [if_pos (by omega),if_pos (by omega),z04]
   simp only [z6e]
   exact ⟨_,rfl,rfl⟩
  ·rw [if_neg (by omega),if_neg (by omega),zex _ (by have:=hb e.fVar;omega),zks ev _ (by omega) (by omega),zks ev _ (by omega) (by omega),z04]
   simp only [z6c]
   exact tail _
theorem yf8 (n:Nat)(op:Int)(h:5<=op/\op<=12):z9v n op=some (if op<9 then 0 else if op=9 then -1 else 1):=by
 have:op=5\/op=6\/op=7\/op=8\/op=9\/op=10\/op=11\/op=12:=by omega
 unfold z9v
 simp only [z2k,z1d,z1s,z29,z0c]
 grind
theorem ztu (n:Nat)(op:Int)(h:5<=op/\op<=12)(ks:List Int)(hl:ks.length<=4000000):∀ (m i:Nat),i<=ks.length->ks.length<m+i->∃ r,z1a n ks op (some 0) m (i:Int)=some r/\z59 n ks op (some 0) m (i:Int)=some r/\(r=0\/r=9)
 |0,i,h1,h2=>by omega
 |m+1,i,h1,h2=>by
  unfold z1a z59
  simp only [length_map,z0c,z0y,yf8 n op h,z04,z2k,z1d,z1h,z7e,z8y]
  by_cases hi:i<ks.length
  ·have hlt:((i:Nat):Int)<((ks.length:Nat):Int):=by omega
   simp only [hlt,if_true]
   obtain ⟨r,r1,r2,r3⟩:=ztu n op h ks hl m (i+1) (by omega) (by omega)
   rw [z1o i (by omega),r1,r2]
   have hz:∀ (K:Int->Option Int),idx ks 0 K=K (ks.headD 0):=fun K=>by
    have:=z0j (l:=ks) (i:=0) (by omega) K
    simp only [Int.natCast_zero] at this
    rw [this]
    congr 1
    cases ks with
    |nil=>simp at hi
    |cons x q=>rfl
   have hx:∀ (K:Int->Option Int),idx ks (i:Int) K=K ks[i]:=fun K=>z0j hi K
   simp only [hz,hx]
   generalize ks[i]=k
   generalize ks.headD 0=k0
   have:op=5\/op=6\/op=7\/op=8\/op=9\/op=10\/op=11\/op=12:=by omega
   clear r1 r2 hz hx h
   rcases this with rfl|rfl|rfl|rfl|rfl|rfl|rfl|rfl
   all_goals
    simp [z5a]
    first
    |(by_cases q:k=0<;>simp [q,r3])
    |(by_cases q:k=1<;>simp [q,r3])
    |(by_cases q:k=k0<;>simp [q,r3])
  ·have hlt:¬((i:Nat):Int)<((ks.length:Nat):Int):=by omega
   simp only [hlt,if_false]
   exact ⟨0,rfl,rfl,Or.inl rfl⟩
theorem yhk (n:Nat)(b:Bool):zai n b=some (if b=true then ⟨1,1,be⟩ else ⟨1,0,be⟩):=by
 unfold zai zkw
 cases b<;>simp [z5a,z04]
theorem ya9 (n:Nat)(b:Bool):z1k n b=some (if b=true then ⟨1,1,be⟩ else ⟨1,0,be⟩):=by
 unfold z1k
 cases b<;>simp [z5a]
section
variable {α β:Type}
theorem y3e {len:Nat}(h:0<len)(k:Nat->Option β):nat 0 len k=k 0:=by have:=zf1 (i:=0) h k;simpa using this
theorem ydn {len:Nat}(h:1<len)(k:Nat->Option β):nat 1 len k=k 1:=by have:=zf1 (i:=1) h k;simpa using this
theorem yot {x y:α}{l:List α}(k:α->Option β):idx (x::y::l) 1 k=k y:=by have:=z0j (l:=x::y::l) (i:=1) (by simp) k;simpa using this
end
theorem w21:IntKind.wrap .i64 (((2:Nat):Int)-1)=1:=by decide
theorem w11:IntKind.wrap .i64 (((1:Nat):Int)-1)=0:=by decide
theorem yl4 (n:Nat)(op:Int)(h:5<=op/\op<=11)(x y:Va):∃ v,z81 n op [x,y]=some v /\
  (cnd (decide (op=9))
    (nat 0 (List.map z08 [x,y]).length fun x45=>elt [x,y] x45 fun x46=>nat 1 (List.map z08 [x,y]).length fun x47=>elt [x,y] x47 fun x48 =>
      bnd (zai n (decide (x46.fKind=x48.fKind) && (decide (x46.fNum=x48.fNum) && ((x46.fText.toList == x48.fText.toList) && true)))) fun x49=>some (x49,(0:Int)))
  <| natc op 5 (bnd (zdo n x.fNum y.fNum) fun x54=>some (x54,0))
  <| natc op 6 (bnd (zdn n x.fNum y.fNum) fun x54=>some (x54,0))
  <| natc op 7 (bnd (zdm n x.fNum y.fNum) fun x54=>some (x54,0))
  <| natc op 8 (bnd (zdl n x.fNum y.fNum) fun x54=>some (x54,0))
  <| natc op 10 (bnd (zdk n x.fNum y.fNum) fun x54=>some (x54,0))
  <| natc op 11 (bnd (zdj n x.fNum y.fNum) fun x54=>some (x54,0))
  <| natc op 12 (bnd (z9r n x.fNum y.fNum) fun x54=>some (x54,0))
  <| none)=some (v,0):=by
 have:op=5\/op=6\/op=7\/op=8\/op=9\/op=10\/op=11:=by omega
 have l2:(List.map z08 [x,y]).length=2:=rfl
 have n0:∀ k:Nat->Option (Va×Int),nat 0 2 k=k 0:=fun k=>y3e (by omega) k
 have n1:∀ k:Nat->Option (Va×Int),nat 1 2 k=k 1:=fun k=>ydn (by omega) k
 have e0:∀ k:Va->Option (Va×Int),elt [x,y] 0 k=k x:=fun k=>zid (by simp) k
 have e1:∀ k:Va->Option (Va×Int),elt [x,y] 1 k=k y:=fun k=>zid (by simp) k
 unfold z81 zdo zdn zdm zdl zdk zdj z9r zdp
 simp only [l2,n0,n1,e0,e1,zu1,yot,z0c,zt6,yhk,ya9,z04,z2k,z1d,z79,z78,z4x,z4w]
 rcases this with rfl|rfl|rfl|rfl|rfl|rfl|rfl
 ·exact ⟨_,rfl,rfl⟩
 ·exact ⟨_,rfl,rfl⟩
 ·exact ⟨_,rfl,rfl⟩
 ·exact ⟨_,rfl,rfl⟩
 ·exact ⟨_,rfl,rfl⟩
 ·by_cases q:x.fNum=1
  ·simp [q,z04]
  ·simp [q,z04]
 ·by_cases q:x.fNum=1
  ·simp [q,z04]
  ·simp [q,z04]
theorem yl5 (n:Nat)(x:Va):∃ v,z81 n 12 [x]=some v/\z9r n x.fNum x.fNum=some v:=by
 unfold z81 z9r
 simp only [zu1,z0c,yhk,ya9,z04]
 exact ⟨_,rfl,rfl⟩
theorem ETrO.pos {s:Nat}(h:ETrO s e):1<=s:=by cases h;omega
theorem y77 (n:Nat)(l:List (Nat×Exn))(e:Exn)(ha:e.fArgs=l.map (fun p=>z0l p.2))(hl:l.length<=4000000)(a b:List (List Ev))(own:Int)(ev:Ev)
  (ih:∀ p∈l,∃ r,z4r n p.2 ⟨a⟩ own ev=some r/\z3d n ⟨b⟩ own ev p.2=some r) (K K':List Va->List Int->Option (Va×Int)) (hK:∀ vs,vs.length=l.length->∃ r,K vs (vs.map (·.fKind))=some r/\K' vs (vs.map (·.fKind))=some r) :
  ∀ (m k:Nat) (vs:List Va),k<=l.length->l.length<m+k->vs.length=k->∃ r,z8i n (z4r n) ev own ⟨a⟩ e K m ((k:Int),vs,vs.map (·.fKind))=some r/\z6p n (z3d n) e ev own ⟨b⟩ K' m ((k:Int),vs,vs.map (·.fKind))=some r
 |0,k,vs,h1,h2,_=>by omega
 |m+1,k,vs,h1,h2,h3=>by
  unfold z8i z6p
  simp only [ha,length_map,z0c,z0y]
  by_cases h:k<l.length
  ·have hlt:((k:Nat):Int)<((l.length:Nat):Int):=by omega
   simp only [hlt,if_true]
   rw [zof h,zof h]
   obtain ⟨⟨v,x⟩,r1,r2⟩:=ih l[k] (getElem_mem h)
   rw [r1,r2,z04,z04]
   by_cases hx:x=0
   ·simp only [hx,if_true]
    rw [zbi (by simp;omega) (by omega),zbi (by simp;omega) (by omega),zbi (by simp;omega) (by omega),zbi (by simp;omega) (by omega),z1o k (by omega)]
    have:=y77 n l e ha hl a b own ev ih K K' hK m (k+1) (vs++[v]) (by omega) (by omega) (by simp;omega)
    simpa using this
   simp_all
  grind
theorem yqm (a b:List (List Ev))(hb:∀ v,(evs a v).length<=1000000)(own:Int)(ev:Ev):∀ (s:Nat) (e:Exn),ETrO s e->(∀ i:Nat,Occ i e->evs a (i:Int)=evs b (i:Int))->s<=4000000->∀ n,s+5000000<n->∃ r,z4r n e ⟨a⟩ own ev=some r/\z3d n ⟨b⟩ own ev e=some r:=by
 intro s
 induction s using Nat.strongRecOn with
 |ind s IH =>
  intro e ht hab hs n hn
  cases ht with
  |mk l e hnd h ha =>
   obtain ⟨n',rfl⟩:∃ n',n=n' + 1:=⟨n-1,by omega⟩
   have hl:l.length<=(l.map (·.1)).sum:=zxm (l:=l) (fun p hp=>(h p hp).pos)
   obtain ⟨f1,f2,f3,f4⟩:=ydm hnd
   simp only [z4r,z3d,length_map,z0c,z0y]
   by_cases h0:e.fArgs.length=0
   ·have:((e.fArgs.length:Nat):Int)=0:=by omega
    simp only [this,if_true]
    obtain ⟨r,r1,r2⟩:=yqg n' (by omega) e hnd h0 a b hab hb own ev
    rw [r1,r2,z04]
    exact ⟨_,rfl,rfl⟩
   ·have:¬((e.fArgs.length:Nat):Int)=0:=by omega
    simp only [this,if_false]
    have hll:e.fArgs.length=l.length:=by rw [ha,length_map]
    have hop:5<=e.fOp/\e.fOp<=12/\(e.fOp=12->l.length=1)/\(e.fOp≠12->l.length=2):=by
     unfold arP at f1 f2
     by_cases q1:e.fOp<0
     ·rw [if_pos q1] at f1;omega
     by_cases q2:12<e.fOp
     ·omega
     rw [if_neg q1,if_neg q2] at f2
     by_cases q3:e.fOp<5
     ·rw [if_pos q3] at f2;omega
     ·omega
    refine y77 n' l e ha (by omega) a b own ev (fun p hp=>by
     have:=zsz hp
     exact IH p.1 (by omega) p.2 (h p hp) (fun i hi=>hab i (.sub e p.2 (by grind) hi)) (by omega) n' (by omega)) _ _ (fun vs hvs=>?_) n' 0 [] (by omega) (by omega) rfl
    obtain ⟨r,r1,r2,r3⟩:=ztu n' e.fOp ⟨hop.1,hop.2.1⟩ (vs.map (·.fKind)) (by rw [length_map];omega) n' 0 (by omega) (by rw [length_map];omega)
    simp only [Int.natCast_zero] at r1 r2
    unfold zbw zhr
    rw [r1,r2,z04,z04]
    by_cases hr:r=0
    ·simp only [hr,if_true]
     by_cases o12:e.fOp=12
     ·have hv1:vs.length=1:=by have:=hop.2.2.1 o12;omega
      match vs,hv1 with
      |[x],_ =>
       obtain ⟨v,v1,v2⟩:=yl5 n' x
       rw [o12,v1,z04]
       have n0:∀ k:Nat->Option (Va×Int),nat 0 1 k=k 0:=fun k=>y3e (by omega) k
       have e0:∀ k:Va->Option (Va×Int),elt [x] 0 k=k x:=fun k=>zid (by simp) k
       have l0:∀ z:Option (Va×Int),ltx 0 1 z=z:=fun z=>y7i (by omega) z
       simp only [zt6,length_cons,length_nil,Nat.zero_add,w11,n0,e0,l0,v2,z04]
       exact ⟨_,rfl,rfl⟩
     ·have hv2:vs.length=2:=by have:=hop.2.2.2 o12;omega
      match vs,hv2 with
      |[x,y],_ =>
       obtain ⟨v,v1,v2⟩:=yl4 n' e.fOp ⟨hop.1,by omega⟩ x y
       rw [v1,z04]
       refine ⟨(v,0),rfl,?_⟩
       rw [<-v2]
       have n0:∀ k:Nat->Option (Va×Int),nat 0 2 k=k 0:=fun k=>y3e (by omega) k
       have n1:∀ k:Nat->Option (Va×Int),nat 1 2 k=k 1:=fun k=>ydn (by omega) k
       have e0:∀ k:Va->Option (Va×Int),elt [x,y] 0 k=k x:=fun k=>zid (by simp) k
       have e1:∀ k:Va->Option (Va×Int),elt [x,y] 1 k=k y:=fun k=>zid (by simp) k
       have l0:∀ z:Option (Va×Int),ltx 0 2 z=z:=fun z=>y7i (by omega) z
       have l1:∀ z:Option (Va×Int),ltx 1 2 z=z:=fun z=>y7i (by omega) z
       simp only [zt6,z0c,length_map,length_cons,length_nil,Nat.zero_add,Nat.reduceAdd,w21,n0,n1,e0,e1,l0,l1]
    simp_all
theorem ynn (a b:List (List Ev))(hb:∀ v,(evs a v).length<=1000000)(own:Int)(ev:Ev)(s:Nat)(e:Exn)(hab:∀ i:Nat,Occ i e->evs a (i:Int)=evs b (i:Int))(ht:ETr s e)(hs:s<=4000000)(n:Nat)(hn:10000000<n) :
  ∃ r,z31 n e ⟨a⟩ own ev=some r/\zff n e ⟨b⟩ own ev=some r:=by
 obtain ⟨c,c1,c2,c3⟩:=yhp s e ht hs n (by omega)
 unfold z31 zff zew zox
 rw [c1,c2]
 simp only [z04,z0c,z0y,yhk,ya9,z2k,z1d,z4y,zdr]
 by_cases hc:c=0
 ·simp only [hc,if_true]
  obtain ⟨r,r1,r2⟩:=yqm a b hb own ev s e (c3 hc) hab hs n (by omega)
  rw [r1,r2]
  simp only [z04]
  split
  all_goals simp_all
 ·simp only [hc,if_false,z04]
  exact ⟨_,rfl,rfl⟩
end Go.Proofs.YtidhlpjgifoneaaGreat
