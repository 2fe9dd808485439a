/- Layers 1, 7, 8, plainly. -/
import Derived.Test.YthbogefcfhmpgaaGreatK19
set_option linter.unusedVariables false
set_option linter.unusedSimpArgs false
namespace Go.Proofs.YthbogefcfhmpgaaGreat
open Go.RowKit List
open List renaming length_map->aA,take_succ_eq_append_getElem->aD,drop_eq_nil_of_le->aE,getElem_mem->aF,drop_zero->aG,length_cons->aM,map_append->aN,length_nil->aO
open Int renaming natCast_zero->aB
open IntKind renaming wrap->aC
open Bool renaming or_eq_true->aH,and_eq_false_iff->aK,not_true->aP
open Or renaming inr->aJ,inl->aL
abbrev Va:=A4
abbrev Ev:=Au
abbrev Exn:=Ah
abbrev be:ByteArray:=ByteArray.empty
abbrev va0:Va:=⟨0,0,ByteArray.empty⟩
def vcP (v:Va):Int :=
 if v.fKind<0 then 1 else if 2<v.fKind then 1 else if v.fKind=2 then (if v.fNum=0 then (if 64<v.fText.size then 13 else 0) else 3) else
 if v.fText=be then (if v.fKind=1 then (if v.fNum<0 then 2 else if 1<v.fNum then 2 else 0) else if v.fNum < -1099511627776 then 2 else if 1099511627776<v.fNum then 2 else 0) else 3
theorem U3 (n:Nat)(v:Va):Im n v=some (vcP v):=by
 unfold Im vcP
 simp only [A3,Ak,Jr]
 grind
variable {α β:Type}
theorem Wk (p:Prop)[Decidable p](x y:Option α)(k:α->Option β):bnd (if p then x else y) k=if p then bnd x k else bnd y k:=by split<;>rfl
theorem p_vc (n:Nat)(v:Va):Er n v=some (vcP v):=by
 obtain ⟨k,x,t⟩:=v
 unfold Er Jn vcP
 simp only [A3,Ak,Jr]
 by_cases k0:k=0
 ·subst k0
  by_cases ht:t=be
  ·subst ht
   have hs:be.size=0:=rfl
   simp [hs,A0,Wk]
   grind
  ·simp [ht]
 ·by_cases k1:k=1
  ·subst k1
   by_cases ht:t=be
   ·subst ht
    have hs:be.size=0:=rfl
    simp [hs,A0,Wk]
    grind
   ·simp [ht]
  ·by_cases k2:k=2
   ·subst k2
    simp [A0,Wk]
    grind
   grind
theorem zkb (x y:Va):(decide (x.fKind=y.fKind) && (decide (x.fNum=y.fNum) && ((x.fText.toList == y.fText.toList) && true)))=decide (x=y):=by
 cases x;cases y
 simp [Jr]
theorem Tg (x:Va):(decide (x.fKind=0) && (decide (x.fNum=0) && ((x.fText.toList == ByteArray.empty.toList) && true)))=decide (x=va0):=zkb x va0
def arP (op:Int):Int:=if op<0 then -1 else if 12<op then -1 else if op<5 then 0 else if op=12 then 1 else 2
theorem zgq (n:Nat)(op:Int):Ui n op=some (arP op):=by
 unfold Ui arP
 simp only [Ao,Aa,Gm,Ej,A3,Af,decide_eq_true_eq]
 by_cases h1:op<0
 ·simp [h1,show op≠0 by omega,show op≠1 by omega,show op≠2 by omega,show op≠3 by omega,show op≠4 by omega,show op≠5 by omega,show op≠6 by omega,show op≠7 by omega,show op≠8 by omega,show op≠9 by omega,show op≠10 by omega,show op≠11 by omega,show op≠12 by omega]
 ·by_cases h2:12<op
  ·simp [h1,h2,show op≠0 by omega,show op≠1 by omega,show op≠2 by omega,show op≠3 by omega,show op≠4 by omega,show op≠5 by omega,show op≠6 by omega,show op≠7 by omega,show op≠8 by omega,show op≠9 by omega,show op≠10 by omega,show op≠11 by omega,show op≠12 by omega]
  ·have:op=0\/op=1\/op=2\/op=3\/op=4\/op=5\/op=6\/op=7\/op=8\/op=9\/op=10\/op=11\/op=12:=by omega
   rcases this with rfl|rfl|rfl|rfl|rfl|rfl|rfl|rfl|rfl|rfl|rfl|rfl|rfl<;>rfl
theorem zjd (n:Nat)(op:Int):Pm n op=some (if op<0 then (0,false) else if 12<op then (0,false) else (arP op,true)):=by
 unfold Pm arP
 simp only [Ao,Aa,Jg,A3,Af,decide_eq_true_eq,if_true]
 grind
def usV (op:Int):Bool:=decide (op=1) || decide (op=2) || decide (op=3) || decide (op=4)
def usF (op:Int):Bool:=decide (op=1) || decide (op=4)
theorem ziy (n:Nat)(op:Int):Ul n op=some (usV op,usF op):=by
 unfold Ul
 simp only [Ao,Aa,Nt,L1,A3,Af,decide_eq_true_eq,if_true]
 by_cases h1:op=1
 ·subst h1;rfl
 ·by_cases h2:op=2
  ·subst h2;rfl
  ·by_cases h3:op=3
   ·subst h3;rfl
   ·by_cases h4:op=4
    ·subst h4;rfl
    ·simp [usV,usF,h1,h2,h3,h4]
theorem zi4 (n:Nat)(op:Int):Me n op=some (usV op,usF op):=by
 unfold Me
 simp only [Ao,Aa,Jk,Jj,A3,Af,decide_eq_true_eq,if_true]
 by_cases h1:op=1
 ·subst h1;rfl
 ·by_cases h2:op=2
  ·subst h2;rfl
  ·by_cases h3:op=3
   ·subst h3;rfl
   ·by_cases h4:op=4
    ·subst h4;rfl
    ·simp [usV,usF,h1,h2,h3,h4]
def suP (k:Int)(v:Va):Bool:=decide (v.fKind=0) || decide (k=4) || decide (k=5)
theorem ziw (n:Nat)(k:Int)(v:Va):Pk n k v=some (suP k v):=by
 unfold Pk
 simp only [Ao,Aa,Hc,A3]
 by_cases h1:v.fKind=0
 ·simp [suP,h1]
 ·by_cases h2:k=4
  ·simp [suP,h1,h2]
  ·simp [suP,h1,h2]
theorem W0 (n:Nat)(k:Int)(v:Va):O7 n k v=some (decide (k=0) || suP k v):=by
 unfold O7
 simp only [Ao,Aa,Hz,A3]
 by_cases h1:v.fKind=0
 ·simp [suP,h1]
 ·by_cases h2:k=4
  ·by_cases h3:k=0
   ·simp [suP,h1,h2,h3]
   ·simp [suP,h1,h2]
  ·by_cases h3:k=0
   ·simp [suP,h1,h2,h3]
   ·simp [suP,h1,h2,h3]
def ndP (e:Exn):Int :=
 if arP e.fOp<0 then 1 else if (e.fArgs.length:Int)≠arP e.fOp then 15 else
 if (usV e.fOp && (decide (e.fVar<0) || decide (16<=e.fVar))) || (usF e.fOp && (decide (e.fField<0) || decide (8<=e.fField))) then 2 else
 if decide (e.fOp=4) && (decide (e.fKind<1) || decide (5<e.fKind)) then 1 else
 if (decide (e.fOp=4) || decide (e.fOp=0)) && !decide (vcP e.fValue=0) then vcP e.fValue else
 if decide (e.fOp=4) && (!(suP e.fKind e.fValue) || (decide (e.fKind=1) && !decide (e.fValue=va0))) then 9 else
 if (!(usV e.fOp) && !decide (e.fVar=0)) || (!(usF e.fOp) && !decide (e.fField=0)) || (!decide (e.fOp=4) && !decide (e.fKind=0)) || (!(decide (e.fOp=4) || decide (e.fOp=0)) && !decide (e.fValue=va0)) then 3 else 0
theorem zcr (op:Int)(h:¬arP op<0):op=0\/op=1\/op=2\/op=3\/op=4\/(usV op=false/\usF op=false/\op≠0/\op≠4):=by
 unfold arP at h
 by_cases h0:op=0
 ·exact aL h0
 by_cases h1:op=1
 ·exact aJ (aL h1)
 by_cases h2:op=2
 ·exact aJ (aJ (aL h2))
 by_cases h3:op=3
 ·omega
 by_cases h4:op=4
 ·omega
 exact aJ (aJ (aJ (aJ (aJ ⟨by simp [usV,h1,h2,h3,h4],by simp [usF,h1,h4],h0,h4⟩))))
theorem us0:usV 0=false/\usF 0=false:=by decide
theorem us1:usV 1=true/\usF 1=true:=by decide
theorem us2:usV 2=true/\usF 2=false:=by decide
theorem us3:usV 3=true/\usF 3=false:=by decide
theorem us4:usV 4=true/\usF 4=true:=by decide
theorem ziz (n:Nat)(e:Exn):Um n e=some (ndP e):=by
 unfold Um
 rw [zgq,A0,ziy]
 simp only [A0,aA,A3,Ak,U3,W0,Ao,Aa,E1,L2,Nv,Nu,I8,Bp,Tg]
 unfold ndP
 by_cases ha:arP e.fOp<0
 ·rw [if_pos ha,if_pos ha]
 rw [if_neg ha,if_neg ha]
 by_cases hl:(e.fArgs.length:Int)=arP e.fOp
 rotate_left
 ·rw [if_neg hl,if_pos hl]
 rw [if_pos hl,if_neg (show ¬((e.fArgs.length:Int)≠arP e.fOp) from fun h=>h hl)]
 have hc:=zcr e.fOp ha
 obtain ⟨op,args,var,field,kind,val⟩:=e
 simp only at *
 clear hl ha
 rcases hc with rfl|rfl|rfl|rfl|rfl|⟨h1,h2,h3,h4⟩
 ·simp [us0,Af]
  grind
 ·simp [us1,Af]
  grind
 ·simp [us2,Af]
  grind
 ·simp [us3,Af]
  grind
 ·simp [us4,Af]
  grind
 ·simp [h1,h2,h3,h4,Af]
  grind
theorem zao (n:Nat)(e:Exn):P6 n e=some (if vcP e.fValue=0 then (if decide (e.fOp=4) && (!(suP e.fKind e.fValue) || (decide (e.fKind=1) && !decide (e.fValue=va0))) then 9 else 0) else vcP e.fValue):=by
 unfold P6
 rw [p_vc,A0]
 simp only [A3,Ak,ziw,A0,Ao,Aa,Fj,Tg]
 obtain ⟨op,args,var,field,kind,val⟩:=e
 simp only
 by_cases h:op=4
 ·subst h
  simp [Af]
  grind
 ·simp [h,Af]
  split<;>rfl
theorem zkt (n:Nat)(e:Exn):Pv n e=some (ndP e):=by
 unfold Pv
 rw [zjd,A0,zi4]
 simp only [A0,aA,A3,Ak,zao,Ao,Aa,D9,Hd,Jm,Jl,Bl,Tg]
 unfold ndP
 by_cases ha:arP e.fOp<0
 ·rw [if_pos ha]
  have:e.fOp<0\/12<e.fOp:=by
   unfold arP at ha
   by_cases h1:e.fOp<0
   ·exact aL h1
   ·omega
  rcases this with h|h
  ·rw [if_pos h,Ae]
  ·by_cases h':e.fOp<0
   ·rw [if_pos h',Ae]
   ·rw [if_neg h',if_pos h,Ae]
 have hb:¬e.fOp<0/\¬12<e.fOp:=by
  unfold arP at ha
  refine ⟨fun h=>ha (by rw [if_pos h];decide),fun h=>ha ?_⟩
  by_cases h1:e.fOp<0
  ·rw [if_pos h1];decide
  ·rw [if_neg h1,if_pos h];decide
 rw [if_neg hb.1,if_neg hb.2,if_neg ha,Ab]
 by_cases hl:(e.fArgs.length:Int)=arP e.fOp
 rotate_left
 ·rw [if_neg hl,if_pos hl]
 rw [if_pos hl,if_neg (show ¬((e.fArgs.length:Int)≠arP e.fOp) from fun h=>h hl)]
 have hc:=zcr e.fOp ha
 obtain ⟨op,args,var,field,kind,val⟩:=e
 simp only at *
 clear hl ha hb
 rcases hc with rfl|rfl|rfl|rfl|rfl|⟨h1,h2,h3,h4⟩
 ·simp [us0,Af]
  grind
 ·simp [us1,Af]
  grind
 ·simp [us2,Af]
  grind
 ·simp [us3,Af]
  grind
 ·simp [us4,Af]
  grind
 ·simp [h1,h2,h3,h4,Af]
  grind
inductive ETr:Nat->Exn->Prop
 |mk (l:List (Nat×Exn)) (e:Exn) (h:∀ p∈l,ETr p.1 p.2) (ha:e.fArgs=l.map (fun p=>Ag p.2)):ETr (1+(l.map (·.1)).sum) e
inductive ETrO:Nat->Exn->Prop
 |mk (l:List (Nat×Exn)) (e:Exn) (hn:ndP e=0) (h:∀ p∈l,ETrO p.1 p.2) (ha:e.fArgs=l.map (fun p=>Ag p.2)):ETrO (1+(l.map (·.1)).sum) e
variable {e:Exn}
theorem ETr.pos {s:Nat}(h:ETr s e):1<=s:=by cases h;omega
variable {l:List (Nat×Exn)}
theorem Hg {p:Nat×Exn}(h:p∈l):p.1<=(l.map (·.1)).sum:=by
 induction l with
 |nil=>cases h
 |cons x l ih =>
  grind
theorem Mq (h:∀ p∈l,1<=p.1):l.length<=(l.map (·.1)).sum:=by
 induction l with
 |nil=>simp
 |cons x l ih =>
  grind
def preS (l:List (Nat×Exn))(k:Nat):Nat:=((l.take k).map (·.1)).sum
variable {k:Nat}
theorem Zq (h:k<l.length):preS l (k+1)=preS l k+l[k].1:=by
 unfold preS
 rw [aD h,aN,sum_append]
 simp_all
theorem zbm (h:l.length<=k):preS l k=(l.map (·.1)).sum:=by unfold preS;rw [take_of_length_le h]
theorem zem (l:List (Nat×Exn))(k:Nat):preS l k<=(l.map (·.1)).sum:=by
 unfold preS
 conv=>rhs;rw [<-take_append_drop k l]
 grind
theorem G7 (h:k<l.length)(K:Exn->Option β):idxD Bs (l.map fun p=>Ag p.2) (k:Int) K=K l[k].2:=by
 unfold idxD
 rw [if_pos (by omega)]
 simp only [Int.toNat_natCast,getElem?_map,getElem?_eq_getElem h,Option.map_some,Pa]
theorem Zd (most:Int)(hm:0<=most)(hm2:most<=1000000)(n:Nat)(l:List (Nat×Exn))(e:Exn)(ha:e.fArgs=l.map (fun p=>Ag p.2))(hs:(l.map (·.1)).sum<=4000000)(hl:l.length<=4000000)
  (ih:∀ p∈l,∃ c:Int,Em n p.2 most=some c/\1<=c/\c<=p.1/\(c<=most->c=p.1)) :
  ∀ (m k:Nat) (v:Int),k<=l.length->l.length<m+k->1<=v->v<=1+preS l k->(v<=most->v=1+preS l k) ->
   ∃ c:Int,Gn n (Em n) most e (fun y=>some y) m (v,(k:Int))=some c/\1<=c/\c<=1+(l.map (·.1)).sum/\(c<=most->c=1+(l.map (·.1)).sum)
 |0,k,v,h1,h2,_,_,_=>by omega
 |m+1,k,v,h1,h2,h3,h4,h5=>by
  unfold Gn
  simp only [Ao,Aa,Hy,ha,aA,A3,Ae]
  have hle:=zem l k
  by_cases h:k<l.length
  ·rw [if_pos (by omega)]
   by_cases hv:v<=most
   ·rw [if_pos hv,G7 h]
    obtain ⟨c,c1,c2,c3,c4⟩:=ih l[k] (aF h)
    rw [c1,A0,Ai k (by omega),C0 _ (by have:=Hg (aF h);omega)]
    have hp:=Zq h
    have hv5:=h5 hv
    exact Zd most hm hm2 n l e ha hs hl ih m (k+1) (v+c) (by omega) (by omega) (by omega) (by omega) (fun hq=>by have:=c4 (by omega);omega)
   grind
  ·rw [if_neg (by omega)]
   have hp:=zbm (l:=l) (k:=k) (by omega)
   grind
theorem zew (most:Int)(hm:0<=most)(hm2:most<=1000000):∀ (s:Nat) (e:Exn),ETr s e->s<=4000000->∀ n,s+1<n->∃ c:Int,Em n e most=some c/\1<=c/\c<=s/\(c<=most->c=s):=by
 intro s
 induction s using Nat.strongRecOn with
 |ind s IH =>
  intro e ht hs n hn
  cases ht with
  |mk l e h ha =>
   obtain ⟨n',rfl⟩:∃ n',n=n' + 1:=⟨n-1,by omega⟩
   have hl:=Mq (l:=l) (fun p hp=>(h p hp).pos)
   simp only [Em]
   obtain ⟨c,c1,c2,c3,c4⟩:=Zd most hm hm2 n' l e ha (by omega) (by omega) (fun p hp=>by
    have:=Hg hp
    exact IH p.1 (by omega) p.2 (h p hp) (by omega) n' (by omega)) n' 0 1 (by omega) (by omega) (by omega) (by omega) (fun _=>by simp [preS])
   grind
theorem Zt (n:Nat)(l:List (Nat×Exn))(e:Exn)(ha:e.fArgs=l.map (fun p=>Ag p.2))(hs:(l.map (·.1)).sum<=4000000)(hl:l.length<=4000000)
  (ih:∀ p∈l,∃ d:Int,El n p.2=some d/\G4 n p.2=some ((p.1:Int),d)/\0<=d/\d<=p.1) :
  ∀ (m k:Nat) (d:Int),k<=l.length->l.length<m+k->0<=d->d<=preS l k ->
   ∃ D:Int,Kx n (El n) e (fun y=>some (aC .i64 (y+1))) m (d,(k:Int))=some (D+1)/\Mb n (G4 n) e (fun y0 y1=>some (y0,(aC .i64 (y1+1)))) m (((1+preS l k:Nat):Int),d,(k:Int))=some (((1+(l.map (·.1)).sum:Nat):Int),D+1)/\0<=D/\D<=(l.map (·.1)).sum
 |0,k,d,h1,h2,_,_=>by omega
 |m+1,k,d,h1,h2,h3,h4=>by
  unfold Kx Mb
  simp only [ha,aA,A3]
  have hle:=zem l k
  by_cases h:k<l.length
  ·rw [if_pos (by omega),if_pos (by omega),G7 h,G7 h]
   obtain ⟨c,c1,c2,c3,c4⟩:=ih l[k] (aF h)
   have hp:=Zq h
   have hm:=Hg (aF h)
   rw [c1,c2,A0,A0,Ai k (by omega),C0 _ (by omega)]
   have e1:(((1+preS l k:Nat):Int)+((l[k].1:Nat):Int))=((1+preS l (k+1):Nat):Int):=by omega
   simp only
   rw [e1]
   exact Zt n l e ha hs hl ih m (k+1) (max d c) (by omega) (by omega) (by omega) (by omega)
  ·rw [if_neg (by omega),if_neg (by omega)]
   have hp:=zbm (l:=l) (k:=k) (by omega)
   refine ⟨d,by rw [C0 _ (by omega)],?_,h3,by omega⟩
   rw [C0 _ (by omega),hp]
theorem zi5:∀ (s:Nat) (e:Exn),ETr s e->s<=4000000->∀ n,s+1<n->∃ d:Int,El n e=some d/\G4 n e=some ((s:Int),d)/\0<=d/\d<=s:=by
 intro s
 induction s using Nat.strongRecOn with
 |ind s IH =>
  intro e ht hs n hn
  cases ht with
  |mk l e h ha =>
   obtain ⟨n',rfl⟩:∃ n',n=n' + 1:=⟨n-1,by omega⟩
   have hl:=Mq (l:=l) (fun p hp=>(h p hp).pos)
   simp only [El,G4]
   obtain ⟨D,d1,d2,d3,d4⟩:=Zt n' l e ha (by omega) (by omega) (fun p hp=>by
    have:=Hg hp
    exact IH p.1 (by omega) p.2 (h p hp) (by omega) n' (by omega)) n' 0 0 (by omega) (by omega) (by omega) (by simp)
   exact ⟨D+1,d1,d2,by omega,by push_cast;omega⟩
theorem Z4 (n:Nat)(l:List (Nat×Exn))(e:Exn)(ha:e.fArgs=l.map (fun p=>Ag p.2))(hl:l.length<=4000000)
  (ih:∀ p∈l,∃ r:Int,Lh n p.2=some r/\G1 n p.2=some r/\(r=0->ETrO p.1 p.2)) :
  ∀ (m k:Nat),k<=l.length->l.length<m+k->(∀ p∈l.take k,ETrO p.1 p.2) ->
   ∃ r:Int,R0 n (Lh n) e (some 0) m (k:Int)=some r/\M7 n (G1 n) e (some 0) m (k:Int)=some r/\(r=0->∀ p∈l,ETrO p.1 p.2)
 |0,k,h1,h2,_=>by omega
 |m+1,k,h1,h2,h3=>by
  unfold R0 M7
  simp only [ha,aA,A3,Ak]
  by_cases h:k<l.length
  ·rw [if_pos (by omega),if_pos (by omega),G7 h,G7 h]
   obtain ⟨r,r1,r2,r3⟩:=ih l[k] (aF h)
   rw [r1,r2,A0,A0,Ai k (by omega)]
   by_cases hr:r=0
   ·rw [if_pos hr,if_pos hr]
    refine Z4 n l e ha hl ih m (k+1) (by omega) (by omega) (fun p hp=>?_)
    rw [aD h,mem_append,mem_singleton] at hp
    grind
   simp_all
  ·rw [if_neg (by omega),if_neg (by omega)]
   grind
theorem ziu:∀ (s:Nat) (e:Exn),ETr s e->s<=4000000->∀ n,s+1<n->∃ r:Int,Lh n e=some r/\G1 n e=some r/\(r=0->ETrO s e):=by
 intro s
 induction s using Nat.strongRecOn with
 |ind s IH =>
  intro e ht hs n hn
  cases ht with
  |mk l e h ha =>
   obtain ⟨n',rfl⟩:∃ n',n=n' + 1:=⟨n-1,by omega⟩
   have hl:=Mq (l:=l) (fun p hp=>(h p hp).pos)
   simp only [Lh,G1,ziz,zkt,A0,Ak,A3]
   by_cases hn0:ndP e=0
   ·rw [if_pos hn0,if_pos hn0]
    obtain ⟨r,r1,r2,r3⟩:=Z4 n' l e ha (by omega) (fun p hp=>by
     have:=Hg hp
     exact IH p.1 (by omega) p.2 (h p hp) (by omega) n' (by omega)) n' 0 (by omega) (by omega) (by simp)
    exact ⟨r,r1,r2,fun hr=>.mk l e hn0 (r3 hr) ha⟩
   simp_all
theorem zey (s:Nat)(e:Exn)(ht:ETr s e)(hs:s<=4000000)(n:Nat)(hn:s+1<n):∃ r:Int,Gy n e=some r/\G2 n e=some r/\(r=0->ETrO s e):=by
 obtain ⟨c,c1,c2,c3,c4⟩:=zew 64 (by omega) (by omega) s e ht hs n hn
 obtain ⟨d,d1,d2,d3,d4⟩:=zi5 s e ht hs n hn
 obtain ⟨r,r1,r2,r3⟩:=ziu s e ht hs n hn
 unfold Gy G2
 rw [c1,d1,d2,r1,r2]
 simp only [A0,A3]
 grind
def wrP (k:Int)(v:Va):Int:=if vcP v=0 then (if suP k v=true then 0 else 9) else vcP v
theorem Wd (n:Nat)(k:Int)(hk:1<=k/\k<=5)(v:Va):Jc n k v=some (wrP k v):=by
 unfold Jc M0 wrP suP
 simp only [p_vc,A0,A3,Ak,Ao,Aa,Fi]
 by_cases h:vcP v=0
 ·rw [if_pos h,if_pos h]
  by_cases h0:v.fKind=0
  ·simp [h0,Af,A0]
  ·by_cases h1:k=1
   ·simp [h0,h1,Af,A0]
   ·by_cases h2:k=2
    ·simp [h0,h1,h2,Af,A0]
    ·by_cases h3:k=3
     ·simp [h0,h1,h2,h3,Af,A0]
     ·have:k=4\/k=5:=by omega
      rcases this with rfl|rfl<;>simp [h0,Af,A0]
 ·rw [if_neg h,if_neg h]
theorem zbo (n:Nat)(k:Int)(hk:1<=k/\k<=5)(v:Va):Rr n k v=some (wrP k v):=by
 unfold Rr wrP
 simp only [U3,W0,A0,A3,Ak]
 have h0:decide (k=0)=false:=by rw [decide_eq_false];omega
 simp only [h0,Bool.false_or]
 by_cases h:vcP v=0
 ·rw [if_pos h,if_pos h]
  cases suP k v<;>simp [Af]
 ·rw [if_neg h,if_neg h]
def comb (k:Int)(a b:Va):Va:=if k=1 then ⟨0,aC .i64 (a.fNum+b.fNum),be⟩ else if k=2 then ⟨0,min a.fNum b.fNum,be⟩ else if k=3 then ⟨0,max a.fNum b.fNum,be⟩ else if k=4 then a else b
theorem zj2 (n:Nat)(k:Int)(hk:1<=k/\k<=5)(a b:Va):U8 n k a b=some (comb k a b):=by
 unfold U8 comb
 simp only [A3]
 grind
theorem zl6 (n:Nat)(k:Int)(hk:1<=k/\k<=5)(a b:Va):Ou n k a b=some (comb k a b):=by
 unfold Ou comb
 simp only [Jy,Cl,A0,S1,Rz,Ry,Rx,Rw,Rv]
 grind
def AInv (k:Int)(i:Nat)(V:Va):Prop:=if i=0 then V=va0 else if k=1 then V.fKind=0/\V.fText=be/\-((i:Int)*1099511627776)<=V.fNum/\V.fNum<=(i:Int)*1099511627776 else vcP V=0/\suP k V=true
variable {i:Nat}{V:Va}
theorem AInv.check (n:Nat){k:Int}(hk:1<=k/\k<=5)(hi:i<=4096)(h:AInv k i V):Rt n ⟨k,(i:Int),V⟩=some 0/\P5 n ⟨k,(i:Int),V⟩=some 0:=by
 have w1:aC .i64 ((i:Int)*1099511627776)=(i:Int)*1099511627776:=C0 _ (by omega)
 have w2:aC .i64 (0-(i:Int)*1099511627776)=-((i:Int)*1099511627776):=by rw [C0 _ (by omega)];omega
 have k0:¬k=0:=by omega
 have ka:(0:Int)<=k:=by omega
 have c0:¬(i:Int)<0:=by omega
 have c1:¬4096<(i:Int):=by omega
 unfold Rt P5 S5 M3
 simp only [A0,A3,Ak,Ao,Aa,L3,H4,Nq,Np,I0,Nn,Iw,Tg,p_vc,U3,w1,w2,ka,hk.2,if_true,decide_true,Ab,c0,c1,if_false,decide_false,Ae,k0,Jr]
 unfold AInv at h
 by_cases hi0:i=0
 ·rw [if_pos hi0] at h
  subst hi0
  subst h
  simp [Af]
 ·rw [if_neg hi0] at h
  have hi1:¬(i:Int)=0:=by omega
  simp only [hi1,if_false,decide_false,Ae]
  by_cases k1:k=1
  ·grind
  ·rw [if_neg k1] at h
   obtain ⟨h1,h2⟩:=h
   simp only [k1,if_false,h1,W0,h2,A0,if_true,Bool.or_true]
   refine ⟨by simp [Af],?_⟩
   have:=Wd n k hk V
   unfold Jc wrP at this
   rw [p_vc,A0] at this
   simp only [h1,h2,if_true,decide_true,aP,Ae] at this
   cases hs:M0 n k V with
   |none=>rw [hs] at this;unfold bnd at this;cases this
   |some b =>
    rw [hs,A0] at this
    cases b with
    |true=>simp [A0,Af]
    |false=>simp [Af] at this
def Eb (k:Int)(i:Nat)(V x:Va):Va:=if i=0 then x else comb k V x
theorem AInv.step {k:Int}(hk:1<=k/\k<=5)(hi:i<=4096){x:Va}(h:AInv k i V)(hx:wrP k x=0):AInv k (i+1) (Eb k i V x):=by
 have hv:vcP x=0/\suP k x=true:=by
  unfold wrP at hx
  by_cases h1:vcP x=0
  ·simp_all
  ·omega
 have hn:x.fKind=0->x.fText=be/\-1099511627776<=x.fNum/\x.fNum<=1099511627776:=fun h0=>by
  have:=hv.1
  unfold vcP at this
  grind
 have hs:k=1\/k=2\/k=3->x.fKind=0:=fun h=>by
  have:=hv.2
  simp only [suP,aH,decide_eq_true_eq] at this
  omega
 have nv:∀ q:Int,-1099511627776<=q->q<=1099511627776->vcP ⟨0,q,be⟩=0:=fun q h1 h2=>by
  unfold vcP
  grind
 unfold AInv at h ⊢
 rw [if_neg (by omega)]
 unfold Eb
 by_cases hi0:i=0
 ·simp_all
 ·rw [if_neg hi0] at h
  rw [if_neg hi0]
  by_cases k1:k=1
  ·rw [if_pos k1] at h ⊢
   obtain ⟨h1,h2,h3,h4⟩:=h
   obtain ⟨a,b,c⟩:=hn (hs (aL k1))
   unfold comb
   rw [if_pos k1]
   rw [C0 _ (by omega)]
   grind
  ·rw [if_neg k1] at h ⊢
   obtain ⟨h1,h2⟩:=h
   have hV:V.fKind=0->-1099511627776<=V.fNum/\V.fNum<=1099511627776:=fun h0=>by
    unfold vcP at h1
    omega
   have hVs:k=2\/k=3->V.fKind=0:=fun h=>by
    simp only [suP,aH,decide_eq_true_eq] at h2
    omega
   unfold comb
   rw [if_neg k1]
   by_cases k2:k=2
   ·rw [if_pos k2]
    obtain ⟨a,b,c⟩:=hn (hs (aJ (aL k2)))
    obtain ⟨d,e⟩:=hV (hVs (aL k2))
    exact ⟨nv _ (by omega) (by omega),by simp [suP]⟩
   ·rw [if_neg k2]
    by_cases k3:k=3
    ·rw [if_pos k3]
     obtain ⟨a,b,c⟩:=hn (hs (aJ (aJ k3)))
     obtain ⟨d,e⟩:=hV (hVs (aJ k3))
     exact ⟨nv _ (by omega) (by omega),by simp [suP]⟩
    grind
theorem zkr (n:Nat){k:Int}(hk:1<=k/\k<=5)(hi:i<4096)(h:AInv k i V)(x:Va):Uo n ⟨k,(i:Int),V⟩ x=some (if wrP k x=0 then (⟨k,((i+1:Nat):Int),Eb k i V x⟩,0) else (⟨0,0,⟨0,0,be⟩⟩,wrP k x)):=by
 unfold Uo
 rw [(h.check n hk (by omega)).1,A0]
 simp only [zbo n k hk,A0,A3,Ak,zj2 n k hk,Ao,Aa,L8,if_true]
 rw [Ai i (by omega)]
 by_cases hx:wrP k x=0
 ·rw [if_pos hx,if_pos hx,if_neg (by omega),if_neg (by omega)]
  unfold Eb
  by_cases h0:i=0
  all_goals simp_all
 ·rw [if_neg hx,if_neg hx]
def bad (k:Int):List Va->Option Int
 |[]=>none
 |x::l=>if wrP k x=0 then bad k l else some (wrP k x)
def fV (k:Int):Nat->Va->List Va->Va
 |_,V,[]=>V
 |i,V,x::l=>fV k (i+1) (Eb k i V x) l
theorem zbp (n:Nat){k:Int}(hk:1<=k/\k<=5)(init:Va)(l:List Va)(hl:l.length<=4096)(K:Int->Int->Int->Int->ByteArray->Option (Va×Int)):∀ (m i:Nat) (V:Va),i<=l.length->l.length<m+i->AInv k i V ->
  Rs n init l K m ((i:Int),k,(i:Int),V.fKind,V.fNum,V.fText)=(match bad k (l.drop i) with|some e=>some (va0,e)|none=>K k (l.length:Int) (fV k i V (l.drop i)).fKind (fV k i V (l.drop i)).fNum (fV k i V (l.drop i)).fText)/\(bad k (l.drop i)=none->AInv k l.length (fV k i V (l.drop i)))
 |0,i,V,h1,h2,_=>by omega
 |m+1,i,V,h1,h2,h3=>by
  unfold Rs
  simp only [aA,A3,Ak]
  by_cases h:i<l.length
  ·rw [if_pos (by omega),Aj h]
   have ha:=zkr n hk (i:=i) (by omega) h3 l[i]
   have hV:V=⟨V.fKind,V.fNum,V.fText⟩:=rfl
   rw [<-hV,ha,A0,Cs l i h]
   simp only [bad,fV]
   by_cases hx:wrP k l[i]=0
   ·simp only [hx,if_true]
    rw [Ai i (by omega)]
    exact zbp n hk init l hl K m (i+1) _ (by omega) (by omega) (h3.step hk (by omega) hx)
   grind
  ·rw [if_neg (by omega),aE (by omega)]
   have:i=l.length:=by omega
   subst this
   exact ⟨rfl,fun _=>h3⟩
theorem zes (n:Nat){k:Int}(hk:1<=k/\k<=5)(init:Va)(l:List Va)(hl:l.length<=4096)(K:Option (Va×Int)):∀ (m i:Nat),i<=l.length->l.length<m+i->M4 n init l k K m (i:Int)=(match bad k (l.drop i) with|some e=>some (va0,e)|none=>K)
 |0,i,h1,h2=>by omega
 |m+1,i,h1,h2=>by
  unfold M4
  simp only [aA,A3,Ak]
  by_cases h:i<l.length
  ·rw [if_pos (by omega),Aj h,Wd n k hk,A0,Cs l i h]
   simp only [bad]
   by_cases hx:wrP k l[i]=0
   ·simp only [hx,if_true]
    rw [Ai i (by omega)]
    exact zes n hk init l hl K m (i+1) (by omega) (by omega)
   ·simp only [hx,if_false]
  ·rw [if_neg (by omega),aE (by omega)]
   rfl
theorem Vr (n:Nat){k:Int}(hk:1<=k/\k<=5)(l:List Va)(hl:l.length<=4096)(K:Int->Int->Int->Int->ByteArray->Option Bf):∀ (m i:Nat) (V:Va),i<=l.length->l.length<m+i ->
  Ll n k l K m ((i:Int),k,(i:Int),V.fKind,V.fNum,V.fText)=K k (l.length:Int) (fV k i V (l.drop i)).fKind (fV k i V (l.drop i)).fNum (fV k i V (l.drop i)).fText
 |0,i,V,h1,h2=>by omega
 |m+1,i,V,h1,h2=>by
  unfold Ll
  simp only [aA,A3]
  by_cases h:i<l.length
  ·rw [if_pos (by omega),Aj h,Cs l i h]
   unfold Sf Sc Sd
   have k0:¬k=0:=by omega
   have hV:V=⟨V.fKind,V.fNum,V.fText⟩:=rfl
   simp only [A3,k0,if_false,A0]
   rw [<-hV,zl6 n k hk]
   simp only [fV]
   by_cases h0:i=0
   ·have:((i:Nat):Int)=0:=by omega
    rw [if_pos this,A0,Ai i (by omega)]
    have e:=Vr n hk l hl K m (i+1) (Eb k i V l[i]) (by omega) (by omega)
    have e2:Eb k i V l[i]=l[i]:=by unfold Eb;rw [if_pos h0]
    rw [e2] at e ⊢
    have e3:((i+1:Nat):Int)=1:=by omega
    rw [e3] at e ⊢
    rw [A0]
    exact e
   ·rw [if_neg (by omega),if_neg (by omega),A0,A0,Ai i (by omega)]
    have e:=Vr n hk l hl K m (i+1) (Eb k i V l[i]) (by omega) (by omega)
    have e2:Eb k i V l[i]=comb k V l[i]:=by unfold Eb;rw [if_neg h0]
    rw [e2] at e ⊢
    rw [A0]
    exact e
  ·rw [if_neg (by omega),aE (by omega)]
   have:i=l.length:=by omega
   subst this
   rfl
theorem zgo (n:Nat){k:Int}(hk:1<=k/\k<=5)(hi:i<=4096)(h:AInv k i V)(init:Va):∃ r,Rg n ⟨k,(i:Int),V⟩ init=some r/\Lv n ⟨k,(i:Int),V⟩ init=some r:=by
 obtain ⟨h1,h2⟩:=h.check n hk hi
 unfold Rg Lv
 rw [h1,h2]
 simp only [A0,zbo n k hk,Wd n k hk,A3,Ak,Ao,Aa,Ni,Iu,if_true,Af]
 repeat' split
 all_goals exact ⟨_,rfl,rfl⟩
theorem p_of (n:Nat)(hn:5000<n){k:Int}(hk:1<=k/\k<=5)(l:List Va)(init:Va):∃ r,S9 n k l init=some r/\Mc n k l init=some r:=by
 unfold S9 Mc S5 M3
 have ka:(0:Int)<=k:=by omega
 simp only [A0,A3,Ak,Ao,Aa,L3,H4,ka,hk.2,if_true,aA,decide_true,Ab]
 by_cases h:4096<l.length
 ·rw [if_pos (by omega),if_pos (by omega)]
  exact ⟨_,rfl,rfl⟩
 ·rw [if_neg (by omega),if_neg (by omega)]
  have e1:=zbp n hk init l (by omega) (fun y0 y1 y2 y3 y4=>bnd (Rg n (⟨y0,y1,⟨y2,y3,y4⟩⟩:Bf) init) fun x47=>some (x47.1,x47.2)) n 0 va0 (by omega) (by omega) (by simp [AInv])
  have e2:=zes n hk init l (by omega) (bnd (P2 n (⟨k,0,⟨0,0,ByteArray.empty⟩⟩:Bf) l k) fun x42=>bnd (Lv n x42 init) fun x43=>some (x43.1,x43.2)) n 0 (by omega) (by omega)
  simp only [aB,aG] at e1 e2
  rw [e1.1,e2]
  cases hb:bad k l with
  |some e=>exact ⟨_,rfl,rfl⟩
  |none =>
   have hi:=e1.2 hb
   have e3:=Vr n hk l (by omega) (fun y0 y1 y2 y3 y4=>some (⟨y0,y1,⟨y2,y3,y4⟩⟩:Bf)) n 0 va0 (by omega) (by omega)
   simp only [aB,aG] at e3
   unfold P2
   rw [e3]
   simp only [A0]
   obtain ⟨r,r1,r2⟩:=zgo n hk (i:=l.length) (by omega) hi init
   rw [r1,r2]
   simp only [A0]
   exact ⟨_,rfl,rfl⟩
def evs (vs:List (List Ev))(v:Int):List Ev:=if v<0 then [] else if (vs.length:Int)<=v then [] else vs.getD v.toNat []
theorem Hf {l:List α}{i:Int}(d:α)(k:α->Option β)(h0:0<=i)(h1:i<(l.length:Int)):idx l i k=k (l.getD i.toNat d):=by
 obtain ⟨m,rfl⟩:∃ m:Nat,i=m:=⟨i.toNat,by omega⟩
 have hm:m<l.length:=by omega
 rw [Aj hm]
 simp_all
theorem Vo (n:Nat)(vs:List (List Ev))(v:Int):O2 n ⟨vs⟩ v=some (evs vs v):=by
 unfold O2 evs
 simp only [Ao,Aa,Nh,aA,A3,Ab]
 by_cases h:v<0
 ·rw [if_pos h,if_pos h]
 ·rw [if_neg h,if_neg h]
  by_cases h2:(vs.length:Int)<=v
  ·rw [if_pos h2,if_pos h2]
  ·rw [if_neg h2,if_neg h2,Hf [] _ (by omega) (by omega)]
theorem W3 (n:Nat)(vs:List (List Ev))(own:Int)(ev:Ev)(v:Int):Kz n ⟨vs⟩ own ev v=some (evs vs v):=by
 unfold Kz evs
 simp only [Ao,Aa,Hp,aA,A3,Ab]
 by_cases h:v<0
 ·rw [if_pos h,if_pos h]
 ·rw [if_neg h,if_neg h]
  by_cases h2:(vs.length:Int)<=v
  ·rw [if_pos h2,if_pos h2]
  ·rw [if_neg h2,if_neg h2,Hf [] _ (by omega) (by omega)]
theorem zeu (n:Nat)(ev:Ev)(f:Int)(hf:0<=f):Jo n ev f=some (if (ev.fValues.length:Int)<=f then (va0,6) else (ev.fValues.getD f.toNat va0,0)):=by
 unfold Jo
 simp only [aA,A3]
 by_cases h:(ev.fValues.length:Int)<=f
 ·rw [if_pos h,if_pos h]
 ·rw [if_neg h,if_neg h,Hf va0 _ hf (by omega)]
theorem Z5 (n:Nat)(e:Exn)(hf:0<=e.fField)(es:List Ev)(hl:es.length<=1000000)(K K':List Va->Option (Va×Int))(hK:∀ l,∃ r,K l=some r/\K' l=some r):∀ (m i:Nat) (acc:List Va),i<=es.length->es.length<m+i->acc.length=i ->
  ∃ r,R3 n e es K m ((i:Int),acc)=some r/\Kl n e es K' m ((i:Int),acc)=some r
 |0,i,acc,h1,h2,_=>by omega
 |m+1,i,acc,h1,h2,h3=>by
  unfold R3 Kl
  simp only [aA,A3,Ak]
  by_cases h:i<es.length
  ·rw [if_pos (by omega),if_pos (by omega)]
   simp only [Aj h]
   rw [zeu n _ _ hf,A0]
   by_cases hv:(es[i].fValues.length:Int)<=e.fField
   ·simp_all
   ·rw [if_neg hv,if_neg hv,Hf va0 _ hf (by omega)]
    simp only [if_true]
    rw [Bv (by simp;omega) (by omega),Bv (by simp;omega) (by omega),Ai i (by omega)]
    exact Z5 n e hf es hl K K' hK m (i+1) _ (by omega) (by omega) (by simp;omega)
  ·rw [if_neg (by omega),if_neg (by omega)]
   exact hK acc
theorem zc7 (h:ndP e=0):0<=arP e.fOp/\(e.fArgs.length:Int)=arP e.fOp/\(usF e.fOp=true->0<=e.fField)/\(e.fOp=4->1<=e.fKind/\e.fKind<=5):=by
 unfold ndP at h
 grind
inductive Occ (i:Nat):Exn->Prop
 |here (e:Exn) (h:usV e.fOp=true) (hv:e.fVar=(i:Int)):Occ i e
 |sub (e y:Exn) (hy:Ag y∈e.fArgs) (h:Occ i y):Occ i e
theorem zla (h:ndP e=0)(hu:usV e.fOp=true):0<=e.fVar/\e.fVar<16:=by
 unfold ndP at h
 grind
theorem zkv (n:Nat)(hn:2000000<n)(e:Exn)(hnd:ndP e=0)(h0:e.fArgs.length=0)(a b:List (List Ev))(hoc:∀ i:Nat,Occ i e->evs a (i:Int)=evs b (i:Int))(hb:∀ v,(evs a v).length<=1000000)(own:Int)(ev:Ev) :
  ∃ r,S4 n e ⟨a⟩ own ev=some r/\Lc n ⟨b⟩ own ev e=some r:=by
 obtain ⟨f1,f2,f3,f4⟩:=zc7 hnd
 by_cases o0:e.fOp=0
 ·unfold S4 Lc
  simp only [Vo,W3,A0,A3,o0,if_true]
  exact ⟨_,rfl,rfl⟩
 have hu:usV e.fOp=true:=by
  unfold arP at f1 f2
  by_cases q1:e.fOp<0
  ·rw [if_pos q1] at f1;omega
  by_cases q2:12<e.fOp
  ·rw [if_neg q1,if_pos q2] at f1;omega
  rw [if_neg q1,if_neg q2] at f2
  by_cases q3:e.fOp<5
  ·unfold usV
   grind
  ·rw [if_neg q3] at f2
   split at f2<;>omega
 have hab:evs a e.fVar=evs b e.fVar:=by
  have hv:=zla hnd hu
  have:=hoc e.fVar.toNat (.here e hu (by omega))
  rwa [show ((e.fVar.toNat:Nat):Int)=e.fVar by omega] at this
 unfold S4 Lc
 simp only [Vo,W3,<-hab,A0,A3,Ak,aA]
 rw [if_neg o0,if_neg o0]
 by_cases o3:e.fOp=3
 ·simp_all
 rw [if_neg o3,if_neg o3]
 by_cases o4:e.fOp=4
 ·rw [if_pos o4,if_pos o4]
  unfold Ra
  rw [W3,<-hab,A0]
  have hf:=f3 (by rw [o4];decide)
  have hk:=f4 o4
  obtain ⟨r,r1,r2⟩:=Z5 n e hf (evs a e.fVar) (hb _) (fun y=>bnd (S9 n e.fKind y e.fValue) fun x44=>some (x44.1,x44.2)) (fun y=>bnd (Mc n e.fKind y e.fValue) fun x43=>some (x43.1,x43.2)) (fun l=>by
   obtain ⟨r,r1,r2⟩:=p_of n (by omega) hk l e.fValue
   exact ⟨r,by rw [r1,A0],by rw [r2,A0]⟩) n 0 [] (by omega) (by have:=hb e.fVar;omega) rfl
  simp only [aB] at r1 r2
  rw [r1,r2]
  exact ⟨r,rfl,by rw [A0]⟩
 rw [if_neg o4,if_neg o4]
 have hop:e.fOp=1\/e.fOp=2:=by
  unfold arP at f1 f2
  by_cases q1:e.fOp<0
  ·rw [if_pos q1] at f1;omega
  by_cases q2:12<e.fOp
  ·rw [if_neg q1,if_pos q2] at f1;omega
  rw [if_neg q1,if_neg q2] at f2
  by_cases q3:e.fOp<5
  ·omega
  ·omega
 simp only [Ao,Aa,Hu,Ht]
 unfold Xq
 simp only [Vo,A0,A3,Ak,aA]
 have tail:∀ x:Ev,∃ r,(if e.fOp=2 then some ((⟨0,x.fTime,be⟩:Va),(0:Int)) else if (x.fValues.length:Int)<=e.fField then some (va0,6) else idx x.fValues e.fField fun x50=>bnd (Im n x50) fun x51=>if x51=0 then (idx x.fValues e.fField fun x52=>some (x52,0)) else some (va0,x51))=some r /\
   (if e.fOp=2 then some ((⟨0,x.fTime,be⟩:Va),(0:Int)) else bnd (Jo n (⟨x.fSource,x.fSeq,x.fType,x.fTime,x.fValues⟩:Au) e.fField) fun x9=>if x9.2=0 then (bnd (Er n x9.1) fun x12=>if x12=0 then some (x9.1,0) else some (va0,x12)) else if x9.2=0 then some (x9.1,0) else some (va0,x9.2))=some r:=fun x=>by
  by_cases o2:e.fOp=2
  ·simp_all
  rw [if_neg o2,if_neg o2]
  have o1:e.fOp=1:=by omega
  have hf:=f3 (by rw [o1];decide)
  rw [zeu n _ _ hf,A0]
  by_cases hv:(x.fValues.length:Int)<=e.fField
  ·simp only [hv,if_true]
   exact ⟨_,rfl,rfl⟩
  ·simp only [hv,if_false]
   rw [Hf va0 _ hf (by omega),Hf va0 _ hf (by omega),U3,p_vc,A0]
   simp only [if_true,A0]
   split
   all_goals simp_all
 by_cases ho:e.fVar=own
 ·rw [if_pos ho,if_pos ho,A0]
  simp only [Ab]
  exact tail ev
 ·rw [if_neg ho,if_neg ho]
  by_cases he:(evs a e.fVar).length=0
  ·rw [if_pos (by omega),if_pos (by omega),A0]
   simp only [Ae]
   exact ⟨_,rfl,rfl⟩
  ·rw [if_neg (by omega),if_neg (by omega),C0 _ (by have:=hb e.fVar;omega),Hf ev _ (by omega) (by omega),Hf ev _ (by omega) (by omega),A0]
   simp only [Ab]
   exact tail _
theorem zd6 (n:Nat)(op:Int)(h:5<=op/\op<=12):U7 n op=some (if op<9 then 0 else if op=9 then -1 else 1):=by
 have:op=5\/op=6\/op=7\/op=8\/op=9\/op=10\/op=11\/op=12:=by omega
 unfold U7
 simp only [Ao,Aa,Hn,Kc,A3]
 grind
theorem Y1 (n:Nat)(op:Int)(h:5<=op/\op<=12)(ks:List Int)(hl:ks.length<=4000000):∀ (m i:Nat),i<=ks.length->ks.length<m+i->∃ r,F6 n ks op (some 0) m (i:Int)=some r/\Eo n ks op (some 0) m (i:Int)=some r/\(r=0\/r=9)
 |0,i,h1,h2=>by omega
 |m+1,i,h1,h2=>by
  unfold F6 Eo
  simp only [aA,A3,Ak,zd6 n op h,A0,Ao,Aa,Gh,Fl,H7]
  by_cases hi:i<ks.length
  ·have hlt:((i:Nat):Int)<((ks.length:Nat):Int):=by omega
   simp only [hlt,if_true]
   obtain ⟨r,r1,r2,r3⟩:=Y1 n op h ks hl m (i+1) (by omega) (by omega)
   rw [Ai i (by omega),r1,r2]
   have hz:∀ (K:Int->Option Int),idx ks 0 K=K (ks.headD 0):=fun K=>by
    have:=Aj (l:=ks) (i:=0) (by omega) K
    simp only [aB] at this
    rw [this]
    congr 1
    cases ks with
    |nil=>simp at hi
    |cons x q=>rfl
   have hx:∀ (K:Int->Option Int),idx ks (i:Int) K=K ks[i]:=fun K=>Aj hi K
   simp only [hz,hx]
   generalize ks[i]=k
   generalize ks.headD 0=k0
   have:op=5\/op=6\/op=7\/op=8\/op=9\/op=10\/op=11\/op=12:=by omega
   clear r1 r2 hz hx h
   rcases this with rfl|rfl|rfl|rfl|rfl|rfl|rfl|rfl
   all_goals
    simp [Af]
    first
    |(by_cases q:k=0<;>simp [q,r3])
    |(by_cases q:k=1<;>simp [q,r3])
    |(by_cases q:k=k0<;>simp [q,r3])
  ·have hlt:¬((i:Nat):Int)<((ks.length:Nat):Int):=by omega
   simp only [hlt,if_false]
   exact ⟨0,rfl,rfl,aL rfl⟩
theorem Wq (n:Nat)(b:Bool):D2 n b=some (if b=true then ⟨1,1,be⟩ else ⟨1,0,be⟩):=by
 unfold D2 Sn
 cases b<;>simp [Af,A0]
theorem We (n:Nat)(b:Bool):Cw n b=some (if b=true then ⟨1,1,be⟩ else ⟨1,0,be⟩):=by
 unfold Cw
 cases b<;>simp [Af]
section
variable {α β:Type}
theorem W5 {len:Nat}(h:0<len)(k:Nat->Option β):nat 0 len k=k 0:=by have:=Qb (i:=0) h k;simpa using this
theorem zc8 {len:Nat}(h:1<len)(k:Nat->Option β):nat 1 len k=k 1:=by have:=Qb (i:=1) h k;simpa using this
theorem zjt {x y:α}{l:List α}(k:α->Option β):idx (x::y::l) 1 k=k y:=by have:=Aj (l:=x::y::l) (i:=1) (by simp) k;simpa using this
end
theorem w21:aC .i64 (((2:Nat):Int)-1)=1:=by decide
theorem w11:aC .i64 (((1:Nat):Int)-1)=0:=by decide
theorem zgz (n:Nat)(op:Int)(h:5<=op/\op<=11)(x y:Va):∃ v,O6 n op [x,y]=some v /\
  (cnd (decide (op=9))
    (nat 0 (List.map A6 [x,y]).length fun x45=>elt [x,y] x45 fun x46=>nat 1 (List.map A6 [x,y]).length fun x47=>elt [x,y] x47 fun x48 =>
      bnd (D2 n (decide (x46.fKind=x48.fKind) && (decide (x46.fNum=x48.fNum) && ((x46.fText.toList == x48.fText.toList) && true)))) fun x49=>some (x49,(0:Int)))
  <| natc op 5 (bnd (Om n x.fNum y.fNum) fun x54=>some (x54,0))
  <| natc op 6 (bnd (Ol n x.fNum y.fNum) fun x54=>some (x54,0))
  <| natc op 7 (bnd (Ok n x.fNum y.fNum) fun x54=>some (x54,0))
  <| natc op 8 (bnd (Oj n x.fNum y.fNum) fun x54=>some (x54,0))
  <| natc op 10 (bnd (Oi n x.fNum y.fNum) fun x54=>some (x54,0))
  <| natc op 11 (bnd (Oh n x.fNum y.fNum) fun x54=>some (x54,0))
  <| natc op 12 (bnd (Iz n x.fNum y.fNum) fun x54=>some (x54,0))
  <| none)=some (v,0):=by
 have:op=5\/op=6\/op=7\/op=8\/op=9\/op=10\/op=11:=by omega
 have l2:(List.map A6 [x,y]).length=2:=rfl
 have n0:∀ k:Nat->Option (Va×Int),nat 0 2 k=k 0:=fun k=>W5 (by omega) k
 have n1:∀ k:Nat->Option (Va×Int),nat 1 2 k=k 1:=fun k=>zc8 (by omega) k
 have e0:∀ k:Va->Option (Va×Int),elt [x,y] 0 k=k x:=fun k=>G9 (by simp) k
 have e1:∀ k:Va->Option (Va×Int),elt [x,y] 1 k=k y:=fun k=>G9 (by simp) k
 unfold O6 Om Ol Ok Oj Oi Oh Iz Oo
 simp only [l2,n0,n1,e0,e1,zcb,zjt,A3,Jy,Wq,We,A0,Ao,Aa,Ij,Ii,Nl,Nk]
 rcases this with rfl|rfl|rfl|rfl|rfl|rfl|rfl
 ·exact ⟨_,rfl,rfl⟩
 ·exact ⟨_,rfl,rfl⟩
 ·exact ⟨_,rfl,rfl⟩
 ·exact ⟨_,rfl,rfl⟩
 ·exact ⟨_,rfl,rfl⟩
 ·by_cases q:x.fNum=1
  ·simp [q,A0]
  ·simp [q,A0]
 ·by_cases q:x.fNum=1
  ·simp [q,A0]
  ·simp [q,A0]
theorem zh0 (n:Nat)(x:Va):∃ v,O6 n 12 [x]=some v/\Iz n x.fNum x.fNum=some v:=by
 unfold O6 Iz
 simp only [zcb,A3,Wq,We,A0]
 exact ⟨_,rfl,rfl⟩
theorem ETrO.pos {s:Nat}(h:ETrO s e):1<=s:=by cases h;omega
theorem z8b (n:Nat)(l:List (Nat×Exn))(e:Exn)(ha:e.fArgs=l.map (fun p=>Ag p.2))(hl:l.length<=4000000)(a b:List (List Ev))(own:Int)(ev:Ev)
  (ih:∀ p∈l,∃ r,Lm n p.2 ⟨a⟩ own ev=some r/\Fb n ⟨b⟩ own ev p.2=some r) (K K':List Va->List Int->Option (Va×Int)) (hK:∀ vs,vs.length=l.length->∃ r,K vs (vs.map (·.fKind))=some r/\K' vs (vs.map (·.fKind))=some r) :
  ∀ (m k:Nat) (vs:List Va),k<=l.length->l.length<m+k->vs.length=k->∃ r,R4 n (Lm n) ev own ⟨a⟩ e K m ((k:Int),vs,vs.map (·.fKind))=some r/\Ku n (Fb n) e ev own ⟨b⟩ K' m ((k:Int),vs,vs.map (·.fKind))=some r
 |0,k,vs,h1,h2,_=>by omega
 |m+1,k,vs,h1,h2,h3=>by
  unfold R4 Ku
  simp only [ha,aA,A3,Ak]
  by_cases h:k<l.length
  ·have hlt:((k:Nat):Int)<((l.length:Nat):Int):=by omega
   simp only [hlt,if_true]
   rw [G7 h,G7 h]
   obtain ⟨⟨v,x⟩,r1,r2⟩:=ih l[k] (aF h)
   rw [r1,r2,A0,A0]
   by_cases hx:x=0
   ·simp only [hx,if_true]
    rw [Bv (by simp;omega) (by omega),Bv (by simp;omega) (by omega),Bv (by simp;omega) (by omega),Bv (by simp;omega) (by omega),Ai k (by omega)]
    have:=z8b n l e ha hl a b own ev ih K K' hK m (k+1) (vs++[v]) (by omega) (by omega) (by simp;omega)
    simpa using this
   simp_all
  grind
theorem zl3 (a b:List (List Ev))(hb:∀ v,(evs a v).length<=1000000)(own:Int)(ev:Ev):∀ (s:Nat) (e:Exn),ETrO s e->(∀ i:Nat,Occ i e->evs a (i:Int)=evs b (i:Int))->s<=4000000->∀ n,s+5000000<n->∃ r,Lm n e ⟨a⟩ own ev=some r/\Fb n ⟨b⟩ own ev e=some r:=by
 intro s
 induction s using Nat.strongRecOn with
 |ind s IH =>
  intro e ht hab hs n hn
  cases ht with
  |mk l e hnd h ha =>
   obtain ⟨n',rfl⟩:∃ n',n=n' + 1:=⟨n-1,by omega⟩
   have hl:l.length<=(l.map (·.1)).sum:=Mq (l:=l) (fun p hp=>(h p hp).pos)
   obtain ⟨f1,f2,f3,f4⟩:=zc7 hnd
   simp only [Lm,Fb,aA,A3,Ak]
   by_cases h0:e.fArgs.length=0
   ·have:((e.fArgs.length:Nat):Int)=0:=by omega
    simp only [this,if_true]
    obtain ⟨r,r1,r2⟩:=zkv n' (by omega) e hnd h0 a b hab hb own ev
    rw [r1,r2,A0]
    exact ⟨_,rfl,rfl⟩
   ·have:¬((e.fArgs.length:Nat):Int)=0:=by omega
    simp only [this,if_false]
    have hll:e.fArgs.length=l.length:=by rw [ha,aA]
    have hop:5<=e.fOp/\e.fOp<=12/\(e.fOp=12->l.length=1)/\(e.fOp≠12->l.length=2):=by
     unfold arP at f1 f2
     by_cases q1:e.fOp<0
     ·rw [if_pos q1] at f1;omega
     by_cases q2:12<e.fOp
     ·omega
     rw [if_neg q1,if_neg q2] at f2
     by_cases q3:e.fOp<5
     ·rw [if_pos q3] at f2;omega
     ·omega
    refine z8b n' l e ha (by omega) a b own ev (fun p hp=>by
     have:=Hg hp
     exact IH p.1 (by omega) p.2 (h p hp) (fun i hi=>hab i (.sub e p.2 (by grind) hi)) (by omega) n' (by omega)) _ _ (fun vs hvs=>?_) n' 0 [] (by omega) (by omega) rfl
    obtain ⟨r,r1,r2,r3⟩:=Y1 n' e.fOp ⟨hop.1,hop.2.1⟩ (vs.map (·.fKind)) (by rw [aA];omega) n' 0 (by omega) (by rw [aA];omega)
    simp only [aB] at r1 r2
    unfold Xj Sh
    rw [r1,r2,A0,A0]
    by_cases hr:r=0
    ·simp only [hr,if_true]
     by_cases o12:e.fOp=12
     ·have hv1:vs.length=1:=by have:=hop.2.2.1 o12;omega
      match vs,hv1 with
      |[x],_ =>
       obtain ⟨v,v1,v2⟩:=zh0 n' x
       rw [o12,v1,A0]
       have n0:∀ k:Nat->Option (Va×Int),nat 0 1 k=k 0:=fun k=>W5 (by omega) k
       have e0:∀ k:Va->Option (Va×Int),elt [x] 0 k=k x:=fun k=>G9 (by simp) k
       have l0:∀ z:Option (Va×Int),ltx 0 1 z=z:=fun z=>Wr (by omega) z
       simp only [Jy,aM,aO,Nat.zero_add,w11,n0,e0,l0,v2,A0]
       exact ⟨_,rfl,rfl⟩
     ·have hv2:vs.length=2:=by have:=hop.2.2.2 o12;omega
      match vs,hv2 with
      |[x,y],_ =>
       obtain ⟨v,v1,v2⟩:=zgz n' e.fOp ⟨hop.1,by omega⟩ x y
       rw [v1,A0]
       refine ⟨(v,0),rfl,?_⟩
       rw [<-v2]
       have n0:∀ k:Nat->Option (Va×Int),nat 0 2 k=k 0:=fun k=>W5 (by omega) k
       have n1:∀ k:Nat->Option (Va×Int),nat 1 2 k=k 1:=fun k=>zc8 (by omega) k
       have e0:∀ k:Va->Option (Va×Int),elt [x,y] 0 k=k x:=fun k=>G9 (by simp) k
       have e1:∀ k:Va->Option (Va×Int),elt [x,y] 1 k=k y:=fun k=>G9 (by simp) k
       have l0:∀ z:Option (Va×Int),ltx 0 2 z=z:=fun z=>Wr (by omega) z
       have l1:∀ z:Option (Va×Int),ltx 1 2 z=z:=fun z=>Wr (by omega) z
       simp only [Jy,A3,aA,aM,aO,Nat.zero_add,Nat.reduceAdd,w21,n0,n1,e0,e1,l0,l1]
    simp_all
theorem ziv (a b:List (List Ev))(hb:∀ v,(evs a v).length<=1000000)(own:Int)(ev:Ev)(s:Nat)(e:Exn)(hab:∀ i:Nat,Occ i e->evs a (i:Int)=evs b (i:Int))(ht:ETr s e)(hs:s<=4000000)(n:Nat)(hn:10000000<n) :
  ∃ r,Uj n e ⟨a⟩ own ev=some r/\Pn n e ⟨b⟩ own ev=some r:=by
 obtain ⟨c,c1,c2,c3⟩:=zey s e ht hs n (by omega)
 unfold Uj Pn Xr Sr
 rw [c1,c2]
 simp only [A0,A3,Ak,Wq,We,Ao,Aa,Nm,Jh]
 by_cases hc:c=0
 ·simp only [hc,if_true]
  obtain ⟨r,r1,r2⟩:=zl3 a b hb own ev s e (c3 hc) hab hs n (by omega)
  rw [r1,r2]
  simp only [A0]
  split
  all_goals simp_all
 ·simp only [hc,if_false,A0]
  exact ⟨_,rfl,rfl⟩
def fidx (p:α->Bool)(l:List α):Int:=match l.findIdx? p with|some j=>(j:Int)|none=>-1
theorem Q8 (p:α->Bool)(l:List α):decide (0<=fidx p l)=l.any p:=by
 unfold fidx
 grind
def Ef (p:α->Bool)(k:Nat)(l:List α):Int:=match l.findIdx? p with|some j=>((k+j:Nat):Int)|none=>-1
theorem Mi (p:α->Bool)(k:Nat)(x:α)(l:List α):Ef p k (x::l)=if p x=true then (k:Int) else Ef p (k+1) l:=by
 unfold Ef
 grind
theorem Mh (p:α->Bool)(l:List α):Ef p 0 l=fidx p l:=by
 unfold Ef fidx
 simp_all
theorem z80 (n:Nat)(x:Int)(l:List Int)(hl:l.length<=1000000000):∀ (m k:Nat),k<=l.length->l.length<m+k->Lx n x l (some (-1)) m (k:Int)=some (Ef (fun y=>decide (x=y)) k (l.drop k))
 |0,k,h1,h2=>by omega
 |m+1,k,h1,h2=>by
  unfold Lx
  simp only [aA,A3]
  by_cases h:k<l.length
  ·rw [if_pos (by omega),Aj h,Cs l k h,Mi,Ai k (by omega),z80 n x l hl m (k+1) (by omega) (by omega)]
   grind
  ·rw [if_neg (by omega),aE (by omega)]
   rfl
theorem Mf (n:Nat)(x:Int)(l:List Int)(hl:l.length<=1000000000)(hn:l.length<n):E4 n l x=some (l.any fun y=>decide (x=y)):=by
 unfold E4 Si
 have:=z80 n x l hl n 0 (by omega) (by omega)
 simp only [aB,aG,Mh] at this
 rw [this,A0,Q8]
theorem Z8 (n:Nat)(a1c0:B0)(p:B0->Bool)(l:List B0)(hl:l.length<=1000000000)(hb:∀ x∈l,Lq n x a1c0=some (p x)):∀ (m k:Nat),k<=l.length->l.length<m+k->Li n a1c0 l (some (-1)) m (k:Int)=some (Ef p k (l.drop k))
 |0,k,h1,h2=>by omega
 |m+1,k,h1,h2=>by
  unfold Li
  simp only [aA,A3]
  by_cases h:k<l.length
  ·rw [if_pos (by omega),Aj h,Cs l k h,Mi,hb _ (aF h),A0,Ai k (by omega),Z8 n a1c0 p l hl hb m (k+1) (by omega) (by omega)]
   cases p l[k]<;>simp [Af]
  ·rw [if_neg (by omega),aE (by omega)]
   rfl
theorem zj7 (n:Nat)(a1c0:B0)(p:B0->Bool)(l:List B0)(hl:l.length<=1000000000)(hn:l.length<n)(hb:∀ x∈l,Lq n x a1c0=some (p x)):Ow n l a1c0=some (fidx p l):=by
 unfold Ow
 have:=Z8 n a1c0 p l hl hb n 0 (by omega) (by omega)
 simpa only [aB,aG,Mh] using this
theorem zl5 (n:Nat)(a1c0:B0)(p:B0->Bool)(l:List B0)(hl:l.length<=1000000000)(hn:l.length<n)(hb:∀ x∈l,Lq n x a1c0=some (p x)):Lj n l a1c0=some (l.any p):=by
 unfold Lj
 rw [zj7 n a1c0 p l hl hn hb,A0,Q8]
theorem Xy (n:Nat)(p:Bz->Bool)(l:List Bz)(hl:l.length<=1000000000)(hb:∀ x∈l,H8 n x=some (p x)):∀ (m k:Nat),k<=l.length->l.length<m+k->Kq n l (some (-1)) m (k:Int)=some (Ef p k (l.drop k))
 |0,k,h1,h2=>by omega
 |m+1,k,h1,h2=>by
  unfold Kq
  simp only [aA,A3]
  by_cases h:k<l.length
  ·rw [if_pos (by omega),Aj h,Cs l k h,Mi,hb _ (aF h),A0,Ai k (by omega),Xy n p l hl hb m (k+1) (by omega) (by omega)]
   cases p l[k]<;>simp [Af]
  ·rw [if_neg (by omega),aE (by omega)]
   rfl
theorem zan (n:Nat)(p:Bz->Bool)(l:List Bz)(hl:l.length<=1000000000)(hn:l.length<n)(hb:∀ x∈l,H8 n x=some (p x)):O3 n l=some (fidx p l):=by
 unfold O3
 have:=Xy n p l hl hb n 0 (by omega) (by omega)
 simpa only [aB,aG,Mh] using this
theorem Ze (n:Nat)(p:Bz->Bool)(l:List Bz)(hl:l.length<=1000000000)(hn:l.length<n)(hb:∀ x∈l,H8 n x=some (p x)):Kr n l=some (l.any p):=by
 unfold Kr
 rw [zan n p l hl hn hb,A0,Q8]
abbrev Gd:=B0
abbrev Stt:=D1
abbrev Ed:=Ac
abbrev Aut:=A8
def WfE (e:Exn):Prop:=∃ z,z<=4000000/\ETr z e
structure WfX (x:Ed):Prop where
 cond:WfE x.fCond
 checks:∃ ys:List Exn,x.fChecks=ys.map Ag/\∀ y∈ys,WfE y
 lc:x.fChecks.length<=1100000
 lo:x.fOpens.length<=1100000
 lcl:x.fCloses.length<=1100000
 li:x.fInside.length<=1100000
 ll:x.fLimits.length<=1100000
structure WfA (a:Aut):Prop where
 ls:a.fStates.length<=1100000
 le:a.fEdges.length<=1100000
 st:∀ s∈a.fStates,s.fGuards.length<=1100000/\∀ g∈s.fGuards,WfE g.fCond
 ed:∀ x∈a.fEdges,WfX x
theorem WfE.check (h:WfE e)(n:Nat)(hn:10000000<n):∃ r:Int,Gy n e=some r/\G2 n e=some r:=by
 obtain ⟨z,hz,ht⟩:=h
 obtain ⟨r,r1,r2,_⟩:=zey z e ht hz n (by omega)
 exact ⟨r,r1,r2⟩
theorem Qk (n:Nat)(a b:Int):Cr n a b=some (decide (a<0) || decide (b<a)):=by
 unfold Cr
 simp only [Ao,Aa,O1,A3]
 by_cases h:a<0<;>simp [h]
theorem Q5 (n:Nat)(a b:Int):De n a b=some (decide (0<=a) && decide (a<b)):=by
 unfold De
 simp only [Ao,Aa,Iq,A3]
 by_cases h:0<=a<;>simp [h]
theorem Pz (a b:Int):(decide (a<0) || decide (b-1<a))=!(decide (0<=a) && decide (a<b)):=by
 grind
theorem zcs {q:α->Bool}{l:List α}(hk:k<i)(hi:i<=l.length):((l.take i).drop k).any q=(q (l[k]'(by omega)) || ((l.take i).drop (k+1)).any q):=by
 rw [Cs _ k (by simp;omega),any_cons,getElem_take]
theorem Y9 (n:Nat)(l:List Gd)(a:Aut)(i:Nat)(hi:i<l.length)(hl:l.length<=1100000)(K:Option Int):∀ (m k:Nat),k<=i->i<m+k->Qt n l a (i:Int) K m (k:Int)=if ((l.take i).drop k).any (fun h=>decide (h.fScope=l[i].fScope))=true then some 7 else K
 |0,k,h1,h2=>by omega
 |m+1,k,h1,h2=>by
  unfold Qt
  simp only [A3]
  by_cases h:k<i
  ·rw [if_pos (by omega),Aj (by omega:k<l.length),Aj hi,zcs h (by omega),Ai k (by omega),Y9 n l a i hi hl K m (k+1) (by omega) (by omega)]
   grind
  ·rw [if_neg (by omega),aE (by simp;omega)]
   simp
theorem Ys (n:Nat)(hn:10000000<n)(a:Aut)(hs:0<=a.fScopes/\a.fScopes<=64)(hv:0<=a.fVars/\a.fVars<=16)(l:List Gd)(hl:l.length<=1100000)(hw:∀ g∈l,WfE g.fCond):∀ (m k:Nat),k<=l.length->l.length<m+k->∃ r:Int,Gj n l a (some 0) m (k:Int)=some r/\En n l a (some 0) m (k:Int)=some r
 |0,k,h1,h2=>by omega
 |m+1,k,h1,h2=>by
  unfold Gj En
  simp only [aA,A3,Ak,Ao,Aa,Ko,H0,Qk,Q5]
  by_cases h:k<l.length
  ·have hlt:((k:Nat):Int)<((l.length:Nat):Int):=by omega
   simp only [hlt,if_true,Aj h,A0]
   have wS:aC .i64 (a.fScopes-1)=a.fScopes-1:=C0 _ (by omega)
   have wV:aC .i64 (a.fVars-1)=a.fVars-1:=C0 _ (by omega)
   have e16:∀ x:Int,(decide (x<0) || decide (15<x))=!(decide (0<=x) && decide (x<16)):=fun x=>Pz x 16
   simp only [wS,wV,Pz,e16]
   obtain ⟨r,r1,r2⟩:=Ys n hn a hs hv l hl hw m (k+1) (by omega) (by omega)
   obtain ⟨c,c1,c2⟩:=(hw _ (aF h)).check n hn
   have e1:=Y9 n l a k h hl (bnd (Gy n l[k].fCond) fun x89=>if x89=0 then Gj n l a (some 0) m (aC .i64 ((k:Int)+1)) else some x89) n 0 (by omega) (by omega)
   simp only [aB,aG] at e1
   rw [e1,c1,c2]
   have e2:=zi3 (l:=l) (a:=0) (b:=k) (Nat.zero_le _) (by omega) (fun x46=>bnd (Lj n x46 l[k]) fun x47=>cnd x47 (some (7:Int)) (bnd (some c) fun x48=>if x48=0 then En n l a (some 0) m (aC .i64 ((k:Int)+1)) else some x48))
   simp only [aB,aG] at e2
   rw [e2,zl5 n l[k] (fun h=>decide (h.fScope=l[k].fScope)) (l.take k) (by simp;omega) (by simp;omega) (fun x _=>rfl),A0,Ai k (by omega),r1,r2]
   simp only [A0]
   generalize (decide (0<=l[k].fScope) && decide (l[k].fScope<a.fScopes))=b1
   generalize (decide (0<=l[k].fType) && decide (l[k].fType<16))=b2
   generalize (decide (0<=l[k].fVar) && decide (l[k].fVar<a.fVars))=b3
   generalize ((l.take k).any fun h=>decide (h.fScope=l[k].fScope))=b4
   cases b1 with
   |false=>exact ⟨2,by simp [Af],by simp [Af]⟩
   |true=>cases b2 with
    |false=>exact ⟨2,by simp [Af],by simp [Af]⟩
    |true=>cases b3 with
     |false=>exact ⟨2,by simp [Af],by simp [Af]⟩
     |true=>cases b4 with
      |true=>exact ⟨7,by simp [Af],by simp [Af]⟩
      |false =>
       by_cases hc:c=0
       ·exact ⟨r,by simp [Af,hc],by simp [Af,hc]⟩
       ·exact ⟨c,by simp [Af,hc],by simp [Af,hc]⟩
  ·have hlt:¬((k:Nat):Int)<((l.length:Nat):Int):=by omega
   simp only [hlt,if_false]
   exact ⟨0,rfl,rfl⟩
theorem zgv (n:Nat)(hn:10000000<n)(a:Aut)(hs:0<=a.fScopes/\a.fScopes<=64)(hv:0<=a.fVars/\a.fVars<=16)(l:List Gd)(hl:l.length<=1100000)(hw:∀ g∈l,WfE g.fCond):∃ r:Int,Ub n a l=some r/\P0 n a l=some r:=by
 unfold Ub P0
 simp only [aA,A3]
 by_cases h:64<((l.length:Nat):Int)
 ·simp_all
 ·simp only [h,if_false]
  have:=Ys n hn a hs hv l hl hw n 0 (by omega) (by omega)
  omega
theorem Zr (n:Nat)(sc:Int)(l:List Int)(i:Nat)(hi:i<l.length)(hl:l.length<=1100000)(K:Option Int):∀ (m k:Nat),k<=i->i<m+k->Qs n sc l (i:Int) K m (k:Int)=if ((l.take i).drop k).any (fun h=>decide (l[i]=h))=true then some 7 else K
 |0,k,h1,h2=>by omega
 |m+1,k,h1,h2=>by
  unfold Qs
  simp only [A3]
  by_cases h:k<i
  ·rw [if_pos (by omega),Aj (by omega:k<l.length),Aj hi,zcs h (by omega),Ai k (by omega),Zr n sc l i hi hl K m (k+1) (by omega) (by omega)]
   grind
  ·rw [if_neg (by omega),aE (by simp;omega)]
   simp
theorem Yo (n:Nat)(hn:10000000<n)(a:Aut)(hs:0<=a.fScopes/\a.fScopes<=64)(A:List (List Int))(j:Int)(l:List Int)(hl:l.length<=1100000)(K:Option Int):∀ (m k:Nat),k<=l.length->l.length<m+k->∃ r:Int,Ng n a.fScopes l (some 0) m (k:Int)=some r/\Fd n A a j l K m (k:Int)=(if r=0 then K else some r)/\(r=0->∀ y∈l.drop k,0<=y/\y<a.fScopes)
 |0,k,h1,h2=>by omega
 |m+1,k,h1,h2=>by
  unfold Ng Fd
  simp only [aA,A3,Ak,Qk,Q5]
  by_cases h:k<l.length
  ·have hlt:((k:Nat):Int)<((l.length:Nat):Int):=by omega
   simp only [hlt,if_true,Aj h,A0]
   rw [C0 _ (by omega),Pz]
   obtain ⟨r,r1,r2,r3⟩:=Yo n hn a hs A j l hl K m (k+1) (by omega) (by omega)
   have e1:=Zr n a.fScopes l k h hl (Ng n a.fScopes l (some 0) m (aC .i64 ((k:Int)+1))) n 0 (by omega) (by omega)
   simp only [aB,aG] at e1
   have e2:=zi3 (l:=l) (a:=0) (b:=k) (Nat.zero_le _) (by omega) (fun x84=>bnd (E4 n x84 l[k]) fun x85=>cnd x85 (some (7:Int)) (Fd n A a j l K m (aC .i64 ((k:Int)+1))))
   simp only [aB,aG] at e2
   rw [e1,e2,Mf n l[k] (l.take k) (by simp;omega) (by simp;omega),A0,Ai k (by omega),r1,r2]
   have hr:(decide (0<=l[k]) && decide (l[k]<a.fScopes))=true->0<=l[k]/\l[k]<a.fScopes:=fun h=>by simpa using h
   rw [Cs l k h]
   revert hr
   generalize (decide (0<=l[k]) && decide (l[k]<a.fScopes))=b1
   generalize ((l.take k).any fun y=>decide (l[k]=y))=b4
   intro hr
   cases b1 with
   |false=>exact ⟨2,by simp [Af],by simp [Af],fun h=>by cases h⟩
   |true=>cases b4 with
    |true=>exact ⟨7,by simp [Af],by simp [Af],fun h=>by cases h⟩
    |false =>
     refine ⟨r,by simp [Af],by simp [Af],fun h y hy=>?_⟩
     grind
  ·have hlt:¬((k:Nat):Int)<((l.length:Nat):Int):=by omega
   simp only [hlt,if_false]
   grind
theorem zbu (n:Nat)(x:Ed)(a:Aut)(hl:x.fLimits.length<=1100000)(K K':List Int->Option Int)(r:Option Int)(h1:K (x.fLimits.map (·.fScope))=r):∀ (m k:Nat) (acc:List Int),k<=x.fLimits.length->x.fLimits.length<m+k->acc=(x.fLimits.take k).map (·.fScope)->Qx n x a K m ((k:Int),acc)=r
 |0,k,acc,h2,h3,_=>by omega
 |m+1,k,acc,h2,h3,h4=>by
  unfold Qx
  simp only [aA,A3]
  by_cases h:k<x.fLimits.length
  ·rw [if_pos (by omega),Aj h,Bv (by subst h4;simp;omega) (by omega),Ai k (by omega)]
   exact zbu n x a hl K K' r h1 m (k+1) _ (by omega) (by omega) (by subst h4;rw [aD h,aN];rfl)
  grind
theorem Ya (n:Nat)(l:List Bz)(hl:l.length<=1100000):∀ (m k:Nat) (acc:List Int),k<=l.length->l.length<m+k->acc=(l.take k).map (·.fScope)->Ld n l (fun y=>some y) m ((k:Int),acc)=some (l.map (·.fScope))
 |0,k,acc,h2,h3,_=>by omega
 |m+1,k,acc,h2,h3,h4=>by
  unfold Ld
  simp only [aA,A3]
  by_cases h:k<l.length
  ·rw [if_pos (by omega),Aj h,Bv (by subst h4;simp;omega) (by omega),Ai k (by omega)]
   exact Ya n l hl m (k+1) _ (by omega) (by omega) (by subst h4;rw [aD h,aN];rfl)
  grind
theorem zet (n:Nat)(hn:10000000<n)(l:List Bz)(hl:l.length<=1100000):Lu n l=some (l.map (·.fScope)):=by
 unfold Lu
 exact Ya n l hl n 0 [] (by omega) (by omega) (by simp)
theorem Zs (n:Nat)(x:Ed)(hl:x.fLimits.length<=1100000):∀ (m k:Nat),k<=x.fLimits.length->x.fLimits.length<m+k->Nj n x (some 0) m (k:Int)=some (if (x.fLimits.drop k).any (fun l=>decide (l.fSpan<0) || decide (1099511627776<l.fSpan))=true then 2 else 0)
 |0,k,h1,h2=>by omega
 |m+1,k,h1,h2=>by
  unfold Nj
  simp only [aA,A3,Qk,A0]
  by_cases h:k<x.fLimits.length
  ·rw [if_pos (by omega),Aj h,Cs _ k h,any_cons,Ai k (by omega),Zs n x hl m (k+1) (by omega) (by omega)]
   generalize (decide (x.fLimits[k].fSpan<0) || decide (1099511627776<x.fLimits[k].fSpan))=b
   cases b<;>simp [Af]
  grind
theorem zj5 (n:Nat)(hn:10000000<n)(a:Aut)(hs:0<=a.fScopes/\a.fScopes<=64)(x:Ed)(hx:WfX x):∃ r:Int,Rq n a x=some r /\
  (bnd (Lu n x.fLimits) fun x46=>bnd (Oz n a ([x.fOpens,x.fCloses,x.fInside,x46])) fun x47=>if x47=0 then (bnd (Kr n x.fLimits) fun x48=>cnd x48 (some (2:Int)) (some 0)) else some x47)=some r/\(r=0->∀ y∈x.fOpens,0<=y/\y<a.fScopes):=by
 have hsp:=Zs n x hx.ll n 0 (by omega) (by have:=hx.ll;omega)
 simp only [aB,aG] at hsp
 rw [zet n hn x.fLimits hx.ll,A0]
 have hcs:=Ze n (fun l=>decide (l.fSpan<0) || decide (1099511627776<l.fSpan)) x.fLimits (by have:=hx.ll;omega) (by have:=hx.ll;omega) (fun y _=>by
  unfold H8
  simp only [Ao,Aa,H3,A3]
  grind)
 rw [hcs]
 simp only [A0]
 have hlm:(x.fLimits.map (·.fScope)).length<=1100000:=by rw [aA];exact hx.ll
 generalize hS:x.fLimits.map (·.fScope)=S at *
 generalize (x.fLimits.any fun l=>decide (l.fSpan<0) || decide (1099511627776<l.fSpan))=sp at *
 unfold Oz
 -- the four lists
 have step:∀ (l:List Int),l.length<=1100000->∀ (j:Int) (K:Option Int),∃ r:Int,Re n l a.fScopes=some r/\Fd n [x.fOpens,x.fCloses,x.fInside,S] a j l K n 0=(if r=0 then K else some r)/\(r=0->∀ y∈l,0<=y/\y<a.fScopes):=fun l hl j K=>by
  have:=Yo n hn a hs [x.fOpens,x.fCloses,x.fInside,S] j l hl K n 0 (by omega) (by omega)
  unfold Re
  simp_all
 have uq:∀ l:List Int,l.length<=1100000->∃ r:Int,Re n l a.fScopes=some r/\(∀ (j:Int) (K:Option Int),Fd n [x.fOpens,x.fCloses,x.fInside,S] a j l K n 0=if r=0 then K else some r)/\(r=0->∀ y∈l,0<=y/\y<a.fScopes):=fun l hl=>by
  obtain ⟨r,r1,_,r3⟩:=step l hl 0 none
  refine ⟨r,r1,fun j K=>?_,r3⟩
  obtain ⟨r',r1',r2',_⟩:=step l hl j K
  simp_all
 obtain ⟨u1,a1,b1,d1⟩:=uq x.fOpens hx.lo
 obtain ⟨u2,a2,b2,_⟩:=uq x.fCloses hx.lcl
 obtain ⟨u3,a3,b3,_⟩:=uq x.fInside hx.li
 obtain ⟨u4,a4,b4,_⟩:=uq S hlm
 have w0:aC .i64 ((0:Int)+1)=1:=by decide
 have w1:aC .i64 ((1:Int)+1)=2:=by decide
 have w2:aC .i64 ((2:Int)+1)=3:=by decide
 have w3:aC .i64 ((3:Int)+1)=4:=by decide
 have i0:∀ K:List Int->Option Int,idx ([x.fOpens,x.fCloses,x.fInside,S]:List (List Int)) 0 K=K x.fOpens:=fun K=>by have:=Aj (l:=[x.fOpens,x.fCloses,x.fInside,S]) (i:=0) (by simp) K;simpa using this
 have i1:∀ K:List Int->Option Int,idx ([x.fOpens,x.fCloses,x.fInside,S]:List (List Int)) 1 K=K x.fCloses:=fun K=>by have:=Aj (l:=[x.fOpens,x.fCloses,x.fInside,S]) (i:=1) (by simp) K;simpa using this
 have i2:∀ K:List Int->Option Int,idx ([x.fOpens,x.fCloses,x.fInside,S]:List (List Int)) 2 K=K x.fInside:=fun K=>by have:=Aj (l:=[x.fOpens,x.fCloses,x.fInside,S]) (i:=2) (by simp) K;simpa using this
 have i3:∀ K:List Int->Option Int,idx ([x.fOpens,x.fCloses,x.fInside,S]:List (List Int)) 3 K=K S:=fun K=>by have:=Aj (l:=[x.fOpens,x.fCloses,x.fInside,S]) (i:=3) (by simp) K;simpa using this
 have hm:∃ m,n=m+1+1+1+1+1:=⟨n-5,by omega⟩
 have rl:∀ K:Option Int,Hw n x a S K n 0=if u1=0 then (if u2=0 then (if u3=0 then (if u4=0 then K else some u4) else some u3) else some u2) else some u1:=fun K=>by
  obtain ⟨m,hm⟩:=hm
  conv=>lhs;rw [show Hw n x a S K n 0=Hw n x a S K (m+1+1+1+1+1) 0 by rw [<-hm]]
  simp only [Hw,A3,Ak,i0,i1,i2,i3,w0,w1,w2,w3,a1,a2,a3,a4,A0]
  simp
 have pl:∀ K:Option Int,Gz n [x.fOpens,x.fCloses,x.fInside,S] a K n 0=if u1=0 then (if u2=0 then (if u3=0 then (if u4=0 then K else some u4) else some u3) else some u2) else some u1:=fun K=>by
  obtain ⟨m,hm⟩:=hm
  conv=>lhs;rw [show Gz n [x.fOpens,x.fCloses,x.fInside,S] a K n 0=Gz n [x.fOpens,x.fCloses,x.fInside,S] a K (m+1+1+1+1+1) 0 by rw [<-hm]]
  simp only [Gz,A3,i0,i1,i2,i3,w0,w1,w2,w3,aA,aM,aO,b1,b2,b3,b4]
  simp
 unfold Rq
 have el:=zbu n x a hx.ll (fun k1_0_0y=>frz 7026 <| reg <| Hw n x a k1_0_0y (Nj n x (some 0) n 0) n 0) (fun _=>none) _ rfl n 0 [] (by omega) (by have:=hx.ll;omega) (by simp)
 simp only [aB] at el
 rw [el,hS,Qe,Aa,rl,hsp,pl]
 by_cases q1:u1=0
 rotate_left
 ·exact ⟨u1,by simp [q1],by simp [q1,A0],fun h=>absurd h q1⟩
 by_cases q2:u2=0
 rotate_left
 ·exact ⟨u2,by simp [q1,q2],by simp [q1,q2,A0],fun h=>absurd h q2⟩
 by_cases q3:u3=0
 rotate_left
 ·exact ⟨u3,by simp [q1,q2,q3],by simp [q1,q2,q3,A0],fun h=>absurd h q3⟩
 by_cases q4:u4=0
 rotate_left
 ·exact ⟨u4,by simp [q1,q2,q3,q4],by simp [q1,q2,q3,q4,A0],fun h=>absurd h q4⟩
 cases sp with
 |true=>exact ⟨2,by simp [q1,q2,q3,q4],by simp [q1,q2,q3,q4,A0,Af],fun h=>by cases h⟩
 |false=>exact ⟨0,by simp [q1,q2,q3,q4],by simp [q1,q2,q3,q4,A0,Af],fun _=>d1 q1⟩
theorem Yu (n:Nat)(hn:10000000<n)(x:Ed)(a:Aut)(ys:List Exn)(hy:x.fChecks=ys.map Ag)(hw:∀ y∈ys,WfE y)(hl:ys.length<=1100000)(P:Prop)(K K':Option Int)(hK:∃ r:Int,K=some r/\K'=some r/\(r=0->P)):∀ (m k:Nat),k<=ys.length->ys.length<m+k->∃ r:Int,R2 n x a K m (k:Int)=some r/\Fk n x a K' m (k:Int)=some r/\(r=0->P)
 |0,k,h1,h2=>by omega
 |m+1,k,h1,h2=>by
  unfold R2 Fk
  simp only [hy,aA,A3,Ak]
  by_cases h:k<ys.length
  ·have hlt:((k:Nat):Int)<((ys.length:Nat):Int):=by omega
   simp only [hlt,if_true]
   have hi:∀ (Q:Exn->Option Int),idxD Bs (ys.map Ag) (k:Int) Q=Q ys[k]:=fun Q=>by
    have:=G7 (l:=ys.map fun y=>(0,y)) (k:=k) (by simpa using h) Q
    simp only [map_map,getElem_map] at this
    exact this
   rw [hi,hi]
   obtain ⟨c,c1,c2⟩:=(hw _ (aF h)).check n hn
   obtain ⟨r,r1,r2,r3⟩:=Yu n hn x a ys hy hw hl P K K' hK m (k+1) (by omega) (by omega)
   rw [c1,c2,A0,A0,Ai k (by omega),r1,r2]
   grind
  grind
structure EdOk (a:Aut) (x:Ed):Prop where
 frm:0<=x.fFrom/\x.fFrom<a.fStates.length
 tgt:-1<=x.fTo/\x.fTo<a.fStates.length
 var:0<=x.fVar/\x.fVar<a.fVars
 opn:∀ y∈x.fOpens,0<=y/\y<a.fScopes
theorem zl4 (n:Nat)(hn:10000000<n)(a:Aut)(hs:0<=a.fScopes/\a.fScopes<=64)(hv:0<=a.fVars/\a.fVars<=16)(hst:1<=a.fStates.length/\a.fStates.length<=256)(x:Ed)(hx:WfX x)(before:Int):∃ r:Int,Uk n a x before=some r/\Hb n a x before=some r/\(r=0->EdOk a x):=by
 unfold Uk Hb
 simp only [aA,A3,Ak,Ao,Aa,Qk,Q5,A0]
 have wS:aC .i64 (((a.fStates.length:Nat):Int)-1)=((a.fStates.length:Nat):Int)-1:=C0 _ (by omega)
 have wV:aC .i64 (a.fVars-1)=a.fVars-1:=C0 _ (by omega)
 have e16:∀ x:Int,(decide (x<0) || decide (15<x))=!(decide (0<=x) && decide (x<16)):=fun x=>Pz x 16
 simp only [wS,wV,Pz,e16]
 have tailE:∃ r:Int,Dc n before x a false=some r/\Ci n before x a false=some r/\(r=0->∀ y∈x.fOpens,0<=y/\y<a.fScopes):=by
  unfold Dc Ci
  simp only [aA,A3,Ak,Ae]
  by_cases hb:x.fFrom<before
  ·simp_all
  simp only [hb,if_false]
  obtain ⟨c,c1,c2⟩:=hx.cond.check n hn
  rw [c1,c2,A0,A0]
  by_cases hc:c=0
  rotate_left
  ·simp_all
  simp only [hc,if_true]
  by_cases h64:64<((x.fChecks.length:Nat):Int)
  ·simp_all
  simp only [h64,if_false]
  obtain ⟨ys,hy,hw⟩:=hx.checks
  obtain ⟨r,r1,r2,r3⟩:=zj5 n hn a hs x hx
  have hyl:ys.length<=1100000:=by have:=hx.lc;rw [hy,aA] at this;exact this
  have:=Yu n hn x a ys hy hw hyl (∀ y∈x.fOpens,0<=y/\y<a.fScopes) (bnd (Rq n a x) fun x49=>some x49) _ ⟨r,by rw [r1,A0],r2,r3⟩ n 0 (by omega) (by omega)
  simpa only [aB] using this
 have e2:Dc n before x a true=some 2/\Ci n before x a true=some 2:=by
  unfold Dc Ci
  exact ⟨Ab _ _,Ab _ _⟩
 obtain ⟨r,r1,r2,r3⟩:=tailE
 rw [e2.1,e2.2]
 by_cases h1:0<=x.fFrom/\x.fFrom<((a.fStates.length:Nat):Int)
 rotate_left
 ·have:(decide (0<=x.fFrom) && decide (x.fFrom<((a.fStates.length:Nat):Int)))=false:=by
   rw [aK,decide_eq_false_iff_not,decide_eq_false_iff_not];omega
  exact ⟨2,by simp [this,Af],by simp [this,Af],fun h=>by cases h⟩
 have b1:(decide (0<=x.fFrom) && decide (x.fFrom<((a.fStates.length:Nat):Int)))=true:=by simp [h1.1];omega
 by_cases h2:-1<=x.fTo/\x.fTo<((a.fStates.length:Nat):Int)
 rotate_left
 ·have q1:¬x.fTo=-1:=by omega
  have q2:(decide (0<=x.fTo) && decide (x.fTo<((a.fStates.length:Nat):Int)))=false:=by
   rw [aK,decide_eq_false_iff_not,decide_eq_false_iff_not];omega
  refine ⟨2,by simp [b1,q1,q2,Af],?_,fun h=>by cases h⟩
  by_cases q3:x.fTo < -1
  ·simp [b1,q3,Af]
  ·have q4:((a.fStates.length:Nat):Int)<=x.fTo:=by omega
   simp [b1,q3,q4,Af]
 have n1:¬x.fTo < -1:=by omega
 have n2:¬((a.fStates.length:Nat):Int)<=x.fTo:=by omega
 have ok:(decide (0<=x.fVar) && decide (x.fVar<a.fVars))=true->r=0->EdOk a x:=fun h hr=>by
  simp only [Bool.and_eq_true,decide_eq_true_eq] at h
  exact ⟨⟨h1.1,h1.2⟩,⟨h2.1,h2.2⟩,h,r3 hr⟩
 have b2:¬x.fTo=-1->(decide (0<=x.fTo) && decide (x.fTo<((a.fStates.length:Nat):Int)))=true:=fun h=>by grind
 revert ok
 generalize (decide (0<=x.fVar) && decide (x.fVar<a.fVars))=b3
 generalize (decide (0<=x.fType) && decide (x.fType<16))=b4
 intro ok
 simp only [b1,n1,n2,if_false,Ab,aP]
 cases b3 with
 |false =>
  refine ⟨2,?_,by simp [Af],fun h=>by cases h⟩
  by_cases q:x.fTo=-1
  ·simp [q,Af]
  ·simp [q,b2 q,Af]
 |true =>
  cases b4 with
  |false =>
   refine ⟨2,?_,by simp [Af,e2.2],fun h=>by cases h⟩
   by_cases q:x.fTo=-1
   ·simp [q,Af,e2.1]
   ·simp [q,b2 q,Af,e2.1]
  |true =>
   refine ⟨r,?_,by simp [Af,r2],fun q=>ok rfl q⟩
   by_cases q:x.fTo=-1
   ·simp [q,Af,r1]
   ·simp [q,b2 q,Af,r1]
theorem Zc (n:Nat)(hn:10000000<n)(a:Aut)(hs:0<=a.fScopes/\a.fScopes<=64)(hv:0<=a.fVars/\a.fVars<=16)(hst:1<=a.fStates.length/\a.fStates.length<=256)(hw:WfA a):∀ (m k:Nat) (before:Int),k<=a.fEdges.length->a.fEdges.length<m+k->(∀ x∈a.fEdges.take k,EdOk a x)->∃ r:Int,Qy n a (some 0) m (before,(k:Int))=some r/\Fg n a (some 0) m (before,(k:Int))=some r/\(r=0->∀ x∈a.fEdges,EdOk a x)
 |0,k,before,h1,h2,_=>by omega
 |m+1,k,before,h1,h2,h3=>by
  have hle:=hw.le
  unfold Qy Fg
  simp only [aA,A3,Ak]
  by_cases h:k<a.fEdges.length
  ·have hlt:((k:Nat):Int)<((a.fEdges.length:Nat):Int):=by omega
   simp only [hlt,if_true,Aj h]
   obtain ⟨c,c1,c2,c3⟩:=zl4 n hn a hs hv hst _ (hw.ed _ (aF h)) before
   rw [c1,c2,A0,A0,Ai k (by omega)]
   by_cases hc:c=0
   ·simp only [hc,if_true]
    refine Zc n hn a hs hv hst hw m (k+1) _ (by omega) (by omega) (fun x hx=>?_)
    rw [aD h,mem_append,mem_singleton] at hx
    grind
   ·exact ⟨c,by simp [hc],by simp [hc],fun q=>absurd q hc⟩
  ·have hlt:¬((k:Nat):Int)<((a.fEdges.length:Nat):Int):=by omega
   simp only [hlt,if_false]
   grind
theorem Yn (n:Nat)(hn:10000000<n)(a:Aut)(hs:0<=a.fScopes/\a.fScopes<=64)(hv:0<=a.fVars/\a.fVars<=16)(hw:WfA a)(K K':Option Int)(P:Prop)(hK:∃ r:Int,K=some r/\K'=some r/\(r=0->P)):∀ (m k:Nat),k<=a.fStates.length->a.fStates.length<m+k->∃ r:Int,Qz n a K m (k:Int)=some r/\Fh n a K' m (k:Int)=some r/\(r=0->P)
 |0,k,h1,h2=>by omega
 |m+1,k,h1,h2=>by
  have hls:=hw.ls
  unfold Qz Fh
  simp only [aA,A3,Ak]
  by_cases h:k<a.fStates.length
  ·have hlt:((k:Nat):Int)<((a.fStates.length:Nat):Int):=by omega
   simp only [hlt,if_true,Aj h]
   obtain ⟨g1,g2⟩:=hw.st _ (aF h)
   obtain ⟨c,c1,c2⟩:=zgv n hn a hs hv _ g1 g2
   rw [c1,c2,A0,A0,Ai k (by omega)]
   by_cases hc:c=0
   ·simp only [hc,if_true]
    exact Yn n hn a hs hv hw K K' P hK m (k+1) (by omega) (by omega)
   simp_all
  grind
structure AOk (a:Aut):Prop where
 vars:0<=a.fVars/\a.fVars<=16
 st:1<=a.fStates.length/\a.fStates.length<=256
 ed:∀ x∈a.fEdges,EdOk a x
theorem zh1 (n:Nat)(hn:10000000<n)(a:Aut)(hw:WfA a):∃ r:Int,Uh n a=some r/\C3 n a=some r/\(r=0->AOk a):=by
 have hls:=hw.ls
 have hle:=hw.le
 unfold Uh C3
 simp only [Ao,Aa,Qk,A0,A3]
 have e2:Hx n a true=some 2/\Cz n a true=some 2:=by
  unfold Hx Cz
  exact ⟨Ab _ _,Ab _ _⟩
 rw [e2.1,e2.2]
 by_cases hv:0<=a.fVars/\a.fVars<=16
 rotate_left
 ·refine ⟨2,?_,?_,fun h=>by cases h⟩
  ·have:(decide (a.fVars<0) || decide (16<a.fVars))=true:=by
    rw [aH,decide_eq_true_eq,decide_eq_true_eq];omega
   rw [this,Ab]
  simp_all
 have q1:¬a.fVars<0:=by omega
 have q2:¬16<a.fVars:=by omega
 by_cases hs:0<=a.fScopes/\a.fScopes<=64
 rotate_left
 ·have:(decide (a.fScopes<0) || decide (64<a.fScopes))=true:=by
   rw [aH,decide_eq_true_eq,decide_eq_true_eq];omega
  refine ⟨2,by simp [q1,q2,this,Af,e2.1],?_,fun h=>by cases h⟩
  simp_all
 have q3:¬a.fScopes<0:=by omega
 have q4:¬64<a.fScopes:=by omega
 simp only [q1,q2,q3,q4,if_false,decide_false,Bool.or_false,Ae]
 unfold Hx Cz
 simp only [Ao,Aa,aA,A3,Ae]
 have e5:Gl n a true=some 5/\Cy n a true=some 5:=by
  unfold Gl Cy
  exact ⟨Ab _ _,Ab _ _⟩
 rw [e5.1,e5.2]
 by_cases h1:((a.fStates.length:Nat):Int)<1
 ·simp_all
 by_cases h2:256<((a.fStates.length:Nat):Int)
 ·simp_all
 simp only [h1,h2,if_false]
 by_cases h3:2048<((a.fEdges.length:Nat):Int)
 ·simp_all
 simp only [h3,decide_false]
 unfold Gl Cy
 simp only [Ae]
 have hst:1<=a.fStates.length/\a.fStates.length<=256:=by omega
 obtain ⟨r,r1,r2,r3⟩:=Zc n hn a hs hv hst hw n 0 0 (by omega) (by omega) (by simp)
 have:=Yn n hn a hs hv hw _ _ (AOk a) ⟨r,r1,r2,fun h=>⟨hv,hst,r3 h⟩⟩ n 0 (by omega) (by omega)
 omega
end Go.Proofs.YthbogefcfhmpgaaGreat
