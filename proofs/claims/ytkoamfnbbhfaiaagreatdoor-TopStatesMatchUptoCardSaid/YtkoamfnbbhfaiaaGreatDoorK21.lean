/- Lists without repetitions, ascending by an order. -/
import Derived.Test.YtkoamfnbbhfaiaaGreatDoorK20
set_option linter.unusedVariables false
set_option linter.unusedSimpArgs false
namespace Go.Proofs.YtkoamfnbbhfaiaaGreatDoor
open Go.RowKit List
open List renaming length_map->aA,drop_eq_nil_of_le->aC,pairwise_cons->aD,getElem_mem->aF,mem_cons->aG,length_cons->aK,drop_zero->aL,take_succ_eq_append_getElem->aM,mem_cons_of_mem->aN
open Int renaming natCast_zero->aB
open Or renaming inl->aE,inr->aH
open IntKind renaming wrap->aJ
section
variable {α:Type} {c:α->α->Int}
theorem TO.asym (h:TO c){a b:α}(k:c a b<0):¬c b a<0:=by have:=h.neg a b;omega
theorem TO.lt_ne (h:TO c){a b:α}(k:c a b<0):a≠b:=fun e=>by subst e;exact h.irr _ k
def Str (c:α->α->Int)(l:List α):Prop:=l.Pairwise (fun x y=>c x y<0)
theorem Str.uniq (h:TO c):∀ {l m:List α},Str c l->Str c m->(∀ x,x∈l ↔ x∈m)->l=m
 |[],[],_,_,_=>rfl
 |[],y::m,_,_,hm=>by have:=(hm y).2 (by simp);simp at this
 |x::l,[],_,_,hm=>by have:=(hm x).1 (by simp);simp at this
 |x::l,y::m,h1,j,hm=>by
  obtain ⟨g,o⟩:=aD.1 h1;obtain ⟨f,n⟩:=aD.1 j;have b:x=y:=by
   rcases aG.1 ((hm x).1 (by simp)) with e|e
   ·exact e
   ·rcases aG.1 ((hm y).2 (by simp)) with d|d
    ·exact d.symm
    ·exact absurd (g y d) (h.asym (f x e))
  subst b;congr 1;refine Str.uniq h o n (fun z=>⟨fun a=>?_,fun a=>?_⟩)
  ·rcases aG.1 ((hm z).1 (aN _ a)) with e|e
   ·exact absurd e.symm (h.lt_ne (g z a))
   ·exact e
  ·rcases aG.1 ((hm z).2 (aN _ a)) with e|e
   ·exact absurd e.symm (h.lt_ne (f z a))
   ·exact e
def insU (c:α->α->Int)(x:α):List α->List α
 |[]=>[x]
 |y::l=>if c y x<0 then y::insU c x l else if c y x=0 then y::l else x::y::l
theorem Un (h:TO c)(x z:α):∀ l:List α,z∈insU c x l ↔ z=x\/z∈l
 |[]=>by simp [insU]
 |y::l=>by
  unfold insU;split
  ·simp only [aG,Un h x z l];constructor
   ·rintro (h|h|h)<;>simp [h]
   ·rintro (h|h|h)<;>simp [h]
  ·split
   ·rename_i e;have:=(h.zero _ _).1 e;subst this;simp only [aG];constructor
    ·intro k;exact aH k
    ·rintro (k|k)
     ·exact aE k
     ·exact k
   ·simp only [aG]
theorem zme (h:TO c)(x:α):∀ l:List α,Str c l->Str c (insU c x l)
 |[],_=>by simp [insU,Str]
 |y::l,b=>by
  obtain ⟨h1,f⟩:=aD.1 b;unfold insU;split
  ·rename_i k;refine aD.2 ⟨fun z a=>?_,zme h x l f⟩;rcases (Un h x z l).1 a with e|e
   ·rw [e];exact k
   ·exact h1 z e
  ·split
   ·exact b
   ·rename_i j g;have d:c x y<0:=by have:=h.neg y x;have:=h.one y x;omega
    refine aD.2 ⟨fun z a=>?_,b⟩;rcases aG.1 a with e|e
    ·rw [e];exact d
    ·exact h.trans _ _ _ d (h1 z e)
theorem Mi (c:α->α->Int)(x:α):∀ l:List α,(insU c x l).length<=l.length+1
 |[]=>by simp [insU]
 |y::l=>by
  unfold insU;have:=Mi c x l;split
  ·simp only [aK];omega
  ·split<;>simp only [aK]<;>omega
theorem zh3 (c:α->α->Int)(x:α):∀ l:List α,l.length<=(insU c x l).length
 |[]=>by simp [insU]
 |y::l=>by
  unfold insU;have:=zh3 c x l;split
  ·simp only [aK];omega
  ·split<;>simp only [aK]<;>omega
def puts (c:α->α->Int)(s:List α)(l:List α):List α:=l.foldl (fun s x=>insU c x s) s
def setL (c:α->α->Int)(l:List α):List α:=puts c [] l
theorem Hi (s:List α)(x:α)(l:List α):puts c s (x::l)=puts c (insU c x s) l:=rfl
theorem U2 (s l m:List α):puts c s (l++m)=puts c (puts c s l) m:=by simp [puts,foldl_append]
theorem Qk (h:TO c)(z:α):∀ (l s:List α),z∈puts c s l ↔ z∈s\/z∈l
 |[],s=>by simp [puts]
 |x::l,s=>by
  rw [Hi,Qk h z l,Un h];simp only [aG];constructor
  ·rintro ((k|k)|k)<;>simp [k]
  ·rintro (k|k|k)<;>simp [k]
theorem Xb (h:TO c):∀ (l s:List α),Str c s->Str c (puts c s l)
 |[],_,a=>a
 |x::l,s,a=>by rw [Hi];exact Xb h l _ (zme h x s a)
theorem Xd:∀ (l s:List α),(puts c s l).length<=s.length+l.length
 |[],s=>by simp [puts]
 |x::l,s=>by
  rw [Hi];have:=Xd l (insU c x s);have:=Mi c x s;simp only [aK];omega
theorem zg2:∀ (l s:List α),s.length<=(puts c s l).length
 |[],s=>by simp [puts]
 |x::l,s=>by
  rw [Hi];have:=zg2 l (insU c x s);have:=zh3 c x s;omega
theorem Cs (h:TO c)(z:α)(l:List α):z∈setL c l ↔ z∈l:=by unfold setL;rw [Qk h];simp
theorem Gi (h:TO c)(l:List α):Str c (setL c l):=Xb h l [] (by simp [Str])
theorem X8 (l:List α):(setL c l).length<=l.length:=by have:=Xd (c:=c) l [];simpa [setL] using this
theorem zut (h:TO c){l m:List α}(hm:∀ x,x∈l ↔ x∈m):setL c l=setL c m:=Str.uniq h (Gi h l) (Gi h m) (fun x=>by rw [Cs h,Cs h,hm])
theorem zjf (h:TO c){l:List α}(a:Str c l):setL c l=l:=Str.uniq h (Gi h l) a (fun x=>Cs h x l)
variable [DecidableEq α]
def ddA (p:α):List α->List α
 |[]=>[]
 |y::l=>if y=p then ddA p l else y::ddA y l
def dd:List α->List α |[]=>[] |x::l=>x::ddA x l
theorem zdt (p z:α):∀ l:List α,ddA p (l++[z])=ddA p l++(if z=(p::l).getLast (by simp) then [] else [z])
 |[]=>by by_cases h:z=p<;>simp [ddA,h]
 |y::l=>by
  have e:(p::y::l).getLast (by simp)=(y::l).getLast (by simp):=by rw [getLast_cons (by simp)]
  simp only [cons_append,ddA];rw [e];by_cases h:y=p
  ·subst h;rw [if_pos rfl,if_pos rfl,zdt y z l]
  ·rw [if_neg h,if_neg h,zdt y z l];rfl
theorem Ji (l:List α)(z:α)(h:l≠[]):dd (l++[z])=dd l++(if z=l.getLast h then [] else [z]):=by
 cases l with
 |nil=>exact absurd rfl h
 |cons x l =>
  show x::ddA x (l++[z])=_;rw [zdt];rfl
theorem zkk (x:α):∀ (l:List α) (p:α),x∈ddA p l\/x=p ↔ x∈l\/x=p
 |[],p=>by simp [ddA]
 |y::l,p=>by
  unfold ddA;split
  ·rename_i h;subst h;rw [zkk x l y];simp only [aG];constructor
   ·rintro (k|k)<;>simp [k]
   ·rintro ((k|k)|k)<;>simp [k]
  ·have:=zkk x l y;simp only [aG];constructor
   ·rintro ((k|k)|k)
    ·exact aE (aE k)
    ·rcases this.1 (aE k) with q|q
     ·exact aE (aH q)
     ·exact aE (aE q)
    ·exact aH k
   ·rintro ((k|k)|k)
    ·exact aE (aE k)
    ·rcases this.2 (aE k) with q|q
     ·exact aE (aH q)
     ·exact aE (aE q)
    ·exact aH k
theorem zyi (x:α)(l:List α):x∈dd l ↔ x∈l:=by
 cases l with
 |nil=>simp [dd]
 |cons y l =>
  simp only [dd,aG];have:=zkk x l y;constructor
  ·rintro (k|k)
   ·exact aE k
   ·rcases this.1 (aE k) with q|q
    ·exact aH q
    ·exact aE q
  ·rintro (k|k)
   ·exact aE k
   ·rcases this.2 (aE k) with q|q
    ·exact aH q
    ·exact aE q
theorem zkj (h:TO c):∀ (l:List α) (p:α),(p::l).Pairwise (fun x y=>ltOf c y x=false)->Str c (p::ddA p l)
 |[],p,_=>by simp [ddA,Str]
 |y::l,p,j=>by
  obtain ⟨h1,g⟩:=aD.1 j;have d:∀ z,z∈y::l->¬c z p<0:=fun z a=>of_decide_eq_false (h1 z a)
  unfold ddA;split
  ·rename_i e;refine zkj h l p (aD.2 ⟨fun z a=>h1 z (aN _ a),(aD.1 g).2⟩)
  ·rename_i e;have f:=zkj h l y g;have b:c p y<0:=by
    rcases h.tri p y with k|k|k
    ·exact k
    ·exact absurd k.symm e
    ·exact absurd k (d y (by simp))
   refine aD.2 ⟨fun z a=>?_,f⟩;rcases aG.1 a with k|k
   ·rw [k];exact b
   ·exact h.trans _ _ _ b ((aD.1 f).1 z k)
theorem zqj (h:TO c)(l:List α):dd (Fb c l)=setL c l:=by
 have a:=Z0 h.swo l;refine Str.uniq h ?_ (Gi h l) (fun x=>by rw [zyi,Cs h];exact (Mb c l).mem_iff);cases b:Fb c l with
 |nil=>simp [dd,Str]
 |cons x q=>rw [b] at a;exact zkj h q x a
end
abbrev Va:=A5
abbrev Ev:=A7
abbrev Exn:=Av
abbrev be:ByteArray:=ByteArray.empty
abbrev va0:Va:=⟨0,0,ByteArray.empty⟩
def vcP (v:Va):Int :=
 if v.fKind<0 then 1 else if 2<v.fKind then 1 else if v.fKind=2 then (if v.fNum=0 then (if 64<v.fText.size then 13 else 0) else 3) else
 if v.fText=be then (if v.fKind=1 then (if v.fNum<0 then 2 else if 1<v.fNum then 2 else 0) else if v.fNum < -1099511627776 then 2 else if 1099511627776<v.fNum then 2 else 0) else 3
theorem Yj (n:Nat)(v:Va):H6 n v=some (vcP v):=by
 unfold H6 vcP;simp only [A3,Af,Qg];grind
variable {α β:Type}
theorem zl4 (p:Prop)[Decidable p](x y:Option α)(k:α->Option β):bnd (if p then x else y) k=if p then bnd x k else bnd y k:=by split<;>rfl
theorem p_vc (n:Nat)(v:Va):Hd n v=some (vcP v):=by
 obtain ⟨k,x,t⟩:=v;unfold Hd M6 vcP;simp only [A3,Af,Qg];by_cases g:k=0
 ·subst g;by_cases a:t=be
  ·subst a;have b:be.size=0:=rfl;simp [b,A1,zl4];grind
  ·simp [a]
 ·by_cases f:k=1
  ·subst f;by_cases a:t=be
   ·subst a;have b:be.size=0:=rfl;simp [b,A1,zl4];grind
   ·simp [a]
  ·by_cases d:k=2
   ·subst d;simp [A1,zl4];grind
   grind
theorem zx1 (x y:Va):(decide (x.fKind=y.fKind) && (decide (x.fNum=y.fNum) && ((x.fText.toList == y.fText.toList) && true)))=decide (x=y):=by
 cases x;cases y;simp [Qg]
theorem Xn (x:Va):(decide (x.fKind=0) && (decide (x.fNum=0) && ((x.fText.toList == ByteArray.empty.toList) && true)))=decide (x=va0):=zx1 x va0
def arP (op:Int):Int:=if op<0 then -1 else if 12<op then -1 else if op<5 then 0 else if op=12 then 1 else 2
theorem zs2 (n:Nat)(op:Int):S7 n op=some (arP op):=by
 unfold S7 arP;simp only [B1,Ar,G2,F0,A3,Aq,decide_eq_true_eq];by_cases h1:op<0
 ·simp [h1,show op≠0 by omega,show op≠1 by omega,show op≠2 by omega,show op≠3 by omega,show op≠4 by omega,show op≠5 by omega,show op≠6 by omega,show op≠7 by omega,show op≠8 by omega,show op≠9 by omega,show op≠10 by omega,show op≠11 by omega,show op≠12 by omega]
 ·by_cases a:12<op
  ·simp [h1,a,show op≠0 by omega,show op≠1 by omega,show op≠2 by omega,show op≠3 by omega,show op≠4 by omega,show op≠5 by omega,show op≠6 by omega,show op≠7 by omega,show op≠8 by omega,show op≠9 by omega,show op≠10 by omega,show op≠11 by omega,show op≠12 by omega]
  ·have:op=0\/op=1\/op=2\/op=3\/op=4\/op=5\/op=6\/op=7\/op=8\/op=9\/op=10\/op=11\/op=12:=by omega
   rcases this with rfl|rfl|rfl|rfl|rfl|rfl|rfl|rfl|rfl|rfl|rfl|rfl|rfl<;>rfl
theorem zvm (n:Nat)(op:Int):U1 n op=some (if op<0 then (0,false) else if 12<op then (0,false) else (arP op,true)):=by
 unfold U1 arP;simp only [B1,Ar,Lz,A3,Aq,decide_eq_true_eq,if_true];grind
def usV (op:Int):Bool:=decide (op=1) || decide (op=2) || decide (op=3) || decide (op=4)
def usF (op:Int):Bool:=decide (op=1) || decide (op=4)
theorem zv8 (n:Nat)(op:Int):Sd n op=some (usV op,usF op):=by
 unfold Sd;simp only [B1,Ar,Ks,Ig,A3,Aq,decide_eq_true_eq,if_true];by_cases h1:op=1
 ·subst h1;rfl
 ·by_cases d:op=2
  ·subst d;rfl
  ·by_cases b:op=3
   ·subst b;rfl
   ·by_cases a:op=4
    ·subst a;rfl
    ·simp [usV,usF,h1,d,b,a]
theorem zxj (n:Nat)(op:Int):U5 n op=some (usV op,usF op):=by
 unfold U5;simp only [B1,Ar,M3,M2,A3,Aq,decide_eq_true_eq,if_true];by_cases h1:op=1
 ·subst h1;rfl
 ·by_cases d:op=2
  ·subst d;rfl
  ·by_cases b:op=3
   ·subst b;rfl
   ·by_cases a:op=4
    ·subst a;rfl
    ·simp [usV,usF,h1,d,b,a]
def suP (k:Int)(v:Va):Bool:=decide (v.fKind=0) || decide (k=4) || decide (k=5)
theorem zv2 (n:Nat)(k:Int)(v:Va):U0 n k v=some (suP k v):=by
 unfold U0;simp only [B1,Ar,J0,A3];by_cases h1:v.fKind=0
 ·simp [suP,h1]
 ·by_cases a:k=4
  ·simp [suP,h1,a]
  ·simp [suP,h1,a]
theorem zdc (n:Nat)(k:Int)(v:Va):Ld n k v=some (decide (k=0) || suP k v):=by
 unfold Ld;simp only [B1,Ar,Gy,A3];by_cases h1:v.fKind=0
 ·simp [suP,h1]
 ·by_cases b:k=4
  ·by_cases a:k=0
   ·simp [suP,h1,b,a]
   ·simp [suP,h1,b]
  ·by_cases a:k=0
   ·simp [suP,h1,b,a]
   ·simp [suP,h1,b,a]
def ndP (e:Exn):Int :=
 if arP e.fOp<0 then 1 else if (e.fArgs.length:Int)≠arP e.fOp then 15 else
 if (usV e.fOp && (decide (e.fVar<0) || decide (16<=e.fVar))) || (usF e.fOp && (decide (e.fField<0) || decide (8<=e.fField))) then 2 else
 if decide (e.fOp=4) && (decide (e.fKind<1) || decide (5<e.fKind)) then 1 else
 if (decide (e.fOp=4) || decide (e.fOp=0)) && !decide (vcP e.fValue=0) then vcP e.fValue else
 if decide (e.fOp=4) && (!(suP e.fKind e.fValue) || (decide (e.fKind=1) && !decide (e.fValue=va0))) then 9 else
 if (!(usV e.fOp) && !decide (e.fVar=0)) || (!(usF e.fOp) && !decide (e.fField=0)) || (!decide (e.fOp=4) && !decide (e.fKind=0)) || (!(decide (e.fOp=4) || decide (e.fOp=0)) && !decide (e.fValue=va0)) then 3 else 0
theorem zn2 (op:Int)(h:¬arP op<0):op=0\/op=1\/op=2\/op=3\/op=4\/(usV op=false/\usF op=false/\op≠0/\op≠4):=by
 unfold arP at h;by_cases d:op=0
 ·exact aE d
 by_cases h1:op=1
 ·exact aH (aE h1)
 by_cases b:op=2
 ·exact aH (aH (aE b))
 by_cases f:op=3
 ·omega
 by_cases a:op=4
 ·omega
 exact aH (aH (aH (aH (aH ⟨by simp [usV,h1,b,f,a],by simp [usF,h1,a],d,a⟩))))
theorem us0:usV 0=false/\usF 0=false:=by decide
theorem us1:usV 1=true/\usF 1=true:=by decide
theorem us2:usV 2=true/\usF 2=false:=by decide
theorem us3:usV 3=true/\usF 3=false:=by decide
theorem us4:usV 4=true/\usF 4=true:=by decide
theorem zv9 (n:Nat)(e:Exn):Se n e=some (ndP e):=by
 unfold Se;rw [zs2,A1,zv8];simp only [A1,aA,A3,Af,Yj,zdc,B1,Ar,Ej,Ih,Ku,Kt,H3,C6,Xn];unfold ndP;by_cases a:arP e.fOp<0
 ·rw [if_pos a,if_pos a]
 rw [if_neg a,if_neg a];by_cases b:(e.fArgs.length:Int)=arP e.fOp;rotate_left
 ·rw [if_neg b,if_pos b]
 rw [if_pos b,if_neg (show ¬((e.fArgs.length:Int)≠arP e.fOp) from fun h=>h b)];have d:=zn2 e.fOp a;obtain ⟨op,args,var,field,kind,val⟩:=e;simp only at *;clear b a;rcases d with rfl|rfl|rfl|rfl|rfl|⟨h1,j,g,f⟩
 ·simp [us0,Aq];grind
 ·simp [us1,Aq];grind
 ·simp [us2,Aq];grind
 ·simp [us3,Aq];grind
 ·simp [us4,Aq];grind
 ·simp [h1,j,g,f,Aq];grind
theorem zjx (n:Nat)(e:Exn):Th n e=some (if vcP e.fValue=0 then (if decide (e.fOp=4) && (!(suP e.fKind e.fValue) || (decide (e.fKind=1) && !decide (e.fValue=va0))) then 9 else 0) else vcP e.fValue):=by
 unfold Th;rw [p_vc,A1];simp only [A3,Af,zv2,A1,B1,Ar,Ha,Xn];obtain ⟨op,args,var,field,kind,val⟩:=e;simp only;by_cases h:op=4
 ·subst h;simp [Aq];grind
 ·simp [h,Aq];split<;>rfl
theorem zxo (n:Nat)(e:Exn):U6 n e=some (ndP e):=by
 unfold U6;rw [zvm,A1,zxj];simp only [A1,aA,A3,Af,zjx,B1,Ar,Ep,J1,M5,M4,C7,Xn];unfold ndP;by_cases a:arP e.fOp<0
 ·rw [if_pos a];have:e.fOp<0\/12<e.fOp:=by
   unfold arP at a;by_cases h1:e.fOp<0
   ·exact aE h1
   ·omega
  rcases this with h|h
  ·rw [if_pos h,B3]
  ·by_cases f:e.fOp<0
   ·rw [if_pos f,B3]
   ·rw [if_neg f,if_pos h,B3]
 have d:¬e.fOp<0/\¬12<e.fOp:=by
  unfold arP at a;refine ⟨fun h=>a (by rw [if_pos h];decide),fun h=>a ?_⟩;by_cases h1:e.fOp<0
  ·rw [if_pos h1];decide
  ·rw [if_neg h1,if_pos h];decide
 rw [if_neg d.1,if_neg d.2,if_neg a,Au];by_cases b:(e.fArgs.length:Int)=arP e.fOp;rotate_left
 ·rw [if_neg b,if_pos b]
 rw [if_pos b,if_neg (show ¬((e.fArgs.length:Int)≠arP e.fOp) from fun h=>h b)];have g:=zn2 e.fOp a;obtain ⟨op,args,var,field,kind,val⟩:=e;simp only at *;clear b a d;rcases g with rfl|rfl|rfl|rfl|rfl|⟨h1,o,m,j⟩
 ·simp [us0,Aq];grind
 ·simp [us1,Aq];grind
 ·simp [us2,Aq];grind
 ·simp [us3,Aq];grind
 ·simp [us4,Aq];grind
 ·simp [h1,o,m,j,Aq];grind
inductive ETr:Nat->Exn->Prop
 |mk (l:List (Nat×Exn)) (e:Exn) (h:∀ p∈l,ETr p.1 p.2) (ha:e.fArgs=l.map (fun p=>Al p.2)):ETr (1+(l.map (·.1)).sum) e
inductive ETrO:Nat->Exn->Prop
 |mk (l:List (Nat×Exn)) (e:Exn) (hn:ndP e=0) (h:∀ p∈l,ETrO p.1 p.2) (ha:e.fArgs=l.map (fun p=>Al p.2)):ETrO (1+(l.map (·.1)).sum) e
variable {e:Exn}
theorem ETr.pos {s:Nat}(h:ETr s e):1<=s:=by cases h;omega
variable {l:List (Nat×Exn)}
theorem Je {p:Nat×Exn}(h:p∈l):p.1<=(l.map (·.1)).sum:=by
 induction l with
 |nil=>cases h
 |cons x l ih =>
  grind
theorem Qu (h:∀ p∈l,1<=p.1):l.length<=(l.map (·.1)).sum:=by
 induction l with
 |nil=>simp
 |cons x l ih =>
  grind
def preS (l:List (Nat×Exn))(k:Nat):Nat:=((l.take k).map (·.1)).sum
theorem zg3 {k:Nat}(h:k<l.length):preS l (k+1)=preS l k+l[k].1:=by
 unfold preS;rw [aM h,map_append,sum_append];simp_all
theorem zlp {k:Nat}(h:l.length<=k):preS l k=(l.map (·.1)).sum:=by unfold preS;rw [take_of_length_le h]
theorem zp4 (l:List (Nat×Exn))(k:Nat):preS l k<=(l.map (·.1)).sum:=by
 unfold preS;conv=>rhs;rw [<-take_append_drop k l]
 grind
theorem Jh {k:Nat}(h:k<l.length)(K:Exn->Option β):idxD C8 (l.map fun p=>Al p.2) (k:Int) K=K l[k].2:=by
 unfold idxD;rw [if_pos (by omega)];simp only [Int.toNat_natCast,getElem?_map,getElem?_eq_getElem h,Option.map_some,W9]
theorem zc3 (most:Int)(hm:0<=most)(a:most<=1000000)(n:Nat)(l:List (Nat×Exn))(e:Exn)(f:e.fArgs=l.map (fun p=>Al p.2))(j:(l.map (·.1)).sum<=4000000)(r:l.length<=4000000)
  (b:∀ p∈l,∃ c:Int,G8 n p.2 most=some c/\1<=c/\c<=p.1/\(c<=most->c=p.1)) :
  ∀ (m k:Nat) (v:Int),k<=l.length->l.length<m+k->1<=v->v<=1+preS l k->(v<=most->v=1+preS l k) ->
   ∃ c:Int,Ib n (G8 n) most e (fun y=>some y) m (v,(k:Int))=some c/\1<=c/\c<=1+(l.map (·.1)).sum/\(c<=most->c=1+(l.map (·.1)).sum)
 |0,k,v,h1,t,_,_,_=>by omega
 |m+1,k,v,h1,t,A,z,s=>by
  unfold Ib;simp only [B1,Ar,Kk,f,aA,A3,B3];have q:=zp4 l k;by_cases h:k<l.length
  ·rw [if_pos (by omega)];by_cases d:v<=most
   ·rw [if_pos d,Jh h];obtain ⟨c,w,C,B,u⟩:=b l[k] (aF h);rw [w,A1,Ad k (by omega),Cu _ (by have:=Je (aF h);omega)];have o:=zg3 h;have g:=s d;exact zc3 most hm a n l e f j r b m (k+1) (v+c) (by omega) (by omega) (by omega) (by omega) (fun x=>by have:=u (by omega);omega)
   grind
  ·rw [if_neg (by omega)];have o:=zlp (l:=l) (k:=k) (by omega);grind
theorem zpl (most:Int)(hm:0<=most)(d:most<=1000000):∀ (s:Nat) (e:Exn),ETr s e->s<=4000000->∀ n,s+1<n->∃ c:Int,G8 n e most=some c/\1<=c/\c<=s/\(c<=most->c=s):=by
 intro s
 induction s using Nat.strongRecOn with
 |ind s IH =>
  intro e f j n m;cases f with
  |mk l e h g =>
   obtain ⟨a,rfl⟩:∃ a,n=a + 1:=⟨n-1,by omega⟩;have o:=Qu (l:=l) (fun p b=>(h p b).pos);simp only [G8];obtain ⟨c,u,t,r,q⟩:=zc3 most hm d a l e g (by omega) (by omega) (fun p b=>by
    have:=Je b;exact IH p.1 (by omega) p.2 (h p b) (by omega) a (by omega)) a 0 1 (by omega) (by omega) (by omega) (by omega) (fun _=>by simp [preS])
   grind
theorem zg8 (n:Nat)(l:List (Nat×Exn))(e:Exn)(f:e.fArgs=l.map (fun p=>Al p.2))(o:(l.map (·.1)).sum<=4000000)(r:l.length<=4000000)
  (a:∀ p∈l,∃ d:Int,G7 n p.2=some d/\Hh n p.2=some ((p.1:Int),d)/\0<=d/\d<=p.1) :
  ∀ (m k:Nat) (d:Int),k<=l.length->l.length<m+k->0<=d->d<=preS l k ->
   ∃ D:Int,O3 n (G7 n) e (fun y=>some (aJ .i64 (y+1))) m (d,(k:Int))=some (D+1)/\Q6 n (Hh n) e (fun j g=>some (j,(aJ .i64 (g+1)))) m (((1+preS l k:Nat):Int),d,(k:Int))=some (((1+(l.map (·.1)).sum:Nat):Int),D+1)/\0<=D/\D<=(l.map (·.1)).sum
 |0,k,d,h1,t,_,_=>by omega
 |m+1,k,d,h1,t,s,x=>by
  unfold O3 Q6;simp only [f,aA,A3];have q:=zp4 l k;by_cases h:k<l.length
  ·rw [if_pos (by omega),if_pos (by omega),Jh h,Jh h];obtain ⟨c,w,v,A,z⟩:=a l[k] (aF h);have b:=zg3 h;have hm:=Je (aF h);rw [w,v,A1,A1,Ad k (by omega),Cu _ (by omega)];have u:(((1+preS l k:Nat):Int)+((l[k].1:Nat):Int))=((1+preS l (k+1):Nat):Int):=by omega
   simp only;rw [u];exact zg8 n l e f o r a m (k+1) (max d c) (by omega) (by omega) (by omega) (by omega)
  ·rw [if_neg (by omega),if_neg (by omega)];have b:=zlp (l:=l) (k:=k) (by omega);refine ⟨d,by rw [Cu _ (by omega)],?_,s,by omega⟩;rw [Cu _ (by omega),b]
theorem ztu:∀ (s:Nat) (e:Exn),ETr s e->s<=4000000->∀ n,s+1<n->∃ d:Int,G7 n e=some d/\Hh n e=some ((s:Int),d)/\0<=d/\d<=s:=by
 intro s
 induction s using Nat.strongRecOn with
 |ind s IH =>
  intro e f o n q;cases f with
  |mk l e h g =>
   obtain ⟨a,rfl⟩:∃ a,n=a + 1:=⟨n-1,by omega⟩;have r:=Qu (l:=l) (fun p b=>(h p b).pos);simp only [G7,Hh];obtain ⟨D,m,j,u,t⟩:=zg8 a l e g (by omega) (by omega) (fun p b=>by
    have:=Je b;exact IH p.1 (by omega) p.2 (h p b) (by omega) a (by omega)) a 0 0 (by omega) (by omega) (by omega) (by simp)
   exact ⟨D+1,m,j,by omega,by push_cast;omega⟩
theorem zbs (n:Nat)(l:List (Nat×Exn))(e:Exn)(d:e.fArgs=l.map (fun p=>Al p.2))(o:l.length<=4000000)
  (a:∀ p∈l,∃ r:Int,H5 n p.2=some r/\Hf n p.2=some r/\(r=0->ETrO p.1 p.2)) :
  ∀ (m k:Nat),k<=l.length->l.length<m+k->(∀ p∈l.take k,ETrO p.1 p.2) ->
   ∃ r:Int,O2 n (H5 n) e (some 0) m (k:Int)=some r/\Q3 n (Hf n) e (some 0) m (k:Int)=some r/\(r=0->∀ p∈l,ETrO p.1 p.2)
 |0,k,h1,q,_=>by omega
 |m+1,k,h1,q,t=>by
  unfold O2 Q3;simp only [d,aA,A3,Af];by_cases h:k<l.length
  ·rw [if_pos (by omega),if_pos (by omega),Jh h,Jh h];obtain ⟨r,g,f,s⟩:=a l[k] (aF h);rw [g,f,A1,A1,Ad k (by omega)];by_cases b:r=0
   ·rw [if_pos b,if_pos b];refine zbs n l e d o a m (k+1) (by omega) (by omega) (fun p j=>?_);rw [aM h,mem_append,mem_singleton] at j;grind
   simp_all
  ·rw [if_neg (by omega),if_neg (by omega)];grind
theorem zuz:∀ (s:Nat) (e:Exn),ETr s e->s<=4000000->∀ n,s+1<n->∃ r:Int,H5 n e=some r/\Hf n e=some r/\(r=0->ETrO s e):=by
 intro s
 induction s using Nat.strongRecOn with
 |ind s IH =>
  intro e o t n u;cases o with
  |mk l e h f =>
   obtain ⟨b,rfl⟩:∃ b,n=b + 1:=⟨n-1,by omega⟩;have v:=Qu (l:=l) (fun p d=>(h p d).pos);simp only [H5,Hf,zv9,zxo,A1,Af,A3];by_cases a:ndP e=0
   ·rw [if_pos a,if_pos a];obtain ⟨r,m,j,g⟩:=zbs b l e f (by omega) (fun p d=>by
     have:=Je d;exact IH p.1 (by omega) p.2 (h p d) (by omega) b (by omega)) b 0 (by omega) (by omega) (by simp)
    exact ⟨r,m,j,fun q=>.mk l e a (g q) f⟩
   simp_all
theorem zpm (s:Nat)(e:Exn)(a:ETr s e)(b:s<=4000000)(n:Nat)(f:s+1<n):∃ r:Int,G9 n e=some r/\Hg n e=some r/\(r=0->ETrO s e):=by
 obtain ⟨c,o,w,v,u⟩:=zpl 64 (by omega) (by omega) s e a b n f;obtain ⟨d,m,j,t,q⟩:=ztu s e a b n f;obtain ⟨r,h,g,p⟩:=zuz s e a b n f;unfold G9 Hg;rw [o,m,j,h,g];simp only [A1,A3];grind
def wrP (k:Int)(v:Va):Int:=if vcP v=0 then (if suP k v=true then 0 else 9) else vcP v
theorem zjq (n:Nat)(k:Int)(f:1<=k/\k<=5)(v:Va):Lv n k v=some (wrP k v):=by
 unfold Lv Px wrP suP;simp only [p_vc,A1,A3,Af,B1,Ar,H9];by_cases h:vcP v=0
 ·rw [if_pos h,if_pos h];by_cases a:v.fKind=0
  ·simp [a,Aq,A1]
  ·by_cases h1:k=1
   ·simp [a,h1,Aq,A1]
   ·by_cases b:k=2
    ·simp [a,h1,b,Aq,A1]
    ·by_cases d:k=3
     ·simp [a,h1,b,d,Aq,A1]
     ·have:k=4\/k=5:=by omega
      rcases this with rfl|rfl<;>simp [a,Aq,A1]
 ·rw [if_neg h,if_neg h]
theorem zlr (n:Nat)(k:Int)(b:1<=k/\k<=5)(v:Va):P5 n k v=some (wrP k v):=by
 unfold P5 wrP;simp only [Yj,zdc,A1,A3,Af];have a:decide (k=0)=false:=by rw [decide_eq_false];omega
 simp only [a,Bool.false_or];by_cases h:vcP v=0
 ·rw [if_pos h,if_pos h];cases suP k v<;>simp [Aq]
 ·rw [if_neg h,if_neg h]
def comb (k:Int)(a b:Va):Va:=if k=1 then ⟨0,aJ .i64 (a.fNum+b.fNum),be⟩ else if k=2 then ⟨0,min a.fNum b.fNum,be⟩ else if k=3 then ⟨0,max a.fNum b.fNum,be⟩ else if k=4 then a else b
theorem zvc (n:Nat)(k:Int)(d:1<=k/\k<=5)(a b:Va):Rs n k a b=some (comb k a b):=by
 unfold Rs comb;simp only [A3];grind
theorem zy1 (n:Nat)(k:Int)(d:1<=k/\k<=5)(a b:Va):T6 n k a b=some (comb k a b):=by
 unfold T6 comb;simp only [Uv,D7,A1,Vw,Vv,Vu,Vt,Vs,Vr];grind
def AInv (k:Int)(i:Nat)(V:Va):Prop:=if i=0 then V=va0 else if k=1 then V.fKind=0/\V.fText=be/\-((i:Int)*1099511627776)<=V.fNum/\V.fNum<=(i:Int)*1099511627776 else vcP V=0/\suP k V=true
variable {k:Int}{i:Nat}{V:Va}
theorem AInv.check (n:Nat)(j:1<=k/\k<=5)(hi:i<=4096)(h:AInv k i V):P7 n ⟨k,(i:Int),V⟩=some 0/\Tg n ⟨k,(i:Int),V⟩=some 0:=by
 have w1:aJ .i64 ((i:Int)*1099511627776)=(i:Int)*1099511627776:=Cu _ (by omega);have o:aJ .i64 (0-(i:Int)*1099511627776)=-((i:Int)*1099511627776):=by rw [Cu _ (by omega)];omega
 have p:¬k=0:=by omega
 have ka:(0:Int)<=k:=by omega
 have r:¬(i:Int)<0:=by omega
 have q:¬4096<(i:Int):=by omega
 unfold P7 Tg Pi Py;simp only [A1,A3,Af,B1,Ar,Ii,Ir,Ko,Km,Gz,Kl,Li,Xn,p_vc,Yj,w1,o,ka,j.2,if_true,decide_true,Au,r,q,if_false,decide_false,B3,p,Qg];unfold AInv at h;by_cases a:i=0
 ·rw [if_pos a] at h;subst a;subst h;simp [Aq]
 ·rw [if_neg a] at h;have d:¬(i:Int)=0:=by omega
  simp only [d,if_false,decide_false,B3];by_cases f:k=1
  ·grind
  ·rw [if_neg f] at h;obtain ⟨h1,m⟩:=h;simp only [f,if_false,h1,zdc,m,A1,if_true,Bool.or_true];refine ⟨by simp [Aq],?_⟩;have:=zjq n k j V;unfold Lv wrP at this;rw [p_vc,A1] at this;simp only [h1,m,if_true,decide_true,Bool.not_true,B3] at this;cases g:Px n k V with
   |none=>rw [g] at this;unfold bnd at this;cases this
   |some b =>
    rw [g,A1] at this;cases b with
    |true=>simp [A1,Aq]
    |false=>simp [Aq] at this
def Fv (k:Int)(i:Nat)(V x:Va):Va:=if i=0 then x else comb k V x
theorem AInv.step (w:1<=k/\k<=5)(hi:i<=4096){x:Va}(h:AInv k i V)(u:wrP k x=0):AInv k (i+1) (Fv k i V x):=by
 have s:vcP x=0/\suP k x=true:=by
  unfold wrP at u;by_cases h1:vcP x=0
  ·simp_all
  ·omega
 have p:x.fKind=0->x.fText=be/\-1099511627776<=x.fNum/\x.fNum<=1099511627776:=fun v=>by
  have:=s.1;unfold vcP at this;grind
 have o:k=1\/k=2\/k=3->x.fKind=0:=fun h=>by
  have:=s.2;simp only [suP,Bool.or_eq_true,decide_eq_true_eq] at this;omega
 have nv:∀ q:Int,-1099511627776<=q->q<=1099511627776->vcP ⟨0,q,be⟩=0:=fun q h1 r=>by
  unfold vcP;grind
 unfold AInv at h ⊢;rw [if_neg (by omega)];unfold Fv;by_cases g:i=0
 ·simp_all
 ·rw [if_neg g] at h;rw [if_neg g];by_cases f:k=1
  ·rw [if_pos f] at h ⊢;obtain ⟨h1,r,z,y⟩:=h;obtain ⟨a,b,c⟩:=p (o (aE f));unfold comb;rw [if_pos f];rw [Cu _ (by omega)];grind
  ·rw [if_neg f] at h ⊢;obtain ⟨h1,r⟩:=h;have t:V.fKind=0->-1099511627776<=V.fNum/\V.fNum<=1099511627776:=fun v=>by
    unfold vcP at h1;omega
   have j:k=2\/k=3->V.fKind=0:=fun h=>by
    simp only [suP,Bool.or_eq_true,decide_eq_true_eq] at r;omega
   unfold comb;rw [if_neg f];by_cases m:k=2
   ·rw [if_pos m];obtain ⟨a,b,c⟩:=p (o (aH (aE m)));obtain ⟨d,e⟩:=t (j (aE m));exact ⟨nv _ (by omega) (by omega),by simp [suP]⟩
   ·rw [if_neg m];by_cases n:k=3
    ·rw [if_pos n];obtain ⟨a,b,c⟩:=p (o (aH (aH n)));obtain ⟨d,e⟩:=t (j (aH n));exact ⟨nv _ (by omega) (by omega),by simp [suP]⟩
    grind
theorem zxm (n:Nat)(b:1<=k/\k<=5)(hi:i<4096)(h:AInv k i V)(x:Va):So n ⟨k,(i:Int),V⟩ x=some (if wrP k x=0 then (⟨k,((i+1:Nat):Int),Fv k i V x⟩,0) else (⟨0,0,⟨0,0,be⟩⟩,wrP k x)):=by
 unfold So;rw [(h.check n b (by omega)).1,A1];simp only [zlr n k b,A1,A3,Af,zvc n k b,B1,Ar,Iq,if_true];rw [Ad i (by omega)];by_cases a:wrP k x=0
 ·rw [if_pos a,if_pos a,if_neg (by omega),if_neg (by omega)];unfold Fv;by_cases d:i=0;all_goals simp_all
 ·rw [if_neg a,if_neg a]
def bad (k:Int):List Va->Option Int
 |[]=>none
 |x::l=>if wrP k x=0 then bad k l else some (wrP k x)
def fV (k:Int):Nat->Va->List Va->Va |_,V,[]=>V |i,V,x::l=>fV k (i+1) (Fv k i V x) l
theorem zlu (n:Nat)(a:1<=k/\k<=5)(init:Va)(l:List Va)(f:l.length<=4096)(K:Int->Int->Int->Int->ByteArray->Option (Va×Int)):∀ (m i:Nat) (V:Va),i<=l.length->l.length<m+i->AInv k i V ->
  P6 n init l K m ((i:Int),k,(i:Int),V.fKind,V.fNum,V.fText)=(match bad k (l.drop i) with|some e=>some (va0,e)|none=>K k (l.length:Int) (fV k i V (l.drop i)).fKind (fV k i V (l.drop i)).fNum (fV k i V (l.drop i)).fText)/\(bad k (l.drop i)=none->AInv k l.length (fV k i V (l.drop i)))
 |0,i,V,h1,o,_=>by omega
 |m+1,i,V,h1,o,b=>by
  unfold P6;simp only [aA,A3,Af];by_cases h:i<l.length
  ·rw [if_pos (by omega),Ab h];have g:=zxm n a (i:=i) (by omega) b l[i];have j:V=⟨V.fKind,V.fNum,V.fText⟩:=rfl;rw [<-j,g,A1,Aw l i h];simp only [bad,fV];by_cases d:wrP k l[i]=0
   ·simp only [d,if_true];rw [Ad i (by omega)];exact zlu n a init l f K m (i+1) _ (by omega) (by omega) (b.step a (by omega) d)
   grind
  ·rw [if_neg (by omega),aC (by omega)];have:i=l.length:=by omega
   subst this;exact ⟨rfl,fun _=>b⟩
theorem zph (n:Nat)(b:1<=k/\k<=5)(init:Va)(l:List Va)(d:l.length<=4096)(K:Option (Va×Int)):∀ (m i:Nat),i<=l.length->l.length<m+i->Pz n init l k K m (i:Int)=(match bad k (l.drop i) with|some e=>some (va0,e)|none=>K)
 |0,i,h1,f=>by omega
 |m+1,i,h1,f=>by
  unfold Pz;simp only [aA,A3,Af];by_cases h:i<l.length
  ·rw [if_pos (by omega),Ab h,zjq n k b,A1,Aw l i h];simp only [bad];by_cases a:wrP k l[i]=0
   ·simp only [a,if_true];rw [Ad i (by omega)];exact zph n b init l d K m (i+1) (by omega) (by omega)
   ·simp only [a,if_false]
  ·rw [if_neg (by omega),aC (by omega)];rfl
theorem Zs (n:Nat)(a:1<=k/\k<=5)(l:List Va)(d:l.length<=4096)(K:Int->Int->Int->Int->ByteArray->Option Bv):∀ (m i:Nat) (V:Va),i<=l.length->l.length<m+i ->
  Pe n k l K m ((i:Int),k,(i:Int),V.fKind,V.fNum,V.fText)=K k (l.length:Int) (fV k i V (l.drop i)).fKind (fV k i V (l.drop i)).fNum (fV k i V (l.drop i)).fText
 |0,i,V,h1,o=>by omega
 |m+1,i,V,h1,o=>by
  unfold Pe;simp only [aA,A3];by_cases h:i<l.length
  ·rw [if_pos (by omega),Ab h,Aw l i h];unfold W8 W4 W5;have g:¬k=0:=by omega
   have j:V=⟨V.fKind,V.fNum,V.fText⟩:=rfl;simp only [A3,g,if_false,A1];rw [<-j,zy1 n k a];simp only [fV];by_cases f:i=0
   ·have:((i:Nat):Int)=0:=by omega
    rw [if_pos this,A1,Ad i (by omega)];have e:=Zs n a l d K m (i+1) (Fv k i V l[i]) (by omega) (by omega);have b:Fv k i V l[i]=l[i]:=by unfold Fv;rw [if_pos f]
    rw [b] at e ⊢;have p:((i+1:Nat):Int)=1:=by omega
    rw [p] at e ⊢;rw [A1];exact e
   ·rw [if_neg (by omega),if_neg (by omega),A1,A1,Ad i (by omega)];have e:=Zs n a l d K m (i+1) (Fv k i V l[i]) (by omega) (by omega);have b:Fv k i V l[i]=comb k V l[i]:=by unfold Fv;rw [if_neg f]
    rw [b] at e ⊢;rw [A1];exact e
  ·rw [if_neg (by omega),aC (by omega)];have:i=l.length:=by omega
   subst this;rfl
theorem zs1 (n:Nat)(hk:1<=k/\k<=5)(hi:i<=4096)(h:AInv k i V)(init:Va):∃ r,Ow n ⟨k,(i:Int),V⟩ init=some r/\Ps n ⟨k,(i:Int),V⟩ init=some r:=by
 obtain ⟨h1,h2⟩:=h.check n hk hi
 unfold Ow Ps
 rw [h1,h2]
 simp only [A1,zlr n k hk,zjq n k hk,A3,Af,B1,Ar,Kb,Lh,if_true,Aq]
 repeat' split
 all_goals exact ⟨_,rfl,rfl⟩
theorem p_of (n:Nat)(x:5000<n)(d:1<=k/\k<=5)(l:List Va)(init:Va):∃ r,Pr n k l init=some r/\Q8 n k l init=some r:=by
 unfold Pr Q8 Pi Py;have ka:(0:Int)<=k:=by omega
 simp only [A1,A3,Af,B1,Ar,Ii,Ir,ka,d.2,if_true,aA,decide_true,Au];by_cases h:4096<l.length
 ·rw [if_pos (by omega),if_pos (by omega)];exact ⟨_,rfl,rfl⟩
 ·rw [if_neg (by omega),if_neg (by omega)];have q:=zlu n d init l (by omega) (fun o m j g f=>bnd (Ow n (⟨o,m,⟨j,g,f⟩⟩:Bv) init) fun a=>some (a.1,a.2)) n 0 va0 (by omega) (by omega) (by simp [AInv]);have t:=zph n d init l (by omega) (bnd (T8 n (⟨k,0,⟨0,0,ByteArray.empty⟩⟩:Bv) l k) fun p=>bnd (Ps n p init) fun b=>some (b.1,b.2)) n 0 (by omega) (by omega);simp only [aB,aL] at q t;rw [q.1,t];cases w:bad k l with
  |some e=>exact ⟨_,rfl,rfl⟩
  |none =>
   have hi:=q.2 w;have s:=Zs n d l (by omega) (fun o m j g f=>some (⟨o,m,⟨j,g,f⟩⟩:Bv)) n 0 va0 (by omega) (by omega);simp only [aB,aL] at s;unfold T8;rw [s];simp only [A1];obtain ⟨r,v,u⟩:=zs1 n d (i:=l.length) (by omega) hi init;rw [v,u];simp only [A1];exact ⟨_,rfl,rfl⟩
def evs (vs:List (List Ev))(v:Int):List Ev:=if v<0 then [] else if (vs.length:Int)<=v then [] else vs.getD v.toNat []
theorem Jc {l:List α}{i:Int}(d:α)(k:α->Option β)(a:0<=i)(h1:i<(l.length:Int)):idx l i k=k (l.getD i.toNat d):=by
 obtain ⟨m,rfl⟩:∃ m:Nat,i=m:=⟨i.toNat,by omega⟩;have hm:m<l.length:=by omega
 rw [Ab hm];simp_all
theorem Zq (n:Nat)(vs:List (List Ev))(v:Int):L4 n ⟨vs⟩ v=some (evs vs v):=by
 unfold L4 evs;simp only [B1,Ar,Ka,aA,A3,Au];by_cases h:v<0
 ·rw [if_pos h,if_pos h]
 ·rw [if_neg h,if_neg h];by_cases a:(vs.length:Int)<=v
  ·rw [if_pos a,if_pos a]
  ·rw [if_neg a,if_neg a,Jc [] _ (by omega) (by omega)]
theorem zdf (n:Nat)(vs:List (List Ev))(own:Int)(ev:Ev)(v:Int):O9 n ⟨vs⟩ own ev v=some (evs vs v):=by
 unfold O9 evs;simp only [B1,Ar,K0,aA,A3,Au];by_cases h:v<0
 ·rw [if_pos h,if_pos h]
 ·rw [if_neg h,if_neg h];by_cases a:(vs.length:Int)<=v
  ·rw [if_pos a,if_pos a]
  ·rw [if_neg a,if_neg a,Jc [] _ (by omega) (by omega)]
theorem zpk (n:Nat)(ev:Ev)(f:Int)(a:0<=f):M7 n ev f=some (if (ev.fValues.length:Int)<=f then (va0,6) else (ev.fValues.getD f.toNat va0,0)):=by
 unfold M7;simp only [aA,A3];by_cases h:(ev.fValues.length:Int)<=f
 ·rw [if_pos h,if_pos h]
 ·rw [if_neg h,if_neg h,Jc va0 _ a (by omega)]
theorem zbt (n:Nat)(e:Exn)(a:0<=e.fField)(es:List Ev)(f:es.length<=1000000)(K K':List Va->Option (Va×Int))(d:∀ l,∃ r,K l=some r/\K' l=some r):∀ (m i:Nat) (acc:List Va),i<=es.length->es.length<m+i->acc.length=i ->
  ∃ r,Oe n e es K m ((i:Int),acc)=some r/\Nj n e es K' m ((i:Int),acc)=some r
 |0,i,acc,h1,g,_=>by omega
 |m+1,i,acc,h1,g,j=>by
  unfold Oe Nj;simp only [aA,A3,Af];by_cases h:i<es.length
  ·rw [if_pos (by omega),if_pos (by omega)];simp only [Ab h];rw [zpk n _ _ a,A1];by_cases b:(es[i].fValues.length:Int)<=e.fField
   ·simp_all
   ·rw [if_neg b,if_neg b,Jc va0 _ a (by omega)];simp only [if_true];rw [Bu (by simp;omega) (by omega),Bu (by simp;omega) (by omega),Ad i (by omega)];exact zbt n e a es f K K' d m (i+1) _ (by omega) (by omega) (by simp;omega)
  ·rw [if_neg (by omega),if_neg (by omega)];exact d acc
theorem zmb (h:ndP e=0):0<=arP e.fOp/\(e.fArgs.length:Int)=arP e.fOp/\(usF e.fOp=true->0<=e.fField)/\(e.fOp=4->1<=e.fKind/\e.fKind<=5):=by
 unfold ndP at h;grind
inductive Occ (i:Nat):Exn->Prop
 |here (e:Exn) (h:usV e.fOp=true) (hv:e.fVar=(i:Int)):Occ i e
 |sub (e y:Exn) (hy:Al y∈e.fArgs) (h:Occ i y):Occ i e
theorem zy3 (h:ndP e=0)(a:usV e.fOp=true):0<=e.fVar/\e.fVar<16:=by
 unfold ndP at h;grind
theorem zxp (n:Nat)(O:2000000<n)(e:Exn)(t:ndP e=0)(Q:e.fArgs.length=0)(a b:List (List Ev))(F:∀ i:Nat,Occ i e->evs a (i:Int)=evs b (i:Int))(G:∀ v,(evs a v).length<=1000000)(own:Int)(ev:Ev) :
  ∃ r,Ph n e ⟨a⟩ own ev=some r/\P1 n ⟨b⟩ own ev e=some r:=by
 obtain ⟨j,h,J,N⟩:=zmb t;by_cases o0:e.fOp=0
 ·unfold Ph P1;simp only [Zq,zdf,A1,A3,o0,if_true];exact ⟨_,rfl,rfl⟩
 have I:usV e.fOp=true:=by
  unfold arP at j h;by_cases d:e.fOp<0
  ·rw [if_pos d] at j;omega
  by_cases s:12<e.fOp
  ·rw [if_neg d,if_pos s] at j;omega
  rw [if_neg d,if_neg s] at h;by_cases H:e.fOp<5
  ·unfold usV;grind
  ·rw [if_neg H] at h;split at h<;>omega
 have w:evs a e.fVar=evs b e.fVar:=by
  have E:=zy3 t I;have:=F e.fVar.toNat (.here e I (by omega))
  rwa [show ((e.fVar.toNat:Nat):Int)=e.fVar by omega] at this
 unfold Ph P1;simp only [Zq,zdf,<-w,A1,A3,Af,aA];rw [if_neg o0,if_neg o0];by_cases o3:e.fOp=3
 ·simp_all
 rw [if_neg o3,if_neg o3];by_cases g:e.fOp=4
 ·rw [if_pos g,if_pos g];unfold Vf;rw [zdf,<-w,A1];have u:=J (by rw [g];decide);have M:=N g;obtain ⟨r,A,z⟩:=zbt n e u (evs a e.fVar) (G _) (fun y=>bnd (Pr n e.fKind y e.fValue) fun o=>some (o.1,o.2)) (fun y=>bnd (Q8 n e.fKind y e.fValue) fun p=>some (p.1,p.2)) (fun l=>by
   obtain ⟨r,A,z⟩:=p_of n (by omega) M l e.fValue;exact ⟨r,by rw [A,A1],by rw [z,A1]⟩) n 0 [] (by omega) (by have:=G e.fVar;omega) rfl
  simp only [aB] at A z;rw [A,z];exact ⟨r,rfl,by rw [A1]⟩
 rw [if_neg g,if_neg g];have L:e.fOp=1\/e.fOp=2:=by
  unfold arP at j h;by_cases d:e.fOp<0
  ·rw [if_pos d] at j;omega
  by_cases s:12<e.fOp
  ·rw [if_neg d,if_pos s] at j;omega
  rw [if_neg d,if_neg s] at h;by_cases H:e.fOp<5
  ·omega
  ·omega
 simp only [B1,Ar,Ke,Kd];unfold Vy;simp only [Zq,A1,A3,Af,aA];have tail:∀ x:Ev,∃ r,(if e.fOp=2 then some ((⟨0,x.fTime,be⟩:Va),(0:Int)) else if (x.fValues.length:Int)<=e.fField then some (va0,6) else idx x.fValues e.fField fun D=>bnd (H6 n D) fun m=>if m=0 then (idx x.fValues e.fField fun C=>some (C,0)) else some (va0,m))=some r /\
   (if e.fOp=2 then some ((⟨0,x.fTime,be⟩:Va),(0:Int)) else bnd (M7 n (⟨x.fSource,x.fSeq,x.fType,x.fTime,x.fValues⟩:A7) e.fField) fun f=>if f.2=0 then (bnd (Hd n f.1) fun q=>if q=0 then some (f.1,0) else some (va0,q)) else if f.2=0 then some (f.1,0) else some (va0,f.2))=some r:=fun x=>by
  by_cases o2:e.fOp=2
  ·simp_all
  rw [if_neg o2,if_neg o2];have K:e.fOp=1:=by omega
  have u:=J (by rw [K];decide);rw [zpk n _ _ u,A1];by_cases E:(x.fValues.length:Int)<=e.fField
  ·simp only [E,if_true];exact ⟨_,rfl,rfl⟩
  ·simp only [E,if_false];rw [Jc va0 _ u (by omega),Jc va0 _ u (by omega),Yj,p_vc,A1];simp only [if_true,A1];split;all_goals simp_all
 by_cases B:e.fVar=own
 ·rw [if_pos B,if_pos B,A1];simp only [Au];exact tail ev
 ·rw [if_neg B,if_neg B];by_cases P:(evs a e.fVar).length=0
  ·rw [if_pos (by omega),if_pos (by omega),A1];simp only [B3];exact ⟨_,rfl,rfl⟩
  ·rw [if_neg (by omega),if_neg (by omega),Cu _ (by have:=G e.fVar;omega),Jc ev _ (by omega) (by omega),Jc ev _ (by omega) (by omega),A1];simp only [Au];exact tail _
theorem znm (n:Nat)(op:Int)(h:5<=op/\op<=12):Rp n op=some (if op<9 then 0 else if op=9 then -1 else 1):=by
 have:op=5\/op=6\/op=7\/op=8\/op=9\/op=10\/op=11\/op=12:=by omega
 unfold Rp;simp only [B1,Ar,Gu,Hy,A3];grind
theorem z7l (n:Nat)(op:Int)(h:5<=op/\op<=12)(a:List Int)(s:a.length<=4000000):∀ (m i:Nat),i<=a.length->a.length<m+i->∃ r,Ff n a op (some 0) m (i:Int)=some r/\Gc n a op (some 0) m (i:Int)=some r/\(r=0\/r=9)
 |0,i,h1,t=>by omega
 |m+1,i,h1,t=>by
  unfold Ff Gc;simp only [aA,A3,Af,znm n op h,A1,B1,Ar,Fx,Hb,Iv];by_cases hi:i<a.length
  ·have b:((i:Nat):Int)<((a.length:Nat):Int):=by omega
   simp only [b,if_true];obtain ⟨r,g,f,d⟩:=z7l n op h a s m (i+1) (by omega) (by omega);rw [Ad i (by omega),g,f];have j:∀ (K:Int->Option Int),idx a 0 K=K (a.headD 0):=fun K=>by
    have:=Ab (l:=a) (i:=0) (by omega) K;simp only [aB] at this;rw [this];congr 1;cases a with
    |nil=>simp at hi
    |cons x q=>rfl
   have o:∀ (K:Int->Option Int),idx a (i:Int) K=K a[i]:=fun K=>Ab hi K
   simp only [j,o];generalize a[i]=k;generalize a.headD 0=p;have:op=5\/op=6\/op=7\/op=8\/op=9\/op=10\/op=11\/op=12:=by omega
   clear g f j o h;rcases this with rfl|rfl|rfl|rfl|rfl|rfl|rfl|rfl
   all_goals
    simp [Aq];first
    |(by_cases q:k=0<;>simp [q,d])
    |(by_cases q:k=1<;>simp [q,d])
    |(by_cases q:k=p<;>simp [q,d])
  ·have b:¬((i:Nat):Int)<((a.length:Nat):Int):=by omega
   simp only [b,if_false];exact ⟨0,rfl,rfl,aE rfl⟩
theorem zpj (n:Nat)(b:Bool):E9 n b=some (if b=true then ⟨1,1,be⟩ else ⟨1,0,be⟩):=by
 unfold E9 Wl;cases b<;>simp [Aq,A1]
theorem zjs (n:Nat)(b:Bool):Em n b=some (if b=true then ⟨1,1,be⟩ else ⟨1,0,be⟩):=by
 unfold Em;cases b<;>simp [Aq]
section
variable {α β:Type}
theorem zdj {len:Nat}(h:0<len)(k:Nat->Option β):nat 0 len k=k 0:=by have:=Da (i:=0) h k;simpa using this
theorem zmc {len:Nat}(h:1<len)(k:Nat->Option β):nat 1 len k=k 1:=by have:=Da (i:=1) h k;simpa using this
theorem zw2 {x y:α}{a:List α}(k:α->Option β):idx (x::y::a) 1 k=k y:=by have:=Ab (l:=x::y::a) (i:=1) (by simp) k;simpa using this
end
theorem w21:aJ .i64 (((2:Nat):Int)-1)=1:=by decide
theorem w11:aJ .i64 (((1:Nat):Int)-1)=0:=by decide
theorem zsa (n:Nat)(op:Int)(h:5<=op/\op<=11)(x y:Va):∃ v,Lc n op [x,y]=some v /\
  (cnd (decide (op=9))
    (nat 0 (List.map Aa [x,y]).length fun j=>elt [x,y] j fun d=>nat 1 (List.map Aa [x,y]).length fun g=>elt [x,y] g fun b =>
      bnd (E9 n (decide (d.fKind=b.fKind) && (decide (d.fNum=b.fNum) && ((d.fText.toList == b.fText.toList) && true)))) fun f=>some (f,(0:Int)))
  <| natc op 5 (bnd (T4 n x.fNum y.fNum) fun a=>some (a,0))
  <| natc op 6 (bnd (Sy n x.fNum y.fNum) fun a=>some (a,0))
  <| natc op 7 (bnd (Sx n x.fNum y.fNum) fun a=>some (a,0))
  <| natc op 8 (bnd (Sw n x.fNum y.fNum) fun a=>some (a,0))
  <| natc op 10 (bnd (Sv n x.fNum y.fNum) fun a=>some (a,0))
  <| natc op 11 (bnd (Su n x.fNum y.fNum) fun a=>some (a,0))
  <| natc op 12 (bnd (Lp n x.fNum y.fNum) fun a=>some (a,0))
  <| none)=some (v,0):=by
 have:op=5\/op=6\/op=7\/op=8\/op=9\/op=10\/op=11:=by omega
 have p:(List.map Aa [x,y]).length=2:=rfl;have o:∀ k:Nat->Option (Va×Int),nat 0 2 k=k 0:=fun k=>zdj (by omega) k
 have m:∀ k:Nat->Option (Va×Int),nat 1 2 k=k 1:=fun k=>zmc (by omega) k
 have s:∀ k:Va->Option (Va×Int),elt [x,y] 0 k=k x:=fun k=>Cv (by simp) k
 have r:∀ k:Va->Option (Va×Int),elt [x,y] 1 k=k y:=fun k=>Cv (by simp) k
 unfold Lc T4 Sy Sx Sw Sv Su Lp T5;simp only [p,o,m,s,r,zmj,zw2,A3,Uv,zpj,zjs,A1,B1,Ar,L7,L6,Ki,Kh];rcases this with rfl|rfl|rfl|rfl|rfl|rfl|rfl
 ·exact ⟨_,rfl,rfl⟩
 ·exact ⟨_,rfl,rfl⟩
 ·exact ⟨_,rfl,rfl⟩
 ·exact ⟨_,rfl,rfl⟩
 ·exact ⟨_,rfl,rfl⟩
 ·by_cases q:x.fNum=1
  ·simp [q,A1]
  ·simp [q,A1]
 ·by_cases q:x.fNum=1
  ·simp [q,A1]
  ·simp [q,A1]
theorem zsb (n:Nat)(x:Va):∃ v,Lc n 12 [x]=some v/\Lp n x.fNum x.fNum=some v:=by
 unfold Lc Lp;simp only [zmj,A3,zpj,zjs,A1];exact ⟨_,rfl,rfl⟩
theorem ETrO.pos {s:Nat}(h:ETrO s e):1<=s:=by cases h;omega
theorem zgt (n:Nat)(l:List (Nat×Exn))(e:Exn)(g:e.fArgs=l.map (fun p=>Al p.2))(s:l.length<=4000000)(a b:List (List Ev))(own:Int)(ev:Ev)
  (f:∀ p∈l,∃ r,H8 n p.2 ⟨a⟩ own ev=some r/\H4 n ⟨b⟩ own ev p.2=some r) (K K':List Va->List Int->Option (Va×Int)) (t:∀ vs,vs.length=l.length->∃ r,K vs (vs.map (·.fKind))=some r/\K' vs (vs.map (·.fKind))=some r) :
  ∀ (m k:Nat) (vs:List Va),k<=l.length->l.length<m+k->vs.length=k->∃ r,Og n (H8 n) ev own ⟨a⟩ e K m ((k:Int),vs,vs.map (·.fKind))=some r/\Nt n (H4 n) e ev own ⟨b⟩ K' m ((k:Int),vs,vs.map (·.fKind))=some r
 |0,k,vs,h1,u,_=>by omega
 |m+1,k,vs,h1,u,w=>by
  unfold Og Nt;simp only [g,aA,A3,Af];by_cases h:k<l.length
  ·have d:((k:Nat):Int)<((l.length:Nat):Int):=by omega
   simp only [d,if_true];rw [Jh h,Jh h];obtain ⟨⟨v,x⟩,o,j⟩:=f l[k] (aF h);rw [o,j,A1,A1];by_cases q:x=0
   ·simp only [q,if_true];rw [Bu (by simp;omega) (by omega),Bu (by simp;omega) (by omega),Bu (by simp;omega) (by omega),Bu (by simp;omega) (by omega),Ad k (by omega)];have:=zgt n l e g s a b own ev f K K' t m (k+1) (vs++[v]) (by omega) (by omega) (by simp;omega);simpa using this
   simp_all
  grind
theorem zxu (a b:List (List Ev))(R:∀ v,(evs a v).length<=1000000)(own:Int)(ev:Ev):∀ (s:Nat) (e:Exn),ETrO s e->(∀ i:Nat,Occ i e->evs a (i:Int)=evs b (i:Int))->s<=4000000->∀ n,s+5000000<n->∃ r,H8 n e ⟨a⟩ own ev=some r/\H4 n ⟨b⟩ own ev e=some r:=by
 intro s
 induction s using Nat.strongRecOn with
 |ind s IH =>
  intro e O m W n X;cases O with
  |mk l e j h H =>
   obtain ⟨f,rfl⟩:∃ f,n=f + 1:=⟨n-1,by omega⟩;have Y:l.length<=(l.map (·.1)).sum:=Qu (l:=l) (fun p t=>(h p t).pos);obtain ⟨I,E,f3,Z⟩:=zmb j;simp only [H8,H4,aA,A3,Af];by_cases S:e.fArgs.length=0
   ·have:((e.fArgs.length:Nat):Int)=0:=by omega
    simp only [this,if_true];obtain ⟨r,q,o⟩:=zxp f (by omega) e j S a b m R own ev;rw [q,o,A1];exact ⟨_,rfl,rfl⟩
   ·have:¬((e.fArgs.length:Nat):Int)=0:=by omega
    simp only [this,if_false];have Q:e.fArgs.length=l.length:=by rw [H,aA]
    have d:5<=e.fOp/\e.fOp<=12/\(e.fOp=12->l.length=1)/\(e.fOp≠12->l.length=2):=by
     unfold arP at I E;by_cases G:e.fOp<0
     ·rw [if_pos G] at I;omega
     by_cases K:12<e.fOp
     ·omega
     rw [if_neg G,if_neg K] at E;by_cases J:e.fOp<5
     ·rw [if_pos J] at E;omega
     ·omega
    refine zgt f l e H (by omega) a b own ev (fun p t=>by
     have:=Je t;exact IH p.1 (by omega) p.2 (h p t) (fun i hi=>m i (.sub e p.2 (by grind) hi)) (by omega) f (by omega)) _ _ (fun vs N=>?_) f 0 [] (by omega) (by omega) rfl
    obtain ⟨r,q,o,U⟩:=z7l f e.fOp ⟨d.1,d.2.1⟩ (vs.map (·.fKind)) (by rw [aA];omega) f 0 (by omega) (by rw [aA];omega);simp only [aB] at q o;unfold Ve Wb;rw [q,o,A1,A1];by_cases P:r=0
    ·simp only [P,if_true];by_cases g:e.fOp=12
     ·have D:vs.length=1:=by have:=d.2.2.1 g;omega
      match vs,D with
      |[x],_ =>
       obtain ⟨v,w,u⟩:=zsb f x;rw [g,w,A1];have A:∀ k:Nat->Option (Va×Int),nat 0 1 k=k 0:=fun k=>zdj (by omega) k
       have F:∀ k:Va->Option (Va×Int),elt [x] 0 k=k x:=fun k=>Cv (by simp) k
       have B:∀ z:Option (Va×Int),ltx 0 1 z=z:=fun z=>V1 (by omega) z
       simp only [Uv,aK,length_nil,Nat.zero_add,w11,A,F,B,u,A1];exact ⟨_,rfl,rfl⟩
     ·have C:vs.length=2:=by have:=d.2.2.2 g;omega
      match vs,C with
      |[x,y],_ =>
       obtain ⟨v,w,u⟩:=zsa f e.fOp ⟨d.1,by omega⟩ x y;rw [w,A1];refine ⟨(v,0),rfl,?_⟩;rw [<-u];have A:∀ k:Nat->Option (Va×Int),nat 0 2 k=k 0:=fun k=>zdj (by omega) k
       have L:∀ k:Nat->Option (Va×Int),nat 1 2 k=k 1:=fun k=>zmc (by omega) k
       have F:∀ k:Va->Option (Va×Int),elt [x,y] 0 k=k x:=fun k=>Cv (by simp) k
       have T:∀ k:Va->Option (Va×Int),elt [x,y] 1 k=k y:=fun k=>Cv (by simp) k
       have B:∀ z:Option (Va×Int),ltx 0 2 z=z:=fun z=>V1 (by omega) z
       have M:∀ z:Option (Va×Int),ltx 1 2 z=z:=fun z=>V1 (by omega) z
       simp only [Uv,A3,aA,aK,length_nil,Nat.zero_add,Nat.reduceAdd,w21,A,L,F,T,B,M]
    simp_all
theorem zv1 (a b:List (List Ev))(o:∀ v,(evs a v).length<=1000000)(own:Int)(ev:Ev)(s:Nat)(e:Exn)(f:∀ i:Nat,Occ i e->evs a (i:Int)=evs b (i:Int))(m:ETr s e)(g:s<=4000000)(n:Nat)(u:10000000<n) :
  ∃ r,G6 n e ⟨a⟩ own ev=some r/\J3 n e ⟨b⟩ own ev=some r:=by
 obtain ⟨c,t,q,p⟩:=zpm s e m g n (by omega);unfold G6 J3 Vz Wq;rw [t,q];simp only [A1,A3,Af,zpj,zjs,B1,Ar,Kj,M0];by_cases d:c=0
 ·simp only [d,if_true];obtain ⟨r,j,h⟩:=zxu a b o own ev s e (p d) f g n (by omega);rw [j,h];simp only [A1];split;all_goals simp_all
 ·simp only [d,if_false,A1];exact ⟨_,rfl,rfl⟩
def fidx (p:α->Bool)(l:List α):Int:=match l.findIdx? p with|some j=>(j:Int)|none=>-1
theorem Uq (p:α->Bool)(l:List α):decide (0<=fidx p l)=l.any p:=by
 unfold fidx;grind
def Fe (p:α->Bool)(k:Nat)(l:List α):Int:=match l.findIdx? p with|some j=>((k+j:Nat):Int)|none=>-1
theorem Me (p:α->Bool)(k:Nat)(x:α)(l:List α):Fe p k (x::l)=if p x=true then (k:Int) else Fe p (k+1) l:=by
 unfold Fe;grind
theorem Md (p:α->Bool)(l:List α):Fe p 0 l=fidx p l:=by
 unfold Fe fidx;simp_all
theorem zgq (n:Nat)(x:Int)(l:List Int)(a:l.length<=1000000000):∀ (m k:Nat),k<=l.length->l.length<m+k->Pu n x l (some (-1)) m (k:Int)=some (Fe (fun y=>decide (x=y)) k (l.drop k))
 |0,k,h1,b=>by omega
 |m+1,k,h1,b=>by
  unfold Pu;simp only [aA,A3];by_cases h:k<l.length
  ·rw [if_pos (by omega),Ab h,Aw l k h,Me,Ad k (by omega),zgq n x l a m (k+1) (by omega) (by omega)];grind
  ·rw [if_neg (by omega),aC (by omega)];rfl
theorem Wu (n:Nat)(x:Int)(l:List Int)(a:l.length<=1000000000)(b:l.length<n):Hc n l x=some (l.any fun y=>decide (x=y)):=by
 unfold Hc Wd;have:=zgq n x l a n 0 (by omega) (by omega);simp only [aB,aL,Md] at this;rw [this,A1,Uq]
theorem zbz (n:Nat)(a1c0:B2)(p:B2->Bool)(l:List B2)(b:l.length<=1000000000)(a:∀ x∈l,Pn n x a1c0=some (p x)):∀ (m k:Nat),k<=l.length->l.length<m+k->Pa n a1c0 l (some (-1)) m (k:Int)=some (Fe p k (l.drop k))
 |0,k,h1,d=>by omega
 |m+1,k,h1,d=>by
  unfold Pa;simp only [aA,A3];by_cases h:k<l.length
  ·rw [if_pos (by omega),Ab h,Aw l k h,Me,a _ (aF h),A1,Ad k (by omega),zbz n a1c0 p l b a m (k+1) (by omega) (by omega)];cases p l[k]<;>simp [Aq]
  ·rw [if_neg (by omega),aC (by omega)];rfl
theorem zvg (n:Nat)(a1c0:B2)(p:B2->Bool)(l:List B2)(a:l.length<=1000000000)(d:l.length<n)(b:∀ x∈l,Pn n x a1c0=some (p x)):T7 n l a1c0=some (fidx p l):=by
 unfold T7;have:=zbz n a1c0 p l a b n 0 (by omega) (by omega);simpa only [aB,aL,Md] using this
theorem zy0 (n:Nat)(a1c0:B2)(p:B2->Bool)(l:List B2)(b:l.length<=1000000000)(a:l.length<n)(d:∀ x∈l,Pn n x a1c0=some (p x)):Pb n l a1c0=some (l.any p):=by
 unfold Pb;rw [zvg n a1c0 p l b a d,A1,Uq]
theorem z74 (n:Nat)(p:Bm->Bool)(l:List Bm)(b:l.length<=1000000000)(a:∀ x∈l,Lq n x=some (p x)):∀ (m k:Nat),k<=l.length->l.length<m+k->Nn n l (some (-1)) m (k:Int)=some (Fe p k (l.drop k))
 |0,k,h1,d=>by omega
 |m+1,k,h1,d=>by
  unfold Nn;simp only [aA,A3];by_cases h:k<l.length
  ·rw [if_pos (by omega),Ab h,Aw l k h,Me,a _ (aF h),A1,Ad k (by omega),z74 n p l b a m (k+1) (by omega) (by omega)];cases p l[k]<;>simp [Aq]
  ·rw [if_neg (by omega),aC (by omega)];rfl
theorem zju (n:Nat)(p:Bm->Bool)(l:List Bm)(a:l.length<=1000000000)(d:l.length<n)(b:∀ x∈l,Lq n x=some (p x)):S2 n l=some (fidx p l):=by
 unfold S2;have:=z74 n p l a b n 0 (by omega) (by omega);simpa only [aB,aL,Md] using this
theorem znn (n:Nat)(p:Bm->Bool)(l:List Bm)(b:l.length<=1000000000)(a:l.length<n)(d:∀ x∈l,Lq n x=some (p x)):Nq n l=some (l.any p):=by
 unfold Nq;rw [zju n p l b a d,A1,Uq]
theorem z5t (n:Nat)(a1c0:Ai)(a1c1:A7)(p:B2->Bool)(l:List B2)(b:l.length<=1000000000)(a:∀ x∈l,Kc n x (⟨a1c0.fVars⟩:Ai) a1c1=some (p x)):∀ (m k:Nat),k<=l.length->l.length<m+k->Nh n a1c1 a1c0 l (some (-1)) m (k:Int)=some (Fe p k (l.drop k))
 |0,k,h1,d=>by omega
 |m+1,k,h1,d=>by
  unfold Nh;simp only [aA,A3];by_cases h:k<l.length
  ·rw [if_pos (by omega),Ab h,Aw l k h,Me,a _ (aF h),A1,Ad k (by omega),z5t n a1c0 a1c1 p l b a m (k+1) (by omega) (by omega)];cases p l[k]<;>simp [Aq]
  ·rw [if_neg (by omega),aC (by omega)];rfl
theorem zgp (n:Nat)(a1c0:Ai)(a1c1:A7)(p:B2->Bool)(l:List B2)(a:l.length<=1000000000)(d:l.length<n)(b:∀ x∈l,Kc n x (⟨a1c0.fVars⟩:Ai) a1c1=some (p x)):Rw n l a1c0 a1c1=some (fidx p l):=by
 unfold Rw;have:=z5t n a1c0 a1c1 p l a b n 0 (by omega) (by omega);simpa only [aB,aL,Md] using this
theorem zjw (n:Nat)(a1c0:Ai)(a1c1:A7)(p:B2->Bool)(l:List B2)(b:l.length<=1000000000)(a:l.length<n)(d:∀ x∈l,Kc n x (⟨a1c0.fVars⟩:Ai) a1c1=some (p x)):Rk n l a1c0 a1c1=some (l.any p):=by
 unfold Rk;rw [zgp n a1c0 a1c1 p l b a d,A1,Uq]
theorem z5s (n:Nat)(a1c0:Am)(a1c1:Ai)(a1c2:A7)(p:B2->Bool)(l:List B2)(b:l.length<=1000000000)(a:∀ x∈l,Ij n x a1c0 (⟨a1c1.fVars⟩:Ai) a1c2=some (p x)):∀ (m k:Nat),k<=l.length->l.length<m+k->Ng n a1c2 a1c1 a1c0 l (some (-1)) m (k:Int)=some (Fe p k (l.drop k))
 |0,k,h1,d=>by omega
 |m+1,k,h1,d=>by
  unfold Ng;simp only [aA,A3];by_cases h:k<l.length
  ·rw [if_pos (by omega),Ab h,Aw l k h,Me,a _ (aF h),A1,Ad k (by omega),z5s n a1c0 a1c1 a1c2 p l b a m (k+1) (by omega) (by omega)];cases p l[k]<;>simp [Aq]
  ·rw [if_neg (by omega),aC (by omega)];rfl
theorem zgo (n:Nat)(a1c0:Am)(a1c1:Ai)(a1c2:A7)(p:B2->Bool)(l:List B2)(a:l.length<=1000000000)(d:l.length<n)(b:∀ x∈l,Ij n x a1c0 (⟨a1c1.fVars⟩:Ai) a1c2=some (p x)):Rv n l a1c0 a1c1 a1c2=some (fidx p l):=by
 unfold Rv;have:=z5s n a1c0 a1c1 a1c2 p l a b n 0 (by omega) (by omega);simpa only [aB,aL,Md] using this
theorem zjv (n:Nat)(a1c0:Am)(a1c1:Ai)(a1c2:A7)(p:B2->Bool)(l:List B2)(b:l.length<=1000000000)(a:l.length<n)(d:∀ x∈l,Ij n x a1c0 (⟨a1c1.fVars⟩:Ai) a1c2=some (p x)):Rj n l a1c0 a1c1 a1c2=some (l.any p):=by
 unfold Rj;rw [zgo n a1c0 a1c1 a1c2 p l b a d,A1,Uq]
theorem z5r (n:Nat)(a1c0:Bm)(p:Ah->Bool)(l:List Ah)(b:l.length<=1000000000)(a:∀ x∈l,Tq n x a1c0=some (p x)):∀ (m k:Nat),k<=l.length->l.length<m+k->Nf n a1c0 l (some (-1)) m (k:Int)=some (Fe p k (l.drop k))
 |0,k,h1,d=>by omega
 |m+1,k,h1,d=>by
  unfold Nf;simp only [aA,A3];by_cases h:k<l.length
  ·rw [if_pos (by omega),Ab h,Aw l k h,Me,a _ (aF h),A1,Ad k (by omega),z5r n a1c0 p l b a m (k+1) (by omega) (by omega)];cases p l[k]<;>simp [Aq]
  ·rw [if_neg (by omega),aC (by omega)];rfl
theorem zgn (n:Nat)(a1c0:Bm)(p:Ah->Bool)(l:List Ah)(a:l.length<=1000000000)(d:l.length<n)(b:∀ x∈l,Tq n x a1c0=some (p x)):Ru n l a1c0=some (fidx p l):=by
 unfold Ru;have:=z5r n a1c0 p l a b n 0 (by omega) (by omega);simpa only [aB,aL,Md] using this
theorem z5q (n:Nat)(a1c0:Am)(p:Ah->Bool)(l:List Ah)(b:l.length<=1000000000)(a:∀ x∈l,Kw n x a1c0=some (p x)):∀ (m k:Nat),k<=l.length->l.length<m+k->Nd n a1c0 l (some (-1)) m (k:Int)=some (Fe p k (l.drop k))
 |0,k,h1,d=>by omega
 |m+1,k,h1,d=>by
  unfold Nd;simp only [aA,A3];by_cases h:k<l.length
  ·rw [if_pos (by omega),Ab h,Aw l k h,Me,a _ (aF h),A1,Ad k (by omega),z5q n a1c0 p l b a m (k+1) (by omega) (by omega)];cases p l[k]<;>simp [Aq]
  ·rw [if_neg (by omega),aC (by omega)];rfl
theorem zgm (n:Nat)(a1c0:Am)(p:Ah->Bool)(l:List Ah)(a:l.length<=1000000000)(d:l.length<n)(b:∀ x∈l,Kw n x a1c0=some (p x)):Rt n l a1c0=some (fidx p l):=by
 unfold Rt;have:=z5q n a1c0 p l a b n 0 (by omega) (by omega);simpa only [aB,aL,Md] using this
end Go.Proofs.YtkoamfnbbhfaiaaGreatDoor
