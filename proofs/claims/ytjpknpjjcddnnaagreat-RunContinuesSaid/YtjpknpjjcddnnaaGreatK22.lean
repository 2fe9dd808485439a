/- Lists without repetitions, ascending by an order: sorting and leaving out neighbours that are equal, and putting in one by one. Layers 1, 7, 8, plainly: values, nodes of expressions, aggregates: the program's and the reference's agree. Layer 8, plainly: checking expressions: the program's and the reference's agree. Layer 7, plainly: aggregates: the program's and the reference's agree. Layer 8, plainly: the values of expressions: the program's and the reference's agree. -/
import Derived.Test.YtjpknpjjcddnnaaGreatK20
import Derived.Test.YtjpknpjjcddnnaaGreatK21
set_option linter.unusedVariables false
set_option linter.unusedSimpArgs false
namespace Go.Proofs.YtjpknpjjcddnnaaGreat
open Go.RowKit
section
variable {α:Type} {c:α->α->Int}
theorem TO.asym (h:TO c){a b:α}(k:c a b<0):¬c b a<0:=by have:=h.neg a b;omega
theorem TO.lt_ne (h:TO c){a b:α}(k:c a b<0):a≠b:=fun e=>by subst e;exact h.irr _ k
def Str (c:α->α->Int)(l:List α):Prop:=l.Pairwise (fun x y=>c x y<0)
theorem Str.uniq (h:TO c):∀ {l m:List α},Str c l->Str c m->(∀ x,x∈l ↔ x∈m)->l=m
 |[],[],_,_,_=>rfl
 |[],y::m,_,_,hm=>by have:=(hm y).2 (by simp);simp at this
 |x::l,[],_,_,hm=>by have:=(hm x).1 (by simp);simp at this
 |x::l,y::m,h1,h2,hm=>by
  obtain ⟨a1,a2⟩:=List.pairwise_cons.1 h1
  obtain ⟨b1,b2⟩:=List.pairwise_cons.1 h2
  have hxy:x=y:=by
   rcases List.mem_cons.1 ((hm x).1 (by simp)) with e|e
   ·exact e
   ·rcases List.mem_cons.1 ((hm y).2 (by simp)) with e'|e'
    ·exact e'.symm
    ·exact absurd (a1 y e') (h.asym (b1 x e))
  subst hxy
  congr 1
  refine Str.uniq h a2 b2 (fun z=>⟨fun hz=>?_,fun hz=>?_⟩)
  ·rcases List.mem_cons.1 ((hm z).1 (List.mem_cons_of_mem _ hz)) with e|e
   ·exact absurd e.symm (h.lt_ne (a1 z hz))
   ·exact e
  ·rcases List.mem_cons.1 ((hm z).2 (List.mem_cons_of_mem _ hz)) with e|e
   ·exact absurd e.symm (h.lt_ne (b1 z hz))
   ·exact e
def insU (c:α->α->Int)(x:α):List α->List α
 |[]=>[x]
 |y::l=>if c y x<0 then y::insU c x l else if c y x=0 then y::l else x::y::l
theorem y19 (h:TO c)(x z:α):∀ l:List α,z∈insU c x l ↔ z=x\/z∈l
 |[]=>by simp [insU]
 |y::l=>by
  unfold insU
  split
  ·simp only [List.mem_cons,y19 h x z l]
   constructor
   ·rintro (h|h|h)<;>simp [h]
   ·rintro (h|h|h)<;>simp [h]
  ·split
   ·rename_i e
    have:=(h.zero _ _).1 e
    subst this
    simp only [List.mem_cons]
    constructor
    ·intro k;exact Or.inr k
    ·rintro (k|k)
     ·exact Or.inl k
     ·exact k
   ·simp only [List.mem_cons]
theorem insU_str (h:TO c)(x:α):∀ l:List α,Str c l->Str c (insU c x l)
 |[],_=>by simp [insU,Str]
 |y::l,hl=>by
  obtain ⟨h1,h2⟩:=List.pairwise_cons.1 hl
  unfold insU
  split
  ·rename_i k
   refine List.pairwise_cons.2 ⟨fun z hz=>?_,insU_str h x l h2⟩
   rcases (y19 h x z l).1 hz with e|e
   ·rw [e];exact k
   ·exact h1 z e
  ·split
   ·exact hl
   ·rename_i k1 k2
    have k3:c x y<0:=by have:=h.neg y x;have:=h.one y x;omega
    refine List.pairwise_cons.2 ⟨fun z hz=>?_,hl⟩
    rcases List.mem_cons.1 hz with e|e
    ·rw [e];exact k3
    ·exact h.trans _ _ _ k3 (h1 z e)
theorem zmy (c:α->α->Int)(x:α):∀ l:List α,(insU c x l).length<=l.length+1
 |[]=>by simp [insU]
 |y::l=>by
  unfold insU
  have:=zmy c x l
  split
  ·simp only [List.length_cons];omega
  ·split<;>simp only [List.length_cons]<;>omega
theorem insU_len2 (c:α->α->Int)(x:α):∀ l:List α,l.length<=(insU c x l).length
 |[]=>by simp [insU]
 |y::l=>by
  unfold insU
  have:=insU_len2 c x l
  split
  ·simp only [List.length_cons];omega
  ·split<;>simp only [List.length_cons]<;>omega
def puts (c:α->α->Int)(s:List α)(l:List α):List α:=l.foldl (fun s x=>insU c x s) s
def setL (c:α->α->Int)(l:List α):List α:=puts c [] l
theorem zfi (s:List α)(x:α)(l:List α):puts c s (x::l)=puts c (insU c x s) l:=rfl
theorem zkd (s l m:List α):puts c s (l++m)=puts c (puts c s l) m:=by simp [puts,List.foldl_append]
theorem zsl (h:TO c)(z:α):∀ (l s:List α),z∈puts c s l ↔ z∈s\/z∈l
 |[],s=>by simp [puts]
 |x::l,s=>by
  rw [zfi,zsl h z l,y19 h]
  simp only [List.mem_cons]
  constructor
  ·rintro ((k|k)|k)<;>simp [k]
  ·rintro (k|k|k)<;>simp [k]
theorem zys (h:TO c):∀ (l s:List α),Str c s->Str c (puts c s l)
 |[],_,hs=>hs
 |x::l,s,hs=>by rw [zfi];exact zys h l _ (insU_str h x s hs)
theorem puts_len:∀ (l s:List α),(puts c s l).length<=s.length+l.length
 |[],s=>by simp [puts]
 |x::l,s=>by
  rw [zfi]
  have:=puts_len l (insU c x s)
  have:=zmy c x s
  simp only [List.length_cons];omega
theorem puts_len2:∀ (l s:List α),s.length<=(puts c s l).length
 |[],s=>by simp [puts]
 |x::l,s=>by
  rw [zfi]
  have:=puts_len2 l (insU c x s)
  have:=insU_len2 c x s
  omega
theorem zfv (h:TO c)(z:α)(l:List α):z∈setL c l ↔ z∈l:=by unfold setL;rw [zsl h];simp
theorem zga (h:TO c)(l:List α):Str c (setL c l):=zys h l [] (by simp [Str])
theorem setL_len (l:List α):(setL c l).length<=l.length:=by have:=puts_len (c:=c) l [];simpa [setL] using this
theorem setL_eq (h:TO c){l m:List α}(hm:∀ x,x∈l ↔ x∈m):setL c l=setL c m:=Str.uniq h (zga h l) (zga h m) (fun x=>by rw [zfv h,zfv h,hm])
theorem setL_of_str (h:TO c){l:List α}(hl:Str c l):setL c l=l:=Str.uniq h (zga h l) hl (fun x=>zfv h x l)
theorem puts_set (h:TO c){s:List α}(hs:Str c s)(l:List α):puts c s l=setL c (s++l):=Str.uniq h (zys h l s hs) (zga h _) (fun x=>by rw [zsl h,zfv h,List.mem_append])
theorem setL_putsS (h:TO c)(l m:List α):puts c (setL c l) m=setL c (l++m):=by
 rw [puts_set h (zga h l)]
 exact setL_eq h (fun x=>by simp only [List.mem_append,zfv h])
variable [DecidableEq α]
def ddA (p:α):List α->List α
 |[]=>[]
 |y::l=>if y=p then ddA p l else y::ddA y l
def dd:List α->List α
 |[]=>[]
 |x::l=>x::ddA x l
theorem ddA_snoc (p z:α):∀ l:List α,ddA p (l++[z])=ddA p l++(if z=(p::l).getLast (by simp) then [] else [z])
 |[]=>by by_cases h:z=p<;>simp [ddA,h]
 |y::l=>by
  have e:(p::y::l).getLast (by simp)=(y::l).getLast (by simp):=by rw [List.getLast_cons (by simp)]
  simp only [List.cons_append,ddA]
  rw [e]
  by_cases h:y=p
  ·subst h
   rw [if_pos rfl,if_pos rfl,ddA_snoc y z l]
  ·rw [if_neg h,if_neg h,ddA_snoc y z l]
   rfl
theorem zwz (l:List α)(z:α)(h:l≠[]):dd (l++[z])=dd l++(if z=l.getLast h then [] else [z]):=by
 cases l with
 |nil=>exact absurd rfl h
 |cons x l =>
  show x::ddA x (l++[z])=_
  rw [ddA_snoc]
  rfl
theorem ddA_mem (x:α):∀ (l:List α) (p:α),x∈ddA p l\/x=p ↔ x∈l\/x=p
 |[],p=>by simp [ddA]
 |y::l,p=>by
  unfold ddA
  split
  ·rename_i h
   subst h
   rw [ddA_mem x l y]
   simp only [List.mem_cons]
   constructor
   ·rintro (k|k)<;>simp [k]
   ·rintro ((k|k)|k)<;>simp [k]
  ·have:=ddA_mem x l y
   simp only [List.mem_cons]
   constructor
   ·rintro ((k|k)|k)
    ·exact Or.inl (Or.inl k)
    ·rcases this.1 (Or.inl k) with q|q
     ·exact Or.inl (Or.inr q)
     ·exact Or.inl (Or.inl q)
    ·exact Or.inr k
   ·rintro ((k|k)|k)
    ·exact Or.inl (Or.inl k)
    ·rcases this.2 (Or.inl k) with q|q
     ·exact Or.inl (Or.inr q)
     ·exact Or.inl (Or.inl q)
    ·exact Or.inr k
theorem dd_mem (x:α)(l:List α):x∈dd l ↔ x∈l:=by
 cases l with
 |nil=>simp [dd]
 |cons y l =>
  simp only [dd,List.mem_cons]
  have:=ddA_mem x l y
  constructor
  ·rintro (k|k)
   ·exact Or.inl k
   ·rcases this.1 (Or.inl k) with q|q
    ·exact Or.inr q
    ·exact Or.inl q
  ·rintro (k|k)
   ·exact Or.inl k
   ·rcases this.2 (Or.inl k) with q|q
    ·exact Or.inr q
    ·exact Or.inl q
theorem ddA_str (h:TO c):∀ (l:List α) (p:α),(p::l).Pairwise (fun x y=>ltOf c y x=false)->Str c (p::ddA p l)
 |[],p,_=>by simp [ddA,Str]
 |y::l,p,hl=>by
  obtain ⟨h1,h2⟩:=List.pairwise_cons.1 hl
  have hle:∀ z,z∈y::l->¬c z p<0:=fun z hz=>of_decide_eq_false (h1 z hz)
  unfold ddA
  split
  ·rename_i e
   refine ddA_str h l p (List.pairwise_cons.2 ⟨fun z hz=>h1 z (List.mem_cons_of_mem _ hz),(List.pairwise_cons.1 h2).2⟩)
  ·rename_i e
   have ih:=ddA_str h l y h2
   have hpy:c p y<0:=by
    rcases h.tri p y with k|k|k
    ·exact k
    ·exact absurd k.symm e
    ·exact absurd k (hle y (by simp))
   refine List.pairwise_cons.2 ⟨fun z hz=>?_,ih⟩
   rcases List.mem_cons.1 hz with k|k
   ·rw [k];exact hpy
   ·exact h.trans _ _ _ hpy ((List.pairwise_cons.1 ih).1 z k)
theorem dd_sort (h:TO c)(l:List α):dd (sortF c l)=setL c l:=by
 have hs:=zwk h.swo l
 refine Str.uniq h ?_ (zga h l) (fun x=>by rw [dd_mem,zfv h];exact (zhp c l).mem_iff)
 cases hq:sortF c l with
 |nil=>simp [dd,Str]
 |cons x q=>rw [hq] at hs;exact ddA_str h q x hs
end
end Go.Proofs.YtjpknpjjcddnnaaGreat
namespace Go.Proofs.YtjpknpjjcddnnaaGreat
open Go.RowKit
abbrev Va:=z03
abbrev Ev:=z01
abbrev Exn:=z0k
abbrev be:ByteArray:=ByteArray.empty
abbrev va0:Va:=⟨0,0,ByteArray.empty⟩
def vcP (v:Va):Int :=
 if v.fKind<0 then 1 else if 2<v.fKind then 1 else if v.fKind=2 then (if v.fNum=0 then (if 64<v.fText.size then 13 else 0) else 3) else
 if v.fText=be then (if v.fKind=1 then (if v.fNum<0 then 2 else if 1<v.fNum then 2 else 0) else if v.fNum < -1099511627776 then 2 else if 1099511627776<v.fNum then 2 else 0) else 3
theorem p_rvc (n:Nat)(v:Va):z35 n v=some (vcP v):=by
 unfold z35 vcP
 simp only [z0o,z0w,zqh]
 repeat' split
 all_goals first|rfl|(exfalso;omega)|(simp_all;done)
theorem bnd_ite {α β:Type}(p:Prop)[Decidable p](x y:Option α)(k:α->Option β):bnd (if p then x else y) k=if p then bnd x k else bnd y k:=by split<;>rfl
theorem p_vc (n:Nat)(v:Va):zah n v=some (vcP v):=by
 obtain ⟨k,x,t⟩:=v
 unfold zah zeu vcP
 simp only [z0o,z0w,zqh]
 by_cases k0:k=0
 ·subst k0
  by_cases ht:t=be
  ·subst ht
   have hs:be.size=0:=rfl
   simp [hs,z09,bnd_ite]
   repeat' split
   all_goals first|rfl|(exfalso;omega)
  ·simp [ht]
 ·by_cases k1:k=1
  ·subst k1
   by_cases ht:t=be
   ·subst ht
    have hs:be.size=0:=rfl
    simp [hs,z09,bnd_ite]
    repeat' split
    all_goals first|rfl|(exfalso;omega)
   ·simp [ht]
  ·by_cases k2:k=2
   ·subst k2
    simp [z09,bnd_ite]
    repeat' split
    all_goals first|rfl|(exfalso;omega)
   ·simp only [k0,k1,k2,if_false]
    repeat' split
    all_goals first|rfl|(exfalso;omega)
theorem va_dec (x y:Va):(decide (x.fKind=y.fKind) && (decide (x.fNum=y.fNum) && ((x.fText.toList == y.fText.toList) && true)))=decide (x=y):=by
 cases x;cases y
 simp [zqh]
theorem va_dec0 (x:Va):(decide (x.fKind=0) && (decide (x.fNum=0) && ((x.fText.toList == ByteArray.empty.toList) && true)))=decide (x=va0):=va_dec x va0
def arP (op:Int):Int:=if op<0 then -1 else if 12<op then -1 else if op<5 then 0 else if op=12 then 1 else 2
theorem p_rarity (n:Nat)(op:Int):z9q n op=some (arP op):=by
 unfold z9q arP
 simp only [z2s,z1r,z1o,z1c,z0o,z3x,decide_eq_true_eq]
 by_cases h1:op<0
 ·simp [h1,show op≠0 by omega,show op≠1 by omega,show op≠2 by omega,show op≠3 by omega,show op≠4 by omega,show op≠5 by omega,show op≠6 by omega,show op≠7 by omega,show op≠8 by omega,show op≠9 by omega,show op≠10 by omega,show op≠11 by omega,show op≠12 by omega]
 ·by_cases h2:12<op
  ·simp [h1,h2,show op≠0 by omega,show op≠1 by omega,show op≠2 by omega,show op≠3 by omega,show op≠4 by omega,show op≠5 by omega,show op≠6 by omega,show op≠7 by omega,show op≠8 by omega,show op≠9 by omega,show op≠10 by omega,show op≠11 by omega,show op≠12 by omega]
  ·have:op=0\/op=1\/op=2\/op=3\/op=4\/op=5\/op=6\/op=7\/op=8\/op=9\/op=10\/op=11\/op=12:=by omega
   rcases this with rfl|rfl|rfl|rfl|rfl|rfl|rfl|rfl|rfl|rfl|rfl|rfl|rfl<;>rfl
theorem p_arity (n:Nat)(op:Int):zj5 n op=some (if op<0 then (0,false) else if 12<op then (0,false) else (arP op,true)):=by
 unfold zj5 arP
 simp only [z2s,z1r,zbi,z0o,z3x,decide_eq_true_eq,if_true]
 by_cases h1:op<0
 ·simp [h1]
 ·by_cases h2:12<op
  ·simp [h1,h2]
  ·simp only [h1,h2,if_false]
   repeat' split
   all_goals rfl
def usV (op:Int):Bool:=decide (op=1) || decide (op=2) || decide (op=3) || decide (op=4)
def usF (op:Int):Bool:=decide (op=1) || decide (op=4)
theorem p_ruses (n:Nat)(op:Int):za7 n op=some (usV op,usF op):=by
 unfold za7
 simp only [z2s,z1r,z4t,z30,z0o,z3x,decide_eq_true_eq,if_true]
 by_cases h1:op=1
 ·subst h1;rfl
 ·by_cases h2:op=2
  ·subst h2;rfl
  ·by_cases h3:op=3
   ·subst h3;rfl
   ·by_cases h4:op=4
    ·subst h4;rfl
    ·simp [usV,usF,h1,h2,h3,h4]
theorem p_uses (n:Nat)(op:Int):zlq n op=some (usV op,usF op):=by
 unfold zlq
 simp only [z2s,z1r,zcn,zcm,z0o,z3x,decide_eq_true_eq,if_true]
 by_cases h1:op=1
 ·subst h1;rfl
 ·by_cases h2:op=2
  ·subst h2;rfl
  ·by_cases h3:op=3
   ·subst h3;rfl
   ·by_cases h4:op=4
    ·subst h4;rfl
    ·simp [usV,usF,h1,h2,h3,h4]
def suP (k:Int)(v:Va):Bool:=decide (v.fKind=0) || decide (k=4) || decide (k=5)
theorem p_suits (n:Nat)(k:Int)(v:Va):zj4 n k v=some (suP k v):=by
 unfold zj4
 simp only [z2s,z1r,z9t,z0o]
 by_cases h1:v.fKind=0
 ·simp [suP,h1]
 ·by_cases h2:k=4
  ·simp [suP,h1,h2]
  ·simp [suP,h1,h2]
theorem p_rsuits (n:Nat)(k:Int)(v:Va):z6n n k v=some (decide (k=0) || suP k v):=by
 unfold z6n
 simp only [z2s,z1r,z1x,z0o]
 by_cases h1:v.fKind=0
 ·simp [suP,h1]
 ·by_cases h2:k=4
  ·by_cases h3:k=0
   ·simp [suP,h1,h2,h3]
   ·simp [suP,h1,h2]
  ·by_cases h3:k=0
   ·simp [suP,h1,h2,h3]
   ·simp [suP,h1,h2,h3]
def ndP (e:Exn):Int :=
 if arP e.fOp<0 then 1 else if (e.fArgs.length:Int)≠arP e.fOp then 15 else
 if (usV e.fOp && (decide (e.fVar<0) || decide (16<=e.fVar))) || (usF e.fOp && (decide (e.fField<0) || decide (8<=e.fField))) then 2 else
 if decide (e.fOp=4) && (decide (e.fKind<1) || decide (5<e.fKind)) then 1 else
 if (decide (e.fOp=4) || decide (e.fOp=0)) && !decide (vcP e.fValue=0) then vcP e.fValue else
 if decide (e.fOp=4) && (!(suP e.fKind e.fValue) || (decide (e.fKind=1) && !decide (e.fValue=va0))) then 9 else
 if (!(usV e.fOp) && !decide (e.fVar=0)) || (!(usF e.fOp) && !decide (e.fField=0)) || (!decide (e.fOp=4) && !decide (e.fKind=0)) || (!(decide (e.fOp=4) || decide (e.fOp=0)) && !decide (e.fValue=va0)) then 3 else 0
theorem ar_cases (op:Int)(h:¬arP op<0):op=0\/op=1\/op=2\/op=3\/op=4\/(usV op=false/\usF op=false/\op≠0/\op≠4):=by
 unfold arP at h
 by_cases h0:op=0
 ·exact Or.inl h0
 by_cases h1:op=1
 ·exact Or.inr (Or.inl h1)
 by_cases h2:op=2
 ·exact Or.inr (Or.inr (Or.inl h2))
 by_cases h3:op=3
 ·exact Or.inr (Or.inr (Or.inr (Or.inl h3)))
 by_cases h4:op=4
 ·exact Or.inr (Or.inr (Or.inr (Or.inr (Or.inl h4))))
 exact Or.inr (Or.inr (Or.inr (Or.inr (Or.inr ⟨by simp [usV,h1,h2,h3,h4],by simp [usF,h1,h4],h0,h4⟩))))
theorem us0:usV 0=false/\usF 0=false:=by decide
theorem us1:usV 1=true/\usF 1=true:=by decide
theorem us2:usV 2=true/\usF 2=false:=by decide
theorem us3:usV 3=true/\usF 3=false:=by decide
theorem us4:usV 4=true/\usF 4=true:=by decide
theorem p_rnode (n:Nat)(e:Exn):za9 n e=some (ndP e):=by
 unfold za9
 rw [p_rarity,z09,p_ruses]
 simp only [z09,List.length_map,z0o,z0w,p_rvc,p_rsuits,z2s,z1r,z18,z31,z4v,z4u,z2a,z0n,va_dec0]
 unfold ndP
 by_cases ha:arP e.fOp<0
 ·rw [if_pos ha,if_pos ha]
 rw [if_neg ha,if_neg ha]
 by_cases hl:(e.fArgs.length:Int)=arP e.fOp
 rotate_left
 ·rw [if_neg hl,if_pos hl]
 rw [if_pos hl,if_neg (show ¬((e.fArgs.length:Int)≠arP e.fOp) from fun h=>h hl)]
 have hc:=ar_cases e.fOp ha
 obtain ⟨op,args,var,field,kind,val⟩:=e
 simp only at *
 clear hl ha
 rcases hc with rfl|rfl|rfl|rfl|rfl|⟨h1,h2,h3,h4⟩
 ·simp [us0,z3x]
  repeat' split
  all_goals first|(simp_all;done)|omega|(simp_all;omega)
 ·simp [us1,z3x]
  repeat' split
  all_goals first|(simp_all;done)|omega|(simp_all;omega)
 ·simp [us2,z3x]
  repeat' split
  all_goals first|(simp_all;done)|omega|(simp_all;omega)
 ·simp [us3,z3x]
  repeat' split
  all_goals first|(simp_all;done)|omega|(simp_all;omega)
 ·simp [us4,z3x]
  repeat' split
  all_goals first|(simp_all;done)|omega|(simp_all;omega)
 ·simp [h1,h2,h3,h4,z3x]
  repeat' split
  all_goals first|(simp_all;done)|omega|(simp_all;omega)
end Go.Proofs.YtjpknpjjcddnnaaGreat
namespace Go.Proofs.YtjpknpjjcddnnaaGreat
open Go.RowKit
theorem p_constants (n:Nat)(e:Exn):zdu n e=some (if vcP e.fValue=0 then (if decide (e.fOp=4) && (!(suP e.fKind e.fValue) || (decide (e.fKind=1) && !decide (e.fValue=va0))) then 9 else 0) else vcP e.fValue):=by
 unfold zdu
 rw [p_vc,z09]
 simp only [z0o,z0w,p_suits,z09,z2s,z1r,z54,va_dec0]
 obtain ⟨op,args,var,field,kind,val⟩:=e
 simp only
 by_cases h:op=4
 ·subst h
  simp [z3x]
  repeat' split
  all_goals first|(simp_all;done)|omega|(simp_all;omega)
 ·simp [h,z3x]
  split<;>rfl
theorem p_node (n:Nat)(e:Exn):zlr n e=some (ndP e):=by
 unfold zlr
 rw [p_arity,z09,p_uses]
 simp only [z09,List.length_map,z0o,z0w,p_constants,z2s,z1r,z5h,zaj,zcp,zco,z0y,va_dec0]
 unfold ndP
 by_cases ha:arP e.fOp<0
 ·rw [if_pos ha]
  have:e.fOp<0\/12<e.fOp:=by
   unfold arP at ha
   by_cases h1:e.fOp<0
   ·exact Or.inl h1
   ·by_cases h2:12<e.fOp
    ·exact Or.inr h2
    ·rw [if_neg h1,if_neg h2] at ha
     split at ha
     ·omega
     ·split at ha<;>omega
  rcases this with h|h
  ·rw [if_pos h,z8k]
  ·by_cases h':e.fOp<0
   ·rw [if_pos h',z8k]
   ·rw [if_neg h',if_pos h,z8k]
 have hb:¬e.fOp<0/\¬12<e.fOp:=by
  unfold arP at ha
  refine ⟨fun h=>ha (by rw [if_pos h];decide),fun h=>ha ?_⟩
  by_cases h1:e.fOp<0
  ·rw [if_pos h1];decide
  ·rw [if_neg h1,if_pos h];decide
 rw [if_neg hb.1,if_neg hb.2,if_neg ha,z80]
 by_cases hl:(e.fArgs.length:Int)=arP e.fOp
 rotate_left
 ·rw [if_neg hl,if_pos hl]
 rw [if_pos hl,if_neg (show ¬((e.fArgs.length:Int)≠arP e.fOp) from fun h=>h hl)]
 have hc:=ar_cases e.fOp ha
 obtain ⟨op,args,var,field,kind,val⟩:=e
 simp only at *
 clear hl ha hb
 rcases hc with rfl|rfl|rfl|rfl|rfl|⟨h1,h2,h3,h4⟩
 ·simp [us0,z3x]
  repeat' split
  all_goals first|(simp_all;done)|omega|(simp_all;omega)
 ·simp [us1,z3x]
  repeat' split
  all_goals first|(simp_all;done)|omega|(simp_all;omega)
 ·simp [us2,z3x]
  repeat' split
  all_goals first|(simp_all;done)|omega|(simp_all;omega)
 ·simp [us3,z3x]
  repeat' split
  all_goals first|(simp_all;done)|omega|(simp_all;omega)
 ·simp [us4,z3x]
  repeat' split
  all_goals first|(simp_all;done)|omega|(simp_all;omega)
 ·simp [h1,h2,h3,h4,z3x]
  repeat' split
  all_goals first|(simp_all;done)|omega|(simp_all;omega)
inductive ETr:Nat->Exn->Prop
 |mk (l:List (Nat×Exn)) (e:Exn) (h:∀ p∈l,ETr p.1 p.2) (ha:e.fArgs=l.map (fun p=>z1u p.2)):ETr (1+(l.map (·.1)).sum) e
inductive ETrO:Nat->Exn->Prop
 |mk (l:List (Nat×Exn)) (e:Exn) (hn:ndP e=0) (h:∀ p∈l,ETrO p.1 p.2) (ha:e.fArgs=l.map (fun p=>z1u p.2)):ETrO (1+(l.map (·.1)).sum) e
theorem ETr.pos {s:Nat}{e:Exn}(h:ETr s e):1<=s:=by cases h;omega
theorem sum_mem {l:List (Nat×Exn)}{p:Nat×Exn}(h:p∈l):p.1<=(l.map (·.1)).sum:=by
 induction l with
 |nil=>cases h
 |cons x l ih =>
  simp only [List.map_cons,List.sum_cons]
  rcases List.mem_cons.1 h with h|h
  ·subst h;omega
  ·have:=ih h;omega
theorem sum_len {l:List (Nat×Exn)}(h:∀ p∈l,1<=p.1):l.length<=(l.map (·.1)).sum:=by
 induction l with
 |nil=>simp
 |cons x l ih =>
  simp only [List.map_cons,List.sum_cons,List.length_cons]
  have:=h x (by simp)
  have:=ih (fun p hp=>h p (List.mem_cons_of_mem _ hp))
  omega
def preS (l:List (Nat×Exn))(k:Nat):Nat:=((l.take k).map (·.1)).sum
theorem preS_succ {l:List (Nat×Exn)}{k:Nat}(h:k<l.length):preS l (k+1)=preS l k+l[k].1:=by
 unfold preS
 rw [List.take_succ_eq_append_getElem h,List.map_append,List.sum_append]
 simp only [List.map_cons,List.map_nil,List.sum_cons,List.sum_nil,Nat.add_zero]
theorem preS_all {l:List (Nat×Exn)}{k:Nat}(h:l.length<=k):preS l k=(l.map (·.1)).sum:=by unfold preS;rw [List.take_of_length_le h]
theorem preS_le (l:List (Nat×Exn))(k:Nat):preS l k<=(l.map (·.1)).sum:=by
 unfold preS
 conv=>rhs;rw [<-List.take_append_drop k l]
 rw [List.map_append,List.sum_append]
 omega
theorem zwu {β:Type}{l:List (Nat×Exn)}{k:Nat}(h:k<l.length)(K:Exn->Option β):idxD z3a (l.map fun p=>z1u p.2) (k:Int) K=K l[k].2:=by
 unfold idxD
 rw [if_pos (by omega)]
 simp only [Int.toNat_natCast,List.getElem?_map,List.getElem?_eq_getElem h,Option.map_some,zki]
theorem p_count_l1 (most:Int)(hm:0<=most)(hm2:most<=1000000)(n:Nat)(l:List (Nat×Exn))(e:Exn)(ha:e.fArgs=l.map (fun p=>z1u p.2))(hs:(l.map (·.1)).sum<=4000000)(hl:l.length<=4000000)
  (ih:∀ p∈l,∃ c:Int,z33 n p.2 most=some c/\1<=c/\c<=p.1/\(c<=most->c=p.1)) :
  ∀ (m k:Nat) (v:Int),k<=l.length->l.length<m+k->1<=v->v<=1+preS l k->(v<=most->v=1+preS l k) ->
   ∃ c:Int,z2p n (z33 n) most e (fun y=>some y) m (v,(k:Int))=some c/\1<=c/\c<=1+(l.map (·.1)).sum/\(c<=most->c=1+(l.map (·.1)).sum)
 |0,k,v,h1,h2,_,_,_=>by omega
 |m+1,k,v,h1,h2,h3,h4,h5=>by
  unfold z2p
  simp only [z2s,z1r,z44,ha,List.length_map,z0o,z8k]
  have hle:=preS_le l k
  by_cases h:k<l.length
  ·rw [if_pos (by omega)]
   by_cases hv:v<=most
   ·rw [if_pos hv,zwu h]
    obtain ⟨c,c1,c2,c3,c4⟩:=ih l[k] (List.getElem_mem h)
    rw [c1,z09,z2n k (by omega),zdf _ (by have:=sum_mem (List.getElem_mem h);omega)]
    have hp:=preS_succ h
    have hv5:=h5 hv
    exact p_count_l1 most hm hm2 n l e ha hs hl ih m (k+1) (v+c) (by omega) (by omega) (by omega) (by omega) (fun hq=>by have:=c4 (by omega);omega)
   ·rw [if_neg hv]
    exact ⟨v,rfl,h3,by omega,fun hq=>absurd hq hv⟩
  ·rw [if_neg (by omega)]
   have hp:=preS_all (l:=l) (k:=k) (by omega)
   exact ⟨v,rfl,h3,by omega,fun hq=>by have:=h5 hq;omega⟩
theorem p_count (most:Int)(hm:0<=most)(hm2:most<=1000000):∀ (s:Nat) (e:Exn),ETr s e->s<=4000000->∀ n,s+1<n->∃ c:Int,z33 n e most=some c/\1<=c/\c<=s/\(c<=most->c=s):=by
 intro s
 induction s using Nat.strongRecOn with
 |ind s IH =>
  intro e ht hs n hn
  cases ht with
  |mk l e h ha =>
   obtain ⟨n',rfl⟩:∃ n',n=n' + 1:=⟨n-1,by omega⟩
   have hl:=sum_len (l:=l) (fun p hp=>(h p hp).pos)
   simp only [z33]
   obtain ⟨c,c1,c2,c3,c4⟩:=p_count_l1 most hm hm2 n' l e ha (by omega) (by omega) (fun p hp=>by
    have:=sum_mem hp
    exact IH p.1 (by omega) p.2 (h p hp) (by omega) n' (by omega)) n' 0 1 (by omega) (by omega) (by omega) (by omega) (fun _=>by simp [preS])
   exact ⟨c,c1,c2,by push_cast;omega,fun hq=>by have:=c4 hq;push_cast;omega⟩
theorem p_size_l1 (n:Nat)(l:List (Nat×Exn))(e:Exn)(ha:e.fArgs=l.map (fun p=>z1u p.2))(hs:(l.map (·.1)).sum<=4000000)(hl:l.length<=4000000)
  (ih:∀ p∈l,∃ d:Int,z32 n p.2=some d/\zf0 n p.2=some ((p.1:Int),d)/\0<=d/\d<=p.1) :
  ∀ (m k:Nat) (d:Int),k<=l.length->l.length<m+k->0<=d->d<=preS l k ->
   ∃ D:Int,z6b n (z32 n) e (fun y=>some (IntKind.wrap .i64 (y+1))) m (d,(k:Int))=some (D+1)/\zdy n (zf0 n) e (fun y0 y1=>some (y0,(IntKind.wrap .i64 (y1+1)))) m (((1+preS l k:Nat):Int),d,(k:Int))=some (((1+(l.map (·.1)).sum:Nat):Int),D+1)/\0<=D/\D<=(l.map (·.1)).sum
 |0,k,d,h1,h2,_,_=>by omega
 |m+1,k,d,h1,h2,h3,h4=>by
  unfold z6b zdy
  simp only [ha,List.length_map,z0o]
  have hle:=preS_le l k
  by_cases h:k<l.length
  ·rw [if_pos (by omega),if_pos (by omega),zwu h,zwu h]
   obtain ⟨c,c1,c2,c3,c4⟩:=ih l[k] (List.getElem_mem h)
   have hp:=preS_succ h
   have hm:=sum_mem (List.getElem_mem h)
   rw [c1,c2,z09,z09,z2n k (by omega),zdf _ (by omega)]
   have e1:(((1+preS l k:Nat):Int)+((l[k].1:Nat):Int))=((1+preS l (k+1):Nat):Int):=by omega
   simp only
   rw [e1]
   exact p_size_l1 n l e ha hs hl ih m (k+1) (max d c) (by omega) (by omega) (by omega) (by omega)
  ·rw [if_neg (by omega),if_neg (by omega)]
   have hp:=preS_all (l:=l) (k:=k) (by omega)
   refine ⟨d,by rw [zdf _ (by omega)],?_,h3,by omega⟩
   rw [zdf _ (by omega),hp]
theorem p_size:∀ (s:Nat) (e:Exn),ETr s e->s<=4000000->∀ n,s+1<n->∃ d:Int,z32 n e=some d/\zf0 n e=some ((s:Int),d)/\0<=d/\d<=s:=by
 intro s
 induction s using Nat.strongRecOn with
 |ind s IH =>
  intro e ht hs n hn
  cases ht with
  |mk l e h ha =>
   obtain ⟨n',rfl⟩:∃ n',n=n' + 1:=⟨n-1,by omega⟩
   have hl:=sum_len (l:=l) (fun p hp=>(h p hp).pos)
   simp only [z32,zf0]
   obtain ⟨D,d1,d2,d3,d4⟩:=p_size_l1 n' l e ha (by omega) (by omega) (fun p hp=>by
    have:=sum_mem hp
    exact IH p.1 (by omega) p.2 (h p hp) (by omega) n' (by omega)) n' 0 0 (by omega) (by omega) (by omega) (by simp)
   exact ⟨D+1,d1,d2,by omega,by push_cast;omega⟩
theorem p_visit_l1 (n:Nat)(l:List (Nat×Exn))(e:Exn)(ha:e.fArgs=l.map (fun p=>z1u p.2))(hl:l.length<=4000000)
  (ih:∀ p∈l,∃ r:Int,z4c n p.2=some r/\zdc n p.2=some r/\(r=0->ETrO p.1 p.2)) :
  ∀ (m k:Nat),k<=l.length->l.length<m+k->(∀ p∈l.take k,ETrO p.1 p.2) ->
   ∃ r:Int,z6a n (z4c n) e (some 0) m (k:Int)=some r/\zd6 n (zdc n) e (some 0) m (k:Int)=some r/\(r=0->∀ p∈l,ETrO p.1 p.2)
 |0,k,h1,h2,_=>by omega
 |m+1,k,h1,h2,h3=>by
  unfold z6a zd6
  simp only [ha,List.length_map,z0o,z0w]
  by_cases h:k<l.length
  ·rw [if_pos (by omega),if_pos (by omega),zwu h,zwu h]
   obtain ⟨r,r1,r2,r3⟩:=ih l[k] (List.getElem_mem h)
   rw [r1,r2,z09,z09,z2n k (by omega)]
   by_cases hr:r=0
   ·rw [if_pos hr,if_pos hr]
    refine p_visit_l1 n l e ha hl ih m (k+1) (by omega) (by omega) (fun p hp=>?_)
    rw [List.take_succ_eq_append_getElem h,List.mem_append,List.mem_singleton] at hp
    rcases hp with hp|hp
    ·exact h3 p hp
    ·subst hp;exact r3 hr
   ·rw [if_neg hr,if_neg hr]
    exact ⟨r,rfl,rfl,fun hq=>absurd hq hr⟩
  ·rw [if_neg (by omega),if_neg (by omega)]
   rw [List.take_of_length_le (by omega)] at h3
   exact ⟨0,rfl,rfl,fun _=>h3⟩
theorem p_visit:∀ (s:Nat) (e:Exn),ETr s e->s<=4000000->∀ n,s+1<n->∃ r:Int,z4c n e=some r/\zdc n e=some r/\(r=0->ETrO s e):=by
 intro s
 induction s using Nat.strongRecOn with
 |ind s IH =>
  intro e ht hs n hn
  cases ht with
  |mk l e h ha =>
   obtain ⟨n',rfl⟩:∃ n',n=n' + 1:=⟨n-1,by omega⟩
   have hl:=sum_len (l:=l) (fun p hp=>(h p hp).pos)
   simp only [z4c,zdc,p_rnode,p_node,z09,z0w,z0o]
   by_cases hn0:ndP e=0
   ·rw [if_pos hn0,if_pos hn0]
    obtain ⟨r,r1,r2,r3⟩:=p_visit_l1 n' l e ha (by omega) (fun p hp=>by
     have:=sum_mem hp
     exact IH p.1 (by omega) p.2 (h p hp) (by omega) n' (by omega)) n' 0 (by omega) (by omega) (by simp)
    exact ⟨r,r1,r2,fun hr=>.mk l e hn0 (r3 hr) ha⟩
   ·rw [if_neg hn0,if_neg hn0]
    exact ⟨ndP e,rfl,rfl,fun hr=>absurd hr hn0⟩
theorem p_check (s:Nat)(e:Exn)(ht:ETr s e)(hs:s<=4000000)(n:Nat)(hn:s+1<n):∃ r:Int,z2i n e=some r/\zc8 n e=some r/\(r=0->ETrO s e):=by
 obtain ⟨c,c1,c2,c3,c4⟩:=p_count 64 (by omega) (by omega) s e ht hs n hn
 obtain ⟨d,d1,d2,d3,d4⟩:=p_size s e ht hs n hn
 obtain ⟨r,r1,r2,r3⟩:=p_visit s e ht hs n hn
 unfold z2i zc8
 rw [c1,d1,d2,r1,r2]
 simp only [z09,z0o]
 by_cases h:64<c
 ·rw [if_pos h,if_pos (by omega)]
  exact ⟨5,rfl,rfl,fun h=>by cases h⟩
 ·have:=c4 (by omega)
  have h':¬(64:Int)<(s:Int):=by omega
  simp only [h,h',if_false]
  by_cases h2:12<d
  ·rw [if_pos h2]
   exact ⟨12,rfl,rfl,fun h=>by cases h⟩
  ·rw [if_neg h2]
   exact ⟨r,rfl,rfl,r3⟩
end Go.Proofs.YtjpknpjjcddnnaaGreat
namespace Go.Proofs.YtjpknpjjcddnnaaGreat
open Go.RowKit
def wrP (k:Int)(v:Va):Int:=if vcP v=0 then (if suP k v=true then 0 else 9) else vcP v
theorem p_wrong (n:Nat)(k:Int)(hk:1<=k/\k<=5)(v:Va):z9i n k v=some (wrP k v):=by
 unfold z9i zap wrP suP
 simp only [p_vc,z09,z0o,z0w,z2s,z1r,z3w]
 by_cases h:vcP v=0
 ·rw [if_pos h,if_pos h]
  by_cases h0:v.fKind=0
  ·simp [h0,z3x,z09]
  ·by_cases h1:k=1
   ·simp [h0,h1,z3x,z09]
   ·by_cases h2:k=2
    ·simp [h0,h1,h2,z3x,z09]
    ·by_cases h3:k=3
     ·simp [h0,h1,h2,h3,z3x,z09]
     ·have:k=4\/k=5:=by omega
      rcases this with rfl|rfl<;>simp [h0,z3x,z09]
 ·rw [if_neg h,if_neg h]
theorem p_rvalue (n:Nat)(k:Int)(hk:1<=k/\k<=5)(v:Va):z83 n k v=some (wrP k v):=by
 unfold z83 wrP
 simp only [p_rvc,p_rsuits,z09,z0o,z0w]
 have h0:decide (k=0)=false:=by rw [decide_eq_false];omega
 simp only [h0,Bool.false_or]
 by_cases h:vcP v=0
 ·rw [if_pos h,if_pos h]
  cases suP k v<;>simp [z3x]
 ·rw [if_neg h,if_neg h]
def comb (k:Int)(a b:Va):Va:=if k=1 then ⟨0,IntKind.wrap .i64 (a.fNum+b.fNum),be⟩ else if k=2 then ⟨0,min a.fNum b.fNum,be⟩ else if k=3 then ⟨0,max a.fNum b.fNum,be⟩ else if k=4 then a else b
theorem p_rcomb (n:Nat)(k:Int)(hk:1<=k/\k<=5)(a b:Va):z8l n k a b=some (comb k a b):=by
 unfold z8l comb
 simp only [z0o]
 repeat' split
 all_goals first|rfl|(exfalso;omega)
theorem p_comb (n:Nat)(k:Int)(hk:1<=k/\k<=5)(a b:Va):zbk n k a b=some (comb k a b):=by
 unfold zbk comb
 simp only [natc_eq,zbq,z09,zch,zcg,zcf,zce,zcd,zcc]
 have:k=1\/k=2\/k=3\/k=4\/k=5:=by omega
 rcases this with rfl|rfl|rfl|rfl|rfl<;>simp
def AInv (k:Int)(i:Nat)(V:Va):Prop:=if i=0 then V=va0 else if k=1 then V.fKind=0/\V.fText=be/\-((i:Int)*1099511627776)<=V.fNum/\V.fNum<=(i:Int)*1099511627776 else vcP V=0/\suP k V=true
theorem AInv.check (n:Nat){k:Int}(hk:1<=k/\k<=5){i:Nat}(hi:i<=4096){V:Va}(h:AInv k i V):z85 n ⟨k,(i:Int),V⟩=some 0/\zd9 n ⟨k,(i:Int),V⟩=some 0:=by
 have w1:IntKind.wrap .i64 ((i:Int)*1099511627776)=(i:Int)*1099511627776:=zdf _ (by omega)
 have w2:IntKind.wrap .i64 (0-(i:Int)*1099511627776)=-((i:Int)*1099511627776):=by rw [zdf _ (by omega)];omega
 have k0:¬k=0:=by omega
 have ka:(0:Int)<=k:=by omega
 have c0:¬(i:Int)<0:=by omega
 have c1:¬4096<(i:Int):=by omega
 unfold z85 zd9 z8t zaq
 simp only [z09,z0o,z0w,z2s,z1r,z34,z5k,z49,z48,z1y,z47,z7c,va_dec0,p_vc,p_rvc,w1,w2,ka,hk.2,if_true,decide_true,z80,c0,c1,if_false,decide_false,z8k,k0,zqh]
 unfold AInv at h
 by_cases hi0:i=0
 ·rw [if_pos hi0] at h
  subst hi0
  subst h
  simp [z3x]
 ·rw [if_neg hi0] at h
  have hi1:¬(i:Int)=0:=by omega
  simp only [hi1,if_false,decide_false,z8k]
  by_cases k1:k=1
  ·rw [if_pos k1] at h
   obtain ⟨h1,h2,h3,h4⟩:=h
   have h3':¬V.fNum < -((i:Int)*1099511627776):=by omega
   have h4':¬(i:Int)*1099511627776<V.fNum:=by omega
   simp [k1,h1,h2,h3,h4,h3',h4',z3x]
  ·rw [if_neg k1] at h
   obtain ⟨h1,h2⟩:=h
   simp only [k1,if_false,h1,p_rsuits,h2,z09,if_true,Bool.or_true]
   refine ⟨by simp [z3x],?_⟩
   have:=p_wrong n k hk V
   unfold z9i wrP at this
   rw [p_vc,z09] at this
   simp only [h1,h2,if_true,decide_true,Bool.not_true,z8k] at this
   cases hs:zap n k V with
   |none=>rw [hs] at this;unfold bnd at this;cases this
   |some b =>
    rw [hs,z09] at this
    cases b with
    |true=>simp [z09,z3x]
    |false=>simp [z3x] at this
def stepV (k:Int)(i:Nat)(V x:Va):Va:=if i=0 then x else comb k V x
theorem AInv.step {k:Int}(hk:1<=k/\k<=5){i:Nat}(hi:i<=4096){V x:Va}(h:AInv k i V)(hx:wrP k x=0):AInv k (i+1) (stepV k i V x):=by
 have hv:vcP x=0/\suP k x=true:=by
  unfold wrP at hx
  by_cases h1:vcP x=0
  ·rw [if_pos h1] at hx
   by_cases h2:suP k x=true
   ·exact ⟨h1,h2⟩
   ·rw [if_neg h2] at hx;cases hx
  ·rw [if_neg h1] at hx;exact absurd hx h1
 have hn:x.fKind=0->x.fText=be/\-1099511627776<=x.fNum/\x.fNum<=1099511627776:=fun h0=>by
  have:=hv.1
  unfold vcP at this
  rw [if_neg (by omega),if_neg (by omega),if_neg (by omega)] at this
  by_cases ht:x.fText=be
  ·rw [if_pos ht,if_neg (by omega)] at this
   split at this
   ·cases this
   ·split at this
    ·cases this
    ·exact ⟨ht,by omega,by omega⟩
  ·rw [if_neg ht] at this;cases this
 have hs:k=1\/k=2\/k=3->x.fKind=0:=fun h=>by
  have:=hv.2
  simp only [suP,Bool.or_eq_true,decide_eq_true_eq] at this
  omega
 have nv:∀ q:Int,-1099511627776<=q->q<=1099511627776->vcP ⟨0,q,be⟩=0:=fun q h1 h2=>by
  unfold vcP
  simp only
  rw [if_neg (by omega),if_neg (by omega),if_neg (by omega),if_pos trivial,if_neg (by omega),if_neg (by omega),if_neg (by omega)]
 unfold AInv at h ⊢
 rw [if_neg (by omega)]
 unfold stepV
 by_cases hi0:i=0
 ·rw [if_pos hi0]
  by_cases k1:k=1
  ·rw [if_pos k1]
   obtain ⟨a,b,c⟩:=hn (hs (Or.inl k1))
   subst hi0
   exact ⟨hs (Or.inl k1),a,by omega,by omega⟩
  ·rw [if_neg k1];exact hv
 ·rw [if_neg hi0] at h
  rw [if_neg hi0]
  by_cases k1:k=1
  ·rw [if_pos k1] at h ⊢
   obtain ⟨h1,h2,h3,h4⟩:=h
   obtain ⟨a,b,c⟩:=hn (hs (Or.inl k1))
   unfold comb
   rw [if_pos k1]
   rw [zdf _ (by omega)]
   exact ⟨rfl,rfl,by simp only;push_cast;omega,by simp only;push_cast;omega⟩
  ·rw [if_neg k1] at h ⊢
   obtain ⟨h1,h2⟩:=h
   have hV:V.fKind=0->-1099511627776<=V.fNum/\V.fNum<=1099511627776:=fun h0=>by
    unfold vcP at h1
    rw [if_neg (by omega),if_neg (by omega),if_neg (by omega)] at h1
    by_cases ht:V.fText=be
    ·rw [if_pos ht,if_neg (by omega)] at h1
     split at h1
     ·cases h1
     ·split at h1
      ·cases h1
      ·exact ⟨by omega,by omega⟩
    ·rw [if_neg ht] at h1;cases h1
   have hVs:k=2\/k=3->V.fKind=0:=fun h=>by
    simp only [suP,Bool.or_eq_true,decide_eq_true_eq] at h2
    omega
   unfold comb
   rw [if_neg k1]
   by_cases k2:k=2
   ·rw [if_pos k2]
    obtain ⟨a,b,c⟩:=hn (hs (Or.inr (Or.inl k2)))
    obtain ⟨d,e⟩:=hV (hVs (Or.inl k2))
    exact ⟨nv _ (by omega) (by omega),by simp [suP]⟩
   ·rw [if_neg k2]
    by_cases k3:k=3
    ·rw [if_pos k3]
     obtain ⟨a,b,c⟩:=hn (hs (Or.inr (Or.inr k3)))
     obtain ⟨d,e⟩:=hV (hVs (Or.inr k3))
     exact ⟨nv _ (by omega) (by omega),by simp [suP]⟩
    ·rw [if_neg k3]
     by_cases k4:k=4
     ·rw [if_pos k4];exact ⟨h1,h2⟩
     ·rw [if_neg k4];exact hv
theorem p_radd (n:Nat){k:Int}(hk:1<=k/\k<=5){i:Nat}(hi:i<4096){V:Va}(h:AInv k i V)(x:Va):zb3 n ⟨k,(i:Int),V⟩ x=some (if wrP k x=0 then (⟨k,((i+1:Nat):Int),stepV k i V x⟩,0) else (⟨0,0,⟨0,0,be⟩⟩,wrP k x)):=by
 unfold zb3
 rw [(h.check n hk (by omega)).1,z09]
 simp only [p_rvalue n k hk,z09,z0o,z0w,p_rcomb n k hk,z2s,z1r,z3s,if_true]
 rw [z2n i (by omega)]
 by_cases hx:wrP k x=0
 ·rw [if_pos hx,if_pos hx,if_neg (by omega),if_neg (by omega)]
  unfold stepV
  by_cases h0:i=0
  ·rw [if_neg (by omega),if_pos h0]
  ·rw [if_pos (by omega),if_neg h0]
 ·rw [if_neg hx,if_neg hx]
def bad (k:Int):List Va->Option Int
 |[]=>none
 |x::l=>if wrP k x=0 then bad k l else some (wrP k x)
def fV (k:Int):Nat->Va->List Va->Va
 |_,V,[]=>V
 |i,V,x::l=>fV k (i+1) (stepV k i V x) l
theorem p_rof_l1 (n:Nat){k:Int}(hk:1<=k/\k<=5)(init:Va)(l:List Va)(hl:l.length<=4096)(K:Int->Int->Int->Int->ByteArray->Option (Va×Int)):∀ (m i:Nat) (V:Va),i<=l.length->l.length<m+i->AInv k i V ->
  z84 n init l K m ((i:Int),k,(i:Int),V.fKind,V.fNum,V.fText)=(match bad k (l.drop i) with|some e=>some (va0,e)|none=>K k (l.length:Int) (fV k i V (l.drop i)).fKind (fV k i V (l.drop i)).fNum (fV k i V (l.drop i)).fText)/\(bad k (l.drop i)=none->AInv k l.length (fV k i V (l.drop i)))
 |0,i,V,h1,h2,_=>by omega
 |m+1,i,V,h1,h2,h3=>by
  unfold z84
  simp only [List.length_map,z0o,z0w]
  by_cases h:i<l.length
  ·rw [if_pos (by omega),z0s h]
   have ha:=p_radd n hk (i:=i) (by omega) h3 l[i]
   have hV:V=⟨V.fKind,V.fNum,V.fText⟩:=rfl
   rw [<-hV,ha,z09,z0g l i h]
   simp only [bad,fV]
   by_cases hx:wrP k l[i]=0
   ·simp only [hx,if_true]
    rw [z2n i (by omega)]
    exact p_rof_l1 n hk init l hl K m (i+1) _ (by omega) (by omega) (h3.step hk (by omega) hx)
   ·simp only [hx,if_false]
    exact ⟨trivial,fun h=>by cases h⟩
  ·rw [if_neg (by omega),List.drop_eq_nil_of_le (by omega)]
   have:i=l.length:=by omega
   subst this
   exact ⟨rfl,fun _=>h3⟩
theorem p_of_l1 (n:Nat){k:Int}(hk:1<=k/\k<=5)(init:Va)(l:List Va)(hl:l.length<=4096)(K:Option (Va×Int)):∀ (m i:Nat),i<=l.length->l.length<m+i->zar n init l k K m (i:Int)=(match bad k (l.drop i) with|some e=>some (va0,e)|none=>K)
 |0,i,h1,h2=>by omega
 |m+1,i,h1,h2=>by
  unfold zar
  simp only [List.length_map,z0o,z0w]
  by_cases h:i<l.length
  ·rw [if_pos (by omega),z0s h,p_wrong n k hk,z09,z0g l i h]
   simp only [bad]
   by_cases hx:wrP k l[i]=0
   ·simp only [hx,if_true]
    rw [z2n i (by omega)]
    exact p_of_l1 n hk init l hl K m (i+1) (by omega) (by omega)
   ·simp only [hx,if_false]
  ·rw [if_neg (by omega),List.drop_eq_nil_of_le (by omega)]
   rfl
theorem p_fold_l1 (n:Nat){k:Int}(hk:1<=k/\k<=5)(l:List Va)(hl:l.length<=4096)(K:Int->Int->Int->Int->ByteArray->Option z0l):∀ (m i:Nat) (V:Va),i<=l.length->l.length<m+i ->
  z8e n k l K m ((i:Int),k,(i:Int),V.fKind,V.fNum,V.fText)=K k (l.length:Int) (fV k i V (l.drop i)).fKind (fV k i V (l.drop i)).fNum (fV k i V (l.drop i)).fText
 |0,i,V,h1,h2=>by omega
 |m+1,i,V,h1,h2=>by
  unfold z8e
  simp only [List.length_map,z0o]
  by_cases h:i<l.length
  ·rw [if_pos (by omega),z0s h,z0g l i h]
   unfold zfx ze8 ze9
   have k0:¬k=0:=by omega
   have hV:V=⟨V.fKind,V.fNum,V.fText⟩:=rfl
   simp only [z0o,k0,if_false,z09]
   rw [<-hV,p_comb n k hk]
   simp only [fV]
   by_cases h0:i=0
   ·have:((i:Nat):Int)=0:=by omega
    rw [if_pos this,z09,z2n i (by omega)]
    have e:=p_fold_l1 n hk l hl K m (i+1) (stepV k i V l[i]) (by omega) (by omega)
    have e2:stepV k i V l[i]=l[i]:=by unfold stepV;rw [if_pos h0]
    rw [e2] at e ⊢
    have e3:((i+1:Nat):Int)=1:=by omega
    rw [e3] at e ⊢
    rw [z09]
    exact e
   ·rw [if_neg (by omega),if_neg (by omega),z09,z09,z2n i (by omega)]
    have e:=p_fold_l1 n hk l hl K m (i+1) (stepV k i V l[i]) (by omega) (by omega)
    have e2:stepV k i V l[i]=comb k V l[i]:=by unfold stepV;rw [if_neg h0]
    rw [e2] at e ⊢
    rw [z09]
    exact e
  ·rw [if_neg (by omega),List.drop_eq_nil_of_le (by omega)]
   have:i=l.length:=by omega
   subst this
   rfl
theorem p_result (n:Nat){k:Int}(hk:1<=k/\k<=5){i:Nat}(hi:i<=4096){V:Va}(h:AInv k i V)(init:Va):∃ r,z7n n ⟨k,(i:Int),V⟩ init=some r/\z9x n ⟨k,(i:Int),V⟩ init=some r:=by
 obtain ⟨h1,h2⟩:=h.check n hk hi
 unfold z7n z9x
 rw [h1,h2]
 simp only [z09,p_rvalue n k hk,p_wrong n k hk,z0o,z0w,z2s,z1r,z3g,z6t,if_true,z3x]
 repeat' split
 all_goals exact ⟨_,rfl,rfl⟩
theorem p_of (n:Nat)(hn:5000<n){k:Int}(hk:1<=k/\k<=5)(l:List Va)(init:Va):∃ r,z9w n k l init=some r/\ze0 n k l init=some r:=by
 unfold z9w ze0 z8t zaq
 have ka:(0:Int)<=k:=by omega
 simp only [z09,z0o,z0w,z2s,z1r,z34,z5k,ka,hk.2,if_true,List.length_map,decide_true,z80]
 by_cases h:4096<l.length
 ·rw [if_pos (by omega),if_pos (by omega)]
  exact ⟨_,rfl,rfl⟩
 ·rw [if_neg (by omega),if_neg (by omega)]
  have e1:=p_rof_l1 n hk init l (by omega) (fun y0 y1 y2 y3 y4=>bnd (z7n n (⟨y0,y1,⟨y2,y3,y4⟩⟩:z0l) init) fun x47=>some (x47.1,x47.2)) n 0 va0 (by omega) (by omega) (by simp [AInv])
  have e2:=p_of_l1 n hk init l (by omega) (bnd (zcb n (⟨k,0,⟨0,0,ByteArray.empty⟩⟩:z0l) l k) fun x42=>bnd (z9x n x42 init) fun x43=>some (x43.1,x43.2)) n 0 (by omega) (by omega)
  simp only [Int.natCast_zero,List.drop_zero] at e1 e2
  rw [e1.1,e2]
  cases hb:bad k l with
  |some e=>exact ⟨_,rfl,rfl⟩
  |none =>
   have hi:=e1.2 hb
   have e3:=p_fold_l1 n hk l (by omega) (fun y0 y1 y2 y3 y4=>some (⟨y0,y1,⟨y2,y3,y4⟩⟩:z0l)) n 0 va0 (by omega) (by omega)
   simp only [Int.natCast_zero,List.drop_zero] at e3
   unfold zcb
   rw [e3]
   simp only [z09]
   obtain ⟨r,r1,r2⟩:=p_result n hk (i:=l.length) (by omega) hi init
   rw [r1,r2]
   simp only [z09]
   exact ⟨_,rfl,rfl⟩
end Go.Proofs.YtjpknpjjcddnnaaGreat
namespace Go.Proofs.YtjpknpjjcddnnaaGreat
open Go.RowKit
def evs (vs:List (List Ev))(v:Int):List Ev:=if v<0 then [] else if (vs.length:Int)<=v then [] else vs.getD v.toNat []
theorem zmz {α β:Type}{l:List α}{i:Int}(d:α)(k:α->Option β)(h0:0<=i)(h1:i<(l.length:Int)):idx l i k=k (l.getD i.toNat d):=by
 obtain ⟨m,rfl⟩:∃ m:Nat,i=m:=⟨i.toNat,by omega⟩
 have hm:m<l.length:=by omega
 rw [z0s hm]
 simp [List.getD_eq_getElem?_getD,hm]
theorem p_revents (n:Nat)(vs:List (List Ev))(v:Int):z5u n ⟨vs⟩ v=some (evs vs v):=by
 unfold z5u evs
 simp only [z2s,z1r,z3f,List.length_map,z0o,z80]
 by_cases h:v<0
 ·rw [if_pos h,if_pos h]
 ·rw [if_neg h,if_neg h]
  by_cases h2:(vs.length:Int)<=v
  ·rw [if_pos h2,if_pos h2]
  ·rw [if_neg h2,if_neg h2,zmz [] _ (by omega) (by omega)]
theorem p_events (n:Nat)(vs:List (List Ev))(own:Int)(ev:Ev)(v:Int):z6i n ⟨vs⟩ own ev v=some (evs vs v):=by
 unfold z6i evs
 simp only [z2s,z1r,z2m,List.length_map,z0o,z80]
 by_cases h:v<0
 ·rw [if_pos h,if_pos h]
 ·rw [if_neg h,if_neg h]
  by_cases h2:(vs.length:Int)<=v
  ·rw [if_pos h2,if_pos h2]
  ·rw [if_neg h2,if_neg h2,zmz [] _ (by omega) (by omega)]
theorem p_field (n:Nat)(ev:Ev)(f:Int)(hf:0<=f):zez n ev f=some (if (ev.fValues.length:Int)<=f then (va0,6) else (ev.fValues.getD f.toNat va0,0)):=by
 unfold zez
 simp only [List.length_map,z0o]
 by_cases h:(ev.fValues.length:Int)<=f
 ·rw [if_pos h,if_pos h]
 ·rw [if_neg h,if_neg h,zmz va0 _ hf (by omega)]
theorem p_total_l1 (n:Nat)(e:Exn)(hf:0<=e.fField)(es:List Ev)(hl:es.length<=1000000)(K K':List Va->Option (Va×Int))(hK:∀ l,∃ r,K l=some r/\K' l=some r):∀ (m i:Nat) (acc:List Va),i<=es.length->es.length<m+i->acc.length=i ->
  ∃ r,z71 n e es K m ((i:Int),acc)=some r/\z4n n e es K' m ((i:Int),acc)=some r
 |0,i,acc,h1,h2,_=>by omega
 |m+1,i,acc,h1,h2,h3=>by
  unfold z71 z4n
  simp only [List.length_map,z0o,z0w]
  by_cases h:i<es.length
  ·rw [if_pos (by omega),if_pos (by omega)]
   simp only [z0s h]
   rw [p_field n _ _ hf,z09]
   by_cases hv:(es[i].fValues.length:Int)<=e.fField
   ·rw [if_pos hv,if_pos hv]
    exact ⟨_,rfl,rfl⟩
   ·rw [if_neg hv,if_neg hv,zmz va0 _ hf (by omega)]
    simp only [if_true]
    rw [zau (by simp;omega) (by omega),zau (by simp;omega) (by omega),z2n i (by omega)]
    exact p_total_l1 n e hf es hl K K' hK m (i+1) _ (by omega) (by omega) (by simp;omega)
  ·rw [if_neg (by omega),if_neg (by omega)]
   exact hK acc
theorem nd_facts {e:Exn}(h:ndP e=0):0<=arP e.fOp/\(e.fArgs.length:Int)=arP e.fOp/\(usF e.fOp=true->0<=e.fField)/\(e.fOp=4->1<=e.fKind/\e.fKind<=5):=by
 unfold ndP at h
 by_cases h1:arP e.fOp<0
 ·rw [if_pos h1] at h;cases h
 rw [if_neg h1] at h
 by_cases h2:(e.fArgs.length:Int)=arP e.fOp
 rotate_left
 ·rw [if_pos h2] at h;cases h
 rw [if_neg (show ¬((e.fArgs.length:Int)≠arP e.fOp) from fun k=>k h2)] at h
 by_cases h3:((usV e.fOp && (decide (e.fVar<0) || decide (16<=e.fVar))) || (usF e.fOp && (decide (e.fField<0) || decide (8<=e.fField))))=true
 ·rw [if_pos h3] at h;cases h
 rw [if_neg h3] at h
 by_cases h4:(decide (e.fOp=4) && (decide (e.fKind<1) || decide (5<e.fKind)))=true
 ·rw [if_pos h4] at h;cases h
 refine ⟨by omega,h2,fun hu=>?_,fun ho=>?_⟩
 ·simp only [hu,Bool.true_and,Bool.or_eq_true,Bool.and_eq_true,decide_eq_true_eq] at h3
  omega
 ·simp only [ho,decide_true,Bool.true_and,Bool.or_eq_true,decide_eq_true_eq] at h4
  omega
theorem p_leaf (n:Nat)(hn:2000000<n)(e:Exn)(hnd:ndP e=0)(h0:e.fArgs.length=0)(a b:List (List Ev))(hab:∀ v,evs a v=evs b v)(hb:∀ v,(evs a v).length<=1000000)(own:Int)(ev:Ev) :
  ∃ r,za8 n e ⟨a⟩ own ev=some r/\z9a n ⟨b⟩ own ev e=some r:=by
 obtain ⟨f1,f2,f3,f4⟩:=nd_facts hnd
 unfold za8 z9a
 simp only [p_revents,p_events,<-hab,z09,z0o,z0w,List.length_map]
 by_cases o0:e.fOp=0
 ·rw [if_pos o0,if_pos o0];exact ⟨_,rfl,rfl⟩
 rw [if_neg o0,if_neg o0]
 by_cases o3:e.fOp=3
 ·rw [if_pos o3,if_pos o3];exact ⟨_,rfl,rfl⟩
 rw [if_neg o3,if_neg o3]
 by_cases o4:e.fOp=4
 ·rw [if_pos o4,if_pos o4]
  unfold zai
  rw [p_events,<-hab,z09]
  have hf:=f3 (by rw [o4];decide)
  have hk:=f4 o4
  obtain ⟨r,r1,r2⟩:=p_total_l1 n e hf (evs a e.fVar) (hb _) (fun y=>bnd (z9w n e.fKind y e.fValue) fun x44=>some (x44.1,x44.2)) (fun y=>bnd (ze0 n e.fKind y e.fValue) fun x43=>some (x43.1,x43.2)) (fun l=>by
   obtain ⟨r,r1,r2⟩:=p_of n (by omega) hk l e.fValue
   exact ⟨r,by rw [r1,z09],by rw [r2,z09]⟩) n 0 [] (by omega) (by have:=hb e.fVar;omega) rfl
  simp only [Int.natCast_zero] at r1 r2
  rw [r1,r2]
  exact ⟨r,rfl,by rw [z09]⟩
 rw [if_neg o4,if_neg o4]
 have hop:e.fOp=1\/e.fOp=2:=by
  unfold arP at f1 f2
  by_cases q1:e.fOp<0
  ·rw [if_pos q1] at f1;omega
  by_cases q2:12<e.fOp
  ·rw [if_neg q1,if_pos q2] at f1;omega
  rw [if_neg q1,if_neg q2] at f2
  by_cases q3:e.fOp<5
  ·omega
  ·rw [if_neg q3] at f2
   split at f2<;>omega
 simp only [z2s,z1r,z3j,z3i]
 unfold zcs
 simp only [p_revents,z09,z0o,z0w,List.length_map]
 have tail:∀ x:Ev,∃ r,(if e.fOp=2 then some ((⟨0,x.fTime,be⟩:Va),(0:Int)) else if (x.fValues.length:Int)<=e.fField then some (va0,6) else idx x.fValues e.fField fun x50=>bnd (z35 n x50) fun x51=>if x51=0 then (idx x.fValues e.fField fun x52=>some (x52,0)) else some (va0,x51))=some r /\
   (if e.fOp=2 then some ((⟨0,x.fTime,be⟩:Va),(0:Int)) else bnd (zez n (⟨x.fSource,x.fSeq,x.fType,x.fTime,x.fValues⟩:z01) e.fField) fun x9=>if x9.2=0 then (bnd (zah n x9.1) fun x12=>if x12=0 then some (x9.1,0) else some (va0,x12)) else if x9.2=0 then some (x9.1,0) else some (va0,x9.2))=some r:=fun x=>by
  by_cases o2:e.fOp=2
  ·rw [if_pos o2,if_pos o2];exact ⟨_,rfl,rfl⟩
  rw [if_neg o2,if_neg o2]
  have o1:e.fOp=1:=by omega
  have hf:=f3 (by rw [o1];decide)
  rw [p_field n _ _ hf,z09]
  by_cases hv:(x.fValues.length:Int)<=e.fField
  ·simp only [hv,if_true]
   exact ⟨_,rfl,rfl⟩
  ·simp only [hv,if_false]
   rw [zmz va0 _ hf (by omega),zmz va0 _ hf (by omega),p_rvc,p_vc,z09]
   simp only [if_true,z09]
   split
   ·exact ⟨_,rfl,rfl⟩
   ·exact ⟨_,rfl,rfl⟩
 by_cases ho:e.fVar=own
 ·rw [if_pos ho,if_pos ho,z09]
  simp only [z80]
  exact tail ev
 ·rw [if_neg ho,if_neg ho]
  by_cases he:(evs a e.fVar).length=0
  ·rw [if_pos (by omega),if_pos (by omega),z09]
   simp only [z8k]
   exact ⟨_,rfl,rfl⟩
  ·rw [if_neg (by omega),if_neg (by omega),zdf _ (by have:=hb e.fVar;omega),zmz ev _ (by omega) (by omega),zmz ev _ (by omega) (by omega),z09]
   simp only [z80]
   exact tail _
theorem p_demanded (n:Nat)(op:Int)(h:5<=op/\op<=12):z82 n op=some (if op<9 then 0 else if op=9 then -1 else 1):=by
 have:op=5\/op=6\/op=7\/op=8\/op=9\/op=10\/op=11\/op=12:=by omega
 unfold z82
 simp only [z2s,z1r,z1l,z1t,z0o]
 rcases this with rfl|rfl|rfl|rfl|rfl|rfl|rfl|rfl<;>simp [z3x]
theorem y15 (n:Nat)(op:Int)(h:5<=op/\op<=12)(ks:List Int)(hl:ks.length<=4000000):∀ (m i:Nat),i<=ks.length->ks.length<m+i->∃ r,z15 n ks op (some 0) m (i:Int)=some r/\z4b n ks op (some 0) m (i:Int)=some r/\(r=0\/r=9)
 |0,i,h1,h2=>by omega
 |m+1,i,h1,h2=>by
  unfold z15 z4b
  simp only [List.length_map,z0o,z0w,p_demanded n op h,z09,z2s,z1r,z1e,z62,z7d]
  by_cases hi:i<ks.length
  ·have hlt:((i:Nat):Int)<((ks.length:Nat):Int):=by omega
   simp only [hlt,if_true]
   obtain ⟨r,r1,r2,r3⟩:=y15 n op h ks hl m (i+1) (by omega) (by omega)
   rw [z2n i (by omega),r1,r2]
   have hz:∀ (K:Int->Option Int),idx ks 0 K=K (ks.headD 0):=fun K=>by
    have:=z0s (l:=ks) (i:=0) (by omega) K
    simp only [Int.natCast_zero] at this
    rw [this]
    congr 1
    cases ks with
    |nil=>simp at hi
    |cons x q=>rfl
   have hx:∀ (K:Int->Option Int),idx ks (i:Int) K=K ks[i]:=fun K=>z0s hi K
   simp only [hz,hx]
   generalize ks[i]=k
   generalize ks.headD 0=k0
   have:op=5\/op=6\/op=7\/op=8\/op=9\/op=10\/op=11\/op=12:=by omega
   clear r1 r2 hz hx h
   rcases this with rfl|rfl|rfl|rfl|rfl|rfl|rfl|rfl
   all_goals
    simp [z3x]
    first
    |(by_cases q:k=0<;>simp [q,r3])
    |(by_cases q:k=1<;>simp [q,r3])
    |(by_cases q:k=k0<;>simp [q,r3])
  ·have hlt:¬((i:Nat):Int)<((ks.length:Nat):Int):=by omega
   simp only [hlt,if_false]
   exact ⟨0,rfl,rfl,Or.inl rfl⟩
theorem p_flag (n:Nat)(b:Bool):z8q n b=some (if b=true then ⟨1,1,be⟩ else ⟨1,0,be⟩):=by
 unfold z8q zne
 cases b<;>simp [z3x,z09]
theorem p_rflag (n:Nat)(b:Bool):z1d n b=some (if b=true then ⟨1,1,be⟩ else ⟨1,0,be⟩):=by
 unfold z1d
 cases b<;>simp [z3x]
end Go.Proofs.YtjpknpjjcddnnaaGreat
