/- What some functions compute, over plain values. -/
import Derived.Test.YtidhlpjgifoneaaGreatK26
set_option linter.unusedVariables false
set_option linter.unusedSimpArgs false
set_option maxRecDepth 100000
set_option maxHeartbeats 8000000
namespace Go.Proofs.YtidhlpjgifoneaaGreat
open Go.RowKit List
noncomputable section
@[reducible,instance] def zxb {n x1 x4 x7 x9 b}:=li (z7l n x1 x4 x7 x9 b) (fun c=>⟨[(1,.sl 5 (x1.map z02)),(2,.ptr 2 0),(6,.ptr 6 0),(9,.ptr 9 0),(71,aI ((((List.map (fun q=>AV.sl 3 (List.map z01 q)) (x4.1.fSets)).length:Nat):Int))),(72,aI c)],[(2,.box 31 [.sl 1 (List.map (fun q=>AV.sl 3 (List.map z01 q)) (x4.1.fSets))]),(6,.box 31 [.sl 1 (List.map (fun q=>AV.sl 3 (List.map z01 q)) (x7.2.2.1.fSets))]),(9,.box 44 (zeh x9.2.1))]⟩) fun _ _=>z7l.eq_2 ..
@[reducible,instance] def zxf {n x1 x4 x7 x9}:=jf (z2f n x1 x4 x7 x9) (fun b=>⟨[(1,.sl 5 (x1.map z02)),(2,.ptr 2 0),(6,.ptr 6 0),(9,.ptr 9 0),(68,.bool (b))],[(2,.box 31 [.sl 1 (List.map (fun q=>AV.sl 3 (List.map z01 q)) (x4.1.fSets))]),(6,.box 31 [.sl 1 (List.map (fun q=>AV.sl 3 (List.map z01 q)) (x7.2.2.1.fSets))]),(9,.box 44 (zeh x9.2.1))]⟩) fun _=>z2f.eq_1 ..
instance y1k {n}:CI E0 (z9u n) true 12 [] (fun r=>.bool (r)):=⟨fun {r} hF=>by
 unfold z9u at hF
 refine Con.env (E:=E0b) rfl rfl ?_
 refine Con.walk _ Tryz.func12 rfl (z0x Tryz.func12 rfl rfl) rfl (Or.inr rfl) ?_
 repeat' first
  |refine AW.jI hF (fun v hF=>?_) fun hF=>?_
  |refine AW.regO hF fun hF=>?_
  |refine AW.frzO hF 18 rfl (fun hF=>?_)
  |refine AW.stepU [2,5,10,13,17] ?_;conv=>whnf
  |refine z14.o hF (fun hF=>?_) fun hF=>?_
  |refine z14.t ?_
  |refine z14.f ?_
  |refine OpX.bldR z02 hF rfl rfl rfl rfl rfl rfl rfl rfl rfl rfl rfl rfl rfl rfl rfl rfl (by first|exact ziz.refl _|(repeat' first|exact ziz.nil|refine ziz.cons ?_ ?_|exact zaf.nil|refine zaf.cons ?_ ?_|exact Sub.refl _|exact Sub.nil _)) rfl (fun l hF=>?_)
  |refine OpX.bld z02 hF rfl rfl rfl rfl rfl rfl rfl rfl rfl rfl rfl rfl rfl rfl rfl rfl (fun l hF=>?_)
  |refine z1q.I hF fun a hF=>?_
  |refine y3v.o z02 hF (fun l hF=>?_)
  |refine z1q.oR hF (fun r=>r) (fun q=>AV.sl 3 (List.map z01 q)) (fun _=>AV.row 0) rfl (fun a h=>zpb.env rfl (zqi h)) (fun a hF=>?_)
  |refine z1q.oR hF (fun r=>r) (fun q=>AV.sl 3 (List.map z01 q)) (fun _=>AV.row 0) rfl (fun a h=>zpb.sub (by repeat' first|exact Sub.nil _|exact Sub.refl _|refine Sub.agg ?_|refine Sub.tup ?_|refine Sub.fn ?_|exact zaf.nil|refine zaf.cons ?_ ?_|refine Sub.sl _ ?_|exact zhc.nil|refine zhc.cons ?_ ?_) (zpb.env rfl (zqi h))) (fun a hF=>?_)
  |refine zqo.o hF (fun m hF=>?_)
  |refine yev.o (fun q=>AV.sl 3 (List.map z01 q)) hF (fun x hF=>?_)
  |refine y3v.o z01 hF (fun l hF=>?_)
  |refine ynd.o (fun q=>AV.sl 3 (List.map z01 q)) hF (fun x=>rfl) (fun x=>(by first|exact zaf.refl _|(repeat' first|exact zaf.nil|refine zaf.cons ?_ ?_|exact Sub.refl _|exact Sub.nil _|refine Sub.agg ?_))) (fun l hF=>?_)
  |refine zar.I hF (fun a hF=>?_) rfl rfl fun _=>Or.inr rfl
  |exact ⟨_,hF,LeX.a []⟩
  |refine zes.A hF fun x hF=>?_
  |refine zes.o (fun q=>AV.sl 3 (List.map z01 q)) hF fun x hF=>?_
  |refine z8f.I hF (LeX.a []) fun m v hF=>?_
  |refine And.intro ⟨by kernel_rfl,by kernel_rfl⟩ ?_
  |refine EqX.A ?_
  |exact zei.oB hF⟩
end
open Go.RowKit
noncomputable section
@[reducible,instance] def y2i {n a0 b c}:=jf (z6s n a0 b c) (fun d=>⟨[(0,.sl 3 (a0.map z01)),(3,aI b),(29,.bool (d))],[]⟩) fun _=>z6s.eq_1 ..
@[reducible,instance] def y2j {n a0 b c d}:=jf (z6t n a0 b c d) (fun e=>⟨[(0,.sl 3 (a0.map z01)),(3,aI b),(11,.bool (e))],[]⟩) fun _=>z6t.eq_1 ..
@[reducible,instance] def y2h {n a0 b}:=li (z4k n a0 b) (fun c=>⟨[(0,.sl 3 (a0.map z01)),(3,aI c)],[]⟩) fun _ _=>z4k.eq_2 ..
instance y69 {n a0}:CI E0 (zcw n a0) true 42 [.sl 3 (a0.map z01)] (fun r=>.bool (r)):=by unfold zcw;exact CI.w [2,4] Tryz.func42
@[reducible,instance] def y2a {n a0 b c d}:=jf (z6o n a0 b c d) (fun e=>⟨[(1,.ptr 1 0),(3,aI b),(12,.bool (e))],[(1,.box 31 [.sl 1 (List.map (fun q=>AV.sl 3 (List.map z01 q)) (a0.fSets))])]⟩) fun _=>z6o.eq_1 ..
@[reducible,instance] def y29 {n a0 b}:=li (z4h n a0 b) (fun c=>⟨[(1,.ptr 1 0),(3,aI c)],[(1,.box 31 [.sl 1 (List.map (fun q=>AV.sl 3 (List.map z01 q)) (a0.fSets))])]⟩) fun _ _=>z4h.eq_2 ..
instance y66 {n a0}:CI E0 (zct n a0) true 16 [.agg [.sl 1 (List.map (fun q=>AV.sl 3 (List.map z01 q)) (a0.fSets))]] (fun r=>.bool (r)):=⟨fun {r} hF=>by
 unfold zct at hF
 refine cw Tryz.func16 ?_
 repeat' first
  |refine AW.jI hF (fun v hF=>?_) fun hF=>?_
  |refine AW.regO hF fun hF=>?_
  |refine AW.stepU [2] ?_;conv=>whnf
  |refine z14.o hF (fun hF=>?_) fun hF=>?_
  |refine z14.t ?_
  |refine z14.f ?_
  |refine zes.o (fun q=>AV.sl 3 (List.map z01 q)) hF fun x hF=>?_
  |refine z1q.I hF fun a hF=>?_
  |exact ⟨_,hF,LeX.a []⟩
  |refine z8f.I hF (LeX.a []) fun m v hF=>?_
  |refine And.intro ⟨by kernel_rfl,by kernel_rfl⟩ ?_
  |refine EqX.A ?_
  |exact zei.oB hF⟩
@[reducible,instance] def znp {n}:=jf (z1c n) (fun b=>⟨[(6,.bool (b))],[]⟩) fun _=>z1c.eq_1 ..
@[reducible,instance] def znq {n a1 a0}:=jf (z0z n a1 a0) (fun b=>⟨[(1,.sl 5 (a1.map z02)),(3,.ptr 3 0),(24,.bool (b))],[(3,.box 25 (z0g a0))]⟩) fun _=>z0z.eq_1 ..
theorem zhb {n a0 a1 a2 r}(hF:z7u n a0 a1 a2=some r):Con E0 true 7 [z0n a0,.sl 5 (a1.map z02),.agg [.sl 1 (List.map (fun q=>AV.sl 3 (List.map z01 q)) (a2.fSets))]] (.bool (r)):=by
 unfold z7u at hF
 refine cw Tryz.func7 ?_
 repeat' first
  |refine AW.jI hF (fun v hF=>?_) fun hF=>?_
  |refine AW.regO hF fun hF=>?_
  |refine AW.stepU [1,4] ?_;conv=>whnf
  |refine z14.o hF (fun hF=>?_) fun hF=>?_
  |refine z14.t ?_
  |refine z14.f ?_
  |refine z1q.I hF fun a hF=>?_
  |exact ⟨_,hF,LeX.a []⟩
  |refine And.intro ⟨by kernel_rfl,by kernel_rfl⟩ ?_
  |refine EqX.A ?_
  |exact zei.oB hF
end
open Go.RowKit
section
variable {α:Type} {c:α->α->Int}
theorem TO.asym (h:TO c){a b:α}(k:c a b<0):¬c b a<0:=by have:=h.neg a b;omega
theorem TO.lt_ne (h:TO c){a b:α}(k:c a b<0):a≠b:=fun e=>by subst e;exact h.irr _ k
def Str (c:α->α->Int)(l:List α):Prop:=l.Pairwise (fun x y=>c x y<0)
theorem Str.uniq (h:TO c):∀ {l m:List α},Str c l->Str c m->(∀ x,x∈l ↔ x∈m)->l=m
 |[],[],_,_,_=>rfl
 |[],y::m,_,_,hm=>by have:=(hm y).2 (by simp);simp at this
 |x::l,[],_,_,hm=>by have:=(hm x).1 (by simp);simp at this
 |x::l,y::m,h1,h2,hm=>by
  obtain ⟨a1,a2⟩:=pairwise_cons.1 h1
  obtain ⟨b1,b2⟩:=pairwise_cons.1 h2
  have hxy:x=y:=by
   rcases mem_cons.1 ((hm x).1 (by simp)) with e|e
   ·exact e
   ·rcases mem_cons.1 ((hm y).2 (by simp)) with e'|e'
    ·exact e'.symm
    ·exact absurd (a1 y e') (h.asym (b1 x e))
  subst hxy
  congr 1
  refine Str.uniq h a2 b2 (fun z=>⟨fun hz=>?_,fun hz=>?_⟩)
  ·rcases mem_cons.1 ((hm z).1 (mem_cons_of_mem _ hz)) with e|e
   ·exact absurd e.symm (h.lt_ne (a1 z hz))
   ·exact e
  ·rcases mem_cons.1 ((hm z).2 (mem_cons_of_mem _ hz)) with e|e
   ·exact absurd e.symm (h.lt_ne (b1 z hz))
   ·exact e
def znb (c:α->α->Int)(x:α):List α->List α
 |[]=>[x]
 |y::l=>if c y x<0 then y::znb c x l else if c y x=0 then y::l else x::y::l
theorem zor (h:TO c)(x z:α):∀ l:List α,z∈znb c x l ↔ z=x\/z∈l
 |[]=>by simp [znb]
 |y::l=>by
  unfold znb
  split
  ·simp only [mem_cons,zor h x z l]
   constructor
   ·rintro (h|h|h)<;>simp [h]
   ·rintro (h|h|h)<;>simp [h]
  ·split
   ·rename_i e
    have:=(h.zero _ _).1 e
    subst this
    simp only [mem_cons]
    constructor
    ·intro k;exact Or.inr k
    ·rintro (k|k)
     ·exact Or.inl k
     ·exact k
   ·simp only [mem_cons]
theorem ycf (h:TO c)(x:α):∀ l:List α,Str c l->Str c (znb c x l)
 |[],_=>by simp [znb,Str]
 |y::l,hl=>by
  obtain ⟨h1,h2⟩:=pairwise_cons.1 hl
  unfold znb
  split
  ·rename_i k
   refine pairwise_cons.2 ⟨fun z hz=>?_,ycf h x l h2⟩
   rcases (zor h x z l).1 hz with e|e
   ·rw [e];exact k
   ·exact h1 z e
  ·split
   ·exact hl
   ·rename_i k1 k2
    have k3:c x y<0:=by have:=h.neg y x;have:=h.one y x;omega
    refine pairwise_cons.2 ⟨fun z hz=>?_,hl⟩
    rcases mem_cons.1 hz with e|e
    ·rw [e];exact k3
    ·exact h.trans _ _ _ k3 (h1 z e)
theorem zko (c:α->α->Int)(x:α):∀ l:List α,(znb c x l).length<=l.length+1
 |[]=>by simp [znb]
 |y::l=>by
  unfold znb
  have:=zko c x l
  split
  ·simp only [length_cons];omega
  ·split<;>simp only [length_cons]<;>omega
theorem y5t (c:α->α->Int)(x:α):∀ l:List α,l.length<=(znb c x l).length
 |[]=>by simp [znb]
 |y::l=>by
  unfold znb
  have:=y5t c x l
  split
  ·simp only [length_cons];omega
  ·split<;>simp only [length_cons]<;>omega
def zki (c:α->α->Int)(s:List α)(l:List α):List α:=l.foldl (fun s x=>znb c x s) s
def zjn (c:α->α->Int)(l:List α):List α:=zki c [] l
theorem zhf (s:List α)(x:α)(l:List α):zki c s (x::l)=zki c (znb c x s) l:=rfl
theorem zj2 (s l m:List α):zki c s (l++m)=zki c (zki c s l) m:=by simp [zki,foldl_append]
theorem zkm (h:TO c)(z:α):∀ (l s:List α),z∈zki c s l ↔ z∈s\/z∈l
 |[],s=>by simp [zki]
 |x::l,s=>by
  rw [zhf,zkm h z l,zor h]
  simp only [mem_cons]
  constructor
  ·rintro ((k|k)|k)<;>simp [k]
  ·rintro (k|k|k)<;>simp [k]
theorem zrc (h:TO c):∀ (l s:List α),Str c s->Str c (zki c s l)
 |[],_,hs=>hs
 |x::l,s,hs=>by rw [zhf];exact zrc h l _ (ycf h x s hs)
theorem zrd:∀ (l s:List α),(zki c s l).length<=s.length+l.length
 |[],s=>by simp [zki]
 |x::l,s=>by
  rw [zhf]
  have:=zrd l (znb c x s)
  have:=zko c x s
  simp only [length_cons];omega
theorem y4h:∀ (l s:List α),s.length<=(zki c s l).length
 |[],s=>by simp [zki]
 |x::l,s=>by
  rw [zhf]
  have:=y4h l (znb c x s)
  have:=y5t c x s
  omega
theorem zfd (h:TO c)(z:α)(l:List α):z∈zjn c l ↔ z∈l:=by unfold zjn;rw [zkm h];simp
theorem zkk (h:TO c)(l:List α):Str c (zjn c l):=zrc h l [] (by simp [Str])
theorem zr9 (l:List α):(zjn c l).length<=l.length:=by have:=zrd (c:=c) l [];simpa [zjn] using this
theorem yfl (h:TO c){l m:List α}(hm:∀ x,x∈l ↔ x∈m):zjn c l=zjn c m:=Str.uniq h (zkk h l) (zkk h m) (fun x=>by rw [zfd h,zfd h,hm])
theorem y8m (h:TO c){l:List α}(hl:Str c l):zjn c l=l:=Str.uniq h (zkk h l) hl (fun x=>zfd h x l)
variable [DecidableEq α]
def ddA (p:α):List α->List α
 |[]=>[]
 |y::l=>if y=p then ddA p l else y::ddA y l
def dd:List α->List α
 |[]=>[]
 |x::l=>x::ddA x l
theorem y0z (p z:α):∀ l:List α,ddA p (l++[z])=ddA p l++(if z=(p::l).getLast (by simp) then [] else [z])
 |[]=>by by_cases h:z=p<;>simp [ddA,h]
 |y::l=>by
  have e:(p::y::l).getLast (by simp)=(y::l).getLast (by simp):=by rw [getLast_cons (by simp)]
  simp only [cons_append,ddA]
  rw [e]
  by_cases h:y=p
  ·subst h
   rw [if_pos rfl,if_pos rfl,y0z y z l]
  ·rw [if_neg h,if_neg h,y0z y z l]
   rfl
theorem zm0 (l:List α)(z:α)(h:l≠[]):dd (l++[z])=dd l++(if z=l.getLast h then [] else [z]):=by
 cases l with
 |nil=>exact absurd rfl h
 |cons x l =>
  show x::ddA x (l++[z])=_
  rw [y0z]
  rfl
theorem ya0 (x:α):∀ (l:List α) (p:α),x∈ddA p l\/x=p ↔ x∈l\/x=p
 |[],p=>by simp [ddA]
 |y::l,p=>by
  unfold ddA
  split
  ·rename_i h
   subst h
   rw [ya0 x l y]
   simp only [mem_cons]
   constructor
   ·rintro (k|k)<;>simp [k]
   ·rintro ((k|k)|k)<;>simp [k]
  ·have:=ya0 x l y
   simp only [mem_cons]
   constructor
   ·rintro ((k|k)|k)
    ·exact Or.inl (Or.inl k)
    ·rcases this.1 (Or.inl k) with q|q
     ·exact Or.inl (Or.inr q)
     ·exact Or.inl (Or.inl q)
    ·exact Or.inr k
   ·rintro ((k|k)|k)
    ·exact Or.inl (Or.inl k)
    ·rcases this.2 (Or.inl k) with q|q
     ·exact Or.inl (Or.inr q)
     ·exact Or.inl (Or.inl q)
    ·exact Or.inr k
theorem yrp (x:α)(l:List α):x∈dd l ↔ x∈l:=by
 cases l with
 |nil=>simp [dd]
 |cons y l =>
  simp only [dd,mem_cons]
  have:=ya0 x l y
  constructor
  ·rintro (k|k)
   ·exact Or.inl k
   ·rcases this.1 (Or.inl k) with q|q
    ·exact Or.inr q
    ·exact Or.inl q
  ·rintro (k|k)
   ·exact Or.inl k
   ·rcases this.2 (Or.inl k) with q|q
    ·exact Or.inr q
    ·exact Or.inl q
theorem y9z (h:TO c):∀ (l:List α) (p:α),(p::l).Pairwise (fun x y=>ltOf c y x=false)->Str c (p::ddA p l)
 |[],p,_=>by simp [ddA,Str]
 |y::l,p,hl=>by
  obtain ⟨h1,h2⟩:=pairwise_cons.1 hl
  have hle:∀ z,z∈y::l->¬c z p<0:=fun z hz=>of_decide_eq_false (h1 z hz)
  unfold ddA
  split
  ·rename_i e
   refine y9z h l p (pairwise_cons.2 ⟨fun z hz=>h1 z (mem_cons_of_mem _ hz),(pairwise_cons.1 h2).2⟩)
  ·rename_i e
   have ih:=y9z h l y h2
   have hpy:c p y<0:=by
    rcases h.tri p y with k|k|k
    ·exact k
    ·exact absurd k.symm e
    ·exact absurd k (hle y (by simp))
   refine pairwise_cons.2 ⟨fun z hz=>?_,ih⟩
   rcases mem_cons.1 hz with k|k
   ·rw [k];exact hpy
   ·exact h.trans _ _ _ hpy ((pairwise_cons.1 ih).1 z k)
theorem yi9 (h:TO c)(l:List α):dd (zqr c l)=zjn c l:=by
 have hs:=zlm h.swo l
 refine Str.uniq h ?_ (zkk h l) (fun x=>by rw [yrp,zfd h];exact (zhv c l).mem_iff)
 cases hq:zqr c l with
 |nil=>simp [dd,Str]
 |cons x q=>rw [hq] at hs;exact y9z h q x hs
end
open Go.RowKit
abbrev Va:=z05
abbrev Ev:=z03
abbrev Exn:=z0s
abbrev be:ByteArray:=ByteArray.empty
abbrev va0:Va:=⟨0,0,ByteArray.empty⟩
def vcP (v:Va):Int :=
 if v.fKind<0 then 1 else if 2<v.fKind then 1 else if v.fKind=2 then (if v.fNum=0 then (if 64<v.fText.size then 13 else 0) else 3) else
 if v.fText=be then (if v.fKind=1 then (if v.fNum<0 then 2 else if 1<v.fNum then 2 else 0) else if v.fNum < -1099511627776 then 2 else if 1099511627776<v.fNum then 2 else 0) else 3
theorem ykw (n:Nat)(v:Va):z3s n v=some (vcP v):=by
 unfold z3s vcP
 simp only [z0d,z0y,zje]
 grind
theorem yao {α β:Type}(p:Prop)[Decidable p](x y:Option α)(k:α->Option β):bnd (if p then x else y) k=if p then bnd x k else bnd y k:=by split<;>rfl
theorem yqh (n:Nat)(v:Va):zc8 n v=some (vcP v):=by
 obtain ⟨k,x,t⟩:=v
 unfold zc8 zgd vcP
 simp only [z0d,z0y,zje]
 by_cases k0:k=0
 ·subst k0
  by_cases ht:t=be
  ·subst ht
   have hs:be.size=0:=rfl
   simp [hs,z04,yao]
   grind
  ·simp [ht]
 ·by_cases k1:k=1
  ·subst k1
   by_cases ht:t=be
   ·subst ht
    have hs:be.size=0:=rfl
    simp [hs,z04,yao]
    grind
   ·simp [ht]
  ·by_cases k2:k=2
   ·subst k2
    simp [z04,yao]
    grind
   grind
theorem yq0 (x y:Va):(decide (x.fKind=y.fKind) && (decide (x.fNum=y.fNum) && ((x.fText.toList == y.fText.toList) && true)))=decide (x=y):=by
 cases x;cases y
 simp [zje]
theorem zza (x:Va):(decide (x.fKind=0) && (decide (x.fNum=0) && ((x.fText.toList == ByteArray.empty.toList) && true)))=decide (x=va0):=yq0 x va0
def arP (op:Int):Int:=if op<0 then -1 else if 12<op then -1 else if op<5 then 0 else if op=12 then 1 else 2
theorem yl0 (n:Nat)(op:Int):zbh n op=some (arP op):=by
 unfold zbh arP
 simp only [z24,z1d,z1w,z1f,z0d,z5c,decide_eq_true_eq]
 by_cases h1:op<0
 ·simp [h1,show op≠0 by omega,show op≠1 by omega,show op≠2 by omega,show op≠3 by omega,show op≠4 by omega,show op≠5 by omega,show op≠6 by omega,show op≠7 by omega,show op≠8 by omega,show op≠9 by omega,show op≠10 by omega,show op≠11 by omega,show op≠12 by omega]
 ·by_cases h2:12<op
  ·simp [h1,h2,show op≠0 by omega,show op≠1 by omega,show op≠2 by omega,show op≠3 by omega,show op≠4 by omega,show op≠5 by omega,show op≠6 by omega,show op≠7 by omega,show op≠8 by omega,show op≠9 by omega,show op≠10 by omega,show op≠11 by omega,show op≠12 by omega]
  ·have:op=0\/op=1\/op=2\/op=3\/op=4\/op=5\/op=6\/op=7\/op=8\/op=9\/op=10\/op=11\/op=12:=by omega
   rcases this with rfl|rfl|rfl|rfl|rfl|rfl|rfl|rfl|rfl|rfl|rfl|rfl|rfl<;>rfl
theorem yob (n:Nat)(op:Int):zii n op=some (if op<0 then (0,false) else if 12<op then (0,false) else (arP op,true)):=by
 unfold zii arP
 simp only [z24,z1d,zdf,z0d,z5c,decide_eq_true_eq,if_true]
 grind
def usV (op:Int):Bool:=decide (op=1) || decide (op=2) || decide (op=3) || decide (op=4)
def usF (op:Int):Bool:=decide (op=1) || decide (op=4)
theorem ynv (n:Nat)(op:Int):zbw n op=some (usV op,usF op):=by
 unfold zbw
 simp only [z24,z1d,z60,z3o,z0d,z5c,decide_eq_true_eq,if_true]
 by_cases h1:op=1
 ·subst h1;rfl
 ·by_cases h2:op=2
  ·subst h2;rfl
  ·by_cases h3:op=3
   ·subst h3;rfl
   ·by_cases h4:op=4
    ·subst h4;rfl
    ·simp [usV,usF,h1,h2,h3,h4]
theorem ymk (n:Nat)(op:Int):zi4 n op=some (usV op,usF op):=by
 unfold zi4
 simp only [z24,z1d,zem,zel,z0d,z5c,decide_eq_true_eq,if_true]
 by_cases h1:op=1
 ·subst h1;rfl
 ·by_cases h2:op=2
  ·subst h2;rfl
  ·by_cases h3:op=3
   ·subst h3;rfl
   ·by_cases h4:op=4
    ·subst h4;rfl
    ·simp [usV,usF,h1,h2,h3,h4]
def suP (k:Int)(v:Va):Bool:=decide (v.fKind=0) || decide (k=4) || decide (k=5)
theorem ynu (n:Nat)(k:Int)(v:Va):zih n k v=some (suP k v):=by
 unfold zih
 simp only [z24,z1d,zbl,z0d]
 by_cases h1:v.fKind=0
 ·simp [suP,h1]
 ·by_cases h2:k=4
  ·simp [suP,h1,h2]
  ·simp [suP,h1,h2]
theorem y0d (n:Nat)(k:Int)(v:Va):z7y n k v=some (decide (k=0) || suP k v):=by
 unfold z7y
 simp only [z24,z1d,z2c,z0d]
 by_cases h1:v.fKind=0
 ·simp [suP,h1]
 ·by_cases h2:k=4
  ·by_cases h3:k=0
   ·simp [suP,h1,h2,h3]
   ·simp [suP,h1,h2]
  ·by_cases h3:k=0
   ·simp [suP,h1,h2,h3]
   ·simp [suP,h1,h2,h3]
def ndP (e:Exn):Int :=
 if arP e.fOp<0 then 1 else if (e.fArgs.length:Int)≠arP e.fOp then 15 else
 if (usV e.fOp && (decide (e.fVar<0) || decide (16<=e.fVar))) || (usF e.fOp && (decide (e.fField<0) || decide (8<=e.fField))) then 2 else
 if decide (e.fOp=4) && (decide (e.fKind<1) || decide (5<e.fKind)) then 1 else
 if (decide (e.fOp=4) || decide (e.fOp=0)) && !decide (vcP e.fValue=0) then vcP e.fValue else
 if decide (e.fOp=4) && (!(suP e.fKind e.fValue) || (decide (e.fKind=1) && !decide (e.fValue=va0))) then 9 else
 if (!(usV e.fOp) && !decide (e.fVar=0)) || (!(usF e.fOp) && !decide (e.fField=0)) || (!decide (e.fOp=4) && !decide (e.fKind=0)) || (!(decide (e.fOp=4) || decide (e.fOp=0)) && !decide (e.fValue=va0)) then 3 else 0
theorem yd6 (op:Int)(h:¬arP op<0):op=0\/op=1\/op=2\/op=3\/op=4\/(usV op=false/\usF op=false/\op≠0/\op≠4):=by
 unfold arP at h
 by_cases h0:op=0
 ·exact Or.inl h0
 by_cases h1:op=1
 ·exact Or.inr (Or.inl h1)
 by_cases h2:op=2
 ·exact Or.inr (Or.inr (Or.inl h2))
 by_cases h3:op=3
 ·omega
 by_cases h4:op=4
 ·omega
 exact Or.inr (Or.inr (Or.inr (Or.inr (Or.inr ⟨by simp [usV,h1,h2,h3,h4],by simp [usF,h1,h4],h0,h4⟩))))
theorem us0:usV 0=false/\usF 0=false:=by decide
theorem us1:usV 1=true/\usF 1=true:=by decide
theorem us2:usV 2=true/\usF 2=false:=by decide
theorem us3:usV 3=true/\usF 3=false:=by decide
theorem us4:usV 4=true/\usF 4=true:=by decide
theorem ynw (n:Nat)(e:Exn):zbx n e=some (ndP e):=by
 unfold zbx
 rw [yl0,z04,ynv]
 simp only [z04,length_map,z0d,z0y,ykw,y0d,z24,z1d,z1e,z3q,z62,z61,z2q,z0j,zza]
 unfold ndP
 by_cases ha:arP e.fOp<0
 ·rw [if_pos ha,if_pos ha]
 rw [if_neg ha,if_neg ha]
 by_cases hl:(e.fArgs.length:Int)=arP e.fOp
 rotate_left
 ·rw [if_neg hl,if_pos hl]
 rw [if_pos hl,if_neg (show ¬((e.fArgs.length:Int)≠arP e.fOp) from fun h=>h hl)]
 have hc:=yd6 e.fOp ha
 obtain ⟨op,args,var,field,kind,val⟩:=e
 simp only at *
 clear hl ha
 rcases hc with rfl|rfl|rfl|rfl|rfl|⟨h1,h2,h3,h4⟩
 ·simp [us0,z5c]
  grind
 ·simp [us1,z5c]
  grind
 ·simp [us2,z5c]
  grind
 ·simp [us3,z5c]
  grind
 ·simp [us4,z5c]
  grind
 ·simp [h1,h2,h3,h4,z5c]
  grind
open Go.RowKit
theorem y9d (n:Nat)(e:Exn):zfo n e=some (if vcP e.fValue=0 then (if decide (e.fOp=4) && (!(suP e.fKind e.fValue) || (decide (e.fKind=1) && !decide (e.fValue=va0))) then 9 else 0) else vcP e.fValue):=by
 unfold zfo
 rw [yqh,z04]
 simp only [z0d,z0y,ynu,z04,z24,z1d,z69,zza]
 obtain ⟨op,args,var,field,kind,val⟩:=e
 simp only
 by_cases h:op=4
 ·subst h
  simp [z5c]
  grind
 ·simp [h,z5c]
  split<;>rfl
theorem yqn (n:Nat)(e:Exn):zjk n e=some (ndP e):=by
 unfold zjk
 rw [yob,z04,ymk]
 simp only [z04,length_map,z0d,z0y,y9d,z24,z1d,z6j,zce,zeo,zen,z12,zza]
 unfold ndP
 by_cases ha:arP e.fOp<0
 ·rw [if_pos ha]
  have:e.fOp<0\/12<e.fOp:=by
   unfold arP at ha
   by_cases h1:e.fOp<0
   ·exact Or.inl h1
   ·omega
  rcases this with h|h
  ·rw [if_pos h,z5d]
  ·by_cases h':e.fOp<0
   ·rw [if_pos h',z5d]
   ·rw [if_neg h',if_pos h,z5d]
 have hb:¬e.fOp<0/\¬12<e.fOp:=by
  unfold arP at ha
  refine ⟨fun h=>ha (by rw [if_pos h];decide),fun h=>ha ?_⟩
  by_cases h1:e.fOp<0
  ·rw [if_pos h1];decide
  ·rw [if_neg h1,if_pos h];decide
 rw [if_neg hb.1,if_neg hb.2,if_neg ha,z4u]
 by_cases hl:(e.fArgs.length:Int)=arP e.fOp
 rotate_left
 ·rw [if_neg hl,if_pos hl]
 rw [if_pos hl,if_neg (show ¬((e.fArgs.length:Int)≠arP e.fOp) from fun h=>h hl)]
 have hc:=yd6 e.fOp ha
 obtain ⟨op,args,var,field,kind,val⟩:=e
 simp only at *
 clear hl ha hb
 rcases hc with rfl|rfl|rfl|rfl|rfl|⟨h1,h2,h3,h4⟩
 ·simp [us0,z5c]
  grind
 ·simp [us1,z5c]
  grind
 ·simp [us2,z5c]
  grind
 ·simp [us3,z5c]
  grind
 ·simp [us4,z5c]
  grind
 ·simp [h1,h2,h3,h4,z5c]
  grind
inductive ETr:Nat->Exn->Prop
 |mk (l:List (Nat×Exn)) (e:Exn) (h:∀ p∈l,ETr p.1 p.2) (ha:e.fArgs=l.map (fun p=>z0l p.2)):ETr (1+(l.map (·.1)).sum) e
inductive yk7:Nat->Exn->Prop
 |mk (l:List (Nat×Exn)) (e:Exn) (hn:ndP e=0) (h:∀ p∈l,yk7 p.1 p.2) (ha:e.fArgs=l.map (fun p=>z0l p.2)):yk7 (1+(l.map (·.1)).sum) e
theorem ETr.pos {s:Nat}{e:Exn}(h:ETr s e):1<=s:=by cases h;omega
theorem znr {l:List (Nat×Exn)}{p:Nat×Exn}(h:p∈l):p.1<=(l.map (·.1)).sum:=by
 induction l with
 |nil=>cases h
 |cons x l ih =>
  grind
theorem zs1 {l:List (Nat×Exn)}(h:∀ p∈l,1<=p.1):l.length<=(l.map (·.1)).sum:=by
 induction l with
 |nil=>simp
 |cons x l ih =>
  grind
def ybd (l:List (Nat×Exn))(k:Nat):Nat:=((l.take k).map (·.1)).sum
theorem y4k {l:List (Nat×Exn)}{k:Nat}(h:k<l.length):ybd l (k+1)=ybd l k+l[k].1:=by
 unfold ybd
 rw [take_succ_eq_append_getElem h,map_append,sum_append]
 simp_all
theorem ybc {l:List (Nat×Exn)}{k:Nat}(h:l.length<=k):ybd l k=(l.map (·.1)).sum:=by unfold ybd;rw [take_of_length_le h]
theorem yg6 (l:List (Nat×Exn))(k:Nat):ybd l k<=(l.map (·.1)).sum:=by
 unfold ybd
 conv=>rhs;rw [<-take_append_drop k l]
 grind
theorem zkq {β:Type}{l:List (Nat×Exn)}{k:Nat}(h:k<l.length)(K:Exn->Option β):zrl z1y (l.map fun p=>z0l p.2) (k:Int) K=K l[k].2:=by
 unfold zrl
 rw [if_pos (by omega)]
 simp only [Int.toNat_natCast,getElem?_map,getElem?_eq_getElem h,Option.map_some,zcq]
theorem zy4 (most:Int)(hm:0<=most)(hm2:most<=1000000)(n:Nat)(l:List (Nat×Exn))(e:Exn)(ha:e.fArgs=l.map (fun p=>z0l p.2))(hs:(l.map (·.1)).sum<=4000000)(hl:l.length<=4000000)
  (ih:∀ p∈l,∃ c:Int,z30 n p.2 most=some c/\1<=c/\c<=p.1/\(c<=most->c=p.1)) :
  ∀ (m k:Nat) (v:Int),k<=l.length->l.length<m+k->1<=v->v<=1+ybd l k->(v<=most->v=1+ybd l k) ->
   ∃ c:Int,z3d n (z30 n) most e (fun y=>some y) m (v,(k:Int))=some c/\1<=c/\c<=1+(l.map (·.1)).sum/\(c<=most->c=1+(l.map (·.1)).sum)
 |0,k,v,h1,h2,_,_,_=>by omega
 |m+1,k,v,h1,h2,h3,h4,h5=>by
  unfold z3d
  simp only [z24,z1d,z52,ha,length_map,z0d,z5d]
  have hle:=yg6 l k
  by_cases h:k<l.length
  ·rw [if_pos (by omega)]
   by_cases hv:v<=most
   ·rw [if_pos hv,zkq h]
    obtain ⟨c,c1,c2,c3,c4⟩:=ih l[k] (getElem_mem h)
    rw [c1,z04,z1s k (by omega),zee _ (by have:=znr (getElem_mem h);omega)]
    have hp:=y4k h
    have hv5:=h5 hv
    exact zy4 most hm hm2 n l e ha hs hl ih m (k+1) (v+c) (by omega) (by omega) (by omega) (by omega) (fun hq=>by have:=c4 (by omega);omega)
   grind
  ·rw [if_neg (by omega)]
   have hp:=ybc (l:=l) (k:=k) (by omega)
   grind
theorem ygy (most:Int)(hm:0<=most)(hm2:most<=1000000):∀ (s:Nat) (e:Exn),ETr s e->s<=4000000->∀ n,s+1<n->∃ c:Int,z30 n e most=some c/\1<=c/\c<=s/\(c<=most->c=s):=by
 intro s
 induction s using Nat.strongRecOn with
 |ind s IH =>
  intro e ht hs n hn
  cases ht with
  |mk l e h ha =>
   obtain ⟨n',rfl⟩:∃ n',n=n' + 1:=⟨n-1,by omega⟩
   have hl:=zs1 (l:=l) (fun p hp=>(h p hp).pos)
   simp only [z30]
   obtain ⟨c,c1,c2,c3,c4⟩:=zy4 most hm hm2 n' l e ha (by omega) (by omega) (fun p hp=>by
    have:=znr hp
    exact IH p.1 (by omega) p.2 (h p hp) (by omega) n' (by omega)) n' 0 1 (by omega) (by omega) (by omega) (by omega) (fun _=>by simp [ybd])
   grind
theorem y4p (n:Nat)(l:List (Nat×Exn))(e:Exn)(ha:e.fArgs=l.map (fun p=>z0l p.2))(hs:(l.map (·.1)).sum<=4000000)(hl:l.length<=4000000)
  (ih:∀ p∈l,∃ d:Int,z2z n p.2=some d/\zfm n p.2=some ((p.1:Int),d)/\0<=d/\d<=p.1) :
  ∀ (m k:Nat) (d:Int),k<=l.length->l.length<m+k->0<=d->d<=ybd l k ->
   ∃ D:Int,z7i n (z2z n) e (fun y=>some (IntKind.wrap .i64 (y+1))) m (d,(k:Int))=some (D+1)/\zfu n (zfm n) e (fun y0 y1=>some (y0,(IntKind.wrap .i64 (y1+1)))) m (((1+ybd l k:Nat):Int),d,(k:Int))=some (((1+(l.map (·.1)).sum:Nat):Int),D+1)/\0<=D/\D<=(l.map (·.1)).sum
 |0,k,d,h1,h2,_,_=>by omega
 |m+1,k,d,h1,h2,h3,h4=>by
  unfold z7i zfu
  simp only [ha,length_map,z0d]
  have hle:=yg6 l k
  by_cases h:k<l.length
  ·rw [if_pos (by omega),if_pos (by omega),zkq h,zkq h]
   obtain ⟨c,c1,c2,c3,c4⟩:=ih l[k] (getElem_mem h)
   have hp:=y4k h
   have hm:=znr (getElem_mem h)
   rw [c1,c2,z04,z04,z1s k (by omega),zee _ (by omega)]
   have e1:(((1+ybd l k:Nat):Int)+((l[k].1:Nat):Int))=((1+ybd l (k+1):Nat):Int):=by omega
   simp only
   rw [e1]
   exact y4p n l e ha hs hl ih m (k+1) (max d c) (by omega) (by omega) (by omega) (by omega)
  ·rw [if_neg (by omega),if_neg (by omega)]
   have hp:=ybc (l:=l) (k:=k) (by omega)
   refine ⟨d,by rw [zee _ (by omega)],?_,h3,by omega⟩
   rw [zee _ (by omega),hp]
theorem ymm:∀ (s:Nat) (e:Exn),ETr s e->s<=4000000->∀ n,s+1<n->∃ d:Int,z2z n e=some d/\zfm n e=some ((s:Int),d)/\0<=d/\d<=s:=by
 intro s
 induction s using Nat.strongRecOn with
 |ind s IH =>
  intro e ht hs n hn
  cases ht with
  |mk l e h ha =>
   obtain ⟨n',rfl⟩:∃ n',n=n' + 1:=⟨n-1,by omega⟩
   have hl:=zs1 (l:=l) (fun p hp=>(h p hp).pos)
   simp only [z2z,zfm]
   obtain ⟨D,d1,d2,d3,d4⟩:=y4p n' l e ha (by omega) (by omega) (fun p hp=>by
    have:=znr hp
    exact IH p.1 (by omega) p.2 (h p hp) (by omega) n' (by omega)) n' 0 0 (by omega) (by omega) (by omega) (by simp)
   exact ⟨D+1,d1,d2,by omega,by push_cast;omega⟩
theorem zxv (n:Nat)(l:List (Nat×Exn))(e:Exn)(ha:e.fArgs=l.map (fun p=>z0l p.2))(hl:l.length<=4000000)
  (ih:∀ p∈l,∃ r:Int,z3p n p.2=some r/\ze2 n p.2=some r/\(r=0->yk7 p.1 p.2)) :
  ∀ (m k:Nat),k<=l.length->l.length<m+k->(∀ p∈l.take k,yk7 p.1 p.2) ->
   ∃ r:Int,z7h n (z3p n) e (some 0) m (k:Int)=some r/\zf7 n (ze2 n) e (some 0) m (k:Int)=some r/\(r=0->∀ p∈l,yk7 p.1 p.2)
 |0,k,h1,h2,_=>by omega
 |m+1,k,h1,h2,h3=>by
  unfold z7h zf7
  simp only [ha,length_map,z0d,z0y]
  by_cases h:k<l.length
  ·rw [if_pos (by omega),if_pos (by omega),zkq h,zkq h]
   obtain ⟨r,r1,r2,r3⟩:=ih l[k] (getElem_mem h)
   rw [r1,r2,z04,z04,z1s k (by omega)]
   by_cases hr:r=0
   ·rw [if_pos hr,if_pos hr]
    refine zxv n l e ha hl ih m (k+1) (by omega) (by omega) (fun p hp=>?_)
    rw [take_succ_eq_append_getElem h,mem_append,mem_singleton] at hp
    grind
   simp_all
  ·rw [if_neg (by omega),if_neg (by omega)]
   grind
theorem ynt:∀ (s:Nat) (e:Exn),ETr s e->s<=4000000->∀ n,s+1<n->∃ r:Int,z3p n e=some r/\ze2 n e=some r/\(r=0->yk7 s e):=by
 intro s
 induction s using Nat.strongRecOn with
 |ind s IH =>
  intro e ht hs n hn
  cases ht with
  |mk l e h ha =>
   obtain ⟨n',rfl⟩:∃ n',n=n' + 1:=⟨n-1,by omega⟩
   have hl:=zs1 (l:=l) (fun p hp=>(h p hp).pos)
   simp only [z3p,ze2,ynw,yqn,z04,z0y,z0d]
   by_cases hn0:ndP e=0
   ·rw [if_pos hn0,if_pos hn0]
    obtain ⟨r,r1,r2,r3⟩:=zxv n' l e ha (by omega) (fun p hp=>by
     have:=znr hp
     exact IH p.1 (by omega) p.2 (h p hp) (by omega) n' (by omega)) n' 0 (by omega) (by omega) (by simp)
    exact ⟨r,r1,r2,fun hr=>.mk l e hn0 (r3 hr) ha⟩
   simp_all
theorem yh0 (s:Nat)(e:Exn)(ht:ETr s e)(hs:s<=4000000)(n:Nat)(hn:s+1<n):∃ r:Int,z31 n e=some r/\ze4 n e=some r/\(r=0->yk7 s e):=by
 obtain ⟨c,c1,c2,c3,c4⟩:=ygy 64 (by omega) (by omega) s e ht hs n hn
 obtain ⟨d,d1,d2,d3,d4⟩:=ymm s e ht hs n hn
 obtain ⟨r,r1,r2,r3⟩:=ynt s e ht hs n hn
 unfold z31 ze4
 rw [c1,d1,d2,r1,r2]
 simp only [z04,z0d]
 grind
end Go.Proofs.YtidhlpjgifoneaaGreat
