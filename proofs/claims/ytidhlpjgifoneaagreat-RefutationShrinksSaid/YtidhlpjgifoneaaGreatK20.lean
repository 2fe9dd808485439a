/- Layer 25. -/
import Derived.Test.YtidhlpjgifoneaaGreatK19
set_option linter.unusedVariables false
set_option linter.unusedSimpArgs false
namespace Go.Proofs.YtidhlpjgifoneaaGreat
open Go.RowKit List
variable {f:FuncId}
theorem Con.lo {fr:Bool}{avs:List AV}{res:AV}(h:Con E0d fr f avs res):Con E0 fr f avs res :=
 ⟨h.1,fun S w vs ha=>(h.2 S w vs ha).mono fun e w' ⟨v,h1,h2,h3⟩=>⟨v,h1,ysr h2.1,h3⟩⟩
abbrev Bd:=z0h
abbrev Sta:=z0a
abbrev Ma:=z06
abbrev Cf:=z00
variable {α:Type}
theorem z0e (l:List α)(k:Nat)(h:k<l.length):l.drop k=l[k]::l.drop (k+1):=drop_eq_getElem_cons h
def cmpI (a b:Int):Int:=if a<b then -1 else if b<a then 1 else 0
def or2 (a b:Int):Int:=if a=0 then b else a
def or3 (a b c:Int):Int:=if a=0 then (if b=0 then c else b) else a
structure TO {α:Type} (c:α->α->Int):Prop where
 one:∀ a b,c a b=-1\/c a b=0\/c a b=1
 zero:∀ a b,c a b=0 ↔ a=b
 neg:∀ a b,c b a=- c a b
 trans:∀ a b d,c a b<0->c b d<0->c a d<0
theorem zoo:TO cmpI where
 one a b:=by unfold cmpI;split<;>(try split)<;>omega
 zero a b:=by unfold cmpI;split<;>(try split)<;>omega
 neg a b:=by unfold cmpI;omega
 trans a b d:=by unfold cmpI;omega
theorem TO.or2 {β γ:Type}{c:β->β->Int}{d:γ->γ->Int}(hc:TO c)(hd:TO d)(f:α->β)(g:α->γ)(hi:∀ a b,f a=f b->g a=g b->a=b):TO (fun a b=>or2 (c (f a) (f b)) (d (g a) (g b))) where
 one a b:=by
  unfold Proofs.YtidhlpjgifoneaaGreat.or2
  split
  ·exact hd.one _ _
  ·exact hc.one _ _
 zero a b:=by
  unfold Proofs.YtidhlpjgifoneaaGreat.or2
  split
  ·rename_i h
   rw [hd.zero]
   exact ⟨fun k=>hi a b ((hc.zero _ _).1 h) k,fun k=>by rw [k]⟩
  ·rename_i h
   exact ⟨fun k=>absurd k h,fun k=>absurd ((hc.zero _ _).2 (by rw [k])) h⟩
 neg a b:=by
  unfold Proofs.YtidhlpjgifoneaaGreat.or2
  rw [hc.neg (f a) (f b),hd.neg (g a) (g b)]
  omega
 trans a b e:=by
  unfold Proofs.YtidhlpjgifoneaaGreat.or2
  intro h1 h2
  by_cases k1:c (f a) (f b)=0
  ·rw [if_pos k1] at h1
   have k1':=(hc.zero _ _).1 k1
   rw [k1']
   by_cases k2:c (f b) (f e)=0
   ·rw [if_pos k2] at h2 ⊢
    exact hd.trans _ _ _ h1 h2
   omega
  ·rw [if_neg k1] at h1
   by_cases k2:c (f b) (f e)=0
   ·have k2':=(hc.zero _ _).1 k2
    simp_all
   ·rw [if_neg k2] at h2
    have:=hc.trans _ _ _ h1 h2
    omega
theorem TO.map {β:Type}{c:β->β->Int}(hc:TO c)(f:α->β)(hi:∀ a b,f a=f b->a=b):TO (fun a b=>c (f a) (f b)) where
 one a b:=hc.one _ _
 zero a b:=⟨fun h=>hi _ _ ((hc.zero _ _).1 h),fun h=>by rw [h];exact (hc.zero _ _).2 rfl⟩
 neg a b:=hc.neg _ _
 trans a b d:=hc.trans _ _ _
def lexC (c:α->α->Int):List α->List α->Int
 |[],[]=>0
 |[],_::_=>-1
 |_::_,[]=>1
 |a::x,b::y=>Proofs.YtidhlpjgifoneaaGreat.or2 (c a b) (lexC c x y)
theorem TO.lex {c:α->α->Int}(hc:TO c):TO (lexC c) where
 one a b:=by
  induction a generalizing b with
  |nil=>cases b<;>simp [lexC]
  |cons x a ih =>
   cases b with
   |nil=>simp [lexC]
   |cons y b =>
    unfold lexC Proofs.YtidhlpjgifoneaaGreat.or2
    split
    ·exact ih b
    ·exact hc.one _ _
 zero a b:=by
  induction a generalizing b with
  |nil=>cases b<;>simp [lexC]
  |cons x a ih =>
   cases b with
   |nil=>simp [lexC]
   |cons y b =>
    unfold lexC Proofs.YtidhlpjgifoneaaGreat.or2
    by_cases h:c x y=0
    ·rw [if_pos h,ih,(hc.zero _ _).1 h];simp
    ·rw [if_neg h]
     exact ⟨fun k=>absurd k h,fun k=>by injection k with k _;exact absurd ((hc.zero _ _).2 k) h⟩
 neg a b:=by
  induction a generalizing b with
  |nil=>cases b<;>simp [lexC]
  |cons x a ih =>
   cases b with
   |nil=>simp [lexC]
   |cons y b =>
    unfold lexC Proofs.YtidhlpjgifoneaaGreat.or2
    rw [hc.neg x y,ih b]
    omega
 trans a b d:=by
  induction a generalizing b d with
  |nil =>
   intro h1 h2
   cases b with
   |nil=>simp [lexC] at h1
   |cons y b=>cases d with
    |nil=>simp [lexC] at h2
    |cons z d=>simp [lexC]
  |cons x a ih =>
   intro h1 h2
   cases b with
   |nil=>simp [lexC] at h1
   |cons y b =>
    cases d with
    |nil=>simp [lexC] at h2
    |cons z d =>
     unfold lexC Proofs.YtidhlpjgifoneaaGreat.or2 at h1 h2 ⊢
     by_cases k1:c x y=0
     ·rw [if_pos k1] at h1
      have k1':=(hc.zero _ _).1 k1
      grind
     ·rw [if_neg k1] at h1
      by_cases k2:c y z=0
      ·have k2':=(hc.zero _ _).1 k2
       simp_all
      ·rw [if_neg k2] at h2
       have:=hc.trans _ _ _ h1 h2
       omega
section
variable {α:Type} {c:α->α->Int}
theorem TO.irr (h:TO c)(a:α):¬c a a<0:=by rw [(h.zero a a).2 rfl];decide
theorem TO.tri (h:TO c)(a b:α):c a b<0\/a=b\/c b a<0:=by
 have h1:=h.zero a b
 have h2:=h.neg a b
 grind
theorem TO.swo (h:TO c):Go.Sort.SWO (ltOf c):=by
 have hl:∀ x y,ltOf c x y=decide (c x y<0):=fun x y=>rfl
 refine ⟨fun x=>?_,fun x y z h1 h2=>?_,fun x y z h1 h2=>?_⟩<;>simp only [hl,decide_eq_true_eq,decide_eq_false_iff_not] at *
 ·exact h.irr x
 ·exact h.trans _ _ _ h1 h2
 ·intro h3
  rcases h.tri y x with k|k|k
  ·rcases h.tri z y with q|q|q
   ·exact h.irr x (h.trans _ _ _ (h.trans _ _ _ h3 q) k)
   all_goals grind
  all_goals simp_all
theorem TO.ties (h:TO c)(l:List α):∀ x∈l,∀ y∈l,ltOf c x y=false->ltOf c y x=false->x=y:=fun x _ y _ h1 h2=>by
 have h1:¬c x y<0:=of_decide_eq_false h1
 have h2:¬c y x<0:=of_decide_eq_false h2
 rcases h.tri x y with k|k|k
 all_goals simp_all
end
def rCmp (a b:z1f):Int:=or3 (cmpI a.fTime b.fTime) (cmpI a.fSource b.fSource) (cmpI a.fSeq b.fSeq)
theorem zv3:TO rCmp:=(zoo.or2 (zoo.or2 zoo (fun p:Int×Int=>p.1) (fun p=>p.2) (fun a b h k=>Prod.ext h k)) (fun r:z1f=>r.fTime) (fun r=>(r.fSource,r.fSeq)) (fun a b h k=>by
 cases a;simp_all))
def zsd (a b:Bd):Int:=or2 (rCmp a.fRef b.fRef) (cmpI a.fVar b.fVar)
theorem yeg:TO zsd:=zv3.or2 zoo (fun b:Bd=>b.fRef) (fun b=>b.fVar) (fun a b h k=>by cases a;simp_all)
def zut (a b:Sta):Int:=or2 (cmpI a.fScope b.fScope) (cmpI a.fTime b.fTime)
theorem ykd:TO zut:=zoo.or2 zoo (fun b:Sta=>b.fScope) (fun b=>b.fTime) (fun a b h k=>by cases a;simp_all)
def zbv (a b:Ma):Int:=lexC zsd a.fBindings b.fBindings
theorem zg1:TO zbv:=yeg.lex.map (fun m:Ma=>m.fBindings) (fun a b h=>by cases a;cases b;simp only at h;rw [h])
def zbk (a b:Cf):Int:=or3 (cmpI a.fState b.fState) (lexC zsd a.fBindings b.fBindings) (lexC zut a.fStarts b.fStarts)
theorem cfCmp_to:TO zbk:=(zoo.or2 (yeg.lex.or2 ykd.lex (fun p:List Bd×List Sta=>p.1) (fun p=>p.2) (fun a b h k=>Prod.ext h k)) (fun c:Cf=>c.fState) (fun c=>(c.fBindings,c.fStarts)) (fun a b h k=>by
 cases a;simp_all))
theorem y3r (n:Nat)(a b:Int):z86 n a b=some (cmpI a b):=by
 unfold z86 zhs
 simp only [z04,decide_true,Bool.not_true,z6e,z0c,cmpI]
 split
 ·rfl
 ·split<;>rfl
theorem yip (n:Nat)(a b:Int):zfx (n+3) [a,b]=some (or2 a b):=by
 have w0:IntKind.wrap .i64 ((0:Int)+1)=1:=by decide
 have w1:IntKind.wrap .i64 ((1:Int)+1)=2:=by decide
 unfold zfx or2
 simp only [zgt,map_cons,map_nil,length_cons,length_nil,z0c,z0y,w0,w1]
 simp only [idx]
 by_cases ha:a=0
 ·by_cases hb:b=0<;>simp [ha,hb]
 ·simp [ha]
theorem yio (n:Nat)(a b c:Int):zfx (n+4) [a,b,c]=some (or3 a b c):=by
 have w0:IntKind.wrap .i64 ((0:Int)+1)=1:=by decide
 have w1:IntKind.wrap .i64 ((1:Int)+1)=2:=by decide
 have w2:IntKind.wrap .i64 ((2:Int)+1)=3:=by decide
 unfold zfx or3
 simp only [zgt,map_cons,map_nil,length_cons,length_nil,z0c,z0y,w0,w1,w2]
 simp only [idx]
 by_cases ha:a=0
 ·by_cases hb:b=0
  ·by_cases hc:c=0<;>simp [ha,hb,hc]
  ·simp [ha,hb]
 ·simp [ha]
theorem ylm (n:Nat)(a b:z1f):zh8 (n+4) a b=some (rCmp a b):=by
 unfold zh8
 simp only [z04,y3r,yio]
 rfl
theorem yr9 (n:Nat)(a b:Bd):zdi (n+4) a b=some (zsd a b):=by
 unfold zdi
 simp only [z04,y3r,ylm,show n+4=(n+1)+3 from rfl,yip]
 rfl
theorem yr6 (n:Nat)(a b:Sta):zf6 (n+4) a b=some (zut a b):=by
 unfold zf6
 simp only [z04,y3r,show n+4=(n+1)+3 from rfl,yip]
 rfl
theorem y25 (n:Nat)(b a:List Bd)(hb:b.length<=1000000000)(hal:a.length<=1000000000):∀ (m k:Nat),k<=a.length->k<=b.length->a.length<m+k ->
  z6m (n+4) b a (if a.length<b.length then some (-1) else some 0) m k=some (lexC zsd (a.drop k) (b.drop k))
 |0,k,h1,_,h3=>by omega
 |m+1,k,h1,h2,h3=>by
  unfold z6m
  simp only [length_map,z0c,z0y]
  by_cases h:k<a.length
  ·rw [if_pos (by omega),z0j h,z0e a k h]
   by_cases h':b.length<=k
   ·rw [if_pos (by omega),drop_eq_nil_of_le h']
    rfl
   ·rw [if_neg (by omega),z0j (by omega:k<b.length),z0e b k (by omega)]
    rw [yr9,z04,z1o k (by omega),y25 n b a hb hal m (k+1) (by omega) (by omega) (by omega)]
    show _=some (or2 (zsd _ _) _)
    unfold or2
    split<;>rfl
  ·rw [if_neg (by omega),drop_eq_nil_of_le (by omega:a.length<=k)]
   by_cases h':a.length<b.length
   ·rw [if_pos h',z0e b k (by omega)];rfl
   ·rw [if_neg h',drop_eq_nil_of_le (by omega)];rfl
theorem yp3 (n:Nat)(a b:List Bd)(hn:a.length<n)(h4:4<=n)(hb:b.length<=1000000000)(hal:a.length<=1000000000):zb8 n a b=some (lexC zsd a b):=by
 obtain ⟨m,rfl⟩:∃ m,n=m+4:=⟨n-4,by omega⟩
 unfold zb8
 have:=y25 m b a hb hal (m+4) 0 (by omega) (by omega) (by omega)
 simp only [Int.natCast_zero,drop_zero] at this
 rw [<-this]
 congr 1
 simp only [length_map,z0c]
 split<;>split<;>first|rfl|omega
theorem y24 (n:Nat)(b a:List Sta)(hb:b.length<=1000000000)(hal:a.length<=1000000000):∀ (m k:Nat),k<=a.length->k<=b.length->a.length<m+k ->
  z4f (n+4) b a (if a.length<b.length then some (-1) else some 0) m k=some (lexC zut (a.drop k) (b.drop k))
 |0,k,h1,_,h3=>by omega
 |m+1,k,h1,h2,h3=>by
  unfold z4f
  simp only [length_map,z0c,z0y]
  by_cases h:k<a.length
  ·rw [if_pos (by omega),z0j h,z0e a k h]
   by_cases h':b.length<=k
   ·rw [if_pos (by omega),drop_eq_nil_of_le h']
    rfl
   ·rw [if_neg (by omega),z0j (by omega:k<b.length),z0e b k (by omega)]
    rw [yr6,z04,z1o k (by omega),y24 n b a hb hal m (k+1) (by omega) (by omega) (by omega)]
    show _=some (or2 (zut _ _) _)
    unfold or2
    split<;>rfl
  ·rw [if_neg (by omega),drop_eq_nil_of_le (by omega:a.length<=k)]
   by_cases h':a.length<b.length
   ·rw [if_pos h',z0e b k (by omega)];rfl
   ·rw [if_neg h',drop_eq_nil_of_le (by omega)];rfl
theorem yp2 (n:Nat)(a b:List Sta)(hn:a.length<n)(h4:4<=n)(hb:b.length<=1000000000)(hal:a.length<=1000000000):z9j n a b=some (lexC zut a b):=by
 obtain ⟨m,rfl⟩:∃ m,n=m+4:=⟨n-4,by omega⟩
 unfold z9j
 have:=y24 m b a hb hal (m+4) 0 (by omega) (by omega) (by omega)
 simp only [Int.natCast_zero,drop_zero] at this
 rw [<-this]
 congr 1
 simp only [length_map,z0c]
 split<;>split<;>first|rfl|omega
theorem ymt (n:Nat)(a b:Ma)(hn:a.fBindings.length<n)(h4:4<=n)(hb:b.fBindings.length<=1000000000)(hal:a.fBindings.length<=1000000000):zf9 n a b=some (zbv a b):=by
 unfold zf9
 rw [yp3 n _ _ hn h4 hb hal,z04]
 rfl
theorem yp1 (n:Nat)(a b:Cf)(hn:a.fBindings.length<n)(hn2:a.fStarts.length<n)(h4:4<=n)(hb:b.fBindings.length<=1000000000)(hal:a.fBindings.length<=1000000000)(hb2:b.fStarts.length<=1000000000)(hal2:a.fStarts.length<=1000000000):zhp n a b=some (zbk a b):=by
 unfold zhp
 rw [y3r,z04,ymt n _ _ hn h4 hb hal,z04,yp2 n _ _ hn2 h4 hb2 hal2,z04]
 obtain ⟨m,rfl⟩:∃ m,n=m+4:=⟨n-4,by omega⟩
 rw [yio,z04]
 rfl
theorem yaz (n:Nat)(a b:Int):z3e n a b=some (cmpI a b):=by
 unfold z3e zjx
 simp only [z04,decide_true,Bool.not_true,z6e,z0c,cmpI]
 split
 ·rfl
 ·split<;>rfl
theorem yr8 (n:Nat)(a b:Int):zhb (n+3) [a,b]=some (or2 a b):=by
 have w0:IntKind.wrap .i64 ((0:Int)+1)=1:=by decide
 have w1:IntKind.wrap .i64 ((1:Int)+1)=2:=by decide
 unfold zhb or2
 simp only [zi8,map_cons,map_nil,length_cons,length_nil,z0c,z0y,w0,w1]
 simp only [idx]
 by_cases ha:a=0
 ·by_cases hb:b=0<;>simp [ha,hb]
 ·simp [ha]
theorem yln (n:Nat)(a b c:Int):zhb (n+4) [a,b,c]=some (or3 a b c):=by
 have w0:IntKind.wrap .i64 ((0:Int)+1)=1:=by decide
 have w1:IntKind.wrap .i64 ((1:Int)+1)=2:=by decide
 have w2:IntKind.wrap .i64 ((2:Int)+1)=3:=by decide
 unfold zhb or3
 simp only [zi8,map_cons,map_nil,length_cons,length_nil,z0c,z0y,w0,w1,w2]
 simp only [idx]
 by_cases ha:a=0
 ·by_cases hb:b=0
  ·by_cases hc:c=0<;>simp [ha,hb,hc]
  ·simp [ha,hb]
 ·simp [ha]
theorem yr7 (n:Nat)(a b:z1f):zil (n+4) a b=some (rCmp a b):=by
 unfold zil
 simp only [z04,yaz,yln]
 rfl
theorem f_bd (n:Nat)(a b:Bd):zfa (n+4) a b=some (zsd a b):=by
 unfold zfa
 simp only [z04,yaz,yr7,show n+4=(n+1)+3 from rfl,yr8]
 rfl
theorem f_st (n:Nat)(a b:Sta):zgj (n+4) a b=some (zut a b):=by
 unfold zgj
 simp only [z04,yaz,show n+4=(n+1)+3 from rfl,yr8]
 rfl
theorem ye3 (n:Nat)(b a:List Bd)(hb:b.length<=1000000000)(hal:a.length<=1000000000):∀ (m k:Nat),k<=a.length->k<=b.length->a.length<m+k ->
  z8l (n+4) b a (if a.length<b.length then some (-1) else some 0) m k=some (lexC zsd (a.drop k) (b.drop k))
 |0,k,h1,_,h3=>by omega
 |m+1,k,h1,h2,h3=>by
  unfold z8l
  simp only [length_map,z0c,z0y]
  by_cases h:k<a.length
  ·rw [if_pos (by omega),z0j h,z0e a k h]
   by_cases h':b.length<=k
   ·rw [if_pos (by omega),drop_eq_nil_of_le h']
    rfl
   ·rw [if_neg (by omega),z0j (by omega:k<b.length),z0e b k (by omega)]
    rw [f_bd,z04,z1o k (by omega),ye3 n b a hb hal m (k+1) (by omega) (by omega) (by omega)]
    show _=some (or2 (zsd _ _) _)
    unfold or2
    split<;>rfl
  ·rw [if_neg (by omega),drop_eq_nil_of_le (by omega:a.length<=k)]
   by_cases h':a.length<b.length
   ·rw [if_pos h',z0e b k (by omega)];rfl
   ·rw [if_neg h',drop_eq_nil_of_le (by omega)];rfl
theorem ysn (n:Nat)(a b:List Bd)(hn:a.length<n)(h4:4<=n)(hb:b.length<=1000000000)(hal:a.length<=1000000000):zcc n a b=some (lexC zsd a b):=by
 obtain ⟨m,rfl⟩:∃ m,n=m+4:=⟨n-4,by omega⟩
 unfold zcc
 have:=ye3 m b a hb hal (m+4) 0 (by omega) (by omega) (by omega)
 simp only [Int.natCast_zero,drop_zero] at this
 rw [<-this]
 congr 1
 simp only [length_map,z0c]
 split<;>split<;>first|rfl|omega
theorem ye2 (n:Nat)(b a:List Sta)(hb:b.length<=1000000000)(hal:a.length<=1000000000):∀ (m k:Nat),k<=a.length->k<=b.length->a.length<m+k ->
  z57 (n+4) b a (if a.length<b.length then some (-1) else some 0) m k=some (lexC zut (a.drop k) (b.drop k))
 |0,k,h1,_,h3=>by omega
 |m+1,k,h1,h2,h3=>by
  unfold z57
  simp only [length_map,z0c,z0y]
  by_cases h:k<a.length
  ·rw [if_pos (by omega),z0j h,z0e a k h]
   by_cases h':b.length<=k
   ·rw [if_pos (by omega),drop_eq_nil_of_le h']
    rfl
   ·rw [if_neg (by omega),z0j (by omega:k<b.length),z0e b k (by omega)]
    rw [f_st,z04,z1o k (by omega),ye2 n b a hb hal m (k+1) (by omega) (by omega) (by omega)]
    show _=some (or2 (zut _ _) _)
    unfold or2
    split<;>rfl
  ·rw [if_neg (by omega),drop_eq_nil_of_le (by omega:a.length<=k)]
   by_cases h':a.length<b.length
   ·rw [if_pos h',z0e b k (by omega)];rfl
   ·rw [if_neg h',drop_eq_nil_of_le (by omega)];rfl
theorem ysm (n:Nat)(a b:List Sta)(hn:a.length<n)(h4:4<=n)(hb:b.length<=1000000000)(hal:a.length<=1000000000):za4 n a b=some (lexC zut a b):=by
 obtain ⟨m,rfl⟩:∃ m,n=m+4:=⟨n-4,by omega⟩
 unfold za4
 have:=ye2 m b a hb hal (m+4) 0 (by omega) (by omega) (by omega)
 simp only [Int.natCast_zero,drop_zero] at this
 rw [<-this]
 congr 1
 simp only [length_map,z0c]
 split<;>split<;>first|rfl|omega
theorem f_ma (n:Nat)(a b:Ma)(hn:a.fBindings.length<n)(h4:4<=n)(hb:b.fBindings.length<=1000000000)(hal:a.fBindings.length<=1000000000):zfb n a b=some (zbv a b):=by
 unfold zfb
 rw [ysn n _ _ hn h4 hb hal,z04]
 rfl
theorem ysl (n:Nat)(a b:Cf)(hn:a.fBindings.length<n)(hn2:a.fStarts.length<n)(h4:4<=n)(hb:b.fBindings.length<=1000000000)(hal:a.fBindings.length<=1000000000)(hb2:b.fStarts.length<=1000000000)(hal2:a.fStarts.length<=1000000000):zhq n a b=some (zbk a b):=by
 unfold zhq
 rw [yaz,z04,f_ma n _ _ hn h4 hb hal,z04,ysm n _ _ hn2 h4 hb2 hal2,z04]
 obtain ⟨m,rfl⟩:∃ m,n=m+4:=⟨n-4,by omega⟩
 rw [yln,z04]
 rfl
def cfOk (c:Cf):Bool:=decide (c.fBindings.length<=1000000000) && decide (c.fStarts.length<=1000000000)
def maOk (c:Ma):Bool:=decide (c.fBindings.length<=1000000000)
theorem zfi (c:Cf):cfOk c=true ↔ c.fBindings.length<=1000000000/\c.fStarts.length<=1000000000:=by simp [cfOk]
theorem zha (c:Ma):maOk c=true ↔ c.fBindings.length<=1000000000:=by simp [maOk]
def zri {T:Type}[DecidableEq T](ok:T->Bool)(cmp:T->T->Int)(n:Nat)(l:List T):Option (List T) :=
 if h:∀ x∈l,ok x=true then (y2s (fun a b:{ x:T // ok x=true }=>cmp a.1 b.1) n (l.attachWith (fun x=>ok x=true) h)).map (fun q=>q.map (·.1)) else none
section
variable {T:Type} [DecidableEq T]
omit [DecidableEq T] in
theorem ydv {U:Type}{d:U->U->Int}{c:T->T->Int}(f:U->T)(h:∀ a b,d a b=c (f a) (f b))(x:U):∀ l:List U,(insF d x l).map f=insF c (f x) (l.map f)
 |[]=>rfl
 |y::l=>by
  have e:ltOf d y x=ltOf c (f y) (f x):=by unfold ltOf;rw [h]
  simp only [insF,map_cons,e]
  cases ltOf c (f y) (f x) with
  |true=>simp only [map_cons,ydv f h x l]
  |false=>rfl
omit [DecidableEq T] in
theorem y5y {U:Type}{d:U->U->Int}{c:T->T->Int}(f:U->T)(h:∀ a b,d a b=c (f a) (f b)):∀ l:List U,(zwh d l).map f=zwh c (l.map f)
 |[]=>rfl
 |x::l=>by simp only [zwh,map_cons,ydv f h,y5y f h l]
variable {cmp:T->T->Int}
theorem yc8 {ok:T->Bool}(hc:TO cmp)(n:Nat)(l:List T)(h:∀ x∈l,ok x=true)(hl:l.length<=1000000000):zri ok cmp n l=some (zwh cmp l):=by
 unfold zri
 rw [dif_pos h]
 have hc':TO (fun a b:{ x:T // ok x=true }=>cmp a.1 b.1):=hc.map (fun x:{ x:T // ok x=true }=>x.1) (fun a b h=>Subtype.ext h)
 unfold y2s
 rw [if_pos ⟨by simp_all,hc'.ties _⟩]
 simp only [Option.map_some]
 rw [y5y (c:=cmp) (fun x:{ x:T // ok x=true }=>x.1) (fun a b=>rfl),attachWith_map_subtype_val]
theorem y5x {f g ty sz:Nat}{ok:T->Bool}{enc:T->AV}{n:Nat}{l l':List T}(H:∀ {q q':List { x:T // ok x=true }},y2s (fun a b:{ x:T // ok x=true }=>cmp a.1 b.1) n q=some q'->ConC true E0 f [.row 0,.fn g []] ty sz (q.map fun x=>enc x.1) ty sz (q'.map fun x=>enc x.1) (.tup []))(hF:zri ok cmp n l=some l') :
  ConC true E0 f [.row 0,.fn g []] ty sz (l.map enc) ty sz (l'.map enc) (.tup []):=by
 unfold zri at hF
 split at hF
 ·rename_i h
  cases hq:y2s (fun a b:{ x:T // ok x=true }=>cmp a.1 b.1) n (l.attachWith (fun x=>ok x=true) h) with
  |none=>rw [hq] at hF;cases hF
  |some q =>
   rw [hq] at hF
   injection hF with hF
   have:=H hq
   simp_all
 ·cases hF
end
theorem ybg (a b:{ x:Cf // cfOk x=true }):Con E0d true 122 [z01 a.1,z01 b.1] (.int .i64 (zbk a.1 b.1)):=by
 obtain ⟨h1,h2⟩:=(zfi a.1).1 a.2
 obtain ⟨h3,h4⟩:=(zfi b.1).1 b.2
 exact zvf (yp1 1000000010 a.1 b.1 (by omega) (by omega) (by omega) h3 h1 h4 h2)
theorem ybd (a b:{ x:Ma // maOk x=true }):Con E0d true 92 [z0d a.1,z0d b.1] (.int .i64 (zbv a.1 b.1)):=by
 have h1:=(zha a.1).1 a.2
 have h3:=(zha b.1).1 b.2
 exact zjl (ymt 1000000010 a.1 b.1 (by omega) (by omega) h3 h1)
variable {n:Nat}
theorem yep {l l':List Cf}(hF:zri cfOk zbk n l=some l'):ConC true E0 161 [.row 0,.fn 122 []] 60 3 (l.map z01) 60 3 (l'.map z01) (.tup []) :=
 y5x (fun hq=>yc7 (Ed:=E0d) rfl rfl (z0x Tryz.func161 rfl rfl) (z0x Tryz.func122 rfl rfl) (by omega) (fun x=>⟨_,rfl,rfl⟩)
  (fun α _ enc hk h1 cf hO blk off cap d w hcmp hH hblk hsz=>AnyQ.slices_SortFunc Tryz.laysSlF06_f161 3 Tryz.isAgg60 Tryz.sizeOf60 enc hk h1 cf hO 122 #[] blk off cap d w (z0x Tryz.func122 rfl rfl) hcmp hH hblk hsz)
  (fun p cap fv w=>AnyF.slices_SortFunc_none Tryz.laysSlF06_f161 p cap fv w) ybg (cfCmp_to.map (fun x:{ x:Cf // cfOk x=true }=>x.1) (fun a b h=>Subtype.ext h)).swo hq) hF
theorem yeo {l l':List Ma}(hF:zri maOk zbv n l=some l'):ConC true E0 128 [.row 0,.fn 92 []] 44 1 (l.map z0d) 44 1 (l'.map z0d) (.tup []) :=
 y5x (fun hq=>yc7 (Ed:=E0d) rfl rfl (z0x Tryz.func128 rfl rfl) (z0x Tryz.func92 rfl rfl) (by omega) (fun x=>⟨_,rfl,rfl⟩)
  (fun α _ enc hk h1 cf hO blk off cap d w hcmp hH hblk hsz=>AnyQ.slices_SortFunc Tryz.laysSlF06_f128 1 Tryz.isAgg44 Tryz.sizeOf44 enc hk h1 cf hO 92 #[] blk off cap d w (z0x Tryz.func92 rfl rfl) hcmp hH hblk hsz)
  (fun p cap fv w=>AnyF.slices_SortFunc_none Tryz.laysSlF06_f128 p cap fv w) ybd (zg1.map (fun x:{ x:Ma // maOk x=true }=>x.1) (fun a b h=>Subtype.ext h)).swo hq) hF
abbrev Cel (n:Nat):={ l:List Value // l.length=n/\∀ u∈l,u.oneCell'=true }
def encC (x:Cel n):List Value:=x.1
variable {P:Program}{sz:Nat}
theorem eokC {T e eb:Nat}{i ie:TyI}(hT:TyOk P T i)(hs:i.shape=.slc e sz eb)(he:TyOk P e ie)(hz:0<sz)(hzs:ie.zero.cells.size=sz):EOk P T e sz ie.bytes (encC (n:=sz)):=by
 obtain ⟨hu,hce,_⟩:=zey hT hs
 obtain ⟨x,h1,h2,h3,h4⟩:=he.both
 exact ⟨hu,⟨x,ie.zero,h1,h4,by rw [h2,<-he.cells,hce],h3,hzs⟩,hz,fun x=>x.2.1,fun x=>x.2.2⟩
def zay (n:Nat)(l:List α):Option (List α):=if l.length<=1000000000 then some l else none
variable {E:Env}
theorem zjn {e:Nat}(hP:E.P=P)(hE:zfg E f)(any:∀ (l:List (Cel sz)) (S:Nat->Prop) (v:Value) (w:World),Sl w S sz encC v l->l.length<=1000000000->Calls P f #[v] w (zwe e sz encC l w)){enc:α->AV}{a r:List α}(hF:zay n a=some r) :
  ConT E f [.sl sz (List.map enc a)] e sz (List.map enc r) (.row 0):=by
 unfold zay at hF
 split at hF
 ·rename_i hl
  injection hF with hF
  subst hF
  refine .ofRow ⟨hE,fun S w vs ⟨hn,hr⟩=>?_⟩
  have e1:=ysj hn
  have h0:Rep w S G0 (.sl sz (List.map enc a)) (vs.getD 0 undef):=hr 0 (by simp)
  rw [e1,hP]
  obtain ⟨A,c,hv,hc,hlen,cell,hb,hrr,h1⟩:=h0.sl_inv
  let l:List (Cel sz):=(range (List.map enc a).length).map fun k=>⟨(range sz).map fun j=>cell k j,by simp,fun u hu=>by
   obtain ⟨j,_,rfl⟩:=mem_map.1 hu
   exact h1 k j⟩
  have hll:l.length=(List.map enc a).length:=by simp [l]
  have hlk:∀ k (hk:k<l.length),(encC l[k])=(range sz).map fun j=>cell k j:=fun k hk=>by simp [l,encC]
  have hsl:Sl w S sz encC (vs.getD 0 undef) l:=by
   refine ⟨A,c,by rw [hv,hll],by rw [hll];exact hc,fun h0=>?_⟩
   obtain ⟨b,off,hA,hS,hlt,hcell⟩:=hb (by rw [<-hll];exact h0)
   refine ⟨b,off,hA,hS,hlt,fun k hk j u hu=>?_⟩
   rw [hlk k hk] at hu
   have hj:j<sz:=by have:=(List.getElem?_eq_some_iff.1 hu).1;simpa using this
   rw [getElem?_map,getElem?_range hj] at hu
   simp only [Option.map_some,Option.some.injEq] at hu
   subst hu
   exact hcell k j (by rw [<-hll];exact hk) hj
  refine (any l S _ w hsl (by rw [hll,length_map];exact hl)).mono fun ed w' ⟨A',c',q1,q2,q3⟩=>?_
  refine ⟨_,l.flatMap encC,q1,q3,?_,hlen,fun k hk j hj=>?_,fun u hu=>?_⟩
  ·have:w'.ownsRow w.heap.size e sz (.slice A' l.length c') l.length (l.flatMap encC):=q2
   rw [hll] at this
   rw [hll]
   exact this
  ·have hj':j<sz:=by rw [hlen k hk] at hj;exact hj
   have hk':k<l.length:=by rw [hll];exact hk
   have hat:=zn2 (enc:=encC (n:=sz)) (fun x _=>x.2.1) k hk' j hj' (cell k j) (by rw [hlk k hk',getElem?_map,getElem?_range hj'];rfl)
   rw [getD_eq_getElem?_getD,hat]
   refine (hrr k hk j hj).mono q3.size (fun b hb hlt=>⟨q3.block b hlt,Or.inl hb,fun e=>?_⟩)
   have h2:w'.ownsRow w.heap.size _ sz (.slice A' l.length c') l.length (l.flatMap encC):=q2
   rcases h2.2 with ⟨h,_⟩|⟨g,cap,cur,h,hg,_⟩
   ·rw [h] at e;simp [Value.ownBlock] at e
   ·rw [h] at e;simp only [Value.ownBlock,Option.some.injEq] at e;subst e;omega
  ·obtain ⟨x,_,hx⟩:=mem_flatMap.1 hu
   exact x.2.2 u hx
 ·cases hF
theorem ConT.close {args xs:List AV}{ty:Nat}(h:ConT E f args ty sz xs (.row 0))(hE:E.dr=false):Con E false f args (.sl sz xs) :=
 ⟨h.1,fun S w vs ha=>(h.2.2 S w vs ha).mono fun e w' ⟨u,v,us,h1,h2,h3,h4,h5,h6,h7⟩=>by
  have hr:=h7 (fun _=>some (some (v.ownBlock,v))) rfl
  have huv:u=v:=hr.row_inv rfl (zhm (zb0 h3))
  subst huv
  refine ⟨u,h1,⟨h2,fun h=>absurd (hE.symm.trans h) (by simp)⟩,?_⟩
  have hrep:z8s w' (fun b=>(S b\/w.heap.size<=b)/\u.ownBlock≠some b) G0 w.heap.size (some (u.ownBlock,u)) (.row ty sz xs):=⟨u,us,rfl,zb0 h3,h3,h4,h5,h6⟩
  obtain ⟨s,hs,hrr⟩:=zts (S':=fun b=>(false=false/\S b)\/w.heap.size<=b) hrep (fun b hb _=>hb.1.elim (fun h=>Or.inl ⟨rfl,h⟩) Or.inr) (fun s g hg=>by
   injection hg with hg
   injection hg with hg _
   rcases h3.2 with ⟨h,_⟩|⟨g',cap,cur,h,hb,_⟩
   ·rw [h] at hg;simp [Value.ownBlock] at hg
   ·rw [h] at hg;simp only [Value.ownBlock,Option.some.injEq] at hg;subst hg;exact Or.inr hb) G0
  injection hs with hs
  injection hs with _ hs
  rw [hs]
  exact hrr⟩
theorem ConT.sub {avs bvs xs:List AV}{ty:Nat}{res:AV}(h:SubL avs bvs)(hc:ConT E f bvs ty sz xs res):ConT E f avs ty sz xs res :=
 ⟨hc.1,hc.2.1,fun S w vs ⟨hl,hr⟩=>hc.2.2 S w vs ⟨by rw [hl,h.len],fun i hi=>(hr i (by rw [h.len];exact hi)).sub (h.at i _ hi)⟩⟩
def Xk (w:World)(g off:Nat)(X:List Value):Prop:=∃ cur ty fr,w.heap[g]? = some (.cells cur ty fr)/\0<cur.size/\∀ j u,X[j]? = some u->cur[off+j]? = some u
section
variable {w w':World} {g off:Nat} {X:List Value}
theorem Xk.lt (h:Xk w g off X):g<w.heap.size:=by
 obtain ⟨cur,ty,fr,h,_⟩:=h
 exact (Array.getElem?_eq_some_iff.1 h).1
theorem Xk.cell (h:Xk w g off X){j:Nat}{u:Value}(hu:X[j]? = some u):w.cell? ⟨g,off+j,none⟩=some u:=by
 obtain ⟨cur,ty,fr,h,_,h2⟩:=h
 simp [World.cell?,h,h2 j u hu]
theorem Xk.grown {row:Option Nat}(h:Xk w g off X)(hb:w.grownBy w' row)(hg:some g≠row):Xk w' g off X:=by
 have hl:=h.lt
 obtain ⟨cur,ty,fr,h,h2⟩:=h
 exact ⟨cur,ty,fr,(hb.block g hl hg).trans h,h2⟩
theorem Xk.alloc (h:Xk w g off X)(o:Obj):Xk (w.alloc o) g off X:=by
 have hl:=h.lt
 obtain ⟨cur,ty,fr,h,h2⟩:=h
 exact ⟨cur,ty,fr,(Below.heap_alloc w o g hl).trans h,h2⟩
theorem Xk.shape (h:Xk w g off X):∃ t k,k≠0/\w.shape? g=some (t,k):=by
 obtain ⟨cur,ty,fr,h,h1,_⟩:=h
 exact ⟨ty,cur.size,by omega,by simp [World.shape?,h]⟩
theorem Sl.one_x {enc:α->List Value}{c:Nat}{x:α}(hc:1<=c)(h:Xk w g off (enc x)):Sl w (fun _=>True) sz enc (.slice (some ⟨g,off,none⟩) 1 c) [x] :=
 ⟨_,c,rfl,hc,fun _=>⟨g,off,rfl,trivial,h.lt,fun k hk j u hu=>by
  have:k=0:=by simpa using hk
  subst this
  simpa using h.cell (by simpa using hu)⟩⟩
end
theorem y00 (w:World)(tS tR e:TypeId)(ht:P.underlying tS=some (.slice e))(size:Nat)(hz:∀ w,(Go.sizeOf e).run P w=.ok size w)
  (a b:Addr) (la ca lb cb:Nat) (hne:a.block≠b.block) (hsa:∃ t k,k≠0/\w.shape? a.block=some (t,k)) (tB:TypeId) (kB:Nat) (hsb:w.shape? b.block=some (tB,kB)) (hkB:kB≠0)
  (hfb:w.frozen? b=false) (hfe:w.frozen? { block:=b.block,off:=kB }=false) :
  (Extern.SlicesOverlaps.overlaps #[tS,tS] #[tR] #[.slice (some a) la ca,.slice (some b) lb cb]).run P w=.ok (.bool false) w:=by
 have hnb:(a.block != b.block)=true:=by simpa using hne
 have hnb':(a.block == b.block)=false:=by simpa using hne
 obtain ⟨tA,kA,hkA,hsa⟩:=hsa
 change Sem.run P (α:=Value) (underlying tS >>= _) w=_
 by_cases h0:la=0\/lb=0\/size=0
 ·simp [run_underlying ht,hz,h0]
 ·cases kB with
  |zero=>exact absurd rfl hkB
  |succ kB =>
   cases kA with
   |zero=>exact absurd rfl hkA
   |succ kA =>
    cases hfa:w.frozen? a<;>cases hfa':w.frozen? { block:=a.block,off:=kA+1 } <;>
    simp [run_underlying ht,hz,h0,hnb,hnb',frozen,noView,viewAt,mayBeOne,stringish,shape,Sem.run,hsa,hsb,hfa,hfa',hfb,hfe]
def yjt (e:TypeId)(sz:Nat)(enc:α->List Value)(base:Nat)(v:Value)(l:List α)(w0:World)(r:Ending)(w':World):Prop :=
 ∃ A c,r=.returned (.slice A l.length c)/\Own w' base e sz enc (.slice A l.length c) l/\w0.grownBy w' v.ownBlock/\((Value.slice A l.length c).ownBlock=v.ownBlock\/(Value.slice A l.length c).ownBlock=some w0.heap.size)
def zs1 (n:Nat)(a:List α)(i:Int)(v:List α):Option (List α) :=
 match v with
 |[x]=>if 0<=i/\i.toNat<=a.length/\a.length<=1000000000 then some (a.take i.toNat++x::a.drop i.toNat) else none
 |_=>none
theorem yj9 (d:Value)(us:List Value)(n:Nat)(h:us.length=n*sz):(range n).flatMap (fun k=>(range sz).map fun j=>us.getD (k*sz+j) d)=us:=by
 induction n generalizing us with
 |zero=>simp at h;subst h;rfl
 |succ n ih =>
  rw [range_succ_eq_map,flatMap_cons,flatMap_map]
  have h1:(range sz).map (fun j=>us.getD (0*sz+j) d)=us.take sz:=by
   apply ext_getElem
   ·simp [h,Nat.succ_mul]
   ·intro j h1 h2
    have hj:j<us.length:=by simp at h2;omega
    simp [getElem?_eq_getElem hj]
  have h2:(fun k=>(range sz).map fun j=>us.getD (k.succ*sz+j) d)=fun k=>(range sz).map fun j=>(us.drop sz).getD (k*sz+j) d:=by
   funext k
   refine map_congr_left fun j _=>?_
   rw [getD_eq_getElem?_getD,getD_eq_getElem?_getD,getElem?_drop,Nat.succ_mul,Nat.add_right_comm,Nat.add_comm (k*sz+j) sz]
  rw [h1,h2,ih (us.drop sz) (by rw [length_drop,h,Nat.succ_mul];omega),take_append_drop]
theorem yfg {e:Nat}(hP:E.P=P)(hE:zfg E f)(hz:0<sz)
  (any:∀ (l:List (Cel sz)) (x:Cel sz) (i base:Nat) (A:Option Addr) (c g off c1:Nat) (w:World),Own w base e sz encC (.slice A l.length c) l->Xk w g off (encC x)->1<=c1->(Value.slice A l.length c).ownBlock≠some g->i<=l.length->l.length<=1000000000->base<=w.heap.size ->
    Calls P f #[.slice A l.length c,.int .i64 i,.slice (some ⟨g,off,none⟩) 1 c1] w (yjt e sz encC base (.slice A l.length c) (l.take i++x::l.drop i) w))  {enc:α->AV}  {a v r:List α} {i:Int} (hF:zs1 n a i v=some r) :
  ConC false E f [.row 0,aI i,.sl sz (List.map enc v)] e sz (List.map enc a) e sz (List.map enc r) (.row 0):=by
 unfold zs1 at hF
 split at hF
 ·rename_i x
  split at hF
  ·rename_i hc
   obtain ⟨q0,rfl⟩:=Int.eq_ofNat_of_zero_le hc.1
   simp only [Int.toNat_natCast] at hc hF
   injection hF with hF
   subst hF
   refine ⟨hE,rfl,fun S w0 w vs v us hw0 hown hlen hre hone hvS hn hargs=>?_⟩
   have e3:∃ p q s,vs=#[p,q,s]:=by
    obtain ⟨l⟩:=vs
    match l,hn with
    |[p,q,s],_=>exact ⟨p,q,s,rfl⟩
   obtain ⟨p,q,s,rfl⟩:=e3
   have ha:=hargs (fun _=>some (some (v.ownBlock,v))) rfl
   have hp:Rep w S (fun _=>some (some (v.ownBlock,v))) (.row 0) p:=ha 0 (by simp)
   have hq:Rep w S (fun _=>some (some (v.ownBlock,v))) (aI q0) q:=ha 1 (by simp)
   have hs:Rep w S (fun _=>some (some (v.ownBlock,v))) (.sl sz [enc x]) s:=ha 2 (by simp)
   have hpv:p=v:=hp.row_inv rfl (zhm (zb0 hown))
   subst hpv
   rw [hq.int_inv]
   obtain ⟨A',c1,rfl,hc1,hxl,cell,hb,hrr,h1⟩:=hs.sl_inv
   obtain ⟨g,off,rfl,hSg,hgl,hcell⟩:=hb (by simp)
   have hxl0:(enc x).cells.length=sz:=hxl 0 (by simp)
   let X:Cel sz:=⟨(range sz).map (fun j=>cell 0 j),by simp,fun u hu=>by obtain ⟨j,_,rfl⟩:=mem_map.1 hu;exact h1 0 j⟩
   have hXg:∀ j,j<sz->(encC X)[j]? = some (cell 0 j):=fun j hj=>by simp [encC,X,hj]
   have hX:Xk w g off (encC X):=by
    have h0:=hcell 0 0 (by simp) hz
    simp only [Nat.zero_mul,Nat.add_zero] at h0
    have hobj:∃ cur ty fr,w.heap[g]? = some (.cells cur ty fr):=by
     unfold World.cell? at h0
     split at h0
     ·rename_i cur ty fr hh;exact ⟨cur,ty,fr,hh⟩
     ·cases h0
    obtain ⟨cur,ty,fr,hh⟩:=hobj
    have hcc:∀ j,j<sz->cur[off+j]? = some (cell 0 j):=fun j hj=>by
     have:=hcell 0 j (by simp) hj
     simpa [World.cell?,hh] using this
    refine ⟨cur,ty,fr,hh,?_,fun j u hu=>?_⟩
    ·have:=(Array.getElem?_eq_some_iff.1 (hcc 0 hz)).1;omega
    ·have hj:j<sz:=by have:=(List.getElem?_eq_some_iff.1 hu).1;simpa [encC,X] using this
     rw [hXg j hj] at hu
     rw [hcc j hj,hu]
   let l:List (Cel sz):=(range (List.map enc a).length).map fun k=>⟨(range sz).map fun j=>us.getD (k*sz+j) (.bool true),by simp,fun u hu=>by
    obtain ⟨j,_,rfl⟩:=mem_map.1 hu
    rw [getD_eq_getElem?_getD]
    cases hq:us[k*sz+j]? with
    |none=>rfl
    |some u=>exact hone u (mem_of_getElem? hq)⟩
   have hll:l.length=(List.map enc a).length:=by simp [l]
   have hfl:l.flatMap encC=us:=by
    have:=yj9 (sz:=sz) (.bool true) us (List.map enc a).length hown.1
    rw [<-this]
    simp [l,encC,flatMap_map]
   have ho:Own w w0.heap.size e sz encC p l:=by
    show w.ownsRow _ e sz p l.length (l.flatMap encC)
    rw [hfl,hll]
    exact hown
   obtain ⟨A,c,hpe,hnc,_⟩:=ho.val
   subst hpe
   have hi:q0<=l.length:=by rw [hll,length_map];exact hc.2.1
   rw [hP]
   refine (any l X q0 w0.heap.size A c g off c1 w ho hX (by simpa using hc1) (fun e=>hvS g e hSg) hi (by rw [hll,length_map];exact hc.2.2) hw0.size).mono ?_
   rintro ed w' ⟨A2,c2,rfl,ho2,hg2,hb2⟩
   have hrl:(List.take q0 l++X::drop q0 l).length=(List.map enc (List.take q0 a++x::drop q0 a)).length:=by
    simp [hll]
   have hvb:∀ b,(Value.slice A2 (List.take q0 l++X::drop q0 l).length c2).ownBlock=some b->(Value.slice A l.length c).ownBlock=some b\/w.heap.size<=b:=fun b hb=>by
    rcases hb2 with h|h
    ·exact Or.inl (h▸hb)
    ·rw [h] at hb;injection hb with hb;exact Or.inr (by omega)
   have hown2:w'.ownsRow w0.heap.size e sz (Value.slice A2 (List.take q0 l++X::drop q0 l).length c2) (List.take q0 l++X::drop q0 l).length ((List.take q0 l++X::drop q0 l).flatMap encC):=ho2
   have hcl:∀ y∈a,(enc y).cells.length=sz:=fun y hy=>by
    obtain ⟨k,hk,rfl⟩:=mem_iff_getElem.1 hy
    have:=hlen k (by simpa using hk)
    simpa using this
   -- every element of the new row,with its cells
   have hel:∀ k (hk:k<(List.take q0 l++X::drop q0 l).length) (hk':k<(List.take q0 a++x::drop q0 a).length),((List.take q0 l++X::drop q0 l)[k]=X/\(List.take q0 a++x::drop q0 a)[k]=x) \/
     ∃ m,∃ hm:m<l.length,∃ hm':m<a.length,(List.take q0 l++X::drop q0 l)[k]=l[m]/\(List.take q0 a++x::drop q0 a)[k]=a[m]:=fun k hk hk'=>by
    have hla:l.length=a.length:=by rw [hll,length_map]
    by_cases h1:k<q0
    ·refine Or.inr ⟨k,by omega,by omega,?_,?_⟩
     ·rw [getElem_append_left (by simp;omega)];simp
     ·rw [getElem_append_left (by simp;omega)];simp
    ·by_cases h2:k=q0
     ·refine Or.inl ⟨?_,?_⟩
      ·rw [getElem_append_right (by simp;omega)]
       simp only [length_take,show k-min q0 l.length=0 by omega,getElem_cons_zero]
      ·rw [getElem_append_right (by simp;omega)]
       simp only [length_take,show k-min q0 a.length=0 by omega,getElem_cons_zero]
     ·refine Or.inr ⟨k-1,by simp at hk;omega,by simp at hk';omega,?_,?_⟩
      ·rw [getElem_append_right (by simp;omega)]
       simp only [length_take,show k-min q0 l.length=(k-1-q0)+1 by omega,getElem_cons_succ,getElem_drop]
       congr 1
       omega
      ·rw [getElem_append_right (by simp;omega)]
       simp only [length_take,show k-min q0 a.length=(k-1-q0)+1 by omega,getElem_cons_succ,getElem_drop]
       congr 1
       omega
   refine ⟨_,_,(List.take q0 l++X::drop q0 l).flatMap encC,rfl,hg2,by rw [<-hrl];exact hown2,fun h=>(by cases h),hvb,fun k hk=>?_,fun k hk j hj=>?_,fun u hu=>?_,fun γ' hγ'=>.row hγ' (fun g s e _=>by injection e with e;injection e with _ e)⟩
   ·have hk':k<(List.take q0 a++x::drop q0 a).length:=by simpa using hk
    rw [getElem_map]
    rcases hel k (by rw [hrl];exact hk) hk' with ⟨_,h⟩|⟨m,hm,hm',_,h⟩
    ·rw [h];exact hxl0
    ·rw [h];exact hcl _ (getElem_mem hm')
   ·have hk':k<(List.take q0 a++x::drop q0 a).length:=by simpa using hk
    have hkl:k<(List.take q0 l++X::drop q0 l).length:=by rw [hrl];exact hk
    have hS2:∀ b,S b->b<w.heap.size->w'.heap[b]? = w.heap[b]? /\ ((S b\/w.heap.size<=b)/\(Value.slice A2 (List.take q0 l++X::drop q0 l).length c2).ownBlock≠some b):=fun b hS hlt =>
     ⟨hg2.block b hlt (fun e=>hvS b e.symm hS),Or.inl hS,fun e=>by
      rcases hvb b e with h|h
      ·exact hvS b h hS
      ·omega⟩
    simp only [getElem_map] at hj ⊢
    rcases hel k hkl hk' with ⟨hX',hx'⟩|⟨m,hm,hm',hX',hx'⟩
    ·simp only [hx'] at hj ⊢
     have hj':j<sz:=by omega
     have hat:=zn2 (enc:=encC (n:=sz)) (fun y _=>y.2.1) k hkl j hj' (cell 0 j) (by rw [hX'];exact hXg j hj')
     rw [getD_eq_getElem?_getD,hat]
     have:=hrr 0 (by simp) j hj
     exact Rep.mono this hg2.size hS2
    ·simp only [hx'] at hj ⊢
     have hj':j<sz:=by rw [hcl _ (getElem_mem hm')] at hj;exact hj
     have hlm:(encC l[m])[j]? = some (us.getD (m*sz+j) undef):=by
      have hlt:m*sz+j<us.length:=by
       rw [hown.1,<-hll]
       have:(m+1)*sz<=l.length*sz:=Nat.mul_le_mul_right _ hm
       rw [Nat.succ_mul] at this
       omega
      simp [l,encC,hj',getElem?_eq_getElem hlt]
     have hat:=zn2 (enc:=encC (n:=sz)) (fun y _=>y.2.1) k hkl j hj' _ (by rw [hX'];exact hlm)
     rw [getD_eq_getElem?_getD,hat]
     have:=hre m (by simpa using hm') j (by simpa using hj)
     simp only [getElem_map] at this
     exact Rep.mono this hg2.size hS2
   ·obtain ⟨y,_,hy⟩:=mem_flatMap.1 hu
    exact y.2.2 u hy
  ·cases hF
 ·cases hF
end Go.Proofs.YtidhlpjgifoneaaGreat
