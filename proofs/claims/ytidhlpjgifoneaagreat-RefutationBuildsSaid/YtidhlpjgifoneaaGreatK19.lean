/- What some functions compute, over plain values. -/
import Derived.Test.YtidhlpjgifoneaaGreatK18
import Derived.Shelf.SlSortCmp.NoneTotal
import Derived.Sort.OwnSorted
set_option linter.unusedVariables false
set_option linter.unusedSimpArgs false
set_option maxRecDepth 100000
set_option maxHeartbeats 8000000
namespace Go.Proofs.YtidhlpjgifoneaaGreat
open Go.RowKit List
def zii (n:Nat)(a:Int):Option (Bool):=some (!decide (a=a))
def z8c (n:Nat)(b:Int)(a:Int):Option (Int):=bnd (zii n b) fun d=>bnd (zii n a) fun c=>cnd (d) (cnd (c) (some 0)<|some (-1))<|cnd (c) (some 1)<|cnd (decide (b<a)) (some (-1))<|cnd (decide (a<b)) (some 1)<|some 0
def zhh (n:Nat)(a:(List Int))(b:Option (Int)):Nat->Int->Option (Int) |0,_=>none |d+1,c=>cnd (decide (c<((a.map aI).length:Int))) (idx a c fun e=>cnd (!decide (e=0)) (some e)<|(zhh n a b d) (IntKind.wrap .i64 (c+1)))<|b
def zg8 (n:Nat)(a:(List Int)):Option (Int):=zhh n a (some 0) n 0
def zht (n:Nat)(b:z18)(a:z18):Option (Int):=bnd (z8c n b.fTime a.fTime) fun f=>bnd (z8c n b.fSource a.fSource) fun e=>bnd (z8c n b.fSeq a.fSeq) fun d=>bnd (zg8 n ([f,e,d])) fun c=>some c
def zdm (n:Nat)(b:z0g)(a:z0g):Option (Int):=bnd (zht n b.fRef a.fRef) fun e=>bnd (z8c n b.fVar a.fVar) fun d=>bnd (zg8 n ([e,d])) fun c=>some c
def z6l (n:Nat)(a:(List z0g))(h:(List z0g))(c:Option (Int)):Nat->Int->Option (Int) |0,_=>none |d+1,b=>cnd (decide (b<((h.map z0b).length:Int))) (idx h b fun f=>cnd (decide (((a.map z0b).length:Int)<=b)) (some 1)<|idx a b fun g=>bnd (zdm n f g) fun e=>cnd (!decide (e=0)) (some e)<|(z6l n a h c d) (IntKind.wrap .i64 (b+1)))<|c
def zbe (n:Nat)(b:(List z0g))(a:(List z0g)):Option (Int):=z6l n a b (cnd (decide (((b.map z0b).length:Int)<((a.map z0b).length:Int))) (some (-1))<|some 0) n 0
def zfi (n:Nat)(c:z06)(b:z06):Option (Int):=bnd (zbe n c.fBindings b.fBindings) fun a=>some a
def zfg (n:Nat)(b:z0a)(a:z0a):Option (Int):=bnd (z8c n b.fScope a.fScope) fun e=>bnd (z8c n b.fTime a.fTime) fun d=>bnd (zg8 n ([e,d])) fun c=>some c
def z49 (n:Nat)(a:(List z0a))(h:(List z0a))(c:Option (Int)):Nat->Int->Option (Int) |0,_=>none |d+1,b=>cnd (decide (b<((h.map z08).length:Int))) (idx h b fun f=>cnd (decide (((a.map z08).length:Int)<=b)) (some 1)<|idx a b fun g=>bnd (zfg n f g) fun e=>cnd (!decide (e=0)) (some e)<|(z49 n a h c d) (IntKind.wrap .i64 (b+1)))<|c
def z9k (n:Nat)(b:(List z0a))(a:(List z0a)):Option (Int):=z49 n a b (cnd (decide (((b.map z08).length:Int)<((a.map z08).length:Int))) (some (-1))<|some 0) n 0
def zie (n:Nat)(b:z00)(a:z00):Option (Int):=bnd (z8c n b.fState a.fState) fun f=>bnd (zfi n (⟨b.fBindings⟩:z06) (⟨a.fBindings⟩:z06)) fun e=>bnd (z9k n b.fStarts a.fStarts) fun d=>bnd (zg8 n ([f,e,d])) fun c=>some c
noncomputable section
abbrev y5y {n a b}:=li (zhh n a b) (fun c=>⟨[(3,aI 0),(6,.sl 1 (a.map aI)),(7,aI (((a.map aI).length:Int))),(8,aI c)],[]⟩) fun _ _=>zhh.eq_2 ..
abbrev zmf {n d a b}:=li (z6l n d a b) (fun c=>⟨[(0,.sl 4 (a.map z0b)),(1,.sl 4 (d.map z0b)),(2,.fn 132 []),(11,.sl 4 (a.map z0b)),(12,aI (((a.map z0b).length:Int))),(13,aI c)],[]⟩) fun _ _=>z6l.eq_2 ..
abbrev zjo {n d a b}:=li (z49 n d a b) (fun c=>⟨[(0,.sl 2 (a.map z08)),(1,.sl 2 (d.map z08)),(2,.fn 165 []),(11,.sl 2 (a.map z08)),(12,aI (((a.map z08).length:Int))),(13,aI c)],[]⟩) fun _ _=>z49.eq_2 ..
attribute [instance] y5y zmf zjo
def zw9 (r:Bool):AV:=.bool (r)
theorem y0n {n b r}(a:zii n b=some r):Con E0d true 176 [aI b] (zw9 r):=by
 unfold zii at a;refine Con.walk _ Tryz.func176 rfl (z0q Tryz.func176 rfl rfl) rfl (Or.inr rfl) ?_;repeat' first
  |refine AW.step ?_;conv=>whnf
  |exact RetX.oB a
def zgp (r:Int):AV:=aI (r)
theorem zhb {n d c r}(b:z8c n d c=some r):Con E0d true 135 [aI d,aI c] (zgp r):=by
 unfold z8c at b;refine Con.walk _ Tryz.func135 rfl (z0q Tryz.func135 rfl rfl) rfl (Or.inr rfl) ?_;repeat' first
  |refine AW.step ?_;conv=>whnf
  |refine z10.o b (fun b=>?_) fun b=>?_
  |refine z1h.o b zw9 (fun a h=>y0n h) (fun a b=>?_)
  |exact RetX.oB b
def zod (r:Int):AV:=aI (r)
theorem zlj {n b r}(a:zg8 n b=some r):Con E0d true 133 [.sl 1 (b.map aI)] (zod r):=by
 unfold zg8 at a;refine Con.walk _ Tryz.func133 rfl (z0q Tryz.func133 rfl rfl) rfl (Or.inr rfl) ?_;repeat' first
  |refine AW.step ?_;conv=>whnf
  |refine z10.o a (fun a=>?_) fun a=>?_
  |refine IdxX.A a fun x a=>?_
  |exact ⟨_,a,LeX.a []⟩
  |refine z63.I a (LeX.a []) fun m v a=>?_
  |exact RetX.oB a
def zue (r:Int):AV:=aI (r)
theorem zy5 {n d c r}(b:zht n d c=some r):Con E0d true 134 [z14 d,z14 c] (zue r):=by
 unfold zht at b;refine Con.walk _ Tryz.func134 rfl (z0q Tryz.func134 rfl rfl) rfl (Or.inr rfl) ?_;repeat' first
  |refine AW.step ?_;conv=>whnf
  |refine z1h.o b zgp (fun a h=>zhb h) (fun a b=>?_)
  |refine z1h.o b zod (fun a h=>zlj h) (fun a b=>?_)
  |refine AndA ?_
  |exact RetX.oB b
def zkn (r:Int):AV:=aI (r)
theorem zs1 {n d c r}(b:zdm n d c=some r):Con E0d true 132 [z0b d,z0b c] (zkn r):=by
 unfold zdm at b;refine Con.walk _ Tryz.func132 rfl (z0q Tryz.func132 rfl rfl) rfl (Or.inr rfl) ?_;repeat' first
  |refine AW.step ?_;conv=>whnf
  |refine z1h.o b zue (fun a h=>zy5 h) (fun a b=>?_)
  |refine z1h.o b zgp (fun a h=>zhb h) (fun a b=>?_)
  |refine z1h.o b zod (fun a h=>zlj h) (fun a b=>?_)
  |refine AndA ?_
  |exact RetX.oB b
def zim (r:Int):AV:=aI (r)
theorem zo7 {n d c r}(b:zbe n d c=some r):Con E0d true 131 [.sl 4 (d.map z0b),.sl 4 (c.map z0b),.fn 132 []] (zim r):=by
 unfold zbe at b;refine Con.walk _ Tryz.func131 rfl (z0q Tryz.func131 rfl rfl) rfl (Or.inr rfl) ?_;repeat' first
  |refine AW.step ?_;conv=>whnf
  |refine z10.o b (fun b=>?_) fun b=>?_
  |refine IdxX.A b fun x b=>?_
  |refine z1h.o b zkn (fun a h=>zs1 h) (fun a b=>?_)
  |exact ⟨_,b,LeX.a []⟩
  |refine z63.I b (LeX.a []) fun m v b=>?_
  |exact RetX.oB b
def zoc (r:Int):AV:=aI (r)
theorem zkg {n d c r}(b:zfi n d c=some r):Con E0d true 92 [z0c d,z0c c] (zoc r):=by
 unfold zfi at b;refine Con.walk _ Tryz.func92 rfl (z0q Tryz.func92 rfl rfl) rfl (Or.inr rfl) ?_;repeat' first
  |refine AW.step ?_;conv=>whnf
  |refine z1h.o b zim (fun a h=>zo7 h) (fun a b=>?_)
  |exact RetX.oB b
def zob (r:Int):AV:=aI (r)
theorem zuu {n d c r}(b:zfg n d c=some r):Con E0d true 165 [z08 d,z08 c] (zob r):=by
 unfold zfg at b;refine Con.walk _ Tryz.func165 rfl (z0q Tryz.func165 rfl rfl) rfl (Or.inr rfl) ?_;repeat' first
  |refine AW.step ?_;conv=>whnf
  |refine z1h.o b zgp (fun a h=>zhb h) (fun a b=>?_)
  |refine z1h.o b zod (fun a h=>zlj h) (fun a b=>?_)
  |refine AndA ?_
  |exact RetX.oB b
def zhr (r:Int):AV:=aI (r)
theorem zkd {n d c r}(b:z9k n d c=some r):Con E0d true 164 [.sl 2 (d.map z08),.sl 2 (c.map z08),.fn 165 []] (zhr r):=by
 unfold z9k at b;refine Con.walk _ Tryz.func164 rfl (z0q Tryz.func164 rfl rfl) rfl (Or.inr rfl) ?_;repeat' first
  |refine AW.step ?_;conv=>whnf
  |refine z10.o b (fun b=>?_) fun b=>?_
  |refine IdxX.A b fun x b=>?_
  |refine z1h.o b zob (fun a h=>zuu h) (fun a b=>?_)
  |exact ⟨_,b,LeX.a []⟩
  |refine z63.I b (LeX.a []) fun m v b=>?_
  |exact RetX.oB b
def y10 (r:Int):AV:=aI (r)
theorem zwz {n d c r}(b:zie n d c=some r):Con E0d true 122 [z01 d,z01 c] (y10 r):=by
 unfold zie at b;refine Con.walk _ Tryz.func122 rfl (z0q Tryz.func122 rfl rfl) rfl (Or.inr rfl) ?_;repeat' first
  |refine AW.step ?_;conv=>whnf
  |refine z1h.o b zgp (fun a h=>zhb h) (fun a b=>?_)
  |refine z1h.o b zoc (fun a h=>zkg h) (fun a b=>?_)
  |refine z1h.o b zhr (fun a h=>zkd h) (fun a b=>?_)
  |refine z1h.o b zod (fun a h=>zlj h) (fun a b=>?_)
  |refine AndA ?_
  |exact RetX.oB b
end
open Go.Sort (SWO PermIn SortedIn HoldsK flatK putRowK putRow putCells grow mapBlock onCells size_flatK get_flatK heap_grow_old)
section
variable {T:Type}
def insF (cmp:T->T->Int)(x:T):List T->List T
 |[]=>[x]
 |y::l=>match ltOf cmp y x with
  |true=>y::insF cmp x l
  |false=>x::y::l
def zxz (cmp:T->T->Int):List T->List T |[]=>[] |x::l=>insF cmp x (zxz cmp l)
def y3x [DecidableEq T](cmp:T->T->Int)(n:Nat)(l:List T):Option (List T) :=
 if l.length<=1000000000/\∀ x∈l,∀ y∈l,ltOf cmp x y=false->ltOf cmp y x=false->x=y then some (zxz cmp l) else none
theorem y00 (cmp:T->T->Int)(x:T):∀ l:List T,(insF cmp x l).Perm (x::l)
 |[]=>.refl _
 |y::l=>by
  unfold insF;cases ltOf cmp y x with
  |true=>exact ((y00 cmp x l).cons y).trans (.swap x y l)
  |false=>exact .refl _
theorem zio (cmp:T->T->Int):∀ l:List T,(zxz cmp l).Perm l
 |[]=>.refl _
 |x::l=>(y00 cmp x _).trans ((zio cmp l).cons x)
theorem zzz {cmp:T->T->Int}(b:SWO (ltOf cmp))(x:T):∀ l:List T,l.Pairwise (fun x y=>ltOf cmp y x=false)->(insF cmp x l).Pairwise (fun x y=>ltOf cmp y x=false)
 |[],_=>by simp [insF]
 |y::l,h=>by
  obtain ⟨h1,e⟩:=pairwise_cons.1 h;unfold insF;cases c:ltOf cmp y x with
  |true =>
   refine pairwise_cons.2 ⟨fun z a=>?_,zzz b x l e⟩;rcases mem_cons.1 ((y00 cmp x l).mem_iff.1 a) with a|a
   ·subst a;cases d:ltOf cmp z y with
    |false=>rfl
    |true=>have:=b.trans _ _ _ c d;rw [b.irrefl] at this;cases this
   ·exact h1 z a
  |false =>
   refine pairwise_cons.2 ⟨fun z a=>?_,h⟩;rcases mem_cons.1 a with a|a
   ·subst a;exact c
   ·exact b.ntrans _ _ _ (h1 z a) c
theorem zrh {cmp:T->T->Int}(a:SWO (ltOf cmp)):∀ l:List T,(zxz cmp l).Pairwise (fun x y=>ltOf cmp y x=false)
 |[]=>.nil
 |x::l=>zzz a x _ (zrh a l)
theorem yh7 {cmp:T->T->Int}(i:SWO (ltOf cmp)){l c:List T}(e:∀ x∈l,∀ y∈l,ltOf cmp x y=false->ltOf cmp y x=false->x=y)(d:c.Perm l)(f:c.Pairwise (fun x y=>ltOf cmp y x=false)):c=zxz cmp l :=
 Perm.eq_of_pairwise (le:=fun x y=>ltOf cmp y x=false) (fun a b h g h1 j=>e a (d.mem_iff.1 h) b ((zio cmp l).mem_iff.1 g) j h1) f (zrh i l) (d.trans (zio cmp l).symm)
end
theorem y4q {w w':World}(h:Below w.heap.size w w')(d:w.drawn<=w'.drawn):∃ q e,w'=grow (w.drewN q) e:=by
 refine ⟨w'.drawn-w.drawn,w'.heap.extract w.heap.size w'.heap.size,?_⟩;obtain ⟨a,tape',drawn',b,output'⟩:=w';have l:b=w.os:=h.os;have j:tape'=w.tape:=h.tape;have i:output'=w.output:=h.output;have m:w.heap.size<=a.size:=h.size;have g:∀ k,k<w.heap.size->a[k]? = w.heap[k]? := h.block;have d:w.drawn<=drawn':=d;subst l j i;have eh:a=w.heap++a.extract w.heap.size a.size:=by
  apply Array.ext_getElem?;intro k;by_cases c:k<w.heap.size
  ·rw [Array.getElem?_append_left c];exact g k c
  ·rw [Array.getElem?_append_right (by omega),Array.getElem?_extract];by_cases f:k<a.size
   ·rw [if_pos (by omega)];congr 1;omega
   ·rw [if_neg (by omega),Array.getElem?_eq_none (by omega)]
 have ed:drawn'=w.drawn+(drawn' - w.drawn):=by omega
 simp only [grow,World.drewN];congr 1
theorem ykj (F a:Array Value)(h:F.size<=a.size):(putCells id 0 F a).toList.take F.size=F.toList:=by
 apply ext_getElem?;intro j;by_cases b:j<F.size
 ·rw [getElem?_take_of_lt b,Array.getElem?_toList];simp [putCells,b,show j<a.size by omega]
 ·rw [getElem?_take_eq_none (by omega),getElem?_eq_none (by simp;omega)]
abbrev SEl (w:World)(S:Nat->Prop)(sz:Nat){T:Type}(encT:T->AV):Type:={ p:List Value×T // p.1.length=sz/\(∀ v∈p.1,v.oneCell'=true)/\Rep w S G0 (encT p.2) (.agg p.1.toArray) }
theorem yeq {α:Type}[Inhabited α](enc:α->List Value)(sz:Nat)(g:∀ x,(enc x).length=sz)(d:Array α)(k j:Nat)(b:k<d.size)(c:j<sz):(flatK enc sz d).toList.getD (k*sz+j) undef=(enc d[k]!).getD j undef:=by
 have a:k*sz+j<d.size*sz:=by
  have:(k+1)*sz<=d.size*sz:=Nat.mul_le_mul_right _ b;rw [Nat.succ_mul] at this;omega
 have h1:=get_flatK enc sz d (k*sz+j) a;have i:(k*sz+j) / sz=k:=by rw [Nat.mul_comm,Nat.mul_add_div (by omega),Nat.div_eq_of_lt c,Nat.add_zero]
 have h:(k*sz+j) % sz=j:=by rw [Nat.mul_comm,Nat.mul_add_mod,Nat.mod_eq_of_lt c]
 rw [i,h] at h1;have f:k*sz+j<(flatK enc sz d).size:=by rw [size_flatK];exact a
 rw [getD_eq_getElem?_getD,Array.getElem?_toList,Array.getElem?_eq_getElem f,Option.getD_some,<-getElem!_pos (flatK enc sz d) _ f,h1];have e:j<(enc d[k]!).length:=by rw [g];exact c
 rw [getElem!_pos (enc d[k]!) j e,getD_eq_getElem?_getD,getElem?_eq_getElem e,Option.getD_some]
theorem yde {E Ed:Env}{f g ty sz:Nat}{T:Type}[DecidableEq T]{encT:T->AV}{cmp:T->T->Int}{n:Nat}{l D:List T}(hP:Ed.P=E.P)(bv:Ed.dr=true)(he:zfq E f)(ce:zfq E g)(ae:0<sz)
  (R:∀ x,∃ cs,encT x=.agg cs/\cs.length=sz)
  (af:∀ (α:Type) [Inhabited α] (enc:α->List Value) (I:∀ x,(enc x).length=sz) (h1:∀ x,∀ v∈enc x,v.oneCell'=true) (cf:α->α->Int) (hO:SWO (ltOf cf)) (blk off c:Nat) (d:Array α) (w:World)
    (ac:CmpLays E.P g #[] enc sz cf blk off d.size w) (hH:HoldsK enc sz w blk off d) (Q:blk<w.heap.size) (ae:d.size<4611686018427387904),
    Calls E.P f #[.slice (some ⟨blk,off,none⟩) d.size c,.func (.func g) #[] #[]] w fun e w'=>e=.returned (.tuple #[])/\∃ a n os,PermIn 0 d.size d a/\SortedIn (ltOf cf) 0 d.size a/\w'=sortWorldK enc sz w blk off n a os)
  (ai:∀ (p:Option Addr) (c:Nat) (fv:Value) (w:World),Calls E.P f #[.slice p 0 c,fv] w fun e w'=>e=.returned (.tuple #[])/\w'=w)
  (hc:∀ x y,Con Ed true g [encT x,encT y] (.int .i64 (cmp x y))) (hO:SWO (ltOf cmp)) (hF:y3x cmp n l=some D) :
  ConC true E f [.row 0,.fn g []] ty sz (l.map encT) ty sz (D.map encT) (.tup []):=by
 unfold y3x at hF;split at hF;rotate_left
 ·cases hF
 rename_i ao;obtain ⟨cb,ad⟩:=ao;injection hF with hF
 refine ⟨he,rfl,fun S w0 w vs v us ch B bx bg aa ak bc ap=>?_⟩
 -- the arguments
 have ha:=ap (fun i=>if i=0 then some (some (v.ownBlock,v)) else none) rfl;have h0:=(ha 0 (by simp)).row_inv (g:=v.ownBlock) (s:=v) rfl (zgn (zaf B));obtain ⟨cs,h1,t,_⟩:=(ha 1 (by simp)).fn_inv;have ba:cs=#[]:=Array.eq_empty_of_size_eq_zero t;subst ba;have evs:vs=#[v,.func (.func g) #[] #[]]:=by
  have:=ys4 bc;rw [h0,h1] at this;exact this
 rw [evs];clear ha h0 h1 evs;have G:(l.map encT).length=l.length:=length_map _;have o:D.length=l.length:=by rw [<-hF];exact (zio cmp l).length_eq
 -- no element
 have empty:l=[]->Calls E.P f #[v,.func (.func g) #[] #[]] w fun e w'=>∃ u v' us',e=.returned u/\w.grownBy w' v.ownBlock/\w'.ownsRow w0.heap.size ty sz v' (D.map encT).length us'/\(true=true->v'=v)/\(∀ b,v'.ownBlock=some b->v.ownBlock=some b\/w.heap.size<=b)/\(∀ k (I:k<(D.map encT).length),((D.map encT)[k]).cells.length=sz) /\
   (∀ k (I:k<(D.map encT).length) j (C:j<((D.map encT)[k]).cells.length),Rep w' (fun b=>(S b\/w.heap.size<=b)/\v'.ownBlock≠some b) G0 (((D.map encT)[k]).cells[j]) (us'.getD (k*sz+j) undef))/\(∀ u∈us',u.oneCell'=true) /\
   ∀ γ':Gam,γ' 0=some (some (v'.ownBlock,v'))->Rep w' (fun b=>(S b\/w.heap.size<=b)/\v'.ownBlock≠some b) γ' (.tup []) u:=fun h0=>by
  have U:D=[]:=by rw [<-hF,h0];simp [zxz]
  subst U;subst h0;have K:∃ p c,v=.slice p 0 c:=by
   rcases B.2 with ⟨K,_⟩|⟨b,c,aq,K,_⟩
   ·exact ⟨none,0,K⟩
   ·exact ⟨_,c,K⟩
  obtain ⟨p,c,K⟩:=K;have r:=ai p c (.func (.func g) #[] #[]) w;rw [<-K] at r;refine r.mono ?_;rintro e w' ⟨rfl,rfl⟩;exact ⟨_,v,us,rfl,World.grownBy.refl _ _,B,fun _=>rfl,fun b W=>Or.inl W,fun k I=>absurd I (by simp),fun k I=>absurd I (by simp),aa,fun γ' _=>.tup #[] rfl (fun i hi=>absurd hi (by simp))⟩
 by_cases U:l=[]
 ·exact empty U
 have bj:0<l.length:=length_pos_iff.2 U;rcases B.2 with ⟨_,h0⟩|⟨blk,c,aq,K,bt,hh,hn,hm,hs,ht⟩
 ·omega
 have Q:blk<w.heap.size:=(Array.getElem?_eq_some_iff.1 hh).1;have ah:v.ownBlock=some blk:=by rw [K];rfl
 have bw:us.length=l.length*sz:=by rw [B.1,G]
 have cd:∀ k j,k<l.length->j<sz->k*sz+j<l.length*sz:=fun k j I C=>by
  have:(k+1)*sz<=l.length*sz:=Nat.mul_le_mul_right _ I;rw [Nat.succ_mul] at this;omega
 -- the elements
 have an:∀ i (hi:i<l.length),((us.drop (i*sz)).take sz).length=sz/\(∀ v∈(us.drop (i*sz)).take sz,v.oneCell'=true)/\Rep w S G0 (encT l[i]) (.agg ((us.drop (i*sz)).take sz).toArray):=fun i hi=>by
  have O:((us.drop (i*sz)).take sz).length=sz:=by
   rw [length_take,length_drop];have:(i+1)*sz<=l.length*sz:=Nat.mul_le_mul_right _ hi;rw [Nat.succ_mul] at this;omega
  have N:∀ v∈(us.drop (i*sz)).take sz,v.oneCell'=true:=fun v K=>aa v (mem_of_mem_drop (mem_of_mem_take K))
  refine ⟨O,N,?_⟩;obtain ⟨cs,t,V⟩:=R l[i];rw [t];have ay:∀ j,j<sz->((us.drop (i*sz)).take sz).toArray.getD j undef=us.getD (i*sz+j) undef:=fun j C=>by
   rw [Array.getD_eq_getD_getElem?,getElem?_toArray,getElem?_take_of_lt C,getElem?_drop,getD_eq_getElem?_getD]
  refine .agg _ (by simpa [V] using O) (fun j C=>?_) (fun j C=>?_)
  ·rw [ay j (by omega)];have bo:i<(l.map encT).length:=by rw [G];exact hi
   have e:(l.map encT)[i]=.agg cs:=by rw [getElem_map];exact t
   have:=bg i bo j (by rw [e];exact C);simp only [e,AV.cells] at this;exact this
  ·have F:j<((us.drop (i*sz)).take sz).length:=by simpa using C
   rw [Array.getD_eq_getD_getElem?,getElem?_toArray,getElem?_eq_getElem F,Option.getD_some];exact N _ (getElem_mem F)
 let A:=SEl w S sz encT;let enc:A->List Value:=fun p=>p.1.1
 let d:Array A:=(ofFn fun i:Fin l.length=>(⟨((us.drop (i.1*sz)).take sz,l[i.1]),an i.1 i.2⟩:A)).toArray
 haveI:Inhabited A:=⟨⟨((us.drop (0*sz)).take sz,l[0]),an 0 bj⟩⟩
 have J:d.size=l.length:=by simp [d]
 have bs:∀ i (hi:i<l.length),d[i]! = ⟨((us.drop (i*sz)).take sz,l[i]),an i hi⟩:=fun i hi=>by
  rw [getElem!_pos d i (by rw [J];exact hi)];simp [d]
 have I:∀ x:A,(enc x).length=sz:=fun x=>x.2.1
 have ac:CmpLays E.P g #[] enc sz (fun x y:A=>cmp x.1.2 y.1.2) blk 0 d.size w:=fun m os dk cg x y=>by
  have ab:=(hc x.1.2 y.1.2).2 S (sortWorldK enc sz w blk 0 m dk os) #[.agg (enc x).toArray,.agg (enc y).toArray] ⟨rfl,fun i hi=>?_⟩
  ·rw [hP] at ab;refine ab.mono ?_;rintro e w' ⟨u,rfl,⟨W,bq⟩,hu⟩;exact ⟨by rw [hu.int_inv],y4q W (bq bv)⟩
  ·have key:∀ z:A,Rep (sortWorldK enc sz w blk 0 m dk os) S G0 (encT z.1.2) (.agg (enc z).toArray):=fun z=>by
    refine z.2.2.2.mono ?_ (fun b hS W=>⟨?_,hS⟩)
    ·simp [sortWorldK,grow,putRowK,putRow,mapBlock,Go.Sort.ahead]
    ·have aj:blk≠b:=fun e=>ak blk ah (e▸hS)
     unfold sortWorldK;rw [heap_grow_old _ _ (by simpa [putRowK,Go.Sort.ahead] using W)];simp [putRowK,putRow,mapBlock,Go.Sort.ahead,Array.getElem?_modify,aj]
   have ax:i<2:=hi;rcases i with _|_|i
   ·exact key x
   ·exact key y
   ·omega
 have hH:HoldsK enc sz w blk 0 d:=fun j C=>by
  have F:j<l.length*sz:=by rw [size_flatK,J] at C;exact C
  have hq:j / sz<l.length:=Nat.div_lt_of_lt_mul (by rwa [Nat.mul_comm] at F);have hm:=Nat.mod_lt j ae;have e:=yeq enc sz I d (j / sz) (j % sz) (by rw [J];exact hq) hm;have ej:j / sz*sz+j % sz=j:=by rw [Nat.mul_comm];exact Nat.div_add_mod j sz
  rw [ej] at e;have ef:(flatK enc sz d)[j]! = us.getD j undef:=by
   rw [getElem!_pos (flatK enc sz d) j C];have h1:(flatK enc sz d).toList.getD j undef=(flatK enc sz d)[j]:=by
    rw [getD_eq_getElem?_getD,Array.getElem?_toList,Array.getElem?_eq_getElem C];rfl
   rw [<-h1,e,bs _ hq];show ((us.drop (j / sz*sz)).take sz).getD (j % sz) undef=us.getD j undef;rw [getD_eq_getElem?_getD,getElem?_take_of_lt hm,getElem?_drop,ej,<-getD_eq_getElem?_getD]
  rw [ef,Nat.zero_add];refine ⟨zi8 B ah j (by rw [G];exact F),?_⟩;simp [World.frozen?,hh]
 have bu:SWO (ltOf fun x y:A=>cmp x.1.2 y.1.2):=⟨fun x=>hO.irrefl _,fun x y z=>hO.trans _ _ _,fun x y z=>hO.ntrans _ _ _⟩;have r:=af A enc I (fun x=>x.2.2.1) (fun x y=>cmp x.1.2 y.1.2) bu blk 0 c d w ac hH Q (by rw [J];omega);have ev:v=.slice (some ⟨blk,0,none⟩) d.size c:=by rw [K,G,J]
 rw [<-ev] at r;refine r.mono ?_;rintro e w' ⟨rfl,a,m,os,⟨au,_,av⟩,bf,ar⟩;have P:a.size=l.length:=au.trans J
 -- what lies there now
 have e1:a.extract 0 d.size=a:=by rw [<-au];exact Array.extract_size
 rw [e1,Array.extract_size] at av;have br:d.toList.map (fun p=>p.1.2)=l:=by
  simp only [d,map_ofFn];apply ext_getElem
  ·simp
  ·intro i h1 h2;simp
 have ag:(a.toList.map (fun p=>p.1.2)).Perm l:=by
  have:=av.map (fun p:A=>p.1.2)
  rwa [br] at this
 have M:(a.toList.map (fun p=>p.1.2)).Pairwise (fun x y=>ltOf cmp y x=false):=by
  rw [pairwise_iff_getElem];intro i j hi C bp;have ax:i<a.size:=by simpa using hi
  have F:j<a.size:=by simpa using C
  have:=bf i j (Nat.zero_le _) bp (by rw [J,<-P];exact F);rw [getElem!_pos a i ax,getElem!_pos a j F] at this;simpa [ltOf] using this
 have az:a.toList.map (fun p=>p.1.2)=D:=by rw [<-hF];exact yh7 hO ad ag M
 have aw:∀ k (H:k<D.length),∃ h:k<a.size,D[k]=a[k].1.2:=fun k H=>by
  have h:k<a.size:=by omega
  refine ⟨h,?_⟩;have:D[k]=(a.toList.map (fun p=>p.1.2))[k]'(by simpa using h):=by simp only [az]
  rw [this];simp
 have am:w.grownBy w' v.ownBlock:=by
  rw [ah,ar];refine ⟨rfl,rfl,rfl,by simp [sortWorldK,grow,putRowK,putRow,mapBlock,Go.Sort.ahead],fun k I aj=>?_⟩;unfold sortWorldK;rw [heap_grow_old _ _ (by simpa [putRowK,Go.Sort.ahead] using I)];have:blk≠k:=fun e=>aj (by rw [e])
  simp [putRowK,putRow,mapBlock,Go.Sort.ahead,Array.getElem?_modify,this]
 have X:(flatK enc sz a).size=l.length*sz:=by rw [size_flatK,P]
 have bb:l.length*sz<=aq.size:=by
  rw [hs];rw [G] at hn;exact Nat.mul_le_mul_right _ hn
 have al:w'.heap[blk]? = some (.cells (putCells id 0 (flatK enc sz a) aq) ty (0,0)):=by
  rw [ar];unfold sortWorldK;rw [heap_grow_old _ _ (by simpa [putRowK,Go.Sort.ahead] using Q)];simp [putRowK,putRow,mapBlock,Go.Sort.ahead,Array.getElem?_modify,hh,onCells]
 have Y:∀ k j,k<l.length->j<sz->(flatK enc sz a).toList.getD (k*sz+j) undef=(enc a[k]!).getD j undef:=fun k j H C=>yeq enc sz I a k j (by rw [P];exact H) C
 refine ⟨_,v,(flatK enc sz a).toList,rfl,am,⟨by rw [Array.length_toList,X,length_map,o],Or.inr ⟨blk,c,_,?_,bt,al,?_,hm,?_,?_⟩⟩,fun _=>rfl,fun b W=>Or.inl W,fun k H=>?_,fun k H j C=>?_,fun u hu=>?_,fun γ' _=>.tup #[] rfl (fun i hi=>absurd hi (by simp))⟩
 ·rw [length_map,o,K,G]
 ·rw [length_map,o];rw [G] at hn;exact hn
 ·simp [putCells,hs]
 ·rw [length_map,o,<-X];exact ykj _ _ (by rw [X];exact bb)
 ·rw [getElem_map];obtain ⟨cs,t,V⟩:=R (D[k]'(by simpa using H));rw [t];exact V
 ·have bm:k<D.length:=by simpa using H
  obtain ⟨bl,bk⟩:=aw k bm;have e:(D.map encT)[k]=encT a[k].1.2:=by rw [getElem_map,bk]
  simp only [e] at C ⊢;obtain ⟨cs,t,V⟩:=R a[k].1.2;have bn:j<sz:=by rw [t] at C;simp only [AV.cells] at C;omega
  rw [Y k j (by omega) bn,getElem!_pos a k bl];have Z:=a[k].2.2.2;rw [t] at Z;obtain ⟨bz,L,ca,bd,_⟩:=Z.agg_inv;injection L with L
  subst L;have:=bd j (by omega);simp only [t,AV.cells];rw [Array.getD_eq_getD_getElem?,getElem?_toArray,<-getD_eq_getElem?_getD] at this;refine this.mono am.size (fun b hS W=>⟨am.block b W (fun e=>ak b e.symm hS),Or.inl hS,fun e=>ak b e hS⟩)
 ·obtain ⟨q,hq,rfl⟩:=mem_iff_getElem.1 hu;have bi:q<l.length*sz:=by rw [Array.length_toList,X] at hq;exact hq
  have bh:q / sz<l.length:=Nat.div_lt_of_lt_mul (by rwa [Nat.mul_comm] at bi);have hm:=Nat.mod_lt q ae;have:=Y (q / sz) (q % sz) bh hm;have ej:q / sz*sz+q % sz=q:=by rw [Nat.mul_comm];exact Nat.div_add_mod q sz
  rw [ej,getD_eq_getElem?_getD,getElem?_eq_getElem hq,Option.getD_some] at this;rw [this];have cc:=I a[q / sz]!;rw [getD_eq_getElem?_getD,getElem?_eq_getElem (by omega),Option.getD_some];exact (a[q / sz]!).2.2.1 _ (getElem_mem _)
end Go.Proofs.YtidhlpjgifoneaaGreat
namespace Go.Proofs
open Go.Shelf
def Tryz.laysSlF06_f161_ren:Go.Shelf.Ren:=⟨fun|6=>161|15=>175|14=>195|28=>206|29=>207|20=>220|21=>221|22=>222|23=>223|24=>224|25=>225|26=>226|27=>227|46=>245|47=>230|48=>231|49=>246|50=>247|57=>264|n=>n,fun|22=>57|24=>60|25=>62|3=>3|39=>236|0=>0|53=>265|55=>267|4=>4|46=>258|45=>257|50=>262|5=>5|9=>9|66=>280|70=>284|76=>300|77=>242|n=>n,fun|n=>n⟩
theorem Tryz.laysSlF06_f161:Go.Proofs.SlLaysF0.n6 Tryz.prog Tryz.laysSlF06_f161_ren:={
 mixed:=by kernel_rfl
 f6:=⟨Tryz.f161.name,by decide,Tryz.func161.trans (congrArg some (by kernel_rfl))⟩
 f14:=⟨Tryz.f195.name,by decide,Tryz.func195.trans (congrArg some (by kernel_rfl))⟩
 f15:=Tryz.func175.trans (congrArg some (by kernel_rfl))
 f20:=⟨Tryz.f220.name,by decide,Tryz.func220.trans (congrArg some (by kernel_rfl))⟩
 f21:=⟨Tryz.f221.name,by decide,Tryz.func221.trans (congrArg some (by kernel_rfl))⟩
 f22:=⟨Tryz.f222.name,by decide,Tryz.func222.trans (congrArg some (by kernel_rfl))⟩
 f23:=⟨Tryz.f223.name,by decide,Tryz.func223.trans (congrArg some (by kernel_rfl))⟩
 f24:=⟨Tryz.f224.name,by decide,Tryz.func224.trans (congrArg some (by kernel_rfl))⟩
 f25:=⟨Tryz.f225.name,by decide,Tryz.func225.trans (congrArg some (by kernel_rfl))⟩
 f26:=⟨Tryz.f226.name,by decide,Tryz.func226.trans (congrArg some (by kernel_rfl))⟩
 f27:=⟨Tryz.f227.name,by decide,Tryz.func227.trans (congrArg some (by kernel_rfl))⟩
 f28:=Tryz.func206.trans (congrArg some (by kernel_rfl))
 f29:=Tryz.func207.trans (congrArg some (by kernel_rfl))
 f46:=⟨Tryz.f245.name,by decide,Tryz.func245.trans (congrArg some (by kernel_rfl))⟩
 f47:=Tryz.func230.trans (congrArg some (by kernel_rfl))
 f48:=Tryz.func231.trans (congrArg some (by kernel_rfl))
 f49:=⟨Tryz.f246.name,by decide,Tryz.func246.trans (congrArg some (by kernel_rfl))⟩
 f50:=⟨Tryz.f247.name,by decide,Tryz.func247.trans (congrArg some (by kernel_rfl))⟩
 f57:=⟨Tryz.f264.name,by decide,Tryz.func264.trans (congrArg some (by kernel_rfl))⟩
 t0:=Tryz.underlying0
 a0:=Tryz.isAgg0
 z0:=Tryz.sizeOf0
 v0:=Tryz.zeroValue0
 t3:=Tryz.underlying3
 a3:=Tryz.isAgg3
 z3:=Tryz.sizeOf3
 v3:=Tryz.zeroValue3
 t4:=Tryz.underlying4
 a4:=Tryz.isAgg4
 z4:=Tryz.sizeOf4
 v4:=Tryz.zeroValue4
 t5:=Tryz.underlying5
 a5:=Tryz.isAgg5
 z5:=Tryz.sizeOf5
 v5:=Tryz.zeroValue5
 t9:=Tryz.underlying9
 a9:=Tryz.isAgg9
 z9:=Tryz.sizeOf9
 v9:=Tryz.zeroValue9
 t22:=Tryz.underlying57
 a22:=Tryz.isAgg57
 z22:=Tryz.sizeOf57
 v22:=Tryz.zeroValue57
 t25:=Tryz.underlying62
 a25:=Tryz.isAgg62
 z25:=Tryz.sizeOf62
 v25:=Tryz.zeroValue62
 t39:=Tryz.underlying236
 a39:=Tryz.isAgg236
 z39:=Tryz.sizeOf236
 v39:=Tryz.zeroValue236
 t45:=Tryz.underlying257
 a45:=Tryz.isAgg257
 z45:=Tryz.sizeOf257
 v45:=Tryz.zeroValue257
 t46:=Tryz.underlying258
 a46:=Tryz.isAgg258
 z46:=Tryz.sizeOf258
 v46:=Tryz.zeroValue258
 t50:=Tryz.underlying262
 a50:=Tryz.isAgg262
 z50:=Tryz.sizeOf262
 v50:=Tryz.zeroValue262
 t53:=Tryz.underlying265
 a53:=Tryz.isAgg265
 z53:=Tryz.sizeOf265
 v53:=Tryz.zeroValue265
 t55:=Tryz.underlying267
 a55:=Tryz.isAgg267
 z55:=Tryz.sizeOf267
 v55:=Tryz.zeroValue267
 t66:=Tryz.underlying280
 a66:=Tryz.isAgg280
 z66:=Tryz.sizeOf280
 v66:=Tryz.zeroValue280
 t70:=Tryz.underlying284
 a70:=Tryz.isAgg284
 z70:=Tryz.sizeOf284
 v70:=Tryz.zeroValue284
 t76:=Tryz.underlying300
 a76:=Tryz.isAgg300
 z76:=Tryz.sizeOf300
 v76:=Tryz.zeroValue300
 t77:=Tryz.underlying242
 a77:=Tryz.isAgg242
 z77:=Tryz.sizeOf242
 v77:=Tryz.zeroValue242 }
def Tryz.laysSlF06_f128_ren:Go.Shelf.Ren:=⟨fun|6=>128|15=>175|14=>174|28=>206|29=>207|20=>198|21=>199|22=>200|23=>201|24=>202|25=>203|26=>204|27=>205|46=>229|47=>230|48=>231|49=>232|50=>233|57=>251|n=>n,fun|22=>50|24=>44|25=>49|3=>3|39=>236|0=>0|53=>265|55=>267|4=>4|46=>258|45=>257|50=>262|5=>5|9=>9|66=>280|70=>284|76=>300|77=>242|n=>n,fun|n=>n⟩
theorem Tryz.laysSlF06_f128:Go.Proofs.SlLaysF0.n6 Tryz.prog Tryz.laysSlF06_f128_ren:={
 mixed:=by kernel_rfl
 f6:=⟨Tryz.f128.name,by decide,Tryz.func128.trans (congrArg some (by kernel_rfl))⟩
 f14:=⟨Tryz.f174.name,by decide,Tryz.func174.trans (congrArg some (by kernel_rfl))⟩
 f15:=Tryz.func175.trans (congrArg some (by kernel_rfl))
 f20:=⟨Tryz.f198.name,by decide,Tryz.func198.trans (congrArg some (by kernel_rfl))⟩
 f21:=⟨Tryz.f199.name,by decide,Tryz.func199.trans (congrArg some (by kernel_rfl))⟩
 f22:=⟨Tryz.f200.name,by decide,Tryz.func200.trans (congrArg some (by kernel_rfl))⟩
 f23:=⟨Tryz.f201.name,by decide,Tryz.func201.trans (congrArg some (by kernel_rfl))⟩
 f24:=⟨Tryz.f202.name,by decide,Tryz.func202.trans (congrArg some (by kernel_rfl))⟩
 f25:=⟨Tryz.f203.name,by decide,Tryz.func203.trans (congrArg some (by kernel_rfl))⟩
 f26:=⟨Tryz.f204.name,by decide,Tryz.func204.trans (congrArg some (by kernel_rfl))⟩
 f27:=⟨Tryz.f205.name,by decide,Tryz.func205.trans (congrArg some (by kernel_rfl))⟩
 f28:=Tryz.func206.trans (congrArg some (by kernel_rfl))
 f29:=Tryz.func207.trans (congrArg some (by kernel_rfl))
 f46:=⟨Tryz.f229.name,by decide,Tryz.func229.trans (congrArg some (by kernel_rfl))⟩
 f47:=Tryz.func230.trans (congrArg some (by kernel_rfl))
 f48:=Tryz.func231.trans (congrArg some (by kernel_rfl))
 f49:=⟨Tryz.f232.name,by decide,Tryz.func232.trans (congrArg some (by kernel_rfl))⟩
 f50:=⟨Tryz.f233.name,by decide,Tryz.func233.trans (congrArg some (by kernel_rfl))⟩
 f57:=⟨Tryz.f251.name,by decide,Tryz.func251.trans (congrArg some (by kernel_rfl))⟩
 t0:=Tryz.underlying0
 a0:=Tryz.isAgg0
 z0:=Tryz.sizeOf0
 v0:=Tryz.zeroValue0
 t3:=Tryz.underlying3
 a3:=Tryz.isAgg3
 z3:=Tryz.sizeOf3
 v3:=Tryz.zeroValue3
 t4:=Tryz.underlying4
 a4:=Tryz.isAgg4
 z4:=Tryz.sizeOf4
 v4:=Tryz.zeroValue4
 t5:=Tryz.underlying5
 a5:=Tryz.isAgg5
 z5:=Tryz.sizeOf5
 v5:=Tryz.zeroValue5
 t9:=Tryz.underlying9
 a9:=Tryz.isAgg9
 z9:=Tryz.sizeOf9
 v9:=Tryz.zeroValue9
 t22:=Tryz.underlying50
 a22:=Tryz.isAgg50
 z22:=Tryz.sizeOf50
 v22:=Tryz.zeroValue50
 t25:=Tryz.underlying49
 a25:=Tryz.isAgg49
 z25:=Tryz.sizeOf49
 v25:=Tryz.zeroValue49
 t39:=Tryz.underlying236
 a39:=Tryz.isAgg236
 z39:=Tryz.sizeOf236
 v39:=Tryz.zeroValue236
 t45:=Tryz.underlying257
 a45:=Tryz.isAgg257
 z45:=Tryz.sizeOf257
 v45:=Tryz.zeroValue257
 t46:=Tryz.underlying258
 a46:=Tryz.isAgg258
 z46:=Tryz.sizeOf258
 v46:=Tryz.zeroValue258
 t50:=Tryz.underlying262
 a50:=Tryz.isAgg262
 z50:=Tryz.sizeOf262
 v50:=Tryz.zeroValue262
 t53:=Tryz.underlying265
 a53:=Tryz.isAgg265
 z53:=Tryz.sizeOf265
 v53:=Tryz.zeroValue265
 t55:=Tryz.underlying267
 a55:=Tryz.isAgg267
 z55:=Tryz.sizeOf267
 v55:=Tryz.zeroValue267
 t66:=Tryz.underlying280
 a66:=Tryz.isAgg280
 z66:=Tryz.sizeOf280
 v66:=Tryz.zeroValue280
 t70:=Tryz.underlying284
 a70:=Tryz.isAgg284
 z70:=Tryz.sizeOf284
 v70:=Tryz.zeroValue284
 t76:=Tryz.underlying300
 a76:=Tryz.isAgg300
 z76:=Tryz.sizeOf300
 v76:=Tryz.zeroValue300
 t77:=Tryz.underlying242
 a77:=Tryz.isAgg242
 z77:=Tryz.sizeOf242
 v77:=Tryz.zeroValue242 }
end Go.Proofs
