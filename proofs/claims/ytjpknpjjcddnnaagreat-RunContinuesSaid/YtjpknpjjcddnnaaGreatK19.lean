/- What some functions compute, over plain values. Printed by a program of mine (gen_fun.lean). slices.SortFunc at structs, in its place: a contract of the abstract walk out of the kit's. Contracts of the library, out of the shelf of the kit, at this program (written by the kit's lay-shelf and lay-plain). -/
import Derived.Test.YtjpknpjjcddnnaaGreatK18
import Derived.Test.YtjpknpjjcddnnaaGreatK17
import Derived.Shelf.SlSortCmp.NoneTotal
import Derived.Sort.OwnSorted
import Derived.Test.YtjpknpjjcddnnaaGreatProg
set_option linter.unusedVariables false
set_option linter.unusedSimpArgs false
set_option maxRecDepth 100000
set_option maxHeartbeats 8000000
namespace Go.Proofs.YtjpknpjjcddnnaaGreat
open Go.RowKit
def zh4 (n:Nat)(a0:Int):Option (Bool) :=
 some (!decide (a0=a0))
def z6q (n:Nat)(a0:Int)(a1:Int):Option (Int) :=
 bnd (zh4 n a0) fun x1 =>
 bnd (zh4 n a1) fun x2 =>
 cnd (x1)
  (cnd (x2)
    (some 0)
  <| some (-1))
 <| cnd (x2)
  (some 1)
 <| cnd (decide (a0<a1))
  (some (-1))
 <| cnd (decide (a1<a0))
  (some 1)
 <| some 0
def zf8 (n:Nat)(a0:(List Int))(k1_0_0:Option (Int)):Nat->Int->Option (Int)
 |0,_=>none
 |mv1_0+1,v1_0 =>
  cnd (decide (v1_0<((a0.map aI).length:Int)))
   (idx a0 v1_0 fun x41 =>
   cnd (!decide (x41=0))
    (some x41)
   <| (zf8 n a0 k1_0_0 mv1_0) (IntKind.wrap .i64 (v1_0+1)))
  <| k1_0_0
def zdz (n:Nat)(a0:(List Int)):Option (Int) :=
 zf8 n a0
  (some 0) n 0
def zfu (n:Nat)(a0:z13)(a1:z13):Option (Int) :=
 bnd (z6q n a0.fTime a1.fTime) fun x1 =>
 bnd (z6q n a0.fSource a1.fSource) fun x2 =>
 bnd (z6q n a0.fSeq a1.fSeq) fun x3 =>
 bnd (zdz n ([x1,x2,x3])) fun x4 =>
 some x4
def zba (n:Nat)(a0:z0p)(a1:z0p):Option (Int) :=
 bnd (zfu n a0.fRef a1.fRef) fun x1 =>
 bnd (z6q n a0.fVar a1.fVar) fun x2 =>
 bnd (zdz n ([x1,x2])) fun x3 =>
 some x3
def z5f (n:Nat)(a1:(List z0p))(a0:(List z0p))(k1_0_0:Option (Int)):Nat->Int->Option (Int)
 |0,_=>none
 |mv1_0+1,v1_0 =>
  cnd (decide (v1_0<((a0.map z06).length:Int)))
   (idx a0 v1_0 fun x41 =>
   cnd (decide (((a1.map z06).length:Int)<=v1_0))
    (some 1)
   <| idx a1 v1_0 fun x42 =>
   bnd (zba n x41 x42) fun x43 =>
   cnd (!decide (x43=0))
    (some x43)
   <| (z5f n a1 a0 k1_0_0 mv1_0) (IntKind.wrap .i64 (v1_0+1)))
  <| k1_0_0
def z99 (n:Nat)(a0:(List z0p))(a1:(List z0p)):Option (Int) :=
 z5f n a1 a0
  (cnd (decide (((a0.map z06).length:Int)<((a1.map z06).length:Int)))
  (some (-1))
 <| some 0) n 0
def zd3 (n:Nat)(a0:z02)(a1:z02):Option (Int) :=
 bnd (z99 n a0.fBindings a1.fBindings) fun x1 =>
 some x1
def zd2 (n:Nat)(a0:z0c)(a1:z0c):Option (Int) :=
 bnd (z6q n a0.fScope a1.fScope) fun x1 =>
 bnd (z6q n a0.fTime a1.fTime) fun x2 =>
 bnd (zdz n ([x1,x2])) fun x3 =>
 some x3
def z3k (n:Nat)(a1:(List z0c))(a0:(List z0c))(k1_0_0:Option (Int)):Nat->Int->Option (Int)
 |0,_=>none
 |mv1_0+1,v1_0 =>
  cnd (decide (v1_0<((a0.map z07).length:Int)))
   (idx a0 v1_0 fun x41 =>
   cnd (decide (((a1.map z07).length:Int)<=v1_0))
    (some 1)
   <| idx a1 v1_0 fun x42 =>
   bnd (zd2 n x41 x42) fun x43 =>
   cnd (!decide (x43=0))
    (some x43)
   <| (z3k n a1 a0 k1_0_0 mv1_0) (IntKind.wrap .i64 (v1_0+1)))
  <| k1_0_0
def z7u (n:Nat)(a0:(List z0c))(a1:(List z0c)):Option (Int) :=
 z3k n a1 a0
  (cnd (decide (((a0.map z07).length:Int)<((a1.map z07).length:Int)))
  (some (-1))
 <| some 0) n 0
def zh0 (n:Nat)(a0:z00)(a1:z00):Option (Int) :=
 bnd (z6q n a0.fState a1.fState) fun x1 =>
 bnd (zd3 n (⟨a0.fBindings⟩:z02) (⟨a1.fBindings⟩:z02)) fun x2 =>
 bnd (z7u n a0.fStarts a1.fStarts) fun x3 =>
 bnd (zdz n ([x1,x2,x3])) fun x4 =>
 some x4
end Go.Proofs.YtjpknpjjcddnnaaGreat
namespace Go.Proofs.YtjpknpjjcddnnaaGreat
open Go.RowKit
def y20 (r:Bool):AV:=.bool (r)
theorem con_cmp_isNaN_d {n a0 r}(hF:zh4 n a0=some r):Con E0d true 112 [aI (a0)] (y20 r):=by
 unfold zh4 at hF
 refine Con.walk _ Tryz.func112 rfl (z08 Tryz.func112 rfl rfl) rfl (Or.inr rfl) ?_
 repeat' first
  |refine AW.step ?_;conv=>whnf
  |exact RetX.oA hF
def zeo (r:Int):AV:=aI (r)
theorem zf5 {n a0 a1 r}(hF:z6q n a0 a1=some r):Con E0d true 81 [aI (a0),aI (a1)] (zeo r):=by
 unfold z6q at hF
 refine Con.walk _ Tryz.func81 rfl (z08 Tryz.func81 rfl rfl) rfl (Or.inr rfl) ?_
 repeat' first
  |refine AW.step ?_;conv=>whnf
  |refine z0v.o hF (fun hF=>?_) (fun hF=>?_)
  |refine z0m.o hF y20 (fun a h=>con_cmp_isNaN_d h) (fun a hF=>?_)
  |exact RetX.oA hF
def S_cmp_Or_d_l1 (a0:(List Int))(v1_0:Int):AS:=⟨[(3,aI (0)),(6,.sl 1 (a0.map aI)),(7,aI (((a0.map aI).length:Int))),(8,aI (v1_0))],[]⟩
theorem cmp_Or_d_l1_o {n a0 k1_0_0}:z27 E0d 18 (zf8 n a0 k1_0_0) (S_cmp_Or_d_l1 a0):=LoopA.oT fun _=>rfl
def zrm (r:Int):AV:=aI (r)
theorem zn0 {n a0 r}(hF:zdz n a0=some r):Con E0d true 79 [.sl 1 (a0.map aI)] (zrm r):=by
 unfold zdz at hF
 refine Con.walk _ Tryz.func79 rfl (z08 Tryz.func79 rfl rfl) rfl (Or.inr rfl) ?_
 repeat' first
  |refine AW.step ?_;conv=>whnf
  |refine z0v.o hF (fun hF=>?_) (fun hF=>?_)
  |refine IdxX.o aI hF (fun x hF=>?_)
  |exact ⟨_,hF,LeX.a []⟩
  |refine cmp_Or_d_l1_o hF (LeX.a []) (fun m v hF=>?_);unfold zf8 at hF
  |exact RetX.oA hF
def y06 (r:Int):AV:=aI (r)
theorem con_match_refs_d {n a0 a1 r}(hF:zfu n a0 a1=some r):Con E0d true 80 [.agg [aI (a0.fTime),aI (a0.fSource),aI (a0.fSeq)],.agg [aI (a1.fTime),aI (a1.fSource),aI (a1.fSeq)]] (y06 r):=by
 unfold zfu at hF
 refine Con.walk _ Tryz.func80 rfl (z08 Tryz.func80 rfl rfl) rfl (Or.inr rfl) ?_
 repeat' first
  |refine AW.step ?_;conv=>whnf
  |refine z0m.o hF zeo (fun a h=>zf5 h) (fun a hF=>?_)
  |refine z0m.o hF zrm (fun a h=>zn0 h) (fun a hF=>?_)
  |refine And.intro ⟨by kernel_rfl,by kernel_rfl⟩ ?_
  |exact RetX.oA hF
def zlc (r:Int):AV:=aI (r)
theorem zx9 {n a0 a1 r}(hF:zba n a0 a1=some r):Con E0d true 78 [.agg [aI (a0.fVar),aI (a0.fRef.fTime),aI (a0.fRef.fSource),aI (a0.fRef.fSeq)],.agg [aI (a1.fVar),aI (a1.fRef.fTime),aI (a1.fRef.fSource),aI (a1.fRef.fSeq)]] (zlc r):=by
 unfold zba at hF
 refine Con.walk _ Tryz.func78 rfl (z08 Tryz.func78 rfl rfl) rfl (Or.inr rfl) ?_
 repeat' first
  |refine AW.step ?_;conv=>whnf
  |refine z0m.o hF y06 (fun a h=>con_match_refs_d h) (fun a hF=>?_)
  |refine z0m.o hF zeo (fun a h=>zf5 h) (fun a hF=>?_)
  |refine z0m.o hF zrm (fun a h=>zn0 h) (fun a hF=>?_)
  |refine And.intro ⟨by kernel_rfl,by kernel_rfl⟩ ?_
  |exact RetX.oA hF
def zou (a1:(List z0p))(a0:(List z0p))(v1_0:Int):AS:=⟨[(0,.sl 4 (a0.map z06)),(1,.sl 4 (a1.map z06)),(2,.fn 78 []),(11,.sl 4 (a0.map z06)),(12,aI (((a0.map z06).length:Int))),(13,aI (v1_0))],[]⟩
theorem znw {n a1 a0 k1_0_0}:z27 E0d 39 (z5f n a1 a0 k1_0_0) (zou a1 a0):=LoopA.oT fun _=>rfl
def zhh (r:Int):AV:=aI (r)
theorem zqc {n a0 a1 r}(hF:z99 n a0 a1=some r):Con E0d true 77 [.sl 4 (a0.map z06),.sl 4 (a1.map z06),.fn 78 []] (zhh r):=by
 unfold z99 at hF
 refine Con.walk _ Tryz.func77 rfl (z08 Tryz.func77 rfl rfl) rfl (Or.inr rfl) ?_
 repeat' first
  |refine AW.step ?_;conv=>whnf
  |refine z0v.o hF (fun hF=>?_) (fun hF=>?_)
  |refine IdxX.o z06 hF (fun x hF=>?_)
  |refine z0m.o hF zlc (fun a h=>zx9 h) (fun a hF=>?_)
  |exact ⟨_,hF,LeX.a []⟩
  |refine znw hF (LeX.a []) (fun m v hF=>?_);unfold z5f at hF
  |exact RetX.oA hF
def zrk (r:Int):AV:=aI (r)
theorem zkr {n a0 a1 r}(hF:zd3 n a0 a1=some r):Con E0d true 43 [.agg [.sl 4 (a0.fBindings.map z06)],.agg [.sl 4 (a1.fBindings.map z06)]] (zrk r):=by
 unfold zd3 at hF
 refine Con.walk _ Tryz.func43 rfl (z08 Tryz.func43 rfl rfl) rfl (Or.inr rfl) ?_
 repeat' first
  |refine AW.step ?_;conv=>whnf
  |refine z0m.o hF zhh (fun a h=>zqc h) (fun a hF=>?_)
  |exact RetX.oA hF
def zrj (r:Int):AV:=aI (r)
theorem y0l {n a0 a1 r}(hF:zd2 n a0 a1=some r):Con E0d true 90 [.agg [aI (a0.fScope),aI (a0.fTime)],.agg [aI (a1.fScope),aI (a1.fTime)]] (zrj r):=by
 unfold zd2 at hF
 refine Con.walk _ Tryz.func90 rfl (z08 Tryz.func90 rfl rfl) rfl (Or.inr rfl) ?_
 repeat' first
  |refine AW.step ?_;conv=>whnf
  |refine z0m.o hF zeo (fun a h=>zf5 h) (fun a hF=>?_)
  |refine z0m.o hF zrm (fun a h=>zn0 h) (fun a hF=>?_)
  |refine And.intro ⟨by kernel_rfl,by kernel_rfl⟩ ?_
  |exact RetX.oA hF
def zjw (a1:(List z0c))(a0:(List z0c))(v1_0:Int):AS:=⟨[(0,.sl 2 (a0.map z07)),(1,.sl 2 (a1.map z07)),(2,.fn 90 []),(11,.sl 2 (a0.map z07)),(12,aI (((a0.map z07).length:Int))),(13,aI (v1_0))],[]⟩
theorem zjo {n a1 a0 k1_0_0}:z27 E0d 39 (z3k n a1 a0 k1_0_0) (zjw a1 a0):=LoopA.oT fun _=>rfl
def zfp (r:Int):AV:=aI (r)
theorem zkm {n a0 a1 r}(hF:z7u n a0 a1=some r):Con E0d true 89 [.sl 2 (a0.map z07),.sl 2 (a1.map z07),.fn 90 []] (zfp r):=by
 unfold z7u at hF
 refine Con.walk _ Tryz.func89 rfl (z08 Tryz.func89 rfl rfl) rfl (Or.inr rfl) ?_
 repeat' first
  |refine AW.step ?_;conv=>whnf
  |refine z0v.o hF (fun hF=>?_) (fun hF=>?_)
  |refine IdxX.o z07 hF (fun x hF=>?_)
  |refine z0m.o hF zrj (fun a h=>y0l h) (fun a hF=>?_)
  |exact ⟨_,hF,LeX.a []⟩
  |refine zjo hF (LeX.a []) (fun m v hF=>?_);unfold z3k at hF
  |exact RetX.oA hF
def R_run_compare_d (r:Int):AV:=aI (r)
theorem con_run_compare_d {n a0 a1 r}(hF:zh0 n a0 a1=some r):Con E0d true 59 [.agg [aI (a0.fState),.sl 4 (a0.fBindings.map z06),.sl 2 (a0.fStarts.map z07)],.agg [aI (a1.fState),.sl 4 (a1.fBindings.map z06),.sl 2 (a1.fStarts.map z07)]] (R_run_compare_d r):=by
 unfold zh0 at hF
 refine Con.walk _ Tryz.func59 rfl (z08 Tryz.func59 rfl rfl) rfl (Or.inr rfl) ?_
 repeat' first
  |refine AW.step ?_;conv=>whnf
  |refine z0m.o hF zeo (fun a h=>zf5 h) (fun a hF=>?_)
  |refine z0m.o hF zrk (fun a h=>zkr h) (fun a hF=>?_)
  |refine z0m.o hF zfp (fun a h=>zkm h) (fun a hF=>?_)
  |refine z0m.o hF zrm (fun a h=>zn0 h) (fun a hF=>?_)
  |refine And.intro ⟨by kernel_rfl,by kernel_rfl⟩ ?_
  |exact RetX.oA hF
end Go.Proofs.YtjpknpjjcddnnaaGreat
namespace Go.Proofs.YtjpknpjjcddnnaaGreat
open Go.RowKit
open Go.Sort (SWO PermIn SortedIn HoldsK flatK putRowK putRow putCells grow mapBlock onCells size_flatK get_flatK heap_grow_old)
section
variable {T:Type}
def insF (cmp:T->T->Int)(x:T):List T->List T
 |[]=>[x]
 |y::l=>match ltOf cmp y x with
  |true=>y::insF cmp x l
  |false=>x::y::l
def sortF (cmp:T->T->Int):List T->List T
 |[]=>[]
 |x::l=>insF cmp x (sortF cmp l)
def F_sort [DecidableEq T](cmp:T->T->Int)(n:Nat)(l:List T):Option (List T) :=
 if l.length<=1000000000/\∀ x∈l,∀ y∈l,ltOf cmp x y=false->ltOf cmp y x=false->x=y then some (sortF cmp l) else none
theorem insF_perm (cmp:T->T->Int)(x:T):∀ l:List T,(insF cmp x l).Perm (x::l)
 |[]=>.refl _
 |y::l=>by
  unfold insF
  cases ltOf cmp y x with
  |true=>exact ((insF_perm cmp x l).cons y).trans (.swap x y l)
  |false=>exact .refl _
theorem zhp (cmp:T->T->Int):∀ l:List T,(sortF cmp l).Perm l
 |[]=>.refl _
 |x::l=>(insF_perm cmp x _).trans ((zhp cmp l).cons x)
theorem insF_sorted {cmp:T->T->Int}(hO:SWO (ltOf cmp))(x:T):∀ l:List T,l.Pairwise (fun x y=>ltOf cmp y x=false)->(insF cmp x l).Pairwise (fun x y=>ltOf cmp y x=false)
 |[],_=>by simp [insF]
 |y::l,h=>by
  obtain ⟨h1,h2⟩:=List.pairwise_cons.1 h
  unfold insF
  cases hb:ltOf cmp y x with
  |true =>
   refine List.pairwise_cons.2 ⟨fun z hz=>?_,insF_sorted hO x l h2⟩
   rcases List.mem_cons.1 ((insF_perm cmp x l).mem_iff.1 hz) with hz|hz
   ·subst hz
    cases h3:ltOf cmp z y with
    |false=>rfl
    |true=>have:=hO.trans _ _ _ hb h3;rw [hO.irrefl] at this;cases this
   ·exact h1 z hz
  |false =>
   refine List.pairwise_cons.2 ⟨fun z hz=>?_,h⟩
   rcases List.mem_cons.1 hz with hz|hz
   ·subst hz;exact hb
   ·exact hO.ntrans _ _ _ (h1 z hz) hb
theorem zwk {cmp:T->T->Int}(hO:SWO (ltOf cmp)):∀ l:List T,(sortF cmp l).Pairwise (fun x y=>ltOf cmp y x=false)
 |[]=>.nil
 |x::l=>insF_sorted hO x _ (zwk hO l)
theorem sort_uniq {cmp:T->T->Int}(hO:SWO (ltOf cmp)){l l':List T}(ht:∀ x∈l,∀ y∈l,ltOf cmp x y=false->ltOf cmp y x=false->x=y)(hp:l'.Perm l)(hs:l'.Pairwise (fun x y=>ltOf cmp y x=false)):l'=sortF cmp l :=
 List.Perm.eq_of_pairwise (le:=fun x y=>ltOf cmp y x=false) (fun a b ha hb h1 h2=>ht a (hp.mem_iff.1 ha) b ((zhp cmp l).mem_iff.1 hb) h2 h1) hs (zwk hO l) (hp.trans (zhp cmp l).symm)
end
theorem grow_of_below {w w':World}(h:Below w.heap.size w w')(hd:w.drawn<=w'.drawn):∃ q os,w'=grow (w.drewN q) os:=by
 refine ⟨w'.drawn-w.drawn,w'.heap.extract w.heap.size w'.heap.size,?_⟩
 obtain ⟨heap',tape',drawn',os',output'⟩:=w'
 have e1:os'=w.os:=h.os
 have e2:tape'=w.tape:=h.tape
 have e3:output'=w.output:=h.output
 have hs:w.heap.size<=heap'.size:=h.size
 have hb:∀ k,k<w.heap.size->heap'[k]? = w.heap[k]? := h.block
 have hd:w.drawn<=drawn':=hd
 subst e1 e2 e3
 have eh:heap'=w.heap++heap'.extract w.heap.size heap'.size:=by
  apply Array.ext_getElem?
  intro k
  by_cases hk:k<w.heap.size
  ·rw [Array.getElem?_append_left hk];exact hb k hk
  ·rw [Array.getElem?_append_right (by omega),Array.getElem?_extract]
   by_cases hk2:k<heap'.size
   ·rw [if_pos (by omega)];congr 1;omega
   ·rw [if_neg (by omega),Array.getElem?_eq_none (by omega)]
 have ed:drawn'=w.drawn+(drawn' - w.drawn):=by omega
 simp only [grow,World.drewN]
 congr 1
theorem take_put (F cur:Array Value)(h:F.size<=cur.size):(putCells id 0 F cur).toList.take F.size=F.toList:=by
 apply List.ext_getElem?
 intro j
 by_cases hj:j<F.size
 ·rw [List.getElem?_take_of_lt hj,Array.getElem?_toList]
  simp [putCells,hj,show j<cur.size by omega]
 ·rw [List.getElem?_take_eq_none (by omega),List.getElem?_eq_none (by simp;omega)]
abbrev SEl (w:World)(S:Nat->Prop)(sz:Nat){T:Type}(encT:T->AV):Type:={ p:List Value×T // p.1.length=sz/\(∀ v∈p.1,v.oneCell'=true)/\Rep w S G0 (encT p.2) (.agg p.1.toArray) }
theorem flat_get {α:Type}[Inhabited α](enc:α->List Value)(sz:Nat)(hk:∀ x,(enc x).length=sz)(d:Array α)(k j:Nat)(hkd:k<d.size)(hj:j<sz):(flatK enc sz d).toList.getD (k*sz+j) undef=(enc d[k]!).getD j undef:=by
 have hlt:k*sz+j<d.size*sz:=by
  have:(k+1)*sz<=d.size*sz:=Nat.mul_le_mul_right _ hkd
  rw [Nat.succ_mul] at this
  omega
 have h1:=get_flatK enc sz d (k*sz+j) hlt
 have e1:(k*sz+j) / sz=k:=by rw [Nat.mul_comm,Nat.mul_add_div (by omega),Nat.div_eq_of_lt hj,Nat.add_zero]
 have e2:(k*sz+j) % sz=j:=by rw [Nat.mul_comm,Nat.mul_add_mod,Nat.mod_eq_of_lt hj]
 rw [e1,e2] at h1
 have h2:k*sz+j<(flatK enc sz d).size:=by rw [size_flatK];exact hlt
 rw [List.getD_eq_getElem?_getD,Array.getElem?_toList,Array.getElem?_eq_getElem h2,Option.getD_some,<-getElem!_pos (flatK enc sz d) _ h2,h1]
 have h3:j<(enc d[k]!).length:=by rw [hk];exact hj
 rw [getElem!_pos (enc d[k]!) j h3,List.getD_eq_getElem?_getD,List.getElem?_eq_getElem h3,Option.getD_some]
theorem sort_gen {E Ed:Env}{f g ty sz:Nat}{T:Type}[DecidableEq T]{encT:T->AV}{cmp:T->T->Int}{n:Nat}{l l':List T}(hP:Ed.P=E.P)(hEd:Ed.dr=true)(he:zde E f)(heg:zde E g)(hsz:0<sz)
  (hagg:∀ x,∃ cs,encT x=.agg cs/\cs.length=sz)
  (hsort:∀ (α:Type) [Inhabited α] (enc:α->List Value) (hk:∀ x,(enc x).length=sz) (h1:∀ x,∀ v∈enc x,v.oneCell'=true) (cf:α->α->Int) (hO:SWO (ltOf cf)) (blk off cap:Nat) (d:Array α) (w:World)
    (hcmp:CmpLays E.P g #[] enc sz cf blk off d.size w) (hH:HoldsK enc sz w blk off d) (hblk:blk<w.heap.size) (hsz:d.size<4611686018427387904),
    Calls E.P f #[.slice (some ⟨blk,off,none⟩) d.size cap,.func (.func g) #[] #[]] w fun e w'=>e=.returned (.tuple #[])/\∃ d' n os,PermIn 0 d.size d d'/\SortedIn (ltOf cf) 0 d.size d'/\w'=sortWorldK enc sz w blk off n d' os)
  (hnone:∀ (p:Option Addr) (cap:Nat) (fv:Value) (w:World),Calls E.P f #[.slice p 0 cap,fv] w fun e w'=>e=.returned (.tuple #[])/\w'=w)
  (hc:∀ x y,Con Ed true g [encT x,encT y] (.int .i64 (cmp x y))) (hO:SWO (ltOf cmp)) (hF:F_sort cmp n l=some l') :
  ConC true E f [.row 0,.fn g []] ty sz (l.map encT) ty sz (l'.map encT) (.tup []):=by
 unfold F_sort at hF
 split at hF
 rotate_left
 ·cases hF
 rename_i hcond
 obtain ⟨hll,hties⟩:=hcond
 injection hF with hF
 refine ⟨he,rfl,fun S w0 w vs v us hbw hown hlen hre hone hnS hvs hargs=>?_⟩
 -- the arguments
 have ha:=hargs (fun i=>if i=0 then some (some (v.ownBlock,v)) else none) rfl
 have h0:=(ha 0 (by simp)).row_inv (g:=v.ownBlock) (s:=v) rfl (zpz (z91 hown))
 obtain ⟨cs,h1,hcs,_⟩:=(ha 1 (by simp)).fn_inv
 have hcs0:cs=#[]:=Array.eq_empty_of_size_eq_zero hcs
 subst hcs0
 have evs:vs=#[v,.func (.func g) #[] #[]]:=by
  have:=getD2 hvs
  rw [h0,h1] at this
  exact this
 rw [evs]
 clear ha h0 h1 evs
 have hlm:(l.map encT).length=l.length:=List.length_map _
 have hl'len:l'.length=l.length:=by rw [<-hF];exact (zhp cmp l).length_eq
 -- no element
 have empty:l=[]->Calls E.P f #[v,.func (.func g) #[] #[]] w fun e w'=>∃ u v' us',e=.returned u/\w.grownBy w' v.ownBlock/\w'.ownsRow w0.heap.size ty sz v' (l'.map encT).length us'/\(true=true->v'=v)/\(∀ b,v'.ownBlock=some b->v.ownBlock=some b\/w.heap.size<=b)/\(∀ k (hk:k<(l'.map encT).length),((l'.map encT)[k]).cells.length=sz) /\
   (∀ k (hk:k<(l'.map encT).length) j (hj:j<((l'.map encT)[k]).cells.length),Rep w' (fun b=>(S b\/w.heap.size<=b)/\v'.ownBlock≠some b) G0 (((l'.map encT)[k]).cells[j]) (us'.getD (k*sz+j) undef))/\(∀ u∈us',u.oneCell'=true) /\
   ∀ γ':Gam,γ' 0=some (some (v'.ownBlock,v'))->Rep w' (fun b=>(S b\/w.heap.size<=b)/\v'.ownBlock≠some b) γ' (.tup []) u:=fun h0=>by
  have hl0:l'=[]:=by rw [<-hF,h0];simp [sortF]
  subst hl0
  subst h0
  have hv:∃ p cap,v=.slice p 0 cap:=by
   rcases hown.2 with ⟨hv,_⟩|⟨b,cap,cur,hv,_⟩
   ·exact ⟨none,0,hv⟩
   ·exact ⟨_,cap,hv⟩
  obtain ⟨p,cap,hv⟩:=hv
  have hcall:=hnone p cap (.func (.func g) #[] #[]) w
  rw [<-hv] at hcall
  refine hcall.mono ?_
  rintro e w' ⟨rfl,rfl⟩
  exact ⟨_,v,us,rfl,World.grownBy.refl _ _,hown,fun _=>rfl,fun b hb=>Or.inl hb,fun k hk=>absurd hk (by simp),fun k hk=>absurd hk (by simp),hone,fun γ' _=>.tup #[] rfl (fun i hi=>absurd hi (by simp))⟩
 by_cases hl0:l=[]
 ·exact empty hl0
 have hlp:0<l.length:=List.length_pos_iff.2 hl0
 rcases hown.2 with ⟨_,h0⟩|⟨blk,cap,cur,hv,hbb,hh,hn,hm,hs,ht⟩
 ·omega
 have hblk:blk<w.heap.size:=(Array.getElem?_eq_some_iff.1 hh).1
 have hob:v.ownBlock=some blk:=by rw [hv];rfl
 have husl:us.length=l.length*sz:=by rw [hown.1,hlm]
 have hin:∀ k j,k<l.length->j<sz->k*sz+j<l.length*sz:=fun k j hk hj=>by
  have:(k+1)*sz<=l.length*sz:=Nat.mul_le_mul_right _ hk
  rw [Nat.succ_mul] at this
  omega
 -- the elements
 have hel:∀ i (hi:i<l.length),((us.drop (i*sz)).take sz).length=sz/\(∀ v∈(us.drop (i*sz)).take sz,v.oneCell'=true)/\Rep w S G0 (encT l[i]) (.agg ((us.drop (i*sz)).take sz).toArray):=fun i hi=>by
  have hlen1:((us.drop (i*sz)).take sz).length=sz:=by
   rw [List.length_take,List.length_drop]
   have:(i+1)*sz<=l.length*sz:=Nat.mul_le_mul_right _ hi
   rw [Nat.succ_mul] at this
   omega
  have hone1:∀ v∈(us.drop (i*sz)).take sz,v.oneCell'=true:=fun v hv=>hone v (List.mem_of_mem_drop (List.mem_of_mem_take hv))
  refine ⟨hlen1,hone1,?_⟩
  obtain ⟨cs,hcs,hcl⟩:=hagg l[i]
  rw [hcs]
  have hget:∀ j,j<sz->((us.drop (i*sz)).take sz).toArray.getD j undef=us.getD (i*sz+j) undef:=fun j hj=>by
   rw [Array.getD_eq_getD_getElem?,List.getElem?_toArray,List.getElem?_take_of_lt hj,List.getElem?_drop,List.getD_eq_getElem?_getD]
  refine .agg _ (by simpa [hcl] using hlen1) (fun j hj=>?_) (fun j hj=>?_)
  ·rw [hget j (by omega)]
   have hil:i<(l.map encT).length:=by rw [hlm];exact hi
   have e:(l.map encT)[i]=.agg cs:=by rw [List.getElem_map];exact hcs
   have:=hre i hil j (by rw [e];exact hj)
   simp only [e,AV.cells] at this
   exact this
  ·have hj':j<((us.drop (i*sz)).take sz).length:=by simpa using hj
   rw [Array.getD_eq_getD_getElem?,List.getElem?_toArray,List.getElem?_eq_getElem hj',Option.getD_some]
   exact hone1 _ (List.getElem_mem hj')
 let A:=SEl w S sz encT
 let enc:A->List Value:=fun p=>p.1.1
 let d:Array A:=(List.ofFn fun i:Fin l.length=>(⟨((us.drop (i.1*sz)).take sz,l[i.1]),hel i.1 i.2⟩:A)).toArray
 haveI:Inhabited A:=⟨⟨((us.drop (0*sz)).take sz,l[0]),hel 0 hlp⟩⟩
 have hds:d.size=l.length:=by simp [d]
 have hdi:∀ i (hi:i<l.length),d[i]! = ⟨((us.drop (i*sz)).take sz,l[i]),hel i hi⟩:=fun i hi=>by
  rw [getElem!_pos d i (by rw [hds];exact hi)]
  simp [d]
 have hk:∀ x:A,(enc x).length=sz:=fun x=>x.2.1
 have hcmp:CmpLays E.P g #[] enc sz (fun x y:A=>cmp x.1.2 y.1.2) blk 0 d.size w:=fun m os dk hdk x y=>by
  have hcon:=(hc x.1.2 y.1.2).2 S (sortWorldK enc sz w blk 0 m dk os) #[.agg (enc x).toArray,.agg (enc y).toArray] ⟨rfl,fun i hi=>?_⟩
  ·rw [hP] at hcon
   refine hcon.mono ?_
   rintro e w' ⟨u,rfl,⟨hb,hdr⟩,hu⟩
   exact ⟨by rw [hu.int_inv],grow_of_below hb (hdr hEd)⟩
  ·have key:∀ z:A,Rep (sortWorldK enc sz w blk 0 m dk os) S G0 (encT z.1.2) (.agg (enc z).toArray):=fun z=>by
    refine z.2.2.2.mono ?_ (fun b hS hb=>⟨?_,hS⟩)
    ·simp [sortWorldK,grow,putRowK,putRow,mapBlock,Go.Sort.ahead]
    ·have hne:blk≠b:=fun e=>hnS blk hob (e▸hS)
     unfold sortWorldK
     rw [heap_grow_old _ _ (by simpa [putRowK,Go.Sort.ahead] using hb)]
     simp [putRowK,putRow,mapBlock,Go.Sort.ahead,Array.getElem?_modify,hne]
   have hi':i<2:=hi
   rcases i with _|_|i
   ·exact key x
   ·exact key y
   ·omega
 have hH:HoldsK enc sz w blk 0 d:=fun j hj=>by
  have hj':j<l.length*sz:=by rw [size_flatK,hds] at hj;exact hj
  have hq:j / sz<l.length:=Nat.div_lt_of_lt_mul (by rwa [Nat.mul_comm] at hj')
  have hm:=Nat.mod_lt j hsz
  have e:=flat_get enc sz hk d (j / sz) (j % sz) (by rw [hds];exact hq) hm
  have ej:j / sz*sz+j % sz=j:=by rw [Nat.mul_comm];exact Nat.div_add_mod j sz
  rw [ej] at e
  have ef:(flatK enc sz d)[j]! = us.getD j undef:=by
   rw [getElem!_pos (flatK enc sz d) j hj]
   have h1:(flatK enc sz d).toList.getD j undef=(flatK enc sz d)[j]:=by
    rw [List.getD_eq_getElem?_getD,Array.getElem?_toList,Array.getElem?_eq_getElem hj];rfl
   rw [<-h1,e,hdi _ hq]
   show ((us.drop (j / sz*sz)).take sz).getD (j % sz) undef=us.getD j undef
   rw [List.getD_eq_getElem?_getD,List.getElem?_take_of_lt hm,List.getElem?_drop,ej,<-List.getD_eq_getElem?_getD]
  rw [ef,Nat.zero_add]
  refine ⟨zpx hown hob j (by rw [hlm];exact hj'),?_⟩
  simp [World.frozen?,hh]
 have hOA:SWO (ltOf fun x y:A=>cmp x.1.2 y.1.2):=⟨fun x=>hO.irrefl _,fun x y z=>hO.trans _ _ _,fun x y z=>hO.ntrans _ _ _⟩
 have hcall:=hsort A enc hk (fun x=>x.2.2.1) (fun x y=>cmp x.1.2 y.1.2) hOA blk 0 cap d w hcmp hH hblk (by rw [hds];omega)
 have ev:v=.slice (some ⟨blk,0,none⟩) d.size cap:=by rw [hv,hlm,hds]
 rw [<-ev] at hcall
 refine hcall.mono ?_
 rintro e w' ⟨rfl,d',m,os,⟨hps,_,hpp⟩,hso,hw'⟩
 have hd's:d'.size=l.length:=hps.trans hds
 -- what lies there now
 have e1:d'.extract 0 d.size=d':=by rw [<-hps];exact Array.extract_size
 rw [e1,Array.extract_size] at hpp
 have hdl:d.toList.map (fun p=>p.1.2)=l:=by
  simp only [d,List.map_ofFn]
  apply List.ext_getElem
  ·simp
  ·intro i h1 h2;simp
 have hperm:(d'.toList.map (fun p=>p.1.2)).Perm l:=by
  have:=hpp.map (fun p:A=>p.1.2)
  rwa [hdl] at this
 have hsorted:(d'.toList.map (fun p=>p.1.2)).Pairwise (fun x y=>ltOf cmp y x=false):=by
  rw [List.pairwise_iff_getElem]
  intro i j hi hj hij
  have hi':i<d'.size:=by simpa using hi
  have hj':j<d'.size:=by simpa using hj
  have:=hso i j (Nat.zero_le _) hij (by rw [hds,<-hd's];exact hj')
  rw [getElem!_pos d' i hi',getElem!_pos d' j hj'] at this
  simpa [ltOf] using this
 have hfin:d'.toList.map (fun p=>p.1.2)=l':=by rw [<-hF];exact sort_uniq hO hties hperm hsorted
 have hl'k:∀ k (hk':k<l'.length),∃ h:k<d'.size,l'[k]=d'[k].1.2:=fun k hk'=>by
  have h:k<d'.size:=by omega
  refine ⟨h,?_⟩
  have:l'[k]=(d'.toList.map (fun p=>p.1.2))[k]'(by simpa using h):=by simp only [hfin]
  rw [this]
  simp
 have hgb:w.grownBy w' v.ownBlock:=by
  rw [hob,hw']
  refine ⟨rfl,rfl,rfl,by simp [sortWorldK,grow,putRowK,putRow,mapBlock,Go.Sort.ahead],fun k hk hne=>?_⟩
  unfold sortWorldK
  rw [heap_grow_old _ _ (by simpa [putRowK,Go.Sort.ahead] using hk)]
  have:blk≠k:=fun e=>hne (by rw [e])
  simp [putRowK,putRow,mapBlock,Go.Sort.ahead,Array.getElem?_modify,this]
 have hFs:(flatK enc sz d').size=l.length*sz:=by rw [size_flatK,hd's]
 have hcap:l.length*sz<=cur.size:=by
  rw [hs];rw [hlm] at hn;exact Nat.mul_le_mul_right _ hn
 have hheap:w'.heap[blk]? = some (.cells (putCells id 0 (flatK enc sz d') cur) ty (0,0)):=by
  rw [hw']
  unfold sortWorldK
  rw [heap_grow_old _ _ (by simpa [putRowK,Go.Sort.ahead] using hblk)]
  simp [putRowK,putRow,mapBlock,Go.Sort.ahead,Array.getElem?_modify,hh,onCells]
 have hrow:∀ k j,k<l.length->j<sz->(flatK enc sz d').toList.getD (k*sz+j) undef=(enc d'[k]!).getD j undef:=fun k j hk' hj=>flat_get enc sz hk d' k j (by rw [hd's];exact hk') hj
 refine ⟨_,v,(flatK enc sz d').toList,rfl,hgb,⟨by rw [Array.length_toList,hFs,List.length_map,hl'len],Or.inr ⟨blk,cap,_,?_,hbb,hheap,?_,hm,?_,?_⟩⟩,fun _=>rfl,fun b hb=>Or.inl hb,fun k hk'=>?_,fun k hk' j hj=>?_,fun u hu=>?_,fun γ' _=>.tup #[] rfl (fun i hi=>absurd hi (by simp))⟩
 ·rw [List.length_map,hl'len,hv,hlm]
 ·rw [List.length_map,hl'len];rw [hlm] at hn;exact hn
 ·simp [putCells,hs]
 ·rw [List.length_map,hl'len,<-hFs]
  exact take_put _ _ (by rw [hFs];exact hcap)
 ·rw [List.getElem_map]
  obtain ⟨cs,hcs,hcl⟩:=hagg (l'[k]'(by simpa using hk'))
  rw [hcs];exact hcl
 ·have hk2:k<l'.length:=by simpa using hk'
  obtain ⟨hkd,hlk⟩:=hl'k k hk2
  have e:(l'.map encT)[k]=encT d'[k].1.2:=by rw [List.getElem_map,hlk]
  simp only [e] at hj ⊢
  obtain ⟨cs,hcs,hcl⟩:=hagg d'[k].1.2
  have hj2:j<sz:=by rw [hcs] at hj;simp only [AV.cells] at hj;omega
  rw [hrow k j (by omega) hj2,getElem!_pos d' k hkd]
  have hrep:=d'[k].2.2.2
  rw [hcs] at hrep
  obtain ⟨vs',hvs',hvl,hvr,_⟩:=hrep.agg_inv
  injection hvs' with hvs'
  subst hvs'
  have:=hvr j (by omega)
  simp only [hcs,AV.cells]
  rw [Array.getD_eq_getD_getElem?,List.getElem?_toArray,<-List.getD_eq_getElem?_getD] at this
  refine this.mono hgb.size (fun b hS hb=>⟨hgb.block b hb (fun e=>hnS b e.symm hS),Or.inl hS,fun e=>hnS b e hS⟩)
 ·obtain ⟨q,hq,rfl⟩:=List.mem_iff_getElem.1 hu
  have hq':q<l.length*sz:=by rw [Array.length_toList,hFs] at hq;exact hq
  have hqd:q / sz<l.length:=Nat.div_lt_of_lt_mul (by rwa [Nat.mul_comm] at hq')
  have hm:=Nat.mod_lt q hsz
  have:=hrow (q / sz) (q % sz) hqd hm
  have ej:q / sz*sz+q % sz=q:=by rw [Nat.mul_comm];exact Nat.div_add_mod q sz
  rw [ej,List.getD_eq_getElem?_getD,List.getElem?_eq_getElem hq,Option.getD_some] at this
  rw [this]
  have hl2:=hk d'[q / sz]!
  rw [List.getD_eq_getElem?_getD,List.getElem?_eq_getElem (by omega),Option.getD_some]
  exact (d'[q / sz]!).2.2.1 _ (List.getElem_mem _)
end Go.Proofs.YtjpknpjjcddnnaaGreat
namespace Go.Proofs
open Go.Shelf
def Tryz.laysSlF06_f86_ren:Go.Shelf.Ren:=⟨fun|6=>86|15=>111|14=>116|28=>149|29=>150|20=>152|21=>153|22=>154|23=>155|24=>156|25=>157|26=>158|27=>159|46=>190|47=>182|48=>183|49=>191|50=>192|57=>204|n=>n,fun|22=>29|24=>77|25=>79|3=>3|39=>174|0=>0|53=>209|55=>211|4=>4|46=>202|45=>201|50=>206|5=>5|9=>9|66=>233|70=>237|76=>257|77=>222|n=>n,fun|n=>n⟩
theorem Tryz.laysSlF06_f86:Go.Proofs.SlLaysF0.n6 Tryz.prog Tryz.laysSlF06_f86_ren:={
 mixed:=by kernel_rfl
 f6:=⟨Tryz.f86.name,by decide,Tryz.func86.trans (congrArg some (by kernel_rfl))⟩
 f14:=⟨Tryz.f116.name,by decide,Tryz.func116.trans (congrArg some (by kernel_rfl))⟩
 f15:=Tryz.func111.trans (congrArg some (by kernel_rfl))
 f20:=⟨Tryz.f152.name,by decide,Tryz.func152.trans (congrArg some (by kernel_rfl))⟩
 f21:=⟨Tryz.f153.name,by decide,Tryz.func153.trans (congrArg some (by kernel_rfl))⟩
 f22:=⟨Tryz.f154.name,by decide,Tryz.func154.trans (congrArg some (by kernel_rfl))⟩
 f23:=⟨Tryz.f155.name,by decide,Tryz.func155.trans (congrArg some (by kernel_rfl))⟩
 f24:=⟨Tryz.f156.name,by decide,Tryz.func156.trans (congrArg some (by kernel_rfl))⟩
 f25:=⟨Tryz.f157.name,by decide,Tryz.func157.trans (congrArg some (by kernel_rfl))⟩
 f26:=⟨Tryz.f158.name,by decide,Tryz.func158.trans (congrArg some (by kernel_rfl))⟩
 f27:=⟨Tryz.f159.name,by decide,Tryz.func159.trans (congrArg some (by kernel_rfl))⟩
 f28:=Tryz.func149.trans (congrArg some (by kernel_rfl))
 f29:=Tryz.func150.trans (congrArg some (by kernel_rfl))
 f46:=⟨Tryz.f190.name,by decide,Tryz.func190.trans (congrArg some (by kernel_rfl))⟩
 f47:=Tryz.func182.trans (congrArg some (by kernel_rfl))
 f48:=Tryz.func183.trans (congrArg some (by kernel_rfl))
 f49:=⟨Tryz.f191.name,by decide,Tryz.func191.trans (congrArg some (by kernel_rfl))⟩
 f50:=⟨Tryz.f192.name,by decide,Tryz.func192.trans (congrArg some (by kernel_rfl))⟩
 f57:=⟨Tryz.f204.name,by decide,Tryz.func204.trans (congrArg some (by kernel_rfl))⟩
 t0:=Tryz.underlying0
 a0:=Tryz.isAgg0
 z0:=Tryz.sizeOf0
 v0:=Tryz.zeroValue0
 t3:=Tryz.underlying3
 a3:=Tryz.isAgg3
 z3:=Tryz.sizeOf3
 v3:=Tryz.zeroValue3
 t4:=Tryz.underlying4
 a4:=Tryz.isAgg4
 z4:=Tryz.sizeOf4
 v4:=Tryz.zeroValue4
 t5:=Tryz.underlying5
 a5:=Tryz.isAgg5
 z5:=Tryz.sizeOf5
 v5:=Tryz.zeroValue5
 t9:=Tryz.underlying9
 a9:=Tryz.isAgg9
 z9:=Tryz.sizeOf9
 v9:=Tryz.zeroValue9
 t22:=Tryz.underlying29
 a22:=Tryz.isAgg29
 z22:=Tryz.sizeOf29
 v22:=Tryz.zeroValue29
 t25:=Tryz.underlying79
 a25:=Tryz.isAgg79
 z25:=Tryz.sizeOf79
 v25:=Tryz.zeroValue79
 t39:=Tryz.underlying174
 a39:=Tryz.isAgg174
 z39:=Tryz.sizeOf174
 v39:=Tryz.zeroValue174
 t45:=Tryz.underlying201
 a45:=Tryz.isAgg201
 z45:=Tryz.sizeOf201
 v45:=Tryz.zeroValue201
 t46:=Tryz.underlying202
 a46:=Tryz.isAgg202
 z46:=Tryz.sizeOf202
 v46:=Tryz.zeroValue202
 t50:=Tryz.underlying206
 a50:=Tryz.isAgg206
 z50:=Tryz.sizeOf206
 v50:=Tryz.zeroValue206
 t53:=Tryz.underlying209
 a53:=Tryz.isAgg209
 z53:=Tryz.sizeOf209
 v53:=Tryz.zeroValue209
 t55:=Tryz.underlying211
 a55:=Tryz.isAgg211
 z55:=Tryz.sizeOf211
 v55:=Tryz.zeroValue211
 t66:=Tryz.underlying233
 a66:=Tryz.isAgg233
 z66:=Tryz.sizeOf233
 v66:=Tryz.zeroValue233
 t70:=Tryz.underlying237
 a70:=Tryz.isAgg237
 z70:=Tryz.sizeOf237
 v70:=Tryz.zeroValue237
 t76:=Tryz.underlying257
 a76:=Tryz.isAgg257
 z76:=Tryz.sizeOf257
 v76:=Tryz.zeroValue257
 t77:=Tryz.underlying222
 a77:=Tryz.isAgg222
 z77:=Tryz.sizeOf222
 v77:=Tryz.zeroValue222 }
def Tryz.laysSlF06_f74_ren:Go.Shelf.Ren:=⟨fun|6=>74|15=>111|14=>110|28=>149|29=>150|20=>141|21=>142|22=>143|23=>144|24=>145|25=>146|26=>147|27=>148|46=>181|47=>182|48=>183|49=>184|50=>185|57=>203|n=>n,fun|22=>30|24=>83|25=>101|3=>3|39=>174|0=>0|53=>209|55=>211|4=>4|46=>202|45=>201|50=>206|5=>5|9=>9|66=>233|70=>237|76=>257|77=>222|n=>n,fun|n=>n⟩
theorem Tryz.laysSlF06_f74:Go.Proofs.SlLaysF0.n6 Tryz.prog Tryz.laysSlF06_f74_ren:={
 mixed:=by kernel_rfl
 f6:=⟨Tryz.f74.name,by decide,Tryz.func74.trans (congrArg some (by kernel_rfl))⟩
 f14:=⟨Tryz.f110.name,by decide,Tryz.func110.trans (congrArg some (by kernel_rfl))⟩
 f15:=Tryz.func111.trans (congrArg some (by kernel_rfl))
 f20:=⟨Tryz.f141.name,by decide,Tryz.func141.trans (congrArg some (by kernel_rfl))⟩
 f21:=⟨Tryz.f142.name,by decide,Tryz.func142.trans (congrArg some (by kernel_rfl))⟩
 f22:=⟨Tryz.f143.name,by decide,Tryz.func143.trans (congrArg some (by kernel_rfl))⟩
 f23:=⟨Tryz.f144.name,by decide,Tryz.func144.trans (congrArg some (by kernel_rfl))⟩
 f24:=⟨Tryz.f145.name,by decide,Tryz.func145.trans (congrArg some (by kernel_rfl))⟩
 f25:=⟨Tryz.f146.name,by decide,Tryz.func146.trans (congrArg some (by kernel_rfl))⟩
 f26:=⟨Tryz.f147.name,by decide,Tryz.func147.trans (congrArg some (by kernel_rfl))⟩
 f27:=⟨Tryz.f148.name,by decide,Tryz.func148.trans (congrArg some (by kernel_rfl))⟩
 f28:=Tryz.func149.trans (congrArg some (by kernel_rfl))
 f29:=Tryz.func150.trans (congrArg some (by kernel_rfl))
 f46:=⟨Tryz.f181.name,by decide,Tryz.func181.trans (congrArg some (by kernel_rfl))⟩
 f47:=Tryz.func182.trans (congrArg some (by kernel_rfl))
 f48:=Tryz.func183.trans (congrArg some (by kernel_rfl))
 f49:=⟨Tryz.f184.name,by decide,Tryz.func184.trans (congrArg some (by kernel_rfl))⟩
 f50:=⟨Tryz.f185.name,by decide,Tryz.func185.trans (congrArg some (by kernel_rfl))⟩
 f57:=⟨Tryz.f203.name,by decide,Tryz.func203.trans (congrArg some (by kernel_rfl))⟩
 t0:=Tryz.underlying0
 a0:=Tryz.isAgg0
 z0:=Tryz.sizeOf0
 v0:=Tryz.zeroValue0
 t3:=Tryz.underlying3
 a3:=Tryz.isAgg3
 z3:=Tryz.sizeOf3
 v3:=Tryz.zeroValue3
 t4:=Tryz.underlying4
 a4:=Tryz.isAgg4
 z4:=Tryz.sizeOf4
 v4:=Tryz.zeroValue4
 t5:=Tryz.underlying5
 a5:=Tryz.isAgg5
 z5:=Tryz.sizeOf5
 v5:=Tryz.zeroValue5
 t9:=Tryz.underlying9
 a9:=Tryz.isAgg9
 z9:=Tryz.sizeOf9
 v9:=Tryz.zeroValue9
 t22:=Tryz.underlying30
 a22:=Tryz.isAgg30
 z22:=Tryz.sizeOf30
 v22:=Tryz.zeroValue30
 t25:=Tryz.underlying101
 a25:=Tryz.isAgg101
 z25:=Tryz.sizeOf101
 v25:=Tryz.zeroValue101
 t39:=Tryz.underlying174
 a39:=Tryz.isAgg174
 z39:=Tryz.sizeOf174
 v39:=Tryz.zeroValue174
 t45:=Tryz.underlying201
 a45:=Tryz.isAgg201
 z45:=Tryz.sizeOf201
 v45:=Tryz.zeroValue201
 t46:=Tryz.underlying202
 a46:=Tryz.isAgg202
 z46:=Tryz.sizeOf202
 v46:=Tryz.zeroValue202
 t50:=Tryz.underlying206
 a50:=Tryz.isAgg206
 z50:=Tryz.sizeOf206
 v50:=Tryz.zeroValue206
 t53:=Tryz.underlying209
 a53:=Tryz.isAgg209
 z53:=Tryz.sizeOf209
 v53:=Tryz.zeroValue209
 t55:=Tryz.underlying211
 a55:=Tryz.isAgg211
 z55:=Tryz.sizeOf211
 v55:=Tryz.zeroValue211
 t66:=Tryz.underlying233
 a66:=Tryz.isAgg233
 z66:=Tryz.sizeOf233
 v66:=Tryz.zeroValue233
 t70:=Tryz.underlying237
 a70:=Tryz.isAgg237
 z70:=Tryz.sizeOf237
 v70:=Tryz.zeroValue237
 t76:=Tryz.underlying257
 a76:=Tryz.isAgg257
 z76:=Tryz.sizeOf257
 v76:=Tryz.zeroValue257
 t77:=Tryz.underlying222
 a77:=Tryz.isAgg222
 z77:=Tryz.sizeOf222
 v77:=Tryz.zeroValue222 }
end Go.Proofs
