/- What some functions compute, over plain values. -/
import Derived.Test.YtidhlpjgifoneaaGreatK18
import Derived.Shelf.SlSortCmp.NoneTotal
import Derived.Sort.OwnSorted
set_option linter.unusedVariables false
set_option linter.unusedSimpArgs false
set_option maxRecDepth 100000
set_option maxHeartbeats 8000000
namespace Go.Proofs.YtidhlpjgifoneaaGreat
open Go.RowKit List
def zhs (n:Nat)(a0:Int):Option (Bool) :=
 some (!decide (a0=a0))
def z86 (n:Nat)(a0:Int)(a1:Int):Option (Int) :=
 bnd (zhs n a0) fun x1 =>
 bnd (zhs n a1) fun x2 =>
 cnd (x1)
  (cnd (x2)
    (some 0)
  <| some (-1))
 <| cnd (x2)
  (some 1)
 <| cnd (decide (a0<a1))
  (some (-1))
 <| cnd (decide (a1<a0))
  (some 1)
 <| some 0
def zgt (n:Nat)(a0:(List Int))(b:Option (Int)):Nat->Int->Option (Int)
 |0,_=>none
 |d+1,c =>
  cnd (decide (c<((a0.map aI).length:Int)))
   (idx a0 c fun e =>
   cnd (!decide (e=0))
    (some e)
   <| (zgt n a0 b d) (IntKind.wrap .i64 (c+1)))
  <| b
def zfx (n:Nat)(a0:(List Int)):Option (Int) :=
 zgt n a0
  (some 0) n 0
def zh8 (n:Nat)(a0:z1f)(a1:z1f):Option (Int) :=
 bnd (z86 n a0.fTime a1.fTime) fun x1 =>
 bnd (z86 n a0.fSource a1.fSource) fun x2 =>
 bnd (z86 n a0.fSeq a1.fSeq) fun x3 =>
 bnd (zfx n ([x1,x2,x3])) fun x4 =>
 some x4
def zdi (n:Nat)(a0:z0h)(a1:z0h):Option (Int) :=
 bnd (zh8 n a0.fRef a1.fRef) fun x1 =>
 bnd (z86 n a0.fVar a1.fVar) fun x2 =>
 bnd (zfx n ([x1,x2])) fun x3 =>
 some x3
def z6m (n:Nat)(a1:(List z0h))(a0:(List z0h))(c:Option (Int)):Nat->Int->Option (Int)
 |0,_=>none
 |d+1,b =>
  cnd (decide (b<((a0.map z0b).length:Int)))
   (idx a0 b fun f =>
   cnd (decide (((a1.map z0b).length:Int)<=b))
    (some 1)
   <| idx a1 b fun g =>
   bnd (zdi n f g) fun e =>
   cnd (!decide (e=0))
    (some e)
   <| (z6m n a1 a0 c d) (IntKind.wrap .i64 (b+1)))
  <| c
def zb8 (n:Nat)(a0:(List z0h))(a1:(List z0h)):Option (Int) :=
 z6m n a1 a0
  (cnd (decide (((a0.map z0b).length:Int)<((a1.map z0b).length:Int)))
  (some (-1))
 <| some 0) n 0
def zf9 (n:Nat)(a0:z06)(a1:z06):Option (Int) :=
 bnd (zb8 n a0.fBindings a1.fBindings) fun x1 =>
 some x1
def zf6 (n:Nat)(a0:z0a)(a1:z0a):Option (Int) :=
 bnd (z86 n a0.fScope a1.fScope) fun x1 =>
 bnd (z86 n a0.fTime a1.fTime) fun x2 =>
 bnd (zfx n ([x1,x2])) fun x3 =>
 some x3
def z4f (n:Nat)(a1:(List z0a))(a0:(List z0a))(c:Option (Int)):Nat->Int->Option (Int)
 |0,_=>none
 |d+1,b =>
  cnd (decide (b<((a0.map z09).length:Int)))
   (idx a0 b fun f =>
   cnd (decide (((a1.map z09).length:Int)<=b))
    (some 1)
   <| idx a1 b fun g =>
   bnd (zf6 n f g) fun e =>
   cnd (!decide (e=0))
    (some e)
   <| (z4f n a1 a0 c d) (IntKind.wrap .i64 (b+1)))
  <| c
def z9j (n:Nat)(a0:(List z0a))(a1:(List z0a)):Option (Int) :=
 z4f n a1 a0
  (cnd (decide (((a0.map z09).length:Int)<((a1.map z09).length:Int)))
  (some (-1))
 <| some 0) n 0
def zhp (n:Nat)(a0:z00)(a1:z00):Option (Int) :=
 bnd (z86 n a0.fState a1.fState) fun x1 =>
 bnd (zf9 n (⟨a0.fBindings⟩:z06) (⟨a1.fBindings⟩:z06)) fun x2 =>
 bnd (z9j n a0.fStarts a1.fStarts) fun x3 =>
 bnd (zfx n ([x1,x2,x3])) fun x4 =>
 some x4
noncomputable section
abbrev y4u {n a0 b}:=li (zgt n a0 b) (fun c=>⟨[(3,aI 0),(6,.sl 1 (a0.map aI)),(7,aI (((a0.map aI).length:Int))),(8,aI c)],[]⟩) fun _ _=>zgt.eq_2 ..
abbrev zle {n a1 a0 b}:=li (z6m n a1 a0 b) (fun c=>⟨[(0,.sl 4 (a0.map z0b)),(1,.sl 4 (a1.map z0b)),(2,.fn 132 []),(11,.sl 4 (a0.map z0b)),(12,aI (((a0.map z0b).length:Int))),(13,aI c)],[]⟩) fun _ _=>z6m.eq_2 ..
abbrev zir {n a1 a0 b}:=li (z4f n a1 a0 b) (fun c=>⟨[(0,.sl 2 (a0.map z09)),(1,.sl 2 (a1.map z09)),(2,.fn 165 []),(11,.sl 2 (a0.map z09)),(12,aI (((a0.map z09).length:Int))),(13,aI c)],[]⟩) fun _ _=>z4f.eq_2 ..
attribute [instance] y4u zle zir
def zuo (r:Bool):AV:=.bool (r)
theorem zzh {n a0 r}(hF:zhs n a0=some r):Con E0d true 176 [aI a0] (zuo r):=by
 unfold zhs at hF
 refine Con.walk _ Tryz.func176 rfl (z0x Tryz.func176 rfl rfl) rfl (Or.inr rfl) ?_
 repeat' first
  |refine AW.step ?_;conv=>whnf
  |exact RetX.oB hF
def zg9 (r:Int):AV:=aI (r)
theorem zgr {n a0 a1 r}(hF:z86 n a0 a1=some r):Con E0d true 135 [aI a0,aI a1] (zg9 r):=by
 unfold z86 at hF
 refine Con.walk _ Tryz.func135 rfl (z0x Tryz.func135 rfl rfl) rfl (Or.inr rfl) ?_
 repeat' first
  |refine AW.step ?_;conv=>whnf
  |refine z12.o hF (fun hF=>?_) fun hF=>?_
  |refine z1l.o hF zuo (fun a h=>zzh h) (fun a hF=>?_)
  |exact RetX.oB hF
def zn9 (r:Int):AV:=aI (r)
theorem zkt {n a0 r}(hF:zfx n a0=some r):Con E0d true 133 [.sl 1 (a0.map aI)] (zn9 r):=by
 unfold zfx at hF
 refine Con.walk _ Tryz.func133 rfl (z0x Tryz.func133 rfl rfl) rfl (Or.inr rfl) ?_
 repeat' first
  |refine AW.step ?_;conv=>whnf
  |refine z12.o hF (fun hF=>?_) fun hF=>?_
  |refine IdxX.A hF fun x hF=>?_
  |exact ⟨_,hF,LeX.a []⟩
  |refine z7z.I hF (LeX.a []) fun m v hF=>?_
  |exact RetX.oB hF
def zsw (r:Int):AV:=aI (r)
theorem zwo {n a0 a1 r}(hF:zh8 n a0 a1=some r):Con E0d true 134 [z1b a0,z1b a1] (zsw r):=by
 unfold zh8 at hF
 refine Con.walk _ Tryz.func134 rfl (z0x Tryz.func134 rfl rfl) rfl (Or.inr rfl) ?_
 repeat' first
  |refine AW.step ?_;conv=>whnf
  |refine z1l.o hF zg9 (fun a h=>zgr h) (fun a hF=>?_)
  |refine z1l.o hF zn9 (fun a h=>zkt h) (fun a hF=>?_)
  |refine AndA ?_
  |exact RetX.oB hF
def zjt (r:Int):AV:=aI (r)
theorem zqn {n a0 a1 r}(hF:zdi n a0 a1=some r):Con E0d true 132 [z0b a0,z0b a1] (zjt r):=by
 unfold zdi at hF
 refine Con.walk _ Tryz.func132 rfl (z0x Tryz.func132 rfl rfl) rfl (Or.inr rfl) ?_
 repeat' first
  |refine AW.step ?_;conv=>whnf
  |refine z1l.o hF zsw (fun a h=>zwo h) (fun a hF=>?_)
  |refine z1l.o hF zg9 (fun a h=>zgr h) (fun a hF=>?_)
  |refine z1l.o hF zn9 (fun a h=>zkt h) (fun a hF=>?_)
  |refine AndA ?_
  |exact RetX.oB hF
def zhv (r:Int):AV:=aI (r)
theorem zn4 {n a0 a1 r}(hF:zb8 n a0 a1=some r):Con E0d true 131 [.sl 4 (a0.map z0b),.sl 4 (a1.map z0b),.fn 132 []] (zhv r):=by
 unfold zb8 at hF
 refine Con.walk _ Tryz.func131 rfl (z0x Tryz.func131 rfl rfl) rfl (Or.inr rfl) ?_
 repeat' first
  |refine AW.step ?_;conv=>whnf
  |refine z12.o hF (fun hF=>?_) fun hF=>?_
  |refine IdxX.A hF fun x hF=>?_
  |refine z1l.o hF zjt (fun a h=>zqn h) (fun a hF=>?_)
  |exact ⟨_,hF,LeX.a []⟩
  |refine z7z.I hF (LeX.a []) fun m v hF=>?_
  |exact RetX.oB hF
def zn8 (r:Int):AV:=aI (r)
theorem zjl {n a0 a1 r}(hF:zf9 n a0 a1=some r):Con E0d true 92 [z0d a0,z0d a1] (zn8 r):=by
 unfold zf9 at hF
 refine Con.walk _ Tryz.func92 rfl (z0x Tryz.func92 rfl rfl) rfl (Or.inr rfl) ?_
 repeat' first
  |refine AW.step ?_;conv=>whnf
  |refine z1l.o hF zhv (fun a h=>zn4 h) (fun a hF=>?_)
  |exact RetX.oB hF
def zn7 (r:Int):AV:=aI (r)
theorem zte {n a0 a1 r}(hF:zf6 n a0 a1=some r):Con E0d true 165 [z09 a0,z09 a1] (zn7 r):=by
 unfold zf6 at hF
 refine Con.walk _ Tryz.func165 rfl (z0x Tryz.func165 rfl rfl) rfl (Or.inr rfl) ?_
 repeat' first
  |refine AW.step ?_;conv=>whnf
  |refine z1l.o hF zg9 (fun a h=>zgr h) (fun a hF=>?_)
  |refine z1l.o hF zn9 (fun a h=>zkt h) (fun a hF=>?_)
  |refine AndA ?_
  |exact RetX.oB hF
def zh6 (r:Int):AV:=aI (r)
theorem zji {n a0 a1 r}(hF:z9j n a0 a1=some r):Con E0d true 164 [.sl 2 (a0.map z09),.sl 2 (a1.map z09),.fn 165 []] (zh6 r):=by
 unfold z9j at hF
 refine Con.walk _ Tryz.func164 rfl (z0x Tryz.func164 rfl rfl) rfl (Or.inr rfl) ?_
 repeat' first
  |refine AW.step ?_;conv=>whnf
  |refine z12.o hF (fun hF=>?_) fun hF=>?_
  |refine IdxX.A hF fun x hF=>?_
  |refine z1l.o hF zn7 (fun a h=>zte h) (fun a hF=>?_)
  |exact ⟨_,hF,LeX.a []⟩
  |refine z7z.I hF (LeX.a []) fun m v hF=>?_
  |exact RetX.oB hF
def zzt (r:Int):AV:=aI (r)
theorem zvf {n a0 a1 r}(hF:zhp n a0 a1=some r):Con E0d true 122 [z01 a0,z01 a1] (zzt r):=by
 unfold zhp at hF
 refine Con.walk _ Tryz.func122 rfl (z0x Tryz.func122 rfl rfl) rfl (Or.inr rfl) ?_
 repeat' first
  |refine AW.step ?_;conv=>whnf
  |refine z1l.o hF zg9 (fun a h=>zgr h) (fun a hF=>?_)
  |refine z1l.o hF zn8 (fun a h=>zjl h) (fun a hF=>?_)
  |refine z1l.o hF zh6 (fun a h=>zji h) (fun a hF=>?_)
  |refine z1l.o hF zn9 (fun a h=>zkt h) (fun a hF=>?_)
  |refine AndA ?_
  |exact RetX.oB hF
end
open Go.Sort (SWO PermIn SortedIn HoldsK flatK putRowK putRow putCells grow mapBlock onCells size_flatK get_flatK heap_grow_old)
section
variable {T:Type}
def insF (cmp:T->T->Int)(x:T):List T->List T
 |[]=>[x]
 |y::l=>match ltOf cmp y x with
  |true=>y::insF cmp x l
  |false=>x::y::l
def zwh (cmp:T->T->Int):List T->List T
 |[]=>[]
 |x::l=>insF cmp x (zwh cmp l)
def y2s [DecidableEq T](cmp:T->T->Int)(n:Nat)(l:List T):Option (List T) :=
 if l.length<=1000000000/\∀ x∈l,∀ y∈l,ltOf cmp x y=false->ltOf cmp y x=false->x=y then some (zwh cmp l) else none
theorem zyr (cmp:T->T->Int)(x:T):∀ l:List T,(insF cmp x l).Perm (x::l)
 |[]=>.refl _
 |y::l=>by
  unfold insF
  cases ltOf cmp y x with
  |true=>exact ((zyr cmp x l).cons y).trans (.swap x y l)
  |false=>exact .refl _
theorem zhx (cmp:T->T->Int):∀ l:List T,(zwh cmp l).Perm l
 |[]=>.refl _
 |x::l=>(zyr cmp x _).trans ((zhx cmp l).cons x)
theorem zyq {cmp:T->T->Int}(hO:SWO (ltOf cmp))(x:T):∀ l:List T,l.Pairwise (fun x y=>ltOf cmp y x=false)->(insF cmp x l).Pairwise (fun x y=>ltOf cmp y x=false)
 |[],_=>by simp [insF]
 |y::l,h=>by
  obtain ⟨h1,h2⟩:=pairwise_cons.1 h
  unfold insF
  cases hb:ltOf cmp y x with
  |true =>
   refine pairwise_cons.2 ⟨fun z hz=>?_,zyq hO x l h2⟩
   rcases mem_cons.1 ((zyr cmp x l).mem_iff.1 hz) with hz|hz
   ·subst hz
    cases h3:ltOf cmp z y with
    |false=>rfl
    |true=>have:=hO.trans _ _ _ hb h3;rw [hO.irrefl] at this;cases this
   ·exact h1 z hz
  |false =>
   refine pairwise_cons.2 ⟨fun z hz=>?_,h⟩
   rcases mem_cons.1 hz with hz|hz
   ·subst hz;exact hb
   ·exact hO.ntrans _ _ _ (h1 z hz) hb
theorem zq7 {cmp:T->T->Int}(hO:SWO (ltOf cmp)):∀ l:List T,(zwh cmp l).Pairwise (fun x y=>ltOf cmp y x=false)
 |[]=>.nil
 |x::l=>zyq hO x _ (zq7 hO l)
theorem ygb {cmp:T->T->Int}(hO:SWO (ltOf cmp)){l l':List T}(ht:∀ x∈l,∀ y∈l,ltOf cmp x y=false->ltOf cmp y x=false->x=y)(hp:l'.Perm l)(hs:l'.Pairwise (fun x y=>ltOf cmp y x=false)):l'=zwh cmp l :=
 Perm.eq_of_pairwise (le:=fun x y=>ltOf cmp y x=false) (fun a b ha hb h1 h2=>ht a (hp.mem_iff.1 ha) b ((zhx cmp l).mem_iff.1 hb) h2 h1) hs (zq7 hO l) (hp.trans (zhx cmp l).symm)
end
theorem y3o {w w':World}(h:Below w.heap.size w w')(hd:w.drawn<=w'.drawn):∃ q os,w'=grow (w.drewN q) os:=by
 refine ⟨w'.drawn-w.drawn,w'.heap.extract w.heap.size w'.heap.size,?_⟩
 obtain ⟨heap',tape',drawn',os',output'⟩:=w'
 have e1:os'=w.os:=h.os
 have e2:tape'=w.tape:=h.tape
 have e3:output'=w.output:=h.output
 have hs:w.heap.size<=heap'.size:=h.size
 have hb:∀ k,k<w.heap.size->heap'[k]? = w.heap[k]? := h.block
 have hd:w.drawn<=drawn':=hd
 subst e1 e2 e3
 have eh:heap'=w.heap++heap'.extract w.heap.size heap'.size:=by
  apply Array.ext_getElem?
  intro k
  by_cases hk:k<w.heap.size
  ·rw [Array.getElem?_append_left hk];exact hb k hk
  ·rw [Array.getElem?_append_right (by omega),Array.getElem?_extract]
   by_cases hk2:k<heap'.size
   ·rw [if_pos (by omega)];congr 1;omega
   ·rw [if_neg (by omega),Array.getElem?_eq_none (by omega)]
 have ed:drawn'=w.drawn+(drawn' - w.drawn):=by omega
 simp only [grow,World.drewN]
 congr 1
theorem yka (F cur:Array Value)(h:F.size<=cur.size):(putCells id 0 F cur).toList.take F.size=F.toList:=by
 apply ext_getElem?
 intro j
 by_cases hj:j<F.size
 ·rw [getElem?_take_of_lt hj,Array.getElem?_toList]
  simp [putCells,hj,show j<cur.size by omega]
 ·rw [getElem?_take_eq_none (by omega),getElem?_eq_none (by simp;omega)]
abbrev SEl (w:World)(S:Nat->Prop)(sz:Nat){T:Type}(encT:T->AV):Type:={ p:List Value×T // p.1.length=sz/\(∀ v∈p.1,v.oneCell'=true)/\Rep w S G0 (encT p.2) (.agg p.1.toArray) }
theorem ydy {α:Type}[Inhabited α](enc:α->List Value)(sz:Nat)(hk:∀ x,(enc x).length=sz)(d:Array α)(k j:Nat)(hkd:k<d.size)(hj:j<sz):(flatK enc sz d).toList.getD (k*sz+j) undef=(enc d[k]!).getD j undef:=by
 have hlt:k*sz+j<d.size*sz:=by
  have:(k+1)*sz<=d.size*sz:=Nat.mul_le_mul_right _ hkd
  rw [Nat.succ_mul] at this
  omega
 have h1:=get_flatK enc sz d (k*sz+j) hlt
 have e1:(k*sz+j) / sz=k:=by rw [Nat.mul_comm,Nat.mul_add_div (by omega),Nat.div_eq_of_lt hj,Nat.add_zero]
 have e2:(k*sz+j) % sz=j:=by rw [Nat.mul_comm,Nat.mul_add_mod,Nat.mod_eq_of_lt hj]
 rw [e1,e2] at h1
 have h2:k*sz+j<(flatK enc sz d).size:=by rw [size_flatK];exact hlt
 rw [getD_eq_getElem?_getD,Array.getElem?_toList,Array.getElem?_eq_getElem h2,Option.getD_some,<-getElem!_pos (flatK enc sz d) _ h2,h1]
 have h3:j<(enc d[k]!).length:=by rw [hk];exact hj
 rw [getElem!_pos (enc d[k]!) j h3,getD_eq_getElem?_getD,getElem?_eq_getElem h3,Option.getD_some]
theorem yc7 {E Ed:Env}{f g ty sz:Nat}{T:Type}[DecidableEq T]{encT:T->AV}{cmp:T->T->Int}{n:Nat}{l l':List T}(hP:Ed.P=E.P)(hEd:Ed.dr=true)(he:zfg E f)(heg:zfg E g)(hsz:0<sz)
  (hagg:∀ x,∃ cs,encT x=.agg cs/\cs.length=sz)
  (hsort:∀ (α:Type) [Inhabited α] (enc:α->List Value) (hk:∀ x,(enc x).length=sz) (h1:∀ x,∀ v∈enc x,v.oneCell'=true) (cf:α->α->Int) (hO:SWO (ltOf cf)) (blk off cap:Nat) (d:Array α) (w:World)
    (hcmp:CmpLays E.P g #[] enc sz cf blk off d.size w) (hH:HoldsK enc sz w blk off d) (hblk:blk<w.heap.size) (hsz:d.size<4611686018427387904),
    Calls E.P f #[.slice (some ⟨blk,off,none⟩) d.size cap,.func (.func g) #[] #[]] w fun e w'=>e=.returned (.tuple #[])/\∃ d' n os,PermIn 0 d.size d d'/\SortedIn (ltOf cf) 0 d.size d'/\w'=sortWorldK enc sz w blk off n d' os)
  (hnone:∀ (p:Option Addr) (cap:Nat) (fv:Value) (w:World),Calls E.P f #[.slice p 0 cap,fv] w fun e w'=>e=.returned (.tuple #[])/\w'=w)
  (hc:∀ x y,Con Ed true g [encT x,encT y] (.int .i64 (cmp x y))) (hO:SWO (ltOf cmp)) (hF:y2s cmp n l=some l') :
  ConC true E f [.row 0,.fn g []] ty sz (l.map encT) ty sz (l'.map encT) (.tup []):=by
 unfold y2s at hF
 split at hF
 rotate_left
 ·cases hF
 rename_i hcond
 obtain ⟨hll,hties⟩:=hcond
 injection hF with hF
 refine ⟨he,rfl,fun S w0 w vs v us hbw hown hlen hre hone hnS hvs hargs=>?_⟩
 -- the arguments
 have ha:=hargs (fun i=>if i=0 then some (some (v.ownBlock,v)) else none) rfl
 have h0:=(ha 0 (by simp)).row_inv (g:=v.ownBlock) (s:=v) rfl (zhm (zb0 hown))
 obtain ⟨cs,h1,hcs,_⟩:=(ha 1 (by simp)).fn_inv
 have hcs0:cs=#[]:=Array.eq_empty_of_size_eq_zero hcs
 subst hcs0
 have evs:vs=#[v,.func (.func g) #[] #[]]:=by
  have:=ysi hvs
  rw [h0,h1] at this
  exact this
 rw [evs]
 clear ha h0 h1 evs
 have hlm:(l.map encT).length=l.length:=length_map _
 have hl'len:l'.length=l.length:=by rw [<-hF];exact (zhx cmp l).length_eq
 -- no element
 have empty:l=[]->Calls E.P f #[v,.func (.func g) #[] #[]] w fun e w'=>∃ u v' us',e=.returned u/\w.grownBy w' v.ownBlock/\w'.ownsRow w0.heap.size ty sz v' (l'.map encT).length us'/\(true=true->v'=v)/\(∀ b,v'.ownBlock=some b->v.ownBlock=some b\/w.heap.size<=b)/\(∀ k (hk:k<(l'.map encT).length),((l'.map encT)[k]).cells.length=sz) /\
   (∀ k (hk:k<(l'.map encT).length) j (hj:j<((l'.map encT)[k]).cells.length),Rep w' (fun b=>(S b\/w.heap.size<=b)/\v'.ownBlock≠some b) G0 (((l'.map encT)[k]).cells[j]) (us'.getD (k*sz+j) undef))/\(∀ u∈us',u.oneCell'=true) /\
   ∀ γ':Gam,γ' 0=some (some (v'.ownBlock,v'))->Rep w' (fun b=>(S b\/w.heap.size<=b)/\v'.ownBlock≠some b) γ' (.tup []) u:=fun h0=>by
  have hl0:l'=[]:=by rw [<-hF,h0];simp [zwh]
  subst hl0
  subst h0
  have hv:∃ p cap,v=.slice p 0 cap:=by
   rcases hown.2 with ⟨hv,_⟩|⟨b,cap,cur,hv,_⟩
   ·exact ⟨none,0,hv⟩
   ·exact ⟨_,cap,hv⟩
  obtain ⟨p,cap,hv⟩:=hv
  have hcall:=hnone p cap (.func (.func g) #[] #[]) w
  rw [<-hv] at hcall
  refine hcall.mono ?_
  rintro e w' ⟨rfl,rfl⟩
  exact ⟨_,v,us,rfl,World.grownBy.refl _ _,hown,fun _=>rfl,fun b hb=>Or.inl hb,fun k hk=>absurd hk (by simp),fun k hk=>absurd hk (by simp),hone,fun γ' _=>.tup #[] rfl (fun i hi=>absurd hi (by simp))⟩
 by_cases hl0:l=[]
 ·exact empty hl0
 have hlp:0<l.length:=length_pos_iff.2 hl0
 rcases hown.2 with ⟨_,h0⟩|⟨blk,cap,cur,hv,hbb,hh,hn,hm,hs,ht⟩
 ·omega
 have hblk:blk<w.heap.size:=(Array.getElem?_eq_some_iff.1 hh).1
 have hob:v.ownBlock=some blk:=by rw [hv];rfl
 have husl:us.length=l.length*sz:=by rw [hown.1,hlm]
 have hin:∀ k j,k<l.length->j<sz->k*sz+j<l.length*sz:=fun k j hk hj=>by
  have:(k+1)*sz<=l.length*sz:=Nat.mul_le_mul_right _ hk
  rw [Nat.succ_mul] at this
  omega
 -- the elements
 have hel:∀ i (hi:i<l.length),((us.drop (i*sz)).take sz).length=sz/\(∀ v∈(us.drop (i*sz)).take sz,v.oneCell'=true)/\Rep w S G0 (encT l[i]) (.agg ((us.drop (i*sz)).take sz).toArray):=fun i hi=>by
  have hlen1:((us.drop (i*sz)).take sz).length=sz:=by
   rw [length_take,length_drop]
   have:(i+1)*sz<=l.length*sz:=Nat.mul_le_mul_right _ hi
   rw [Nat.succ_mul] at this
   omega
  have hone1:∀ v∈(us.drop (i*sz)).take sz,v.oneCell'=true:=fun v hv=>hone v (mem_of_mem_drop (mem_of_mem_take hv))
  refine ⟨hlen1,hone1,?_⟩
  obtain ⟨cs,hcs,hcl⟩:=hagg l[i]
  rw [hcs]
  have hget:∀ j,j<sz->((us.drop (i*sz)).take sz).toArray.getD j undef=us.getD (i*sz+j) undef:=fun j hj=>by
   rw [Array.getD_eq_getD_getElem?,getElem?_toArray,getElem?_take_of_lt hj,getElem?_drop,getD_eq_getElem?_getD]
  refine .agg _ (by simpa [hcl] using hlen1) (fun j hj=>?_) (fun j hj=>?_)
  ·rw [hget j (by omega)]
   have hil:i<(l.map encT).length:=by rw [hlm];exact hi
   have e:(l.map encT)[i]=.agg cs:=by rw [getElem_map];exact hcs
   have:=hre i hil j (by rw [e];exact hj)
   simp only [e,AV.cells] at this
   exact this
  ·have hj':j<((us.drop (i*sz)).take sz).length:=by simpa using hj
   rw [Array.getD_eq_getD_getElem?,getElem?_toArray,getElem?_eq_getElem hj',Option.getD_some]
   exact hone1 _ (getElem_mem hj')
 let A:=SEl w S sz encT
 let enc:A->List Value:=fun p=>p.1.1
 let d:Array A:=(ofFn fun i:Fin l.length=>(⟨((us.drop (i.1*sz)).take sz,l[i.1]),hel i.1 i.2⟩:A)).toArray
 haveI:Inhabited A:=⟨⟨((us.drop (0*sz)).take sz,l[0]),hel 0 hlp⟩⟩
 have hds:d.size=l.length:=by simp [d]
 have hdi:∀ i (hi:i<l.length),d[i]! = ⟨((us.drop (i*sz)).take sz,l[i]),hel i hi⟩:=fun i hi=>by
  rw [getElem!_pos d i (by rw [hds];exact hi)]
  simp [d]
 have hk:∀ x:A,(enc x).length=sz:=fun x=>x.2.1
 have hcmp:CmpLays E.P g #[] enc sz (fun x y:A=>cmp x.1.2 y.1.2) blk 0 d.size w:=fun m os dk hdk x y=>by
  have hcon:=(hc x.1.2 y.1.2).2 S (sortWorldK enc sz w blk 0 m dk os) #[.agg (enc x).toArray,.agg (enc y).toArray] ⟨rfl,fun i hi=>?_⟩
  ·rw [hP] at hcon
   refine hcon.mono ?_
   rintro e w' ⟨u,rfl,⟨hb,hdr⟩,hu⟩
   exact ⟨by rw [hu.int_inv],y3o hb (hdr hEd)⟩
  ·have key:∀ z:A,Rep (sortWorldK enc sz w blk 0 m dk os) S G0 (encT z.1.2) (.agg (enc z).toArray):=fun z=>by
    refine z.2.2.2.mono ?_ (fun b hS hb=>⟨?_,hS⟩)
    ·simp [sortWorldK,grow,putRowK,putRow,mapBlock,Go.Sort.ahead]
    ·have hne:blk≠b:=fun e=>hnS blk hob (e▸hS)
     unfold sortWorldK
     rw [heap_grow_old _ _ (by simpa [putRowK,Go.Sort.ahead] using hb)]
     simp [putRowK,putRow,mapBlock,Go.Sort.ahead,Array.getElem?_modify,hne]
   have hi':i<2:=hi
   rcases i with _|_|i
   ·exact key x
   ·exact key y
   ·omega
 have hH:HoldsK enc sz w blk 0 d:=fun j hj=>by
  have hj':j<l.length*sz:=by rw [size_flatK,hds] at hj;exact hj
  have hq:j / sz<l.length:=Nat.div_lt_of_lt_mul (by rwa [Nat.mul_comm] at hj')
  have hm:=Nat.mod_lt j hsz
  have e:=ydy enc sz hk d (j / sz) (j % sz) (by rw [hds];exact hq) hm
  have ej:j / sz*sz+j % sz=j:=by rw [Nat.mul_comm];exact Nat.div_add_mod j sz
  rw [ej] at e
  have ef:(flatK enc sz d)[j]! = us.getD j undef:=by
   rw [getElem!_pos (flatK enc sz d) j hj]
   have h1:(flatK enc sz d).toList.getD j undef=(flatK enc sz d)[j]:=by
    rw [getD_eq_getElem?_getD,Array.getElem?_toList,Array.getElem?_eq_getElem hj];rfl
   rw [<-h1,e,hdi _ hq]
   show ((us.drop (j / sz*sz)).take sz).getD (j % sz) undef=us.getD j undef
   rw [getD_eq_getElem?_getD,getElem?_take_of_lt hm,getElem?_drop,ej,<-getD_eq_getElem?_getD]
  rw [ef,Nat.zero_add]
  refine ⟨zjc hown hob j (by rw [hlm];exact hj'),?_⟩
  simp [World.frozen?,hh]
 have hOA:SWO (ltOf fun x y:A=>cmp x.1.2 y.1.2):=⟨fun x=>hO.irrefl _,fun x y z=>hO.trans _ _ _,fun x y z=>hO.ntrans _ _ _⟩
 have hcall:=hsort A enc hk (fun x=>x.2.2.1) (fun x y=>cmp x.1.2 y.1.2) hOA blk 0 cap d w hcmp hH hblk (by rw [hds];omega)
 have ev:v=.slice (some ⟨blk,0,none⟩) d.size cap:=by rw [hv,hlm,hds]
 rw [<-ev] at hcall
 refine hcall.mono ?_
 rintro e w' ⟨rfl,d',m,os,⟨hps,_,hpp⟩,hso,hw'⟩
 have hd's:d'.size=l.length:=hps.trans hds
 -- what lies there now
 have e1:d'.extract 0 d.size=d':=by rw [<-hps];exact Array.extract_size
 rw [e1,Array.extract_size] at hpp
 have hdl:d.toList.map (fun p=>p.1.2)=l:=by
  simp only [d,map_ofFn]
  apply ext_getElem
  ·simp
  ·intro i h1 h2;simp
 have hperm:(d'.toList.map (fun p=>p.1.2)).Perm l:=by
  have:=hpp.map (fun p:A=>p.1.2)
  rwa [hdl] at this
 have hsorted:(d'.toList.map (fun p=>p.1.2)).Pairwise (fun x y=>ltOf cmp y x=false):=by
  rw [pairwise_iff_getElem]
  intro i j hi hj hij
  have hi':i<d'.size:=by simpa using hi
  have hj':j<d'.size:=by simpa using hj
  have:=hso i j (Nat.zero_le _) hij (by rw [hds,<-hd's];exact hj')
  rw [getElem!_pos d' i hi',getElem!_pos d' j hj'] at this
  simpa [ltOf] using this
 have hfin:d'.toList.map (fun p=>p.1.2)=l':=by rw [<-hF];exact ygb hO hties hperm hsorted
 have hl'k:∀ k (hk':k<l'.length),∃ h:k<d'.size,l'[k]=d'[k].1.2:=fun k hk'=>by
  have h:k<d'.size:=by omega
  refine ⟨h,?_⟩
  have:l'[k]=(d'.toList.map (fun p=>p.1.2))[k]'(by simpa using h):=by simp only [hfin]
  rw [this]
  simp
 have hgb:w.grownBy w' v.ownBlock:=by
  rw [hob,hw']
  refine ⟨rfl,rfl,rfl,by simp [sortWorldK,grow,putRowK,putRow,mapBlock,Go.Sort.ahead],fun k hk hne=>?_⟩
  unfold sortWorldK
  rw [heap_grow_old _ _ (by simpa [putRowK,Go.Sort.ahead] using hk)]
  have:blk≠k:=fun e=>hne (by rw [e])
  simp [putRowK,putRow,mapBlock,Go.Sort.ahead,Array.getElem?_modify,this]
 have hFs:(flatK enc sz d').size=l.length*sz:=by rw [size_flatK,hd's]
 have hcap:l.length*sz<=cur.size:=by
  rw [hs];rw [hlm] at hn;exact Nat.mul_le_mul_right _ hn
 have hheap:w'.heap[blk]? = some (.cells (putCells id 0 (flatK enc sz d') cur) ty (0,0)):=by
  rw [hw']
  unfold sortWorldK
  rw [heap_grow_old _ _ (by simpa [putRowK,Go.Sort.ahead] using hblk)]
  simp [putRowK,putRow,mapBlock,Go.Sort.ahead,Array.getElem?_modify,hh,onCells]
 have hrow:∀ k j,k<l.length->j<sz->(flatK enc sz d').toList.getD (k*sz+j) undef=(enc d'[k]!).getD j undef:=fun k j hk' hj=>ydy enc sz hk d' k j (by rw [hd's];exact hk') hj
 refine ⟨_,v,(flatK enc sz d').toList,rfl,hgb,⟨by rw [Array.length_toList,hFs,length_map,hl'len],Or.inr ⟨blk,cap,_,?_,hbb,hheap,?_,hm,?_,?_⟩⟩,fun _=>rfl,fun b hb=>Or.inl hb,fun k hk'=>?_,fun k hk' j hj=>?_,fun u hu=>?_,fun γ' _=>.tup #[] rfl (fun i hi=>absurd hi (by simp))⟩
 ·rw [length_map,hl'len,hv,hlm]
 ·rw [length_map,hl'len];rw [hlm] at hn;exact hn
 ·simp [putCells,hs]
 ·rw [length_map,hl'len,<-hFs]
  exact yka _ _ (by rw [hFs];exact hcap)
 ·rw [getElem_map]
  obtain ⟨cs,hcs,hcl⟩:=hagg (l'[k]'(by simpa using hk'))
  rw [hcs];exact hcl
 ·have hk2:k<l'.length:=by simpa using hk'
  obtain ⟨hkd,hlk⟩:=hl'k k hk2
  have e:(l'.map encT)[k]=encT d'[k].1.2:=by rw [getElem_map,hlk]
  simp only [e] at hj ⊢
  obtain ⟨cs,hcs,hcl⟩:=hagg d'[k].1.2
  have hj2:j<sz:=by rw [hcs] at hj;simp only [AV.cells] at hj;omega
  rw [hrow k j (by omega) hj2,getElem!_pos d' k hkd]
  have hrep:=d'[k].2.2.2
  rw [hcs] at hrep
  obtain ⟨vs',hvs',hvl,hvr,_⟩:=hrep.agg_inv
  injection hvs' with hvs'
  subst hvs'
  have:=hvr j (by omega)
  simp only [hcs,AV.cells]
  rw [Array.getD_eq_getD_getElem?,getElem?_toArray,<-getD_eq_getElem?_getD] at this
  refine this.mono hgb.size (fun b hS hb=>⟨hgb.block b hb (fun e=>hnS b e.symm hS),Or.inl hS,fun e=>hnS b e hS⟩)
 ·obtain ⟨q,hq,rfl⟩:=mem_iff_getElem.1 hu
  have hq':q<l.length*sz:=by rw [Array.length_toList,hFs] at hq;exact hq
  have hqd:q / sz<l.length:=Nat.div_lt_of_lt_mul (by rwa [Nat.mul_comm] at hq')
  have hm:=Nat.mod_lt q hsz
  have:=hrow (q / sz) (q % sz) hqd hm
  have ej:q / sz*sz+q % sz=q:=by rw [Nat.mul_comm];exact Nat.div_add_mod q sz
  rw [ej,getD_eq_getElem?_getD,getElem?_eq_getElem hq,Option.getD_some] at this
  rw [this]
  have hl2:=hk d'[q / sz]!
  rw [getD_eq_getElem?_getD,getElem?_eq_getElem (by omega),Option.getD_some]
  exact (d'[q / sz]!).2.2.1 _ (getElem_mem _)
end Go.Proofs.YtidhlpjgifoneaaGreat
namespace Go.Proofs
open Go.Shelf
def Tryz.laysSlF06_f161_ren:Go.Shelf.Ren:=⟨fun|6=>161|15=>175|14=>195|28=>206|29=>207|20=>220|21=>221|22=>222|23=>223|24=>224|25=>225|26=>226|27=>227|46=>245|47=>230|48=>231|49=>246|50=>247|57=>264|n=>n,fun|22=>57|24=>60|25=>62|3=>3|39=>236|0=>0|53=>265|55=>267|4=>4|46=>258|45=>257|50=>262|5=>5|9=>9|66=>280|70=>284|76=>300|77=>242|n=>n,fun|n=>n⟩
theorem Tryz.laysSlF06_f161:Go.Proofs.SlLaysF0.n6 Tryz.prog Tryz.laysSlF06_f161_ren:={
 mixed:=by kernel_rfl
 f6:=⟨Tryz.f161.name,by decide,Tryz.func161.trans (congrArg some (by kernel_rfl))⟩
 f14:=⟨Tryz.f195.name,by decide,Tryz.func195.trans (congrArg some (by kernel_rfl))⟩
 f15:=Tryz.func175.trans (congrArg some (by kernel_rfl))
 f20:=⟨Tryz.f220.name,by decide,Tryz.func220.trans (congrArg some (by kernel_rfl))⟩
 f21:=⟨Tryz.f221.name,by decide,Tryz.func221.trans (congrArg some (by kernel_rfl))⟩
 f22:=⟨Tryz.f222.name,by decide,Tryz.func222.trans (congrArg some (by kernel_rfl))⟩
 f23:=⟨Tryz.f223.name,by decide,Tryz.func223.trans (congrArg some (by kernel_rfl))⟩
 f24:=⟨Tryz.f224.name,by decide,Tryz.func224.trans (congrArg some (by kernel_rfl))⟩
 f25:=⟨Tryz.f225.name,by decide,Tryz.func225.trans (congrArg some (by kernel_rfl))⟩
 f26:=⟨Tryz.f226.name,by decide,Tryz.func226.trans (congrArg some (by kernel_rfl))⟩
 f27:=⟨Tryz.f227.name,by decide,Tryz.func227.trans (congrArg some (by kernel_rfl))⟩
 f28:=Tryz.func206.trans (congrArg some (by kernel_rfl))
 f29:=Tryz.func207.trans (congrArg some (by kernel_rfl))
 f46:=⟨Tryz.f245.name,by decide,Tryz.func245.trans (congrArg some (by kernel_rfl))⟩
 f47:=Tryz.func230.trans (congrArg some (by kernel_rfl))
 f48:=Tryz.func231.trans (congrArg some (by kernel_rfl))
 f49:=⟨Tryz.f246.name,by decide,Tryz.func246.trans (congrArg some (by kernel_rfl))⟩
 f50:=⟨Tryz.f247.name,by decide,Tryz.func247.trans (congrArg some (by kernel_rfl))⟩
 f57:=⟨Tryz.f264.name,by decide,Tryz.func264.trans (congrArg some (by kernel_rfl))⟩
 t0:=Tryz.underlying0
 a0:=Tryz.isAgg0
 z0:=Tryz.sizeOf0
 v0:=Tryz.zeroValue0
 t3:=Tryz.underlying3
 a3:=Tryz.isAgg3
 z3:=Tryz.sizeOf3
 v3:=Tryz.zeroValue3
 t4:=Tryz.underlying4
 a4:=Tryz.isAgg4
 z4:=Tryz.sizeOf4
 v4:=Tryz.zeroValue4
 t5:=Tryz.underlying5
 a5:=Tryz.isAgg5
 z5:=Tryz.sizeOf5
 v5:=Tryz.zeroValue5
 t9:=Tryz.underlying9
 a9:=Tryz.isAgg9
 z9:=Tryz.sizeOf9
 v9:=Tryz.zeroValue9
 t22:=Tryz.underlying57
 a22:=Tryz.isAgg57
 z22:=Tryz.sizeOf57
 v22:=Tryz.zeroValue57
 t25:=Tryz.underlying62
 a25:=Tryz.isAgg62
 z25:=Tryz.sizeOf62
 v25:=Tryz.zeroValue62
 t39:=Tryz.underlying236
 a39:=Tryz.isAgg236
 z39:=Tryz.sizeOf236
 v39:=Tryz.zeroValue236
 t45:=Tryz.underlying257
 a45:=Tryz.isAgg257
 z45:=Tryz.sizeOf257
 v45:=Tryz.zeroValue257
 t46:=Tryz.underlying258
 a46:=Tryz.isAgg258
 z46:=Tryz.sizeOf258
 v46:=Tryz.zeroValue258
 t50:=Tryz.underlying262
 a50:=Tryz.isAgg262
 z50:=Tryz.sizeOf262
 v50:=Tryz.zeroValue262
 t53:=Tryz.underlying265
 a53:=Tryz.isAgg265
 z53:=Tryz.sizeOf265
 v53:=Tryz.zeroValue265
 t55:=Tryz.underlying267
 a55:=Tryz.isAgg267
 z55:=Tryz.sizeOf267
 v55:=Tryz.zeroValue267
 t66:=Tryz.underlying280
 a66:=Tryz.isAgg280
 z66:=Tryz.sizeOf280
 v66:=Tryz.zeroValue280
 t70:=Tryz.underlying284
 a70:=Tryz.isAgg284
 z70:=Tryz.sizeOf284
 v70:=Tryz.zeroValue284
 t76:=Tryz.underlying300
 a76:=Tryz.isAgg300
 z76:=Tryz.sizeOf300
 v76:=Tryz.zeroValue300
 t77:=Tryz.underlying242
 a77:=Tryz.isAgg242
 z77:=Tryz.sizeOf242
 v77:=Tryz.zeroValue242 }
def Tryz.laysSlF06_f128_ren:Go.Shelf.Ren:=⟨fun|6=>128|15=>175|14=>174|28=>206|29=>207|20=>198|21=>199|22=>200|23=>201|24=>202|25=>203|26=>204|27=>205|46=>229|47=>230|48=>231|49=>232|50=>233|57=>251|n=>n,fun|22=>50|24=>44|25=>49|3=>3|39=>236|0=>0|53=>265|55=>267|4=>4|46=>258|45=>257|50=>262|5=>5|9=>9|66=>280|70=>284|76=>300|77=>242|n=>n,fun|n=>n⟩
theorem Tryz.laysSlF06_f128:Go.Proofs.SlLaysF0.n6 Tryz.prog Tryz.laysSlF06_f128_ren:={
 mixed:=by kernel_rfl
 f6:=⟨Tryz.f128.name,by decide,Tryz.func128.trans (congrArg some (by kernel_rfl))⟩
 f14:=⟨Tryz.f174.name,by decide,Tryz.func174.trans (congrArg some (by kernel_rfl))⟩
 f15:=Tryz.func175.trans (congrArg some (by kernel_rfl))
 f20:=⟨Tryz.f198.name,by decide,Tryz.func198.trans (congrArg some (by kernel_rfl))⟩
 f21:=⟨Tryz.f199.name,by decide,Tryz.func199.trans (congrArg some (by kernel_rfl))⟩
 f22:=⟨Tryz.f200.name,by decide,Tryz.func200.trans (congrArg some (by kernel_rfl))⟩
 f23:=⟨Tryz.f201.name,by decide,Tryz.func201.trans (congrArg some (by kernel_rfl))⟩
 f24:=⟨Tryz.f202.name,by decide,Tryz.func202.trans (congrArg some (by kernel_rfl))⟩
 f25:=⟨Tryz.f203.name,by decide,Tryz.func203.trans (congrArg some (by kernel_rfl))⟩
 f26:=⟨Tryz.f204.name,by decide,Tryz.func204.trans (congrArg some (by kernel_rfl))⟩
 f27:=⟨Tryz.f205.name,by decide,Tryz.func205.trans (congrArg some (by kernel_rfl))⟩
 f28:=Tryz.func206.trans (congrArg some (by kernel_rfl))
 f29:=Tryz.func207.trans (congrArg some (by kernel_rfl))
 f46:=⟨Tryz.f229.name,by decide,Tryz.func229.trans (congrArg some (by kernel_rfl))⟩
 f47:=Tryz.func230.trans (congrArg some (by kernel_rfl))
 f48:=Tryz.func231.trans (congrArg some (by kernel_rfl))
 f49:=⟨Tryz.f232.name,by decide,Tryz.func232.trans (congrArg some (by kernel_rfl))⟩
 f50:=⟨Tryz.f233.name,by decide,Tryz.func233.trans (congrArg some (by kernel_rfl))⟩
 f57:=⟨Tryz.f251.name,by decide,Tryz.func251.trans (congrArg some (by kernel_rfl))⟩
 t0:=Tryz.underlying0
 a0:=Tryz.isAgg0
 z0:=Tryz.sizeOf0
 v0:=Tryz.zeroValue0
 t3:=Tryz.underlying3
 a3:=Tryz.isAgg3
 z3:=Tryz.sizeOf3
 v3:=Tryz.zeroValue3
 t4:=Tryz.underlying4
 a4:=Tryz.isAgg4
 z4:=Tryz.sizeOf4
 v4:=Tryz.zeroValue4
 t5:=Tryz.underlying5
 a5:=Tryz.isAgg5
 z5:=Tryz.sizeOf5
 v5:=Tryz.zeroValue5
 t9:=Tryz.underlying9
 a9:=Tryz.isAgg9
 z9:=Tryz.sizeOf9
 v9:=Tryz.zeroValue9
 t22:=Tryz.underlying50
 a22:=Tryz.isAgg50
 z22:=Tryz.sizeOf50
 v22:=Tryz.zeroValue50
 t25:=Tryz.underlying49
 a25:=Tryz.isAgg49
 z25:=Tryz.sizeOf49
 v25:=Tryz.zeroValue49
 t39:=Tryz.underlying236
 a39:=Tryz.isAgg236
 z39:=Tryz.sizeOf236
 v39:=Tryz.zeroValue236
 t45:=Tryz.underlying257
 a45:=Tryz.isAgg257
 z45:=Tryz.sizeOf257
 v45:=Tryz.zeroValue257
 t46:=Tryz.underlying258
 a46:=Tryz.isAgg258
 z46:=Tryz.sizeOf258
 v46:=Tryz.zeroValue258
 t50:=Tryz.underlying262
 a50:=Tryz.isAgg262
 z50:=Tryz.sizeOf262
 v50:=Tryz.zeroValue262
 t53:=Tryz.underlying265
 a53:=Tryz.isAgg265
 z53:=Tryz.sizeOf265
 v53:=Tryz.zeroValue265
 t55:=Tryz.underlying267
 a55:=Tryz.isAgg267
 z55:=Tryz.sizeOf267
 v55:=Tryz.zeroValue267
 t66:=Tryz.underlying280
 a66:=Tryz.isAgg280
 z66:=Tryz.sizeOf280
 v66:=Tryz.zeroValue280
 t70:=Tryz.underlying284
 a70:=Tryz.isAgg284
 z70:=Tryz.sizeOf284
 v70:=Tryz.zeroValue284
 t76:=Tryz.underlying300
 a76:=Tryz.isAgg300
 z76:=Tryz.sizeOf300
 v76:=Tryz.zeroValue300
 t77:=Tryz.underlying242
 a77:=Tryz.isAgg242
 z77:=Tryz.sizeOf242
 v77:=Tryz.zeroValue242 }
end Go.Proofs
