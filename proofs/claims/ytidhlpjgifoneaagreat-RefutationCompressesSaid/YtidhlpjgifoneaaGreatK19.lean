/- What some functions compute, over plain values. -/
import Derived.Test.YtidhlpjgifoneaaGreatK18
import Derived.Shelf.SlSortCmp.NoneTotal
import Derived.Sort.OwnSorted
set_option linter.unusedVariables false
set_option linter.unusedSimpArgs false
set_option maxRecDepth 100000
set_option maxHeartbeats 8000000
namespace Go.Proofs.YtidhlpjgifoneaaGreat
open Go.RowKit List
open List renaming getD_eq_getElem?_getD->aA,getElem?_eq_getElem->aE,getElem?_take_of_lt->aK,getElem?_toArray->aP,length_map->aQ,pairwise_cons->aT,getElem_map->bX
open _root_.Array renaming getD_eq_getD_getElem?->aB,getElem?_toList->aH,getElem?_modify->aJ,getElem?_eq_getElem->aN,length_toList->aS,extract_size->aU
open Nat renaming mul_le_mul_right->aC,mul_comm->aG,div_lt_of_lt_mul->aR,succ_mul->bH,div_add_mod->bY
open Option renaming getD_some->aD
open Con renaming walk->aF
open AW renaming step->aL
open RetX renaming oB->aM
open Or renaming inr->aO
open Tryz renaming underlying236->aV,underlying257->aW,underlying258->aX,underlying262->aY,underlying265->aZ,underlying267->bA,underlying280->bB,underlying284->bC,underlying300->bD,underlying242->bE,zeroValue236->bI,zeroValue257->bJ,zeroValue258->bK,zeroValue262->bL,zeroValue265->bM,zeroValue267->bN,zeroValue280->bO,zeroValue284->bP,zeroValue300->bQ,zeroValue242->bR,underlying0->bS,underlying3->bT,underlying4->bU,underlying5->bV,underlying9->bW,zeroValue0->bZ,zeroValue3->cA,zeroValue4->cB,zeroValue5->cC,zeroValue9->cD,sizeOf236->cE,sizeOf257->cF,sizeOf258->cG,sizeOf262->cH,sizeOf265->cI,sizeOf267->cJ,sizeOf280->cK,sizeOf284->cL,sizeOf300->cM,sizeOf242->cN,isAgg236->cO,isAgg257->cP,isAgg258->cQ,isAgg262->cR,isAgg265->cS,isAgg267->cT,isAgg280->cU,isAgg284->cV,isAgg300->cW,isAgg242->cX,func176->cY,func135->cZ,func133->dA,func134->dB,func132->dC,func131->dD,func165->dE,func164->dF,func122->dG,sizeOf0->dH,sizeOf3->dI,sizeOf4->dJ,sizeOf5->dK,sizeOf9->dL,func92->dN,isAgg0->dP,isAgg3->dQ,isAgg4->dR,isAgg5->dS,isAgg9->dU
open Af renaming o->bG
def Wg (n:Nat)(a:Int):Option (Bool):=some (!decide (a=a))
def Fa (n:Nat)(b:Int)(a:Int):Option (Int):=bnd (Wg n b) fun d=>bnd (Wg n a) fun c=>cnd (d) (cnd (c) (some 0)<|some (-1))<|cnd (c) (some 1)<|cnd (decide (b<a)) (some (-1))<|cnd (decide (a<b)) (some 1)<|some 0
def Sx (n:Nat)(a:(List Int))(b:Option (Int)):Nat->Int->Option (Int) |0,_=>none |d+1,c=>cnd (decide (c<((a.map aI).length:Int))) (idx a c fun e=>cnd (!decide (e=0)) (some e)<|(Sx n a b d) (IntKind.wrap .i64 (c+1)))<|b
def G9 (n:Nat)(a:(List Int)):Option (Int):=Sx n a (some 0) n 0
def We (n:Nat)(b:Bh)(a:Bh):Option (Int):=bnd (Fa n b.fTime a.fTime) fun f=>bnd (Fa n b.fSource a.fSource) fun e=>bnd (Fa n b.fSeq a.fSeq) fun d=>bnd (G9 n ([f,e,d])) fun c=>some c
def Vg (n:Nat)(b:B6)(a:B6):Option (Int):=bnd (We n b.fRef a.fRef) fun e=>bnd (Fa n b.fVar a.fVar) fun d=>bnd (G9 n ([e,d])) fun c=>some c
def Pp (n:Nat)(a:(List B6))(h:(List B6))(c:Option (Int)):Nat->Int->Option (Int) |0,_=>none |d+1,b=>cnd (decide (b<((h.map Ar).length:Int))) (idx h b fun f=>cnd (decide (((a.map Ar).length:Int)<=b)) (some 1)<|idx a b fun g=>bnd (Vg n f g) fun e=>cnd (!decide (e=0)) (some e)<|(Pp n a h c d) (IntKind.wrap .i64 (b+1)))<|c
def Um (n:Nat)(b:(List B6))(a:(List B6)):Option (Int):=Pp n a b (cnd (decide (((b.map Ar).length:Int)<((a.map Ar).length:Int))) (some (-1))<|some 0) n 0
def W3 (n:Nat)(c:Ac)(b:Ac):Option (Int):=bnd (Um n c.fBindings b.fBindings) fun a=>some a
def Vz (n:Nat)(b:Ak)(a:Ak):Option (Int):=bnd (Fa n b.fScope a.fScope) fun e=>bnd (Fa n b.fTime a.fTime) fun d=>bnd (G9 n ([e,d])) fun c=>some c
def Ot (n:Nat)(a:(List Ak))(h:(List Ak))(c:Option (Int)):Nat->Int->Option (Int) |0,_=>none |d+1,b=>cnd (decide (b<((h.map Ae).length:Int))) (idx h b fun f=>cnd (decide (((a.map Ae).length:Int)<=b)) (some 1)<|idx a b fun g=>bnd (Vz n f g) fun e=>cnd (!decide (e=0)) (some e)<|(Ot n a h c d) (IntKind.wrap .i64 (b+1)))<|c
def U3 (n:Nat)(b:(List Ak))(a:(List Ak)):Option (Int):=Ot n a b (cnd (decide (((b.map Ae).length:Int)<((a.map Ae).length:Int))) (some (-1))<|some 0) n 0
def Z3 (n:Nat)(b:A0)(a:A0):Option (Int):=bnd (Fa n b.fState a.fState) fun f=>bnd (W3 n (⟨b.fBindings⟩:Ac) (⟨a.fBindings⟩:Ac)) fun e=>bnd (U3 n b.fStarts a.fStarts) fun d=>bnd (G9 n ([f,e,d])) fun c=>some c
noncomputable section
abbrev zkg {n a b}:=li (Sx n a b) (fun c=>⟨[(3,aI 0),(6,.sl 1 (a.map aI)),(7,aI (((a.map aI).length:Int))),(8,aI c)],[]⟩) fun _ _=>Sx.eq_2 ..
abbrev z3o {n d a b}:=li (Pp n d a b) (fun c=>⟨[(0,.sl 4 (a.map Ar)),(1,.sl 4 (d.map Ar)),(2,.fn 132 []),(11,.sl 4 (a.map Ar)),(12,aI (((a.map Ar).length:Int))),(13,aI c)],[]⟩) fun _ _=>Pp.eq_2 ..
abbrev z13 {n d a b}:=li (Ot n d a b) (fun c=>⟨[(0,.sl 2 (a.map Ae)),(1,.sl 2 (d.map Ae)),(2,.fn 165 []),(11,.sl 2 (a.map Ae)),(12,aI (((a.map Ae).length:Int))),(13,aI c)],[]⟩) fun _ _=>Ot.eq_2 ..
attribute [instance] zkg z3o z13
def zbe (r:Bool):AV:=.bool (r)
theorem zf0 {n b r}(a:Wg n b=some r):Con E0d true 176 [aI b] (zbe r):=by
 unfold Wg at a;refine aF _ cY rfl (B0 cY rfl rfl) rfl (aO rfl) ?_;repeat' first
  |refine aL ?_;conv=>whnf
  |exact aM a
def W9 (r:Int):AV:=aI (r)
theorem Yz {n d c r}(b:Fa n d c=some r):Con E0d true 135 [aI d,aI c] (W9 r):=by
 unfold Fa at b;refine aF _ cZ rfl (B0 cZ rfl rfl) rfl (aO rfl) ?_;repeat' first
  |refine aL ?_;conv=>whnf
  |refine Aa.o b (fun b=>?_) fun b=>?_
  |refine bG b zbe (fun a h=>zf0 h) (fun a b=>?_)
  |exact aM b
def X0 (r:Int):AV:=aI (r)
theorem Za {n b r}(a:G9 n b=some r):Con E0d true 133 [.sl 1 (b.map aI)] (X0 r):=by
 unfold G9 at a;refine aF _ dA rfl (B0 dA rfl rfl) rfl (aO rfl) ?_;repeat' first
  |refine aL ?_;conv=>whnf
  |refine Aa.o a (fun a=>?_) fun a=>?_
  |refine IdxX.A a fun x a=>?_
  |exact ⟨_,a,LeX.a []⟩
  |refine Ax.I a (LeX.a []) fun m v a=>?_
  |exact aM a
def zae (r:Int):AV:=aI (r)
theorem zcm {n d c r}(b:We n d c=some r):Con E0d true 134 [Bf d,Bf c] (zae r):=by
 unfold We at b;refine aF _ dB rfl (B0 dB rfl rfl) rfl (aO rfl) ?_;repeat' first
  |refine aL ?_;conv=>whnf
  |refine bG b W9 (fun a h=>Yz h) (fun a b=>?_)
  |refine bG b X0 (fun a h=>Za h) (fun a b=>?_)
  |refine AndA ?_
  |exact aM b
def z1u (r:Int):AV:=aI (r)
theorem z8u {n d c r}(b:Vg n d c=some r):Con E0d true 132 [Ar d,Ar c] (z1u r):=by
 unfold Vg at b;refine aF _ dC rfl (B0 dC rfl rfl) rfl (aO rfl) ?_;repeat' first
  |refine aL ?_;conv=>whnf
  |refine bG b zae (fun a h=>zcm h) (fun a b=>?_)
  |refine bG b W9 (fun a h=>Yz h) (fun a b=>?_)
  |refine bG b X0 (fun a h=>Za h) (fun a b=>?_)
  |refine AndA ?_
  |exact aM b
def z0o (r:Int):AV:=aI (r)
theorem z5i {n d c r}(b:Um n d c=some r):Con E0d true 131 [.sl 4 (d.map Ar),.sl 4 (c.map Ar),.fn 132 []] (z0o r):=by
 unfold Um at b;refine aF _ dD rfl (B0 dD rfl rfl) rfl (aO rfl) ?_;repeat' first
  |refine aL ?_;conv=>whnf
  |refine Aa.o b (fun b=>?_) fun b=>?_
  |refine IdxX.A b fun x b=>?_
  |refine bG b z1u (fun a h=>z8u h) (fun a b=>?_)
  |exact ⟨_,b,LeX.a []⟩
  |refine Ax.I b (LeX.a []) fun m v b=>?_
  |exact aM b
def z5k (r:Int):AV:=aI (r)
theorem z1r {n d c r}(b:W3 n d c=some r):Con E0d true 92 [Au d,Au c] (z5k r):=by
 unfold W3 at b;refine aF _ dN rfl (B0 dN rfl rfl) rfl (aO rfl) ?_;repeat' first
  |refine aL ?_;conv=>whnf
  |refine bG b z0o (fun a h=>z5i h) (fun a b=>?_)
  |exact aM b
def z5j (r:Int):AV:=aI (r)
theorem zap {n d c r}(b:Vz n d c=some r):Con E0d true 165 [Ae d,Ae c] (z5j r):=by
 unfold Vz at b;refine aF _ dE rfl (B0 dE rfl rfl) rfl (aO rfl) ?_;repeat' first
  |refine aL ?_;conv=>whnf
  |refine bG b W9 (fun a h=>Yz h) (fun a b=>?_)
  |refine bG b X0 (fun a h=>Za h) (fun a b=>?_)
  |refine AndA ?_
  |exact aM b
def z0j (r:Int):AV:=aI (r)
theorem z1o {n d c r}(b:U3 n d c=some r):Con E0d true 164 [.sl 2 (d.map Ae),.sl 2 (c.map Ae),.fn 165 []] (z0j r):=by
 unfold U3 at b;refine aF _ dF rfl (B0 dF rfl rfl) rfl (aO rfl) ?_;repeat' first
  |refine aL ?_;conv=>whnf
  |refine Aa.o b (fun b=>?_) fun b=>?_
  |refine IdxX.A b fun x b=>?_
  |refine bG b z5j (fun a h=>zap h) (fun a b=>?_)
  |exact ⟨_,b,LeX.a []⟩
  |refine Ax.I b (LeX.a []) fun m v b=>?_
  |exact aM b
def zfa (r:Int):AV:=aI (r)
theorem zbs {n d c r}(b:Z3 n d c=some r):Con E0d true 122 [A4 d,A4 c] (zfa r):=by
 unfold Z3 at b;refine aF _ dG rfl (B0 dG rfl rfl) rfl (aO rfl) ?_;repeat' first
  |refine aL ?_;conv=>whnf
  |refine bG b W9 (fun a h=>Yz h) (fun a b=>?_)
  |refine bG b z5k (fun a h=>z1r h) (fun a b=>?_)
  |refine bG b z0j (fun a h=>z1o h) (fun a b=>?_)
  |refine bG b X0 (fun a h=>Za h) (fun a b=>?_)
  |refine AndA ?_
  |exact aM b
end
open Go.Sort (SWO PermIn SortedIn HoldsK flatK putRowK putRow putCells grow mapBlock onCells size_flatK get_flatK heap_grow_old)
section
variable {T:Type}
def insF (cmp:T->T->Int)(x:T):List T->List T
 |[]=>[x]
 |y::l=>match ltOf cmp y x with
  |true=>y::insF cmp x l
  |false=>x::y::l
def Et (cmp:T->T->Int):List T->List T |[]=>[] |x::l=>insF cmp x (Et cmp l)
def Tm [DecidableEq T](cmp:T->T->Int)(n:Nat)(l:List T):Option (List T) :=
 if l.length<=1000000000/\∀ x∈l,∀ y∈l,ltOf cmp x y=false->ltOf cmp y x=false->x=y then some (Et cmp l) else none
theorem zeg (cmp:T->T->Int)(x:T):∀ l:List T,(insF cmp x l).Perm (x::l)
 |[]=>.refl _
 |y::l=>by
  unfold insF;cases ltOf cmp y x with
  |true=>exact ((zeg cmp x l).cons y).trans (.swap x y l)
  |false=>exact .refl _
theorem Nt (cmp:T->T->Int):∀ l:List T,(Et cmp l).Perm l
 |[]=>.refl _
 |x::l=>(zeg cmp x _).trans ((Nt cmp l).cons x)
theorem zef {cmp:T->T->Int}(b:SWO (ltOf cmp))(x:T):∀ l:List T,l.Pairwise (fun x y=>ltOf cmp y x=false)->(insF cmp x l).Pairwise (fun x y=>ltOf cmp y x=false)
 |[],_=>by simp [insF]
 |y::l,h=>by
  obtain ⟨h1,e⟩:=aT.1 h;unfold insF;cases c:ltOf cmp y x with
  |true =>
   refine aT.2 ⟨fun z a=>?_,zef b x l e⟩;rcases mem_cons.1 ((zeg cmp x l).mem_iff.1 a) with a|a
   ·subst a;cases d:ltOf cmp z y with
    |false=>rfl
    |true=>have:=b.trans _ _ _ c d;rw [b.irrefl] at this;cases this
   ·exact h1 z a
  |false =>
   refine aT.2 ⟨fun z a=>?_,h⟩;rcases mem_cons.1 a with a|a
   ·subst a;exact c
   ·exact b.ntrans _ _ _ (h1 z a) c
theorem z8i {cmp:T->T->Int}(a:SWO (ltOf cmp)):∀ l:List T,(Et cmp l).Pairwise (fun x y=>ltOf cmp y x=false)
 |[]=>.nil
 |x::l=>zef a x _ (z8i a l)
theorem zw3 {cmp:T->T->Int}(i:SWO (ltOf cmp)){l c:List T}(e:∀ x∈l,∀ y∈l,ltOf cmp x y=false->ltOf cmp y x=false->x=y)(d:c.Perm l)(f:c.Pairwise (fun x y=>ltOf cmp y x=false)):c=Et cmp l :=
 Perm.eq_of_pairwise (le:=fun x y=>ltOf cmp y x=false) (fun a b h g h1 j=>e a (d.mem_iff.1 h) b ((Nt cmp l).mem_iff.1 g) j h1) f (z8i i l) (d.trans (Nt cmp l).symm)
end
theorem zj9 {w w':World}(h:Below w.heap.size w w')(d:w.drawn<=w'.drawn):∃ q e,w'=grow (w.drewN q) e:=by
 refine ⟨w'.drawn-w.drawn,w'.heap.extract w.heap.size w'.heap.size,?_⟩;obtain ⟨a,tape',drawn',b,output'⟩:=w';have l:b=w.os:=h.os;have j:tape'=w.tape:=h.tape;have i:output'=w.output:=h.output;have m:w.heap.size<=a.size:=h.size;have g:∀ k,k<w.heap.size->a[k]? = w.heap[k]? := h.block;have d:w.drawn<=drawn':=d;subst l j i;have eh:a=w.heap++a.extract w.heap.size a.size:=by
  apply Array.ext_getElem?;intro k;by_cases c:k<w.heap.size
  ·rw [Array.getElem?_append_left c];exact g k c
  ·rw [Array.getElem?_append_right (by omega),Array.getElem?_extract];by_cases f:k<a.size
   ·rw [if_pos (by omega)];congr 1;omega
   ·rw [if_neg (by omega),Array.getElem?_eq_none (by omega)]
 have ed:drawn'=w.drawn+(drawn' - w.drawn):=by omega
 simp only [grow,World.drewN];congr 1
theorem y0a (F a:Array Value)(h:F.size<=a.size):(putCells id 0 F a).toList.take F.size=F.toList:=by
 apply ext_getElem?;intro j;by_cases b:j<F.size
 ·rw [aK b,aH];simp [putCells,b,show j<a.size by omega]
 ·rw [getElem?_take_eq_none (by omega),getElem?_eq_none (by simp;omega)]
abbrev SEl (w:World)(S:Nat->Prop)(sz:Nat){T:Type}(encT:T->AV):Type:={ p:List Value×T // p.1.length=sz/\(∀ v∈p.1,v.oneCell'=true)/\Rep w S G0 (encT p.2) (.agg p.1.toArray) }
theorem zti {α:Type}[Inhabited α](enc:α->List Value)(sz:Nat)(g:∀ x,(enc x).length=sz)(d:Array α)(k j:Nat)(b:k<d.size)(c:j<sz):(flatK enc sz d).toList.getD (k*sz+j) undef=(enc d[k]!).getD j undef:=by
 have a:k*sz+j<d.size*sz:=by
  have:(k+1)*sz<=d.size*sz:=aC _ b;rw [bH] at this;omega
 have h1:=get_flatK enc sz d (k*sz+j) a;have i:(k*sz+j) / sz=k:=by rw [aG,Nat.mul_add_div (by omega),Nat.div_eq_of_lt c,Nat.add_zero]
 have h:(k*sz+j) % sz=j:=by rw [aG,Nat.mul_add_mod,Nat.mod_eq_of_lt c]
 rw [i,h] at h1;have f:k*sz+j<(flatK enc sz d).size:=by rw [size_flatK];exact a
 rw [aA,aH,aN f,aD,<-getElem!_pos (flatK enc sz d) _ f,h1];have e:j<(enc d[k]!).length:=by rw [g];exact c
 rw [getElem!_pos (enc d[k]!) j e,aA,aE e,aD]
theorem zrr {E Ed:Env}{f g ty sz:Nat}{T:Type}[DecidableEq T]{encT:T->AV}{cmp:T->T->Int}{n:Nat}{l D:List T}(hP:Ed.P=E.P)(bv:Ed.dr=true)(he:Ci E f)(ce:Ci E g)(ae:0<sz)
  (R:∀ x,∃ cs,encT x=.agg cs/\cs.length=sz)
  (af:∀ (α:Type) [Inhabited α] (enc:α->List Value) (I:∀ x,(enc x).length=sz) (h1:∀ x,∀ v∈enc x,v.oneCell'=true) (cf:α->α->Int) (hO:SWO (ltOf cf)) (blk off c:Nat) (d:Array α) (w:World)
    (ac:CmpLays E.P g #[] enc sz cf blk off d.size w) (hH:HoldsK enc sz w blk off d) (Q:blk<w.heap.size) (ae:d.size<4611686018427387904),
    Calls E.P f #[.slice (some ⟨blk,off,none⟩) d.size c,.func (.func g) #[] #[]] w fun e w'=>e=.returned (.tuple #[])/\∃ a n os,PermIn 0 d.size d a/\SortedIn (ltOf cf) 0 d.size a/\w'=sortWorldK enc sz w blk off n a os)
  (ai:∀ (p:Option Addr) (c:Nat) (fv:Value) (w:World),Calls E.P f #[.slice p 0 c,fv] w fun e w'=>e=.returned (.tuple #[])/\w'=w)
  (hc:∀ x y,Con Ed true g [encT x,encT y] (.int .i64 (cmp x y))) (hO:SWO (ltOf cmp)) (hF:Tm cmp n l=some D) :
  ConC true E f [.row 0,.fn g []] ty sz (l.map encT) ty sz (D.map encT) (.tup []):=by
 unfold Tm at hF;split at hF;rotate_left
 ·cases hF
 rename_i ao;obtain ⟨cb,ad⟩:=ao;injection hF with hF
 refine ⟨he,rfl,fun S w0 w vs v us ch B bx bg aa ak bc ap=>?_⟩
 -- the arguments
 have ha:=ap (fun i=>if i=0 then some (some (v.ownBlock,v)) else none) rfl;have h0:=(ha 0 (by simp)).row_inv (g:=v.ownBlock) (s:=v) rfl (Fc (Cw B));obtain ⟨cs,h1,t,_⟩:=(ha 1 (by simp)).fn_inv;have ba:cs=#[]:=Array.eq_empty_of_size_eq_zero t;subst ba;have evs:vs=#[v,.func (.func g) #[] #[]]:=by
  have:=y8u bc;rw [h0,h1] at this;exact this
 rw [evs];clear ha h0 h1 evs;have G:(l.map encT).length=l.length:=aQ _;have o:D.length=l.length:=by rw [<-hF];exact (Nt cmp l).length_eq
 -- no element
 have empty:l=[]->Calls E.P f #[v,.func (.func g) #[] #[]] w fun e w'=>∃ u v' us',e=.returned u/\w.grownBy w' v.ownBlock/\w'.ownsRow w0.heap.size ty sz v' (D.map encT).length us'/\(true=true->v'=v)/\(∀ b,v'.ownBlock=some b->v.ownBlock=some b\/w.heap.size<=b)/\(∀ k (I:k<(D.map encT).length),((D.map encT)[k]).cells.length=sz) /\
   (∀ k (I:k<(D.map encT).length) j (C:j<((D.map encT)[k]).cells.length),Rep w' (fun b=>(S b\/w.heap.size<=b)/\v'.ownBlock≠some b) G0 (((D.map encT)[k]).cells[j]) (us'.getD (k*sz+j) undef))/\(∀ u∈us',u.oneCell'=true) /\
   ∀ γ':Gam,γ' 0=some (some (v'.ownBlock,v'))->Rep w' (fun b=>(S b\/w.heap.size<=b)/\v'.ownBlock≠some b) γ' (.tup []) u:=fun h0=>by
  have U:D=[]:=by rw [<-hF,h0];simp [Et]
  subst U;subst h0;have K:∃ p c,v=.slice p 0 c:=by
   rcases B.2 with ⟨K,_⟩|⟨b,c,aq,K,_⟩
   ·exact ⟨none,0,K⟩
   ·exact ⟨_,c,K⟩
  obtain ⟨p,c,K⟩:=K;have r:=ai p c (.func (.func g) #[] #[]) w;rw [<-K] at r;refine r.mono ?_;rintro e w' ⟨rfl,rfl⟩;exact ⟨_,v,us,rfl,World.grownBy.refl _ _,B,fun _=>rfl,fun b W=>Or.inl W,fun k I=>absurd I (by simp),fun k I=>absurd I (by simp),aa,fun γ' _=>.tup #[] rfl (fun i hi=>absurd hi (by simp))⟩
 by_cases U:l=[]
 ·exact empty U
 have bj:0<l.length:=length_pos_iff.2 U;rcases B.2 with ⟨_,h0⟩|⟨blk,c,aq,K,bt,hh,hn,hm,hs,ht⟩
 ·omega
 have Q:blk<w.heap.size:=(Array.getElem?_eq_some_iff.1 hh).1;have ah:v.ownBlock=some blk:=by rw [K];rfl
 have bw:us.length=l.length*sz:=by rw [B.1,G]
 have cd:∀ k j,k<l.length->j<sz->k*sz+j<l.length*sz:=fun k j I C=>by
  have:(k+1)*sz<=l.length*sz:=aC _ I;rw [bH] at this;omega
 -- the elements
 have an:∀ i (hi:i<l.length),((us.drop (i*sz)).take sz).length=sz/\(∀ v∈(us.drop (i*sz)).take sz,v.oneCell'=true)/\Rep w S G0 (encT l[i]) (.agg ((us.drop (i*sz)).take sz).toArray):=fun i hi=>by
  have O:((us.drop (i*sz)).take sz).length=sz:=by
   rw [length_take,length_drop];have:(i+1)*sz<=l.length*sz:=aC _ hi;rw [bH] at this;omega
  have N:∀ v∈(us.drop (i*sz)).take sz,v.oneCell'=true:=fun v K=>aa v (mem_of_mem_drop (mem_of_mem_take K))
  refine ⟨O,N,?_⟩;obtain ⟨cs,t,V⟩:=R l[i];rw [t];have ay:∀ j,j<sz->((us.drop (i*sz)).take sz).toArray.getD j undef=us.getD (i*sz+j) undef:=fun j C=>by
   rw [aB,aP,aK C,getElem?_drop,aA]
  refine .agg _ (by simpa [V] using O) (fun j C=>?_) (fun j C=>?_)
  ·rw [ay j (by omega)];have bo:i<(l.map encT).length:=by rw [G];exact hi
   have e:(l.map encT)[i]=.agg cs:=by rw [bX];exact t
   have:=bg i bo j (by rw [e];exact C);simp only [e,AV.cells] at this;exact this
  ·have F:j<((us.drop (i*sz)).take sz).length:=by simpa using C
   rw [aB,aP,aE F,aD];exact N _ (getElem_mem F)
 let A:=SEl w S sz encT;let enc:A->List Value:=fun p=>p.1.1
 let d:Array A:=(ofFn fun i:Fin l.length=>(⟨((us.drop (i.1*sz)).take sz,l[i.1]),an i.1 i.2⟩:A)).toArray
 haveI:Inhabited A:=⟨⟨((us.drop (0*sz)).take sz,l[0]),an 0 bj⟩⟩
 have J:d.size=l.length:=by simp [d]
 have bs:∀ i (hi:i<l.length),d[i]! = ⟨((us.drop (i*sz)).take sz,l[i]),an i hi⟩:=fun i hi=>by
  rw [getElem!_pos d i (by rw [J];exact hi)];simp [d]
 have I:∀ x:A,(enc x).length=sz:=fun x=>x.2.1
 have ac:CmpLays E.P g #[] enc sz (fun x y:A=>cmp x.1.2 y.1.2) blk 0 d.size w:=fun m os dk cg x y=>by
  have ab:=(hc x.1.2 y.1.2).2 S (sortWorldK enc sz w blk 0 m dk os) #[.agg (enc x).toArray,.agg (enc y).toArray] ⟨rfl,fun i hi=>?_⟩
  ·rw [hP] at ab;refine ab.mono ?_;rintro e w' ⟨u,rfl,⟨W,bq⟩,hu⟩;exact ⟨by rw [hu.int_inv],zj9 W (bq bv)⟩
  ·have key:∀ z:A,Rep (sortWorldK enc sz w blk 0 m dk os) S G0 (encT z.1.2) (.agg (enc z).toArray):=fun z=>by
    refine z.2.2.2.mono ?_ (fun b hS W=>⟨?_,hS⟩)
    ·simp [sortWorldK,grow,putRowK,putRow,mapBlock,Go.Sort.ahead]
    ·have aj:blk≠b:=fun e=>ak blk ah (e▸hS)
     unfold sortWorldK;rw [heap_grow_old _ _ (by simpa [putRowK,Go.Sort.ahead] using W)];simp [putRowK,putRow,mapBlock,Go.Sort.ahead,aJ,aj]
   have ax:i<2:=hi;rcases i with _|_|i
   ·exact key x
   ·exact key y
   ·omega
 have hH:HoldsK enc sz w blk 0 d:=fun j C=>by
  have F:j<l.length*sz:=by rw [size_flatK,J] at C;exact C
  have hq:j / sz<l.length:=aR (by rwa [aG] at F);have hm:=Nat.mod_lt j ae;have e:=zti enc sz I d (j / sz) (j % sz) (by rw [J];exact hq) hm;have ej:j / sz*sz+j % sz=j:=by rw [aG];exact bY j sz
  rw [ej] at e;have ef:(flatK enc sz d)[j]! = us.getD j undef:=by
   rw [getElem!_pos (flatK enc sz d) j C];have h1:(flatK enc sz d).toList.getD j undef=(flatK enc sz d)[j]:=by
    rw [aA,aH,aN C];rfl
   rw [<-h1,e,bs _ hq];show ((us.drop (j / sz*sz)).take sz).getD (j % sz) undef=us.getD j undef;rw [aA,aK hm,getElem?_drop,ej,<-aA]
  rw [ef,Nat.zero_add];refine ⟨Hp B ah j (by rw [G];exact F),?_⟩;simp [World.frozen?,hh]
 have bu:SWO (ltOf fun x y:A=>cmp x.1.2 y.1.2):=⟨fun x=>hO.irrefl _,fun x y z=>hO.trans _ _ _,fun x y z=>hO.ntrans _ _ _⟩;have r:=af A enc I (fun x=>x.2.2.1) (fun x y=>cmp x.1.2 y.1.2) bu blk 0 c d w ac hH Q (by rw [J];omega);have ev:v=.slice (some ⟨blk,0,none⟩) d.size c:=by rw [K,G,J]
 rw [<-ev] at r;refine r.mono ?_;rintro e w' ⟨rfl,a,m,os,⟨au,_,av⟩,bf,ar⟩;have P:a.size=l.length:=au.trans J
 -- what lies there now
 have e1:a.extract 0 d.size=a:=by rw [<-au];exact aU
 rw [e1,aU] at av;have br:d.toList.map (fun p=>p.1.2)=l:=by
  simp only [d,map_ofFn];apply ext_getElem
  ·simp
  ·intro i h1 h2;simp
 have ag:(a.toList.map (fun p=>p.1.2)).Perm l:=by
  have:=av.map (fun p:A=>p.1.2)
  rwa [br] at this
 have M:(a.toList.map (fun p=>p.1.2)).Pairwise (fun x y=>ltOf cmp y x=false):=by
  rw [pairwise_iff_getElem];intro i j hi C bp;have ax:i<a.size:=by simpa using hi
  have F:j<a.size:=by simpa using C
  have:=bf i j (Nat.zero_le _) bp (by rw [J,<-P];exact F);rw [getElem!_pos a i ax,getElem!_pos a j F] at this;simpa [ltOf] using this
 have az:a.toList.map (fun p=>p.1.2)=D:=by rw [<-hF];exact zw3 hO ad ag M
 have aw:∀ k (H:k<D.length),∃ h:k<a.size,D[k]=a[k].1.2:=fun k H=>by
  have h:k<a.size:=by omega
  refine ⟨h,?_⟩;have:D[k]=(a.toList.map (fun p=>p.1.2))[k]'(by simpa using h):=by simp only [az]
  rw [this];simp
 have am:w.grownBy w' v.ownBlock:=by
  rw [ah,ar];refine ⟨rfl,rfl,rfl,by simp [sortWorldK,grow,putRowK,putRow,mapBlock,Go.Sort.ahead],fun k I aj=>?_⟩;unfold sortWorldK;rw [heap_grow_old _ _ (by simpa [putRowK,Go.Sort.ahead] using I)];have:blk≠k:=fun e=>aj (by rw [e])
  simp [putRowK,putRow,mapBlock,Go.Sort.ahead,aJ,this]
 have X:(flatK enc sz a).size=l.length*sz:=by rw [size_flatK,P]
 have bb:l.length*sz<=aq.size:=by
  rw [hs];rw [G] at hn;exact aC _ hn
 have al:w'.heap[blk]? = some (.cells (putCells id 0 (flatK enc sz a) aq) ty (0,0)):=by
  rw [ar];unfold sortWorldK;rw [heap_grow_old _ _ (by simpa [putRowK,Go.Sort.ahead] using Q)];simp [putRowK,putRow,mapBlock,Go.Sort.ahead,aJ,hh,onCells]
 have Y:∀ k j,k<l.length->j<sz->(flatK enc sz a).toList.getD (k*sz+j) undef=(enc a[k]!).getD j undef:=fun k j H C=>zti enc sz I a k j (by rw [P];exact H) C
 refine ⟨_,v,(flatK enc sz a).toList,rfl,am,⟨by rw [aS,X,aQ,o],aO ⟨blk,c,_,?_,bt,al,?_,hm,?_,?_⟩⟩,fun _=>rfl,fun b W=>Or.inl W,fun k H=>?_,fun k H j C=>?_,fun u hu=>?_,fun γ' _=>.tup #[] rfl (fun i hi=>absurd hi (by simp))⟩
 ·rw [aQ,o,K,G]
 ·rw [aQ,o];rw [G] at hn;exact hn
 ·simp [putCells,hs]
 ·rw [aQ,o,<-X];exact y0a _ _ (by rw [X];exact bb)
 ·rw [bX];obtain ⟨cs,t,V⟩:=R (D[k]'(by simpa using H));rw [t];exact V
 ·have bm:k<D.length:=by simpa using H
  obtain ⟨bl,bk⟩:=aw k bm;have e:(D.map encT)[k]=encT a[k].1.2:=by rw [bX,bk]
  simp only [e] at C ⊢;obtain ⟨cs,t,V⟩:=R a[k].1.2;have bn:j<sz:=by rw [t] at C;simp only [AV.cells] at C;omega
  rw [Y k j (by omega) bn,getElem!_pos a k bl];have Z:=a[k].2.2.2;rw [t] at Z;obtain ⟨bz,L,ca,bd,_⟩:=Z.agg_inv;injection L with L
  subst L;have:=bd j (by omega);simp only [t,AV.cells];rw [aB,aP,<-aA] at this;refine this.mono am.size (fun b hS W=>⟨am.block b W (fun e=>ak b e.symm hS),Or.inl hS,fun e=>ak b e hS⟩)
 ·obtain ⟨q,hq,rfl⟩:=mem_iff_getElem.1 hu;have bi:q<l.length*sz:=by rw [aS,X] at hq;exact hq
  have bh:q / sz<l.length:=aR (by rwa [aG] at bi);have hm:=Nat.mod_lt q ae;have:=Y (q / sz) (q % sz) bh hm;have ej:q / sz*sz+q % sz=q:=by rw [aG];exact bY q sz
  rw [ej,aA,aE hq,aD] at this;rw [this];have cc:=I a[q / sz]!;rw [aA,aE (by omega),aD];exact (a[q / sz]!).2.2.1 _ (getElem_mem _)
end Go.Proofs.YtidhlpjgifoneaaGreat
namespace Go.Proofs
open Go.Shelf
open Tryz renaming underlying236->aV,underlying257->aW,underlying258->aX,underlying262->aY,underlying265->aZ,underlying267->bA,underlying280->bB,underlying284->bC,underlying300->bD,underlying242->bE,zeroValue236->bI,zeroValue257->bJ,zeroValue258->bK,zeroValue262->bL,zeroValue265->bM,zeroValue267->bN,zeroValue280->bO,zeroValue284->bP,zeroValue300->bQ,zeroValue242->bR,underlying0->bS,underlying3->bT,underlying4->bU,underlying5->bV,underlying9->bW,zeroValue0->bZ,zeroValue3->cA,zeroValue4->cB,zeroValue5->cC,zeroValue9->cD,sizeOf236->cE,sizeOf257->cF,sizeOf258->cG,sizeOf262->cH,sizeOf265->cI,sizeOf267->cJ,sizeOf280->cK,sizeOf284->cL,sizeOf300->cM,sizeOf242->cN,isAgg236->cO,isAgg257->cP,isAgg258->cQ,isAgg262->cR,isAgg265->cS,isAgg267->cT,isAgg280->cU,isAgg284->cV,isAgg300->cW,isAgg242->cX,sizeOf0->dH,sizeOf3->dI,sizeOf4->dJ,sizeOf5->dK,sizeOf9->dL,isAgg0->dP,isAgg3->dQ,isAgg4->dR,isAgg5->dS,isAgg9->dU
def Tryz.laysSlF06_f161_ren:Go.Shelf.Ren:=⟨fun|6=>161|15=>175|14=>195|28=>206|29=>207|20=>220|21=>221|22=>222|23=>223|24=>224|25=>225|26=>226|27=>227|46=>245|47=>230|48=>231|49=>246|50=>247|57=>264|n=>n,fun|22=>57|24=>60|25=>62|3=>3|39=>236|0=>0|53=>265|55=>267|4=>4|46=>258|45=>257|50=>262|5=>5|9=>9|66=>280|70=>284|76=>300|77=>242|n=>n,fun|n=>n⟩
theorem Tryz.laysSlF06_f161:Go.Proofs.SlLaysF0.n6 Tryz.prog Tryz.laysSlF06_f161_ren:={
 mixed:=by kernel_rfl
 f6:=⟨Tryz.f161.name,by decide,Tryz.func161.trans (congrArg some (by kernel_rfl))⟩
 f14:=⟨Tryz.f195.name,by decide,Tryz.func195.trans (congrArg some (by kernel_rfl))⟩
 f15:=Tryz.func175.trans (congrArg some (by kernel_rfl))
 f20:=⟨Tryz.f220.name,by decide,Tryz.func220.trans (congrArg some (by kernel_rfl))⟩
 f21:=⟨Tryz.f221.name,by decide,Tryz.func221.trans (congrArg some (by kernel_rfl))⟩
 f22:=⟨Tryz.f222.name,by decide,Tryz.func222.trans (congrArg some (by kernel_rfl))⟩
 f23:=⟨Tryz.f223.name,by decide,Tryz.func223.trans (congrArg some (by kernel_rfl))⟩
 f24:=⟨Tryz.f224.name,by decide,Tryz.func224.trans (congrArg some (by kernel_rfl))⟩
 f25:=⟨Tryz.f225.name,by decide,Tryz.func225.trans (congrArg some (by kernel_rfl))⟩
 f26:=⟨Tryz.f226.name,by decide,Tryz.func226.trans (congrArg some (by kernel_rfl))⟩
 f27:=⟨Tryz.f227.name,by decide,Tryz.func227.trans (congrArg some (by kernel_rfl))⟩
 f28:=Tryz.func206.trans (congrArg some (by kernel_rfl))
 f29:=Tryz.func207.trans (congrArg some (by kernel_rfl))
 f46:=⟨Tryz.f245.name,by decide,Tryz.func245.trans (congrArg some (by kernel_rfl))⟩
 f47:=Tryz.func230.trans (congrArg some (by kernel_rfl))
 f48:=Tryz.func231.trans (congrArg some (by kernel_rfl))
 f49:=⟨Tryz.f246.name,by decide,Tryz.func246.trans (congrArg some (by kernel_rfl))⟩
 f50:=⟨Tryz.f247.name,by decide,Tryz.func247.trans (congrArg some (by kernel_rfl))⟩
 f57:=⟨Tryz.f264.name,by decide,Tryz.func264.trans (congrArg some (by kernel_rfl))⟩
 t0:=bS
 a0:=dP
 z0:=dH
 v0:=bZ
 t3:=bT
 a3:=dQ
 z3:=dI
 v3:=cA
 t4:=bU
 a4:=dR
 z4:=dJ
 v4:=cB
 t5:=bV
 a5:=dS
 z5:=dK
 v5:=cC
 t9:=bW
 a9:=dU
 z9:=dL
 v9:=cD
 t22:=Tryz.underlying57
 a22:=Tryz.isAgg57
 z22:=Tryz.sizeOf57
 v22:=Tryz.zeroValue57
 t25:=Tryz.underlying62
 a25:=Tryz.isAgg62
 z25:=Tryz.sizeOf62
 v25:=Tryz.zeroValue62
 t39:=aV
 a39:=cO
 z39:=cE
 v39:=bI
 t45:=aW
 a45:=cP
 z45:=cF
 v45:=bJ
 t46:=aX
 a46:=cQ
 z46:=cG
 v46:=bK
 t50:=aY
 a50:=cR
 z50:=cH
 v50:=bL
 t53:=aZ
 a53:=cS
 z53:=cI
 v53:=bM
 t55:=bA
 a55:=cT
 z55:=cJ
 v55:=bN
 t66:=bB
 a66:=cU
 z66:=cK
 v66:=bO
 t70:=bC
 a70:=cV
 z70:=cL
 v70:=bP
 t76:=bD
 a76:=cW
 z76:=cM
 v76:=bQ
 t77:=bE
 a77:=cX
 z77:=cN
 v77:=bR }
def Tryz.laysSlF06_f128_ren:Go.Shelf.Ren:=⟨fun|6=>128|15=>175|14=>174|28=>206|29=>207|20=>198|21=>199|22=>200|23=>201|24=>202|25=>203|26=>204|27=>205|46=>229|47=>230|48=>231|49=>232|50=>233|57=>251|n=>n,fun|22=>50|24=>44|25=>49|3=>3|39=>236|0=>0|53=>265|55=>267|4=>4|46=>258|45=>257|50=>262|5=>5|9=>9|66=>280|70=>284|76=>300|77=>242|n=>n,fun|n=>n⟩
theorem Tryz.laysSlF06_f128:Go.Proofs.SlLaysF0.n6 Tryz.prog Tryz.laysSlF06_f128_ren:={
 mixed:=by kernel_rfl
 f6:=⟨Tryz.f128.name,by decide,Tryz.func128.trans (congrArg some (by kernel_rfl))⟩
 f14:=⟨Tryz.f174.name,by decide,Tryz.func174.trans (congrArg some (by kernel_rfl))⟩
 f15:=Tryz.func175.trans (congrArg some (by kernel_rfl))
 f20:=⟨Tryz.f198.name,by decide,Tryz.func198.trans (congrArg some (by kernel_rfl))⟩
 f21:=⟨Tryz.f199.name,by decide,Tryz.func199.trans (congrArg some (by kernel_rfl))⟩
 f22:=⟨Tryz.f200.name,by decide,Tryz.func200.trans (congrArg some (by kernel_rfl))⟩
 f23:=⟨Tryz.f201.name,by decide,Tryz.func201.trans (congrArg some (by kernel_rfl))⟩
 f24:=⟨Tryz.f202.name,by decide,Tryz.func202.trans (congrArg some (by kernel_rfl))⟩
 f25:=⟨Tryz.f203.name,by decide,Tryz.func203.trans (congrArg some (by kernel_rfl))⟩
 f26:=⟨Tryz.f204.name,by decide,Tryz.func204.trans (congrArg some (by kernel_rfl))⟩
 f27:=⟨Tryz.f205.name,by decide,Tryz.func205.trans (congrArg some (by kernel_rfl))⟩
 f28:=Tryz.func206.trans (congrArg some (by kernel_rfl))
 f29:=Tryz.func207.trans (congrArg some (by kernel_rfl))
 f46:=⟨Tryz.f229.name,by decide,Tryz.func229.trans (congrArg some (by kernel_rfl))⟩
 f47:=Tryz.func230.trans (congrArg some (by kernel_rfl))
 f48:=Tryz.func231.trans (congrArg some (by kernel_rfl))
 f49:=⟨Tryz.f232.name,by decide,Tryz.func232.trans (congrArg some (by kernel_rfl))⟩
 f50:=⟨Tryz.f233.name,by decide,Tryz.func233.trans (congrArg some (by kernel_rfl))⟩
 f57:=⟨Tryz.f251.name,by decide,Tryz.func251.trans (congrArg some (by kernel_rfl))⟩
 t0:=bS
 a0:=dP
 z0:=dH
 v0:=bZ
 t3:=bT
 a3:=dQ
 z3:=dI
 v3:=cA
 t4:=bU
 a4:=dR
 z4:=dJ
 v4:=cB
 t5:=bV
 a5:=dS
 z5:=dK
 v5:=cC
 t9:=bW
 a9:=dU
 z9:=dL
 v9:=cD
 t22:=Tryz.underlying50
 a22:=Tryz.isAgg50
 z22:=Tryz.sizeOf50
 v22:=Tryz.zeroValue50
 t25:=Tryz.underlying49
 a25:=Tryz.isAgg49
 z25:=Tryz.sizeOf49
 v25:=Tryz.zeroValue49
 t39:=aV
 a39:=cO
 z39:=cE
 v39:=bI
 t45:=aW
 a45:=cP
 z45:=cF
 v45:=bJ
 t46:=aX
 a46:=cQ
 z46:=cG
 v46:=bK
 t50:=aY
 a50:=cR
 z50:=cH
 v50:=bL
 t53:=aZ
 a53:=cS
 z53:=cI
 v53:=bM
 t55:=bA
 a55:=cT
 z55:=cJ
 v55:=bN
 t66:=bB
 a66:=cU
 z66:=cK
 v66:=bO
 t70:=bC
 a70:=cV
 z70:=cL
 v70:=bP
 t76:=bD
 a76:=cW
 z76:=cM
 v76:=bQ
 t77:=bE
 a77:=cX
 z77:=cN
 v77:=bR }
end Go.Proofs
