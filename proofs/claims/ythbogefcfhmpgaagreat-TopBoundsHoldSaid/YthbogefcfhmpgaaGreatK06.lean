/- What some functions compute, over plain values. -/
import Derived.Test.YthbogefcfhmpgaaGreatK05
import Derived.Shelf.SlSortCmp.NoneTotal
import Derived.Sort.OwnSorted
set_option linter.unusedVariables false
set_option linter.unusedSimpArgs false
set_option maxRecDepth 100000
set_option maxHeartbeats 8000000
namespace Go.Proofs
open Go.Shelf
open Tryz renaming underlying281->bV,underlying308->bW,underlying309->bX,underlying108->bY,underlying315->bZ,underlying317->cA,underlying344->cB,underlying348->cC,underlying364->cD,zeroValue281->cG,zeroValue308->cH,zeroValue309->cI,zeroValue108->cJ,zeroValue315->cK,zeroValue317->cL,zeroValue344->cM,zeroValue348->cN,zeroValue364->cO,underlying76->cP,underlying0->cS,underlying3->cT,underlying4->cU,underlying5->cV,underlying9->cW,zeroValue76->cX,zeroValue0->dC,zeroValue3->dD,zeroValue4->dE,zeroValue5->dF,zeroValue9->dG,sizeOf281->dH,sizeOf308->dI,sizeOf309->dJ,sizeOf108->dK,sizeOf315->dL,sizeOf317->dM,sizeOf344->dN,sizeOf348->dO,sizeOf364->dP,isAgg281->dQ,isAgg308->dR,isAgg309->dS,isAgg108->dU,isAgg315->dV,isAgg317->dW,isAgg344->dX,isAgg348->dY,isAgg364->dZ,sizeOf76->eA,sizeOf0->eK,sizeOf3->eL,sizeOf4->eN,sizeOf5->eO,sizeOf9->eP,isAgg76->eQ,isAgg0->eU,isAgg3->eV,isAgg4->eW,isAgg5->eX,isAgg9->eY
def Tryz.laysSlF06_f200_ren:Go.Shelf.Ren:=⟨fun|6=>200|15=>206|14=>251|28=>260|29=>261|20=>292|21=>293|22=>294|23=>295|24=>296|25=>297|26=>298|27=>299|46=>318|47=>301|48=>302|49=>319|50=>320|57=>335|n=>n,fun|22=>49|24=>90|25=>95|3=>3|39=>281|0=>0|53=>315|55=>317|4=>4|46=>309|45=>308|50=>108|5=>5|9=>9|66=>344|70=>348|76=>364|77=>76|n=>n,fun|n=>n⟩
theorem Tryz.laysSlF06_f200:Go.Proofs.SlLaysF0.n6 Tryz.prog Tryz.laysSlF06_f200_ren:={
 mixed:=by kernel_rfl
 f6:=⟨Tryz.f200.name,by decide,Tryz.func200.trans (congrArg some (by kernel_rfl))⟩
 f14:=⟨Tryz.f251.name,by decide,Tryz.func251.trans (congrArg some (by kernel_rfl))⟩
 f15:=Tryz.func206.trans (congrArg some (by kernel_rfl))
 f20:=⟨Tryz.f292.name,by decide,Tryz.func292.trans (congrArg some (by kernel_rfl))⟩
 f21:=⟨Tryz.f293.name,by decide,Tryz.func293.trans (congrArg some (by kernel_rfl))⟩
 f22:=⟨Tryz.f294.name,by decide,Tryz.func294.trans (congrArg some (by kernel_rfl))⟩
 f23:=⟨Tryz.f295.name,by decide,Tryz.func295.trans (congrArg some (by kernel_rfl))⟩
 f24:=⟨Tryz.f296.name,by decide,Tryz.func296.trans (congrArg some (by kernel_rfl))⟩
 f25:=⟨Tryz.f297.name,by decide,Tryz.func297.trans (congrArg some (by kernel_rfl))⟩
 f26:=⟨Tryz.f298.name,by decide,Tryz.func298.trans (congrArg some (by kernel_rfl))⟩
 f27:=⟨Tryz.f299.name,by decide,Tryz.func299.trans (congrArg some (by kernel_rfl))⟩
 f28:=Tryz.func260.trans (congrArg some (by kernel_rfl))
 f29:=Tryz.func261.trans (congrArg some (by kernel_rfl))
 f46:=⟨Tryz.f318.name,by decide,Tryz.func318.trans (congrArg some (by kernel_rfl))⟩
 f47:=Tryz.func301.trans (congrArg some (by kernel_rfl))
 f48:=Tryz.func302.trans (congrArg some (by kernel_rfl))
 f49:=⟨Tryz.f319.name,by decide,Tryz.func319.trans (congrArg some (by kernel_rfl))⟩
 f50:=⟨Tryz.f320.name,by decide,Tryz.func320.trans (congrArg some (by kernel_rfl))⟩
 f57:=⟨Tryz.f335.name,by decide,Tryz.func335.trans (congrArg some (by kernel_rfl))⟩
 t0:=cS
 a0:=eU
 z0:=eK
 v0:=dC
 t3:=cT
 a3:=eV
 z3:=eL
 v3:=dD
 t4:=cU
 a4:=eW
 z4:=eN
 v4:=dE
 t5:=cV
 a5:=eX
 z5:=eO
 v5:=dF
 t9:=cW
 a9:=eY
 z9:=eP
 v9:=dG
 t22:=Tryz.underlying49
 a22:=Tryz.isAgg49
 z22:=Tryz.sizeOf49
 v22:=Tryz.zeroValue49
 t25:=Tryz.underlying95
 a25:=Tryz.isAgg95
 z25:=Tryz.sizeOf95
 v25:=Tryz.zeroValue95
 t39:=bV
 a39:=dQ
 z39:=dH
 v39:=cG
 t45:=bW
 a45:=dR
 z45:=dI
 v45:=cH
 t46:=bX
 a46:=dS
 z46:=dJ
 v46:=cI
 t50:=bY
 a50:=dU
 z50:=dK
 v50:=cJ
 t53:=bZ
 a53:=dV
 z53:=dL
 v53:=cK
 t55:=cA
 a55:=dW
 z55:=dM
 v55:=cL
 t66:=cB
 a66:=dX
 z66:=dN
 v66:=cM
 t70:=cC
 a70:=dY
 z70:=dO
 v70:=cN
 t76:=cD
 a76:=dZ
 z76:=dP
 v76:=cO
 t77:=cP
 a77:=eQ
 z77:=eA
 v77:=cX }
def Tryz.laysSlF06_f126_ren:Go.Shelf.Ren:=⟨fun|6=>126|15=>206|14=>205|28=>260|29=>261|20=>252|21=>253|22=>254|23=>255|24=>256|25=>257|26=>258|27=>259|46=>300|47=>301|48=>302|49=>303|50=>304|57=>321|n=>n,fun|22=>50|24=>64|25=>68|3=>3|39=>281|0=>0|53=>315|55=>317|4=>4|46=>309|45=>308|50=>108|5=>5|9=>9|66=>344|70=>348|76=>364|77=>76|n=>n,fun|n=>n⟩
theorem Tryz.laysSlF06_f126:Go.Proofs.SlLaysF0.n6 Tryz.prog Tryz.laysSlF06_f126_ren:={
 mixed:=by kernel_rfl
 f6:=⟨Tryz.f126.name,by decide,Tryz.func126.trans (congrArg some (by kernel_rfl))⟩
 f14:=⟨Tryz.f205.name,by decide,Tryz.func205.trans (congrArg some (by kernel_rfl))⟩
 f15:=Tryz.func206.trans (congrArg some (by kernel_rfl))
 f20:=⟨Tryz.f252.name,by decide,Tryz.func252.trans (congrArg some (by kernel_rfl))⟩
 f21:=⟨Tryz.f253.name,by decide,Tryz.func253.trans (congrArg some (by kernel_rfl))⟩
 f22:=⟨Tryz.f254.name,by decide,Tryz.func254.trans (congrArg some (by kernel_rfl))⟩
 f23:=⟨Tryz.f255.name,by decide,Tryz.func255.trans (congrArg some (by kernel_rfl))⟩
 f24:=⟨Tryz.f256.name,by decide,Tryz.func256.trans (congrArg some (by kernel_rfl))⟩
 f25:=⟨Tryz.f257.name,by decide,Tryz.func257.trans (congrArg some (by kernel_rfl))⟩
 f26:=⟨Tryz.f258.name,by decide,Tryz.func258.trans (congrArg some (by kernel_rfl))⟩
 f27:=⟨Tryz.f259.name,by decide,Tryz.func259.trans (congrArg some (by kernel_rfl))⟩
 f28:=Tryz.func260.trans (congrArg some (by kernel_rfl))
 f29:=Tryz.func261.trans (congrArg some (by kernel_rfl))
 f46:=⟨Tryz.f300.name,by decide,Tryz.func300.trans (congrArg some (by kernel_rfl))⟩
 f47:=Tryz.func301.trans (congrArg some (by kernel_rfl))
 f48:=Tryz.func302.trans (congrArg some (by kernel_rfl))
 f49:=⟨Tryz.f303.name,by decide,Tryz.func303.trans (congrArg some (by kernel_rfl))⟩
 f50:=⟨Tryz.f304.name,by decide,Tryz.func304.trans (congrArg some (by kernel_rfl))⟩
 f57:=⟨Tryz.f321.name,by decide,Tryz.func321.trans (congrArg some (by kernel_rfl))⟩
 t0:=cS
 a0:=eU
 z0:=eK
 v0:=dC
 t3:=cT
 a3:=eV
 z3:=eL
 v3:=dD
 t4:=cU
 a4:=eW
 z4:=eN
 v4:=dE
 t5:=cV
 a5:=eX
 z5:=eO
 v5:=dF
 t9:=cW
 a9:=eY
 z9:=eP
 v9:=dG
 t22:=Tryz.underlying50
 a22:=Tryz.isAgg50
 z22:=Tryz.sizeOf50
 v22:=Tryz.zeroValue50
 t25:=Tryz.underlying68
 a25:=Tryz.isAgg68
 z25:=Tryz.sizeOf68
 v25:=Tryz.zeroValue68
 t39:=bV
 a39:=dQ
 z39:=dH
 v39:=cG
 t45:=bW
 a45:=dR
 z45:=dI
 v45:=cH
 t46:=bX
 a46:=dS
 z46:=dJ
 v46:=cI
 t50:=bY
 a50:=dU
 z50:=dK
 v50:=cJ
 t53:=bZ
 a53:=dV
 z53:=dL
 v53:=cK
 t55:=cA
 a55:=dW
 z55:=dM
 v55:=cL
 t66:=cB
 a66:=dX
 z66:=dN
 v66:=cM
 t70:=cC
 a70:=dY
 z70:=dO
 v70:=cN
 t76:=cD
 a76:=dZ
 z76:=dP
 v76:=cO
 t77:=cP
 a77:=eQ
 z77:=eA
 v77:=cX }
end Go.Proofs
namespace Go.Proofs.YthbogefcfhmpgaaGreat
open Go.RowKit List
open List renaming getD_eq_getElem?_getD->aA,drop_eq_nil_of_le->aB,length_map->aC,getElem?_eq_getElem->aD,getElem_map->aH,getElem_append_right->aO,getElem_cons_zero->aT,getElem_mem->aX,getElem?_take_of_lt->aY,map_cons->bB,length_take->bD,getElem?_toArray->bF,length_cons->bO,range->bP,drop->bQ,getElem_append_left->bR,pairwise_cons->bS,getElem?_drop->bT,length_nil->cE,getElem_cons_succ->cQ,getElem_replicate->cR,getElem?_eq_none->cY,drop_zero->cZ,getElem_eraseIdx->dA,map_nil->eR,mem_map->eS
open _root_.Array renaming getElem?_setIfInBounds->aE,getD_eq_getD_getElem?->aF,getElem?_eq_some_iff->aJ,length_toList->aQ,getElem?_toList->aU,getElem?_modify->aV,getElem?_eq_getElem->bC,getElem?_eq_none->bH,extract_size->bU
open IntKind renaming wrap->aG
open Nat renaming mul_le_mul_right->aK,succ_mul->aP,mul_comm->aS,add_zero->bI,div_lt_of_lt_mul->bM,le_refl->bN,div_add_mod->dB
open Option.some renaming injEq->aL
open Option renaming getD_some->aM,map_some->bK
open Or renaming inr->aN,inl->bJ
open Con renaming walk->aR
open Int renaming natCast_zero->aW
open AW renaming step->aZ
open RetX renaming oB->bA
open AV renaming cells->bE
open Tryz renaming func125->bG,func64->bL,underlying281->bV,underlying308->bW,underlying309->bX,underlying108->bY,underlying315->bZ,underlying317->cA,underlying344->cB,underlying348->cC,underlying364->cD,zeroValue281->cG,zeroValue308->cH,zeroValue309->cI,zeroValue108->cJ,zeroValue315->cK,zeroValue317->cL,zeroValue344->cM,zeroValue348->cN,zeroValue364->cO,underlying76->cP,underlying0->cS,underlying3->cT,underlying4->cU,underlying5->cV,underlying9->cW,zeroValue76->cX,zeroValue0->dC,zeroValue3->dD,zeroValue4->dE,zeroValue5->dF,zeroValue9->dG,sizeOf281->dH,sizeOf308->dI,sizeOf309->dJ,sizeOf108->dK,sizeOf315->dL,sizeOf317->dM,sizeOf344->dN,sizeOf348->dO,sizeOf364->dP,isAgg281->dQ,isAgg308->dR,isAgg309->dS,isAgg108->dU,isAgg315->dV,isAgg317->dW,isAgg344->dX,isAgg348->dY,isAgg364->dZ,sizeOf76->eA,func207->eC,func133->eD,func131->eE,func132->eF,func130->eG,func129->eH,func204->eI,func203->eJ,sizeOf0->eK,sizeOf3->eL,sizeOf4->eN,sizeOf5->eO,sizeOf9->eP,isAgg76->eQ,isAgg0->eU,isAgg3->eV,isAgg4->eW,isAgg5->eX,isAgg9->eY
open Ab renaming o->cF
noncomputable section
abbrev zq5 {n a b}:=li (Tn n a b) (λc=>⟨[(3,aI 0),(6,.sl 1 (a.map aI)),(7,aI (((a.map aI).length:Int))),(8,aI c)],[]⟩) λ_ _=>Tn.eq_2 ..
abbrev z71 {n d a b}:=li (Q4 n d a b) (λc=>⟨[(0,.sl 4 (a.map B0)),(1,.sl 4 (d.map B0)),(2,.fn 130 []),(11,.sl 4 (a.map B0)),(12,aI (((a.map B0).length:Int))),(13,aI c)],[]⟩) λ_ _=>Q4.eq_2 ..
abbrev z3u {n d a b}:=li (P9 n d a b) (λc=>⟨[(0,.sl 2 (a.map Ai)),(1,.sl 2 (d.map Ai)),(2,.fn 204 []),(11,.sl 2 (a.map Ai)),(12,aI (((a.map Ai).length:Int))),(13,aI c)],[]⟩) λ_ _=>P9.eq_2 ..
attribute [instance] zq5 z71 z3u
def zga (r:Bool):AV:=.bool (r)
theorem zko {n b r}(a:Xr n b=some r):Con E0d true 207 [aI b] (zga r):=by
 unfold Xr at a;refine aR _ eC rfl (Ax eC rfl rfl) rfl (aN rfl) ?_;repeat' first
  |refine aZ ?_;conv=>whnf
  |exact bA a
def Xi (r:Int):AV:=aI (r)
theorem z2d {n j d r}(b:Fi n j d=some r):Con E0d true 133 [aI j,aI d] (Xi r):=by
 unfold Fi at b;refine aR _ eD rfl (Ax eD rfl rfl) rfl (aN rfl) ?_;repeat' first
  |refine aZ ?_;conv=>whnf
  |refine A3.o b (λb=>?_) λb=>?_
  |refine cF b zga (λa h=>zko h) (λa b=>?_)
  |exact bA b
def Y9 (r:Int):AV:=aI (r)
theorem z68 {n b r}(a:Gn n b=some r):Con E0d true 131 [.sl 1 (b.map aI)] (Y9 r):=by
 unfold Gn at a;refine aR _ eE rfl (Ax eE rfl rfl) rfl (aN rfl) ?_;repeat' first
  |refine aZ ?_;conv=>whnf
  |refine A3.o a (λa=>?_) λa=>?_
  |refine IdxX.A a λx a=>?_
  |exact⟨_,a,LeX.a []⟩
  |refine Au.I a (LeX.a []) λm v a=>?_
  |exact bA a
def zej (r:Int):AV:=aI (r)
theorem zi0 {n j d r}(b:Xp n j d=some r):Con E0d true 132 [Bj j,Bj d] (zej r):=by
 unfold Xp at b;refine aR _ eF rfl (Ax eF rfl rfl) rfl (aN rfl) ?_;repeat' first
  |refine aZ ?_;conv=>whnf
  |refine cF b Xi (λa h=>z2d h) (λa b=>?_)
  |refine cF b Y9 (λa h=>z68 h) (λa b=>?_)
  |refine AndA ?_
  |exact bA b
def z4s (r:Int):AV:=aI (r)
theorem zcn {n j d r}(b:Wp n j d=some r):Con E0d true 130 [B0 j,B0 d] (z4s r):=by
 unfold Wp at b;refine aR _ eG rfl (Ax eG rfl rfl) rfl (aN rfl) ?_;repeat' first
  |refine aZ ?_;conv=>whnf
  |refine cF b zej (λa h=>zi0 h) (λa b=>?_)
  |refine cF b Xi (λa h=>z2d h) (λa b=>?_)
  |refine cF b Y9 (λa h=>z68 h) (λa b=>?_)
  |refine AndA ?_
  |exact bA b
def z31 (r:Int):AV:=aI (r)
theorem z93 {n j d r}(b:Vr n j d=some r):Con E0d true 129 [.sl 4 (j.map B0),.sl 4 (d.map B0),.fn 130 []] (z31 r):=by
 unfold Vr at b;refine aR _ eH rfl (Ax eH rfl rfl) rfl (aN rfl) ?_;repeat' first
  |refine aZ ?_;conv=>whnf
  |refine A3.o b (λb=>?_) λb=>?_
  |refine IdxX.A b λx b=>?_
  |refine cF b z4s (λa h=>zcn h) (λa b=>?_)
  |exact⟨_,b,LeX.a []⟩
  |refine Au.I b (LeX.a []) λm v b=>?_
  |exact bA b
def z96 (r:Int):AV:=aI (r)
theorem z4o {n j d r}(b:Xb n j d=some r):Con E0d true 64 [B1 j,B1 d] (z96 r):=by
 unfold Xb at b;refine aR _ bL rfl (Ax bL rfl rfl) rfl (aN rfl) ?_;repeat' first
  |refine aZ ?_;conv=>whnf
  |refine cF b z31 (λa h=>z93 h) (λa b=>?_)
  |exact bA b
def z95 (r:Int):AV:=aI (r)
theorem zf0 {n j d r}(b:Xa n j d=some r):Con E0d true 204 [Ai j,Ai d] (z95 r):=by
 unfold Xa at b;refine aR _ eI rfl (Ax eI rfl rfl) rfl (aN rfl) ?_;repeat' first
  |refine aZ ?_;conv=>whnf
  |refine cF b Xi (λa h=>z2d h) (λa b=>?_)
  |refine cF b Y9 (λa h=>z68 h) (λa b=>?_)
  |refine AndA ?_
  |exact bA b
def z2n (r:Int):AV:=aI (r)
theorem z4l {n j d r}(b:V2 n j d=some r):Con E0d true 203 [.sl 2 (j.map Ai),.sl 2 (d.map Ai),.fn 204 []] (z2n r):=by
 unfold V2 at b;refine aR _ eJ rfl (Ax eJ rfl rfl) rfl (aN rfl) ?_;repeat' first
  |refine aZ ?_;conv=>whnf
  |refine A3.o b (λb=>?_) λb=>?_
  |refine IdxX.A b λx b=>?_
  |refine cF b z95 (λa h=>zf0 h) (λa b=>?_)
  |exact⟨_,b,LeX.a []⟩
  |refine Au.I b (LeX.a []) λm v b=>?_
  |exact bA b
def zkz (r:Int):AV:=aI (r)
theorem zgv {n j d r}(b:z2z n j d=some r):Con E0d true 125 [A7 j,A7 d] (zkz r):=by
 unfold z2z at b;refine aR _ bG rfl (Ax bG rfl rfl) rfl (aN rfl) ?_;repeat' first
  |refine aZ ?_;conv=>whnf
  |refine cF b Xi (λa h=>z2d h) (λa b=>?_)
  |refine cF b z96 (λa h=>z4o h) (λa b=>?_)
  |refine cF b z2n (λa h=>z4l h) (λa b=>?_)
  |refine cF b Y9 (λa h=>z68 h) (λa b=>?_)
  |refine AndA ?_
  |exact bA b
end
open Go.Sort (SWO PermIn SortedIn HoldsK flatK putRowK putRow putCells grow mapBlock onCells size_flatK get_flatK heap_grow_old)
section
variable {T:Type}
def insF (cmp:T->T->Int)(x:T):List T->List T
 |[]=>[x]
 |y::l=>match ltOf cmp y x with
  |true=>y::insF cmp x l
  |false=>x::y::l
def F5 (cmp:T->T->Int):List T->List T |[]=>[] |x::l=>insF cmp x (F5 cmp l)
def Uk [DecidableEq T](cmp:T->T->Int)(n:Nat)(l:List T):Option (List T) :=
 if l.length<=1000000000/\∀x∈l,∀y∈l,ltOf cmp x y=false->ltOf cmp y x=false->x=y then some (F5 cmp l)else none
theorem zk3 (cmp:T->T->Int)(x:T):∀l:List T,(insF cmp x l).Perm (x::l)
 |[]=>.refl _
 |y::l=>by
  unfold insF;cases ltOf cmp y x with
  |true=>exact((zk3 cmp x l).cons y).trans (.swap x y l)
  |false=>exact .refl _
theorem O9 (cmp:T->T->Int):∀l:List T,(F5 cmp l).Perm l
 |[]=>.refl _
 |x::l=>(zk3 cmp x _).trans ((O9 cmp l).cons x)
variable {cmp:T->T->Int}
theorem zk2 (b:SWO (ltOf cmp))(x:T):∀l:List T,l.Pairwise (λx y=>ltOf cmp y x=false)->(insF cmp x l).Pairwise (λx y=>ltOf cmp y x=false)
 |[],_=>by simp[insF]
 |y::l,h=>by
  obtain⟨h1,k⟩:=bS.1 h;unfold insF;cases d:ltOf cmp y x with
  |true =>
   refine bS.2 ⟨λz a=>?_,zk2 b x l k⟩;rcases mem_cons.1 ((zk3 cmp x l).mem_iff.1 a)with a|a
   ·subst a;cases j:ltOf cmp z y with
    |false=>rfl
    |true=>have:=b.trans _ _ _ d j;rw[b.irrefl]at this;cases this
   ·exact h1 z a
  |false =>
   refine bS.2 ⟨λz a=>?_,h⟩;rcases mem_cons.1 a with a|a
   ·subst a;exact d
   ·exact b.ntrans _ _ _ (h1 z a) d
theorem zc8 (a:SWO (ltOf cmp)):∀l:List T,(F5 cmp l).Pairwise (λx y=>ltOf cmp y x=false)
 |[]=>.nil
 |x::l=>zk2 a x _ (zc8 a l)
theorem y1h (p:SWO (ltOf cmp)){l l':List T}(h:∀x∈l,∀y∈l,ltOf cmp x y=false->ltOf cmp y x=false->x=y)(d:l'.Perm l)(hs:l'.Pairwise (λx y=>ltOf cmp y x=false)):l'=F5 cmp l :=
 Perm.eq_of_pairwise (le:=λx y=>ltOf cmp y x=false) (λa b k j h1 q=>h a (d.mem_iff.1 k) b ((O9 cmp l).mem_iff.1 j) q h1) hs (zc8 p l) (d.trans (O9 cmp l).symm)
end
variable {w:World}
theorem zow {w':World}(h:Below w.heap.size w w')(j:w.drawn<=w'.drawn):∃q l,w'=grow (w.drewN q) l:=by
 refine⟨w'.drawn-w.drawn,w'.heap.extract w.heap.size w'.heap.size,?_⟩;obtain⟨a,tape',drawn',b,output'⟩:=w';have u:b=w.os:=h.os;have t:tape'=w.tape:=h.tape;have s:output'=w.output:=h.output;have hs:w.heap.size<=a.size:=h.size;have r:∀k,k<w.heap.size->a[k]? = w.heap[k]? := h.block;have j:w.drawn<=drawn':=j;subst u t s;have eh:a=w.heap++a.extract w.heap.size a.size:=by
  apply Array.ext_getElem?;intro k;by_cases d:k<w.heap.size
  ·rw[Array.getElem?_append_left d];exact r k d
  ·rw[Array.getElem?_append_right Ω,Array.getElem?_extract];by_cases p:k<a.size
   ·rw[if_pos Ω];congr 1;omega
   ·rw[if_neg Ω,bH Ω]
 have ed:drawn'=w.drawn+(drawn' - w.drawn):=Ω
 simp only[grow,World.drewN];congr 1
theorem y51 (F a:Array Value)(h:F.size<=a.size):(putCells id 0 F a).toList.take F.size=F.toList:=by
 apply ext_getElem?;intro j;by_cases b:j<F.size
 ·rw[aY b,aU];simp[putCells,b,show j<a.size by omega]
 ·rw[getElem?_take_eq_none Ω,cY Ψ]
abbrev SEl (w:World)(S:Nat->Prop)(sz:Nat){T:Type}(encT:T->AV):Type:={ p:List Value×T // p.1.length=sz/\(∀v∈p.1,v.oneCell'=true)/\Rep w S G0 (encT p.2) (.agg p.1.toArray) }
theorem zz5 {α:Type}[Inhabited α](enc:α->List Value)(sz:Nat)(q:∀x,(enc x).length=sz)(d:Array α)(k j:Nat)(b:k<d.size)(h:j<sz):(flatK enc sz d).toList.getD (k*sz+j) undef=(enc d[k]!).getD j undef:=by
 have a:k*sz+j<d.size*sz:=by
  have:(k+1)*sz<=d.size*sz:=aK _ b;rw[aP]at this;omega
 have h1:=get_flatK enc sz d (k*sz+j) a;have s:(k*sz+j) / sz=k:=by rw[aS,Nat.mul_add_div Ω,Nat.div_eq_of_lt h,bI]
 have r:(k*sz+j) % sz=j:=by rw[aS,Nat.mul_add_mod,Nat.mod_eq_of_lt h]
 rw[s,r]at h1;have p:k*sz+j<(flatK enc sz d).size:=by rw[size_flatK];exact a
 rw[aA,aU,bC p,aM,<-getElem!_pos (flatK enc sz d) _ p,h1];have l:j<(enc d[k]!).length:=by rw[q];exact h
 rw[getElem!_pos (enc d[k]!) j l,aA,aD l,aM]
variable {E:Env}{ty sz n:Nat}
theorem zxo {Ed:Env}{f g:Nat}{T:Type}[DecidableEq T]{encT:T->AV}{cmp:T->T->Int}{l l':List T}(hP:Ed.P=E.P)(ca:Ed.dr=true)(he:Cd E f)(cj:Cd E g)(ai:0<sz)
  (Y:∀x,∃cs,encT x=.agg cs/\cs.length=sz)
  (aj:∀(α:Type) [Inhabited α] (enc:α->List Value) (J:∀x,(enc x).length=sz) (h1:∀x,∀v∈enc x,v.oneCell'=true) (cf:α->α->Int) (hO:SWO (ltOf cf)) (blk off r:Nat) (d:Array α) (w:World)
    (ag:CmpLays E.P g #[] enc sz cf blk off d.size w) (hH:HoldsK enc sz w blk off d) (W:blk<w.heap.size) (ai:d.size<4611686018427387904),
    Calls E.P f #[.slice (some ⟨blk,off,none⟩) d.size r,.func (.func g) #[] #[]] w λe w'=>e=.returned (.tuple #[])/\∃a n os,PermIn 0 d.size d a/\SortedIn (ltOf cf) 0 d.size a/\w'=sortWorldK enc sz w blk off n a os)
  (am:∀(p:Option Addr) (r:Nat) (fv:Value) (w:World),Calls E.P f #[.slice p 0 r,fv] w λe w'=>e=.returned (.tuple #[])/\w'=w)
  (hc:∀x y,Con Ed true g [encT x,encT y] (.int .i64 (cmp x y))) (hO:SWO (ltOf cmp)) (hF:Uk cmp n l=some l') :
  ConC true E f [.row 0,.fn g []] ty sz (l.map encT) ty sz (l'.map encT) (.tup []):=by
 unfold Uk at hF;split at hF;rotate_left
 ·cases hF
 rename_i au;obtain⟨cg,ah⟩:=au;injection hF with hF
 refine⟨he,rfl,λS w0 w vs v us cl D cc bk ae ao bh av=>?_⟩
 -- the arguments
 have ha:=av (λi=>if i=0 then some (some (v.ownBlock,v))else none) rfl;have h0:=(ha 0 Δ).row_inv (g:=v.ownBlock) (s:=v) rfl (Gp (D5 D));obtain⟨cs,h1,C,_⟩:=(ha 1 Δ).fn_inv;have bf:cs=#[]:=Array.eq_empty_of_size_eq_zero C;subst bf;have evs:vs=#[v,.func (.func g) #[] #[]]:=by
  have:=yda bh;rw[h0,h1]at this;exact this
 rw[evs];clear ha h0 h1 evs;have H:(l.map encT).length=l.length:=aC _;have t:l'.length=l.length:=by rw[<-hF];exact(O9 cmp l).length_eq
 -- no element
 have empty:l=[]->Calls E.P f #[v,.func (.func g) #[] #[]] w λe w'=>∃u v' us',e=.returned u/\w.grownBy w' v.ownBlock/\w'.ownsRow w0.heap.size ty sz v' (l'.map encT).length us'/\(true=true->v'=v)/\(∀b,v'.ownBlock=some b->v.ownBlock=some b\/w.heap.size<=b)/\(∀k (J:k<(l'.map encT).length),((l'.map encT)[k]).cells.length=sz) /\
   (∀k (J:k<(l'.map encT).length) j (F:j<((l'.map encT)[k]).cells.length),Rep w' (λb=>(S b\/w.heap.size<=b)/\v'.ownBlock≠some b) G0 (((l'.map encT)[k]).cells[j]) (us'.getD (k*sz+j) undef))/\(∀u∈us',u.oneCell'=true) /\
   ∀γ':Gam,γ' 0=some (some (v'.ownBlock,v'))->Rep w' (λb=>(S b\/w.heap.size<=b)/\v'.ownBlock≠some b) γ' (.tup []) u:=λh0=>by
  have Z:l'=[]:=by rw[<-hF,h0];simp[F5]
  subst Z;subst h0;have M:∃p r,v=.slice p 0 r:=by
   rcases D.2 with⟨M,_⟩|⟨b,r,aw,M,_⟩
   ·exact⟨none,0,M⟩
   ·exact⟨_,r,M⟩
  obtain⟨p,r,M⟩:=M;have B:=am p r (.func (.func g) #[] #[]) w;rw[<-M]at B;refine B.mono ?_;rintro e w' ⟨rfl,rfl⟩;exact⟨_,v,us,rfl,World.grownBy.refl _ _,D,λ_=>rfl,λb hb=>bJ hb,λk J=>absurd J Δ,λk J=>absurd J Δ,ae,λγ' _=>.tup #[] rfl (λi hi=>absurd hi Δ)⟩
 by_cases Z:l=[]
 ·exact empty Z
 have bn:0<l.length:=length_pos_iff.2 Z;rcases D.2 with⟨_,h0⟩|⟨blk,r,aw,M,bx,hh,hn,hm,hs,ht⟩
 ·omega
 have W:blk<w.heap.size:=(aJ.1 hh).1;have al:v.ownBlock=some blk:=by rw[M];rfl
 have cb:us.length=l.length*sz:=by rw[D.1,H]
 have ci:∀k j,k<l.length->j<sz->k*sz+j<l.length*sz:=λk j J F=>by
  have:(k+1)*sz<=l.length*sz:=aK _ J;rw[aP]at this;omega
 -- the elements
 have ar:∀i (hi:i<l.length),((us.drop (i*sz)).take sz).length=sz/\(∀v∈(us.drop (i*sz)).take sz,v.oneCell'=true)/\Rep w S G0 (encT l[i]) (.agg ((us.drop (i*sz)).take sz).toArray):=λi hi=>by
  have U:((us.drop (i*sz)).take sz).length=sz:=by
   rw[bD,length_drop];have:(i+1)*sz<=l.length*sz:=aK _ hi;rw[aP]at this;omega
  have Q:∀v∈(us.drop (i*sz)).take sz,v.oneCell'=true:=λv M=>ae v (mem_of_mem_drop (mem_of_mem_take M))
  refine⟨U,Q,?_⟩;obtain⟨cs,C,aa⟩:=Y l[i];rw[C];have bc:∀j,j<sz->((us.drop (i*sz)).take sz).toArray.getD j undef=us.getD (i*sz+j) undef:=λj F=>by
   rw[aF,bF,aY F,bT,aA]
  refine .agg _ (by simpa[aa]using U) (λj F=>?_) (λj F=>?_)
  ·rw[bc j Ω];have bs:i<(l.map encT).length:=by rw[H];exact hi
   have e:(l.map encT)[i]=.agg cs:=by rw[aH];exact C
   have:=bk i bs j (by rw[e];exact F);simp only[e,bE]at this;exact this
  ·have G:j<((us.drop (i*sz)).take sz).length:=by simpa using F
   rw[aF,bF,aD G,aM];exact Q _ (aX G)
 let A:=SEl w S sz encT;let enc:A->List Value:=λp=>p.1.1
 let d:Array A:=(ofFn λi:Fin l.length=>(⟨((us.drop (i.1*sz)).take sz,l[i.1]),ar i.1 i.2⟩:A)).toArray
 haveI:Inhabited A:=⟨⟨((us.drop (0*sz)).take sz,l[0]),ar 0 bn⟩⟩
 have L:d.size=l.length:=by simp[d]
 have bw:∀i (hi:i<l.length),d[i]! = ⟨((us.drop (i*sz)).take sz,l[i]),ar i hi⟩:=λi hi=>by
  rw[getElem!_pos d i (by rw[L];exact hi)];simp[d]
 have J:∀x:A,(enc x).length=sz:=λx=>x.2.1
 have ag:CmpLays E.P g #[] enc sz (λx y:A=>cmp x.1.2 y.1.2) blk 0 d.size w:=λm os dk ck x y=>by
  have af:=(hc x.1.2 y.1.2).2 S (sortWorldK enc sz w blk 0 m dk os) #[.agg (enc x).toArray,.agg (enc y).toArray] ⟨rfl,λi hi=>?_⟩
  ·rw[hP]at af;refine af.mono ?_;rintro e w' ⟨u,rfl,⟨hb,bu⟩,hu⟩;exact⟨by rw[hu.int_inv],zow hb (bu ca)⟩
  ·have key:∀z:A,Rep (sortWorldK enc sz w blk 0 m dk os) S G0 (encT z.1.2) (.agg (enc z).toArray):=λz=>by
    refine z.2.2.2.mono ?_ (λb hS hb=>⟨?_,hS⟩)
    ·simp[sortWorldK,grow,putRowK,putRow,mapBlock,Go.Sort.ahead]
    ·have an:blk≠b:=λe=>ao blk al (e▸hS)
     unfold sortWorldK;rw[heap_grow_old _ _ (by simpa[putRowK,Go.Sort.ahead]using hb)];simp[putRowK,putRow,mapBlock,Go.Sort.ahead,aV,an]
   have bb:i<2:=hi;rcases i with _|_|i
   ·exact key x
   ·exact key y
   ·omega
 have hH:HoldsK enc sz w blk 0 d:=λj F=>by
  have G:j<l.length*sz:=by rw[size_flatK,L]at F;exact F
  have hq:j / sz<l.length:=bM (by rwa [aS]at G);have hm:=Nat.mod_lt j ai;have e:=zz5 enc sz J d (j / sz) (j % sz) (by rw[L];exact hq) hm;have ej:j / sz*sz+j % sz=j:=by rw[aS];exact dB j sz
  rw[ej]at e;have ef:(flatK enc sz d)[j]! = us.getD j undef:=by
   rw[getElem!_pos (flatK enc sz d) j F];have h1:(flatK enc sz d).toList.getD j undef=(flatK enc sz d)[j]:=by
    rw[aA,aU,bC F];rfl
   rw[<-h1,e,bw _ hq];show((us.drop (j / sz*sz)).take sz).getD (j % sz) undef=us.getD j undef;rw[aA,aY hm,bT,ej,<-aA]
  rw[ef,Nat.zero_add];refine⟨Oc D al j (by rw[H];exact G),?_⟩;simp[World.frozen?,hh]
 have bz:SWO (ltOf λx y:A=>cmp x.1.2 y.1.2):=⟨λx=>hO.irrefl _,λx y z=>hO.trans _ _ _,λx y z=>hO.ntrans _ _ _⟩;have B:=aj A enc J (λx=>x.2.2.1) (λx y=>cmp x.1.2 y.1.2) bz blk 0 r d w ag hH W (by rw[L];omega);have ev:v=.slice (some ⟨blk,0,none⟩) d.size r:=by rw[M,H,L]
 rw[<-ev]at B;refine B.mono ?_;rintro e w' ⟨rfl,a,m,os,⟨ay,_,az⟩,bj,ax⟩;have V:a.size=l.length:=ay.trans L
 -- what lies there now
 have e1:a.extract 0 d.size=a:=by rw[<-ay];exact bU
 rw[e1,bU]at az;have bv:d.toList.map (λp=>p.1.2)=l:=by
  simp only[d,map_ofFn];apply ext_getElem
  ·simp
  ·intro i h1 h2;simp
 have ak:(a.toList.map (λp=>p.1.2)).Perm l:=by
  have:=az.map (λp:A=>p.1.2)
  rwa [bv]at this
 have O:(a.toList.map (λp=>p.1.2)).Pairwise (λx y=>ltOf cmp y x=false):=by
  rw[pairwise_iff_getElem];intro i j hi F bt;have bb:i<a.size:=by simpa using hi
  have G:j<a.size:=by simpa using F
  have:=bj i j (Nat.zero_le _) bt (by rw[L,<-V];exact G);rw[getElem!_pos a i bb,getElem!_pos a j G]at this;simpa[ltOf]using this
 have bd:a.toList.map (λp=>p.1.2)=l':=by rw[<-hF];exact y1h hO ah ak O
 have ba:∀k (I:k<l'.length),∃h:k<a.size,l'[k]=a[k].1.2:=λk I=>by
  have h:k<a.size:=Ω
  refine⟨h,?_⟩;have:l'[k]=(a.toList.map (λp=>p.1.2))[k]'(by simpa using h):=by simp only[bd]
  rw[this];simp
 have aq:w.grownBy w' v.ownBlock:=by
  rw[al,ax];refine⟨rfl,rfl,rfl,by simp[sortWorldK,grow,putRowK,putRow,mapBlock,Go.Sort.ahead],λk J an=>?_⟩;unfold sortWorldK;rw[heap_grow_old _ _ (by simpa[putRowK,Go.Sort.ahead]using J)];have:blk≠k:=λe=>an (by rw[e])
  simp[putRowK,putRow,mapBlock,Go.Sort.ahead,aV,this]
 have ab:(flatK enc sz a).size=l.length*sz:=by rw[size_flatK,V]
 have bg:l.length*sz<=aw.size:=by
  rw[hs];rw[H]at hn;exact aK _ hn
 have ap:w'.heap[blk]? = some (.cells (putCells id 0 (flatK enc sz a) aw) ty (0,0)):=by
  rw[ax];unfold sortWorldK;rw[heap_grow_old _ _ (by simpa[putRowK,Go.Sort.ahead]using W)];simp[putRowK,putRow,mapBlock,Go.Sort.ahead,aV,hh,onCells]
 have ac:∀k j,k<l.length->j<sz->(flatK enc sz a).toList.getD (k*sz+j) undef=(enc a[k]!).getD j undef:=λk j I F=>zz5 enc sz J a k j (by rw[V];exact I) F
 refine⟨_,v,(flatK enc sz a).toList,rfl,aq,⟨by rw[aQ,ab,aC,t],aN ⟨blk,r,_,?_,bx,ap,?_,hm,?_,?_⟩⟩,λ_=>rfl,λb hb=>bJ hb,λk I=>?_,λk I j F=>?_,λu hu=>?_,λγ' _=>.tup #[] rfl (λi hi=>absurd hi Δ)⟩
 ·rw[aC,t,M,H]
 ·rw[aC,t];rw[H]at hn;exact hn
 ·simp[putCells,hs]
 ·rw[aC,t,<-ab];exact y51 _ _ (by rw[ab];exact bg)
 ·rw[aH];obtain⟨cs,C,aa⟩:=Y (l'[k]'(by simpa using I));rw[C];exact aa
 ·have bq:k<l'.length:=by simpa using I
  obtain⟨bp,bo⟩:=ba k bq;have e:(l'.map encT)[k]=encT a[k].1.2:=by rw[aH,bo]
  simp only[e]at F ⊢;obtain⟨cs,C,aa⟩:=Y a[k].1.2;have br:j<sz:=by rw[C]at F;simp only[bE]at F;omega
  rw[ac k j Ω br,getElem!_pos a k bp];have ad:=a[k].2.2.2;rw[C]at ad;obtain⟨cd,N,ce,bi,_⟩:=ad.agg_inv;injection N with N
  subst N;have:=bi j Ω;simp only[C,bE];rw[aF,bF,<-aA]at this;refine this.mono aq.size (λb hS hb=>⟨aq.block b hb (λe=>ao b e.symm hS),bJ hS,λe=>ao b e hS⟩)
 ·obtain⟨q,hq,rfl⟩:=mem_iff_getElem.1 hu;have bm:q<l.length*sz:=by rw[aQ,ab]at hq;exact hq
  have bl:q / sz<l.length:=bM (by rwa [aS]at bm);have hm:=Nat.mod_lt q ai;have:=ac (q / sz) (q % sz) bl hm;have ej:q / sz*sz+q % sz=q:=by rw[aS];exact dB q sz
  rw[ej,aA,aD hq,aM]at this;rw[this];have ch:=J a[q / sz]!;rw[aA,aD Ω,aM];exact(a[q / sz]!).2.2.1 _ (aX _)
variable {f:FuncId}
theorem Con.lo {a:Bool}{avs:List AV}{res:AV}(h:Con E0d a f avs res):Con E0 a f avs res :=
 ⟨h.1,λS w vs b=>(h.2 S w vs b).mono λe w' ⟨v,h1,j,d⟩=>⟨v,h1,ydh j.1,d⟩⟩
abbrev Bd:=Bl
abbrev Sta:=Ap
abbrev Ma:=Ac
abbrev Cf:=A1
theorem B6 {α:Type}(l:List α)(k:Nat)(h:k<l.length):l.drop k=l[k]::l.drop (k+1):=drop_eq_getElem_cons h
def cmpI (a b:Int):Int:=if a<b then -1 else if b<a then 1 else 0
def or2 (a b:Int):Int:=if a=0 then b else a
def or3 (a b c:Int):Int:=if a=0 then(if b=0 then c else b)else a
structure TO {α:Type} (c:α->α->Int):Prop where
 one:∀a b,c a b=-1\/c a b=0\/c a b=1
 zero:∀a b,c a b=0 ↔ a=b
 neg:∀a b,c b a=- c a b
 trans:∀a b d,c a b<0->c b d<0->c a d<0
theorem Ib:TO cmpI where
 one a b:=by unfold cmpI;split<;>(try split)<;>omega
 zero a b:=by unfold cmpI;split<;>(try split)<;>omega
 neg a b:=by unfold cmpI;omega
 trans a b d:=by unfold cmpI;omega
theorem TO.or2 {α β γ:Type}{c:β->β->Int}{d:γ->γ->Int}(j:TO c)(p:TO d)(f:α->β)(g:α->γ)(hi:∀a b,f a=f b->g a=g b->a=b):TO (λa b=>or2 (c (f a) (f b)) (d (g a) (g b))) where
 one a b:=by
  unfold Proofs.YthbogefcfhmpgaaGreat.or2;split
  ·exact p.one _ _
  ·exact j.one _ _
 zero a b:=by
  unfold Proofs.YthbogefcfhmpgaaGreat.or2;split
  ·rename_i h;rw[p.zero];exact⟨λk=>hi a b ((j.zero _ _).1 h) k,λk=>by rw[k]⟩
  ·rename_i h;exact⟨λk=>absurd k h,λk=>absurd ((j.zero _ _).2 (by rw[k])) h⟩
 neg a b:=by
  unfold Proofs.YthbogefcfhmpgaaGreat.or2;rw[j.neg (f a) (f b),p.neg (g a) (g b)];omega
 trans a b e:=by
  unfold Proofs.YthbogefcfhmpgaaGreat.or2;intro h1 q;by_cases s:c (f a) (f b)=0
  ·rw[if_pos s]at h1;have r:=(j.zero _ _).1 s;rw[r];by_cases l:c (f b) (f e)=0
   ·rw[if_pos l]at q ⊢;exact p.trans _ _ _ h1 q
   omega
  ·rw[if_neg s]at h1;by_cases l:c (f b) (f e)=0
   ·have t:=(j.zero _ _).1 l;simp_all
   ·rw[if_neg l]at q;have:=j.trans _ _ _ h1 q;omega
theorem TO.map {α β:Type}{c:β->β->Int}(j:TO c)(f:α->β)(hi:∀a b,f a=f b->a=b):TO (λa b=>c (f a) (f b)) where
 one a b:=j.one _ _
 zero a b:=⟨λh=>hi _ _ ((j.zero _ _).1 h),λh=>by rw[h];exact(j.zero _ _).2 rfl⟩
 neg a b:=j.neg _ _
 trans a b d:=j.trans _ _ _
def lexC {α:Type}(c:α->α->Int):List α->List α->Int |[],[]=>0 |[],_::_=>-1 |_::_,[]=>1 |a::x,b::y=>Proofs.YthbogefcfhmpgaaGreat.or2 (c a b) (lexC c x y)
theorem TO.lex {α:Type}{c:α->α->Int}(j:TO c):TO (lexC c) where
 one a b:=by
  induction a generalizing b with
  |nil=>cases b<;>simp[lexC]
  |cons x a l =>
   cases b with
   |nil=>simp[lexC]
   |cons y b =>
    unfold lexC Proofs.YthbogefcfhmpgaaGreat.or2;split
    ·exact l b
    ·exact j.one _ _
 zero a b:=by
  induction a generalizing b with
  |nil=>cases b<;>simp[lexC]
  |cons x a l =>
   cases b with
   |nil=>simp[lexC]
   |cons y b =>
    unfold lexC Proofs.YthbogefcfhmpgaaGreat.or2;by_cases h:c x y=0
    ·rw[if_pos h,l,(j.zero _ _).1 h];simp
    ·rw[if_neg h];exact⟨λk=>absurd k h,λk=>by injection k with k _;exact absurd ((j.zero _ _).2 k) h⟩
 neg a b:=by
  induction a generalizing b with
  |nil=>cases b<;>simp[lexC]
  |cons x a l =>
   cases b with
   |nil=>simp[lexC]
   |cons y b =>
    unfold lexC Proofs.YthbogefcfhmpgaaGreat.or2;rw[j.neg x y,l b];omega
 trans a b d:=by
  induction a generalizing b d with
  |nil =>
   intro h1 p;cases b with
   |nil=>simp[lexC]at h1
   |cons y b=>cases d with
    |nil=>simp[lexC]at p
    |cons z d=>simp[lexC]
  |cons x a l =>
   intro h1 p;cases b with
   |nil=>simp[lexC]at h1
   |cons y b =>
    cases d with
    |nil=>simp[lexC]at p
    |cons z d =>
     unfold lexC Proofs.YthbogefcfhmpgaaGreat.or2 at h1 p ⊢;by_cases q:c x y=0
     ·rw[if_pos q]at h1;have t:=(j.zero _ _).1 q;grind
     ·rw[if_neg q]at h1;by_cases r:c y z=0
      ·have s:=(j.zero _ _).1 r;simp_all
      ·rw[if_neg r]at p;have:=j.trans _ _ _ h1 p;omega
section
variable {α:Type} {c:α->α->Int}
theorem TO.irr (h:TO c)(a:α):¬c a a<0:=by rw[(h.zero a a).2 rfl];decide
theorem TO.tri (h:TO c)(a b:α):c a b<0\/a=b\/c b a<0:=by
 have h1:=h.zero a b;have d:=h.neg a b;grind
theorem TO.swo (h:TO c):Go.Sort.SWO (ltOf c):=by
 have b:∀x y,ltOf c x y=decide (c x y<0):=λx y=>rfl
 refine⟨λx=>?_,λx y z h1 a=>?_,λx y z h1 a=>?_⟩<;>simp only[b,decide_eq_true_eq,decide_eq_false_iff_not]at *
 ·exact h.irr x
 ·exact h.trans _ _ _ h1 a
 ·intro d;rcases h.tri y x with k|k|k
  ·rcases h.tri z y with q|q|q
   ·exact h.irr x (h.trans _ _ _ (h.trans _ _ _ d q) k)
   all_goals grind
  all_goals simp_all
theorem TO.ties (h:TO c)(l:List α):∀x∈l,∀y∈l,ltOf c x y=false->ltOf c y x=false->x=y:=λx _ y _ h1 a=>by
 have h1:¬c x y<0:=of_decide_eq_false h1;have a:¬c y x<0:=of_decide_eq_false a;rcases h.tri x y with k|k|k
 all_goals simp_all
end
def rCmp (a b:Bh):Int:=or3 (cmpI a.fTime b.fTime) (cmpI a.fSource b.fSource) (cmpI a.fSeq b.fSeq)
theorem Yn:TO rCmp:=(Ib.or2 (Ib.or2 Ib (λp:Int×Int=>p.1) (λp=>p.2) (λa b h k=>Prod.ext h k)) (λr:Bh=>r.fTime) (λr=>(r.fSource,r.fSeq)) (λa b h k=>by
 cases a;simp_all))
def Dq (a b:Bd):Int:=or2 (rCmp a.fRef b.fRef) (cmpI a.fVar b.fVar)
theorem zzp:TO Dq:=Yn.or2 Ib (λb:Bd=>b.fRef) (λb=>b.fVar) (λa b h k=>by cases a;simp_all)
def El (a b:Sta):Int:=or2 (cmpI a.fScope b.fScope) (cmpI a.fTime b.fTime)
theorem y54:TO El:=Ib.or2 Ib (λb:Sta=>b.fScope) (λb=>b.fTime) (λa b h k=>by cases a;simp_all)
def B7 (a b:Ma):Int:=lexC Dq a.fBindings b.fBindings
theorem Dp:TO B7:=zzp.lex.map (λm:Ma=>m.fBindings) (λa b h=>by cases a;cases b;simp only at h;rw[h])
def Bp (a b:Cf):Int:=or3 (cmpI a.fState b.fState) (lexC Dq a.fBindings b.fBindings) (lexC El a.fStarts b.fStarts)
theorem Ex:TO Bp:=(Ib.or2 (zzp.lex.or2 y54.lex (λp:List Bd×List Sta=>p.1) (λp=>p.2) (λa b h k=>Prod.ext h k)) (λc:Cf=>c.fState) (λc=>(c.fBindings,c.fStarts)) (λa b h k=>by
 cases a;simp_all))
theorem zoy (n:Nat)(a b:Int):Fi n a b=some (cmpI a b):=by
 unfold Fi Xr;simp only[A0,decide_true,Bool.not_true,Al,A4,cmpI];split
 ·rfl
 ·split<;>rfl
theorem y3l (n:Nat)(a b:Int):Gn (n+3) [a,b]=some (or2 a b):=by
 have w0:aG .i64 ((0:Int)+1)=1:=Θ
 have w1:aG .i64 ((1:Int)+1)=2:=Θ
 unfold Gn or2;simp only[Tn,bB,eR,bO,cE,A4,Ar,w0,w1];simp only[idx];by_cases d:a=0
 ·by_cases h:b=0<;>simp[d,h]
 ·simp[d]
theorem y3k (n:Nat)(a b c:Int):Gn (n+4) [a,b,c]=some (or3 a b c):=by
 have w0:aG .i64 ((0:Int)+1)=1:=Θ
 have w1:aG .i64 ((1:Int)+1)=2:=Θ
 have j:aG .i64 ((2:Int)+1)=3:=Θ
 unfold Gn or3;simp only[Tn,bB,eR,bO,cE,A4,Ar,w0,w1,j];simp only[idx];by_cases d:a=0
 ·by_cases h:b=0
  ·by_cases k:c=0<;>simp[d,h,k]
  ·simp[d,h]
 ·simp[d]
theorem y6l (n:Nat)(a b:Bh):Xp (n+4) a b=some (rCmp a b):=by
 unfold Xp;simp only[A0,zoy,y3k];rfl
theorem yc8 (n:Nat)(a b:Bd):Wp (n+4) a b=some (Dq a b):=by
 unfold Wp;simp only[A0,zoy,y6l,show n+4=(n+1)+3 from rfl,y3l];rfl
theorem yc5 (n:Nat)(a b:Sta):Xa (n+4) a b=some (El a b):=by
 unfold Xa;simp only[A0,zoy,show n+4=(n+1)+3 from rfl,y3l];rfl
theorem zna (n:Nat)(b a:List Bd)(l:b.length<=1000000000)(j:a.length<=1000000000):∀(m k:Nat),k<=a.length->k<=b.length->a.length<m+k ->
  Q4 (n+4) b a (if a.length<b.length then some (-1)else some 0) m k=some (lexC Dq (a.drop k) (b.drop k))
 |0,k,h1,_,p=>by omega
 |m+1,k,h1,q,p=>by
  unfold Q4;simp only[aC,A4,Ar];by_cases h:k<a.length
  ·rw[if_pos Ω,Ae h,B6 a k h];by_cases d:b.length<=k
   ·rw[if_pos Ω,aB d];rfl
   ·rw[if_neg Ω,Ae (by omega:k<b.length),B6 b k Ω];rw[yc8,A0,Af k Ω,zna n b a l j m (k+1) Ω Ω Ω];show _=some (or2 (Dq _ _) _);unfold or2;split<;>rfl
  ·rw[if_neg Ω,aB (by omega:a.length<=k)];by_cases d:a.length<b.length
   ·rw[if_pos d,B6 b k Ω];rfl
   ·rw[if_neg d,aB Ω];rfl
theorem ya4 (n:Nat)(a b:List Bd)(j:a.length<n)(k:4<=n)(h:b.length<=1000000000)(d:a.length<=1000000000):Vr n a b=some (lexC Dq a b):=by
 obtain⟨m,rfl⟩:∃m,n=m+4:=⟨n-4,Ω⟩;unfold Vr;have:=zna m b a h d (m+4) 0 Ω Ω Ω;simp only[aW,cZ]at this;rw[<-this];congr 1;simp only[aC,A4];split<;>split<;>first|rfl|omega
theorem zn9 (n:Nat)(b a:List Sta)(l:b.length<=1000000000)(j:a.length<=1000000000):∀(m k:Nat),k<=a.length->k<=b.length->a.length<m+k ->
  P9 (n+4) b a (if a.length<b.length then some (-1)else some 0) m k=some (lexC El (a.drop k) (b.drop k))
 |0,k,h1,_,p=>by omega
 |m+1,k,h1,q,p=>by
  unfold P9;simp only[aC,A4,Ar];by_cases h:k<a.length
  ·rw[if_pos Ω,Ae h,B6 a k h];by_cases d:b.length<=k
   ·rw[if_pos Ω,aB d];rfl
   ·rw[if_neg Ω,Ae (by omega:k<b.length),B6 b k Ω];rw[yc5,A0,Af k Ω,zn9 n b a l j m (k+1) Ω Ω Ω];show _=some (or2 (El _ _) _);unfold or2;split<;>rfl
  ·rw[if_neg Ω,aB (by omega:a.length<=k)];by_cases d:a.length<b.length
   ·rw[if_pos d,B6 b k Ω];rfl
   ·rw[if_neg d,aB Ω];rfl
theorem ya3 (n:Nat)(a b:List Sta)(j:a.length<n)(k:4<=n)(h:b.length<=1000000000)(d:a.length<=1000000000):V2 n a b=some (lexC El a b):=by
 obtain⟨m,rfl⟩:∃m,n=m+4:=⟨n-4,Ω⟩;unfold V2;have:=zn9 m b a h d (m+4) 0 Ω Ω Ω;simp only[aW,cZ]at this;rw[<-this];congr 1;simp only[aC,A4];split<;>split<;>first|rfl|omega
theorem y7v (n:Nat)(a b:Ma)(h:a.fBindings.length<n)(k:4<=n)(j:b.fBindings.length<=1000000000)(d:a.fBindings.length<=1000000000):Xb n a b=some (B7 a b):=by
 unfold Xb;rw[ya4 n _ _ h k j d,A0];rfl
theorem ya2 (n:Nat)(a b:Cf)(p:a.fBindings.length<n)(h:a.fStarts.length<n)(l:4<=n)(q:b.fBindings.length<=1000000000)(k:a.fBindings.length<=1000000000)(j:b.fStarts.length<=1000000000)(d:a.fStarts.length<=1000000000):z2z n a b=some (Bp a b):=by
 unfold z2z;rw[zoy,A0,y7v n _ _ p l q k,A0,ya3 n _ _ h l j d,A0];obtain⟨m,rfl⟩:∃m,n=m+4:=⟨n-4,Ω⟩;rw[y3k,A0];rfl
theorem Un (n:Nat)(a b:Int):D3 n a b=some (cmpI a b):=by
 unfold D3 Y4;simp only[A0,decide_true,Bool.not_true,Al,A4,cmpI];split
 ·rfl
 ·split<;>rfl
theorem yc7 (n:Nat)(a b:Int):Ez (n+3) [a,b]=some (or2 a b):=by
 have w0:aG .i64 ((0:Int)+1)=1:=Θ
 have w1:aG .i64 ((1:Int)+1)=2:=Θ
 unfold Ez or2;simp only[Tu,bB,eR,bO,cE,A4,Ar,w0,w1];simp only[idx];by_cases d:a=0
 ·by_cases h:b=0<;>simp[d,h]
 ·simp[d]
theorem ya1 (n:Nat)(a b c:Int):Ez (n+4) [a,b,c]=some (or3 a b c):=by
 have w0:aG .i64 ((0:Int)+1)=1:=Θ
 have w1:aG .i64 ((1:Int)+1)=2:=Θ
 have j:aG .i64 ((2:Int)+1)=3:=Θ
 unfold Ez or3;simp only[Tu,bB,eR,bO,cE,A4,Ar,w0,w1,j];simp only[idx];by_cases d:a=0
 ·by_cases h:b=0
  ·by_cases k:c=0<;>simp[d,h,k]
  ·simp[d,h]
 ·simp[d]
theorem yc6 (n:Nat)(a b:Bh):Xw (n+4) a b=some (rCmp a b):=by
 unfold Xw;simp only[A0,Un,ya1];rfl
theorem f_bd (n:Nat)(a b:Bd):Xc (n+4) a b=some (Dq a b):=by
 unfold Xc;simp only[A0,Un,yc6,show n+4=(n+1)+3 from rfl,yc7];rfl
theorem f_st (n:Nat)(a b:Sta):Xl (n+4) a b=some (El a b):=by
 unfold Xl;simp only[A0,Un,show n+4=(n+1)+3 from rfl,yc7];rfl
theorem zza (n:Nat)(b a:List Bd)(l:b.length<=1000000000)(j:a.length<=1000000000):∀(m k:Nat),k<=a.length->k<=b.length->a.length<m+k ->
  Qz (n+4) b a (if a.length<b.length then some (-1)else some 0) m k=some (lexC Dq (a.drop k) (b.drop k))
 |0,k,h1,_,p=>by omega
 |m+1,k,h1,q,p=>by
  unfold Qz;simp only[aC,A4,Ar];by_cases h:k<a.length
  ·rw[if_pos Ω,Ae h,B6 a k h];by_cases d:b.length<=k
   ·rw[if_pos Ω,aB d];rfl
   ·rw[if_neg Ω,Ae (by omega:k<b.length),B6 b k Ω];rw[f_bd,A0,Af k Ω,zza n b a l j m (k+1) Ω Ω Ω];show _=some (or2 (Dq _ _) _);unfold or2;split<;>rfl
  ·rw[if_neg Ω,aB (by omega:a.length<=k)];by_cases d:a.length<b.length
   ·rw[if_pos d,B6 b k Ω];rfl
   ·rw[if_neg d,aB Ω];rfl
theorem yde (n:Nat)(a b:List Bd)(j:a.length<n)(k:4<=n)(h:b.length<=1000000000)(d:a.length<=1000000000):Wa n a b=some (lexC Dq a b):=by
 obtain⟨m,rfl⟩:∃m,n=m+4:=⟨n-4,Ω⟩;unfold Wa;have:=zza m b a h d (m+4) 0 Ω Ω Ω;simp only[aW,cZ]at this;rw[<-this];congr 1;simp only[aC,A4];split<;>split<;>first|rfl|omega
theorem zz9 (n:Nat)(b a:List Sta)(l:b.length<=1000000000)(j:a.length<=1000000000):∀(m k:Nat),k<=a.length->k<=b.length->a.length<m+k ->
  Pg (n+4) b a (if a.length<b.length then some (-1)else some 0) m k=some (lexC El (a.drop k) (b.drop k))
 |0,k,h1,_,p=>by omega
 |m+1,k,h1,q,p=>by
  unfold Pg;simp only[aC,A4,Ar];by_cases h:k<a.length
  ·rw[if_pos Ω,Ae h,B6 a k h];by_cases d:b.length<=k
   ·rw[if_pos Ω,aB d];rfl
   ·rw[if_neg Ω,Ae (by omega:k<b.length),B6 b k Ω];rw[f_st,A0,Af k Ω,zz9 n b a l j m (k+1) Ω Ω Ω];show _=some (or2 (El _ _) _);unfold or2;split<;>rfl
  ·rw[if_neg Ω,aB (by omega:a.length<=k)];by_cases d:a.length<b.length
   ·rw[if_pos d,B6 b k Ω];rfl
   ·rw[if_neg d,aB Ω];rfl
theorem ydd (n:Nat)(a b:List Sta)(j:a.length<n)(k:4<=n)(h:b.length<=1000000000)(d:a.length<=1000000000):V8 n a b=some (lexC El a b):=by
 obtain⟨m,rfl⟩:∃m,n=m+4:=⟨n-4,Ω⟩;unfold V8;have:=zz9 m b a h d (m+4) 0 Ω Ω Ω;simp only[aW,cZ]at this;rw[<-this];congr 1;simp only[aC,A4];split<;>split<;>first|rfl|omega
theorem f_ma (n:Nat)(a b:Ma)(h:a.fBindings.length<n)(k:4<=n)(j:b.fBindings.length<=1000000000)(d:a.fBindings.length<=1000000000):Te n a b=some (B7 a b):=by
 unfold Te;rw[yde n _ _ h k j d,A0];rfl
theorem ydc (n:Nat)(a b:Cf)(p:a.fBindings.length<n)(h:a.fStarts.length<n)(l:4<=n)(q:b.fBindings.length<=1000000000)(k:a.fBindings.length<=1000000000)(j:b.fStarts.length<=1000000000)(d:a.fStarts.length<=1000000000):Xq n a b=some (Bp a b):=by
 unfold Xq;rw[Un,A0,f_ma n _ _ p l q k,A0,ydd n _ _ h l j d,A0];obtain⟨m,rfl⟩:∃m,n=m+4:=⟨n-4,Ω⟩;rw[ya1,A0];rfl
def cfOk (c:Cf):Bool:=decide (c.fBindings.length<=1000000000) && decide (c.fStarts.length<=1000000000)
def maOk (c:Ma):Bool:=decide (c.fBindings.length<=1000000000)
theorem Fm (c:Cf):cfOk c=true ↔ c.fBindings.length<=1000000000/\c.fStarts.length<=1000000000:=by simp[cfOk]
theorem Ew (c:Ma):maOk c=true ↔ c.fBindings.length<=1000000000:=by simp[maOk]
def Kf {T:Type}[DecidableEq T](ok:T->Bool)(cmp:T->T->Int)(n:Nat)(l:List T):Option (List T) :=
 if h:∀x∈l,ok x=true then(Uk (λa b:{ x:T // ok x=true }=>cmp a.1 b.1) n (l.attachWith (λx=>ok x=true) h)).map (λq=>q.map (·.1))else none
section
variable {T:Type} [DecidableEq T]
omit [DecidableEq T] in
theorem zz2 {U:Type}{d:U->U->Int}{c:T->T->Int}(f:U->T)(h:∀a b,d a b=c (f a) (f b))(x:U):∀l:List U,(insF d x l).map f=insF c (f x) (l.map f)
 |[]=>rfl
 |y::l=>by
  have e:ltOf d y x=ltOf c (f y) (f x):=by unfold ltOf;rw[h]
  simp only[insF,bB,e];cases ltOf c (f y) (f x)with
  |true=>simp only[bB,zz2 f h x l]
  |false=>rfl
omit [DecidableEq T] in
theorem zr6 {U:Type}{d:U->U->Int}{c:T->T->Int}(f:U->T)(h:∀a b,d a b=c (f a) (f b)):∀l:List U,(F5 d l).map f=F5 c (l.map f)
 |[]=>rfl
 |x::l=>by simp only[F5,bB,zz2 f h,zr6 f h l]
variable {cmp:T->T->Int}
theorem zxp {ok:T->Bool}(j:TO cmp)(n:Nat)(l:List T)(h:∀x∈l,ok x=true)(k:l.length<=1000000000):Kf ok cmp n l=some (F5 cmp l):=by
 unfold Kf;rw[dif_pos h];have d:TO (λa b:{ x:T // ok x=true }=>cmp a.1 b.1):=j.map (λx:{ x:T // ok x=true }=>x.1) (λa b h=>Subtype.ext h);unfold Uk;rw[if_pos ⟨by simp_all,d.ties _⟩];simp only[bK];rw[zr6 (c:=cmp) (λx:{ x:T // ok x=true }=>x.1) (λa b=>rfl),attachWith_map_subtype_val]
theorem zr5 {f g:Nat}{ok:T->Bool}{enc:T->AV}{l l':List T}(H:∀{q k:List { x:T // ok x=true }},Uk (λa b:{ x:T // ok x=true }=>cmp a.1 b.1) n q=some k->ConC true E0 f [.row 0,.fn g []] ty sz (q.map λx=>enc x.1) ty sz (k.map λx=>enc x.1) (.tup []))(d:Kf ok cmp n l=some l') :
  ConC true E0 f [.row 0,.fn g []] ty sz (l.map enc) ty sz (l'.map enc) (.tup []):=by
 unfold Kf at d;split at d
 ·rename_i h;cases j:Uk (λa b:{ x:T // ok x=true }=>cmp a.1 b.1) n (l.attachWith (λx=>ok x=true) h)with
  |none=>rw[j]at d;cases d
  |some q =>
   rw[j]at d;injection d with d
   have:=H j;simp_all
 ·cases d
end
theorem zx0 (a b:{ x:Cf // cfOk x=true }):Con E0d true 125 [A7 a.1,A7 b.1] (.int .i64 (Bp a.1 b.1)):=by
 obtain⟨h1,j⟩:=(Fm a.1).1 a.2;obtain⟨h,d⟩:=(Fm b.1).1 b.2;exact zgv (ya2 1000000010 a.1 b.1 Ω Ω Ω h h1 d j)
theorem zwz (a b:{ x:Ma // maOk x=true }):Con E0d true 64 [B1 a.1,B1 b.1] (.int .i64 (B7 a.1 b.1)):=by
 have h1:=(Ew a.1).1 a.2;have d:=(Ew b.1).1 b.2;exact z4o (y7v 1000000010 a.1 b.1 Ω Ω d h1)
theorem zzv {l l':List Cf}(y:Kf cfOk Bp n l=some l'):ConC true E0 200 [.row 0,.fn 125 []] 90 3 (l.map A7) 90 3 (l'.map A7) (.tup []) :=
 zr5 (λs=>zxo (Ed:=E0d) rfl rfl (Ax Tryz.func200 rfl rfl) (Ax bG rfl rfl) Ω (λx=>⟨_,rfl,rfl⟩)
  (λα _ enc t h1 cf u blk off j d w k v q r=>AnyQ.slices_SortFunc Tryz.laysSlF06_f200 3 Tryz.isAgg90 Tryz.sizeOf90 enc t h1 cf u 125 #[] blk off j d w (Ax bG rfl rfl) k v q r)
  (λp j fv w=>AnyF.slices_SortFunc_none Tryz.laysSlF06_f200 p j fv w) zx0 (Ex.map (λx:{ x:Cf // cfOk x=true }=>x.1) (λa b h=>Subtype.ext h)).swo s) y
theorem zzu {l l':List Ma}(y:Kf maOk B7 n l=some l'):ConC true E0 126 [.row 0,.fn 64 []] 64 1 (l.map B1) 64 1 (l'.map B1) (.tup []) :=
 zr5 (λs=>zxo (Ed:=E0d) rfl rfl (Ax Tryz.func126 rfl rfl) (Ax bL rfl rfl) Ω (λx=>⟨_,rfl,rfl⟩)
  (λα _ enc t h1 cf u blk off j d w k v q r=>AnyQ.slices_SortFunc Tryz.laysSlF06_f126 1 Tryz.isAgg64 Tryz.sizeOf64 enc t h1 cf u 64 #[] blk off j d w (Ax bL rfl rfl) k v q r)
  (λp j fv w=>AnyF.slices_SortFunc_none Tryz.laysSlF06_f126 p j fv w) zwz (Dp.map (λx:{ x:Ma // maOk x=true }=>x.1) (λa b h=>Subtype.ext h)).swo s) y
abbrev Cel (n:Nat):={ l:List Value // l.length=n/\∀u∈l,u.oneCell'=true }
def encC (x:Cel n):List Value:=x.1
variable {P:Program}{T e eb:Nat}{i:TyI}
theorem eokC {ie:TyI}(k:TyOk P T i)(hs:i.shape=.slc e sz eb)(d:TyOk P e ie)(h:0<sz)(a:ie.zero.cells.size=sz):EOk P T e sz ie.bytes (encC (n:=sz)):=by
 obtain⟨j,b,_⟩:=Cr k hs;obtain⟨x,h1,q,p,l⟩:=d.both;exact⟨j,⟨x,ie.zero,h1,l,by rw[q,<-d.cells,b],p,a⟩,h,λx=>x.2.1,λx=>x.2.2⟩
def C8 {α:Type}(n:Nat)(l:List α):Option (List α):=if l.length<=1000000000 then some l else none
theorem Kb (hP:E.P=P)(hE:Cd E f)(any:∀(l:List (Cel sz)) (S:Nat->Prop) (v:Value) (w:World),Sl w S sz encC v l->l.length<=1000000000->Calls P f #[v] w (Ic e sz encC l w)){α:Type}{enc:α->AV}{a r:List α}(B:C8 n a=some r) :
  ConT E f [.sl sz (List.map enc a)] e sz (List.map enc r) (.row 0):=by
 unfold C8 at B;split at B
 ·rename_i Z;injection B with B
  subst B;refine .ofRow ⟨hE,λS w vs ⟨Y,W⟩=>?_⟩;have e1:=ydb Y;have M:Rep w S G0 (.sl sz (List.map enc a)) (vs.getD 0 undef):=W 0 Δ;rw[e1,hP];obtain⟨A,c,V,hc,q,cell,J,I,h1⟩:=M.sl_inv;let l:List (Cel sz):=(bP (List.map enc a).length).map λk=>⟨(bP sz).map λj=>cell k j,Δ,λu p=>by
   obtain⟨j,_,rfl⟩:=eS.1 p;exact h1 k j⟩
  have d:l.length=(List.map enc a).length:=by simp[l]
  have C:∀k (s:k<l.length),(encC l[k])=(bP sz).map λj=>cell k j:=λk s=>by simp[l,encC]
  have H:Sl w S sz encC (vs.getD 0 undef) l:=by
   refine⟨A,c,by rw[V,d],by rw[d];exact hc,λM=>?_⟩;obtain⟨b,off,hA,hS,t,y⟩:=J (by rw[<-d];exact M);refine⟨b,off,hA,hS,t,λk s j u p=>?_⟩;rw[C k s]at p;have z:j<sz:=by have:=(List.getElem?_eq_some_iff.1 p).1;simpa using this
   rw[getElem?_map,getElem?_range z]at p;simp only[bK,aL]at p;subst p;exact y k j (by rw[<-d];exact s) z
  refine(any l S _ w H (by rw[d,aC];exact Z)).mono λed w' ⟨A',O,Q,N,G⟩=>?_
  refine⟨_,l.flatMap encC,Q,G,?_,q,λk s j z=>?_,λu p=>?_⟩
  ·have:w'.ownsRow w.heap.size e sz (.slice A' l.length O) l.length (l.flatMap encC):=N;rw[d]at this;rw[d];exact this
  ·have F:j<sz:=by rw[q k s]at z;exact z
   have D:k<l.length:=by rw[d];exact s
   have L:=Y7 (enc:=encC (n:=sz)) (λx _=>x.2.1) k D j F (cell k j) (by rw[C k D,getElem?_map,getElem?_range F];rfl);rw[aA,L];refine(I k s j z).mono G.size (λb J t=>⟨G.block b t,bJ J,λe=>?_⟩);have h2:w'.ownsRow w.heap.size _ sz (.slice A' l.length O) l.length (l.flatMap encC):=N;rcases h2.2 with⟨h,_⟩|⟨g,ab,aa,h,hg,_⟩
   ·rw[h]at e;simp[Value.ownBlock]at e
   ·rw[h]at e;simp only[Value.ownBlock,aL]at e;subst e;omega
  ·obtain⟨x,_,U⟩:=mem_flatMap.1 p;exact x.2.2 u U
 ·cases B
theorem ConT.close {args xs:List AV}(h:ConT E f args ty sz xs (.row 0))(t:E.dr=false):Con E false f args (.sl sz xs) :=
 ⟨h.1,λS w vs r=>(h.2.2 S w vs r).mono λe w' ⟨u,v,us,h1,B,j,A,z,y,x⟩=>by
  have q:=x (λ_=>some (some (v.ownBlock,v))) rfl;have k:u=v:=q.row_inv rfl (Gp (D5 j));subst k;refine⟨u,h1,⟨B,λh=>absurd (t.symm.trans h) Δ⟩,?_⟩;have d:Bm w' (λb=>(S b\/w.heap.size<=b)/\u.ownBlock≠some b) G0 w.heap.size (some (u.ownBlock,u)) (.row ty sz xs):=⟨u,us,rfl,D5 j,j,A,z,y⟩;obtain⟨s,hs,l⟩:=Fv (S':=λb=>(false=false/\S b)\/w.heap.size<=b) d (λb p _=>p.1.elim (λh=>bJ ⟨rfl,h⟩) aN) (λs g a=>by
   injection a with a
   injection a with a _
   rcases j.2 with⟨h,_⟩|⟨F,D,C,h,p,_⟩
   ·rw[h]at a;simp[Value.ownBlock]at a
   ·rw[h]at a;simp only[Value.ownBlock,aL]at a;subst a;exact aN p) G0
  injection hs with hs
  injection hs with _ hs
  rw[hs];exact l⟩
theorem ConT.sub {avs bvs xs:List AV}{res:AV}(h:SubL avs bvs)(a:ConT E f bvs ty sz xs res):ConT E f avs ty sz xs res :=
 ⟨a.1,a.2.1,λS w vs ⟨d,b⟩=>a.2.2 S w vs ⟨by rw[d,h.len],λi hi=>(b i (by rw[h.len];exact hi)).sub (h.at i _ hi)⟩⟩
def Xk (w:World)(g off:Nat)(X:List Value):Prop:=∃a ty b,w.heap[g]? = some (.cells a ty b)/\0<a.size/\∀j u,X[j]? = some u->a[off+j]? = some u
section
variable {w w':World} {g off:Nat} {X:List Value}
theorem Xk.lt (h:Xk w g off X):g<w.heap.size:=by
 obtain⟨a,ty,b,h,_⟩:=h;exact(aJ.1 h).1
theorem Xk.cell (h:Xk w g off X){j:Nat}{u:Value}(a:X[j]? = some u):w.cell? ⟨g,off+j,none⟩=some u:=by
 obtain⟨d,ty,k,h,_,b⟩:=h;simp[World.cell?,h,b j u a]
theorem Xk.grown {row:Option Nat}(h:Xk w g off X)(j:w.grownBy w' row)(d:some g≠row):Xk w' g off X:=by
 have b:=h.lt;obtain⟨a,ty,l,h,k⟩:=h;exact⟨a,ty,l,(j.block g b d).trans h,k⟩
theorem Xk.alloc (h:Xk w g off X)(o:Obj):Xk (w.alloc o) g off X:=by
 have b:=h.lt;obtain⟨a,ty,j,h,d⟩:=h;exact⟨a,ty,j,(Below.heap_alloc w o g b).trans h,d⟩
theorem Xk.shape (h:Xk w g off X):∃t k,k≠0/\w.shape? g=some (t,k):=by
 obtain⟨a,ty,b,h,h1,_⟩:=h;exact⟨ty,a.size,Ω,by simp[World.shape?,h]⟩
theorem Sl.one_x {α:Type}{enc:α->List Value}{c:Nat}{x:α}(d:1<=c)(h:Xk w g off (enc x)):Sl w (λ_=>True) sz enc (.slice (some ⟨g,off,none⟩) 1 c) [x] :=
 ⟨_,c,rfl,d,λ_=>⟨g,off,rfl,trivial,h.lt,λk b j u a=>by
  have:k=0:=by simpa using b
  subst this;simpa using h.cell (by simpa using a)⟩⟩
end
theorem zl9 (w:World)(tS tR e:TypeId)(z:P.underlying tS=some (.slice e))(size:Nat)(y:∀w,(Go.sizeOf e).run P w=.ok size w)
  (a b:Addr) (la ca lb cb:Nat) (h:a.block≠b.block) (d:∃t k,k≠0/\w.shape? a.block=some (t,k)) (tB:TypeId) (kB:Nat) (p:w.shape? b.block=some (tB,kB)) (r:kB≠0)
  (v:w.frozen? b=false) (u:w.frozen? { block:=b.block,off:=kB }=false) :
  (Extern.SlicesOverlaps.overlaps #[tS,tS] #[tR] #[.slice (some a) la ca,.slice (some b) lb cb]).run P w=.ok (.bool false) w:=by
 have q:(a.block != b.block)=true:=by simpa using h
 have j:(a.block == b.block)=false:=by simpa using h
 obtain⟨tA,kA,s,d⟩:=d;change Sem.run P (α:=Value) (underlying tS >>= _) w=_;by_cases A:la=0\/lb=0\/size=0
 ·simp[run_underlying z,y,A]
 ·cases kB with
  |zero=>exact absurd rfl r
  |succ kB =>
   cases kA with
   |zero=>exact absurd rfl s
   |succ kA =>
    cases x:w.frozen? a<;>cases l:w.frozen? { block:=a.block,off:=kA+1 } <;>
    simp[run_underlying z,y,A,q,j,frozen,noView,viewAt,mayBeOne,stringish,shape,Sem.run,d,p,x,l,v,u]
def y4i {α:Type}(e:TypeId)(sz:Nat)(enc:α->List Value)(base:Nat)(v:Value)(l:List α)(w0:World)(r:Ending)(w':World):Prop:=∃A c,r=.returned (.slice A l.length c)/\Own w' base e sz enc (.slice A l.length c) l/\w0.grownBy w' v.ownBlock/\((Value.slice A l.length c).ownBlock=v.ownBlock\/(Value.slice A l.length c).ownBlock=some w0.heap.size)
def U2 {α:Type}(n:Nat)(a:List α)(i:Int)(v:List α):Option (List α) :=
 match v with
 |[x]=>if 0<=i/\i.toNat<=a.length/\a.length<=1000000000 then some (a.take i.toNat++x::a.drop i.toNat)else none
 |_=>none
theorem y47 (d:Value)(us:List Value)(n:Nat)(h:us.length=n*sz):(bP n).flatMap (λk=>(bP sz).map λj=>us.getD (k*sz+j) d)=us:=by
 induction n generalizing us with
 |zero=>simp at h;subst h;rfl
 |succ n ih =>
  rw[range_succ_eq_map,flatMap_cons,flatMap_map];have h1:(bP sz).map (λj=>us.getD (0*sz+j) d)=us.take sz:=by
   apply ext_getElem
   ·simp[h,aP]
   ·intro j h1 a;have b:j<us.length:=by simp at a;omega
    simp[aD b]
  have a:(λk=>(bP sz).map λj=>us.getD (k.succ*sz+j) d)=λk=>(bP sz).map λj=>(us.drop sz).getD (k*sz+j) d:=by
   funext k;refine map_congr_left λj _=>?_
   rw[aA,aA,bT,aP,Nat.add_right_comm,Nat.add_comm (k*sz+j) sz]
  rw[h1,a,ih (us.drop sz) (by rw[length_drop,h,aP];omega),take_append_drop]
theorem y0i (hP:E.P=P)(hE:Cd E f)(hz:0<sz)
  (any:∀(l:List (Cel sz)) (x:Cel sz) (i base:Nat) (A:Option Addr) (c g off c1:Nat) (w:World),Own w base e sz encC (.slice A l.length c) l->Xk w g off (encC x)->1<=c1->(Value.slice A l.length c).ownBlock≠some g->i<=l.length->l.length<=1000000000->base<=w.heap.size ->
    Calls P f #[.slice A l.length c,.int .i64 i,.slice (some ⟨g,off,none⟩) 1 c1] w (y4i e sz encC base (.slice A l.length c) (l.take i++x::l.drop i) w)) {α:Type} {enc:α->AV}  {a v r:List α} {i:Int} (M:U2 n a i v=some r) :
  ConC false E f [.row 0,aI i,.sl sz (List.map enc v)] e sz (List.map enc a) e sz (List.map enc r) (.row 0):=by
 unfold U2 at M;split at M
 ·rename_i x;split at M
  ·rename_i hc;obtain⟨d,rfl⟩:=Int.eq_ofNat_of_zero_le hc.1;simp only[Int.toNat_natCast]at hc M;injection M with M
   subst M;refine⟨hE,rfl,λS w0 w vs v us an t ag ap ae O hn Z=>?_⟩;have e3:∃p q s,vs=#[p,q,s]:=by
    obtain⟨l⟩:=vs
    match l,hn with
    |[p,q,s],_=>exact⟨p,q,s,rfl⟩
   obtain⟨p,q,s,rfl⟩:=e3;have ha:=Z (λ_=>some (some (v.ownBlock,v))) rfl;have hp:Rep w S (λ_=>some (some (v.ownBlock,v))) (.row 0) p:=ha 0 Δ;have hq:Rep w S (λ_=>some (some (v.ownBlock,v))) (aI d) q:=ha 1 Δ;have hs:Rep w S (λ_=>some (some (v.ownBlock,v))) (.sl sz [enc x]) s:=ha 2 Δ;have aq:p=v:=hp.row_inv rfl (Gp (D5 t));subst aq;rw[hq.int_inv];obtain⟨A',c1,rfl,ax,am,cell,hb,ao,h1⟩:=hs.sl_inv;obtain⟨g,off,rfl,az,bc,H⟩:=hb Δ;have ac:(enc x).cells.length=sz:=am 0 Δ;let X:Cel sz:=⟨(bP sz).map (λj=>cell 0 j),Δ,λu J=>by obtain⟨j,_,rfl⟩:=eS.1 J;exact h1 0 j⟩;have ak:∀j,j<sz->(encC X)[j]? = some (cell 0 j):=λj z=>by simp[encC,X,z]
   have hX:Xk w g off (encC X):=by
    have h0:=H 0 0 Δ hz;simp only[Nat.zero_mul,bI]at h0;have af:∃D ty fr,w.heap[g]? = some (.cells D ty fr):=by
     unfold World.cell? at h0;split at h0
     ·rename_i D ty fr hh;exact⟨D,ty,fr,hh⟩
     ·cases h0
    obtain⟨D,ty,fr,hh⟩:=af;have aj:∀j,j<sz->D[off+j]? = some (cell 0 j):=λj z=>by
     have:=H 0 j Δ z;simpa[World.cell?,hh]using this
    refine⟨D,ty,fr,hh,?_,λj u J=>?_⟩
    ·have:=(aJ.1 (aj 0 hz)).1;omega
    ·have z:j<sz:=by have:=(List.getElem?_eq_some_iff.1 J).1;simpa[encC,X]using this
     rw[ak j z]at J;rw[aj j z,J]
   let l:List (Cel sz):=(bP (List.map enc a).length).map λk=>⟨(bP sz).map λj=>us.getD (k*sz+j) (.bool true),Δ,λu J=>by
    obtain⟨j,_,rfl⟩:=eS.1 J;rw[aA];cases hq:us[k*sz+j]? with
    |none=>rfl
    |some u=>exact ae u (mem_of_getElem? hq)⟩
   have B:l.length=(List.map enc a).length:=by simp[l]
   have aw:l.flatMap encC=us:=by
    have:=y47 (sz:=sz) (.bool true) us (List.map enc a).length t.1;rw[<-this];simp[l,encC,flatMap_map]
   have ho:Own w w0.heap.size e sz encC p l:=by
    show w.ownsRow _ e sz p l.length (l.flatMap encC);rw[aw,B];exact t
   obtain⟨A,c,ar,ba,_⟩:=ho.val;subst ar;have hi:d<=l.length:=by rw[B,aC];exact hc.2.1
   rw[hP];refine(any l X d w0.heap.size A c g off c1 w ho hX (by simpa using ax) (λe=>O g e az) hi (by rw[B,aC];exact hc.2.2) an.size).mono ?_;rintro ed w' ⟨A2,c2,rfl,au,L,ay⟩;have Q:(List.take d l++X::bQ d l).length=(List.map enc (List.take d a++x::bQ d a)).length:=by
    simp[B]
   have ad:∀b,(Value.slice A2 (List.take d l++X::bQ d l).length c2).ownBlock=some b->(Value.slice A l.length c).ownBlock=some b\/w.heap.size<=b:=λb hb=>by
    rcases ay with h|h
    ·exact bJ (h▸hb)
    ·rw[h]at hb;injection hb with hb;exact aN Ω
   have U:w'.ownsRow w0.heap.size e sz (Value.slice A2 (List.take d l++X::bQ d l).length c2) (List.take d l++X::bQ d l).length ((List.take d l++X::bQ d l).flatMap encC):=au;have ai:∀y∈a,(enc y).cells.length=sz:=λy hy=>by
    obtain⟨k,I,rfl⟩:=mem_iff_getElem.1 hy;have:=ag k (by simpa using I);simpa using this
   -- every element of the new row,with its cells
   have ah:∀k (I:k<(List.take d l++X::bQ d l).length) (C:k<(List.take d a++x::bQ d a).length),((List.take d l++X::bQ d l)[k]=X/\(List.take d a++x::bQ d a)[k]=x) \/
     ∃m,∃hm:m<l.length,∃F:m<a.length,(List.take d l++X::bQ d l)[k]=l[m]/\(List.take d a++x::bQ d a)[k]=a[m]:=λk I C=>by
    have bb:l.length=a.length:=by rw[B,aC]
    by_cases h1:k<d
    ·refine aN ⟨k,Ω,Ω,?_,?_⟩
     ·rw[bR Ψ];simp
     ·rw[bR Ψ];simp
    ·by_cases h2:k=d
     ·refine bJ ⟨?_,?_⟩
      ·rw[aO Ψ];simp only[bD,show k-min d l.length=0 by omega,aT]
      ·rw[aO Ψ];simp only[bD,show k-min d a.length=0 by omega,aT]
     ·refine aN ⟨k-1,by simp at I;omega,by simp at C;omega,?_,?_⟩
      ·rw[aO Ψ];simp only[bD,show k-min d l.length=(k-1-d)+1 by omega,cQ,getElem_drop];congr 1;omega
      ·rw[aO Ψ];simp only[bD,show k-min d a.length=(k-1-d)+1 by omega,cQ,getElem_drop];congr 1;omega
   refine⟨_,_,(List.take d l++X::bQ d l).flatMap encC,rfl,L,by rw[<-Q];exact U,λh=>(by cases h),ad,λk I=>?_,λk I j z=>?_,λu J=>?_,λγ' ab=>.row ab (λg s e _=>by injection e with e;injection e with _ e)⟩
   ·have C:k<(List.take d a++x::bQ d a).length:=by simpa using I
    rw[aH];rcases ah k (by rw[Q];exact I) C with⟨_,h⟩|⟨m,hm,F,_,h⟩
    ·rw[h];exact ac
    ·rw[h];exact ai _ (aX F)
   ·have C:k<(List.take d a++x::bQ d a).length:=by simpa using I
    have W:k<(List.take d l++X::bQ d l).length:=by rw[Q];exact I
    have al:∀b,S b->b<w.heap.size->w'.heap[b]? = w.heap[b]? /\ ((S b\/w.heap.size<=b)/\(Value.slice A2 (List.take d l++X::bQ d l).length c2).ownBlock≠some b):=λb hS V =>
     ⟨L.block b V (λe=>O b e.symm hS),bJ hS,λe=>by
      rcases ad b e with h|h
      ·exact O b h hS
      ·omega⟩
    simp only[aH]at z ⊢;rcases ah k W C with⟨aa,N⟩|⟨m,hm,F,aa,N⟩
    ·simp only[N]at z ⊢;have G:j<sz:=Ω
     have Y:=Y7 (enc:=encC (n:=sz)) (λy _=>y.2.1) k W j G (cell 0 j) (by rw[aa];exact ak j G);rw[aA,Y];have:=ao 0 Δ j z;exact Rep.mono this L.size al
    ·simp only[N]at z ⊢;have G:j<sz:=by rw[ai _ (aX F)]at z;exact z
     have av:(encC l[m])[j]? = some (us.getD (m*sz+j) undef):=by
      have V:m*sz+j<us.length:=by
       rw[t.1,<-B];have:(m+1)*sz<=l.length*sz:=aK _ hm;rw[aP]at this;omega
      simp[l,encC,G,aD V]
     have Y:=Y7 (enc:=encC (n:=sz)) (λy _=>y.2.1) k W j G _ (by rw[aa];exact av);rw[aA,Y];have:=ap m (by simpa using F) j (by simpa using z);simp only[aH]at this;exact Rep.mono this L.size al
   ·obtain⟨y,_,hy⟩:=mem_flatMap.1 J;exact y.2.2 u hy
  ·cases M
 ·cases M
section
variable {cx:Cx} {o:Oper} {σ:AS}
theorem LeX.arr {nt:Nat}{σ:AS}(r ety:Nat){m:Nat}(hr:σ.find r=some (.row ty 1 (replicate m .nils))):LeX E nt σ (σ.rpAll r Dw (.cont m r) (.are ty ((bP m).map some) (replicate m (.row ety 1 [])))):=by
 refine LeX.rpAll r Dw (.cont m r) _ _ hr (λty cs h=>by cases h) (λcx γ a w d aa hd he=>?_);obtain⟨s,us,S,D,l,W,N,F⟩:=he;subst S;obtain⟨I,H⟩:=I9 l;rw[length_replicate]at l;have M:us.length=m:=by have:=l.1;omega
 have q:∀k,k<m->us.getD k undef=.slice none 0 0:=λk p=>by
  have:=N k (by simpa using p) 0 (by simp[bE]);simp only[cR,bE,aT,Nat.mul_one,bI]at this;exact this.nils_inv
 have z:∀k,us.toArray.getD k undef=us.getD k undef:=λk=>by simp[aF,aA]
 have y:∀k b,B8 (us.toArray.getD k undef)≠some b:=λk b A=>by
  rw[z]at A;by_cases p:k<m
  ·rw[q k p]at A;simp[B8]at A
  ·rw[aA,cY Ω]at A;simp[undef,B8]at A
 refine⟨arnV s us.toArray,λb A=>?_,λS' hS ab=>⟨⟨s,us.toArray,us,rfl,D,by simp[M],by rw[aC,length_range];exact l,F,λk p=>?_,λj G=>?_,λi j b hi=>absurd hi (y i b),λi b _=>y i b⟩,λγ' x v B C V Y=>?_⟩⟩
 ·rcases mem_arnV.1 A with h|⟨j,h⟩
  ·exact(Ey I H).2 h
  ·exact absurd h (y j b)
 ·have O:k<m:=by simpa using p
  simp only[aH,getElem_range];refine⟨(λh=>by cases h),λj G=>?_⟩;injection G with G
  subst G;exact⟨by simpa using O,(z k).symm⟩
 ·have Q:j<m:=by simpa using G
  rw[cR,z,q j Q];exact⟨(by intro h;cases h),rfl,[],World.ownsRow_nil _ _ _ _,λk p=>absurd p Δ,λk p=>absurd p Δ,λu Z=>by cases Z⟩
 ·have J:x=.row r:=by
   cases x with
   |row i=>simp only[AV.leafId,aL]at V;rw[V]
   |_=>simp[Dw]at C
  subst J;have L:v=s:=Y.row_inv hd (Gp D);subst L;refine .cont B (λg s' e=>?_) ?_
  ·injection e with e
   injection e with _ e
   subst e;simp only[Dv.of,con0]
  ·rcases l.2 with⟨t,h0⟩|⟨g,U,ac,t,_⟩
   ·exact⟨none,0,by rw[t,h0],λh=>by omega⟩
   ·exact⟨_,U,t,λ_=>⟨g,0,rfl⟩⟩
theorem y6r {S:Nat->Prop}{γ:Gam}{id:Nat}{v s:Value}{vs:Array Value}(h:Rep w S γ (.cont n id) v)(j:γ id=some (arnV s vs)):v=s/\∃A c,s=.slice A n c:=by
 cases h with
 |cont h a d =>
  rw[j]at h;injection h with h
  have e:=a none (.agg (#[s]++vs)) h.symm;simp only[Dv.of,con0]at e;obtain⟨A,c,b,_⟩:=d;exact⟨e,A,c,by rw[<-e];exact b⟩
end
variable {α β:Type}
section
variable {E:Env} {nt:Nat} {o:Oper} {σ:AS} {K:AV->List Nat->List (Nat×Ent)->Prop}
end
section
variable {E:Env} {nt:Nat} {R:Exit->AS->Prop} {K:List Bu}
end
section
variable {α β κ ν:Type} {E:Env} {nt:Nat}
variable {m:Ars (List (κ×ν))}
theorem LeX.fro {σ:AS}(r:Nat)(ek:κ->AV)(ev:ν->AV)(hr:σ.find r=some (.are ty m.1 (m.2.map (enO ek ev)))):LeX E nt σ (σ.rpAll r F0 (.row r) (.row ty 1 ((aval m).map λq=>.mapv (q.map (encM ek ev))))):=by
 refine LeX.rpAll r F0 _ _ _ hr (λty cs h=>by cases h) (λcx γ a w d aa hd he=>?_);obtain⟨s,vs,us,u,L,J,p,C,O,M,Q⟩:=he;have u:d=arnV s vs:=u;subst u;rw[aC]at J;obtain⟨z,y⟩:=I9 p;refine⟨some (s.ownBlock,s),(λb l=>mem_arnV.2 (bJ ((Ey z y).1 l))),λS' U S=>⟨⟨s,us,rfl,L,by rw[aC];simpa[aval]using p,λk Z=>by rw[aH];rfl,λk Z j hj=>?_,C⟩,λγ' x v A B Y hv=>?_⟩⟩
 ·have t:k<(aval m).length:=by simpa using Z
  have N:j=0:=by
   have:j<1:=by simpa[bE]using hj
   omega
  subst N;simp only[aH,bE,aT,Nat.mul_one,bI];have t:k<m.1.length:=by simpa[aval]using t
  obtain⟨q1,q2⟩:=O k t;simp only[aval,aH];cases hc:m.1[k]with
  |none=>exact(q1 hc).mono (bN _) (λb l _=>⟨rfl,U b l⟩)
  |some j =>
   obtain⟨W,q4⟩:=q2 j hc;have D:j<m.2.length:=by simpa using W
   rw[q4];simp only[aD D,aM];have h2:=(M j W).2;simp only[aH,enO]at h2;obtain⟨g,G,V,⟨es,clock,e2,e3,e4,e5⟩,e6⟩:=h2;rw[V];have hg:S' g:=S g (mem_arnV.2 (aN ⟨j,by rw[V];rfl⟩)) (λl=>Q.2 j g ((Ey z y).1 l) (by rw[V];rfl));exact .mapv G e6 g es clock e4 hg (aJ.1 e2).1 e2 e3 (λj q F=>(e5 j q F).1.mono (bN _) (λb l hl=>⟨rfl,U b l⟩)) (λj q F=>(e5 j q F).2.mono (bN _) (λb l hl=>⟨rfl,U b l⟩))
 ·have H:∃n,x=.cont n r:=by
   cases x with
   |cont n i=>simp only[AV.leafId,aL]at Y;exact⟨n,by rw[Y]⟩
   |_=>simp[F0]at B
  obtain⟨n,rfl⟩:=H;have I:v=s:=(y6r hv hd).1;subst I;exact .row A (λg s' e _=>by injection e with e;injection e with _ e)
def fro (r:Nat)(x:Option β):Option β:=x
theorem AW.froO {R:Exit->AS->Prop}{K:List Bu}{id:Nat}{c:Code}{σ:AS}{x:Option β}{y:β}(ek:κ->AV)(ev:ν->AV)(h:fro id x=some y)(r:Nat)(a:σ.find r=some (.are ty m.1 (m.2.map (enO ek ev))))(k:x=some y->AW E nt R (.code c::K) .normal (σ.rpAll r F0 (.row r) (.row ty 1 ((aval m).map λq=>.mapv (q.map (encM ek ev)))))):AW E nt R (.code c::K) .normal σ:=AW.weaken (LeX.fro r ek ev a) (k h)
end
def nlA (sz:Nat):List AV->AV |[]=>.nils |x::r=>.sl sz (x::r)
theorem y6o {T e:TypeId}(a:P.underlying T=some (.slice e))(d:Nat)(A:Option Addr)(n c:Nat):(Op.equalIn (d+1) T (.slice A n c) (.slice none 0 0)).run P w=.ok A.isNone w:=by
 unfold Op.equalIn;cases A<;>simp[run_underlying a,Result.andThen,pure]
theorem y7x {T e:TypeId}(a:P.underlying T=some (.slice e))(A:Option Addr)(n c:Nat):(Op.equal T (.slice A n c) (.slice none 0 0)).run P w=.ok A.isNone w:=y6o a 9999 A n c
section
variable {cx:Cx} {o:Oper} {σ:AS}
theorem yat {op:BinOp}{B z:Nat}{x y:Operand}{l:List AV}(q:op=.eql\/op=.neq)(j:o.op=.binOp op T x y B)(F:dok cx o=true)(t:A6 x=true)(s:A6 y=true)(D:σ.eval x=nlA sz l)(C:σ.eval y=.nils)(H:lkT cx.E.tab T=some i)(hs:i.shape=.slc e z eb) :
  Ao cx o σ (.bool (match op with|.eql=>l.isEmpty|_=>!l.isEmpty)) [] [] :=
 Bc F λτ γ ac w h1 _ p=>by
  have k:=p.ev x t;rw[h1 x (by simp[j,Op.operands]),D]at k;have h:=p.ev y s;rw[h1 y (by simp[j,Op.operands]),C]at h;have h:=h.nils_inv;obtain⟨v,_⟩:=Cr (cx.E.ok T i H) hs;cases l with
  |nil =>
   have k:=Rep.nils_inv (show Rep w (Sg cx.S0 cx.w0.heap.size γ) γ .nils _ from k);have d:=y7x (w:=w) v none 0 0;rcases q with rfl|rfl
   ·exact⟨.bool true,by simp[execOp,j,k,h,Sem.run_bind,eqGuard,binOp,d,Result.andThen,pure],.bool _⟩
   ·exact⟨.bool false,by simp[execOp,j,k,h,Sem.run_bind,eqGuard,binOp,d,Result.andThen,pure],.bool _⟩
  |cons a r =>
   obtain⟨A,c,u,_,_,cell,G,_⟩:=Rep.sl_inv (show Rep w (Sg cx.S0 cx.w0.heap.size γ) γ (.sl sz (a::r)) _ from k);obtain⟨b,off,I,_⟩:=G Δ;subst I;generalize (a::r).length=n at u;have d:=y7x (w:=w) v (some ⟨b,off,none⟩) n c;rcases q with rfl|rfl
   ·exact⟨.bool false,by simp[execOp,j,u,h,Sem.run_bind,eqGuard,binOp,d,Result.andThen,pure],.bool _⟩
   ·exact⟨.bool true,by simp[execOp,j,u,h,Sem.run_bind,eqGuard,binOp,d,Result.andThen,pure],.bool _⟩
def delK (r:Option Nat)(ps:List (AV×AV)):List (AV×AV):=match r with|some j=>ps.eraseIdx j|none=>ps
variable {ts:Array TypeId}{ps:List (AV×AV)}
theorem y0j {S:Nat->Prop}{T kt et u:TypeId}{k:AV}{vk:Value}{g:Nat}{r:Option Nat}(t:ts[0]? = some T)(C:P.underlying T=some (.map kt et))(z:Br P kt k=true)(B:Rep w S G0 k vk)(hm:Dj w S g ps)
  (J:Bt k (ps.map (·.1)) 0=some r) (I:¬S g):∃s,(Builtin.delete_ ts u #[.map (some g),vk]).run P w=.ok (.tuple #[]) { w with heap:=w.heap.setIfInBounds g s }/\Dj { w with heap:=w.heap.setIfInBounds g s } S g (delK r ps):=by
 obtain⟨es,clock,q,A,p,l⟩:=hm;have x:g<w.heap.size:=by
  rcases Nat.lt_or_ge g w.heap.size with h|h
  ·exact h
  ·rw[bH h]at q;cases q
 obtain⟨F,L⟩:=za8 z B es.toList ps r (by simpa using A) l J;have mv:∀(s:Obj) {a:AV} {v:Value},Rep w S G0 a v->Rep { w with heap:=w.heap.setIfInBounds g s } S G0 a v:=λs a v h =>
  h.mono Δ (λb D q=>⟨by
   have:b≠g:=λe=>I (e▸D)
   simp[aE,Ne.symm this],D⟩)
 cases r with
 |none =>
  refine⟨.map es clock,?_,es,clock,by simp[aE,x],by simpa[delK]using A,p,λj h y=>⟨mv _ (l j h y).1,mv _ (l j h y).2⟩⟩;simp[Builtin.delete_,t,run_underlying C,MapKept.run_getObj_map q,P2 _ z B,F,MapKept.run_setObj_map _ q,Result.andThen,pure]
 |some j =>
  have H:=L j rfl;have G:j<es.size:=by simpa using H
  have d:(es.eraseIdxIfInBounds j).toList=es.toList.eraseIdx j:=Δ
  refine⟨.map (es.eraseIdxIfInBounds j) clock,?_,es.eraseIdxIfInBounds j,clock,by simp[aE,x],?_,⟨?_,λe h=>p.2 e ?_⟩,λi h y=>?_⟩
  ·simp[Builtin.delete_,t,run_underlying C,MapKept.run_getObj_map q,P2 _ z B,F,MapKept.run_setObj_map _ q,Result.andThen,pure]
  ·have h1:(es.eraseIdxIfInBounds j).size=(es.eraseIdxIfInBounds j).toList.length:=(aQ).symm;rw[h1,d];simp only[delK,List.length_eraseIdx,aQ];rw[A]
  ·rw[d];exact List.Nodup.sublist ((List.eraseIdx_sublist _ _).map _) p.1
  ·rw[d]at h;exact mem_of_mem_eraseIdx h
  ·simp only[d,delK]at h y ⊢;rw[dA,dA];split
   ·exact⟨mv _ (l i _ _).1,mv _ (l i _ _).2⟩
   ·exact⟨mv _ (l (i+1) _ _).1,mv _ (l (i+1) _ _).2⟩
theorem y59 {kt et id:Nat}{x y:Operand}{k:AV}{ps':List (AV×AV)}{r:Option Nat}(N:o.op=.call { callee:=.builtin .delete,args:=#[x,y],argTypes:=ts })(U:ts[0]? = some T)(hd:dok cx o=true)(S:A6 x=true)(O:A6 y=true)(hx:σ.eval x=.row id)(hy:σ.eval y=k)(hl:σ.find id=some (.mp ps))
  (hT:lkT cx.E.tab T=some i) (hs:i.shape=.map kt et) (H:Br cx.P kt k=true) (hf:Bt k (ps.map (·.1)) 0=some r) (V:delK r ps=ps'):Ao cx o σ (.tup []) [id] [(id,.mp ps')]:=by
 refine⟨λid e he=>Dd he,λτ h1 h2 a w Q K ⟨γ,l⟩ hK=>C9 (λc hc=>by rw[N]at hc;cases hc) ?_⟩;have ex:=l.ev x S;rw[h1 x (by simp[N,Op.operands,Call.operands]),hx]at ex;have ey:=l.ev y O;rw[h1 y (by simp[N,Op.operands,Call.operands]),hy]at ey;obtain⟨g,hg,hv,hm⟩:=Ud l (by rw[h2 id Δ];exact hl) ex;have t:own γ g:=own.mk hg;have J:=l.ge g t;have D:∀b,Sg cx.S0 cx.w0.heap.size γ b->b≠g:=λb A e=>by
  subst e;rcases A with⟨_,h⟩|⟨_,h⟩
  ·have:=J.1.1;omega
  ·exact h t
 obtain⟨z,C,G⟩:=y0j (u:=o.type) U (Fo (cx.E.ok T i hT) hs) H (ey.flat (Oa H)) hm hf (λA=>D g A rfl);have ab:(execOp a.eval o).run cx.P w=.ok (.value (.tuple #[])) { w with heap:=w.heap.setIfInBounds g z }:=by
  simp[execOp,N,resolve,invoke,builtin,hv,C,Result.andThen,pure]
 unfold Oper.wp;rw[ab];have p:∀k,k≠g->({ w with heap:=w.heap.setIfInBounds g z }:World).heap[k]? = w.heap[k]? := λk H=>by simp[aE,Ne.symm H]
 have q:w.heap.size<=({ w with heap:=w.heap.setIfInBounds g z }:World).heap.size:=Δ
 have ac:w.drawn<=({ w with heap:=w.heap.setIfInBounds g z }:World).drawn:=bN _;have M:Below cx.w0.heap.size w ({ w with heap:=w.heap.setIfInBounds g z }:World):=⟨rfl,rfl,rfl,q,λk H=>p k (by have:=J.1.1;omega)⟩;generalize ({ w with heap:=w.heap.setIfInBounds g z }:World)=w' at *;refine hK _ _ ⟨γ,l.step (C5 hd) q (λb A Y=>⟨p b (D b A),A⟩) (λid d h=>bJ h) (λB I=>⟨rfl,λg' s aa W=>p g' ?_⟩) (λB e' v=>?_) l.inj (λb L=>⟨(l.ge b L).1,Nat.lt_of_lt_of_le (l.ge b L).2 q⟩) (l.below.trans M) (.tup #[] rfl (λj hj=>absurd hj Δ)) (λb F Y=>⟨p b (λe=>F (e▸t)),F⟩) (λ_=>ac)⟩
 ·rintro rfl;have:=l.inj _ _ _ _ _ aa hg W C3;subst this;simp[lkE]at I
 ·have Z:B=id:=by have:=Dd v;simpa using this
  subst Z;simp only[lkE,Nat.beq_refl,aL]at v;subst v;rw[V]at G;exact⟨_,hg,g,rfl,G⟩
end
variable {κ ν:Type}
def mdl [DecidableEq κ]:List (κ×ν)->κ->List (κ×ν)
 |[],_=>[]
 |(a,v)::r,k=>if k=a then r else(a,v)::mdl r k
def mde {β:Type}[DecidableEq κ](l:List (κ×ν))(k:κ)(c:List (κ×ν)->Option β):Option β:=c (mdl l k)
theorem zt5 [DecidableEq κ](ek:κ->AV)(ev:ν->AV)(t:∀a b,eqK (ek a) (ek b)=some (decide (a=b)))(k:κ):∀(l:List (κ×ν)) (i:Nat),
  ∃r,Bt (ek k) ((l.map (encM ek ev)).map (·.1)) i=some r/\(∀j,r=some j->i<=j)/\delK (r.map (· - i)) (l.map (encM ek ev))=(mdl l k).map (encM ek ev)
 |[],i=>⟨none,rfl,(λj h=>by cases h),rfl⟩
 |(a,v)::r,i=>by
  simp only[bB,encM,Bt,t,mdl];by_cases p:k=a
  ·subst p;simp only[decide_true];exact⟨some i,rfl,λj d=>by injection d with d;omega,by simp[delK]⟩
  ·rw[decide_eq_false p];obtain⟨q,h1,u,s⟩:=zt5 ek ev t k r (i+1);refine⟨q,h1,λj d=>by have:=u j d;omega,?_⟩;rw[if_neg p];cases q with
   |none=>simpa[delK,encM]using s
   |some j =>
    have x:=u j rfl;simp only[bK,delK]at s ⊢;rw[show j-i=(j-(i+1))+1 by omega,eraseIdx_cons_succ,s];rfl
section
variable {α β κ ν:Type} {E:Env} {nt:Nat} {o:Oper} {σ:AS} {K:OpK}
theorem OpX.mde [DecidableEq κ]{l:List (κ×ν)}{k:κ}{c:List (κ×ν)->Option β}{r:β}{kt et id:Nat}{ts:Array TypeId}{x y:Operand}(ek:κ->AV)(ev:ν->AV)(F:Proofs.YthbogefcfhmpgaaGreat.mde l k c=some r)(heq:∀a b,eqK (ek a) (ek b)=some (decide (a=b)))(z:o.op=.call { callee:=.builtin .delete,args:=#[x,y],argTypes:=ts })(j:ts[0]? = some T)(C:dokN E nt o.dst=true)(h:A6 x=true)(d:A6 y=true)(v:σ.eval x=.row id)(u:σ.eval y=ek k)
  (D:lkT E.tab T=some i) (hs:i.shape=.map kt et) (s:Br E.P kt (ek k)=true) (A:σ.find id=some (.mp (l.map (encM ek ev)))) (B:∀l',c l'=some r->K (.tup []) [id] [(id,.mp (l'.map (encM ek ev)))]):OpX E nt o σ K:=by
 obtain⟨q,h1,_,G⟩:=zt5 ek ev heq k l 0;refine .mk _ _ _ (λcx t p=>y59 z j (Aq C t p) h d v u A (by rw[t];exact D) hs (by rw[show cx.P=E.P by rw[<-t]];exact s) h1 ?_) (B _ F);rw[<-G];cases q<;>rfl
theorem OpX.nlq {op:BinOp}{k z:Nat}{x y:Operand}{l:List AV}(d:op=.eql\/op=.neq)(r:o.op=.binOp op T x y k)(t:dokN E nt o.dst=true)(b:A6 x=true)(a:A6 y=true)(q:σ.eval x=nlA sz l)(p:σ.eval y=.nils)(u:lkT E.tab T=some i)(hs:i.shape=.slc e z eb)
  (s:K (.bool (match op with|.eql=>l.isEmpty|_=>!l.isEmpty)) [] []):OpX E nt o σ K :=
 .mk _ _ _ (λcx j h=>yat d r (Aq t j h) b a q p (by rw[j];exact u) hs) s
end
theorem zoi (ids:List Nat)(sz:Nat)(l:List AV):(nlA sz l).inM ids=true:=by cases l<;>rfl
def nlw {β:Type}(t:Nat)(x:Option β):Option β:=x
theorem Ox {β:Type}(t:Nat)(x:Option β):nlw t x=x:=rfl
def nlz {α β:Type}(l:List α)(x:Option β):Option β:=match l with|[]=>none|_::_=>x
inductive FX (E:Env) (nt:Nat) (fn:Func) (σ:AS) (ps:List (AV×AV)):Prop
 |mk (τ:AS) (i:Nat) {ps0:List (AV×AV)} (hl:LeX E nt σ τ) (h1:retA E.tab τ fn.results.toList=some [.row i]) (h2:τ.find i=some (.mp ps0)) (hf:∀p∈ps0,p.1.flat=true/\p.2.flat=true) (hp:F8 ps0 ps)
def EndF (E:Env)(nt:Nat)(fn:Func)(ps:List (AV×AV)):Exit->AS->Prop |.normal,σ=>FX E nt fn σ ps |.ret,σ=>FX E nt fn σ ps |_,_=>False
theorem FX.o {β:Type}{nt:Nat}{fn:Func}{σ:AS}{a r:β}{en:β->List (AV×AV)}(h:some a=some r)(b:FX E nt fn σ (en a)):FX E nt fn σ (en r):=by injection h with h;subst h;exact b
theorem y3r {ek:κ->AV}{ev:ν->AV}(h:∀a,(ek a).flat=true)(b:∀a,(ev a).flat=true){l:List (κ×ν)}:∀p∈l.map (encM ek ev),p.1.flat=true/\p.2.flat=true:=λp d=>by
 obtain⟨q,_,rfl⟩:=eS.1 d;exact⟨h _,b _⟩
variable {ps:List (AV×AV)}
theorem ConF.walk {fn:Func}{args:List AV}(c:Code)(J:E.P.funcs[f]? = some fn)(M:fn.body=some c)(L:Cd E f)(D:Nat.ble args.length fn.ntmps=true)
  (h:AW E fn.ntmps (EndF E fn.ntmps fn ps) [.code c] .normal (E9 args)) (r:E.rg=false:=by rfl) (l:E.yl=none:=by rfl) (s:E.np=0:=by rfl)(r:E.rg=false:=by rfl) (l:E.yl=none:=by rfl) (s:E.np=0:=by rfl):Con E true f args (.mapv ps):=by
 refine⟨L,λS w vs N=>callsIn_wide.1 (callsIn_of_wp (F:=Fence.wide) (n:=0) J M trivial ?_)⟩;have Q:WP (Cx.call E S w fn.ntmps) c (EndF E fn.ntmps fn ps) (E9 args):=WP.mono (h.out (Cx.call E S w fn.ntmps) rfl rfl) λe σ H=>by cases e<;>exact H
 refine wpIn_mono (Q _ _ (Yf l s N (Nat.le_of_ble_eq_true D))) (λe a w' ⟨σ,y,p⟩=>?_);have key:FX E fn.ntmps fn σ ps->bodyPost E.P fn (λe w'=>∃v,e=.returned v/\BelE E w w'/\Rep w' (λb=>(true=false/\S b)\/w.heap.size<=b) G0 (.mapv ps) v) .ret a w':=by
  rintro ⟨τ,i,G,h1,O,u,C⟩;obtain⟨γ,d⟩:=G (Cx.call E S w fn.ntmps) rfl rfl a w' p;obtain⟨v,A,B⟩:=Tq d h1;obtain⟨g,I,x,es,clock,W,V,U,z⟩:=Ud d O B;subst x;refine⟨d.defers.d0 r,_,A,_,rfl,⟨d.below,d.dr⟩,?_⟩;have t:=d.ge g (own.mk I);exact .mapv _ C g es clock U (aN t.1.1) t.2 W V (λj q k=>(z j q k).1.flat (u _ (aX k)).1) (λj q k=>(z j q k).2.flat (u _ (aX k)).2)
 cases e with
 |normal=>exact key y
 |ret=>exact key y
 |_=>exact y.elim
section
variable {cx:Cx} {o:Oper} {σ:AS}
theorem y05 {kt et:Nat}{x:Operand}(p:o.op=.call { callee:=.builtin .len,args:=#[x],argTypes:=#[T] })(v:dok cx o=true)(j:A6 x=true)(u:σ.eval x=.mapv ps)(s:lkT cx.E.tab T=some i)(hs:i.shape=.map kt et):Ao cx o σ (.int .i64 (ps.length:Int)) [] [] :=
 Bc v λτ γ a w h1 z l=>by
  have t:=l.ev x j;rw[h1 x (by simp[p,Op.operands,Call.operands]),u]at t;refine⟨.int .i64 (ps.length:Int),?_,.int _ _⟩;rcases mapv_val t with⟨g,h,k,_,_,⟨es,clock,y,q,_⟩,b⟩|⟨k,r⟩
  ·have d:h.length=ps.length:=by
    rcases b with b|b
    ·rw[b]
    ·exact b.1.length_eq
   rw[<-d,<-q];simp[execOp,p,resolve,invoke,builtin,Builtin.len_,k,run_underlying (Fo (cx.E.ok T i s) hs),MapKept.run_getObj_map y,goInt,pure,Result.andThen]
  ·subst r;simp[execOp,p,resolve,invoke,builtin,Builtin.len_,k,run_underlying (Fo (cx.E.ok T i s) hs),goInt,pure,Result.andThen]
end
theorem OpX.lnv {nt:Nat}{o:Oper}{σ:AS}{K:OpK}{kt et:Nat}{x:Operand}(j:o.op=.call { callee:=.builtin .len,args:=#[x],argTypes:=#[T] })(l:dokN E nt o.dst=true)(a:A6 x=true)(h:σ.eval x=.mapv ps)(p:lkT E.tab T=some i)(hs:i.shape=.map kt et)(k:K (.int .i64 (ps.length:Int)) [] []):OpX E nt o σ K :=
 .mk _ _ _ (λcx d b=>y05 j (Aq l d b) a h (by rw[d];exact p) hs) k
theorem yd9 {α β:Type}{l:List α}{x:Option β}{r:β}{P:Prop}(h:nlz l x=some r)(k:∀a t,l=a::t->x=some r->P):P:=by
 unfold nlz at h;split at h
 ·cases h
 ·exact k _ _ rfl h
attribute [irreducible] fro mde nlw nlz
end Go.Proofs.YthbogefcfhmpgaaGreat
