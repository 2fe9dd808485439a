/- What some functions compute, over plain values. -/
import Derived.Test.YtkoamfnbbhfaiaaGreatDoorK18
import Derived.Shelf.SlSortCmp.NoneTotal
import Derived.Sort.OwnSorted
set_option linter.unusedVariables false
set_option linter.unusedSimpArgs false
set_option maxRecDepth 100000
set_option maxHeartbeats 8000000
namespace Go.Proofs
open Go.Shelf
open Tryz renaming underlying116->bQ,underlying256->bR,underlying257->bS,underlying261->bT,underlying162->bU,underlying165->bV,underlying298->bW,underlying302->bX,underlying330->bY,underlying215->bZ,zeroValue116->cC,zeroValue256->cD,zeroValue257->cE,zeroValue261->cF,zeroValue162->cG,zeroValue165->cH,zeroValue298->cI,zeroValue302->cJ,zeroValue330->cK,zeroValue215->cL,underlying0->cO,underlying3->cP,underlying4->cQ,underlying5->cR,underlying9->cS,zeroValue0->cX,zeroValue3->cY,zeroValue4->cZ,zeroValue5->dA,zeroValue9->dB,sizeOf116->dF,sizeOf256->dG,sizeOf257->dH,sizeOf261->dI,sizeOf162->dJ,sizeOf165->dK,sizeOf298->dL,sizeOf302->dM,sizeOf330->dN,sizeOf215->dO,isAgg116->dP,isAgg256->dQ,isAgg257->dR,isAgg261->dS,isAgg162->dU,isAgg165->dV,isAgg298->dW,isAgg302->dX,isAgg330->dY,isAgg215->dZ,sizeOf0->eH,sizeOf3->eI,sizeOf4->eJ,sizeOf5->eK,sizeOf9->eL,isAgg0->eT,isAgg3->eU,isAgg4->eV,isAgg5->eW,isAgg9->eX
def Tryz.laysSlF06_f133_ren:Go.Shelf.Ren:=⟨fun|6=>133|15=>116|14=>191|28=>165|29=>166|20=>232|21=>233|22=>234|23=>235|24=>236|25=>237|26=>238|27=>239|46=>265|47=>216|48=>217|49=>266|50=>267|57=>298|n=>n,fun|22=>66|24=>99|25=>181|3=>3|39=>116|0=>0|53=>162|55=>165|4=>4|46=>257|45=>256|50=>261|5=>5|9=>9|66=>298|70=>302|76=>330|77=>215|n=>n,fun|n=>n⟩
theorem Tryz.laysSlF06_f133:Go.Proofs.SlLaysF0.n6 Tryz.prog Tryz.laysSlF06_f133_ren:={
 mixed:=by kernel_rfl
 f6:=⟨Tryz.f133.name,by decide,Tryz.func133.trans (congrArg some (by kernel_rfl))⟩
 f14:=⟨Tryz.f191.name,by decide,Tryz.func191.trans (congrArg some (by kernel_rfl))⟩
 f15:=Tryz.func116.trans (congrArg some (by kernel_rfl))
 f20:=⟨Tryz.f232.name,by decide,Tryz.func232.trans (congrArg some (by kernel_rfl))⟩
 f21:=⟨Tryz.f233.name,by decide,Tryz.func233.trans (congrArg some (by kernel_rfl))⟩
 f22:=⟨Tryz.f234.name,by decide,Tryz.func234.trans (congrArg some (by kernel_rfl))⟩
 f23:=⟨Tryz.f235.name,by decide,Tryz.func235.trans (congrArg some (by kernel_rfl))⟩
 f24:=⟨Tryz.f236.name,by decide,Tryz.func236.trans (congrArg some (by kernel_rfl))⟩
 f25:=⟨Tryz.f237.name,by decide,Tryz.func237.trans (congrArg some (by kernel_rfl))⟩
 f26:=⟨Tryz.f238.name,by decide,Tryz.func238.trans (congrArg some (by kernel_rfl))⟩
 f27:=⟨Tryz.f239.name,by decide,Tryz.func239.trans (congrArg some (by kernel_rfl))⟩
 f28:=Tryz.func165.trans (congrArg some (by kernel_rfl))
 f29:=Tryz.func166.trans (congrArg some (by kernel_rfl))
 f46:=⟨Tryz.f265.name,by decide,Tryz.func265.trans (congrArg some (by kernel_rfl))⟩
 f47:=Tryz.func216.trans (congrArg some (by kernel_rfl))
 f48:=Tryz.func217.trans (congrArg some (by kernel_rfl))
 f49:=⟨Tryz.f266.name,by decide,Tryz.func266.trans (congrArg some (by kernel_rfl))⟩
 f50:=⟨Tryz.f267.name,by decide,Tryz.func267.trans (congrArg some (by kernel_rfl))⟩
 f57:=⟨Tryz.f298.name,by decide,Tryz.func298.trans (congrArg some (by kernel_rfl))⟩
 t0:=cO
 a0:=eT
 z0:=eH
 v0:=cX
 t3:=cP
 a3:=eU
 z3:=eI
 v3:=cY
 t4:=cQ
 a4:=eV
 z4:=eJ
 v4:=cZ
 t5:=cR
 a5:=eW
 z5:=eK
 v5:=dA
 t9:=cS
 a9:=eX
 z9:=eL
 v9:=dB
 t22:=Tryz.underlying66
 a22:=Tryz.isAgg66
 z22:=Tryz.sizeOf66
 v22:=Tryz.zeroValue66
 t25:=Tryz.underlying181
 a25:=Tryz.isAgg181
 z25:=Tryz.sizeOf181
 v25:=Tryz.zeroValue181
 t39:=bQ
 a39:=dP
 z39:=dF
 v39:=cC
 t45:=bR
 a45:=dQ
 z45:=dG
 v45:=cD
 t46:=bS
 a46:=dR
 z46:=dH
 v46:=cE
 t50:=bT
 a50:=dS
 z50:=dI
 v50:=cF
 t53:=bU
 a53:=dU
 z53:=dJ
 v53:=cG
 t55:=bV
 a55:=dV
 z55:=dK
 v55:=cH
 t66:=bW
 a66:=dW
 z66:=dL
 v66:=cI
 t70:=bX
 a70:=dX
 z70:=dM
 v70:=cJ
 t76:=bY
 a76:=dY
 z76:=dN
 v76:=cK
 t77:=bZ
 a77:=dZ
 z77:=dO
 v77:=cL }
def Tryz.laysSlF06_f68_ren:Go.Shelf.Ren:=⟨fun|6=>68|15=>116|14=>115|28=>165|29=>166|20=>157|21=>158|22=>159|23=>160|24=>161|25=>162|26=>163|27=>164|46=>215|47=>216|48=>217|49=>218|50=>219|57=>256|n=>n,fun|22=>49|24=>91|25=>88|3=>3|39=>116|0=>0|53=>162|55=>165|4=>4|46=>257|45=>256|50=>261|5=>5|9=>9|66=>298|70=>302|76=>330|77=>215|n=>n,fun|n=>n⟩
theorem Tryz.laysSlF06_f68:Go.Proofs.SlLaysF0.n6 Tryz.prog Tryz.laysSlF06_f68_ren:={
 mixed:=by kernel_rfl
 f6:=⟨Tryz.f68.name,by decide,Tryz.func68.trans (congrArg some (by kernel_rfl))⟩
 f14:=⟨Tryz.f115.name,by decide,Tryz.func115.trans (congrArg some (by kernel_rfl))⟩
 f15:=Tryz.func116.trans (congrArg some (by kernel_rfl))
 f20:=⟨Tryz.f157.name,by decide,Tryz.func157.trans (congrArg some (by kernel_rfl))⟩
 f21:=⟨Tryz.f158.name,by decide,Tryz.func158.trans (congrArg some (by kernel_rfl))⟩
 f22:=⟨Tryz.f159.name,by decide,Tryz.func159.trans (congrArg some (by kernel_rfl))⟩
 f23:=⟨Tryz.f160.name,by decide,Tryz.func160.trans (congrArg some (by kernel_rfl))⟩
 f24:=⟨Tryz.f161.name,by decide,Tryz.func161.trans (congrArg some (by kernel_rfl))⟩
 f25:=⟨Tryz.f162.name,by decide,Tryz.func162.trans (congrArg some (by kernel_rfl))⟩
 f26:=⟨Tryz.f163.name,by decide,Tryz.func163.trans (congrArg some (by kernel_rfl))⟩
 f27:=⟨Tryz.f164.name,by decide,Tryz.func164.trans (congrArg some (by kernel_rfl))⟩
 f28:=Tryz.func165.trans (congrArg some (by kernel_rfl))
 f29:=Tryz.func166.trans (congrArg some (by kernel_rfl))
 f46:=⟨Tryz.f215.name,by decide,Tryz.func215.trans (congrArg some (by kernel_rfl))⟩
 f47:=Tryz.func216.trans (congrArg some (by kernel_rfl))
 f48:=Tryz.func217.trans (congrArg some (by kernel_rfl))
 f49:=⟨Tryz.f218.name,by decide,Tryz.func218.trans (congrArg some (by kernel_rfl))⟩
 f50:=⟨Tryz.f219.name,by decide,Tryz.func219.trans (congrArg some (by kernel_rfl))⟩
 f57:=⟨Tryz.f256.name,by decide,Tryz.func256.trans (congrArg some (by kernel_rfl))⟩
 t0:=cO
 a0:=eT
 z0:=eH
 v0:=cX
 t3:=cP
 a3:=eU
 z3:=eI
 v3:=cY
 t4:=cQ
 a4:=eV
 z4:=eJ
 v4:=cZ
 t5:=cR
 a5:=eW
 z5:=eK
 v5:=dA
 t9:=cS
 a9:=eX
 z9:=eL
 v9:=dB
 t22:=Tryz.underlying49
 a22:=Tryz.isAgg49
 z22:=Tryz.sizeOf49
 v22:=Tryz.zeroValue49
 t25:=Tryz.underlying88
 a25:=Tryz.isAgg88
 z25:=Tryz.sizeOf88
 v25:=Tryz.zeroValue88
 t39:=bQ
 a39:=dP
 z39:=dF
 v39:=cC
 t45:=bR
 a45:=dQ
 z45:=dG
 v45:=cD
 t46:=bS
 a46:=dR
 z46:=dH
 v46:=cE
 t50:=bT
 a50:=dS
 z50:=dI
 v50:=cF
 t53:=bU
 a53:=dU
 z53:=dJ
 v53:=cG
 t55:=bV
 a55:=dV
 z55:=dK
 v55:=cH
 t66:=bW
 a66:=dW
 z66:=dL
 v66:=cI
 t70:=bX
 a70:=dX
 z70:=dM
 v70:=cJ
 t76:=bY
 a76:=dY
 z76:=dN
 v76:=cK
 t77:=bZ
 a77:=dZ
 z77:=dO
 v77:=cL }
end Go.Proofs
namespace Go.Proofs.YtkoamfnbbhfaiaaGreatDoor
open Go.RowKit List
open List renaming getD_eq_getElem?_getD->aA,drop_eq_nil_of_le->aB,length_map->aC,getElem?_eq_getElem->aE,getElem_append_right->aJ,getElem_map->aS,getElem?_take_of_lt->aT,length_take->aY,length_cons->aZ,getElem?_toArray->bA,map_cons->bB,length_nil->bD,getElem_mem->bI,drop->bK,getElem_append_left->bL,pairwise_cons->bM,getElem?_drop->bN,range->bO,getElem_cons_zero->cM,getElem_cons_succ->cN,drop_zero->cU,replicate->cV,map_nil->eN
open IntKind renaming wrap->aD
open Nat renaming mul_le_mul_right->aF,succ_mul->aK,mul_comm->aO,div_lt_of_lt_mul->bG,le_refl->bH,div_add_mod->cW,add_zero->eG,beq->eY
open _root_.Array renaming getD_eq_getD_getElem?->aG,getElem?_eq_some_iff->aH,getElem?_toList->aP,getElem?_modify->aQ,getElem?_eq_getElem->aW,length_toList->bJ,extract_size->bP
open Option renaming getD_some->aL,map_some->dC
open Or renaming inr->aM,inl->bC
open Con renaming walk->aN
open Int renaming natCast_zero->aR
open AW renaming step->aU
open RetX renaming oB->aV
open Option.some renaming injEq->aX
open _root_.Go.Proofs.Tryz renaming func58->bE,func93->bF,underlying116->bQ,underlying256->bR,underlying257->bS,underlying261->bT,underlying162->bU,underlying165->bV,underlying298->bW,underlying302->bX,underlying330->bY,underlying215->bZ,zeroValue116->cC,zeroValue256->cD,zeroValue257->cE,zeroValue261->cF,zeroValue162->cG,zeroValue165->cH,zeroValue298->cI,zeroValue302->cJ,zeroValue330->cK,zeroValue215->cL,underlying0->cO,underlying3->cP,underlying4->cQ,underlying5->cR,underlying9->cS,zeroValue0->cX,zeroValue3->cY,zeroValue4->cZ,zeroValue5->dA,zeroValue9->dB,sizeOf116->dF,sizeOf256->dG,sizeOf257->dH,sizeOf261->dI,sizeOf162->dJ,sizeOf165->dK,sizeOf298->dL,sizeOf302->dM,sizeOf330->dN,sizeOf215->dO,isAgg116->dP,isAgg256->dQ,isAgg257->dR,isAgg261->dS,isAgg162->dU,isAgg165->dV,isAgg298->dW,isAgg302->dX,isAgg330->dY,isAgg215->dZ,func138->eC,func100->eD,func137->eE,func136->eF,sizeOf0->eH,sizeOf3->eI,sizeOf4->eJ,sizeOf5->eK,sizeOf9->eL,func98->eO,func99->eQ,func97->eR,func96->eS,isAgg0->eT,isAgg3->eU,isAgg4->eV,isAgg5->eW,isAgg9->eX
open AV renaming closedL->cA,cells->dE,closedL_at->eB
open Ag renaming o->cB
open Bool renaming and_eq_true->cT,not_true->eA
def Tu (n:Nat)(a:Int):Option (Bool):=some (!decide (a=a))
def Fj (n:Nat)(b:Int)(a:Int):Option (Int):=bnd (Tu n b) fun e=>bnd (Tu n a) fun d=>cnd (e) (cnd (d) (some 0)<|some (-1))<|cnd (d) (some 1)<|cnd (decide (b<a)) (some (-1))<|cnd (decide (a<b)) (some 1)<|some 0
def Q9 (n:Nat)(a:(List Int))(b:Option (Int)):Nat->Int->Option (Int) |0,_=>none |d+1,c=>cnd (decide (c<((a.map aI).length:Int))) (idx a c fun e=>cnd (!decide (e=0)) (some e)<|(Q9 n a b d) (aD .i64 (c+1)))<|b
def Gg (n:Nat)(a:(List Int)):Option (Int):=Q9 n a (some 0) n 0
def Ts (n:Nat)(b:Bt)(a:Bt):Option (Int):=bnd (Fj n b.fTime a.fTime) fun i=>bnd (Fj n b.fSource a.fSource) fun h=>bnd (Fj n b.fSeq a.fSeq) fun e=>bnd (Gg n ([i,h,e])) fun d=>some d
def Ss (n:Nat)(b:C2)(a:C2):Option (Int):=bnd (Ts n b.fRef a.fRef) fun h=>bnd (Fj n b.fVar a.fVar) fun e=>bnd (Gg n ([h,e])) fun d=>some d
def Nr (n:Nat)(a:(List C2))(h:(List C2))(c:Option (Int)):Nat->Int->Option (Int) |0,_=>none |d+1,b=>cnd (decide (b<((h.map B9).length:Int))) (idx h b fun f=>cnd (decide (((a.map B9).length:Int)<=b)) (some 1)<|idx a b fun g=>bnd (Ss n f g) fun e=>cnd (!decide (e=0)) (some e)<|(Nr n a h c d) (aD .i64 (b+1)))<|c
def S3 (n:Nat)(b:(List C2))(a:(List C2)):Option (Int):=Nr n a b (cnd (decide (((b.map B9).length:Int)<((a.map B9).length:Int))) (some (-1))<|some 0) n 0
def Td (n:Nat)(d:A8)(b:A8):Option (Int):=bnd (S3 n d.fBindings b.fBindings) fun a=>some a
def Tc (n:Nat)(b:Ah)(a:Ah):Option (Int):=bnd (Fj n b.fScope a.fScope) fun h=>bnd (Fj n b.fTime a.fTime) fun e=>bnd (Gg n ([h,e])) fun d=>some d
def N4 (n:Nat)(a:(List Ah))(h:(List Ah))(c:Option (Int)):Nat->Int->Option (Int) |0,_=>none |d+1,b=>cnd (decide (b<((h.map Ae).length:Int))) (idx h b fun f=>cnd (decide (((a.map Ae).length:Int)<=b)) (some 1)<|idx a b fun g=>bnd (Tc n f g) fun e=>cnd (!decide (e=0)) (some e)<|(N4 n a h c d) (aD .i64 (b+1)))<|c
def Rm (n:Nat)(b:(List Ah))(a:(List Ah)):Option (Int):=N4 n a b (cnd (decide (((b.map Ae).length:Int)<((a.map Ae).length:Int))) (some (-1))<|some 0) n 0
def Wa (n:Nat)(b:A4)(a:A4):Option (Int):=bnd (Fj n b.fState a.fState) fun i=>bnd (Td n (⟨b.fBindings⟩:A8) (⟨a.fBindings⟩:A8)) fun h=>bnd (Rm n b.fStarts a.fStarts) fun e=>bnd (Gg n ([i,h,e])) fun d=>some d
noncomputable section
abbrev zep {n a b}:=li (Q9 n a b) (fun c=>⟨[(3,aI 0),(6,.sl 1 (a.map aI)),(7,aI (((a.map aI).length:Int))),(8,aI c)],[]⟩) fun _ _=>Q9.eq_2 ..
abbrev z2b {n d a b}:=li (Nr n d a b) (fun c=>⟨[(0,.sl 4 (a.map B9)),(1,.sl 4 (d.map B9)),(2,.fn 97 []),(11,.sl 4 (a.map B9)),(12,aI (((a.map B9).length:Int))),(13,aI c)],[]⟩) fun _ _=>Nr.eq_2 ..
abbrev z0m {n d a b}:=li (N4 n d a b) (fun c=>⟨[(0,.sl 2 (a.map Ae)),(1,.sl 2 (d.map Ae)),(2,.fn 137 []),(11,.sl 2 (a.map Ae)),(12,aI (((a.map Ae).length:Int))),(13,aI c)],[]⟩) fun _ _=>N4.eq_2 ..
attribute [instance] zep z2b z0m
def z7w (r:Bool):AV:=.bool (r)
theorem za0 {n b r}(a:Tu n b=some r):Con E0d true 138 [aI b] (z7w r):=by
 unfold Tu at a;refine aN _ eC rfl (B7 eC rfl rfl) rfl (aM rfl) ?_;repeat' first
  |refine aU ?_;conv=>whnf
  |exact aV a
def Tj (r:Int):AV:=aI (r)
theorem W6 {n e d r}(b:Fj n e d=some r):Con E0d true 100 [aI e,aI d] (Tj r):=by
 unfold Fj at b;refine aN _ eD rfl (B7 eD rfl rfl) rfl (aM rfl) ?_;repeat' first
  |refine aU ?_;conv=>whnf
  |refine Ac.o b (fun b=>?_) fun b=>?_
  |refine cB b z7w (fun a h=>za0 h) (fun a b=>?_)
  |exact aV b
def Ue (r:Int):AV:=aI (r)
theorem Wj {n b r}(a:Gg n b=some r):Con E0d true 98 [.sl 1 (b.map aI)] (Ue r):=by
 unfold Gg at a;refine aN _ eO rfl (B7 eO rfl rfl) rfl (aM rfl) ?_;repeat' first
  |refine aU ?_;conv=>whnf
  |refine Ac.o a (fun a=>?_) fun a=>?_
  |refine IdxX.A a fun x a=>?_
  |exact ⟨_,a,LeX.a []⟩
  |refine B5.I a (LeX.a []) fun m v a=>?_
  |exact aV a
def z78 (r:Int):AV:=aI (r)
theorem z8n {n e d r}(b:Ts n e d=some r):Con E0d true 99 [C3 e,C3 d] (z78 r):=by
 unfold Ts at b;refine aN _ eQ rfl (B7 eQ rfl rfl) rfl (aM rfl) ?_;repeat' first
  |refine aU ?_;conv=>whnf
  |refine cB b Tj (fun a h=>W6 h) (fun a b=>?_)
  |refine cB b Ue (fun a h=>Wj h) (fun a b=>?_)
  |refine AndA ?_
  |exact aV b
def z18 (r:Int):AV:=aI (r)
theorem z5w {n e d r}(b:Ss n e d=some r):Con E0d true 97 [B9 e,B9 d] (z18 r):=by
 unfold Ss at b;refine aN _ eR rfl (B7 eR rfl rfl) rfl (aM rfl) ?_;repeat' first
  |refine aU ?_;conv=>whnf
  |refine cB b z78 (fun a h=>z8n h) (fun a b=>?_)
  |refine cB b Tj (fun a h=>W6 h) (fun a b=>?_)
  |refine cB b Ue (fun a h=>Wj h) (fun a b=>?_)
  |refine AndA ?_
  |exact aV b
def z06 (r:Int):AV:=aI (r)
theorem z3k {n e d r}(b:S3 n e d=some r):Con E0d true 96 [.sl 4 (e.map B9),.sl 4 (d.map B9),.fn 97 []] (z06 r):=by
 unfold S3 at b;refine aN _ eS rfl (B7 eS rfl rfl) rfl (aM rfl) ?_;repeat' first
  |refine aU ?_;conv=>whnf
  |refine Ac.o b (fun b=>?_) fun b=>?_
  |refine IdxX.A b fun x b=>?_
  |refine cB b z18 (fun a h=>z5w h) (fun a b=>?_)
  |exact ⟨_,b,LeX.a []⟩
  |refine B5.I b (LeX.a []) fun m v b=>?_
  |exact aV b
def z3m (r:Int):AV:=aI (r)
theorem z15 {n e d r}(b:Td n e d=some r):Con E0d true 58 [Ap e,Ap d] (z3m r):=by
 unfold Td at b;refine aN _ bE rfl (B7 bE rfl rfl) rfl (aM rfl) ?_;repeat' first
  |refine aU ?_;conv=>whnf
  |refine cB b z06 (fun a h=>z3k h) (fun a b=>?_)
  |exact aV b
def z3l (r:Int):AV:=aI (r)
theorem z7b {n e d r}(b:Tc n e d=some r):Con E0d true 137 [Ae e,Ae d] (z3l r):=by
 unfold Tc at b;refine aN _ eE rfl (B7 eE rfl rfl) rfl (aM rfl) ?_;repeat' first
  |refine aU ?_;conv=>whnf
  |refine cB b Tj (fun a h=>W6 h) (fun a b=>?_)
  |refine cB b Ue (fun a h=>Wj h) (fun a b=>?_)
  |refine AndA ?_
  |exact aV b
def z04 (r:Int):AV:=aI (r)
theorem z12 {n e d r}(b:Rm n e d=some r):Con E0d true 136 [.sl 2 (e.map Ae),.sl 2 (d.map Ae),.fn 137 []] (z04 r):=by
 unfold Rm at b;refine aN _ eF rfl (B7 eF rfl rfl) rfl (aM rfl) ?_;repeat' first
  |refine aU ?_;conv=>whnf
  |refine Ac.o b (fun b=>?_) fun b=>?_
  |refine IdxX.A b fun x b=>?_
  |refine cB b z3l (fun a h=>z7b h) (fun a b=>?_)
  |exact ⟨_,b,LeX.a []⟩
  |refine B5.I b (LeX.a []) fun m v b=>?_
  |exact aV b
def zab (r:Int):AV:=aI (r)
theorem z81 {n e d r}(b:Wa n e d=some r):Con E0d true 93 [Ak e,Ak d] (zab r):=by
 unfold Wa at b;refine aN _ bF rfl (B7 bF rfl rfl) rfl (aM rfl) ?_;repeat' first
  |refine aU ?_;conv=>whnf
  |refine cB b Tj (fun a h=>W6 h) (fun a b=>?_)
  |refine cB b z3m (fun a h=>z15 h) (fun a b=>?_)
  |refine cB b z04 (fun a h=>z12 h) (fun a b=>?_)
  |refine cB b Ue (fun a h=>Wj h) (fun a b=>?_)
  |refine AndA ?_
  |exact aV b
end
open Go.Sort (SWO PermIn SortedIn HoldsK flatK putRowK putRow putCells grow mapBlock onCells size_flatK get_flatK heap_grow_old)
section
variable {T:Type}
def insF (cmp:T->T->Int)(x:T):List T->List T
 |[]=>[x]
 |y::l=>match ltOf cmp y x with
  |true=>y::insF cmp x l
  |false=>x::y::l
def Fb (cmp:T->T->Int):List T->List T |[]=>[] |x::l=>insF cmp x (Fb cmp l)
def R7 [DecidableEq T](cmp:T->T->Int)(n:Nat)(l:List T):Option (List T) :=
 if l.length<=1000000000/\∀ x∈l,∀ y∈l,ltOf cmp x y=false->ltOf cmp y x=false->x=y then some (Fb cmp l) else none
theorem Zw (cmp:T->T->Int)(x:T):∀ l:List T,(insF cmp x l).Perm (x::l)
 |[]=>.refl _
 |y::l=>by
  unfold insF;cases ltOf cmp y x with
  |true=>exact ((Zw cmp x l).cons y).trans (.swap x y l)
  |false=>exact .refl _
theorem Mb (cmp:T->T->Int):∀ l:List T,(Fb cmp l).Perm l
 |[]=>.refl _
 |x::l=>(Zw cmp x _).trans ((Mb cmp l).cons x)
variable {cmp:T->T->Int}
theorem z9p (b:SWO (ltOf cmp))(x:T):∀ l:List T,l.Pairwise (fun x y=>ltOf cmp y x=false)->(insF cmp x l).Pairwise (fun x y=>ltOf cmp y x=false)
 |[],_=>by simp [insF]
 |y::l,h=>by
  obtain ⟨h1,i⟩:=bM.1 h;unfold insF;cases d:ltOf cmp y x with
  |true =>
   refine bM.2 ⟨fun z a=>?_,z9p b x l i⟩;rcases mem_cons.1 ((Zw cmp x l).mem_iff.1 a) with a|a
   ·subst a;cases e:ltOf cmp z y with
    |false=>rfl
    |true=>have:=b.trans _ _ _ d e;rw [b.irrefl] at this;cases this
   ·exact h1 z a
  |false =>
   refine bM.2 ⟨fun z a=>?_,h⟩;rcases mem_cons.1 a with a|a
   ·subst a;exact d
   ·exact b.ntrans _ _ _ (h1 z a) d
theorem Z0 (a:SWO (ltOf cmp)):∀ l:List T,(Fb cmp l).Pairwise (fun x y=>ltOf cmp y x=false)
 |[]=>.nil
 |x::l=>z9p a x _ (Z0 a l)
theorem zon (m:SWO (ltOf cmp)){l d:List T}(h:∀ x∈l,∀ y∈l,ltOf cmp x y=false->ltOf cmp y x=false->x=y)(e:d.Perm l)(i:d.Pairwise (fun x y=>ltOf cmp y x=false)):d=Fb cmp l :=
 Perm.eq_of_pairwise (le:=fun x y=>ltOf cmp y x=false) (fun a b k j h1 o=>h a (e.mem_iff.1 k) b ((Mb cmp l).mem_iff.1 j) o h1) i (Z0 m l) (e.trans (Mb cmp l).symm)
end
theorem zds {w w':World}(h:Below w.heap.size w w')(e:w.drawn<=w'.drawn):∃ q i,w'=grow (w.drewN q) i:=by
 refine ⟨w'.drawn-w.drawn,w'.heap.extract w.heap.size w'.heap.size,?_⟩;obtain ⟨a,tape',drawn',b,output'⟩:=w';have p:b=w.os:=h.os;have o:tape'=w.tape:=h.tape;have m:output'=w.output:=h.output;have r:w.heap.size<=a.size:=h.size;have l:∀ k,k<w.heap.size->a[k]? = w.heap[k]? := h.block;have e:w.drawn<=drawn':=e;subst p o m;have eh:a=w.heap++a.extract w.heap.size a.size:=by
  apply Array.ext_getElem?;intro k;by_cases d:k<w.heap.size
  ·rw [Array.getElem?_append_left d];exact l k d
  ·rw [Array.getElem?_append_right (by omega),Array.getElem?_extract];by_cases j:k<a.size
   ·rw [if_pos (by omega)];congr 1;omega
   ·rw [if_neg (by omega),Array.getElem?_eq_none (by omega)]
 have ed:drawn'=w.drawn+(drawn' - w.drawn):=by omega
 simp only [grow,World.drewN];congr 1
theorem zrp (F a:Array Value)(h:F.size<=a.size):(putCells id 0 F a).toList.take F.size=F.toList:=by
 apply ext_getElem?;intro j;by_cases b:j<F.size
 ·rw [aT b,aP];simp [putCells,b,show j<a.size by omega]
 ·rw [getElem?_take_eq_none (by omega),getElem?_eq_none (by simp;omega)]
abbrev SEl (w:World)(S:Nat->Prop)(sz:Nat){T:Type}(encT:T->AV):Type:={ p:List Value×T // p.1.length=sz/\(∀ v∈p.1,v.oneCell'=true)/\Rep w S G0 (encT p.2) (.agg p.1.toArray) }
variable {α:Type}
theorem zml [Inhabited α](enc:α->List Value)(sz:Nat)(l:∀ x,(enc x).length=sz)(d:Array α)(k j:Nat)(b:k<d.size)(e:j<sz):(flatK enc sz d).toList.getD (k*sz+j) undef=(enc d[k]!).getD j undef:=by
 have a:k*sz+j<d.size*sz:=by
  have:(k+1)*sz<=d.size*sz:=aF _ b;rw [aK] at this;omega
 have h1:=get_flatK enc sz d (k*sz+j) a;have o:(k*sz+j) / sz=k:=by rw [aO,Nat.mul_add_div (by omega),Nat.div_eq_of_lt e,eG]
 have m:(k*sz+j) % sz=j:=by rw [aO,Nat.mul_add_mod,Nat.mod_eq_of_lt e]
 rw [o,m] at h1;have i:k*sz+j<(flatK enc sz d).size:=by rw [size_flatK];exact a
 rw [aA,aP,aW i,aL,<-getElem!_pos (flatK enc sz d) _ i,h1];have h:j<(enc d[k]!).length:=by rw [l];exact e
 rw [getElem!_pos (enc d[k]!) j h,aA,aE h,aL]
variable {E:Env}{ty sz n:Nat}
theorem zlf {Ed:Env}{f g:Nat}{T:Type}[DecidableEq T]{encT:T->AV}{cmp:T->T->Int}{l D:List T}(hP:Ed.P=E.P)(bx:Ed.dr=true)(he:Bh E f)(ch:Bh E g)(ag:0<sz)
  (U:∀ x,∃ cs,encT x=.agg cs/\cs.length=sz)
  (ah:∀ (α:Type) [Inhabited α] (enc:α->List Value) (I:∀ x,(enc x).length=sz) (h1:∀ x,∀ v∈enc x,v.oneCell'=true) (cf:α->α->Int) (hO:SWO (ltOf cf)) (blk off cap:Nat) (d:Array α) (w:World)
    (ae:CmpLays E.P g #[] enc sz cf blk off d.size w) (hH:HoldsK enc sz w blk off d) (R:blk<w.heap.size) (ag:d.size<4611686018427387904),
    Calls E.P f #[.slice (some ⟨blk,off,none⟩) d.size cap,.func (.func g) #[] #[]] w fun e w'=>e=.returned (.tuple #[])/\∃ a n os,PermIn 0 d.size d a/\SortedIn (ltOf cf) 0 d.size a/\w'=sortWorldK enc sz w blk off n a os)
  (ak:∀ (p:Option Addr) (cap:Nat) (fv:Value) (w:World),Calls E.P f #[.slice p 0 cap,fv] w fun e w'=>e=.returned (.tuple #[])/\w'=w)
  (hc:∀ x y,Con Ed true g [encT x,encT y] (.int .i64 (cmp x y))) (hO:SWO (ltOf cmp)) (hF:R7 cmp n l=some D) :
  ConC true E f [.row 0,.fn g []] ty sz (l.map encT) ty sz (D.map encT) (.tup []):=by
 unfold R7 at hF;split at hF;rotate_left
 ·cases hF
 rename_i aq;obtain ⟨cd,af⟩:=aq;injection hF with hF
 refine ⟨he,rfl,fun S w0 w vs v us cj B ca bi ac am bf ar=>?_⟩
 -- the arguments
 have ha:=ar (fun i=>if i=0 then some (some (v.ownBlock,v)) else none) rfl;have h0:=(ha 0 (by simp)).row_inv (g:=v.ownBlock) (s:=v) rfl (F9 (Cg B));obtain ⟨cs,h1,t,_⟩:=(ha 1 (by simp)).fn_inv;have bc:cs=#[]:=Array.eq_empty_of_size_eq_zero t;subst bc;have evs:vs=#[v,.func (.func g) #[] #[]]:=by
  have:=zz5 bf;rw [h0,h1] at this;exact this
 rw [evs];clear ha h0 h1 evs;have G:(l.map encT).length=l.length:=aC _;have o:D.length=l.length:=by rw [<-hF];exact (Mb cmp l).length_eq
 -- no element
 have empty:l=[]->Calls E.P f #[v,.func (.func g) #[] #[]] w fun e w'=>∃ u v' us',e=.returned u/\w.grownBy w' v.ownBlock/\w'.ownsRow w0.heap.size ty sz v' (D.map encT).length us'/\(true=true->v'=v)/\(∀ b,v'.ownBlock=some b->v.ownBlock=some b\/w.heap.size<=b)/\(∀ k (I:k<(D.map encT).length),((D.map encT)[k]).cells.length=sz) /\
   (∀ k (I:k<(D.map encT).length) j (C:j<((D.map encT)[k]).cells.length),Rep w' (fun b=>(S b\/w.heap.size<=b)/\v'.ownBlock≠some b) G0 (((D.map encT)[k]).cells[j]) (us'.getD (k*sz+j) undef))/\(∀ u∈us',u.oneCell'=true) /\
   ∀ γ':Gam,γ' 0=some (some (v'.ownBlock,v'))->Rep w' (fun b=>(S b\/w.heap.size<=b)/\v'.ownBlock≠some b) γ' (.tup []) u:=fun h0=>by
  have V:D=[]:=by rw [<-hF,h0];simp [Fb]
  subst V;subst h0;have K:∃ p cap,v=.slice p 0 cap:=by
   rcases B.2 with ⟨K,_⟩|⟨b,cap,au,K,_⟩
   ·exact ⟨none,0,K⟩
   ·exact ⟨_,cap,K⟩
  obtain ⟨p,cap,K⟩:=K;have r:=ak p cap (.func (.func g) #[] #[]) w;rw [<-K] at r;refine r.mono ?_;rintro e w' ⟨rfl,rfl⟩;exact ⟨_,v,us,rfl,World.grownBy.refl _ _,B,fun _=>rfl,fun b Y=>bC Y,fun k I=>absurd I (by simp),fun k I=>absurd I (by simp),ac,fun γ' _=>.tup #[] rfl (fun i hi=>absurd hi (by simp))⟩
 by_cases V:l=[]
 ·exact empty V
 have bl:0<l.length:=length_pos_iff.2 V;rcases B.2 with ⟨_,h0⟩|⟨blk,cap,au,K,bv,hh,hn,hm,hs,ht⟩
 ·omega
 have R:blk<w.heap.size:=(aH.1 hh).1;have aj:v.ownBlock=some blk:=by rw [K];rfl
 have bz:us.length=l.length*sz:=by rw [B.1,G]
 have cg:∀ k j,k<l.length->j<sz->k*sz+j<l.length*sz:=fun k j I C=>by
  have:(k+1)*sz<=l.length*sz:=aF _ I;rw [aK] at this;omega
 -- the elements
 have ap:∀ i (hi:i<l.length),((us.drop (i*sz)).take sz).length=sz/\(∀ v∈(us.drop (i*sz)).take sz,v.oneCell'=true)/\Rep w S G0 (encT l[i]) (.agg ((us.drop (i*sz)).take sz).toArray):=fun i hi=>by
  have O:((us.drop (i*sz)).take sz).length=sz:=by
   rw [aY,length_drop];have:(i+1)*sz<=l.length*sz:=aF _ hi;rw [aK] at this;omega
  have N:∀ v∈(us.drop (i*sz)).take sz,v.oneCell'=true:=fun v K=>ac v (mem_of_mem_drop (mem_of_mem_take K))
  refine ⟨O,N,?_⟩;obtain ⟨cs,t,W⟩:=U l[i];rw [t];have ba:∀ j,j<sz->((us.drop (i*sz)).take sz).toArray.getD j undef=us.getD (i*sz+j) undef:=fun j C=>by
   rw [aG,bA,aT C,bN,aA]
  refine .agg _ (by simpa [W] using O) (fun j C=>?_) (fun j C=>?_)
  ·rw [ba j (by omega)];have bq:i<(l.map encT).length:=by rw [G];exact hi
   have e:(l.map encT)[i]=.agg cs:=by rw [aS];exact t
   have:=bi i bq j (by rw [e];exact C);simp only [e,dE] at this;exact this
  ·have F:j<((us.drop (i*sz)).take sz).length:=by simpa using C
   rw [aG,bA,aE F,aL];exact N _ (bI F)
 let A:=SEl w S sz encT;let enc:A->List Value:=fun p=>p.1.1
 let d:Array A:=(ofFn fun i:Fin l.length=>(⟨((us.drop (i.1*sz)).take sz,l[i.1]),ap i.1 i.2⟩:A)).toArray
 haveI:Inhabited A:=⟨⟨((us.drop (0*sz)).take sz,l[0]),ap 0 bl⟩⟩
 have J:d.size=l.length:=by simp [d]
 have bu:∀ i (hi:i<l.length),d[i]! = ⟨((us.drop (i*sz)).take sz,l[i]),ap i hi⟩:=fun i hi=>by
  rw [getElem!_pos d i (by rw [J];exact hi)];simp [d]
 have I:∀ x:A,(enc x).length=sz:=fun x=>x.2.1
 have ae:CmpLays E.P g #[] enc sz (fun x y:A=>cmp x.1.2 y.1.2) blk 0 d.size w:=fun m os dk ci x y=>by
  have ad:=(hc x.1.2 y.1.2).2 S (sortWorldK enc sz w blk 0 m dk os) #[.agg (enc x).toArray,.agg (enc y).toArray] ⟨rfl,fun i hi=>?_⟩
  ·rw [hP] at ad;refine ad.mono ?_;rintro e w' ⟨u,rfl,⟨Y,bs⟩,hu⟩;exact ⟨by rw [hu.int_inv],zds Y (bs bx)⟩
  ·have key:∀ z:A,Rep (sortWorldK enc sz w blk 0 m dk os) S G0 (encT z.1.2) (.agg (enc z).toArray):=fun z=>by
    refine z.2.2.2.mono ?_ (fun b hS Y=>⟨?_,hS⟩)
    ·simp [sortWorldK,grow,putRowK,putRow,mapBlock,Go.Sort.ahead]
    ·have al:blk≠b:=fun e=>am blk aj (e▸hS)
     unfold sortWorldK;rw [heap_grow_old _ _ (by simpa [putRowK,Go.Sort.ahead] using Y)];simp [putRowK,putRow,mapBlock,Go.Sort.ahead,aQ,al]
   have az:i<2:=hi;rcases i with _|_|i
   ·exact key x
   ·exact key y
   ·omega
 have hH:HoldsK enc sz w blk 0 d:=fun j C=>by
  have F:j<l.length*sz:=by rw [size_flatK,J] at C;exact C
  have hq:j / sz<l.length:=bG (by rwa [aO] at F);have hm:=Nat.mod_lt j ag;have e:=zml enc sz I d (j / sz) (j % sz) (by rw [J];exact hq) hm;have ej:j / sz*sz+j % sz=j:=by rw [aO];exact cW j sz
  rw [ej] at e;have ef:(flatK enc sz d)[j]! = us.getD j undef:=by
   rw [getElem!_pos (flatK enc sz d) j C];have h1:(flatK enc sz d).toList.getD j undef=(flatK enc sz d)[j]:=by
    rw [aA,aP,aW C];rfl
   rw [<-h1,e,bu _ hq];show ((us.drop (j / sz*sz)).take sz).getD (j % sz) undef=us.getD j undef;rw [aA,aT hm,bN,ej,<-aA]
  rw [ef,Nat.zero_add];refine ⟨Fm B aj j (by rw [G];exact F),?_⟩;simp [World.frozen?,hh]
 have bw:SWO (ltOf fun x y:A=>cmp x.1.2 y.1.2):=⟨fun x=>hO.irrefl _,fun x y z=>hO.trans _ _ _,fun x y z=>hO.ntrans _ _ _⟩;have r:=ah A enc I (fun x=>x.2.2.1) (fun x y=>cmp x.1.2 y.1.2) bw blk 0 cap d w ae hH R (by rw [J];omega);have ev:v=.slice (some ⟨blk,0,none⟩) d.size cap:=by rw [K,G,J]
 rw [<-ev] at r;refine r.mono ?_;rintro e w' ⟨rfl,a,m,os,⟨aw,_,ax⟩,bh,av⟩;have Q:a.size=l.length:=aw.trans J
 -- what lies there now
 have e1:a.extract 0 d.size=a:=by rw [<-aw];exact bP
 rw [e1,bP] at ax;have bt:d.toList.map (fun p=>p.1.2)=l:=by
  simp only [d,map_ofFn];apply ext_getElem
  ·simp
  ·intro i h1 h2;simp
 have ai:(a.toList.map (fun p=>p.1.2)).Perm l:=by
  have:=ax.map (fun p:A=>p.1.2)
  rwa [bt] at this
 have M:(a.toList.map (fun p=>p.1.2)).Pairwise (fun x y=>ltOf cmp y x=false):=by
  rw [pairwise_iff_getElem];intro i j hi C br;have az:i<a.size:=by simpa using hi
  have F:j<a.size:=by simpa using C
  have:=bh i j (Nat.zero_le _) br (by rw [J,<-Q];exact F);rw [getElem!_pos a i az,getElem!_pos a j F] at this;simpa [ltOf] using this
 have bb:a.toList.map (fun p=>p.1.2)=D:=by rw [<-hF];exact zon hO af ai M
 have ay:∀ k (H:k<D.length),∃ h:k<a.size,D[k]=a[k].1.2:=fun k H=>by
  have h:k<a.size:=by omega
  refine ⟨h,?_⟩;have:D[k]=(a.toList.map (fun p=>p.1.2))[k]'(by simpa using h):=by simp only [bb]
  rw [this];simp
 have ao:w.grownBy w' v.ownBlock:=by
  rw [aj,av];refine ⟨rfl,rfl,rfl,by simp [sortWorldK,grow,putRowK,putRow,mapBlock,Go.Sort.ahead],fun k I al=>?_⟩;unfold sortWorldK;rw [heap_grow_old _ _ (by simpa [putRowK,Go.Sort.ahead] using I)];have:blk≠k:=fun e=>al (by rw [e])
  simp [putRowK,putRow,mapBlock,Go.Sort.ahead,aQ,this]
 have Z:(flatK enc sz a).size=l.length*sz:=by rw [size_flatK,Q]
 have bd:l.length*sz<=au.size:=by
  rw [hs];rw [G] at hn;exact aF _ hn
 have an:w'.heap[blk]? = some (.cells (putCells id 0 (flatK enc sz a) au) ty (0,0)):=by
  rw [av];unfold sortWorldK;rw [heap_grow_old _ _ (by simpa [putRowK,Go.Sort.ahead] using R)];simp [putRowK,putRow,mapBlock,Go.Sort.ahead,aQ,hh,onCells]
 have aa:∀ k j,k<l.length->j<sz->(flatK enc sz a).toList.getD (k*sz+j) undef=(enc a[k]!).getD j undef:=fun k j H C=>zml enc sz I a k j (by rw [Q];exact H) C
 refine ⟨_,v,(flatK enc sz a).toList,rfl,ao,⟨by rw [bJ,Z,aC,o],aM ⟨blk,cap,_,?_,bv,an,?_,hm,?_,?_⟩⟩,fun _=>rfl,fun b Y=>bC Y,fun k H=>?_,fun k H j C=>?_,fun u hu=>?_,fun γ' _=>.tup #[] rfl (fun i hi=>absurd hi (by simp))⟩
 ·rw [aC,o,K,G]
 ·rw [aC,o];rw [G] at hn;exact hn
 ·simp [putCells,hs]
 ·rw [aC,o,<-Z];exact zrp _ _ (by rw [Z];exact bd)
 ·rw [aS];obtain ⟨cs,t,W⟩:=U (D[k]'(by simpa using H));rw [t];exact W
 ·have bo:k<D.length:=by simpa using H
  obtain ⟨bn,bm⟩:=ay k bo;have e:(D.map encT)[k]=encT a[k].1.2:=by rw [aS,bm]
  simp only [e] at C ⊢;obtain ⟨cs,t,W⟩:=U a[k].1.2;have bp:j<sz:=by rw [t] at C;simp only [dE] at C;omega
  rw [aa k j (by omega) bp,getElem!_pos a k bn];have ab:=a[k].2.2.2;rw [t] at ab;obtain ⟨cb,L,cc,bg,_⟩:=ab.agg_inv;injection L with L
  subst L;have:=bg j (by omega);simp only [t,dE];rw [aG,bA,<-aA] at this;refine this.mono ao.size (fun b hS Y=>⟨ao.block b Y (fun e=>am b e.symm hS),bC hS,fun e=>am b e hS⟩)
 ·obtain ⟨q,hq,rfl⟩:=mem_iff_getElem.1 hu;have bk:q<l.length*sz:=by rw [bJ,Z] at hq;exact hq
  have bj:q / sz<l.length:=bG (by rwa [aO] at bk);have hm:=Nat.mod_lt q ag;have:=aa (q / sz) (q % sz) bj hm;have ej:q / sz*sz+q % sz=q:=by rw [aO];exact cW q sz
  rw [ej,aA,aE hq,aL] at this;rw [this];have ce:=I a[q / sz]!;rw [aA,aE (by omega),aL];exact (a[q / sz]!).2.2.1 _ (bI _)
variable {f:FuncId}{avs:List AV}
theorem Con.lo {fr:Bool}{res:AV}(h:Con E0d fr f avs res):Con E0 fr f avs res :=
 ⟨h.1,fun S w vs a=>(h.2 S w vs a).mono fun e w' ⟨v,h1,d,b⟩=>⟨v,h1,zzb d.1,b⟩⟩
abbrev Bd:=C2
abbrev Sta:=Ah
abbrev Ma:=A8
abbrev Cf:=A4
theorem Aw (l:List α)(k:Nat)(h:k<l.length):l.drop k=l[k]::l.drop (k+1):=drop_eq_getElem_cons h
def cmpI (a b:Int):Int:=if a<b then -1 else if b<a then 1 else 0
def or2 (a b:Int):Int:=if a=0 then b else a
def or3 (a b c:Int):Int:=if a=0 then (if b=0 then c else b) else a
structure TO {α:Type} (c:α->α->Int):Prop where
 one:∀ a b,c a b=-1\/c a b=0\/c a b=1
 zero:∀ a b,c a b=0 ↔ a=b
 neg:∀ a b,c b a=- c a b
 trans:∀ a b d,c a b<0->c b d<0->c a d<0
theorem Jj:TO cmpI where
 one a b:=by unfold cmpI;split<;>(try split)<;>omega
 zero a b:=by unfold cmpI;split<;>(try split)<;>omega
 neg a b:=by unfold cmpI;omega
 trans a b d:=by unfold cmpI;omega
theorem TO.or2 {o γ:Type}{c:o->o->Int}{d:γ->γ->Int}(i:TO c)(l:TO d)(f:α->o)(g:α->γ)(hi:∀ a b,f a=f b->g a=g b->a=b):TO (fun a b=>or2 (c (f a) (f b)) (d (g a) (g b))) where
 one a b:=by
  unfold Proofs.YtkoamfnbbhfaiaaGreatDoor.or2;split
  ·exact l.one _ _
  ·exact i.one _ _
 zero a b:=by
  unfold Proofs.YtkoamfnbbhfaiaaGreatDoor.or2;split
  ·rename_i h;rw [l.zero];exact ⟨fun k=>hi a b ((i.zero _ _).1 h) k,fun k=>by rw [k]⟩
  ·rename_i h;exact ⟨fun k=>absurd k h,fun k=>absurd ((i.zero _ _).2 (by rw [k])) h⟩
 neg a b:=by
  unfold Proofs.YtkoamfnbbhfaiaaGreatDoor.or2;rw [i.neg (f a) (f b),l.neg (g a) (g b)];omega
 trans a b e:=by
  unfold Proofs.YtkoamfnbbhfaiaaGreatDoor.or2;intro h1 m;by_cases q:c (f a) (f b)=0
  ·rw [if_pos q] at h1;have p:=(i.zero _ _).1 q;rw [p];by_cases j:c (f b) (f e)=0
   ·rw [if_pos j] at m ⊢;exact l.trans _ _ _ h1 m
   omega
  ·rw [if_neg q] at h1;by_cases j:c (f b) (f e)=0
   ·have r:=(i.zero _ _).1 j;simp_all
   ·rw [if_neg j] at m;have:=i.trans _ _ _ h1 m;omega
theorem TO.map {i:Type}{c:i->i->Int}(e:TO c)(f:α->i)(hi:∀ a b,f a=f b->a=b):TO (fun a b=>c (f a) (f b)) where
 one a b:=e.one _ _
 zero a b:=⟨fun h=>hi _ _ ((e.zero _ _).1 h),fun h=>by rw [h];exact (e.zero _ _).2 rfl⟩
 neg a b:=e.neg _ _
 trans a b d:=e.trans _ _ _
def lexC (c:α->α->Int):List α->List α->Int |[],[]=>0 |[],_::_=>-1 |_::_,[]=>1 |a::x,b::y=>Proofs.YtkoamfnbbhfaiaaGreatDoor.or2 (c a b) (lexC c x y)
theorem TO.lex {c:α->α->Int}(e:TO c):TO (lexC c) where
 one a b:=by
  induction a generalizing b with
  |nil=>cases b<;>simp [lexC]
  |cons x a i =>
   cases b with
   |nil=>simp [lexC]
   |cons y b =>
    unfold lexC Proofs.YtkoamfnbbhfaiaaGreatDoor.or2;split
    ·exact i b
    ·exact e.one _ _
 zero a b:=by
  induction a generalizing b with
  |nil=>cases b<;>simp [lexC]
  |cons x a i =>
   cases b with
   |nil=>simp [lexC]
   |cons y b =>
    unfold lexC Proofs.YtkoamfnbbhfaiaaGreatDoor.or2;by_cases h:c x y=0
    ·rw [if_pos h,i,(e.zero _ _).1 h];simp
    ·rw [if_neg h];exact ⟨fun k=>absurd k h,fun k=>by injection k with k _;exact absurd ((e.zero _ _).2 k) h⟩
 neg a b:=by
  induction a generalizing b with
  |nil=>cases b<;>simp [lexC]
  |cons x a i =>
   cases b with
   |nil=>simp [lexC]
   |cons y b =>
    unfold lexC Proofs.YtkoamfnbbhfaiaaGreatDoor.or2;rw [e.neg x y,i b];omega
 trans a b d:=by
  induction a generalizing b d with
  |nil =>
   intro h1 j;cases b with
   |nil=>simp [lexC] at h1
   |cons y b=>cases d with
    |nil=>simp [lexC] at j
    |cons z d=>simp [lexC]
  |cons x a i =>
   intro h1 j;cases b with
   |nil=>simp [lexC] at h1
   |cons y b =>
    cases d with
    |nil=>simp [lexC] at j
    |cons z d =>
     unfold lexC Proofs.YtkoamfnbbhfaiaaGreatDoor.or2 at h1 j ⊢;by_cases l:c x y=0
     ·rw [if_pos l] at h1;have p:=(e.zero _ _).1 l;grind
     ·rw [if_neg l] at h1;by_cases m:c y z=0
      ·have o:=(e.zero _ _).1 m;simp_all
      ·rw [if_neg m] at j;have:=e.trans _ _ _ h1 j;omega
section
variable {α:Type} {c:α->α->Int}
theorem TO.irr (h:TO c)(a:α):¬c a a<0:=by rw [(h.zero a a).2 rfl];decide
theorem TO.tri (h:TO c)(a b:α):c a b<0\/a=b\/c b a<0:=by
 have h1:=h.zero a b;have d:=h.neg a b;grind
theorem TO.swo (h:TO c):Go.Sort.SWO (ltOf c):=by
 have b:∀ x y,ltOf c x y=decide (c x y<0):=fun x y=>rfl
 refine ⟨fun x=>?_,fun x y z h1 a=>?_,fun x y z h1 a=>?_⟩<;>simp only [b,decide_eq_true_eq,decide_eq_false_iff_not] at *
 ·exact h.irr x
 ·exact h.trans _ _ _ h1 a
 ·intro d;rcases h.tri y x with k|k|k
  ·rcases h.tri z y with q|q|q
   ·exact h.irr x (h.trans _ _ _ (h.trans _ _ _ d q) k)
   all_goals grind
  all_goals simp_all
theorem TO.ties (h:TO c)(l:List α):∀ x∈l,∀ y∈l,ltOf c x y=false->ltOf c y x=false->x=y:=fun x _ y _ h1 a=>by
 have h1:¬c x y<0:=of_decide_eq_false h1;have a:¬c y x<0:=of_decide_eq_false a;rcases h.tri x y with k|k|k
 all_goals simp_all
end
def rCmp (a b:Bt):Int:=or3 (cmpI a.fTime b.fTime) (cmpI a.fSource b.fSource) (cmpI a.fSeq b.fSeq)
theorem Xo:TO rCmp:=(Jj.or2 (Jj.or2 Jj (fun p:Int×Int=>p.1) (fun p=>p.2) (fun a b h k=>Prod.ext h k)) (fun r:Bt=>r.fTime) (fun r=>(r.fSource,r.fSeq)) (fun a b h k=>by
 cases a;simp_all))
def Dr (a b:Bd):Int:=or2 (rCmp a.fRef b.fRef) (cmpI a.fVar b.fVar)
theorem zn0:TO Dr:=Xo.or2 Jj (fun b:Bd=>b.fRef) (fun b=>b.fVar) (fun a b h k=>by cases a;simp_all)
def Ex (a b:Sta):Int:=or2 (cmpI a.fScope b.fScope) (cmpI a.fTime b.fTime)
theorem zrr:TO Ex:=Jj.or2 Jj (fun b:Sta=>b.fScope) (fun b=>b.fTime) (fun a b h k=>by cases a;simp_all)
def Az (a b:Ma):Int:=lexC Dr a.fBindings b.fBindings
theorem Ci:TO Az:=zn0.lex.map (fun m:Ma=>m.fBindings) (fun a b h=>by cases a;cases b;simp only at h;rw [h])
def Ba (a b:Cf):Int:=or3 (cmpI a.fState b.fState) (lexC Dr a.fBindings b.fBindings) (lexC Ex a.fStarts b.fStarts)
theorem Cq:TO Ba:=(Jj.or2 (zn0.lex.or2 zrr.lex (fun p:List Bd×List Sta=>p.1) (fun p=>p.2) (fun a b h k=>Prod.ext h k)) (fun c:Cf=>c.fState) (fun c=>(c.fBindings,c.fStarts)) (fun a b h k=>by
 cases a;simp_all))
theorem Xx (n:Nat)(a b:Int):Fj n a b=some (cmpI a b):=by
 unfold Fj Tu;simp only [A1,decide_true,eA,B3,A3,cmpI];split
 ·rfl
 ·split<;>rfl
theorem zqb (n:Nat)(a b:Int):Gg (n+3) [a,b]=some (or2 a b):=by
 have w0:aD .i64 ((0:Int)+1)=1:=by decide
 have w1:aD .i64 ((1:Int)+1)=2:=by decide
 unfold Gg or2;simp only [Q9,bB,eN,aZ,bD,A3,Af,w0,w1];simp only [idx];by_cases d:a=0
 ·by_cases e:b=0<;>simp [d,e]
 ·simp [d]
theorem zqa (n:Nat)(a b c:Int):Gg (n+4) [a,b,c]=some (or3 a b c):=by
 have w0:aD .i64 ((0:Int)+1)=1:=by decide
 have w1:aD .i64 ((1:Int)+1)=2:=by decide
 have h:aD .i64 ((2:Int)+1)=3:=by decide
 unfold Gg or3;simp only [Q9,bB,eN,aZ,bD,A3,Af,w0,w1,h];simp only [idx];by_cases d:a=0
 ·by_cases e:b=0
  ·by_cases i:c=0<;>simp [d,e,i]
  ·simp [d,e]
 ·simp [d]
theorem zst (n:Nat)(a b:Bt):Ts (n+4) a b=some (rCmp a b):=by
 unfold Ts;simp only [A1,Xx,zqa];rfl
theorem zyf (n:Nat)(a b:Bd):Ss (n+4) a b=some (Dr a b):=by
 unfold Ss;simp only [A1,Xx,zst,show n+4=(n+1)+3 from rfl,zqb];rfl
theorem zyc (n:Nat)(a b:Sta):Tc (n+4) a b=some (Ex a b):=by
 unfold Tc;simp only [A1,Xx,show n+4=(n+1)+3 from rfl,zqb];rfl
theorem zcd (n:Nat)(b a:List Bd)(i:b.length<=1000000000)(e:a.length<=1000000000):∀ (m k:Nat),k<=a.length->k<=b.length->a.length<m+k ->
  Nr (n+4) b a (if a.length<b.length then some (-1) else some 0) m k=some (lexC Dr (a.drop k) (b.drop k))
 |0,k,h1,_,j=>by omega
 |m+1,k,h1,l,j=>by
  unfold Nr;simp only [aC,A3,Af];by_cases h:k<a.length
  ·rw [if_pos (by omega),Ab h,Aw a k h];by_cases d:b.length<=k
   ·rw [if_pos (by omega),aB d];rfl
   ·rw [if_neg (by omega),Ab (by omega:k<b.length),Aw b k (by omega)];rw [zyf,A1,Ad k (by omega),zcd n b a i e m (k+1) (by omega) (by omega) (by omega)];show _=some (or2 (Dr _ _) _);unfold or2;split<;>rfl
  ·rw [if_neg (by omega),aB (by omega:a.length<=k)];by_cases d:a.length<b.length
   ·rw [if_pos d,Aw b k (by omega)];rfl
   ·rw [if_neg d,aB (by omega)];rfl
theorem zwd (n:Nat)(a b:List Bd)(h:a.length<n)(i:4<=n)(e:b.length<=1000000000)(d:a.length<=1000000000):S3 n a b=some (lexC Dr a b):=by
 obtain ⟨m,rfl⟩:∃ m,n=m+4:=⟨n-4,by omega⟩;unfold S3;have:=zcd m b a e d (m+4) 0 (by omega) (by omega) (by omega);simp only [aR,cU] at this;rw [<-this];congr 1;simp only [aC,A3];split<;>split<;>first|rfl|omega
theorem zcc (n:Nat)(b a:List Sta)(i:b.length<=1000000000)(e:a.length<=1000000000):∀ (m k:Nat),k<=a.length->k<=b.length->a.length<m+k ->
  N4 (n+4) b a (if a.length<b.length then some (-1) else some 0) m k=some (lexC Ex (a.drop k) (b.drop k))
 |0,k,h1,_,j=>by omega
 |m+1,k,h1,l,j=>by
  unfold N4;simp only [aC,A3,Af];by_cases h:k<a.length
  ·rw [if_pos (by omega),Ab h,Aw a k h];by_cases d:b.length<=k
   ·rw [if_pos (by omega),aB d];rfl
   ·rw [if_neg (by omega),Ab (by omega:k<b.length),Aw b k (by omega)];rw [zyc,A1,Ad k (by omega),zcc n b a i e m (k+1) (by omega) (by omega) (by omega)];show _=some (or2 (Ex _ _) _);unfold or2;split<;>rfl
  ·rw [if_neg (by omega),aB (by omega:a.length<=k)];by_cases d:a.length<b.length
   ·rw [if_pos d,Aw b k (by omega)];rfl
   ·rw [if_neg d,aB (by omega)];rfl
theorem zwc (n:Nat)(a b:List Sta)(h:a.length<n)(i:4<=n)(e:b.length<=1000000000)(d:a.length<=1000000000):Rm n a b=some (lexC Ex a b):=by
 obtain ⟨m,rfl⟩:∃ m,n=m+4:=⟨n-4,by omega⟩;unfold Rm;have:=zcc m b a e d (m+4) 0 (by omega) (by omega) (by omega);simp only [aR,cU] at this;rw [<-this];congr 1;simp only [aC,A3];split<;>split<;>first|rfl|omega
theorem zu8 (n:Nat)(a b:Ma)(e:a.fBindings.length<n)(i:4<=n)(h:b.fBindings.length<=1000000000)(d:a.fBindings.length<=1000000000):Td n a b=some (Az a b):=by
 unfold Td;rw [zwd n _ _ e i h d,A1];rfl
theorem zwb (n:Nat)(a b:Cf)(k:a.fBindings.length<n)(e:a.fStarts.length<n)(j:4<=n)(l:b.fBindings.length<=1000000000)(i:a.fBindings.length<=1000000000)(h:b.fStarts.length<=1000000000)(d:a.fStarts.length<=1000000000):Wa n a b=some (Ba a b):=by
 unfold Wa;rw [Xx,A1,zu8 n _ _ k j l i,A1,zwc n _ _ e j h d,A1];obtain ⟨m,rfl⟩:∃ m,n=m+4:=⟨n-4,by omega⟩;rw [zqa,A1];rfl
theorem Rc (n:Nat)(a b:Int):Du n a b=some (cmpI a b):=by
 unfold Du U8;simp only [A1,decide_true,eA,B3,A3,cmpI];split
 ·rfl
 ·split<;>rfl
theorem zye (n:Nat)(a b:Int):Fp (n+3) [a,b]=some (or2 a b):=by
 have w0:aD .i64 ((0:Int)+1)=1:=by decide
 have w1:aD .i64 ((1:Int)+1)=2:=by decide
 unfold Fp or2;simp only [Qb,bB,eN,aZ,bD,A3,Af,w0,w1];simp only [idx];by_cases d:a=0
 ·by_cases e:b=0<;>simp [d,e]
 ·simp [d]
theorem zwa (n:Nat)(a b c:Int):Fp (n+4) [a,b,c]=some (or3 a b c):=by
 have w0:aD .i64 ((0:Int)+1)=1:=by decide
 have w1:aD .i64 ((1:Int)+1)=2:=by decide
 have h:aD .i64 ((2:Int)+1)=3:=by decide
 unfold Fp or3;simp only [Qb,bB,eN,aZ,bD,A3,Af,w0,w1,h];simp only [idx];by_cases d:a=0
 ·by_cases e:b=0
  ·by_cases i:c=0<;>simp [d,e,i]
  ·simp [d,e]
 ·simp [d]
theorem zyd (n:Nat)(a b:Bt):Tz (n+4) a b=some (rCmp a b):=by
 unfold Tz;simp only [A1,Rc,zwa];rfl
theorem f_bd (n:Nat)(a b:Bd):Te (n+4) a b=some (Dr a b):=by
 unfold Te;simp only [A1,Rc,zyd,show n+4=(n+1)+3 from rfl,zye];rfl
theorem f_st (n:Nat)(a b:Sta):Tl (n+4) a b=some (Ex a b):=by
 unfold Tl;simp only [A1,Rc,show n+4=(n+1)+3 from rfl,zye];rfl
theorem zmq (n:Nat)(b a:List Bd)(i:b.length<=1000000000)(e:a.length<=1000000000):∀ (m k:Nat),k<=a.length->k<=b.length->a.length<m+k ->
  Oi (n+4) b a (if a.length<b.length then some (-1) else some 0) m k=some (lexC Dr (a.drop k) (b.drop k))
 |0,k,h1,_,j=>by omega
 |m+1,k,h1,l,j=>by
  unfold Oi;simp only [aC,A3,Af];by_cases h:k<a.length
  ·rw [if_pos (by omega),Ab h,Aw a k h];by_cases d:b.length<=k
   ·rw [if_pos (by omega),aB d];rfl
   ·rw [if_neg (by omega),Ab (by omega:k<b.length),Aw b k (by omega)];rw [f_bd,A1,Ad k (by omega),zmq n b a i e m (k+1) (by omega) (by omega) (by omega)];show _=some (or2 (Dr _ _) _);unfold or2;split<;>rfl
  ·rw [if_neg (by omega),aB (by omega:a.length<=k)];by_cases d:a.length<b.length
   ·rw [if_pos d,Aw b k (by omega)];rfl
   ·rw [if_neg d,aB (by omega)];rfl
theorem zza (n:Nat)(a b:List Bd)(h:a.length<n)(i:4<=n)(e:b.length<=1000000000)(d:a.length<=1000000000):Sf n a b=some (lexC Dr a b):=by
 obtain ⟨m,rfl⟩:∃ m,n=m+4:=⟨n-4,by omega⟩;unfold Sf;have:=zmq m b a e d (m+4) 0 (by omega) (by omega) (by omega);simp only [aR,cU] at this;rw [<-this];congr 1;simp only [aC,A3];split<;>split<;>first|rfl|omega
theorem zmp (n:Nat)(b a:List Sta)(i:b.length<=1000000000)(e:a.length<=1000000000):∀ (m k:Nat),k<=a.length->k<=b.length->a.length<m+k ->
  N8 (n+4) b a (if a.length<b.length then some (-1) else some 0) m k=some (lexC Ex (a.drop k) (b.drop k))
 |0,k,h1,_,j=>by omega
 |m+1,k,h1,l,j=>by
  unfold N8;simp only [aC,A3,Af];by_cases h:k<a.length
  ·rw [if_pos (by omega),Ab h,Aw a k h];by_cases d:b.length<=k
   ·rw [if_pos (by omega),aB d];rfl
   ·rw [if_neg (by omega),Ab (by omega:k<b.length),Aw b k (by omega)];rw [f_st,A1,Ad k (by omega),zmp n b a i e m (k+1) (by omega) (by omega) (by omega)];show _=some (or2 (Ex _ _) _);unfold or2;split<;>rfl
  ·rw [if_neg (by omega),aB (by omega:a.length<=k)];by_cases d:a.length<b.length
   ·rw [if_pos d,Aw b k (by omega)];rfl
   ·rw [if_neg d,aB (by omega)];rfl
theorem zz9 (n:Nat)(a b:List Sta)(h:a.length<n)(i:4<=n)(e:b.length<=1000000000)(d:a.length<=1000000000):Rq n a b=some (lexC Ex a b):=by
 obtain ⟨m,rfl⟩:∃ m,n=m+4:=⟨n-4,by omega⟩;unfold Rq;have:=zmp m b a e d (m+4) 0 (by omega) (by omega) (by omega);simp only [aR,cU] at this;rw [<-this];congr 1;simp only [aC,A3];split<;>split<;>first|rfl|omega
theorem f_ma (n:Nat)(a b:Ma)(e:a.fBindings.length<n)(i:4<=n)(h:b.fBindings.length<=1000000000)(d:a.fBindings.length<=1000000000):Q2 n a b=some (Az a b):=by
 unfold Q2;rw [zza n _ _ e i h d,A1];rfl
theorem zz8 (n:Nat)(a b:Cf)(k:a.fBindings.length<n)(e:a.fStarts.length<n)(j:4<=n)(l:b.fBindings.length<=1000000000)(i:a.fBindings.length<=1000000000)(h:b.fStarts.length<=1000000000)(d:a.fStarts.length<=1000000000):Tt n a b=some (Ba a b):=by
 unfold Tt;rw [Rc,A1,f_ma n _ _ k j l i,A1,zz9 n _ _ e j h d,A1];obtain ⟨m,rfl⟩:∃ m,n=m+4:=⟨n-4,by omega⟩;rw [zwa,A1];rfl
def cfOk (c:Cf):Bool:=decide (c.fBindings.length<=1000000000) && decide (c.fStarts.length<=1000000000)
def maOk (c:Ma):Bool:=decide (c.fBindings.length<=1000000000)
theorem Fo (c:Cf):cfOk c=true ↔ c.fBindings.length<=1000000000/\c.fStarts.length<=1000000000:=by simp [cfOk]
theorem Dy (c:Ma):maOk c=true ↔ c.fBindings.length<=1000000000:=by simp [maOk]
def Jl {T:Type}[DecidableEq T](ok:T->Bool)(cmp:T->T->Int)(n:Nat)(l:List T):Option (List T) :=
 if h:∀ x∈l,ok x=true then (R7 (fun a b:{ x:T // ok x=true }=>cmp a.1 b.1) n (l.attachWith (fun x=>ok x=true) h)).map (fun q=>q.map (·.1)) else none
section
variable {T:Type} [DecidableEq T]
omit [DecidableEq T] in
theorem zmi {U:Type}{d:U->U->Int}{c:T->T->Int}(f:U->T)(h:∀ a b,d a b=c (f a) (f b))(x:U):∀ l:List U,(insF d x l).map f=insF c (f x) (l.map f)
 |[]=>rfl
 |y::l=>by
  have e:ltOf d y x=ltOf c (f y) (f x):=by unfold ltOf;rw [h]
  simp only [insF,bB,e];cases ltOf c (f y) (f x) with
  |true=>simp only [bB,zmi f h x l]
  |false=>rfl
omit [DecidableEq T] in
theorem zfj {U:Type}{d:U->U->Int}{c:T->T->Int}(f:U->T)(h:∀ a b,d a b=c (f a) (f b)):∀ l:List U,(Fb d l).map f=Fb c (l.map f)
 |[]=>rfl
 |x::l=>by simp only [Fb,bB,zmi f h,zfj f h l]
variable {cmp:T->T->Int}
theorem zlg {ok:T->Bool}(e:TO cmp)(n:Nat)(l:List T)(h:∀ x∈l,ok x=true)(i:l.length<=1000000000):Jl ok cmp n l=some (Fb cmp l):=by
 unfold Jl;rw [dif_pos h];have d:TO (fun a b:{ x:T // ok x=true }=>cmp a.1 b.1):=e.map (fun x:{ x:T // ok x=true }=>x.1) (fun a b h=>Subtype.ext h);unfold R7;rw [if_pos ⟨by simp_all,d.ties _⟩];simp only [dC];rw [zfj (c:=cmp) (fun x:{ x:T // ok x=true }=>x.1) (fun a b=>rfl),attachWith_map_subtype_val]
theorem zfi {f g:Nat}{ok:T->Bool}{enc:T->AV}{l j:List T}(H:∀ {q i:List { x:T // ok x=true }},R7 (fun a b:{ x:T // ok x=true }=>cmp a.1 b.1) n q=some i->ConC true E0 f [.row 0,.fn g []] ty sz (q.map fun x=>enc x.1) ty sz (i.map fun x=>enc x.1) (.tup []))(d:Jl ok cmp n l=some j) :
  ConC true E0 f [.row 0,.fn g []] ty sz (l.map enc) ty sz (j.map enc) (.tup []):=by
 unfold Jl at d;split at d
 ·rename_i h;cases e:R7 (fun a b:{ x:T // ok x=true }=>cmp a.1 b.1) n (l.attachWith (fun x=>ok x=true) h) with
  |none=>rw [e] at d;cases d
  |some q =>
   rw [e] at d;injection d with d
   have:=H e;simp_all
 ·cases d
end
theorem zkt (a b:{ x:Cf // cfOk x=true }):Con E0d true 93 [Ak a.1,Ak b.1] (.int .i64 (Ba a.1 b.1)):=by
 obtain ⟨h1,h⟩:=(Fo a.1).1 a.2;obtain ⟨e,d⟩:=(Fo b.1).1 b.2;exact z81 (zwb 1000000010 a.1 b.1 (by omega) (by omega) (by omega) e h1 d h)
theorem zkq (a b:{ x:Ma // maOk x=true }):Con E0d true 58 [Ap a.1,Ap b.1] (.int .i64 (Az a.1 b.1)):=by
 have h1:=(Dy a.1).1 a.2;have d:=(Dy b.1).1 b.2;exact z15 (zu8 1000000010 a.1 b.1 (by omega) (by omega) d h1)
theorem znb {l k:List Cf}(s:Jl cfOk Ba n l=some k):ConC true E0 133 [.row 0,.fn 93 []] 99 3 (l.map Ak) 99 3 (k.map Ak) (.tup []) :=
 zfi (fun m=>zlf (Ed:=E0d) rfl rfl (B7 Tryz.func133 rfl rfl) (B7 bF rfl rfl) (by omega) (fun x=>⟨_,rfl,rfl⟩)
  (fun α _ enc o h1 cf q blk off cap d w e r i j=>AnyQ.slices_SortFunc Tryz.laysSlF06_f133 3 Tryz.isAgg99 Tryz.sizeOf99 enc o h1 cf q 93 #[] blk off cap d w (B7 bF rfl rfl) e r i j)
  (fun p cap fv w=>AnyF.slices_SortFunc_none Tryz.laysSlF06_f133 p cap fv w) zkt (Cq.map (fun x:{ x:Cf // cfOk x=true }=>x.1) (fun a b h=>Subtype.ext h)).swo m) s
theorem zna {l k:List Ma}(s:Jl maOk Az n l=some k):ConC true E0 68 [.row 0,.fn 58 []] 91 1 (l.map Ap) 91 1 (k.map Ap) (.tup []) :=
 zfi (fun m=>zlf (Ed:=E0d) rfl rfl (B7 Tryz.func68 rfl rfl) (B7 bE rfl rfl) (by omega) (fun x=>⟨_,rfl,rfl⟩)
  (fun α _ enc o h1 cf q blk off cap d w e r i j=>AnyQ.slices_SortFunc Tryz.laysSlF06_f68 1 Tryz.isAgg91 Tryz.sizeOf91 enc o h1 cf q 58 #[] blk off cap d w (B7 bE rfl rfl) e r i j)
  (fun p cap fv w=>AnyF.slices_SortFunc_none Tryz.laysSlF06_f68 p cap fv w) zkq (Ci.map (fun x:{ x:Ma // maOk x=true }=>x.1) (fun a b h=>Subtype.ext h)).swo m) s
abbrev Cel (n:Nat):={ l:List Value // l.length=n/\∀ u∈l,u.oneCell'=true }
def encC (x:Cel n):List Value:=x.1
variable {P:Program}
theorem eokC {T e eb:Nat}{i ie:TyI}(l:TyOk P T i)(k:i.shape=.slc e sz eb)(d:TyOk P e ie)(h:0<sz)(a:ie.zero.cells.size=sz):EOk P T e sz ie.bytes (encC (n:=sz)):=by
 obtain ⟨j,b,_⟩:=C5 l k;obtain ⟨x,h1,p,o,m⟩:=d.both;exact ⟨j,⟨x,ie.zero,h1,m,by rw [p,<-d.cells,b],o,a⟩,h,fun x=>x.2.1,fun x=>x.2.2⟩
def Cl (n:Nat)(l:List α):Option (List α):=if l.length<=1000000000 then some l else none
theorem Qe {e:Nat}(W:E.P=P)(Y:Bh E f)(any:∀ (l:List (Cel sz)) (S:Nat->Prop) (v:Value) (w:World),Sl w S sz encC v l->l.length<=1000000000->Calls P f #[v] w (Ms e sz encC l w)){enc:α->AV}{a r:List α}(t:Cl n a=some r) :
  ConT E f [.sl sz (List.map enc a)] e sz (List.map enc r) (.row 0):=by
 unfold Cl at t;split at t
 ·rename_i R;injection t with t
  subst t;refine .ofRow ⟨Y,fun S w vs ⟨Q,O⟩=>?_⟩;have e1:=zz6 Q;have I:Rep w S G0 (.sl sz (List.map enc a)) (vs.getD 0 undef):=O 0 (by simp);rw [e1,W];obtain ⟨A,c,N,U,m,cell,G,F,h1⟩:=I.sl_inv;let l:List (Cel sz):=(bO (List.map enc a).length).map fun k=>⟨(bO sz).map fun j=>cell k j,by simp,fun u i=>by
   obtain ⟨j,_,rfl⟩:=mem_map.1 i;exact h1 k j⟩
  have d:l.length=(List.map enc a).length:=by simp [l]
  have y:∀ k (o:k<l.length),(encC l[k])=(bO sz).map fun j=>cell k j:=fun k o=>by simp [l,encC]
  have D:Sl w S sz encC (vs.getD 0 undef) l:=by
   refine ⟨A,c,by rw [N,d],by rw [d];exact U,fun I=>?_⟩;obtain ⟨b,off,Z,V,p,q⟩:=G (by rw [<-d];exact I);refine ⟨b,off,Z,V,p,fun k o j u i=>?_⟩;rw [y k o] at i;have s:j<sz:=by have:=(List.getElem?_eq_some_iff.1 i).1;simpa using this
   rw [getElem?_map,getElem?_range s] at i;simp only [dC,aX] at i;subst i;exact q k j (by rw [<-d];exact o) s
  refine (any l S _ w D (by rw [d,aC];exact R)).mono fun ed w' ⟨A',K,L,J,C⟩=>?_
  refine ⟨_,l.flatMap encC,L,C,?_,m,fun k o j s=>?_,fun u i=>?_⟩
  ·have:w'.ownsRow w.heap.size e sz (.slice A' l.length K) l.length (l.flatMap encC):=J;rw [d] at this;rw [d];exact this
  ·have B:j<sz:=by rw [m k o] at s;exact s
   have z:k<l.length:=by rw [d];exact o
   have H:=Ub (enc:=encC (n:=sz)) (fun x _=>x.2.1) k z j B (cell k j) (by rw [y k z,getElem?_map,getElem?_range B];rfl);rw [aA,H];refine (F k o j s).mono C.size (fun b G p=>⟨C.block b p,bC G,fun e=>?_⟩);have h2:w'.ownsRow w.heap.size _ sz (.slice A' l.length K) l.length (l.flatMap encC):=J;rcases h2.2 with ⟨h,_⟩|⟨g,cap,aa,h,hg,_⟩
   ·rw [h] at e;simp [Value.ownBlock] at e
   ·rw [h] at e;simp only [Value.ownBlock,aX] at e;subst e;omega
  ·obtain ⟨x,_,M⟩:=mem_flatMap.1 i;exact x.2.2 u M
 ·cases t
variable {xs:List AV}
theorem ConT.close {args:List AV}(h:ConT E f args ty sz xs (.row 0))(q:E.dr=false):Con E false f args (.sl sz xs) :=
 ⟨h.1,fun S w vs p=>(h.2.2 S w vs p).mono fun e w' ⟨u,v,us,h1,z,j,y,x,t,r⟩=>by
  have o:=r (fun _=>some (some (v.ownBlock,v))) rfl;have k:u=v:=o.row_inv rfl (F9 (Cg j));subst k;refine ⟨u,h1,⟨z,fun h=>absurd (q.symm.trans h) (by simp)⟩,?_⟩;have i:B8 w' (fun b=>(S b\/w.heap.size<=b)/\u.ownBlock≠some b) G0 w.heap.size (some (u.ownBlock,u)) (.row ty sz xs):=⟨u,us,rfl,Cg j,j,y,x,t⟩;obtain ⟨s,d,l⟩:=Gn (S':=fun b=>(false=false/\S b)\/w.heap.size<=b) i (fun b m _=>m.1.elim (fun h=>bC ⟨rfl,h⟩) aM) (fun s g a=>by
   injection a with a
   injection a with a _
   rcases j.2 with ⟨h,_⟩|⟨B,cap,A,h,m,_⟩
   ·rw [h] at a;simp [Value.ownBlock] at a
   ·rw [h] at a;simp only [Value.ownBlock,aX] at a;subst a;exact aM m) G0
  injection d with d
  injection d with _ d
  rw [d];exact l⟩
theorem ConT.sub {bvs:List AV}{res:AV}(h:SubL avs bvs)(a:ConT E f bvs ty sz xs res):ConT E f avs ty sz xs res :=
 ⟨a.1,a.2.1,fun S w vs ⟨d,b⟩=>a.2.2 S w vs ⟨by rw [d,h.len],fun i hi=>(b i (by rw [h.len];exact hi)).sub (h.at i _ hi)⟩⟩
def Xk (w:World)(g off:Nat)(X:List Value):Prop:=∃ a ty fr,w.heap[g]? = some (.cells a ty fr)/\0<a.size/\∀ j u,X[j]? = some u->a[off+j]? = some u
section
variable {w w':World} {g off:Nat} {X:List Value}
theorem Xk.lt (h:Xk w g off X):g<w.heap.size:=by
 obtain ⟨a,ty,fr,h,_⟩:=h;exact (aH.1 h).1
theorem Xk.cell (h:Xk w g off X){j:Nat}{u:Value}(a:X[j]? = some u):w.cell? ⟨g,off+j,none⟩=some u:=by
 obtain ⟨d,ty,fr,h,_,b⟩:=h;simp [World.cell?,h,b j u a]
theorem Xk.grown {row:Option Nat}(h:Xk w g off X)(e:w.grownBy w' row)(d:some g≠row):Xk w' g off X:=by
 have b:=h.lt;obtain ⟨a,ty,fr,h,i⟩:=h;exact ⟨a,ty,fr,(e.block g b d).trans h,i⟩
theorem Xk.alloc (h:Xk w g off X)(o:Obj):Xk (w.alloc o) g off X:=by
 have b:=h.lt;obtain ⟨a,ty,fr,h,d⟩:=h;exact ⟨a,ty,fr,(Below.heap_alloc w o g b).trans h,d⟩
theorem Xk.shape (h:Xk w g off X):∃ t k,k≠0/\w.shape? g=some (t,k):=by
 obtain ⟨a,ty,fr,h,h1,_⟩:=h;exact ⟨ty,a.size,by omega,by simp [World.shape?,h]⟩
theorem Sl.one_x {enc:α->List Value}{c:Nat}{x:α}(d:1<=c)(h:Xk w g off (enc x)):Sl w (fun _=>True) sz enc (.slice (some ⟨g,off,none⟩) 1 c) [x] :=
 ⟨_,c,rfl,d,fun _=>⟨g,off,rfl,trivial,h.lt,fun k b j u a=>by
  have:k=0:=by simpa using b
  subst this;simpa using h.cell (by simpa using a)⟩⟩
end
theorem zak (w:World)(tS tR e:TypeId)(v:P.underlying tS=some (.slice e))(size:Nat)(u:∀ w,(Go.sizeOf e).run P w=.ok size w)
  (a b:Addr) (la ca lb cb:Nat) (h:a.block≠b.block) (d:∃ t k,k≠0/\w.shape? a.block=some (t,k)) (tB:TypeId) (kB:Nat) (l:w.shape? b.block=some (tB,kB)) (o:kB≠0)
  (r:w.frozen? b=false) (q:w.frozen? { block:=b.block,off:=kB }=false) :
  (Extern.SlicesOverlaps.overlaps #[tS,tS] #[tR] #[.slice (some a) la ca,.slice (some b) lb cb]).run P w=.ok (.bool false) w:=by
 have m:(a.block != b.block)=true:=by simpa using h
 have i:(a.block == b.block)=false:=by simpa using h
 obtain ⟨tA,kA,p,d⟩:=d;change Sem.run P (α:=Value) (underlying tS >>= _) w=_;by_cases x:la=0\/lb=0\/size=0
 ·simp [run_underlying v,u,x]
 ·cases kB with
  |zero=>exact absurd rfl o
  |succ kB =>
   cases kA with
   |zero=>exact absurd rfl p
   |succ kA =>
    cases s:w.frozen? a<;>cases j:w.frozen? { block:=a.block,off:=kA+1 } <;>
    simp [run_underlying v,u,x,m,i,frozen,noView,viewAt,mayBeOne,stringish,shape,Sem.run,d,l,s,j,r,q]
def zr8 (e:TypeId)(sz:Nat)(enc:α->List Value)(base:Nat)(v:Value)(l:List α)(w0:World)(r:Ending)(w':World):Prop:=∃ A c,r=.returned (.slice A l.length c)/\Own w' base e sz enc (.slice A l.length c) l/\w0.grownBy w' v.ownBlock/\((Value.slice A l.length c).ownBlock=v.ownBlock\/(Value.slice A l.length c).ownBlock=some w0.heap.size)
def Qs (n:Nat)(a:List α)(i:Int)(v:List α):Option (List α) :=
 match v with
 |[x]=>if 0<=i/\i.toNat<=a.length/\a.length<=1000000000 then some (a.take i.toNat++x::a.drop i.toNat) else none
 |_=>none
theorem zqt (d:Value)(us:List Value)(n:Nat)(h:us.length=n*sz):(bO n).flatMap (fun k=>(bO sz).map fun j=>us.getD (k*sz+j) d)=us:=by
 induction n generalizing us with
 |zero=>simp at h;subst h;rfl
 |succ n ih =>
  rw [range_succ_eq_map,flatMap_cons,flatMap_map];have h1:(bO sz).map (fun j=>us.getD (0*sz+j) d)=us.take sz:=by
   apply ext_getElem
   ·simp [h,aK]
   ·intro j h1 a;have b:j<us.length:=by simp at a;omega
    simp [aE b]
  have a:(fun k=>(bO sz).map fun j=>us.getD (k.succ*sz+j) d)=fun k=>(bO sz).map fun j=>(us.drop sz).getD (k*sz+j) d:=by
   funext k;refine map_congr_left fun j _=>?_
   rw [aA,aA,bN,aK,Nat.add_right_comm,Nat.add_comm (k*sz+j) sz]
  rw [h1,a,ih (us.drop sz) (by rw [length_drop,h,aK];omega),take_append_drop]
theorem znr {e:Nat}(hP:E.P=P)(hE:Bh E f)(hz:0<sz)
  (any:∀ (l:List (Cel sz)) (x:Cel sz) (i base:Nat) (A:Option Addr) (c g off c1:Nat) (w:World),Own w base e sz encC (.slice A l.length c) l->Xk w g off (encC x)->1<=c1->(Value.slice A l.length c).ownBlock≠some g->i<=l.length->l.length<=1000000000->base<=w.heap.size ->
    Calls P f #[.slice A l.length c,.int .i64 i,.slice (some ⟨g,off,none⟩) 1 c1] w (zr8 e sz encC base (.slice A l.length c) (l.take i++x::l.drop i) w))  {enc:α->AV}  {a v r:List α} {i:Int} (K:Qs n a i v=some r) :
  ConC false E f [.row 0,aI i,.sl sz (List.map enc v)] e sz (List.map enc a) e sz (List.map enc r) (.row 0):=by
 unfold Qs at K;split at K
 ·rename_i x;split at K
  ·rename_i hc;obtain ⟨d,rfl⟩:=Int.eq_ofNat_of_zero_le hc.1;simp only [Int.toNat_natCast] at hc K;injection K with K
   subst K;refine ⟨hE,rfl,fun S w0 w vs v us al o ae an ac M hn V=>?_⟩;have e3:∃ p q s,vs=#[p,q,s]:=by
    obtain ⟨l⟩:=vs
    match l,hn with
    |[p,q,s],_=>exact ⟨p,q,s,rfl⟩
   obtain ⟨p,q,s,rfl⟩:=e3;have ha:=V (fun _=>some (some (v.ownBlock,v))) rfl;have hp:Rep w S (fun _=>some (some (v.ownBlock,v))) (.row 0) p:=ha 0 (by simp);have hq:Rep w S (fun _=>some (some (v.ownBlock,v))) (aI d) q:=ha 1 (by simp);have hs:Rep w S (fun _=>some (some (v.ownBlock,v))) (.sl sz [enc x]) s:=ha 2 (by simp);have ao:p=v:=hp.row_inv rfl (F9 (Cg o));subst ao;rw [hq.int_inv];obtain ⟨A',c1,rfl,av,ak,cell,Y,am,h1⟩:=hs.sl_inv;obtain ⟨g,off,rfl,ax,ba,G⟩:=Y (by simp);have aa:(enc x).cells.length=sz:=ak 0 (by simp);let X:Cel sz:=⟨(bO sz).map (fun j=>cell 0 j),by simp,fun u I=>by obtain ⟨j,_,rfl⟩:=mem_map.1 I;exact h1 0 j⟩;have ai:∀ j,j<sz->(encC X)[j]? = some (cell 0 j):=fun j t=>by simp [encC,X,t]
   have hX:Xk w g off (encC X):=by
    have h0:=G 0 0 (by simp) hz;simp only [Nat.zero_mul,eG] at h0;have ad:∃ C ty fr,w.heap[g]? = some (.cells C ty fr):=by
     unfold World.cell? at h0;split at h0
     ·rename_i C ty fr hh;exact ⟨C,ty,fr,hh⟩
     ·cases h0
    obtain ⟨C,ty,fr,hh⟩:=ad;have ah:∀ j,j<sz->C[off+j]? = some (cell 0 j):=fun j t=>by
     have:=G 0 j (by simp) t;simpa [World.cell?,hh] using this
    refine ⟨C,ty,fr,hh,?_,fun j u I=>?_⟩
    ·have:=(aH.1 (ah 0 hz)).1;omega
    ·have t:j<sz:=by have:=(List.getElem?_eq_some_iff.1 I).1;simpa [encC,X] using this
     rw [ai j t] at I;rw [ah j t,I]
   let l:List (Cel sz):=(bO (List.map enc a).length).map fun k=>⟨(bO sz).map fun j=>us.getD (k*sz+j) (.bool true),by simp,fun u I=>by
    obtain ⟨j,_,rfl⟩:=mem_map.1 I;rw [aA];cases hq:us[k*sz+j]? with
    |none=>rfl
    |some u=>exact ac u (mem_of_getElem? hq)⟩
   have z:l.length=(List.map enc a).length:=by simp [l]
   have au:l.flatMap encC=us:=by
    have:=zqt (sz:=sz) (.bool true) us (List.map enc a).length o.1;rw [<-this];simp [l,encC,flatMap_map]
   have ho:Own w w0.heap.size e sz encC p l:=by
    show w.ownsRow _ e sz p l.length (l.flatMap encC);rw [au,z];exact o
   obtain ⟨A,c,ap,ay,_⟩:=ho.val;subst ap;have hi:d<=l.length:=by rw [z,aC];exact hc.2.1
   rw [hP];refine (any l X d w0.heap.size A c g off c1 w ho hX (by simpa using av) (fun e=>M g e ax) hi (by rw [z,aC];exact hc.2.2) al.size).mono ?_;rintro ed w' ⟨A2,c2,rfl,aq,J,aw⟩;have N:(List.take d l++X::bK d l).length=(List.map enc (List.take d a++x::bK d a)).length:=by
    simp [z]
   have ab:∀ b,(Value.slice A2 (List.take d l++X::bK d l).length c2).ownBlock=some b->(Value.slice A l.length c).ownBlock=some b\/w.heap.size<=b:=fun b Y=>by
    rcases aw with h|h
    ·exact bC (h▸Y)
    ·rw [h] at Y;injection Y with Y;exact aM (by omega)
   have O:w'.ownsRow w0.heap.size e sz (Value.slice A2 (List.take d l++X::bK d l).length c2) (List.take d l++X::bK d l).length ((List.take d l++X::bK d l).flatMap encC):=aq;have ag:∀ y∈a,(enc y).cells.length=sz:=fun y hy=>by
    obtain ⟨k,H,rfl⟩:=mem_iff_getElem.1 hy;have:=ae k (by simpa using H);simpa using this
   -- every element of the new row,with its cells
   have af:∀ k (H:k<(List.take d l++X::bK d l).length) (B:k<(List.take d a++x::bK d a).length),((List.take d l++X::bK d l)[k]=X/\(List.take d a++x::bK d a)[k]=x) \/
     ∃ m,∃ hm:m<l.length,∃ D:m<a.length,(List.take d l++X::bK d l)[k]=l[m]/\(List.take d a++x::bK d a)[k]=a[m]:=fun k H B=>by
    have az:l.length=a.length:=by rw [z,aC]
    by_cases h1:k<d
    ·refine aM ⟨k,by omega,by omega,?_,?_⟩
     ·rw [bL (by simp;omega)];simp
     ·rw [bL (by simp;omega)];simp
    ·by_cases h2:k=d
     ·refine bC ⟨?_,?_⟩
      ·rw [aJ (by simp;omega)];simp only [aY,show k-min d l.length=0 by omega,cM]
      ·rw [aJ (by simp;omega)];simp only [aY,show k-min d a.length=0 by omega,cM]
     ·refine aM ⟨k-1,by simp at H;omega,by simp at B;omega,?_,?_⟩
      ·rw [aJ (by simp;omega)];simp only [aY,show k-min d l.length=(k-1-d)+1 by omega,cN,getElem_drop];congr 1;omega
      ·rw [aJ (by simp;omega)];simp only [aY,show k-min d a.length=(k-1-d)+1 by omega,cN,getElem_drop];congr 1;omega
   refine ⟨_,_,(List.take d l++X::bK d l).flatMap encC,rfl,J,by rw [<-N];exact O,fun h=>(by cases h),ab,fun k H=>?_,fun k H j t=>?_,fun u I=>?_,fun γ' Z=>.row Z (fun g s e _=>by injection e with e;injection e with _ e)⟩
   ·have B:k<(List.take d a++x::bK d a).length:=by simpa using H
    rw [aS];rcases af k (by rw [N];exact H) B with ⟨_,h⟩|⟨m,hm,D,_,h⟩
    ·rw [h];exact aa
    ·rw [h];exact ag _ (bI D)
   ·have B:k<(List.take d a++x::bK d a).length:=by simpa using H
    have R:k<(List.take d l++X::bK d l).length:=by rw [N];exact H
    have aj:∀ b,S b->b<w.heap.size->w'.heap[b]? = w.heap[b]? /\ ((S b\/w.heap.size<=b)/\(Value.slice A2 (List.take d l++X::bK d l).length c2).ownBlock≠some b):=fun b hS Q =>
     ⟨J.block b Q (fun e=>M b e.symm hS),bC hS,fun e=>by
      rcases ab b e with h|h
      ·exact M b h hS
      ·omega⟩
    simp only [aS] at t ⊢;rcases af k R B with ⟨W,L⟩|⟨m,hm,D,W,L⟩
    ·simp only [L] at t ⊢;have F:j<sz:=by omega
     have U:=Ub (enc:=encC (n:=sz)) (fun y _=>y.2.1) k R j F (cell 0 j) (by rw [W];exact ai j F);rw [aA,U];have:=am 0 (by simp) j t;exact Rep.mono this J.size aj
    ·simp only [L] at t ⊢;have F:j<sz:=by rw [ag _ (bI D)] at t;exact t
     have ar:(encC l[m])[j]? = some (us.getD (m*sz+j) undef):=by
      have Q:m*sz+j<us.length:=by
       rw [o.1,<-z];have:(m+1)*sz<=l.length*sz:=aF _ hm;rw [aK] at this;omega
      simp [l,encC,F,aE Q]
     have U:=Ub (enc:=encC (n:=sz)) (fun y _=>y.2.1) k R j F _ (by rw [W];exact ar);rw [aA,U];have:=an m (by simpa using D) j (by simpa using t);simp only [aS] at this;exact Rep.mono this J.size aj
   ·obtain ⟨y,_,hy⟩:=mem_flatMap.1 I;exact y.2.2 u hy
  ·cases K
 ·cases K
theorem zrq {S:Nat->Prop}{w:World}(a:E.yl=none)(e:E.np=0)(k:E.ld=true->Laid (fun b=>S b/\b<w.heap.size) w):MeSt (Cx.call E S w 0) G0 [] w :=
 ⟨fun t=>.any _,fun i=>rfl,fun i j b s u h=>(by cases h),fun b ⟨i,s,h,_⟩=>(by cases h),Below.refl _ _,rfl,⟨fun _=>rfl,⟨[],rfl,.nil,fun r p=>by cases p⟩,fun t o=>by rw [show (Cx.call E S w 0).E.np=0 from e] at o;omega,fun l R k=>absurd (a.symm.trans k) (by simp),bH _,fun h=>absurd h (by simp [Cx.call]),k,(fun d q=>by cases q),Nat.zero_le _⟩,fun b m=>m.2,fun b m=>m.elim,fun _=>bH _⟩
theorem zi9 {x:AV}(h:x.closed=true)(i:Nat)(hi:i<x.cells.length):(x.cells[i]).closed=true:=by
 cases x<;>first
  |(simp only [AV.closed] at h;exact eB h i hi)
  |(simp only [dE,aZ,bD] at hi
    obtain rfl:i=0:=by omega
    exact h)
theorem zny (n:Nat){x:AV}(h:x.closed=true):cA (cV n x)=true:=by
 induction n with
 |zero=>rfl
 |succ n ih=>rw [replicate_succ,cA,h,ih];rfl
theorem E4.ofX {j:Nat}(r:E.yl=none)(o:E.np=0)(z:E.dr=false)(x:E.ld=false)(J:Bh E f)(h:ConX E (Hu E.P f) avs [] (.row j) [(j,.gen ty sz xs)])(F:cA xs=true):E4 E f avs ty sz xs:=by
 refine ⟨J,fun S w vs C=>?_⟩;have H:=h (Cx.call E S w 0) G0 w vs rfl rfl z rfl rfl o (zrq r o (fun h=>absurd (x.symm.trans h) (by simp))) C.1 (fun i hi=>(C.2 i hi).mono (bH _) (fun b d a=>⟨rfl,bC ⟨⟨d,a⟩,a⟩⟩));have H:Calls E.P f vs w (Ht (Cx.call E S w 0) G0 w (.row j) [(j,.gen ty sz xs)]):=H;refine H.mono ?_;rintro e w' ⟨u,γ',rfl,q,D,M,L,K⟩;obtain ⟨s,us,y,h1,l,p,I,m⟩:=zkd (τ:=⟨[],[(j,.gen ty sz xs)]⟩) (id:=j) (ty:=ty) (sz:=sz) (xs:=xs) q (by simp [AS.find,lkE]);have G:=D.row_inv y (F9 h1);subst G;refine ⟨u,us,rfl,q.below,l,p,fun k B i hi=>?_,m⟩;have A:=zi9 (eB F k B) i hi;refine ((I k B i hi).close A).mono (bH _) (fun b d _=>⟨rfl,?_⟩);rcases d with ⟨⟨d,_⟩,a⟩|⟨⟨d,_⟩,v⟩
 ·refine ⟨bC d,fun t=>?_⟩;have a:b<w.heap.size:=a;have:=(q.ge b ⟨j,_,y,by rw [t];exact Bc⟩).1.1;have this:w.heap.size<=b:=this;omega
 ·exact ⟨aM d,fun t=>v ⟨j,_,y,by rw [t];exact Bc⟩⟩
noncomputable def rtr:FT:=.node 51 (.leaf 31 Tryz.f31) (.node 83 (.leaf 51 Tryz.f51) (.leaf 83 Tryz.f83))
theorem zx4:rtr.All fun f fn=>E0.P.funcs[f]? = some fn/\Bh E0 f:=⟨⟨Tryz.func31,Tryz.call31⟩,⟨Tryz.func51,Tryz.call51⟩,⟨Tryz.func83,Tryz.call83⟩⟩
noncomputable def Xr:XE:=⟨E0,rtr,zx4⟩
def repI (n:Nat):NR->Bool |.ok (.row j) [] [(a,.gen ty sz xs)] _=>eY j a && (eY ty 3 && (eY sz 1 && AV.eqBL xs (cV n (.int .i64 (-1))))) |_=>false
def Y3 (p:Nat->Bool):Nat->Bool |0=>true |n+1=>p (n+1) && Y3 p n
theorem zfs {p:Nat->Bool}:∀ {n:Nat},Y3 p n=true->∀ m,1<=m->m<=n->p m=true
 |0,_,m,h1,a=>by omega
 |n+1,h,m,h1,a=>by
  simp only [Y3,cT] at h;by_cases hm:m=n+1
  ·rw [hm];exact h.1
  ·exact zfs h.2 m h1 (by omega)
set_option maxRecDepth 1000000 in
theorem zuu:Y3 (fun n=>repI n (Mo Xr (evX Xr 3000) 31 [.sl 1 [.int .i64 (-1)],.int .i64 (n:Int)] [] (fun _=>none) 0)) 20=true:=by kernel_rfl
theorem zuv (n:Nat)(h1:1<=n)(p:n<=20):E4 E0 31 [.sl 1 [.int .i64 (-1)],.int .i64 (n:Int)] 3 1 (cV n (.int .i64 (-1))):=by
 have h:=zfs zuu n h1 p;unfold repI at h;split at h
 ·rename_i j q ty sz xs k l;simp only [cT] at h;obtain ⟨i,e,d,a⟩:=h;have i:=nbeq i;have e:=nbeq e;have d:=nbeq d;have a:=AV.eqBL_ok _ _ a;subst i e d;obtain ⟨m,o⟩:=zor (X:=Xr) ⟨rfl,rfl,rfl⟩ l;have b:cA xs=true:=by rw [a];exact zny n rfl
  have:=E4.ofX (E:=E0) rfl rfl rfl rfl m o b
  rwa [a] at this
 ·cases h
def Qr (n:Nat)(a:List Int)(k:Int):Option (List Int):=if a=[-1]/\1<=k/\k<=20 then some (cV k.toNat (-1)) else none
theorem z7u {a r:List Int}{k:Int}(b:Qr n a k=some r):ConT E0 31 [.sl 1 (List.map aI a),aI k] 3 1 (List.map aI r) (.row 0):=by
 unfold Qr at b;split at b
 ·rename_i h;obtain ⟨rfl,h1,d⟩:=h;injection b with b
  subst b;have:=ConT.ofRow (zuv k.toNat (by omega) (by omega));rw [map_replicate];have e:((k.toNat:Nat):Int)=k:=by omega
  rw [e] at this;exact this
 ·cases b
def Wz (n:Nat):Option Bool:=some true
end Go.Proofs.YtkoamfnbbhfaiaaGreatDoor
