/- What some functions compute, over plain values. -/
import Derived.Test.YthbogefcfhmpgaaGreatK07
set_option linter.unusedVariables false
set_option linter.unusedSimpArgs false
set_option maxRecDepth 100000
set_option maxHeartbeats 8000000
namespace Go.Proofs.YthbogefcfhmpgaaGreat
open Go.RowKit List
open LeX renaming a->aA,trans->aE,adopt->aK,itc->cZ
open RetX renaming oB->aB
open AW renaming stepU->aC,regO->aG,step->aH,jI->bG,frzO->bH,pckO->cV
open CI renaming w->aD
open IntKind renaming wrap->aF
open ConG renaming up->aJ,walk->aR
open EqX renaming A->aL
open A3 renaming o->aM,t->aS,f->aU
open IdxX renaming A->aN,oD->aX,o->bY
open Au renaming I->aO
open AppX renaming oA->aP
open Tryz renaming func284->aQ,func237->aY,func109->bE,prog->bI,func105->bK,func235->bN,func175->bO,func265->bP,func187->bR,func188->bS,func189->bT,func263->bU,func107->bV,ntmps265->cG,ntmps188->cH,ntmps189->cI,func190->cJ,func365->cK,func366->cL,func367->cM,func368->cN,func369->cO,func201->cP,func124->cR,func239->cT,func116->cU,func313->dA
open Ab renaming I->aT,oM->bM,o->cD
open SubL renaming refl->aV
open Or renaming inr->aW,inl->bL
open Bool renaming not_false->aZ,not_true->bB
open Nat renaming le_of_ble_eq_true->bA,le_refl->bD
open B5 renaming oM->bC,I->cE
open Option renaming isNone_none->bF
open _root_.Go.Proofs.YthbogefcfhmpgaaGreat.Own renaming made_->bJ,nil_->dC
open OpX renaming lkv->bQ,rng->cW,nxt->cX,ent->cY,nlq->dB
open List renaming map_cons->bW,map_nil->bX,length_nil->cC
open NatX renaming o->bZ,oS->dE
noncomputable section
abbrev z69 (x:Ba):List AV:=[.str (x.fName),.sl 2 (x.fFields.map D0)]
def Gy (n:Nat)(a:Ad)(e:Int×(List Bool))(c:(List Bool)->Option ((List Bool))):Nat->Int×(List Bool)->Option ((List Bool)) |0,_=>none |d+1,b=>cnd (decide (b.1<((a.fEdges.map Aa).length:Int))) (idx a.fEdges b.1 λf=>reg<|cnd (decide (f.fTo<0)) (nat f.fFrom (b.2.map AV.bool).length λg=>stx b.2 g (λp=>true) λh=>(Gy n a e c d) ((aF .i64 (b.1+1)),h))<|nat f.fTo (b.2.map AV.bool).length λj=>elt b.2 j λk=>cnd (k) (nat f.fFrom (b.2.map AV.bool).length λl=>stx b.2 l (λq=>true) λo=>(Gy n a e c d) ((aF .i64 (b.1+1)),o))<|(Gy n a e c d) ((aF .i64 (b.1+1)),b.2))<|c b.2
def Kw (n:Nat)(a:Ad)(c:(List Bool)->Option ((List Bool))):Nat->Int×(List Bool)->Option ((List Bool)) |0,_=>none |e+1,b=>cnd (decide (b.1<((a.fStates.map Am).length:Int))) (Gy n a b (λd=>(Kw n a c e) ((aF .i64 (b.1+1)),d)) n (0,b.2))<|c b.2
def Zx (n:Nat)(a:Ad):Option ((List Bool)):=mak ((a.fStates.map Am).length:Int) 1 (false:Bool) λc=>Kw n a (λb=>some b) n (0,c)
def L6 (n:Nat)(a:(List Bool))(c:(List Int)->Option ((List Int))):Nat->Int×(List Int)->Option ((List Int)) |0,_=>none |d+1,b=>cnd (decide (b.1<((a.map AV.bool).length:Int))) (reg<|idx a b.1 λe=>cnd (e) (app b.2 [b.1] 8 λf=>(L6 n a c d) ((aF .i64 (b.1+1)),f))<|(L6 n a c d) ((aF .i64 (b.1+1)),b.2))<|c b.2
def z09 (n:Nat)(a:(List Bool)):Option ((List Int)):=L6 n a (λb=>some b) n (0,[])
def Me (n:Nat)(b:Ad):Option ((List Int)×Int):=bnd (Ff n b) λa=>cnd (!decide (a=0)) (some ([],a))<|bnd (Zx n b) λd=>bnd (z09 n d) λc=>some (c,0)
def Eo (n:Nat)(b:Bool):Option (Bool):=some b
def Rl (n:Nat)(a:Int):Option (Bool):=jon (Eo n)<|reg<|cnd (decide (97<=a)) (cnd (decide (a<=122)) (Eo n true)<|cnd (decide (65<=a)) (cnd (decide (a<=90)) (Eo n true)<|Eo n (decide (a=95)))<|Eo n (decide (a=95)))<|cnd (decide (65<=a)) (cnd (decide (a<=90)) (Eo n true)<|Eo n (decide (a=95)))<|Eo n (decide (a=95))
def J9 (n:Nat)(a:ByteArray)(c:Int)(b:Int->Option (Bool))(d:Bool):Option (Bool):=cnd (d) (some false)<|b (aF .i64 (c+1))
def Ha (n:Nat)(a:ByteArray)(b:Option (Bool)):Nat->Int->Option (Bool) |0,_=>none |d+1,c=>cnd (decide (c<((a.size:Nat):Int))) (jon (J9 n a c (Ha n a b d))<|reg<|idb a c λe=>bnd (Rl n e) λf=>cnd (!(f)) (idb a c λg=>cnd (decide (g<48)) (J9 n a c (Ha n a b d) true)<|idb a c λh=>J9 n a c (Ha n a b d) (decide (57<h)))<|J9 n a c (Ha n a b d) false)<|b
def Fe (n:Nat)(a:ByteArray)(b:Bool):Option (Bool):=cnd (b) (some false)<|Ha n a (some true) n 0
def Sa (n:Nat)(a:ByteArray):Option (Bool):=jon (Fe n a)<|reg<|cnd (decide (((a.size:Nat):Int)=0)) (Fe n a true)<|cnd (decide (24<((a.size:Nat):Int))) (Fe n a true)<|idb a 0 λb=>bnd (Rl n b) λc=>Fe n a !(c)
def Pe (n:Nat)(f:ByteArray)(a:Ba)(c:Option (Int)):Nat->Int->Option (Int) |0,_=>none |d+1,b=>cnd (decide (b<((a.fFields.map D0).length:Int))) (idx a.fFields b λe=>cnd ((e.fName.toList == f.toList)) (some b)<|(Pe n f a c d) (aF .i64 (b+1)))<|c
def Zl (n:Nat)(b:Ba)(a:ByteArray):Option (Int):=Pe n a b (some (-1)) n 0
def J4 (n:Nat)(a:Ba)(c:Int)(b:Int->Option (Int))(d:Bool):Option (Int):=cnd (d) (some 1)<|b (aF .i64 (c+1))
def H8 (n:Nat)(a:Ba)(c:Int)(b:Int->Option (Int))(d:Ts)(e:Bool):Option (Int):=cnd (e) (some 8)<|bnd (Zl n a d.fName) λf=>cnd (decide (f<c)) (some 7)<|jon (J4 n a c b)<|reg<|cnd (!decide (d.fKind=0)) (cnd (!decide (d.fKind=1)) (J4 n a c b (!decide (d.fKind=2)))<|J4 n a c b false)<|J4 n a c b false
def H7 (n:Nat)(a:Ba)(b:Option (Int)):Nat->Int->Option (Int) |0,_=>none |d+1,c=>cnd (decide (c<((a.fFields.map D0).length:Int))) (idx a.fFields c λe=>jon (H8 n a c (H7 n a b d) e)<|reg<|bnd (Sa n e.fName) λf=>cnd (!(f)) (H8 n a c (H7 n a b d) e true)<|H8 n a c (H7 n a b d) e (e.fName.toList == (ByteArray.mk #[116,105,109,101]).toList))<|b
def Vz (n:Nat)(a:Ba):Option (Int):=bnd (Sa n a.fName) λb=>cnd (!(b)) (some 8)<|cnd (decide (8<((a.fFields.map D0).length:Int))) (some 5)<|H7 n a (some 0) n 0
def Ql (n:Nat)(f:ByteArray)(a:(List Ba))(c:Option (Int)):Nat->Int->Option (Int) |0,_=>none |d+1,b=>cnd (decide (b<((a.map B2).length:Int))) (idx a b λe=>cnd ((e.fName.toList == f.toList)) (some b)<|(Ql n f a c d) (aF .i64 (b+1)))<|c
def z0q (n:Nat)(b:(List Ba))(a:ByteArray):Option (Int):=Ql n a b (some (-1)) n 0
def Pf (n:Nat)(a:(List Ba))(c:Option (Int)):Nat->Int->Option (Int) |0,_=>none |d+1,b=>cnd (decide (b<((a.map B2).length:Int))) (idx a b λf=>bnd (Vz n f) λe=>cnd (!decide (e=0)) (some e)<|idx a b λg=>bnd (z0q n a g.fName) λh=>cnd (decide (h<b)) (some 7)<|(Pf n a c d) (aF .i64 (b+1)))<|c
def V7 (n:Nat)(a:(List Ba)):Option (Int):=cnd (decide (16<((a.map B2).length:Int))) (some 5)<|Pf n a (some 0) n 0
def Lg (n:Nat)(b:Bool):Option (Int):=cnd (b) (some 2)<|some 0
def Vu (n:Nat)(e:(List Ba))(d:Ad)(c:Int):Option (Int):=bnd (V7 n e) λb=>cnd (!decide (b=0)) (some b)<|bnd (Ff n d) λa=>cnd (!decide (a=0)) (some a)<|jon (Lg n)<|reg<|cnd (decide (c<1)) (Lg n true)<|Lg n (decide (4096<c))
def Py (n:Nat)(a:Int)(i:(List Bool))(j:(List Int))(k:(List A1))(g:Int×(List (Bh×Bool)))(d:A1)(c:(List (Bh×Bool))->Option (Int)):Nat->Int×(List (Bh×Bool))->Option (Int) |0,_=>none |f+1,b=>cnd (decide (b.1<((d.fBindings.map B0).length:Int))) (idx d.fBindings b.1 λe=>mst b.2 (⟨e.fRef.fTime,e.fRef.fSource,e.fRef.fSeq⟩:Bh) true λh=>(Py n a i j k g d c f) ((aF .i64 (b.1+1)),h))<|c b.2
def En (n:Nat)(a:Int)(g:(List Bool))(h:(List Int))(i:(List A1))(b:Int×(List (Bh×Bool)))(c:(Int×(List (Bh×Bool)))->Option (Int))(f:A1)(e:Bool):Option (Int):=cnd (e) (c ((aF .i64 (b.1+1)),b.2))<|Py n a g h i b f (λd=>c ((aF .i64 (b.1+1)),d)) n (0,b.2)
def Ef (n:Nat)(j:Int)(k:(List Bool))(a:(List Int))(i:(List A1))(b:(List (Bh×Bool))->Option (Int)):Nat->Int×(List (Bh×Bool))->Option (Int) |0,_=>none |e+1,c=>cnd (decide (c.1<((i.map A7).length:Int))) (idx i c.1 λd=>jon (En n j k a i c (Ef n j k a i b e) d)<|reg<|cnd (decide (((d.fBindings.map B0).length:Int)=0)) (En n j k a i c (Ef n j k a i b e) d true)<|cnd (decide (d.fState<0)) (En n j k a i c (Ef n j k a i b e) d true)<|cnd (decide (((a.map aI).length:Int)<=d.fState)) (En n j k a i c (Ef n j k a i b e) d true)<|idx k d.fState λf=>cnd (f) (idx d.fBindings 0 λg=>idx a d.fState λh=>En n j k a i c (Ef n j k a i b e) d (decide (h<(aF .i64 (j-g.fRef.fTime)))))<|En n j k a i c (Ef n j k a i b e) d false)<|b c.2
def M8 (n:Nat)(e:(List A1))(d:(List Int))(c:(List Bool))(a:Int):Option (Int):=Ef n a c d e (λb=>some (((List.map (encM Bj AV.bool) (b)).length:Nat):Int)) n (0,[])
def Kp (n:Nat)(a:(List A8))(g:Dy)(e:Dc×Int)(f:(List Int)×(List Bool)×Int)(c:Int)(b:Int->Option (Bool))(d:Bool):Option (Bool):=cnd (d) (some false)<|b (aF .i64 (c+1))
def Ik (n:Nat)(a:(List A8))(i:Dy)(e:Dc×Int)(d:(List Int)×(List Bool)×Int)(b:Option (Bool)):Nat->Int->Option (Bool) |0,_=>none |f+1,c=>cnd (decide (c<=((a.map A5).length:Int))) (sls a 0 c λh=>bnd (Oh n i.fA h) λg=>jon (Kp n a i e d c (Ik n a i e d b f))<|reg<|cnd (!decide (g.2.2=0)) (Kp n a i e d c (Ik n a i e d b f) true)<|idx a (aF .i64 (c-1)) λj=>bnd (M8 n g.1 d.1 d.2.1 j.fTime) λk=>Kp n a i e d c (Ik n a i e d b f) (decide (e.1.fBound<k)))<|b
def Il (n:Nat)(a:(List A8))(e:Dy)(c:Dc×Int)(d:(List Int)×(List Bool)×Int)(b:Bool):Option (Bool):=cnd (b) (some true)<|Ik n a e c d (some true) n 1
def Co (n:Nat)(a:(List A8))(f:Dy)(b:Dc×Int)(c:(List Int)×(List Bool)×Int)(e:(List Int)×Int)(d:Bool):Option (Bool):=cnd (d) (some false)<|jon (Il n a f b c)<|reg<|cnd (!decide (b.1.fVerdict=1)) (Il n a f b c true)<|Il n a f b c (!decide (((e.1.map aI).length:Int)=((c.1.map aI).length:Int)))
def Ko (n:Nat)(a:(List A8))(g:Dy)(c:Option (Bool)):Nat->Int->Option (Bool) |0,_=>none |d+1,b=>cnd (decide (b<((a.map A5).length:Int))) (idx a b λf=>idx a (aF .i64 (b-g.fRate)) λe=>cnd (decide (f.fTime=e.fTime)) (some true)<|(Ko n a g c d) (aF .i64 (b+1)))<|c
def Fa (n:Nat)(f:(List A8))(a:Dy)(e:Bool):Option (Bool):=cnd (e) (some true)<|Ko n f a (bnd (Fh n a.fTypes a.fA a.fRate) λc=>bnd (Hy n a.fA) λb=>bnd (Me n a.fA) λd=>jon (Co n f a c b d)<|reg<|cnd (!decide (c.2=0)) (Co n f a c b d true)<|cnd (!decide (b.2.2=0)) (Co n f a c b d true)<|cnd (!decide (d.2=0)) (Co n f a c b d true)<|cnd (!decide (((b.1.map aI).length:Int)=((a.fA.fStates.map Am).length:Int))) (Co n f a c b d true)<|Co n f a c b d (!decide (((b.2.1.map AV.bool).length:Int)=((b.1.map aI).length:Int)))) n a.fRate
def Z2 (n:Nat)(a:Dy)(f:(List A8)):Option (Bool):=bnd (V5 n) λg=>cnd (!(g)) (some false)<|jon (Fa n f a)<|reg<|bnd (We n a.fTypes a.fA) λb=>cnd (!(b)) (Fa n f a true)<|bnd (Vu n a.fTypes a.fA a.fRate) λc=>cnd (!decide (c=0)) (Fa n f a true)<|bnd (Jn n f) λd=>cnd (!decide (d=0)) (Fa n f a true)<|bnd (Rv n a.fA f) λe=>Fa n f a !(e)
attribute [irreducible] Eo J9 Fe J4 H8 Lg En Kp Il Co Fa
end
noncomputable section
abbrev z8a {n b a g c d e}:=jf (Lm n b a g c d e) (λf=>⟨[(1,aI a),(2,.ptr 2 0),(5,aI c.1),(6,aI c.2),(16,.bool (f))],[(2,.box 146 (D4 g))]⟩) λ_=>Lm.eq_1 ..
abbrev z89 {n b a e c}:=li (J3 n b a e c) (λd=>⟨[(1,aI a),(2,.ptr 2 0),(5,aI d.1),(6,aI d.2)],[(2,.box 146 (D4 e))]⟩) λ_ _=>J3.eq_2 ..
abbrev z88 {n b a c}:=li (Qi n b a c) (λd=>⟨[(1,.ptr 1 0),(3,aI d.1),(4,aI d.2)],[(1,.box 146 (D4 a))]⟩) λ_ _=>Qi.eq_2 ..
abbrev z83 {n}:=jt (Ep n) (λb=>⟨[(12,.bool (b))],[]⟩) λ_=>Ep.eq_1 ..
abbrev z84 {n a}:=jt (G8 n a) (λb=>⟨[(3,aI a),(4,.bool (b))],[]⟩) λ_=>G8.eq_1 ..
abbrev z9h {n b}:=jf (J6 n b) (λc=>⟨[(2,.bool (c)),(3,.bool (b))],[]⟩) λ_=>J6.eq_1 ..
abbrev z9i {n a}:=jf (Ly n a) (λb=>⟨[(0,aI a),(4,.bool (b))],[]⟩) λ_=>Ly.eq_1 ..
abbrev z8b {n}:=jf (H4 n) (λb=>⟨[(4,.bool (b))],[]⟩) λ_=>H4.eq_1 ..
abbrev z9k {n}:=jf (Cb n) (λb=>⟨[(130,.bool (b))],[]⟩) λ_=>Cb.eq_1 ..
abbrev z9l {n d a b}:=jf (H9 n d a b) (λc=>⟨[(1,.ptr 1 0),(4,.bool (a.1)),(5,.bool (a.2)),(6,.bool (decide (d.fOp=4))),(7,.bool (b)),(95,.bool (c))],[(1,.box 146 (D4 d))]⟩) λ_=>H9.eq_1 ..
abbrev z9m {n c a b}:=jt (Lz n c a b) (λ_=>⟨[(1,.ptr 1 0),(4,.bool (a.1)),(5,.bool (a.2)),(6,.bool (decide (c.fOp=4))),(7,.bool (b))],[(1,.box 146 (D4 c))]⟩) λ_=>Lz.eq_1 ..
abbrev z9n {n c a}:=jf (M0 n c a) (λb=>⟨[(1,.ptr 1 0),(4,.bool (a.1)),(5,.bool (a.2)),(6,.bool (decide (c.fOp=4))),(7,.bool (b))],[(1,.box 146 (D4 c))]⟩) λ_=>M0.eq_1 ..
abbrev z9o {n c a}:=jf (J7 n c a) (λb=>⟨[(1,.ptr 1 0),(4,.bool (a.1)),(5,.bool (a.2)),(6,.bool (decide (c.fOp=4))),(62,.bool (b))],[(1,.box 146 (D4 c))]⟩) λ_=>J7.eq_1 ..
abbrev z9p {n c a}:=jf (Eg n c a) (λb=>⟨[(1,.ptr 1 0),(4,.bool (a.1)),(5,.bool (a.2)),(48,.bool (b))],[(1,.box 146 (D4 c))]⟩) λ_=>Eg.eq_1 ..
abbrev z82 {n b a c}:=li (Qh n b a c) (λd=>⟨[(1,.ptr 1 0),(4,aI d)],[(1,.box 146 (D4 a))]⟩) λ_ _=>Qh.eq_2 ..
attribute [instance] z8a z89 z88 z83 z84 z9h z9i z8b z9k z9l z9m z9n z9o z9p z82
def zd9 (r:Int):AV:=aI (r)
theorem z7l {n d c r}(b:Ge n d c=some r):Con E0 true 148 [Aw d,aI c] (aI r):=by
 induction n generalizing d c r
 case zero=>cases b
 case succ n e =>
 unfold Ge at b;refine cw Tryz.func148 ?_;repeat' first
  |refine bG b (λv b=>?_) λb=>?_
  |refine aG b λb=>?_
  |refine aC [3] ?_;conv=>whnf
  |refine aM b (λb=>?_) λb=>?_
  |refine aX b D2 (λx b=>?_)
  |refine cD b zd9 (λa h=>e h) (λa b=>?_)
  |exact⟨_,b,aA []⟩
  |refine aO b (aA []) λm v b=>?_
  |exact aB b
instance zpe {n b a}:CI E0 (Ge n b a) true 148 [Aw b,aI a] aI:=⟨z7l⟩
def zd8 (r:Int):AV:=aI (r)
theorem z7k {n c r}(b:Gc n c=some r):Con E0 true 149 [Aw c] (aI r):=by
 induction n generalizing c r
 case zero=>cases b
 case succ n d =>
 unfold Gc at b;refine cw Tryz.func149 ?_;repeat' first
  |refine aH ?_;conv=>whnf
  |refine aM b (λb=>?_) λb=>?_
  |refine aX b D2 (λx b=>?_)
  |refine cD b zd8 (λa h=>d h) (λa b=>?_)
  |exact⟨_,b,aA []⟩
  |refine aO b (aA []) λm v b=>?_
  |exact aB b
instance zpd {n a}:CI E0 (Gc n a) true 149 [Aw a] aI:=⟨z7k⟩
instance zpa {n a}:CI E0 (Vy n a) true 305 [aI a] aI:=by unfold Vy;exact aD [2,3,4,5,10,11,12,13,14,15] Tryz.func305
instance zqm {n a}:CI E0 (W8 n a) true 306 [aI a] (λr=>.tup [.bool (r.1),.bool (r.2)]):=by unfold W8;exact aD [1,2] Tryz.func306
instance zpn {n a}:CI E0 (Hh n a) true 269 [Ag a] aI:=by unfold Hh;exact aD [] Tryz.func269
instance zph {n b a}:CI E0 (Mw n b a) true 307 [aI b,Ag a] (λr=>.bool (r)):=by unfold Mw;exact aD [1] Tryz.func307
instance zqo {n c}:CI E0 (W9 n c) true 262 [Aw c] aI:=⟨λ{r} b=>by
 unfold W9 at b;refine cw Tryz.func262 ?_;repeat' first
  |refine bG b (λv b=>?_) λb=>?_
  |refine AW.jI2 b (λv b=>?_) λb=>?_
  |refine aG b λb=>?_
  |refine aC [7,10,12,13,17,19] ?_;conv=>whnf
  |refine aM b (λb=>?_) λb=>?_
  |refine aS ?_
  |refine aU ?_
  |refine aT b λa b=>?_
  |exact⟨_,b,aA []⟩
  |exact⟨(),b,aA []⟩
  |refine aL ?_
  |exact aB b⟩
def zd7 (r:Int):AV:=aI (r)
theorem z7j {n c r}(b:Hg n c=some r):Con E0 true 208 [Aw c] (aI r):=by
 induction n generalizing c r
 case zero=>cases b
 case succ n d =>
 unfold Hg at b;refine cw Tryz.func208 ?_;repeat' first
  |refine aH ?_;conv=>whnf
  |refine aM b (λb=>?_) λb=>?_
  |refine aT b λa b=>?_
  |refine aX b D2 (λx b=>?_)
  |refine cD b zd7 (λa h=>d h) (λa b=>?_)
  |exact⟨_,b,aA []⟩
  |refine aO b (aA []) λm v b=>?_
  |exact aB b
instance zp9 {n a}:CI E0 (Hg n a) true 208 [Aw a] aI:=⟨z7j⟩
end
noncomputable section
abbrev zb7 {n}:=jf (Md n) (λb=>⟨[(4,.bool (b))],[]⟩) λ_=>Md.eq_1 ..
abbrev z6r {n a e b c}:=li (Q1 n a e b c) (λd=>⟨[(1,.sl 11 (a.map B9)),(2,.ptr 2 0),(5,aI b),(6,aI d)],[(2,.box 26 (B3 e))]⟩) λ_ _=>Q1.eq_2 ..
abbrev z6t {n a e b c}:=jf (Iz n a e b c) (λd=>⟨[(1,.sl 11 (a.map B9)),(2,.ptr 2 0),(5,aI b),(44,.bool (d))],[(2,.box 26 (B3 e))]⟩) λ_=>Iz.eq_1 ..
abbrev z6s {n a d b}:=li (G4 n a d b) (λc=>⟨[(1,.sl 11 (a.map B9)),(2,.ptr 2 0),(5,aI c)],[(2,.box 26 (B3 d))]⟩) λ_ _=>G4.eq_2 ..
abbrev z6o {n a e b c}:=li (Q0 n a e b c) (λd=>⟨[(0,.sl 1 (e.map aI)),(1,aI a),(5,aI b),(6,aI d)],[]⟩) λ_ _=>Q0.eq_2 ..
abbrev z6p {n a d b}:=li (L5 n a d b) (λc=>⟨[(0,.sl 1 (d.map aI)),(1,aI a),(5,aI c)],[]⟩) λ_ _=>L5.eq_2 ..
abbrev z7t {n a b}:=li (Li n a b) (λc=>⟨[(3,.ptr 3 0),(10,aI c)],[(3,.box 149 (Bs a))]⟩) λ_ _=>Li.eq_2 ..
abbrev z7u {n a e b c}:=li (H0 n a e b c) (λd=>⟨[(2,.ptr 2 0),(3,.ptr 3 0),(7,.sl 1 [.sl 1 (a.fOpens.map aI),.sl 1 (a.fCloses.map aI),.sl 1 (a.fInside.map aI),.sl 1 (b.map aI)]),(8,aI d)],[(2,.box 26 (B3 e)),(3,.box 149 (Bs a))]⟩) λ_ _=>H0.eq_2 ..
abbrev z7v {n a d b}:=li (Qd n a d b) (λc=>⟨[(2,.ptr 2 0),(3,.ptr 3 0),(5,.row 7026),(6,aI c.1)],[(2,.box 26 (B3 d)),(3,.box 149 (Bs a)),(7026,.row 3 1 (c.2.map aI))]⟩) λ_ _=>Qd.eq_2 ..
abbrev z9a {n a d b}:=li (Qw n a d b) (λc=>⟨[(3,.ptr 3 0),(4,.ptr 4 0),(9,aI c)],[(3,.box 26 (B3 d)),(4,.box 149 (Bs a))]⟩) λ_ _=>Qw.eq_2 ..
abbrev z9b {n a c d}:=jf (Dx n a c d) (λb=>⟨[(2,aI a),(3,.ptr 3 0),(4,.ptr 4 0),(42,.bool (b))],[(3,.box 26 (B3 d)),(4,.box 149 (Bs c))]⟩) λ_=>Dx.eq_1 ..
abbrev z7w {n a b}:=li (Qe n a b) (λc=>⟨[(1,.ptr 1 0),(5,aI c.1),(6,aI c.2)],[(1,.box 26 (B3 a))]⟩) λ_ _=>Qe.eq_2 ..
abbrev z7x {n a b}:=li (Qf n a b) (λc=>⟨[(1,.ptr 1 0),(3,aI c)],[(1,.box 26 (B3 a))]⟩) λ_ _=>Qf.eq_2 ..
abbrev z7y {n a}:=jf (G6 n a) (λb=>⟨[(1,.ptr 1 0),(31,.bool (b))],[(1,.box 26 (B3 a))]⟩) λ_=>G6.eq_1 ..
abbrev z7z {n a}:=jf (H3 n a) (λb=>⟨[(1,.ptr 1 0),(15,.bool (b))],[(1,.box 26 (B3 a))]⟩) λ_=>H3.eq_1 ..
attribute [instance] zb7 z6r z6t z6s z6o z6p z7t z7u z7v z9a z9b z7w z7x z7y z7z
instance zpf {n a}:CI E0 (Gf n a) true 134 [Aw a] aI:=by unfold Gf;exact aD [] Tryz.func134
instance ztf {n b a}:CI E0 (Db n b a) true 65 [aI b,aI a] (λr=>.bool (r)):=by unfold Db;exact aD [1] Tryz.func65
instance zni {n b a}:CI E0 (Vo n b a) true 66 [Bi b,.sl 11 (a.map B9)] aI:=by unfold Vo;exact aD [6] Tryz.func66
instance zng {n b a}:CI E0 (Rg n b a) true 209 [.sl 1 (b.map aI),aI a] aI:=by unfold Rg;exact aD [] Tryz.func209
instance zp4 {n d c}:CI E0 (Rw n d c) true 135 [Bi d,Aa c] aI:=⟨λ{r} b=>by
 unfold Rw at b;refine cw Tryz.func135 ?_;repeat' first
  |refine aG b λb=>?_
  |refine bH b 7026 rfl (λb=>?_)
  |refine aC [6] ?_;conv=>whnf
  |refine aM b (λb=>?_) λb=>?_
  |refine aN b λx b=>?_
  |refine aT b λa b=>?_
  |exact⟨_,b,aA []⟩
  |refine aO b ?_ λm v b=>?_
  |exact aA []
  |refine bY (λq=>AV.sl 1 (List.map aI q)) b λx b=>?_
  |refine aP b λl b=>?_
  |exact⟨_,b,aA [(7026,26)]⟩
  |exact aE (aK 5 7026 3 1 rfl rfl) (aA [])
  |refine AndA ?_
  |exact aB b⟩
instance zqk {n e d c}:CI E0 (W6 n e d c) true 67 [Bi e,Aa d,aI c] aI:=⟨λ{r} b=>by
 unfold W6 at b;refine cw Tryz.func67 ?_;repeat' first
  |refine bG b (λv b=>?_) λb=>?_
  |refine aG b λb=>?_
  |refine aC [2] ?_;conv=>whnf
  |refine aM b (λb=>?_) λb=>?_
  |refine aS ?_
  |refine aU ?_
  |refine aT b λa b=>?_
  |refine aX b D2 (λx b=>?_)
  |exact⟨_,b,aA []⟩
  |refine aO b (aA []) λm v b=>?_
  |exact aB b⟩
end
noncomputable section
abbrev zlv {n b a d}:=li (Tl n b a d) (λc=>⟨[(4,aI c.1),(5,aI c.2.1),(11,.sl 8 (a.fArgs.map idA)),(12,aI (((a.fArgs.map idA).length:Int))),(13,aI c.2.2)],[]⟩) λ_ _=>Tl.eq_2 ..
abbrev zkb {n a}:=jf (Nt n a) (λb=>⟨[(0,aI a),(4,.bool (b))],[]⟩) λ_=>Nt.eq_1 ..
abbrev zlo {n}:=jt (O0 n) (λb=>⟨[(8,.bool (b))],[]⟩) λ_=>O0.eq_1 ..
abbrev zlp {n a}:=jt (O1 n a) (λb=>⟨[(4,aI a),(5,.bool (b))],[]⟩) λ_=>O1.eq_1 ..
abbrev zka {n}:=jf (K6 n) (λb=>⟨[(4,.bool (b))],[]⟩) λ_=>K6.eq_1 ..
abbrev zex {n}:=jf (Hp n) (λb=>⟨[(31,.bool (b))],[]⟩) λ_=>Hp.eq_1 ..
abbrev zlq {n}:=jf (Cc n) (λb=>⟨[(113,.bool (b))],[]⟩) λ_=>Cc.eq_1 ..
abbrev zlr {n c a b}:=jt (O2 n c a b) (λ_=>⟨[(1,.ptr 1 0),(5,.bool (a.1)),(6,.bool (a.2)),(7,.bool (decide (c.fOp=4))),(8,.bool (b))],[(1,.box 146 (D4 c))]⟩) λ_=>O2.eq_1 ..
abbrev zls {n c a}:=jf (O3 n c a) (λb=>⟨[(1,.ptr 1 0),(5,.bool (a.1)),(6,.bool (a.2)),(7,.bool (decide (c.fOp=4))),(8,.bool (b))],[(1,.box 146 (D4 c))]⟩) λ_=>O3.eq_1 ..
abbrev zlt {n c a}:=jf (K8 n c a) (λb=>⟨[(1,.ptr 1 0),(5,.bool (a.1)),(6,.bool (a.2)),(7,.bool (decide (c.fOp=4))),(66,.bool (b))],[(1,.box 146 (D4 c))]⟩) λ_=>K8.eq_1 ..
abbrev zlu {n c a}:=jf (Ei n c a) (λb=>⟨[(1,.ptr 1 0),(5,.bool (a.1)),(6,.bool (a.2)),(52,.bool (b))],[(1,.box 146 (D4 c))]⟩) λ_=>Ei.eq_1 ..
abbrev zk9 {n b a c}:=li (Tf n b a c) (λd=>⟨[(1,.fn 238 []),(16,.sl 8 (a.fArgs.map idA)),(17,aI (((a.fArgs.map idA).length:Int))),(18,aI d)],[]⟩) λ_ _=>Tf.eq_2 ..
abbrev zcp {n}:=jf (My n) (λb=>⟨[(4,.bool (b))],[]⟩) λ_=>My.eq_1 ..
attribute [instance] zlv zkb zlo zlp zka zex zlq zlr zls zlt zlu zk9 zcp
instance zp5 {n a}:CI E0 (Ff n a) true 19 [Bi a] aI:=by unfold Ff;exact aD [1,3] Tryz.func19
def zxh (r:Int×Int):AV:=.tup [aI (r.1),aI (r.2)]
theorem zkn {n c r}(b:I3 n c=some r):Con E0 true 236 [Aw c] (.tup [aI r.1,aI r.2]):=by
 induction n generalizing c r
 case zero=>cases b
 case succ n d =>
 unfold I3 at b;refine cw Tryz.func236 ?_;repeat' first
  |refine aH ?_;conv=>whnf
  |refine aM b (λb=>?_) λb=>?_
  |refine aX b D2 (λx b=>?_)
  |refine cD b zxh (λa h=>d h) (λa b=>?_)
  |exact⟨_,b,aA []⟩
  |refine aO b (aA []) λm v b=>?_
  |exact aB b
instance y6z {n a}:CI E0 (I3 n a) true 236 [Aw a] (λr=>.tup [aI r.1,aI r.2]):=⟨zkn⟩
instance y4u {n a}:CI E0 (Xy n a) true 282 [aI a] (λr=>.tup [aI r.1,.bool (r.2)]):=by unfold Xy;exact aD [1] Tryz.func282
instance y6w {n a}:CI E0 (Tt n a) true 264 [aI a] (λr=>.tup [.bool (r.1),.bool (r.2)]):=by unfold Tt;exact aD [2,5] Tryz.func264
instance y4j {n a}:CI E0 (O4 n a) true 310 [Ag a] aI:=by unfold O4;exact aD [] Tryz.func310
instance y3t {n a}:CI E0 (Gl n a) true 271 [Ag a] aI:=by unfold Gl;exact aD [] Tryz.func271
instance y4s {n b a}:CI E0 (Xx n b a) true 312 [aI b,Ag a] (λr=>.bool (r)):=by unfold Xx;exact aD [1] Tryz.func312
instance zzf {n a}:CI E0 (Xg n a) true 283 [Aw a] aI:=by unfold Xg;exact aD [4] Tryz.func283
instance y6x {n c}:CI E0 (Y2 n c) true 238 [Aw c] aI:=⟨λ{r} b=>by
 unfold Y2 at b;refine cw Tryz.func238 ?_;repeat' first
  |refine bG b (λv b=>?_) λb=>?_
  |refine AW.jI2 b (λv b=>?_) λb=>?_
  |refine aG b λb=>?_
  |refine aC [7,10,12,13,17] ?_;conv=>whnf
  |refine aM b (λb=>?_) λb=>?_
  |refine aS ?_
  |refine aU ?_
  |refine aT b λa b=>?_
  |exact⟨_,b,aA []⟩
  |exact⟨(),b,aA []⟩
  |refine aL ?_
  |exact aB b⟩
def zus (r:Int):AV:=aI (r)
theorem zi1 {n c r}(b:I0 n c=some r):Con E0 true 237 [Aw c,.fn 238 []] (aI r):=by
 induction n generalizing c r
 case zero=>cases b
 case succ n d =>
 unfold I0 at b;refine cw aY ?_;repeat' first
  |refine aH ?_;conv=>whnf
  |refine aM b (λb=>?_) λb=>?_
  |refine aT b λa b=>?_
  |refine aX b D2 (λx b=>?_)
  |refine cD b zus (λa h=>d h) (λa b=>?_)
  |exact⟨_,b,aA []⟩
  |refine aO b (aA []) λm v b=>?_
  |exact aB b
instance y4r {n a}:CI E0 (I0 n a) true 237 [Aw a,.fn 238 []] aI:=⟨zi1⟩
instance y4v {n a}:CI E0 (I2 n a) true 178 [Aw a] aI:=by unfold I2;exact aD [] Tryz.func178
instance zv0 {n b a}:CI E0 (Es n b a) true 117 [aI b,aI a] (λr=>.bool (r)):=by unfold Es;exact aD [1] Tryz.func117
end
noncomputable section
abbrev zc9 {n b a c}:=li (S2 n b a c) (λd=>⟨[(0,.sl 11 (a.map B9)),(1,.fn 177 [.ref (Y0 b)]),(7,aI (((a.map B9).length:Int))),(8,aI d)],[]⟩) λ_ _=>S2.eq_2 ..
abbrev zcu {n a f b c d}:=jf (Jq n a f b c d) (λe=>⟨[(1,.sl 11 (a.map B9)),(2,.ptr 2 0),(5,aI b),(6,.ptr 6 0),(11,.sl 11 (a.map B9)),(12,aI (((a.map B9).length:Int))),(13,aI b),(18,.bool (e))],[(2,.box 26 (B3 f)),(6,.box 216 (Y0 d))]⟩) λ_=>Jq.eq_1 ..
abbrev zct {n a d b}:=li (Gg n a d b) (λc=>⟨[(1,.sl 11 (a.map B9)),(2,.ptr 2 0),(11,.sl 11 (a.map B9)),(12,aI (((a.map B9).length:Int))),(13,aI c)],[(2,.box 26 (B3 d))]⟩) λ_ _=>Gg.eq_2 ..
abbrev zbz {n a b}:=li (Rr n a b) (λc=>⟨[(3,.row 7016),(6,.sl 2 (a.map Bw)),(7,aI (((a.map Bw).length:Int))),(8,aI c.1)],[(7016,.row 3 1 (c.2.map aI))]⟩) λ_ _=>Rr.eq_2 ..
abbrev zgd {n d a b}:=li (T1 n d a b) (λc=>⟨[(0,.sl 1 (a.map aI)),(1,aI d),(7,aI (((a.map aI).length:Int))),(8,aI c)],[]⟩) λ_ _=>T1.eq_2 ..
abbrev zcr {n a f c b d}:=li (Hi n a f c b d) (λe=>⟨[(2,.ptr 2 0),(6,.sl 1 (b.map aI)),(9,.sl 1 (List.map (λq=>AV.sl 1 (List.map aI q)) (a))),(10,aI ((((List.map (λq=>AV.sl 1 (List.map aI q)) (a)).length:Nat):Int))),(11,aI c),(15,.sl 1 (b.map aI)),(16,aI (((b.map aI).length:Int))),(17,aI e)],[(2,.box 26 (B3 f))]⟩) λ_ _=>Hi.eq_2 ..
abbrev zcs {n a d b}:=li (Jp n a d b) (λc=>⟨[(2,.ptr 2 0),(9,.sl 1 (List.map (λq=>AV.sl 1 (List.map aI q)) (a))),(10,aI ((((List.map (λq=>AV.sl 1 (List.map aI q)) (a)).length:Nat):Int))),(11,aI c)],[(2,.box 26 (B3 d))]⟩) λ_ _=>Jp.eq_2 ..
abbrev zcv {n}:=jf (Jr n) (λb=>⟨[(2,.bool (b))],[]⟩) λ_=>Jr.eq_1 ..
abbrev z6z {n a b}:=li (Q2 n a b) (λc=>⟨[(0,.sl 2 (a.map Bw)),(1,.fn 182 []),(7,aI (((a.map Bw).length:Int))),(8,aI c)],[]⟩) λ_ _=>Q2.eq_2 ..
attribute [instance] zc9 zcu zct zbz zgd zcr zcs zcv z6z
instance zr2 {n b a}:CI E0 (Si n b a) true 177 [B9 b,.ref (Y0 a)] (λr=>.bool (r)):=by unfold Si;exact aD [] Tryz.func177
instance zuw {n a b}:CI E0 (X1 n a b) true 235 [.sl 11 (a.map B9),.fn 177 [.ref (Y0 b)]] aI:=by unfold X1;exact aD [] bN
instance zpo {n a b}:CI E0 (S3 n a b) true 175 [.sl 11 (a.map B9),.fn 177 [.ref (Y0 b)]] (λr=>.bool (r)):=by unfold S3;exact aD [] bO
instance zv3 {n d c}:CI E0 (X4 n d c) true 110 [Bi d,.sl 11 (c.map B9)] aI:=⟨λ{r} b=>by
 unfold X4 at b;refine cw Tryz.func110 ?_;repeat' first
  |refine bG b (λv b=>?_) λb=>?_
  |refine aG b λb=>?_
  |refine aC [6] ?_;conv=>whnf
  |refine aM b (λb=>?_) λb=>?_
  |refine aS ?_
  |refine aN b λx b=>?_
  |refine SlsX.o B9 b (λl b=>?_)
  |refine cE b (λa b=>?_) rfl rfl λ_=>aW rfl
  |refine aT b λa b=>?_
  |exact⟨_,b,aA []⟩
  |refine aO b (aA []) λm v b=>?_
  |exact aB b⟩
instance zu6 {n b}:CI E0 (So n b) false 180 [.sl 2 (b.map Bw)] (λr=>.sl 1 (r.map aI)):=⟨λ{r} a=>by
 unfold So at a;refine cw Tryz.func180 ?_;repeat' first
  |refine aH ?_;conv=>whnf
  |refine aM a (λa=>?_) λa=>?_
  |refine aN a λx a=>?_
  |refine aP a λl a=>?_
  |exact⟨_,a,aA [(7016,16)]⟩
  |refine aO a ?_ λm v a=>?_
  |exact aE (aK 3 7016 3 1 rfl rfl) (aA [])
  |exact aB a⟩
instance y10 {n b a}:CI E0 (z3d n b a) true 95 [.sl 1 (b.map aI),aI a] aI:=by unfold z3d;exact aD [] Tryz.func95
instance zwp {n b a}:CI E0 (E3 n b a) true 39 [.sl 1 (b.map aI),aI a] (λr=>.bool (r)):=by unfold E3;exact aD [] Tryz.func39
instance zv2 {n d c}:CI E0 (X3 n d c) true 179 [Bi d,.sl 1 (List.map (λq=>AV.sl 1 (List.map aI q)) (c))] aI:=⟨λ{r} b=>by
 unfold X3 at b;refine cw Tryz.func179 ?_;repeat' first
  |refine aH ?_;conv=>whnf
  |refine aM b (λb=>?_) λb=>?_
  |refine bY (λq=>AV.sl 1 (List.map aI q)) b λx b=>?_
  |exact⟨_,b,aA []⟩
  |refine aN b λx b=>?_
  |refine aT b λa b=>?_
  |refine SlsX.o aI b (λl b=>?_)
  |refine aO b (aA []) λm v b=>?_
  |exact aB b⟩
instance zv4 {n a}:CI E0 (Jx n a) true 182 [Bw a] (λr=>.bool (r)):=by unfold Jx;exact aD [1] Tryz.func182
instance znq {n a}:CI E0 (Vq n a) true 190 [.sl 2 (a.map Bw),.fn 182 []] aI:=by unfold Vq;exact aD [] cJ
instance zkh {n a}:CI E0 (Q3 n a) true 181 [.sl 2 (a.map Bw),.fn 182 []] (λr=>.bool (r)):=by unfold Q3;exact aD [] Tryz.func181
end
noncomputable section
abbrev zf3 {n a d b}:=li (Hq n a d b) (λc=>⟨[(3,.ptr 3 0),(4,.ptr 4 0),(63,.sl 8 (a.fChecks.map idA)),(64,aI (((a.fChecks.map idA).length:Int))),(65,aI c)],[(3,.box 26 (B3 d)),(4,.box 149 (Bs a))]⟩) λ_ _=>Hq.eq_2 ..
abbrev zf4 {n a c d}:=jf (Dk n a c d) (λb=>⟨[(2,aI a),(3,.ptr 3 0),(4,.ptr 4 0),(12,.bool (b))],[(3,.box 26 (B3 d)),(4,.box 149 (Bs c))]⟩) λ_=>Dk.eq_1 ..
abbrev ze7 {n a b}:=li (Hm n a b) (λc=>⟨[(1,.ptr 1 0),(6,aI c.1),(62,.sl 17 (a.fEdges.map Aa)),(63,aI (((a.fEdges.map Aa).length:Int))),(64,aI c.2)],[(1,.box 26 (B3 a))]⟩) λ_ _=>Hm.eq_2 ..
abbrev ze8 {n a b}:=li (Hn n a b) (λc=>⟨[(1,.ptr 1 0),(47,.sl 1 (a.fStates.map Am)),(48,aI (((a.fStates.map Am).length:Int))),(49,aI c)],[(1,.box 26 (B3 a))]⟩) λ_ _=>Hn.eq_2 ..
abbrev ze9 {n a}:=jf (E1 n a) (λb=>⟨[(1,.ptr 1 0),(29,.bool (b))],[(1,.box 26 (B3 a))]⟩) λ_=>E1.eq_1 ..
abbrev zea {n a}:=jf (E2 n a) (λb=>⟨[(1,.ptr 1 0),(10,.bool (b))],[(1,.box 26 (B3 a))]⟩) λ_=>E2.eq_1 ..
abbrev z9r {n}:=jf (J8 n) (λb=>⟨[(2,.bool (b))],[]⟩) λ_=>J8.eq_1 ..
abbrev z8d {n}:=jf (H5 n) (λb=>⟨[(58,.bool (b))],[]⟩) λ_=>H5.eq_1 ..
abbrev z8c {n}:=jf (Ln n) (λb=>⟨[(70,.bool (b))],[]⟩) λ_=>Ln.eq_1 ..
abbrev z8e {n a}:=jf (Lo n a) (λb=>⟨[(1,.ptr 1 0),(23,.bool (b))],[(1,.box 381 (X7 a))]⟩) λ_=>Lo.eq_1 ..
abbrev z8f {n a}:=jf (Lp n a) (λb=>⟨[(1,.ptr 1 0),(15,.bool (b))],[(1,.box 381 (X7 a))]⟩) λ_=>Lp.eq_1 ..
abbrev zbh {n a}:=jt (Jk n a) (λb=>⟨[(4,.ptr 4 0),(8,.ptr 8 0)],[(4,.box 381 [aI 0,aI 0,aI 0,aI 0,.str (ByteArray.empty)]),(8,.box 381 [aI a.fKind,aI ((aF .i64 (a.fCount+1))),aI b.1,aI b.2.1,.str (b.2.2)])]⟩) λ_=>Jk.eq_1 ..
abbrev z6v {n a c}:=jf (L8 n a c) (λb=>⟨[(2,.ptr 2 0),(3,.ptr 3 0),(4,.ptr 4 0),(35,.bool (b))],[(2,.box 381 (X7 c)),(3,.box 144 (Ci a)),(4,.box 144 [aI 0,aI 0,.str (ByteArray.empty)])]⟩) λ_=>L8.eq_1 ..
abbrev zc7 {n a d c}:=li (Ry n a d c) (λb=>⟨[(1,.sl 3 (d.map Ag)),(5,.ptr 5 0),(6,.ptr 6 0),(8,.ptr 8 0),(9,aI b.1)],[(5,.box 144 (Ci a)),(6,.box 144 [aI 0,aI 0,.str (ByteArray.empty)]),(8,.box 381 [aI b.2.1,aI b.2.2.1,aI b.2.2.2.1,aI b.2.2.2.2.1,.str (b.2.2.2.2.2)])]⟩) λ_ _=>Ry.eq_2 ..
attribute [instance] zf3 zf4 ze7 ze8 ze9 zea z9r z8d z8c z8e z8f zbh z6v zc7
instance zzh {n e d c}:CI E0 (K2 n e d c) true 111 [Bi e,Aa d,aI c] aI:=⟨λ{r} b=>by
 unfold K2 at b;refine cw Tryz.func111 ?_;repeat' first
  |refine bG b (λv b=>?_) λb=>?_
  |refine aG b λb=>?_
  |refine aC [1] ?_;conv=>whnf
  |refine aM b (λb=>?_) λb=>?_
  |refine aS ?_
  |refine aT b λa b=>?_
  |refine aX b D2 (λx b=>?_)
  |exact⟨_,b,aA []⟩
  |refine aO b (aA []) λm v b=>?_
  |refine AndA ?_
  |exact aB b⟩
instance zx3 {n a}:CI E0 (Cp n a) true 53 [Bi a] aI:=by unfold Cp;exact aD [1,3] Tryz.func53
instance zqt {n a}:CI E0 (S8 n a) true 348 [aI a] (λr=>.bool (r)):=by unfold S8;exact aD [1] Tryz.func348
instance zpi {n a}:CI E0 (Rz n a) true 358 [Eh a] aI:=by unfold Rz;exact aD [3,5,11,14] Tryz.func358
instance zpg {n b a}:CI E0 (Rx n b a) true 359 [aI b,Ag a] aI:=by unfold Rx;exact aD [] Tryz.func359
instance zm1 {n c b a}:CI E0 (Vd n c b a) true 360 [aI c,Ag b,Ag a] Ag:=by unfold Vd;exact aD [] Tryz.func360
instance ztk {n b a}:CI E0 (Wk n b a) true 349 [Eh b,Ag a] (λr=>.tup [Eh r.1,aI r.2]):=by unfold Wk;exact aD [10,12] Tryz.func349
instance znl {n b a}:CI E0 (Rj n b a) true 350 [Eh b,Ag a] (λr=>.tup [Ag r.1,aI r.2]):=by unfold Rj;exact aD [9] Tryz.func350
end
noncomputable section
abbrev z6u {n a c}:=jf (L7 n a c) (λb=>⟨[(1,aI a),(2,.ptr 2 0),(13,.bool (b))],[(2,.box 271 (Dt c))]⟩) λ_=>L7.eq_1 ..
abbrev z9j {n d a b}:=li (Qx n d a b) (λc=>⟨[(4,.ptr 4 0),(8,.ptr 8 0),(10,.row 7063),(11,.sl 5 (a.map A5)),(12,aI c.1)],[(4,.box 146 (D4 d)),(8,.box 144 [aI 0,aI 0,.str (ByteArray.empty)]),(7063,.row 144 3 (c.2.map Ag))]⟩) λ_ _=>Qx.eq_2 ..
abbrev z4d {n}:=jt (Ip n) (λb=>⟨[(9,.bool (b))],[]⟩) λ_=>Ip.eq_1 ..
abbrev z4e {n a}:=jt (Gx n a) (λb=>⟨[(3,aI a),(4,.bool (b))],[]⟩) λ_=>Gx.eq_1 ..
abbrev z4c {n a e b c}:=jf (G1 n a e b c) (λd=>⟨[(0,aI e),(1,.sl 1 (a.map aI)),(5,aI b),(38,.bool (d))],[]⟩) λ_=>G1.eq_1 ..
abbrev z4b {n a d b}:=li (Fb n a d b) (λc=>⟨[(0,aI d),(1,.sl 1 (a.map aI)),(5,aI c)],[]⟩) λ_ _=>Fb.eq_2 ..
abbrev z86 {n}:=jf (Lk n) (λb=>⟨[(4,.ptr 4 0)],[(4,.box 144 [aI b.1,aI b.2.1,.str (b.2.2)])]⟩) λ_=>Lk.eq_1 ..
abbrev z85 {n}:=jf (Lj n) (λb=>⟨[(4,.ptr 4 0)],[(4,.box 144 [aI b.1,aI b.2.1,.str (b.2.2)])]⟩) λ_=>Lj.eq_1 ..
abbrev z9q {n b a e f g d}:=li (Qy n b a e f g d) (λc=>⟨[(2,aI e),(4,.ptr 4 0),(5,.ptr 5 0),(7,.ptr 7 0),(8,.ptr 8 0),(10,.row 7053),(11,.row 7058),(12,aI c.1)],[(4,.box 146 (D4 g)),(5,.box 271 (Dt f)),(7,.box 37 (Bx a)),(8,.box 144 [aI 0,aI 0,.str (ByteArray.empty)]),(7053,.row 144 3 (c.2.1.map Ag)),(7058,.row 3 1 (c.2.2.map aI))]⟩) λ_ _=>Qy.eq_2 ..
abbrev z87 {n}:=jf (Ll n) (λb=>⟨[(8,.bool (b))],[]⟩) λ_=>Ll.eq_1 ..
attribute [instance] z6u z9j z4d z4e z4c z4b z86 z85 z9q z87
instance zuv {n c b a}:CI E0 (Sq n c b a) true 344 [aI c,.sl 3 (b.map Ag),Ag a] (λr=>.tup [Ag r.1,aI r.2]):=by unfold Sq;exact aD [] Tryz.func344
instance znk {n c b}:CI E0 (Mj n c b) false 343 [Ds c,aI b] (λr=>.sl 5 (r.map A5)):=⟨λ{r} a=>by
 unfold Mj at a;refine cw Tryz.func343 ?_;repeat' first
  |refine bG a (λv a=>?_) λa=>?_
  |refine aG a λa=>?_
  |refine aC [1] ?_;conv=>whnf
  |refine aM a (λa=>?_) λa=>?_
  |refine bY (λq=>AV.sl 5 (List.map A5 q)) a λx a=>?_
  |exact⟨_,a,aA []⟩
  |exact aB a⟩
instance zqp {n d c b a}:CI E0 (z18 n d c b a) false 345 [Ds d,aI c,aI b,A5 a] (λr=>.tup [A5 r.1,.bool (r.2)]):=by unfold z18;exact aD [] Tryz.func345
instance zqn {n f e d c}:CI E0 (S7 n f e d c) true 336 [Aw f,Ds e,aI d,A5 c] (λr=>.tup [Ag r.1,aI r.2]):=⟨λ{r} b=>by
 unfold S7 at b;refine cw Tryz.func336 ?_;repeat' first
  |refine aH ?_;conv=>whnf
  |refine aM b (λb=>?_) λb=>?_
  |refine aT b λa b=>?_
  |refine cE b (λa b=>?_) rfl rfl λ_=>aW rfl
  |refine aN b λx b=>?_
  |refine aP b λl b=>?_
  |exact⟨_,b,aA [(7063,63)]⟩
  |refine aO b ?_ λm v b=>?_
  |exact aE (aK 10 7063 144 3 rfl rfl) (aA [])
  |refine AndA ?_
  |exact aB b⟩
instance zl3 {n a}:CI E0 (V6 n a) true 346 [aI a] aI:=by unfold V6;exact aD [2,3,4,7,8] Tryz.func346
instance zl2 {n b a}:CI E0 (Zk n b a) true 337 [aI b,.sl 1 (a.map aI)] aI:=by unfold Zk;exact aD [5] Tryz.func337
instance zqr {n a}:CI E0 (Dz n a) true 98 [.bool (a)] Ag:=by unfold Dz;exact aD [] Tryz.func98
instance zpb {n b a}:CI E0 (Mv n b a) true 338 [aI b,.sl 3 (a.map Ag)] Ag:=by unfold Mv;exact aD [13,15] Tryz.func338
def zee (r:A9×Int):AV:=.tup [.agg [aI (r.1.fKind),aI (r.1.fNum),.str (r.1.fText)],aI (r.2)]
theorem z92 {n f e d c r}(b:Hk n f e d c=some r):Con E0 true 322 [Aw f,Ds e,aI d,A5 c] (.tup [Ag r.1,aI r.2]):=by
 induction n generalizing f e d c r
 case zero=>cases b
 case succ n g =>
 unfold Hk at b;refine cw Tryz.func322 ?_;repeat' first
  |refine aH ?_;conv=>whnf
  |refine aM b (λb=>?_) λb=>?_
  |refine aT b λa b=>?_
  |refine cE b (λa b=>?_) rfl rfl λ_=>aW rfl
  |refine aX b D2 (λx b=>?_)
  |refine cD b zee (λa h=>g h) (λa b=>?_)
  |refine aP b λl b=>?_
  |exact⟨_,b,aA [(7053,53),(7058,58)]⟩
  |refine aO b ?_ λm v b=>?_
  |exact aE (aK 10 7053 144 3 rfl rfl) (aE (aK 11 7058 3 1 rfl rfl) (aA []))
  |refine AndA ?_
  |exact aB b
instance zqq {n d c b a}:CI E0 (Hk n d c b a) true 322 [Aw d,Ds c,aI b,A5 a] (λr=>.tup [Ag r.1,aI r.2]):=⟨z92⟩
instance zqs {n d c b a}:CI E0 (z19 n d c b a) true 309 [Aw d,Ds c,aI b,A5 a] (λr=>.tup [Ag r.1,aI r.2]):=by unfold z19;exact aD [] Tryz.func309
end
noncomputable section
abbrev z5c {n a f b c d}:=jf (Kx n a f b c d) (λe=>⟨[(2,.ptr 2 0),(3,.ptr 3 0),(5,aI b),(18,.bool (e))],[(2,.box 64 (O6 f)),(3,.box 64 (O6 a))]⟩) λ_=>Kx.eq_1 ..
abbrev z5b {n a d b}:=li (Iv n a d b) (λc=>⟨[(2,.ptr 2 0),(3,.ptr 3 0),(5,aI c)],[(2,.box 64 (O6 d)),(3,.box 64 (O6 a))]⟩) λ_ _=>Iv.eq_2 ..
abbrev z57 {n a g b c d e}:=jf (Iu n a g b c d e) (λf=>⟨[(2,.ptr 2 0),(3,.ptr 3 0),(6,aI b),(7,.ptr 7 0),(8,.ptr 8 0),(71,.bool (f))],[(2,.box 90 (C1 g)),(3,.box 90 (C1 a)),(7,.box 182 (zf2 d)),(8,.box 182 (zf2 e))]⟩) λ_=>Iu.eq_1 ..
abbrev z58 {n a f b c d}:=jf (Kv n a f b c d) (λe=>⟨[(2,.ptr 2 0),(3,.ptr 3 0),(6,aI b),(40,.bool (e))],[(2,.box 90 (C1 f)),(3,.box 90 (C1 a))]⟩) λ_=>Kv.eq_1 ..
abbrev z56 {n a d b}:=li (Ir n a d b) (λc=>⟨[(2,.ptr 2 0),(3,.ptr 3 0),(6,aI c)],[(2,.box 90 (C1 d)),(3,.box 90 (C1 a))]⟩) λ_ _=>Ir.eq_2 ..
abbrev zb1 {n a d b}:=jf (Mb n a d b) (λc=>⟨[(0,.sl 3 (d.map A7)),(3,.ptr 3 0),(5,aI b),(34,.bool (c))],[(3,.box 90 (C1 a))]⟩) λ_=>Mb.eq_1 ..
abbrev zb0 {n a f b c d}:=jf (M9 n a f b c d) (λe=>⟨[(0,.sl 3 (f.map A7)),(3,.ptr 3 0),(5,aI b),(19,.bool (e))],[(3,.box 90 (C1 a))]⟩) λ_=>M9.eq_1 ..
abbrev zaz {n a d b}:=li (Jf n a d b) (λc=>⟨[(0,.sl 3 (d.map A7)),(3,.ptr 3 0),(5,aI c)],[(3,.box 90 (C1 a))]⟩) λ_ _=>Jf.eq_2 ..
abbrev zec {n}:=jf (Jt n) (λb=>⟨[(2,.bool (b))],[]⟩) λ_=>Jt.eq_1 ..
abbrev zeb {n}:=jf (Ho n) (λb=>⟨[(4,.bool (b))],[]⟩) λ_=>Ho.eq_1 ..
attribute [instance] z5c z5b z57 z58 z56 zb1 zb0 zaz zec zeb
instance zpc {n d c b a}:CI E0 (Gb n d c b a) true 268 [Aw d,Ds c,aI b,A5 a] (λr=>.bool (r)):=by unfold Gb;exact aD [2] Tryz.func268
instance zpj {n b a}:CI E0 (S1 n b a) true 37 [Bj b,Bj a] aI:=by unfold S1;exact aD [] Tryz.func37
instance zp6 {n b a}:CI E0 (Vw n b a) true 79 [B0 b,B0 a] aI:=by unfold Vw;exact aD [] Tryz.func79
instance zm0 {n b a}:CI E0 (Lx n b a) true 24 [B1 b,B1 a] aI:=by unfold Lx;exact aD [2] Tryz.func24
instance zly {n b a}:CI E0 (Qv n b a) true 41 [A7 b,A7 a] aI:=by unfold Qv;exact aD [9,12] Tryz.func41
instance ztc {n d c}:CI E0 (N7 n d c) false 172 [.sl 3 (d.map A7),A7 c] (λr=>.sl 3 (r.map A7)):=⟨λ{r} b=>by
 unfold N7 at b;refine cw Tryz.func172 ?_;repeat' first
  |refine bG b (λv b=>?_) λb=>?_
  |refine aG b λb=>?_
  |refine aC [2,4] ?_;conv=>whnf
  |refine aM b (λb=>?_) λb=>?_
  |refine SlsX.o A7 b (λl b=>?_)
  |refine AppX.oA0 b λl b=>?_
  |refine aP b λl b=>?_
  |refine aN b λx b=>?_
  |refine aT b λa b=>?_
  |exact⟨_,b,aA []⟩
  |refine aO b (aA []) λm v b=>?_
  |refine AndA ?_
  |exact aB b⟩
instance zx6 {n a}:CI E0 (T7 n a) true 351 [aI a] (λr=>.bool (r)):=by unfold T7;exact aD [1] Tryz.func351
instance zx5 {n b a}:CI E0 (T6 n b a) true 361 [aI b,Ag a] (λr=>.bool (r)):=by unfold T6;exact aD [1] Tryz.func361
instance zx4 {n b a}:CI E0 (Nm n b a) true 352 [aI b,Ag a] aI:=by unfold Nm;exact aD [] Tryz.func352
instance zv7 {n b a}:CI E0 (z1z n b a) true 356 [aI b,Ag a] Ag:=by unfold z1z;exact aD [] Tryz.func356
instance zpz {n}:CI E0 (z11 n) true 364 [] Ag:=by unfold z11;exact aD [] Tryz.func364
def zdg (b:A9)(a:A9):List (Nat×Ent):=[(100000,.box 144 (Ci b)),(100001,.box 144 (Ci a))]
def z0n (r:A9×A9×A9):List (Nat×Ent):=[(2,.box 144 (Ci r.1)),(100000,.box 144 (Ci r.2.1)),(100001,.box 144 (Ci r.2.2))]
def z28 (r:A9×A9×A9):AV:=.agg [aI (r.1.fKind),aI (r.1.fNum),.str (r.1.fText)]
def zd5 (r:A9×A9×A9):AS:=⟨[(2,.ptr 2 0),(0,.ptr 100000 0),(1,.ptr 100001 0)],z0n r⟩
end
noncomputable section
abbrev zcx {n c a d}:=li (S6 n c a d) (λb=>⟨[(2,.fn 354 [.ref [aI c]]),(3,.ptr 3 0),(6,.ptr 6 0),(9,.sl 3 (a.map Ag)),(10,aI (((a.map Ag).length:Int))),(11,aI b.1)],[(3,.box 381 [aI b.2.1,aI b.2.2.1,aI b.2.2.2.1,aI b.2.2.2.2.1,.str (b.2.2.2.2.2)]),(6,.box 381 [aI 0,aI 0,aI 0,aI 0,.str (ByteArray.empty)])]⟩) λ_ _=>S6.eq_2 ..
abbrev zed {n a}:=jf (N5 n a) (λb=>⟨[(1,.ptr 1 0),(10,.bool (b))],[(1,.box 381 (X7 a))]⟩) λ_=>N5.eq_1 ..
abbrev zcy {n a c}:=jf (N1 n a c) (λb=>⟨[(2,.ptr 2 0),(3,.ptr 3 0),(4,.ptr 4 0),(29,.bool (b))],[(2,.box 381 (X7 c)),(3,.box 144 (Ci a)),(4,.box 144 [aI 0,aI 0,.str (ByteArray.empty)])]⟩) λ_=>N1.eq_1 ..
abbrev zgx {n d a e b}:=li (T8 n d a e b) (λc=>⟨[(1,.sl 3 (a.map Ag)),(3,.ptr 3 0),(5,.ptr 5 0),(6,.ptr 6 0),(22,.sl 3 (a.map Ag)),(23,aI (((a.map Ag).length:Int))),(24,aI c)],[(3,.box 3 [aI e]),(5,.box 144 (Ci d)),(6,.box 144 [aI 0,aI 0,.str (ByteArray.empty)])]⟩) λ_ _=>T8.eq_2 ..
attribute [instance] zcx zed zcy zgx
theorem zag {n b a r}(c:z10 n b a=some r):ConG E0.P none (CalF E0.P 365 0) [.ptr 100000 0,.ptr 100001 0] [] (zdg b a) (z28 r) (z0n r):=by
 unfold z10 at c;refine aR (E:=(E0p 2)) (caps:=[]) _ cK rfl rfl rfl rfl rfl ?_;repeat' first
  |refine aH ?_;conv=>whnf
  |exact GX.A (res:=z28) (meF:=z0n) c zd5
def zdf (b:A9)(a:A9):List (Nat×Ent):=[(100000,.box 144 (Ci b)),(100001,.box 144 (Ci a))]
def z0m (r:A9×A9×A9):List (Nat×Ent):=[(2,.box 144 (Ci r.1)),(100000,.box 144 (Ci r.2.1)),(100001,.box 144 (Ci r.2.2))]
def z27 (r:A9×A9×A9):AV:=.agg [aI (r.1.fKind),aI (r.1.fNum),.str (r.1.fText)]
def zd4 (r:A9×A9×A9):AS:=⟨[(2,.ptr 2 0),(0,.ptr 100000 0),(1,.ptr 100001 0)],z0m r⟩
theorem zae {n b a r}(c:z0z n b a=some r):ConG E0.P none (CalF E0.P 366 0) [.ptr 100000 0,.ptr 100001 0] [] (zdf b a) (z27 r) (z0m r):=by
 unfold z0z at c;refine aR (E:=(E0p 2)) (caps:=[]) _ cL rfl rfl rfl rfl rfl ?_;repeat' first
  |refine aH ?_;conv=>whnf
  |exact GX.A (res:=z27) (meF:=z0m) c zd4
def zde (b:A9)(a:A9):List (Nat×Ent):=[(100000,.box 144 (Ci b)),(100001,.box 144 (Ci a))]
def z0l (r:A9×A9×A9):List (Nat×Ent):=[(2,.box 144 (Ci r.1)),(100000,.box 144 (Ci r.2.1)),(100001,.box 144 (Ci r.2.2))]
def z26 (r:A9×A9×A9):AV:=.agg [aI (r.1.fKind),aI (r.1.fNum),.str (r.1.fText)]
def zd3 (r:A9×A9×A9):AS:=⟨[(2,.ptr 2 0),(0,.ptr 100000 0),(1,.ptr 100001 0)],z0l r⟩
theorem zad {n b a r}(c:z0y n b a=some r):ConG E0.P none (CalF E0.P 367 0) [.ptr 100000 0,.ptr 100001 0] [] (zde b a) (z26 r) (z0l r):=by
 unfold z0y at c;refine aR (E:=(E0p 2)) (caps:=[]) _ cM rfl rfl rfl rfl rfl ?_;repeat' first
  |refine aH ?_;conv=>whnf
  |exact GX.A (res:=z26) (meF:=z0l) c zd3
def zdd (a:A9):List (Nat×Ent):=[(100000,.box 144 (Ci a))]
def z0k (r:A9×A9):List (Nat×Ent):=[(1,.box 144 (Ci r.1)),(100000,.box 144 (Ci r.2))]
def z24 (r:A9×A9):AV:=.agg [aI (r.1.fKind),aI (r.1.fNum),.str (r.1.fText)]
def zd2 (r:A9×A9):AS:=⟨[(1,.ptr 1 0),(0,.ptr 100000 0)],z0k r⟩
theorem zac {n a r}(b:z0x n a=some r):ConG E0.P none (CalF E0.P 368 0) [.ptr 100000 0] [] (zdd a) (z24 r) (z0k r):=by
 unfold z0x at b;refine aR (E:=(E0p 1)) (caps:=[]) _ cN rfl rfl rfl rfl rfl ?_;repeat' first
  |refine aH ?_;conv=>whnf
  |exact GX.A (res:=z24) (meF:=z0k) b zd2
def zdc (a:A9):List (Nat×Ent):=[(100000,.box 144 (Ci a))]
def z0j (r:A9×A9):List (Nat×Ent):=[(1,.box 144 (Ci r.1)),(100000,.box 144 (Ci r.2))]
def z23 (r:A9×A9):AV:=.agg [aI (r.1.fKind),aI (r.1.fNum),.str (r.1.fText)]
def zd1 (r:A9×A9):AS:=⟨[(1,.ptr 1 0),(0,.ptr 100000 0)],z0j r⟩
theorem zab {n a r}(b:z0w n a=some r):ConG E0.P none (CalF E0.P 369 0) [.ptr 100000 0] [] (zdc a) (z23 r) (z0j r):=by
 unfold z0w at b;refine aR (E:=(E0p 1)) (caps:=[]) _ cO rfl rfl rfl rfl rfl ?_;repeat' first
  |refine aH ?_;conv=>whnf
  |exact GX.A (res:=z23) (meF:=z0j) b zd1
instance zu8 {n e d c}:CI E0 (Wz n e d c) true 362 [aI e,Ag d,Ag c] Ag:=⟨λ{r} b=>by
 unfold Wz at b;refine cw Tryz.func362 ?_;repeat' first
  |refine aH ?_;conv=>whnf
  |refine dE b rfl (λb=>?_) (λb=>?_)
  |(cases b;done)
  |refine aT b λa b=>?_
  |refine bC (Be 15 b) [(100000,4),(100001,5)] [(2,16000000),(100000,4),(100001,5)] _ _ z0n z28 [] (λa h=>aJ (zag h)) (Ax cK rfl rfl) rfl rfl rfl ⟨⟨rfl,rfl⟩,⟨⟨rfl,rfl⟩,trivial⟩⟩ (λa=>⟨rfl,rfl,rfl,rfl,rfl,rfl,rfl,rfl⟩) (λa b=>?_)
  |refine bC (Be 15 b) [(100000,4),(100001,5)] [(2,16000000),(100000,4),(100001,5)] _ _ z0m z27 [] (λa h=>aJ (zae h)) (Ax cL rfl rfl) rfl rfl rfl ⟨⟨rfl,rfl⟩,⟨⟨rfl,rfl⟩,trivial⟩⟩ (λa=>⟨rfl,rfl,rfl,rfl,rfl,rfl,rfl,rfl⟩) (λa b=>?_)
  |refine bC (Be 15 b) [(100000,4),(100001,5)] [(2,16000000),(100000,4),(100001,5)] _ _ z0l z26 [] (λa h=>aJ (zad h)) (Ax cM rfl rfl) rfl rfl rfl ⟨⟨rfl,rfl⟩,⟨⟨rfl,rfl⟩,trivial⟩⟩ (λa=>⟨rfl,rfl,rfl,rfl,rfl,rfl,rfl,rfl⟩) (λa b=>?_)
  |refine bC (Be 15 b) [(100000,4)] [(1,16000000),(100000,4)] _ _ z0k z24 [] (λa h=>aJ (zac h)) (Ax cN rfl rfl) rfl rfl rfl ⟨⟨rfl,rfl⟩,trivial⟩ (λa=>⟨rfl,rfl,rfl,rfl,rfl,rfl,rfl,rfl⟩) (λa b=>?_)
  |refine bC (Be 15 b) [(100000,5)] [(1,16000000),(100000,5)] _ _ z0j z23 [] (λa h=>aJ (zab h)) (Ax cO rfl rfl) rfl rfl rfl ⟨⟨rfl,rfl⟩,trivial⟩ (λa=>⟨rfl,rfl,rfl,rfl,rfl,rfl,rfl,rfl⟩) (λa b=>?_)
  |exact aB b⟩
instance zv8 {n b a}:CI E0 (z20 n b a) true 355 [Eh b,Eh a] Eh:=by unfold z20;exact aD [] Tryz.func355
instance zzi {n c b a}:CI E0 (z2r n c b a) true 354 [Eh c,Ag b,.ref [aI a]] Eh:=by unfold z2r;exact aD [] Tryz.func354
instance zv9 {n c a b}:CI E0 (X6 n c a b) true 353 [Eh c,.sl 3 (a.map Ag),.fn 354 [.ref [aI b]]] Eh:=by unfold X6;exact aD [] Tryz.func353
instance zx7 {n a}:CI E0 (Xf n a) true 363 [Eh a] aI:=by unfold Xf;exact aD [3,7,9,11,6] Tryz.func363
instance zva {n b a}:CI E0 (Sy n b a) true 357 [Eh b,Ag a] (λr=>.tup [Ag r.1,aI r.2]):=by unfold Sy;exact aD [9] Tryz.func357
instance y1b {n e d c}:CI E0 (Tm n e d c) true 347 [aI e,.sl 3 (d.map Ag),Ag c] (λr=>.tup [Ag r.1,aI r.2]):=⟨λ{r} b=>by
 unfold Tm at b;refine cw Tryz.func347 ?_;repeat' first
  |refine aH ?_;conv=>whnf
  |refine aM b (λb=>?_) λb=>?_
  |refine aT b λa b=>?_
  |refine cE b (λa b=>?_) rfl rfl λ_=>aW rfl
  |refine aN b λx b=>?_
  |exact⟨_,b,aA []⟩
  |refine aO b (aA []) λm v b=>?_
  |exact aB b⟩
instance y72 {n a}:CI E0 (Y4 n a) true 207 [aI a] (λr=>.bool (r)):=by unfold Y4;exact aD [] Tryz.func207
instance y41 {n b a}:CI E0 (D3 n b a) true 133 [aI b,aI a] aI:=by unfold D3;exact aD [] Tryz.func133
end
noncomputable section
abbrev zx8 {n a b}:=li (Tu n a b) (λc=>⟨[(3,aI 0),(6,.sl 1 (a.map aI)),(7,aI (((a.map aI).length:Int))),(8,aI c)],[]⟩) λ_ _=>Tu.eq_2 ..
abbrev z9v {n d a b}:=li (Qz n d a b) (λc=>⟨[(0,.sl 4 (a.map B0)),(1,.sl 4 (d.map B0)),(2,.fn 130 []),(11,.sl 4 (a.map B0)),(12,aI (((a.map B0).length:Int))),(13,aI c)],[]⟩) λ_ _=>Qz.eq_2 ..
abbrev z4h {n d a b}:=li (Pg n d a b) (λc=>⟨[(0,.sl 2 (a.map Ai)),(1,.sl 2 (d.map Ai)),(2,.fn 204 []),(11,.sl 2 (a.map Ai)),(12,aI (((a.map Ai).length:Int))),(13,aI c)],[]⟩) λ_ _=>Pg.eq_2 ..
abbrev ziv {n}:=jf (Gj n) (λb=>⟨[(2,.bool (b))],[]⟩) λ_=>Gj.eq_1 ..
abbrev z6x {n b a c}:=li (Zg n b a c) (λd=>⟨[(0,.sl 4 (a.map B0)),(1,.fn 227 [.ref (Bx b)]),(7,aI (((a.map B0).length:Int))),(8,aI d)],[]⟩) λ_ _=>Zg.eq_2 ..
abbrev z6y {n b a c}:=li (Zh n b a c) (λd=>⟨[(0,.sl 3 (a.map A7)),(1,.fn 167 [.ref (Bx b)]),(7,aI (((a.map A7).length:Int))),(8,aI d)],[]⟩) λ_ _=>Zh.eq_2 ..
attribute [instance] zx8 z9v z4h ziv z6x z6y
instance yal {n a}:CI E0 (Ez n a) true 131 [.sl 1 (a.map aI)] aI:=by unfold Ez;exact aD [] Tryz.func131
instance y4q {n b a}:CI E0 (Xw n b a) true 132 [Bj b,Bj a] aI:=by unfold Xw;exact aD [] Tryz.func132
instance zwy {n b a}:CI E0 (Xc n b a) true 130 [B0 b,B0 a] aI:=by unfold Xc;exact aD [] Tryz.func130
instance zqw {n b a}:CI E0 (Wa n b a) true 129 [.sl 4 (b.map B0),.sl 4 (a.map B0),.fn 130 []] aI:=by unfold Wa;exact aD [] Tryz.func129
instance y0r {n b a}:CI E0 (Te n b a) true 64 [B1 b,B1 a] aI:=by unfold Te;exact aD [] Tryz.func64
instance y0m {n b a}:CI E0 (Xl n b a) true 204 [Ai b,Ai a] aI:=by unfold Xl;exact aD [] Tryz.func204
instance zl6 {n b a}:CI E0 (V8 n b a) true 203 [.sl 2 (b.map Ai),.sl 2 (a.map Ai),.fn 204 []] aI:=by unfold V8;exact aD [] Tryz.func203
instance y3v {n b a}:CI E0 (Xq n b a) true 125 [A7 b,A7 a] aI:=by unfold Xq;exact aD [] Tryz.func125
instance y4l {n a}:CI E0 (zdh n a) true 166 [A5 a] (λr=>.bool (r)):=by unfold zdh;exact aD [1] Tryz.func166
instance yab {n a}:CI E0 (Og n a) true 122 [A5 a] Bj:=by unfold Og;exact aD [] Tryz.func122
instance y7z {n b a}:CI E0 (zds n b a) true 165 [Bj b,Bj a] aI:=by unfold zds;exact aD [] Tryz.func165
instance y4m {n b a}:CI E0 (zdi n b a) true 227 [B0 b,.ref (Bx a)] (λr=>.bool (r)):=by unfold zdi;exact aD [] Tryz.func227
instance zno {n a b}:CI E0 (z1o n a b) true 273 [.sl 4 (a.map B0),.fn 227 [.ref (Bx b)]] aI:=by unfold z1o;exact aD [] Tryz.func273
instance zkf {n a b}:CI E0 (z12 n a b) true 226 [.sl 4 (a.map B0),.fn 227 [.ref (Bx b)]] (λr=>.bool (r)):=by unfold z12;exact aD [] Tryz.func226
instance y80 {n d c}:CI E0 (zh3 n d c) true 168 [A7 d,A5 c] (λr=>.bool (r)):=⟨λ{r} b=>by
 unfold zh3 at b;refine cw Tryz.func168 ?_;repeat' first
  |refine aH ?_;conv=>whnf
  |refine cE b (λa b=>?_) rfl rfl λ_=>aW rfl
  |exact aB b⟩
instance y4o {n b a}:CI E0 (zdj n b a) true 167 [A7 b,.ref (Bx a)] (λr=>.bool (r)):=by unfold zdj;exact aD [] Tryz.func167
instance znp {n a b}:CI E0 (z1p n a b) true 147 [.sl 3 (a.map A7),.fn 167 [.ref (Bx b)]] aI:=by unfold z1p;exact aD [] Tryz.func147
instance zkg {n a b}:CI E0 (z13 n a b) true 76 [.sl 3 (a.map A7),.fn 167 [.ref (Bx b)]] (λr=>.bool (r)):=by unfold z13;exact aD [] Tryz.func76
instance y81 {n d c}:CI E0 (zdt n d c) true 97 [.sl 3 (d.map A7),A5 c] aI:=⟨λ{r} b=>by
 unfold zdt at b;refine cw Tryz.func97 ?_;repeat' first
  |refine aH ?_;conv=>whnf
  |refine aM b (λb=>?_) λb=>?_
  |refine aT b λa b=>?_
  |refine cE b (λa b=>?_) rfl rfl λ_=>aW rfl
  |exact aB b⟩
end
noncomputable section
abbrev z9w {n d c}:=li (M3 n d c) (λb=>⟨[(0,.row 200000),(1,.fn 202 [.ref [.fn 125 []]]),(5,aI b.1),(6,.der (.sub 3 (d)) 200000),(7,aI b.2.1)],[(200000,.row 90 3 (b.2.2.map A7))]⟩) λ_ _=>M3.eq_2 ..
abbrev z9x {n a b}:=li (R1 n a b) (λc=>⟨[(0,.row 200000),(1,.fn 202 [.ref [.fn 125 []]]),(5,aI c)],[(200000,.row 90 3 (a.map A7))]⟩) λ_ _=>R1.eq_2 ..
abbrev zgf {n}:=jf (Jz n) (λb=>⟨[(2,.bool (b))],[]⟩) λ_=>Jz.eq_1 ..
abbrev zfd {n}:=jf (Er n) (λb=>⟨[(2,.bool (b))],[]⟩) λ_=>Er.eq_1 ..
abbrev zhp {n a b c}:=jf (Et n a b c) (λd=>⟨[(0,.str (a)),(18,aI (((a.size:Nat):Int))),(19,aI b),(33,.bool (d))],[]⟩) λ_=>Et.eq_1 ..
abbrev zho {n a b}:=li (E5 n a b) (λc=>⟨[(0,.str (a)),(18,aI (((a.size:Nat):Int))),(19,aI c)],[]⟩) λ_ _=>E5.eq_2 ..
abbrev zhq {n a}:=jf (Dl n a) (λb=>⟨[(0,.str (a)),(16,.bool (b))],[]⟩) λ_=>Dl.eq_1 ..
abbrev zcb {n}:=jf (Jo n) (λb=>⟨[(2,.bool (b))],[]⟩) λ_=>Jo.eq_1 ..
abbrev zgh {n a b c d}:=jf (Hs n a b c d) (λe=>⟨[(3,.row 14),(5,.ptr 5 0),(16,.sl 2 (a.fFields.map D0)),(17,aI (((a.fFields.map D0).length:Int))),(18,aI b.1),(32,.bool (e))],[(5,.box 164 (zku d)),(14,.mp (List.map (encM AV.str AV.bool) (b.2)))]⟩) λ_=>Hs.eq_1 ..
abbrev zgg {n a b}:=li (Fg n a b) (λc=>⟨[(3,.row 14),(16,.sl 2 (a.fFields.map D0)),(17,aI (((a.fFields.map D0).length:Int))),(18,aI c.1)],[(14,.mp (List.map (encM AV.str AV.bool) (c.2)))]⟩) λ_ _=>Fg.eq_2 ..
abbrev zdu {n a b}:=li (Js n a b) (λc=>⟨[(3,.row 10),(11,.sl 2 (a.map B2)),(12,aI (((a.map B2).length:Int))),(13,aI c.1)],[(10,.mp (List.map (encM AV.str AV.bool) (c.2)))]⟩) λ_ _=>Js.eq_2 ..
abbrev zgm {n}:=jf (K0 n) (λb=>⟨[(24,.bool (b))],[]⟩) λ_=>K0.eq_1 ..
abbrev zc0 {n d a b}:=li (Mt n d a b) (λc=>⟨[(1,aI d),(5,.row 7023),(9,.sl 17 (a.fEdges.map Aa)),(10,aI (((a.fEdges.map Aa).length:Int))),(11,aI c.1)],[(7023,.row 3 1 (c.2.map aI))]⟩) λ_ _=>Mt.eq_2 ..
abbrev z5z {n d a b}:=li (L1 n d a b) (λc=>⟨[(1,.ref (B3 d)),(4,.row 7027),(10,.sl 1 (a.map aI)),(11,aI (((a.map aI).length:Int))),(12,aI c.1)],[(7027,.row 3 1 (c.2.map aI))]⟩) λ_ _=>L1.eq_2 ..
attribute [instance] z9w z9x zgf zfd zhp zho zhq zcb zgh zgg zdu zgm zc0 z5z
set_option maxHeartbeats 400000 in
theorem zub (l:List (Cel 3))(S:Nat->Prop)(v:Value)(w:World)(h:Sl w S 3 encC v l)(d:l.length<=1000000000) :
  Calls bI 265 #[v] w (Ic 90 3 encC l w):=by
 have eok:EOk bI 49 90 3 56 (encC (n:=3)):=eokC (sz:=3) (Da 49 _ rfl) rfl (Da 90 _ rfl) Ω rfl;obtain⟨A,c,rfl,f,_⟩:=h.form;have a:=λ(W:World)=>Lib.run_eql_slice_nil W 49 90 A l.length c 0 0 Tryz.underlying49
 have H:=hide h;cases A with
 |none =>
  have g:l=[]:=h.none_nil;subst g;clear h H d f;simp only[cC,bF]at a ⊢
  go_enter bP,cG
  go_wp2
  go_ret
  exact⟨none,0,rfl,dC,by go_grown⟩
 |some ad =>
  clear h
  go_enter bP,cG
  go_wp2_with (at_builtin;refine Hv rfl _ _ rfl eok rfl bJ rfl (H.out.alloc _) Ψ Ω Δ ?_;intro A' i w1 b e _)
  go_ret
  exact⟨A',i,rfl,b,(bJ (sz:=3) (enc:=encC (n:=3))).grown ((Below.refl _ _).alloc (bD _) _) (bD _) Δ e⟩
theorem zq0 {n a r}(b:C8 n a=some r):ConT E0 265 [.sl 3 (List.map A7 a)] 90 3 (List.map A7 r) (.row 0):=Kb rfl (Ax bP rfl rfl) zub b
instance zws {n b a}:CI E0 (T3 n b a) true 202 [A7 b,A7 a,.ref [.fn 125 []]] (λr=>.bool (r)):=by unfold T3;exact aD [] Tryz.func202
def zef (a:(List A1)):List (Nat×Ent):=[(200000,.row 90 3 (a.map A7))]
def W4 (r:(List A1)):List (Nat×Ent):=[(260000,.row 90 3 (r.map A7))]
def z17 (r:(List A1)):AV:=.row 260000
def z3t (r:(List A1)):AS:=⟨[(4,.row 260000)],W4 r⟩
theorem zbw {n c r}(b:Wb n c=some r):ConG E0.P none (CalF E0.P 201 0) [.row 200000,.fn 202 [.ref [.fn 125 []]]] [] (zef c) (z17 r) (W4 r):=by
 unfold Wb at b;refine aR (E:=(E0p 2)) (caps:=[]) _ cP rfl rfl rfl rfl rfl ?_;repeat' first
  |refine aH ?_;conv=>whnf
  |refine aM b (λb=>?_) λb=>?_
  |exact GX.A (res:=z17) (meF:=W4) b z3t (h1:=aA [(260000,200000)])
  |refine bZ b (λm b=>?_)
  |refine EltX.o A7 b (λx b=>?_)
  |refine aT b λa b=>?_
  |refine OpX.sub b rfl rfl rfl rfl rfl rfl rfl rfl rfl rfl (λm b=>?_)
  |refine OpX.clr A7 b rfl rfl rfl rfl rfl rfl rfl rfl rfl rfl rfl (by first|exact aV _|(repeat' first|exact SubL.nil|refine SubL.cons ?_ ?_|exact Sub.refl _|exact Sub.nil _|refine Sub.agg ?_)) (λl b=>?_)
  |refine SlsX.o A7 b (λl b=>?_)
  |exact GX.A (res:=z17) (meF:=W4) b z3t (h1:=aA [(260000,64)])
  |refine OpX.lns b rfl rfl rfl rfl rfl rfl rfl (λb=>?_)
  |refine OpX.ixs b rfl rfl rfl rfl rfl rfl rfl rfl rfl rfl (λm b=>?_)
  |refine SetX.o A7 b (λx=>rfl) (λx=>(by first|exact aV _|(repeat' first|exact SubL.nil|refine SubL.cons ?_ ?_|exact Sub.refl _|exact Sub.nil _|refine Sub.agg ?_))) (λl b=>?_)
  |exact⟨_,b,aA []⟩
  |refine aO b (aA []) λm v b=>?_
  |refine AndA ?_
  |refine aL ?_
def zuu (a:(List A1)):List (Nat×Ent):=[(200000,.row 90 3 (a.map A7))]
def Xt (r:(List A1)):List (Nat×Ent):=[(260000,.row 90 3 (r.map A7))]
def z6a (r:(List A1)):AV:=.row 260000
def zur (r:(List A1)):AS:=⟨[(4,.row 260000)],Xt r⟩
theorem zei {n c r}(b:Tp n c=some r):ConG E0.P none (CalF E0.P 124 0) [.row 200000,.fn 125 []] [] (zuu c) (z6a r) (Xt r):=by
 unfold Tp at b;refine aR (E:=(E0p 2)) (caps:=[]) _ cR rfl rfl rfl rfl rfl ?_;repeat' first
  |refine AW.frbO b 3 rfl rfl (λb=>?_)
  |refine aG b λb=>?_
  |refine aC [2] ?_;conv=>whnf
  |refine B5.oI b 200000 (λr=>r) A7 (λ_=>AV.tup []) rfl (λa h=>(ConC.env rfl (zzv h))) rfl rfl rfl (λa b=>?_)
  |refine bC (Be 10 b) [(200000,200000)] [(260000,11000000)] _ _ W4 z17 [200000] (λa h=>aJ (zbw h)) (Ax cP rfl rfl) rfl rfl rfl ⟨⟨rfl,rfl⟩,trivial⟩ (λa=>⟨rfl,rfl,rfl,rfl,rfl,rfl,rfl,rfl⟩) (λa b=>?_)
  |exact GX.A (res:=z6a) (meF:=Xt) b zur (h1:=aA [(260000,11000000)])
instance y83 {n c}:CI E0 (zh5 n c) false 214 [.sl 3 (c.map A7)] (λr=>.tup [.sl 3 (r.1.map A7),aI r.2]):=⟨λ{r} b=>by
 unfold zh5 at b;refine cw Tryz.func214 ?_;repeat' first
  |refine aH ?_;conv=>whnf
  |refine aM b (λb=>?_) λb=>?_
  |refine Ab.oR b (λr=>r) A7 (λ_=>AV.row 0) rfl (λa h=>zq0 h) (λa b=>?_)
  |refine bC (Be 7 b) [(200000,6)] [(260000,8000000)] _ _ Xt z6a [6] (λa h=>aJ (zei h)) (Ax cR rfl rfl) rfl rfl rfl ⟨⟨rfl,rfl⟩,trivial⟩ (λa=>⟨rfl,rfl,rfl,rfl,rfl,rfl,rfl,rfl⟩) (λa b=>?_)
  |exact aB b⟩
instance zlw {n}:CI E0 (Qt n) false 42 [] Bi:=⟨λ{r} b=>by
 unfold Qt at b;refine cw Tryz.func42 ?_;repeat' first
  |refine aH ?_;conv=>whnf
  |refine aM b (λb=>?_) λb=>?_
  |refine aS ?_
  |refine aU ?_
  |refine aT b λa b=>?_
  |refine MakX.o Am b (by first|exact aV _|(repeat' first|exact SubL.nil|refine SubL.cons ?_ ?_|exact Sub.refl _|exact Sub.nil _|refine Sub.agg ?_)) (λl b=>?_)
  |refine AndA ?_
  |refine aL ?_
  |exact aB b⟩
instance y12 {n a}:CI E0 (Fj n a) true 280 [.int .u8 (a)] (λr=>.bool (r)):=by unfold Fj;exact aD [1] Tryz.func280
instance y0l {n a}:CI E0 (K3 n a) true 281 [.int .u8 (a)] (λr=>.bool (r)):=by unfold K3;exact aD [1] Tryz.func281
instance y3u {n d}:CI E0 (K9 n d) true 231 [.str (d)] (λr=>.bool (r)):=⟨λ{r} c=>by
 unfold K9 at c;refine cw Tryz.func231 ?_;repeat' first
  |refine bG c (λv c=>?_) λc=>?_
  |refine aG c λc=>?_
  |refine aC [1,6] ?_;conv=>whnf
  |refine aM c (λc=>?_) λc=>?_
  |refine aS ?_
  |refine aU ?_
  |exact⟨_,c,aA []⟩
  |refine OpX.idb c rfl rfl rfl rfl rfl rfl rfl rfl (λb c=>?_)
  |refine aT c λa c=>?_
  |refine aO c (aA []) λm v c=>?_
  |refine AndA ?_
  |refine aL ?_
  |exact aB c⟩
instance zuy {n a}:CI E0 (Sr n a) true 232 [.str (a)] (λr=>.bool (r)):=by unfold Sr;exact aD [1] Tryz.func232
theorem y6n (a b:ByteArray):eqK (AV.str a) (AV.str b)=some (decide (a=b)):=by simp[eqK,eq1,aI,I8]
instance y13 {n d}:CI E0 (Nx n d) true 173 [B2 d] aI:=⟨λ{r} c=>by
 unfold Nx at c;refine cw Tryz.func173 ?_;repeat' first
  |refine bG c (λv c=>?_) λc=>?_
  |refine aG c λc=>?_
  |refine aC [13] ?_;conv=>whnf
  |refine aM c (λc=>?_) λc=>?_
  |refine aS ?_
  |refine aU ?_
  |refine aT c λa c=>?_
  |refine aN c λx c=>?_
  |refine LkX.o AV.str AV.bool c (by first|rfl|kernel_rfl) y6n (by repeat' first|exact Sub.nil _|exact Sub.refl _|refine Sub.agg ?_|refine Sub.tup ?_|refine Sub.fn ?_|exact SubL.nil|refine SubL.cons ?_ ?_|refine Sub.sl _ ?_|exact SubE.nil|refine SubE.cons ?_ ?_) (λv b c=>?_)
  |refine UpX.o AV.str AV.bool c (by first|rfl|kernel_rfl) y6n (by repeat' first|exact Sub.nil _|exact Sub.refl _|refine Sub.agg ?_|refine Sub.tup ?_|refine Sub.fn ?_|exact SubL.nil|refine SubL.cons ?_ ?_|refine Sub.sl _ ?_|exact SubE.nil|refine SubE.cons ?_ ?_) (λl c=>?_)
  |exact⟨_,c,aA []⟩
  |refine aO c (aA []) λm v c=>?_
  |refine AndA ?_
  |refine aL ?_
  |exact aB c⟩
instance zwq {n d}:CI E0 (Ht n d) true 104 [.sl 2 (d.map B2)] aI:=⟨λ{r} c=>by
 unfold Ht at c;refine cw Tryz.func104 ?_;repeat' first
  |refine aH ?_;conv=>whnf
  |refine aM c (λc=>?_) λc=>?_
  |refine aS ?_
  |refine aU ?_
  |refine aN c λx c=>?_
  |refine aT c λa c=>?_
  |refine LkX.o AV.str AV.bool c (by first|rfl|kernel_rfl) y6n (by repeat' first|exact Sub.nil _|exact Sub.refl _|refine Sub.agg ?_|refine Sub.tup ?_|refine Sub.fn ?_|exact SubL.nil|refine SubL.cons ?_ ?_|refine Sub.sl _ ?_|exact SubE.nil|refine SubE.cons ?_ ?_) (λv b c=>?_)
  |refine UpX.o AV.str AV.bool c (by first|rfl|kernel_rfl) y6n (by repeat' first|exact Sub.nil _|exact Sub.refl _|refine Sub.agg ?_|refine Sub.tup ?_|refine Sub.fn ?_|exact SubL.nil|refine SubL.cons ?_ ?_|refine Sub.sl _ ?_|exact SubE.nil|refine SubE.cons ?_ ?_) (λl c=>?_)
  |exact⟨_,c,aA []⟩
  |refine aO c (aA []) λm v c=>?_
  |refine AndA ?_
  |refine aL ?_
  |exact aB c⟩
instance y18 {n c b a}:CI E0 (Hx n c b a) true 48 [.sl 2 (c.map B2),Bi b,aI a] aI:=by unfold Hx;exact aD [7] Tryz.func48
instance zu7 {n c b}:CI E0 (Wy n c b) false 118 [Bi c,aI b] (λr=>.sl 1 (r.map aI)):=⟨λ{r} a=>by
 unfold Wy at a;refine cw Tryz.func118 ?_;repeat' first
  |refine aG a λa=>?_
  |refine aC [5] ?_;conv=>whnf
  |refine aM a (λa=>?_) λa=>?_
  |refine aS ?_
  |refine aU ?_
  |refine aN a λx a=>?_
  |refine aP a λl a=>?_
  |exact⟨_,a,aA [(7023,23)]⟩
  |exact⟨_,a,aA []⟩
  |refine aO a ?_ λm v a=>?_
  |exact aE (aK 5 7023 3 1 rfl rfl) (aA [])
  |refine AndA ?_
  |refine aL ?_
  |exact aB a⟩
end
noncomputable section
abbrev zc1 {n b a2bc0 a c}:=li (Rt n b a2bc0 a c) (λd=>⟨[(1,.ptr 100000 0),(3,.ptr 100001 0),(16,.sl 1 (a.map aI)),(17,aI (((a.map aI).length:Int))),(18,aI d.1)],[(100000,.box 44 [.row 200000]),(100001,.box 332 [.fn 284 [.ptr 100000 0,.ref [.fn 240 [.ref (B3 a2bc0)]],.ptr 100001 0]]),(200000,.row 4 1 (d.2.map AV.bool))]⟩) λ_ _=>Rt.eq_2 ..
abbrev ze5 {n b a c}:=li (Sj n b a c) (λd=>⟨[(7,.ptr 7 0),(8,.ptr 8 0),(16,.sl 1 (a.map aI)),(17,aI (((a.map aI).length:Int))),(18,aI d.1)],[(7,.box 44 [.row 7014]),(8,.box 332 [.fn 284 [.ptr 7 0,.ref [.fn 240 [.ref (B3 b)]],.ptr 8 0]]),(7014,.row 4 1 (d.2.map AV.bool))]⟩) λ_ _=>Sj.eq_2 ..
abbrev zby {n a b}:=li (Ms n a b) (λc=>⟨[(3,.row 7017),(6,.sl 1 (a.map AV.bool)),(7,aI (((a.map AV.bool).length:Int))),(8,aI c.1)],[(7017,.row 3 1 (c.2.map aI))]⟩) λ_ _=>Ms.eq_2 ..
abbrev zai {n a d b}:=li (M7 n a d b) (λc=>⟨[(0,aI d),(4,.row 7022),(8,.sl 17 (a.fEdges.map Aa)),(9,aI (((a.fEdges.map Aa).length:Int))),(10,aI c.1)],[(7022,.row 3 1 (c.2.map aI))]⟩) λ_ _=>M7.eq_2 ..
abbrev z4q {n b a2bc0 a c}:=li (Ph n b a2bc0 a c) (λd=>⟨[(1,.ptr 100000 0),(3,.ptr 100001 0),(16,.sl 1 (a.map aI)),(17,aI (((a.map aI).length:Int))),(18,aI d.1)],[(100000,.box 44 [.row 200000]),(100001,.box 332 [.fn 284 [.ptr 100000 0,.ref [.fn 241 [.ref (B3 a2bc0)]],.ptr 100001 0]]),(200000,.row 4 1 (d.2.map AV.bool))]⟩) λ_ _=>Ph.eq_2 ..
abbrev z7n {n b a c}:=li (Q9 n b a c) (λd=>⟨[(7,.ptr 7 0),(8,.ptr 8 0),(16,.sl 1 (a.map aI)),(17,aI (((a.map aI).length:Int))),(18,aI d.1)],[(7,.box 44 [.row 7014]),(8,.box 332 [.fn 284 [.ptr 7 0,.ref [.fn 241 [.ref (B3 b)]],.ptr 8 0]]),(7014,.row 4 1 (d.2.map AV.bool))]⟩) λ_ _=>Q9.eq_2 ..
abbrev zcq {n a b}:=li (Mz n a b) (λc=>⟨[(1,.ptr 1 0),(3,.row 7020),(7,.sl 17 (a.fEdges.map Aa)),(8,aI (((a.fEdges.map Aa).length:Int))),(9,aI c.1)],[(1,.box 26 (B3 a)),(7020,.row 3 1 (c.2.map aI))]⟩) λ_ _=>Mz.eq_2 ..
abbrev zll {n a b}:=li (Tk n a b) (λc=>⟨[(3,.row 6),(7,.sl 1 (a.map aI)),(8,aI (((a.map aI).length:Int))),(9,aI c.1)],[(6,.mp (List.map (encM aI AV.bool) (c.2)))]⟩) λ_ _=>Tk.eq_2 ..
abbrev zgl {n a e d b}:=li (Hu n a e d b) (λc=>⟨[(2,.ptr 2 0),(7,.ptr 7 0),(8,.mapv (List.map (encM aI AV.bool) (d))),(28,.sl 17 (a.fEdges.map Aa)),(29,aI (((a.fEdges.map Aa).length:Int))),(30,aI c.1)],[(2,.box 119 [.mapv [],.mapv []]),(7,.box 119 [.mapv (List.map (encM aI AV.bool) (e)),.row 23]),(23,.mp (List.map (encM aI AV.bool) (c.2)))]⟩) λ_ _=>Hu.eq_2 ..
attribute [instance] zc1 ze5 zby zai z4q z7n zcq zll zgl
instance zmk {n d c}:CI E0 (Vk n d c) false 240 [aI d,.ref (B3 c)] (λr=>.sl 1 (r.map aI)):=⟨λ{r} b=>by
 unfold Vk at b;refine cw Tryz.func240 ?_;repeat' first
  |refine aG b λb=>?_
  |refine aC [6] ?_;conv=>whnf
  |refine aM b (λb=>?_) λb=>?_
  |refine aS ?_
  |refine aU ?_
  |refine aT b λa b=>?_
  |refine aN b λx b=>?_
  |refine aP b λl b=>?_
  |exact⟨_,b,aA [(7027,27)]⟩
  |exact⟨_,b,aA []⟩
  |refine aO b ?_ λm v b=>?_
  |exact aE (aK 4 7027 3 1 rfl rfl) (aA [])
  |refine AndA ?_
  |refine aL ?_
  |exact aB b⟩
def zf8 (b:Int)(a2bc0:Ad)(a:(List Bool)):List (Nat×Ent):=[(100000,.box 44 [.row 200000]),(200000,.row 4 1 (a.map AV.bool)),(100001,.box 332 [.fn 284 [.ptr 100000 0,.ref [.fn 240 [.ref (B3 a2bc0)]],.ptr 100001 0]])]
def N6 (a2bc0:Ad)(r:(List Bool)):List (Nat×Ent):=[(100000,.box 44 [.row 250000]),(250000,.row 4 1 (r.map AV.bool)),(100001,.box 332 [.fn 284 [.ptr 100000 0,.ref [.fn 240 [.ref (B3 a2bc0)]],.ptr 100001 0]])]
def Sm (r:(List Bool)):AV:=.tup []
def zf5 (a2bc0:Ad)(r:(List Bool)):AS:=⟨[(1,.ptr 100000 0),(3,.ptr 100001 0)],N6 a2bc0 r⟩
theorem z3n {n c a2bc0 d r}(b:Nd n c a2bc0 d=some r):ConG E0.P none (CalF E0.P 284 0) [aI c,.ptr 100000 0,.ref [.fn 240 [.ref (B3 a2bc0)]],.ptr 100001 0] [] (zf8 c a2bc0 d) (Sm r) (N6 a2bc0 r):=by
 induction n generalizing c a2bc0 d r
 case zero=>cases b
 case succ n e =>
 unfold Nd at b;refine aR (E:=(E0p 4)) (caps:=[]) _ aQ rfl rfl rfl rfl rfl ?_;repeat' first
  |refine aH ?_;conv=>whnf
  |refine aM b (λb=>?_) λb=>?_
  |refine aS ?_
  |refine aU ?_
  |refine bZ b (λm b=>?_)
  |refine EltX.o AV.bool b (λx b=>?_)
  |refine GX.o (res:=Sm) (meF:=(N6 a2bc0)) b ?_;exact GX.mk (zf5 a2bc0 _) (aA [(250000,200000)]) rfl _ rfl (by repeat' first|exact Sub.nil _|exact Sub.refl _|refine Sub.agg ?_|refine Sub.tup ?_|refine Sub.fn ?_|exact SubL.nil|refine SubL.cons ?_ ?_|refine Sub.sl _ ?_|exact SubE.nil|refine SubE.cons ?_ ?_) [] trivial rfl
  |refine SetX.o AV.bool b (λx=>rfl) (λx=>(by first|exact aV _|(repeat' first|exact SubL.nil|refine SubL.cons ?_ ?_|exact Sub.refl _|exact Sub.nil _|refine Sub.agg ?_))) (λl b=>?_)
  |refine aT b λa b=>?_
  |refine aN b λx b=>?_
  |refine bC (Be 24 b) [(100000,100000),(100001,100001),(200000,200000)] [(100000,100000),(250000,25000001),(100001,100001)] _ _ (N6 a2bc0) Sm [200000] (λa h=>aJ (e h)) (Ax aQ rfl rfl) rfl rfl rfl ⟨⟨rfl,rfl⟩,⟨⟨rfl,rfl⟩,⟨⟨rfl,rfl⟩,trivial⟩⟩⟩ (λa=>⟨rfl,rfl,rfl,rfl,rfl,rfl,rfl,rfl⟩) (λa b=>?_)
  |refine bM (Be 24 b) [(100000,100000),(100001,100001),(200000,200000)] [(100000,100000),(250000,25000001),(100001,100001)] _ _ (N6 a2bc0) Sm [200000] (λa h=>aJ (e h)) (Ax aQ rfl rfl) rfl rfl rfl ⟨⟨rfl,rfl⟩,⟨⟨rfl,rfl⟩,⟨⟨rfl,rfl⟩,trivial⟩⟩⟩ (λa=>⟨rfl,rfl,rfl,rfl,rfl,rfl,rfl,rfl⟩) (λa b=>?_)
  |exact⟨_,b,aA [(200000,25000001)]⟩
  |refine aO b (aA []) λm v b=>?_
  |refine AndA ?_
  |refine aL ?_
instance zx1 {n e d b}:CI E0 (Xd n e d b) false 239 [Bi e,.sl 1 (d.map aI),.fn 240 [.ref (B3 b)]] (λr=>.sl 1 (r.map AV.bool)):=⟨λ{r} c=>by
 unfold Xd at c;refine cw cT ?_;repeat' first
  |refine aG c λc=>?_
  |refine bH c 5 rfl (λc=>?_)
  |refine aC [7] ?_;conv=>whnf
  |refine aM c (λc=>?_) λc=>?_
  |refine aS ?_
  |refine aU ?_
  |refine MakX.o AV.bool c (by first|exact aV _|(repeat' first|exact SubL.nil|refine SubL.cons ?_ ?_|exact Sub.refl _|exact Sub.nil _|refine Sub.agg ?_)) (λl c=>?_)
  |refine aN c λx c=>?_
  |refine bC (Be 24 c) [(100000,7),(100001,8),(200000,7014)] [(100000,7),(250000,25000001),(100001,8)] _ _ (N6 b) Sm [7014] (λa h=>aJ (z3n h)) (Ax aQ rfl rfl) rfl rfl rfl ⟨⟨rfl,rfl⟩,⟨⟨rfl,rfl⟩,⟨⟨rfl,rfl⟩,trivial⟩⟩⟩ (λa=>⟨rfl,rfl,rfl,rfl,rfl,rfl,rfl,rfl⟩) (λa c=>?_)
  |refine bM (Be 24 c) [(100000,7),(100001,8),(200000,7014)] [(100000,7),(250000,25000001),(100001,8)] _ _ (N6 b) Sm [7014] (λa h=>aJ (z3n h)) (Ax aQ rfl rfl) rfl rfl rfl ⟨⟨rfl,rfl⟩,⟨⟨rfl,rfl⟩,⟨⟨rfl,rfl⟩,trivial⟩⟩⟩ (λa=>⟨rfl,rfl,rfl,rfl,rfl,rfl,rfl,rfl⟩) (λa c=>?_)
  |exact⟨_,c,aA [(7014,25000001)]⟩
  |refine aO c ?_ λm v c=>?_
  |exact aE (LeX.frb 5 rfl rfl) (aA [(7014,14)])
  |refine AndA ?_
  |refine aL ?_
  |exact aB c⟩
instance zpx {n c}:CI E0 (z0v n c) false 184 [Bi c] (λr=>.sl 1 (r.map AV.bool)):=⟨λ{r} b=>by
 unfold z0v at b;refine cw Tryz.func184 ?_;repeat' first
  |refine AW.frbO b 1 rfl rfl (λb=>?_)
  |refine aG b λb=>?_
  |refine bH b 1 rfl (λb=>?_)
  |refine aC [1] ?_;conv=>whnf
  |refine aM b (λb=>?_) λb=>?_
  |refine aS ?_
  |refine aU ?_
  |refine aT b λa b=>?_
  |refine AndA ?_
  |refine aL ?_
  |exact aB b⟩
instance zu5 {n b}:CI E0 (Wx n b) false 183 [.sl 1 (b.map AV.bool)] (λr=>.sl 1 (r.map aI)):=⟨λ{r} a=>by
 unfold Wx at a;refine cw Tryz.func183 ?_;repeat' first
  |refine aG a λa=>?_
  |refine aC [5] ?_;conv=>whnf
  |refine aM a (λa=>?_) λa=>?_
  |refine aS ?_
  |refine aU ?_
  |refine aN a λx a=>?_
  |refine aP a λl a=>?_
  |exact⟨_,a,aA [(7017,17)]⟩
  |exact⟨_,a,aA []⟩
  |refine aO a ?_ λm v a=>?_
  |exact aE (aK 3 7017 3 1 rfl rfl) (aA [])
  |refine AndA ?_
  |refine aL ?_
  |exact aB a⟩
instance zpy {n a}:CI E0 (W3 n a) false 112 [Bi a] (λr=>.tup [.sl 1 (r.1.map aI),aI r.2]):=by unfold W3;exact aD [] Tryz.func112
instance zr1 {n c b}:CI E0 (z1b n c b) false 241 [aI c,.ref (B3 b)] (λr=>.sl 1 (r.map aI)):=⟨λ{r} a=>by
 unfold z1b at a;refine cw Tryz.func241 ?_;repeat' first
  |refine aG a λa=>?_
  |refine aC [5] ?_;conv=>whnf
  |refine aM a (λa=>?_) λa=>?_
  |refine aS ?_
  |refine aU ?_
  |refine aN a λx a=>?_
  |refine aP a λl a=>?_
  |exact⟨_,a,aA [(7022,22)]⟩
  |exact⟨_,a,aA []⟩
  |refine aO a ?_ λm v a=>?_
  |exact aE (aK 4 7022 3 1 rfl rfl) (aA [])
  |refine AndA ?_
  |refine aL ?_
  |exact aB a⟩
def z98 (b:Int)(a2bc0:Ad)(a:(List Bool)):List (Nat×Ent):=[(100000,.box 44 [.row 200000]),(200000,.row 4 1 (a.map AV.bool)),(100001,.box 332 [.fn 284 [.ptr 100000 0,.ref [.fn 241 [.ref (B3 a2bc0)]],.ptr 100001 0]])]
def Lf (a2bc0:Ad)(r:(List Bool)):List (Nat×Ent):=[(100000,.box 44 [.row 250000]),(250000,.row 4 1 (r.map AV.bool)),(100001,.box 332 [.fn 284 [.ptr 100000 0,.ref [.fn 241 [.ref (B3 a2bc0)]],.ptr 100001 0]])]
def Qa (r:(List Bool)):AV:=.tup []
def z94 (a2bc0:Ad)(r:(List Bool)):AS:=⟨[(1,.ptr 100000 0),(3,.ptr 100001 0)],Lf a2bc0 r⟩
theorem z2h {n c a2bc0 d r}(b:Lq n c a2bc0 d=some r):ConG E0.P none (CalF E0.P 284 0) [aI c,.ptr 100000 0,.ref [.fn 241 [.ref (B3 a2bc0)]],.ptr 100001 0] [] (z98 c a2bc0 d) (Qa r) (Lf a2bc0 r):=by
 induction n generalizing c a2bc0 d r
 case zero=>cases b
 case succ n e =>
 unfold Lq at b;refine aR (E:=(E0p 4)) (caps:=[]) _ aQ rfl rfl rfl rfl rfl ?_;repeat' first
  |refine aH ?_;conv=>whnf
  |refine aM b (λb=>?_) λb=>?_
  |refine aS ?_
  |refine aU ?_
  |refine bZ b (λm b=>?_)
  |refine EltX.o AV.bool b (λx b=>?_)
  |refine GX.o (res:=Qa) (meF:=(Lf a2bc0)) b ?_;exact GX.mk (z94 a2bc0 _) (aA [(250000,200000)]) rfl _ rfl (by repeat' first|exact Sub.nil _|exact Sub.refl _|refine Sub.agg ?_|refine Sub.tup ?_|refine Sub.fn ?_|exact SubL.nil|refine SubL.cons ?_ ?_|refine Sub.sl _ ?_|exact SubE.nil|refine SubE.cons ?_ ?_) [] trivial rfl
  |refine SetX.o AV.bool b (λx=>rfl) (λx=>(by first|exact aV _|(repeat' first|exact SubL.nil|refine SubL.cons ?_ ?_|exact Sub.refl _|exact Sub.nil _|refine Sub.agg ?_))) (λl b=>?_)
  |refine aT b λa b=>?_
  |refine aN b λx b=>?_
  |refine bC (Be 24 b) [(100000,100000),(100001,100001),(200000,200000)] [(100000,100000),(250000,25000001),(100001,100001)] _ _ (Lf a2bc0) Qa [200000] (λa h=>aJ (e h)) (Ax aQ rfl rfl) rfl rfl rfl ⟨⟨rfl,rfl⟩,⟨⟨rfl,rfl⟩,⟨⟨rfl,rfl⟩,trivial⟩⟩⟩ (λa=>⟨rfl,rfl,rfl,rfl,rfl,rfl,rfl,rfl⟩) (λa b=>?_)
  |refine bM (Be 24 b) [(100000,100000),(100001,100001),(200000,200000)] [(100000,100000),(250000,25000001),(100001,100001)] _ _ (Lf a2bc0) Qa [200000] (λa h=>aJ (e h)) (Ax aQ rfl rfl) rfl rfl rfl ⟨⟨rfl,rfl⟩,⟨⟨rfl,rfl⟩,⟨⟨rfl,rfl⟩,trivial⟩⟩⟩ (λa=>⟨rfl,rfl,rfl,rfl,rfl,rfl,rfl,rfl⟩) (λa b=>?_)
  |exact⟨_,b,aA [(200000,25000001)]⟩
  |refine aO b (aA []) λm v b=>?_
  |refine AndA ?_
  |refine aL ?_
instance zny {n e d b}:CI E0 (Rs n e d b) false 239 [Bi e,.sl 1 (d.map aI),.fn 241 [.ref (B3 b)]] (λr=>.sl 1 (r.map AV.bool)):=⟨λ{r} c=>by
 unfold Rs at c;refine cw cT ?_;repeat' first
  |refine aG c λc=>?_
  |refine bH c 5 rfl (λc=>?_)
  |refine aC [7] ?_;conv=>whnf
  |refine aM c (λc=>?_) λc=>?_
  |refine aS ?_
  |refine aU ?_
  |refine MakX.o AV.bool c (by first|exact aV _|(repeat' first|exact SubL.nil|refine SubL.cons ?_ ?_|exact Sub.refl _|exact Sub.nil _|refine Sub.agg ?_)) (λl c=>?_)
  |refine aN c λx c=>?_
  |refine bC (Be 24 c) [(100000,7),(100001,8),(200000,7014)] [(100000,7),(250000,25000001),(100001,8)] _ _ (Lf b) Qa [7014] (λa h=>aJ (z2h h)) (Ax aQ rfl rfl) rfl rfl rfl ⟨⟨rfl,rfl⟩,⟨⟨rfl,rfl⟩,⟨⟨rfl,rfl⟩,trivial⟩⟩⟩ (λa=>⟨rfl,rfl,rfl,rfl,rfl,rfl,rfl,rfl⟩) (λa c=>?_)
  |refine bM (Be 24 c) [(100000,7),(100001,8),(200000,7014)] [(100000,7),(250000,25000001),(100001,8)] _ _ (Lf b) Qa [7014] (λa h=>aJ (z2h h)) (Ax aQ rfl rfl) rfl rfl rfl ⟨⟨rfl,rfl⟩,⟨⟨rfl,rfl⟩,⟨⟨rfl,rfl⟩,trivial⟩⟩⟩ (λa=>⟨rfl,rfl,rfl,rfl,rfl,rfl,rfl,rfl⟩) (λa c=>?_)
  |exact⟨_,c,aA [(7014,25000001)]⟩
  |refine aO c ?_ λm v c=>?_
  |exact aE (LeX.frb 5 rfl rfl) (aA [(7014,14)])
  |refine AndA ?_
  |refine aL ?_
  |exact aB c⟩
instance zv1 {n c}:CI E0 (z1x n c) false 185 [Bi c] (λr=>.sl 1 (r.map AV.bool)):=⟨λ{r} b=>by
 unfold z1x at b;refine cw Tryz.func185 ?_;repeat' first
  |refine AW.frbO b 1 rfl rfl (λb=>?_)
  |refine aG b λb=>?_
  |refine bH b 7020 rfl (λb=>?_)
  |refine bH b 1 rfl (λb=>?_)
  |refine aC [8,5] ?_;conv=>whnf
  |refine aM b (λb=>?_) λb=>?_
  |refine aS ?_
  |refine aU ?_
  |refine aT b λa b=>?_
  |refine aN b λx b=>?_
  |refine aP b λl b=>?_
  |exact⟨_,b,aA [(7020,20)]⟩
  |exact⟨_,b,aA []⟩
  |refine aO b ?_ λm v b=>?_
  |exact aE (aK 3 7020 3 1 rfl rfl) (aA [])
  |refine AndA ?_
  |refine aL ?_
  |exact aB b⟩
instance zv6 {n a}:CI E0 (X5 n a) false 113 [Bi a] (λr=>.tup [.sl 1 (r.1.map aI),aI r.2]):=by unfold X5;exact aD [] Tryz.func113
theorem D1 (a b:Int):eqK (aI a) (aI b)=some (decide (a=b)):=by simp[eqK,eq1,aI,I8]
instance y6v {n b}:CI E0 (Y1 n b) false 114 [.sl 1 (b.map aI)] (λr=>.mapv (List.map (encM aI AV.bool) (r))):=⟨λ{r} a=>by
 unfold Y1 at a;refine cw Tryz.func114 ?_;repeat' first
  |refine aH ?_;conv=>whnf
  |refine aM a (λa=>?_) λa=>?_
  |refine aS ?_
  |refine aU ?_
  |refine aN a λx a=>?_
  |refine UpX.o aI AV.bool a (by first|rfl|kernel_rfl) D1 (by repeat' first|exact Sub.nil _|exact Sub.refl _|refine Sub.agg ?_|refine Sub.tup ?_|refine Sub.fn ?_|exact SubL.nil|refine SubL.cons ?_ ?_|refine Sub.sl _ ?_|exact SubE.nil|refine SubE.cons ?_ ?_) (λl a=>?_)
  |exact⟨_,a,aA []⟩
  |refine aO a (aA []) λm v a=>?_
  |refine AndA ?_
  |refine aL ?_
  |exact aB a⟩
end
noncomputable section
abbrev z7e {n e f g a b c}:=jt (G5 n e f g a b c) (λd=>⟨[(3,.sl 1 (List.map (λq=>AV.mapv (List.map (encM aI AV.bool) q)) (e))),(4,.ptr 4 0),(6,.ptr 6 0),(9,.row 13),(10,aI b.1),(12,.bool (d)),(15,aI g.fScopes),(16,aI b.1)],[(4,.box 119 [.mapv (List.map (encM aI AV.bool) (a.freachable)),.mapv (List.map (encM aI AV.bool) (a.finner))]),(6,.box 149 (Bs f)),(13,.mp (List.map (encM aI AV.bool) (b.2)))]⟩) λ_=>G5.eq_1 ..
abbrev z7f {n f g h a b c d}:=jt (Gz n f g h a b c d) (λe=>⟨[(3,.sl 1 (List.map (λq=>AV.mapv (List.map (encM aI AV.bool) q)) (f))),(4,.ptr 4 0),(6,.ptr 6 0),(9,.row 13),(10,aI b.1),(11,.bool (d)),(12,.bool (e)),(15,aI h.fScopes),(16,aI b.1)],[(4,.box 119 [.mapv (List.map (encM aI AV.bool) (a.freachable)),.mapv (List.map (encM aI AV.bool) (a.finner))]),(6,.box 149 (Bs g)),(13,.mp (List.map (encM aI AV.bool) (b.2)))]⟩) λ_=>Gz.eq_1 ..
abbrev z7d {n d e f a b}:=li (Fc n d e f a b) (λc=>⟨[(3,.sl 1 (List.map (λq=>AV.mapv (List.map (encM aI AV.bool) q)) (d))),(4,.ptr 4 0),(6,.ptr 6 0),(9,.row 13),(15,aI f.fScopes),(16,aI c.1)],[(4,.box 119 [.mapv (List.map (encM aI AV.bool) (a.freachable)),.mapv (List.map (encM aI AV.bool) (a.finner))]),(6,.box 149 (Bs e)),(13,.mp (List.map (encM aI AV.bool) (c.2)))]⟩) λ_ _=>Fc.eq_2 ..
abbrev zfl {n a b}:=li (Nf n a b) (λc=>⟨[(1,.mapv (List.map (encM aI AV.bool) (a))),(5,.row 7),(9,.ptr 9 0)],[(9,.it (List.map (encM aI AV.bool) (c.1))),(7,.mp (List.map (encM aI AV.bool) (c.2)))]⟩) λ_ _=>Nf.eq_2 ..
abbrev z5w {n a f b d c}:=jf (G3 n a f b d c) (λe=>⟨[(2,.ptr 2 0),(3,.ptr 3 0),(5,.row 15),(8,.bool (b.1)),(10,.ptr 10 0),(40,.sl 17 (a.fEdges.map Aa)),(41,aI (((a.fEdges.map Aa).length:Int))),(42,aI b.2.1),(64,.bool (e))],[(2,.box 119 [.mapv (List.map (encM aI AV.bool) (f.freachable)),.mapv (List.map (encM aI AV.bool) (f.finner))]),(3,.box 26 (B3 a)),(10,.box 149 (Bs c)),(15,.row 112 1 (List.map (λq=>AV.mapv (List.map (encM aI AV.bool) q)) (b.2.2)))]⟩) λ_=>G3.eq_1 ..
abbrev z5t {n a d c}:=li (G2 n a d c) (λb=>⟨[(2,.ptr 2 0),(3,.ptr 3 0),(5,.row 15),(8,.bool (b.1)),(40,.sl 17 (a.fEdges.map Aa)),(41,aI (((a.fEdges.map Aa).length:Int))),(42,aI b.2.1)],[(2,.box 119 [.mapv (List.map (encM aI AV.bool) (d.freachable)),.mapv (List.map (encM aI AV.bool) (d.finner))]),(3,.box 26 (B3 a)),(15,.row 112 1 (List.map (λq=>AV.mapv (List.map (encM aI AV.bool) q)) (b.2.2)))]⟩) λ_ _=>G2.eq_2 ..
abbrev z5u {n d a b}:=li (Iw n d a b) (λc=>⟨[(2,.ptr 2 0),(3,.ptr 3 0),(5,.row 15),(8,.bool (c.1))],[(2,.box 119 [.mapv (List.map (encM aI AV.bool) (a.freachable)),.mapv (List.map (encM aI AV.bool) (a.finner))]),(3,.box 26 (B3 d)),(15,.row 112 1 (List.map (λq=>AV.mapv (List.map (encM aI AV.bool) q)) (c.2)))]⟩) λ_ _=>Iw.eq_2 ..
abbrev z5s {n a g d b e f}:=li (Pv n a g d b e f) (λc=>⟨[(2,.ptr 2 0),(3,.ptr 3 0),(5,.cont (d.1) 15),(6,aI b.1),(18,.ptr 18 0),(28,aI a.fScopes),(29,aI c.1)],[(2,.box 119 [.mapv (List.map (encM aI AV.bool) (g.freachable)),.mapv (List.map (encM aI AV.bool) (g.finner))]),(3,.box 26 (B3 a)),(15,.are 112 (c.2).1 (List.map (enO aI AV.bool) (c.2).2)),(18,.itc (encM aI AV.bool b) (List.map (encM aI AV.bool) (e)))]⟩) λ_ _=>Pv.eq_2 ..
abbrev z5v {n d a c}:=li (L0 n d a c) (λb=>⟨[(2,.ptr 2 0),(3,.ptr 3 0),(5,.cont (b.1) 15),(18,.ptr 18 0)],[(2,.box 119 [.mapv (List.map (encM aI AV.bool) (a.freachable)),.mapv (List.map (encM aI AV.bool) (a.finner))]),(3,.box 26 (B3 d)),(15,.are 112 (b.2.1).1 (List.map (enO aI AV.bool) (b.2.1).2)),(18,.it (List.map (encM aI AV.bool) (b.2.2)))]⟩) λ_ _=>L0.eq_2 ..
abbrev zcw {n b a c}:=li (S5 n b a c) (λd=>⟨[(3,.row 7016),(6,.sl 8 (a.map idA)),(7,aI (((a.map idA).length:Int))),(8,aI d.1)],[(7016,.row 146 8 (d.2.map idA))]⟩) λ_ _=>S5.eq_2 ..
abbrev z60 {n a b}:=li (Px n a b) (λc=>⟨[(3,.row 7016),(6,.sl 8 (a.map idA)),(7,aI (((a.map idA).length:Int))),(8,aI c.1)],[(7016,.row 146 8 (c.2.map idA))]⟩) λ_ _=>Px.eq_2 ..
attribute [instance] z7e z7f z7d zfl z5w z5t z5u z5s z5v zcw z60
instance y17 {n d}:CI E0 (Tj n d) false 54 [Bi d] (λr=>.agg [.mapv (List.map (encM aI AV.bool) (r.freachable)),.mapv (List.map (encM aI AV.bool) (r.finner))]):=⟨λ{r} c=>by
 unfold Tj at c;refine cw Tryz.func54 ?_;repeat' first
  |refine aG c λc=>?_
  |refine aC [8] ?_;conv=>whnf
  |refine aM c (λc=>?_) λc=>?_
  |refine aS ?_
  |refine aU ?_
  |refine aT c λa c=>?_
  |refine aN c λx c=>?_
  |refine bQ aI AV.bool c D1 rfl rfl rfl rfl rfl rfl rfl rfl rfl rfl (by first|rfl|kernel_rfl) (by repeat' first|exact Sub.nil _|exact Sub.refl _|refine Sub.agg ?_|refine Sub.tup ?_|refine Sub.fn ?_|exact SubL.nil|refine SubL.cons ?_ ?_|refine Sub.sl _ ?_|exact SubE.nil|refine SubE.cons ?_ ?_) (λv b c=>?_)
  |refine UpX.o aI AV.bool c (by first|rfl|kernel_rfl) D1 (by repeat' first|exact Sub.nil _|exact Sub.refl _|refine Sub.agg ?_|refine Sub.tup ?_|refine Sub.fn ?_|exact SubL.nil|refine SubL.cons ?_ ?_|refine Sub.sl _ ?_|exact SubE.nil|refine SubE.cons ?_ ?_) (λl c=>?_)
  |exact⟨_,c,aA []⟩
  |refine aO c (aA []) λm v c=>?_
  |refine AndA ?_
  |refine aL ?_
  |exact aB c⟩
def z32 (r:(List (Int×Bool))):AV:=.mapv (List.map (encM aI AV.bool) (r))
theorem z7m {n d g f e r}(c:z0d n d g f e=some r):Con E0 true 116 [.agg [.mapv (List.map (encM aI AV.bool) (d.freachable)),.mapv (List.map (encM aI AV.bool) (d.finner))],Bi g,Aa f,.sl 1 (List.map (λq=>AV.mapv (List.map (encM aI AV.bool) q)) (e))] (z32 r):=by
 unfold z0d at c;refine ConF.walk _ cU rfl (Ax cU rfl rfl) rfl ?_;repeat' first
  |refine AW.jI2 c (λv c=>?_) λc=>?_
  |refine aG c λc=>?_
  |refine aC [7,8,9,10,11] ?_;conv=>whnf
  |refine aM c (λc=>?_) λc=>?_
  |refine aS ?_
  |refine aU ?_
  |refine aT c λa c=>?_
  |refine UpX.o aI AV.bool c (by first|rfl|kernel_rfl) D1 (by repeat' first|exact Sub.nil _|exact Sub.refl _|refine Sub.agg ?_|refine Sub.tup ?_|refine Sub.fn ?_|exact SubL.nil|refine SubL.cons ?_ ?_|refine Sub.sl _ ?_|exact SubE.nil|refine SubE.cons ?_ ?_) (λl c=>?_)
  |exact⟨_,c,aA []⟩
  |refine bQ aI AV.bool c D1 rfl rfl rfl rfl rfl rfl rfl rfl rfl rfl (by first|rfl|kernel_rfl) (by repeat' first|exact Sub.nil _|exact Sub.refl _|refine Sub.agg ?_|refine Sub.tup ?_|refine Sub.fn ?_|exact SubL.nil|refine SubL.cons ?_ ?_|refine Sub.sl _ ?_|exact SubE.nil|refine SubE.cons ?_ ?_) (λv b c=>?_)
  |refine bY (λq=>AV.mapv (List.map (encM aI AV.bool) q)) c λx c=>?_
  |refine aO c (aA []) λm v c=>?_
  |refine AndA ?_
  |refine aL ?_
  |refine FX.o (en:=λr=>List.map (encM aI AV.bool) r) c ?_;exact FX.mk _ 13 (LeX.refl _ _ _) rfl rfl (y3r (λ_=>rfl) (λ_=>rfl)) (bL rfl)
instance y0o {n d c}:CI E0 (Td n d c) false 115 [.mapv (List.map (encM aI AV.bool) (d)),.mapv (List.map (encM aI AV.bool) (c))] (λr=>.mapv (List.map (encM aI AV.bool) (r))):=⟨λ{r} a=>by
 unfold Td at a;refine cw Tryz.func115 ?_;repeat' first
  |refine AW.frsO AV.bool a 7 rfl (λa=>?_)
  |refine cV (encM aI AV.bool) a 9 rfl (λx s a=>?_)
  |refine aG a λa=>?_
  |refine bH a 7 rfl (λa=>?_)
  |refine aC [7,5,4] ?_;conv=>whnf
  |refine aM a (λa=>?_) λa=>?_
  |refine aS ?_
  |refine aU ?_
  |refine cW rfl rfl rfl rfl rfl rfl rfl rfl ?_
  |refine cX (encM aI AV.bool) a rfl rfl rfl rfl rfl (λa=>?_) (λa=>?_)
  |refine cY rfl rfl rfl rfl rfl ?_
  |refine bQ aI AV.bool a D1 rfl rfl rfl rfl rfl rfl rfl rfl rfl rfl (by first|rfl|kernel_rfl) (by repeat' first|exact Sub.nil _|exact Sub.refl _|refine Sub.agg ?_|refine Sub.tup ?_|refine Sub.fn ?_|exact SubL.nil|refine SubL.cons ?_ ?_|refine Sub.sl _ ?_|exact SubE.nil|refine SubE.cons ?_ ?_) (λv b a=>?_)
  |refine UpX.o aI AV.bool a (by first|rfl|kernel_rfl) D1 (by repeat' first|exact Sub.nil _|exact Sub.refl _|refine Sub.agg ?_|refine Sub.tup ?_|refine Sub.fn ?_|exact SubL.nil|refine SubL.cons ?_ ?_|refine Sub.sl _ ?_|exact SubE.nil|refine SubE.cons ?_ ?_) (λl a=>?_)
  |exact⟨_,a,aE (cZ 9 rfl) (aA [])⟩
  |refine aO a (aA []) λm v a=>?_
  |refine AndA ?_
  |refine aL ?_
  |exact aB a⟩
instance zmh {n d e}:CI E0 (Vj n d e) false 55 [.agg [.mapv (List.map (encM aI AV.bool) (d.freachable)),.mapv (List.map (encM aI AV.bool) (d.finner))],Bi e] (λr=>.sl 1 (List.map (λq=>AV.mapv (List.map (encM aI AV.bool) q)) (r))):=⟨λ{r} c=>by
 unfold Vj at c;refine cw Tryz.func55 ?_;repeat' first
  |refine AW.areO aI AV.bool c 15 rfl (λc=>?_)
  |refine AW.froO aI AV.bool c 15 rfl (λc=>?_)
  |refine bG c (λv c=>?_) λc=>?_
  |refine cV (encM aI AV.bool) c 18 rfl (λx s c=>?_)
  |refine aG c λc=>?_
  |refine aC [17,19,11,4,2] ?_;conv=>whnf
  |refine aM c (λc=>?_) λc=>?_
  |refine aS ?_
  |refine aU ?_
  |refine MakX.om c (λm c=>?_)
  |refine cW rfl rfl rfl rfl rfl rfl rfl rfl ?_
  |exact⟨_,c,aE (cZ 18 rfl) (aA [])⟩
  |exact⟨_,c,aA []⟩
  |refine aN c λx c=>?_
  |refine bZ c (λm c=>?_)
  |refine EltX.o (λq=>AV.mapv (List.map (encM aI AV.bool) q)) c (λx c=>?_)
  |refine B5.o c z32 (λa h=>z7m h) (λ_=>bL rfl) (λa c=>?_)
  |refine aT c λa c=>?_
  |refine OpX.lnv rfl rfl rfl rfl rfl rfl ?_
  |refine SetX.o (λq=>AV.mapv (List.map (encM aI AV.bool) q)) c (λx=>rfl) (λx=>(by first|exact aV _|(repeat' first|exact SubL.nil|refine SubL.cons ?_ ?_|exact Sub.refl _|exact Sub.nil _|refine Sub.agg ?_))) (λl c=>?_)
  |refine bQ aI AV.bool c D1 rfl rfl rfl rfl rfl rfl rfl rfl rfl rfl (by first|rfl|kernel_rfl) (by repeat' first|exact Sub.nil _|exact Sub.refl _|refine Sub.agg ?_|refine Sub.tup ?_|refine Sub.fn ?_|exact SubL.nil|refine SubL.cons ?_ ?_|refine Sub.sl _ ?_|exact SubE.nil|refine SubE.cons ?_ ?_) (λv b c=>?_)
  |refine aO c (aA []) λm v c=>?_
  |refine cX (encM aI AV.bool) c rfl rfl rfl rfl rfl (λc=>?_) (λc=>?_)
  |refine cY rfl rfl rfl rfl rfl ?_
  |refine OpX.ixc c rfl rfl rfl rfl rfl rfl rfl rfl (λc=>?_)
  |refine OpX.ast aI AV.bool c rfl rfl rfl rfl rfl rfl rfl rfl rfl rfl rfl (λm c=>?_)
  |refine OpX.aob c rfl rfl rfl rfl rfl rfl rfl (λj c=>?_)
  |refine OpX.aup AV.bool c (bL rfl) rfl rfl rfl rfl rfl rfl rfl rfl rfl (by first|rfl|kernel_rfl) rfl rfl (λl c=>?_)
  |refine AndA ?_
  |refine aL ?_
  |exact aB c⟩
def z6b (r:(List AV)):AV:=.sl 8 (r.map idA)
theorem ze4 {n:Nat}{b:B4->Option (B4)}{d:(List AV)}{r:(List AV)}(e:∀{d:B4} {r:B4},b d=some r->Con E0 false 186 [Aw d] ((Aw r)))(c:z1y n b d=some r):Con E0 false 187 [.sl 8 (d.map idA)] (z6b r):=by
 unfold z1y at c;refine Con.walk _ bR rfl (Ax bR rfl rfl) rfl (bL rfl) ?_;repeat' first
  |refine aH ?_;conv=>whnf
  |refine aM c (λc=>?_) λc=>?_
  |refine aS ?_
  |refine aU ?_
  |refine aX c D2 (λx c=>?_)
  |refine cD c (λr=>.agg [aI (r.fOp),.sl 8 (r.fArgs.map idA),aI (r.fVar),aI (r.fField),aI (r.fKind),aI (r.fValue.fKind),aI (r.fValue.fNum),.str (r.fValue.fText)]) (λa h=>e h) (λa c=>?_)
  |refine aP c λl c=>?_
  |exact⟨_,c,aA [(7016,16)]⟩
  |refine aO c ?_ λm v c=>?_
  |exact aE (aK 3 7016 146 8 rfl rfl) (aA [])
  |refine AndA ?_
  |refine aL ?_
  |exact aB c
theorem zbx {n c r}(b:Gi n c=some r):Con E0 false 186 [Aw c] ((Aw r)):=by
 induction n generalizing c r
 case zero=>cases b
 case succ n d =>
 unfold Gi at b;refine cw Tryz.func186 ?_;repeat' first
  |refine aH ?_;conv=>whnf
  |refine aM b (λb=>?_) λb=>?_
  |refine aS ?_
  |refine aU ?_
  |refine cD b z6b (λa h=>ze4 d h) (λa b=>?_)
  |refine AndA ?_
  |refine aL ?_
  |exact aB b
instance zv5 {n a}:CI E0 (Gi n a) false 186 [Aw a] Aw:=⟨zbx⟩
instance zml {n c}:CI E0 (z07 n c) false 187 [.sl 8 (c.map idA)] (λr=>.sl 8 (r.map idA)):=⟨λ{r} b=>by
 unfold z07 at b;refine cw bR ?_;repeat' first
  |refine aH ?_;conv=>whnf
  |refine aM b (λb=>?_) λb=>?_
  |refine aS ?_
  |refine aU ?_
  |refine aX b D2 (λx b=>?_)
  |refine aT b λa b=>?_
  |refine aP b λl b=>?_
  |exact⟨_,b,aA [(7016,16)]⟩
  |refine aO b ?_ λm v b=>?_
  |exact aE (aK 3 7016 146 8 rfl rfl) (aA [])
  |refine AndA ?_
  |refine aL ?_
  |exact aB b⟩
set_option maxHeartbeats 400000 in
theorem zug (l:List (Cel 1))(S:Nat->Prop)(v:Value)(w:World)(h:Sl w S 1 encC v l)(d:l.length<=1000000000) :
  Calls bI 188 #[v] w (Ic 3 1 encC l w):=by
 have eok:EOk bI 43 3 1 8 (encC (n:=1)):=eokC (sz:=1) (Da 43 _ rfl) rfl (Da 3 _ rfl) Ω rfl;obtain⟨A,c,rfl,f,_⟩:=h.form;have a:=λ(W:World)=>Lib.run_eql_slice_nil W 43 3 A l.length c 0 0 Tryz.underlying43
 have H:=hide h;cases A with
 |none =>
  have g:l=[]:=h.none_nil;subst g;clear h H d f;simp only[cC,bF]at a ⊢
  go_enter bS,cH
  go_wp2
  go_ret
  exact⟨none,0,rfl,dC,by go_grown⟩
 |some ad =>
  clear h
  go_enter bS,cH
  go_wp2_with (at_builtin;refine Hv rfl _ _ rfl eok rfl bJ rfl (H.out.alloc _) Ψ Ω Δ ?_;intro A' i w1 b e _)
  go_ret
  exact⟨A',i,rfl,b,(bJ (sz:=1) (enc:=encC (n:=1))).grown ((Below.refl _ _).alloc (bD _) _) (bD _) Δ e⟩
theorem zq4 {n a r}(b:C8 n a=some r):ConT E0 188 [.sl 1 (List.map aI a)] 3 1 (List.map aI r) (.row 0):=Kb rfl (Ax bS rfl rfl) zug b
theorem zu2 {n a r}(b:C8 n a=some r):Con E0 false 188 [.sl 1 (List.map aI a)] (.sl 1 (List.map aI r)):=(zq4 b).close rfl
end
noncomputable section
abbrev ze6 {n d a b}:=li (Sk n d a b) (λc=>⟨[(2,.ptr 2 0),(7,.row 7037),(23,.sl 1 (a.map aI)),(24,aI (((a.map aI).length:Int))),(25,aI c.1)],[(2,.box 26 (B3 d)),(7037,.row 149 17 (c.2.map Aa))]⟩) λ_ _=>Sk.eq_2 ..
abbrev z5l {n b a c}:=li (Ps n b a c) (λd=>⟨[(0,.sl 2 (a.map Bw)),(1,.fn 191 [.ref [aI b]]),(7,aI (((a.map Bw).length:Int))),(8,aI d)],[]⟩) λ_ _=>Ps.eq_2 ..
abbrev zgn {n c a}:=jf (Nl n c a) (λb=>⟨[(2,.ptr 2 0),(6,aI a),(18,.bool (b))],[(2,.box 149 (Bs c))]⟩) λ_=>Nl.eq_1 ..
abbrev zjy {n a b d f e}:=li (Ns n a b d f e) (λc=>⟨[(0,.sl 17 (a.map Aa)),(6,aI b.1),(7,.bool (b.2.1)),(8,aI d.1),(9,aI c.1),(10,.bool (c.2.1)),(16,.ptr 16 0),(21,.sl 17 (a.map Aa)),(22,aI (((a.map Aa).length:Int))),(23,aI c.2.2)],[(16,.itc (encM aI AV.bool d) (List.map (encM aI AV.bool) (f)))]⟩) λ_ _=>Ns.eq_2 ..
abbrev zjz {n a c}:=li (Hw n a c) (λb=>⟨[(0,.sl 17 (a.map Aa)),(6,aI b.1),(7,.bool (b.2.1)),(16,.ptr 16 0)],[(16,.it (List.map (encM aI AV.bool) (b.2.2)))]⟩) λ_ _=>Hw.eq_2 ..
abbrev zhu {n d a e c}:=li (Nn n d a e c) (λb=>⟨[(1,.ptr 1 0),(6,.ptr 6 0),(7,.sl 1 (List.map (λq=>AV.mapv (List.map (encM aI AV.bool) q)) (e))),(8,.row 26),(9,.row 30),(33,aI (((d.fStates.map Am).length:Int))),(34,aI b.1)],[(1,.box 26 (B3 d)),(6,.box 119 [.mapv (List.map (encM aI AV.bool) (a.freachable)),.mapv (List.map (encM aI AV.bool) (a.finner))]),(26,.row 3 1 (b.2.1.map aI)),(30,.row 4 1 (b.2.2.map AV.bool))]⟩) λ_ _=>Nn.eq_2 ..
abbrev zgo {n d a b}:=li (T4 n d a b) (λc=>⟨[(1,aI d),(6,.sl 1 (a.1.map aI)),(7,.sl 1 (a.2.1.map AV.bool)),(9,aI c.1),(20,.ptr 20 0)],[(20,.it (List.map (encM aI AV.bool) (c.2)))]⟩) λ_ _=>T4.eq_2 ..
abbrev ze2 {n c a d}:=li (Sh n c a d) (λb=>⟨[(1,.fn 263 [.ptr 100000 0]),(16,.sl 8 (a.fArgs.map idA)),(17,aI (((a.fArgs.map idA).length:Int))),(18,aI b.1)],[(100000,.box 318 [.bool (b.2.1),.bool (b.2.2.1),.bool (b.2.2.2.1),.bool (b.2.2.2.2.1),.bool (b.2.2.2.2.2.1),.bool (b.2.2.2.2.2.2.1),.bool (b.2.2.2.2.2.2.2.1),.bool (b.2.2.2.2.2.2.2.2.1),.bool (b.2.2.2.2.2.2.2.2.2.1),.bool (b.2.2.2.2.2.2.2.2.2.2.1),.bool (b.2.2.2.2.2.2.2.2.2.2.2.1),.bool (b.2.2.2.2.2.2.2.2.2.2.2.2.1),.bool (b.2.2.2.2.2.2.2.2.2.2.2.2.2.1),.bool (b.2.2.2.2.2.2.2.2.2.2.2.2.2.2.1),.bool (b.2.2.2.2.2.2.2.2.2.2.2.2.2.2.2.1),.bool (b.2.2.2.2.2.2.2.2.2.2.2.2.2.2.2.2)])]⟩) λ_ _=>Sh.eq_2 ..
abbrev zey {n a b}:=li (Bv n a b) (λc=>⟨[(4,.row 7019),(10,.agg [.bool (a.2.1),.bool (a.2.2.1),.bool (a.2.2.2.1),.bool (a.2.2.2.2.1),.bool (a.2.2.2.2.2.1),.bool (a.2.2.2.2.2.2.1),.bool (a.2.2.2.2.2.2.2.1),.bool (a.2.2.2.2.2.2.2.2.1),.bool (a.2.2.2.2.2.2.2.2.2.1),.bool (a.2.2.2.2.2.2.2.2.2.2.1),.bool (a.2.2.2.2.2.2.2.2.2.2.2.1),.bool (a.2.2.2.2.2.2.2.2.2.2.2.2.1),.bool (a.2.2.2.2.2.2.2.2.2.2.2.2.2.1),.bool (a.2.2.2.2.2.2.2.2.2.2.2.2.2.2.1),.bool (a.2.2.2.2.2.2.2.2.2.2.2.2.2.2.2.1),.bool (a.2.2.2.2.2.2.2.2.2.2.2.2.2.2.2.2)]),(11,aI c.1)],[(7019,.row 3 1 (c.2.map aI))]⟩) λ_ _=>Bv.eq_2 ..
attribute [instance] ze6 z5l zgn zjy zjz zhu zgo ze2 zey
set_option maxHeartbeats 400000 in
theorem zuf (l:List (Cel 2))(S:Nat->Prop)(v:Value)(w:World)(h:Sl w S 2 encC v l)(d:l.length<=1000000000) :
  Calls bI 189 #[v] w (Ic 230 2 encC l w):=by
 have eok:EOk bI 147 230 2 16 (encC (n:=2)):=eokC (sz:=2) (Da 147 _ rfl) rfl (Da 230 _ rfl) Ω rfl;obtain⟨A,c,rfl,f,_⟩:=h.form;have a:=λ(W:World)=>Lib.run_eql_slice_nil W 147 230 A l.length c 0 0 Tryz.underlying147
 have H:=hide h;cases A with
 |none =>
  have g:l=[]:=h.none_nil;subst g;clear h H d f;simp only[cC,bF]at a ⊢
  go_enter bT,cI
  go_wp2
  go_ret
  exact⟨none,0,rfl,dC,by go_grown⟩
 |some ad =>
  clear h
  go_enter bT,cI
  go_wp2_with (at_builtin;refine Hv rfl _ _ rfl eok rfl bJ rfl (H.out.alloc _) Ψ Ω Δ ?_;intro A' i w1 b e _)
  go_ret
  exact⟨A',i,rfl,b,(bJ (sz:=2) (enc:=encC (n:=2))).grown ((Below.refl _ _).alloc (bD _) _) (bD _) Δ e⟩
theorem zq3 {n a r}(b:C8 n a=some r):ConT E0 189 [.sl 2 (List.map Bw a)] 230 2 (List.map Bw r) (.row 0):=Kb rfl (Ax bT rfl rfl) zuf b
theorem zu1 {n a r}(b:C8 n a=some r):Con E0 false 189 [.sl 2 (List.map Bw a)] (.sl 2 (List.map Bw r)):=(zq3 b).close rfl
instance y0v {n c}:CI E0 (Xn n c) false 119 [Aa c] Aa:=⟨λ{r} b=>by
 unfold Xn at b;refine cw Tryz.func119 ?_;repeat' first
  |refine aH ?_;conv=>whnf
  |refine aM b (λb=>?_) λb=>?_
  |refine aS ?_
  |refine aU ?_
  |refine aT b λa b=>?_
  |refine cD b (λq=>AV.sl 1 (List.map aI q)) (λa h=>zu2 h) (λa b=>?_)
  |refine cD b (λq=>AV.sl 2 (List.map Bw q)) (λa h=>zu1 h) (λa b=>?_)
  |refine AndA ?_
  |refine aL ?_
  |exact aB b⟩
instance zx2 {n d c}:CI E0 (Xe n d c) false 56 [Bi d,aI c] (λr=>.tup [.sl 17 (r.1.map Aa),aI r.2]):=⟨λ{r} b=>by
 unfold Xe at b;refine cw Tryz.func56 ?_;repeat' first
  |refine aH ?_;conv=>whnf
  |refine aM b (λb=>?_) λb=>?_
  |refine aS ?_
  |refine aU ?_
  |refine aT b λa b=>?_
  |refine aN b λx b=>?_
  |refine aP b λl b=>?_
  |exact⟨_,b,aA [(7037,37)]⟩
  |refine aO b ?_ λm v b=>?_
  |exact aE (aK 7 7037 149 17 rfl rfl) (aA [])
  |refine AndA ?_
  |refine aL ?_
  |exact aB b⟩
instance zze {n b a}:CI E0 (z2p n b a) true 191 [Bw b,.ref [aI a]] (λr=>.bool (r)):=by unfold z2p;exact aD [] Tryz.func191
instance zma {n a b}:CI E0 (z02 n a b) true 190 [.sl 2 (a.map Bw),.fn 191 [.ref [aI b]]] aI:=by unfold z02;exact aD [] cJ
instance y19 {n d c}:CI E0 (Nz n d c) true 120 [Aa d,aI c] (λr=>.tup [aI r.1,.bool (r.2)]):=⟨λ{r} b=>by
 unfold Nz at b;refine cw Tryz.func120 ?_;repeat' first
  |refine bG b (λv b=>?_) λb=>?_
  |refine aG b λb=>?_
  |refine aC [2] ?_;conv=>whnf
  |refine aM b (λb=>?_) λb=>?_
  |refine aS ?_
  |refine aU ?_
  |refine cE b (λa b=>?_) rfl rfl λ_=>aW rfl
  |refine aN b λx b=>?_
  |exact⟨_,b,aA []⟩
  |refine aT b λa b=>?_
  |refine AndA ?_
  |refine aL ?_
  |exact aB b⟩
instance y4p {n d c}:CI E0 (z6d n d c) true 57 [.sl 17 (d.map Aa),.mapv (List.map (encM aI AV.bool) (c))] (λr=>.tup [aI r.1,.bool (r.2)]):=⟨λ{r} b=>by
 unfold z6d at b;refine cw Tryz.func57 ?_;repeat' first
  |refine cV (encM aI AV.bool) b 16 rfl (λx s b=>?_)
  |refine aG b λb=>?_
  |refine aC [10,12,4] ?_;conv=>whnf
  |refine aM b (λb=>?_) λb=>?_
  |refine aS ?_
  |refine aU ?_
  |refine cW rfl rfl rfl rfl rfl rfl rfl rfl ?_
  |refine cX (encM aI AV.bool) b rfl rfl rfl rfl rfl (λb=>?_) (λb=>?_)
  |refine cY rfl rfl rfl rfl rfl ?_
  |exact⟨_,b,aE (cZ 16 rfl) (aA [])⟩
  |exact⟨_,b,aA []⟩
  |refine aN b λx b=>?_
  |refine aT b λa b=>?_
  |refine aO b (aA []) λm v b=>?_
  |refine AndA ?_
  |refine aL ?_
  |exact aB b⟩
instance y3y {n d}:CI E0 (Hy n d) false 15 [Bi d] (λr=>.tup [.sl 1 (r.1.map aI),.sl 1 (r.2.1.map AV.bool),aI r.2.2]):=⟨λ{r} c=>by
 unfold Hy at c;refine cw Tryz.func15 ?_;repeat' first
  |refine aG c λc=>?_
  |refine aC [11] ?_;conv=>whnf
  |refine aM c (λc=>?_) λc=>?_
  |refine aS ?_
  |refine aU ?_
  |refine aT c λa c=>?_
  |refine MakX.o aI c (by first|exact aV _|(repeat' first|exact SubL.nil|refine SubL.cons ?_ ?_|exact Sub.refl _|exact Sub.nil _|refine Sub.agg ?_)) (λl c=>?_)
  |refine MakX.o AV.bool c (by first|exact aV _|(repeat' first|exact SubL.nil|refine SubL.cons ?_ ?_|exact Sub.refl _|exact Sub.nil _|refine Sub.agg ?_)) (λl c=>?_)
  |refine bZ c (λm c=>?_)
  |refine SetX.o AV.bool c (λx=>rfl) (λx=>(by first|exact aV _|(repeat' first|exact SubL.nil|refine SubL.cons ?_ ?_|exact Sub.refl _|exact Sub.nil _|refine Sub.agg ?_))) (λl c=>?_)
  |refine bQ aI AV.bool c D1 rfl rfl rfl rfl rfl rfl rfl rfl rfl rfl (by first|rfl|kernel_rfl) (by repeat' first|exact Sub.nil _|exact Sub.refl _|refine Sub.agg ?_|refine Sub.tup ?_|refine Sub.fn ?_|exact SubL.nil|refine SubL.cons ?_ ?_|refine Sub.sl _ ?_|exact SubE.nil|refine SubE.cons ?_ ?_) (λv b c=>?_)
  |refine bY (λq=>AV.mapv (List.map (encM aI AV.bool) q)) c λx c=>?_
  |refine SetX.o aI c (λx=>rfl) (λx=>(by first|exact aV _|(repeat' first|exact SubL.nil|refine SubL.cons ?_ ?_|exact Sub.refl _|exact Sub.nil _|refine Sub.agg ?_))) (λl c=>?_)
  |exact⟨_,c,aA []⟩
  |refine aO c (aA []) λm v c=>?_
  |refine AndA ?_
  |refine aL ?_
  |exact aB c⟩
instance y1a {n d c}:CI E0 (K7 n d c) true 49 [Bi d,aI c] (λr=>.tup [aI r.1,.bool (r.2)]):=⟨λ{r} b=>by
 unfold K7 at b;refine cw Tryz.func49 ?_;repeat' first
  |refine cV (encM aI AV.bool) b 20 rfl (λx s b=>?_)
  |refine aG b λb=>?_
  |refine aC [5] ?_;conv=>whnf
  |refine aM b (λb=>?_) λb=>?_
  |refine aS ?_
  |refine aU ?_
  |refine aT b λa b=>?_
  |refine cW rfl rfl rfl rfl rfl rfl rfl rfl ?_
  |refine cX (encM aI AV.bool) b rfl rfl rfl rfl rfl (λb=>?_) (λb=>?_)
  |refine cY rfl rfl rfl rfl rfl ?_
  |refine aN b λx b=>?_
  |exact⟨_,b,aE (cZ 20 rfl) (aA [])⟩
  |refine aO b (aA []) λm v b=>?_
  |refine AndA ?_
  |refine aL ?_
  |exact aB b⟩
def zgb (b:B4)(a:B16):List (Nat×Ent):=[(100000,.box 318 [.bool (a.1),.bool (a.2.1),.bool (a.2.2.1),.bool (a.2.2.2.1),.bool (a.2.2.2.2.1),.bool (a.2.2.2.2.2.1),.bool (a.2.2.2.2.2.2.1),.bool (a.2.2.2.2.2.2.2.1),.bool (a.2.2.2.2.2.2.2.2.1),.bool (a.2.2.2.2.2.2.2.2.2.1),.bool (a.2.2.2.2.2.2.2.2.2.2.1),.bool (a.2.2.2.2.2.2.2.2.2.2.2.1),.bool (a.2.2.2.2.2.2.2.2.2.2.2.2.1),.bool (a.2.2.2.2.2.2.2.2.2.2.2.2.2.1),.bool (a.2.2.2.2.2.2.2.2.2.2.2.2.2.2.1),.bool (a.2.2.2.2.2.2.2.2.2.2.2.2.2.2.2)])]
def X0 (r:Int×B16):List (Nat×Ent):=[(100000,.box 318 [.bool (r.2.1),.bool (r.2.2.1),.bool (r.2.2.2.1),.bool (r.2.2.2.2.1),.bool (r.2.2.2.2.2.1),.bool (r.2.2.2.2.2.2.1),.bool (r.2.2.2.2.2.2.2.1),.bool (r.2.2.2.2.2.2.2.2.1),.bool (r.2.2.2.2.2.2.2.2.2.1),.bool (r.2.2.2.2.2.2.2.2.2.2.1),.bool (r.2.2.2.2.2.2.2.2.2.2.2.1),.bool (r.2.2.2.2.2.2.2.2.2.2.2.2.1),.bool (r.2.2.2.2.2.2.2.2.2.2.2.2.2.1),.bool (r.2.2.2.2.2.2.2.2.2.2.2.2.2.2.1),.bool (r.2.2.2.2.2.2.2.2.2.2.2.2.2.2.2.1),.bool (r.2.2.2.2.2.2.2.2.2.2.2.2.2.2.2.2)])]
def z1v (r:Int×(Bool×Bool×Bool×Bool×Bool×Bool×Bool×Bool×Bool×Bool×Bool×Bool×Bool×Bool×Bool×Bool)):AV:=aI (r.1)
def zg9 (r:Int×B16):AS:=⟨[(3,aI r.1),(1,.ptr 100000 0)],X0 r⟩
theorem z3s {n c d r}(b:X2 n c d=some r):ConG E0.P none (CalF E0.P 263 0) [Aw c,.ptr 100000 0] [] (zgb c d) (z1v r) (X0 r):=by
 unfold X2 at b;refine aR (E:=(E0p 2)) (caps:=[]) _ bU rfl rfl rfl rfl rfl ?_;repeat' first
  |refine aH ?_;conv=>whnf
  |refine aM b (λb=>?_) λb=>?_
  |refine aS ?_
  |refine aU ?_
  |refine aT b λa b=>?_
  |refine dE b rfl (λb=>?_) (λb=>?_)
  |(cases b;done)
  |exact GX.A (res:=z1v) (meF:=X0) b zg9
  |refine AndA ?_
  |refine aL ?_
def zh2 (b:B4)(a:B16):List (Nat×Ent):=[(100000,.box 318 [.bool (a.1),.bool (a.2.1),.bool (a.2.2.1),.bool (a.2.2.2.1),.bool (a.2.2.2.2.1),.bool (a.2.2.2.2.2.1),.bool (a.2.2.2.2.2.2.1),.bool (a.2.2.2.2.2.2.2.1),.bool (a.2.2.2.2.2.2.2.2.1),.bool (a.2.2.2.2.2.2.2.2.2.1),.bool (a.2.2.2.2.2.2.2.2.2.2.1),.bool (a.2.2.2.2.2.2.2.2.2.2.2.1),.bool (a.2.2.2.2.2.2.2.2.2.2.2.2.1),.bool (a.2.2.2.2.2.2.2.2.2.2.2.2.2.1),.bool (a.2.2.2.2.2.2.2.2.2.2.2.2.2.2.1),.bool (a.2.2.2.2.2.2.2.2.2.2.2.2.2.2.2)])]
def Nh (r:Int×B16):List (Nat×Ent):=[(100000,.box 318 [.bool (r.2.1),.bool (r.2.2.1),.bool (r.2.2.2.1),.bool (r.2.2.2.2.1),.bool (r.2.2.2.2.2.1),.bool (r.2.2.2.2.2.2.1),.bool (r.2.2.2.2.2.2.2.1),.bool (r.2.2.2.2.2.2.2.2.1),.bool (r.2.2.2.2.2.2.2.2.2.1),.bool (r.2.2.2.2.2.2.2.2.2.2.1),.bool (r.2.2.2.2.2.2.2.2.2.2.2.1),.bool (r.2.2.2.2.2.2.2.2.2.2.2.2.1),.bool (r.2.2.2.2.2.2.2.2.2.2.2.2.2.1),.bool (r.2.2.2.2.2.2.2.2.2.2.2.2.2.2.1),.bool (r.2.2.2.2.2.2.2.2.2.2.2.2.2.2.2.1),.bool (r.2.2.2.2.2.2.2.2.2.2.2.2.2.2.2.2)])]
def T0 (r:Int×(Bool×Bool×Bool×Bool×Bool×Bool×Bool×Bool×Bool×Bool×Bool×Bool×Bool×Bool×Bool×Bool)):AV:=aI (r.1)
def zh0 (r:Int×B16):AS:=⟨[(4,aI r.1),(1,.fn 263 [.ptr 100000 0])],Nh r⟩
theorem z4p {n c d r}(b:K1 n c d=some r):ConG E0.P none (CalF E0.P 237 0) [Aw c,.fn 263 [.ptr 100000 0]] [] (zh2 c d) (T0 r) (Nh r):=by
 induction n generalizing c d r
 case zero=>cases b
 case succ n e =>
 unfold K1 at b;refine aR (E:=(E0p 2)) (caps:=[]) _ aY rfl rfl rfl rfl rfl ?_;repeat' first
  |refine aH ?_;conv=>whnf
  |refine aM b (λb=>?_) λb=>?_
  |refine aS ?_
  |refine aU ?_
  |refine bC (Be 11 b) [(100000,100000)] [(100000,100000)] _ _ X0 z1v [] (λa h=>aJ (z3s h)) (Ax bU rfl rfl) rfl rfl rfl ⟨⟨rfl,rfl⟩,trivial⟩ (λa=>⟨rfl,rfl,rfl,rfl,rfl,rfl,rfl,rfl⟩) (λa b=>?_)
  |refine bM (Be 11 b) [(100000,100000)] [(100000,100000)] _ _ X0 z1v [] (λa h=>aJ (z3s h)) (Ax bU rfl rfl) rfl rfl rfl ⟨⟨rfl,rfl⟩,trivial⟩ (λa=>⟨rfl,rfl,rfl,rfl,rfl,rfl,rfl,rfl⟩) (λa b=>?_)
  |refine GX.o (res:=T0) (meF:=Nh) b ?_;exact GX.mk (zh0 _) (aA []) rfl _ rfl (by repeat' first|exact Sub.nil _|exact Sub.refl _|refine Sub.agg ?_|refine Sub.tup ?_|refine Sub.fn ?_|exact SubL.nil|refine SubL.cons ?_ ?_|refine Sub.sl _ ?_|exact SubE.nil|refine SubE.cons ?_ ?_) [100000] ⟨aW ⟨1,0,_,_,_,_,_,bA rfl,rfl,rfl,rfl,rfl,rfl⟩,trivial⟩ rfl
  |refine aX b D2 (λx b=>?_)
  |refine bC (Be 24 b) [(100000,100000)] [(100000,100000)] _ _ Nh T0 [] (λa h=>aJ (e h)) (Ax aY rfl rfl) rfl rfl rfl ⟨⟨rfl,rfl⟩,trivial⟩ (λa=>⟨rfl,rfl,rfl,rfl,rfl,rfl,rfl,rfl⟩) (λa b=>?_)
  |refine bM (Be 24 b) [(100000,100000)] [(100000,100000)] _ _ Nh T0 [] (λa h=>aJ (e h)) (Ax aY rfl rfl) rfl rfl rfl ⟨⟨rfl,rfl⟩,trivial⟩ (λa=>⟨rfl,rfl,rfl,rfl,rfl,rfl,rfl,rfl⟩) (λa b=>?_)
  |exact⟨_,b,aA []⟩
  |refine aO b (aA []) λm v b=>?_
  |refine AndA ?_
  |refine aL ?_
end
noncomputable section
abbrev z4k {n a a0f2 a0f1 a0f0}:=jf (Kt n a a0f2 a0f1 a0f0) (λb=>⟨[(1,aI a),(2,.ptr 2 0),(14,.bool (b))],[(2,.box 359 [.sl 1 (List.map (λq=>AV.sl 5 (List.map A5 q)) (a0f0.fVars)),aI a0f1,aI a0f2.fSource,aI a0f2.fSeq,aI a0f2.fType,aI a0f2.fTime,.sl 3 (a0f2.fValues.map Ag),.mapv [(aI 5,.fn 325 [.ref [.fn 324 []]]),(aI 6,.fn 326 [.ref [.fn 324 []]]),(aI 7,.fn 327 []),(aI 8,.fn 328 []),(aI 10,.fn 329 []),(aI 11,.fn 330 []),(aI 12,.fn 331 [])]])]⟩) λ_=>Kt.eq_1 ..
abbrev z5x {n d a b}:=li (Pw n d a b) (λc=>⟨[(3,.ptr 3 0),(4,.ptr 4 0),(6,.row 7034),(14,.sl 5 (a.map A5)),(15,aI (((a.map A5).length:Int))),(16,aI c.1)],[(3,.box 146 (D4 d)),(4,.box 144 [aI 0,aI 0,.str (ByteArray.empty)]),(7034,.row 144 3 (c.2.map Ag))]⟩) λ_ _=>Pw.eq_2 ..
abbrev z7g {n a}:=jt (Lb n a) (λb=>⟨[(4,.ptr 4 0),(8,.ptr 8 0),(9,aI b)],[(4,.box 144 [aI 0,aI 0,.str (ByteArray.empty)]),(8,.box 144 (Ci a.1))]⟩) λ_=>Lb.eq_1 ..
abbrev z7h {n a}:=jt (Lc n a) (λb=>⟨[(3,.ptr 3 0),(4,.ptr 4 0),(7,.ptr 7 0)],[(3,.box 146 (D4 a)),(4,.box 144 [aI 0,aI 0,.str (ByteArray.empty)]),(7,.box 37 [aI b.1,aI b.2.1,aI b.2.2.1,aI b.2.2.2.1,.sl 3 (b.2.2.2.2.map Ag)])]⟩) λ_=>Lc.eq_1 ..
abbrev zfy {n a f b c d}:=jt (Jv n a f b c d) (λe=>⟨[(0,aI f),(1,.sl 1 (a.map aI)),(6,aI d),(7,.bool (true)),(8,.sl 1 (a.map aI)),(9,aI (((a.map aI).length:Int))),(10,aI b),(14,aI f),(22,.bool (e))],[]⟩) λ_=>Jv.eq_1 ..
abbrev zfz {n a f b c d}:=jt (Hr n a f b c d) (λe=>⟨[(0,aI f),(1,.sl 1 (a.map aI)),(6,aI d),(7,.bool (true)),(8,.sl 1 (a.map aI)),(9,aI (((a.map aI).length:Int))),(10,aI b),(14,aI f),(15,.bool (e))],[]⟩) λ_=>Hr.eq_1 ..
abbrev zfx {n a d b}:=li (Gh n a d b) (λc=>⟨[(0,aI d),(1,.sl 1 (a.map aI)),(8,.sl 1 (a.map aI)),(9,aI (((a.map aI).length:Int))),(10,aI c)],[]⟩) λ_ _=>Gh.eq_2 ..
abbrev zbv {n}:=jf (Mr n) (λb=>⟨[(4,.ptr 4 0)],[(4,.box 144 [aI b.1,aI b.2.1,.str (b.2.2)])]⟩) λ_=>Mr.eq_1 ..
abbrev zbu {n}:=jf (Mq n) (λb=>⟨[(4,.ptr 4 0)],[(4,.box 144 [aI b.1,aI b.2.1,.str (b.2.2)])]⟩) λ_=>Mq.eq_1 ..
abbrev z7i {n b a a0f2 a0f1 a0f0 d}:=li (Q8 n b a a0f2 a0f1 a0f0 d) (λc=>⟨[(2,.ptr 2 0),(3,.ptr 3 0),(4,.ptr 4 0),(6,.row 7042),(7,.row 7047),(23,.sl 8 (a.fArgs.map idA)),(24,aI (((a.fArgs.map idA).length:Int))),(25,aI c.1)],[(2,.box 359 [.sl 1 (List.map (λq=>AV.sl 5 (List.map A5 q)) (a0f0.fVars)),aI a0f1,aI a0f2.fSource,aI a0f2.fSeq,aI a0f2.fType,aI a0f2.fTime,.sl 3 (a0f2.fValues.map Ag),.mapv [(aI 5,.fn 325 [.ref [.fn 324 []]]),(aI 6,.fn 326 [.ref [.fn 324 []]]),(aI 7,.fn 327 []),(aI 8,.fn 328 []),(aI 10,.fn 329 []),(aI 11,.fn 330 []),(aI 12,.fn 331 [])]]),(3,.box 146 (D4 a)),(4,.box 144 [aI 0,aI 0,.str (ByteArray.empty)]),(7042,.row 144 3 (c.2.1.map Ag)),(7047,.row 3 1 (c.2.2.map aI))]⟩) λ_ _=>Q8.eq_2 ..
attribute [instance] z4k z5x z7g z7h zfy zfz zfx zbv zbu z7i
instance zzg {n c}:CI E0 (Np n c) false 211 [Aw c] (λr=>.sl 1 (r.map aI)):=⟨λ{r} b=>by
 unfold Np at b;refine cw Tryz.func211 ?_;repeat' first
  |refine aG b λb=>?_
  |refine aC [7] ?_;conv=>whnf
  |refine aM b (λb=>?_) λb=>?_
  |refine aS ?_
  |refine aU ?_
  |refine bC (Be 9 b) [(100000,3)] [(100000,3)] _ _ Nh T0 [] (λa h=>aJ (z4p h)) (Ax aY rfl rfl) rfl rfl rfl ⟨⟨rfl,rfl⟩,trivial⟩ (λa=>⟨rfl,rfl,rfl,rfl,rfl,rfl,rfl,rfl⟩) (λa b=>?_)
  |refine bM (Be 9 b) [(100000,3)] [(100000,3)] _ _ Nh T0 [] (λa h=>aJ (z4p h)) (Ax aY rfl rfl) rfl rfl rfl ⟨⟨rfl,rfl⟩,trivial⟩ (λa=>⟨rfl,rfl,rfl,rfl,rfl,rfl,rfl,rfl⟩) (λa b=>?_)
  |refine dE b rfl (λb=>?_) (λb=>?_)
  |(cases b;done)
  |refine aP b λl b=>?_
  |exact⟨_,b,aA [(7019,19)]⟩
  |exact⟨_,b,aA []⟩
  |refine aO b ?_ λm v b=>?_
  |exact aE (aK 4 7019 3 1 rfl rfl) (aA [])
  |refine AndA ?_
  |refine aL ?_
  |exact aB b⟩
theorem zf1:Con E0 false 313 [] (.mapv [(aI 5,.fn 325 [.ref [.fn 324 []]]),(aI 6,.fn 326 [.ref [.fn 324 []]]),(aI 7,.fn 327 []),(aI 8,.fn 328 []),(aI 10,.fn 329 []),(aI 11,.fn 330 []),(aI 12,.fn 331 [])]):=by
 refine Con.walk _ dA rfl (Ax dA rfl rfl) rfl (bL rfl) ?_;repeat' first
  |refine AW.frb0 1 rfl rfl ?_
  |refine AW.into ?_
  |refine aC [2] ?_;conv=>whnf
  |refine UpX.mk _ _ (by first|rfl|kernel_rfl) (by first|rfl|kernel_rfl) (SubM.refl _) ?_
  |exact RetX.mk rfl
instance zl8 {n a0f0 a0f1 a0f2 b}:CI E0 (Qq n a0f0 a0f1 a0f2 b) false 339 [.agg [.sl 1 (List.map (λq=>AV.sl 5 (List.map A5 q)) (a0f0.fVars)),aI a0f1,aI a0f2.fSource,aI a0f2.fSeq,aI a0f2.fType,aI a0f2.fTime,.sl 3 (a0f2.fValues.map Ag),.mapv [(aI 5,.fn 325 [.ref [.fn 324 []]]),(aI 6,.fn 326 [.ref [.fn 324 []]]),(aI 7,.fn 327 []),(aI 8,.fn 328 []),(aI 10,.fn 329 []),(aI 11,.fn 330 []),(aI 12,.fn 331 [])]],aI b] (λr=>.sl 5 (r.map A5)):=⟨λ{r} a=>by
 unfold Qq at a;refine cw Tryz.func339 ?_;repeat' first
  |refine bG a (λv a=>?_) λa=>?_
  |refine aG a λa=>?_
  |refine aC [1] ?_;conv=>whnf
  |refine aM a (λa=>?_) λa=>?_
  |refine bY (λq=>AV.sl 5 (List.map A5 q)) a λx a=>?_
  |exact⟨_,a,aA []⟩
  |exact aB a⟩
instance y4t {n b a}:CI E0 (O5 n b a) true 341 [A5 b,aI a] (λr=>.tup [Ag r.1,aI r.2]):=by unfold O5;exact aD [] Tryz.func341
instance zmi {n a0f0 a0f1 a0f2 c}:CI E0 (z06 n a0f0 a0f1 a0f2 c) true 340 [.agg [.sl 1 (List.map (λq=>AV.sl 5 (List.map A5 q)) (a0f0.fVars)),aI a0f1,aI a0f2.fSource,aI a0f2.fSeq,aI a0f2.fType,aI a0f2.fTime,.sl 3 (a0f2.fValues.map Ag),.mapv [(aI 5,.fn 325 [.ref [.fn 324 []]]),(aI 6,.fn 326 [.ref [.fn 324 []]]),(aI 7,.fn 327 []),(aI 8,.fn 328 []),(aI 10,.fn 329 []),(aI 11,.fn 330 []),(aI 12,.fn 331 [])]],Aw c] (λr=>.tup [Ag r.1,aI r.2]):=⟨λ{r} b=>by
 unfold z06 at b;refine cw Tryz.func340 ?_;repeat' first
  |refine aH ?_;conv=>whnf
  |refine aM b (λb=>?_) λb=>?_
  |refine aT b λa b=>?_
  |refine cE b (λa b=>?_) rfl rfl λ_=>aW rfl
  |refine aN b λx b=>?_
  |refine aP b λl b=>?_
  |exact⟨_,b,aA [(7034,34)]⟩
  |refine aO b ?_ λm v b=>?_
  |exact aE (aK 6 7034 144 3 rfl rfl) (aA [])
  |exact aB b⟩
instance znw {n a0f0 a0f1 a0f2 a}:CI E0 (Rq n a0f0 a0f1 a0f2 a) true 332 [.agg [.sl 1 (List.map (λq=>AV.sl 5 (List.map A5 q)) (a0f0.fVars)),aI a0f1,aI a0f2.fSource,aI a0f2.fSeq,aI a0f2.fType,aI a0f2.fTime,.sl 3 (a0f2.fValues.map Ag),.mapv [(aI 5,.fn 325 [.ref [.fn 324 []]]),(aI 6,.fn 326 [.ref [.fn 324 []]]),(aI 7,.fn 327 []),(aI 8,.fn 328 []),(aI 10,.fn 329 []),(aI 11,.fn 330 []),(aI 12,.fn 331 [])]],Aw a] (λr=>.tup [Ag r.1,aI r.2]):=by unfold Rq;exact aD [10,17] Tryz.func332
instance y0s {n b a}:CI E0 (z30 n b a) true 333 [aI b,.sl 1 (a.map aI)] aI:=by unfold z30;exact aD [6,7,8,11,12,15] Tryz.func333
instance y4k {n a}:CI E0 (z6c n a) true 315 [.bool (a)] Ag:=by unfold z6c;exact aD [] Tryz.func315
instance y6y {n a}:CI E0 (E6 n a) true 286 [.bool (a)] Ag:=by unfold E6;exact aD [] Tryz.func286
instance zu0 {n a}:CI E0 (Ww n a) true 324 [aI a] Ag:=by unfold Ww;exact aD [] Tryz.func324
instance ztz {n b a}:CI E0 (Wv n b a) true 325 [aI b,aI a,.ref [.fn 324 []]] Ag:=by unfold Wv;exact aD [] Tryz.func325
instance zty {n b a}:CI E0 (Wu n b a) true 326 [aI b,aI a,.ref [.fn 324 []]] Ag:=by unfold Wu;exact aD [] Tryz.func326
instance ztx {n b a}:CI E0 (Wt n b a) true 327 [aI b,aI a] Ag:=by unfold Wt;exact aD [] Tryz.func327
instance ztw {n b a}:CI E0 (Ws n b a) true 328 [aI b,aI a] Ag:=by unfold Ws;exact aD [] Tryz.func328
instance ztv {n b a}:CI E0 (Wr n b a) true 329 [aI b,aI a] Ag:=by unfold Wr;exact aD [1] Tryz.func329
instance ztu {n b a}:CI E0 (Wq n b a) true 330 [aI b,aI a] Ag:=by unfold Wq;exact aD [1] Tryz.func330
instance ztt {n b a}:CI E0 (Nc n b a) true 331 [aI b,aI a] Ag:=by unfold Nc;exact aD [] Tryz.func331
def zc3 (r:A9×Int):AV:=.tup [.agg [aI (r.1.fKind),aI (r.1.fNum),.str (r.1.fText)],aI (r.2)]
end
noncomputable section
abbrev zkc {n}:=jf (Nu n) (λb=>⟨[(8,.bool (b))],[]⟩) λ_=>Nu.eq_1 ..
abbrev ze1 {n}:=jf (N4 n) (λb=>⟨[(2,.bool (b))],[]⟩) λ_=>N4.eq_1 ..
abbrev z7c {n}:=jf (La n) (λb=>⟨[(3,.bool (b))],[]⟩) λ_=>La.eq_1 ..
abbrev z5h {n b a c}:=li (Po n b a c) (λd=>⟨[(0,.sl 11 (a.map B9)),(1,.fn 234 [.ref (Bs b)]),(7,aI (((a.map B9).length:Int))),(8,aI d)],[]⟩) λ_ _=>Po.eq_2 ..
abbrev za5 {n d a b}:=li (R6 n d a b) (λc=>⟨[(2,.ptr 2 0),(3,.ptr 3 0),(33,.sl 2 (d.fLimits.map Bw)),(34,aI (((d.fLimits.map Bw).length:Int))),(35,aI c)],[(2,.box 111 [.sl 2 (a.ftypes.map B2),aI a.fa.fVars,aI a.fa.fScopes,.sl 1 (a.fa.fStates.map Am),.sl 17 (a.fa.fEdges.map Aa)]),(3,.box 149 (Bs d))]⟩) λ_ _=>R6.eq_2 ..
abbrev za6 {n d a b}:=li (R7 n d a b) (λc=>⟨[(2,.ptr 2 0),(3,.ptr 3 0),(22,.sl 8 (d.fChecks.map idA)),(23,aI (((d.fChecks.map idA).length:Int))),(24,aI c)],[(2,.box 111 [.sl 2 (a.ftypes.map B2),aI a.fa.fVars,aI a.fa.fScopes,.sl 1 (a.fa.fStates.map Am),.sl 17 (a.fa.fEdges.map Aa)]),(3,.box 149 (Bs d))]⟩) λ_ _=>R7.eq_2 ..
abbrev za7 {n c a}:=jf (Jd n c a) (λb=>⟨[(2,.ptr 2 0),(3,.ptr 3 0),(20,.bool (b))],[(2,.box 111 [.sl 2 (a.ftypes.map B2),aI a.fa.fVars,aI a.fa.fScopes,.sl 1 (a.fa.fStates.map Am),.sl 17 (a.fa.fEdges.map Aa)]),(3,.box 149 (Bs c))]⟩) λ_=>Jd.eq_1 ..
abbrev z91 {n a b}:=li (J5 n a b) (λc=>⟨[(1,.fn 106 []),(2,.ptr 2 0),(5,.row 7027),(10,.sl 17 (a.fa.fEdges.map Aa)),(11,aI (((a.fa.fEdges.map Aa).length:Int))),(12,aI c.1)],[(2,.box 111 [.sl 2 (a.ftypes.map B2),aI a.fa.fVars,aI a.fa.fScopes,.sl 1 (a.fa.fStates.map Am),.sl 17 (a.fa.fEdges.map Aa)]),(7027,.row 149 17 (c.2.map Aa))]⟩) λ_ _=>J5.eq_2 ..
abbrev za3 {n b d}:=li (Jc n b d) (λc=>⟨[(3,.sl 17 (b.1.map Aa)),(4,.row 10),(5,.bool (c.1)),(13,.sl 17 (b.1.map Aa)),(14,aI (((b.1.map Aa).length:Int))),(15,aI c.2.1)],[(10,.mp (List.map (encM aI AV.bool) (c.2.2)))]⟩) λ_ _=>Jc.eq_2 ..
abbrev za4 {n c}:=li (M5 n c) (λb=>⟨[(3,.sl 17 (b.1.map Aa)),(4,.row 10),(5,.bool (b.2.1))],[(10,.mp (List.map (encM aI AV.bool) (b.2.2)))]⟩) λ_ _=>M5.eq_2 ..
abbrev z5g {n b a c}:=li (Pn n b a c) (λd=>⟨[(0,.sl 11 (a.map B9)),(1,.fn 176 [.ref [aI b]]),(7,aI (((a.map B9).length:Int))),(8,aI d)],[]⟩) λ_ _=>Pn.eq_2 ..
attribute [instance] zkc ze1 z7c z5h za5 za6 za7 z91 za3 za4 z5g
theorem z5y {n a0f0 a0f1 a0f2 c r}(b:Hf n a0f0 a0f1 a0f2 c=some r):Con E0 true 314 [.agg [.sl 1 (List.map (λq=>AV.sl 5 (List.map A5 q)) (a0f0.fVars)),aI a0f1,aI a0f2.fSource,aI a0f2.fSeq,aI a0f2.fType,aI a0f2.fTime,.sl 3 (a0f2.fValues.map Ag),.mapv [(aI 5,.fn 325 [.ref [.fn 324 []]]),(aI 6,.fn 326 [.ref [.fn 324 []]]),(aI 7,.fn 327 []),(aI 8,.fn 328 []),(aI 10,.fn 329 []),(aI 11,.fn 330 []),(aI 12,.fn 331 [])]],Aw c] (.tup [Ag r.1,aI r.2]):=by
 induction n generalizing a0f0 a0f1 a0f2 c r
 case zero=>cases b
 case succ n d =>
 unfold Hf at b;refine cw Tryz.func314 ?_;repeat' first
  |refine aH ?_;conv=>whnf
  |refine aM b (λb=>?_) λb=>?_
  |refine aT b λa b=>?_
  |refine cE b (λa b=>?_) rfl rfl λ_=>aW rfl
  |refine bZ b (λm b=>?_)
  |refine EltX.o Ag b (λx b=>?_)
  |refine OpX.lkc rfl rfl rfl rfl rfl rfl rfl rfl rfl rfl (by first|rfl|kernel_rfl) ?_
  |refine LkC.cons b (λb=>?_) (λb=>?_)
  |(cases b;done)
  |refine LtX.o b (λb=>?_)
  |refine aX b D2 (λx b=>?_)
  |refine cD b zc3 (λa h=>d h) (λa b=>?_)
  |refine aP b λl b=>?_
  |exact⟨_,b,aA [(7042,42),(7047,47)]⟩
  |refine aO b ?_ λm v b=>?_
  |exact aE (aK 6 7042 144 3 rfl rfl) (aE (aK 7 7047 3 1 rfl rfl) (aA []))
  |refine AndA ?_
  |refine aL ?_
  |exact aB b
instance znx {n a0f0 a0f1 a0f2 a}:CI E0 (Hf n a0f0 a0f1 a0f2 a) true 314 [.agg [.sl 1 (List.map (λq=>AV.sl 5 (List.map A5 q)) (a0f0.fVars)),aI a0f1,aI a0f2.fSource,aI a0f2.fSeq,aI a0f2.fType,aI a0f2.fTime,.sl 3 (a0f2.fValues.map Ag),.mapv [(aI 5,.fn 325 [.ref [.fn 324 []]]),(aI 6,.fn 326 [.ref [.fn 324 []]]),(aI 7,.fn 327 []),(aI 8,.fn 328 []),(aI 10,.fn 329 []),(aI 11,.fn 330 []),(aI 12,.fn 331 [])]],Aw a] (λr=>.tup [Ag r.1,aI r.2]):=⟨z5y⟩
instance y70 {n f e d c}:CI E0 (zat n f e d c) true 285 [Aw f,Ds e,aI d,A5 c] (λr=>.tup [Ag r.1,aI r.2]):=⟨λ{r} b=>by
 unfold zat at b;refine cw Tryz.func285 ?_;repeat' first
  |refine aH ?_;conv=>whnf
  |refine aM b (λb=>?_) λb=>?_
  |refine aT b λa b=>?_
  |refine Ab.mk _ _ zf1 ?_
  |refine AndA ?_
  |exact aB b⟩
def zut (r:Bool):AV:=.bool (r)
instance zmj {n d c b a}:CI E0 (I1 n d c b a) true 243 [Aw d,Ds c,aI b,A5 a] (λr=>.bool (r)):=by unfold I1;exact aD [2] Tryz.func243
instance zwx {n c}:CI E0 (T5 n c) true 233 [Aw c] (λr=>.bool (r)):=⟨λ{r} b=>by
 unfold T5 at b;refine cw Tryz.func233 ?_;repeat' first
  |refine bG b (λv b=>?_) λb=>?_
  |refine aG b λb=>?_
  |refine aC [1] ?_;conv=>whnf
  |refine aM b (λb=>?_) λb=>?_
  |refine aS ?_
  |refine aU ?_
  |refine aT b λa b=>?_
  |refine Ab.S b λa b=>?_
  |exact⟨_,b,aA []⟩
  |refine AndA ?_
  |refine aL ?_
  |exact aB b⟩
instance znv {n b a}:CI E0 (Vt n b a) true 234 [B9 b,.ref (Bs a)] (λr=>.bool (r)):=by unfold Vt;exact aD [1] Tryz.func234
instance zm6 {n a b}:CI E0 (Zz n a b) true 235 [.sl 11 (a.map B9),.fn 234 [.ref (Bs b)]] aI:=by unfold Zz;exact aD [] bN
instance zim {n a b}:CI E0 (Ux n a b) true 175 [.sl 11 (a.map B9),.fn 234 [.ref (Bs b)]] (λr=>.bool (r)):=by unfold Ux;exact aD [] bO
instance zr0 {n c d}:CI E0 (Hl n c d) true 174 [.agg [.sl 2 (c.ftypes.map B2),aI c.fa.fVars,aI c.fa.fScopes,.sl 1 (c.fa.fStates.map Am),.sl 17 (c.fa.fEdges.map Aa)],Aa d] (λr=>.bool (r)):=⟨λ{r} b=>by
 unfold Hl at b;refine cw Tryz.func174 ?_;repeat' first
  |refine bG b (λv b=>?_) λb=>?_
  |refine aG b λb=>?_
  |refine aC [1] ?_;conv=>whnf
  |refine aM b (λb=>?_) λb=>?_
  |refine aS ?_
  |refine aU ?_
  |refine aN b λx b=>?_
  |refine cE b (λa b=>?_) rfl rfl λ_=>aW rfl
  |refine aT b λa b=>?_
  |exact⟨_,b,aA []⟩
  |refine aO b (aA []) λm v b=>?_
  |refine aX b D2 (λx b=>?_)
  |refine AndA ?_
  |refine aL ?_
  |exact aB b⟩
instance znu {n a}:CI E0 (z0c n a) true 106 [Aa a] (λr=>.bool (r)):=by unfold z0c;exact aD [] Tryz.func106
instance zpw {n c}:CI E0 (W0 n c) false 105 [.agg [.sl 2 (c.ftypes.map B2),aI c.fa.fVars,aI c.fa.fScopes,.sl 1 (c.fa.fStates.map Am),.sl 17 (c.fa.fEdges.map Aa)],.fn 106 []] (λr=>.sl 17 (r.map Aa)):=⟨λ{r} b=>by
 unfold W0 at b;refine cw bK ?_;repeat' first
  |refine aG b λb=>?_
  |refine aC [5] ?_;conv=>whnf
  |refine aM b (λb=>?_) λb=>?_
  |refine aS ?_
  |refine aU ?_
  |refine aN b λx b=>?_
  |refine aT b λa b=>?_
  |refine aP b λl b=>?_
  |exact⟨_,b,aA [(7027,27)]⟩
  |exact⟨_,b,aA []⟩
  |refine aO b ?_ λm v b=>?_
  |exact aE (aK 5 7027 149 17 rfl rfl) (aA [])
  |refine AndA ?_
  |refine aL ?_
  |exact aB b⟩
instance zqz {n d}:CI E0 (N3 n d) false 50 [.agg [.sl 2 (d.ftypes.map B2),aI d.fa.fVars,aI d.fa.fScopes,.sl 1 (d.fa.fStates.map Am),.sl 17 (d.fa.fEdges.map Aa)]] (λr=>.mapv (List.map (encM aI AV.bool) (r))):=⟨λ{r} c=>by
 unfold N3 at c;refine cw Tryz.func50 ?_;repeat' first
  |refine aG c λc=>?_
  |refine aC [9] ?_;conv=>whnf
  |refine aM c (λc=>?_) λc=>?_
  |refine aS ?_
  |refine aU ?_
  |refine aT c λa c=>?_
  |refine UpX.o aI AV.bool c (by first|rfl|kernel_rfl) D1 (by repeat' first|exact Sub.nil _|exact Sub.refl _|refine Sub.agg ?_|refine Sub.tup ?_|refine Sub.fn ?_|exact SubL.nil|refine SubL.cons ?_ ?_|refine Sub.sl _ ?_|exact SubE.nil|refine SubE.cons ?_ ?_) (λl c=>?_)
  |refine OpX.mde aI AV.bool c D1 rfl rfl rfl rfl rfl rfl rfl rfl rfl (by first|rfl|kernel_rfl) rfl (λl c=>?_)
  |exact⟨_,c,aA []⟩
  |refine aN c λx c=>?_
  |refine LkX.o aI AV.bool c (by first|rfl|kernel_rfl) D1 (by repeat' first|exact Sub.nil _|exact Sub.refl _|refine Sub.agg ?_|refine Sub.tup ?_|refine Sub.fn ?_|exact SubL.nil|refine SubL.cons ?_ ?_|refine Sub.sl _ ?_|exact SubE.nil|refine SubE.cons ?_ ?_) (λv b c=>?_)
  |refine aO c (aA []) λm v c=>?_
  |refine AndA ?_
  |refine aL ?_
  |exact aB c⟩
instance zkl {n b a}:CI E0 (Zj n b a) true 176 [B9 b,.ref [aI a]] (λr=>.bool (r)):=by unfold Zj;exact aD [] Tryz.func176
instance zm5 {n a b}:CI E0 (Zy n a b) true 235 [.sl 11 (a.map B9),.fn 176 [.ref [aI b]]] aI:=by unfold Zy;exact aD [] bN
end
noncomputable section
abbrev z3p {n a c}:=li (Im n a c) (λb=>⟨[(1,.fn 107 [.ptr 100000 0,.ptr 100001 0]),(2,.ptr 2 0),(5,.row 7027),(10,.sl 17 (a.fa.fEdges.map Aa)),(11,aI (((a.fa.fEdges.map Aa).length:Int))),(12,aI b.1)],[(100000,.box 111 [.sl 2 (b.2.1.map B2),aI b.2.2.1,aI b.2.2.2.1,.sl 1 (b.2.2.2.2.1.map Am),.sl 17 (b.2.2.2.2.2.1.map Aa)]),(100001,.box 3 [aI b.2.2.2.2.2.2.1]),(2,.box 111 [.sl 2 (a.ftypes.map B2),aI a.fa.fVars,aI a.fa.fScopes,.sl 1 (a.fa.fStates.map Am),.sl 17 (a.fa.fEdges.map Aa)]),(7027,.row 149 17 (b.2.2.2.2.2.2.2.map Aa))]⟩) λ_ _=>Im.eq_2 ..
abbrev z7b {n b a e d}:=li (J2 n b a e d) (λc=>⟨[(0,aI e),(1,.ptr 100000 0),(2,.ptr 100001 0),(3,.ptr 100002 0),(4,.ptr 100003 0),(10,.sl 17 (a.map Aa)),(11,aI (((a.map Aa).length:Int))),(12,aI c.1)],[(100000,.box 24 [.sl 17 (c.2.1.map Aa)]),(100001,.box 113 [.row 200001]),(100002,.box 3 [aI c.2.2.1]),(100003,.box 115 [.fn 109 [.ptr 100000 0,.ptr 100001 0,.ptr 100002 0,.ptr 100003 0]]),(200001,.mp (List.map (encM aI AV.bool) (c.2.2.2)))]⟩) λ_ _=>J2.eq_2 ..
abbrev z79 {n g a b f c d}:=li (Q6 n g a b f c d) (λe=>⟨[(2,.ptr 2 0),(5,.row 7045),(8,.ptr 8 0),(11,.sl 1 (g.map aI)),(12,aI (((g.map aI).length:Int))),(13,aI b.1),(27,.sl 2 (c.fFields.map D0)),(28,aI (((c.fFields.map D0).length:Int))),(29,aI e.1)],[(2,.box 111 [.sl 2 (a.ftypes.map B2),aI a.fa.fVars,aI a.fa.fScopes,.sl 1 (a.fa.fStates.map Am),.sl 17 (a.fa.fEdges.map Aa)]),(8,.box 37 [aI 0,aI b.1,aI f,aI b.1,.row 7039]),(7045,.row 37 5 (b.2.map A5)),(7039,.row 144 3 (e.2.map Ag))]⟩) λ_ _=>Q6.eq_2 ..
abbrev z7a {n d a b}:=li (Q7 n d a b) (λc=>⟨[(2,.ptr 2 0),(5,.row 7045),(11,.sl 1 (d.map aI)),(12,aI (((d.map aI).length:Int))),(13,aI c.1)],[(2,.box 111 [.sl 2 (a.ftypes.map B2),aI a.fa.fVars,aI a.fa.fScopes,.sl 1 (a.fa.fStates.map Am),.sl 17 (a.fa.fEdges.map Aa)]),(7045,.row 37 5 (c.2.map A5))]⟩) λ_ _=>Q7.eq_2 ..
abbrev zfo {n a e d b}:=li (Ju n a e d b) (λc=>⟨[(6,.ptr 6 0),(11,.ptr 11 0),(12,.mapv (List.map (encM aI AV.bool) (d))),(39,aI (((a.fStates.map Am).length:Int))),(40,aI c)],[(6,.box 39 [aI 0,aI 0,.nils,aI 0]),(11,.box 111 [.sl 2 (e.map B2),aI a.fVars,aI a.fScopes,.sl 1 (a.fStates.map Am),.sl 17 (a.fEdges.map Aa)])]⟩) λ_ _=>Ju.eq_2 ..
abbrev zgc {n a b}:=li (Ni n a b) (λc=>⟨[(0,.sl 5 (a.map A5)),(3,.row 9),(10,.sl 5 (a.map A5)),(11,aI (((a.map A5).length:Int))),(12,aI c.1)],[(9,.mp (List.map (encM Ng AV.bool) (c.2)))]⟩) λ_ _=>Ni.eq_2 ..
attribute [instance] z3p z7b z79 z7a zfo zgc
instance zil {n a b}:CI E0 (Za n a b) true 175 [.sl 11 (a.map B9),.fn 176 [.ref [aI b]]] (λr=>.bool (r)):=by unfold Za;exact aD [] bO
instance zmg {n c e d}:CI E0 (M6 n c e d) true 108 [.agg [.sl 2 (c.ftypes.map B2),aI c.fa.fVars,aI c.fa.fScopes,.sl 1 (c.fa.fStates.map Am),.sl 17 (c.fa.fEdges.map Aa)],aI e,aI d] (λr=>.bool (r)):=⟨λ{r} b=>by
 unfold M6 at b;refine cw Tryz.func108 ?_;repeat' first
  |refine aH ?_;conv=>whnf
  |refine aM b (λb=>?_) λb=>?_
  |refine aS ?_
  |refine aU ?_
  |refine aN b λx b=>?_
  |refine cE b (λa b=>?_) rfl rfl λ_=>aW rfl
  |refine AndA ?_
  |refine aL ?_
  |exact aB b⟩
def zc5 (c:Ah)(a:Bf)(b:Int):List (Nat×Ent):=[(100000,.box 111 [.sl 2 (a.ftypes.map B2),aI a.fa.fVars,aI a.fa.fScopes,.sl 1 (a.fa.fStates.map Am),.sl 17 (a.fa.fEdges.map Aa)]),(100001,.box 3 [aI b])]
def Vl (r:Bool×Bf×Int):List (Nat×Ent):=[(100000,.box 111 [.sl 2 (r.2.1.ftypes.map B2),aI r.2.1.fa.fVars,aI r.2.1.fa.fScopes,.sl 1 (r.2.1.fa.fStates.map Am),.sl 17 (r.2.1.fa.fEdges.map Aa)]),(100001,.box 3 [aI r.2.2])]
def z08 (r:Bool×Bf×Int):AV:=.bool (r.1)
def zc2 (r:Bool×Bf×Int):AS:=⟨[(4,.bool (r.1)),(1,.ptr 100000 0),(2,.ptr 100001 0)],Vl r⟩
theorem z2w {n c e d r}(b:Rp n c e d=some r):ConG E0.P none (CalF E0.P 107 0) [Aa c,.ptr 100000 0,.ptr 100001 0] [] (zc5 c e d) (z08 r) (Vl r):=by
 unfold Rp at b;refine aR (E:=(E0p 3)) (caps:=[]) _ bV rfl rfl rfl rfl rfl ?_;repeat' first
  |refine aH ?_;conv=>whnf
  |refine aM b (λb=>?_) λb=>?_
  |refine aS ?_
  |refine aU ?_
  |refine aT b λa b=>?_
  |exact GX.A (res:=z08) (meF:=Vl) b zc2
  |refine AndA ?_
  |refine aL ?_
def z64 (c:Bf)(a:Bf)(b:Int):List (Nat×Ent):=[(100000,.box 111 [.sl 2 (a.ftypes.map B2),aI a.fa.fVars,aI a.fa.fScopes,.sl 1 (a.fa.fStates.map Am),.sl 17 (a.fa.fEdges.map Aa)]),(100001,.box 3 [aI b])]
def Uw (r:(List Ah)×Bf×Int):List (Nat×Ent):=[(100000,.box 111 [.sl 2 (r.2.1.ftypes.map B2),aI r.2.1.fa.fVars,aI r.2.1.fa.fScopes,.sl 1 (r.2.1.fa.fStates.map Am),.sl 17 (r.2.1.fa.fEdges.map Aa)]),(100001,.box 3 [aI r.2.2])]
def Z6 (r:(List Ah)×Bf×Int):AV:=.sl 17 (r.1.map Aa)
def z62 (r:(List Ah)×Bf×Int):AS:=⟨[(4,.sl 17 (r.1.map Aa)),(1,.fn 107 [.ptr 100000 0,.ptr 100001 0])],Uw r⟩
theorem z1t {n c e d r}(b:V0 n c e d=some r):ConG E0.P none (CalF E0.P 105 0) [.agg [.sl 2 (c.ftypes.map B2),aI c.fa.fVars,aI c.fa.fScopes,.sl 1 (c.fa.fStates.map Am),.sl 17 (c.fa.fEdges.map Aa)],.fn 107 [.ptr 100000 0,.ptr 100001 0]] [] (z64 c e d) (Z6 r) (Uw r):=by
 unfold V0 at b;refine aR (E:=(E0p 2)) (caps:=[]) _ bK rfl rfl rfl rfl rfl ?_;repeat' first
  |refine aG b λb=>?_
  |refine bH b 7027 rfl (λb=>?_)
  |refine aC [8] ?_;conv=>whnf
  |refine aM b (λb=>?_) λb=>?_
  |refine aS ?_
  |refine aU ?_
  |refine GX.o (res:=Z6) (meF:=Uw) b ?_;exact GX.mk (z62 _) (aA []) rfl _ rfl (by repeat' first|exact Sub.nil _|exact Sub.refl _|refine Sub.agg ?_|refine Sub.tup ?_|refine Sub.fn ?_|exact SubL.nil|refine SubL.cons ?_ ?_|refine Sub.sl _ ?_|exact SubE.nil|refine SubE.cons ?_ ?_) [100000,100001] ⟨aW ⟨1,0,_,_,_,_,_,bA rfl,rfl,rfl,rfl,rfl,rfl⟩,⟨aW ⟨1,1,_,_,_,_,_,bA rfl,rfl,rfl,rfl,rfl,rfl⟩,trivial⟩⟩ rfl
  |refine aN b λx b=>?_
  |refine aT b λa b=>?_
  |refine bC (Be 22 b) [(100000,100000),(100001,100001)] [(100000,100000),(100001,100001)] _ _ Vl z08 [] (λa h=>aJ (z2w h)) (Ax bV rfl rfl) rfl rfl rfl ⟨⟨rfl,rfl⟩,⟨⟨rfl,rfl⟩,trivial⟩⟩ (λa=>⟨rfl,rfl,rfl,rfl,rfl,rfl,rfl,rfl⟩) (λa b=>?_)
  |refine bM (Be 22 b) [(100000,100000),(100001,100001)] [(100000,100000),(100001,100001)] _ _ Vl z08 [] (λa h=>aJ (z2w h)) (Ax bV rfl rfl) rfl rfl rfl ⟨⟨rfl,rfl⟩,⟨⟨rfl,rfl⟩,trivial⟩⟩ (λa=>⟨rfl,rfl,rfl,rfl,rfl,rfl,rfl,rfl⟩) (λa b=>?_)
  |refine aP b λl b=>?_
  |exact⟨_,b,aA [(7027,27)]⟩
  |exact⟨_,b,aA []⟩
  |refine aO b ?_ λm v b=>?_
  |exact aE (aK 5 7027 149 17 rfl rfl) (aA [])
  |refine AndA ?_
  |refine aL ?_
def zc4 (d:Int)(c:(List Ah))(b:(List (Int×Bool)))(a:Int):List (Nat×Ent):=[(100000,.box 24 [.sl 17 (c.map Aa)]),(100001,.box 113 [.row 200001]),(200001,.mp (List.map (encM aI AV.bool) (b))),(100002,.box 3 [aI a]),(100003,.box 115 [.fn 109 [.ptr 100000 0,.ptr 100001 0,.ptr 100002 0,.ptr 100003 0]])]
def Hb (r:(List Int)×(List Ah)×(List (Int×Bool))×Int):List (Nat×Ent):=[(100000,.box 24 [.sl 17 (r.2.1.map Aa)]),(100001,.box 113 [.row 250001]),(250001,.mp (List.map (encM aI AV.bool) (r.2.2.1))),(100002,.box 3 [aI r.2.2.2]),(100003,.box 115 [.fn 109 [.ptr 100000 0,.ptr 100001 0,.ptr 100002 0,.ptr 100003 0]])]
def Je (r:(List Int)×(List Ah)×(List (Int×Bool))×Int):AV:=nlA 1 (r.1.map aI)
def z1n (r:(List Int)×(List Ah)×(List (Int×Bool))×Int):AS:=⟨[(6,nlA 1 (r.1.map aI)),(1,.ptr 100000 0),(2,.ptr 100001 0),(3,.ptr 100002 0),(4,.ptr 100003 0)],Hb r⟩
theorem z2v {n d i g f r}(c:Mo n d i g f=some r):ConG E0.P none (CalF E0.P 109 0) [aI d,.ptr 100000 0,.ptr 100001 0,.ptr 100002 0,.ptr 100003 0] [] (zc4 d i g f) (Je r) (Hb r):=by
 induction n generalizing d i g f r
 case zero=>cases c
 case succ n j =>
 unfold Mo at c;refine aR (E:=(E0q 5)) (caps:=[]) _ bE rfl rfl rfl rfl rfl ?_;repeat' first
  |refine aG c λc=>?_
  |refine aC [10] ?_;conv=>whnf
  |refine aM c (λc=>?_) λc=>?_
  |refine aS ?_
  |refine aU ?_
  |exact GX.A (res:=Je) (meF:=Hb) c z1n (h1:=aA [(250001,200001)])
  |refine aN c λx c=>?_
  |exact⟨_,c,aA []⟩
  |refine LkX.o aI AV.bool c (by first|rfl|kernel_rfl) D1 (by repeat' first|exact Sub.nil _|exact Sub.refl _|refine Sub.agg ?_|refine Sub.tup ?_|refine Sub.fn ?_|exact SubL.nil|refine SubL.cons ?_ ?_|refine Sub.sl _ ?_|exact SubE.nil|refine SubE.cons ?_ ?_) (λv b c=>?_)
  |refine OpX.bldR aI c rfl rfl rfl rfl rfl rfl rfl rfl rfl rfl rfl rfl rfl rfl rfl rfl (by first|exact SubR.refl _|(repeat' first|exact SubR.nil|refine SubR.cons ?_ ?_|exact SubL.nil|refine SubL.cons ?_ ?_|exact Sub.refl _|exact Sub.nil _)) rfl (λl c=>?_)
  |refine OpX.bld aI c rfl rfl rfl rfl rfl rfl rfl rfl rfl rfl rfl rfl rfl rfl rfl rfl (λl c=>?_)
  |refine GX.o (res:=Je) (meF:=Hb) c ?_;exact GX.mk (z1n _) (aE (LeX.frzAll 32 3 1 _ rfl) (aA [(250001,200001)])) rfl _ rfl (by repeat' first|exact Sub.nil _|exact Sub.refl _|refine Sub.agg ?_|refine Sub.tup ?_|refine Sub.fn ?_|exact SubL.nil|refine SubL.cons ?_ ?_|refine Sub.sl _ ?_|exact SubE.nil|refine SubE.cons ?_ ?_) [] trivial rfl
  |refine yd9 c (λa t e c=>?_);subst e
  |refine UpX.o aI AV.bool c (by first|rfl|kernel_rfl) D1 (by repeat' first|exact Sub.nil _|exact Sub.refl _|refine Sub.agg ?_|refine Sub.tup ?_|refine Sub.fn ?_|exact SubL.nil|refine SubL.cons ?_ ?_|refine Sub.sl _ ?_|exact SubE.nil|refine SubE.cons ?_ ?_) (λl c=>?_)
  |refine bC (Be 39 c) [(100000,100000),(100001,100001),(100002,100002),(100003,100003),(200001,200001)] [(100000,100000),(100001,100001),(250001,40000002),(100002,100002),(100003,100003)] _ _ Hb Je [200001] (λa h=>aJ (j h)) (Ax bE rfl rfl) rfl rfl rfl ⟨⟨rfl,rfl⟩,⟨⟨rfl,rfl⟩,⟨⟨rfl,rfl⟩,⟨⟨rfl,rfl⟩,⟨⟨rfl,rfl⟩,trivial⟩⟩⟩⟩⟩ (λa=>⟨rfl,rfl,rfl,rfl,rfl,rfl,rfl,zoi _ _ _⟩) (λa c=>?_);rcases a with⟨_|⟨y,ys⟩,a⟩<;>(try simp only[bX,bW,List.isEmpty_nil,List.isEmpty_cons,bB,aZ,Aj,Al,Ox]at c)
  |refine bM (Be 39 c) [(100000,100000),(100001,100001),(100002,100002),(100003,100003),(200001,200001)] [(100000,100000),(100001,100001),(250001,40000002),(100002,100002),(100003,100003)] _ _ Hb Je [200001] (λa h=>aJ (j h)) (Ax bE rfl rfl) rfl rfl rfl ⟨⟨rfl,rfl⟩,⟨⟨rfl,rfl⟩,⟨⟨rfl,rfl⟩,⟨⟨rfl,rfl⟩,⟨⟨rfl,rfl⟩,trivial⟩⟩⟩⟩⟩ (λa=>⟨rfl,rfl,rfl,rfl,rfl,rfl,rfl,zoi _ _ _⟩) (λa c=>?_);rcases a with⟨_|⟨y,ys⟩,a⟩<;>(try simp only[bX,bW,List.isEmpty_nil,List.isEmpty_cons,bB,aZ,Aj,Al,Ox]at c)
  |refine dB (sz:=1) (l:=[]) (by first|exact bL rfl|exact aW rfl) rfl rfl rfl rfl rfl rfl rfl rfl ?_
  |refine dB (sz:=1) (l:=_::_) (by first|exact bL rfl|exact aW rfl) rfl rfl rfl rfl rfl rfl rfl rfl ?_
  |refine aP c λl c=>?_
  |refine GX.o (res:=Je) (meF:=Hb) c ?_;exact GX.mk (z1n _) (aE (LeX.frzAll 46 3 1 _ rfl) (aA [(250001,40000002)])) rfl _ rfl (by repeat' first|exact Sub.nil _|exact Sub.refl _|refine Sub.agg ?_|refine Sub.tup ?_|refine Sub.fn ?_|exact SubL.nil|refine SubL.cons ?_ ?_|refine Sub.sl _ ?_|exact SubE.nil|refine SubE.cons ?_ ?_) [] trivial rfl
  |exact⟨_,c,aA [(200001,40000002)]⟩
  |refine aO c (aA []) λm v c=>?_
  |refine AndA ?_
  |refine aL ?_
instance zqy {n c d}:CI E0 (Sf n c d) false 51 [.agg [.sl 2 (c.ftypes.map B2),aI c.fa.fVars,aI c.fa.fScopes,.sl 1 (c.fa.fStates.map Am),.sl 17 (c.fa.fEdges.map Aa)],aI d] (λr=>nlA 1 (r.map aI)):=⟨λ{r} b=>by
 unfold Sf at b;refine cw Tryz.func51 ?_;repeat' first
  |refine aH ?_;conv=>whnf
  |refine aM b (λb=>?_) λb=>?_
  |refine aS ?_
  |refine aU ?_
  |refine bC (Be 10 b) [(100000,2),(100001,3)] [(100000,2),(100001,3)] _ _ Uw Z6 [] (λa h=>aJ (z1t h)) (Ax bK rfl rfl) rfl rfl rfl ⟨⟨rfl,rfl⟩,⟨⟨rfl,rfl⟩,trivial⟩⟩ (λa=>⟨rfl,rfl,rfl,rfl,rfl,rfl,rfl,rfl⟩) (λa b=>?_)
  |refine bM (Be 10 b) [(100000,2),(100001,3)] [(100000,2),(100001,3)] _ _ Uw Z6 [] (λa h=>aJ (z1t h)) (Ax bK rfl rfl) rfl rfl rfl ⟨⟨rfl,rfl⟩,⟨⟨rfl,rfl⟩,trivial⟩⟩ (λa=>⟨rfl,rfl,rfl,rfl,rfl,rfl,rfl,rfl⟩) (λa b=>?_)
  |refine bC (Be 14 b) [(100000,5),(100001,6),(100002,3),(100003,7),(200001,11)] [(100000,5),(100001,6),(250001,15000002),(100002,3),(100003,7)] _ _ Hb Je [11] (λa h=>aJ (z2v h)) (Ax bE rfl rfl) rfl rfl rfl ⟨⟨rfl,rfl⟩,⟨⟨rfl,rfl⟩,⟨⟨rfl,rfl⟩,⟨⟨rfl,rfl⟩,⟨⟨rfl,rfl⟩,trivial⟩⟩⟩⟩⟩ (λa=>⟨rfl,rfl,rfl,rfl,rfl,rfl,rfl,zoi _ _ _⟩) (λa b=>?_);rcases a with⟨_|⟨y,ys⟩,a⟩<;>(try simp only[bX,bW,List.isEmpty_nil,List.isEmpty_cons,bB,aZ,Aj,Al,Ox]at b)
  |refine bM (Be 14 b) [(100000,5),(100001,6),(100002,3),(100003,7),(200001,11)] [(100000,5),(100001,6),(250001,15000002),(100002,3),(100003,7)] _ _ Hb Je [11] (λa h=>aJ (z2v h)) (Ax bE rfl rfl) rfl rfl rfl ⟨⟨rfl,rfl⟩,⟨⟨rfl,rfl⟩,⟨⟨rfl,rfl⟩,⟨⟨rfl,rfl⟩,⟨⟨rfl,rfl⟩,trivial⟩⟩⟩⟩⟩ (λa=>⟨rfl,rfl,rfl,rfl,rfl,rfl,rfl,zoi _ _ _⟩) (λa b=>?_);rcases a with⟨_|⟨y,ys⟩,a⟩<;>(try simp only[bX,bW,List.isEmpty_nil,List.isEmpty_cons,bB,aZ,Aj,Al,Ox]at b)
  |refine AndA ?_
  |refine aL ?_
  |exact aB b⟩
instance znt {n b c}:CI E0 (Vs n b c) false 52 [.agg [.sl 2 (b.ftypes.map B2),aI b.fa.fVars,aI b.fa.fScopes,.sl 1 (b.fa.fStates.map Am),.sl 17 (b.fa.fEdges.map Aa)],.sl 1 (c.map aI)] (λr=>.sl 5 (r.map A5)):=⟨λ{r} a=>by
 unfold Vs at a;refine cw Tryz.func52 ?_;repeat' first
  |refine aG a λa=>?_
  |refine bH a 7039 rfl (λa=>?_)
  |refine aC [11] ?_;conv=>whnf
  |refine aM a (λa=>?_) λa=>?_
  |refine aS ?_
  |refine aU ?_
  |refine aN a λx a=>?_
  |refine aP a λl a=>?_
  |exact⟨_,a,aA [(7045,45)]⟩
  |exact⟨_,a,aA [(7039,39)]⟩
  |refine aO a ?_ λm v a=>?_
  |exact aE (LeX.adoptC 8 4 7039 144 3 37 _ rfl rfl rfl) (aA [])
  |exact aE (aK 5 7045 37 5 rfl rfl) (aA [])
  |refine AndA ?_
  |refine aL ?_
  |exact aB a⟩
instance y0q {n f e d}:CI E0 (Fh n f e d) false 14 [.sl 2 (f.map B2),Bi e,aI d] (λr=>.tup [.agg [aI r.1.fVerdict,aI r.1.fBound,.sl 5 (r.1.fPrefix.map A5),aI r.1.fPeriod],aI r.2]):=⟨λ{r} c=>by
 unfold Fh at c;refine cw Tryz.func14 ?_;repeat' first
  |refine aG c λc=>?_
  |refine aC [15] ?_;conv=>whnf
  |refine aM c (λc=>?_) λc=>?_
  |refine aS ?_
  |refine aU ?_
  |refine aT (o:=Sf _ _ _) c λa c=>?_;rcases a with _|⟨y,ys⟩<;>(try simp only[bX,bW,List.isEmpty_nil,List.isEmpty_cons,bB,aZ,Aj,Al,Ox]at c)
  |refine aT c λa c=>?_
  |refine bQ aI AV.bool c D1 rfl rfl rfl rfl rfl rfl rfl rfl rfl rfl (by first|rfl|kernel_rfl) (by repeat' first|exact Sub.nil _|exact Sub.refl _|refine Sub.agg ?_|refine Sub.tup ?_|refine Sub.fn ?_|exact SubL.nil|refine SubL.cons ?_ ?_|refine Sub.sl _ ?_|exact SubE.nil|refine SubE.cons ?_ ?_) (λv b c=>?_)
  |exact⟨_,c,aA []⟩
  |refine dB (sz:=1) (l:=[]) (by first|exact bL rfl|exact aW rfl) rfl rfl rfl rfl rfl rfl rfl rfl ?_
  |refine dB (sz:=1) (l:=_::_) (by first|exact bL rfl|exact aW rfl) rfl rfl rfl rfl rfl rfl rfl rfl ?_
  |refine aO c (aA []) λm v c=>?_
  |refine AndA ?_
  |refine aL ?_
  |exact aB c⟩
instance y0k {n a}:CI E0 (Xj n a) true 192 [A5 a] (λr=>.bool (r)):=by unfold Xj;exact aD [] Tryz.func192
instance y71 {n a}:CI E0 (Y3 n a) true 242 [A5 a] Bj:=by unfold Y3;exact aD [] Tryz.func242
instance y0u {n b a}:CI E0 (Xm n b a) true 193 [A5 b,A5 a] aI:=by unfold Xm;exact aD [] Tryz.func193
instance y6s {n a}:CI E0 (O7 n a) true 194 [A5 a] Ng:=by unfold O7;exact aD [] Tryz.func194
theorem y3o (a b:Jy):eqK (Ng a) (Ng b)=some (decide (a=b)):=by cases a;cases b;simp[Ng,eqK,eqL,eq1,aI,I8]
end
end Go.Proofs.YthbogefcfhmpgaaGreat
