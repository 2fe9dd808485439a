/- What some functions compute, over plain values. -/
import Derived.Test.YthbogefcfhmpgaaGreatK15
set_option linter.unusedVariables false
set_option linter.unusedSimpArgs false
set_option maxRecDepth 100000
set_option maxHeartbeats 8000000
namespace Go.Proofs.YthbogefcfhmpgaaGreat
open Go.RowKit
open LeX renaming a->aA
open RetX renaming oB->aB
open CI renaming w->aC
open AW renaming step->aD,stepU->aF,regO->aG,jI->aU
open IntKind renaming wrap->aE
open ConG renaming walk->aH,up->aN
open A2 renaming o->aJ,t->aX
open IdxX renaming A->aK,oD->aM
open Av renaming I->aL
open Tryz renaming func365->aP,func366->aQ,func367->aR,func368->aS,func369->aT
noncomputable section
structure Fe where
 fTypes:(List Aw)
 fA:A8
 fRate:Int
deriving Inhabited
def Gx (n:Nat)(a0:(List Aw))(c:Int)(b:Int->Option (Bool))(d:Bool):Option (Bool) :=
 cnd (d)
  (some false)
 <| b (aE .i64 (c+1))
def Fa (n:Nat)(a0:(List Aw))(b:Option (Bool)):Nat->Int->Option (Bool)
 |0,_=>none
 |d+1,c =>
  cnd (decide (c<((a0.map Ap).length:Int)))
   (jon (Gx n a0 c (Fa n a0 b d)) <|
   reg <| idx a0 c fun e =>
   cnd (decide (20<((e.fFields.map Cu).length:Int)))
    (Gx n a0 c (Fa n a0 b d) true)
   <| idx a0 c fun f =>
   Gx n a0 c (Fa n a0 b d) (decide (100<((f.fName.size:Nat):Int))))
  <| b
def S7 (n:Nat)(a0:(List Aw)):Option (Bool) :=
 Fa n a0
  (some (decide (((a0.map Ap).length:Int)<=20))) n 0
def F9 (n:Nat)(b:Bool):Option (Bool) :=
 some b
def Ob (n:Nat)(a0:(List Aw))(a1:A8):Option (Bool) :=
 jon (F9 n) <|
 reg <| bnd (S7 n a0) fun x4 =>
 cnd (x4)
  (bnd (Od n a1) fun x5 =>
  cnd (x5)
   (cnd (decide (((a1.fStates.map Al).length:Int)<=8))
     (F9 n (decide (((a1.fEdges.map A5).length:Int)<=16)))
   <| F9 n false)
  <| F9 n false)
 <| F9 n false
def Qu (n:Nat)(a0:Fe):Option (Bool) :=
 bnd (Ob n a0.fTypes a0.fA) fun x1 =>
 some x1
def Fc (n:Nat):Option (Ah) :=
 bnd (Cw n true) fun x1 =>
 some (⟨0,[],0,0,0,x1⟩)
def Un (n:Nat)(a0:Ah):Option (A8) :=
 mak 2 24 (⟨[]⟩:D1) fun x1 =>
 bnd (Fc n) fun x2 =>
 bld ([⟨0,1,0,0,x2,[],[],[],[],[]⟩,⟨1,(-1),1,0,a0,[],[],[],[],[]⟩]:List Ac) fun x3 =>
 some (⟨2,1,x1,x3⟩)
def R5 (n:Nat):Option (A8) :=
 bnd (Fc n) fun x1 =>
 bndM 3 (Un n x1) fun x2 =>
 nat 0 (x2.fEdges.map A5).length fun x3 =>
 ltx x3 (x2.fEdges.map A5).length <| stx x2.fEdges x3 (fun x4=>⟨x4.fFrom,x4.fTo,x4.fVar,x4.fType,x4.fCond,[0],x4.fCloses,x4.fChecks,x4.fLimits,x4.fInside⟩) fun x5 =>
 nat 0 (x5.map A5).length fun x6 =>
 ltx x6 (x5.map A5).length <| stx x5 x6 (fun x7=>⟨x7.fFrom,x7.fTo,x7.fVar,x7.fType,x7.fCond,x7.fOpens,x7.fCloses,x7.fChecks,[⟨0,5⟩],x7.fInside⟩) fun x8 =>
 nat 1 (x8.map A5).length fun x9 =>
 ltx x9 (x8.map A5).length <| stx x8 x9 (fun b=>⟨b.fFrom,b.fTo,b.fVar,b.fType,b.fCond,b.fOpens,[0],b.fChecks,b.fLimits,b.fInside⟩) fun d =>
 nat 1 (d.map A5).length fun e =>
 ltx e (d.map A5).length <| stx d e (fun c=>⟨c.fFrom,c.fTo,c.fVar,c.fType,c.fCond,c.fOpens,c.fCloses,c.fChecks,[⟨0,5⟩],c.fInside⟩) fun f =>
 some (⟨x2.fVars,x2.fScopes,x2.fStates,f⟩)
def Kp (n:Nat)(a0:Ah):Option (A8) :=
 mak 2 24 (⟨[]⟩:D1) fun x1 =>
 bnd (Fc n) fun x2 =>
 some (⟨2,1,x1,[⟨0,1,0,0,x2,[],[],[],[],[]⟩,⟨1,(-1),1,0,a0,[],[],[],[],[]⟩]⟩)
def Ri (n:Nat)(a1:(List Int))(a0:(List Int))(c:Option (Bool)):Nat->Int->Option (Bool)
 |0,_=>none
 |d+1,b =>
  cnd (decide (b<((a0.map aI).length:Int)))
   (idx a0 b fun e =>
   idx a1 b fun f =>
   cnd (!decide (e=f))
    (some false)
   <| (Ri n a1 a0 c d) (aE .i64 (b+1)))
  <| c
def Uq (n:Nat)(a0:(List Int))(a1:(List Int)):Option (Bool) :=
 cnd (!decide (((a0.map aI).length:Int)=((a1.map aI).length:Int)))
  (some false)
 <| Ri n a1 a0
  (some true) n 0
def Rh (n:Nat)(a1:(List Bool))(a0:(List Bool))(c:Option (Bool)):Nat->Int->Option (Bool)
 |0,_=>none
 |d+1,b =>
  cnd (decide (b<((a0.map AV.bool).length:Int)))
   (idx a0 b fun e =>
   idx a1 b fun f =>
   cnd (!(e == f))
    (some false)
   <| (Rh n a1 a0 c d) (aE .i64 (b+1)))
  <| c
def Up (n:Nat)(a0:(List Bool))(a1:(List Bool)):Option (Bool) :=
 cnd (!decide (((a0.map AV.bool).length:Int)=((a1.map AV.bool).length:Int)))
  (some false)
 <| Rh n a1 a0
  (some true) n 0
def I1 (n:Nat)(b:Bool):Option (Bool) :=
 cnd (b)
  (some false)
 <| bnd (Fc n) fun c =>
 bnd (Kp n c) fun d =>
 bnd (D7 n ([⟨(ByteArray.mk #[65]),[⟨(ByteArray.mk #[120]),0⟩]⟩]) d 1 (⟨2,0,[⟨0,0,0,0,[⟨0,0,ByteArray.empty⟩]⟩],1⟩:Bm)) fun e =>
 some (decide (e=0))
def Cq (n:Nat)(x2:(List Int)×(List Bool)×Int)(x7:Bm×Int)(b:Bool):Option (Bool) :=
 cnd (b)
  (some false)
 <| jon (I1 n) <|
 reg <| bnd (Uq n x2.1 ([0,5])) fun c =>
 cnd (!(c))
  (I1 n true)
 <| bnd (Up n x2.2.1 ([true,true])) fun d =>
 cnd (!(d))
  (I1 n true)
 <| bnd (Fc n) fun e =>
 bnd (Kp n e) fun f =>
 bnd (D7 n ([⟨(ByteArray.mk #[65]),[⟨(ByteArray.mk #[120]),0⟩]⟩]) f 1 x7.1) fun g =>
 I1 n (!decide (g=0))
def E2 (n:Nat):Option (Bool) :=
 bnd (R5 n) fun x1 =>
 bnd (Pi n x1) fun x2 =>
 bnd (R5 n) fun x3 =>
 bnd (D8 n ([⟨(ByteArray.mk #[65]),[⟨(ByteArray.mk #[120]),0⟩]⟩]) x3 2) fun x4 =>
 bnd (Fc n) fun x5 =>
 bnd (Kp n x5) fun x6 =>
 bnd (D8 n ([⟨(ByteArray.mk #[65]),[⟨(ByteArray.mk #[120]),0⟩]⟩]) x6 1) fun x7 =>
 bnd (Kp n (⟨7,[(Ag ⟨1,[],1,0,0,⟨0,0,ByteArray.empty⟩⟩),(Ag ⟨1,[],0,0,0,⟨0,0,ByteArray.empty⟩⟩)],0,0,0,⟨0,0,ByteArray.empty⟩⟩:Ah)) fun x8 =>
 bnd (D8 n ([⟨(ByteArray.mk #[65]),[⟨(ByteArray.mk #[120]),0⟩]⟩]) x8 1) fun x9 =>
 mak 1 24 (⟨[]⟩:D1) fun c =>
 bnd (Fc n) fun d =>
 frz 53 <| reg <| bnd (D8 n ([⟨(ByteArray.mk #[65]),[⟨(ByteArray.mk #[120]),0⟩]⟩]) (⟨1,0,c,[⟨0,(-1),0,0,d,[],[],[],[],[]⟩]⟩:A8) 1) fun b =>
 jon (Cq n x2 x7) <|
 reg <| cnd (!decide (x2.2.2=0))
  (Cq n x2 x7 true)
 <| cnd (!decide (x4.2=0))
  (Cq n x2 x7 true)
 <| cnd (!decide (x7.2=0))
  (Cq n x2 x7 true)
 <| cnd (!decide (x9.2=0))
  (Cq n x2 x7 true)
 <| cnd (!decide (b.2=0))
  (Cq n x2 x7 true)
 <| cnd (!decide (x4.1.fVerdict=1))
  (Cq n x2 x7 true)
 <| cnd (!decide (x4.1.fBound=12))
  (Cq n x2 x7 true)
 <| cnd (!decide (x7.1.fVerdict=2))
  (Cq n x2 x7 true)
 <| cnd (!decide (x9.1.fVerdict=0))
  (Cq n x2 x7 true)
 <| cnd (!decide (b.1.fVerdict=1))
  (Cq n x2 x7 true)
 <| Cq n x2 x7 (!decide (b.1.fBound=0))
def F4 (n:Nat)(b:Bool):Option (Bool) :=
 some b
def Ge (n:Nat)(a1:Bm)(x5:Bm×Int)(x7:Int)(b:Bool):Option (Bool) :=
 cnd (b)
  (some false)
 <| jon (F4 n) <|
 reg <| cnd (!decide (x7=0))
  (bnd (E2 n) fun c =>
  F4 n c)
 <| cnd (decide (a1.fVerdict=1))
  (cnd (decide (x5.1.fBound<=a1.fBound))
    (bnd (E2 n) fun d =>
    F4 n d)
  <| F4 n false)
 <| F4 n false
def F0 (n:Nat)(b:Bool):Option (Bool) :=
 some b
def Gc (n:Nat)(b:Bool):Option (Bool) :=
 some b
def F5 (n:Nat)(a1:Bm)(a0:Fe)(b:Bool):Option (Bool) :=
 cnd (b)
  (bnd (E2 n) fun x4 =>
  some x4)
 <| bnd (D8 n a0.fTypes a0.fA a0.fRate) fun x5 =>
 cnd (!decide (x5.2=0))
  (bnd (E2 n) fun x6 =>
  some x6)
 <| bnd (D7 n a0.fTypes a0.fA a0.fRate a1) fun x7 =>
 cnd (decide (x5.1.fVerdict=1))
  (jon (Ge n a1 x5 x7) <|
  reg <| bnd (D7 n a0.fTypes a0.fA a0.fRate x5.1) fun c =>
  cnd (!decide (c=0))
   (Ge n a1 x5 x7 true)
  <| bnd (D7 n a0.fTypes a0.fA a0.fRate (⟨x5.1.fVerdict,(aE .i64 (x5.1.fBound+1)),x5.1.fPrefix,x5.1.fPeriod⟩:Bm)) fun d =>
  cnd (!decide (d=0))
   (Ge n a1 x5 x7 true)
  <| bnd (D7 n a0.fTypes a0.fA a0.fRate (⟨x5.1.fVerdict,(aE .i64 (x5.1.fBound-1)),x5.1.fPrefix,x5.1.fPeriod⟩:Bm)) fun e =>
  Ge n a1 x5 x7 (!decide (e=18)))
 <| cnd (decide (x5.1.fVerdict=2))
  (jon (F0 n) <|
  reg <| bnd (D7 n a0.fTypes a0.fA a0.fRate x5.1) fun f =>
  cnd (decide (f=0))
   (cnd (!decide (x7=0))
     (bnd (E2 n) fun g =>
     F0 n g)
   <| cnd (decide (a1.fVerdict=2))
    (bnd (E2 n) fun h =>
    F0 n h)
   <| F0 n false)
  <| F0 n false)
 <| jon (Gc n) <|
 reg <| cnd (decide (x5.1.fVerdict=0))
  (cnd (!decide (x7=0))
    (bnd (E2 n) fun j =>
    Gc n j)
  <| Gc n false)
 <| Gc n false
def Qm (n:Nat)(a0:Fe)(a1:Bm):Option (Bool) :=
 jon (F5 n a1 a0) <|
 reg <| bnd (Qu n a0) fun b =>
 cnd (!(b))
  (F5 n a1 a0 true)
 <| bnd (Oe n a1.fPrefix) fun c =>
 F5 n a1 a0 !(c)
attribute [irreducible] Gx F9 I1 Cq F4 Ge F0 Gc F5
end
noncomputable section
abbrev z1c {n b a1 a0 c d e}:=jf (Hy n b a1 a0 c d e) (fun f=>⟨[(1,aI a1),(2,.ptr 2 0),(5,aI c.1),(6,aI c.2),(16,.bool (f))],[(2,.box 146 (Es a0))]⟩) fun _=>Hy.eq_1 ..
abbrev z1b {n b a1 a0 c}:=li (Gn n b a1 a0 c) (fun d=>⟨[(1,aI a1),(2,.ptr 2 0),(5,aI d.1),(6,aI d.2)],[(2,.box 146 (Es a0))]⟩) fun _ _=>Gn.eq_2 ..
abbrev z1a {n b a0 c}:=li (Kx n b a0 c) (fun d=>⟨[(1,.ptr 1 0),(3,aI d.1),(4,aI d.2)],[(1,.box 146 (Es a0))]⟩) fun _ _=>Kx.eq_2 ..
attribute [instance] z1c z1b z1a            
def z3e (r:Int):AV:=aI (r)
theorem z16 {n a0 a1 r}(hF:Em n a0 a1=some r):Con E0 true 148 [Ag a0,aI a1] (aI r):=by
 induction n generalizing a0 a1 r
 case zero=>cases hF
 case succ n ih =>
 unfold Em at hF
 refine cw Tryz.func148 ?_
 repeat' first
  |refine aU hF (fun v hF=>?_) fun hF=>?_
  |refine aG hF fun hF=>?_
  |refine aF [3] ?_;conv=>whnf
  |refine aJ hF (fun hF=>?_) fun hF=>?_
  |refine aM hF E6 (fun x hF=>?_)
  |refine Ad.o hF z3e (fun a h=>ih h) (fun a hF=>?_)
  |exact ⟨_,hF,aA []⟩
  |refine aL hF (aA []) fun m v hF=>?_
  |exact aB hF
instance z7a {n a0 a1}:CI E0 (Em n a0 a1) true 148 [Ag a0,aI a1] aI:=⟨z16⟩
def z3d (r:Int):AV:=aI (r)
theorem z15 {n a0 r}(hF:El n a0=some r):Con E0 true 149 [Ag a0] (aI r):=by
 induction n generalizing a0 r
 case zero=>cases hF
 case succ n ih =>
 unfold El at hF
 refine cw Tryz.func149 ?_
 repeat' first
  |refine aD ?_;conv=>whnf
  |refine aJ hF (fun hF=>?_) fun hF=>?_
  |refine aM hF E6 (fun x hF=>?_)
  |refine Ad.o hF z3d (fun a h=>ih h) (fun a hF=>?_)
  |exact ⟨_,hF,aA []⟩
  |refine aL hF (aA []) fun m v hF=>?_
  |exact aB hF
instance z79 {n a0}:CI E0 (El n a0) true 149 [Ag a0] aI:=⟨z15⟩
end
noncomputable section
end
noncomputable section
abbrev z6j {n b a0 d}:=li (Mb n b a0 d) (fun c=>⟨[(4,aI c.1),(5,aI c.2.1),(11,.sl 8 (a0.fArgs.map idA)),(12,aI (((a0.fArgs.map idA).length:Int))),(13,aI c.2.2)],[]⟩) fun _ _=>Mb.eq_2 ..
abbrev z5q {n a0}:=jf (Jg n a0) (fun b=>⟨[(0,aI a0),(4,.bool (b))],[]⟩) fun _=>Jg.eq_1 ..
abbrev z6c {n}:=jt (Jj n) (fun b=>⟨[(8,.bool (b))],[]⟩) fun _=>Jj.eq_1 ..
abbrev z6d {n a0}:=jt (Jk n a0) (fun b=>⟨[(4,aI a0),(5,.bool (b))],[]⟩) fun _=>Jk.eq_1 ..
abbrev z5p {n}:=jf (Hc n) (fun b=>⟨[(4,.bool (b))],[]⟩) fun _=>Hc.eq_1 ..
abbrev z41 {n}:=jf (Fj n) (fun b=>⟨[(31,.bool (b))],[]⟩) fun _=>Fj.eq_1 ..
abbrev z6e {n}:=jf (Bl n) (fun b=>⟨[(113,.bool (b))],[]⟩) fun _=>Bl.eq_1 ..
abbrev z6f {n a0 x2 b}:=jt (Jl n a0 x2 b) (fun _=>⟨[(1,.ptr 1 0),(5,.bool (x2.1)),(6,.bool (x2.2)),(7,.bool (decide (a0.fOp=4))),(8,.bool (b))],[(1,.box 146 (Es a0))]⟩) fun _=>Jl.eq_1 ..
abbrev z6g {n a0 x2}:=jf (Jm n a0 x2) (fun b=>⟨[(1,.ptr 1 0),(5,.bool (x2.1)),(6,.bool (x2.2)),(7,.bool (decide (a0.fOp=4))),(8,.bool (b))],[(1,.box 146 (Es a0))]⟩) fun _=>Jm.eq_1 ..
abbrev z6h {n a0 x2}:=jf (Hd n a0 x2) (fun b=>⟨[(1,.ptr 1 0),(5,.bool (x2.1)),(6,.bool (x2.2)),(7,.bool (decide (a0.fOp=4))),(66,.bool (b))],[(1,.box 146 (Es a0))]⟩) fun _=>Hd.eq_1 ..
abbrev z6i {n a0 x2}:=jf (D9 n a0 x2) (fun b=>⟨[(1,.ptr 1 0),(5,.bool (x2.1)),(6,.bool (x2.2)),(52,.bool (b))],[(1,.box 146 (Es a0))]⟩) fun _=>D9.eq_1 ..
abbrev z5o {n b a0 c}:=li (M7 n b a0 c) (fun d=>⟨[(1,.fn 238 []),(16,.sl 8 (a0.fArgs.map idA)),(17,aI (((a0.fArgs.map idA).length:Int))),(18,aI d)],[]⟩) fun _ _=>M7.eq_2 ..
abbrev z2y {n}:=jf (Iq n) (fun b=>⟨[(4,.bool (b))],[]⟩) fun _=>Iq.eq_1 ..
attribute [instance] z6j z5q z6c z6d z5p z41 z6e z6f z6g z6h z6i z5o z2y
def zbd (r:Int×Int):AV:=.tup [aI (r.1),aI (r.2)]
theorem z5w {n a0 r}(hF:G4 n a0=some r):Con E0 true 236 [Ag a0] (.tup [aI r.1,aI r.2]):=by
 induction n generalizing a0 r
 case zero=>cases hF
 case succ n ih =>
 unfold G4 at hF
 refine cw Tryz.func236 ?_
 repeat' first
  |refine aD ?_;conv=>whnf
  |refine aJ hF (fun hF=>?_) fun hF=>?_
  |refine aM hF E6 (fun x hF=>?_)
  |refine Ad.o hF zbd (fun a h=>ih h) (fun a hF=>?_)
  |exact ⟨_,hF,aA []⟩
  |refine aL hF (aA []) fun m v hF=>?_
  |exact aB hF
instance zhp {n a0}:CI E0 (G4 n a0) true 236 [Ag a0] (fun r=>.tup [aI r.1,aI r.2]):=⟨z5w⟩
instance zg3 {n a0}:CI E0 (Pm n a0) true 282 [aI a0] (fun r=>.tup [aI r.1,.bool (r.2)]):=by unfold Pm;exact aC [1] Tryz.func282
instance zhm {n a0}:CI E0 (Me n a0) true 264 [aI a0] (fun r=>.tup [.bool (r.1),.bool (r.2)]):=by unfold Me;exact aC [2,5] Tryz.func264
instance zfx {n a0}:CI E0 (Jn n a0) true 310 [A6 a0] aI:=by unfold Jn;exact aC [] Tryz.func310
instance zfl {n a0}:CI E0 (Er n a0) true 271 [A6 a0] aI:=by unfold Er;exact aC [] Tryz.func271
instance zg1 {n a0 a1}:CI E0 (Pk n a0 a1) true 312 [aI a0,A6 a1] (fun r=>.bool (r)):=by unfold Pk;exact aC [1] Tryz.func312
instance zci {n a0}:CI E0 (P6 n a0) true 283 [Ag a0] aI:=by unfold P6;exact aC [4] Tryz.func283
instance zhn {n a0}:CI E0 (Pv n a0) true 238 [Ag a0] aI:=⟨fun {r} hF=>by
 unfold Pv at hF
 refine cw Tryz.func238 ?_
 repeat' first
  |refine aU hF (fun v hF=>?_) fun hF=>?_
  |refine AW.jI2 hF (fun v hF=>?_) fun hF=>?_
  |refine aG hF fun hF=>?_
  |refine aF [7,10,12,13,17] ?_;conv=>whnf
  |refine aJ hF (fun hF=>?_) fun hF=>?_
  |refine aX ?_
  |refine A2.f ?_
  |refine Ad.I hF fun a hF=>?_
  |exact ⟨_,hF,aA []⟩
  |exact ⟨(),hF,aA []⟩
  |refine EqX.A ?_
  |exact aB hF⟩
def z9o (r:Int):AV:=aI (r)
theorem z5a {n a0 r}(hF:G1 n a0=some r):Con E0 true 237 [Ag a0,.fn 238 []] (aI r):=by
 induction n generalizing a0 r
 case zero=>cases hF
 case succ n ih =>
 unfold G1 at hF
 refine cw Tryz.func237 ?_
 repeat' first
  |refine aD ?_;conv=>whnf
  |refine aJ hF (fun hF=>?_) fun hF=>?_
  |refine Ad.I hF fun a hF=>?_
  |refine aM hF E6 (fun x hF=>?_)
  |refine Ad.o hF z9o (fun a h=>ih h) (fun a hF=>?_)
  |exact ⟨_,hF,aA []⟩
  |refine aL hF (aA []) fun m v hF=>?_
  |exact aB hF
instance zg0 {n a0}:CI E0 (G1 n a0) true 237 [Ag a0,.fn 238 []] aI:=⟨z5a⟩
instance zg5 {n a0}:CI E0 (G2 n a0) true 178 [Ag a0] aI:=by unfold G2;exact aC [] Tryz.func178
instance z9s {n a0 a1}:CI E0 (De n a0 a1) true 117 [aI a0,aI a1] (fun r=>.bool (r)):=by unfold De;exact aC [1] Tryz.func117
end
noncomputable section
abbrev z2v {n b a0 c}:=li (Li n b a0 c) (fun d=>⟨[(0,.sl 11 (a0.map B4)),(1,.fn 177 [.ref (Pq b)]),(7,aI (((a0.map B4).length:Int))),(8,aI d)],[]⟩) fun _ _=>Li.eq_2 ..
abbrev z33 {n a1 a0 b c d}:=jf (H0 n a1 a0 b c d) (fun e=>⟨[(1,.sl 11 (a1.map B4)),(2,.ptr 2 0),(5,aI b),(6,.ptr 6 0),(11,.sl 11 (a1.map B4)),(12,aI (((a1.map B4).length:Int))),(13,aI b),(18,.bool (e))],[(2,.box 26 (B1 a0)),(6,.box 216 (Pq d))]⟩) fun _=>H0.eq_1 ..
abbrev z32 {n a1 a0 b}:=li (En n a1 a0 b) (fun c=>⟨[(1,.sl 11 (a1.map B4)),(2,.ptr 2 0),(11,.sl 11 (a1.map B4)),(12,aI (((a1.map B4).length:Int))),(13,aI c)],[(2,.box 26 (B1 a0))]⟩) fun _ _=>En.eq_2 ..
abbrev z2o {n a0 b}:=li (Ld n a0 b) (fun c=>⟨[(3,.row 7016),(6,.sl 2 (a0.map Bi)),(7,aI (((a0.map Bi).length:Int))),(8,aI c.1)],[(7016,.row 3 1 (c.2.map aI))]⟩) fun _ _=>Ld.eq_2 ..
abbrev z4p {n a1 a0 b}:=li (Lx n a1 a0 b) (fun c=>⟨[(0,.sl 1 (a0.map aI)),(1,aI a1),(7,aI (((a0.map aI).length:Int))),(8,aI c)],[]⟩) fun _ _=>Lx.eq_2 ..
abbrev z30 {n a1 a0 c b d}:=li (Fd n a1 a0 c b d) (fun e=>⟨[(2,.ptr 2 0),(6,.sl 1 (b.map aI)),(9,.sl 1 (List.map (fun q=>AV.sl 1 (List.map aI q)) (a1))),(10,aI ((((List.map (fun q=>AV.sl 1 (List.map aI q)) (a1)).length:Nat):Int))),(11,aI c),(15,.sl 1 (b.map aI)),(16,aI (((b.map aI).length:Int))),(17,aI e)],[(2,.box 26 (B1 a0))]⟩) fun _ _=>Fd.eq_2 ..
abbrev z31 {n a1 a0 b}:=li (Gz n a1 a0 b) (fun c=>⟨[(2,.ptr 2 0),(9,.sl 1 (List.map (fun q=>AV.sl 1 (List.map aI q)) (a1))),(10,aI ((((List.map (fun q=>AV.sl 1 (List.map aI q)) (a1)).length:Nat):Int))),(11,aI c)],[(2,.box 26 (B1 a0))]⟩) fun _ _=>Gz.eq_2 ..
abbrev z34 {n}:=jf (H3 n) (fun b=>⟨[(2,.bool (b))],[]⟩) fun _=>H3.eq_1 ..
abbrev z0u {n a0 b}:=li (Kq n a0 b) (fun c=>⟨[(0,.sl 2 (a0.map Bi)),(1,.fn 182 []),(7,aI (((a0.map Bi).length:Int))),(8,aI c)],[]⟩) fun _ _=>Kq.eq_2 ..
attribute [instance] z2v z33 z32 z2o z4p z30 z31 z34 z0u
instance z7t {n a0 a1}:CI E0 (Lq n a0 a1) true 177 [B4 a0,.ref (Pq a1)] (fun r=>.bool (r)):=by unfold Lq;exact aC [] Tryz.func177
instance z9q {n a0 b}:CI E0 (Ow n a0 b) true 235 [.sl 11 (a0.map B4),.fn 177 [.ref (Pq b)]] aI:=by unfold Ow;exact aC [] Tryz.func235
instance z7d {n a0 b}:CI E0 (Lj n a0 b) true 175 [.sl 11 (a0.map B4),.fn 177 [.ref (Pq b)]] (fun r=>.bool (r)):=by unfold Lj;exact aC [] Tryz.func175
instance z9v {n a0 a1}:CI E0 (P0 n a0 a1) true 110 [Br a0,.sl 11 (a1.map B4)] aI:=⟨fun {r} hF=>by
 unfold P0 at hF
 refine cw Tryz.func110 ?_
 repeat' first
  |refine aU hF (fun v hF=>?_) fun hF=>?_
  |refine aG hF fun hF=>?_
  |refine aF [6] ?_;conv=>whnf
  |refine aJ hF (fun hF=>?_) fun hF=>?_
  |refine aX ?_
  |refine aK hF fun x hF=>?_
  |refine SlsX.o B4 hF (fun l hF=>?_)
  |refine B9.I hF (fun a hF=>?_) rfl rfl fun _=>Or.inr rfl
  |refine Ad.I hF fun a hF=>?_
  |exact ⟨_,hF,aA []⟩
  |refine aL hF (aA []) fun m v hF=>?_
  |exact aB hF⟩
instance z9a {n a0}:CI E0 (Lu n a0) false 180 [.sl 2 (a0.map Bi)] (fun r=>.sl 1 (r.map aI)):=⟨fun {r} hF=>by
 unfold Lu at hF
 refine cw Tryz.func180 ?_
 repeat' first
  |refine aD ?_;conv=>whnf
  |refine aJ hF (fun hF=>?_) fun hF=>?_
  |refine aK hF fun x hF=>?_
  |refine AppX.oA hF fun l hF=>?_
  |exact ⟨_,hF,aA [(7016,16)]⟩
  |refine aL hF ?_ fun m v hF=>?_
  |exact LeX.trans (LeX.adopt 3 7016 3 1 rfl rfl) (aA [])
  |exact aB hF⟩
instance zdx {n a0 a1}:CI E0 (Si n a0 a1) true 95 [.sl 1 (a0.map aI),aI a1] aI:=by unfold Si;exact aC [] Tryz.func95
instance zaw {n a0 a1}:CI E0 (E4 n a0 a1) true 39 [.sl 1 (a0.map aI),aI a1] (fun r=>.bool (r)):=by unfold E4;exact aC [] Tryz.func39
instance z9u {n a0 a1}:CI E0 (Oz n a0 a1) true 179 [Br a0,.sl 1 (List.map (fun q=>AV.sl 1 (List.map aI q)) (a1))] aI:=⟨fun {r} hF=>by
 unfold Oz at hF
 refine cw Tryz.func179 ?_
 repeat' first
  |refine aD ?_;conv=>whnf
  |refine aJ hF (fun hF=>?_) fun hF=>?_
  |refine IdxX.o (fun q=>AV.sl 1 (List.map aI q)) hF fun x hF=>?_
  |exact ⟨_,hF,aA []⟩
  |refine aK hF fun x hF=>?_
  |refine Ad.I hF fun a hF=>?_
  |refine SlsX.o aI hF (fun l hF=>?_)
  |refine aL hF (aA []) fun m v hF=>?_
  |exact aB hF⟩
instance z9w {n a0}:CI E0 (H8 n a0) true 182 [Bi a0] (fun r=>.bool (r)):=by unfold H8;exact aC [1] Tryz.func182
instance z6w {n a0}:CI E0 (O3 n a0) true 190 [.sl 2 (a0.map Bi),.fn 182 []] aI:=by unfold O3;exact aC [] Tryz.func190
instance z5t {n a0}:CI E0 (Kr n a0) true 181 [.sl 2 (a0.map Bi),.fn 182 []] (fun r=>.bool (r)):=by unfold Kr;exact aC [] Tryz.func181
end
noncomputable section
abbrev z45 {n a1 a0 b}:=li (Fk n a1 a0 b) (fun c=>⟨[(3,.ptr 3 0),(4,.ptr 4 0),(63,.sl 8 (a1.fChecks.map idA)),(64,aI (((a1.fChecks.map idA).length:Int))),(65,aI c)],[(3,.box 26 (B1 a0)),(4,.box 149 (Cj a1))]⟩) fun _ _=>Fk.eq_2 ..
abbrev z46 {n a2 a1 a0}:=jf (Ci n a2 a1 a0) (fun b=>⟨[(2,aI a2),(3,.ptr 3 0),(4,.ptr 4 0),(12,.bool (b))],[(3,.box 26 (B1 a0)),(4,.box 149 (Cj a1))]⟩) fun _=>Ci.eq_1 ..
abbrev z3r {n a0 b}:=li (Fg n a0 b) (fun c=>⟨[(1,.ptr 1 0),(6,aI c.1),(62,.sl 17 (a0.fEdges.map A5)),(63,aI (((a0.fEdges.map A5).length:Int))),(64,aI c.2)],[(1,.box 26 (B1 a0))]⟩) fun _ _=>Fg.eq_2 ..
abbrev z3s {n a0 b}:=li (Fh n a0 b) (fun c=>⟨[(1,.ptr 1 0),(47,.sl 1 (a0.fStates.map Al)),(48,aI (((a0.fStates.map Al).length:Int))),(49,aI c)],[(1,.box 26 (B1 a0))]⟩) fun _ _=>Fh.eq_2 ..
abbrev z3t {n a0}:=jf (Cy n a0) (fun b=>⟨[(1,.ptr 1 0),(29,.bool (b))],[(1,.box 26 (B1 a0))]⟩) fun _=>Cy.eq_1 ..
abbrev z3u {n a0}:=jf (Cz n a0) (fun b=>⟨[(1,.ptr 1 0),(10,.bool (b))],[(1,.box 26 (B1 a0))]⟩) fun _=>Cz.eq_1 ..
attribute [instance] z45 z46 z3r z3s z3t z3u        
instance zcl {n a0 a1 a2}:CI E0 (Hb n a0 a1 a2) true 111 [Br a0,A5 a1,aI a2] aI:=⟨fun {r} hF=>by
 unfold Hb at hF
 refine cw Tryz.func111 ?_
 repeat' first
  |refine aU hF (fun v hF=>?_) fun hF=>?_
  |refine aG hF fun hF=>?_
  |refine aF [1] ?_;conv=>whnf
  |refine aJ hF (fun hF=>?_) fun hF=>?_
  |refine aX ?_
  |refine Ad.I hF fun a hF=>?_
  |refine aM hF E6 (fun x hF=>?_)
  |exact ⟨_,hF,aA []⟩
  |refine aL hF (aA []) fun m v hF=>?_
  |refine AndA ?_
  |exact aB hF⟩
instance zb2 {n a0}:CI E0 (C3 n a0) true 53 [Br a0] aI:=by unfold C3;exact aC [1,3] Tryz.func53
end
noncomputable section
instance z7o {n a0}:CI E0 (Cw n a0) true 98 [.bool (a0)] A6:=by unfold Cw;exact aC [] Tryz.func98
end
noncomputable section
abbrev z3w {n}:=jf (H4 n) (fun b=>⟨[(2,.bool (b))],[]⟩) fun _=>H4.eq_1 ..
abbrev z3v {n}:=jf (Fi n) (fun b=>⟨[(4,.bool (b))],[]⟩) fun _=>Fi.eq_1 ..
attribute [instance]         z3w z3v
instance zb5 {n a0}:CI E0 (M3 n a0) true 351 [aI a0] (fun r=>.bool (r)):=by unfold M3;exact aC [1] Tryz.func351
instance zb4 {n a0 a1}:CI E0 (M0 n a0 a1) true 361 [aI a0,A6 a1] (fun r=>.bool (r)):=by unfold M0;exact aC [1] Tryz.func361
instance zb3 {n a0 a1}:CI E0 (Jc n a0 a1) true 352 [aI a0,A6 a1] aI:=by unfold Jc;exact aC [] Tryz.func352
instance z9z {n a0 a1}:CI E0 (Sc n a0 a1) true 356 [aI a0,A6 a1] A6:=by unfold Sc;exact aC [] Tryz.func356
instance z7i {n}:CI E0 (S1 n) true 364 [] A6:=by unfold S1;exact aC [] Tryz.func364
def z3j (m0:A4)(m1:A4):List (Nat×Ent):=[(100000,.box 144 (Bu m0)),(100001,.box 144 (Bu m1))]
def Rp (r:A4×A4×A4):List (Nat×Ent):=[(2,.box 144 (Bu r.1)),(100000,.box 144 (Bu r.2.1)),(100001,.box 144 (Bu r.2.2))]
def Ug (r:A4×A4×A4):AV:=.agg [aI (r.1.fKind),aI (r.1.fNum),.str (r.1.fText)]
def z3c (r:A4×A4×A4):AS:=⟨[(2,.ptr 2 0),(0,.ptr 100000 0),(1,.ptr 100001 0)],Rp r⟩
end
noncomputable section
abbrev z36 {n c a1 d}:=li (Ll n c a1 d) (fun b=>⟨[(2,.fn 354 [.ref [aI c]]),(3,.ptr 3 0),(6,.ptr 6 0),(9,.sl 3 (a1.map A6)),(10,aI (((a1.map A6).length:Int))),(11,aI b.1)],[(3,.box 381 [aI b.2.1,aI b.2.2.1,aI b.2.2.2.1,aI b.2.2.2.2.1,.str (b.2.2.2.2.2)]),(6,.box 381 [aI 0,aI 0,aI 0,aI 0,.str (ByteArray.empty)])]⟩) fun _ _=>Ll.eq_2 ..
abbrev z3x {n a0}:=jf (Iw n a0) (fun b=>⟨[(1,.ptr 1 0),(10,.bool (b))],[(1,.box 381 (Xu a0))]⟩) fun _=>Iw.eq_1 ..
abbrev z37 {n a1 a0}:=jf (Iu n a1 a0) (fun b=>⟨[(2,.ptr 2 0),(3,.ptr 3 0),(4,.ptr 4 0),(29,.bool (b))],[(2,.box 381 (Xu a0)),(3,.box 144 (Bu a1)),(4,.box 144 [aI 0,aI 0,.str (ByteArray.empty)])]⟩) fun _=>Iu.eq_1 ..
abbrev z4z {n a2 a1 a0 b}:=li (M4 n a2 a1 a0 b) (fun c=>⟨[(1,.sl 3 (a1.map A6)),(3,.ptr 3 0),(5,.ptr 5 0),(6,.ptr 6 0),(22,.sl 3 (a1.map A6)),(23,aI (((a1.map A6).length:Int))),(24,aI c)],[(3,.box 3 [aI a0]),(5,.box 144 (Bu a2)),(6,.box 144 [aI 0,aI 0,.str (ByteArray.empty)])]⟩) fun _ _=>M4.eq_2 ..
attribute [instance] z36 z3x z37 z4z
theorem z20 {n m0 m1 r}(hF:Rz n m0 m1=some r):ConG E0.P none (CalF E0.P 365 0) [.ptr 100000 0,.ptr 100001 0] [] (z3j m0 m1) (Ug r) (Rp r):=by
 unfold Rz at hF
 refine aH (E:=(E0p 2)) (caps:=[]) _ aP rfl rfl rfl rfl rfl ?_
 repeat' first
  |refine aD ?_;conv=>whnf
  |exact GX.A (res:=Ug) (meF:=Rp) hF z3c
def z3i (m0:A4)(m1:A4):List (Nat×Ent):=[(100000,.box 144 (Bu m0)),(100001,.box 144 (Bu m1))]
def Ro (r:A4×A4×A4):List (Nat×Ent):=[(2,.box 144 (Bu r.1)),(100000,.box 144 (Bu r.2.1)),(100001,.box 144 (Bu r.2.2))]
def Uf (r:A4×A4×A4):AV:=.agg [aI (r.1.fKind),aI (r.1.fNum),.str (r.1.fText)]
def z3b (r:A4×A4×A4):AS:=⟨[(2,.ptr 2 0),(0,.ptr 100000 0),(1,.ptr 100001 0)],Ro r⟩
theorem z1z {n m0 m1 r}(hF:Ry n m0 m1=some r):ConG E0.P none (CalF E0.P 366 0) [.ptr 100000 0,.ptr 100001 0] [] (z3i m0 m1) (Uf r) (Ro r):=by
 unfold Ry at hF
 refine aH (E:=(E0p 2)) (caps:=[]) _ aQ rfl rfl rfl rfl rfl ?_
 repeat' first
  |refine aD ?_;conv=>whnf
  |exact GX.A (res:=Uf) (meF:=Ro) hF z3b
def z3h (m0:A4)(m1:A4):List (Nat×Ent):=[(100000,.box 144 (Bu m0)),(100001,.box 144 (Bu m1))]
def Rn (r:A4×A4×A4):List (Nat×Ent):=[(2,.box 144 (Bu r.1)),(100000,.box 144 (Bu r.2.1)),(100001,.box 144 (Bu r.2.2))]
def Ue (r:A4×A4×A4):AV:=.agg [aI (r.1.fKind),aI (r.1.fNum),.str (r.1.fText)]
def z3a (r:A4×A4×A4):AS:=⟨[(2,.ptr 2 0),(0,.ptr 100000 0),(1,.ptr 100001 0)],Rn r⟩
theorem z1y {n m0 m1 r}(hF:Rx n m0 m1=some r):ConG E0.P none (CalF E0.P 367 0) [.ptr 100000 0,.ptr 100001 0] [] (z3h m0 m1) (Ue r) (Rn r):=by
 unfold Rx at hF
 refine aH (E:=(E0p 2)) (caps:=[]) _ aR rfl rfl rfl rfl rfl ?_
 repeat' first
  |refine aD ?_;conv=>whnf
  |exact GX.A (res:=Ue) (meF:=Rn) hF z3a
def z3g (m0:A4):List (Nat×Ent):=[(100000,.box 144 (Bu m0))]
def Rm (r:A4×A4):List (Nat×Ent):=[(1,.box 144 (Bu r.1)),(100000,.box 144 (Bu r.2))]
def Ud (r:A4×A4):AV:=.agg [aI (r.1.fKind),aI (r.1.fNum),.str (r.1.fText)]
def z39 (r:A4×A4):AS:=⟨[(1,.ptr 1 0),(0,.ptr 100000 0)],Rm r⟩
theorem z1x {n m0 r}(hF:Rw n m0=some r):ConG E0.P none (CalF E0.P 368 0) [.ptr 100000 0] [] (z3g m0) (Ud r) (Rm r):=by
 unfold Rw at hF
 refine aH (E:=(E0p 1)) (caps:=[]) _ aS rfl rfl rfl rfl rfl ?_
 repeat' first
  |refine aD ?_;conv=>whnf
  |exact GX.A (res:=Ud) (meF:=Rm) hF z39
def z3f (m0:A4):List (Nat×Ent):=[(100000,.box 144 (Bu m0))]
def Rl (r:A4×A4):List (Nat×Ent):=[(1,.box 144 (Bu r.1)),(100000,.box 144 (Bu r.2))]
def Uc (r:A4×A4):AV:=.agg [aI (r.1.fKind),aI (r.1.fNum),.str (r.1.fText)]
def z38 (r:A4×A4):AS:=⟨[(1,.ptr 1 0),(0,.ptr 100000 0)],Rl r⟩
theorem z1w {n m0 r}(hF:Rv n m0=some r):ConG E0.P none (CalF E0.P 369 0) [.ptr 100000 0] [] (z3f m0) (Uc r) (Rl r):=by
 unfold Rv at hF
 refine aH (E:=(E0p 1)) (caps:=[]) _ aT rfl rfl rfl rfl rfl ?_
 repeat' first
  |refine aD ?_;conv=>whnf
  |exact GX.A (res:=Uc) (meF:=Rl) hF z38
instance z9c {n a0 a1 a2}:CI E0 (Ou n a0 a1 a2) true 362 [aI a0,A6 a1,A6 a2] A6:=⟨fun {r} hF=>by
 unfold Ou at hF
 refine cw Tryz.func362 ?_
 repeat' first
  |refine aD ?_;conv=>whnf
  |refine NatX.oS hF rfl (fun hF=>?_) (fun hF=>?_)
  |(cases hF;done)
  |refine Ad.I hF fun a hF=>?_
  |refine B9.oM (Bb 15 hF) [(100000,4),(100001,5)] [(2,16000000),(100000,4),(100001,5)] _ _ Rp Ug [] (fun a h=>aN (z20 h)) (Ay aP rfl rfl) rfl rfl rfl ⟨⟨rfl,rfl⟩,⟨⟨rfl,rfl⟩,trivial⟩⟩ (fun a=>⟨rfl,rfl,rfl,rfl,rfl,rfl,rfl,rfl⟩) (fun a hF=>?_)
  |refine B9.oM (Bb 15 hF) [(100000,4),(100001,5)] [(2,16000000),(100000,4),(100001,5)] _ _ Ro Uf [] (fun a h=>aN (z1z h)) (Ay aQ rfl rfl) rfl rfl rfl ⟨⟨rfl,rfl⟩,⟨⟨rfl,rfl⟩,trivial⟩⟩ (fun a=>⟨rfl,rfl,rfl,rfl,rfl,rfl,rfl,rfl⟩) (fun a hF=>?_)
  |refine B9.oM (Bb 15 hF) [(100000,4),(100001,5)] [(2,16000000),(100000,4),(100001,5)] _ _ Rn Ue [] (fun a h=>aN (z1y h)) (Ay aR rfl rfl) rfl rfl rfl ⟨⟨rfl,rfl⟩,⟨⟨rfl,rfl⟩,trivial⟩⟩ (fun a=>⟨rfl,rfl,rfl,rfl,rfl,rfl,rfl,rfl⟩) (fun a hF=>?_)
  |refine B9.oM (Bb 15 hF) [(100000,4)] [(1,16000000),(100000,4)] _ _ Rm Ud [] (fun a h=>aN (z1x h)) (Ay aS rfl rfl) rfl rfl rfl ⟨⟨rfl,rfl⟩,trivial⟩ (fun a=>⟨rfl,rfl,rfl,rfl,rfl,rfl,rfl,rfl⟩) (fun a hF=>?_)
  |refine B9.oM (Bb 15 hF) [(100000,5)] [(1,16000000),(100000,5)] _ _ Rl Uc [] (fun a h=>aN (z1w h)) (Ay aT rfl rfl) rfl rfl rfl ⟨⟨rfl,rfl⟩,trivial⟩ (fun a=>⟨rfl,rfl,rfl,rfl,rfl,rfl,rfl,rfl⟩) (fun a hF=>?_)
  |exact aB hF⟩
instance za0 {n a0 a1}:CI E0 (Sd n a0 a1) true 355 [Fn a0,Fn a1] Fn:=by unfold Sd;exact aC [] Tryz.func355
instance zcm {n a0 a1 a2}:CI E0 (Sf n a0 a1 a2) true 354 [Fn a0,A6 a1,.ref [aI a2]] Fn:=by unfold Sf;exact aC [] Tryz.func354
instance za1 {n a0 a1 b}:CI E0 (P2 n a0 a1 b) true 353 [Fn a0,.sl 3 (a1.map A6),.fn 354 [.ref [aI b]]] Fn:=by unfold P2;exact aC [] Tryz.func353
instance zb6 {n a0}:CI E0 (P5 n a0) true 363 [Fn a0] aI:=by unfold P5;exact aC [3,7,9,11,6] Tryz.func363
instance za2 {n a0 a1}:CI E0 (Lv n a0 a1) true 357 [Fn a0,A6 a1] (fun r=>.tup [A6 r.1,aI r.2]):=by unfold Lv;exact aC [9] Tryz.func357
instance ze4 {n a0 a1 a2}:CI E0 (Mc n a0 a1 a2) true 347 [aI a0,.sl 3 (a1.map A6),A6 a2] (fun r=>.tup [A6 r.1,aI r.2]):=⟨fun {r} hF=>by
 unfold Mc at hF
 refine cw Tryz.func347 ?_
 repeat' first
  |refine aD ?_;conv=>whnf
  |refine aJ hF (fun hF=>?_) fun hF=>?_
  |refine Ad.I hF fun a hF=>?_
  |refine B9.I hF (fun a hF=>?_) rfl rfl fun _=>Or.inr rfl
  |refine aK hF fun x hF=>?_
  |exact ⟨_,hF,aA []⟩
  |refine aL hF (aA []) fun m v hF=>?_
  |exact aB hF⟩
instance zhs {n a0}:CI E0 (Px n a0) true 207 [aI a0] (fun r=>.bool (r)):=by unfold Px;exact aC [] Tryz.func207
instance zfq {n a0 a1}:CI E0 (D0 n a0 a1) true 133 [aI a0,aI a1] aI:=by unfold D0;exact aC [] Tryz.func133
end
noncomputable section
abbrev zb7 {n a0 b}:=li (Py n a0 b) (fun c=>⟨[(3,aI 0),(6,.sl 1 (a0.map aI)),(7,aI (((a0.map aI).length:Int))),(8,aI c)],[]⟩) fun _ _=>Py.eq_2 ..
attribute [instance] zb7     
instance zk8 {n a0}:CI E0 (G5 n a0) true 131 [.sl 1 (a0.map aI)] aI:=by unfold G5;exact aC [] Tryz.func131
end
noncomputable section
abbrev z4q {n}:=jf (J9 n) (fun b=>⟨[(2,.bool (b))],[]⟩) fun _=>J9.eq_1 ..
abbrev z49 {n}:=jf (E3 n) (fun b=>⟨[(2,.bool (b))],[]⟩) fun _=>E3.eq_1 ..
abbrev z54 {n a0 b c}:=jf (E5 n a0 b c) (fun d=>⟨[(0,.str (a0)),(18,aI (((a0.size:Nat):Int))),(19,aI b),(33,.bool (d))],[]⟩) fun _=>E5.eq_1 ..
abbrev z53 {n a0 b}:=li (Df n a0 b) (fun c=>⟨[(0,.str (a0)),(18,aI (((a0.size:Nat):Int))),(19,aI c)],[]⟩) fun _ _=>Df.eq_2 ..
abbrev z55 {n a0}:=jf (Dg n a0) (fun b=>⟨[(0,.str (a0)),(16,.bool (b))],[]⟩) fun _=>Dg.eq_1 ..
abbrev z2w {n}:=jf (Io n) (fun b=>⟨[(2,.bool (b))],[]⟩) fun _=>Io.eq_1 ..
abbrev z4s {n a0 b c d}:=jf (H9 n a0 b c d) (fun e=>⟨[(3,.row 14),(5,.ptr 5 0),(16,.sl 2 (a0.fFields.map Cu)),(17,aI (((a0.fFields.map Cu).length:Int))),(18,aI b.1),(32,.bool (e))],[(5,.box 164 (zb9 d)),(14,.mp (List.map (encM AV.str AV.bool) (b.2)))]⟩) fun _=>H9.eq_1 ..
abbrev z4r {n a0 b}:=li (Fp n a0 b) (fun c=>⟨[(3,.row 14),(16,.sl 2 (a0.fFields.map Cu)),(17,aI (((a0.fFields.map Cu).length:Int))),(18,aI c.1)],[(14,.mp (List.map (encM AV.str AV.bool) (c.2)))]⟩) fun _ _=>Fp.eq_2 ..
abbrev z3k {n a0 b}:=li (Ln n a0 b) (fun c=>⟨[(3,.row 10),(11,.sl 2 (a0.map Ap)),(12,aI (((a0.map Ap).length:Int))),(13,aI c.1)],[(10,.mp (List.map (encM AV.str AV.bool) (c.2)))]⟩) fun _ _=>Ln.eq_2 ..
abbrev z4u {n}:=jf (Ja n) (fun b=>⟨[(24,.bool (b))],[]⟩) fun _=>Ja.eq_1 ..
abbrev z2p {n a1 a0 b}:=li (Il n a1 a0 b) (fun c=>⟨[(1,aI a1),(5,.row 7023),(9,.sl 17 (a0.fEdges.map A5)),(10,aI (((a0.fEdges.map A5).length:Int))),(11,aI c.1)],[(7023,.row 3 1 (c.2.map aI))]⟩) fun _ _=>Il.eq_2 ..
abbrev z0o {n a1 x1 b}:=li (Hr n a1 x1 b) (fun c=>⟨[(1,.ref (B1 a1)),(4,.row 7027),(10,.sl 1 (x1.map aI)),(11,aI (((x1.map aI).length:Int))),(12,aI c.1)],[(7027,.row 3 1 (c.2.map aI))]⟩) fun _ _=>Hr.eq_2 ..
attribute [instance]   z4q z49 z54 z53 z55 z2w z4s z4r z3k z4u z2p z0o
instance zdy {n a0}:CI E0 (Fw n a0) true 280 [.int .u8 (a0)] (fun r=>.bool (r)):=by unfold Fw;exact aC [1] Tryz.func280
instance zdf {n a0}:CI E0 (M6 n a0) true 281 [.int .u8 (a0)] (fun r=>.bool (r)):=by unfold M6;exact aC [1] Tryz.func281
instance zfm {n a0}:CI E0 (Md n a0) true 231 [.str (a0)] (fun r=>.bool (r)):=⟨fun {r} hF=>by
 unfold Md at hF
 refine cw Tryz.func231 ?_
 repeat' first
  |refine aU hF (fun v hF=>?_) fun hF=>?_
  |refine aG hF fun hF=>?_
  |refine aF [1,6] ?_;conv=>whnf
  |refine aJ hF (fun hF=>?_) fun hF=>?_
  |refine aX ?_
  |refine A2.f ?_
  |exact ⟨_,hF,aA []⟩
  |refine OpX.idb hF rfl rfl rfl rfl rfl rfl rfl rfl (fun b hF=>?_)
  |refine Ad.I hF fun a hF=>?_
  |refine aL hF (aA []) fun m v hF=>?_
  |refine AndA ?_
  |refine EqX.A ?_
  |exact aB hF⟩
instance z9r {n a0}:CI E0 (Ox n a0) true 232 [.str (a0)] (fun r=>.bool (r)):=by unfold Ox;exact aC [1] Tryz.func232
theorem U5 (a b:ByteArray):eqK (AV.str a) (AV.str b)=some (decide (a=b)):=by simp [eqK,eq1,aI,Jr]
instance zdz {n a0}:CI E0 (Pg n a0) true 173 [Ap a0] aI:=⟨fun {r} hF=>by
 unfold Pg at hF
 refine cw Tryz.func173 ?_
 repeat' first
  |refine aU hF (fun v hF=>?_) fun hF=>?_
  |refine aG hF fun hF=>?_
  |refine aF [13] ?_;conv=>whnf
  |refine aJ hF (fun hF=>?_) fun hF=>?_
  |refine aX ?_
  |refine A2.f ?_
  |refine Ad.I hF fun a hF=>?_
  |refine aK hF fun x hF=>?_
  |refine LkX.o AV.str AV.bool hF (by first|rfl|kernel_rfl) U5 (.refl _) (fun v b hF=>?_)
  |refine UpX.o AV.str AV.bool hF (by first|rfl|kernel_rfl) U5 (.refl _) (fun l hF=>?_)
  |exact ⟨_,hF,aA []⟩
  |refine aL hF (aA []) fun m v hF=>?_
  |refine AndA ?_
  |refine EqX.A ?_
  |exact aB hF⟩
instance zax {n a0}:CI E0 (D6 n a0) true 104 [.sl 2 (a0.map Ap)] aI:=⟨fun {r} hF=>by
 unfold D6 at hF
 refine cw Tryz.func104 ?_
 repeat' first
  |refine aD ?_;conv=>whnf
  |refine aJ hF (fun hF=>?_) fun hF=>?_
  |refine aX ?_
  |refine A2.f ?_
  |refine aK hF fun x hF=>?_
  |refine Ad.I hF fun a hF=>?_
  |refine LkX.o AV.str AV.bool hF (by first|rfl|kernel_rfl) U5 (.refl _) (fun v b hF=>?_)
  |refine UpX.o AV.str AV.bool hF (by first|rfl|kernel_rfl) U5 (.refl _) (fun l hF=>?_)
  |exact ⟨_,hF,aA []⟩
  |refine aL hF (aA []) fun m v hF=>?_
  |refine AndA ?_
  |refine EqX.A ?_
  |exact aB hF⟩
instance ze1 {n a0 a1 a2}:CI E0 (Fx n a0 a1 a2) true 48 [.sl 2 (a0.map Ap),Br a1,aI a2] aI:=by unfold Fx;exact aC [7] Tryz.func48
instance z9b {n a0 a1}:CI E0 (Ot n a0 a1) false 118 [Br a0,aI a1] (fun r=>.sl 1 (r.map aI)):=⟨fun {r} hF=>by
 unfold Ot at hF
 refine cw Tryz.func118 ?_
 repeat' first
  |refine aG hF fun hF=>?_
  |refine aF [5] ?_;conv=>whnf
  |refine aJ hF (fun hF=>?_) fun hF=>?_
  |refine aX ?_
  |refine A2.f ?_
  |refine aK hF fun x hF=>?_
  |refine AppX.oA hF fun l hF=>?_
  |exact ⟨_,hF,aA [(7023,23)]⟩
  |exact ⟨_,hF,aA []⟩
  |refine aL hF ?_ fun m v hF=>?_
  |exact LeX.trans (LeX.adopt 5 7023 3 1 rfl rfl) (aA [])
  |refine AndA ?_
  |refine EqX.A ?_
  |exact aB hF⟩
end
end Go.Proofs.YthbogefcfhmpgaaGreat
