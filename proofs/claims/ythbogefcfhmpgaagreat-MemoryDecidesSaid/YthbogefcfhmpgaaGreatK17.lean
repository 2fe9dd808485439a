/- What some functions compute, over plain values. -/
import Derived.Test.YthbogefcfhmpgaaGreatK16
set_option linter.unusedVariables false
set_option linter.unusedSimpArgs false
set_option maxRecDepth 100000
set_option maxHeartbeats 8000000
namespace Go.Proofs.YthbogefcfhmpgaaGreat
open Go.RowKit
open LeX renaming a->aA,trans->aG,adopt->aK
open RetX renaming oB->aB
open CI renaming w->aC
open Tryz renaming func284->aD,func365->aZ,func366->bA,func367->bB,func368->bC,func369->bD,func239->bE
open AW renaming stepU->aE,step->aF,regO->aH,frzO->aU,jI->aY
open IdxX renaming A->aJ,oD->aX
open ConG renaming up->aL,walk->aN
open A4 renaming o->aM,t->aS,f->aT
open Av renaming I->aO
open AppX renaming oA->aP
open EqX renaming A->aQ
open Af renaming I->aR
open B4 renaming oM->aW
noncomputable section
abbrev z5z {n}:=jf (Mf n) (fun b=>⟨[(4,.bool (b))],[]⟩) fun _=>Mf.eq_1 ..
abbrev z22 {n a1 a0 b c}:=li (P3 n a1 a0 b c) (fun d=>⟨[(1,.sl 11 (a1.map B1)),(2,.ptr 2 0),(5,aI b),(6,aI d)],[(2,.box 26 (Ar a0))]⟩) fun _ _=>P3.eq_2 ..
abbrev z24 {n a1 a0 b c}:=jf (J1 n a1 a0 b c) (fun d=>⟨[(1,.sl 11 (a1.map B1)),(2,.ptr 2 0),(5,aI b),(44,.bool (d))],[(2,.box 26 (Ar a0))]⟩) fun _=>J1.eq_1 ..
abbrev z23 {n a1 a0 b}:=li (G1 n a1 a0 b) (fun c=>⟨[(1,.sl 11 (a1.map B1)),(2,.ptr 2 0),(5,aI c)],[(2,.box 26 (Ar a0))]⟩) fun _ _=>G1.eq_2 ..
abbrev z1z {n a1 a0 b c}:=li (P2 n a1 a0 b c) (fun d=>⟨[(0,.sl 1 (a0.map aI)),(1,aI a1),(5,aI b),(6,aI d)],[]⟩) fun _ _=>P2.eq_2 ..
abbrev z20 {n a1 a0 b}:=li (Lb n a1 a0 b) (fun c=>⟨[(0,.sl 1 (a0.map aI)),(1,aI a1),(5,aI c)],[]⟩) fun _ _=>Lb.eq_2 ..
abbrev z33 {n a1 b}:=li (Ln n a1 b) (fun c=>⟨[(3,.ptr 3 0),(10,aI c)],[(3,.box 149 (Bq a1))]⟩) fun _ _=>Ln.eq_2 ..
abbrev z34 {n a1 a0 b c}:=li (H7 n a1 a0 b c) (fun d=>⟨[(2,.ptr 2 0),(3,.ptr 3 0),(7,.sl 1 [.sl 1 (a1.fOpens.map aI),.sl 1 (a1.fCloses.map aI),.sl 1 (a1.fInside.map aI),.sl 1 (b.map aI)]),(8,aI d)],[(2,.box 26 (Ar a0)),(3,.box 149 (Bq a1))]⟩) fun _ _=>H7.eq_2 ..
abbrev z35 {n a1 a0 b}:=li (Pf n a1 a0 b) (fun c=>⟨[(2,.ptr 2 0),(3,.ptr 3 0),(5,.row 7026),(6,aI c.1)],[(2,.box 26 (Ar a0)),(3,.box 149 (Bq a1)),(7026,.row 3 1 (c.2.map aI))]⟩) fun _ _=>Pf.eq_2 ..
abbrev z4p {n a1 a0 b}:=li (Pw n a1 a0 b) (fun c=>⟨[(3,.ptr 3 0),(4,.ptr 4 0),(9,aI c)],[(3,.box 26 (Ar a0)),(4,.box 149 (Bq a1))]⟩) fun _ _=>Pw.eq_2 ..
abbrev z4q {n a2 a1 a0}:=jf (Dr n a2 a1 a0) (fun b=>⟨[(2,aI a2),(3,.ptr 3 0),(4,.ptr 4 0),(42,.bool (b))],[(3,.box 26 (Ar a0)),(4,.box 149 (Bq a1))]⟩) fun _=>Dr.eq_1 ..
abbrev z36 {n a0 b}:=li (Pg n a0 b) (fun c=>⟨[(1,.ptr 1 0),(5,aI c.1),(6,aI c.2)],[(1,.box 26 (Ar a0))]⟩) fun _ _=>Pg.eq_2 ..
abbrev z37 {n a0 b}:=li (Ph n a0 b) (fun c=>⟨[(1,.ptr 1 0),(3,aI c)],[(1,.box 26 (Ar a0))]⟩) fun _ _=>Ph.eq_2 ..
abbrev z38 {n a0}:=jf (G4 n a0) (fun b=>⟨[(1,.ptr 1 0),(31,.bool (b))],[(1,.box 26 (Ar a0))]⟩) fun _=>G4.eq_1 ..
abbrev z39 {n a0}:=jf (H8 n a0) (fun b=>⟨[(1,.ptr 1 0),(15,.bool (b))],[(1,.box 26 (Ar a0))]⟩) fun _=>H8.eq_1 ..
attribute [instance] z5z z22 z24 z23 z1z z20 z33 z34 z35 z4p z4q z36 z37 z38 z39
instance zg5 {n a0}:CI E0 (Eb n a0) true 134 [Ao a0] aI:=by unfold Eb;exact aC [] Tryz.func134
instance zjo {n a0 a1}:CI E0 (Cy n a0 a1) true 65 [aI a0,aI a1] (fun r=>.bool (r)):=by unfold Cy;exact aC [1] Tryz.func65
instance zeu {n a0 a1}:CI E0 (T0 n a0 a1) true 66 [B2 a0,.sl 11 (a1.map B1)] aI:=by unfold T0;exact aC [6] Tryz.func66
instance zes {n a0 a1}:CI E0 (Q1 n a0 a1) true 209 [.sl 1 (a0.map aI),aI a1] aI:=by unfold Q1;exact aC [] Tryz.func209
instance zfx {n a0 a1}:CI E0 (Qb n a0 a1) true 135 [B2 a0,Ab a1] aI:=⟨fun {r} hF=>by
 unfold Qb at hF
 refine cw Tryz.func135 ?_
 repeat' first
  |refine aH hF fun hF=>?_
  |refine aU hF 7026 rfl (fun hF=>?_)
  |refine aE [6] ?_;conv=>whnf
  |refine aM hF (fun hF=>?_) fun hF=>?_
  |refine aJ hF fun x hF=>?_
  |refine aR hF fun a hF=>?_
  |exact ⟨_,hF,aA []⟩
  |refine aO hF ?_ fun m v hF=>?_
  |exact aA []
  |refine IdxX.o (fun q=>AV.sl 1 (List.map aI q)) hF fun x hF=>?_
  |refine aP hF fun l hF=>?_
  |exact ⟨_,hF,aA [(7026,26)]⟩
  |exact aG (aK 5 7026 3 1 rfl rfl) (aA [])
  |refine AndA ?_
  |exact aB hF⟩
instance zh7 {n a0 a1 a2}:CI E0 (Te n a0 a1 a2) true 67 [B2 a0,Ab a1,aI a2] aI:=⟨fun {r} hF=>by
 unfold Te at hF
 refine cw Tryz.func67 ?_
 repeat' first
  |refine aY hF (fun v hF=>?_) fun hF=>?_
  |refine aH hF fun hF=>?_
  |refine aE [2] ?_;conv=>whnf
  |refine aM hF (fun hF=>?_) fun hF=>?_
  |refine aS ?_
  |refine aT ?_
  |refine aR hF fun a hF=>?_
  |refine aX hF Da (fun x hF=>?_)
  |exact ⟨_,hF,aA []⟩
  |refine aO hF (aA []) fun m v hF=>?_
  |exact aB hF⟩
end
noncomputable section
abbrev zdi {n b a0 d}:=li (Rh n b a0 d) (fun c=>⟨[(4,aI c.1),(5,aI c.2.1),(11,.sl 8 (a0.fArgs.map idA)),(12,aI (((a0.fArgs.map idA).length:Int))),(13,aI c.2.2)],[]⟩) fun _ _=>Rh.eq_2 ..
abbrev zc9 {n a0}:=jf (Nd n a0) (fun b=>⟨[(0,aI a0),(4,.bool (b))],[]⟩) fun _=>Nd.eq_1 ..
abbrev zdb {n}:=jt (Nh n) (fun b=>⟨[(8,.bool (b))],[]⟩) fun _=>Nh.eq_1 ..
abbrev zdc {n a0}:=jt (Ni n a0) (fun b=>⟨[(4,aI a0),(5,.bool (b))],[]⟩) fun _=>Ni.eq_1 ..
abbrev zc8 {n}:=jf (Ki n) (fun b=>⟨[(4,.bool (b))],[]⟩) fun _=>Ki.eq_1 ..
abbrev z8k {n}:=jf (Hy n) (fun b=>⟨[(31,.bool (b))],[]⟩) fun _=>Hy.eq_1 ..
abbrev zdd {n}:=jf (Bz n) (fun b=>⟨[(113,.bool (b))],[]⟩) fun _=>Bz.eq_1 ..
abbrev zde {n a0 x2 b}:=jt (Nj n a0 x2 b) (fun _=>⟨[(1,.ptr 1 0),(5,.bool (x2.1)),(6,.bool (x2.2)),(7,.bool (decide (a0.fOp=4))),(8,.bool (b))],[(1,.box 146 (C9 a0))]⟩) fun _=>Nj.eq_1 ..
abbrev zdf {n a0 x2}:=jf (Nk n a0 x2) (fun b=>⟨[(1,.ptr 1 0),(5,.bool (x2.1)),(6,.bool (x2.2)),(7,.bool (decide (a0.fOp=4))),(8,.bool (b))],[(1,.box 146 (C9 a0))]⟩) fun _=>Nk.eq_1 ..
abbrev zdg {n a0 x2}:=jf (Kk n a0 x2) (fun b=>⟨[(1,.ptr 1 0),(5,.bool (x2.1)),(6,.bool (x2.2)),(7,.bool (decide (a0.fOp=4))),(66,.bool (b))],[(1,.box 146 (C9 a0))]⟩) fun _=>Kk.eq_1 ..
abbrev zdh {n a0 x2}:=jf (Eh n a0 x2) (fun b=>⟨[(1,.ptr 1 0),(5,.bool (x2.1)),(6,.bool (x2.2)),(52,.bool (b))],[(1,.box 146 (C9 a0))]⟩) fun _=>Eh.eq_1 ..
abbrev zc7 {n b a0 c}:=li (Re n b a0 c) (fun d=>⟨[(1,.fn 238 []),(16,.sl 8 (a0.fArgs.map idA)),(17,aI (((a0.fArgs.map idA).length:Int))),(18,aI d)],[]⟩) fun _ _=>Re.eq_2 ..
abbrev z6y {n}:=jf (Ms n) (fun b=>⟨[(4,.bool (b))],[]⟩) fun _=>Ms.eq_1 ..
attribute [instance] zdi zc9 zdb zdc zc8 z8k zdd zde zdf zdg zdh zc7 z6y
instance zfy {n a0}:CI E0 (E9 n a0) true 19 [B2 a0] aI:=by unfold E9;exact aC [1,3] Tryz.func19
def zn0 (r:Int×Int):AV:=.tup [aI (r.1),aI (r.2)]
theorem zci {n a0 r}(hF:Ia n a0=some r):Con E0 true 236 [Ao a0] (.tup [aI r.1,aI r.2]):=by
 induction n generalizing a0 r
 case zero=>cases hF
 case succ n ih =>
 unfold Ia at hF
 refine cw Tryz.func236 ?_
 repeat' first
  |refine aF ?_;conv=>whnf
  |refine aM hF (fun hF=>?_) fun hF=>?_
  |refine aX hF Da (fun x hF=>?_)
  |refine Af.o hF zn0 (fun a h=>ih h) (fun a hF=>?_)
  |exact ⟨_,hF,aA []⟩
  |refine aO hF (aA []) fun m v hF=>?_
  |exact aB hF
instance zv8 {n a0}:CI E0 (Ia n a0) true 236 [Ao a0] (fun r=>.tup [aI r.1,aI r.2]):=⟨zci⟩
instance ztg {n a0}:CI E0 (Ui n a0) true 282 [aI a0] (fun r=>.tup [aI r.1,.bool (r.2)]):=by unfold Ui;exact aC [1] Tryz.func282
instance zv5 {n a0}:CI E0 (Rl n a0) true 264 [aI a0] (fun r=>.tup [.bool (r.1),.bool (r.2)]):=by unfold Rl;exact aC [2,5] Tryz.func264
instance zta {n a0}:CI E0 (Nm n a0) true 310 [Ac a0] aI:=by unfold Nm;exact aC [] Tryz.func310
instance zsr {n a0}:CI E0 (Gs n a0) true 271 [Ac a0] aI:=by unfold Gs;exact aC [] Tryz.func271
instance zte {n a0 a1}:CI E0 (Uh n a0 a1) true 312 [aI a0,Ac a1] (fun r=>.bool (r)):=by unfold Uh;exact aC [1] Tryz.func312
instance zoe {n a0}:CI E0 (U8 n a0) true 283 [Ao a0] aI:=by unfold U8;exact aC [4] Tryz.func283
instance zv6 {n a0}:CI E0 (Up n a0) true 238 [Ao a0] aI:=⟨fun {r} hF=>by
 unfold Up at hF
 refine cw Tryz.func238 ?_
 repeat' first
  |refine aY hF (fun v hF=>?_) fun hF=>?_
  |refine AW.jI2 hF (fun v hF=>?_) fun hF=>?_
  |refine aH hF fun hF=>?_
  |refine aE [7,10,12,13,17] ?_;conv=>whnf
  |refine aM hF (fun hF=>?_) fun hF=>?_
  |refine aS ?_
  |refine aT ?_
  |refine aR hF fun a hF=>?_
  |exact ⟨_,hF,aA []⟩
  |exact ⟨(),hF,aA []⟩
  |refine aQ ?_
  |exact aB hF⟩
def zkp (r:Int):AV:=aI (r)
theorem zb0 {n a0 r}(hF:I7 n a0=some r):Con E0 true 237 [Ao a0,.fn 238 []] (aI r):=by
 induction n generalizing a0 r
 case zero=>cases hF
 case succ n ih =>
 unfold I7 at hF
 refine cw Tryz.func237 ?_
 repeat' first
  |refine aF ?_;conv=>whnf
  |refine aM hF (fun hF=>?_) fun hF=>?_
  |refine aR hF fun a hF=>?_
  |refine aX hF Da (fun x hF=>?_)
  |refine Af.o hF zkp (fun a h=>ih h) (fun a hF=>?_)
  |exact ⟨_,hF,aA []⟩
  |refine aO hF (aA []) fun m v hF=>?_
  |exact aB hF
instance ztd {n a0}:CI E0 (I7 n a0) true 237 [Ao a0,.fn 238 []] aI:=⟨zb0⟩
instance zti {n a0}:CI E0 (I8 n a0) true 178 [Ao a0] aI:=by unfold I8;exact aC [] Tryz.func178
instance zku {n a0 a1}:CI E0 (Et n a0 a1) true 117 [aI a0,aI a1] (fun r=>.bool (r)):=by unfold Et;exact aC [1] Tryz.func117
end
noncomputable section
abbrev z6s {n b a0 c}:=li (Qf n b a0 c) (fun d=>⟨[(0,.sl 11 (a0.map B1)),(1,.fn 177 [.ref (Um b)]),(7,aI (((a0.map B1).length:Int))),(8,aI d)],[]⟩) fun _ _=>Qf.eq_2 ..
abbrev z73 {n a1 a0 b c d}:=jf (Jy n a1 a0 b c d) (fun e=>⟨[(1,.sl 11 (a1.map B1)),(2,.ptr 2 0),(5,aI b),(6,.ptr 6 0),(11,.sl 11 (a1.map B1)),(12,aI (((a1.map B1).length:Int))),(13,aI b),(18,.bool (e))],[(2,.box 26 (Ar a0)),(6,.box 216 (Um d))]⟩) fun _=>Jy.eq_1 ..
abbrev z72 {n a1 a0 b}:=li (Gj n a1 a0 b) (fun c=>⟨[(1,.sl 11 (a1.map B1)),(2,.ptr 2 0),(11,.sl 11 (a1.map B1)),(12,aI (((a1.map B1).length:Int))),(13,aI c)],[(2,.box 26 (Ar a0))]⟩) fun _ _=>Gj.eq_2 ..
abbrev z6h {n a0 b}:=li (Q8 n a0 b) (fun c=>⟨[(3,.row 7016),(6,.sl 2 (a0.map Bn)),(7,aI (((a0.map Bn).length:Int))),(8,aI c.1)],[(7016,.row 3 1 (c.2.map aI))]⟩) fun _ _=>Q8.eq_2 ..
abbrev z9h {n a1 a0 b}:=li (R4 n a1 a0 b) (fun c=>⟨[(0,.sl 1 (a0.map aI)),(1,aI a1),(7,aI (((a0.map aI).length:Int))),(8,aI c)],[]⟩) fun _ _=>R4.eq_2 ..
abbrev z70 {n a1 a0 c b d}:=li (Hs n a1 a0 c b d) (fun e=>⟨[(2,.ptr 2 0),(6,.sl 1 (b.map aI)),(9,.sl 1 (List.map (fun q=>AV.sl 1 (List.map aI q)) (a1))),(10,aI ((((List.map (fun q=>AV.sl 1 (List.map aI q)) (a1)).length:Nat):Int))),(11,aI c),(15,.sl 1 (b.map aI)),(16,aI (((b.map aI).length:Int))),(17,aI e)],[(2,.box 26 (Ar a0))]⟩) fun _ _=>Hs.eq_2 ..
abbrev z71 {n a1 a0 b}:=li (Jx n a1 a0 b) (fun c=>⟨[(2,.ptr 2 0),(9,.sl 1 (List.map (fun q=>AV.sl 1 (List.map aI q)) (a1))),(10,aI ((((List.map (fun q=>AV.sl 1 (List.map aI q)) (a1)).length:Nat):Int))),(11,aI c)],[(2,.box 26 (Ar a0))]⟩) fun _ _=>Jx.eq_2 ..
abbrev z74 {n}:=jf (Jz n) (fun b=>⟨[(2,.bool (b))],[]⟩) fun _=>Jz.eq_1 ..
abbrev z2c {n a0 b}:=li (P8 n a0 b) (fun c=>⟨[(0,.sl 2 (a0.map Bn)),(1,.fn 182 []),(7,aI (((a0.map Bn).length:Int))),(8,aI c)],[]⟩) fun _ _=>P8.eq_2 ..
attribute [instance] z6s z73 z72 z6h z9h z70 z71 z74 z2c
instance zhp {n a0 a1}:CI E0 (Qs n a0 a1) true 177 [B1 a0,.ref (Um a1)] (fun r=>.bool (r)):=by unfold Qs;exact aC [] Tryz.func177
instance zks {n a0 b}:CI E0 (Ty n a0 b) true 235 [.sl 11 (a0.map B1),.fn 177 [.ref (Um b)]] aI:=by unfold Ty;exact aC [] Tryz.func235
instance zgj {n a0 b}:CI E0 (Qg n a0 b) true 175 [.sl 11 (a0.map B1),.fn 177 [.ref (Um b)]] (fun r=>.bool (r)):=by unfold Qg;exact aC [] Tryz.func175
instance zkx {n a0 a1}:CI E0 (U2 n a0 a1) true 110 [B2 a0,.sl 11 (a1.map B1)] aI:=⟨fun {r} hF=>by
 unfold U2 at hF
 refine cw Tryz.func110 ?_
 repeat' first
  |refine aY hF (fun v hF=>?_) fun hF=>?_
  |refine aH hF fun hF=>?_
  |refine aE [6] ?_;conv=>whnf
  |refine aM hF (fun hF=>?_) fun hF=>?_
  |refine aS ?_
  |refine aJ hF fun x hF=>?_
  |refine SlsX.o B1 hF (fun l hF=>?_)
  |refine B4.I hF (fun a hF=>?_) rfl rfl fun _=>Or.inr rfl
  |refine aR hF fun a hF=>?_
  |exact ⟨_,hF,aA []⟩
  |refine aO hF (aA []) fun m v hF=>?_
  |exact aB hF⟩
instance zk8 {n a0}:CI E0 (Qv n a0) false 180 [.sl 2 (a0.map Bn)] (fun r=>.sl 1 (r.map aI)):=⟨fun {r} hF=>by
 unfold Qv at hF
 refine cw Tryz.func180 ?_
 repeat' first
  |refine aF ?_;conv=>whnf
  |refine aM hF (fun hF=>?_) fun hF=>?_
  |refine aJ hF fun x hF=>?_
  |refine aP hF fun l hF=>?_
  |exact ⟨_,hF,aA [(7016,16)]⟩
  |refine aO hF ?_ fun m v hF=>?_
  |exact aG (aK 3 7016 3 1 rfl rfl) (aA [])
  |exact aB hF⟩
instance zps {n a0 a1}:CI E0 (X1 n a0 a1) true 95 [.sl 1 (a0.map aI),aI a1] aI:=by unfold X1;exact aC [] Tryz.func95
instance zmf {n a0 a1}:CI E0 (Fj n a0 a1) true 39 [.sl 1 (a0.map aI),aI a1] (fun r=>.bool (r)):=by unfold Fj;exact aC [] Tryz.func39
instance zkw {n a0 a1}:CI E0 (U1 n a0 a1) true 179 [B2 a0,.sl 1 (List.map (fun q=>AV.sl 1 (List.map aI q)) (a1))] aI:=⟨fun {r} hF=>by
 unfold U1 at hF
 refine cw Tryz.func179 ?_
 repeat' first
  |refine aF ?_;conv=>whnf
  |refine aM hF (fun hF=>?_) fun hF=>?_
  |refine IdxX.o (fun q=>AV.sl 1 (List.map aI q)) hF fun x hF=>?_
  |exact ⟨_,hF,aA []⟩
  |refine aJ hF fun x hF=>?_
  |refine aR hF fun a hF=>?_
  |refine SlsX.o aI hF (fun l hF=>?_)
  |refine aO hF (aA []) fun m v hF=>?_
  |exact aB hF⟩
instance zky {n a0}:CI E0 (K9 n a0) true 182 [Bn a0] (fun r=>.bool (r)):=by unfold K9;exact aC [1] Tryz.func182
instance zf0 {n a0}:CI E0 (T2 n a0) true 190 [.sl 2 (a0.map Bn),.fn 182 []] aI:=by unfold T2;exact aC [] Tryz.func190
instance zcf {n a0}:CI E0 (P9 n a0) true 181 [.sl 2 (a0.map Bn),.fn 182 []] (fun r=>.bool (r)):=by unfold P9;exact aC [] Tryz.func181
end
noncomputable section
abbrev z8p {n a1 a0 b}:=li (Hz n a1 a0 b) (fun c=>⟨[(3,.ptr 3 0),(4,.ptr 4 0),(63,.sl 8 (a1.fChecks.map idA)),(64,aI (((a1.fChecks.map idA).length:Int))),(65,aI c)],[(3,.box 26 (Ar a0)),(4,.box 149 (Bq a1))]⟩) fun _ _=>Hz.eq_2 ..
abbrev z8q {n a2 a1 a0}:=jf (D8 n a2 a1 a0) (fun b=>⟨[(2,aI a2),(3,.ptr 3 0),(4,.ptr 4 0),(12,.bool (b))],[(3,.box 26 (Ar a0)),(4,.box 149 (Bq a1))]⟩) fun _=>D8.eq_1 ..
abbrev z7v {n a0 b}:=li (Hv n a0 b) (fun c=>⟨[(1,.ptr 1 0),(6,aI c.1),(62,.sl 17 (a0.fEdges.map Ab)),(63,aI (((a0.fEdges.map Ab).length:Int))),(64,aI c.2)],[(1,.box 26 (Ar a0))]⟩) fun _ _=>Hv.eq_2 ..
abbrev z7w {n a0 b}:=li (Hw n a0 b) (fun c=>⟨[(1,.ptr 1 0),(47,.sl 1 (a0.fStates.map Aq)),(48,aI (((a0.fStates.map Aq).length:Int))),(49,aI c)],[(1,.box 26 (Ar a0))]⟩) fun _ _=>Hw.eq_2 ..
abbrev z7x {n a0}:=jf (Dw n a0) (fun b=>⟨[(1,.ptr 1 0),(29,.bool (b))],[(1,.box 26 (Ar a0))]⟩) fun _=>Dw.eq_1 ..
abbrev z7y {n a0}:=jf (Dx n a0) (fun b=>⟨[(1,.ptr 1 0),(10,.bool (b))],[(1,.box 26 (Ar a0))]⟩) fun _=>Dx.eq_1 ..
abbrev z56 {n}:=jf (Ji n) (fun b=>⟨[(2,.bool (b))],[]⟩) fun _=>Ji.eq_1 ..
abbrev z3l {n}:=jf (Ha n) (fun b=>⟨[(58,.bool (b))],[]⟩) fun _=>Ha.eq_1 ..
abbrev z3k {n}:=jf (Ls n) (fun b=>⟨[(70,.bool (b))],[]⟩) fun _=>Ls.eq_1 ..
abbrev z3m {n a0}:=jf (Lt n a0) (fun b=>⟨[(1,.ptr 1 0),(23,.bool (b))],[(1,.box 381 (U4 a0))]⟩) fun _=>Lt.eq_1 ..
abbrev z3n {n a0}:=jf (Lu n a0) (fun b=>⟨[(1,.ptr 1 0),(15,.bool (b))],[(1,.box 381 (U4 a0))]⟩) fun _=>Lu.eq_1 ..
abbrev z67 {n a0}:=jt (Jr n a0) (fun b=>⟨[(4,.ptr 4 0),(8,.ptr 8 0)],[(4,.box 381 [aI 0,aI 0,aI 0,aI 0,.str (ByteArray.empty)]),(8,.box 381 [aI a0.fKind,aI ((IntKind.wrap .i64 (a0.fCount+1))),aI b.1,aI b.2.1,.str (b.2.2)])]⟩) fun _=>Jr.eq_1 ..
abbrev z2a {n a1 a0}:=jf (Lf n a1 a0) (fun b=>⟨[(2,.ptr 2 0),(3,.ptr 3 0),(4,.ptr 4 0),(35,.bool (b))],[(2,.box 381 (U4 a0)),(3,.box 144 (C2 a1)),(4,.box 144 [aI 0,aI 0,.str (ByteArray.empty)])]⟩) fun _=>Lf.eq_1 ..
abbrev z6r {n a2 a1 c}:=li (Gi n a2 a1 c) (fun b=>⟨[(1,.sl 3 (a1.map Ac)),(5,.ptr 5 0),(6,.ptr 6 0),(8,.ptr 8 0),(9,aI b.1)],[(5,.box 144 (C2 a2)),(6,.box 144 [aI 0,aI 0,.str (ByteArray.empty)]),(8,.box 381 [aI b.2.1,aI b.2.2.1,aI b.2.2.2.1,aI b.2.2.2.2.1,.str (b.2.2.2.2.2)])]⟩) fun _ _=>Gi.eq_2 ..
attribute [instance] z8p z8q z7v z7w z7x z7y z56 z3l z3k z3m z3n z67 z2a z6r
instance zog {n a0 a1 a2}:CI E0 (Kg n a0 a1 a2) true 111 [B2 a0,Ab a1,aI a2] aI:=⟨fun {r} hF=>by
 unfold Kg at hF
 refine cw Tryz.func111 ?_
 repeat' first
  |refine aY hF (fun v hF=>?_) fun hF=>?_
  |refine aH hF fun hF=>?_
  |refine aE [1] ?_;conv=>whnf
  |refine aM hF (fun hF=>?_) fun hF=>?_
  |refine aS ?_
  |refine aR hF fun a hF=>?_
  |refine aX hF Da (fun x hF=>?_)
  |exact ⟨_,hF,aA []⟩
  |refine aO hF (aA []) fun m v hF=>?_
  |refine AndA ?_
  |exact aB hF⟩
instance zmk {n a0}:CI E0 (C1 n a0) true 53 [B2 a0] aI:=by unfold C1;exact aC [1,3] Tryz.func53
instance zhg {n a0}:CI E0 (K1 n a0) true 348 [aI a0] (fun r=>.bool (r)):=by unfold K1;exact aC [1] Tryz.func348
instance zg8 {n a0}:CI E0 (Qd n a0) true 358 [Ef a0] aI:=by unfold Qd;exact aC [3,5,11,14] Tryz.func358
instance zg6 {n a0 a1}:CI E0 (Qc n a0 a1) true 359 [aI a0,Ac a1] aI:=by unfold Qc;exact aC [] Tryz.func359
instance zdo {n a0 a1 a2}:CI E0 (Ss n a0 a1 a2) true 360 [aI a0,Ac a1,Ac a2] Ac:=by unfold Ss;exact aC [] Tryz.func360
instance zjs {n a0 a1}:CI E0 (N3 n a0 a1) true 349 [Ef a0,Ac a1] (fun r=>.tup [Ef r.1,aI r.2]):=by unfold N3;exact aC [10,12] Tryz.func349
instance zex {n a0 a1}:CI E0 (Jq n a0 a1) true 350 [Ef a0,Ac a1] (fun r=>.tup [Ac r.1,aI r.2]):=by unfold Jq;exact aC [9] Tryz.func350
end
noncomputable section
abbrev z29 {n a1 a0}:=jf (Ld n a1 a0) (fun b=>⟨[(1,aI a1),(2,.ptr 2 0),(13,.bool (b))],[(2,.box 271 (zki a0))]⟩) fun _=>Ld.eq_1 ..
abbrev z4y {n a0 x2 b}:=li (Gc n a0 x2 b) (fun c=>⟨[(4,.ptr 4 0),(8,.ptr 8 0),(10,.row 7063),(11,.sl 5 (x2.map Aj)),(12,aI c.1)],[(4,.box 146 (C9 a0)),(8,.box 144 [aI 0,aI 0,.str (ByteArray.empty)]),(7063,.row 144 3 (c.2.map Ac))]⟩) fun _ _=>Gc.eq_2 ..
abbrev z0o {n}:=jt (Iu n) (fun b=>⟨[(9,.bool (b))],[]⟩) fun _=>Iu.eq_1 ..
abbrev z0p {n a0}:=jt (H5 n a0) (fun b=>⟨[(3,aI a0),(4,.bool (b))],[]⟩) fun _=>H5.eq_1 ..
abbrev z0n {n a1 a0 b c}:=jf (E5 n a1 a0 b c) (fun d=>⟨[(0,aI a0),(1,.sl 1 (a1.map aI)),(5,aI b),(38,.bool (d))],[]⟩) fun _=>E5.eq_1 ..
abbrev z0m {n a1 a0 b}:=li (Cw n a1 a0 b) (fun c=>⟨[(0,aI a0),(1,.sl 1 (a1.map aI)),(5,aI c)],[]⟩) fun _ _=>Cw.eq_2 ..
abbrev z3e {n}:=jf (Lq n) (fun b=>⟨[(4,.ptr 4 0)],[(4,.box 144 [aI b.1,aI b.2.1,.str (b.2.2)])]⟩) fun _=>Lq.eq_1 ..
abbrev z3d {n}:=jf (Lp n) (fun b=>⟨[(4,.ptr 4 0)],[(4,.box 144 [aI b.1,aI b.2.1,.str (b.2.2)])]⟩) fun _=>Lp.eq_1 ..
abbrev z55 {n b a3 a2 a1 a0 d}:=li (Ge n b a3 a2 a1 a0 d) (fun c=>⟨[(2,aI a2),(4,.ptr 4 0),(5,.ptr 5 0),(7,.ptr 7 0),(8,.ptr 8 0),(10,.row 7053),(11,.row 7058),(12,aI c.1)],[(4,.box 146 (C9 a0)),(5,.box 271 (zki a1)),(7,.box 37 (Np a3)),(8,.box 144 [aI 0,aI 0,.str (ByteArray.empty)]),(7053,.row 144 3 (c.2.1.map Ac)),(7058,.row 3 1 (c.2.2.map aI))]⟩) fun _ _=>Ge.eq_2 ..
abbrev z3f {n}:=jf (J6 n) (fun b=>⟨[(8,.bool (b))],[]⟩) fun _=>J6.eq_1 ..
attribute [instance] z29 z4y z0o z0p z0n z0m z3e z3d z55 z3f
instance zkr {n a0 a1 a2}:CI E0 (I0 n a0 a1 a2) true 344 [aI a0,.sl 3 (a1.map Ac),Ac a2] (fun r=>.tup [Ac r.1,aI r.2]):=by unfold I0;exact aC [] Tryz.func344
instance zew {n a0 a1}:CI E0 (Hl n a0 a1) false 343 [Ib a0,aI a1] (fun r=>.sl 5 (r.map Aj)):=⟨fun {r} hF=>by
 unfold Hl at hF
 refine cw Tryz.func343 ?_
 repeat' first
  |refine aY hF (fun v hF=>?_) fun hF=>?_
  |refine aH hF fun hF=>?_
  |refine aE [1] ?_;conv=>whnf
  |refine aM hF (fun hF=>?_) fun hF=>?_
  |refine IdxX.o (fun q=>AV.sl 5 (List.map Aj q)) hF fun x hF=>?_
  |exact ⟨_,hF,aA []⟩
  |exact aB hF⟩
instance zhc {n a0 a1 a2 a3}:CI E0 (Qn n a0 a1 a2 a3) false 345 [Ib a0,aI a1,aI a2,Aj a3] (fun r=>.tup [Aj r.1,.bool (r.2)]):=by unfold Qn;exact aC [] Tryz.func345
instance zha {n a0 a1 a2 a3}:CI E0 (Hu n a0 a1 a2 a3) true 336 [Ao a0,Ib a1,aI a2,Aj a3] (fun r=>.tup [Ac r.1,aI r.2]):=⟨fun {r} hF=>by
 unfold Hu at hF
 refine cw Tryz.func336 ?_
 repeat' first
  |refine aF ?_;conv=>whnf
  |refine aM hF (fun hF=>?_) fun hF=>?_
  |refine aR hF fun a hF=>?_
  |refine B4.I hF (fun a hF=>?_) rfl rfl fun _=>Or.inr rfl
  |refine aJ hF fun x hF=>?_
  |refine aP hF fun l hF=>?_
  |exact ⟨_,hF,aA [(7063,63)]⟩
  |refine aO hF ?_ fun m v hF=>?_
  |exact aG (aK 10 7063 144 3 rfl rfl) (aA [])
  |refine AndA ?_
  |exact aB hF⟩
instance zcu {n a0}:CI E0 (Lo n a0) true 346 [aI a0] aI:=by unfold Lo;exact aC [2,3,4,7,8] Tryz.func346
instance zct {n a0 a1}:CI E0 (Sj n a0 a1) true 337 [aI a0,.sl 1 (a1.map aI)] aI:=by unfold Sj;exact aC [5] Tryz.func337
instance zhe {n a0}:CI E0 (D7 n a0) true 98 [.bool (a0)] Ac:=by unfold D7;exact aC [] Tryz.func98
instance zg1 {n a0 a1}:CI E0 (Hp n a0 a1) true 338 [aI a0,.sl 3 (a1.map Ac)] Ac:=by unfold Hp;exact aC [13,15] Tryz.func338
def z84 (r:A6×Int):AV:=.tup [.agg [aI (r.1.fKind),aI (r.1.fNum),.str (r.1.fText)],aI (r.2)]
theorem z46 {n a0 a1 a2 a3 r}(hF:Ee n a0 a1 a2 a3=some r):Con E0 true 322 [Ao a0,Ib a1,aI a2,Aj a3] (.tup [Ac r.1,aI r.2]):=by
 induction n generalizing a0 a1 a2 a3 r
 case zero=>cases hF
 case succ n ih =>
 unfold Ee at hF
 refine cw Tryz.func322 ?_
 repeat' first
  |refine aF ?_;conv=>whnf
  |refine aM hF (fun hF=>?_) fun hF=>?_
  |refine aR hF fun a hF=>?_
  |refine B4.I hF (fun a hF=>?_) rfl rfl fun _=>Or.inr rfl
  |refine aX hF Da (fun x hF=>?_)
  |refine Af.o hF z84 (fun a h=>ih h) (fun a hF=>?_)
  |refine aP hF fun l hF=>?_
  |exact ⟨_,hF,aA [(7053,53),(7058,58)]⟩
  |refine aO hF ?_ fun m v hF=>?_
  |exact aG (aK 10 7053 144 3 rfl rfl) (aG (aK 11 7058 3 1 rfl rfl) (aA []))
  |refine AndA ?_
  |exact aB hF
instance zhd {n a0 a1 a2 a3}:CI E0 (Ee n a0 a1 a2 a3) true 322 [Ao a0,Ib a1,aI a2,Aj a3] (fun r=>.tup [Ac r.1,aI r.2]):=⟨z46⟩
instance zhf {n a0 a1 a2 a3}:CI E0 (Tg n a0 a1 a2 a3) true 309 [Ao a0,Ib a1,aI a2,Aj a3] (fun r=>.tup [Ac r.1,aI r.2]):=by unfold Tg;exact aC [] Tryz.func309
end
noncomputable section
abbrev z80 {n}:=jf (K5 n) (fun b=>⟨[(2,.bool (b))],[]⟩) fun _=>K5.eq_1 ..
abbrev z7z {n}:=jf (Hx n) (fun b=>⟨[(4,.bool (b))],[]⟩) fun _=>Hx.eq_1 ..
attribute [instance]         z80 z7z
instance zg2 {n a0 a1 a2 a3}:CI E0 (Hq n a0 a1 a2 a3) true 268 [Ao a0,Ib a1,aI a2,Aj a3] (fun r=>.bool (r)):=by unfold Hq;exact aC [2] Tryz.func268
instance zg9 {n a0 a1}:CI E0 (T6 n a0 a1) true 37 [Y0 a0,Y0 a1] aI:=by unfold T6;exact aC [] Tryz.func37
instance zmn {n a0}:CI E0 (R7 n a0) true 351 [aI a0] (fun r=>.bool (r)):=by unfold R7;exact aC [1] Tryz.func351
instance zmm {n a0 a1}:CI E0 (R6 n a0 a1) true 361 [aI a0,Ac a1] (fun r=>.bool (r)):=by unfold R6;exact aC [1] Tryz.func361
instance zml {n a0 a1}:CI E0 (Nb n a0 a1) true 352 [aI a0,Ac a1] aI:=by unfold Nb;exact aC [] Tryz.func352
instance zl1 {n a0 a1}:CI E0 (Wu n a0 a1) true 356 [aI a0,Ac a1] Ac:=by unfold Wu;exact aC [] Tryz.func356
instance zgo {n}:CI E0 (Wm n) true 364 [] Ac:=by unfold Wm;exact aC [] Tryz.func364
def z7l (m0:A6)(m1:A6):List (Nat×Ent):=[(100000,.box 144 (C2 m0)),(100001,.box 144 (C2 m1))]
def Wd (r:A6×A6×A6):List (Nat×Ent):=[(2,.box 144 (C2 r.1)),(100000,.box 144 (C2 r.2.1)),(100001,.box 144 (C2 r.2.2))]
def Zg (r:A6×A6×A6):AV:=.agg [aI (r.1.fKind),aI (r.1.fNum),.str (r.1.fText)]
def z7c (r:A6×A6×A6):AS:=⟨[(2,.ptr 2 0),(0,.ptr 100000 0),(1,.ptr 100001 0)],Wd r⟩
end
noncomputable section
abbrev z76 {n c a1 d}:=li (Qi n c a1 d) (fun b=>⟨[(2,.fn 354 [.ref [aI c]]),(3,.ptr 3 0),(6,.ptr 6 0),(9,.sl 3 (a1.map Ac)),(10,aI (((a1.map Ac).length:Int))),(11,aI b.1)],[(3,.box 381 [aI b.2.1,aI b.2.2.1,aI b.2.2.2.1,aI b.2.2.2.2.1,.str (b.2.2.2.2.2)]),(6,.box 381 [aI 0,aI 0,aI 0,aI 0,.str (ByteArray.empty)])]⟩) fun _ _=>Qi.eq_2 ..
abbrev z81 {n a0}:=jf (My n a0) (fun b=>⟨[(1,.ptr 1 0),(10,.bool (b))],[(1,.box 381 (U4 a0))]⟩) fun _=>My.eq_1 ..
abbrev z77 {n a1 a0}:=jf (Mv n a1 a0) (fun b=>⟨[(2,.ptr 2 0),(3,.ptr 3 0),(4,.ptr 4 0),(29,.bool (b))],[(2,.box 381 (U4 a0)),(3,.box 144 (C2 a1)),(4,.box 144 [aI 0,aI 0,.str (ByteArray.empty)])]⟩) fun _=>Mv.eq_1 ..
abbrev za3 {n a2 a1 a0 b}:=li (R8 n a2 a1 a0 b) (fun c=>⟨[(1,.sl 3 (a1.map Ac)),(3,.ptr 3 0),(5,.ptr 5 0),(6,.ptr 6 0),(22,.sl 3 (a1.map Ac)),(23,aI (((a1.map Ac).length:Int))),(24,aI c)],[(3,.box 3 [aI a0]),(5,.box 144 (C2 a2)),(6,.box 144 [aI 0,aI 0,.str (ByteArray.empty)])]⟩) fun _ _=>R8.eq_2 ..
attribute [instance] z76 z81 z77 za3
theorem z5l {n m0 m1 r}(hF:Wl n m0 m1=some r):ConG E0.P none (CalF E0.P 365 0) [.ptr 100000 0,.ptr 100001 0] [] (z7l m0 m1) (Zg r) (Wd r):=by
 unfold Wl at hF
 refine aN (E:=(E0p 2)) (caps:=[]) _ aZ rfl rfl rfl rfl rfl ?_
 repeat' first
  |refine aF ?_;conv=>whnf
  |exact GX.A (res:=Zg) (meF:=Wd) hF z7c
def z7k (m0:A6)(m1:A6):List (Nat×Ent):=[(100000,.box 144 (C2 m0)),(100001,.box 144 (C2 m1))]
def Wc (r:A6×A6×A6):List (Nat×Ent):=[(2,.box 144 (C2 r.1)),(100000,.box 144 (C2 r.2.1)),(100001,.box 144 (C2 r.2.2))]
def Zf (r:A6×A6×A6):AV:=.agg [aI (r.1.fKind),aI (r.1.fNum),.str (r.1.fText)]
def z7b (r:A6×A6×A6):AS:=⟨[(2,.ptr 2 0),(0,.ptr 100000 0),(1,.ptr 100001 0)],Wc r⟩
theorem z5k {n m0 m1 r}(hF:Wk n m0 m1=some r):ConG E0.P none (CalF E0.P 366 0) [.ptr 100000 0,.ptr 100001 0] [] (z7k m0 m1) (Zf r) (Wc r):=by
 unfold Wk at hF
 refine aN (E:=(E0p 2)) (caps:=[]) _ bA rfl rfl rfl rfl rfl ?_
 repeat' first
  |refine aF ?_;conv=>whnf
  |exact GX.A (res:=Zf) (meF:=Wc) hF z7b
def z7j (m0:A6)(m1:A6):List (Nat×Ent):=[(100000,.box 144 (C2 m0)),(100001,.box 144 (C2 m1))]
def Wb (r:A6×A6×A6):List (Nat×Ent):=[(2,.box 144 (C2 r.1)),(100000,.box 144 (C2 r.2.1)),(100001,.box 144 (C2 r.2.2))]
def Ze (r:A6×A6×A6):AV:=.agg [aI (r.1.fKind),aI (r.1.fNum),.str (r.1.fText)]
def z7a (r:A6×A6×A6):AS:=⟨[(2,.ptr 2 0),(0,.ptr 100000 0),(1,.ptr 100001 0)],Wb r⟩
theorem z5j {n m0 m1 r}(hF:Wj n m0 m1=some r):ConG E0.P none (CalF E0.P 367 0) [.ptr 100000 0,.ptr 100001 0] [] (z7j m0 m1) (Ze r) (Wb r):=by
 unfold Wj at hF
 refine aN (E:=(E0p 2)) (caps:=[]) _ bB rfl rfl rfl rfl rfl ?_
 repeat' first
  |refine aF ?_;conv=>whnf
  |exact GX.A (res:=Ze) (meF:=Wb) hF z7a
def z7i (m0:A6):List (Nat×Ent):=[(100000,.box 144 (C2 m0))]
def Wa (r:A6×A6):List (Nat×Ent):=[(1,.box 144 (C2 r.1)),(100000,.box 144 (C2 r.2))]
def Zd (r:A6×A6):AV:=.agg [aI (r.1.fKind),aI (r.1.fNum),.str (r.1.fText)]
def z79 (r:A6×A6):AS:=⟨[(1,.ptr 1 0),(0,.ptr 100000 0)],Wa r⟩
theorem z5i {n m0 r}(hF:Wh n m0=some r):ConG E0.P none (CalF E0.P 368 0) [.ptr 100000 0] [] (z7i m0) (Zd r) (Wa r):=by
 unfold Wh at hF
 refine aN (E:=(E0p 1)) (caps:=[]) _ bC rfl rfl rfl rfl rfl ?_
 repeat' first
  |refine aF ?_;conv=>whnf
  |exact GX.A (res:=Zd) (meF:=Wa) hF z79
def z7h (m0:A6):List (Nat×Ent):=[(100000,.box 144 (C2 m0))]
def W9 (r:A6×A6):List (Nat×Ent):=[(1,.box 144 (C2 r.1)),(100000,.box 144 (C2 r.2))]
def Zc (r:A6×A6):AV:=.agg [aI (r.1.fKind),aI (r.1.fNum),.str (r.1.fText)]
def z78 (r:A6×A6):AS:=⟨[(1,.ptr 1 0),(0,.ptr 100000 0)],W9 r⟩
theorem z5h {n m0 r}(hF:Wg n m0=some r):ConG E0.P none (CalF E0.P 369 0) [.ptr 100000 0] [] (z7h m0) (Zc r) (W9 r):=by
 unfold Wg at hF
 refine aN (E:=(E0p 1)) (caps:=[]) _ bD rfl rfl rfl rfl rfl ?_
 repeat' first
  |refine aF ?_;conv=>whnf
  |exact GX.A (res:=Zc) (meF:=W9) hF z78
instance zka {n a0 a1 a2}:CI E0 (Tw n a0 a1 a2) true 362 [aI a0,Ac a1,Ac a2] Ac:=⟨fun {r} hF=>by
 unfold Tw at hF
 refine cw Tryz.func362 ?_
 repeat' first
  |refine aF ?_;conv=>whnf
  |refine NatX.oS hF rfl (fun hF=>?_) (fun hF=>?_)
  |(cases hF;done)
  |refine aR hF fun a hF=>?_
  |refine aW (B9 15 hF) [(100000,4),(100001,5)] [(2,16000000),(100000,4),(100001,5)] _ _ Wd Zg [] (fun a h=>aL (z5l h)) (B3 aZ rfl rfl) rfl rfl rfl ⟨⟨rfl,rfl⟩,⟨⟨rfl,rfl⟩,trivial⟩⟩ (fun a=>⟨rfl,rfl,rfl,rfl,rfl,rfl,rfl,rfl⟩) (fun a hF=>?_)
  |refine aW (B9 15 hF) [(100000,4),(100001,5)] [(2,16000000),(100000,4),(100001,5)] _ _ Wc Zf [] (fun a h=>aL (z5k h)) (B3 bA rfl rfl) rfl rfl rfl ⟨⟨rfl,rfl⟩,⟨⟨rfl,rfl⟩,trivial⟩⟩ (fun a=>⟨rfl,rfl,rfl,rfl,rfl,rfl,rfl,rfl⟩) (fun a hF=>?_)
  |refine aW (B9 15 hF) [(100000,4),(100001,5)] [(2,16000000),(100000,4),(100001,5)] _ _ Wb Ze [] (fun a h=>aL (z5j h)) (B3 bB rfl rfl) rfl rfl rfl ⟨⟨rfl,rfl⟩,⟨⟨rfl,rfl⟩,trivial⟩⟩ (fun a=>⟨rfl,rfl,rfl,rfl,rfl,rfl,rfl,rfl⟩) (fun a hF=>?_)
  |refine aW (B9 15 hF) [(100000,4)] [(1,16000000),(100000,4)] _ _ Wa Zd [] (fun a h=>aL (z5i h)) (B3 bC rfl rfl) rfl rfl rfl ⟨⟨rfl,rfl⟩,trivial⟩ (fun a=>⟨rfl,rfl,rfl,rfl,rfl,rfl,rfl,rfl⟩) (fun a hF=>?_)
  |refine aW (B9 15 hF) [(100000,5)] [(1,16000000),(100000,5)] _ _ W9 Zc [] (fun a h=>aL (z5h h)) (B3 bD rfl rfl) rfl rfl rfl ⟨⟨rfl,rfl⟩,trivial⟩ (fun a=>⟨rfl,rfl,rfl,rfl,rfl,rfl,rfl,rfl⟩) (fun a hF=>?_)
  |exact aB hF⟩
instance zl2 {n a0 a1}:CI E0 (Wv n a0 a1) true 355 [Ef a0,Ef a1] Ef:=by unfold Wv;exact aC [] Tryz.func355
instance zoh {n a0 a1 a2}:CI E0 (Wy n a0 a1 a2) true 354 [Ef a0,Ac a1,.ref [aI a2]] Ef:=by unfold Wy;exact aC [] Tryz.func354
instance zl3 {n a0 a1 b}:CI E0 (U3 n a0 a1 b) true 353 [Ef a0,.sl 3 (a1.map Ac),.fn 354 [.ref [aI b]]] Ef:=by unfold U3;exact aC [] Tryz.func353
instance zmo {n a0}:CI E0 (U7 n a0) true 363 [Ef a0] aI:=by unfold U7;exact aC [3,7,9,11,6] Tryz.func363
instance zl4 {n a0 a1}:CI E0 (R2 n a0 a1) true 357 [Ef a0,Ac a1] (fun r=>.tup [Ac r.1,aI r.2]):=by unfold R2;exact aC [9] Tryz.func357
instance zpz {n a0 a1 a2}:CI E0 (Ri n a0 a1 a2) true 347 [aI a0,.sl 3 (a1.map Ac),Ac a2] (fun r=>.tup [Ac r.1,aI r.2]):=⟨fun {r} hF=>by
 unfold Ri at hF
 refine cw Tryz.func347 ?_
 repeat' first
  |refine aF ?_;conv=>whnf
  |refine aM hF (fun hF=>?_) fun hF=>?_
  |refine aR hF fun a hF=>?_
  |refine B4.I hF (fun a hF=>?_) rfl rfl fun _=>Or.inr rfl
  |refine aJ hF fun x hF=>?_
  |exact ⟨_,hF,aA []⟩
  |refine aO hF (aA []) fun m v hF=>?_
  |exact aB hF⟩
instance zvb {n a0}:CI E0 (Xc n a0) true 207 [aI a0] (fun r=>.bool (r)):=by unfold Xc;exact aC [] Tryz.func207
instance zsw {n a0 a1}:CI E0 (Ex n a0 a1) true 133 [aI a0,aI a1] aI:=by unfold Ex;exact aC [] Tryz.func133
end
noncomputable section
abbrev zmp {n a0 b}:=li (Xd n a0 b) (fun c=>⟨[(3,aI 0),(6,.sl 1 (a0.map aI)),(7,aI (((a0.map aI).length:Int))),(8,aI c)],[]⟩) fun _ _=>Xd.eq_2 ..
attribute [instance] zmp     
instance zyo {n a0}:CI E0 (O1 n a0) true 131 [.sl 1 (a0.map aI)] aI:=by unfold O1;exact aC [] Tryz.func131
end
noncomputable section
abbrev z9i {n}:=jf (Kb n) (fun b=>⟨[(2,.bool (b))],[]⟩) fun _=>Kb.eq_1 ..
abbrev z8v {n}:=jf (Es n) (fun b=>⟨[(2,.bool (b))],[]⟩) fun _=>Es.eq_1 ..
abbrev zaq {n a0 b c}:=jf (Eu n a0 b c) (fun d=>⟨[(0,.str (a0)),(18,aI (((a0.size:Nat):Int))),(19,aI b),(33,.bool (d))],[]⟩) fun _=>Eu.eq_1 ..
abbrev zap {n a0 b}:=li (Dy n a0 b) (fun c=>⟨[(0,.str (a0)),(18,aI (((a0.size:Nat):Int))),(19,aI c)],[]⟩) fun _ _=>Dy.eq_2 ..
abbrev zar {n a0}:=jf (D9 n a0) (fun b=>⟨[(0,.str (a0)),(16,.bool (b))],[]⟩) fun _=>D9.eq_1 ..
abbrev z6t {n}:=jf (Jw n) (fun b=>⟨[(2,.bool (b))],[]⟩) fun _=>Jw.eq_1 ..
abbrev z9k {n a0 b c d}:=jf (I2 n a0 b c d) (fun e=>⟨[(3,.row 14),(5,.ptr 5 0),(16,.sl 2 (a0.fFields.map C7)),(17,aI (((a0.fFields.map C7).length:Int))),(18,aI b.1),(32,.bool (e))],[(5,.box 164 (zcm d)),(14,.mp (List.map (encM AV.str AV.bool) (b.2)))]⟩) fun _=>I2.eq_1 ..
abbrev z9j {n a0 b}:=li (Fk n a0 b) (fun c=>⟨[(3,.row 14),(16,.sl 2 (a0.fFields.map C7)),(17,aI (((a0.fFields.map C7).length:Int))),(18,aI c.1)],[(14,.mp (List.map (encM AV.str AV.bool) (c.2)))]⟩) fun _ _=>Fk.eq_2 ..
abbrev z7m {n a0 b}:=li (K2 n a0 b) (fun c=>⟨[(3,.row 10),(11,.sl 2 (a0.map Al)),(12,aI (((a0.map Al).length:Int))),(13,aI c.1)],[(10,.mp (List.map (encM AV.str AV.bool) (c.2)))]⟩) fun _ _=>K2.eq_2 ..
abbrev z9p {n}:=jf (Kc n) (fun b=>⟨[(24,.bool (b))],[]⟩) fun _=>Kc.eq_1 ..
abbrev z6i {n a1 a0 b}:=li (Mn n a1 a0 b) (fun c=>⟨[(1,aI a1),(5,.row 7023),(9,.sl 17 (a0.fEdges.map Ab)),(10,aI (((a0.fEdges.map Ab).length:Int))),(11,aI c.1)],[(7023,.row 3 1 (c.2.map aI))]⟩) fun _ _=>Mn.eq_2 ..
abbrev z1l {n a1 x1 b}:=li (L6 n a1 x1 b) (fun c=>⟨[(1,.ref (Ar a1)),(4,.row 7027),(10,.sl 1 (x1.map aI)),(11,aI (((x1.map aI).length:Int))),(12,aI c.1)],[(7027,.row 3 1 (c.2.map aI))]⟩) fun _ _=>L6.eq_2 ..
attribute [instance]   z9i z8v zaq zap zar z6t z9k z9j z7m z9p z6i z1l
instance zpt {n a0}:CI E0 (Fm n a0) true 280 [.int .u8 (a0)] (fun r=>.bool (r)):=by unfold Fm;exact aC [1] Tryz.func280
instance zpd {n a0}:CI E0 (Kh n a0) true 281 [.int .u8 (a0)] (fun r=>.bool (r)):=by unfold Kh;exact aC [1] Tryz.func281
instance zss {n a0}:CI E0 (Kl n a0) true 231 [.str (a0)] (fun r=>.bool (r)):=⟨fun {r} hF=>by
 unfold Kl at hF
 refine cw Tryz.func231 ?_
 repeat' first
  |refine aY hF (fun v hF=>?_) fun hF=>?_
  |refine aH hF fun hF=>?_
  |refine aE [1,6] ?_;conv=>whnf
  |refine aM hF (fun hF=>?_) fun hF=>?_
  |refine aS ?_
  |refine aT ?_
  |exact ⟨_,hF,aA []⟩
  |refine OpX.idb hF rfl rfl rfl rfl rfl rfl rfl rfl (fun b hF=>?_)
  |refine aR hF fun a hF=>?_
  |refine aO hF (aA []) fun m v hF=>?_
  |refine AndA ?_
  |refine aQ ?_
  |exact aB hF⟩
instance zkt {n a0}:CI E0 (Qw n a0) true 232 [.str (a0)] (fun r=>.bool (r)):=by unfold Qw;exact aC [1] Tryz.func232
theorem Z2 (a b:ByteArray):eqK (AV.str a) (AV.str b)=some (decide (a=b)):=by simp [eqK,eq1,aI,Km]
instance zpu {n a0}:CI E0 (Ng n a0) true 173 [Al a0] aI:=⟨fun {r} hF=>by
 unfold Ng at hF
 refine cw Tryz.func173 ?_
 repeat' first
  |refine aY hF (fun v hF=>?_) fun hF=>?_
  |refine aH hF fun hF=>?_
  |refine aE [13] ?_;conv=>whnf
  |refine aM hF (fun hF=>?_) fun hF=>?_
  |refine aS ?_
  |refine aT ?_
  |refine aR hF fun a hF=>?_
  |refine aJ hF fun x hF=>?_
  |refine LkX.o AV.str AV.bool hF (by first|rfl|kernel_rfl) Z2 (by repeat' first|exact Sub.nil _|exact Sub.refl _|refine Sub.agg ?_|refine Sub.tup ?_|refine Sub.fn ?_|exact SubL.nil|refine SubL.cons ?_ ?_|refine Sub.sl _ ?_|exact SubE.nil|refine SubE.cons ?_ ?_) (fun v b hF=>?_)
  |refine UpX.o AV.str AV.bool hF (by first|rfl|kernel_rfl) Z2 (by repeat' first|exact Sub.nil _|exact Sub.refl _|refine Sub.agg ?_|refine Sub.tup ?_|refine Sub.fn ?_|exact SubL.nil|refine SubL.cons ?_ ?_|refine Sub.sl _ ?_|exact SubE.nil|refine SubE.cons ?_ ?_) (fun l hF=>?_)
  |exact ⟨_,hF,aA []⟩
  |refine aO hF (aA []) fun m v hF=>?_
  |refine AndA ?_
  |refine aQ ?_
  |exact aB hF⟩
instance zmg {n a0}:CI E0 (Fl n a0) true 104 [.sl 2 (a0.map Al)] aI:=⟨fun {r} hF=>by
 unfold Fl at hF
 refine cw Tryz.func104 ?_
 repeat' first
  |refine aF ?_;conv=>whnf
  |refine aM hF (fun hF=>?_) fun hF=>?_
  |refine aS ?_
  |refine aT ?_
  |refine aJ hF fun x hF=>?_
  |refine aR hF fun a hF=>?_
  |refine LkX.o AV.str AV.bool hF (by first|rfl|kernel_rfl) Z2 (by repeat' first|exact Sub.nil _|exact Sub.refl _|refine Sub.agg ?_|refine Sub.tup ?_|refine Sub.fn ?_|exact SubL.nil|refine SubL.cons ?_ ?_|refine Sub.sl _ ?_|exact SubE.nil|refine SubE.cons ?_ ?_) (fun v b hF=>?_)
  |refine UpX.o AV.str AV.bool hF (by first|rfl|kernel_rfl) Z2 (by repeat' first|exact Sub.nil _|exact Sub.refl _|refine Sub.agg ?_|refine Sub.tup ?_|refine Sub.fn ?_|exact SubL.nil|refine SubL.cons ?_ ?_|refine Sub.sl _ ?_|exact SubE.nil|refine SubE.cons ?_ ?_) (fun l hF=>?_)
  |exact ⟨_,hF,aA []⟩
  |refine aO hF (aA []) fun m v hF=>?_
  |refine AndA ?_
  |refine aQ ?_
  |exact aB hF⟩
instance zpw {n a0 a1 a2}:CI E0 (Gp n a0 a1 a2) true 48 [.sl 2 (a0.map Al),B2 a1,aI a2] aI:=by unfold Gp;exact aC [7] Tryz.func48
instance zk9 {n a0 a1}:CI E0 (Tv n a0 a1) false 118 [B2 a0,aI a1] (fun r=>.sl 1 (r.map aI)):=⟨fun {r} hF=>by
 unfold Tv at hF
 refine cw Tryz.func118 ?_
 repeat' first
  |refine aH hF fun hF=>?_
  |refine aE [5] ?_;conv=>whnf
  |refine aM hF (fun hF=>?_) fun hF=>?_
  |refine aS ?_
  |refine aT ?_
  |refine aJ hF fun x hF=>?_
  |refine aP hF fun l hF=>?_
  |exact ⟨_,hF,aA [(7023,23)]⟩
  |exact ⟨_,hF,aA []⟩
  |refine aO hF ?_ fun m v hF=>?_
  |exact aG (aK 5 7023 3 1 rfl rfl) (aA [])
  |refine AndA ?_
  |refine aQ ?_
  |exact aB hF⟩
end
noncomputable section
abbrev z6j {n b a2bc0 x6 c}:=li (Jt n b a2bc0 x6 c) (fun d=>⟨[(1,.ptr 100000 0),(3,.ptr 100001 0),(16,.sl 1 (x6.map aI)),(17,aI (((x6.map aI).length:Int))),(18,aI d.1)],[(100000,.box 44 [.row 200000]),(100001,.box 332 [.fn 284 [.ptr 100000 0,.ref [.fn 240 [.ref (Ar a2bc0)]],.ptr 100001 0]]),(200000,.row 4 1 (d.2.map AV.bool))]⟩) fun _ _=>Jt.eq_2 ..
abbrev z7t {n b a1 c}:=li (K4 n b a1 c) (fun d=>⟨[(7,.ptr 7 0),(8,.ptr 8 0),(16,.sl 1 (a1.map aI)),(17,aI (((a1.map aI).length:Int))),(18,aI d.1)],[(7,.box 44 [.row 7014]),(8,.box 332 [.fn 284 [.ptr 7 0,.ref [.fn 240 [.ref (Ar b)]],.ptr 8 0]]),(7014,.row 4 1 (d.2.map AV.bool))]⟩) fun _ _=>K4.eq_2 ..
abbrev z6g {n a0 b}:=li (Mm n a0 b) (fun c=>⟨[(3,.row 7017),(6,.sl 1 (a0.map AV.bool)),(7,aI (((a0.map AV.bool).length:Int))),(8,aI c.1)],[(7017,.row 3 1 (c.2.map aI))]⟩) fun _ _=>Mm.eq_2 ..
abbrev z5m {n a1 a0 b}:=li (Mb n a1 a0 b) (fun c=>⟨[(0,aI a0),(4,.row 7022),(8,.sl 17 (a1.fEdges.map Ab)),(9,aI (((a1.fEdges.map Ab).length:Int))),(10,aI c.1)],[(7022,.row 3 1 (c.2.map aI))]⟩) fun _ _=>Mb.eq_2 ..
abbrev z0x {n b a2bc0 x6 c}:=li (Iv n b a2bc0 x6 c) (fun d=>⟨[(1,.ptr 100000 0),(3,.ptr 100001 0),(16,.sl 1 (x6.map aI)),(17,aI (((x6.map aI).length:Int))),(18,aI d.1)],[(100000,.box 44 [.row 200000]),(100001,.box 332 [.fn 284 [.ptr 100000 0,.ref [.fn 241 [.ref (Ar a2bc0)]],.ptr 100001 0]]),(200000,.row 4 1 (d.2.map AV.bool))]⟩) fun _ _=>Iv.eq_2 ..
abbrev z2s {n b a1 c}:=li (J3 n b a1 c) (fun d=>⟨[(7,.ptr 7 0),(8,.ptr 8 0),(16,.sl 1 (a1.map aI)),(17,aI (((a1.map aI).length:Int))),(18,aI d.1)],[(7,.box 44 [.row 7014]),(8,.box 332 [.fn 284 [.ptr 7 0,.ref [.fn 241 [.ref (Ar b)]],.ptr 8 0]]),(7014,.row 4 1 (d.2.map AV.bool))]⟩) fun _ _=>J3.eq_2 ..
abbrev z6z {n a0 b}:=li (Mt n a0 b) (fun c=>⟨[(1,.ptr 1 0),(3,.row 7020),(7,.sl 17 (a0.fEdges.map Ab)),(8,aI (((a0.fEdges.map Ab).length:Int))),(9,aI c.1)],[(1,.box 26 (Ar a0)),(7020,.row 3 1 (c.2.map aI))]⟩) fun _ _=>Mt.eq_2 ..
abbrev zd7 {n a0 b}:=li (Rg n a0 b) (fun c=>⟨[(3,.row 6),(7,.sl 1 (a0.map aI)),(8,aI (((a0.map aI).length:Int))),(9,aI c.1)],[(6,.mp (List.map (encM aI AV.bool) (c.2)))]⟩) fun _ _=>Rg.eq_2 ..
abbrev z9o {n a0 x3 x4 b}:=li (I3 n a0 x3 x4 b) (fun c=>⟨[(2,.ptr 2 0),(7,.ptr 7 0),(8,.mapv (List.map (encM aI AV.bool) (x4))),(28,.sl 17 (a0.fEdges.map Ab)),(29,aI (((a0.fEdges.map Ab).length:Int))),(30,aI c.1)],[(2,.box 119 [.mapv [],.mapv []]),(7,.box 119 [.mapv (List.map (encM aI AV.bool) (x3)),.row 23]),(23,.mp (List.map (encM aI AV.bool) (c.2)))]⟩) fun _ _=>I3.eq_2 ..
attribute [instance] z6j z7t z6g z5m z0x z2s z6z zd7 z9o
instance zdx {n a0 a1}:CI E0 (Sw n a0 a1) false 240 [aI a0,.ref (Ar a1)] (fun r=>.sl 1 (r.map aI)):=⟨fun {r} hF=>by
 unfold Sw at hF
 refine cw Tryz.func240 ?_
 repeat' first
  |refine aH hF fun hF=>?_
  |refine aE [6] ?_;conv=>whnf
  |refine aM hF (fun hF=>?_) fun hF=>?_
  |refine aS ?_
  |refine aT ?_
  |refine aR hF fun a hF=>?_
  |refine aJ hF fun x hF=>?_
  |refine aP hF fun l hF=>?_
  |exact ⟨_,hF,aA [(7027,27)]⟩
  |exact ⟨_,hF,aA []⟩
  |refine aO hF ?_ fun m v hF=>?_
  |exact aG (aK 4 7027 3 1 rfl rfl) (aA [])
  |refine AndA ?_
  |refine aQ ?_
  |exact aB hF⟩
def z8t (a0:Int)(a2bc0:A9)(m0:(List Bool)):List (Nat×Ent):=[(100000,.box 44 [.row 200000]),(200000,.row 4 1 (m0.map AV.bool)),(100001,.box 332 [.fn 284 [.ptr 100000 0,.ref [.fn 240 [.ref (Ar a2bc0)]],.ptr 100001 0]])]
def Mz (a2bc0:A9)(r:(List Bool)):List (Nat×Ent):=[(100000,.box 44 [.row 250000]),(250000,.row 4 1 (r.map AV.bool)),(100001,.box 332 [.fn 284 [.ptr 100000 0,.ref [.fn 240 [.ref (Ar a2bc0)]],.ptr 100001 0]])]
def Qu (r:(List Bool)):AV:=.tup []
def z8s (a2bc0:A9)(r:(List Bool)):AS:=⟨[(1,.ptr 100000 0),(3,.ptr 100001 0)],Mz a2bc0 r⟩
theorem z0g {n a0 a2bc0 m0 r}(hF:Gl n a0 a2bc0 m0=some r):ConG E0.P none (CalF E0.P 284 0) [aI a0,.ptr 100000 0,.ref [.fn 240 [.ref (Ar a2bc0)]],.ptr 100001 0] [] (z8t a0 a2bc0 m0) (Qu r) (Mz a2bc0 r):=by
 induction n generalizing a0 a2bc0 m0 r
 case zero=>cases hF
 case succ n ih =>
 unfold Gl at hF
 refine aN (E:=(E0p 4)) (caps:=[]) _ aD rfl rfl rfl rfl rfl ?_
 repeat' first
  |refine aF ?_;conv=>whnf
  |refine aM hF (fun hF=>?_) fun hF=>?_
  |refine aS ?_
  |refine aT ?_
  |refine NatX.o hF (fun m hF=>?_)
  |refine EltX.o AV.bool hF (fun x hF=>?_)
  |refine GX.o (res:=Qu) (meF:=(Mz a2bc0)) hF ?_;exact GX.mk (z8s a2bc0 _) (aA [(250000,200000)]) rfl _ rfl (by repeat' first|exact Sub.nil _|exact Sub.refl _|refine Sub.agg ?_|refine Sub.tup ?_|refine Sub.fn ?_|exact SubL.nil|refine SubL.cons ?_ ?_|refine Sub.sl _ ?_|exact SubE.nil|refine SubE.cons ?_ ?_) [] trivial rfl
  |refine SetX.o AV.bool hF (fun x=>rfl) (fun x=>(by first|exact SubL.refl _|(repeat' first|exact SubL.nil|refine SubL.cons ?_ ?_|exact Sub.refl _|exact Sub.nil _|refine Sub.agg ?_))) (fun l hF=>?_)
  |refine aR hF fun a hF=>?_
  |refine aJ hF fun x hF=>?_
  |refine aW (B9 24 hF) [(100000,100000),(100001,100001),(200000,200000)] [(100000,100000),(250000,25000001),(100001,100001)] _ _ (Mz a2bc0) Qu [200000] (fun a h=>aL (ih h)) (B3 aD rfl rfl) rfl rfl rfl ⟨⟨rfl,rfl⟩,⟨⟨rfl,rfl⟩,⟨⟨rfl,rfl⟩,trivial⟩⟩⟩ (fun a=>⟨rfl,rfl,rfl,rfl,rfl,rfl,rfl,rfl⟩) (fun a hF=>?_)
  |refine Af.oM (B9 24 hF) [(100000,100000),(100001,100001),(200000,200000)] [(100000,100000),(250000,25000001),(100001,100001)] _ _ (Mz a2bc0) Qu [200000] (fun a h=>aL (ih h)) (B3 aD rfl rfl) rfl rfl rfl ⟨⟨rfl,rfl⟩,⟨⟨rfl,rfl⟩,⟨⟨rfl,rfl⟩,trivial⟩⟩⟩ (fun a=>⟨rfl,rfl,rfl,rfl,rfl,rfl,rfl,rfl⟩) (fun a hF=>?_)
  |exact ⟨_,hF,aA [(200000,25000001)]⟩
  |refine aO hF (aA []) fun m v hF=>?_
  |refine AndA ?_
  |refine aQ ?_
instance zmi {n a0 a1 b}:CI E0 (Na n a0 a1 b) false 239 [B2 a0,.sl 1 (a1.map aI),.fn 240 [.ref (Ar b)]] (fun r=>.sl 1 (r.map AV.bool)):=⟨fun {r} hF=>by
 unfold Na at hF
 refine cw bE ?_
 repeat' first
  |refine aH hF fun hF=>?_
  |refine aU hF 5 rfl (fun hF=>?_)
  |refine aE [7] ?_;conv=>whnf
  |refine aM hF (fun hF=>?_) fun hF=>?_
  |refine aS ?_
  |refine aT ?_
  |refine MakX.o AV.bool hF (by first|exact SubL.refl _|(repeat' first|exact SubL.nil|refine SubL.cons ?_ ?_|exact Sub.refl _|exact Sub.nil _|refine Sub.agg ?_)) (fun l hF=>?_)
  |refine aJ hF fun x hF=>?_
  |refine aW (B9 24 hF) [(100000,7),(100001,8),(200000,7014)] [(100000,7),(250000,25000001),(100001,8)] _ _ (Mz b) Qu [7014] (fun a h=>aL (z0g h)) (B3 aD rfl rfl) rfl rfl rfl ⟨⟨rfl,rfl⟩,⟨⟨rfl,rfl⟩,⟨⟨rfl,rfl⟩,trivial⟩⟩⟩ (fun a=>⟨rfl,rfl,rfl,rfl,rfl,rfl,rfl,rfl⟩) (fun a hF=>?_)
  |refine Af.oM (B9 24 hF) [(100000,7),(100001,8),(200000,7014)] [(100000,7),(250000,25000001),(100001,8)] _ _ (Mz b) Qu [7014] (fun a h=>aL (z0g h)) (B3 aD rfl rfl) rfl rfl rfl ⟨⟨rfl,rfl⟩,⟨⟨rfl,rfl⟩,⟨⟨rfl,rfl⟩,trivial⟩⟩⟩ (fun a=>⟨rfl,rfl,rfl,rfl,rfl,rfl,rfl,rfl⟩) (fun a hF=>?_)
  |exact ⟨_,hF,aA [(7014,25000001)]⟩
  |refine aO hF ?_ fun m v hF=>?_
  |exact aG (LeX.frb 5 rfl rfl) (aA [(7014,14)])
  |refine AndA ?_
  |refine aQ ?_
  |exact aB hF⟩
instance zgm {n a0}:CI E0 (T9 n a0) false 184 [B2 a0] (fun r=>.sl 1 (r.map AV.bool)):=⟨fun {r} hF=>by
 unfold T9 at hF
 refine cw Tryz.func184 ?_
 repeat' first
  |refine AW.frbO hF 1 rfl rfl (fun hF=>?_)
  |refine aH hF fun hF=>?_
  |refine aU hF 1 rfl (fun hF=>?_)
  |refine aE [1] ?_;conv=>whnf
  |refine aM hF (fun hF=>?_) fun hF=>?_
  |refine aS ?_
  |refine aT ?_
  |refine aR hF fun a hF=>?_
  |refine AndA ?_
  |refine aQ ?_
  |exact aB hF⟩
instance zk7 {n a0}:CI E0 (Tu n a0) false 183 [.sl 1 (a0.map AV.bool)] (fun r=>.sl 1 (r.map aI)):=⟨fun {r} hF=>by
 unfold Tu at hF
 refine cw Tryz.func183 ?_
 repeat' first
  |refine aH hF fun hF=>?_
  |refine aE [5] ?_;conv=>whnf
  |refine aM hF (fun hF=>?_) fun hF=>?_
  |refine aS ?_
  |refine aT ?_
  |refine aJ hF fun x hF=>?_
  |refine aP hF fun l hF=>?_
  |exact ⟨_,hF,aA [(7017,17)]⟩
  |exact ⟨_,hF,aA []⟩
  |refine aO hF ?_ fun m v hF=>?_
  |exact aG (aK 3 7017 3 1 rfl rfl) (aA [])
  |refine AndA ?_
  |refine aQ ?_
  |exact aB hF⟩
instance zgn {n a0}:CI E0 (Mu n a0) false 112 [B2 a0] (fun r=>.tup [.sl 1 (r.1.map aI),aI r.2]):=by unfold Mu;exact aC [] Tryz.func112
instance zho {n a0 a1}:CI E0 (Wq n a0 a1) false 241 [aI a0,.ref (Ar a1)] (fun r=>.sl 1 (r.map aI)):=⟨fun {r} hF=>by
 unfold Wq at hF
 refine cw Tryz.func241 ?_
 repeat' first
  |refine aH hF fun hF=>?_
  |refine aE [5] ?_;conv=>whnf
  |refine aM hF (fun hF=>?_) fun hF=>?_
  |refine aS ?_
  |refine aT ?_
  |refine aJ hF fun x hF=>?_
  |refine aP hF fun l hF=>?_
  |exact ⟨_,hF,aA [(7022,22)]⟩
  |exact ⟨_,hF,aA []⟩
  |refine aO hF ?_ fun m v hF=>?_
  |exact aG (aK 4 7022 3 1 rfl rfl) (aA [])
  |refine AndA ?_
  |refine aQ ?_
  |exact aB hF⟩
def z48 (a0:Int)(a2bc0:A9)(m0:(List Bool)):List (Nat×Ent):=[(100000,.box 44 [.row 200000]),(200000,.row 4 1 (m0.map AV.bool)),(100001,.box 332 [.fn 284 [.ptr 100000 0,.ref [.fn 241 [.ref (Ar a2bc0)]],.ptr 100001 0]])]
def Lj (a2bc0:A9)(r:(List Bool)):List (Nat×Ent):=[(100000,.box 44 [.row 250000]),(250000,.row 4 1 (r.map AV.bool)),(100001,.box 332 [.fn 284 [.ptr 100000 0,.ref [.fn 241 [.ref (Ar a2bc0)]],.ptr 100001 0]])]
def Pd (r:(List Bool)):AV:=.tup []
def z47 (a2bc0:A9)(r:(List Bool)):AS:=⟨[(1,.ptr 100000 0),(3,.ptr 100001 0)],Lj a2bc0 r⟩
theorem z03 {n a0 a2bc0 m0 r}(hF:G9 n a0 a2bc0 m0=some r):ConG E0.P none (CalF E0.P 284 0) [aI a0,.ptr 100000 0,.ref [.fn 241 [.ref (Ar a2bc0)]],.ptr 100001 0] [] (z48 a0 a2bc0 m0) (Pd r) (Lj a2bc0 r):=by
 induction n generalizing a0 a2bc0 m0 r
 case zero=>cases hF
 case succ n ih =>
 unfold G9 at hF
 refine aN (E:=(E0p 4)) (caps:=[]) _ aD rfl rfl rfl rfl rfl ?_
 repeat' first
  |refine aF ?_;conv=>whnf
  |refine aM hF (fun hF=>?_) fun hF=>?_
  |refine aS ?_
  |refine aT ?_
  |refine NatX.o hF (fun m hF=>?_)
  |refine EltX.o AV.bool hF (fun x hF=>?_)
  |refine GX.o (res:=Pd) (meF:=(Lj a2bc0)) hF ?_;exact GX.mk (z47 a2bc0 _) (aA [(250000,200000)]) rfl _ rfl (by repeat' first|exact Sub.nil _|exact Sub.refl _|refine Sub.agg ?_|refine Sub.tup ?_|refine Sub.fn ?_|exact SubL.nil|refine SubL.cons ?_ ?_|refine Sub.sl _ ?_|exact SubE.nil|refine SubE.cons ?_ ?_) [] trivial rfl
  |refine SetX.o AV.bool hF (fun x=>rfl) (fun x=>(by first|exact SubL.refl _|(repeat' first|exact SubL.nil|refine SubL.cons ?_ ?_|exact Sub.refl _|exact Sub.nil _|refine Sub.agg ?_))) (fun l hF=>?_)
  |refine aR hF fun a hF=>?_
  |refine aJ hF fun x hF=>?_
  |refine aW (B9 24 hF) [(100000,100000),(100001,100001),(200000,200000)] [(100000,100000),(250000,25000001),(100001,100001)] _ _ (Lj a2bc0) Pd [200000] (fun a h=>aL (ih h)) (B3 aD rfl rfl) rfl rfl rfl ⟨⟨rfl,rfl⟩,⟨⟨rfl,rfl⟩,⟨⟨rfl,rfl⟩,trivial⟩⟩⟩ (fun a=>⟨rfl,rfl,rfl,rfl,rfl,rfl,rfl,rfl⟩) (fun a hF=>?_)
  |refine Af.oM (B9 24 hF) [(100000,100000),(100001,100001),(200000,200000)] [(100000,100000),(250000,25000001),(100001,100001)] _ _ (Lj a2bc0) Pd [200000] (fun a h=>aL (ih h)) (B3 aD rfl rfl) rfl rfl rfl ⟨⟨rfl,rfl⟩,⟨⟨rfl,rfl⟩,⟨⟨rfl,rfl⟩,trivial⟩⟩⟩ (fun a=>⟨rfl,rfl,rfl,rfl,rfl,rfl,rfl,rfl⟩) (fun a hF=>?_)
  |exact ⟨_,hF,aA [(200000,25000001)]⟩
  |refine aO hF (aA []) fun m v hF=>?_
  |refine AndA ?_
  |refine aQ ?_
instance zf6 {n a0 a1 b}:CI E0 (Ho n a0 a1 b) false 239 [B2 a0,.sl 1 (a1.map aI),.fn 241 [.ref (Ar b)]] (fun r=>.sl 1 (r.map AV.bool)):=⟨fun {r} hF=>by
 unfold Ho at hF
 refine cw bE ?_
 repeat' first
  |refine aH hF fun hF=>?_
  |refine aU hF 5 rfl (fun hF=>?_)
  |refine aE [7] ?_;conv=>whnf
  |refine aM hF (fun hF=>?_) fun hF=>?_
  |refine aS ?_
  |refine aT ?_
  |refine MakX.o AV.bool hF (by first|exact SubL.refl _|(repeat' first|exact SubL.nil|refine SubL.cons ?_ ?_|exact Sub.refl _|exact Sub.nil _|refine Sub.agg ?_)) (fun l hF=>?_)
  |refine aJ hF fun x hF=>?_
  |refine aW (B9 24 hF) [(100000,7),(100001,8),(200000,7014)] [(100000,7),(250000,25000001),(100001,8)] _ _ (Lj b) Pd [7014] (fun a h=>aL (z03 h)) (B3 aD rfl rfl) rfl rfl rfl ⟨⟨rfl,rfl⟩,⟨⟨rfl,rfl⟩,⟨⟨rfl,rfl⟩,trivial⟩⟩⟩ (fun a=>⟨rfl,rfl,rfl,rfl,rfl,rfl,rfl,rfl⟩) (fun a hF=>?_)
  |refine Af.oM (B9 24 hF) [(100000,7),(100001,8),(200000,7014)] [(100000,7),(250000,25000001),(100001,8)] _ _ (Lj b) Pd [7014] (fun a h=>aL (z03 h)) (B3 aD rfl rfl) rfl rfl rfl ⟨⟨rfl,rfl⟩,⟨⟨rfl,rfl⟩,⟨⟨rfl,rfl⟩,trivial⟩⟩⟩ (fun a=>⟨rfl,rfl,rfl,rfl,rfl,rfl,rfl,rfl⟩) (fun a hF=>?_)
  |exact ⟨_,hF,aA [(7014,25000001)]⟩
  |refine aO hF ?_ fun m v hF=>?_
  |exact aG (LeX.frb 5 rfl rfl) (aA [(7014,14)])
  |refine AndA ?_
  |refine aQ ?_
  |exact aB hF⟩
instance zkv {n a0}:CI E0 (U0 n a0) false 185 [B2 a0] (fun r=>.sl 1 (r.map AV.bool)):=⟨fun {r} hF=>by
 unfold U0 at hF
 refine cw Tryz.func185 ?_
 repeat' first
  |refine AW.frbO hF 1 rfl rfl (fun hF=>?_)
  |refine aH hF fun hF=>?_
  |refine aU hF 7020 rfl (fun hF=>?_)
  |refine aU hF 1 rfl (fun hF=>?_)
  |refine aE [8,5] ?_;conv=>whnf
  |refine aM hF (fun hF=>?_) fun hF=>?_
  |refine aS ?_
  |refine aT ?_
  |refine aR hF fun a hF=>?_
  |refine aJ hF fun x hF=>?_
  |refine aP hF fun l hF=>?_
  |exact ⟨_,hF,aA [(7020,20)]⟩
  |exact ⟨_,hF,aA []⟩
  |refine aO hF ?_ fun m v hF=>?_
  |exact aG (aK 3 7020 3 1 rfl rfl) (aA [])
  |refine AndA ?_
  |refine aQ ?_
  |exact aB hF⟩
instance zl0 {n a0}:CI E0 (N7 n a0) false 113 [B2 a0] (fun r=>.tup [.sl 1 (r.1.map aI),aI r.2]):=by unfold N7;exact aC [] Tryz.func113
theorem D2 (a b:Int):eqK (aI a) (aI b)=some (decide (a=b)):=by simp [eqK,eq1,aI,Km]
instance zv4 {n a0}:CI E0 (Uo n a0) false 114 [.sl 1 (a0.map aI)] (fun r=>.mapv (List.map (encM aI AV.bool) (r))):=⟨fun {r} hF=>by
 unfold Uo at hF
 refine cw Tryz.func114 ?_
 repeat' first
  |refine aF ?_;conv=>whnf
  |refine aM hF (fun hF=>?_) fun hF=>?_
  |refine aS ?_
  |refine aT ?_
  |refine aJ hF fun x hF=>?_
  |refine UpX.o aI AV.bool hF (by first|rfl|kernel_rfl) D2 (by repeat' first|exact Sub.nil _|exact Sub.refl _|refine Sub.agg ?_|refine Sub.tup ?_|refine Sub.fn ?_|exact SubL.nil|refine SubL.cons ?_ ?_|refine Sub.sl _ ?_|exact SubE.nil|refine SubE.cons ?_ ?_) (fun l hF=>?_)
  |exact ⟨_,hF,aA []⟩
  |refine aO hF (aA []) fun m v hF=>?_
  |refine AndA ?_
  |refine aQ ?_
  |exact aB hF⟩
end
end Go.Proofs.YthbogefcfhmpgaaGreat
