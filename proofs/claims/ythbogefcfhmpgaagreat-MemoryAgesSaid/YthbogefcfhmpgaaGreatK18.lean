/- What some functions compute, over plain values. -/
import Derived.Test.YthbogefcfhmpgaaGreatK17
set_option linter.unusedVariables false
set_option linter.unusedSimpArgs false
set_option maxRecDepth 100000
set_option maxHeartbeats 8000000
namespace Go.Proofs.YthbogefcfhmpgaaGreat
open Go.RowKit List
open LeX renaming a->aA,trans->aB,adopt->aL
open RetX renaming oB->aC
open AW renaming stepU->aD,regO->aG,step->aS
open Bool renaming not_false->aE,not_true->aF
open ConG renaming up->aH,walk->bB
open CI renaming w->aJ
open Tryz renaming func109->aK,func105->aN,func107->aU,func237->bC,func313->bD,func235->bF,func175->bG
open Or renaming inr->aM,inl->bE
open EqX renaming A->aO
open IdxX renaming A->aQ
open AppX renaming oA->aR
open A3 renaming o->aT,f->aW,t->aY
open List renaming map_cons->aV,map_nil->aX
open Ad renaming I->aZ,oM->bJ
noncomputable section
abbrev z06 {n a1 a0f2 a0f1 a0f0}:=jf (Hz n a1 a0f2 a0f1 a0f0) (fun b=>⟨[(1,aI a1),(2,.ptr 2 0),(14,.bool (b))],[(2,.box 359 [.sl 1 (List.map (fun q=>AV.sl 5 (List.map Ar q)) (a0f0.fVars)),aI a0f1,aI a0f2.fSource,aI a0f2.fSeq,aI a0f2.fType,aI a0f2.fTime,.sl 3 (a0f2.fValues.map Aa),.mapv [(aI 5,.fn 325 [.ref [.fn 324 []]]),(aI 6,.fn 326 [.ref [.fn 324 []]]),(aI 7,.fn 327 []),(aI 8,.fn 328 []),(aI 10,.fn 329 []),(aI 11,.fn 330 []),(aI 12,.fn 331 [])]])]⟩) fun _=>Hz.eq_1 ..
abbrev z0r {n a1 x1 b}:=li (Ks n a1 x1 b) (fun c=>⟨[(3,.ptr 3 0),(4,.ptr 4 0),(6,.row 7034),(14,.sl 5 (x1.map Ar)),(15,aI (((x1.map Ar).length:Int))),(16,aI c.1)],[(3,.box 146 (Co a1)),(4,.box 144 [aI 0,aI 0,.str (ByteArray.empty)]),(7034,.row 144 3 (c.2.map Aa))]⟩) fun _ _=>Ks.eq_2 ..
abbrev z1e {n x9}:=jt (I8 n x9) (fun b=>⟨[(4,.ptr 4 0),(8,.ptr 8 0),(9,aI b)],[(4,.box 144 [aI 0,aI 0,.str (ByteArray.empty)]),(8,.box 144 (Bv x9.1))]⟩) fun _=>I8.eq_1 ..
abbrev z1f {n a1}:=jt (I9 n a1) (fun b=>⟨[(3,.ptr 3 0),(4,.ptr 4 0),(7,.ptr 7 0)],[(3,.box 146 (Co a1)),(4,.box 144 [aI 0,aI 0,.str (ByteArray.empty)]),(7,.box 37 [aI b.1,aI b.2.1,aI b.2.2.1,aI b.2.2.2.1,.sl 3 (b.2.2.2.2.map Aa)])]⟩) fun _=>I9.eq_1 ..
abbrev z5n {n a1 a0 b c d}:=jt (He n a1 a0 b c d) (fun e=>⟨[(0,aI a0),(1,.sl 1 (a1.map aI)),(6,aI d),(7,.bool (true)),(8,.sl 1 (a1.map aI)),(9,aI (((a1.map aI).length:Int))),(10,aI b),(14,aI a0),(22,.bool (e))],[]⟩) fun _=>He.eq_1 ..
abbrev z5o {n a1 a0 b c d}:=jt (G2 n a1 a0 b c d) (fun e=>⟨[(0,aI a0),(1,.sl 1 (a1.map aI)),(6,aI d),(7,.bool (true)),(8,.sl 1 (a1.map aI)),(9,aI (((a1.map aI).length:Int))),(10,aI b),(14,aI a0),(15,.bool (e))],[]⟩) fun _=>G2.eq_1 ..
abbrev z5m {n a1 a0 b}:=li (F0 n a1 a0 b) (fun c=>⟨[(0,aI a0),(1,.sl 1 (a1.map aI)),(8,.sl 1 (a1.map aI)),(9,aI (((a1.map aI).length:Int))),(10,aI c)],[]⟩) fun _ _=>F0.eq_2 ..
abbrev z3o {n}:=jf (Iz n) (fun b=>⟨[(4,.ptr 4 0)],[(4,.box 144 [aI b.1,aI b.2.1,.str (b.2.2)])]⟩) fun _=>Iz.eq_1 ..
abbrev z3n {n}:=jf (Iy n) (fun b=>⟨[(4,.ptr 4 0)],[(4,.box 144 [aI b.1,aI b.2.1,.str (b.2.2)])]⟩) fun _=>Iy.eq_1 ..
abbrev z1g {n b a1 a0f2 a0f1 a0f0 d}:=li (L3 n b a1 a0f2 a0f1 a0f0 d) (fun c=>⟨[(2,.ptr 2 0),(3,.ptr 3 0),(4,.ptr 4 0),(6,.row 7042),(7,.row 7047),(23,.sl 8 (a1.fArgs.map idA)),(24,aI (((a1.fArgs.map idA).length:Int))),(25,aI c.1)],[(2,.box 359 [.sl 1 (List.map (fun q=>AV.sl 5 (List.map Ar q)) (a0f0.fVars)),aI a0f1,aI a0f2.fSource,aI a0f2.fSeq,aI a0f2.fType,aI a0f2.fTime,.sl 3 (a0f2.fValues.map Aa),.mapv [(aI 5,.fn 325 [.ref [.fn 324 []]]),(aI 6,.fn 326 [.ref [.fn 324 []]]),(aI 7,.fn 327 []),(aI 8,.fn 328 []),(aI 10,.fn 329 []),(aI 11,.fn 330 []),(aI 12,.fn 331 [])]]),(3,.box 146 (Co a1)),(4,.box 144 [aI 0,aI 0,.str (ByteArray.empty)]),(7042,.row 144 3 (c.2.1.map Aa)),(7047,.row 3 1 (c.2.2.map aI))]⟩) fun _ _=>L3.eq_2 ..
attribute [instance] z06 z0r z1e z1f z5n z5o z5m z3o z3n z1g
instance zfz {n a0}:CI E0 (Pu n a0) false 211 [Ah a0] (fun r=>.sl 1 (r.map aI)):=⟨fun {r} hF=>by
 unfold Pu at hF
 refine cw Tryz.func211 ?_
 repeat' first
  |refine aG hF fun hF=>?_
  |refine aD [7] ?_;conv=>whnf
  |refine aT hF (fun hF=>?_) fun hF=>?_
  |refine aY ?_
  |refine aW ?_
  |refine B3.oM (Bb 9 hF) [(100000,3)] [(100000,3)] _ _ Jh Mh [] (fun a h=>aH (Z8 h)) (B1 bC rfl rfl) rfl rfl rfl ⟨⟨rfl,rfl⟩,trivial⟩ (fun a=>⟨rfl,rfl,rfl,rfl,rfl,rfl,rfl,rfl⟩) (fun a hF=>?_)
  |refine bJ (Bb 9 hF) [(100000,3)] [(100000,3)] _ _ Jh Mh [] (fun a h=>aH (Z8 h)) (B1 bC rfl rfl) rfl rfl rfl ⟨⟨rfl,rfl⟩,trivial⟩ (fun a=>⟨rfl,rfl,rfl,rfl,rfl,rfl,rfl,rfl⟩) (fun a hF=>?_)
  |refine NatX.oS hF rfl (fun hF=>?_) (fun hF=>?_)
  |(cases hF;done)
  |refine aR hF fun l hF=>?_
  |exact ⟨_,hF,aA [(7019,19)]⟩
  |exact ⟨_,hF,aA []⟩
  |refine Ap.I hF ?_ fun m v hF=>?_
  |exact aB (aL 4 7019 3 1 rfl rfl) (aA [])
  |refine AndA ?_
  |refine aO ?_
  |exact aC hF⟩
theorem z59:Con E0 false 313 [] (.mapv [(aI 5,.fn 325 [.ref [.fn 324 []]]),(aI 6,.fn 326 [.ref [.fn 324 []]]),(aI 7,.fn 327 []),(aI 8,.fn 328 []),(aI 10,.fn 329 []),(aI 11,.fn 330 []),(aI 12,.fn 331 [])]):=by
 refine Con.walk _ bD rfl (B1 bD rfl rfl) rfl (bE rfl) ?_
 repeat' first
  |refine AW.frb0 1 rfl rfl ?_
  |refine AW.into ?_
  |refine aD [2] ?_;conv=>whnf
  |refine UpX.mk _ _ (by first|rfl|kernel_rfl) (by first|rfl|kernel_rfl) (SubM.refl _) ?_
  |exact RetX.mk rfl
instance z7u {n a0f0 a0f1 a0f2 a1}:CI E0 (Lc n a0f0 a0f1 a0f2 a1) false 339 [.agg [.sl 1 (List.map (fun q=>AV.sl 5 (List.map Ar q)) (a0f0.fVars)),aI a0f1,aI a0f2.fSource,aI a0f2.fSeq,aI a0f2.fType,aI a0f2.fTime,.sl 3 (a0f2.fValues.map Aa),.mapv [(aI 5,.fn 325 [.ref [.fn 324 []]]),(aI 6,.fn 326 [.ref [.fn 324 []]]),(aI 7,.fn 327 []),(aI 8,.fn 328 []),(aI 10,.fn 329 []),(aI 11,.fn 330 []),(aI 12,.fn 331 [])]],aI a1] (fun r=>.sl 5 (r.map Ar)):=⟨fun {r} hF=>by
 unfold Lc at hF
 refine cw Tryz.func339 ?_
 repeat' first
  |refine AW.jI hF (fun v hF=>?_) fun hF=>?_
  |refine aG hF fun hF=>?_
  |refine aD [1] ?_;conv=>whnf
  |refine aT hF (fun hF=>?_) fun hF=>?_
  |refine IdxX.o (fun q=>AV.sl 5 (List.map Ar q)) hF fun x hF=>?_
  |exact ⟨_,hF,aA []⟩
  |exact aC hF⟩
instance zjo {n a0 a1}:CI E0 (Ju n a0 a1) true 341 [Ar a0,aI a1] (fun r=>.tup [Aa r.1,aI r.2]):=by unfold Ju;exact aJ [] Tryz.func341
instance z8o {n a0f0 a0f1 a0f2 a1}:CI E0 (Rk n a0f0 a0f1 a0f2 a1) true 340 [.agg [.sl 1 (List.map (fun q=>AV.sl 5 (List.map Ar q)) (a0f0.fVars)),aI a0f1,aI a0f2.fSource,aI a0f2.fSeq,aI a0f2.fType,aI a0f2.fTime,.sl 3 (a0f2.fValues.map Aa),.mapv [(aI 5,.fn 325 [.ref [.fn 324 []]]),(aI 6,.fn 326 [.ref [.fn 324 []]]),(aI 7,.fn 327 []),(aI 8,.fn 328 []),(aI 10,.fn 329 []),(aI 11,.fn 330 []),(aI 12,.fn 331 [])]],Ah a1] (fun r=>.tup [Aa r.1,aI r.2]):=⟨fun {r} hF=>by
 unfold Rk at hF
 refine cw Tryz.func340 ?_
 repeat' first
  |refine aS ?_;conv=>whnf
  |refine aT hF (fun hF=>?_) fun hF=>?_
  |refine aZ hF fun a hF=>?_
  |refine B3.I hF (fun a hF=>?_) rfl rfl fun _=>aM rfl
  |refine aQ hF fun x hF=>?_
  |refine aR hF fun l hF=>?_
  |exact ⟨_,hF,aA [(7034,34)]⟩
  |refine Ap.I hF ?_ fun m v hF=>?_
  |exact aB (aL 6 7034 144 3 rfl rfl) (aA [])
  |exact aC hF⟩
instance z9m {n a0f0 a0f1 a0f2 a1}:CI E0 (Lt n a0f0 a0f1 a0f2 a1) true 332 [.agg [.sl 1 (List.map (fun q=>AV.sl 5 (List.map Ar q)) (a0f0.fVars)),aI a0f1,aI a0f2.fSource,aI a0f2.fSeq,aI a0f2.fType,aI a0f2.fTime,.sl 3 (a0f2.fValues.map Aa),.mapv [(aI 5,.fn 325 [.ref [.fn 324 []]]),(aI 6,.fn 326 [.ref [.fn 324 []]]),(aI 7,.fn 327 []),(aI 8,.fn 328 []),(aI 10,.fn 329 []),(aI 11,.fn 330 []),(aI 12,.fn 331 [])]],Ah a1] (fun r=>.tup [Aa r.1,aI r.2]):=by unfold Lt;exact aJ [10,17] Tryz.func332
instance zgz {n a0 a1}:CI E0 (Su n a0 a1) true 333 [aI a0,.sl 1 (a1.map aI)] aI:=by unfold Su;exact aJ [6,7,8,11,12,15] Tryz.func333
instance zjk {n a0}:CI E0 (T3 n a0) true 315 [.bool (a0)] Aa:=by unfold T3;exact aJ [] Tryz.func315
instance zl2 {n a0}:CI E0 (D7 n a0) true 286 [.bool (a0)] Aa:=by unfold D7;exact aJ [] Tryz.func286
instance zce {n a0}:CI E0 (Pc n a0) true 324 [aI a0] Aa:=by unfold Pc;exact aJ [] Tryz.func324
instance zcd {n a0 a1}:CI E0 (Pb n a0 a1) true 325 [aI a0,aI a1,.ref [.fn 324 []]] Aa:=by unfold Pb;exact aJ [] Tryz.func325
instance zcc {n a0 a1}:CI E0 (Pa n a0 a1) true 326 [aI a0,aI a1,.ref [.fn 324 []]] Aa:=by unfold Pa;exact aJ [] Tryz.func326
instance zcb {n a0 a1}:CI E0 (P9 n a0 a1) true 327 [aI a0,aI a1] Aa:=by unfold P9;exact aJ [] Tryz.func327
instance zca {n a0 a1}:CI E0 (P8 n a0 a1) true 328 [aI a0,aI a1] Aa:=by unfold P8;exact aJ [] Tryz.func328
instance zc9 {n a0 a1}:CI E0 (P7 n a0 a1) true 329 [aI a0,aI a1] Aa:=by unfold P7;exact aJ [1] Tryz.func329
instance zc8 {n a0 a1}:CI E0 (P6 n a0 a1) true 330 [aI a0,aI a1] Aa:=by unfold P6;exact aJ [1] Tryz.func330
instance zc7 {n a0 a1}:CI E0 (Jc n a0 a1) true 331 [aI a0,aI a1] Aa:=by unfold Jc;exact aJ [] Tryz.func331
def z3w (r:A5×Int):AV:=.tup [.agg [aI (r.1.fKind),aI (r.1.fNum),.str (r.1.fText)],aI (r.2)]
end
noncomputable section
abbrev z7d {n}:=jf (Jo n) (fun b=>⟨[(8,.bool (b))],[]⟩) fun _=>Jo.eq_1 ..
abbrev z4p {n}:=jf (J8 n) (fun b=>⟨[(2,.bool (b))],[]⟩) fun _=>J8.eq_1 ..
abbrev z1a {n}:=jf (I7 n) (fun b=>⟨[(3,.bool (b))],[]⟩) fun _=>I7.eq_1 ..
abbrev z0k {n b a0 c}:=li (Kp n b a0 c) (fun d=>⟨[(0,.sl 11 (a0.map B0)),(1,.fn 234 [.ref (Bt b)]),(7,aI (((a0.map B0).length:Int))),(8,aI d)],[]⟩) fun _ _=>Kp.eq_2 ..
abbrev z2w {n a1 a0 b}:=li (Lj n a1 a0 b) (fun c=>⟨[(2,.ptr 2 0),(3,.ptr 3 0),(33,.sl 2 (a1.fLimits.map Bj)),(34,aI (((a1.fLimits.map Bj).length:Int))),(35,aI c)],[(2,.box 111 [.sl 2 (a0.ftypes.map Ay),aI a0.fa.fVars,aI a0.fa.fScopes,.sl 1 (a0.fa.fStates.map Aj),.sl 17 (a0.fa.fEdges.map A7)]),(3,.box 149 (Bt a1))]⟩) fun _ _=>Lj.eq_2 ..
abbrev z2x {n a1 a0 b}:=li (Lk n a1 a0 b) (fun c=>⟨[(2,.ptr 2 0),(3,.ptr 3 0),(22,.sl 8 (a1.fChecks.map idA)),(23,aI (((a1.fChecks.map idA).length:Int))),(24,aI c)],[(2,.box 111 [.sl 2 (a0.ftypes.map Ay),aI a0.fa.fVars,aI a0.fa.fScopes,.sl 1 (a0.fa.fStates.map Aj),.sl 17 (a0.fa.fEdges.map A7)]),(3,.box 149 (Bt a1))]⟩) fun _ _=>Lk.eq_2 ..
abbrev z2y {n a1 a0}:=jf (Gy n a1 a0) (fun b=>⟨[(2,.ptr 2 0),(3,.ptr 3 0),(20,.bool (b))],[(2,.box 111 [.sl 2 (a0.ftypes.map Ay),aI a0.fa.fVars,aI a0.fa.fScopes,.sl 1 (a0.fa.fStates.map Aj),.sl 17 (a0.fa.fEdges.map A7)]),(3,.box 149 (Bt a1))]⟩) fun _=>Gy.eq_1 ..
abbrev z26 {n a0 b}:=li (Lb n a0 b) (fun c=>⟨[(1,.fn 106 []),(2,.ptr 2 0),(5,.row 7027),(10,.sl 17 (a0.fa.fEdges.map A7)),(11,aI (((a0.fa.fEdges.map A7).length:Int))),(12,aI c.1)],[(2,.box 111 [.sl 2 (a0.ftypes.map Ay),aI a0.fa.fVars,aI a0.fa.fScopes,.sl 1 (a0.fa.fStates.map Aj),.sl 17 (a0.fa.fEdges.map A7)]),(7027,.row 149 17 (c.2.map A7))]⟩) fun _ _=>Lb.eq_2 ..
abbrev z2u {n b d}:=li (Li n b d) (fun c=>⟨[(3,.sl 17 (b.1.map A7)),(4,.row 10),(5,.bool (c.1)),(13,.sl 17 (b.1.map A7)),(14,aI (((b.1.map A7).length:Int))),(15,aI c.2.1)],[(10,.mp (List.map (encM aI AV.bool) (c.2.2)))]⟩) fun _ _=>Li.eq_2 ..
abbrev z2v {n c}:=li (Ri n c) (fun b=>⟨[(3,.sl 17 (b.1.map A7)),(4,.row 10),(5,.bool (b.2.1))],[(10,.mp (List.map (encM aI AV.bool) (b.2.2)))]⟩) fun _ _=>Ri.eq_2 ..
abbrev z0j {n b a0 c}:=li (R2 n b a0 c) (fun d=>⟨[(0,.sl 11 (a0.map B0)),(1,.fn 176 [.ref [aI b]]),(7,aI (((a0.map B0).length:Int))),(8,aI d)],[]⟩) fun _ _=>R2.eq_2 ..
attribute [instance] z7d z4p z1a z0k z2w z2x z2y z26 z2u z2v z0j
theorem z0s {n a0f0 a0f1 a0f2 a1 r}(hF:Fm n a0f0 a0f1 a0f2 a1=some r):Con E0 true 314 [.agg [.sl 1 (List.map (fun q=>AV.sl 5 (List.map Ar q)) (a0f0.fVars)),aI a0f1,aI a0f2.fSource,aI a0f2.fSeq,aI a0f2.fType,aI a0f2.fTime,.sl 3 (a0f2.fValues.map Aa),.mapv [(aI 5,.fn 325 [.ref [.fn 324 []]]),(aI 6,.fn 326 [.ref [.fn 324 []]]),(aI 7,.fn 327 []),(aI 8,.fn 328 []),(aI 10,.fn 329 []),(aI 11,.fn 330 []),(aI 12,.fn 331 [])]],Ah a1] (.tup [Aa r.1,aI r.2]):=by
 induction n generalizing a0f0 a0f1 a0f2 a1 r
 case zero=>cases hF
 case succ n ih =>
 unfold Fm at hF
 refine cw Tryz.func314 ?_
 repeat' first
  |refine aS ?_;conv=>whnf
  |refine aT hF (fun hF=>?_) fun hF=>?_
  |refine aZ hF fun a hF=>?_
  |refine B3.I hF (fun a hF=>?_) rfl rfl fun _=>aM rfl
  |refine NatX.o hF (fun m hF=>?_)
  |refine EltX.o Aa hF (fun x hF=>?_)
  |refine OpX.lkc rfl rfl rfl rfl rfl rfl rfl rfl rfl rfl (by first|rfl|kernel_rfl) ?_
  |refine LkC.cons hF (fun hF=>?_) (fun hF=>?_)
  |(cases hF;done)
  |refine LtX.o hF (fun hF=>?_)
  |refine IdxX.oD hF De (fun x hF=>?_)
  |refine Ad.o hF z3w (fun a h=>ih h) (fun a hF=>?_)
  |refine aR hF fun l hF=>?_
  |exact ⟨_,hF,aA [(7042,42),(7047,47)]⟩
  |refine Ap.I hF ?_ fun m v hF=>?_
  |exact aB (aL 6 7042 144 3 rfl rfl) (aB (aL 7 7047 3 1 rfl rfl) (aA []))
  |refine AndA ?_
  |refine aO ?_
  |exact aC hF
instance z9n {n a0f0 a0f1 a0f2 a1}:CI E0 (Fm n a0f0 a0f1 a0f2 a1) true 314 [.agg [.sl 1 (List.map (fun q=>AV.sl 5 (List.map Ar q)) (a0f0.fVars)),aI a0f1,aI a0f2.fSource,aI a0f2.fSeq,aI a0f2.fType,aI a0f2.fTime,.sl 3 (a0f2.fValues.map Aa),.mapv [(aI 5,.fn 325 [.ref [.fn 324 []]]),(aI 6,.fn 326 [.ref [.fn 324 []]]),(aI 7,.fn 327 []),(aI 8,.fn 328 []),(aI 10,.fn 329 []),(aI 11,.fn 330 []),(aI 12,.fn 331 [])]],Ah a1] (fun r=>.tup [Aa r.1,aI r.2]):=⟨z0s⟩
instance zl4 {n a0 a1 a2 a3}:CI E0 (T8 n a0 a1 a2 a3) true 285 [Ah a0,zbx a1,aI a2,Ar a3] (fun r=>.tup [Aa r.1,aI r.2]):=⟨fun {r} hF=>by
 unfold T8 at hF
 refine cw Tryz.func285 ?_
 repeat' first
  |refine aS ?_;conv=>whnf
  |refine aT hF (fun hF=>?_) fun hF=>?_
  |refine aZ hF fun a hF=>?_
  |refine Ad.mk _ _ z59 ?_
  |refine AndA ?_
  |exact aC hF⟩
instance zjq {n a0 a1 a2 a3}:CI E0 (Q3 n a0 a1 a2 a3) true 243 [Ah a0,zbx a1,aI a2,Ar a3] (fun r=>.bool (r)):=by unfold Q3;exact aJ [2] Tryz.func243
instance ze9 {n a0}:CI E0 (Mo n a0) true 233 [Ah a0] (fun r=>.bool (r)):=⟨fun {r} hF=>by
 unfold Mo at hF
 refine cw Tryz.func233 ?_
 repeat' first
  |refine AW.jI hF (fun v hF=>?_) fun hF=>?_
  |refine aG hF fun hF=>?_
  |refine aD [1] ?_;conv=>whnf
  |refine aT hF (fun hF=>?_) fun hF=>?_
  |refine aY ?_
  |refine aW ?_
  |refine aZ hF fun a hF=>?_
  |refine Ad.S hF fun a hF=>?_
  |exact ⟨_,hF,aA []⟩
  |refine AndA ?_
  |refine aO ?_
  |exact aC hF⟩
instance z9l {n a0 a1}:CI E0 (Oo n a0 a1) true 234 [B0 a0,.ref (Bt a1)] (fun r=>.bool (r)):=by unfold Oo;exact aJ [1] Tryz.func234
instance z8k {n a0 b}:CI E0 (Rh n a0 b) true 235 [.sl 11 (a0.map B0),.fn 234 [.ref (Bt b)]] aI:=by unfold Rh;exact aJ [] bF
instance z6p {n a0 b}:CI E0 (O1 n a0 b) true 175 [.sl 11 (a0.map B0),.fn 234 [.ref (Bt b)]] (fun r=>.bool (r)):=by unfold O1;exact aJ [] bG
instance zat {n a0 a1}:CI E0 (Fu n a0 a1) true 174 [.agg [.sl 2 (a0.ftypes.map Ay),aI a0.fa.fVars,aI a0.fa.fScopes,.sl 1 (a0.fa.fStates.map Aj),.sl 17 (a0.fa.fEdges.map A7)],A7 a1] (fun r=>.bool (r)):=⟨fun {r} hF=>by
 unfold Fu at hF
 refine cw Tryz.func174 ?_
 repeat' first
  |refine AW.jI hF (fun v hF=>?_) fun hF=>?_
  |refine aG hF fun hF=>?_
  |refine aD [1] ?_;conv=>whnf
  |refine aT hF (fun hF=>?_) fun hF=>?_
  |refine aY ?_
  |refine aW ?_
  |refine aQ hF fun x hF=>?_
  |refine B3.I hF (fun a hF=>?_) rfl rfl fun _=>aM rfl
  |refine aZ hF fun a hF=>?_
  |exact ⟨_,hF,aA []⟩
  |refine Ap.I hF (aA []) fun m v hF=>?_
  |refine IdxX.oD hF De (fun x hF=>?_)
  |refine AndA ?_
  |refine aO ?_
  |exact aC hF⟩
instance z9k {n a0}:CI E0 (Vf n a0) true 106 [A7 a0] (fun r=>.bool (r)):=by unfold Vf;exact aJ [] Tryz.func106
instance za9 {n a0}:CI E0 (Vn n a0) false 105 [.agg [.sl 2 (a0.ftypes.map Ay),aI a0.fa.fVars,aI a0.fa.fScopes,.sl 1 (a0.fa.fStates.map Aj),.sl 17 (a0.fa.fEdges.map A7)],.fn 106 []] (fun r=>.sl 17 (r.map A7)):=⟨fun {r} hF=>by
 unfold Vn at hF
 refine cw aN ?_
 repeat' first
  |refine aG hF fun hF=>?_
  |refine aD [5] ?_;conv=>whnf
  |refine aT hF (fun hF=>?_) fun hF=>?_
  |refine aY ?_
  |refine aW ?_
  |refine aQ hF fun x hF=>?_
  |refine aZ hF fun a hF=>?_
  |refine aR hF fun l hF=>?_
  |exact ⟨_,hF,aA [(7027,27)]⟩
  |exact ⟨_,hF,aA []⟩
  |refine Ap.I hF ?_ fun m v hF=>?_
  |exact aB (aL 5 7027 149 17 rfl rfl) (aA [])
  |refine AndA ?_
  |refine aO ?_
  |exact aC hF⟩
instance zas {n a0}:CI E0 (Sd n a0) false 50 [.agg [.sl 2 (a0.ftypes.map Ay),aI a0.fa.fVars,aI a0.fa.fScopes,.sl 1 (a0.fa.fStates.map Aj),.sl 17 (a0.fa.fEdges.map A7)]] (fun r=>.mapv (List.map (encM aI AV.bool) (r))):=⟨fun {r} hF=>by
 unfold Sd at hF
 refine cw Tryz.func50 ?_
 repeat' first
  |refine aG hF fun hF=>?_
  |refine aD [9] ?_;conv=>whnf
  |refine aT hF (fun hF=>?_) fun hF=>?_
  |refine aY ?_
  |refine aW ?_
  |refine aZ hF fun a hF=>?_
  |refine UpX.o aI AV.bool hF (by first|rfl|kernel_rfl) Ck (by repeat' first|exact Sub.nil _|exact Sub.refl _|refine Sub.agg ?_|refine Sub.tup ?_|refine Sub.fn ?_|exact SubL.nil|refine SubL.cons ?_ ?_|refine Sub.sl _ ?_|exact SubE.nil|refine SubE.cons ?_ ?_) (fun l hF=>?_)
  |refine OpX.mde aI AV.bool hF Ck rfl rfl rfl rfl rfl rfl rfl rfl rfl (by first|rfl|kernel_rfl) rfl (fun l hF=>?_)
  |exact ⟨_,hF,aA []⟩
  |refine aQ hF fun x hF=>?_
  |refine LkX.o aI AV.bool hF (by first|rfl|kernel_rfl) Ck (by repeat' first|exact Sub.nil _|exact Sub.refl _|refine Sub.agg ?_|refine Sub.tup ?_|refine Sub.fn ?_|exact SubL.nil|refine SubL.cons ?_ ?_|refine Sub.sl _ ?_|exact SubE.nil|refine SubE.cons ?_ ?_) (fun v b hF=>?_)
  |refine Ap.I hF (aA []) fun m v hF=>?_
  |refine AndA ?_
  |refine aO ?_
  |exact aC hF⟩
instance z7i {n a0 a1}:CI E0 (V1 n a0 a1) true 176 [B0 a0,.ref [aI a1]] (fun r=>.bool (r)):=by unfold V1;exact aJ [] Tryz.func176
instance z8j {n a0 b}:CI E0 (V7 n a0 b) true 235 [.sl 11 (a0.map B0),.fn 176 [.ref [aI b]]] aI:=by unfold V7;exact aJ [] bF
end
noncomputable section
abbrev z02 {n a0 c}:=li (Kl n a0 c) (fun b=>⟨[(1,.fn 107 [.ptr 100000 0,.ptr 100001 0]),(2,.ptr 2 0),(5,.row 7027),(10,.sl 17 (a0.fa.fEdges.map A7)),(11,aI (((a0.fa.fEdges.map A7).length:Int))),(12,aI b.1)],[(100000,.box 111 [.sl 2 (b.2.1.map Ay),aI b.2.2.1,aI b.2.2.2.1,.sl 1 (b.2.2.2.2.1.map Aj),.sl 17 (b.2.2.2.2.2.1.map A7)]),(100001,.box 3 [aI b.2.2.2.2.2.2.1]),(2,.box 111 [.sl 2 (a0.ftypes.map Ay),aI a0.fa.fVars,aI a0.fa.fScopes,.sl 1 (a0.fa.fStates.map Aj),.sl 17 (a0.fa.fEdges.map A7)]),(7027,.row 149 17 (b.2.2.2.2.2.2.2.map A7))]⟩) fun _ _=>Kl.eq_2 ..
abbrev z19 {n b m0 a0 d}:=li (L0 n b m0 a0 d) (fun c=>⟨[(0,aI a0),(1,.ptr 100000 0),(2,.ptr 100001 0),(3,.ptr 100002 0),(4,.ptr 100003 0),(10,.sl 17 (m0.map A7)),(11,aI (((m0.map A7).length:Int))),(12,aI c.1)],[(100000,.box 24 [.sl 17 (c.2.1.map A7)]),(100001,.box 113 [.row 200001]),(100002,.box 3 [aI c.2.2.1]),(100003,.box 115 [.fn 109 [.ptr 100000 0,.ptr 100001 0,.ptr 100002 0,.ptr 100003 0]]),(200001,.mp (List.map (encM aI AV.bool) (c.2.2.2)))]⟩) fun _ _=>L0.eq_2 ..
abbrev z17 {n a1 a0 b f c d}:=li (R5 n a1 a0 b f c d) (fun e=>⟨[(2,.ptr 2 0),(5,.row 7045),(8,.ptr 8 0),(11,.sl 1 (a1.map aI)),(12,aI (((a1.map aI).length:Int))),(13,aI b.1),(27,.sl 2 (c.fFields.map Dh)),(28,aI (((c.fFields.map Dh).length:Int))),(29,aI e.1)],[(2,.box 111 [.sl 2 (a0.ftypes.map Ay),aI a0.fa.fVars,aI a0.fa.fScopes,.sl 1 (a0.fa.fStates.map Aj),.sl 17 (a0.fa.fEdges.map A7)]),(8,.box 37 [aI 0,aI b.1,aI f,aI b.1,.row 7039]),(7045,.row 37 5 (b.2.map Ar)),(7039,.row 144 3 (e.2.map Aa))]⟩) fun _ _=>R5.eq_2 ..
abbrev z18 {n a1 a0 b}:=li (R6 n a1 a0 b) (fun c=>⟨[(2,.ptr 2 0),(5,.row 7045),(11,.sl 1 (a1.map aI)),(12,aI (((a1.map aI).length:Int))),(13,aI c.1)],[(2,.box 111 [.sl 2 (a0.ftypes.map Ay),aI a0.fa.fVars,aI a0.fa.fScopes,.sl 1 (a0.fa.fStates.map Aj),.sl 17 (a0.fa.fEdges.map A7)]),(7045,.row 37 5 (c.2.map Ar))]⟩) fun _ _=>R6.eq_2 ..
abbrev z5k {n a1 a0 x3 b}:=li (Pi n a1 a0 x3 b) (fun c=>⟨[(6,.ptr 6 0),(11,.ptr 11 0),(12,.mapv (List.map (encM aI AV.bool) (x3))),(39,aI (((a1.fStates.map Aj).length:Int))),(40,aI c)],[(6,.box 39 [aI 0,aI 0,.nils,aI 0]),(11,.box 111 [.sl 2 (a0.map Ay),aI a1.fVars,aI a1.fScopes,.sl 1 (a1.fStates.map Aj),.sl 17 (a1.fEdges.map A7)])]⟩) fun _ _=>Pi.eq_2 ..
abbrev z5u {n a0 b}:=li (Pp n a0 b) (fun c=>⟨[(0,.sl 5 (a0.map Ar)),(3,.row 9),(10,.sl 5 (a0.map Ar)),(11,aI (((a0.map Ar).length:Int))),(12,aI c.1)],[(9,.mp (List.map (encM Jf AV.bool) (c.2)))]⟩) fun _ _=>Pp.eq_2 ..
attribute [instance] z02 z19 z17 z18 z5k z5u
instance z6o {n a0 b}:CI E0 (Uy n a0 b) true 175 [.sl 11 (a0.map B0),.fn 176 [.ref [aI b]]] (fun r=>.bool (r)):=by unfold Uy;exact aJ [] bG
instance z8m {n a0 a1 a2}:CI E0 (Og n a0 a1 a2) true 108 [.agg [.sl 2 (a0.ftypes.map Ay),aI a0.fa.fVars,aI a0.fa.fScopes,.sl 1 (a0.fa.fStates.map Aj),.sl 17 (a0.fa.fEdges.map A7)],aI a1,aI a2] (fun r=>.bool (r)):=⟨fun {r} hF=>by
 unfold Og at hF
 refine cw Tryz.func108 ?_
 repeat' first
  |refine aS ?_;conv=>whnf
  |refine aT hF (fun hF=>?_) fun hF=>?_
  |refine aY ?_
  |refine aW ?_
  |refine aQ hF fun x hF=>?_
  |refine B3.I hF (fun a hF=>?_) rfl rfl fun _=>aM rfl
  |refine AndA ?_
  |refine aO ?_
  |exact aC hF⟩
def z3y (a0:Ab)(m0:Av)(m1:Int):List (Nat×Ent):=[(100000,.box 111 [.sl 2 (m0.ftypes.map Ay),aI m0.fa.fVars,aI m0.fa.fScopes,.sl 1 (m0.fa.fStates.map Aj),.sl 17 (m0.fa.fEdges.map A7)]),(100001,.box 3 [aI m1])]
def Oi (r:Bool×Av×Int):List (Nat×Ent):=[(100000,.box 111 [.sl 2 (r.2.1.ftypes.map Ay),aI r.2.1.fa.fVars,aI r.2.1.fa.fScopes,.sl 1 (r.2.1.fa.fStates.map Aj),.sl 17 (r.2.1.fa.fEdges.map A7)]),(100001,.box 3 [aI r.2.2])]
def Rm (r:Bool×Av×Int):AV:=.bool (r.1)
def z3v (r:Bool×Av×Int):AS:=⟨[(4,.bool (r.1)),(1,.ptr 100000 0),(2,.ptr 100001 0)],Oi r⟩
theorem Yz {n a0 m0 m1 r}(hF:Ve n a0 m0 m1=some r):ConG E0.P none (CalF E0.P 107 0) [A7 a0,.ptr 100000 0,.ptr 100001 0] [] (z3y a0 m0 m1) (Rm r) (Oi r):=by
 unfold Ve at hF
 refine bB (E:=(E0p 3)) (caps:=[]) _ aU rfl rfl rfl rfl rfl ?_
 repeat' first
  |refine aS ?_;conv=>whnf
  |refine aT hF (fun hF=>?_) fun hF=>?_
  |refine aY ?_
  |refine aW ?_
  |refine aZ hF fun a hF=>?_
  |exact GX.A (res:=Rm) (meF:=Oi) hF z3v
  |refine AndA ?_
  |refine aO ?_
def z0y (a0:Av)(m0:Av)(m1:Int):List (Nat×Ent):=[(100000,.box 111 [.sl 2 (m0.ftypes.map Ay),aI m0.fa.fVars,aI m0.fa.fScopes,.sl 1 (m0.fa.fStates.map Aj),.sl 17 (m0.fa.fEdges.map A7)]),(100001,.box 3 [aI m1])]
def O0 (r:(List Ab)×Av×Int):List (Nat×Ent):=[(100000,.box 111 [.sl 2 (r.2.1.ftypes.map Ay),aI r.2.1.fa.fVars,aI r.2.1.fa.fScopes,.sl 1 (r.2.1.fa.fStates.map Aj),.sl 17 (r.2.1.fa.fEdges.map A7)]),(100001,.box 3 [aI r.2.2])]
def Qz (r:(List Ab)×Av×Int):AV:=.sl 17 (r.1.map A7)
def z0w (r:(List Ab)×Av×Int):AS:=⟨[(4,.sl 17 (r.1.map A7)),(1,.fn 107 [.ptr 100000 0,.ptr 100001 0])],O0 r⟩
theorem Yu {n a0 m0 m1 r}(hF:V0 n a0 m0 m1=some r):ConG E0.P none (CalF E0.P 105 0) [.agg [.sl 2 (a0.ftypes.map Ay),aI a0.fa.fVars,aI a0.fa.fScopes,.sl 1 (a0.fa.fStates.map Aj),.sl 17 (a0.fa.fEdges.map A7)],.fn 107 [.ptr 100000 0,.ptr 100001 0]] [] (z0y a0 m0 m1) (Qz r) (O0 r):=by
 unfold V0 at hF
 refine bB (E:=(E0p 2)) (caps:=[]) _ aN rfl rfl rfl rfl rfl ?_
 repeat' first
  |refine aG hF fun hF=>?_
  |refine AW.frzO hF 7027 rfl (fun hF=>?_)
  |refine aD [8] ?_;conv=>whnf
  |refine aT hF (fun hF=>?_) fun hF=>?_
  |refine aY ?_
  |refine aW ?_
  |refine GX.o (res:=Qz) (meF:=O0) hF ?_;exact GX.mk (z0w _) (aA []) rfl _ rfl (by repeat' first|exact Sub.nil _|exact Sub.refl _|refine Sub.agg ?_|refine Sub.tup ?_|refine Sub.fn ?_|exact SubL.nil|refine SubL.cons ?_ ?_|refine Sub.sl _ ?_|exact SubE.nil|refine SubE.cons ?_ ?_) [100000,100001] ⟨aM ⟨1,0,_,_,_,_,_,Nat.le_of_ble_eq_true rfl,rfl,rfl,rfl,rfl,rfl⟩,⟨aM ⟨1,1,_,_,_,_,_,Nat.le_of_ble_eq_true rfl,rfl,rfl,rfl,rfl,rfl⟩,trivial⟩⟩ rfl
  |refine aQ hF fun x hF=>?_
  |refine aZ hF fun a hF=>?_
  |refine B3.oM (Bb 22 hF) [(100000,100000),(100001,100001)] [(100000,100000),(100001,100001)] _ _ Oi Rm [] (fun a h=>aH (Yz h)) (B1 aU rfl rfl) rfl rfl rfl ⟨⟨rfl,rfl⟩,⟨⟨rfl,rfl⟩,trivial⟩⟩ (fun a=>⟨rfl,rfl,rfl,rfl,rfl,rfl,rfl,rfl⟩) (fun a hF=>?_)
  |refine bJ (Bb 22 hF) [(100000,100000),(100001,100001)] [(100000,100000),(100001,100001)] _ _ Oi Rm [] (fun a h=>aH (Yz h)) (B1 aU rfl rfl) rfl rfl rfl ⟨⟨rfl,rfl⟩,⟨⟨rfl,rfl⟩,trivial⟩⟩ (fun a=>⟨rfl,rfl,rfl,rfl,rfl,rfl,rfl,rfl⟩) (fun a hF=>?_)
  |refine aR hF fun l hF=>?_
  |exact ⟨_,hF,aA [(7027,27)]⟩
  |exact ⟨_,hF,aA []⟩
  |refine Ap.I hF ?_ fun m v hF=>?_
  |exact aB (aL 5 7027 149 17 rfl rfl) (aA [])
  |refine AndA ?_
  |refine aO ?_
def z3x (a0:Int)(m0:(List Ab))(m1:(List (Int×Bool)))(m2:Int):List (Nat×Ent):=[(100000,.box 24 [.sl 17 (m0.map A7)]),(100001,.box 113 [.row 200001]),(200001,.mp (List.map (encM aI AV.bool) (m1))),(100002,.box 3 [aI m2]),(100003,.box 115 [.fn 109 [.ptr 100000 0,.ptr 100001 0,.ptr 100002 0,.ptr 100003 0]])]
def Fl (r:(List Int)×(List Ab)×(List (Int×Bool))×Int):List (Nat×Ent):=[(100000,.box 24 [.sl 17 (r.2.1.map A7)]),(100001,.box 113 [.row 250001]),(250001,.mp (List.map (encM aI AV.bool) (r.2.2.1))),(100002,.box 3 [aI r.2.2.2]),(100003,.box 115 [.fn 109 [.ptr 100000 0,.ptr 100001 0,.ptr 100002 0,.ptr 100003 0]])]
def Gz (r:(List Int)×(List Ab)×(List (Int×Bool))×Int):AV:=nlA 1 (r.1.map aI)
def Vb (r:(List Int)×(List Ab)×(List (Int×Bool))×Int):AS:=⟨[(6,nlA 1 (r.1.map aI)),(1,.ptr 100000 0),(2,.ptr 100001 0),(3,.ptr 100002 0),(4,.ptr 100003 0)],Fl r⟩
theorem Yy {n a0 m0 m1 m2 r}(hF:Rq n a0 m0 m1 m2=some r):ConG E0.P none (CalF E0.P 109 0) [aI a0,.ptr 100000 0,.ptr 100001 0,.ptr 100002 0,.ptr 100003 0] [] (z3x a0 m0 m1 m2) (Gz r) (Fl r):=by
 induction n generalizing a0 m0 m1 m2 r
 case zero=>cases hF
 case succ n ih =>
 unfold Rq at hF
 refine bB (E:=(E0q 5)) (caps:=[]) _ aK rfl rfl rfl rfl rfl ?_
 repeat' first
  |refine aG hF fun hF=>?_
  |refine aD [10] ?_;conv=>whnf
  |refine aT hF (fun hF=>?_) fun hF=>?_
  |refine aY ?_
  |refine aW ?_
  |exact GX.A (res:=Gz) (meF:=Fl) hF Vb (h1:=aA [(250001,200001)])
  |refine aQ hF fun x hF=>?_
  |exact ⟨_,hF,aA []⟩
  |refine LkX.o aI AV.bool hF (by first|rfl|kernel_rfl) Ck (by repeat' first|exact Sub.nil _|exact Sub.refl _|refine Sub.agg ?_|refine Sub.tup ?_|refine Sub.fn ?_|exact SubL.nil|refine SubL.cons ?_ ?_|refine Sub.sl _ ?_|exact SubE.nil|refine SubE.cons ?_ ?_) (fun v b hF=>?_)
  |refine OpX.bldR aI hF rfl rfl rfl rfl rfl rfl rfl rfl rfl rfl rfl rfl rfl rfl rfl rfl (by first|exact SubR.refl _|(repeat' first|exact SubR.nil|refine SubR.cons ?_ ?_|exact SubL.nil|refine SubL.cons ?_ ?_|exact Sub.refl _|exact Sub.nil _)) rfl (fun l hF=>?_)
  |refine OpX.bld aI hF rfl rfl rfl rfl rfl rfl rfl rfl rfl rfl rfl rfl rfl rfl rfl rfl (fun l hF=>?_)
  |refine GX.o (res:=Gz) (meF:=Fl) hF ?_;exact GX.mk (Vb _) (aB (LeX.frzAll 32 3 1 _ rfl) (aA [(250001,200001)])) rfl _ rfl (by repeat' first|exact Sub.nil _|exact Sub.refl _|refine Sub.agg ?_|refine Sub.tup ?_|refine Sub.fn ?_|exact SubL.nil|refine SubL.cons ?_ ?_|refine Sub.sl _ ?_|exact SubE.nil|refine SubE.cons ?_ ?_) [] trivial rfl
  |refine zpp hF (fun a t e hF=>?_);subst e
  |refine UpX.o aI AV.bool hF (by first|rfl|kernel_rfl) Ck (by repeat' first|exact Sub.nil _|exact Sub.refl _|refine Sub.agg ?_|refine Sub.tup ?_|refine Sub.fn ?_|exact SubL.nil|refine SubL.cons ?_ ?_|refine Sub.sl _ ?_|exact SubE.nil|refine SubE.cons ?_ ?_) (fun l hF=>?_)
  |refine B3.oM (Bb 39 hF) [(100000,100000),(100001,100001),(100002,100002),(100003,100003),(200001,200001)] [(100000,100000),(100001,100001),(250001,40000002),(100002,100002),(100003,100003)] _ _ Fl Gz [200001] (fun a h=>aH (ih h)) (B1 aK rfl rfl) rfl rfl rfl ⟨⟨rfl,rfl⟩,⟨⟨rfl,rfl⟩,⟨⟨rfl,rfl⟩,⟨⟨rfl,rfl⟩,⟨⟨rfl,rfl⟩,trivial⟩⟩⟩⟩⟩ (fun a=>⟨rfl,rfl,rfl,rfl,rfl,rfl,rfl,U9 _ _ _⟩) (fun a hF=>?_);rcases a with ⟨_|⟨y,ys⟩,a⟩<;>(try simp only [aX,aV,List.isEmpty_nil,List.isEmpty_cons,aF,aE,Af,Ag,Qp] at hF)
  |refine bJ (Bb 39 hF) [(100000,100000),(100001,100001),(100002,100002),(100003,100003),(200001,200001)] [(100000,100000),(100001,100001),(250001,40000002),(100002,100002),(100003,100003)] _ _ Fl Gz [200001] (fun a h=>aH (ih h)) (B1 aK rfl rfl) rfl rfl rfl ⟨⟨rfl,rfl⟩,⟨⟨rfl,rfl⟩,⟨⟨rfl,rfl⟩,⟨⟨rfl,rfl⟩,⟨⟨rfl,rfl⟩,trivial⟩⟩⟩⟩⟩ (fun a=>⟨rfl,rfl,rfl,rfl,rfl,rfl,rfl,U9 _ _ _⟩) (fun a hF=>?_);rcases a with ⟨_|⟨y,ys⟩,a⟩<;>(try simp only [aX,aV,List.isEmpty_nil,List.isEmpty_cons,aF,aE,Af,Ag,Qp] at hF)
  |refine OpX.nlq (sz:=1) (l:=[]) (by first|exact bE rfl|exact aM rfl) rfl rfl rfl rfl rfl rfl rfl rfl ?_
  |refine OpX.nlq (sz:=1) (l:=_::_) (by first|exact bE rfl|exact aM rfl) rfl rfl rfl rfl rfl rfl rfl rfl ?_
  |refine aR hF fun l hF=>?_
  |refine GX.o (res:=Gz) (meF:=Fl) hF ?_;exact GX.mk (Vb _) (aB (LeX.frzAll 46 3 1 _ rfl) (aA [(250001,40000002)])) rfl _ rfl (by repeat' first|exact Sub.nil _|exact Sub.refl _|refine Sub.agg ?_|refine Sub.tup ?_|refine Sub.fn ?_|exact SubL.nil|refine SubL.cons ?_ ?_|refine Sub.sl _ ?_|exact SubE.nil|refine SubE.cons ?_ ?_) [] trivial rfl
  |exact ⟨_,hF,aA [(200001,40000002)]⟩
  |refine Ap.I hF (aA []) fun m v hF=>?_
  |refine AndA ?_
  |refine aO ?_
instance zar {n a0 a1}:CI E0 (Sc n a0 a1) false 51 [.agg [.sl 2 (a0.ftypes.map Ay),aI a0.fa.fVars,aI a0.fa.fScopes,.sl 1 (a0.fa.fStates.map Aj),.sl 17 (a0.fa.fEdges.map A7)],aI a1] (fun r=>nlA 1 (r.map aI)):=⟨fun {r} hF=>by
 unfold Sc at hF
 refine cw Tryz.func51 ?_
 repeat' first
  |refine aS ?_;conv=>whnf
  |refine aT hF (fun hF=>?_) fun hF=>?_
  |refine aY ?_
  |refine aW ?_
  |refine B3.oM (Bb 10 hF) [(100000,2),(100001,3)] [(100000,2),(100001,3)] _ _ O0 Qz [] (fun a h=>aH (Yu h)) (B1 aN rfl rfl) rfl rfl rfl ⟨⟨rfl,rfl⟩,⟨⟨rfl,rfl⟩,trivial⟩⟩ (fun a=>⟨rfl,rfl,rfl,rfl,rfl,rfl,rfl,rfl⟩) (fun a hF=>?_)
  |refine bJ (Bb 10 hF) [(100000,2),(100001,3)] [(100000,2),(100001,3)] _ _ O0 Qz [] (fun a h=>aH (Yu h)) (B1 aN rfl rfl) rfl rfl rfl ⟨⟨rfl,rfl⟩,⟨⟨rfl,rfl⟩,trivial⟩⟩ (fun a=>⟨rfl,rfl,rfl,rfl,rfl,rfl,rfl,rfl⟩) (fun a hF=>?_)
  |refine B3.oM (Bb 14 hF) [(100000,5),(100001,6),(100002,3),(100003,7),(200001,11)] [(100000,5),(100001,6),(250001,15000002),(100002,3),(100003,7)] _ _ Fl Gz [11] (fun a h=>aH (Yy h)) (B1 aK rfl rfl) rfl rfl rfl ⟨⟨rfl,rfl⟩,⟨⟨rfl,rfl⟩,⟨⟨rfl,rfl⟩,⟨⟨rfl,rfl⟩,⟨⟨rfl,rfl⟩,trivial⟩⟩⟩⟩⟩ (fun a=>⟨rfl,rfl,rfl,rfl,rfl,rfl,rfl,U9 _ _ _⟩) (fun a hF=>?_);rcases a with ⟨_|⟨y,ys⟩,a⟩<;>(try simp only [aX,aV,List.isEmpty_nil,List.isEmpty_cons,aF,aE,Af,Ag,Qp] at hF)
  |refine bJ (Bb 14 hF) [(100000,5),(100001,6),(100002,3),(100003,7),(200001,11)] [(100000,5),(100001,6),(250001,15000002),(100002,3),(100003,7)] _ _ Fl Gz [11] (fun a h=>aH (Yy h)) (B1 aK rfl rfl) rfl rfl rfl ⟨⟨rfl,rfl⟩,⟨⟨rfl,rfl⟩,⟨⟨rfl,rfl⟩,⟨⟨rfl,rfl⟩,⟨⟨rfl,rfl⟩,trivial⟩⟩⟩⟩⟩ (fun a=>⟨rfl,rfl,rfl,rfl,rfl,rfl,rfl,U9 _ _ _⟩) (fun a hF=>?_);rcases a with ⟨_|⟨y,ys⟩,a⟩<;>(try simp only [aX,aV,List.isEmpty_nil,List.isEmpty_cons,aF,aE,Af,Ag,Qp] at hF)
  |refine AndA ?_
  |refine aO ?_
  |exact aC hF⟩
instance z9j {n a0 a1}:CI E0 (Vd n a0 a1) false 52 [.agg [.sl 2 (a0.ftypes.map Ay),aI a0.fa.fVars,aI a0.fa.fScopes,.sl 1 (a0.fa.fStates.map Aj),.sl 17 (a0.fa.fEdges.map A7)],.sl 1 (a1.map aI)] (fun r=>.sl 5 (r.map Ar)):=⟨fun {r} hF=>by
 unfold Vd at hF
 refine cw Tryz.func52 ?_
 repeat' first
  |refine aG hF fun hF=>?_
  |refine AW.frzO hF 7039 rfl (fun hF=>?_)
  |refine aD [11] ?_;conv=>whnf
  |refine aT hF (fun hF=>?_) fun hF=>?_
  |refine aY ?_
  |refine aW ?_
  |refine aQ hF fun x hF=>?_
  |refine aR hF fun l hF=>?_
  |exact ⟨_,hF,aA [(7045,45)]⟩
  |exact ⟨_,hF,aA [(7039,39)]⟩
  |refine Ap.I hF ?_ fun m v hF=>?_
  |exact aB (LeX.adoptC 8 4 7039 144 3 37 _ rfl rfl rfl) (aA [])
  |exact aB (aL 5 7045 37 5 rfl rfl) (aA [])
  |refine AndA ?_
  |refine aO ?_
  |exact aC hF⟩
instance zgy {n a0 a1 a2}:CI E0 (My n a0 a1 a2) false 14 [.sl 2 (a0.map Ay),B4 a1,aI a2] (fun r=>.tup [.agg [aI r.1.fVerdict,aI r.1.fBound,.sl 5 (r.1.fPrefix.map Ar),aI r.1.fPeriod],aI r.2]):=⟨fun {r} hF=>by
 unfold My at hF
 refine cw Tryz.func14 ?_
 repeat' first
  |refine aG hF fun hF=>?_
  |refine aD [15] ?_;conv=>whnf
  |refine aT hF (fun hF=>?_) fun hF=>?_
  |refine aY ?_
  |refine aW ?_
  |refine aZ (o:=Sc _ _ _) hF fun a hF=>?_;rcases a with _|⟨y,ys⟩<;>(try simp only [aX,aV,List.isEmpty_nil,List.isEmpty_cons,aF,aE,Af,Ag,Qp] at hF)
  |refine aZ hF fun a hF=>?_
  |refine OpX.lkv aI AV.bool hF Ck rfl rfl rfl rfl rfl rfl rfl rfl rfl rfl (by first|rfl|kernel_rfl) (by repeat' first|exact Sub.nil _|exact Sub.refl _|refine Sub.agg ?_|refine Sub.tup ?_|refine Sub.fn ?_|exact SubL.nil|refine SubL.cons ?_ ?_|refine Sub.sl _ ?_|exact SubE.nil|refine SubE.cons ?_ ?_) (fun v b hF=>?_)
  |exact ⟨_,hF,aA []⟩
  |refine OpX.nlq (sz:=1) (l:=[]) (by first|exact bE rfl|exact aM rfl) rfl rfl rfl rfl rfl rfl rfl rfl ?_
  |refine OpX.nlq (sz:=1) (l:=_::_) (by first|exact bE rfl|exact aM rfl) rfl rfl rfl rfl rfl rfl rfl rfl ?_
  |refine Ap.I hF (aA []) fun m v hF=>?_
  |refine AndA ?_
  |refine aO ?_
  |exact aC hF⟩
instance zgt {n a0}:CI E0 (Vr n a0) true 192 [Ar a0] (fun r=>.bool (r)):=by unfold Vr;exact aJ [] Tryz.func192
instance zl5 {n a0}:CI E0 (T9 n a0) true 242 [Ar a0] zj6:=by unfold T9;exact aJ [] Tryz.func242
instance zh1 {n a0 a1}:CI E0 (Vv n a0 a1) true 193 [Ar a0,Ar a1] aI:=by unfold Vv;exact aJ [] Tryz.func193
instance zky {n a0}:CI E0 (N4 n a0) true 194 [Ar a0] Jf:=by unfold N4;exact aJ [] Tryz.func194
theorem zj3 (a b:Jg):eqK (Jf a) (Jf b)=some (decide (a=b)):=by cases a;cases b;simp [Jf,eqK,eqL,eq1,aI,Jy]
end
noncomputable section
instance zh9 {n a0}:CI E0 (Vx n a0) true 121 [.sl 5 (a0.map Ar)] aI:=⟨fun {r} hF=>by
 unfold Vx at hF
 refine cw Tryz.func121 ?_
 repeat' first
  |refine aS ?_;conv=>whnf
  |refine aT hF (fun hF=>?_) fun hF=>?_
  |refine aW ?_
  |refine aQ hF fun x hF=>?_
  |refine aZ hF fun a hF=>?_
  |refine LkX.o Jf AV.bool hF (by first|rfl|kernel_rfl) zj3 (by repeat' first|exact Sub.nil _|exact Sub.refl _|refine Sub.agg ?_|refine Sub.tup ?_|refine Sub.fn ?_|exact SubL.nil|refine SubL.cons ?_ ?_|refine Sub.sl _ ?_|exact SubE.nil|refine SubE.cons ?_ ?_) (fun v b hF=>?_)
  |refine UpX.o Jf AV.bool hF (by first|rfl|kernel_rfl) zj3 (by repeat' first|exact Sub.nil _|exact Sub.refl _|refine Sub.agg ?_|refine Sub.tup ?_|refine Sub.fn ?_|exact SubL.nil|refine SubL.cons ?_ ?_|refine Sub.sl _ ?_|exact SubE.nil|refine SubE.cons ?_ ?_) (fun l hF=>?_)
  |exact ⟨_,hF,aA []⟩
  |refine Ap.I hF (aA []) fun m v hF=>?_
  |refine AndA ?_
  |exact aC hF⟩
end
noncomputable section
end
end Go.Proofs.YthbogefcfhmpgaaGreat
